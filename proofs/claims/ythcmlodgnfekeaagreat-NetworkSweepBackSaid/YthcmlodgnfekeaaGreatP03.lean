/- What functions of the program compute, proved by walks over their code, and the plain mathematics of it; a part of the proof in the last text. -/
import Derived.Test.YthcmlodgnfekeaaGreatP02
set_option linter.unusedVariables false
set_option linter.unusedSimpArgs false
set_option maxRecDepth 100000
set_option maxHeartbeats 4000000
namespace Go.Proofs.YthcmlodgnfekeaaGreat
section
open Go Go.RowKit
theorem a1a {m n:Nat} (hm:(dg m).length ≤ 17592186044416) (hn:(dg n).length ≤ 17592186044416):aT Tryz.prog 198 [aM m,aM n] (aM (m + n)):=by
 refine aT.intro Tryz.func198 rfl Tryz.ntmps198 rfl (fun cx=>(ts (ro rfl (cQ cV) (eX (cK (oB (fun (p:Nat) (q:Nat)=>p + q = m + n ∧ (dg q).length ≤ (dg p).length ∧ (dg p).length ≤ 17592186044416) (fun (p:Nat) (q:Nat)=>[(0,aM p),(1,aM q)]) (fun (p:Nat) (q:Nat)=>[]) ?_ (fun p q ⟨hpq,hle,hlp⟩=>?_)))))))
 ·refine ts (rm rfl (ro rfl (dG U_28 (Ht rfl) aA) (rm rfl (ro rfl (dG U_28 (Ht rfl) aA) (ro rfl (gZ (Ht rfl) (Ht rfl)) (eX (dQ (Ht rfl) (fun hb => ?_) (fun hb => ?_))))))))
  ·simp at hb
   refine cY (rm rfl (rm rfl (ra rfl (ra rfl (eX (aO (n,m) ⟨Nat.add_comm _ _,Nat.le_of_lt hb,hn⟩ (zS rfl) aY))))))
  ·simp at hb
   refine cU (aO (m,n) ⟨rfl,hb,hm⟩ (zS rfl) aY)
 ·refine ts (rm rfl (ro rfl (dG U_28 (Ht rfl) aA) (ro rfl (dV (Ht rfl) (cJ 1) z6) (rn rfl (gB (T := bL 0) (i := Tryz.t24) V_28 jH rfl rfl (Ht rfl) rfl (fun _ => rfl) trivial (by show 4 * _ ≤ _; omega) zo) fun B19 => (ra rfl (eX (ts (ro rfl (cQ (cJ 0)) (eX (cK (ts (rm rfl (ro rfl (dG U_28 (Ht rfl) aA) (ro rfl (cX (cJ 0)) (eX (eG ?_))))))))))))))))
  refine jV (fun (k : Nat) (out : List Nat) (c : Nat) => zW (dg p) (dg q) out k c) (fun (k : Nat) (out : List Nat) (c : Nat) => (dg p).length - k) (fun (k : Nat) (out : List Nat) (c : Nat) => [(0, aM p), (1, aM q), (5, Is (.slice (some ⟨B19, 0, none⟩) ((dg p).length + 1) ((dg p).length + 1))), (6, bL c), (21, NT .i64 (dg p).length), (22, NT .i64 k)]) (fun (k : Nat) (out : List Nat) (c : Nat) => [box B19 24 (out.map bL)]) 0 (List.replicate ((dg p).length + 1) 0) 0 (zW.start _ _)
   (zS rfl) (aU (aR (kU _)) aY) (fun k out c hS=>?_)
  refine ts (ro rfl (gZ (Ht rfl) (Ht rfl)) (eX (cK (dQ (Ht rfl) (fun hb=>?_) (fun hb=>?_)))))
  ·simp at hb
   have hlen:=hS.len; have hcl:=hS.cle; have hxk:=aS (bC p) k; have hyk:=aS (bC q) k
   simp only [BB] at hxk hyk
   refine cU (cK (eG (ts (rm rfl (ra rfl (eX (ts (ro rfl (cQ (cJ 0)) (eX (cK (iA (fun (uu:Unit)=>True) (fun (uu:Unit)=>[(0,aM p),(1,aM q),(5,Is (.slice (some ⟨B19,0,none⟩) ((dg p).length + 1) ((dg p).length + 1))),(6,bL c),(7,NT .i64 k),(8,bL ((dg q).getD k 0)),(21,NT .i64 (dg p).length),(22,NT .i64 k)]) (fun (uu:Unit)=>[box B19 24 (out.map bL)]) ?_ (fun uu _=>?_))))))))))))
   ·refine ts (rm rfl (rm rfl (ro rfl (dG U_28 (Ht rfl) aA) (ro rfl (gZ (Ht rfl) (Ht rfl)) (eX (dQ (Ht rfl) (fun hk2 => ?_) (fun hk2 => ?_)))))))
    ·simp at hk2
     refine cY (rm rfl (rm rfl (ro rfl (dZ U_28 Z_24 (Ht rfl) (Ht rfl) rfl (dY (aF zo))) (ro rfl (dJ A_24 Z_24 (Ht rfl)) (ra rfl (eX (aO () trivial (zS rfl) (cA.refl _))))))))
    ·simp at hk2
     refine cU (aO () trivial (aQ rfl (aQ rfl (aQ rfl (aQ rfl (aQ rfl (aZ rfl (kJ (by simp [List.getD,List.getElem?_eq_none hk2])) (zS rfl))))))) (cA.refl _))
   ·refine cY (rm rfl (rm rfl (rm rfl (rm rfl (ro rfl (dZ U_28 Z_24 (Ht rfl) (Ht rfl) rfl (dY (aF zo))) (ro rfl (dJ A_24 Z_24 (Ht rfl)) (rm rfl (rm rfl (ro rfl (cZ Tryz.call248 (Tb hxk hyk zo) ⟨(Ht rfl), (Ht rfl), (Ht rfl), trivial⟩) (rm rfl (ro rfl (dK (Ht rfl) rfl) (ro rfl (dK (Ht rfl) rfl) (ro rfl (gQ U_28 Z_24 (Ht rfl) (Ht rfl) rfl zo (by rw [Nat.mul_one, Nat.zero_add])) ?_)))))))))))))
    refine iD Z_24 (Ht rfl) (Ht rfl) (i:=0) rfl (by first | omega | (simp; omega)) rfl (ra rfl (eX (T_blk (cY (ro rfl (dV (Ht rfl) (cJ 1) z6) (rm rfl (eX (fY (k + 1,_,_) (hS.next (bC p) (bC q) hb) (by dsimp only; omega) (zS rfl) (aU (aR (fM _ _ _)) aY)))))))))
  ·simp at hb
   have hkl:k = (dg p).length:=Nat.le_antisymm hS.kle hb
   subst hkl
   have hlen:=hS.len; have hcl:=hS.cle
   refine gW rfl (ts (rm rfl (rm rfl (ro rfl (dG U_28 (Ht rfl) aA) (rm rfl (ro rfl (gQ U_28 Z_24 (Ht rfl) (Ht rfl) rfl zo (by rw [Nat.mul_one,Nat.zero_add])) ?_))))))
   refine iD Z_24 (Ht rfl) (Ht rfl) (i:=0) rfl (by first | omega | (simp; omega)) rfl (eX (cK ?_))
   have hfin:=hS.fin hle
   refine gV (i:=0) (tt:=5) rfl rfl (kZ (fM _ _ _) (by simp [hlen]) (Nat.le_refl _)) ?_
   refine cY (rm rfl (ro rfl (cZ K_203 (oE _ (iX hS.dig (by simp only [BB]; omega)) (by simp [hlen]; omega)) ⟨(Ht rfl),trivial⟩) ?_))
   refine ra rfl (eX (fW rfl (fX (eU rfl) ?_)))
   exact (cB (by rw [hfin,cF,cF]; exact hpq))
theorem Xo {m n:Nat} (hm:(dg m).length ≤ 17592186044416) (hnm:n ≤ m):aT Tryz.prog 199 [aM m,aM n] (aM (m - n)):=by
 have hle:=gL hnm
 refine aT.intro Tryz.func199 rfl Tryz.ntmps199 rfl (fun cx=>(ts (ro rfl (cQ cV) (eX (ts (rm rfl (ro rfl (dG U_28 (Ht rfl) aA) (rn rfl (gB (T:=bL 0) (i:=Tryz.t24) V_28 jH rfl rfl (Ht rfl) rfl (fun _=>rfl) trivial (by show 4 * _ ≤ _; omega) zo) fun B11=>(ra rfl (eX (ts (ro rfl (cQ (cJ 0)) (eX (cK (ts (rm rfl (ro rfl (dG U_28 (Ht rfl) aA) (ro rfl (cX (cJ 0)) (eX (eG ?_))))))))))))))))))))
 refine jV (fun (k : Nat) (out : List Nat) (c : Nat) => zZ (dg m) (dg n) out k c) (fun (k : Nat) (out : List Nat) (c : Nat) => (dg m).length - k) (fun (k : Nat) (out : List Nat) (c : Nat) => [(0, aM m), (1, aM n), (5, Is (.slice (some ⟨B11, 0, none⟩) (dg m).length (dg m).length)), (6, bL c), (13, NT .i64 (dg m).length), (14, NT .i64 k)]) (fun (k : Nat) (out : List Nat) (c : Nat) => [box B11 24 (out.map bL)]) 0 (List.replicate (dg m).length 0) 0 (zZ.start _ _)
  (zS rfl) (aU (aR (kU _)) aY) (fun k out c hS=>?_)
 refine ts (ro rfl (gZ (Ht rfl) (Ht rfl)) (eX (cK (dQ (Ht rfl) (fun hb=>?_) (fun hb=>?_)))))
 ·simp at hb
  have hlen:=hS.len; have hcl:=hS.cle; have hxk:=aS (bC m) k; have hyk:=aS (bC n) k
  simp only [BB] at hxk hyk
  refine cU (cK (eG (ts (rm rfl (ra rfl (eX (ts (ro rfl (cQ (cJ 0)) (eX (cK (iA (fun (uu:Unit)=>True) (fun (uu:Unit)=>[(0,aM m),(1,aM n),(5,Is (.slice (some ⟨B11,0,none⟩) (dg m).length (dg m).length)),(6,bL c),(7,NT .i64 k),(8,bL ((dg n).getD k 0)),(13,NT .i64 (dg m).length),(14,NT .i64 k)]) (fun (uu:Unit)=>[box B11 24 (out.map bL)]) ?_ (fun uu _=>?_))))))))))))
  ·refine ts (rm rfl (rm rfl (ro rfl (dG U_28 (Ht rfl) aA) (ro rfl (gZ (Ht rfl) (Ht rfl)) (eX (dQ (Ht rfl) (fun hk2 => ?_) (fun hk2 => ?_)))))))
   ·simp at hk2
    refine cY (rm rfl (rm rfl (ro rfl (dZ U_28 Z_24 (Ht rfl) (Ht rfl) rfl (dY (aF zo))) (ro rfl (dJ A_24 Z_24 (Ht rfl)) (ra rfl (eX (aO () trivial (zS rfl) (cA.refl _))))))))
   ·simp at hk2
    refine cU (aO () trivial (aQ rfl (aQ rfl (aQ rfl (aQ rfl (aQ rfl (aZ rfl (kJ (by simp [List.getD,List.getElem?_eq_none hk2])) (zS rfl))))))) (cA.refl _))
  ·refine cY (rm rfl (rm rfl (rm rfl (rm rfl (ro rfl (dZ U_28 Z_24 (Ht rfl) (Ht rfl) rfl (dY (aF zo))) (ro rfl (dJ A_24 Z_24 (Ht rfl)) (rm rfl (rm rfl (ro rfl (cZ Tryz.call249 (Tn hxk hyk zo) ⟨(Ht rfl), (Ht rfl), (Ht rfl), trivial⟩) (rm rfl (ro rfl (dK (Ht rfl) rfl) (ro rfl (dK (Ht rfl) rfl) (ro rfl (gQ U_28 Z_24 (Ht rfl) (Ht rfl) rfl zo (by rw [Nat.mul_one, Nat.zero_add])) ?_)))))))))))))
   refine iD Z_24 (Ht rfl) (Ht rfl) (i:=0) rfl (by first | omega | (simp; omega)) rfl (ra rfl (eX (T_blk (cY (ro rfl (dV (Ht rfl) (cJ 1) z6) (rm rfl (eX (fY (k + 1,_,_) (hS.next (bC m) (bC n) hb) (by dsimp only; omega) (zS rfl) (aU (aR (fM _ _ _)) aY)))))))))
 ·simp at hb
  have hkl:k = (dg m).length:=Nat.le_antisymm hS.kle hb
  subst hkl
  have hlen:=hS.len
  have hfin:=hS.fin (bC m) hle (by rw [cF,cF]; exact hnm)
  rw [cF,cF] at hfin
  refine gW rfl (gV (i:=0) (tt:=5) rfl rfl (kZ rfl hlen.symm (Nat.le_refl _)) (ts (rm rfl (ro rfl (cZ K_203 (oE _ hS.dig zo) ⟨(Ht rfl),trivial⟩) (ra rfl (eX (fW rfl (fX (eU rfl) ?_))))))))
  exact (cB hfin)
theorem Co {m n:Nat} (hm:(dg m).length ≤ 17592186044416) (hn:(dg n).length ≤ 17592186044416):aT Tryz.prog 110 [aM m,aM n] (aM (m * n)):=by
 refine aT.intro Tryz.func110 rfl Tryz.ntmps110 rfl (fun cx=>(ts (ro rfl (cQ cV) (eX (cK (ts (rm rfl (ro rfl (dG U_28 (Ht rfl) aA) (ro rfl (cD (Ht rfl) (cJ 0)) (rm rfl (fQ rfl rfl (eK rfl rfl (Ht rfl) (fun h=>cX (Ht rfl))) (fQ rfl rfl (eK rfl rfl (Ht rfl) (fun h=>dG U_28 (fJ rfl h) aA)) (fQ rfl rfl (eK rfl rfl (Ht rfl) (fun h=>cD (fJ rfl h) (cJ 0))) (ro rfl (iF (Ht rfl) (fun h=>(fJ rfl h))) (eX (dQ (Ht rfl) (fun hb=>?_) (fun hb=>?_)))))))))))))))))
 ·simp [aH] at hb
  have h0 : m * n = 0 := by
   rcases hb with h | h <;> simp_all [nU]
  refine ts (ro rfl (cQ cV) (eX (fW rfl (fX (eU rfl) ?_))))
  exact (fun v V h=>by rw [h0]; exact gU v V h)
 ·clear hb
  refine cU (ts (rm rfl (ro rfl (dG U_28 (Ht rfl) aA) (rm rfl (ro rfl (dG U_28 (Ht rfl) aA) (ro rfl (dV (Ht rfl) (Ht rfl) z6) (rn rfl (gB (T:=bL 0) (i:=Tryz.t24) V_28 jH rfl rfl (Ht rfl) rfl (fun _=>rfl) trivial (by show 4 * _ ≤ _; omega) zo) fun B24=>(ra rfl (eX (cK (ts (rm rfl (ro rfl (dG U_28 (Ht rfl) aA) (ro rfl (cX (cJ 0)) (eX (eG ?_))))))))))))))))
  refine gC (fun (i : Nat) (out : List Nat) => zX (dg m) (dg n) out i) (fun (i : Nat) (out : List Nat) => (dg m).length - i) (fun (i : Nat) (out : List Nat) => [(0, aM m), (1, aM n), (5, Is (.slice (some ⟨B24, 0, none⟩) ((dg m).length + (dg n).length) ((dg m).length + (dg n).length))), (25, aM m), (26, NT .i64 (dg m).length), (27, NT .i64 i)]) (fun (i : Nat) (out : List Nat) => [box B24 24 (out.map bL)]) 0 (List.replicate ((dg m).length + (dg n).length) 0) (zX.start _ _)
   (zS rfl) (aU (aR (kU _)) aY) (fun i out hS=>?_)
  refine ts (ro rfl (gZ (Ht rfl) (Ht rfl)) (eX (cK (dQ (Ht rfl) (fun hb=>?_) (fun hb=>?_)))))
  ·simp at hb
   have hxi:=aS (bC m) i
   simp only [BB] at hxi
   refine cU (cK (eG (ts (rm rfl (ro rfl (dZ U_28 Z_24 (Ht rfl) (Ht rfl) rfl (dY (aF zo))) (ro rfl (dJ A_24 Z_24 (Ht rfl)) (ra rfl (ra rfl (eX (ts (ro rfl (cQ (cJ 0)) (eX (cK (ts (rm rfl (ro rfl (dG U_28 (Ht rfl) aA) (ro rfl (cX (cJ 0)) (eX (eG ?_)))))))))))))))))))
   refine jV (fun (k : Nat) (out2 : List Nat) (c : Nat) => Fh (dg m) (dg n) out2 i k c) (fun (k : Nat) (out2 : List Nat) (c : Nat) => (dg n).length - k) (fun (k : Nat) (out2 : List Nat) (c : Nat) => [(0, aM m), (1, aM n), (5, Is (.slice (some ⟨B24, 0, none⟩) ((dg m).length + (dg n).length) ((dg m).length + (dg n).length))), (6, NT .i64 i), (7, bL ((dg m).getD i 0)), (8, NT .u64 c), (25, aM m), (26, NT .i64 (dg m).length), (27, NT .i64 i), (32, aM n), (33, NT .i64 (dg n).length), (34, NT .i64 k)]) (fun (k : Nat) (out2 : List Nat) (c : Nat) => [box B24 24 (out2.map bL)]) 0 out 0 (hS.row hb)
    (zS rfl) (cA.refl _) (fun k out2 c hR=>?_)
   refine ts (ro rfl (gZ (Ht rfl) (Ht rfl)) (eX (cK (dQ (Ht rfl) (fun hk=>?_) (fun hk=>?_)))))
   ·simp at hk
    have hlen:=hR.len; have hcl:=hR.clt; have hyk:=aS (bC n) k; have hok:=aS hR.dig (i + k)
    have hbnd:=uC (aS (bC m) i) (aS (bC n) k) (aS hR.dig (i + k)) hR.clt
    simp only [BB] at hcl hyk hok hbnd
    refine cU (cK (eG (ts (rm rfl (ro rfl (dZ U_28 Z_24 (Ht rfl) (Ht rfl) rfl (dY (aF zo))) (ro rfl (dJ A_24 Z_24 (Ht rfl)) (ra rfl (ra rfl (eX (ts (rm rfl (rm rfl (ro rfl (gJ U_24 U_274 (Ht rfl) z7) (rm rfl (ro rfl (gJ U_24 U_274 (Ht rfl) z7) (ro rfl (jK (Ht rfl) (Ht rfl) (by show _ < 18446744073709551616; omega)) ?_))))))))))))))))
    refine rm rfl (rm rfl (rm rfl (ro rfl (dV (Ht rfl) (Ht rfl) z6) (ro rfl (gQ U_28 Z_24 (Ht rfl) (Ht rfl) rfl zo (by rw [Nat.mul_one,Nat.zero_add])) ?_))))
    refine ro rfl (eY A_24 Z_24 (Ht rfl) (i:=0) rfl (dY (aF zo))) (ro rfl (gJ U_24 U_274 (Ht rfl) z7) (ro rfl (dV (Ht rfl) (Ht rfl) z7) (ro rfl (dV (Ht rfl) (Ht rfl) z7) (ra rfl (eX (ts (rm rfl (rm rfl (rm rfl (ro rfl (dV (Ht rfl) (Ht rfl) z6) ?_))))))))))
    refine rm rfl (ro rfl (fP rfl U_274 U_24 (Ht rfl)) (ro rfl (gQ U_28 Z_24 (Ht rfl) (Ht rfl) rfl zo (by rw [Nat.mul_one,Nat.zero_add])) ?_))
    refine iD Z_24 (Ht rfl) (Ht rfl) (i:=0) rfl (by first | omega | (simp; omega)) rfl (eX (cY (rm rfl (ro rfl (dS (Ht rfl) (cJ 32) (by decide)) (ra rfl (eX (T_blk (cY (ro rfl (dV (Ht rfl) (cJ 1) z6) (rm rfl (eX (fY (k + 1,_,_) (hR.next (bC m) (bC n) hk rfl) (by dsimp only; omega) (zS rfl) (aU (aR (fM _ _ _)) aY)))))))))))))
   ·simp at hk
    have hkl:k = (dg n).length:=Nat.le_antisymm hR.kle hk
    subst hkl
    have hlen:=hR.len; have hcl:=hR.clt
    simp only [BB] at hcl
    refine gW rfl (cY (rm rfl (rm rfl (rm rfl (ro rfl (dG U_28 (Ht rfl) aA) (ro rfl (dV (Ht rfl) (Ht rfl) z6) (rm rfl (ro rfl (gJ U_274 U_24 (Ht rfl) (by show _ < 4294967296; first | omega | (simp only [jX]; omega))) (ro rfl (gQ U_28 Z_24 (Ht rfl) (Ht rfl) rfl zo (by rw [Nat.mul_one,Nat.zero_add])) ?_)))))))))
    refine iD Z_24 (Ht rfl) (Ht rfl) (i:=0) rfl (by first | omega | (simp; omega)) rfl (eX (T_blk (cY (ro rfl (dV (Ht rfl) (cJ 1) z6) (rm rfl (eX (fY (i + 1,_) (hR.fin) (by dsimp only; omega) (zS rfl) (aU (aR (fM _ _ _)) aY))))))))
  ·simp at hb
   have hkl:i = (dg m).length:=Nat.le_antisymm hS.ile hb
   subst hkl
   have hlen:=hS.len
   have hfin:=hS.fin
   rw [cF,cF] at hfin
   refine gW rfl (gV (i:=0) (tt:=5) rfl rfl (kZ rfl hlen.symm (Nat.le_refl _)) (ts (rm rfl (ro rfl (cZ K_203 (oE _ hS.dig zo) ⟨(Ht rfl),trivial⟩) (ra rfl (eX (fW rfl (fX (eU rfl) ?_))))))))
   exact (cB hfin)
end
section
open Go Go.RowKit
theorem Tg {v:Nat} (hv:v < 4294967296):aT Tryz.prog 275 [bL v] (NT .i64 (bl v)):=by
 refine aT.intro Tryz.func275 rfl Tryz.ntmps275 rfl (fun cx=>(ts (ro rfl (cQ (cJ 0)) (eX (cK (oB (fun (q:Nat) (x:Nat)=>bl v = q + bl x ∧ x < 65536 ∧ q ≤ 16) (fun (q:Nat) (x:Nat)=>[(0,bL x),(2,NT .i64 q)]) (fun (q:Nat) (x:Nat)=>[]) ?_ (fun q x ⟨hq1,hq2,hq3⟩=>?_)))))))
 ·refine ts (rm rfl (ro rfl (nL (Ht rfl) (cJ 65536)) (eX (dQ (Ht rfl) (fun hb => ?_) (fun hb => ?_)))))
  ·simp at hb
   refine ts (rm rfl (ro rfl (dS (Ht rfl) (cJ 16) (by decide)) (ra rfl (eX (cY (ro rfl (cQ (cJ 16)) (eX (aO (16,v / 2 ^ 16) ⟨a1L hb,by dsimp only; omega,Nat.le_refl _⟩ (zS rfl) aY))))))))
  ·simp at hb
   refine cU (aO (0,v) ⟨(Nat.zero_add _).symm,hb,by dsimp only; omega⟩ (zS rfl) aY)
 ·refine cK (oB (fun (r : Nat) (z : Nat) => bl v = r + bl z ∧ z < 256 ∧ r ≤ 24) (fun (r : Nat) (z : Nat) => [(0, bL z), (2, NT .i64 r)]) (fun (r : Nat) (z : Nat) => []) ?_ (fun r z ⟨hr1, hr2, hr3⟩ => ?_))
  ·refine ts (rm rfl (ro rfl (nL (Ht rfl) (cJ 256)) (eX (dQ (Ht rfl) (fun hb => ?_) (fun hb => ?_)))))
   ·simp at hb
    refine ts (rm rfl (ro rfl (dS (Ht rfl) (cJ 8) (by decide)) (ra rfl (eX (cY (rm rfl (ro rfl (dV (Ht rfl) (cJ 8) z6) (ra rfl (eX (aO (q + 8,x / 2 ^ 8) ⟨by have:=bl8 hb; dsimp only; omega,by dsimp only; omega,by dsimp only; omega⟩ (zS rfl) aY))))))))))
   ·simp at hb
    refine cU (aO (q,x) ⟨hq1,hb,by dsimp only; omega⟩ (zS rfl) aY)
  ·have hbl := lM (k := 8) hr2
   refine ts (rm rfl (rm rfl (ro rfl (gJ U_24 U_5 (Ht rfl) (by show _ < 256; first | omega | (simp only [jX]; omega))) (ro rfl (Vm Tryz.runUnderlying9 cV (Ht rfl) (a1Q hr2 (by kernel_rfl))) (ro rfl (gJ U_5 U_3 (Ht rfl) z6) (ro rfl (dV (Ht rfl) (Ht rfl) z6) (ra rfl (eX (fW rfl (fX (eU rfl) ?_))))))))))
   exact (kJ zo)
theorem Ze {v:Nat} (hv:v < 4294967296):aT Tryz.prog 251 [bL v] (NT .i64 (32 - bl v)):=by
 refine aT.intro Tryz.func251 rfl Tryz.ntmps251 rfl (fun cx=>(ts (ro rfl (cQ (cJ 0)) (eX (ts (rm rfl (ro rfl (cZ Tryz.call275 (Tg hv) ⟨(Ht rfl),trivial⟩) (ro rfl (dW (cJ 32) (Ht rfl) (lM hv) z6) (ra rfl (eX ?_))))))))))
 exact fW rfl (eU rfl)
theorem Td {hi lo y:Nat} (hy:hi < y) (hl:lo < BB) (hyb:y < BB):aT Tryz.prog 285 [bL hi,bL lo,bL y] (fB [bL ((hi * BB + lo) / y),bL ((hi * BB + lo) % y)]):=by
 have hq:=zR hy hl; have hm:=Nat.mod_lt (hi * BB + lo) (by omega:y > 0); have hz:hi * BB + lo < 18446744073709551616:=by simp only [BB] at *; omega
 have hsh : hi * 2 ^ 32 < 18446744073709551616 := by
  have h1:hi < BB:=by omega
  show hi * BB < _
  simp only [BB] at h1 ⊢; omega
 refine aT.intro Tryz.func285 rfl Tryz.ntmps285 rfl (fun cx=>(ts (ro rfl (cQ (cJ 0)) (ro rfl (cQ (cJ 0)) (eX (cK (ts (rm rfl (ro rfl (fL (Ht rfl) (cJ 0)) (rm rfl (fQ rfl rfl (eK rfl rfl (Ht rfl) (fun h=>cX (Ht rfl))) (fQ rfl rfl (eK rfl rfl (Ht rfl) (fun h=>cX (Ht rfl))) (fQ rfl rfl (eK rfl rfl (Ht rfl) (fun h=>vR (fJ rfl h) (fJ rfl h))) (ro rfl (eS (Ht rfl) (fun h=>(fJ rfl h))) (eX (iW (Ht rfl) (by simp; omega) ?_))))))))))))))))
 have hl2:lo < 18446744073709551616:=by simp only [BB] at hl; omega
 have hy2:y < 18446744073709551616:=by simp only [BB] at hyb; omega
 refine cU (ts (rm rfl (ro rfl (gJ U_24 U_274 (Ht rfl) (by show _ < 18446744073709551616; simp only [BB] at *; omega)) (ro rfl (lF (Ht rfl) (cJ 32) (by decide) hsh) (rm rfl (ro rfl (gJ U_24 U_274 (Ht rfl) (by show _ < 18446744073709551616; simp only [BB] at *; omega)) (ro rfl (aD.nat (mX rfl (Ht rfl) (Ht rfl) z7 z7) (sJ hl)) (ra rfl (eX (cK ?_))))))))))
 refine fZ (m:=11) (dp 8 rfl (cX (Ht rfl)) (dp 2 rfl (cX (Ht rfl)) (dq 24 1 rfl (gJ U_24 U_274 (Ht rfl) (by show _ < 18446744073709551616; simp only [BB] at *; omega)) (eE 23 0 25 2 rfl (gY (Ht rfl) (Ht rfl) zo (by show _ < 18446744073709551616; exact hz)) (dq 26 3 rfl (gJ U_274 U_24 (Ht rfl) (by show _ < 4294967296; exact hq)) (dp 8 rfl (cX (Ht rfl)) (dp 2 rfl (cX (Ht rfl)) (dq 29 6 rfl (gJ U_24 U_274 (Ht rfl) (by show _ < 18446744073709551616; simp only [BB] at *; omega)) ?_))))))))
 refine eE 28 5 30 7 rfl (iK (Ht rfl) (Ht rfl) zo) (dq 31 8 rfl (gJ U_274 U_24 (Ht rfl) (by show _ < 4294967296; simp only [BB] at *; omega)) (dq 27 4 rfl (cQ (Ht rfl)) (fV bB rfl (by kernel_rfl) (zF (zF (aJ (aJ (aJ (aV (ra rfl (eX ?_)))))))))))
 exact bE rfl (eU rfl) (eU rfl)
theorem Xn {m k:Nat} (hm:(dg m).length ≤ 17592186044416) (hk:k ≤ 562949953421312):aT Tryz.prog 206 [aM m,NT .i64 k] (aM (m * 2 ^ k)):=by
 refine aT.intro Tryz.func206 rfl Tryz.ntmps206 rfl (fun cx=>(ts (ro rfl (cQ cV) (eX (cK (ts (rm rfl (ro rfl (dG U_28 (Ht rfl) aA) (ro rfl (cD (Ht rfl) (cJ 0)) (rm rfl (fQ rfl rfl (eK rfl rfl (Ht rfl) (fun h=>cX (Ht rfl))) (fQ rfl rfl (eK rfl rfl (Ht rfl) (fun h=>cD (fJ rfl h) (cJ 0))) (ro rfl (iF (Ht rfl) (fun h=>(fJ rfl h))) (eX (dQ (Ht rfl) (fun hb=>?_) (fun hb=>?_))))))))))))))))
 ·simp [aH] at hb
  have h0 : m * 2 ^ k = m := by
   rcases hb with h | h
   ·simp_all [nU]
   ·rw [h,Nat.pow_zero,Nat.mul_one]
  refine ts (rm rfl (ra rfl (eX (fW rfl (fX (eU rfl) ?_)))))
  exact (cB h0.symm)
 ·clear hb
  have hr:=Nat.mod_lt k (by decide:32 > 0)
  refine cU (ts (rm rfl (ro rfl (gY (Ht rfl) (cJ 32) zo z6) (rm rfl (ro rfl (iK (Ht rfl) (cJ 32) zo) (ro rfl (gJ U_3 U_275 (Ht rfl) z7) (ra rfl (ra rfl (eX (ts (rm rfl (ro rfl (dG U_28 (Ht rfl) aA) (rm rfl (ro rfl (dV (Ht rfl) (Ht rfl) z6) (ro rfl (dV (Ht rfl) (cJ 1) z6) ?_)))))))))))))))
  refine rn rfl (gB (T:=bL 0) (i:=Tryz.t24) V_28 jH rfl rfl (Ht rfl) rfl (fun _=>rfl) trivial (by show 4 * _ ≤ _; omega) zo) fun B29=>ra rfl (eX (cK (ts (rm rfl (ro rfl (dG U_28 (Ht rfl) aA) (ro rfl (cX (cJ 0)) (eX (eG ?_))))))))
  refine gC (fun (i : Nat) (out : List Nat) => wI (dg m) (k / 32) (k % 32) out i) (fun (i : Nat) (out : List Nat) => (dg m).length - i) (fun (i : Nat) (out : List Nat) => [(5, NT .i64 (k / 32)), (6, NT .u64 (k % 32)), (7, Is (.slice (some ⟨B29, 0, none⟩) ((dg m).length + k / 32 + 1) ((dg m).length + k / 32 + 1))), (30, aM m), (31, NT .i64 (dg m).length), (32, NT .i64 i)]) (fun (i : Nat) (out : List Nat) => [box B29 24 (out.map bL)]) 0 (List.replicate ((dg m).length + k / 32 + 1) 0) (wI.start _ _ _)
   (zS rfl) (aU (aR (kU _)) aY) (fun i out hS=>?_)
  refine ts (ro rfl (gZ (Ht rfl) (Ht rfl)) (eX (cK (dQ (Ht rfl) (fun hb=>?_) (fun hb=>?_)))))
  ·simp at hb
   have hlen:=hS.len; have hxi:=aS (bC m) i; have hok:=aS hS.dig (i + k / 32)
   have hv:=zQ hxi hr
   have hd:(dg m).getD i 0 * 2 ^ (k % 32) / 2 ^ 32 < 4294967296:=Nat.div_lt_of_lt_mul hv
   simp only [BB] at hxi hok
   refine cU (cK (eG (ts (rm rfl (ro rfl (dZ U_28 Z_24 (Ht rfl) (Ht rfl) rfl (dY (aF zo))) (ro rfl (dJ A_24 Z_24 (Ht rfl)) (ra rfl (ra rfl (eX (ts (rm rfl (ro rfl (gJ U_24 U_274 (Ht rfl) z7) (rm rfl (ro rfl (lF (Ht rfl) (Ht rfl) (by show _ ≤ _; simp [IntKind.bits]; omega) (by show _ < 18446744073709551616; exact hv)) (ra rfl (eX (ts (rm rfl (rm rfl (rm rfl (ro rfl (dV (Ht rfl) (Ht rfl) z6) ?_)))))))))))))))))))))
   refine ro rfl (gQ U_28 Z_24 (Ht rfl) (Ht rfl) rfl zo (by rw [Nat.mul_one,Nat.zero_add])) ?_
   refine ro rfl (eY A_24 Z_24 (Ht rfl) (i:=0) rfl (dY (aF zo))) (rm rfl (ro rfl (fP rfl U_274 U_24 (Ht rfl)) (ro rfl (mX rfl (Ht rfl) (Ht rfl) (by show _ < 4294967296; omega) (by show _ % 4294967296 < 4294967296; omega)) (ro rfl (gQ U_28 Z_24 (Ht rfl) (Ht rfl) rfl zo (by rw [Nat.mul_one,Nat.zero_add])) ?_))))
   refine iD Z_24 (Ht rfl) (Ht rfl) (i:=0) rfl (by first | omega | (simp; omega)) rfl (eX (cY (rm rfl (rm rfl (rm rfl (ro rfl (dV (Ht rfl) (Ht rfl) z6) (ro rfl (dV (Ht rfl) (cJ 1) z6) (rm rfl (ro rfl (dS (Ht rfl) (cJ 32) (by decide)) (ro rfl (gJ U_274 U_24 (Ht rfl) (by show _ < 4294967296; exact hd)) (ro rfl (gQ U_28 Z_24 (Ht rfl) (Ht rfl) rfl zo (by rw [Nat.mul_one,Nat.zero_add])) ?_)))))))))))
   refine iD Z_24 (Ht rfl) (Ht rfl) (i:=0) rfl (by first | omega | (simp; omega)) rfl (eX (T_blk (cY (ro rfl (dV (Ht rfl) (cJ 1) z6) (rm rfl (eX (fY (i + 1,_) (hS.next (bC m) hr hb rfl rfl) (by dsimp only; omega) (zS rfl) (aU (aR (Ep _ _ _ _ _)) aY))))))))
  ·simp at hb
   have hkl:i = (dg m).length:=Nat.le_antisymm hS.kle hb
   subst hkl
   have hlen:=hS.len
   have hfin:=hS.fin
   rw [cF,kN] at hfin
   refine gW rfl (gV (i:=0) (tt:=7) rfl rfl (kZ rfl hlen.symm (Nat.le_refl _)) (ts (rm rfl (ro rfl (cZ K_203 (oE _ hS.dig zo) ⟨(Ht rfl),trivial⟩) (ra rfl (eX (fW rfl (fX (eU rfl) ?_))))))))
   exact (cB hfin)
theorem a1f {m k:Nat} (hm:(dg m).length ≤ 17592186044416) (hk:k ≤ 562949953421312):aT Tryz.prog 253 [aM m,NT .i64 k] (aM (m / 2 ^ k)):=by
 refine aT.intro Tryz.func253 rfl Tryz.ntmps253 rfl (fun cx=>?_)
 have hr:=Nat.mod_lt k (by decide:32 > 0)
 refine ts (ro rfl (cQ cV) (eX (ts (rm rfl (ro rfl (gY (Ht rfl) (cJ 32) zo z6) (rm rfl (ro rfl (iK (Ht rfl) (cJ 32) zo) (ro rfl (gJ U_3 U_275 (Ht rfl) z7) (ra rfl (ra rfl (eX (cK (ts (rm rfl (rm rfl (ro rfl (dG U_28 (Ht rfl) aA) (ro rfl (nL (Ht rfl) (Ht rfl)) (eX (dQ (Ht rfl) (fun hb=>?_) (fun hb=>?_))))))))))))))))))))
 ·simp at hb
  have h0:=Ev (bC m) hb (r:=k % 32)
  rw [cF,kN] at h0
  refine ts (ro rfl (cQ cV) (eX (fW rfl (fX (eU rfl) ?_))))
  exact (fun v V h=>cB h0.symm v V (gU v V h))
 ·simp at hb
  refine cU (ts (rm rfl (ro rfl (dG U_28 (Ht rfl) aA) (rm rfl (ro rfl (dW (Ht rfl) (Ht rfl) zo z6) (rn rfl (gB (T:=bL 0) (i:=Tryz.t24) V_28 jH rfl rfl (Ht rfl) rfl (fun _=>rfl) trivial (by show 4 * _ ≤ _; omega) zo) fun B23=>(ra rfl (eX (cK (ts (rm rfl (ro rfl (jJ U_28 (Ht rfl)) (ro rfl (cX (cJ 0)) (eX (eG ?_)))))))))))))))
  refine gC (fun (i : Nat) (out : List Nat) => wJ (dg m) (k / 32) (k % 32) out i) (fun (i : Nat) (out : List Nat) => (dg m).length - i) (fun (i : Nat) (out : List Nat) => [(0, aM m), (5, NT .i64 (k / 32)), (6, NT .u64 (k % 32)), (7, Is (.slice (some ⟨B23, 0, none⟩) ((dg m).length - k / 32) ((dg m).length - k / 32))), (25, NT .i64 ((dg m).length - k / 32 : Nat)), (26, NT .i64 i)]) (fun (i : Nat) (out : List Nat) => [box B23 24 (out.map bL)]) 0 (List.replicate ((dg m).length - k / 32) 0) (wJ.start _ _ _)
   (zS rfl) (aU (aR (kU _)) aY) (fun i out hS=>?_)
  refine ts (ro rfl (gZ (Ht rfl) (Ht rfl)) (eX (cK (dQ (Ht rfl) (fun hb=>?_) (fun hb=>?_)))))
  ·simp at hb
   have hlen:=hS.len; have hx0:=aS (bC m) (i + k / 32); have hx1:=aS (bC m) (i + k / 32 + 1)
   have hio:i < out.length:=by omega
   simp only [BB] at hx0 hx1
   refine cU (cK (eG (ts (rm rfl (ra rfl (eX (ts (rm rfl (rm rfl (rm rfl (ro rfl (dV (Ht rfl) (Ht rfl) z6) (ro rfl (dZ U_28 Z_24 (Ht rfl) (Ht rfl) rfl (dY (aF zo))) (ro rfl (dJ A_24 Z_24 (Ht rfl)) (ro rfl (gJ U_24 U_274 (Ht rfl) z7) (ra rfl (eX (cK (iA (fun (v:Nat)=>v = (dg m).getD (i + k / 32) 0 + BB * (dg m).getD (i + k / 32 + 1) 0) (fun (v:Nat)=>[(0,aM m),(5,NT .i64 (k / 32)),(6,NT .u64 (k % 32)),(7,Is (.slice (some ⟨B23,0,none⟩) ((dg m).length - k / 32) ((dg m).length - k / 32))),(8,NT .i64 i),(9,NT .u64 v),(25,NT .i64 ((dg m).length - k / 32:Nat)),(26,NT .i64 i)]) (fun (v:Nat)=>[box B23 24 (out.map bL)]) ?_ (fun v hv=>?_)))))))))))))))))))
   ·refine ts (rm rfl (rm rfl (ro rfl (dV (Ht rfl) (Ht rfl) z6) (ro rfl (dV (Ht rfl) (cJ 1) z6) (rm rfl (ro rfl (dG U_28 (Ht rfl) aA) (ro rfl (gZ (Ht rfl) (Ht rfl)) (eX (dQ (Ht rfl) (fun hk2 => ?_) (fun hk2 => ?_))))))))))
    ·simp at hk2
     refine cY (rm rfl (rm rfl (rm rfl (rm rfl (ro rfl (dV (Ht rfl) (Ht rfl) z6) (ro rfl (dV (Ht rfl) (cJ 1) z6) (ro rfl (dZ U_28 Z_24 (Ht rfl) (Ht rfl) rfl (dY (aF zo))) (ro rfl (dJ A_24 Z_24 (Ht rfl)) (ro rfl (gJ U_24 U_274 (Ht rfl) z7) (ro rfl (lF (Ht rfl) (cJ 32) (by decide) (by show _ < 18446744073709551616; omega)) ?_))))))))))
     refine ro rfl (aD.nat (mX rfl (Ht rfl) (Ht rfl) z7 z7) (Kb hx0)) (ra rfl (eX (aO ((dg m).getD (i + k / 32) 0 + BB * (dg m).getD (i + k / 32 + 1) 0) rfl (zS rfl) (cA.refl _))))
    ·simp at hk2
     refine cU (aO ((dg m).getD (i + k / 32) 0) (by simp [List.getD,List.getElem?_eq_none hk2]) (zS rfl) (cA.refl _))
   ·refine cY (rm rfl (rm rfl (rm rfl (rm rfl (ro rfl (dS (Ht rfl) (Ht rfl) (by show _ ≤ 64; omega)) (ro rfl (fP rfl U_274 U_24 (Ht rfl)) (ro rfl (gQ U_28 Z_24 (Ht rfl) (Ht rfl) rfl zo (by rw [Nat.mul_one, Nat.zero_add])) ?_)))))))
    refine iD Z_24 (Ht rfl) (Ht rfl) (i:=0) rfl (by first | omega | (simp; omega)) rfl (eX (T_blk (cY (ro rfl (dV (Ht rfl) (cJ 1) z6) (rm rfl (eX (fY (i + 1,_) (hS.next (bC m) hr hio (by rw [hv]; rfl)) (by dsimp only; omega) (zS rfl) (aU (aR (fM _ _ _)) aY))))))))
  ·simp at hb
   have hlen:=hS.len
   have hkl:i = out.length:=Nat.le_antisymm hS.kle zo
   subst hkl
   have hfin:=hS.fin (bC m) zo
   rw [cF,kN] at hfin
   refine gW rfl (gV (i:=0) (tt:=7) rfl rfl (kZ rfl hlen.symm (Nat.le_refl _)) (ts (rm rfl (ro rfl (cZ K_203 (oE _ hS.dig zo) ⟨(Ht rfl),trivial⟩) (ra rfl (eX (fW rfl (fX (eU rfl) ?_))))))))
   exact (cB hfin)
theorem Iu {m y:Nat} (hm:(dg m).length ≤ 17592186044416) (hy:0 < y) (hyb:y < BB):aT Tryz.prog 250 [aM m,bL y] (fB [aM (m / y),bL (m % y)]):=by
 refine aT.intro Tryz.func250 rfl Tryz.ntmps250 rfl (fun cx=>(ts (ro rfl (cQ cV) (ro rfl (cQ (cJ 0)) (eX (ts (rm rfl (ro rfl (dG U_28 (Ht rfl) aA) (rn rfl (gB (T:=bL 0) (i:=Tryz.t24) V_28 jH rfl rfl (Ht rfl) rfl (fun _=>rfl) trivial (by show 4 * _ ≤ _; omega) zo) fun B11=>(ra rfl (eX (ts (ro rfl (cQ (cJ 0)) (eX (cK (ts (rm rfl (ro rfl (dG U_28 (Ht rfl) aA) (ro rfl (gP (Ht rfl) cV (uX zo)) (ra rfl (eX (eG ?_))))))))))))))))))))))
 refine jV (fun (k : Nat) (out : List Nat) (r : Nat) => mO (dg m) y out k r) (fun (k : Nat) (out : List Nat) (r : Nat) => k) (fun (k : Nat) (out : List Nat) (r : Nat) => [(0, aM m), (1, bL y), (6, Is (.slice (some ⟨B11, 0, none⟩) (dg m).length (dg m).length)), (7, bL r), (8, aI .i64 ((k : Int) - 1))]) (fun (k : Nat) (out : List Nat) (r : Nat) => [box B11 24 (out.map bL)]) (dg m).length (List.replicate (dg m).length 0) 0 (mO.start _ hy)
  (zS rfl) (aU (aR (kU _)) aY) (fun k out r hS=>?_)
 refine cK (ts (rm rfl (ro rfl (kD (Ht rfl) cV) (eX (dQ (Ht rfl) (fun hb=>?_) (fun hb=>?_))))))
 ·simp at hb
  have hlen:=hS.len; have hkl:=hS.kle
  refine cU (cK (eG (cY (rm rfl (rm rfl (rm rfl (rm rfl (rm rfl (ro rfl (dZ U_28 Z_24 (Ht rfl) (Ht rfl) (show ((k:Int) - 1) = ((k - 1:Nat):Int) by omega) (dY (aF zo))) (ro rfl (dJ A_24 Z_24 (Ht rfl)) (rm rfl (ro rfl (cZ Tryz.call285 (Td hS.rlt (aS (bC m) (k - 1)) hyb) ⟨(Ht rfl),(Ht rfl),(Ht rfl),trivial⟩) (rm rfl (ro rfl (dK (Ht rfl) rfl) (ro rfl (dK (Ht rfl) rfl) (ro rfl (gQ U_28 Z_24 (Ht rfl) (Ht rfl) (show ((k:Int) - 1) = ((k - 1:Nat):Int) by omega) zo (by rw [Nat.mul_one,Nat.zero_add])) ?_))))))))))))))))
  refine iD Z_24 (Ht rfl) (Ht rfl) (i:=0) rfl (by first | omega | (simp; omega)) rfl (ra rfl (eX (T_blk (cY (rm rfl (ro rfl (gP (Ht rfl) cV (uX zo)) (ra rfl (eX (fY (k - 1,_,_) (hS.next (bC m) zo rfl) (by dsimp only; omega) (aQ rfl (aQ rfl (aQ rfl (aQ rfl (aZ rfl (aN zo) aX))))) (aU (aR (fM _ _ _)) aY))))))))))
 ·simp at hb
  have hk0:k = 0:=by omega
  subst hk0
  have hlen:=hS.len
  have hfin:=hS.fin
  rw [cF] at hfin
  refine gW rfl (gV (i:=0) (tt:=6) rfl rfl (kZ rfl hlen.symm (Nat.le_refl _)) (ts (rm rfl (ro rfl (cZ K_203 (oE _ hS.dig zo) ⟨(Ht rfl),trivial⟩) (rm rfl (ra rfl (ra rfl (eX (bE rfl (fX (eU rfl) ?_) (fX (eU rfl) ?_))))))))))
  ·exact (cB hfin.1)
  ·exact (kJ hfin.2)
end
section
open Go Go.RowKit
theorem Zj {us vs : List Nat} {q j B l : Nat} (hul : us.length = l) (hu : iV us) (hv : iV vs) (hq : q < BB) (hl : j + vs.length < us.length) (hL : us.length ≤ 1152921504606846976) :
    iC Tryz.prog 252 [Is (.slice (some ⟨B,0,none⟩) l l),tJ vs,NT .u64 q,NT .i64 j] [box B 24 (us.map bL)] (List Nat × Bool) (fun x=>aC x.2) (fun x=>[box B 24 (x.1.map bL)]) (fun x=>Cb us vs q j x.1 x.2):=by
 refine iC.intro Tryz.func252 rfl Tryz.ntmps252 rfl (fun cx Z=>(ts (ro rfl (cQ cV) (eX (ts (ro rfl (cQ (cJ 0)) (ro rfl (cQ (cJ 0)) (eX (cK (ts (rm rfl (ro rfl (dG U_28 (Ht rfl) aA) (ro rfl (cX (cJ 0)) (eX (eG ?_)))))))))))))))
 refine sQ (fun (i : Nat) (out : List Nat) (c : Nat) (b : Nat) => pC us vs q j out i c b) (fun (i : Nat) (out : List Nat) (c : Nat) (b : Nat) => vs.length - i) (fun (i : Nat) (out : List Nat) (c : Nat) (b : Nat) => [(0, Is (.slice (some ⟨B, 0, none⟩) l l)), (1, tJ vs), (2, NT .u64 q), (3, NT .i64 j), (9, NT .u64 c), (10, NT .u64 b), (16, tJ vs), (17, NT .i64 vs.length), (18, NT .i64 i)]) (fun (i : Nat) (out : List Nat) (c : Nat) (b : Nat) => [Z, box B 24 (out.map bL)]) 0 us 0 0 (pC.start hu vs q j)
  (zS rfl) (cA.refl _) (fun i out c b hS=>?_)
 refine ts (ro rfl (gZ (Ht rfl) (Ht rfl)) (eX (cK (dQ (Ht rfl) (fun hb=>?_) (fun hb=>?_)))))
 ·simp at hb
  have hlen:=hS.len; have hcl:=hS.clt; have hbl:=hS.ble; have hvi:=aS hv i; have hok:=aS hS.dig (i + j)
  have hp:=Hd hq hvi hS.clt
  simp only [BB] at hp hcl hvi hok
  obtain ⟨p,hp1⟩:∃ p,p = q * vs.getD i 0 + c:=⟨_,rfl⟩
  obtain ⟨x,hx1⟩:∃ x,x = ((out.getD (i + j) 0 + 18446744073709551616 - p % 4294967296) % 18446744073709551616 + 18446744073709551616 - b) % 18446744073709551616:=⟨_,rfl⟩
  refine cU (cK (eG (ts (rm rfl (ro rfl (dZ U_28 Z_24 (Ht rfl) (Ht rfl) rfl (dY (aF zo))) (ro rfl (dJ A_24 Z_24 (Ht rfl)) (ra rfl (ra rfl (eX (ts (rm rfl (rm rfl (ro rfl (gJ U_24 U_274 (Ht rfl) z7) (ro rfl (jK (Ht rfl) (Ht rfl) z7) (rm rfl (ro rfl (aD.nat (dV (Ht rfl) (Ht rfl) z7) hp1.symm) ?_))))))))))))))))
  refine ra rfl (eX (ts (rm rfl (ro rfl (dS (Ht rfl) (cJ 32) (by decide)) (ra rfl (eX (ts (rm rfl (rm rfl (rm rfl (ro rfl (dV (Ht rfl) (Ht rfl) z6) (ro rfl (gQ U_28 Z_24 (Ht rfl) (Ht rfl) rfl zo (by rw [Nat.mul_one,Nat.zero_add])) ?_))))))))))))
  refine ro rfl (eY A_24 Z_24 (Ht rfl) (i:=1) rfl (dY (aF zo))) (ro rfl (gJ U_24 U_274 (Ht rfl) z7) (rm rfl (ro rfl (fP rfl U_274 U_24 (Ht rfl)) (ro rfl (gJ U_24 U_274 (Ht rfl) z7) (ro rfl (lG rfl (Ht rfl) (Ht rfl) (by show _ ≤ 18446744073709551616; first | omega | (simp only [jX]; omega))) ?_)))))
  refine rm rfl (ro rfl (aD.nat (lG rfl (Ht rfl) (Ht rfl) (by show _ ≤ 18446744073709551616; first | omega | (simp only [jX]; omega))) hx1.symm) (ra rfl (eX (ts (rm rfl (rm rfl (rm rfl (ro rfl (dV (Ht rfl) (Ht rfl) z6) (rm rfl (ro rfl (fP rfl U_274 U_24 (Ht rfl)) (ro rfl (gQ U_28 Z_24 (Ht rfl) (Ht rfl) rfl zo (by rw [Nat.mul_one,Nat.zero_add])) ?_)))))))))))
  refine iD Z_24 (Ht rfl) (Ht rfl) (i:=1) rfl (by first | omega | (simp; omega)) rfl (eX (cY (rm rfl (ro rfl (dS (Ht rfl) (cJ 63) (by decide)) (ra rfl (eX (T_blk (cY (ro rfl (dV (Ht rfl) (cJ 1) z6) (rm rfl (eX (fY (i + 1,_,_,_) (hS.next hu hv hq hb hl hp1 (xZ hok hbl hx1) rfl) (by dsimp only; omega) (zS rfl) (aU (fun _ _ _ h=>h) (aU (aR (fM _ _ _)) aY))))))))))))))
 ·simp at hb
  have hkl:i = vs.length:=Nat.le_antisymm hS.ile hb
  subst hkl
  have hlen:=hS.len; have hcl:=hS.clt; have hbl:=hS.ble; have hok:=aS hS.dig (j + vs.length)
  obtain ⟨x,hx1⟩:∃ x,x = ((out.getD (j + vs.length) 0 + 18446744073709551616 - c) % 18446744073709551616 + 18446744073709551616 - b) % 18446744073709551616:=⟨_,rfl⟩
  have hfin:=hS.fin hl (yA hok hcl hbl hx1) rfl
  simp only [BB] at hcl hok
  refine gW rfl (ts (rm rfl (rm rfl (rm rfl (ro rfl (dG U_28 (Ht rfl) aA) (ro rfl (dV (Ht rfl) (Ht rfl) z6) (ro rfl (gQ U_28 Z_24 (Ht rfl) (Ht rfl) rfl zo (by rw [Nat.mul_one,Nat.zero_add])) ?_)))))))
  refine ro rfl (eY A_24 Z_24 (Ht rfl) (i:=1) rfl (dY (aF zo))) (ro rfl (gJ U_24 U_274 (Ht rfl) z7) (rm rfl (ro rfl (lG rfl (Ht rfl) (Ht rfl) (by show _ ≤ 18446744073709551616; first | omega | (simp only [jX]; omega))) (rm rfl (ro rfl (aD.nat (lG rfl (Ht rfl) (Ht rfl) (by show _ ≤ 18446744073709551616; first | omega | (simp only [jX]; omega))) hx1.symm) (ra rfl (eX (ts (rm rfl (rm rfl (rm rfl (ro rfl (dG U_28 (Ht rfl) aA) ?_))))))))))))
  refine ro rfl (dV (Ht rfl) (Ht rfl) z6) (rm rfl (ro rfl (fP rfl U_274 U_24 (Ht rfl)) (ro rfl (gQ U_28 Z_24 (Ht rfl) (Ht rfl) rfl zo (by rw [Nat.mul_one,Nat.zero_add])) ?_)))
  refine iD Z_24 (Ht rfl) (Ht rfl) (i:=1) rfl (by first | omega | (simp; omega)) rfl (eX (ts (rm rfl (ro rfl (dS (Ht rfl) (cJ 63) (by decide)) (ro rfl (fL (Ht rfl) (cJ 0)) (ra rfl (eX ?_)))))))
  exact kX (_,_) hfin [0,1] ⟨⟨_,rfl,fun _ _ _ h=>h⟩,⟨_,rfl,(aR (fM _ _ _))⟩,trivial⟩ (by decide) (yR rfl (eU rfl))
theorem Ij {m n:Nat} (hm:(dg m).length ≤ 17592186044415) (hn1:(dg n).length ≤ 17592186044416) (hn:n ≠ 0):aT Tryz.prog 202 [aM m,aM n] (fB [aM (m / n),aM (m % n)]):=by
 refine aT.intro Tryz.func202 rfl Tryz.ntmps202 rfl (fun cx=>(ts (ro rfl (cQ cV) (ro rfl (cQ cV) (eX (cK (ts (rm rfl (rm rfl (ro rfl (cZ Tryz.call129 (Od zo zo) ⟨(Ht rfl),(Ht rfl),trivial⟩) (ro rfl (mW (Ht rfl) cV) (eX (dQ (Ht rfl) (fun hb=>?_) (fun hb=>?_))))))))))))))
 ·simp only [decide_eq_true_eq] at hb
  have hlt : m < n := by
   unfold nN at hb
   split at hb
   ·assumption
   ·split at hb <;> simp at hb
  refine ts (rm rfl (ro rfl (cQ cV) (ra rfl (eX (bE rfl (fX (eU rfl) ?_) (fX (eU rfl) ?_))))))
  ·exact (fun v V h=>cB (Nat.div_eq_of_lt hlt).symm v V (gU v V h))
  ·exact (cB (Nat.mod_eq_of_lt hlt).symm)
 ·simp only [decide_eq_false_iff_not] at hb
  have hle : n ≤ m := by
   unfold nN at hb
   split at hb
   ·simp at hb
   ·omega
  clear hb
  refine cU (cK (ts (rm rfl (ro rfl (dG U_28 (Ht rfl) aA) (ro rfl (cD (Ht rfl) (cJ 1)) (eX (dQ (Ht rfl) (fun h1=>?_) (fun h1=>?_))))))))
  ·simp at h1
   have hy0:=Ow h1
   have hyb:=aS (bC n) 0
   have hmod:=Nat.mod_lt m (show (dg n).getD 0 0 > 0 by omega)
   simp only [BB] at hyb
   refine ts (rm rfl (rm rfl (ro rfl (dZ U_28 Z_24 (Ht rfl) (cJ 0) rfl (dY (aF zo))) (ro rfl (dJ A_24 Z_24 (Ht rfl)) (ro rfl (cZ Tryz.call250 (Iu zo zo hyb) ⟨(Ht rfl),(Ht rfl),trivial⟩) (rm rfl (ro rfl (dK (Ht rfl) rfl) (ro rfl (dK (Ht rfl) rfl) (ra rfl (ra rfl (eX (ts (rm rfl (rm rfl (ro rfl (gJ U_24 U_274 (Ht rfl) z7) (ro rfl (cZ Tryz.call207 (Aj zo) ⟨(Ht rfl),trivial⟩) ?_))))))))))))))))
   refine ra rfl (ra rfl (eX (bE rfl (fX (eU rfl) ?_) (fX (eU rfl) ?_))))
   ·exact (cB (by rw [hy0]))
   ·exact (cB (by rw [hy0]))
  ·simp at h1
   have hl0:(dg n).length ≠ 0:=fun e=>hn (aH.1 e)
   have hyb:=aS (bC n) ((dg n).length - 1)
   obtain ⟨s,hs⟩:∃ s,s = 32 - bl ((dg n).getD ((dg n).length - 1) 0):=⟨_,rfl⟩
   obtain ⟨hs1,hvl,hvb⟩:=Dc hn hs
   obtain ⟨hc1,hc2,hc3,hc4⟩:=Cw (m:=m) hs1
   simp only [BB] at hyb
   have hp2:0 < 2 ^ s:=Nat.pow_pos (by decide)
   have hX0:(dg (m * 2 ^ s)).length ≠ 0:=fun e=>(Nat.ne_of_gt (Nat.mul_pos (show 0 < m by omega) hp2)) (aH.1 e)
   have hmono:=gL hle
   refine cU (ts (rm rfl (ro rfl (dG U_28 (Ht rfl) aA) (rm rfl (rm rfl (ro rfl (dG U_28 (Ht rfl) aA) (ro rfl (dW (Ht rfl) (cJ 1) zo z6) (ro rfl (dZ U_28 Z_24 (Ht rfl) (Ht rfl) rfl (dY (aF zo))) (ro rfl (dJ A_24 Z_24 (Ht rfl)) (ro rfl (aD.nat (cZ Tryz.call251 (Ze zo) ⟨(Ht rfl),trivial⟩) hs.symm) (ra rfl (ra rfl (eX (ts (rm rfl (rm rfl (ro rfl (cZ Tryz.call206 (Xn zo zo) ⟨(Ht rfl),(Ht rfl),trivial⟩) ?_)))))))))))))))))
   refine ra rfl (eX (ts (rm rfl (ro rfl (dG U_28 (Ht rfl) aA) (ro rfl (dV (Ht rfl) (cJ 1) z6) (rn rfl (gB (T:=bL 0) (i:=Tryz.t24) V_28 jH rfl rfl (Ht rfl) rfl (fun _=>rfl) trivial (by show 4 * _ ≤ _; omega) zo) fun B55=>(ra rfl (eX (ts (rm rfl (rm rfl (rm rfl (ro rfl (cZ Tryz.call206 (Xn zo zo) ⟨(Ht rfl),(Ht rfl),trivial⟩) (Hq U_28 Z_24 (Ht rfl) (Ht rfl) (Pw hX0) Yc (i:=0) rfl (by simp) (by simp; omega) (Cy _ _) rfl rfl ?_))))))))))))))
   refine eX (ts (rm rfl (ro rfl (jJ U_28 (Ht rfl)) (rm rfl (ro rfl (dW (Ht rfl) (Ht rfl) zo z6) (rn rfl (gB (T:=bL 0) (i:=Tryz.t24) V_28 jH rfl rfl (Ht rfl) rfl (fun _=>rfl) trivial (by show 4 * _ ≤ _; omega) zo) fun B65=>(ra rfl (eX (cK (ts (rm rfl (ro rfl (jJ U_28 (Ht rfl)) (ro rfl (gP (Ht rfl) cV (uX zo)) (ra rfl (eX (eG ?_))))))))))))))))
   obtain ⟨vs,hvs⟩:∃ vs,vs = dg (n * 2 ^ s):=⟨_,rfl⟩
   rw [← hvs] at hvl hvb
   have hv:iV vs:=hvs ▸ bC _
   have hvv:val vs = n * 2 ^ s:=by rw [hvs,cF]
   have hV0:0 < val vs:=by rw [hvv]; exact Nat.mul_pos zo hp2
   have hnr:=Jr hv zo hvb
   have hv1:=hnr.v1lt; have hv2:=hnr.v2lt; have hbig:=hnr.big
   simp only [BB] at hv1 hv2 hbig
   refine jV (fun (k : Nat) (us : List Nat) (qs : List Nat) => lS (m * 2 ^ s) vs us qs k ∧ us.length = (dg m).length + 1) (fun (k : Nat) (us : List Nat) (qs : List Nat) => k) (fun (k : Nat) (us : List Nat) (qs : List Nat) => [(8, NT .i64 vs.length), (9, NT .i64 s), (10, tJ vs), (11, Is (.slice (some ⟨B55, 0, none⟩) ((dg m).length + 1) ((dg m).length + 1))), (12, Is (.slice (some ⟨B65, 0, none⟩) ((dg m).length + 1 - (dg n).length) ((dg m).length + 1 - (dg n).length))), (13, aI .i64 ((k : Int) - 1))]) (fun (k : Nat) (us : List Nat) (qs : List Nat) => [box B55 24 (us.map bL), box B65 24 (qs.map bL)]) ((dg m).length + 1 - (dg n).length) (wY m s) (List.replicate ((dg m).length + 1 - (dg n).length) 0) ⟨lS.start hv zo hvb hs1 (by have := gT (bC m); rwa [cF] at this) hc3 hc2 hc4 zo, hc2⟩
    (aZ rfl (kJ hvl.symm) (aQ rfl (aZ rfl (fun v V h=>by rw [hvs]; exact h) (aQ rfl (aQ rfl (aZ rfl (aN zo) aX)))))) (aU (fun _ _ _ h=>h) (aU (aR (kU _)) aY)) (fun k us qs ⟨hS,hus⟩=>?_)
   refine cK (ts (rm rfl (ro rfl (kD (Ht rfl) cV) (eX (dQ (Ht rfl) (fun hk=>?_) (fun hk=>?_))))))
   ·simp at hk
    obtain ⟨j,rfl⟩:∃ j,k = j + 1:=⟨k - 1,by omega⟩
    have htp:=hS.top hv zo (Nat.succ_pos j) rfl
    have hkq:=hS.kle; have hlq:=hS.lenq
    rw [Nat.add_sub_cancel] at htp
    have hu0:=aS hS.dig (j + vs.length); have hu1:=aS hS.dig (j + vs.length - 1); have hu2:=aS hS.dig (j + vs.length - 2)
    have ht64:=Rw hu0 hu1; have hsh:=Et hu0
    obtain ⟨top,htop⟩:∃ top,top = us.getD (j + vs.length) 0 * BB + us.getD (j + vs.length - 1) 0:=⟨_,rfl⟩
    have hor:=(sJ (a:=us.getD (j + vs.length) 0) hu1).trans htop.symm
    rw [← htop] at htp ht64
    have hu2b:=hu2
    simp only [BB] at hu0 hu1 hu2
    refine rT (E':=[(8,_),(9,_),(10,_),(11,_),(12,_),(13,_),(69,_),(70,_)]) (aQ rfl (aQ rfl (aQ rfl (aQ rfl (aQ rfl (aZ rfl (aN (show ((j + 1:Nat):Int) - 1 = (j:Int) by omega)) (zS rfl))))))) (cU (cK (eG (cK (fZ (m:=16) (dp 11 rfl (cX (Ht rfl)) (dp 13 rfl (cX (Ht rfl)) (dp 8 rfl (cX (Ht rfl)) (eE 74 1 75 2 rfl (dV (Ht rfl) (Ht rfl) z6) (eE 73 0 76 3 rfl (gQ U_28 Z_24 (Ht rfl) (Ht rfl) rfl zo (by rw [Nat.mul_one,Nat.zero_add])) ?_))))))))))
    refine dq 77 4 rfl (eY A_24 Z_24 (Ht rfl) (i:=0) rfl (dY (aF zo))) (dq 78 5 rfl (gJ U_24 U_274 (Ht rfl) z7) (dq 79 6 rfl (lF (Ht rfl) (cJ 32) (by decide) hsh) (dp 11 rfl (cX (Ht rfl)) (dp 13 rfl (cX (Ht rfl)) (dp 8 rfl (cX (Ht rfl)) (eE 82 9 83 10 rfl (dV (Ht rfl) (Ht rfl) z6) (dq 84 11 rfl (dW (Ht rfl) (cJ 1) zo z6) ?_)))))))
    refine eE 81 8 85 12 rfl (gQ U_28 Z_24 (Ht rfl) (Ht rfl) rfl zo (by rw [Nat.mul_one,Nat.zero_add])) ?_
    refine dq 86 13 rfl (eY A_24 Z_24 (Ht rfl) (i:=0) rfl (dY (aF zo))) (dq 87 14 rfl (gJ U_24 U_274 (Ht rfl) z7) (fV bB rfl (by kernel_rfl) (zF (zF (zF (zF (aV (ro rfl (aD.nat (mX rfl (Ht rfl) (Ht rfl) z7 z7) hor) ?_))))))))
    refine ra rfl (eX (cK (fZ (m:=17) (dp 14 rfl (cX (Ht rfl)) (dp 10 rfl (cX (Ht rfl)) (dp 8 rfl (cX (Ht rfl)) (dq 92 2 rfl (dW (Ht rfl) (cJ 1) zo z6) (eE 91 1 93 3 rfl (dZ U_28 Z_24 (Ht rfl) (Ht rfl) rfl (dY (aF zo))) (dq 94 4 rfl (dJ A_24 Z_24 (Ht rfl)) (dq 95 5 rfl (gJ U_24 U_274 (Ht rfl) z7) ?_))))))))))
    refine eE 90 0 96 6 rfl (gY (Ht rfl) (Ht rfl) zo (by show _ < 18446744073709551616; exact ht64)) (dp 14 rfl (cX (Ht rfl)) (dp 10 rfl (cX (Ht rfl)) (dp 8 rfl (cX (Ht rfl)) (dq 100 10 rfl (dW (Ht rfl) (cJ 1) zo z6) (eE 99 9 101 11 rfl (dZ U_28 Z_24 (Ht rfl) (Ht rfl) rfl (dY (aF zo))) (dq 102 12 rfl (dJ A_24 Z_24 (Ht rfl)) (dq 103 13 rfl (gJ U_24 U_274 (Ht rfl) z7) ?_)))))))
    refine eE 98 8 104 14 rfl (iK (Ht rfl) (Ht rfl) zo) (dq 97 7 rfl (cQ (Ht rfl)) (fV bB rfl (by kernel_rfl) (zF (zF (zF (zF (aJ (aV (ra rfl (eX (cK (iA (fun (g:Nat)=>Fi (val (us.drop j)) (val vs) g) (fun (g:Nat)=>[(8,NT .i64 vs.length),(9,NT .i64 s),(10,tJ vs),(11,Is (.slice (some ⟨B55,0,none⟩) ((dg m).length + 1) ((dg m).length + 1))),(12,Is (.slice (some ⟨B65,0,none⟩) ((dg m).length + 1 - (dg n).length) ((dg m).length + 1 - (dg n).length))),(13,NT .i64 j),(15,NT .u64 g)]) (fun (g:Nat)=>[box B55 24 (us.map bL),box B65 24 (qs.map bL)]) ?_ (fun g hg=>?_)))))))))))))
    ·refine eG ?_
     refine gC (fun (g : Nat) (r : Nat) => kA (val (us.drop j)) (val vs) (vs.getD (vs.length - 1) 0) top g r ∧ r < 4294967296) (fun (g : Nat) (r : Nat) => g) (fun (g : Nat) (r : Nat) => [(8, NT .i64 vs.length), (9, NT .i64 s), (10, tJ vs), (11, Is (.slice (some ⟨B55, 0, none⟩) ((dg m).length + 1) ((dg m).length + 1))), (12, Is (.slice (some ⟨B65, 0, none⟩) ((dg m).length + 1 - (dg n).length) ((dg m).length + 1 - (dg n).length))), (13, NT .i64 j), (15, NT .u64 g), (16, NT .u64 r)]) (fun (g : Nat) (r : Nat) => [box B55 24 (us.map bL), box B65 24 (qs.map bL)]) (top / vs.getD (vs.length - 1) 0) (top % vs.getD (vs.length - 1) 0) ⟨kA.start hnr htp, Nat.lt_trans (Nat.mod_lt _ zo) hv1⟩
      (zS rfl) (cA.refl _) (fun g r ⟨hG,hr⟩=>?_)
     have hgl:=(hG.glt hnr htp).1
     have hrs:=Et (a:=r) hr
     have horr:=sJ (a:=r) hu2b
     simp only [BB] at hgl
     refine cK (cK (fZ (m:=22) (dp 15 rfl (cX (Ht rfl)) (dq 106 0 rfl (nL (Ht rfl) (cJ 4294967296)) (dq 107 1 rfl (cX (Ht rfl)) (C.D_step (Ei:=[(15,_),(108,_)]) rfl rfl (bV (bK rfl rfl) (bV (bG 2 rfl rfl) bW)) (eK rfl rfl (Ht rfl) (fun h=>cX (Ht rfl))) (C.D_step (Ei:=[(10,_),(108,_)]) rfl rfl (bV (bK rfl rfl) (bV (bG 2 rfl rfl) bW)) (eK rfl rfl (Ht rfl) (fun h=>cX (Ht rfl))) (C.D_step (Ei:=[(8,_),(108,_)]) rfl rfl (bV (bK rfl rfl) (bV (bG 2 rfl rfl) bW)) (eK rfl rfl (Ht rfl) (fun h=>cX (Ht rfl))) ?_))))))))
     refine C.D_step (Ei:=[(111,_),(108,_)]) rfl rfl (bV (bG 5 rfl rfl) (bV (bG 2 rfl rfl) bW)) (eK rfl rfl (Ht rfl) (fun h=>dW (fJ rfl h) (cJ 2) (by first | omega | (simp at h; omega)) (by show _ < 9223372036854775808; first | omega | (simp at h; omega)))) (C.D_step (Ei:=[(110,_),(112,_),(108,_)]) rfl rfl (bV (bG 4 rfl rfl) (bV (bG 6 rfl rfl) (bV (bG 2 rfl rfl) bW))) (eK rfl rfl (Ht rfl) (fun h=>dZ U_28 Z_24 (fJ rfl h) (fJ rfl h) rfl (dY (aF (by first | omega | (simp at h; omega)))))) ?_)
     refine C.D_step (Ei:=[(113,_),(108,_)]) rfl rfl (bV (bG 7 rfl rfl) (bV (bG 2 rfl rfl) bW)) (eK rfl rfl (Ht rfl) (fun h=>dJ A_24 Z_24 (fJ rfl h))) (C.D_step (Ei:=[(114,_),(108,_)]) rfl rfl (bV (bG 8 rfl rfl) (bV (bG 2 rfl rfl) bW)) (eK rfl rfl (Ht rfl) (fun h=>gJ U_24 U_274 (fJ rfl h) (by show _ < 18446744073709551616; first | omega | (simp at h; omega)))) (C.D_step (Ei:=[(109,_),(115,_),(108,_)]) rfl rfl (bV (bG 3 rfl rfl) (bV (bG 9 rfl rfl) (bV (bG 2 rfl rfl) bW))) (eK rfl rfl (Ht rfl) (fun h=>jK (fJ rfl h) (fJ rfl h) (by show _ < 18446744073709551616; simp at h; exact Xw h hv2))) ?_))
     refine C.D_step (Ei:=[(16,_),(108,_)]) rfl rfl (bV (bK rfl rfl) (bV (bG 2 rfl rfl) bW)) (eK rfl rfl (Ht rfl) (fun h=>cX (Ht rfl))) (C.D_step (Ei:=[(117,_),(108,_)]) rfl rfl (bV (bG 11 rfl rfl) (bV (bG 2 rfl rfl) bW)) (eK rfl rfl (Ht rfl) (fun h=>lF (fJ rfl h) (cJ 32) (by decide) hrs)) (C.D_step (Ei:=[(11,_),(108,_)]) rfl rfl (bV (bK rfl rfl) (bV (bG 2 rfl rfl) bW)) (eK rfl rfl (Ht rfl) (fun h=>cX (Ht rfl))) (C.D_step (Ei:=[(13,_),(108,_)]) rfl rfl (bV (bK rfl rfl) (bV (bG 2 rfl rfl) bW)) (eK rfl rfl (Ht rfl) (fun h=>cX (Ht rfl))) ?_)))
     refine C.D_step (Ei:=[(8,_),(108,_)]) rfl rfl (bV (bK rfl rfl) (bV (bG 2 rfl rfl) bW)) (eK rfl rfl (Ht rfl) (fun h=>cX (Ht rfl))) (C.D_step (Ei:=[(120,_),(121,_),(108,_)]) rfl rfl (bV (bG 14 rfl rfl) (bV (bG 15 rfl rfl) (bV (bG 2 rfl rfl) bW))) (eK rfl rfl (Ht rfl) (fun h=>dV (fJ rfl h) (fJ rfl h) (by show _ < 9223372036854775808; first | omega | (simp at h; omega)))) (C.D_step (Ei:=[(122,_),(108,_)]) rfl rfl (bV (bG 16 rfl rfl) (bV (bG 2 rfl rfl) bW)) (eK rfl rfl (Ht rfl) (fun h=>dW (fJ rfl h) (cJ 2) (by first | omega | (simp at h; omega)) (by show _ < 9223372036854775808; first | omega | (simp at h; omega)))) ?_))
     refine C.D_step (Ei:=[(119,_),(123,_),(108,_)]) rfl rfl (bV (bG 13 rfl rfl) (bV (bG 17 rfl rfl) (bV (bG 2 rfl rfl) bW))) (eK rfl rfl (Ht rfl) (fun h=>gQ U_28 Z_24 (fJ rfl h) (fJ rfl h) rfl (by first | omega | (simp at h; omega)) (by rw [Nat.mul_one,Nat.zero_add]))) ?_
     refine C.D_step (Ei:=[(124,_),(108,_)]) rfl rfl (bV (bG 18 rfl rfl) (bV (bG 2 rfl rfl) bW)) (eK rfl rfl (Ht rfl) (fun h=>eY A_24 Z_24 (fJ rfl h) (i:=0) rfl (dY (aF zo)))) (C.D_step (Ei:=[(125,_),(108,_)]) rfl rfl (bV (bG 19 rfl rfl) (bV (bG 2 rfl rfl) bW)) (eK rfl rfl (Ht rfl) (fun h=>gJ U_24 U_274 (fJ rfl h) (by show _ < 18446744073709551616; first | omega | (simp at h; omega)))) (C.D_step (Ei:=[(118,_),(126,_),(108,_)]) rfl rfl (bV (bG 12 rfl rfl) (bV (bG 20 rfl rfl) (bV (bG 2 rfl rfl) bW))) (eK rfl rfl (Ht rfl) (fun h=>aD.nat (mX rfl (fJ rfl h) (fJ rfl h) (by show _ < 18446744073709551616; first | omega | (simp at h; omega)) (by show _ < 18446744073709551616; first | omega | (simp at h; omega))) horr)) ?_))
     refine fV bB rfl (by kernel_rfl) (zF (zF (zF (zF (zF (aJ (aJ (aV (fQ rfl rfl (eK rfl rfl (Ht rfl) (fun h=>dE (fJ rfl h) (fJ rfl h))) (ro rfl (iF (Ht rfl) (fun h=>(fJ rfl h))) (eX (dQ (Ht rfl) (fun hc=>?_) (fun hc=>?_)))))))))))))
     ·have hn2 := hG.next hnr htp (by simpa [BB] using hc)
      have hg1:=hn2.2
      refine cU (eG (ts (rm rfl (ro rfl (dW (Ht rfl) (cJ 1) zo z7) (ra rfl (eX (ts (rm rfl (rm rfl (rm rfl (ro rfl (dW (Ht rfl) (cJ 1) zo z6) (ro rfl (dZ U_28 Z_24 (Ht rfl) (Ht rfl) rfl (dY (aF zo))) (ro rfl (dJ A_24 Z_24 (Ht rfl)) (ro rfl (gJ U_24 U_274 (Ht rfl) z7) ?_))))))))))))))
      refine ro rfl (dV (Ht rfl) (Ht rfl) z7) (ra rfl (eX (ts (rm rfl (ro rfl (nL (Ht rfl) (cJ 4294967296)) (eX (dQ (Ht rfl) (fun hr2=>?_) (fun hr2=>?_))))))))
      ·simp at hr2
       refine gW rfl (aO (g - 1) (hn2.1.stop hnr htp hr2) (zS rfl) (cA.refl _))
      ·simp at hr2
       refine cU (T_blk (fY (g - 1,_) ⟨hn2.1,hr2⟩ (by dsimp only; omega) (zS rfl) (cA.refl _)))
     ·simp at hc
      refine gW rfl (aO g (hG.done hnr htp hc.1 hc.2) (zS rfl) (cA.refl _))
    ·have hglt := hg.lt
     simp only [BB] at hglt
     refine cK (oB (fun (us2:List Nat) (g2:Nat)=>lS (m * 2 ^ s) vs us2 (qs.set j g2) j ∧ g2 < 4294967296 ∧ us2.length = (dg m).length + 1) (fun (us2:List Nat) (g2:Nat)=>[(8,NT .i64 vs.length),(9,NT .i64 s),(10,tJ vs),(11,Is (.slice (some ⟨B55,0,none⟩) ((dg m).length + 1) ((dg m).length + 1))),(12,Is (.slice (some ⟨B65,0,none⟩) ((dg m).length + 1 - (dg n).length) ((dg m).length + 1 - (dg n).length))),(13,NT .i64 j),(15,NT .u64 g2)]) (fun (us2:List Nat) (g2:Nat)=>[box B55 24 (us2.map bL),box B65 24 (qs.map bL)]) ?_ (fun us2 g2 ⟨hD,hg2,hus2⟩=>?_))
     ·refine ts (rm rfl (rm rfl (rm rfl (rm rfl (zY Tryz.call252 (Zj hus hS.dig hv hg.lt zo zo) (i := 0) rfl ⟨(Ht rfl), (Ht rfl), (Ht rfl), (Ht rfl), trivial⟩ rfl (fun ⟨out, b⟩ hT => ?_))))))
      dsimp only at hT
      refine eX (dQ (Ht rfl) (fun hbb=>?_) (fun hbb=>?_))
      ·have hbb : b = true := hbb
       subst hbb
       have hg0:=hS.gpos hv rfl zo hT
       have hol:=hT.len
       refine ts (rm rfl (ro rfl (dW (Ht rfl) (cJ 1) zo z7) (ra rfl (eX (ts (ro rfl (cQ (cJ 0)) (eX (cK (ts (rm rfl (ro rfl (dG U_28 (Ht rfl) aA) (ro rfl (cX (cJ 0)) (eX (eG ?_))))))))))))))
       refine jV (fun (i : Nat) (out2 : List Nat) (c : Nat) => oX out vs j out2 i c) (fun (i : Nat) (out2 : List Nat) (c : Nat) => vs.length - i) (fun (i : Nat) (out2 : List Nat) (c : Nat) => [(8, NT .i64 vs.length), (9, NT .i64 s), (10, tJ vs), (11, Is (.slice (some ⟨B55, 0, none⟩) ((dg m).length + 1) ((dg m).length + 1))), (12, Is (.slice (some ⟨B65, 0, none⟩) ((dg m).length + 1 - (dg n).length) ((dg m).length + 1 - (dg n).length))), (13, NT .i64 j), (15, NT .u64 (g - 1 : Nat)), (17, NT .u64 c), (149, tJ vs), (150, NT .i64 vs.length), (151, NT .i64 i)]) (fun (i : Nat) (out2 : List Nat) (c : Nat) => [box B55 24 (out2.map bL), box B65 24 (qs.map bL)]) 0 out 0 (oX.start hT.dig vs j)
        (zS rfl) (cA.refl _) (fun i out2 c hB=>?_)
       refine ts (ro rfl (gZ (Ht rfl) (Ht rfl)) (eX (cK (dQ (Ht rfl) (fun hi=>?_) (fun hi=>?_)))))
       ·simp at hi
        have hlen:=hB.len; have hcl:=hB.cle; have hvi:=aS hv i; have hok:=aS hB.dig (i + j)
        simp only [BB] at hvi hok
        refine cU (cK (eG (ts (rm rfl (ro rfl (dZ U_28 Z_24 (Ht rfl) (Ht rfl) rfl (dY (aF zo))) (ro rfl (dJ A_24 Z_24 (Ht rfl)) (ra rfl (ra rfl (eX (ts (rm rfl (rm rfl (rm rfl (rm rfl (ro rfl (dV (Ht rfl) (Ht rfl) z6) (ro rfl (gQ U_28 Z_24 (Ht rfl) (Ht rfl) rfl zo (by rw [Nat.mul_one,Nat.zero_add])) ?_))))))))))))))))
        refine ro rfl (eY A_24 Z_24 (Ht rfl) (i:=0) rfl (dY (aF zo))) (ro rfl (gJ U_24 U_274 (Ht rfl) z7) (rm rfl (ro rfl (gJ U_24 U_274 (Ht rfl) z7) (ro rfl (dV (Ht rfl) (Ht rfl) z7) (ro rfl (dV (Ht rfl) (Ht rfl) z7) ?_)))))
        refine ra rfl (eX (ts (rm rfl (rm rfl (rm rfl (ro rfl (dV (Ht rfl) (Ht rfl) z6) (rm rfl (ro rfl (fP rfl U_274 U_24 (Ht rfl)) (ro rfl (gQ U_28 Z_24 (Ht rfl) (Ht rfl) rfl zo (by rw [Nat.mul_one,Nat.zero_add])) ?_)))))))))
        refine iD Z_24 (Ht rfl) (Ht rfl) (i:=0) rfl (by first | omega | (simp; omega)) rfl (eX (cY (rm rfl (ro rfl (dS (Ht rfl) (cJ 32) (by decide)) (ra rfl (eX (T_blk (cY (ro rfl (dV (Ht rfl) (cJ 1) z6) (rm rfl (eX (fY (i + 1,_,_) (hB.next hv hi zo rfl) (by dsimp only; omega) (zS rfl) (aU (aR (fM _ _ _)) (aU (fun _ _ _ h=>h) aY))))))))))))))
       ·simp at hi
        have hil:i = vs.length:=Nat.le_antisymm hB.ile hi
        subst hil
        have hlen:=hB.len; have hcl:=hB.cle; have hok:=aS hB.dig (j + vs.length)
        have hBk:=hB.fin zo rfl
        obtain ⟨_,hDn⟩:=hS.wrong hv hV0 (Nat.succ_pos j) rfl hg hT hBk
        simp only [BB] at hok
        refine gW rfl (cY (rm rfl (rm rfl (rm rfl (ro rfl (dV (Ht rfl) (Ht rfl) z6) (ro rfl (gQ U_28 Z_24 (Ht rfl) (Ht rfl) rfl zo (by rw [Nat.mul_one,Nat.zero_add])) ?_))))))
        refine ro rfl (eY A_24 Z_24 (Ht rfl) (i:=0) rfl (dY (aF zo))) (rm rfl (ro rfl (gJ U_274 U_24 (Ht rfl) (by show _ < 4294967296; first | omega | (simp only [jX]; omega))) (ro rfl (Jt rfl (Ht rfl) (Ht rfl)) (ro rfl (gQ U_28 Z_24 (Ht rfl) (Ht rfl) rfl zo (by rw [Nat.mul_one,Nat.zero_add])) ?_))))
        refine iD Z_24 (Ht rfl) (Ht rfl) (i:=0) rfl (by first | omega | (simp; omega)) rfl (eX (aO (_,g - 1) ⟨hDn,by dsimp only; omega,by simp; omega⟩ (zS rfl) (aU (aR (fM _ _ _)) (aU (fun _ _ _ h=>h) aY))))
      ·have hbb : b = false := hbb
       subst hbb
       have hol:=hT.len
       refine cU (aO (out,g) ⟨hS.right hv hV0 (Nat.succ_pos j) rfl hg hT,hglt,by dsimp only; omega⟩ (zS rfl) (cA.refl _))
     ·refine cY (rm rfl (rm rfl (rm rfl (ro rfl (gJ U_274 U_24 (Ht rfl) (by show _ < 4294967296; first | omega | (simp only [jX]; omega))) (ro rfl (gQ U_28 Z_24 (Ht rfl) (Ht rfl) rfl zo (by rw [Nat.mul_one, Nat.zero_add])) ?_)))))
      refine iD Z_24 (Ht rfl) (Ht rfl) (i:=1) rfl (by first | omega | (simp; omega)) rfl (eX (T_blk (cY (rm rfl (ro rfl (gP (Ht rfl) cV (uX zo)) (ra rfl (eX (fY (j,us2,_) ⟨hD,hus2⟩ (by dsimp only; omega) (zS rfl) (aU (fun _ _ _ h=>h) (aU (aR (fM _ _ _)) aY))))))))))
   ·simp at hk
    have hk0:k = 0:=by omega
    subst hk0
    have hfin:=hS.fin hV0
    have hlq:=hS.lenq
    rw [hvv] at hfin
    have hdiv:val qs = m / n:=by rw [hfin.1]; exact Nat.mul_div_mul_right _ _ hp2
    have hsm:val us < BB ^ vs.length:=by have h1:=hS.small; rw [List.drop_zero] at h1; exact Nat.lt_trans h1 (gT hv)
    have hmod : val (us.take vs.length) / 2 ^ s = m % n := by
     rw [mF hsm zo,hfin.2,Nat.mul_mod_mul_right,Nat.mul_div_cancel _ hp2]
    have hru : (dg (val (us.take vs.length))).length ≤ 17592186044416 := by
     refine Nat.le_trans (iG (k:=vs.length) ?_) zo
     rw [mF hsm zo]; exact hsm
    refine gW rfl (gV (i:=1) (tt:=12) rfl rfl (kZ rfl zo (Nat.le_refl _)) (gV (i:=0) (tt:=11) rfl rfl (kZ rfl zo (Nat.le_refl _)) (cK (fZ (m:=7) (dp 12 rfl (cX (Ht rfl)) (dq 193 0 rfl (cZ K_203 (oE _ hS.digq zo) ⟨(Ht rfl),trivial⟩) (dp 11 rfl (cX (Ht rfl)) (dp 8 rfl (cX (Ht rfl)) (eE 195 2 196 3 rfl (aD.imp (qS U_28 Z_24 (Ht rfl) (Ht rfl) (fun m e=>by cases e) zo (by simp; omega) rfl) (Jc _ _)) ?_)))))))))
    refine dq 197 4 rfl (cZ K_203 (oE _ (hS.dig.take' vs.length) (by simp; omega)) ⟨(Ht rfl),trivial⟩) ?_
    refine dp 9 rfl (cX (Ht rfl)) (fV bB rfl (by kernel_rfl) (zF (aJ (aJ (aJ (aV (ro rfl (cZ Tryz.call253 (a1f hru zo) ⟨(Ht rfl),(Ht rfl),trivial⟩) (ra rfl (ra rfl (eX (bE rfl (fX (eU rfl) ?_) (fX (eU rfl) ?_))))))))))))
    ·exact (cB hdiv)
    ·exact (cB hmod)
end
section
open Go Go.RowKit
theorem Pl:Tryz.prog.info? 5 = some Tryz.t5:=by kernel_rfl
theorem vX:Tryz.prog.underlying 341 = some (.slice 5):=by kernel_rfl
theorem Yf:Tryz.prog.underlying 5 = some (.int .u8):=by kernel_rfl
theorem Yg:Tryz.prog.underlying 9 = some (.string):=by kernel_rfl
end
section
open Go Go.RowKit
theorem Xl {m n:Nat} (hm:(dg m).length ≤ 17592186044415) (hn:(dg n).length ≤ 17592186044415):aT Tryz.prog 200 [aM m,aM n] (aM (Nat.gcd m n)):=by
 refine aT.intro Tryz.func200 rfl Tryz.ntmps200 rfl (fun cx=>(ts (ro rfl (cQ cV) (eX (cK (eG ?_))))))
 refine gC (fun (x : Nat) (y : Nat) => Nat.gcd x y = Nat.gcd m n ∧ (dg x).length ≤ 17592186044415 ∧ (dg y).length ≤ 17592186044415) (fun (x : Nat) (y : Nat) => y) (fun (x : Nat) (y : Nat) => [(0, aM x), (1, aM y)]) (fun (x : Nat) (y : Nat) => []) m n ⟨rfl, hm, hn⟩
  (zS rfl) aY (fun x y ⟨hg,hx,hy⟩=>?_)
 refine cK (ts (rm rfl (ro rfl (dG U_28 (Ht rfl) aA) (ro rfl (dE (Ht rfl) (cJ 0)) (eX (dQ (Ht rfl) (fun hb=>?_) (fun hb=>?_)))))))
 ·simp at hb
  have hy0:y ≠ 0:=fun e=>by rw [e,dD] at hb; simp at hb
  have hlt:=Nat.mod_lt x (Nat.pos_of_ne_zero hy0)
  refine cU (eG (ts (rm rfl (rm rfl (ro rfl (cZ Tryz.call202 (Ij hx zo hy0) ⟨(Ht rfl),(Ht rfl),trivial⟩) (rm rfl (ro rfl (dK (Ht rfl) rfl) (ro rfl (dK (Ht rfl) rfl) (ra rfl (ra rfl (eX (cY (rm rfl (rm rfl (ra rfl (ra rfl (eX (T_blk (fY (y,x % y) ⟨by rw [← hg,Nat.gcd_comm x y,Nat.gcd_rec y x,Nat.gcd_comm],hy,Nat.le_trans (gL (Nat.le_of_lt hlt)) hy⟩ hlt (zS rfl) aY)))))))))))))))))))
 ·simp at hb
  have hy0:y = 0:=aH.1 (by simpa using hb)
  subst hy0
  rw [Nat.gcd_zero_right] at hg
  refine gW rfl (ts (rm rfl (ra rfl (eX (fW rfl (fX (eU rfl) ?_))))))
  exact (cB hg)
theorem a1e {l:List Nat} {v:Value} (hl:l.length ≤ 1152921504606846976):iC Tryz.prog 283 [Is v] [bH 5 1 v (l.map uK)] Unit (fun _=>iM) (fun _=>[bH 5 1 v (l.reverse.map uK)]) (fun _=>True):=by
 refine iC.intro Tryz.func283 rfl Tryz.ntmps283 rfl (fun cx Z=>(ts (rm rfl (ro rfl (qR U_341 (Ht rfl) (i:=1) rfl aA) (ro rfl (gP (Ht rfl) cV (uX zo)) (ro rfl (cQ (cJ 0)) (ra rfl (eX (eG ?_)))))))))
 refine gC (fun (k : Nat) (o : List Nat) => wH l o k) (fun (k : Nat) (o : List Nat) => l.length - k) (fun (k : Nat) (o : List Nat) => [(0, Is v), (2, NT .i64 k), (3, aI .i64 ((l.length : Int) - 1 - (k : Int)))]) (fun (k : Nat) (o : List Nat) => [Z, bH 5 1 v (o.map uK)]) 0 l (wH.start l)
  (aQ rfl (aQ rfl (aZ rfl (aN zo) aX))) (cA.refl _) (fun k o hS=>?_)
 refine cK (ts (rm rfl (rm rfl (ro rfl (mW (Ht rfl) (Ht rfl)) (eX (dQ (Ht rfl) (fun hb=>?_) (fun hb=>?_)))))))
 ·simp only [decide_eq_true_eq] at hb
  have hk:2 * k + 1 < l.length:=by omega
  obtain ⟨j,hj⟩:∃ j,j = l.length - 1 - k:=⟨_,rfl⟩
  have hlen:=hS.len
  refine rT (E':=[(0,_),(2,_),(3,_),(7,_),(8,_),(9,_)]) (aQ rfl (aQ rfl (aZ rfl (aN (show (l.length:Int) - 1 - (k:Int) = (j:Int) by omega)) (zS rfl)))) (cU (cK (eG (W.D_start (m:=14) (fun b=>cond b ([Z,bH 5 1 v ((o.map uK).set k (uK (o.getD j 0)))]) _) 13 (W.D_step (Ei:=[(0,_)]) rfl rfl (W.Srcs.cons (W.Src.pre rfl rfl) W.Srcs.nil) rfl (by kernel_rfl) (dX rfl (cX (Ht rfl))) (W.D_step (Ei:=[(2,_)]) rfl rfl (W.Srcs.cons (W.Src.pre rfl rfl) W.Srcs.nil) rfl (by kernel_rfl) (dX rfl (cX (Ht rfl))) ?_))))))
  refine W.D_pure (Ei:=[(0,_)]) rfl rfl (W.Srcs.cons (W.Src.pre rfl rfl) W.Srcs.nil) rfl (fun _=>dX rfl (cX (Ht rfl))) (W.D_pure (Ei:=[(3,_)]) rfl rfl (W.Srcs.cons (W.Src.pre rfl rfl) W.Srcs.nil) rfl (fun _=>dX rfl (cX (Ht rfl))) (W.D_step (Ei:=[(0,_)]) rfl rfl (W.Srcs.cons (W.Src.pre rfl rfl) W.Srcs.nil) rfl (by kernel_rfl) (dX rfl (cX (Ht rfl))) (W.D_step (Ei:=[(3,_)]) rfl rfl (W.Srcs.cons (W.Src.pre rfl rfl) W.Srcs.nil) rfl (by kernel_rfl) (dX rfl (cX (Ht rfl))) (W.D_step (Ei:=[(18,_),(19,_)]) rfl rfl (W.Srcs.cons (W.Src.op 4 rfl rfl) (W.Srcs.cons (W.Src.op 5 rfl rfl) W.Srcs.nil)) rfl (by kernel_rfl) (dX rfl (eO U_341 Z_5 (Ht rfl) (Ht rfl) rfl (i:=1) rfl (by first | omega | (simp; omega)) rfl)) ?_))))
  refine W.D_step (Ei:=[(20,_)]) rfl rfl (W.Srcs.cons (W.Src.op 6 rfl rfl) W.Srcs.nil) rfl (by kernel_rfl) (dX rfl (uE A_5 Z_5 (Ht rfl) (i:=1) rfl rfl (dY (aF zo)))) (W.D_step (Ei:=[(0,_)]) rfl rfl (W.Srcs.cons (W.Src.pre rfl rfl) W.Srcs.nil) rfl (by kernel_rfl) (dX rfl (cX (Ht rfl))) (W.D_step (Ei:=[(2,_)]) rfl rfl (W.Srcs.cons (W.Src.pre rfl rfl) W.Srcs.nil) rfl (by kernel_rfl) (dX rfl (cX (Ht rfl))) (W.D_step (Ei:=[(22,_),(23,_)]) rfl rfl (W.Srcs.cons (W.Src.op 8 rfl rfl) (W.Srcs.cons (W.Src.op 9 rfl rfl) W.Srcs.nil)) rfl (by kernel_rfl) (dX rfl (eO U_341 Z_5 (Ht rfl) (Ht rfl) rfl (i:=1) rfl (by first | omega | (simp; omega)) rfl)) ?_)))
  refine W.D_step (Ei:=[(24,_)]) rfl rfl (W.Srcs.cons (W.Src.op 10 rfl rfl) W.Srcs.nil) rfl (by kernel_rfl) (dX rfl (uE A_5 Z_5 (Ht rfl) (i:=1) rfl rfl (dY (aF zo)))) (W.D_step (Ei:=[(14,_),(15,_)]) rfl rfl (W.Srcs.cons (W.Src.op 0 rfl rfl) (W.Srcs.cons (W.Src.op 1 rfl rfl) W.Srcs.nil)) rfl (by kernel_rfl) (dX rfl (eO U_341 Z_5 (Ht rfl) (Ht rfl) rfl (i:=1) rfl (by first | omega | (simp; omega)) rfl)) (W.D_put (Ei:=[(26,_),(21,_)]) rfl rfl (W.Srcs.cons (W.Src.op 12 rfl rfl) (W.Srcs.cons (W.Src.op 7 rfl rfl) W.Srcs.nil)) rfl (Hm Z_5 (Ht rfl) (Ht rfl) El.one (i:=1) rfl rfl (by first | omega | (simp; omega))) ?_))
  refine W.D_done bB rfl (by kernel_rfl) rfl (W.F_val (W.F_val (W.F_val (W.F_val (W.F_val (W.F_val (W.F_val (W.F_val (W.F_val (W.F_val (W.F_val (W.F_val (W.F_val (W.F_put (W.F_nil (ro rfl (eO U_341 Z_5 (Ht rfl) (Ht rfl) rfl (i:=1) rfl (by first | omega | (simp; omega)) rfl) (mN Z_5 (Ht rfl) (Ht rfl) El.one (i:=1) rfl rfl (by first | omega | (simp; omega)) rfl (eX (T_blk (cY (rm rfl (ro rfl (dV (Ht rfl) (cJ 1) z6) (rm rfl (ro rfl (gP (Ht rfl) cV (uX zo)) ?_))))))))))))))))))))))))
  refine ra rfl (ra rfl (eX (fY (k + 1,_) (hS.next hk hj) (by dsimp only; omega) (aQ rfl (aQ rfl (aZ rfl (aN zo) aX))) (aU (fun _ _ _ h=>h) (aU (bN (Kk _ _ _ _ _)) aY)))))
 ·simp only [decide_eq_false_iff_not] at hb
  have hfin:=hS.fin (by have:=hS.kle; omega)
  refine gW rfl ?_
  exact Yq () trivial [0,1] ⟨⟨_,rfl,fun _ _ _ h=>h⟩,⟨_,rfl,(bN (by rw [hfin]))⟩,trivial⟩ (by decide) (a1U rfl (fun _=>trivial))
theorem Cn {m:Nat} (hm:(dg m).length ≤ 8796093022208):aT Tryz.prog 243 [aM m] (nQ (rU m)):=by
 refine aT.intro Tryz.func243 rfl Tryz.ntmps243 rfl (fun cx=>(ts (ro rfl (cQ (aB.cS (l:=[]) rfl)) (eX (cK (ts (rm rfl (ro rfl (dG U_28 (Ht rfl) aA) (ro rfl (cD (Ht rfl) (cJ 0)) (eX (dQ (Ht rfl) (fun hb=>?_) (fun hb=>?_))))))))))))
 ·simp at hb
  have h0:m = 0:=aH.1 (by simpa using hb)
  subst h0
  refine ts (ro rfl (cQ (aB.cS (l:=[48]) rfl)) (eX (fW rfl (fX (eU rfl) ?_))))
  exact (hZ rfl)
 ·simp at hb
  have h0:m ≠ 0:=fun e=>hb (by rw [e,dD])
  refine cU (ts (ro rfl (cQ cV) (eX (cK (eG (wK 5 1 ?_))))))
  refine jV (fun (x : Nat) (out : List Nat) (v : Value) => wE m out x ∧ x ≤ m) (fun (x : Nat) (out : List Nat) (v : Value) => x) (fun (x : Nat) (out : List Nat) (v : Value) => [(0, aM x), (3, Is v)]) (fun (x : Nat) (out : List Nat) (v : Value) => [bH 5 1 v (out.map uK)]) m [] (.slice none 0 0) ⟨wE.start m, Nat.le_refl m⟩
   (zS rfl) (cA.refl _) (fun x out v ⟨hO,hle⟩=>?_)
  refine cK (ts (rm rfl (ro rfl (dG U_28 (Ht rfl) aA) (ro rfl (dE (Ht rfl) (cJ 0)) (eX (dQ (Ht rfl) (fun hc=>?_) (fun hc=>?_)))))))
  ·simp at hc
   have hx0:x ≠ 0:=fun e=>by rw [e,dD] at hc; simp at hc
   have hxm:=gL hle
   refine cU (eG (ts (ro rfl (cQ (cJ 0)) (eX (ts (rm rfl (ro rfl (cZ Tryz.call250 (Iu zo (by decide) (by decide)) ⟨(Ht rfl),(cJ 1000000000),trivial⟩) (rm rfl (ro rfl (dK (Ht rfl) rfl) (ro rfl (dK (Ht rfl) rfl) (ra rfl (ra rfl (eX (ts (ro rfl (cQ (cJ 0)) (eX (eG ?_)))))))))))))))))
   refine sQ (fun (r : Nat) (k : Nat) (out : List Nat) (v : Value) => uZ m out (x / 1000000000) r k) (fun (r : Nat) (k : Nat) (out : List Nat) (v : Value) => 9 - k) (fun (r : Nat) (k : Nat) (out : List Nat) (v : Value) => [(0, aM (x / 1000000000)), (3, Is v), (4, bL r), (5, NT .i64 k)]) (fun (r : Nat) (k : Nat) (out : List Nat) (v : Value) => [bH 5 1 v (out.map uK)]) (x % 1000000000) 0 out v (hO.inner)
    (zS rfl) (cA.refl _) (fun r k out v hI=>?_)
   refine cK (ts (rm rfl (ro rfl (gZ (Ht rfl) (cJ 9)) (rm rfl (fQ rfl rfl (lV rfl rfl (Ht rfl) (fun h=>cX (Ht rfl))) (fQ rfl rfl (lV rfl rfl (Ht rfl) (fun h=>dG U_28 (aB.wu rfl h) aA)) (fQ rfl rfl (lV rfl rfl (Ht rfl) (fun h=>dE (aB.wu rfl h) (cJ 0))) (fQ rfl rfl (lV rfl rfl (Ht rfl) (fun h=>cX (aB.wu rfl h))) (fQ rfl rfl (sO rfl rfl rfl (fun h h2=>cX (Ht rfl))) (fQ rfl rfl (sO rfl rfl rfl (fun h h2=>dE (aB.wu rfl ⟨h,h2⟩) (cJ 0))) (fQ rfl rfl (lV rfl rfl (Ht rfl) (fun h=>iF (aB.wu rfl h) (fun h2=>(aB.wu rfl ⟨h,h2⟩)))) ?_)))))))))))
   refine ro rfl (eS (Ht rfl) (fun h=>(aB.wu rfl h))) (eX (dQ (Ht rfl) (fun hd=>?_) (fun hd=>?_)))
   ·simp at hd
    have hxr:0 < x / 1000000000 ∨ 0 < r:=hd.2.imp (fun h=>Nat.pos_of_ne_zero (fun e=>by rw [e,dD] at h; simp at h)) id
    have hln:=hI.len hxr
    have hr32:=hI.r32
    refine cU (cK (eG (ts (rm rfl (rm rfl (ro rfl (iK (Ht rfl) (cJ 10) zo) (ro rfl (dV (cJ 48) (Ht rfl) (by show _ < 4294967296; first | omega | (simp only [jX]; omega))) (ro rfl (gJ U_24 U_5 (Ht rfl) (by show _ < 256; first | omega | (simp only [jX]; omega))) (ro rfl (dT (xs:=[.tmp 34]) U_341 Z_5 Tryz.zeroValue5 (cW (Ht rfl) cG) rfl rfl rfl) (wG (inf:=Tryz.t5) vX Pl rfl rfl rfl (Ht rfl) (Ht rfl) (i:=0) rfl (by simp) (fun T hT=>by simp at hT; subst hT; exact El.one) (by show _ * 1 ≤ _; simp only [List.length_map,List.length_cons,List.length_nil]; omega) (by simp only [List.length_map,List.length_cons,List.length_nil]; omega) rfl (fun v2=>?_)))))))))))
    refine ra rfl (eX (cY (rm rfl (ro rfl (gY (Ht rfl) (cJ 10) zo (by show _ < 4294967296; first | omega | (simp only [jX]; omega))) (ra rfl (eX (T_blk (cY (rm rfl (ro rfl (dV (Ht rfl) (cJ 1) z6) (ra rfl (eX (fY (r / 10,k + 1,_,v2) (hI.next hd.1 hxr) (by dsimp only; omega) (zS rfl) (aU (bN (Sb _ _)) aY))))))))))))))
   ·simp at hd
    have hO2 := hI.fin (fun ⟨h1, h2⟩ => by
     have h3:=hd h1
     rcases h2 with h2 | h2
     ·have:=nU.1 h3.1; omega
     ·omega)
    refine gW rfl (T_blk (fY (x / 1000000000,_,_) ⟨hO2,Nat.le_trans (Nat.div_le_self _ _) hle⟩ (Nat.div_lt_self (Nat.pos_of_ne_zero hx0) (by decide)) (zS rfl) (cA.refl _)))
  ·simp at hc
   have hx0:x = 0:=aH.1 (by simpa using hc)
   subst hx0
   have hfin:=hO.fin
   have hdl:=nF m
   rw [hfin] at hdl
   refine gW rfl (ts (rm rfl (zY Tryz.call283 (a1e zo) (i:=0) rfl ⟨(Ht rfl),trivial⟩ rfl (fun _ _=>(eX (cK (gV (i:=0) (tt:=3) rfl rfl iZ (cY (rm rfl (ro rfl (Eb vX Yf Yg (Ht rfl) (by rw [← hfin]; simpa using Jb h0) (fun b hb=>Ou (n:=m) b (by rw [qI h0,hfin]; exact hb))) ?_))))))))))
   refine ra rfl (eX (fW rfl (fX (eU rfl) ?_)))
   exact (hZ (by rw [qI h0,hfin]))
end
section
open Go Go.RowKit
theorem sB {n : Nat} {E : bD} {H : Hp} {d : Option Tmp} {t : TypeId} {pos : String} {af : Array Edge} {g : Option (Nat × Bool)} {x0 x1 : Operand} {T0 T1 : Ty} [s0 : bT T0 1 false] (h0 : aB E x0 T0) [s1 : bT T1 1 false] (h1 : aB E x1 T1) :
  aD Tryz.prog n E H ⟨d,.build 30 #[(0,x0),(1,x1)],t,pos,af,g⟩ (eB [T0,T1]) :=
 fO (parts := [(0, x0), (1, x1)]) fun a V w hs => by
  have p0:=h0 n V a hs
  generalize e0:a.eval x0 = v0 at p0
  have q0:=(s0.ok v0 V p0).2.2 rfl
  have p1:=h1 n V a hs
  generalize e1:a.eval x1 = v1 at p1
  have q1:=(s1.ok v1 V p1).2.2 rfl
  refine ⟨.agg #[v0,v1],?_,[v0,v1],rfl,aW (⟨p0,q0⟩) (aW (⟨p1,q1⟩) (aG))⟩
  simp [e0,e1,Instr.build,Instr.fill,Sem.run_bind,Result.andThen,dN,q0.cells,q1.cells,O_30,U_30,Z_4,Z_28]
theorem jF (a:Addr) (w:World):(Instr.fieldAt 30 (.pointer (some a)) 0).run Tryz.prog w = .ok (.pointer (some (a.add 0))) w:=by
 simp [Instr.fieldAt,Instr.sureAddr,fieldPlace,Sem.run_bind,Result.andThen,U_30,Z_4]
theorem dP (a:Addr) (w:World):(Instr.fieldAt 30 (.pointer (some a)) 1).run Tryz.prog w = .ok (.pointer (some (a.add 1))) w:=by
 simp [Instr.fieldAt,Instr.sureAddr,fieldPlace,Sem.run_bind,Result.andThen,U_30,Z_28]
end
section
open Go Go.RowKit
theorem Ak {n:Int} (h1:-9223372036854775808 ≤ n) (h2:n ≤ 9223372036854775807):aT Tryz.prog 115 [aI .i64 n] (fE n):=by
 refine aT.intro Tryz.func115 rfl Tryz.ntmps115 rfl (fun cx=>(ts (rn rfl (eW (Ts:=[Is (.bool false),Is (.slice none 0 0)]) O_30 rfl (fun V=>aW zd (aW zd (aG)))) fun B2=>(eX (cK (ts (rm rfl (ro rfl (mW (Ht rfl) cV) (eX (dQ (Ht rfl) (fun hb=>?_) (fun hb=>?_)))))))))))
 ·have hn : n < 0 := by simpa using hb
  refine ts (rm rfl (ro rfl (qQ U_2 U_274 (Ht rfl) (r:=((18446744073709551616 - n.natAbs:Nat):Int)) (by rw [IntKind.wrap_u64]; omega)) ?_))
  refine ro rfl (Bl (Ht rfl) (r:=((n.natAbs:Nat):Int)) (by rw [IntKind.wrap_u64]; omega)) ?_
  refine ro rfl (cZ Tryz.call207 (Aj zo) ⟨(Ht rfl),trivial⟩) (ro rfl (sB cV (Ht rfl)) (gX Z_30 (Ht rfl) (Ht rfl) rfl (i:=0) rfl (aK rfl) rfl rfl (eX (fW rfl (fX (fU A_30 Z_30 rfl (i:=0) rfl rfl) ?_)))))
  exact (oC (by rw [hb]; rfl))
 ·have hn : ¬ n < 0 := by simpa using hb
  refine cU (ts (rm rfl (ro rfl (qQ U_2 U_274 (Ht rfl) (r:=((n.natAbs:Nat):Int)) (by rw [IntKind.wrap_u64]; omega)) ?_)))
  refine ro rfl (cZ Tryz.call207 (Aj zo) ⟨(Ht rfl),trivial⟩) (ro rfl (sB cV (Ht rfl)) (gX Z_30 (Ht rfl) (Ht rfl) rfl (i:=0) rfl (aK rfl) rfl rfl (eX (fW rfl (fX (fU A_30 Z_30 rfl (i:=0) rfl rfl) ?_)))))
  exact (oC (by rw [hb]; rfl))
theorem mH {b:Bool} {m:Nat}:aT Tryz.prog 197 [aC b,aM m] (fE (uV b m)):=by
 refine aT.intro Tryz.func197 rfl Tryz.ntmps197 rfl (fun cx=>(ts (rn rfl (eW (Ts:=[Is (.bool false),Is (.slice none 0 0)]) O_30 rfl (fun V=>aW zd (aW zd (aG)))) fun B4=>(eX (ts (rm rfl (rm rfl (fQ rfl rfl (eK rfl rfl (Ht rfl) (fun h=>cX (Ht rfl))) (fQ rfl rfl (eK rfl rfl (Ht rfl) (fun h=>dG U_28 (fJ rfl h) aA)) (fQ rfl rfl (eK rfl rfl (Ht rfl) (fun h=>dE (fJ rfl h) (cJ 0))) (ro rfl (eS (Ht rfl) (fun h=>(fJ rfl h))) (rm rfl ?_))))))))))))
 refine ro rfl (sB (Ht rfl) (Ht rfl)) (gX Z_30 (Ht rfl) (Ht rfl) rfl (i:=0) rfl (aK rfl) rfl rfl (eX (fW rfl (fX (fU A_30 Z_30 rfl (i:=0) rfl rfl) ?_))))
 exact Rb
theorem oD {x:Int}:aT Tryz.prog 107 [fE x] (fE (-x)):=by
 refine aT.intro Tryz.func107 rfl Tryz.ntmps107 rfl (fun cx=>(ts (rn rfl (fG (Ht rfl)) fun B1=>(rn rfl (eW (Ts:=[Is (.bool false),Is (.slice none 0 0)]) O_30 rfl (fun V=>aW zd (aW zd (aG)))) fun B2=>(eX (ts (ro rfl (eZ jF (Ht rfl) rfl) (ro rfl (eY A_4 Z_4 (Ht rfl) (i:=0) rfl rfl) (ro rfl (eC (Ht rfl)) (ro rfl (eZ dP (Ht rfl) rfl) (ro rfl (eY A_28 Z_28 (Ht rfl) (i:=0) rfl rfl) (ro rfl (cZ K_197 mH ⟨(Ht rfl),(Ht rfl),trivial⟩) ?_))))))))))))
 refine gX Z_30 (Ht rfl) (Ht rfl) rfl (i:=1) rfl (aK rfl) rfl rfl (eX (fW rfl (fX (fU A_30 Z_30 rfl (i:=1) rfl rfl) ?_)))
 exact (nC (zP x))
theorem tS {x y:Int} (hx:(dg x.natAbs).length ≤ 17592186044416) (hy:(dg y.natAbs).length ≤ 17592186044416):aT Tryz.prog 106 [fE x,fE y] (fE (x + y)):=by
 refine aT.intro Tryz.func106 rfl Tryz.ntmps106 rfl (fun cx=>(ts (rn rfl (fG (Ht rfl)) fun B2=>(rn rfl (fG (Ht rfl)) fun B3=>(rn rfl (eW (Ts:=[Is (.bool false),Is (.slice none 0 0)]) O_30 rfl (fun V=>aW zd (aW zd (aG)))) fun B4=>(eX (cK (ts (ro rfl (eZ jF (Ht rfl) rfl) (ro rfl (eY A_4 Z_4 (Ht rfl) (i:=0) rfl rfl) (ro rfl (eZ jF (Ht rfl) rfl) (ro rfl (eY A_4 Z_4 (Ht rfl) (i:=1) rfl rfl) (ro rfl (a09 Tryz.runUnderlying4 (Ht rfl) (Ht rfl)) ?_)))))))))))))
 refine eX (dQ (Ht rfl) (fun hb=>?_) (fun hb=>?_))
 ·have he : decide (x < 0) = decide (y < 0) := by simpa using hb
  refine cK (fZ (m:=7) (dp 2 rfl (eZ jF (Ht rfl) rfl) (dq 10 0 rfl (eY A_4 Z_4 (Ht rfl) (i:=0) rfl rfl) (dp 2 rfl (eZ dP (Ht rfl) rfl) (dq 12 2 rfl (eY A_28 Z_28 (Ht rfl) (i:=0) rfl rfl) (dp 3 rfl (eZ dP (Ht rfl) rfl) (dq 14 4 rfl (eY A_28 Z_28 (Ht rfl) (i:=1) rfl rfl) (eE 13 3 15 5 rfl (cZ Tryz.call198 (a1a zo zo) ⟨(Ht rfl),(Ht rfl),trivial⟩) (fV bB rfl (by kernel_rfl) (zF (aJ (aJ (aJ (aV ?_))))))))))))))
  refine ro rfl (cZ K_197 mH ⟨(Ht rfl),(Ht rfl),trivial⟩) (gX Z_30 (Ht rfl) (Ht rfl) rfl (i:=2) rfl (aK rfl) rfl rfl (eX (fW rfl (fX (fU A_30 Z_30 rfl (i:=2) rfl rfl) ?_))))
  exact (nC (Rc he))
 ·have he : decide (x < 0) ≠ decide (y < 0) := by simpa using hb
  refine cU (cK (ts (ro rfl (eZ dP (Ht rfl) rfl) (ro rfl (eY A_28 Z_28 (Ht rfl) (i:=0) rfl rfl) (ro rfl (eZ dP (Ht rfl) rfl) (ro rfl (eY A_28 Z_28 (Ht rfl) (i:=1) rfl rfl) (ro rfl (cZ Tryz.call129 (Od zo zo) ⟨(Ht rfl),(Ht rfl),trivial⟩) (ro rfl (kD (Ht rfl) cV) (eX (dQ (Ht rfl) (fun hc=>?_) (fun hc=>?_)))))))))))
  ·have hle : y.natAbs ≤ x.natAbs := Ix (by simpa using hc)
   refine cK (fZ (m:=7) (dp 2 rfl (eZ jF (Ht rfl) rfl) (dq 24 0 rfl (eY A_4 Z_4 (Ht rfl) (i:=0) rfl rfl) (dp 2 rfl (eZ dP (Ht rfl) rfl) (dq 26 2 rfl (eY A_28 Z_28 (Ht rfl) (i:=0) rfl rfl) (dp 3 rfl (eZ dP (Ht rfl) rfl) (dq 28 4 rfl (eY A_28 Z_28 (Ht rfl) (i:=1) rfl rfl) (eE 27 3 29 5 rfl (cZ Tryz.call199 (Xo zo zo) ⟨(Ht rfl),(Ht rfl),trivial⟩) (fV bB rfl (by kernel_rfl) (zF (aJ (aJ (aJ (aV ?_))))))))))))))
   refine ro rfl (cZ K_197 mH ⟨(Ht rfl),(Ht rfl),trivial⟩) (gX Z_30 (Ht rfl) (Ht rfl) rfl (i:=2) rfl (aK rfl) rfl rfl (eX (fW rfl (fX (fU A_30 Z_30 rfl (i:=2) rfl rfl) ?_))))
   exact (nC (Er he hle))
  ·have hle : x.natAbs ≤ y.natAbs := Nat.le_of_lt (Iy (by simpa using hc))
   refine cU (cK (fZ (m:=7) (dp 3 rfl (eZ jF (Ht rfl) rfl) (dq 32 0 rfl (eY A_4 Z_4 (Ht rfl) (i:=1) rfl rfl) (dp 3 rfl (eZ dP (Ht rfl) rfl) (dq 34 2 rfl (eY A_28 Z_28 (Ht rfl) (i:=1) rfl rfl) (dp 2 rfl (eZ dP (Ht rfl) rfl) (dq 36 4 rfl (eY A_28 Z_28 (Ht rfl) (i:=0) rfl rfl) (eE 35 3 37 5 rfl (cZ Tryz.call199 (Xo zo zo) ⟨(Ht rfl),(Ht rfl),trivial⟩) (fV bB rfl (by kernel_rfl) (zF (aJ (aJ (aJ (aV ?_)))))))))))))))
   refine ro rfl (cZ K_197 mH ⟨(Ht rfl),(Ht rfl),trivial⟩) (gX Z_30 (Ht rfl) (Ht rfl) rfl (i:=2) rfl (aK rfl) rfl rfl (eX (fW rfl (fX (fU A_30 Z_30 rfl (i:=2) rfl rfl) ?_))))
   exact (nC (by rw [Er (Ne.symm he) hle,Int.add_comm]))
theorem qG {x y:Int} (hx:(dg x.natAbs).length ≤ 17592186044416) (hy:(dg y.natAbs).length ≤ 17592186044416):aT Tryz.prog 105 [fE x,fE y] (fE (x * y)):=by
 refine aT.intro Tryz.func105 rfl Tryz.ntmps105 rfl (fun cx=>(ts (rn rfl (fG (Ht rfl)) fun B2=>(rn rfl (fG (Ht rfl)) fun B3=>(rn rfl (eW (Ts:=[Is (.bool false),Is (.slice none 0 0)]) O_30 rfl (fun V=>aW zd (aW zd (aG)))) fun B4=>(eX (cK (fZ (m:=10) (dp 2 rfl (eZ jF (Ht rfl) rfl) (dq 5 0 rfl (eY A_4 Z_4 (Ht rfl) (i:=0) rfl rfl) (dp 3 rfl (eZ jF (Ht rfl) rfl) (dq 7 2 rfl (eY A_4 Z_4 (Ht rfl) (i:=1) rfl rfl) (eE 6 1 8 3 rfl (a0a Tryz.runUnderlying4 (Ht rfl) (Ht rfl)) ?_)))))))))))))
 refine dp 2 rfl (eZ dP (Ht rfl) rfl) (dq 10 5 rfl (eY A_28 Z_28 (Ht rfl) (i:=0) rfl rfl) (dp 3 rfl (eZ dP (Ht rfl) rfl) (dq 12 7 rfl (eY A_28 Z_28 (Ht rfl) (i:=1) rfl rfl) (eE 11 6 13 8 rfl (cZ Tryz.call110 (Co zo zo) ⟨(Ht rfl),(Ht rfl),trivial⟩) (fV bB rfl (by kernel_rfl) (zF (zF (aJ (aJ (aV (ro rfl (cZ K_197 mH ⟨(Ht rfl),(Ht rfl),trivial⟩) (gX Z_30 (Ht rfl) (Ht rfl) rfl (i:=2) rfl (aK rfl) rfl rfl ?_))))))))))))
 refine eX (fW rfl (fX (fU A_30 Z_30 rfl (i:=2) rfl rfl) ?_))
 exact (nC (Mh x y))
theorem jS {x:Int} {n:Nat} (hx:(dg x.natAbs).length ≤ 17592186044416) (hn:(dg n).length ≤ 17592186044416):aT Tryz.prog 111 [fE x,aM n] (fE (x * n)):=by
 refine aT.intro Tryz.func111 rfl Tryz.ntmps111 rfl (fun cx=>(ts (rn rfl (fG (Ht rfl)) fun B2=>(rn rfl (eW (Ts:=[Is (.bool false),Is (.slice none 0 0)]) O_30 rfl (fun V=>aW zd (aW zd (aG)))) fun B4=>(eX (cK (fZ (m:=6) (dp 2 rfl (eZ jF (Ht rfl) rfl) (dq 5 0 rfl (eY A_4 Z_4 (Ht rfl) (i:=0) rfl rfl) (dp 2 rfl (eZ dP (Ht rfl) rfl) (dq 7 2 rfl (eY A_28 Z_28 (Ht rfl) (i:=0) rfl rfl) (dp 1 rfl (cX (Ht rfl)) (eE 8 3 9 4 rfl (cZ Tryz.call110 (Co zo zo) ⟨(Ht rfl),(Ht rfl),trivial⟩) ?_)))))))))))))
 refine fV bB rfl (by kernel_rfl) (zF (aJ (aJ (aV (ro rfl (cZ K_197 mH ⟨(Ht rfl),(Ht rfl),trivial⟩) (gX Z_30 (Ht rfl) (Ht rfl) rfl (i:=1) rfl (aK rfl) rfl rfl (eX (fW rfl (fX (fU A_30 Z_30 rfl (i:=1) rfl rfl) ?_)))))))))
 exact (nC (Gx x n))
theorem Am {x y:Int} (hx:(dg x.natAbs).length ≤ 17592186044415) (hy:(dg y.natAbs).length ≤ 17592186044415):aT Tryz.prog 112 [fE x,fE y] (aI .i64 (iT x y)):=by
 have hny:=sH y
 have hs:=mJ (x:=x) (y:=-y) hx zo
 refine aT.intro Tryz.func112 rfl Tryz.ntmps112 rfl (fun cx=>(ts (rn rfl (fG (Ht rfl)) fun B2=>(rn rfl (fG (Ht rfl)) fun B3=>(ro rfl (cQ (cJ 0)) (eX (cK (fZ (m:=5) (dp 2 rfl (eJ A_30 Z_30 (Ht rfl) (i:=0) rfl rfl rfl) (dp 3 rfl (eJ A_30 Z_30 (Ht rfl) (i:=1) rfl rfl rfl) (dq 7 1 rfl (cZ K_107 oD ⟨(Ht rfl),trivial⟩) (eE 6 0 8 2 rfl (cZ K_106 (tS zo zo) ⟨(Ht rfl),(Ht rfl),trivial⟩) (C.D_new (Ei:=[]) rfl rfl rfl bW (eW (Ts:=[Is (.bool false),Is (.slice none 0 0)]) O_30 rfl (fun V=>aW zd (aW zd (aG)))) ?_)))))))))))))
 refine fV bB rfl (by kernel_rfl) (zF (C.F_new (fun B5=>aV (gX Z_30 (Ht rfl) (Ht rfl) rfl (i:=2) rfl (aK rfl) rfl rfl (eX (cK (ts (ro rfl (eZ jF (Ht rfl) rfl) (ro rfl (eY A_4 Z_4 (Ht rfl) (i:=2) rfl rfl) (eX (dQ (Ht rfl) (fun hb=>?_) (fun hb=>?_))))))))))))
 ·have hn : x + -y < 0 := by simpa using hb
  refine ts (ro rfl (cQ cV) (eX (fW rfl (fX (eU rfl) ?_))))
  exact (aN (Tu hn))
 ·have hn : ¬ x + -y < 0 := by simpa using hb
  refine cU (ts (ro rfl (eZ dP (Ht rfl) rfl) (ro rfl (eY A_28 Z_28 (Ht rfl) (i:=2) rfl rfl) (ro rfl (dG U_28 (Ht rfl) aA) (ro rfl (Bk (Ht rfl) (cJ 1)) (ra rfl (eX (fW rfl (fX (eU rfl) ?_)))))))))
  exact (aN (Tt hn))
end
section
open Go Go.RowKit
theorem Nr {n : Nat} {E : bD} {H : Hp} {d : Option Tmp} {t : TypeId} {pos : String} {af : Array Edge} {g : Option (Nat × Bool)} {x0 : Operand} {T0 T1 : Ty} (h0 : aB E x0 (eB [T0, T1])) :
  aD Tryz.prog n E H ⟨d,.build 32 #[(0,x0)],t,pos,af,g⟩ (eB [T0,T1,Is (.bool false),Is (.slice none 0 0),Is (.slice none 0 0)]) :=
 fO (parts := [(0, x0)]) fun a V w hs => by
  obtain ⟨v0,e0,c0⟩:=h0 n V a hs
  obtain ⟨c0_0,c0_1,rfl⟩:∃ c0_0 c0_1,v0 = [c0_0,c0_1]:=Do (by simpa using c0.length)
  refine ⟨.agg #[c0_0,c0_1,(.bool false),(.slice none 0 0),(.slice none 0 0)],?_,[c0_0,c0_1,(.bool false),(.slice none 0 0),(.slice none 0 0)],rfl,aW (c0.at (i:=0) rfl rfl) (aW (c0.at (i:=1) rfl rfl) (aW (⟨rfl,trivial⟩) (aW (⟨rfl,trivial⟩) (aW (⟨rfl,trivial⟩) (aG)))))⟩
  simp [e0,Instr.build,Instr.fill,Sem.run_bind,Result.andThen,dN,O_32,U_32,Z_28,Z_30]
theorem sR {n : Nat} {E : bD} {H : Hp} {d : Option Tmp} {t : TypeId} {pos : String} {af : Array Edge} {g : Option (Nat × Bool)} {x0 x1 x2 : Operand} {T0 T1 T2 T3 T4 : Ty} (h0 : aB E x0 (eB [T0, T1])) (h1 : aB E x1 (eB [T2, T3])) [s2 : bT T4 1 false] (h2 : aB E x2 T4) :
  aD Tryz.prog n E H ⟨d,.build 32 #[(0,x0),(1,x1),(2,x2)],t,pos,af,g⟩ (eB [T0,T1,T2,T3,T4]) :=
 fO (parts := [(0, x0), (1, x1), (2, x2)]) fun a V w hs => by
  obtain ⟨v0,e0,c0⟩:=h0 n V a hs
  obtain ⟨c0_0,c0_1,rfl⟩:∃ c0_0 c0_1,v0 = [c0_0,c0_1]:=Do (by simpa using c0.length)
  obtain ⟨v1,e1,c1⟩:=h1 n V a hs
  obtain ⟨c1_0,c1_1,rfl⟩:∃ c1_0 c1_1,v1 = [c1_0,c1_1]:=Do (by simpa using c1.length)
  have p2:=h2 n V a hs
  generalize e2:a.eval x2 = v2 at p2
  have q2:=(s2.ok v2 V p2).2.2 rfl
  refine ⟨.agg #[c0_0,c0_1,c1_0,c1_1,v2],?_,[c0_0,c0_1,c1_0,c1_1,v2],rfl,aW (c0.at (i:=0) rfl rfl) (aW (c0.at (i:=1) rfl rfl) (aW (c1.at (i:=0) rfl rfl) (aW (c1.at (i:=1) rfl rfl) (aW (⟨p2,q2⟩) (aG)))))⟩
  simp [e0,e1,e2,Instr.build,Instr.fill,Sem.run_bind,Result.andThen,dN,q2.cells,O_32,U_32,Z_28,Z_30]
theorem gA (a:Addr) (w:World):(Instr.fieldAt 32 (.pointer (some a)) 0).run Tryz.prog w = .ok (.pointer (some (a.add 0))) w:=by
 simp [Instr.fieldAt,Instr.sureAddr,fieldPlace,Sem.run_bind,Result.andThen,U_32,Z_30]
theorem gF (a:Addr) (w:World):(Instr.fieldAt 32 (.pointer (some a)) 1).run Tryz.prog w = .ok (.pointer (some (a.add 2))) w:=by
 simp [Instr.fieldAt,Instr.sureAddr,fieldPlace,Sem.run_bind,Result.andThen,U_32,Z_30]
theorem oH (a:Addr) (w:World):(Instr.fieldAt 32 (.pointer (some a)) 2).run Tryz.prog w = .ok (.pointer (some (a.add 4))) w:=by
 simp [Instr.fieldAt,Instr.sureAddr,fieldPlace,Sem.run_bind,Result.andThen,U_32,Z_28]
end
section
open Go Go.RowKit
theorem tQ {A B:Int} {D:Nat} (hD:0 < D) (hA:(dg A.natAbs).length ≤ 17592186044415) (hB:(dg B.natAbs).length ≤ 17592186044415) (hD2:(dg D).length ≤ 17592186044415):aT Tryz.prog 108 [fE A,fE B,aM D] (aL (Qi.mk' A B D)):=by
 have hg1:=wZ hA hB
 have hg2:=wZ hg1 hD2
 have hgp:Nat.gcd (Nat.gcd A.natAbs B.natAbs) D ≠ 0:=fun e=>by have:=Nat.gcd_eq_zero_iff.1 e; omega
 refine aT.intro Tryz.func108 rfl Tryz.ntmps108 rfl (fun cx=>(ts (rn rfl (fG (Ht rfl)) fun B3=>(rn rfl (fG (Ht rfl)) fun B4=>(rn rfl (eW (Ts:=[Is (.bool false),Is (.slice none 0 0),Is (.bool false),Is (.slice none 0 0),Is (.slice none 0 0)]) O_32 rfl (fun V=>aW zd (aW zd (aW zd (aW zd (aW zd (aG))))))) fun B6=>(eX (ts (ro rfl (eZ dP (Ht rfl) rfl) (ro rfl (eY A_28 Z_28 (Ht rfl) (i:=0) rfl rfl) ?_)))))))))
 refine ro rfl (eZ dP (Ht rfl) rfl) (ro rfl (eY A_28 Z_28 (Ht rfl) (i:=1) rfl rfl) (ro rfl (cZ Tryz.call200 (Xl zo zo) ⟨(Ht rfl),(Ht rfl),trivial⟩) (rm rfl (ro rfl (cZ Tryz.call200 (Xl zo zo) ⟨(Ht rfl),(Ht rfl),trivial⟩) (ra rfl (eX (cK (iA (fun (uu:Unit)=>True) (fun (uu:Unit)=>[(2,aM (D / (Nat.gcd (Nat.gcd A.natAbs B.natAbs) D))),(3,cH B3 0),(4,cH B4 0),(6,cH B6 0)]) (fun (uu:Unit)=>[box B3 30 [aC (decide (A < 0)),aM (A.natAbs / (Nat.gcd (Nat.gcd A.natAbs B.natAbs) D))],box B4 30 [aC (decide (B < 0)),aM (B.natAbs / (Nat.gcd (Nat.gcd A.natAbs B.natAbs) D))],box B6 32 [Is (.bool false),Is (.slice none 0 0),Is (.bool false),Is (.slice none 0 0),Is (.slice none 0 0)]]) ?_ (fun uu _=>?_)))))))))
 ·refine ts (rm rfl (ro rfl (cZ Tryz.call201 Xm ⟨(Ht rfl), trivial⟩) (ro rfl (eC (Ht rfl)) (eX (dQ (Ht rfl) (fun hb => ?_) (fun hb => ?_))))))
  ·simp at hb
   refine ts (ro rfl (eZ dP (Ht rfl) rfl) (ro rfl (eY A_28 Z_28 (Ht rfl) (i:=0) rfl rfl) (rm rfl (ro rfl (cZ Tryz.call202 (Ij zo zo zo) ⟨(Ht rfl),(Ht rfl),trivial⟩) (rm rfl (ro rfl (dK (Ht rfl) rfl) (ro rfl (dK (Ht rfl) rfl) (ro rfl (eZ dP (Ht rfl) rfl) (iD Z_28 (Ht rfl) (Ht rfl) (i:=0) rfl (aK rfl) rfl (eX (ts (ro rfl (eZ dP (Ht rfl) rfl) (ro rfl (eY A_28 Z_28 (Ht rfl) (i:=1) rfl rfl) (rm rfl (ro rfl (cZ Tryz.call202 (Ij zo zo zo) ⟨(Ht rfl),(Ht rfl),trivial⟩) ?_)))))))))))))))
   refine rm rfl (ro rfl (dK (Ht rfl) rfl) (ro rfl (dK (Ht rfl) rfl) (ro rfl (eZ dP (Ht rfl) rfl) (iD Z_28 (Ht rfl) (Ht rfl) (i:=1) rfl (aK rfl) rfl (eX (cY (rm rfl (rm rfl (ro rfl (cZ Tryz.call202 (Ij zo zo zo) ⟨(Ht rfl),(Ht rfl),trivial⟩) (rm rfl (ro rfl (dK (Ht rfl) rfl) (ro rfl (dK (Ht rfl) rfl) (ra rfl (eX (aO () trivial (zS rfl) (aU (aR (by first | rfl | simp)) (aU (aR (by first | rfl | simp)) (aU (aR rfl) aY))))))))))))))))))
  ·simp at hb
   refine cU (aO () trivial (aZ rfl (cB (by rw [hb,Nat.div_one])) (zS rfl)) (aU (aR (by rw [hb,Nat.div_one])) (aU (aR (by rw [hb,Nat.div_one])) (aU (aR rfl) aY))))
 ·refine cK (iA (fun (uu : Unit) => True) (fun (uu : Unit) => [(2, aM (if D / (Nat.gcd (Nat.gcd A.natAbs B.natAbs) D) = 1 then 0 else D / (Nat.gcd (Nat.gcd A.natAbs B.natAbs) D))), (3, cH B3 0), (4, cH B4 0), (6, cH B6 0)]) (fun (uu : Unit) => [box B3 30 [aC (decide (A < 0)), aM (A.natAbs / (Nat.gcd (Nat.gcd A.natAbs B.natAbs) D))], box B4 30 [aC (decide (B < 0)), aM (B.natAbs / (Nat.gcd (Nat.gcd A.natAbs B.natAbs) D))], box B6 32 [Is (.bool false), Is (.slice none 0 0), Is (.bool false), Is (.slice none 0 0), Is (.slice none 0 0)]]) ?_ (fun uu _ => ?_))
  ·refine ts (rm rfl (ro rfl (cZ Tryz.call201 Xm ⟨(Ht rfl), trivial⟩) (eX (dQ (Ht rfl) (fun hb => ?_) (fun hb => ?_)))))
   ·simp only [decide_eq_true_eq] at hb
    refine cY (ro rfl (cQ cV) (eX (aO () trivial (aZ rfl (fun v V h=>cB (by rw [if_pos hb]) v V (gU v V h)) (zS rfl)) (cA.refl _))))
   ·simp only [decide_eq_false_iff_not] at hb
    refine cU (aO () trivial (aZ rfl (cB (by rw [if_neg hb])) (zS rfl)) (cA.refl _))
  ·refine ts (ro rfl (eJ A_30 Z_30 (Ht rfl) (i := 0) rfl rfl rfl) (ro rfl (eJ A_30 Z_30 (Ht rfl) (i := 1) rfl rfl rfl) (rm rfl (ro rfl (sR (Ht rfl) (Ht rfl) (Ht rfl)) (gX Z_32 (Ht rfl) (Ht rfl) rfl (i := 2) rfl (aK rfl) rfl rfl (eX (fW rfl (fX (fU A_32 Z_32 rfl (i := 2) rfl rfl) ?_))))))))
   exact (Vp hD)
theorem nE {x:Qi}:aT Tryz.prog 109 [aL x] (aM x.den):=by
 refine aT.intro Tryz.func109 rfl Tryz.ntmps109 rfl (fun cx=>(ts (rn rfl (fG (Ht rfl)) fun B1=>(ro rfl (cQ cV) (eX (cK (ts (ro rfl (eZ oH (Ht rfl) rfl) (ro rfl (eY A_28 Z_28 (Ht rfl) (i:=0) rfl rfl) (ro rfl (dG U_28 (Ht rfl) aA) (ro rfl (cD (Ht rfl) (cJ 0)) (eX (dQ (Ht rfl) (fun hb=>?_) (fun hb=>?_))))))))))))))
 ·simp at hb
  have h1:x.den = 1:=vH (aH.1 (by simpa using hb))
  refine ts (ro rfl (dT (xs:=[_]) U_28 Z_24 O_24 (cW (cJ 1) cG) rfl rfl rfl) (ra rfl (eX (fW rfl (fX (eU rfl) ?_)))))
  exact (fun v V h=>cB h1.symm v V (Ea v V h))
 ·simp at hb
  have h1:du x = x.den:=sU (fun e=>hb (by simp [e,dD]))
  refine cU (ts (ro rfl (eZ oH (Ht rfl) rfl) (ro rfl (eY A_28 Z_28 (Ht rfl) (i:=0) rfl rfl) (ra rfl (eX (fW rfl (fX (eU rfl) ?_)))))))
  exact (cB h1)
theorem Cj {n:Int} (h1:-9223372036854775808 ≤ n) (h2:n ≤ 9223372036854775807):aT Tryz.prog 36 [aI .i64 n] (aL (Qi.ofInt n)):=by
 refine aT.intro Tryz.func36 rfl Tryz.ntmps36 rfl (fun cx=>(ts (rn rfl (eW (Ts:=[Is (.bool false),Is (.slice none 0 0),Is (.bool false),Is (.slice none 0 0),Is (.slice none 0 0)]) O_32 rfl (fun V=>aW zd (aW zd (aW zd (aW zd (aW zd (aG))))))) fun B2=>(eX (ts (rm rfl (ro rfl (cZ Tryz.call115 (Ak h1 h2) ⟨(Ht rfl),trivial⟩) (ro rfl (Nr (Ht rfl)) (gX Z_32 (Ht rfl) (Ht rfl) rfl (i:=0) rfl (aK rfl) rfl rfl ?_)))))))))
 refine eX (fW rfl (fX (fU A_32 Z_32 rfl (i:=0) rfl rfl) ?_))
 exact Js
theorem a18 {p q d:Int} (p1:-9223372036854775808 ≤ p) (p2:p ≤ 9223372036854775807) (q1:-9223372036854775808 ≤ q) (q2:q ≤ 9223372036854775807) (d1:-9223372036854775808 ≤ d) (d2:d ≤ 9223372036854775807) (hd:d ≠ 0):aT Tryz.prog 81 [aI .i64 p,aI .i64 q,aI .i64 d] (fB [aL (Qi.frac p q d),aI .i64 0]):=by
 have lp:=Le p1 p2; have lq:=Le q1 q2; have ld:=Le d1 d2; have np:=sH p; have nq:=sH q
 refine aT.intro Tryz.func81 rfl Tryz.ntmps81 rfl (fun cx=>(ts (rn rfl (eW (Ts:=[Is (.bool false),Is (.slice none 0 0),Is (.bool false),Is (.slice none 0 0),Is (.slice none 0 0)]) O_32 rfl (fun V=>aW zd (aW zd (aW zd (aW zd (aW zd (aG))))))) fun B6=>(ro rfl (cQ (cJ 0)) (eX (cK (ts (rm rfl (ro rfl (jO (Ht rfl) cV) (eX (iW (Ht rfl) (by simp [hd]) ?_)))))))))))
 refine cU (ts (rm rfl (ro rfl (cZ Tryz.call115 (Ak p1 p2) ⟨(Ht rfl),trivial⟩) (rm rfl (ro rfl (cZ Tryz.call115 (Ak q1 q2) ⟨(Ht rfl),trivial⟩) (rm rfl (ro rfl (cZ Tryz.call115 (Ak d1 d2) ⟨(Ht rfl),trivial⟩) (rn rfl (eW (Ts:=[Is (.bool false),Is (.slice none 0 0)]) O_30 rfl (fun V=>aW zd (aW zd (aG)))) fun B8=>(rn rfl (eW (Ts:=[Is (.bool false),Is (.slice none 0 0)]) O_30 rfl (fun V=>aW zd (aW zd (aG)))) fun B9=>?_)))))))))
 refine rn rfl (eW (Ts:=[Is (.bool false),Is (.slice none 0 0)]) O_30 rfl (fun V=>aW zd (aW zd (aG)))) fun B10=>gX Z_30 (Ht rfl) (Ht rfl) rfl (i:=1) rfl (aK rfl) rfl rfl (gX Z_30 (Ht rfl) (Ht rfl) rfl (i:=2) rfl (aK rfl) rfl rfl (gX Z_30 (Ht rfl) (Ht rfl) rfl (i:=3) rfl (aK rfl) rfl rfl (eX (cK (oB (fun (a:Int) (b:Int)=>Qi.mk' a b d.natAbs = Qi.frac p q d ∧ (dg a.natAbs).length ≤ 2 ∧ (dg b.natAbs).length ≤ 2) (fun (a:Int) (b:Int)=>[(6,cH B6 0),(8,cH B8 0),(9,cH B9 0),(10,cH B10 0)]) (fun (a:Int) (b:Int)=>[box B6 32 [Is (.bool false),Is (.slice none 0 0),Is (.bool false),Is (.slice none 0 0),Is (.slice none 0 0)],box B8 30 [aC (decide (a < 0)),aM (a).natAbs],box B9 30 [aC (decide (b < 0)),aM (b).natAbs],box B10 30 [aC (decide (d < 0)),aM (d).natAbs]]) ?_ (fun a b ⟨hab,ha,hb⟩=>?_))))))
 ·refine ts (ro rfl (eZ jF (Ht rfl) rfl) (ro rfl (eY A_4 Z_4 (Ht rfl) (i := 3) rfl rfl) (eX (dQ (Ht rfl) (fun hn => ?_) (fun hn => ?_)))))
  ·simp only [decide_eq_true_eq] at hn
   refine fZ (m:=3) (dp 8 rfl (eJ A_30 Z_30 (Ht rfl) (i:=1) rfl rfl rfl) (dq 22 0 rfl (cZ K_107 oD ⟨(Ht rfl),trivial⟩) (dp 9 rfl (eJ A_30 Z_30 (Ht rfl) (i:=2) rfl rfl rfl) (fV bB rfl (by kernel_rfl) (aJ (aJ (aJ (aV (ro rfl (cZ K_107 oD ⟨(Ht rfl),trivial⟩) (gX Z_30 (Ht rfl) (Ht rfl) rfl (i:=1) rfl (aK rfl) rfl rfl (gX Z_30 (Ht rfl) (Ht rfl) rfl (i:=2) rfl (aK rfl) rfl rfl (eX (aO (-p,-q) ⟨Qi.frac_neg hn,by dsimp only; omega,by dsimp only; omega⟩ (zS rfl) (aU (aR rfl) (aU (aR rfl) (aU (aR rfl) (aU (aR rfl) aY)))))))))))))))))
  ·simp only [decide_eq_false_iff_not] at hn
   refine cU (aO (p,q) ⟨Qi.frac_pos hn hd,by omega,by omega⟩ (zS rfl) (cA.refl _))
 ·refine ts (ro rfl (eJ A_30 Z_30 (Ht rfl) (i := 1) rfl rfl rfl) (ro rfl (eJ A_30 Z_30 (Ht rfl) (i := 2) rfl rfl rfl) (ro rfl (eZ dP (Ht rfl) rfl) (ro rfl (eY A_28 Z_28 (Ht rfl) (i := 3) rfl rfl) (ro rfl (cZ K_108 (tQ zo zo zo zo) ⟨(Ht rfl), (Ht rfl), (Ht rfl), trivial⟩) (gX Z_32 (Ht rfl) (Ht rfl) rfl (i := 0) rfl (aK rfl) rfl rfl (ro rfl (cQ (cJ 0)) (eX (bE rfl (fX (fU A_32 Z_32 rfl (i := 0) rfl rfl) ?_) (eU rfl))))))))))
  exact (jD hab)
theorem a1M {x y:Qi}:aT Tryz.prog 318 [aL x,aL y] (aL y):=by
 refine aT.intro Tryz.func318 rfl Tryz.ntmps318 rfl (fun cx=>(ts (rn rfl (fG (Ht rfl)) fun B2=>(rn rfl (fG (Ht rfl)) fun B3=>(rn rfl (eW (Ts:=[Is (.bool false),Is (.slice none 0 0),Is (.bool false),Is (.slice none 0 0),Is (.slice none 0 0)]) O_32 rfl (fun V=>aW zd (aW zd (aW zd (aW zd (aW zd (aG))))))) fun B4=>(eX (ts (ro rfl (eJ A_32 Z_32 (Ht rfl) (i:=1) rfl rfl rfl) (gX Z_32 (Ht rfl) (Ht rfl) rfl (i:=2) rfl (aK rfl) rfl rfl ?_)))))))))
 refine eX ?_
 exact fW rfl (fU A_32 Z_32 rfl (i:=2) rfl rfl)
theorem Ib {x y:Qi} {L M:Nat} [hx:aP x L] [hy:aP y M] (h:L + M + 1 ≤ 17592186044415):aT Tryz.prog 33 [aL x,aL y] (aL (x + y)):=by
 have hxa:=lJ hx.fit; have hxb:=lK hx.fit; have hxd:=lL hx.fit
 have hya:=lJ hy.fit; have hyb:=lK hy.fit; have hyd:=lL hy.fit
 have hxp:=x.den_pos; have hyp:=y.den_pos; have hdp:=Nat.mul_pos hxp hyp
 have e1:=fT x.a y.den; have e2:=fT y.a x.den; have e3:=fT x.b y.den; have e4:=fT y.b x.den; have e5:=xA x.den y.den
 have e6:=mJ (x:=x.a * y.den) (y:=y.a * x.den) (L:=L + M) zo zo; have e7:=mJ (x:=x.b * y.den) (y:=y.b * x.den) (L:=L + M) zo zo
 refine aT.intro Tryz.func33 rfl Tryz.ntmps33 rfl (fun cx=>(ts (rn rfl (fG (Ht rfl)) fun B2=>(rn rfl (fG (Ht rfl)) fun B3=>(rn rfl (eW (Ts:=[Is (.bool false),Is (.slice none 0 0),Is (.bool false),Is (.slice none 0 0),Is (.slice none 0 0)]) O_32 rfl (fun V=>aW zd (aW zd (aW zd (aW zd (aW zd (aG))))))) fun B4=>(eX (cK (fZ (m:=3) (dp 2 rfl (eJ A_32 Z_32 (Ht rfl) (i:=0) rfl rfl rfl) (dq 7 0 rfl (cZ K_109 nE ⟨(Ht rfl),trivial⟩) ?_))))))))))
 refine dp 3 rfl (eJ A_32 Z_32 (Ht rfl) (i:=1) rfl rfl rfl) (fV bB rfl (by kernel_rfl) (aJ (aJ (aJ (aV (ro rfl (cZ K_109 nE ⟨(Ht rfl),trivial⟩) (ra rfl (ra rfl (eX (cK (fZ (m:=20) (dp 2 rfl (eZ gA (Ht rfl) rfl) (dq 11 0 rfl (eJ A_30 Z_30 (Ht rfl) (i:=0) rfl rfl rfl) (dp 6 rfl (cX (Ht rfl)) (eE 12 1 13 2 rfl (cZ K_111 (jS zo zo) ⟨(Ht rfl),(Ht rfl),trivial⟩) (dp 3 rfl (eZ gA (Ht rfl) rfl) (dq 15 4 rfl (eJ A_30 Z_30 (Ht rfl) (i:=1) rfl rfl rfl) ?_)))))))))))))))))
 refine dp 5 rfl (cX (Ht rfl)) (eE 16 5 17 6 rfl (cZ K_111 (jS zo zo) ⟨(Ht rfl),(Ht rfl),trivial⟩) (eE 14 3 18 7 rfl (cZ K_106 (tS zo zo) ⟨(Ht rfl),(Ht rfl),trivial⟩) (dp 2 rfl (eZ gF (Ht rfl) rfl) (dq 20 9 rfl (eJ A_30 Z_30 (Ht rfl) (i:=0) rfl rfl rfl) (dp 6 rfl (cX (Ht rfl)) (eE 21 10 22 11 rfl (cZ K_111 (jS zo zo) ⟨(Ht rfl),(Ht rfl),trivial⟩) (dp 3 rfl (eZ gF (Ht rfl) rfl) (dq 24 13 rfl (eJ A_30 Z_30 (Ht rfl) (i:=1) rfl rfl rfl) ?_))))))))
 refine dp 5 rfl (cX (Ht rfl)) (eE 25 14 26 15 rfl (cZ K_111 (jS zo zo) ⟨(Ht rfl),(Ht rfl),trivial⟩) (eE 23 12 27 16 rfl (cZ K_106 (tS zo zo) ⟨(Ht rfl),(Ht rfl),trivial⟩) (dp 5 rfl (cX (Ht rfl)) (dp 6 rfl (cX (Ht rfl)) (fV bB rfl (by kernel_rfl) (zF (zF (zF (zF (zF (aV (ro rfl (cZ Tryz.call110 (Co zo zo) ⟨(Ht rfl),(Ht rfl),trivial⟩) ?_))))))))))))
 refine ro rfl (cZ K_108 (tQ (by first | assumption | omega) zo zo zo) ⟨(Ht rfl),(Ht rfl),(Ht rfl),trivial⟩) (gX Z_32 (Ht rfl) (Ht rfl) rfl (i:=2) rfl (aK rfl) rfl rfl (eX (fW rfl (fX (fU A_32 Z_32 rfl (i:=2) rfl rfl) ?_))))
 exact (jD (Qi.mk_add x y))
theorem a17 {x:Qi}:aT Tryz.prog 114 [aL x] (aL (-x)):=by
 refine aT.intro Tryz.func114 rfl Tryz.ntmps114 rfl (fun cx=>(ts (rn rfl (fG (Ht rfl)) fun B1=>(rn rfl (eW (Ts:=[Is (.bool false),Is (.slice none 0 0),Is (.bool false),Is (.slice none 0 0),Is (.slice none 0 0)]) O_32 rfl (fun V=>aW zd (aW zd (aW zd (aW zd (aW zd (aG))))))) fun B2=>(eX (cK (fZ (m:=8) (dp 1 rfl (eZ gA (Ht rfl) rfl) (dq 3 0 rfl (eJ A_30 Z_30 (Ht rfl) (i:=0) rfl rfl rfl) (dq 4 1 rfl (cZ K_107 oD ⟨(Ht rfl),trivial⟩) ?_))))))))))
 refine dp 1 rfl (eZ gF (Ht rfl) rfl) (dq 6 3 rfl (eJ A_30 Z_30 (Ht rfl) (i:=0) rfl rfl rfl) (dq 7 4 rfl (cZ K_107 oD ⟨(Ht rfl),trivial⟩) (dp 1 rfl (eZ oH (Ht rfl) rfl) (dq 9 6 rfl (eY A_28 Z_28 (Ht rfl) (i:=0) rfl rfl) (fV bB rfl (by kernel_rfl) (zF (zF (aV (ro rfl (sR (Ht rfl) (Ht rfl) (Ht rfl)) (gX Z_32 (Ht rfl) (Ht rfl) rfl (i:=1) rfl (aK rfl) rfl rfl (eX (fW rfl (fX (fU A_32 Z_32 rfl (i:=1) rfl rfl) ?_)))))))))))))
 exact (oC (by obtain ⟨e1,e2,e3⟩:=Qi.neg_a x; rw [e1,e2,a1j e3]; rfl))
theorem wP {x y:Qi} {L M:Nat} [hx:aP x L] [hy:aP y M] (h:L + M + 1 ≤ 17592186044415):aT Tryz.prog 32 [aL x,aL y] (aL (x - y)):=by
 have hxa:=lJ hx.fit; have hxb:=lK hx.fit; have hxd:=lL hx.fit
 have hya:=lJ hy.fit; have hyb:=lK hy.fit; have hyd:=lL hy.fit
 have hxp:=x.den_pos; have hyp:=y.den_pos; have hdp:=Nat.mul_pos hxp hyp
 refine aT.intro Tryz.func32 rfl Tryz.ntmps32 rfl (fun cx=>(ts (rn rfl (fG (Ht rfl)) fun B2=>(rn rfl (fG (Ht rfl)) fun B3=>(rn rfl (eW (Ts:=[Is (.bool false),Is (.slice none 0 0),Is (.bool false),Is (.slice none 0 0),Is (.slice none 0 0)]) O_32 rfl (fun V=>aW zd (aW zd (aW zd (aW zd (aW zd (aG))))))) fun B4=>(eX (cK (fZ (m:=3) (dp 2 rfl (eJ A_32 Z_32 (Ht rfl) (i:=0) rfl rfl rfl) (dp 3 rfl (eJ A_32 Z_32 (Ht rfl) (i:=1) rfl rfl rfl) ?_))))))))))
 refine dq 6 1 rfl (cZ Tryz.call114 a17 ⟨(Ht rfl),trivial⟩) (fV bB rfl (by kernel_rfl) (aJ (aJ (aJ (aV (ro rfl (cZ Tryz.call33 (Ib zo) ⟨(Ht rfl),(Ht rfl),trivial⟩) (gX Z_32 (Ht rfl) (Ht rfl) rfl (i:=2) rfl (aK rfl) rfl rfl (eX (fW rfl (fX (fU A_32 Z_32 rfl (i:=2) rfl rfl) ?_))))))))))
 exact (jD (Qi.sub_def x y).symm)
theorem uM {x y:Qi} {L M:Nat} [hx:aP x L] [hy:aP y M] (h:L + M + 1 ≤ 17592186044415):aT Tryz.prog 29 [aL x,aL y] (aL (x * y)):=by
 have hxa:=lJ hx.fit; have hxb:=lK hx.fit; have hxd:=lL hx.fit
 have hya:=lJ hy.fit; have hyb:=lK hy.fit; have hyd:=lL hy.fit
 have hxp:=x.den_pos; have hyp:=y.den_pos; have hdp:=Nat.mul_pos hxp hyp
 have e1:=mK x.a y.a; have e2:=mK x.b y.b; have e3:=mK x.a y.b; have e4:=mK x.b y.a; have e5:=xA x.den y.den; have e8:=sH (x.b * y.b)
 have e6:=mJ (x:=x.a * y.a) (y:=-(x.b * y.b)) (L:=L + M) zo zo; have e7:=mJ (x:=x.a * y.b) (y:=x.b * y.a) (L:=L + M) zo zo
 refine aT.intro Tryz.func29 rfl Tryz.ntmps29 rfl (fun cx=>(ts (rn rfl (fG (Ht rfl)) fun B2=>(rn rfl (fG (Ht rfl)) fun B3=>(rn rfl (eW (Ts:=[Is (.bool false),Is (.slice none 0 0),Is (.bool false),Is (.slice none 0 0),Is (.slice none 0 0)]) O_32 rfl (fun V=>aW zd (aW zd (aW zd (aW zd (aW zd (aG))))))) fun B4=>(eX (cK (fZ (m:=13) (dp 2 rfl (eZ gA (Ht rfl) rfl) (dq 7 0 rfl (eJ A_30 Z_30 (Ht rfl) (i:=0) rfl rfl rfl) ?_))))))))))
 refine dp 3 rfl (eZ gA (Ht rfl) rfl) (dq 9 2 rfl (eJ A_30 Z_30 (Ht rfl) (i:=1) rfl rfl rfl) (eE 8 1 10 3 rfl (cZ K_105 (qG zo zo) ⟨(Ht rfl),(Ht rfl),trivial⟩) (dp 2 rfl (eZ gF (Ht rfl) rfl) (dq 12 5 rfl (eJ A_30 Z_30 (Ht rfl) (i:=0) rfl rfl rfl) (dp 3 rfl (eZ gF (Ht rfl) rfl) (dq 14 7 rfl (eJ A_30 Z_30 (Ht rfl) (i:=1) rfl rfl rfl) (eE 13 6 15 8 rfl (cZ K_105 (qG zo zo) ⟨(Ht rfl),(Ht rfl),trivial⟩) (dq 16 9 rfl (cZ K_107 oD ⟨(Ht rfl),trivial⟩) ?_))))))))
 refine eE 11 4 17 10 rfl (cZ K_106 (tS zo zo) ⟨(Ht rfl),(Ht rfl),trivial⟩) (C.D_new (Ei:=[]) rfl rfl rfl bW (eW (Ts:=[Is (.bool false),Is (.slice none 0 0)]) O_30 rfl (fun V=>aW zd (aW zd (aG)))) (fV bB rfl (by kernel_rfl) (zF (zF (zF (C.F_new (fun B5=>aV (gX Z_30 (Ht rfl) (Ht rfl) rfl (i:=3) rfl (aK rfl) rfl rfl (eX ?_)))))))))
 refine cK (fZ (m:=12) (dp 2 rfl (eZ gA (Ht rfl) rfl) (dq 19 0 rfl (eJ A_30 Z_30 (Ht rfl) (i:=0) rfl rfl rfl) (dp 3 rfl (eZ gF (Ht rfl) rfl) (dq 21 2 rfl (eJ A_30 Z_30 (Ht rfl) (i:=1) rfl rfl rfl) (eE 20 1 22 3 rfl (cZ K_105 (qG zo zo) ⟨(Ht rfl),(Ht rfl),trivial⟩) (dp 2 rfl (eZ gF (Ht rfl) rfl) (dq 24 5 rfl (eJ A_30 Z_30 (Ht rfl) (i:=0) rfl rfl rfl) (dp 3 rfl (eZ gA (Ht rfl) rfl) (dq 26 7 rfl (eJ A_30 Z_30 (Ht rfl) (i:=1) rfl rfl rfl) ?_))))))))))
 refine eE 25 6 27 8 rfl (cZ K_105 (qG zo zo) ⟨(Ht rfl),(Ht rfl),trivial⟩) (eE 23 4 28 9 rfl (cZ K_106 (tS zo zo) ⟨(Ht rfl),(Ht rfl),trivial⟩) (C.D_new (Ei:=[]) rfl rfl rfl bW (eW (Ts:=[Is (.bool false),Is (.slice none 0 0)]) O_30 rfl (fun V=>aW zd (aW zd (aG)))) (fV bB rfl (by kernel_rfl) (zF (zF (aJ (aJ (aJ (C.F_new (fun B6=>aV (gX Z_30 (Ht rfl) (Ht rfl) rfl (i:=4) rfl (aK rfl) rfl rfl ?_)))))))))))
 refine eX (cK (fZ (m:=7) (dp 5 rfl (eJ A_30 Z_30 (Ht rfl) (i:=3) rfl rfl rfl) (dp 6 rfl (eJ A_30 Z_30 (Ht rfl) (i:=4) rfl rfl rfl) (dp 2 rfl (eJ A_32 Z_32 (Ht rfl) (i:=0) rfl rfl rfl) (dq 32 2 rfl (cZ K_109 nE ⟨(Ht rfl),trivial⟩) (dp 3 rfl (eJ A_32 Z_32 (Ht rfl) (i:=1) rfl rfl rfl) (dq 34 4 rfl (cZ K_109 nE ⟨(Ht rfl),trivial⟩) (eE 33 3 35 5 rfl (cZ Tryz.call110 (Co zo zo) ⟨(Ht rfl),(Ht rfl),trivial⟩) (fV bB rfl (by kernel_rfl) (zF (aJ (aJ (aJ (aV ?_)))))))))))))))
 refine ro rfl (cZ K_108 (tQ (by first | assumption | omega) zo zo zo) ⟨(Ht rfl),(Ht rfl),(Ht rfl),trivial⟩) (gX Z_32 (Ht rfl) (Ht rfl) rfl (i:=2) rfl (aK rfl) rfl rfl (eX (fW rfl (fX (fU A_32 Z_32 rfl (i:=2) rfl rfl) ?_))))
 exact (jD (Qi.mk_mul x y))
theorem Ic {x:Qi} {L:Nat} [hx:aP x L] (h:L ≤ 17592186044415):aT Tryz.prog 34 [aL x] (aC (!decide (x = Qi.zero))):=by
 have hxa:=lJ hx.fit; have hxb:=lK hx.fit; have hxd:=lL hx.fit
 refine aT.intro Tryz.func34 rfl Tryz.ntmps34 rfl (fun cx=>(ts (rn rfl (fG (Ht rfl)) fun B1=>(ro rfl (cQ cV) (eX (ts (ro rfl (eZ gA (Ht rfl) rfl) (ro rfl (eZ dP (Ht rfl) rfl) (ro rfl (eY A_28 Z_28 (Ht rfl) (i:=0) rfl rfl) (ro rfl (dG U_28 (Ht rfl) aA) (ro rfl (eZ gF (Ht rfl) rfl) (ro rfl (eZ dP (Ht rfl) rfl) (ro rfl (eY A_28 Z_28 (Ht rfl) (i:=0) rfl rfl) (ro rfl (dG U_28 (Ht rfl) aA) (ro rfl (dV (Ht rfl) (Ht rfl) z6) ?_)))))))))))))))
 refine ro rfl (dE (Ht rfl) (cJ 0)) (ra rfl (eX (fW rfl (fX (eU rfl) ?_))))
 exact (cT (On x))
theorem Fw {x:Qi}:aT Tryz.prog 35 [aL x] (aC (decide (x.b = 0))):=by
 refine aT.intro Tryz.func35 rfl Tryz.ntmps35 rfl (fun cx=>(ts (rn rfl (fG (Ht rfl)) fun B1=>(ro rfl (cQ cV) (eX (ts (ro rfl (eZ gF (Ht rfl) rfl) (ro rfl (eZ dP (Ht rfl) rfl) (ro rfl (eY A_28 Z_28 (Ht rfl) (i:=0) rfl rfl) (ro rfl (dG U_28 (Ht rfl) aA) (ro rfl (cD (Ht rfl) (cJ 0)) (ra rfl (eX (fW rfl (fX (eU rfl) ?_)))))))))))))))
 exact (cT (Vw x))
theorem wO {x y:Qi} {L M:Nat} [hx:aP x L] [hy:aP y M] (h:L ≤ 17592186044415) (h2:M ≤ 17592186044415):aT Tryz.prog 45 [aL x,aL y] (aC (decide (x = y))):=by
 have hxa:=lJ hx.fit; have hxb:=lK hx.fit; have hxd:=lL hx.fit
 have hya:=lJ hy.fit; have hyb:=lK hy.fit; have hyd:=lL hy.fit
 have hxu:=Pa x; have hyu:=Pa y
 refine aT.intro Tryz.func45 rfl Tryz.ntmps45 rfl (fun cx=>(ts (rn rfl (fG (Ht rfl)) fun B2=>(rn rfl (fG (Ht rfl)) fun B3=>(ro rfl (cQ cV) (eX (ts (ro rfl (eZ gA (Ht rfl) rfl) (ro rfl (eJ A_30 Z_30 (Ht rfl) (i:=0) rfl rfl rfl) (ro rfl (eZ gA (Ht rfl) rfl) (ro rfl (eJ A_30 Z_30 (Ht rfl) (i:=1) rfl rfl rfl) (ro rfl (cZ Tryz.call112 (Am zo zo) ⟨(Ht rfl),(Ht rfl),trivial⟩) (ro rfl (jO (Ht rfl) cV) (rm rfl (fQ rfl rfl (eK rfl rfl (Ht rfl) (fun h=>eZ gF (Ht rfl) rfl)) ?_)))))))))))))))
 refine fQ rfl rfl (eK rfl rfl (Ht rfl) (fun h=>eJ A_30 Z_30 (fJ rfl h) (i:=0) rfl rfl rfl)) (fQ rfl rfl (eK rfl rfl (Ht rfl) (fun h=>eZ gF (Ht rfl) rfl)) (fQ rfl rfl (eK rfl rfl (Ht rfl) (fun h=>eJ A_30 Z_30 (fJ rfl h) (i:=1) rfl rfl rfl)) (fQ rfl rfl (eK rfl rfl (Ht rfl) (fun h=>cZ Tryz.call112 (Am zo zo) ⟨(fJ rfl h),(fJ rfl h),trivial⟩)) (fQ rfl rfl (eK rfl rfl (Ht rfl) (fun h=>jO (fJ rfl h) cV)) (ro rfl (eS (Ht rfl) (fun h=>(fJ rfl h))) ?_)))))
 refine rm rfl (fQ rfl rfl (eK rfl rfl (Ht rfl) (fun h=>eZ oH (Ht rfl) rfl)) (fQ rfl rfl (eK rfl rfl (Ht rfl) (fun h=>eY A_28 Z_28 (fJ rfl h) (i:=0) rfl rfl)) (fQ rfl rfl (eK rfl rfl (Ht rfl) (fun h=>eZ oH (Ht rfl) rfl)) (fQ rfl rfl (eK rfl rfl (Ht rfl) (fun h=>eY A_28 Z_28 (fJ rfl h) (i:=1) rfl rfl)) (fQ rfl rfl (eK rfl rfl (Ht rfl) (fun h=>cZ Tryz.call129 (Od zo zo) ⟨(fJ rfl h),(fJ rfl h),trivial⟩)) (fQ rfl rfl (eK rfl rfl (Ht rfl) (fun h=>jO (fJ rfl h) cV)) ?_))))))
 refine ro rfl (eS (Ht rfl) (fun h=>(fJ rfl h))) (ra rfl (eX (fW rfl (fX (eU rfl) ?_))))
 exact (cT (Wi x y))
theorem If {x y:Qi} {L M:Nat} [hx:aP x L] [hy:aP y M] (h:L + M ≤ 17592186044415):aT Tryz.prog 30 [aL x,aL y] (aI .i64 (pF x y)):=by
 have hxa:=lJ hx.fit; have hxb:=lK hx.fit; have hxd:=lL hx.fit
 have hya:=lJ hy.fit; have hyb:=lK hy.fit; have hyd:=lL hy.fit
 have e1:=fT x.a y.den; have e2:=fT y.a x.den; have e3:=fT x.b y.den; have e4:=fT y.b x.den
 refine aT.intro Tryz.func30 rfl Tryz.ntmps30 rfl (fun cx=>(ts (rn rfl (fG (Ht rfl)) fun B2=>(rn rfl (fG (Ht rfl)) fun B3=>(ro rfl (cQ (cJ 0)) (eX (cK (cK (fZ (m:=9) (dp 2 rfl (eZ gA (Ht rfl) rfl) (dq 6 0 rfl (eJ A_30 Z_30 (Ht rfl) (i:=0) rfl rfl rfl) (dp 3 rfl (eJ A_32 Z_32 (Ht rfl) (i:=1) rfl rfl rfl) (dq 8 2 rfl (cZ K_109 nE ⟨(Ht rfl),trivial⟩) (eE 7 1 9 3 rfl (cZ K_111 (jS zo zo) ⟨(Ht rfl),(Ht rfl),trivial⟩) (dp 3 rfl (eZ gA (Ht rfl) rfl) ?_)))))))))))))))
 refine dq 11 5 rfl (eJ A_30 Z_30 (Ht rfl) (i:=1) rfl rfl rfl) (dp 2 rfl (eJ A_32 Z_32 (Ht rfl) (i:=0) rfl rfl rfl) (dq 13 7 rfl (cZ K_109 nE ⟨(Ht rfl),trivial⟩) (fV bB rfl (by kernel_rfl) (zF (zF (aJ (aV (ro rfl (cZ K_111 (jS zo zo) ⟨(Ht rfl),(Ht rfl),trivial⟩) (ro rfl (cZ Tryz.call112 (Am zo zo) ⟨(Ht rfl),(Ht rfl),trivial⟩) (ra rfl (eX (ts (rm rfl (ro rfl (kT (Ht rfl) cV) ?_))))))))))))))
 refine eX (dQ (Ht rfl) (fun hb=>?_) (fun hb=>?_))
 ·simp only [Bool.not_eq_true', decide_eq_false_iff_not] at hb
  refine ts (rm rfl (ra rfl (eX (fW rfl (fX (eU rfl) ?_)))))
  exact (aN (by rw [pF,if_pos hb]))
 ·simp only [Bool.not_eq_false', decide_eq_true_eq] at hb
  refine cU (cK (fZ (m:=9) (dp 2 rfl (eZ gF (Ht rfl) rfl) (dq 20 0 rfl (eJ A_30 Z_30 (Ht rfl) (i:=0) rfl rfl rfl) (dp 3 rfl (eJ A_32 Z_32 (Ht rfl) (i:=1) rfl rfl rfl) (dq 22 2 rfl (cZ K_109 nE ⟨(Ht rfl),trivial⟩) (eE 21 1 23 3 rfl (cZ K_111 (jS zo zo) ⟨(Ht rfl),(Ht rfl),trivial⟩) (dp 3 rfl (eZ gF (Ht rfl) rfl) (dq 25 5 rfl (eJ A_30 Z_30 (Ht rfl) (i:=1) rfl rfl rfl) (dp 2 rfl (eJ A_32 Z_32 (Ht rfl) (i:=0) rfl rfl rfl) ?_))))))))))
  refine dq 27 7 rfl (cZ K_109 nE ⟨(Ht rfl),trivial⟩) (fV bB rfl (by kernel_rfl) (zF (zF (aJ (aV (ro rfl (cZ K_111 (jS zo zo) ⟨(Ht rfl),(Ht rfl),trivial⟩) (ro rfl (cZ Tryz.call112 (Am zo zo) ⟨(Ht rfl),(Ht rfl),trivial⟩) (ra rfl (eX (fW rfl (fX (eU rfl) ?_)))))))))))
  exact (aN (by rw [pF,if_neg (by simpa using hb)]))
end
section
open Go Go.RowKit
theorem Sr {n : Nat} {E : bD} {H : Hp} {d : Option Tmp} {t : TypeId} {pos : String} {af : Array Edge} {g : Option (Nat × Bool)}  :
  aD Tryz.prog n E H ⟨d,.build 30 #[],t,pos,af,g⟩ (eB [Is (.bool false),Is (.slice none 0 0)]) :=
 fO (parts := []) fun a V w hs => by
  refine ⟨.agg #[(.bool false),(.slice none 0 0)],?_,[(.bool false),(.slice none 0 0)],rfl,aW (⟨rfl,trivial⟩) (aW (⟨rfl,trivial⟩) (aG))⟩
  simp [Instr.build,Instr.fill,Sem.run_bind,Result.andThen,dN,O_30,U_30,Z_4,Z_28]
theorem oG (a:Addr) (w:World):(Instr.fieldAt 23 (.pointer (some a)) 0).run Tryz.prog w = .ok (.pointer (some (a.add 0))) w:=by
 simp [Instr.fieldAt,Instr.sureAddr,fieldPlace,Sem.run_bind,Result.andThen,U_23,Z_2]
theorem At (a:Addr) (w:World):(Instr.fieldAt 23 (.pointer (some a)) 1).run Tryz.prog w = .ok (.pointer (some (a.add 1))) w:=by
 simp [Instr.fieldAt,Instr.sureAddr,fieldPlace,Sem.run_bind,Result.andThen,U_23,Z_2]
theorem nG (a:Addr) (w:World):(Instr.fieldAt 23 (.pointer (some a)) 2).run Tryz.prog w = .ok (.pointer (some (a.add 2))) w:=by
 simp [Instr.fieldAt,Instr.sureAddr,fieldPlace,Sem.run_bind,Result.andThen,U_23,Z_2]
theorem lX:Tryz.prog.info? 32 = some Tryz.t32:=by kernel_rfl
theorem oP:Tryz.prog.underlying 54 = some (.slice 32):=by kernel_rfl
end
section
open Go Go.RowKit
theorem Gc {a:Int} {d:Nat} (hd:0 < d) (ha:(dg a.natAbs).length ≤ 8796093022208) (hd2:(dg d).length ≤ 8796093022208):aT Tryz.prog 192 [fE a,aM d] (nQ (pT a d)):=by
 have h1:=Dw a hd; have h2:=Dx a hd
 obtain ⟨x,hx⟩:∃ x,x = Qi.mk' a 0 d:=⟨_,rfl⟩
 rw [pT,← hx]
 rw [← hx] at h1 h2
 have h3:=oF x.a.natAbs; have h4:=oF x.den
 have h5:(dg (0:Int).natAbs).length ≤ 0:=by rw [show (0:Int).natAbs = 0 from rfl,dD]; exact Nat.le_refl _
 refine aT.intro Tryz.func192 rfl Tryz.ntmps192 rfl (fun cx=>(ts (rn rfl (fG (Ht rfl)) fun B2=>(ro rfl (cQ (aB.cS (l:=[]) rfl)) (eX (ts (ro rfl (eJ A_30 Z_30 (Ht rfl) (i:=0) rfl rfl rfl) (ro rfl (aD.imp (Sr ) yF) (rm rfl (ro rfl (aD.imp (cZ K_108 (tQ (by first | assumption | omega) zo zo zo) ⟨(Ht rfl),(Ht rfl),(Ht rfl),trivial⟩) (jD hx.symm)) (rn rfl (eW (Ts:=[Is (.bool false),Is (.slice none 0 0),Is (.bool false),Is (.slice none 0 0),Is (.slice none 0 0)]) O_32 rfl (fun V=>aW zd (aW zd (aW zd (aW zd (aW zd (aG))))))) fun B5=>?_)))))))))))
 refine gX Z_32 (Ht rfl) (Ht rfl) rfl (i:=1) rfl (aK rfl) rfl rfl (eX (ts (ro rfl (eZ gA (Ht rfl) rfl) (ro rfl (eZ dP (Ht rfl) rfl) (ro rfl (eY A_28 Z_28 (Ht rfl) (i:=1) rfl rfl) (ro rfl (cZ Tryz.call243 (Cn zo) ⟨(Ht rfl),trivial⟩) (ra rfl (eX (cK (iA (fun (uu:Unit)=>True) (fun (uu:Unit)=>[(5,cH B5 0),(6,nQ (if x.a < 0 then 45 :: rU x.a.natAbs else rU x.a.natAbs))]) (fun (uu:Unit)=>[box B2 30 [aC (decide (a < 0)),aM (a).natAbs],box B5 32 [aC (decide ((x).a < 0)),aM (x).a.natAbs,aC (decide ((x).b < 0)),aM (x).b.natAbs,aM (du (x))]]) ?_ (fun uu _=>?_)))))))))))
 ·refine ts (ro rfl (eZ gA (Ht rfl) rfl) (ro rfl (eZ jF (Ht rfl) rfl) (ro rfl (eY A_4 Z_4 (Ht rfl) (i := 1) rfl rfl) (eX (dQ (Ht rfl) (fun hb => ?_) (fun hb => ?_))))))
  ·simp only [decide_eq_true_eq] at hb
   refine cY (rm rfl (ro rfl (iI (aB.cS (l:=[45]) rfl) (Ht rfl) (by first | omega | (simp; omega))) (ra rfl (eX (aO () trivial (aQ rfl (aZ rfl (hZ (by rw [if_pos hb]; rfl)) aX)) (aU (aR rfl) (aU (aR rfl) aY)))))))
  ·simp only [decide_eq_false_iff_not] at hb
   refine cU (aO () trivial (aQ rfl (aZ rfl (hZ (by rw [if_neg hb])) aX)) (aU (aR rfl) (aU (aR rfl) aY)))
 ·have h6 : (if x.a < 0 then 45 :: rU x.a.natAbs else rU x.a.natAbs).length ≤ (rU x.a.natAbs).length + 1 := by split <;> simp
  have h7:=Pa x
  refine cK (iA (fun (uu:Unit)=>True) (fun (uu:Unit)=>[(6,nQ ((if x.a < 0 then 45 :: rU x.a.natAbs else rU x.a.natAbs) ++ (if x.den = 1 then [] else 47 :: rU x.den)))]) (fun (uu:Unit)=>[box B2 30 [aC (decide (a < 0)),aM (a).natAbs],box B5 32 [aC (decide ((x).a < 0)),aM (x).a.natAbs,aC (decide ((x).b < 0)),aM (x).b.natAbs,aM (du (x))]]) ?_ (fun uu _=>?_))
  ·refine ts (ro rfl (eZ oH (Ht rfl) rfl) (ro rfl (eY A_28 Z_28 (Ht rfl) (i := 1) rfl rfl) (ro rfl (dG U_28 (Ht rfl) aA) (ro rfl (dE (Ht rfl) (cJ 0)) (eX (dQ (Ht rfl) (fun hb => ?_) (fun hb => ?_)))))))
   ·simp only [decide_eq_true_eq] at hb
    have h8:du x = x.den:=sU (fun e=>by rw [e,dD] at hb; simp at hb)
    have h9:x.den ≠ 1:=fun e=>by rw [du,if_pos e,dD] at hb; simp at hb
    have h10:=oF (du x)
    refine cY (rm rfl (ro rfl (eZ oH (Ht rfl) rfl) (ro rfl (eY A_28 Z_28 (Ht rfl) (i:=1) rfl rfl) (ro rfl (cZ Tryz.call243 (Cn zo) ⟨(Ht rfl),trivial⟩) (ro rfl (iI (aB.cS (l:=[47]) rfl) (Ht rfl) (by simp only [List.length_cons,List.length_nil]; omega)) ?_)))))
    refine ro rfl (iI (Ht rfl) (Ht rfl) (by simp only [List.length_append,List.length_cons,List.length_nil]; omega)) ?_
    refine ra rfl (eX (aO () trivial (aZ rfl (hZ (by rw [if_neg h9,h8]; rfl)) aX) (cA.refl _)))
   ·simp only [decide_eq_false_iff_not] at hb
    have h9:x.den = 1:=vH (aH.1 zo)
    refine cU (aO () trivial (aZ rfl (hZ (by rw [if_pos h9,List.append_nil])) aX) (cA.refl _))
  ·refine ts (rm rfl (ra rfl (eX ?_)))
   exact fW rfl (eU rfl)
theorem Oc {x:Qi} {L:Nat} [hx:aP x L] (h:L ≤ 8796093022208):aT Tryz.prog 92 [aL x] (nQ (Mu x)):=by
 have hxa:=lJ hx.fit; have hxb:=lK hx.fit; have hxd:=lL hx.fit; have hdp:=x.den_pos
 have l1:=tD x.a hdp; have l2:=tD x.b hdp
 refine aT.intro Tryz.func92 rfl Tryz.ntmps92 rfl (fun cx=>(ts (rn rfl (fG (Ht rfl)) fun B1=>(ro rfl (cQ (aB.cS (l:=[]) rfl)) (eX (cK (ts (ro rfl (eJ A_32 Z_32 (Ht rfl) (i:=0) rfl rfl rfl) (ro rfl (cZ Tryz.call35 Fw ⟨(Ht rfl),trivial⟩) (eX (dQ (Ht rfl) (fun hb=>?_) (fun hb=>?_))))))))))))
 ·simp only [decide_eq_true_eq] at hb
  refine cK (fZ (m:=4) (dp 1 rfl (eZ gA (Ht rfl) rfl) (dq 6 0 rfl (eJ A_30 Z_30 (Ht rfl) (i:=0) rfl rfl rfl) (dp 1 rfl (eJ A_32 Z_32 (Ht rfl) (i:=0) rfl rfl rfl) (dq 8 2 rfl (cZ K_109 nE ⟨(Ht rfl),trivial⟩) (fV bB rfl (by kernel_rfl) (zF (aV (ro rfl (cZ Tryz.call192 (Gc (by assumption) zo zo) ⟨(Ht rfl),(Ht rfl),trivial⟩) ?_)))))))))
  refine ra rfl (eX (fW rfl (fX (eU rfl) ?_)))
  exact (hZ (by rw [Mu,if_pos hb]))
 ·simp only [decide_eq_false_iff_not] at hb
  refine cU (cK (fZ (m:=4) (dp 1 rfl (eZ gF (Ht rfl) rfl) (dq 11 0 rfl (eJ A_30 Z_30 (Ht rfl) (i:=0) rfl rfl rfl) (dp 1 rfl (eJ A_32 Z_32 (Ht rfl) (i:=0) rfl rfl rfl) (dq 13 2 rfl (cZ K_109 nE ⟨(Ht rfl),trivial⟩) (fV bB rfl (by kernel_rfl) (zF (aV (ro rfl (cZ Tryz.call192 (Gc (by assumption) zo zo) ⟨(Ht rfl),(Ht rfl),trivial⟩) ?_))))))))))
  refine ro rfl (iI (Ht rfl) (aB.cS (l:=[105]) rfl) (by simp only [List.length_append,List.length_cons,List.length_nil]; omega)) ?_
  refine ra rfl (eX (cK (ts (ro rfl (eZ gA (Ht rfl) rfl) (ro rfl (eZ dP (Ht rfl) rfl) (ro rfl (eY A_28 Z_28 (Ht rfl) (i:=0) rfl rfl) (ro rfl (dG U_28 (Ht rfl) aA) (ro rfl (cD (Ht rfl) (cJ 0)) (eX (dQ (Ht rfl) (fun hc=>?_) (fun hc=>?_)))))))))))
  ·simp only [decide_eq_true_eq] at hc
   have ha:x.a = 0:=by have:=aH.1 hc; omega
   refine ts (rm rfl (ra rfl (eX (fW rfl (fX (eU rfl) ?_)))))
   exact (hZ (by rw [Mu,if_neg hb,if_pos ha]))
  ·simp only [decide_eq_false_iff_not] at hc
   have ha:x.a ≠ 0:=fun e=>hc (by rw [e]; exact aH.2 rfl)
   refine cU (cK (iA (fun (uu:Unit)=>True) (fun (uu:Unit)=>[(1,cH B1 0),(3,nQ ((if x.b < 0 then pT x.b x.den else 43 :: pT x.b x.den) ++ [105]))]) (fun (uu:Unit)=>[box B1 32 [aC (decide ((x).a < 0)),aM (x).a.natAbs,aC (decide ((x).b < 0)),aM (x).b.natAbs,aM (du (x))]]) ?_ (fun uu _=>?_)))
   ·refine ts (ro rfl (eZ gF (Ht rfl) rfl) (ro rfl (eZ jF (Ht rfl) rfl) (ro rfl (eY A_4 Z_4 (Ht rfl) (i := 0) rfl rfl) (ro rfl (eC (Ht rfl)) (eX (dQ (Ht rfl) (fun hd => ?_) (fun hd => ?_)))))))
    ·have hn : ¬ x.b < 0 := by simpa using hd
     refine cY (rm rfl (ro rfl (iI (aB.cS (l:=[43]) rfl) (Ht rfl) (by simp only [List.length_append,List.length_cons,List.length_nil]; omega)) ?_))
     refine ra rfl (eX (aO () trivial (aQ rfl (aZ rfl (hZ (by rw [if_neg hn]; rfl)) aX)) (aU (aR rfl) aY)))
    ·have hn : x.b < 0 := by simpa using hd
     refine cU (aO () trivial (aQ rfl (aZ rfl (hZ (by rw [if_pos hn])) aX)) (aU (aR rfl) aY))
   ·have l3 : ((if x.b < 0 then pT x.b x.den else 43 :: pT x.b x.den) ++ [105]).length ≤ (pT x.b x.den).length + 2 := by split <;> simp
    refine cK (fZ (m:=6) (dp 1 rfl (eZ gA (Ht rfl) rfl) (dq 29 0 rfl (eJ A_30 Z_30 (Ht rfl) (i:=0) rfl rfl rfl) (dp 1 rfl (eJ A_32 Z_32 (Ht rfl) (i:=0) rfl rfl rfl) (dq 31 2 rfl (cZ K_109 nE ⟨(Ht rfl),trivial⟩) (eE 30 1 32 3 rfl (cZ Tryz.call192 (Gc (by assumption) zo zo) ⟨(Ht rfl),(Ht rfl),trivial⟩) ?_))))))
    refine dp 3 rfl (cX (Ht rfl)) (fV bB rfl (by kernel_rfl) (zF (aJ (aJ (aV (ro rfl (iI (Ht rfl) (Ht rfl) zo) (ra rfl (eX (fW rfl (fX (eU rfl) ?_))))))))))
    exact (hZ (by rw [Mu,if_neg hb,if_neg ha]))
theorem Io {r:Rt}:aT Tryz.prog 14 [jQ r] (aL r.q):=by
 have hr1:=r.h1; have hr2:=r.h2; have hr3:=r.h3; have hr4:=r.h4; have hr5:=r.d1; have hr6:=r.d2; have hr0:=r.d0
 refine aT.intro Tryz.func14 rfl Tryz.ntmps14 rfl (fun cx=>(ts (rn rfl (fG (Ht rfl)) fun B1=>(rn rfl (eW (Ts:=[Is (.bool false),Is (.slice none 0 0),Is (.bool false),Is (.slice none 0 0),Is (.slice none 0 0)]) O_32 rfl (fun V=>aW zd (aW zd (aW zd (aW zd (aW zd (aG))))))) fun B2=>(eX (cK (iA (fun (uu:Unit)=>True) (fun (uu:Unit)=>[(1,cH B1 0),(2,cH B2 0)]) (fun (uu:Unit)=>[box B1 23 [aI .i64 r.re,aI .i64 r.im,aI .i64 r.d],box B2 32 [Is (.bool false),Is (.slice none 0 0),Is (.bool false),Is (.slice none 0 0),Is (.slice none 0 0)]]) ?_ (fun uu _=>?_))))))))
 ·refine ts (ro rfl (eZ nG (Ht rfl) rfl) (ro rfl (eY A_2 Z_2 (Ht rfl) (i := 0) rfl rfl) (ro rfl (jO (Ht rfl) cV) (eX (dQ (Ht rfl) (fun hb => ?_) (fun hb => ?_))))))
  ·simp only [decide_eq_true_eq] at hb
   refine cY (ro rfl (eZ nG (Ht rfl) rfl) (iD Z_2 (Ht rfl) (cJ 1) (i:=0) rfl (aK rfl) rfl (eX (aO () trivial (zS rfl) (aU (aR (by rw [Rt.d,if_pos hb]; rfl)) (aU (aR rfl) aY))))))
  ·simp only [decide_eq_false_iff_not] at hb
   refine cU (aO () trivial (zS rfl) (aU (aR (by rw [Rt.d,if_neg hb])) (aU (aR rfl) aY)))
 ·refine ts (ro rfl (eZ oG (Ht rfl) rfl) (ro rfl (eY A_2 Z_2 (Ht rfl) (i := 0) rfl rfl) (ro rfl (eZ At (Ht rfl) rfl) (ro rfl (eY A_2 Z_2 (Ht rfl) (i := 0) rfl rfl) (ro rfl (eZ nG (Ht rfl) rfl) (ro rfl (eY A_2 Z_2 (Ht rfl) (i := 0) rfl rfl) (ro rfl (cZ Tryz.call81 (a18 hr1 hr2 hr3 hr4 hr5 hr6 hr0) ⟨(Ht rfl), (Ht rfl), (Ht rfl), trivial⟩) (rm rfl (ro rfl (dK (Ht rfl) rfl) (ro rfl (dK (Ht rfl) rfl) (rn rfl (eW (Ts := [Is (.bool false), Is (.slice none 0 0), Is (.bool false), Is (.slice none 0 0), Is (.slice none 0 0)]) O_32 rfl (fun V => aW zd (aW zd (aW zd (aW zd (aW zd (aG))))))) fun B3 => ?_)))))))))))
  refine gX Z_32 (Ht rfl) (Ht rfl) rfl (i:=2) rfl (aK rfl) rfl rfl (ra rfl (eX (ts (ro rfl (eJ A_32 Z_32 (Ht rfl) (i:=2) rfl rfl rfl) (gX Z_32 (Ht rfl) (Ht rfl) rfl (i:=1) rfl (aK rfl) rfl rfl (eX ?_))))))
  exact fW rfl (fU A_32 Z_32 rfl (i:=1) rfl rfl)
theorem tO {l:List Rt} (hl:l.length ≤ 1000000):aT Tryz.prog 50 [kG l] (bP (l.map Rt.q)):=by
 refine aT.intro Tryz.func50 rfl Tryz.ntmps50 rfl (fun cx=>(ts (ro rfl (cQ cV) (eX (ts (rm rfl (ro rfl (dG U_77 (Ht rfl) aA) (rn rfl (iB (T:=aL Qi.zero) (i:=Tryz.t32) oP lX rfl rfl (Ht rfl) rfl kC (El.ag rfl) (by show 88 * _ ≤ _; omega) zo) fun B8=>(ra rfl (eX (cK (ts (rm rfl (ro rfl (dG U_77 (Ht rfl) aA) (ro rfl (cX (cJ 0)) (eX (eG ?_)))))))))))))))))
 refine gC (fun (k : Nat) (out : List Qi) => lI (fun i => (l.getD i default).q) l.length out k) (fun (k : Nat) (out : List Qi) => l.length - k) (fun (k : Nat) (out : List Qi) => [(3, Is B8), (9, kG l), (10, NT .i64 l.length), (11, NT .i64 k)]) (fun (k : Nat) (out : List Qi) => [bH 32 5 B8 (out.map aL)]) 0 (List.replicate l.length Qi.zero) (lI.start _ _ _)
  (zS rfl) (aU (bN (pV aL _ _)) aY) (fun k out hS=>?_)
 refine ts (ro rfl (gZ (Ht rfl) (Ht rfl)) (eX (cK (dQ (Ht rfl) (fun hk=>?_) (fun hk=>?_)))))
 ·simp only [decide_eq_true_eq] at hk
  have hlen:=hS.len
  refine cU (cK (eG (ts (rm rfl (ro rfl (dZ U_77 Z_23 (Ht rfl) (Ht rfl) rfl (dY (dU (d:=default) hk))) (ro rfl (dJ A_23 Z_23 (Ht rfl)) (rn rfl (eW (Ts:=[Is (.int .i64 0),Is (.int .i64 0),Is (.int .i64 0)]) O_23 rfl (fun V=>aW zd (aW zd (aW zd (aG))))) fun B5=>(ra rfl (gX Z_23 (Ht rfl) (Ht rfl) rfl (i:=1) rfl (aK rfl) rfl rfl (eX (cY (rm rfl (rm rfl (ro rfl (eJ A_23 Z_23 (Ht rfl) (i:=1) rfl rfl rfl) ?_))))))))))))))
  refine ro rfl (cZ Tryz.call14 Io ⟨(Ht rfl),trivial⟩) (ro rfl (eO U_54 Z_32 (Ht rfl) (Ht rfl) rfl (i:=0) rfl (by first | omega | (simp; omega)) rfl) (mN Z_32 (Ht rfl) (Ht rfl) (El.ag rfl) (i:=0) rfl rfl (by first | omega | (simp; omega)) rfl (eX (T_blk (cY (ro rfl (dV (Ht rfl) (cJ 1) z6) (rm rfl (eX (eR [0] rfl (by decide) (fY (k + 1,_) (hS.next hk rfl) (by dsimp only; omega) (zS rfl) (aU (bN (kV aL _ _ _)) aY)))))))))))
 ·simp only [decide_eq_false_iff_not] at hk
  obtain rfl:k = l.length:=Nat.le_antisymm hS.kle zo
  have hfin:=hS.fin
  rw [qB l Rt.q] at hfin
  refine gW rfl (gV (i:=0) (tt:=3) rfl rfl iZ (ts (rm rfl (ra rfl (eX (fW rfl (fX (eU rfl) ?_)))))))
  exact (lB (by rw [hfin]))
end
section
open Go Go.RowKit
theorem qF (ds:List Nat) (hd:iV ds) (hl:ds.length ≤ 1152921504606846976):aT Tryz.prog 240 [tJ ds] (aM (val ds)):=by
 refine aT.intro Tryz.func240 rfl Tryz.ntmps240 rfl (fun cx=>(ts (ro rfl (cQ cV) (eX (ts (rm rfl (ro rfl (dG U_27 (Ht rfl) aA) (ra rfl (eX (cK (eG ?_)))))))))))
 refine dB (fun (k : Nat) => k ≤ ds.length ∧ ∀ i, k ≤ i → i < ds.length → ds.getD i 0 = 0) (fun (k : Nat) => k) (fun (k : Nat) => [(0, tJ ds), (3, NT .i64 k)]) (fun (k : Nat) => []) ds.length ⟨Nat.le_refl _, fun i h1 h2 => by omega⟩
  (zS rfl) aY (fun k ⟨hk,hz⟩=>?_)
 refine cK (ts (rm rfl (ro rfl (dE (Ht rfl) (cJ 0)) (rm rfl (fQ rfl rfl (eK rfl rfl (Ht rfl) (fun h=>cX (Ht rfl))) (fQ rfl rfl (eK rfl rfl (Ht rfl) (fun h=>cX (Ht rfl))) (fQ rfl rfl (eK rfl rfl (Ht rfl) (fun h=>dW (fJ rfl h) (cJ 1) (by first | omega | (simp at h; omega)) (by show _ < 9223372036854775808; first | omega | (simp at h; omega)))) (fQ rfl rfl (eK rfl rfl (Ht rfl) (fun h=>dZ U_27 Z_24 (fJ rfl h) (fJ rfl h) rfl (dY (aF (by first | omega | (simp at h; omega)))))) ?_))))))))
 refine fQ rfl rfl (eK rfl rfl (Ht rfl) (fun h=>dJ A_24 Z_24 (fJ rfl h))) (fQ rfl rfl (eK rfl rfl (Ht rfl) (fun h=>cD (fJ rfl h) (cJ 0))) (ro rfl (eS (Ht rfl) (fun h=>(fJ rfl h))) (eX (dQ (Ht rfl) (fun hb=>?_) (fun hb=>?_)))))
 ·simp at hb
  refine cU (eG (cY (rm rfl (ro rfl (dW (Ht rfl) (cJ 1) zo z6) (ra rfl (eX (T_blk (fY (k - 1) ⟨by omega,fun i h1 h2=>?_⟩ zo (zS rfl) aY))))))))
  by_cases e2:i = k - 1
  ·subst e2; simpa using hb.2
  ·exact hz i zo h2
 ·have hn : k = 0 ∨ ds.getD (k - 1) 0 ≠ 0 := by
   simp only [Bool.and_eq_false_iff,decide_eq_false_iff_not] at hb
   rcases hb with h1 | h1
   ·left; omega
   ·right; exact h1
  have hfin:=Ja hd hk hz hn
  refine gW rfl (ts (rm rfl (rm rfl (ro rfl (qS U_27 Z_24 (Ht rfl) (Ht rfl) (fun m e=>by cases e) zo (by simp; omega) rfl) ?_))))
  refine ra rfl (eX (fW rfl (fX (eU rfl) ?_)))
  exact (De (by rw [hfin]; simp))
theorem wS {m:Nat} (hm:m < 18446744073709551616):aT Tryz.prog 235 [NT .u64 m] (aM m):=by
 refine aT.intro Tryz.func235 rfl Tryz.ntmps235 rfl (fun cx=>(ts (ro rfl (cQ cV) (eX (ts (rm rfl (ro rfl (fP rfl U_274 U_24 (Ht rfl)) (rm rfl (ro rfl (dS (Ht rfl) (cJ 32) (by decide)) (ro rfl (fP rfl U_274 U_24 (Ht rfl)) (ro rfl (dT (xs:=[.tmp 4,.tmp 7]) U_27 Z_24 O_24 (cW (Ht rfl) (cW (Ht rfl) cG)) rfl rfl rfl) (ro rfl (cZ K_240 (qF [m % 4294967296,m / 2 ^ 32 % 4294967296] (a1i _ _) (by simp)) ⟨(Ht rfl),trivial⟩) ?_))))))))))))
 refine ra rfl (eX (fW rfl (fX (eU rfl) ?_)))
 exact (cB (zJ hm))
theorem Kv {m n:Nat} (hm:(dg m).length ≤ 1152921504606846976) (hn:(dg n).length ≤ 1152921504606846976):aT Tryz.prog 225 [aM m,aM n] (aI .i64 (nN m n)):=by
 refine aT.intro Tryz.func225 rfl Tryz.ntmps225 rfl (fun cx=>(ts (ro rfl (cQ (cJ 0)) (eX (cK (ts (rm rfl (ro rfl (dG U_27 (Ht rfl) aA) (rm rfl (ro rfl (dG U_27 (Ht rfl) aA) (ro rfl (fL (Ht rfl) (Ht rfl)) (eX (dQ (Ht rfl) (fun hb=>?_) (fun hb=>?_))))))))))))))
 ·simp at hb
  refine cK (ts (rm rfl (ro rfl (dG U_27 (Ht rfl) aA) (rm rfl (ro rfl (dG U_27 (Ht rfl) aA) (ro rfl (gZ (Ht rfl) (Ht rfl)) (eX (dQ (Ht rfl) (fun hb2=>?_) (fun hb2=>?_)))))))))
  ·simp at hb2
   have hlt:=wW hb2
   refine ts (ro rfl (cQ cV) (eX (fW rfl (fX (eU rfl) ?_))))
   exact (aN (by simp [nN,hlt]))
  ·simp at hb2
   have hlt:=wW (a:=n) (b:=m) zo
   refine cU (ts (ro rfl (cQ (cJ 1)) (eX (fW rfl (fX (eU rfl) ?_)))))
   exact (aN (by simp [nN,hlt,Nat.lt_asymm hlt]))
 ·simp at hb
  refine cU (cK (ts (rm rfl (ro rfl (dG U_27 (Ht rfl) aA) (ro rfl (gP (Ht rfl) cV (uX zo)) (ra rfl (eX (eG ?_))))))))
  refine dB (fun (k : Nat) => k ≤ (dg m).length ∧ ∀ i, k ≤ i → i < (dg m).length → (dg m).getD i 0 = (dg n).getD i 0) (fun (k : Nat) => k) (fun (k : Nat) => [(0, aM m), (1, aM n), (5, aI .i64 ((k : Int) - 1))]) (fun (k : Nat) => []) (dg m).length ⟨Nat.le_refl _, fun i h1 h2 => by omega⟩
   (zS rfl) aY (fun k ⟨hk,he⟩=>?_)
  refine cK (ts (rm rfl (ro rfl (kD (Ht rfl) cV) (eX (dQ (Ht rfl) (fun hk1=>?_) (fun hk1=>?_))))))
  ·simp at hk1
   refine cU (cK (eG (cK (fZ (m:=8) (dp 0 rfl (cX (Ht rfl)) (dp 5 rfl (cX (Ht rfl)) (eE 23 0 24 1 rfl (dZ U_27 Z_24 (Ht rfl) (Ht rfl) (show ((k:Int) - 1) = ((k - 1:Nat):Int) by omega) (dY (aF zo))) (dq 25 2 rfl (dJ A_24 Z_24 (Ht rfl)) (dp 1 rfl (cX (Ht rfl)) (dp 5 rfl (cX (Ht rfl)) (eE 27 4 28 5 rfl (dZ U_27 Z_24 (Ht rfl) (Ht rfl) (show ((k:Int) - 1) = ((k - 1:Nat):Int) by omega) (dY (aF zo))) (dq 29 6 rfl (dJ A_24 Z_24 (Ht rfl)) ?_))))))))))))
   refine fV bB rfl (by kernel_rfl) (zF (zF (aV (ro rfl (fL (Ht rfl) (Ht rfl)) (eX (dQ (Ht rfl) (fun h1=>?_) (fun h1=>?_)))))))
   ·simp only [Bool.not_eq_true', decide_eq_false_iff_not] at h1
    refine cK (cK (fZ (m:=8) (dp 0 rfl (cX (Ht rfl)) (dp 5 rfl (cX (Ht rfl)) (eE 32 0 33 1 rfl (dZ U_27 Z_24 (Ht rfl) (Ht rfl) (show ((k:Int) - 1) = ((k - 1:Nat):Int) by omega) (dY (aF zo))) (dq 34 2 rfl (dJ A_24 Z_24 (Ht rfl)) (dp 1 rfl (cX (Ht rfl)) (dp 5 rfl (cX (Ht rfl)) (eE 36 4 37 5 rfl (dZ U_27 Z_24 (Ht rfl) (Ht rfl) (show ((k:Int) - 1) = ((k - 1:Nat):Int) by omega) (dY (aF zo))) (dq 38 6 rfl (dJ A_24 Z_24 (Ht rfl)) ?_))))))))))
    refine fV bB rfl (by kernel_rfl) (zF (zF (aV (ro rfl (gZ (Ht rfl) (Ht rfl)) (eX (dQ (Ht rfl) (fun h2=>?_) (fun h2=>?_)))))))
    ·simp only [decide_eq_true_eq] at h2
     have hlt:=vF (bC m) (bC n) hb (k:=k - 1) zo (fun i h2 h3=>he i zo h3) h2
     rw [cF,cF] at hlt
     refine ts (ro rfl (cQ cV) (eX (fW rfl (fX (eU rfl) ?_))))
     exact (aN (by simp [nN,hlt]))
    ·simp only [decide_eq_false_iff_not] at h2
     have hlt:=vF (bC n) (bC m) hb.symm (k:=k - 1) zo (fun i h2 h3=>(he i zo zo).symm) zo
     rw [cF,cF] at hlt
     refine cU (ts (ro rfl (cQ (cJ 1)) (eX (fW rfl (fX (eU rfl) ?_)))))
     exact (aN (by simp [nN,hlt,Nat.lt_asymm hlt]))
   ·simp only [Bool.not_eq_false', decide_eq_true_eq] at h1
    refine cU (T_blk (cY (rm rfl (ro rfl (gP (Ht rfl) cV (uX zo)) (ra rfl (eX (fY (k - 1) ⟨by omega,fun i h3 h4=>(by by_cases e:i = k - 1; (· subst e; omega); exact he i zo h4)⟩ zo (aQ rfl (aQ rfl (aZ rfl (aN zo) aX))) aY)))))))
  ·simp at hk1
   have hk0:k = 0:=by omega
   have heq : m = n := by
    have : dg m = dg n := by
     apply List.ext_getElem?
     intro i
     by_cases hi:i < (dg m).length
     ·have h5 := he i zo hi
      have h6:i < (dg n).length:=by omega
      simp [List.getD,hi,h6] at h5
      simp [hi,h6,h5]
     ·rw [List.getElem?_eq_none zo,List.getElem?_eq_none zo]
    rw [← cF m,this,cF]
   refine gW rfl (ts (ro rfl (cQ (cJ 0)) (eX (fW rfl (fX (eU rfl) ?_)))))
   exact (aN (by simp [nN,heq]))
theorem Cr {m y:Nat} (hm:(dg m).length ≤ 17592186044416) (hy:0 < y) (hyb:y < BB):aT Tryz.prog 279 [aM m,bL y] (fB [aM (m / y),bL (m % y)]):=by
 refine aT.intro Tryz.func279 rfl Tryz.ntmps279 rfl (fun cx=>?_)
 have hyb2:=hyb
 simp only [BB] at hyb2
 refine ts (ro rfl (cQ cV) (ro rfl (cQ (cJ 0)) (eX (ts (rm rfl (ro rfl (dG U_27 (Ht rfl) aA) (rn rfl (gB (T:=bL 0) (i:=Tryz.t24) V_27 jH rfl rfl (Ht rfl) rfl (fun _=>rfl) trivial (by show 4 * _ ≤ _; omega) zo) fun B12=>(ra rfl (eX (ts (ro rfl (cQ (cJ 0)) (eX (cK (ts (rm rfl (ro rfl (dG U_27 (Ht rfl) aA) (ro rfl (gP (Ht rfl) cV (uX zo)) (ra rfl (eX (eG ?_))))))))))))))))))))
 refine jV (fun (k : Nat) (out : List Nat) (r : Nat) => mO (dg m) y out k r) (fun (k : Nat) (out : List Nat) (r : Nat) => k) (fun (k : Nat) (out : List Nat) (r : Nat) => [(0, aM m), (1, bL y), (6, Is (.slice (some ⟨B12, 0, none⟩) (dg m).length (dg m).length)), (7, NT .u64 r), (8, aI .i64 ((k : Int) - 1))]) (fun (k : Nat) (out : List Nat) (r : Nat) => [box B12 24 (out.map bL)]) (dg m).length (List.replicate (dg m).length 0) 0 (mO.start _ hy)
  (zS rfl) (aU (aR (kU _)) aY) (fun k out r hS=>?_)
 refine cK (ts (rm rfl (ro rfl (kD (Ht rfl) cV) (eX (dQ (Ht rfl) (fun hb=>?_) (fun hb=>?_))))))
 ·simp at hb
  have hlen:=hS.len; have hkl:=hS.kle; have hrl:=hS.rlt; have hxk:=aS (bC m) (k - 1)
  have hz2:=Rw (Nat.lt_trans hrl hyb) hxk; have hsh:=Et (Nat.lt_trans hrl hyb); have hq:=zR hrl hxk; have hor:=sJ (a:=r) hxk; have hmod:=Nat.mod_lt (r * BB + (dg m).getD (k - 1) 0) hy
  have hxk2:=hxk
  simp only [BB] at hxk2
  refine cU (cK (eG (ts (rm rfl (ro rfl (lF (Ht rfl) (cJ 32) (by decide) hsh) (rm rfl (rm rfl (ro rfl (dZ U_27 Z_24 (Ht rfl) (Ht rfl) (show ((k:Int) - 1) = ((k - 1:Nat):Int) by omega) (dY (aF zo))) (ro rfl (dJ A_24 Z_24 (Ht rfl)) (ro rfl (gJ U_24 U_274 (Ht rfl) z7) (ro rfl (aD.nat (mX rfl (Ht rfl) (Ht rfl) z7 z7) hor) ?_)))))))))))
  refine ra rfl (eX (ts (rm rfl (rm rfl (rm rfl (rm rfl (ro rfl (gJ U_24 U_274 (Ht rfl) z7) (ro rfl (gY (Ht rfl) (Ht rfl) zo (by show _ < 18446744073709551616; exact hz2)) (ro rfl (gJ U_274 U_24 (Ht rfl) (by show _ < 4294967296; exact hq)) (ro rfl (gQ U_27 Z_24 (Ht rfl) (Ht rfl) (show ((k:Int) - 1) = ((k - 1:Nat):Int) by omega) zo (by rw [Nat.mul_one,Nat.zero_add])) ?_))))))))))
  refine iD Z_24 (Ht rfl) (Ht rfl) (i:=0) rfl (by first | omega | (simp; omega)) rfl (eX (cY (rm rfl (rm rfl (ro rfl (gJ U_24 U_274 (Ht rfl) z7) (ro rfl (iK (Ht rfl) (Ht rfl) zo) (ra rfl (eX (T_blk (cY (rm rfl (ro rfl (gP (Ht rfl) cV (uX zo)) (ra rfl (eX (fY (k - 1,_,_) (hS.next (bC m) zo rfl) (by dsimp only; omega) (aQ rfl (aQ rfl (aQ rfl (aQ rfl (aZ rfl (aN zo) aX))))) (aU (aR (fM _ _ _)) aY))))))))))))))))
 ·simp at hb
  have hk0:k = 0:=by omega
  subst hk0
  have hlen:=hS.len; have hrl:=hS.rlt
  have hfin:=hS.fin
  rw [cF] at hfin
  refine gW rfl (gV (i:=0) (tt:=6) rfl rfl (kZ rfl hlen.symm (Nat.le_refl _)) (ts (rm rfl (ro rfl (cZ K_240 (qF _ hS.dig zo) ⟨(Ht rfl),trivial⟩) (rm rfl (ro rfl (gJ U_274 U_24 (Ht rfl) (by show _ < 4294967296; first | omega | (simp only [jX]; omega))) (ra rfl (ra rfl (eX (bE rfl (fX (eU rfl) ?_) (fX (eU rfl) ?_)))))))))))
  ·exact (cB hfin.1)
  ·exact (kJ hfin.2)
end
section
open Go Go.RowKit
theorem Tl {m:Nat} (hm:(dg m).length ≤ 17592186044416) (h0:m ≠ 0):aT Tryz.prog 280 [aM m] (NT .i64 (32 * ((dg m).length - 1) + bl ((dg m).getD ((dg m).length - 1) 0))):=by
 have hl:(dg m).length ≠ 0:=fun e=>h0 (aH.1 e)
 have htl:=aS (bC m) ((dg m).length - 1)
 obtain ⟨v,hv⟩:∃ v,v = (dg m).getD ((dg m).length - 1) 0:=⟨_,rfl⟩
 rw [← hv] at htl ⊢
 simp only [BB] at htl
 have hb32:=lM (k:=32) htl
 refine aT.intro Tryz.func280 rfl Tryz.ntmps280 rfl (fun cx=>(ts (ro rfl (cQ (cJ 0)) (eX (cK (ts (rm rfl (ro rfl (dG U_27 (Ht rfl) aA) (ro rfl (cD (Ht rfl) (cJ 0)) (eX (iW (Ht rfl) (by simpa using hl) ?_)))))))))))
 refine cU (ts (ro rfl (cQ (cJ 0)) (eX (cK (ts (rm rfl (rm rfl (ro rfl (dG U_27 (Ht rfl) aA) (ro rfl (dW (Ht rfl) (cJ 1) zo z6) (ro rfl (dZ U_27 Z_24 (Ht rfl) (Ht rfl) rfl (dY (aF zo))) (ro rfl (dJ A_24 Z_24 (Ht rfl)) (ra rfl (eX (eG ?_))))))))))))))
 refine gC (fun (x : Nat) (q : Nat) => bl v = q + bl x ∧ x < 4294967296) (fun (x : Nat) (q : Nat) => x) (fun (x : Nat) (q : Nat) => [(0, aM m), (3, NT .i64 q), (4, bL x)]) (fun (x : Nat) (q : Nat) => []) v 0 ⟨(Nat.zero_add _).symm, htl⟩
  (aQ rfl (aQ rfl (aZ rfl (kJ hv.symm) aX))) aY (fun x q ⟨hq,hx⟩=>?_)
 refine cK (ts (rm rfl (ro rfl (dE (Ht rfl) (cJ 0)) (eX (dQ (Ht rfl) (fun hb=>?_) (fun hb=>?_))))))
 ·simp at hb
  have hsh:=Sn (v:=x) zo
  refine cU (cK (eG (cY (rm rfl (ro rfl (dV (Ht rfl) (cJ 1) z6) (ra rfl (eX (T_blk (cY (rm rfl (ro rfl (dS (Ht rfl) (cJ 1) (by decide)) (ra rfl (eX (fY (x / 2 ^ 1,q + 1) ⟨by dsimp only; omega,by dsimp only; omega⟩ (by dsimp only; omega) (zS rfl) aY))))))))))))))
 ·simp at hb
  subst hb
  rw [So] at hq
  refine gW rfl (ts (rm rfl (ro rfl (dG U_27 (Ht rfl) aA) (ro rfl (dW (Ht rfl) (cJ 1) zo z6) (ro rfl (jK (cJ 32) (Ht rfl) z6) (rm rfl (ro rfl (dV (Ht rfl) (Ht rfl) z6) (ra rfl (eX (fW rfl (fX (eU rfl) ?_)))))))))))
  exact (kJ zo)
theorem Oi {m k:Nat} (hm:(dg m).length ≤ 17592186044416) (hk:k ≤ 562949953421312):aT Tryz.prog 281 [aM m,NT .i64 k] (aM (m * 2 ^ k)):=by
 refine aT.intro Tryz.func281 rfl Tryz.ntmps281 rfl (fun cx=>(ts (ro rfl (cQ cV) (eX (cK (ts (rm rfl (ro rfl (dG U_27 (Ht rfl) aA) (ro rfl (cD (Ht rfl) (cJ 0)) (eX (dQ (Ht rfl) (fun hb=>?_) (fun hb=>?_))))))))))))
 ·simp [aH] at hb
  have h0:m * 2 ^ k = 0:=by simp_all [nU]
  refine ts (ro rfl (cQ cV) (eX (fW rfl (fX (eU rfl) ?_))))
  exact (fun v V h=>by rw [h0]; exact gU v V h)
 ·clear hb
  have hr:=Nat.mod_lt k (by decide:32 > 0)
  refine cU (ts (rm rfl (ro rfl (dG U_27 (Ht rfl) aA) (rm rfl (ro rfl (gY (Ht rfl) (cJ 32) zo z6) (ro rfl (dV (Ht rfl) (Ht rfl) z6) (ro rfl (dV (Ht rfl) (cJ 1) z6) (rn rfl (gB (T:=bL 0) (i:=Tryz.t24) V_27 jH rfl rfl (Ht rfl) rfl (fun _=>rfl) trivial (by show 4 * _ ≤ _; omega) zo) fun B17=>?_))))))))
  refine ra rfl (eX (cK (ts (ro rfl (cQ (cJ 0)) (eX (eG ?_))))))
  refine gC (fun (i : Nat) (out : List Nat) => wI (dg m) (k / 32) (k % 32) out i) (fun (i : Nat) (out : List Nat) => (dg m).length - i) (fun (i : Nat) (out : List Nat) => [(0, aM m), (1, NT .i64 k), (5, Is (.slice (some ⟨B17, 0, none⟩) ((dg m).length + k / 32 + 1) ((dg m).length + k / 32 + 1))), (6, NT .i64 i)]) (fun (i : Nat) (out : List Nat) => [box B17 24 (out.map bL)]) 0 (List.replicate ((dg m).length + k / 32 + 1) 0) (wI.start _ _ _)
   (zS rfl) (aU (aR (kU _)) aY) (fun i out hS=>?_)
  refine cK (ts (rm rfl (rm rfl (ro rfl (dG U_27 (Ht rfl) aA) (ro rfl (gZ (Ht rfl) (Ht rfl)) (eX (dQ (Ht rfl) (fun hb=>?_) (fun hb=>?_))))))))
  ·simp at hb
   have hlen:=hS.len; have hxi:=aS (bC m) i; have hok:=aS hS.dig (i + k / 32)
   have hv:=zQ hxi hr
   have hd:(dg m).getD i 0 * 2 ^ (k % 32) / 2 ^ 32 < 4294967296:=Nat.div_lt_of_lt_mul hv
   simp only [BB] at hxi hok
   refine cU (cK (eG (ts (rm rfl (rm rfl (ro rfl (dZ U_27 Z_24 (Ht rfl) (Ht rfl) rfl (dY (aF zo))) (ro rfl (dJ A_24 Z_24 (Ht rfl)) (ro rfl (gJ U_24 U_274 (Ht rfl) z7) (rm rfl (ro rfl (iK (Ht rfl) (cJ 32) zo) (ro rfl (gJ U_3 U_275 (Ht rfl) z7) (ro rfl (lF (Ht rfl) (Ht rfl) (by show _ ≤ _; simp [IntKind.bits]; omega) (by show _ < 18446744073709551616; exact hv)) ?_))))))))))))
   refine ra rfl (eX (ts (rm rfl (rm rfl (rm rfl (ro rfl (gY (Ht rfl) (cJ 32) zo z6) (ro rfl (dV (Ht rfl) (Ht rfl) z6) (rm rfl (rm rfl (rm rfl (ro rfl (gY (Ht rfl) (cJ 32) zo z6) (ro rfl (dV (Ht rfl) (Ht rfl) z6) (ro rfl (gQ U_27 Z_24 (Ht rfl) (Ht rfl) rfl zo (by rw [Nat.mul_one,Nat.zero_add])) ?_)))))))))))))
   refine ro rfl (eY A_24 Z_24 (Ht rfl) (i:=0) rfl (dY (aF zo))) (rm rfl (ro rfl (fP rfl U_274 U_24 (Ht rfl)) (ro rfl (mX rfl (Ht rfl) (Ht rfl) (by show _ < 4294967296; omega) (by show _ % 4294967296 < 4294967296; omega)) (ro rfl (gQ U_27 Z_24 (Ht rfl) (Ht rfl) rfl zo (by rw [Nat.mul_one,Nat.zero_add])) ?_))))
   refine iD Z_24 (Ht rfl) (Ht rfl) (i:=0) rfl (by first | omega | (simp; omega)) rfl (eX (cY (rm rfl (rm rfl (rm rfl (ro rfl (gY (Ht rfl) (cJ 32) zo z6) (ro rfl (dV (Ht rfl) (Ht rfl) z6) (ro rfl (dV (Ht rfl) (cJ 1) z6) (rm rfl (ro rfl (dS (Ht rfl) (cJ 32) (by decide)) (ro rfl (gJ U_274 U_24 (Ht rfl) (by show _ < 4294967296; exact hd)) ?_)))))))))))
   refine ro rfl (gQ U_27 Z_24 (Ht rfl) (Ht rfl) rfl zo (by rw [Nat.mul_one,Nat.zero_add])) ?_
   refine iD Z_24 (Ht rfl) (Ht rfl) (i:=0) rfl (by first | omega | (simp; omega)) rfl (eX (T_blk (cY (rm rfl (ro rfl (dV (Ht rfl) (cJ 1) z6) (ra rfl (eX (fY (i + 1,_) (hS.next (bC m) hr hb rfl rfl) (by dsimp only; omega) (zS rfl) (aU (aR (Ep _ _ _ _ _)) aY)))))))))
  ·simp at hb
   have hkl:i = (dg m).length:=Nat.le_antisymm hS.kle hb
   subst hkl
   have hlen:=hS.len
   have hfin:=hS.fin
   rw [cF,kN] at hfin
   refine gW rfl (gV (i:=0) (tt:=5) rfl rfl (kZ rfl hlen.symm (Nat.le_refl _)) (ts (rm rfl (ro rfl (cZ K_240 (qF _ hS.dig zo) ⟨(Ht rfl),trivial⟩) (ra rfl (eX (fW rfl (fX (eU rfl) ?_))))))))
   exact (cB hfin)
theorem Zg {m k:Nat} (hm:(dg m).length ≤ 17592186044416) (hk:k ≤ 562949953421312):aT Tryz.prog 282 [aM m,NT .i64 k] (aM (m / 2 ^ k)):=by
 refine aT.intro Tryz.func282 rfl Tryz.ntmps282 rfl (fun cx=>?_)
 have hr:=Nat.mod_lt k (by decide:32 > 0)
 refine ts (ro rfl (cQ cV) (eX (cK (ts (rm rfl (ro rfl (gY (Ht rfl) (cJ 32) zo z6) (rm rfl (ro rfl (dG U_27 (Ht rfl) aA) (ro rfl (nL (Ht rfl) (Ht rfl)) (eX (dQ (Ht rfl) (fun hb=>?_) (fun hb=>?_))))))))))))
 ·simp at hb
  have h0:=Ev (bC m) hb (r:=k % 32)
  rw [cF,kN] at h0
  refine ts (ro rfl (cQ cV) (eX (fW rfl (fX (eU rfl) ?_))))
  exact (fun v V h=>cB h0.symm v V (gU v V h))
 ·simp at hb
  refine cU (ts (rm rfl (ro rfl (dG U_27 (Ht rfl) aA) (rm rfl (ro rfl (gY (Ht rfl) (cJ 32) zo z6) (ro rfl (dW (Ht rfl) (Ht rfl) zo z6) (rn rfl (gB (T:=bL 0) (i:=Tryz.t24) V_27 jH rfl rfl (Ht rfl) rfl (fun _=>rfl) trivial (by show 4 * _ ≤ _; omega) zo) fun B18=>(ra rfl (eX (cK (ts (ro rfl (cQ (cJ 0)) (eX (eG ?_))))))))))))))
  refine gC (fun (i : Nat) (out : List Nat) => wJ (dg m) (k / 32) (k % 32) out i) (fun (i : Nat) (out : List Nat) => (dg m).length - i) (fun (i : Nat) (out : List Nat) => [(0, aM m), (1, NT .i64 k), (5, Is (.slice (some ⟨B18, 0, none⟩) ((dg m).length - k / 32) ((dg m).length - k / 32))), (6, NT .i64 i)]) (fun (i : Nat) (out : List Nat) => [box B18 24 (out.map bL)]) 0 (List.replicate ((dg m).length - k / 32) 0) (wJ.start _ _ _)
   (zS rfl) (aU (aR (kU _)) aY) (fun i out hS=>?_)
  refine cK (ts (rm rfl (rm rfl (ro rfl (jJ U_27 (Ht rfl)) (ro rfl (gZ (Ht rfl) (Ht rfl)) (eX (dQ (Ht rfl) (fun hb=>?_) (fun hb=>?_))))))))
  ·simp at hb
   have hlen:=hS.len; have hx0:=aS (bC m) (i + k / 32); have hx1:=aS (bC m) (i + k / 32 + 1)
   have hio:i < out.length:=by omega
   simp only [BB] at hx0 hx1
   refine cU (cK (eG (ts (rm rfl (rm rfl (rm rfl (ro rfl (gY (Ht rfl) (cJ 32) zo z6) (ro rfl (dV (Ht rfl) (Ht rfl) z6) (ro rfl (dZ U_27 Z_24 (Ht rfl) (Ht rfl) rfl (dY (aF zo))) (ro rfl (dJ A_24 Z_24 (Ht rfl)) (ro rfl (gJ U_24 U_274 (Ht rfl) z7) ?_)))))))))))
   refine ra rfl (eX (cK (iA (fun (v:Nat)=>v = (dg m).getD (i + k / 32) 0 + BB * (dg m).getD (i + k / 32 + 1) 0) (fun (v:Nat)=>[(0,aM m),(1,NT .i64 k),(5,Is (.slice (some ⟨B18,0,none⟩) ((dg m).length - k / 32) ((dg m).length - k / 32))),(6,NT .i64 i),(7,NT .u64 v)]) (fun (v:Nat)=>[box B18 24 (out.map bL)]) ?_ (fun v hv=>?_))))
   ·refine ts (rm rfl (rm rfl (ro rfl (gY (Ht rfl) (cJ 32) zo z6) (ro rfl (dV (Ht rfl) (Ht rfl) z6) (ro rfl (dV (Ht rfl) (cJ 1) z6) (rm rfl (ro rfl (dG U_27 (Ht rfl) aA) (ro rfl (gZ (Ht rfl) (Ht rfl)) (eX (dQ (Ht rfl) (fun hk2 => ?_) (fun hk2 => ?_)))))))))))
    ·simp at hk2
     refine cY (rm rfl (rm rfl (rm rfl (rm rfl (ro rfl (gY (Ht rfl) (cJ 32) zo z6) (ro rfl (dV (Ht rfl) (Ht rfl) z6) (ro rfl (dV (Ht rfl) (cJ 1) z6) (ro rfl (dZ U_27 Z_24 (Ht rfl) (Ht rfl) rfl (dY (aF zo))) (ro rfl (dJ A_24 Z_24 (Ht rfl)) (ro rfl (gJ U_24 U_274 (Ht rfl) z7) ?_))))))))))
     refine ro rfl (lF (Ht rfl) (cJ 32) (by decide) (by show _ < 18446744073709551616; omega)) (ro rfl (aD.nat (mX rfl (Ht rfl) (Ht rfl) z7 z7) (Kb hx0)) (ra rfl (eX (aO ((dg m).getD (i + k / 32) 0 + BB * (dg m).getD (i + k / 32 + 1) 0) rfl (zS rfl) (cA.refl _)))))
    ·simp at hk2
     refine cU (aO ((dg m).getD (i + k / 32) 0) (by simp [List.getD,List.getElem?_eq_none hk2]) (zS rfl) (cA.refl _))
   ·refine cY (rm rfl (rm rfl (rm rfl (rm rfl (ro rfl (iK (Ht rfl) (cJ 32) zo) (ro rfl (gJ U_3 U_275 (Ht rfl) z7) (ro rfl (dS (Ht rfl) (Ht rfl) (by show _ ≤ 64; omega)) (ro rfl (fP rfl U_274 U_24 (Ht rfl)) (ro rfl (gQ U_27 Z_24 (Ht rfl) (Ht rfl) rfl zo (by rw [Nat.mul_one, Nat.zero_add])) ?_)))))))))
    refine iD Z_24 (Ht rfl) (Ht rfl) (i:=0) rfl (by first | omega | (simp; omega)) rfl (eX (T_blk (cY (rm rfl (ro rfl (dV (Ht rfl) (cJ 1) z6) (ra rfl (eX (fY (i + 1,_) (hS.next (bC m) hr hio (by rw [hv]; rfl)) (by dsimp only; omega) (zS rfl) (aU (aR (fM _ _ _)) aY)))))))))
  ·simp at hb
   have hlen:=hS.len
   have hkl:i = out.length:=Nat.le_antisymm hS.kle zo
   subst hkl
   have hfin:=hS.fin (bC m) zo
   rw [cF,kN] at hfin
   refine gW rfl (gV (i:=0) (tt:=5) rfl rfl (kZ rfl hlen.symm (Nat.le_refl _)) (ts (rm rfl (ro rfl (cZ K_240 (qF _ hS.dig zo) ⟨(Ht rfl),trivial⟩) (ra rfl (eX (fW rfl (fX (eU rfl) ?_))))))))
   exact (cB hfin)
theorem tT {m n:Nat} (hm:(dg m).length ≤ 17592186044415) (hn1:(dg n).length ≤ 17592186044416) (hn:n ≠ 0):aT Tryz.prog 238 [aM m,aM n] (fB [aM (m / n),aM (m % n)]):=by
 refine aT.intro Tryz.func238 rfl Tryz.ntmps238 rfl (fun cx=>(ts (ro rfl (cQ cV) (ro rfl (cQ cV) (eX (cK (ts (rm rfl (rm rfl (ro rfl (cZ Tryz.call225 (Kv zo zo) ⟨(Ht rfl),(Ht rfl),trivial⟩) (ro rfl (mW (Ht rfl) cV) (eX (dQ (Ht rfl) (fun hb=>?_) (fun hb=>?_))))))))))))))
 ·simp only [decide_eq_true_eq] at hb
  have hlt:m < n:=Iy hb
  refine ts (rm rfl (ro rfl (cQ cV) (ra rfl (eX (bE rfl (fX (eU rfl) ?_) (fX (eU rfl) ?_))))))
  ·exact (fun v V h=>cB (Nat.div_eq_of_lt hlt).symm v V (gU v V h))
  ·exact (cB (Nat.mod_eq_of_lt hlt).symm)
 ·simp only [decide_eq_false_iff_not] at hb
  have hle:n ≤ m:=Ix zo
  clear hb
  refine cU (cK (ts (rm rfl (ro rfl (dG U_27 (Ht rfl) aA) (ro rfl (cD (Ht rfl) (cJ 1)) (eX (dQ (Ht rfl) (fun h1=>?_) (fun h1=>?_))))))))
  ·simp at h1
   have hy0:=Ow h1
   have hyb:=aS (bC n) 0
   have hmod:=Nat.mod_lt m (show (dg n).getD 0 0 > 0 by omega)
   have hyb2:=hyb
   simp only [BB] at hyb
   refine ts (rm rfl (rm rfl (ro rfl (dZ U_27 Z_24 (Ht rfl) (cJ 0) rfl (dY (aF zo))) (ro rfl (dJ A_24 Z_24 (Ht rfl)) (ro rfl (cZ Tryz.call279 (Cr zo zo hyb2) ⟨(Ht rfl),(Ht rfl),trivial⟩) (rm rfl (ro rfl (dK (Ht rfl) rfl) (ro rfl (dK (Ht rfl) rfl) (ra rfl (ra rfl (eX (ts (rm rfl (rm rfl (ro rfl (gJ U_24 U_274 (Ht rfl) z7) (ro rfl (cZ Tryz.call235 (wS zo) ⟨(Ht rfl),trivial⟩) ?_))))))))))))))))
   refine ra rfl (ra rfl (eX (bE rfl (fX (eU rfl) ?_) (fX (eU rfl) ?_))))
   ·exact (cB (by rw [hy0]))
   ·exact (cB (by rw [hy0]))
  ·simp at h1
   have hl0:(dg n).length ≠ 0:=fun e=>hn (aH.1 e)
   have hyb:=aS (bC n) ((dg n).length - 1)
   obtain ⟨s,hs⟩:∃ s,s = 32 - bl ((dg n).getD ((dg n).length - 1) 0):=⟨_,rfl⟩
   obtain ⟨hs1,hvl,hvb⟩:=Dc hn hs
   obtain ⟨hc1,hc2,hc3,hc4⟩:=Cw (m:=m) hs1
   have hbl:=lM (k:=32) hyb
   simp only [BB] at hyb
   have hp2:0 < 2 ^ s:=Nat.pow_pos (by decide)
   have hX0:(dg (m * 2 ^ s)).length ≠ 0:=fun e=>(Nat.ne_of_gt (Nat.mul_pos (show 0 < m by omega) hp2)) (aH.1 e)
   have hmono:=gL hle
   refine cU (ts (rm rfl (ro rfl (dG U_27 (Ht rfl) aA) (ro rfl (jK (cJ 32) (Ht rfl) z6) (rm rfl (ro rfl (cZ Tryz.call280 (Tl zo hn) ⟨(Ht rfl),trivial⟩) (ro rfl (aD.nat (dW (Ht rfl) (Ht rfl) zo z6) (show 32 * (dg n).length - (32 * ((dg n).length - 1) + bl ((dg n).getD ((dg n).length - 1) 0)) = s by omega)) (ra rfl (eX (ts (rm rfl (rm rfl (ro rfl (cZ Tryz.call281 (Oi zo zo) ⟨(Ht rfl),(Ht rfl),trivial⟩) ?_)))))))))))))
   refine ra rfl (eX (ts (rm rfl (ro rfl (dG U_27 (Ht rfl) aA) (ro rfl (dV (Ht rfl) (cJ 1) z6) (rn rfl (gB (T:=bL 0) (i:=Tryz.t24) V_27 jH rfl rfl (Ht rfl) rfl (fun _=>rfl) trivial (by show 4 * _ ≤ _; omega) zo) fun B57=>(ra rfl (eX (ts (rm rfl (rm rfl (rm rfl (ro rfl (cZ Tryz.call281 (Oi zo zo) ⟨(Ht rfl),(Ht rfl),trivial⟩) (Hq U_27 Z_24 (Ht rfl) (Ht rfl) (Pw hX0) Yc (i:=0) rfl (by simp) (by simp; omega) (Cy _ _) rfl rfl ?_))))))))))))))
   refine eX (cK ?_)
   obtain ⟨vs,hvs⟩:∃ vs,vs = dg (n * 2 ^ s):=⟨_,rfl⟩
   rw [← hvs] at hvl hvb
   have hv:iV vs:=hvs ▸ bC _
   have hvv:val vs = n * 2 ^ s:=by rw [hvs,cF]
   have hV0:0 < val vs:=by rw [hvv]; exact Nat.mul_pos zo hp2
   have hnr:=Jr hv zo hvb
   have hv1:=hnr.v1lt; have hv2:=hnr.v2lt; have hbig:=hnr.big
   simp only [BB] at hv1 hv2 hbig
   refine rT (E':=[(8,_),(9,_),(10,_)]) (aQ rfl (aZ rfl (Zo hvs.symm) (zS rfl))) (cY (rm rfl (ro rfl (dG U_27 (Ht rfl) aA) (ra rfl (eX (ts (rm rfl (ro rfl (jJ U_27 (Ht rfl)) (rm rfl (ro rfl (dW (Ht rfl) (Ht rfl) zo z6) (rn rfl (gB (T:=bL 0) (i:=Tryz.t24) V_27 jH rfl rfl (Ht rfl) rfl (fun _=>rfl) trivial (by show 4 * _ ≤ _; omega) zo) fun B69=>(ra rfl (eX (cK ?_))))))))))))))
   refine ts (rm rfl (ro rfl (jJ U_27 (Ht rfl)) (ro rfl (gP (Ht rfl) cV (uX zo)) (ra rfl (eX (eG ?_))))))
   refine jV (fun (k : Nat) (us : List Nat) (qs : List Nat) => lS (m * 2 ^ s) vs us qs k ∧ us.length = (dg m).length + 1) (fun (k : Nat) (us : List Nat) (qs : List Nat) => k) (fun (k : Nat) (us : List Nat) (qs : List Nat) => [(8, NT .i64 s), (9, tJ vs), (10, Is (.slice (some ⟨B57, 0, none⟩) ((dg m).length + 1) ((dg m).length + 1))), (11, NT .i64 vs.length), (12, Is (.slice (some ⟨B69, 0, none⟩) ((dg m).length + 1 - vs.length) ((dg m).length + 1 - vs.length))), (13, aI .i64 ((k : Int) - 1))]) (fun (k : Nat) (us : List Nat) (qs : List Nat) => [box B57 24 (us.map bL), box B69 24 (qs.map bL)]) ((dg m).length + 1 - vs.length) (wY m s) (List.replicate ((dg m).length + 1 - vs.length) 0) ⟨lS.start hv zo hvb hs1 (by have := gT (bC m); rwa [cF] at this) hc3 hc2 hc4 zo, hc2⟩
    (aQ rfl (aQ rfl (aQ rfl (aQ rfl (aQ rfl (aZ rfl (aN zo) aX)))))) (aU (fun _ _ _ h=>h) (aU (aR (kU _)) aY)) (fun k us qs ⟨hS,hus⟩=>?_)
   refine cK (ts (rm rfl (ro rfl (kD (Ht rfl) cV) (eX (dQ (Ht rfl) (fun hk=>?_) (fun hk=>?_))))))
   ·simp at hk
    obtain ⟨j,rfl⟩:∃ j,k = j + 1:=⟨k - 1,by omega⟩
    have htp:=hS.top hv zo (Nat.succ_pos j) rfl
    have hkq:=hS.kle; have hlq:=hS.lenq
    rw [Nat.add_sub_cancel] at htp
    have hu0:=aS hS.dig (j + vs.length); have hu1:=aS hS.dig (j + vs.length - 1); have hu2:=aS hS.dig (j + vs.length - 2)
    have ht64:=Rw hu0 hu1; have hsh:=Et hu0
    obtain ⟨top,htop⟩:∃ top,top = us.getD (j + vs.length) 0 * BB + us.getD (j + vs.length - 1) 0:=⟨_,rfl⟩
    have hor:=(sJ (a:=us.getD (j + vs.length) 0) hu1).trans htop.symm
    rw [← htop] at htp ht64
    have hu2b:=hu2
    simp only [BB] at hu0 hu1 hu2
    refine rT (E':=[(8,_),(9,_),(10,_),(11,_),(12,_),(13,_),(73,_),(74,_)]) (aQ rfl (aQ rfl (aQ rfl (aQ rfl (aQ rfl (aZ rfl (aN (show ((j + 1:Nat):Int) - 1 = (j:Int) by omega)) (zS rfl))))))) (cU (cK (eG (cK (fZ (m:=16) (dp 10 rfl (cX (Ht rfl)) (dp 13 rfl (cX (Ht rfl)) (dp 11 rfl (cX (Ht rfl)) (eE 78 1 79 2 rfl (dV (Ht rfl) (Ht rfl) z6) (eE 77 0 80 3 rfl (gQ U_27 Z_24 (Ht rfl) (Ht rfl) rfl zo (by rw [Nat.mul_one,Nat.zero_add])) ?_))))))))))
    refine dq 81 4 rfl (eY A_24 Z_24 (Ht rfl) (i:=0) rfl (dY (aF zo))) (dq 82 5 rfl (gJ U_24 U_274 (Ht rfl) z7) (dq 83 6 rfl (lF (Ht rfl) (cJ 32) (by decide) hsh) (dp 10 rfl (cX (Ht rfl)) (dp 13 rfl (cX (Ht rfl)) (dp 11 rfl (cX (Ht rfl)) (eE 86 9 87 10 rfl (dV (Ht rfl) (Ht rfl) z6) (dq 88 11 rfl (dW (Ht rfl) (cJ 1) zo z6) ?_)))))))
    refine eE 85 8 89 12 rfl (gQ U_27 Z_24 (Ht rfl) (Ht rfl) rfl zo (by rw [Nat.mul_one,Nat.zero_add])) ?_
    refine dq 90 13 rfl (eY A_24 Z_24 (Ht rfl) (i:=0) rfl (dY (aF zo))) (dq 91 14 rfl (gJ U_24 U_274 (Ht rfl) z7) (fV bB rfl (by kernel_rfl) (zF (zF (zF (zF (aV (ro rfl (aD.nat (mX rfl (Ht rfl) (Ht rfl) z7 z7) hor) ?_))))))))
    refine ra rfl (eX (ts (rm rfl (rm rfl (rm rfl (ro rfl (dW (Ht rfl) (cJ 1) zo z6) (ro rfl (dZ U_27 Z_24 (Ht rfl) (Ht rfl) rfl (dY (aF zo))) (ro rfl (dJ A_24 Z_24 (Ht rfl)) (ro rfl (gJ U_24 U_274 (Ht rfl) z7) (ro rfl (gY (Ht rfl) (Ht rfl) zo (by show _ < 18446744073709551616; exact ht64)) (ra rfl (eX ?_))))))))))))
    refine ts (rm rfl (rm rfl (rm rfl (ro rfl (dW (Ht rfl) (cJ 1) zo z6) (ro rfl (dZ U_27 Z_24 (Ht rfl) (Ht rfl) rfl (dY (aF zo))) (ro rfl (dJ A_24 Z_24 (Ht rfl)) (ro rfl (gJ U_24 U_274 (Ht rfl) z7) (ro rfl (iK (Ht rfl) (Ht rfl) zo) (ra rfl (eX (cK (iA (fun (g:Nat)=>Fi (val (us.drop j)) (val vs) g) (fun (g:Nat)=>[(8,NT .i64 s),(9,tJ vs),(10,Is (.slice (some ⟨B57,0,none⟩) ((dg m).length + 1) ((dg m).length + 1))),(11,NT .i64 vs.length),(12,Is (.slice (some ⟨B69,0,none⟩) ((dg m).length + 1 - vs.length) ((dg m).length + 1 - vs.length))),(13,NT .i64 j),(15,NT .u64 g)]) (fun (g:Nat)=>[box B57 24 (us.map bL),box B69 24 (qs.map bL)]) ?_ (fun g hg=>?_)))))))))))))
    ·refine eG ?_
     refine gC (fun (g : Nat) (r : Nat) => kA (val (us.drop j)) (val vs) (vs.getD (vs.length - 1) 0) top g r ∧ r < 4294967296) (fun (g : Nat) (r : Nat) => g) (fun (g : Nat) (r : Nat) => [(8, NT .i64 s), (9, tJ vs), (10, Is (.slice (some ⟨B57, 0, none⟩) ((dg m).length + 1) ((dg m).length + 1))), (11, NT .i64 vs.length), (12, Is (.slice (some ⟨B69, 0, none⟩) ((dg m).length + 1 - vs.length) ((dg m).length + 1 - vs.length))), (13, NT .i64 j), (15, NT .u64 g), (16, NT .u64 r)]) (fun (g : Nat) (r : Nat) => [box B57 24 (us.map bL), box B69 24 (qs.map bL)]) (top / vs.getD (vs.length - 1) 0) (top % vs.getD (vs.length - 1) 0) ⟨kA.start hnr htp, Nat.lt_trans (Nat.mod_lt _ zo) hv1⟩
      (zS rfl) (cA.refl _) (fun g r ⟨hG,hr⟩=>?_)
     have hgl:=(hG.glt hnr htp).1
     have hrs:=Et (a:=r) hr
     have horr:=sJ (a:=r) hu2b
     simp only [BB] at hgl
     refine cK (cK (fZ (m:=22) (dp 15 rfl (cX (Ht rfl)) (dq 110 0 rfl (nL (Ht rfl) (cJ 4294967296)) (dq 111 1 rfl (cX (Ht rfl)) (C.D_step (Ei:=[(15,_),(112,_)]) rfl rfl (bV (bK rfl rfl) (bV (bG 2 rfl rfl) bW)) (eK rfl rfl (Ht rfl) (fun h=>cX (Ht rfl))) (C.D_step (Ei:=[(9,_),(112,_)]) rfl rfl (bV (bK rfl rfl) (bV (bG 2 rfl rfl) bW)) (eK rfl rfl (Ht rfl) (fun h=>cX (Ht rfl))) (C.D_step (Ei:=[(11,_),(112,_)]) rfl rfl (bV (bK rfl rfl) (bV (bG 2 rfl rfl) bW)) (eK rfl rfl (Ht rfl) (fun h=>cX (Ht rfl))) ?_))))))))
     refine C.D_step (Ei:=[(115,_),(112,_)]) rfl rfl (bV (bG 5 rfl rfl) (bV (bG 2 rfl rfl) bW)) (eK rfl rfl (Ht rfl) (fun h=>dW (fJ rfl h) (cJ 2) (by first | omega | (simp at h; omega)) (by show _ < 9223372036854775808; first | omega | (simp at h; omega)))) (C.D_step (Ei:=[(114,_),(116,_),(112,_)]) rfl rfl (bV (bG 4 rfl rfl) (bV (bG 6 rfl rfl) (bV (bG 2 rfl rfl) bW))) (eK rfl rfl (Ht rfl) (fun h=>dZ U_27 Z_24 (fJ rfl h) (fJ rfl h) rfl (dY (aF (by first | omega | (simp at h; omega)))))) ?_)
     refine C.D_step (Ei:=[(117,_),(112,_)]) rfl rfl (bV (bG 7 rfl rfl) (bV (bG 2 rfl rfl) bW)) (eK rfl rfl (Ht rfl) (fun h=>dJ A_24 Z_24 (fJ rfl h))) (C.D_step (Ei:=[(118,_),(112,_)]) rfl rfl (bV (bG 8 rfl rfl) (bV (bG 2 rfl rfl) bW)) (eK rfl rfl (Ht rfl) (fun h=>gJ U_24 U_274 (fJ rfl h) (by show _ < 18446744073709551616; first | omega | (simp at h; omega)))) (C.D_step (Ei:=[(113,_),(119,_),(112,_)]) rfl rfl (bV (bG 3 rfl rfl) (bV (bG 9 rfl rfl) (bV (bG 2 rfl rfl) bW))) (eK rfl rfl (Ht rfl) (fun h=>jK (fJ rfl h) (fJ rfl h) (by show _ < 18446744073709551616; simp at h; exact Xw h hv2))) ?_))
     refine C.D_step (Ei:=[(16,_),(112,_)]) rfl rfl (bV (bK rfl rfl) (bV (bG 2 rfl rfl) bW)) (eK rfl rfl (Ht rfl) (fun h=>cX (Ht rfl))) (C.D_step (Ei:=[(121,_),(112,_)]) rfl rfl (bV (bG 11 rfl rfl) (bV (bG 2 rfl rfl) bW)) (eK rfl rfl (Ht rfl) (fun h=>lF (fJ rfl h) (cJ 32) (by decide) hrs)) (C.D_step (Ei:=[(10,_),(112,_)]) rfl rfl (bV (bK rfl rfl) (bV (bG 2 rfl rfl) bW)) (eK rfl rfl (Ht rfl) (fun h=>cX (Ht rfl))) (C.D_step (Ei:=[(13,_),(112,_)]) rfl rfl (bV (bK rfl rfl) (bV (bG 2 rfl rfl) bW)) (eK rfl rfl (Ht rfl) (fun h=>cX (Ht rfl))) ?_)))
     refine C.D_step (Ei:=[(11,_),(112,_)]) rfl rfl (bV (bK rfl rfl) (bV (bG 2 rfl rfl) bW)) (eK rfl rfl (Ht rfl) (fun h=>cX (Ht rfl))) (C.D_step (Ei:=[(124,_),(125,_),(112,_)]) rfl rfl (bV (bG 14 rfl rfl) (bV (bG 15 rfl rfl) (bV (bG 2 rfl rfl) bW))) (eK rfl rfl (Ht rfl) (fun h=>dV (fJ rfl h) (fJ rfl h) (by show _ < 9223372036854775808; first | omega | (simp at h; omega)))) (C.D_step (Ei:=[(126,_),(112,_)]) rfl rfl (bV (bG 16 rfl rfl) (bV (bG 2 rfl rfl) bW)) (eK rfl rfl (Ht rfl) (fun h=>dW (fJ rfl h) (cJ 2) (by first | omega | (simp at h; omega)) (by show _ < 9223372036854775808; first | omega | (simp at h; omega)))) ?_))
     refine C.D_step (Ei:=[(123,_),(127,_),(112,_)]) rfl rfl (bV (bG 13 rfl rfl) (bV (bG 17 rfl rfl) (bV (bG 2 rfl rfl) bW))) (eK rfl rfl (Ht rfl) (fun h=>gQ U_27 Z_24 (fJ rfl h) (fJ rfl h) rfl (by first | omega | (simp at h; omega)) (by rw [Nat.mul_one,Nat.zero_add]))) ?_
     refine C.D_step (Ei:=[(128,_),(112,_)]) rfl rfl (bV (bG 18 rfl rfl) (bV (bG 2 rfl rfl) bW)) (eK rfl rfl (Ht rfl) (fun h=>eY A_24 Z_24 (fJ rfl h) (i:=0) rfl (dY (aF zo)))) (C.D_step (Ei:=[(129,_),(112,_)]) rfl rfl (bV (bG 19 rfl rfl) (bV (bG 2 rfl rfl) bW)) (eK rfl rfl (Ht rfl) (fun h=>gJ U_24 U_274 (fJ rfl h) (by show _ < 18446744073709551616; first | omega | (simp at h; omega)))) (C.D_step (Ei:=[(122,_),(130,_),(112,_)]) rfl rfl (bV (bG 12 rfl rfl) (bV (bG 20 rfl rfl) (bV (bG 2 rfl rfl) bW))) (eK rfl rfl (Ht rfl) (fun h=>aD.nat (mX rfl (fJ rfl h) (fJ rfl h) (by show _ < 18446744073709551616; first | omega | (simp at h; omega)) (by show _ < 18446744073709551616; first | omega | (simp at h; omega))) horr)) ?_))
     refine fV bB rfl (by kernel_rfl) (zF (zF (zF (zF (zF (aJ (aJ (aV (fQ rfl rfl (eK rfl rfl (Ht rfl) (fun h=>dE (fJ rfl h) (fJ rfl h))) (ro rfl (iF (Ht rfl) (fun h=>(fJ rfl h))) (eX (dQ (Ht rfl) (fun hc=>?_) (fun hc=>?_)))))))))))))
     ·have hn2 := hG.next hnr htp (by simpa [BB] using hc)
      have hg1:=hn2.2
      refine cU (eG (ts (rm rfl (ro rfl (dW (Ht rfl) (cJ 1) zo z7) (ra rfl (eX (ts (rm rfl (rm rfl (rm rfl (ro rfl (dW (Ht rfl) (cJ 1) zo z6) (ro rfl (dZ U_27 Z_24 (Ht rfl) (Ht rfl) rfl (dY (aF zo))) (ro rfl (dJ A_24 Z_24 (Ht rfl)) (ro rfl (gJ U_24 U_274 (Ht rfl) z7) ?_))))))))))))))
      refine ro rfl (dV (Ht rfl) (Ht rfl) z7) (ra rfl (eX (ts (rm rfl (ro rfl (nL (Ht rfl) (cJ 4294967296)) (eX (dQ (Ht rfl) (fun hr2=>?_) (fun hr2=>?_))))))))
      ·simp at hr2
       refine gW rfl (aO (g - 1) (hn2.1.stop hnr htp hr2) (zS rfl) (cA.refl _))
      ·simp at hr2
       refine cU (T_blk (fY (g - 1,_) ⟨hn2.1,hr2⟩ (by dsimp only; omega) (zS rfl) (cA.refl _)))
     ·simp at hc
      refine gW rfl (aO g (hG.done hnr htp hc.1 hc.2) (zS rfl) (cA.refl _))
    ·have hglt := hg.lt
     have hglt2:=hg.lt
     simp only [BB] at hglt
     have hjl:j + vs.length < us.length:=by omega
     refine ts (ro rfl (cQ (cJ 0)) (eX (ts (ro rfl (cQ (cJ 0)) (eX (cK (ts (ro rfl (cQ (cJ 0)) (eX (eG ?_))))))))))
     refine sQ (fun (i : Nat) (out : List Nat) (c : Nat) (b : Nat) => pC us vs g j out i c b) (fun (i : Nat) (out : List Nat) (c : Nat) (b : Nat) => vs.length - i) (fun (i : Nat) (out : List Nat) (c : Nat) (b : Nat) => [(8, NT .i64 s), (9, tJ vs), (10, Is (.slice (some ⟨B57, 0, none⟩) ((dg m).length + 1) ((dg m).length + 1))), (11, NT .i64 vs.length), (12, Is (.slice (some ⟨B69, 0, none⟩) ((dg m).length + 1 - vs.length) ((dg m).length + 1 - vs.length))), (13, NT .i64 j), (15, NT .u64 g), (17, NT .u64 b), (18, NT .u64 c), (19, NT .i64 i)]) (fun (i : Nat) (out : List Nat) (c : Nat) (b : Nat) => [box B57 24 (out.map bL), box B69 24 (qs.map bL)]) 0 us 0 0 (pC.start hS.dig vs g j)
      (zS rfl) (cA.refl _) (fun i out c b hT=>?_)
     refine cK (ts (rm rfl (rm rfl (ro rfl (gZ (Ht rfl) (Ht rfl)) (eX (dQ (Ht rfl) (fun hi=>?_) (fun hi=>?_)))))))
     ·simp at hi
      have hlen:=hT.len; have hcl:=hT.clt; have hbl:=hT.ble; have hvi:=aS hv i; have hok:=aS hT.dig (i + j)
      have hp:=Hd hglt2 hvi hT.clt
      simp only [BB] at hp hcl hvi hok
      obtain ⟨p,hp1⟩:∃ p,p = g * vs.getD i 0 + c:=⟨_,rfl⟩
      obtain ⟨x,hx1⟩:∃ x,x = ((out.getD (i + j) 0 + 18446744073709551616 - p % 4294967296) % 18446744073709551616 + 18446744073709551616 - b) % 18446744073709551616:=⟨_,rfl⟩
      refine cU (cK (eG (ts (rm rfl (rm rfl (rm rfl (ro rfl (dZ U_27 Z_24 (Ht rfl) (Ht rfl) rfl (dY (aF zo))) (ro rfl (dJ A_24 Z_24 (Ht rfl)) (ro rfl (gJ U_24 U_274 (Ht rfl) z7) (ro rfl (jK (Ht rfl) (Ht rfl) z7) (rm rfl (ro rfl (aD.nat (dV (Ht rfl) (Ht rfl) z7) hp1.symm) ?_))))))))))))
      refine ra rfl (eX (ts (rm rfl (ro rfl (dS (Ht rfl) (cJ 32) (by decide)) (ra rfl (eX (ts (rm rfl (rm rfl (rm rfl (ro rfl (dV (Ht rfl) (Ht rfl) z6) (ro rfl (gQ U_27 Z_24 (Ht rfl) (Ht rfl) rfl zo (by rw [Nat.mul_one,Nat.zero_add])) ?_))))))))))))
      refine ro rfl (eY A_24 Z_24 (Ht rfl) (i:=0) rfl (dY (aF zo))) (ro rfl (gJ U_24 U_274 (Ht rfl) z7) (rm rfl (ro rfl (aD.nat (qO rfl (Ht rfl) (cJ 4294967295) z7 z7) (a0V p)) (ro rfl (lG rfl (Ht rfl) (Ht rfl) (by show _ ≤ 18446744073709551616; first | omega | (simp only [jX]; omega))) ?_))))
      refine rm rfl (ro rfl (aD.nat (lG rfl (Ht rfl) (Ht rfl) (by show _ ≤ 18446744073709551616; first | omega | (simp only [jX]; omega))) hx1.symm) (ra rfl (eX (ts (rm rfl (rm rfl (rm rfl (ro rfl (dV (Ht rfl) (Ht rfl) z6) (rm rfl (ro rfl (fP rfl U_274 U_24 (Ht rfl)) (ro rfl (gQ U_27 Z_24 (Ht rfl) (Ht rfl) rfl zo (by rw [Nat.mul_one,Nat.zero_add])) ?_)))))))))))
      refine iD Z_24 (Ht rfl) (Ht rfl) (i:=0) rfl (by first | omega | (simp; omega)) rfl (eX (cY (rm rfl (ro rfl (dS (Ht rfl) (cJ 63) (by decide)) (ra rfl (eX (T_blk (cY (rm rfl (ro rfl (dV (Ht rfl) (cJ 1) z6) (ra rfl (eX (fY (i + 1,_,_,_) (hT.next hS.dig hv hglt2 hi hjl hp1 (xZ hok hbl hx1) rfl) (by dsimp only; omega) (zS rfl) (aU (aR (fM _ _ _)) (aU (fun _ _ _ h=>h) aY)))))))))))))))
     ·simp at hi
      have hkl:i = vs.length:=Nat.le_antisymm hT.ile hi
      subst hkl
      have hlen:=hT.len; have hcl:=hT.clt; have hbl:=hT.ble; have hok:=aS hT.dig (j + vs.length)
      obtain ⟨x,hx1⟩:∃ x,x = ((out.getD (j + vs.length) 0 + 18446744073709551616 - c) % 18446744073709551616 + 18446744073709551616 - b) % 18446744073709551616:=⟨_,rfl⟩
      have htd:=yA hok hcl hbl hx1
      have hTk:=hT.fin hjl htd rfl
      have hx2:=htd.2
      simp only [BB] at hcl hok
      refine gW rfl (ts (rm rfl (rm rfl (rm rfl (ro rfl (dV (Ht rfl) (Ht rfl) z6) (ro rfl (gQ U_27 Z_24 (Ht rfl) (Ht rfl) rfl zo (by rw [Nat.mul_one,Nat.zero_add])) ?_))))))
      refine ro rfl (eY A_24 Z_24 (Ht rfl) (i:=0) rfl (dY (aF zo))) (ro rfl (gJ U_24 U_274 (Ht rfl) z7) (rm rfl (ro rfl (lG rfl (Ht rfl) (Ht rfl) (by show _ ≤ 18446744073709551616; first | omega | (simp only [jX]; omega))) (rm rfl (ro rfl (aD.nat (lG rfl (Ht rfl) (Ht rfl) (by show _ ≤ 18446744073709551616; first | omega | (simp only [jX]; omega))) hx1.symm) (ra rfl (eX (ts (rm rfl (rm rfl (rm rfl (ro rfl (dV (Ht rfl) (Ht rfl) z6) ?_))))))))))))
      refine rm rfl (ro rfl (fP rfl U_274 U_24 (Ht rfl)) (ro rfl (gQ U_27 Z_24 (Ht rfl) (Ht rfl) rfl zo (by rw [Nat.mul_one,Nat.zero_add])) ?_))
      refine iD Z_24 (Ht rfl) (Ht rfl) (i:=0) rfl (by first | omega | (simp; omega)) rfl (eX (cK (oB (fun (us2:List Nat) (g2:Nat)=>lS (m * 2 ^ s) vs us2 (qs.set j g2) j ∧ g2 < 4294967296 ∧ us2.length = (dg m).length + 1) (fun (us2:List Nat) (g2:Nat)=>[(8,NT .i64 s),(9,tJ vs),(10,Is (.slice (some ⟨B57,0,none⟩) ((dg m).length + 1) ((dg m).length + 1))),(11,NT .i64 vs.length),(12,Is (.slice (some ⟨B69,0,none⟩) ((dg m).length + 1 - vs.length) ((dg m).length + 1 - vs.length))),(13,NT .i64 j),(15,NT .u64 g2)]) (fun (us2:List Nat) (g2:Nat)=>[box B57 24 (us2.map bL),box B69 24 (qs.map bL)]) ?_ (fun us2 g2 ⟨hD,hg2,hus2⟩=>?_))))
      ·refine ts (rm rfl (ro rfl (dS (Ht rfl) (cJ 63) (by decide)) (ro rfl (cD (Ht rfl) (cJ 1)) (eX (dQ (Ht rfl) (fun hbb => ?_) (fun hbb => ?_))))))
       ·simp only [decide_eq_true_eq] at hbb
        have hdec:(!decide (x / 2 ^ 63 = 0)) = true:=by rw [hbb]; rfl
        rw [hdec] at hTk
        obtain ⟨o1,ho1⟩:∃ o1,o1 = out.set (j + vs.length) (x % BB):=⟨_,rfl⟩
        rw [← ho1] at hTk
        have hg0:=hS.gpos hv rfl zo hTk
        have hol:=hTk.len
        refine ts (rm rfl (ro rfl (dW (Ht rfl) (cJ 1) zo z7) (ra rfl (eX (ts (ro rfl (cQ (cJ 0)) (eX (cK (ts (ro rfl (cQ (cJ 0)) (eX (eG ?_))))))))))))
        refine jV (fun (i : Nat) (out2 : List Nat) (c : Nat) => oX o1 vs j out2 i c) (fun (i : Nat) (out2 : List Nat) (c : Nat) => vs.length - i) (fun (i : Nat) (out2 : List Nat) (c : Nat) => [(8, NT .i64 s), (9, tJ vs), (10, Is (.slice (some ⟨B57, 0, none⟩) ((dg m).length + 1) ((dg m).length + 1))), (11, NT .i64 vs.length), (12, Is (.slice (some ⟨B69, 0, none⟩) ((dg m).length + 1 - vs.length) ((dg m).length + 1 - vs.length))), (13, NT .i64 j), (15, NT .u64 (g - 1 : Nat)), (18, NT .u64 c), (23, NT .i64 i)]) (fun (i : Nat) (out2 : List Nat) (c : Nat) => [box B57 24 (out2.map bL), box B69 24 (qs.map bL)]) 0 o1 0 (oX.start hTk.dig vs j)
         (zS rfl) (aU (aR (by rw [ho1]; exact fM _ _ _)) (aU (fun _ _ _ h=>h) aY)) (fun i out2 c hB=>?_)
        refine cK (ts (rm rfl (rm rfl (ro rfl (gZ (Ht rfl) (Ht rfl)) (eX (dQ (Ht rfl) (fun hi=>?_) (fun hi=>?_)))))))
        ·simp at hi
         have hlen:=hB.len; have hcl:=hB.cle; have hvi:=aS hv i; have hok:=aS hB.dig (i + j)
         simp only [BB] at hvi hok
         refine cU (cK (eG (cK (fZ (m:=14) (dp 10 rfl (cX (Ht rfl)) (dp 23 rfl (cX (Ht rfl)) (dp 13 rfl (cX (Ht rfl)) (eE 212 1 213 2 rfl (dV (Ht rfl) (Ht rfl) z6) (eE 211 0 214 3 rfl (gQ U_27 Z_24 (Ht rfl) (Ht rfl) rfl zo (by rw [Nat.mul_one,Nat.zero_add])) ?_)))))))))
         refine dq 215 4 rfl (eY A_24 Z_24 (Ht rfl) (i:=0) rfl (dY (aF zo))) (dq 216 5 rfl (gJ U_24 U_274 (Ht rfl) z7) (dp 9 rfl (cX (Ht rfl)) (dp 23 rfl (cX (Ht rfl)) (eE 218 7 219 8 rfl (dZ U_27 Z_24 (Ht rfl) (Ht rfl) rfl (dY (aF zo))) (dq 220 9 rfl (dJ A_24 Z_24 (Ht rfl)) (dq 221 10 rfl (gJ U_24 U_274 (Ht rfl) z7) ?_))))))
         refine eE 217 6 222 11 rfl (dV (Ht rfl) (Ht rfl) z7) (dp 18 rfl (cX (Ht rfl)) (fV bB rfl (by kernel_rfl) (zF (zF (zF (aJ (aJ (aV (ro rfl (dV (Ht rfl) (Ht rfl) z7) (ra rfl (eX (ts (rm rfl (rm rfl (rm rfl (ro rfl (dV (Ht rfl) (Ht rfl) z6) ?_))))))))))))))))
         refine rm rfl (ro rfl (fP rfl U_274 U_24 (Ht rfl)) (ro rfl (gQ U_27 Z_24 (Ht rfl) (Ht rfl) rfl zo (by rw [Nat.mul_one,Nat.zero_add])) ?_))
         refine iD Z_24 (Ht rfl) (Ht rfl) (i:=0) rfl (by first | omega | (simp; omega)) rfl (eX (cY (rm rfl (ro rfl (dS (Ht rfl) (cJ 32) (by decide)) (ra rfl (eX (T_blk (cY (rm rfl (ro rfl (dV (Ht rfl) (cJ 1) z6) (ra rfl (eX (fY (i + 1,_,_) (hB.next hv hi zo (Nat.add_comm _ _)) (by dsimp only; omega) (zS rfl) (aU (aR (fM _ _ _)) (aU (fun _ _ _ h=>h) aY)))))))))))))))
        ·simp at hi
         have hil:i = vs.length:=Nat.le_antisymm hB.ile hi
         subst hil
         have hlen:=hB.len; have hcl:=hB.cle; have hok:=aS hB.dig (j + vs.length)
         have hBk:=hB.fin zo rfl
         obtain ⟨_,hDn⟩:=hS.wrong hv hV0 (Nat.succ_pos j) rfl hg hTk hBk
         simp only [BB] at hok
         refine gW rfl (cY (rm rfl (rm rfl (rm rfl (ro rfl (dV (Ht rfl) (Ht rfl) z6) (rm rfl (rm rfl (rm rfl (ro rfl (dV (Ht rfl) (Ht rfl) z6) (ro rfl (gQ U_27 Z_24 (Ht rfl) (Ht rfl) rfl zo (by rw [Nat.mul_one,Nat.zero_add])) ?_))))))))))
         refine ro rfl (eY A_24 Z_24 (Ht rfl) (i:=0) rfl (dY (aF zo))) (rm rfl (ro rfl (gJ U_274 U_24 (Ht rfl) (by show _ < 4294967296; first | omega | (simp only [jX]; omega))) (ro rfl (Jt rfl (Ht rfl) (Ht rfl)) (ro rfl (gQ U_27 Z_24 (Ht rfl) (Ht rfl) rfl zo (by rw [Nat.mul_one,Nat.zero_add])) ?_))))
         refine iD Z_24 (Ht rfl) (Ht rfl) (i:=0) rfl (by first | omega | (simp; omega)) rfl (eX (aO (_,g - 1) ⟨hDn,by dsimp only; omega,by simp; omega⟩ (zS rfl) (aU (aR (fM _ _ _)) (aU (fun _ _ _ h=>h) aY))))
       ·simp only [decide_eq_false_iff_not] at hbb
        have hdec:(!decide (x / 2 ^ 63 = 0)) = false:=by rw [show x / 2 ^ 63 = 0 by omega]; rfl
        rw [hdec] at hTk
        have hol:=hTk.len
        refine cU (aO (_,g) ⟨hS.right hv hV0 (Nat.succ_pos j) rfl hg hTk,hglt,by dsimp only; omega⟩ (zS rfl) (aU (aR (fM _ _ _)) (aU (fun _ _ _ h=>h) aY)))
      ·refine cY (rm rfl (rm rfl (rm rfl (ro rfl (gJ U_274 U_24 (Ht rfl) (by show _ < 4294967296; first | omega | (simp only [jX]; omega))) (ro rfl (gQ U_27 Z_24 (Ht rfl) (Ht rfl) rfl zo (by rw [Nat.mul_one, Nat.zero_add])) ?_)))))
       refine iD Z_24 (Ht rfl) (Ht rfl) (i:=1) rfl (by first | omega | (simp; omega)) rfl (eX (T_blk (cY (rm rfl (ro rfl (gP (Ht rfl) cV (uX zo)) (ra rfl (eX (fY (j,us2,_) ⟨hD,hus2⟩ (by dsimp only; omega) (zS rfl) (aU (fun _ _ _ h=>h) (aU (aR (fM _ _ _)) aY))))))))))
   ·simp at hk
    have hk0:k = 0:=by omega
    subst hk0
    have hfin:=hS.fin hV0
    have hlq:=hS.lenq
    rw [hvv] at hfin
    have hdiv:val qs = m / n:=by rw [hfin.1]; exact Nat.mul_div_mul_right _ _ hp2
    have hsm:val us < BB ^ vs.length:=by have h1:=hS.small; rw [List.drop_zero] at h1; exact Nat.lt_trans h1 (gT hv)
    have hmod : val (us.take vs.length) / 2 ^ s = m % n := by
     rw [mF hsm zo,hfin.2,Nat.mul_mod_mul_right,Nat.mul_div_cancel _ hp2]
    have hru : (dg (val (us.take vs.length))).length ≤ 17592186044416 := by
     refine Nat.le_trans (iG (k:=vs.length) ?_) zo
     rw [mF hsm zo]; exact hsm
    refine gW rfl (gV (i:=1) (tt:=12) rfl rfl (kZ rfl zo (Nat.le_refl _)) (gV (i:=0) (tt:=10) rfl rfl (kZ rfl zo (Nat.le_refl _)) (cK (fZ (m:=7) (dp 12 rfl (cX (Ht rfl)) (dq 254 0 rfl (cZ K_240 (qF _ hS.digq zo) ⟨(Ht rfl),trivial⟩) (dp 10 rfl (cX (Ht rfl)) (dp 11 rfl (cX (Ht rfl)) (eE 256 2 257 3 rfl (aD.imp (qS U_27 Z_24 (Ht rfl) (Ht rfl) (fun m e=>by cases e) zo (by simp; omega) rfl) (Jc _ _)) ?_)))))))))
    refine dq 258 4 rfl (cZ K_240 (qF _ (hS.dig.take' vs.length) (by simp; omega)) ⟨(Ht rfl),trivial⟩) ?_
    refine dp 8 rfl (cX (Ht rfl)) (fV bB rfl (by kernel_rfl) (zF (aJ (aJ (aJ (aV (ro rfl (cZ Tryz.call282 (Zg hru zo) ⟨(Ht rfl),(Ht rfl),trivial⟩) (ra rfl (ra rfl (eX (bE rfl (fX (eU rfl) ?_) (fX (eU rfl) ?_))))))))))))
    ·exact (cB hdiv)
    ·exact (cB hmod)
theorem Gd {m n:Nat} (hm:(dg m).length ≤ 17592186044415) (hn:(dg n).length ≤ 17592186044415):aT Tryz.prog 237 [aM m,aM n] (aM (Nat.gcd m n)):=by
 refine aT.intro Tryz.func237 rfl Tryz.ntmps237 rfl (fun cx=>(ts (ro rfl (cQ cV) (eX (cK (eG ?_))))))
 refine gC (fun (x : Nat) (y : Nat) => Nat.gcd x y = Nat.gcd m n ∧ (dg x).length ≤ 17592186044415 ∧ (dg y).length ≤ 17592186044415) (fun (x : Nat) (y : Nat) => y) (fun (x : Nat) (y : Nat) => [(0, aM x), (1, aM y)]) (fun (x : Nat) (y : Nat) => []) m n ⟨rfl, hm, hn⟩
  (zS rfl) aY (fun x y ⟨hg,hx,hy⟩=>?_)
 refine cK (ts (rm rfl (ro rfl (dG U_27 (Ht rfl) aA) (ro rfl (dE (Ht rfl) (cJ 0)) (eX (dQ (Ht rfl) (fun hb=>?_) (fun hb=>?_)))))))
 ·simp at hb
  have hy0:y ≠ 0:=fun e=>by rw [e,dD] at hb; simp at hb
  have hlt:=Nat.mod_lt x (Nat.pos_of_ne_zero hy0)
  refine cU (eG (ts (rm rfl (rm rfl (ro rfl (cZ K_238 (tT hx zo hy0) ⟨(Ht rfl),(Ht rfl),trivial⟩) (rm rfl (ro rfl (dK (Ht rfl) rfl) (ro rfl (dK (Ht rfl) rfl) (ra rfl (ra rfl (eX (cY (rm rfl (rm rfl (ra rfl (ra rfl (eX (T_blk (fY (y,x % y) ⟨by rw [← hg,Nat.gcd_comm x y,Nat.gcd_rec y x,Nat.gcd_comm],hy,Nat.le_trans (gL (Nat.le_of_lt hlt)) hy⟩ hlt (zS rfl) aY)))))))))))))))))))
 ·simp at hb
  have hy0:y = 0:=aH.1 (by simpa using hb)
  subst hy0
  rw [Nat.gcd_zero_right] at hg
  refine gW rfl (ts (rm rfl (ra rfl (eX (fW rfl (fX (eU rfl) ?_))))))
  exact (cB hg)
theorem Ir {m:Nat} (hm:(dg m).length ≤ 8796093022208):aT Tryz.prog 244 [aM m] (nQ (rU m)):=by
 refine aT.intro Tryz.func244 rfl Tryz.ntmps244 rfl (fun cx=>(ts (ro rfl (cQ (aB.cS (l:=[]) rfl)) (eX (cK (ts (rm rfl (ro rfl (dG U_27 (Ht rfl) aA) (ro rfl (cD (Ht rfl) (cJ 0)) (eX (dQ (Ht rfl) (fun hb=>?_) (fun hb=>?_))))))))))))
 ·simp at hb
  have h0:m = 0:=aH.1 (by simpa using hb)
  subst h0
  refine ts (ro rfl (cQ (aB.cS (l:=[48]) rfl)) (eX (fW rfl (fX (eU rfl) ?_))))
  exact (hZ rfl)
 ·simp at hb
  have h0:m ≠ 0:=fun e=>hb (by rw [e,dD])
  refine cU (ts (ro rfl (cQ cV) (eX (cK (eG (wK 5 1 ?_))))))
  refine jV (fun (x : Nat) (out : List Nat) (v : Value) => wE m out x ∧ x ≤ m) (fun (x : Nat) (out : List Nat) (v : Value) => x) (fun (x : Nat) (out : List Nat) (v : Value) => [(0, aM x), (3, Is v)]) (fun (x : Nat) (out : List Nat) (v : Value) => [bH 5 1 v (out.map uK)]) m [] (.slice none 0 0) ⟨wE.start m, Nat.le_refl m⟩
   (zS rfl) (cA.refl _) (fun x out v ⟨hO,hle⟩=>?_)
  refine cK (ts (rm rfl (ro rfl (dG U_27 (Ht rfl) aA) (ro rfl (dE (Ht rfl) (cJ 0)) (eX (dQ (Ht rfl) (fun hc=>?_) (fun hc=>?_)))))))
  ·simp at hc
   have hx0:x ≠ 0:=fun e=>by rw [e,dD] at hc; simp at hc
   have hxm:=gL hle
   refine cU (eG (ts (rm rfl (ro rfl (cZ Tryz.call279 (Cr zo (by decide) (by decide)) ⟨(Ht rfl),(cJ 1000000000),trivial⟩) (rm rfl (ro rfl (dK (Ht rfl) rfl) (ro rfl (dK (Ht rfl) rfl) (ra rfl (ra rfl (eX (cK (ts (ro rfl (cQ (cJ 0)) (eX (eG ?_)))))))))))))))
   refine sQ (fun (r : Nat) (k : Nat) (out : List Nat) (v : Value) => uZ m out (x / 1000000000) r k) (fun (r : Nat) (k : Nat) (out : List Nat) (v : Value) => 9 - k) (fun (r : Nat) (k : Nat) (out : List Nat) (v : Value) => [(3, Is v), (4, aM (x / 1000000000)), (5, bL r), (6, NT .i64 k)]) (fun (r : Nat) (k : Nat) (out : List Nat) (v : Value) => [bH 5 1 v (out.map uK)]) (x % 1000000000) 0 out v (hO.inner)
    (zS rfl) (cA.refl _) (fun r k out v hI=>?_)
   refine cK (ts (rm rfl (ro rfl (gZ (Ht rfl) (cJ 9)) (rm rfl (fQ rfl rfl (lV rfl rfl (Ht rfl) (fun h=>cX (Ht rfl))) (fQ rfl rfl (lV rfl rfl (Ht rfl) (fun h=>dE (aB.wu rfl h) (cJ 0))) (fQ rfl rfl (lV rfl rfl (Ht rfl) (fun h=>cX (aB.wu rfl h))) (fQ rfl rfl (sO rfl rfl rfl (fun h h2=>cX (Ht rfl))) (fQ rfl rfl (sO rfl rfl rfl (fun h h2=>dG U_27 (aB.wu rfl ⟨h,h2⟩) aA)) (fQ rfl rfl (sO rfl rfl rfl (fun h h2=>dE (aB.wu rfl ⟨h,h2⟩) (cJ 0))) (fQ rfl rfl (lV rfl rfl (Ht rfl) (fun h=>iF (aB.wu rfl h) (fun h2=>(aB.wu rfl ⟨h,h2⟩)))) ?_)))))))))))
   refine ro rfl (eS (Ht rfl) (fun h=>(aB.wu rfl h))) (eX (dQ (Ht rfl) (fun hd=>?_) (fun hd=>?_)))
   ·simp at hd
    have hxr:0 < x / 1000000000 ∨ 0 < r:=hd.2.elim (fun h=>.inr h) (fun h=>.inl (Nat.pos_of_ne_zero (fun e=>by rw [e,dD] at h; simp at h)))
    have hln:=hI.len hxr
    have hr32:=hI.r32
    refine cU (cK (eG (ts (rm rfl (rm rfl (ro rfl (iK (Ht rfl) (cJ 10) zo) (ro rfl (dV (cJ 48) (Ht rfl) (by show _ < 4294967296; first | omega | (simp only [jX]; omega))) (ro rfl (gJ U_24 U_5 (Ht rfl) (by show _ < 256; first | omega | (simp only [jX]; omega))) (ro rfl (dT (xs:=[.tmp 37]) U_341 Z_5 Tryz.zeroValue5 (cW (Ht rfl) cG) rfl rfl rfl) (wG (inf:=Tryz.t5) vX Pl rfl rfl rfl (Ht rfl) (Ht rfl) (i:=0) rfl (by simp) (fun T hT=>by simp at hT; subst hT; exact El.one) (by show _ * 1 ≤ _; simp only [List.length_map,List.length_cons,List.length_nil]; omega) (by simp only [List.length_map,List.length_cons,List.length_nil]; omega) rfl (fun v2=>?_)))))))))))
    refine ra rfl (eX (cY (rm rfl (ro rfl (gY (Ht rfl) (cJ 10) zo (by show _ < 4294967296; first | omega | (simp only [jX]; omega))) (ra rfl (eX (T_blk (cY (rm rfl (ro rfl (dV (Ht rfl) (cJ 1) z6) (ra rfl (eX (fY (r / 10,k + 1,_,v2) (hI.next hd.1 hxr) (by dsimp only; omega) (zS rfl) (aU (bN (Sb _ _)) aY))))))))))))))
   ·simp at hd
    have hO2 := hI.fin (fun ⟨h1, h2⟩ => by
     have h3:=hd h1
     rcases h2 with h2 | h2
     ·have:=nU.1 h3.2; omega
     ·omega)
    refine gW rfl (cY (rm rfl (ra rfl (eX (T_blk (fY (x / 1000000000,_,_) ⟨hO2,Nat.le_trans (Nat.div_le_self _ _) hle⟩ (Nat.div_lt_self (Nat.pos_of_ne_zero hx0) (by decide)) (zS rfl) (cA.refl _)))))))
  ·simp at hc
   have hx0:x = 0:=aH.1 (by simpa using hc)
   subst hx0
   have hfin:=hO.fin
   have hdl:=nF m
   rw [hfin] at hdl
   refine gW rfl (cK (ts (rm rfl (ro rfl (qR U_341 (Ht rfl) (i:=0) rfl aA) (ro rfl (gP (Ht rfl) cV (uX zo)) (ro rfl (cQ (cJ 0)) (ra rfl (eX (eG ?_)))))))))
   refine gC (fun (k : Nat) (o : List Nat) => wH out o k) (fun (k : Nat) (o : List Nat) => out.length - k) (fun (k : Nat) (o : List Nat) => [(3, Is v), (7, NT .i64 k), (8, aI .i64 ((out.length : Int) - 1 - (k : Int)))]) (fun (k : Nat) (o : List Nat) => [bH 5 1 v (o.map uK)]) 0 out (wH.start out)
    (aQ rfl (aQ rfl (aZ rfl (aN zo) aX))) (cA.refl _) (fun k o hR=>?_)
   refine cK (ts (rm rfl (rm rfl (ro rfl (mW (Ht rfl) (Ht rfl)) (eX (dQ (Ht rfl) (fun hk=>?_) (fun hk=>?_)))))))
   ·simp only [decide_eq_true_eq] at hk
    have hk2:2 * k + 1 < out.length:=by omega
    obtain ⟨j,hj⟩:∃ j,j = out.length - 1 - k:=⟨_,rfl⟩
    have hlen:=hR.len
    refine rT (E':=[(3,_),(7,_),(8,_),(46,_),(47,_),(48,_)]) (aQ rfl (aQ rfl (aZ rfl (aN (show (out.length:Int) - 1 - (k:Int) = (j:Int) by omega)) (zS rfl)))) (cU (cK (eG (W.D_start (m:=14) (fun b=>cond b ([bH 5 1 v ((o.map uK).set k (uK (o.getD j 0)))]) _) 13 (W.D_step (Ei:=[(3,_)]) rfl rfl (W.Srcs.cons (W.Src.pre rfl rfl) W.Srcs.nil) rfl (by kernel_rfl) (dX rfl (cX (Ht rfl))) (W.D_step (Ei:=[(7,_)]) rfl rfl (W.Srcs.cons (W.Src.pre rfl rfl) W.Srcs.nil) rfl (by kernel_rfl) (dX rfl (cX (Ht rfl))) ?_))))))
    refine W.D_pure (Ei:=[(3,_)]) rfl rfl (W.Srcs.cons (W.Src.pre rfl rfl) W.Srcs.nil) rfl (fun _=>dX rfl (cX (Ht rfl))) (W.D_pure (Ei:=[(8,_)]) rfl rfl (W.Srcs.cons (W.Src.pre rfl rfl) W.Srcs.nil) rfl (fun _=>dX rfl (cX (Ht rfl))) (W.D_step (Ei:=[(3,_)]) rfl rfl (W.Srcs.cons (W.Src.pre rfl rfl) W.Srcs.nil) rfl (by kernel_rfl) (dX rfl (cX (Ht rfl))) (W.D_step (Ei:=[(8,_)]) rfl rfl (W.Srcs.cons (W.Src.pre rfl rfl) W.Srcs.nil) rfl (by kernel_rfl) (dX rfl (cX (Ht rfl))) (W.D_step (Ei:=[(57,_),(58,_)]) rfl rfl (W.Srcs.cons (W.Src.op 4 rfl rfl) (W.Srcs.cons (W.Src.op 5 rfl rfl) W.Srcs.nil)) rfl (by kernel_rfl) (dX rfl (eO U_341 Z_5 (Ht rfl) (Ht rfl) rfl (i:=0) rfl (by first | omega | (simp; omega)) rfl)) ?_))))
    refine W.D_step (Ei:=[(59,_)]) rfl rfl (W.Srcs.cons (W.Src.op 6 rfl rfl) W.Srcs.nil) rfl (by kernel_rfl) (dX rfl (uE A_5 Z_5 (Ht rfl) (i:=0) rfl rfl (dY (aF zo)))) (W.D_step (Ei:=[(3,_)]) rfl rfl (W.Srcs.cons (W.Src.pre rfl rfl) W.Srcs.nil) rfl (by kernel_rfl) (dX rfl (cX (Ht rfl))) (W.D_step (Ei:=[(7,_)]) rfl rfl (W.Srcs.cons (W.Src.pre rfl rfl) W.Srcs.nil) rfl (by kernel_rfl) (dX rfl (cX (Ht rfl))) (W.D_step (Ei:=[(61,_),(62,_)]) rfl rfl (W.Srcs.cons (W.Src.op 8 rfl rfl) (W.Srcs.cons (W.Src.op 9 rfl rfl) W.Srcs.nil)) rfl (by kernel_rfl) (dX rfl (eO U_341 Z_5 (Ht rfl) (Ht rfl) rfl (i:=0) rfl (by first | omega | (simp; omega)) rfl)) ?_)))
    refine W.D_step (Ei:=[(63,_)]) rfl rfl (W.Srcs.cons (W.Src.op 10 rfl rfl) W.Srcs.nil) rfl (by kernel_rfl) (dX rfl (uE A_5 Z_5 (Ht rfl) (i:=0) rfl rfl (dY (aF zo)))) (W.D_step (Ei:=[(53,_),(54,_)]) rfl rfl (W.Srcs.cons (W.Src.op 0 rfl rfl) (W.Srcs.cons (W.Src.op 1 rfl rfl) W.Srcs.nil)) rfl (by kernel_rfl) (dX rfl (eO U_341 Z_5 (Ht rfl) (Ht rfl) rfl (i:=0) rfl (by first | omega | (simp; omega)) rfl)) (W.D_put (Ei:=[(65,_),(60,_)]) rfl rfl (W.Srcs.cons (W.Src.op 12 rfl rfl) (W.Srcs.cons (W.Src.op 7 rfl rfl) W.Srcs.nil)) rfl (Hm Z_5 (Ht rfl) (Ht rfl) El.one (i:=0) rfl rfl (by first | omega | (simp; omega))) ?_))
    refine W.D_done bB rfl (by kernel_rfl) rfl (W.F_val (W.F_val (W.F_val (W.F_val (W.F_val (W.F_val (W.F_val (W.F_val (W.F_val (W.F_val (W.F_val (W.F_val (W.F_val (W.F_put (W.F_nil (ro rfl (eO U_341 Z_5 (Ht rfl) (Ht rfl) rfl (i:=0) rfl (by first | omega | (simp; omega)) rfl) (mN Z_5 (Ht rfl) (Ht rfl) El.one (i:=0) rfl rfl (by first | omega | (simp; omega)) rfl (eX (T_blk (cY (rm rfl (ro rfl (dV (Ht rfl) (cJ 1) z6) (rm rfl (ro rfl (gP (Ht rfl) cV (uX zo)) ?_))))))))))))))))))))))))
    refine ra rfl (ra rfl (eX (fY (k + 1,_) (hR.next hk2 hj) (by dsimp only; omega) (aQ rfl (aQ rfl (aZ rfl (aN zo) aX))) (aU (bN (Kk _ _ _ _ _)) aY))))
   ·simp only [decide_eq_false_iff_not] at hk
    have hrev:=hR.fin zo
    subst hrev
    refine gW rfl (gV (i:=0) (tt:=3) rfl rfl iZ (ts (rm rfl (ro rfl (Eb vX Yf Yg (Ht rfl) (by rw [← hfin]; simpa using Jb h0) (fun b hb=>Ou (n:=m) b (by rw [qI h0,hfin]; exact hb))) ?_))))
    refine ra rfl (eX (fW rfl (fX (eU rfl) ?_)))
    exact (hZ (by rw [qI h0,hfin]))
end
section
open Go Go.RowKit
theorem vE {n : Nat} {E : bD} {H : Hp} {d : Option Tmp} {t : TypeId} {pos : String} {af : Array Edge} {g : Option (Nat × Bool)}  :
  aD Tryz.prog n E H ⟨d,.build 32 #[],t,pos,af,g⟩ (eB [Is (.bool false),Is (.slice none 0 0),Is (.bool false),Is (.slice none 0 0),Is (.slice none 0 0)]) :=
 fO (parts := []) fun a V w hs => by
  refine ⟨.agg #[(.bool false),(.slice none 0 0),(.bool false),(.slice none 0 0),(.slice none 0 0)],?_,[(.bool false),(.slice none 0 0),(.bool false),(.slice none 0 0),(.slice none 0 0)],rfl,aW (⟨rfl,trivial⟩) (aW (⟨rfl,trivial⟩) (aW (⟨rfl,trivial⟩) (aW (⟨rfl,trivial⟩) (aW (⟨rfl,trivial⟩) (aG)))))⟩
  simp [Instr.build,Instr.fill,Sem.run_bind,Result.andThen,dN,O_32,U_32,Z_28,Z_30]
theorem Ss {n : Nat} {E : bD} {H : Hp} {d : Option Tmp} {t : TypeId} {pos : String} {af : Array Edge} {g : Option (Nat × Bool)}  :
  aD Tryz.prog n E H ⟨d,.build 38 #[],t,pos,af,g⟩ (eB [Is (.bool false),Is (.slice none 0 0)]) :=
 fO (parts := []) fun a V w hs => by
  refine ⟨.agg #[(.bool false),(.slice none 0 0)],?_,[(.bool false),(.slice none 0 0)],rfl,aW (⟨rfl,trivial⟩) (aW (⟨rfl,trivial⟩) (aG))⟩
  simp [Instr.build,Instr.fill,Sem.run_bind,Result.andThen,dN,O_38,U_38,Z_4,Z_27]
theorem sC {n : Nat} {E : bD} {H : Hp} {d : Option Tmp} {t : TypeId} {pos : String} {af : Array Edge} {g : Option (Nat × Bool)} {x0 x1 : Operand} {T0 T1 : Ty} [s0 : bT T0 1 false] (h0 : aB E x0 T0) [s1 : bT T1 1 false] (h1 : aB E x1 T1) :
  aD Tryz.prog n E H ⟨d,.build 38 #[(0,x0),(1,x1)],t,pos,af,g⟩ (eB [T0,T1]) :=
 fO (parts := [(0, x0), (1, x1)]) fun a V w hs => by
  have p0:=h0 n V a hs
  generalize e0:a.eval x0 = v0 at p0
  have q0:=(s0.ok v0 V p0).2.2 rfl
  have p1:=h1 n V a hs
  generalize e1:a.eval x1 = v1 at p1
  have q1:=(s1.ok v1 V p1).2.2 rfl
  refine ⟨.agg #[v0,v1],?_,[v0,v1],rfl,aW (⟨p0,q0⟩) (aW (⟨p1,q1⟩) (aG))⟩
  simp [e0,e1,Instr.build,Instr.fill,Sem.run_bind,Result.andThen,dN,q0.cells,q1.cells,O_38,U_38,Z_4,Z_27]
theorem sS {n : Nat} {E : bD} {H : Hp} {d : Option Tmp} {t : TypeId} {pos : String} {af : Array Edge} {g : Option (Nat × Bool)} {x0 x1 x2 : Operand} {T0 T1 T2 T3 T4 : Ty} (h0 : aB E x0 (eB [T0, T1])) (h1 : aB E x1 (eB [T2, T3])) [s2 : bT T4 1 false] (h2 : aB E x2 T4) :
  aD Tryz.prog n E H ⟨d,.build 40 #[(0,x0),(1,x1),(2,x2)],t,pos,af,g⟩ (eB [T0,T1,T2,T3,T4]) :=
 fO (parts := [(0, x0), (1, x1), (2, x2)]) fun a V w hs => by
  obtain ⟨v0,e0,c0⟩:=h0 n V a hs
  obtain ⟨c0_0,c0_1,rfl⟩:∃ c0_0 c0_1,v0 = [c0_0,c0_1]:=Do (by simpa using c0.length)
  obtain ⟨v1,e1,c1⟩:=h1 n V a hs
  obtain ⟨c1_0,c1_1,rfl⟩:∃ c1_0 c1_1,v1 = [c1_0,c1_1]:=Do (by simpa using c1.length)
  have p2:=h2 n V a hs
  generalize e2:a.eval x2 = v2 at p2
  have q2:=(s2.ok v2 V p2).2.2 rfl
  refine ⟨.agg #[c0_0,c0_1,c1_0,c1_1,v2],?_,[c0_0,c0_1,c1_0,c1_1,v2],rfl,aW (c0.at (i:=0) rfl rfl) (aW (c0.at (i:=1) rfl rfl) (aW (c1.at (i:=0) rfl rfl) (aW (c1.at (i:=1) rfl rfl) (aW (⟨p2,q2⟩) (aG)))))⟩
  simp [e0,e1,e2,Instr.build,Instr.fill,Sem.run_bind,Result.andThen,dN,q2.cells,O_40,U_40,Z_27,Z_38]
theorem oI (a:Addr) (w:World):(Instr.fieldAt 38 (.pointer (some a)) 0).run Tryz.prog w = .ok (.pointer (some (a.add 0))) w:=by
 simp [Instr.fieldAt,Instr.sureAddr,fieldPlace,Sem.run_bind,Result.andThen,U_38,Z_4]
theorem kQ (a:Addr) (w:World):(Instr.fieldAt 38 (.pointer (some a)) 1).run Tryz.prog w = .ok (.pointer (some (a.add 1))) w:=by
 simp [Instr.fieldAt,Instr.sureAddr,fieldPlace,Sem.run_bind,Result.andThen,U_38,Z_27]
theorem qK (a:Addr) (w:World):(Instr.fieldAt 40 (.pointer (some a)) 0).run Tryz.prog w = .ok (.pointer (some (a.add 0))) w:=by
 simp [Instr.fieldAt,Instr.sureAddr,fieldPlace,Sem.run_bind,Result.andThen,U_40,Z_38]
theorem qL (a:Addr) (w:World):(Instr.fieldAt 40 (.pointer (some a)) 1).run Tryz.prog w = .ok (.pointer (some (a.add 2))) w:=by
 simp [Instr.fieldAt,Instr.sureAddr,fieldPlace,Sem.run_bind,Result.andThen,U_40,Z_38]
theorem oJ (a:Addr) (w:World):(Instr.fieldAt 40 (.pointer (some a)) 2).run Tryz.prog w = .ok (.pointer (some (a.add 4))) w:=by
 simp [Instr.fieldAt,Instr.sureAddr,fieldPlace,Sem.run_bind,Result.andThen,U_40,Z_27]
end
section
open Go Go.RowKit
theorem tU {b:Bool} {m:Nat}:aT Tryz.prog 239 [aC b,aM m] (fE (uV b m)):=by
 refine aT.intro Tryz.func239 rfl Tryz.ntmps239 rfl (fun cx=>(ts (rn rfl (eW (Ts:=[Is (.bool false),Is (.slice none 0 0)]) O_38 rfl (fun V=>aW zd (aW zd (aG)))) fun B4=>(eX (ts (rm rfl (rm rfl (fQ rfl rfl (eK rfl rfl (Ht rfl) (fun h=>cX (Ht rfl))) (fQ rfl rfl (eK rfl rfl (Ht rfl) (fun h=>dG U_27 (fJ rfl h) aA)) (fQ rfl rfl (eK rfl rfl (Ht rfl) (fun h=>dE (fJ rfl h) (cJ 0))) (ro rfl (eS (Ht rfl) (fun h=>(fJ rfl h))) (rm rfl ?_))))))))))))
 refine ro rfl (sC (Ht rfl) (Ht rfl)) (gX Z_38 (Ht rfl) (Ht rfl) rfl (i:=0) rfl (aK rfl) rfl rfl (eX (fW rfl (fX (fU A_38 Z_38 rfl (i:=0) rfl rfl) ?_))))
 exact Rb
theorem wR {n:Int} (h1:-9223372036854775808 ≤ n) (h2:n ≤ 9223372036854775807):aT Tryz.prog 179 [aI .i64 n] (fE n):=by
 refine aT.intro Tryz.func179 rfl Tryz.ntmps179 rfl (fun cx=>(ts (rn rfl (eW (Ts:=[Is (.bool false),Is (.slice none 0 0)]) O_38 rfl (fun V=>aW zd (aW zd (aG)))) fun B2=>(eX (cK (ts (rm rfl (ro rfl (mW (Ht rfl) cV) (eX (dQ (Ht rfl) (fun hb=>?_) (fun hb=>?_)))))))))))
 ·have hn : n < 0 := by simpa using hb
  refine ts (rm rfl (ro rfl (Bl (Ht rfl) (r:=IntKind.i64.wrap (-n)) rfl) ?_))
  refine ro rfl (qQ U_2 U_274 (Ht rfl) (r:=((n.natAbs:Nat):Int)) (by rw [IntKind.wrap_u64,IntKind.wrap_i64]; omega)) ?_
  refine ro rfl (cZ Tryz.call235 (wS zo) ⟨(Ht rfl),trivial⟩) (ro rfl (sC cV (Ht rfl)) (gX Z_38 (Ht rfl) (Ht rfl) rfl (i:=0) rfl (aK rfl) rfl rfl (eX (fW rfl (fX (fU A_38 Z_38 rfl (i:=0) rfl rfl) ?_)))))
  exact (oC (by rw [hb]; rfl))
 ·have hn : ¬ n < 0 := by simpa using hb
  refine cU (ts (rm rfl (ro rfl (qQ U_2 U_274 (Ht rfl) (r:=((n.natAbs:Nat):Int)) (by rw [IntKind.wrap_u64]; omega)) ?_)))
  refine ro rfl (cZ Tryz.call235 (wS zo) ⟨(Ht rfl),trivial⟩) (ro rfl (sC cV (Ht rfl)) (gX Z_38 (Ht rfl) (Ht rfl) rfl (i:=0) rfl (aK rfl) rfl rfl (eX (fW rfl (fX (fU A_38 Z_38 rfl (i:=0) rfl rfl) ?_)))))
  exact (oC (by rw [hb]; rfl))
theorem yY {x:Int}:aT Tryz.prog 191 [fE x] (fE (-x)):=by
 refine aT.intro Tryz.func191 rfl Tryz.ntmps191 rfl (fun cx=>(ts (rn rfl (fG (Ht rfl)) fun B1=>(rn rfl (eW (Ts:=[Is (.bool false),Is (.slice none 0 0)]) O_38 rfl (fun V=>aW zd (aW zd (aG)))) fun B2=>(eX (ts (ro rfl (eZ oI (Ht rfl) rfl) (ro rfl (eY A_4 Z_4 (Ht rfl) (i:=0) rfl rfl) (ro rfl (eC (Ht rfl)) (ro rfl (eZ kQ (Ht rfl) rfl) (ro rfl (eY A_27 Z_27 (Ht rfl) (i:=0) rfl rfl) (ro rfl (cZ Tryz.call239 tU ⟨(Ht rfl),(Ht rfl),trivial⟩) ?_))))))))))))
 refine gX Z_38 (Ht rfl) (Ht rfl) rfl (i:=1) rfl (aK rfl) rfl rfl (eX (fW rfl (fX (fU A_38 Z_38 rfl (i:=1) rfl rfl) ?_)))
 exact (nC (zP x))
theorem Ip {A B:Int} {D:Nat} (hD:0 < D) (hA:(dg A.natAbs).length ≤ 17592186044415) (hB:(dg B.natAbs).length ≤ 17592186044415) (hD2:(dg D).length ≤ 17592186044415):aT Tryz.prog 185 [fE A,fE B,aM D] (QT (Qi.mk' A B D)):=by
 have hg1:=wZ hA hB
 have hg2:=wZ hg1 hD2
 have hgp:Nat.gcd (Nat.gcd A.natAbs B.natAbs) D ≠ 0:=fun e=>by have:=Nat.gcd_eq_zero_iff.1 e; omega
 refine aT.intro Tryz.func185 rfl Tryz.ntmps185 rfl (fun cx=>(ts (rn rfl (fG (Ht rfl)) fun B3=>(rn rfl (fG (Ht rfl)) fun B4=>(rn rfl (eW (Ts:=[Is (.bool false),Is (.slice none 0 0),Is (.bool false),Is (.slice none 0 0),Is (.slice none 0 0)]) O_40 rfl (fun V=>aW zd (aW zd (aW zd (aW zd (aW zd (aG))))))) fun B6=>(eX (ts (ro rfl (eZ kQ (Ht rfl) rfl) (ro rfl (eY A_27 Z_27 (Ht rfl) (i:=0) rfl rfl) ?_)))))))))
 refine ro rfl (eZ kQ (Ht rfl) rfl) (ro rfl (eY A_27 Z_27 (Ht rfl) (i:=1) rfl rfl) (ro rfl (cZ Tryz.call237 (Gd zo zo) ⟨(Ht rfl),(Ht rfl),trivial⟩) (rm rfl (ro rfl (cZ Tryz.call237 (Gd zo zo) ⟨(Ht rfl),(Ht rfl),trivial⟩) (ra rfl (eX (cK (ts (rm rfl (ro rfl (dG U_27 (Ht rfl) aA) (ro rfl (cD (Ht rfl) (cJ 1)) (rm rfl (fQ rfl rfl (eK rfl rfl (Ht rfl) (fun h=>cX (Ht rfl))) (fQ rfl rfl (eK rfl rfl (Ht rfl) (fun h=>dZ U_27 Z_24 (fJ rfl h) (cJ 0) rfl (dY (aF (by first | omega | (simp at h; omega)))))) ?_))))))))))))))
 refine fQ rfl rfl (eK rfl rfl (Ht rfl) (fun h=>dJ A_24 Z_24 (fJ rfl h))) (fQ rfl rfl (eK rfl rfl (Ht rfl) (fun h=>cD (fJ rfl h) (cJ 1))) (ro rfl (eS (Ht rfl) (fun h=>(fJ rfl h))) (eX (dQ (Ht rfl) (fun hb=>?_) (fun hb=>?_)))))
 ·rw [Bh] at hb
  have hg:Qi.g3 A B D = 1:=by simpa [Qi.g3] using hb
  refine ts (ro rfl (eJ A_38 Z_38 (Ht rfl) (i:=0) rfl rfl rfl) (ro rfl (eJ A_38 Z_38 (Ht rfl) (i:=1) rfl rfl rfl) (rm rfl (ro rfl (sS (Ht rfl) (Ht rfl) (Ht rfl)) (gX Z_40 (Ht rfl) (Ht rfl) rfl (i:=2) rfl (aK rfl) rfl rfl (eX (fW rfl (fX (fU A_40 Z_40 rfl (i:=2) rfl rfl) ?_))))))))
  exact (Pu hD hg)
 ·refine cU (ts (ro rfl (eZ kQ (Ht rfl) rfl) (ro rfl (eY A_27 Z_27 (Ht rfl) (i := 0) rfl rfl) (rm rfl (ro rfl (cZ K_238 (tT zo zo zo) ⟨(Ht rfl), (Ht rfl), trivial⟩) (rm rfl (ro rfl (dK (Ht rfl) rfl) (ro rfl (dK (Ht rfl) rfl) (ra rfl (ra rfl (eX (ts (ro rfl (eZ kQ (Ht rfl) rfl) (ro rfl (eY A_27 Z_27 (Ht rfl) (i := 1) rfl rfl) (rm rfl (ro rfl (cZ K_238 (tT zo zo zo) ⟨(Ht rfl), (Ht rfl), trivial⟩) (rm rfl (ro rfl (dK (Ht rfl) rfl) ?_))))))))))))))))))
  refine ro rfl (dK (Ht rfl) rfl) (ra rfl (ra rfl (eX (ts (rm rfl (rm rfl (ro rfl (cZ K_238 (tT zo zo zo) ⟨(Ht rfl),(Ht rfl),trivial⟩) (rm rfl (ro rfl (dK (Ht rfl) rfl) (ro rfl (dK (Ht rfl) rfl) (ra rfl (ra rfl (eX (cK (fZ (m:=9) (dp 3 rfl (eZ oI (Ht rfl) rfl) (dq 54 0 rfl (eY A_4 Z_4 (Ht rfl) (i:=0) rfl rfl) (dp 8 rfl (cX (Ht rfl)) (eE 55 1 56 2 rfl (cZ Tryz.call239 tU ⟨(Ht rfl),(Ht rfl),trivial⟩) (dp 4 rfl (eZ oI (Ht rfl) rfl) ?_))))))))))))))))))))
  refine dq 58 4 rfl (eY A_4 Z_4 (Ht rfl) (i:=1) rfl rfl) (dp 10 rfl (cX (Ht rfl)) (eE 59 5 60 6 rfl (cZ Tryz.call239 tU ⟨(Ht rfl),(Ht rfl),trivial⟩) (dp 12 rfl (cX (Ht rfl)) (fV bB rfl (by kernel_rfl) (zF (zF (aJ (aV (ro rfl (sS (Ht rfl) (Ht rfl) (Ht rfl)) (gX Z_40 (Ht rfl) (Ht rfl) rfl (i:=2) rfl (aK rfl) rfl rfl (eX (fW rfl (fX (fU A_40 Z_40 rfl (i:=2) rfl rfl) ?_)))))))))))))
  exact (Pv hD rfl)
theorem Zf {p q d:Int} (p1:-9223372036854775808 ≤ p) (p2:p ≤ 9223372036854775807) (q1:-9223372036854775808 ≤ q) (q2:q ≤ 9223372036854775807) (d1:-9223372036854775808 ≤ d) (d2:d ≤ 9223372036854775807) (hd:d ≠ 0):aT Tryz.prog 91 [aI .i64 p,aI .i64 q,aI .i64 d] (fB [QT (Qi.frac p q d),aI .i64 0]):=by
 have lp:=Le p1 p2; have lq:=Le q1 q2; have ld:=Le d1 d2; have np:=sH p; have nq:=sH q
 refine aT.intro Tryz.func91 rfl Tryz.ntmps91 rfl (fun cx=>(ts (rn rfl (eW (Ts:=[Is (.bool false),Is (.slice none 0 0),Is (.bool false),Is (.slice none 0 0),Is (.slice none 0 0)]) O_40 rfl (fun V=>aW zd (aW zd (aW zd (aW zd (aW zd (aG))))))) fun B6=>(ro rfl (cQ (cJ 0)) (eX (cK (ts (rm rfl (ro rfl (jO (Ht rfl) cV) (eX (iW (Ht rfl) (by simp [hd]) ?_)))))))))))
 refine cU (ts (rm rfl (ro rfl (cZ Tryz.call179 (wR d1 d2) ⟨(Ht rfl),trivial⟩) (rn rfl (eW (Ts:=[Is (.bool false),Is (.slice none 0 0)]) O_38 rfl (fun V=>aW zd (aW zd (aG)))) fun B8=>(gX Z_38 (Ht rfl) (Ht rfl) rfl (i:=1) rfl (aK rfl) rfl rfl (eX (ts (rm rfl (ro rfl (cZ Tryz.call179 (wR p1 p2) ⟨(Ht rfl),trivial⟩) (rm rfl (ro rfl (cZ Tryz.call179 (wR q1 q2) ⟨(Ht rfl),trivial⟩) (rn rfl (eW (Ts:=[Is (.bool false),Is (.slice none 0 0)]) O_38 rfl (fun V=>aW zd (aW zd (aG)))) fun B9=>?_))))))))))))
 refine rn rfl (eW (Ts:=[Is (.bool false),Is (.slice none 0 0)]) O_38 rfl (fun V=>aW zd (aW zd (aG)))) fun B10=>gX Z_38 (Ht rfl) (Ht rfl) rfl (i:=2) rfl (aK rfl) rfl rfl (gX Z_38 (Ht rfl) (Ht rfl) rfl (i:=3) rfl (aK rfl) rfl rfl (eX (cK (oB (fun (a:Int) (b:Int)=>Qi.mk' a b d.natAbs = Qi.frac p q d ∧ (dg a.natAbs).length ≤ 2 ∧ (dg b.natAbs).length ≤ 2) (fun (a:Int) (b:Int)=>[(6,cH B6 0),(8,cH B8 0),(9,cH B9 0),(10,cH B10 0)]) (fun (a:Int) (b:Int)=>[box B6 40 [Is (.bool false),Is (.slice none 0 0),Is (.bool false),Is (.slice none 0 0),Is (.slice none 0 0)],box B8 38 [aC (decide (d < 0)),aM (d).natAbs],box B9 38 [aC (decide (a < 0)),aM (a).natAbs],box B10 38 [aC (decide (b < 0)),aM (b).natAbs]]) ?_ (fun a b ⟨hab,ha,hb⟩=>?_)))))
 ·refine ts (ro rfl (eZ oI (Ht rfl) rfl) (ro rfl (eY A_4 Z_4 (Ht rfl) (i := 1) rfl rfl) (eX (dQ (Ht rfl) (fun hn => ?_) (fun hn => ?_)))))
  ·simp only [decide_eq_true_eq] at hn
   refine fZ (m:=3) (dp 9 rfl (eJ A_38 Z_38 (Ht rfl) (i:=2) rfl rfl rfl) (dq 22 0 rfl (cZ Tryz.call191 yY ⟨(Ht rfl),trivial⟩) (dp 10 rfl (eJ A_38 Z_38 (Ht rfl) (i:=3) rfl rfl rfl) (fV bB rfl (by kernel_rfl) (aJ (aJ (aJ (aV (ro rfl (cZ Tryz.call191 yY ⟨(Ht rfl),trivial⟩) (gX Z_38 (Ht rfl) (Ht rfl) rfl (i:=2) rfl (aK rfl) rfl rfl (gX Z_38 (Ht rfl) (Ht rfl) rfl (i:=3) rfl (aK rfl) rfl rfl (eX (aO (-p,-q) ⟨Qi.frac_neg hn,by dsimp only; omega,by dsimp only; omega⟩ (zS rfl) (aU (aR rfl) (aU (aR rfl) (aU (aR rfl) (aU (aR rfl) aY)))))))))))))))))
  ·simp only [decide_eq_false_iff_not] at hn
   refine cU (aO (p,q) ⟨Qi.frac_pos hn hd,by omega,by omega⟩ (zS rfl) (cA.refl _))
 ·refine ts (ro rfl (eJ A_38 Z_38 (Ht rfl) (i := 2) rfl rfl rfl) (ro rfl (eJ A_38 Z_38 (Ht rfl) (i := 3) rfl rfl rfl) (ro rfl (eZ kQ (Ht rfl) rfl) (ro rfl (eY A_27 Z_27 (Ht rfl) (i := 1) rfl rfl) (ro rfl (cZ Tryz.call185 (Ip zo zo zo zo) ⟨(Ht rfl), (Ht rfl), (Ht rfl), trivial⟩) (gX Z_40 (Ht rfl) (Ht rfl) rfl (i := 0) rfl (aK rfl) rfl rfl (ro rfl (cQ (cJ 0)) (eX (bE rfl (fX (fU A_40 Z_40 rfl (i := 0) rfl rfl) ?_) (eU rfl))))))))))
  exact (a1B hab)
theorem a1d {r:Rt}:aT Tryz.prog 16 [jQ r] (QT r.q):=by
 have hr1:=r.h1; have hr2:=r.h2; have hr3:=r.h3; have hr4:=r.h4; have hr5:=r.d1; have hr6:=r.d2; have hr0:=r.d0
 refine aT.intro Tryz.func16 rfl Tryz.ntmps16 rfl (fun cx=>(ts (rn rfl (fG (Ht rfl)) fun B1=>(rn rfl (eW (Ts:=[Is (.bool false),Is (.slice none 0 0),Is (.bool false),Is (.slice none 0 0),Is (.slice none 0 0)]) O_40 rfl (fun V=>aW zd (aW zd (aW zd (aW zd (aW zd (aG))))))) fun B2=>(eX (cK (iA (fun (uu:Unit)=>True) (fun (uu:Unit)=>[(1,cH B1 0),(2,cH B2 0)]) (fun (uu:Unit)=>[box B1 23 [aI .i64 r.re,aI .i64 r.im,aI .i64 r.d],box B2 40 [Is (.bool false),Is (.slice none 0 0),Is (.bool false),Is (.slice none 0 0),Is (.slice none 0 0)]]) ?_ (fun uu _=>?_))))))))
 ·refine ts (ro rfl (eZ nG (Ht rfl) rfl) (ro rfl (eY A_2 Z_2 (Ht rfl) (i := 0) rfl rfl) (ro rfl (jO (Ht rfl) cV) (eX (dQ (Ht rfl) (fun hb => ?_) (fun hb => ?_))))))
  ·simp only [decide_eq_true_eq] at hb
   refine cY (ro rfl (eZ nG (Ht rfl) rfl) (iD Z_2 (Ht rfl) (cJ 1) (i:=0) rfl (aK rfl) rfl (eX (aO () trivial (zS rfl) (aU (aR (by rw [Rt.d,if_pos hb]; rfl)) (aU (aR rfl) aY))))))
  ·simp only [decide_eq_false_iff_not] at hb
   refine cU (aO () trivial (zS rfl) (aU (aR (by rw [Rt.d,if_neg hb])) (aU (aR rfl) aY)))
 ·refine ts (ro rfl (eZ oG (Ht rfl) rfl) (ro rfl (eY A_2 Z_2 (Ht rfl) (i := 0) rfl rfl) (ro rfl (eZ At (Ht rfl) rfl) (ro rfl (eY A_2 Z_2 (Ht rfl) (i := 0) rfl rfl) (ro rfl (eZ nG (Ht rfl) rfl) (ro rfl (eY A_2 Z_2 (Ht rfl) (i := 0) rfl rfl) (ro rfl (cZ Tryz.call91 (Zf hr1 hr2 hr3 hr4 hr5 hr6 hr0) ⟨(Ht rfl), (Ht rfl), (Ht rfl), trivial⟩) (rm rfl (ro rfl (dK (Ht rfl) rfl) (ro rfl (dK (Ht rfl) rfl) (rn rfl (eW (Ts := [Is (.bool false), Is (.slice none 0 0), Is (.bool false), Is (.slice none 0 0), Is (.slice none 0 0)]) O_40 rfl (fun V => aW zd (aW zd (aW zd (aW zd (aW zd (aG))))))) fun B3 => ?_)))))))))))
  refine gX Z_40 (Ht rfl) (Ht rfl) rfl (i:=2) rfl (aK rfl) rfl rfl (ra rfl (eX (ts (ro rfl (eJ A_40 Z_40 (Ht rfl) (i:=2) rfl rfl rfl) (gX Z_40 (Ht rfl) (Ht rfl) rfl (i:=1) rfl (aK rfl) rfl rfl (eX ?_))))))
  exact fW rfl (fU A_40 Z_40 rfl (i:=1) rfl rfl)
theorem a1c {x:Qi} {L:Nat} [hx:aP x L] (h:L ≤ 17592186044415):aT Tryz.prog 180 [QT x] (QT x.imp):=by
 have hxa:=lJ hx.fit; have hxb:=lK hx.fit; have hxd:=lL hx.fit
 have hxp:=x.den_pos
 have h5:(dg (0:Int).natAbs).length ≤ 0:=by rw [show (0:Int).natAbs = 0 from rfl,dD]; exact Nat.le_refl _
 refine aT.intro Tryz.func180 rfl Tryz.ntmps180 rfl (fun cx=>(ts (rn rfl (fG (Ht rfl)) fun B1=>(rn rfl (eW (Ts:=[Is (.bool false),Is (.slice none 0 0),Is (.bool false),Is (.slice none 0 0),Is (.slice none 0 0)]) O_40 rfl (fun V=>aW zd (aW zd (aW zd (aW zd (aW zd (aG))))))) fun B2=>(eX (ts (ro rfl (eZ qL (Ht rfl) rfl) (ro rfl (eJ A_38 Z_38 (Ht rfl) (i:=0) rfl rfl rfl) (ro rfl (aD.imp (Ss ) yF) ?_)))))))))
 refine ro rfl (eZ oJ (Ht rfl) rfl) (ro rfl (eY A_27 Z_27 (Ht rfl) (i:=0) rfl rfl) (ro rfl (cZ Tryz.call185 (Ip (by first | assumption | omega) zo zo zo) ⟨(Ht rfl),(Ht rfl),(Ht rfl),trivial⟩) (gX Z_40 (Ht rfl) (Ht rfl) rfl (i:=1) rfl (aK rfl) rfl rfl (eX (fW rfl (fX (fU A_40 Z_40 rfl (i:=1) rfl rfl) ?_))))))
 exact (a1B (Qi.mk_im0 x))
theorem Iq {x:Qi}:aT Tryz.prog 90 [QT x] (aI .i64 (iT x.a 0)):=by
 refine aT.intro Tryz.func90 rfl Tryz.ntmps90 rfl (fun cx=>(ts (rn rfl (fG (Ht rfl)) fun B1=>(ro rfl (cQ (cJ 0)) (eX (cK (ts (ro rfl (eZ qK (Ht rfl) rfl) (ro rfl (eZ oI (Ht rfl) rfl) (ro rfl (eY A_4 Z_4 (Ht rfl) (i:=0) rfl rfl) (eX (dQ (Ht rfl) (fun hb=>?_) (fun hb=>?_)))))))))))))
 ·simp only [decide_eq_true_eq] at hb
  refine ts (ro rfl (cQ cV) (eX (fW rfl (fX (eU rfl) ?_))))
  exact (aN (by rw [iT,if_pos hb]))
 ·simp only [decide_eq_false_iff_not] at hb
  refine cU (cK (ts (ro rfl (eZ qK (Ht rfl) rfl) (ro rfl (eZ kQ (Ht rfl) rfl) (ro rfl (eY A_27 Z_27 (Ht rfl) (i:=0) rfl rfl) (ro rfl (dG U_27 (Ht rfl) aA) (ro rfl (dE (Ht rfl) (cJ 0)) (eX (dQ (Ht rfl) (fun hc=>?_) (fun hc=>?_))))))))))
  ·simp only [decide_eq_true_eq] at hc
   have h0:x.a ≠ 0:=fun e=>by rw [e] at hc; simp [dD] at hc
   refine ts (ro rfl (cQ (cJ 1)) (eX (fW rfl (fX (eU rfl) ?_))))
   exact (aN (by rw [iT,if_neg hb,if_pos zo]; rfl))
  ·simp only [decide_eq_false_iff_not] at hc
   have h0:x.a = 0:=by have:=aH.1 (Nat.eq_zero_of_not_pos hc); omega
   refine cU (ts (ro rfl (cQ (cJ 0)) (eX (fW rfl (fX (eU rfl) ?_)))))
   exact (aN (by rw [iT,if_neg hb,if_neg zo]; rfl))
theorem Tm {x:Qi} {L:Nat} [hx:aP x L] (h:L ≤ 17592186044415):aT Tryz.prog 97 [QT x] (aI .i64 (iT x.b 0)):=by
 refine aT.intro Tryz.func97 rfl Tryz.ntmps97 rfl (fun cx=>(ts (rn rfl (fG (Ht rfl)) fun B1=>(ro rfl (cQ (cJ 0)) (eX (ts (ro rfl (eJ A_40 Z_40 (Ht rfl) (i:=0) rfl rfl rfl) (ro rfl (cZ Tryz.call180 (a1c zo) ⟨(Ht rfl),trivial⟩) (ro rfl (cZ Tryz.call90 Iq ⟨(Ht rfl),trivial⟩) (ra rfl (eX (fW rfl (fX (eU rfl) ?_)))))))))))))
 exact (aN (Wm x))
theorem Ig {x y:Qi} {L M:Nat} [hx:aP x L] [hy:aP y M] (h:L + 3 * M + 2 ≤ 17592186044415):aT Tryz.prog 142 [aL x,aL y] (fB [aL (x / y),aI .i64 (if y = Qi.zero then 3 else 0)]):=by
 have hxa:=lJ hx.fit; have hxb:=lK hx.fit; have hxd:=lL hx.fit
 have hya:=lJ hy.fit; have hyb:=lK hy.fit; have hyd:=lL hy.fit
 have hxp:=x.den_pos; have hyp:=y.den_pos; have hMp:=hy.pos
 refine aT.intro Tryz.func142 rfl Tryz.ntmps142 rfl (fun cx=>(ts (rn rfl (fG (Ht rfl)) fun B2=>(rn rfl (fG (Ht rfl)) fun B3=>(rn rfl (eW (Ts:=[Is (.bool false),Is (.slice none 0 0),Is (.bool false),Is (.slice none 0 0),Is (.slice none 0 0)]) O_32 rfl (fun V=>aW zd (aW zd (aW zd (aW zd (aW zd (aG))))))) fun B4=>(ro rfl (cQ (cJ 0)) (eX (cK (ts (ro rfl (eJ A_32 Z_32 (Ht rfl) (i:=1) rfl rfl rfl) ?_))))))))))
 refine ro rfl (cZ Tryz.call34 (Ic zo) ⟨(Ht rfl),trivial⟩) (ro rfl (eC (Ht rfl)) (eX (dQ (Ht rfl) (fun hb=>?_) (fun hb=>?_))))
 ·have h0 : y = Qi.zero := by simpa using hb
  refine ts (ro rfl (aD.imp (vE ) pR) (gX Z_32 (Ht rfl) (Ht rfl) rfl (i:=2) rfl (aK rfl) rfl rfl (ro rfl (cQ (cJ 3)) (eX (bE rfl (fX (fU A_32 Z_32 rfl (i:=2) rfl rfl) ?_) (fX (eU rfl) ?_))))))
  ·exact (jD (by rw [h0,Qi.div_zero]))
  ·exact (aN (by rw [if_pos h0]; rfl))
 ·have h0 : y ≠ Qi.zero := by simpa using hb
  have g1:=mK y.a y.a; have g2:=mK y.b y.b; have g3:=sH y.b
  have g4:=mJ (x:=y.a * y.a) (y:=y.b * y.b) (L:=M + M) zo zo
  obtain ⟨c,hc⟩:∃ c,c = Qi.mk' y.a (-y.b) 1:=⟨_,rfl⟩
  obtain ⟨z,hz⟩:∃ z,z = x * c:=⟨_,rfl⟩
  have l1:(dg 1).length ≤ 1:=by rw [Ov (by decide) (by decide)]; exact Nat.le_refl _
  haveI fc:aP c M:=hc ▸ ⟨Qi.Fit.mk (by decide) hy.fit.1 (by rw [Int.natAbs_neg]; exact hy.fit.2.1) (Qi.one_lt hMp)⟩
  haveI fz:aP z (L + M + 1):=hz ▸ fitMul
  have hza:=lJ fz.fit; have hzb:=lK fz.fit; have hzd:=lL fz.fit
  have hnp:=Qi.nrm_int_pos h0
  have hm:(((y.a * y.a + y.b * y.b).natAbs:Nat):Int) = y.a * y.a + y.b * y.b:=Int.natAbs_of_nonneg zo
  have hdp2:=Nat.mul_pos z.den_pos (show 0 < (y.a * y.a + y.b * y.b).natAbs by omega)
  have e1:=fT z.a y.den; have e2:=fT z.b y.den; have e3:=xA z.den (y.a * y.a + y.b * y.b).natAbs
  refine cU (cK (fZ (m:=12) (dp 3 rfl (eZ gA (Ht rfl) rfl) (dq 12 0 rfl (eJ A_30 Z_30 (Ht rfl) (i:=1) rfl rfl rfl) (dp 3 rfl (eZ gA (Ht rfl) rfl) (dq 14 2 rfl (eJ A_30 Z_30 (Ht rfl) (i:=1) rfl rfl rfl) (eE 13 1 15 3 rfl (cZ K_105 (qG zo zo) ⟨(Ht rfl),(Ht rfl),trivial⟩) (dp 3 rfl (eZ gF (Ht rfl) rfl) (dq 17 5 rfl (eJ A_30 Z_30 (Ht rfl) (i:=1) rfl rfl rfl) (dp 3 rfl (eZ gF (Ht rfl) rfl) (dq 19 7 rfl (eJ A_30 Z_30 (Ht rfl) (i:=1) rfl rfl rfl) ?_)))))))))))
  refine eE 18 6 20 8 rfl (cZ K_105 (qG zo zo) ⟨(Ht rfl),(Ht rfl),trivial⟩) (eE 16 4 21 9 rfl (cZ K_106 (tS zo zo) ⟨(Ht rfl),(Ht rfl),trivial⟩) (C.D_new (Ei:=[]) rfl rfl rfl bW (eW (Ts:=[Is (.bool false),Is (.slice none 0 0)]) O_30 rfl (fun V=>aW zd (aW zd (aG)))) (fV bB rfl (by kernel_rfl) (zF (zF (aJ (aJ (aJ (C.F_new (fun B6=>aV (gX Z_30 (Ht rfl) (Ht rfl) rfl (i:=3) rfl (aK rfl) rfl rfl ?_)))))))))))
  refine eX (cK (fZ (m:=10) (dp 2 rfl (eJ A_32 Z_32 (Ht rfl) (i:=0) rfl rfl rfl) (dp 3 rfl (eZ gA (Ht rfl) rfl) (dq 24 1 rfl (eJ A_30 Z_30 (Ht rfl) (i:=1) rfl rfl rfl) (dp 3 rfl (eZ gF (Ht rfl) rfl) (dq 26 3 rfl (eJ A_30 Z_30 (Ht rfl) (i:=1) rfl rfl rfl) (dq 27 4 rfl (cZ K_107 oD ⟨(Ht rfl),trivial⟩) (d0 rfl (aD.imp (dT (xs:=[_]) U_28 Z_24 O_24 (cW (cJ 1) cG) rfl rfl rfl) Ea) (C.D_step (Ei:=[(25,_),(28,_),(29,_)]) rfl rfl (bV (bG 2 rfl rfl) (bV (bG 5 rfl rfl) (bV (bG 6 rfl rfl) bW))) (dX rfl (aD.imp (cZ K_108 (tQ (by first | assumption | omega) zo zo zo) ⟨(Ht rfl),(Ht rfl),(Ht rfl),trivial⟩) (jD hc.symm))) ?_))))))))))
  refine eE 23 0 30 7 rfl (aD.imp (cZ K_29 (uM zo) ⟨(Ht rfl),(Ht rfl),trivial⟩) (jD hz.symm)) (C.D_new (Ei:=[]) rfl rfl rfl bW (eW (Ts:=[Is (.bool false),Is (.slice none 0 0),Is (.bool false),Is (.slice none 0 0),Is (.slice none 0 0)]) O_32 rfl (fun V=>aW zd (aW zd (aW zd (aW zd (aW zd (aG))))))) (fV bB rfl (by kernel_rfl) (zF (zF (aJ (C.F_new (fun B7=>aV ?_)))))))
  refine gX Z_32 (Ht rfl) (Ht rfl) rfl (i:=4) rfl (aK rfl) rfl rfl (eX (cK (fZ (m:=14) (dp 7 rfl (eZ gA (Ht rfl) rfl) (dq 32 0 rfl (eJ A_30 Z_30 (Ht rfl) (i:=4) rfl rfl rfl) (dp 3 rfl (eJ A_32 Z_32 (Ht rfl) (i:=1) rfl rfl rfl) (dq 34 2 rfl (cZ K_109 nE ⟨(Ht rfl),trivial⟩) (eE 33 1 35 3 rfl (cZ K_111 (jS zo zo) ⟨(Ht rfl),(Ht rfl),trivial⟩) (dp 7 rfl (eZ gF (Ht rfl) rfl) (dq 37 5 rfl (eJ A_30 Z_30 (Ht rfl) (i:=4) rfl rfl rfl) ?_))))))))))
  refine dp 3 rfl (eJ A_32 Z_32 (Ht rfl) (i:=1) rfl rfl rfl) (dq 39 7 rfl (cZ K_109 nE ⟨(Ht rfl),trivial⟩) (eE 38 6 40 8 rfl (cZ K_111 (jS zo zo) ⟨(Ht rfl),(Ht rfl),trivial⟩) (dp 7 rfl (eJ A_32 Z_32 (Ht rfl) (i:=4) rfl rfl rfl) (dq 42 10 rfl (cZ K_109 nE ⟨(Ht rfl),trivial⟩) (dp 6 rfl (eZ dP (Ht rfl) rfl) (dq 44 12 rfl (eY A_28 Z_28 (Ht rfl) (i:=3) rfl rfl) (fV bB rfl (by kernel_rfl) (zF (zF (zF (aJ (aJ (aV ?_)))))))))))))
  refine ro rfl (cZ Tryz.call110 (Co zo zo) ⟨(Ht rfl),(Ht rfl),trivial⟩) (ro rfl (cZ K_108 (tQ (by first | assumption | omega) zo zo zo) ⟨(Ht rfl),(Ht rfl),(Ht rfl),trivial⟩) (gX Z_32 (Ht rfl) (Ht rfl) rfl (i:=2) rfl (aK rfl) rfl rfl (ro rfl (cQ (cJ 0)) (eX (bE rfl (fX (fU A_32 Z_32 rfl (i:=2) rfl rfl) ?_) (fX (eU rfl) ?_))))))
  ·exact (jD (Qi.mk_divP x h0 (hc ▸ hz) hm))
  ·exact (aN (by rw [if_neg h0]; rfl))
theorem qE {a:Int} {d:Nat} (hd:0 < d) (ha:(dg a.natAbs).length ≤ 8796093022208) (hd2:(dg d).length ≤ 8796093022208):aT Tryz.prog 193 [fE a,aM d] (nQ (pT a d)):=by
 have hg:=wZ ha hd2
 have hg0:Nat.gcd a.natAbs d ≠ 0:=fun e=>by have:=Nat.gcd_eq_zero_iff.1 e; omega
 have h1:=Ar a.natAbs (Nat.gcd a.natAbs d); have h2:=Ar d (Nat.gcd a.natAbs d)
 rw [Vu a hd]
 obtain ⟨u,hu⟩:∃ u,u = a.natAbs / Nat.gcd a.natAbs d:=⟨_,rfl⟩
 obtain ⟨v,hv⟩:∃ v,v = d / Nat.gcd a.natAbs d:=⟨_,rfl⟩
 rw [← hu,← hv]
 rw [← hu] at h1
 rw [← hv] at h2
 have h3:=oF u; have h4:=oF v
 refine aT.intro Tryz.func193 rfl Tryz.ntmps193 rfl (fun cx=>(ts (rn rfl (fG (Ht rfl)) fun B2=>(ro rfl (cQ (aB.cS (l:=[]) rfl)) (eX (ts (ro rfl (eZ kQ (Ht rfl) rfl) (ro rfl (eY A_27 Z_27 (Ht rfl) (i:=0) rfl rfl) (rm rfl (ro rfl (cZ Tryz.call237 (Gd zo zo) ⟨(Ht rfl),(Ht rfl),trivial⟩) (ra rfl (eX (ts (ro rfl (eZ kQ (Ht rfl) rfl) (ro rfl (eY A_27 Z_27 (Ht rfl) (i:=0) rfl rfl) (rm rfl (ro rfl (cZ K_238 (tT zo zo zo) ⟨(Ht rfl),(Ht rfl),trivial⟩) ?_)))))))))))))))))
 refine rm rfl (ro rfl (aD.imp (dK (Ht rfl) rfl) (cB hu.symm)) (ro rfl (dK (Ht rfl) rfl) (ra rfl (ra rfl (eX (ts (rm rfl (rm rfl (ro rfl (cZ K_238 (tT zo zo zo) ⟨(Ht rfl),(Ht rfl),trivial⟩) (rm rfl (ro rfl (aD.imp (dK (Ht rfl) rfl) (cB hv.symm)) (ro rfl (dK (Ht rfl) rfl) (ra rfl (ra rfl (eX (ts (rm rfl (ro rfl (cZ Tryz.call244 (Ir zo) ⟨(Ht rfl),trivial⟩) (ra rfl (eX (cK (iA (fun (uu:Unit)=>True) (fun (uu:Unit)=>[(8,aM v),(10,nQ (if a < 0 then 45 :: rU u else rU u))]) (fun (uu:Unit)=>[box B2 38 [aC (decide (a < 0)),aM (a).natAbs]]) ?_ (fun uu _=>?_)))))))))))))))))))))))
 ·refine ts (ro rfl (eZ oI (Ht rfl) rfl) (ro rfl (eY A_4 Z_4 (Ht rfl) (i := 0) rfl rfl) (eX (dQ (Ht rfl) (fun hb => ?_) (fun hb => ?_)))))
  ·simp only [decide_eq_true_eq] at hb
   refine cY (rm rfl (ro rfl (iI (aB.cS (l:=[45]) rfl) (Ht rfl) (by first | omega | (simp; omega))) (ra rfl (eX (aO () trivial (aQ rfl (aZ rfl (hZ (by rw [if_pos hb]; rfl)) aX)) (cA.refl _))))))
  ·simp only [decide_eq_false_iff_not] at hb
   refine cU (aO () trivial (aQ rfl (aZ rfl (hZ (by rw [if_neg hb])) aX)) (cA.refl _))
 ·have h6 : (if a < 0 then 45 :: rU u else rU u).length ≤ (rU u).length + 1 := by split <;> simp
  refine cK (ts (rm rfl (ro rfl (dG U_27 (Ht rfl) aA) (ro rfl (cD (Ht rfl) (cJ 1)) (rm rfl (fQ rfl rfl (eK rfl rfl (Ht rfl) (fun h=>cX (Ht rfl))) (fQ rfl rfl (eK rfl rfl (Ht rfl) (fun h=>dZ U_27 Z_24 (fJ rfl h) (cJ 0) rfl (dY (aF (by first | omega | (simp at h; omega)))))) (fQ rfl rfl (eK rfl rfl (Ht rfl) (fun h=>dJ A_24 Z_24 (fJ rfl h))) (fQ rfl rfl (eK rfl rfl (Ht rfl) (fun h=>cD (fJ rfl h) (cJ 1))) (ro rfl (eS (Ht rfl) (fun h=>(fJ rfl h))) ?_))))))))))
  refine eX (dQ (Ht rfl) (fun hc=>?_) (fun hc=>?_))
  ·rw [Bh] at hc
   have hv1:v = 1:=by simpa using hc
   refine ts (rm rfl (ra rfl (eX (fW rfl (fX (eU rfl) ?_)))))
   exact (hZ (by rw [if_pos hv1,List.append_nil]))
  ·rw [Bh] at hc
   have hv1:v ≠ 1:=by simpa using hc
   refine cU (ts (rm rfl (ro rfl (iI (Ht rfl) (aB.cS (l:=[47]) rfl) (by simp only [List.length_cons,List.length_nil]; omega)) ?_)))
   refine rm rfl (ro rfl (cZ Tryz.call244 (Ir zo) ⟨(Ht rfl),trivial⟩) (ro rfl (iI (Ht rfl) (Ht rfl) (by simp only [List.length_append,List.length_cons,List.length_nil]; omega)) ?_))
   refine ra rfl (eX (fW rfl (fX (eU rfl) ?_)))
   exact (hZ (by rw [if_neg hv1,List.append_assoc]; rfl))
theorem Zh {x:Qi} {L:Nat} [hx:aP x L] (h:L ≤ 8796093022208):aT Tryz.prog 93 [QT x] (nQ (Mu x)):=by
 have hxa:=lJ hx.fit; have hxb:=lK hx.fit; have hxd:=lL hx.fit
 have hdp:=x.den_pos
 have l1:=tD x.a hdp; have l2:=tD x.b hdp
 refine aT.intro Tryz.func93 rfl Tryz.ntmps93 rfl (fun cx=>(ts (rn rfl (fG (Ht rfl)) fun B1=>(ro rfl (cQ (aB.cS (l:=[]) rfl)) (eX (cK (ts (ro rfl (eZ qL (Ht rfl) rfl) (ro rfl (eZ kQ (Ht rfl) rfl) (ro rfl (eY A_27 Z_27 (Ht rfl) (i:=0) rfl rfl) (ro rfl (dG U_27 (Ht rfl) aA) (ro rfl (cD (Ht rfl) (cJ 0)) (eX (dQ (Ht rfl) (fun hb=>?_) (fun hb=>?_)))))))))))))))
 ·simp only [decide_eq_true_eq] at hb
  have h0:x.b = 0:=by have:=aH.1 hb; omega
  refine ts (ro rfl (eZ qK (Ht rfl) rfl) (ro rfl (eJ A_38 Z_38 (Ht rfl) (i:=0) rfl rfl rfl) (ro rfl (eZ oJ (Ht rfl) rfl) (ro rfl (eY A_27 Z_27 (Ht rfl) (i:=0) rfl rfl) (ro rfl (cZ K_193 (qE (by assumption) zo zo) ⟨(Ht rfl),(Ht rfl),trivial⟩) ?_)))))
  refine ra rfl (eX (fW rfl (fX (eU rfl) ?_)))
  exact (hZ (by rw [Mu,if_pos h0]))
 ·simp only [decide_eq_false_iff_not] at hb
  have h0:x.b ≠ 0:=fun e=>hb (by rw [e]; exact aH.2 rfl)
  refine cU (cK (ts (ro rfl (eZ qK (Ht rfl) rfl) (ro rfl (eZ kQ (Ht rfl) rfl) (ro rfl (eY A_27 Z_27 (Ht rfl) (i:=0) rfl rfl) (ro rfl (dG U_27 (Ht rfl) aA) (ro rfl (cD (Ht rfl) (cJ 0)) (eX (dQ (Ht rfl) (fun hc=>?_) (fun hc=>?_))))))))))
  ·simp only [decide_eq_true_eq] at hc
   have h1:x.a = 0:=by have:=aH.1 hc; omega
   refine ts (ro rfl (eZ qL (Ht rfl) rfl) (ro rfl (eJ A_38 Z_38 (Ht rfl) (i:=0) rfl rfl rfl) (ro rfl (eZ oJ (Ht rfl) rfl) (ro rfl (eY A_27 Z_27 (Ht rfl) (i:=0) rfl rfl) (ro rfl (cZ K_193 (qE (by assumption) zo zo) ⟨(Ht rfl),(Ht rfl),trivial⟩) ?_)))))
   refine ro rfl (iI (Ht rfl) (aB.cS (l:=[105]) rfl) (by first | omega | (simp only [List.length_append,List.length_cons,List.length_nil]; omega))) (ra rfl (eX (fW rfl (fX (eU rfl) ?_))))
   exact (hZ (by rw [Mu,if_neg h0,if_pos h1]))
  ·simp only [decide_eq_false_iff_not] at hc
   have h1:x.a ≠ 0:=fun e=>hc (by rw [e]; exact aH.2 rfl)
   refine cU (cK (ts (ro rfl (eZ qL (Ht rfl) rfl) (ro rfl (eZ oI (Ht rfl) rfl) (ro rfl (eY A_4 Z_4 (Ht rfl) (i:=0) rfl rfl) (eX (dQ (Ht rfl) (fun hd=>?_) (fun hd=>?_))))))))
   ·simp only [decide_eq_true_eq] at hd
    refine cK (fZ (m:=9) (dp 1 rfl (eZ qK (Ht rfl) rfl) (dq 27 0 rfl (eJ A_38 Z_38 (Ht rfl) (i:=0) rfl rfl rfl) (dp 1 rfl (eZ oJ (Ht rfl) rfl) (dq 29 2 rfl (eY A_27 Z_27 (Ht rfl) (i:=0) rfl rfl) (eE 28 1 30 3 rfl (cZ K_193 (qE (by assumption) zo zo) ⟨(Ht rfl),(Ht rfl),trivial⟩) ?_))))))
    refine dp 1 rfl (eZ qL (Ht rfl) rfl) (dq 32 5 rfl (eJ A_38 Z_38 (Ht rfl) (i:=0) rfl rfl rfl) (dp 1 rfl (eZ oJ (Ht rfl) rfl) (dq 34 7 rfl (eY A_27 Z_27 (Ht rfl) (i:=0) rfl rfl) (fV bB rfl (by kernel_rfl) (zF (zF (aJ (aV (ro rfl (cZ K_193 (qE (by assumption) zo zo) ⟨(Ht rfl),(Ht rfl),trivial⟩) ?_)))))))))
    refine ro rfl (iI (Ht rfl) (Ht rfl) (by first | omega | (simp only [List.length_append,List.length_cons,List.length_nil]; omega))) (ro rfl (iI (Ht rfl) (aB.cS (l:=[105]) rfl) (by first | omega | (simp only [List.length_append,List.length_cons,List.length_nil]; omega))) (ra rfl (eX (fW rfl (fX (eU rfl) ?_)))))
    exact (hZ (by rw [Mu,if_neg h0,if_neg h1,if_pos hd,List.append_assoc]))
   ·simp only [decide_eq_false_iff_not] at hd
    refine cU (cK (fZ (m:=11) (dp 1 rfl (eZ qK (Ht rfl) rfl) (dq 39 0 rfl (eJ A_38 Z_38 (Ht rfl) (i:=0) rfl rfl rfl) (dp 1 rfl (eZ oJ (Ht rfl) rfl) (dq 41 2 rfl (eY A_27 Z_27 (Ht rfl) (i:=0) rfl rfl) (eE 40 1 42 3 rfl (cZ K_193 (qE (by assumption) zo zo) ⟨(Ht rfl),(Ht rfl),trivial⟩) ?_)))))))
    refine dq 43 4 rfl (iI (Ht rfl) (aB.cS (l:=[43]) rfl) (by first | omega | (simp only [List.length_append,List.length_cons,List.length_nil]; omega))) (dp 1 rfl (eZ qL (Ht rfl) rfl) (dq 45 6 rfl (eJ A_38 Z_38 (Ht rfl) (i:=0) rfl rfl rfl) (dp 1 rfl (eZ oJ (Ht rfl) rfl) (dq 47 8 rfl (eY A_27 Z_27 (Ht rfl) (i:=0) rfl rfl) (eE 46 7 48 9 rfl (cZ K_193 (qE (by assumption) zo zo) ⟨(Ht rfl),(Ht rfl),trivial⟩) ?_)))))
    refine fV bB rfl (by kernel_rfl) (zF (zF (aJ (aJ (aJ (aV (ro rfl (iI (Ht rfl) (Ht rfl) (by first | omega | (simp only [List.length_append,List.length_cons,List.length_nil]; omega))) (ro rfl (iI (Ht rfl) (aB.cS (l:=[105]) rfl) (by first | omega | (simp only [List.length_append,List.length_cons,List.length_nil]; omega))) (ra rfl (eX (fW rfl (fX (eU rfl) ?_))))))))))))
    exact (hZ (by rw [Mu,if_neg h0,if_neg h1,if_neg hd,List.append_assoc,List.append_assoc]; rfl))
theorem In {x y:Qi} {L M:Nat} [hx:aP x L] [hy:aP y M] (h:L ≤ 8796093022208) (h2:M ≤ 8796093022208):aT Tryz.prog 17 [aL x,QT y] (aC (decide (Mu x = Mu y))):=by
 refine aT.intro Tryz.func17 rfl Tryz.ntmps17 rfl (fun cx=>(ts (rn rfl (fG (Ht rfl)) fun B2=>(rn rfl (fG (Ht rfl)) fun B3=>(ro rfl (cQ cV) (eX (cK (fZ (m:=3) (dp 2 rfl (eJ A_32 Z_32 (Ht rfl) (i:=0) rfl rfl rfl) (dq 5 0 rfl (cZ Tryz.call92 (Oc zo) ⟨(Ht rfl),trivial⟩) (dp 3 rfl (eJ A_40 Z_40 (Ht rfl) (i:=1) rfl rfl rfl) (fV bB rfl (by kernel_rfl) (aJ (aJ (aJ (aV (ro rfl (cZ Tryz.call93 (Zh zo) ⟨(Ht rfl),trivial⟩) (ro rfl (Qh (Ht rfl) (Ht rfl)) ?_))))))))))))))))))
 refine ra rfl (eX ?_)
 exact fW rfl (eU rfl)
end
section
open Go Go.RowKit
theorem vM:Tryz.prog.info? 54 = some Tryz.t54:=by kernel_rfl
end
section
open Go Go.RowKit
theorem Ft {γ:Type} {l:List γ} {T:γ → Ty} {p:γ → Bool} [sh:∀ x,bT (T x) 5 true] (hl:l.length ≤ 1000000):aT Tryz.prog 284 [iE 5 (l.map T),wD Tryz.prog γ (fun x=>[T x]) (fun x=>aC (p x))] (aI .i64 (yO p l)):=by
 refine aT.intro Tryz.func284 rfl Tryz.ntmps284 rfl (fun cx=>(ts (ro rfl (cQ (cJ 0)) (eX (cK (ts (rm rfl (ro rfl (dG U_54 (Ht rfl) aA) (ro rfl (cX (cJ 0)) (eX (eG ?_)))))))))))
 refine dB (fun (k : Nat) => k ≤ l.length ∧ ∀ (i : Nat) (x : γ), i < k → l[i]? = some x → p x = false) (fun (k : Nat) => l.length - k) (fun (k : Nat) => [(0, iE 5 (l.map T)), (1, wD Tryz.prog γ (fun x => [T x]) (fun x => aC (p x))), (7, NT .i64 l.length), (8, NT .i64 k)]) (fun (k : Nat) => []) 0 ⟨Nat.zero_le _, fun i x h => by omega⟩
  (zS rfl) aY (fun k ⟨hk,hn⟩=>?_)
 refine ts (ro rfl (gZ (Ht rfl) (Ht rfl)) (eX (cK (dQ (Ht rfl) (fun hb=>?_) (fun hb=>?_)))))
 ·simp only [decide_eq_true_eq] at hb
  refine cU (cK (eG (ts (rm rfl (ra rfl (eX (ts (rm rfl (rm rfl (rm rfl (ro rfl (dZ U_54 Z_32 (Ht rfl) (Ht rfl) rfl (dY (oV hb))) (ro rfl (dJ A_32 Z_32 (Ht rfl)) (ro rfl (lQ (l[k]) (Ht rfl) ⟨(Ht rfl),trivial⟩) (eX (dQ (Ht rfl) (fun hc=>?_) (fun hc=>?_))))))))))))))))
  ·have hp : p l[k] = true := hc
   refine ts (rm rfl (ra rfl (eX (fW rfl (fX (eU rfl) ?_)))))
   exact (aN (Ax (oV hb) hp hn).symm)
  ·have hp : p l[k] = false := hc
   refine cU (T_blk (cY (ro rfl (dV (Ht rfl) (cJ 1) z6) (rm rfl (eX ?_)))))
   refine fY (k + 1) ⟨hb, fun i x h1 h2 => by
    by_cases e:i = k
    ·subst e; rw [oV hb] at h2; obtain rfl:=Option.some.inj h2; exact hp
    ·exact hn i x zo h2⟩ zo (zS rfl) aY
 ·simp only [decide_eq_false_iff_not] at hb
  refine gW rfl (ts (ro rfl (cQ cV) (eX (fW rfl (fX (eU rfl) ?_)))))
  exact (aN (uA (fun i x h=>hn i x (by have:=(List.getElem?_eq_some_iff.1 h).1; omega) h)).symm)
theorem yL {γ:Type} {l:List γ} {T:γ → Ty} {p:γ → Bool} [sh:∀ x,bT (T x) 5 true] (hl:l.length ≤ 1000000):aT Tryz.prog 245 [iE 5 (l.map T),wD Tryz.prog γ (fun x=>[T x]) (fun x=>aC (p x))] (aC (l.any p)):=by
 refine aT.intro Tryz.func245 rfl Tryz.ntmps245 rfl (fun cx=>(ts (ro rfl (cQ cV) (eX (ts (rm rfl (rm rfl (ro rfl (cZ Tryz.call284 (Ft zo) ⟨(Ht rfl),(Ht rfl),trivial⟩) (ro rfl (kD (Ht rfl) cV) (ra rfl (eX (fW rfl (fX (eU rfl) ?_)))))))))))))
 exact (cT (xI p l))
theorem Fu {γ:Type} {l:List γ} {T:γ → Ty} {p:γ → Bool} [sh:∀ x,bT (T x) 1 false] (hl:l.length ≤ 1000000):aT Tryz.prog 208 [iE 1 (l.map T),wD Tryz.prog γ (fun x=>[T x]) (fun x=>aC (p x))] (aI .i64 (yO p l)):=by
 refine aT.intro Tryz.func208 rfl Tryz.ntmps208 rfl (fun cx=>(ts (ro rfl (cQ (cJ 0)) (eX (cK (ts (rm rfl (ro rfl (dG U_78 (Ht rfl) aA) (ro rfl (cX (cJ 0)) (eX (eG ?_)))))))))))
 refine dB (fun (k : Nat) => k ≤ l.length ∧ ∀ (i : Nat) (x : γ), i < k → l[i]? = some x → p x = false) (fun (k : Nat) => l.length - k) (fun (k : Nat) => [(0, iE 1 (l.map T)), (1, wD Tryz.prog γ (fun x => [T x]) (fun x => aC (p x))), (7, NT .i64 l.length), (8, NT .i64 k)]) (fun (k : Nat) => []) 0 ⟨Nat.zero_le _, fun i x h => by omega⟩
  (zS rfl) aY (fun k ⟨hk,hn⟩=>?_)
 refine ts (ro rfl (gZ (Ht rfl) (Ht rfl)) (eX (cK (dQ (Ht rfl) (fun hb=>?_) (fun hb=>?_)))))
 ·simp only [decide_eq_true_eq] at hb
  refine cU (cK (eG (ts (rm rfl (ra rfl (eX (ts (rm rfl (rm rfl (rm rfl (ro rfl (dZ U_78 Z_54 (Ht rfl) (Ht rfl) rfl (dY (oV hb))) (ro rfl (dJ A_54 Z_54 (Ht rfl)) (ro rfl (lQ (l[k]) (Ht rfl) ⟨(Ht rfl),trivial⟩) (eX (dQ (Ht rfl) (fun hc=>?_) (fun hc=>?_))))))))))))))))
  ·have hp : p l[k] = true := hc
   refine ts (rm rfl (ra rfl (eX (fW rfl (fX (eU rfl) ?_)))))
   exact (aN (Ax (oV hb) hp hn).symm)
  ·have hp : p l[k] = false := hc
   refine cU (T_blk (cY (ro rfl (dV (Ht rfl) (cJ 1) z6) (rm rfl (eX ?_)))))
   refine fY (k + 1) ⟨hb, fun i x h1 h2 => by
    by_cases e:i = k
    ·subst e; rw [oV hb] at h2; obtain rfl:=Option.some.inj h2; exact hp
    ·exact hn i x zo h2⟩ zo (zS rfl) aY
 ·simp only [decide_eq_false_iff_not] at hb
  refine gW rfl (ts (ro rfl (cQ cV) (eX (fW rfl (fX (eU rfl) ?_)))))
  exact (aN (uA (fun i x h=>hn i x (by have:=(List.getElem?_eq_some_iff.1 h).1; omega) h)).symm)
theorem yM {γ:Type} {l:List γ} {T:γ → Ty} {p:γ → Bool} [sh:∀ x,bT (T x) 1 false] (hl:l.length ≤ 1000000):aT Tryz.prog 118 [iE 1 (l.map T),wD Tryz.prog γ (fun x=>[T x]) (fun x=>aC (p x))] (aC (l.any p)):=by
 refine aT.intro Tryz.func118 rfl Tryz.ntmps118 rfl (fun cx=>(ts (ro rfl (cQ cV) (eX (ts (rm rfl (rm rfl (ro rfl (cZ Tryz.call208 (Fu zo) ⟨(Ht rfl),(Ht rfl),trivial⟩) (ro rfl (kD (Ht rfl) cV) (ra rfl (eX (fW rfl (fX (eU rfl) ?_)))))))))))))
 exact (cT (xI p l))
theorem wQ {x:Qi} {L:Nat} [hx:aP x L] (h:L ≤ 8796093022208):aT Tryz.prog 136 [aL x] (aC (gI x)):=by
 haveI hz:aP Qi.zero 1:=aP.zero (Nat.le_refl 1)
 refine aT.intro Tryz.func136 rfl Tryz.ntmps136 rfl (fun cx=>(ts (rn rfl (fG (Ht rfl)) fun B1=>(ro rfl (cQ cV) (eX (ts (ro rfl (eJ A_32 Z_32 (Ht rfl) (i:=0) rfl rfl rfl) (ro rfl (cZ Tryz.call35 Fw ⟨(Ht rfl),trivial⟩) (rm rfl (fQ rfl rfl (eK rfl rfl (Ht rfl) (fun h=>eJ A_32 Z_32 (Ht rfl) (i:=0) rfl rfl rfl)) (fQ rfl rfl (eK rfl rfl (Ht rfl) (fun h=>aD.imp (vE ) pR)) (fQ rfl rfl (eK rfl rfl (Ht rfl) (fun h=>cZ Tryz.call30 (If zo) ⟨(fJ rfl h),(fJ rfl h),trivial⟩)) ?_))))))))))))
 refine fQ rfl rfl (eK rfl rfl (Ht rfl) (fun h=>Gm (fJ rfl h) cV)) (ro rfl (eS (Ht rfl) (fun h=>(fJ rfl h))) (ra rfl (eX (fW rfl (fX (eU rfl) ?_)))))
 exact (cT (a0n x))
theorem Al {x:Qi} {L:Nat} [hx:aP x L] (h:L ≤ 8796093022208):aT Tryz.prog 246 [aL x] (aC (!gI x)):=by
 refine aT.intro Tryz.func246 rfl Tryz.ntmps246 rfl (fun cx=>(ts (rn rfl (fG (Ht rfl)) fun B1=>(ro rfl (cQ cV) (eX (ts (ro rfl (eJ A_32 Z_32 (Ht rfl) (i:=0) rfl rfl rfl) (ro rfl (cZ Tryz.call136 (wQ zo) ⟨(Ht rfl),trivial⟩) (ro rfl (eC (Ht rfl)) (ra rfl (eX ?_)))))))))))
 exact fW rfl (eU rfl)
theorem Cq {z:List Qi} {L:Nat} (hz:dA z L) (h:L ≤ 8796093022208) (hl:z.length ≤ 1000):aT Tryz.prog 194 [bP z] (aI .i64 (if z.all gI then 0 else 1)):=by
 obtain ⟨l,hzl⟩:∃ l:List {x:Qi // aP x L},z = l.map Subtype.val:=⟨z.attach.map fun x=>⟨x.1,hz x.1 x.2⟩,by simp⟩
 subst hzl
 have hll:l.length ≤ 1000:=by simpa using hl
 refine aT.intro Tryz.func194 rfl Tryz.ntmps194 rfl (fun cx=>(rT (E':=[(0,_)]) (aZ rfl (lB (Us:=l.map fun x=>aL x.1) (by simp [List.map_map,Function.comp_def])) aX) ?_))
 refine ts (ro rfl (cQ (cJ 0)) (eX (cK (ts (rm rfl (ro rfl (cZ Tryz.call245 (yL (l:=l) (T:=fun x=>aL x.1) (p:=fun x=>!gI x.1) zo) ⟨(Ht rfl),(aB.fn Tryz.call246 (γ:={x:Qi // aP x L}) (Ts:=fun x=>[aL x.1]) (U:=fun x=>aC (!gI x.1)) (fun x=>haveI:=x.2; Al h)),trivial⟩) (eX (dQ (Ht rfl) (fun hb=>?_) (fun hb=>?_)))))))))
 ·have hn : ¬ (l.map Subtype.val).all gI = true := by simp at hb ⊢; exact hb
  refine ts (ro rfl (cQ (cJ 1)) (eX (fW rfl (fX (eU rfl) ?_))))
  exact (aN (by rw [if_neg hn]; rfl))
 ·have hn : (l.map Subtype.val).all gI = true := by simp at hb ⊢; exact hb
  refine cU (ts (ro rfl (cQ (cJ 0)) (eX (fW rfl (fX (eU rfl) ?_)))))
  exact (aN (by rw [if_pos hn]; rfl))
theorem Ci {l:List Qi} (hl:l.length ≤ 1000):iC Tryz.prog 120 [bP l] [] (Value) (fun v=>Is v) (fun v=>[bH 32 5 v (l.map aL)]) (fun _=>True):=by
 refine iC.intro Tryz.func120 rfl Tryz.ntmps120 rfl (fun cx Z=>(ts (ro rfl (cQ cV) (eX (cK (ts (rm rfl (ro rfl (Ec U_54 (Ht rfl)) (eX (Hu (Ht rfl) (fun hb=>?_) (fun hb=>?_)))))))))))
 ·have hT : l.map aL = [] := hb rfl
  refine ts (ro rfl (cQ cV) (eX (wK 32 5 ?_)))
  exact kX (.slice none 0 0) trivial [0,1] ⟨⟨_,rfl,fun _ _ _ h=>h⟩,⟨_,rfl,(bN hT.symm)⟩,trivial⟩ (by decide) (yR rfl (eU rfl))
 ·refine cU (ts (rn rfl (uQ U_54 Z_32 O_32) fun B5 => (rm rfl (yT (inf := Tryz.t32) oP lX rfl rfl rfl (Ht rfl) (Ht rfl) (i := 1) rfl (fun T hT => by obtain ⟨x, _, rfl⟩ := List.mem_map.1 hT; exact El.ag rfl) (by show _ * 88 ≤ _; simp only [List.length_map, List.length_nil]; omega) (by simp only [List.length_map, List.length_nil]; omega) rfl (fun v2 => ?_)))))
  refine ra rfl (eX ?_)
  exact kX v2 trivial [0,1] ⟨⟨_,rfl,fun _ _ _ h=>h⟩,⟨_,rfl,fun _ _ _ h=>h⟩,trivial⟩ (by decide) (yR rfl (eU rfl))
theorem Ie {l:List Qi} (hl:l.length ≤ 1000):aT Tryz.prog 120 [bP l] (bP l):=(Ci hl).fun fun v _=>iZ
theorem Ik {n:Nat} {f:Nat → Nat → Qi} (hn:n ≤ 1000):iC Tryz.prog 144 [NT .i64 n,wD Tryz.prog (Fin n × Fin n) (fun x=>[NT .i64 x.1.1,NT .i64 x.2.1]) (fun x=>aL (f x.1.1 x.2.1))] [] (Nat) (fun B=>Is (.slice (some ⟨B,0,none⟩) n n)) (fun B=>[qY B 54 32 5 (eI aL (tab n fun i=>tab n (f i)))]) (fun _=>True):=by
 refine iC.intro Tryz.func144 rfl Tryz.ntmps144 rfl (fun cx Z=>(ts (ro rfl (cQ cV) (eX (ts (rm rfl (rn rfl (gB (T:=Is (.slice none 0 0)) (i:=Tryz.t54) Tryz.underlying78 vM rfl rfl (Ht rfl) rfl (fun _=>rfl) trivial (by show 24 * _ ≤ _; omega) zo) fun B9=>(ra rfl (eX (cK (ts (rm rfl (ro rfl (jJ U_78 (Ht rfl)) (ro rfl (cX (cJ 0)) (eX (eG (oZ 1 rfl (Bc (e:=32) (s:=5)) ?_)))))))))))))))))
 refine gC (fun (k : Nat) (m : List (List Qi)) => lI (fun i => tab n (f i)) n m k) (fun (k : Nat) (m : List (List Qi)) => n - k) (fun (k : Nat) (m : List (List Qi)) => [(0, NT .i64 n), (1, wD Tryz.prog (Fin n × Fin n) (fun x => [NT .i64 x.1.1, NT .i64 x.2.1]) (fun x => aL (f x.1.1 x.2.1))), (5, Is (.slice (some ⟨B9, 0, none⟩) n n)), (11, NT .i64 n), (12, NT .i64 k)]) (fun (k : Nat) (m : List (List Qi)) => [Z, qY B9 54 32 5 (eI aL m)]) 0 (List.replicate n []) (lI.start _ _ _)
  (zS rfl) (aU (fun _ _ _ h=>h) (aU (gH (xQ aL n)) aY)) (fun k m hS=>?_)
 refine ts (ro rfl (gZ (Ht rfl) (Ht rfl)) (eX (cK (dQ (Ht rfl) (fun hk=>?_) (fun hk=>?_)))))
 ·simp only [decide_eq_true_eq] at hk
  have hlen:=hS.len
  refine sP 1 (k) rfl (lO (m:=m) (i:=k) zo) (fun v=>(cU (cK (eG (ts (rm rfl (ra rfl (eX (ts (rm rfl (rm rfl (rm rfl (rn rfl (iB (T:=aL Qi.zero) (i:=Tryz.t32) oP lX rfl rfl (Ht rfl) rfl kC (El.ag rfl) (by show 88 * _ ≤ _; omega) zo) fun B18=>(ro rfl (gQ U_78 Z_54 (Ht rfl) (Ht rfl) rfl zo (by rw [Nat.mul_one,Nat.zero_add])) ?_))))))))))))))
  refine Ca Z_54 (Ht rfl) (Ht rfl) (by simp; omega) (j:=1) (l:=3) rfl rfl rfl ?_
  refine eX (cK (eR [0,1,3] rfl (by decide) (cY (rm rfl (rm rfl (ro rfl (gQ U_78 Z_54 (Ht rfl) (Ht rfl) rfl zo (by rw [Nat.mul_one,Nat.zero_add])) ?_))))))
  refine ro rfl (oM A_54 Z_54 (Ht rfl) (j:=1) rfl) (ro rfl (qR U_54 (Ht rfl) (i:=2) rfl (show ((List.replicate n (aL Qi.zero)).length:Int) = ((n:Nat):Int) by simp)) (ro rfl (cX (cJ 0)) (eX (eG ?_))))
  refine gC (fun (j : Nat) (out : List Qi) => lI (f k) n out j) (fun (j : Nat) (out : List Qi) => n - j) (fun (j : Nat) (out : List Qi) => [(0, NT .i64 n), (1, wD Tryz.prog (Fin n × Fin n) (fun x => [NT .i64 x.1.1, NT .i64 x.2.1]) (fun x => aL (f x.1.1 x.2.1))), (5, Is (.slice (some ⟨B9, 0, none⟩) n n)), (6, NT .i64 k), (11, NT .i64 n), (12, NT .i64 k), (24, NT .i64 n), (25, NT .i64 j)]) (fun (j : Nat) (out : List Qi) => [Z, Uq B9 54 32 5 (eI aL m) k B18, bH 32 5 B18 (out.map aL)]) 0 (List.replicate n Qi.zero) (lI.start _ _ _)
   (zS rfl) (aU (fun _ _ _ h=>h) (aU (fun _ _ _ h=>h) (aU (bN (pV aL _ _)) aY))) (fun j out hT=>?_)
  refine ts (ro rfl (gZ (Ht rfl) (Ht rfl)) (eX (cK (dQ (Ht rfl) (fun hj=>?_) (fun hj=>?_)))))
  ·simp only [decide_eq_true_eq] at hj
   have hlen2:=hT.len
   refine cU (cK (eG (ts (rm rfl (ra rfl (eX (fZ (m:=9) (dp 5 rfl (cX (Ht rfl)) (dp 6 rfl (cX (Ht rfl)) (eE 28 0 29 1 rfl (gQ U_78 Z_54 (Ht rfl) (Ht rfl) rfl zo (by rw [Nat.mul_one,Nat.zero_add])) ?_))))))))))
   refine dq 30 2 rfl (oM A_54 Z_54 (Ht rfl) (j:=1) rfl) (dp 7 rfl (cX (Ht rfl)) (dp 1 rfl (cX (Ht rfl)) (dp 6 rfl (cX (Ht rfl)) (dp 7 rfl (cX (Ht rfl)) (C.D_step (Ei:=[(33,_),(34,_),(35,_)]) rfl rfl (bV (bG 5 rfl rfl) (bV (bG 6 rfl rfl) (bV (bG 7 rfl rfl) bW))) (dX rfl (lQ ((⟨k,hk⟩,⟨j,hj⟩):Fin n × Fin n) (Ht rfl) ⟨(Ht rfl),(Ht rfl),trivial⟩)) (fV bB rfl (by kernel_rfl) (zF (zF (aJ (aV ?_))))))))))
   refine ro rfl (eO U_54 Z_32 (Ht rfl) (Ht rfl) rfl (i:=2) rfl (by first | omega | (simp; omega)) rfl) (mN Z_32 (Ht rfl) (Ht rfl) (El.ag rfl) (i:=2) rfl rfl (by first | omega | (simp; omega)) rfl (eX (T_blk (cY (ro rfl (dV (Ht rfl) (cJ 1) z6) (rm rfl (eX (fY (j + 1,_) (hT.next hj rfl) (by dsimp only; omega) (zS rfl) (aU (fun _ _ _ h=>h) (aU (fun _ _ _ h=>h) (aU (bN (kV aL _ _ _)) aY)))))))))))
  ·simp only [decide_eq_false_iff_not] at hj
   obtain rfl:j = n:=Nat.le_antisymm hT.kle zo
   have hfin:=hT.fin
   refine gW rfl (T_blk (mG 1 2 rfl rfl (by decide) (by simp; omega) ?_))
   refine cY (ro rfl (dV (Ht rfl) (cJ 1) z6) (rm rfl (eX (eR [0,1] rfl (by decide) (fY (k + 1,_) (hS.next hk hfin) (by dsimp only; omega) (zS rfl) (aU (fun _ _ _ h=>h) (aU (gH (mY aL _ _ _)) aY)))))))
 ·simp only [decide_eq_false_iff_not] at hk
  obtain rfl:k = n:=Nat.le_antisymm hS.kle zo
  have hfin:=hS.fin
  refine gW rfl (ts (rm rfl (ra rfl (eX ?_))))
  exact kX B9 trivial [0,1] ⟨⟨_,rfl,fun _ _ _ h=>h⟩,⟨_,rfl,(gH (by rw [hfin]))⟩,trivial⟩ (by decide) (yR rfl (eU rfl))
theorem Ga {n:Nat} {f:Nat → Nat → Qi} (hn:n ≤ 1000):aT Tryz.prog 144 [NT .i64 n,wD Tryz.prog (Fin n × Fin n) (fun x=>[NT .i64 x.1.1,NT .i64 x.2.1]) (fun x=>aL (f x.1.1 x.2.1))] (fC (tab n fun i=>tab n (f i))):=(Ik hn).fun fun B _ v S V h1 h2=>lB (by simp [eI,List.map_map,Function.comp_def]) v V (Av (by simp [eI,bF]) (Nat.le_refl _) v S V h1 h2)
end
section
open Go Go.RowKit
theorem lW {n : Nat} {E : bD} {H : Hp} {d : Option Tmp} {t : TypeId} {pos : String} {af : Array Edge} {g : Option (Nat × Bool)}  :
  aD Tryz.prog n E H ⟨d,.build 80 #[],t,pos,af,g⟩ (eB [Is (.slice none 0 0),Is (.slice none 0 0)]) :=
 fO (parts := []) fun a V w hs => by
  refine ⟨.agg #[(.slice none 0 0),(.slice none 0 0)],?_,[(.slice none 0 0),(.slice none 0 0)],rfl,aW (⟨rfl,trivial⟩) (aW (⟨rfl,trivial⟩) (aG))⟩
  simp [Instr.build,Instr.fill,Sem.run_bind,Result.andThen,dN,O_80,U_80,Z_54,Z_78]
theorem sD {n : Nat} {E : bD} {H : Hp} {d : Option Tmp} {t : TypeId} {pos : String} {af : Array Edge} {g : Option (Nat × Bool)} {x0 x1 : Operand} {T0 T1 : Ty} [s0 : bT T0 1 false] (h0 : aB E x0 T0) [s1 : bT T1 1 false] (h1 : aB E x1 T1) :
  aD Tryz.prog n E H ⟨d,.build 80 #[(0,x0),(1,x1)],t,pos,af,g⟩ (eB [T0,T1]) :=
 fO (parts := [(0, x0), (1, x1)]) fun a V w hs => by
  have p0:=h0 n V a hs
  generalize e0:a.eval x0 = v0 at p0
  have q0:=(s0.ok v0 V p0).2.2 rfl
  have p1:=h1 n V a hs
  generalize e1:a.eval x1 = v1 at p1
  have q1:=(s1.ok v1 V p1).2.2 rfl
  refine ⟨.agg #[v0,v1],?_,[v0,v1],rfl,aW (⟨p0,q0⟩) (aW (⟨p1,q1⟩) (aG))⟩
  simp [e0,e1,Instr.build,Instr.fill,Sem.run_bind,Result.andThen,dN,q0.cells,q1.cells,O_80,U_80,Z_54,Z_78]
theorem iH (a:Addr) (w:World):(Instr.fieldAt 80 (.pointer (some a)) 0).run Tryz.prog w = .ok (.pointer (some (a.add 0))) w:=by
 simp [Instr.fieldAt,Instr.sureAddr,fieldPlace,Sem.run_bind,Result.andThen,U_80,Z_54]
end
section
open Go Go.RowKit
theorem Yz {s:List (List Qi)} {n i j:Nat} (hs:iL s n n) (hi:i < n) (hj:j < n):aT Tryz.prog 195 [NT .i64 i,NT .i64 j,PT (fC s)] (aL (gm s i j)):=by
 have h1:=hs.1; have h2:=hs.row hi
 refine aT.intro Tryz.func195 rfl Tryz.ntmps195 rfl (fun cx=>(ts (rn rfl (eW (Ts:=[Is (.bool false),Is (.slice none 0 0),Is (.bool false),Is (.slice none 0 0),Is (.slice none 0 0)]) O_32 rfl (fun V=>aW zd (aW zd (aW zd (aW zd (aW zd (aG))))))) fun B5=>(eX (ts (ro rfl (dJ A_78 Z_78 (Ht rfl)) (rm rfl (ro rfl (dZ U_78 Z_54 (Ht rfl) (Ht rfl) rfl (dY (dU (d:=[]) zo))) (ro rfl (dJ A_54 Z_54 (Ht rfl)) ?_)))))))))
 refine rm rfl (ro rfl (dZ U_54 Z_32 (Ht rfl) (Ht rfl) rfl (dY (dU (d:=Qi.zero) zo))) (ro rfl (dJ A_32 Z_32 (Ht rfl)) (gX Z_32 (Ht rfl) (Ht rfl) rfl (i:=0) rfl (aK rfl) rfl rfl (eX ?_))))
 exact fW rfl (fU A_32 Z_32 rfl (i:=0) rfl rfl)
theorem Cp {z:List Qi} {s:List (List Qi)} {L:Nat} (hz:dA z L) (h:L ≤ 8796093022208) (hl:z.length ≤ 1000) (hl2:s.length ≤ 1000):aT Tryz.prog 98 [bP z,fC s] (fB [eL (kP (cC z s) z) (kP (cC z s) s),aI .i64 (cC z s)]):=by
 refine aT.intro Tryz.func98 rfl Tryz.ntmps98 rfl (fun cx=>(ts (rn rfl (nY (Ht rfl)) fun B3=>(rn rfl (eW (Ts:=[Is (.slice none 0 0),Is (.slice none 0 0)]) O_80 rfl (fun V=>aW zd (aW zd (aG)))) fun B4=>(ro rfl (cQ (cJ 0)) (eX (cK (cK (gV (i:=0) (tt:=3) rfl rfl jT (cY (rm rfl (ro rfl (dG U_54 (Ht rfl) aA) (ro rfl (gZ (Ht rfl) (cJ 1)) (rm rfl (fQ rfl rfl (eK rfl rfl (Ht rfl) (fun h=>cX (Ht rfl))) (fQ rfl rfl (eK rfl rfl (Ht rfl) (fun h=>dG U_54 (fJ rfl h) aA)) ?_))))))))))))))))
 refine fQ rfl rfl (eK rfl rfl (Ht rfl) (fun h=>dE (fJ rfl h) (cJ 8))) (ro rfl (iF (Ht rfl) (fun h=>(fJ rfl h))) (rm rfl (fQ rfl rfl (eK rfl rfl (Ht rfl) (fun h=>dJ A_78 Z_78 (Ht rfl))) (fQ rfl rfl (eK rfl rfl (Ht rfl) (fun h=>dG U_78 (fJ rfl h) aA)) (fQ rfl rfl (eK rfl rfl (Ht rfl) (fun h=>cX (Ht rfl))) (fQ rfl rfl (eK rfl rfl (Ht rfl) (fun h=>dG U_54 (fJ rfl h) aA)) (fQ rfl rfl (eK rfl rfl (Ht rfl) (fun h=>fL (fJ rfl h) (fJ rfl h))) ?_)))))))
 refine ro rfl (iF (Ht rfl) (fun h=>(fJ rfl h))) (eX (dQ (Ht rfl) (fun hb=>?_) (fun hb=>?_)))
 ·have he := Dy hb
  refine ts (ro rfl (aD.imp (lW ) lE) (gX Z_80 (Ht rfl) (Ht rfl) rfl (i:=1) rfl (aK rfl) rfl rfl (ro rfl (cQ (cJ 4)) (eX (bE rfl (fX (fU A_80 Z_80 rfl (i:=1) rfl rfl) ?_) (fX (eU rfl) ?_))))))
  ·exact (Bf he (by decide))
  ·exact (aN he.symm)
 ·refine cU (cK (ts (ro rfl (dJ A_78 Z_78 (Ht rfl)) (ro rfl (dG U_78 (Ht rfl) aA) (ro rfl (cX (cJ 0)) (eX (eG ?_)))))))
  refine dB (fun (k : Nat) => k ≤ s.length ∧ ∀ (i : Nat) (r : List Qi), i < k → s[i]? = some r → r.length = z.length) (fun (k : Nat) => s.length - k) (fun (k : Nat) => [(0, bP z), (3, PT (fC s)), (4, cH B4 0), (25, fC s), (26, NT .i64 s.length), (27, NT .i64 k)]) (fun (k : Nat) => [SA.emp, box B4 80 [Is (.slice none 0 0), Is (.slice none 0 0)]]) 0 ⟨Nat.zero_le _, fun i r h => by omega⟩
   (zS rfl) (cA.refl _) (fun k ⟨hk,hr⟩=>?_)
  refine ts (ro rfl (gZ (Ht rfl) (Ht rfl)) (eX (cK (dQ (Ht rfl) (fun hc=>?_) (fun hc=>?_)))))
  ·simp only [decide_eq_true_eq] at hc
   refine cU (cK (eG (ts (ro rfl (dZ U_78 Z_54 (Ht rfl) (Ht rfl) rfl (dY (oV hc))) (ro rfl (dJ A_54 Z_54 (Ht rfl)) (ra rfl (eX (ts (rm rfl (ro rfl (dG U_54 (Ht rfl) aA) (rm rfl (ro rfl (dG U_54 (Ht rfl) aA) (ro rfl (fL (Ht rfl) (Ht rfl)) (eX (dQ (Ht rfl) (fun hd=>?_) (fun hd=>?_))))))))))))))))
   ·have hd2 : ¬ (s[k]).length = z.length := by simpa using hd
    have he:=Gj (oV hc) hd2
    refine ts (ro rfl (aD.imp (lW ) lE) (gX Z_80 (Ht rfl) (Ht rfl) rfl (i:=1) rfl (aK rfl) rfl rfl (ro rfl (cQ (cJ 4)) (eX (bE rfl (fX (fU A_80 Z_80 rfl (i:=1) rfl rfl) ?_) (fX (eU rfl) ?_))))))
    ·exact (Bf he (by decide))
    ·exact (aN he.symm)
   ·have hd2 : (s[k]).length = z.length := by simpa using hd
    refine cU (T_blk (cY (ro rfl (dV (Ht rfl) (cJ 1) z6) (rm rfl (eX ?_)))))
    refine fY (k + 1) ⟨hc, fun i r h1 h2 => by
      by_cases e:i = k
      ·subst e; rw [oV hc] at h2; obtain rfl:=Option.some.inj h2; exact hd2
      ·exact hr i r zo h2⟩ zo (zS rfl) (cA.refl _)
  ·simp only [decide_eq_false_iff_not] at hc
   have hall:∀ (i:Nat) (r:List Qi),s[i]? = some r → r.length = z.length:=fun i r h=>hr i r (by have:=(List.getElem?_eq_some_iff.1 h).1; omega) h
   have hpos:=Gi hb hall
   refine gW rfl (cK (ts (rm rfl (ro rfl (cZ Tryz.call194 (Cq hz h zo) ⟨(Ht rfl),trivial⟩) (ra rfl (eX (ts (rm rfl (ro rfl (kT (Ht rfl) cV) (eX (dQ (Ht rfl) (fun hd=>?_) (fun hd=>?_))))))))))))
   ·have hd2 : ¬ (if z.all gI = true then (0 : Int) else 1) = 0 := by simpa using hd
    refine ts (ro rfl (aD.imp (lW ) lE) (rm rfl (gX Z_80 (Ht rfl) (Ht rfl) rfl (i:=1) rfl (aK rfl) rfl rfl (ra rfl (eX (bE rfl (fX (fU A_80 Z_80 rfl (i:=1) rfl rfl) ?_) (fX (eU rfl) ?_)))))))
    ·exact (Bf hpos hd2)
    ·exact (aN hpos.symm)
   ·have hd2 : (if z.all gI = true then (0 : Int) else 1) = 0 := by simpa using hd
    have he:=hpos.trans hd2
    obtain ⟨h1,h2,hsh,_⟩:=qN he
    refine cU (ts (rm rfl (ro rfl (cZ Tryz.call120 (Ie zo) ⟨(Ht rfl),trivial⟩) (rm rfl (ro rfl (dG U_54 (Ht rfl) aA) (ro rfl (qP (γ:=Fin z.length × Fin z.length) (Ts:=fun x=>[NT .i64 x.1.1,NT .i64 x.2.1]) (U:=fun x=>aL (gm s x.1.1 x.2.1)) Tryz.call195 (fun x=>Yz hsh x.1.2 x.2.2) ⟨(Ht rfl),trivial⟩) (ro rfl (cZ Tryz.call144 (eQ (Ga (n:=z.length) (f:=gm s) zo) (lB (by rw [← Jo hsh]))) ⟨(Ht rfl),(Ht rfl),trivial⟩) ?_)))))))
    refine ro rfl (sD (Ht rfl) (Ht rfl)) (gX Z_80 (Ht rfl) (Ht rfl) rfl (i:=1) rfl (aK rfl) rfl rfl (ro rfl (cQ (cJ 0)) (eX (bE rfl (fX (fU A_80 Z_80 rfl (i:=1) rfl rfl) ?_) (fX (eU rfl) ?_)))))
    ·exact (Qb he)
    ·exact (aN he.symm)
theorem Ii {z:List Qi} {s:List (List Qi)}:aT Tryz.prog 117 [eL z s] (NT .i64 z.length):=by
 refine aT.intro Tryz.func117 rfl Tryz.ntmps117 rfl (fun cx=>(ts (rn rfl (fG (Ht rfl)) fun B1=>(ro rfl (cQ (cJ 0)) (eX (ts (ro rfl (eZ iH (Ht rfl) rfl) (ro rfl (eY A_54 Z_54 (Ht rfl) (i:=0) rfl rfl) (ro rfl (dG U_54 (Ht rfl) aA) (ra rfl (eX ?_)))))))))))
 exact fW rfl (eU rfl)
theorem Il {z:List Qi} {s:List (List Qi)} {i:Int}:aT Tryz.prog 209 [eL z s,aI .i64 i] (aC (decide (1 ≤ i ∧ i ≤ z.length))):=by
 refine aT.intro Tryz.func209 rfl Tryz.ntmps209 rfl (fun cx=>(ts (rn rfl (fG (Ht rfl)) fun B2=>(ro rfl (cQ cV) (eX (ts (rm rfl (ro rfl (kD (Ht rfl) cV) (rm rfl (fQ rfl rfl (eK rfl rfl (Ht rfl) (fun h=>cX (Ht rfl))) (fQ rfl rfl (eK rfl rfl (Ht rfl) (fun h=>eZ iH (Ht rfl) rfl)) (fQ rfl rfl (eK rfl rfl (Ht rfl) (fun h=>eY A_54 Z_54 (fJ rfl h) (i:=0) rfl rfl)) (fQ rfl rfl (eK rfl rfl (Ht rfl) (fun h=>dG U_54 (fJ rfl h) aA)) (fQ rfl rfl (eK rfl rfl (Ht rfl) (fun h=>Bj (fJ rfl h) (fJ rfl h))) ?_))))))))))))))
 refine ro rfl (eS (Ht rfl) (fun h=>(fJ rfl h))) (ra rfl (eX (fW rfl (fX (eU rfl) ?_))))
 exact (cT (by rw [Bool.eq_iff_iff]; simp))
end
section
open Go Go.RowKit
theorem iY (a:Addr) (w:World):(Instr.fieldAt 80 (.pointer (some a)) 1).run Tryz.prog w = .ok (.pointer (some (a.add 1))) w:=by
 simp [Instr.fieldAt,Instr.sureAddr,fieldPlace,Sem.run_bind,Result.andThen,U_80,Z_78]
end
section
open Go Go.RowKit
theorem a19 {z:List Qi} {s:List (List Qi)} {i:Int} (hl:z.length ≤ 1000):aT Tryz.prog 124 [eL z s,aI .i64 i] (fB [aL (pkv z i),aI .i64 (if 1 ≤ i ∧ i ≤ z.length then 0 else 1)]):=by
 refine aT.intro Tryz.func124 rfl Tryz.ntmps124 rfl (fun cx=>(ts (rn rfl (fG (Ht rfl)) fun B2=>(rn rfl (eW (Ts:=[Is (.bool false),Is (.slice none 0 0),Is (.bool false),Is (.slice none 0 0),Is (.slice none 0 0)]) O_32 rfl (fun V=>aW zd (aW zd (aW zd (aW zd (aW zd (aG))))))) fun B4=>(ro rfl (cQ (cJ 0)) (eX (cK (ts (ro rfl (eJ A_80 Z_80 (Ht rfl) (i:=0) rfl rfl rfl) (rm rfl (ro rfl (cZ Tryz.call209 Il ⟨(Ht rfl),(Ht rfl),trivial⟩) ?_)))))))))))
 refine ro rfl (eC (Ht rfl)) (eX (dQ (Ht rfl) (fun hb=>?_) (fun hb=>?_)))
 ·have hn : ¬ (1 ≤ i ∧ i ≤ (z.length : Int)) := by simpa only [Bool.not_eq_true', decide_eq_false_iff_not] using hb
  refine ts (ro rfl (aD.imp (vE ) pR) (gX Z_32 (Ht rfl) (Ht rfl) rfl (i:=1) rfl (aK rfl) rfl rfl (ro rfl (cQ (cJ 1)) (eX (bE rfl (fX (fU A_32 Z_32 rfl (i:=1) rfl rfl) ?_) (fX (eU rfl) ?_))))))
  ·exact (jD (by rw [pkv,if_neg hn]))
  ·exact (aN (by rw [if_neg hn]; rfl))
 ·have hp : 1 ≤ i ∧ i ≤ (z.length : Int) := by simpa only [Bool.not_eq_false', decide_eq_true_eq] using hb
  have hq:(i - 1).toNat < z.length:=by omega
  refine cU (ts (ro rfl (eZ iH (Ht rfl) rfl) (ro rfl (eY A_54 Z_54 (Ht rfl) (i:=0) rfl rfl) (rm rfl (ro rfl (gP (Ht rfl) cV (uX zo)) (ro rfl (dZ U_54 Z_32 (Ht rfl) (Ht rfl) (by omega:i - 1 = (((i - 1).toNat:Nat):Int)) (dY (dU (d:=Qi.zero) hq))) (ro rfl (dJ A_32 Z_32 (Ht rfl)) (gX Z_32 (Ht rfl) (Ht rfl) rfl (i:=1) rfl (aK rfl) rfl rfl (ro rfl (cQ (cJ 0)) (eX (bE rfl (fX (fU A_32 Z_32 rfl (i:=1) rfl rfl) ?_) (fX (eU rfl) ?_))))))))))))
  ·exact (jD (by rw [pkv,if_pos hp]))
  ·exact (aN (by rw [if_pos hp]; rfl))
theorem a10 {z:List Qi} {s:List (List Qi)} {i j:Int} (hs:iL s z.length z.length) (hl:z.length ≤ 1000):aT Tryz.prog 130 [eL z s,aI .i64 i,aI .i64 j] (fB [aL (Vq z.length s i j),aI .i64 (if (1 ≤ i ∧ i ≤ z.length) ∧ 1 ≤ j ∧ j ≤ z.length then 0 else 1)]):=by
 have hs1:=hs.1
 refine aT.intro Tryz.func130 rfl Tryz.ntmps130 rfl (fun cx=>(ts (rn rfl (fG (Ht rfl)) fun B3=>(rn rfl (eW (Ts:=[Is (.bool false),Is (.slice none 0 0),Is (.bool false),Is (.slice none 0 0),Is (.slice none 0 0)]) O_32 rfl (fun V=>aW zd (aW zd (aW zd (aW zd (aW zd (aG))))))) fun B6=>(ro rfl (cQ (cJ 0)) (eX (cK (ts (ro rfl (eJ A_80 Z_80 (Ht rfl) (i:=0) rfl rfl rfl) (rm rfl (ro rfl (cZ Tryz.call209 Il ⟨(Ht rfl),(Ht rfl),trivial⟩) ?_)))))))))))
 refine ro rfl (eC (Ht rfl)) (rm rfl (fQ rfl rfl (eK rfl rfl (Ht rfl) (fun h=>eJ A_80 Z_80 (Ht rfl) (i:=0) rfl rfl rfl)) (fQ rfl rfl (eK rfl rfl (Ht rfl) (fun h=>cX (Ht rfl))) (fQ rfl rfl (eK rfl rfl (Ht rfl) (fun h=>cZ Tryz.call209 Il ⟨(fJ rfl h),(fJ rfl h),trivial⟩)) (fQ rfl rfl (eK rfl rfl (Ht rfl) (fun h=>eC (fJ rfl h))) (ro rfl (iF (Ht rfl) (fun h=>(fJ rfl h))) (eX (dQ (Ht rfl) (fun hb=>?_) (fun hb=>?_)))))))))
 ·have hn : ¬ ((1 ≤ i ∧ i ≤ (z.length : Int)) ∧ 1 ≤ j ∧ j ≤ (z.length : Int)) := by simp only [Bool.or_eq_true, Bool.not_eq_true', decide_eq_false_iff_not] at hb; exact fun k => hb.elim (fun h => h k.1) (fun h => h k.2)
  refine ts (rn rfl (eW (Ts:=[Is (.bool false),Is (.slice none 0 0),Is (.bool false),Is (.slice none 0 0),Is (.slice none 0 0)]) O_32 rfl (fun V=>aW zd (aW zd (aW zd (aW zd (aW zd (aG))))))) fun B8=>(eX (ts (ro rfl (eJ A_32 Z_32 (Ht rfl) (i:=2) rfl rfl rfl) (gX Z_32 (Ht rfl) (Ht rfl) rfl (i:=1) rfl (aK rfl) rfl rfl (ro rfl (cQ (cJ 1)) (eX (bE rfl (fX (fU A_32 Z_32 rfl (i:=1) rfl rfl) ?_) (fX (eU rfl) ?_)))))))))
  ·exact (fun v V k=>by rw [Vq,if_neg hn]; exact pR v V k)
  ·exact (aN (by rw [if_neg hn]; rfl))
 ·have hp : (1 ≤ i ∧ i ≤ (z.length : Int)) ∧ 1 ≤ j ∧ j ≤ (z.length : Int) := by simpa only [Bool.or_eq_false_iff, Bool.not_eq_false', decide_eq_true_eq] using hb
  have hq:(i - 1).toNat < s.length:=by omega
  have hq2:(j - 1).toNat < (s.getD (i - 1).toNat []).length:=by rw [hs.row zo]; omega
  refine cU (ts (ro rfl (eZ iY (Ht rfl) rfl) (ro rfl (eY A_78 Z_78 (Ht rfl) (i:=0) rfl rfl) (rm rfl (ro rfl (gP (Ht rfl) cV (uX zo)) (ro rfl (dZ U_78 Z_54 (Ht rfl) (Ht rfl) (by omega:i - 1 = (((i - 1).toNat:Nat):Int)) (dY (dU (d:=[]) hq))) (ro rfl (dJ A_54 Z_54 (Ht rfl)) (rm rfl (ro rfl (gP (Ht rfl) cV (uX zo)) (ro rfl (dZ U_54 Z_32 (Ht rfl) (Ht rfl) (by omega:j - 1 = (((j - 1).toNat:Nat):Int)) (dY (dU (d:=Qi.zero) hq2))) ?_))))))))))
  refine ro rfl (dJ A_32 Z_32 (Ht rfl)) (gX Z_32 (Ht rfl) (Ht rfl) rfl (i:=1) rfl (aK rfl) rfl rfl (ro rfl (cQ (cJ 0)) (eX (bE rfl (fX (fU A_32 Z_32 rfl (i:=1) rfl rfl) ?_) (fX (eU rfl) ?_)))))
  ·exact (jD (by rw [Vq,if_pos hp]))
  ·exact (aN (by rw [if_pos hp]; rfl))
end
section
open Go Go.RowKit
theorem a0H:Tryz.prog.underlying 78 = some (.slice 54):=by kernel_rfl
end
section
open Go Go.RowKit
theorem yX {m:List (List Rt)} (hm:m.length ≤ 1000) (hr:∀ r,r ∈ m → r.length ≤ 1000):aT Tryz.prog 99 [Nc m] (fC (rq m)):=by
 refine aT.intro Tryz.func99 rfl Tryz.ntmps99 rfl (fun cx=>(ts (ro rfl (cQ cV) (eX (ts (rm rfl (ro rfl (dG U_181 (Ht rfl) aA) (rn rfl (iB (T:=bP []) (i:=Tryz.t54) a0H vM rfl rfl (Ht rfl) rfl Dz El.one (by show 24 * _ ≤ _; omega) zo) fun B8=>(ra rfl (eX (cK (ts (rm rfl (ro rfl (dG U_181 (Ht rfl) aA) (ro rfl (cX (cJ 0)) (eX (eG ?_)))))))))))))))))
 refine gC (fun (k : Nat) (out : List (List Qi)) => lI (fun i => (m.getD i default).map Rt.q) m.length out k) (fun (k : Nat) (out : List (List Qi)) => m.length - k) (fun (k : Nat) (out : List (List Qi)) => [(3, Is B8), (9, Nc m), (10, NT .i64 m.length), (11, NT .i64 k)]) (fun (k : Nat) (out : List (List Qi)) => [bH 54 1 B8 (out.map bP)]) 0 (List.replicate m.length []) (lI.start _ _ _)
  (zS rfl) (aU (bN (pV bP _ _)) aY) (fun k out hS=>?_)
 refine ts (ro rfl (gZ (Ht rfl) (Ht rfl)) (eX (cK (dQ (Ht rfl) (fun hk=>?_) (fun hk=>?_)))))
 ·simp only [decide_eq_true_eq] at hk
  have hlen:=hS.len
  have hrk : (m.getD k default).length ≤ 1000 := by
   have e:m.getD k default = m[k]:=by simp [List.getD,hk]
   rw [e]; exact hr _ (List.getElem_mem hk)
  refine cU (cK (eG (ts (rm rfl (ro rfl (dZ U_181 Z_77 (Ht rfl) (Ht rfl) rfl (dY (dU (d:=default) hk))) (ro rfl (dJ A_77 Z_77 (Ht rfl)) (ra rfl (ra rfl (eX (cY (rm rfl (rm rfl (rm rfl (ro rfl (cZ Tryz.call50 (tO zo) ⟨(Ht rfl),trivial⟩) (ro rfl (eO U_78 Z_54 (Ht rfl) (Ht rfl) rfl (i:=0) rfl (by first | omega | (simp; omega)) rfl) (mN Z_54 (Ht rfl) (Ht rfl) El.one (i:=0) rfl rfl (by first | omega | (simp; omega)) rfl (eX (T_blk ?_))))))))))))))))))
  refine cY (ro rfl (dV (Ht rfl) (cJ 1) z6) (rm rfl (eX (fY (k + 1,_) (hS.next hk rfl) (by dsimp only; omega) (zS rfl) (aU (bN (kV bP _ _ _)) aY)))))
 ·simp only [decide_eq_false_iff_not] at hk
  obtain rfl:k = m.length:=Nat.le_antisymm hS.kle zo
  have hfin:=hS.fin
  rw [qB m (fun r=>r.map Rt.q)] at hfin
  refine gW rfl (gV (i:=0) (tt:=3) rfl rfl iZ (ts (rm rfl (ra rfl (eX (fW rfl (fX (eU rfl) ?_)))))))
  exact (lB (by rw [hfin]))
end
section
open Go Go.RowKit
theorem Ce {n : Nat} {E : bD} {H : Hp} {d : Option Tmp} {t : TypeId} {pos : String} {af : Array Edge} {g : Option (Nat × Bool)}  :
  aD Tryz.prog n E H ⟨d,.build 104 #[],t,pos,af,g⟩ (eB [Is (.slice none 0 0),Is (.slice none 0 0)]) :=
 fO (parts := []) fun a V w hs => by
  refine ⟨.agg #[(.slice none 0 0),(.slice none 0 0)],?_,[(.slice none 0 0),(.slice none 0 0)],rfl,aW (⟨rfl,trivial⟩) (aW (⟨rfl,trivial⟩) (aG))⟩
  simp [Instr.build,Instr.fill,Sem.run_bind,Result.andThen,dN,O_104,U_104,Z_57,Tryz.sizeOf102]
theorem Cf {n : Nat} {E : bD} {H : Hp} {d : Option Tmp} {t : TypeId} {pos : String} {af : Array Edge} {g : Option (Nat × Bool)} {x0 x1 : Operand} {T0 T1 : Ty} [s0 : bT T0 1 false] (h0 : aB E x0 T0) [s1 : bT T1 1 false] (h1 : aB E x1 T1) :
  aD Tryz.prog n E H ⟨d,.build 104 #[(0,x0),(1,x1)],t,pos,af,g⟩ (eB [T0,T1]) :=
 fO (parts := [(0, x0), (1, x1)]) fun a V w hs => by
  have p0:=h0 n V a hs
  generalize e0:a.eval x0 = v0 at p0
  have q0:=(s0.ok v0 V p0).2.2 rfl
  have p1:=h1 n V a hs
  generalize e1:a.eval x1 = v1 at p1
  have q1:=(s1.ok v1 V p1).2.2 rfl
  refine ⟨.agg #[v0,v1],?_,[v0,v1],rfl,aW (⟨p0,q0⟩) (aW (⟨p1,q1⟩) (aG))⟩
  simp [e0,e1,Instr.build,Instr.fill,Sem.run_bind,Result.andThen,dN,q0.cells,q1.cells,O_104,U_104,Z_57,Tryz.sizeOf102]
end
section
open Go Go.RowKit
theorem Ct {x:Qi} {L:Nat} [hx:aP x L] (h:L ≤ 17592186044415):aT Tryz.prog 95 [QT x] (aC (gI x)):=by
 refine aT.intro Tryz.func95 rfl Tryz.ntmps95 rfl (fun cx=>(ts (rn rfl (fG (Ht rfl)) fun B1=>(ro rfl (cQ cV) (eX (ts (ro rfl (eJ A_40 Z_40 (Ht rfl) (i:=0) rfl rfl rfl) (ro rfl (cZ Tryz.call97 (Tm zo) ⟨(Ht rfl),trivial⟩) (ro rfl (jO (Ht rfl) cV) (rm rfl (fQ rfl rfl (eK rfl rfl (Ht rfl) (fun h=>eJ A_40 Z_40 (Ht rfl) (i:=0) rfl rfl rfl)) (fQ rfl rfl (eK rfl rfl (Ht rfl) (fun h=>cZ Tryz.call90 Iq ⟨(fJ rfl h),trivial⟩)) (fQ rfl rfl (eK rfl rfl (Ht rfl) (fun h=>Gm (fJ rfl h) cV)) ?_)))))))))))))
 refine ro rfl (eS (Ht rfl) (fun h=>(fJ rfl h))) (ra rfl (eX (fW rfl (fX (eU rfl) ?_))))
 exact (cT (Wa x))
theorem Oj {z:List Qi} {s:List (List Qi)} (hz:z.length ≤ 100000) (hs:s.length ≤ 100000):aT Tryz.prog 222 [Bv z,QM s] (aC (xU z s)):=by
 refine aT.intro Tryz.func222 rfl Tryz.ntmps222 rfl (fun cx=>(ts (ro rfl (cQ cV) (eX (cK (ts (rm rfl (ro rfl (dG U_57 (Ht rfl) aA) (ro rfl (gZ (Ht rfl) (cJ 1)) (rm rfl (fQ rfl rfl (eK rfl rfl (Ht rfl) (fun h=>cX (Ht rfl))) (fQ rfl rfl (eK rfl rfl (Ht rfl) (fun h=>dG U_57 (fJ rfl h) aA)) (fQ rfl rfl (eK rfl rfl (Ht rfl) (fun h=>dE (fJ rfl h) (cJ 8))) (ro rfl (iF (Ht rfl) (fun h=>(fJ rfl h))) (rm rfl (fQ rfl rfl (eK rfl rfl (Ht rfl) (fun h=>cX (Ht rfl))) ?_))))))))))))))))
 refine fQ rfl rfl (eK rfl rfl (Ht rfl) (fun h=>dG U_102 (fJ rfl h) aA)) (fQ rfl rfl (eK rfl rfl (Ht rfl) (fun h=>cX (Ht rfl))) (fQ rfl rfl (eK rfl rfl (Ht rfl) (fun h=>dG U_57 (fJ rfl h) aA)) (fQ rfl rfl (eK rfl rfl (Ht rfl) (fun h=>fL (fJ rfl h) (fJ rfl h))) (ro rfl (iF (Ht rfl) (fun h=>(fJ rfl h))) (eX (dQ (Ht rfl) (fun hb=>?_) (fun hb=>?_)))))))
 ·refine ts (ro rfl (cQ cV) (eX (fW rfl (fX (eU rfl) ?_))))
  exact (cT (by rw [xU,hb]; rfl))
 ·refine cU (cK (ts (ro rfl (cQ (cJ 0)) (eX (eG ?_)))))
  refine dB (fun (k : Nat) => k ≤ s.length ∧ ∀ (i : Nat) (r : List Qi), i < k → s[i]? = some r → r.length = z.length) (fun (k : Nat) => s.length - k) (fun (k : Nat) => [(0, Bv z), (1, QM s), (5, NT .i64 k)]) (fun (k : Nat) => []) 0 ⟨Nat.zero_le _, fun i r h => by omega⟩
   (zS rfl) aY (fun k ⟨hk,hr⟩=>?_)
  refine cK (ts (rm rfl (rm rfl (ro rfl (dG U_102 (Ht rfl) aA) (ro rfl (gZ (Ht rfl) (Ht rfl)) (eX (dQ (Ht rfl) (fun hc=>?_) (fun hc=>?_))))))))
  ·simp only [decide_eq_true_eq] at hc
   refine cU (cK (eG (ts (rm rfl (rm rfl (ro rfl (dZ U_102 Z_57 (Ht rfl) (Ht rfl) rfl (dY (oV hc))) (ro rfl (dJ Tryz.isAgg57 Z_57 (Ht rfl)) (ro rfl (dG U_57 (Ht rfl) aA) (rm rfl (ro rfl (dG U_57 (Ht rfl) aA) (ro rfl (fL (Ht rfl) (Ht rfl)) (eX (dQ (Ht rfl) (fun hd=>?_) (fun hd=>?_))))))))))))))
   ·have hd2 : ¬ (s[k]).length = z.length := by simpa using hd
    refine ts (ro rfl (cQ cV) (eX (fW rfl (fX (eU rfl) ?_))))
    exact (cT (by rw [xU,Sm (oV hc) hd2,Bool.or_true]; rfl))
   ·have hd2 : (s[k]).length = z.length := by simpa using hd
    refine cU (T_blk (cY (rm rfl (ro rfl (dV (Ht rfl) (cJ 1) z6) (ra rfl (eX ?_))))))
    refine fY (k + 1) ⟨hc, fun i r h1 h2 => by
     by_cases e:i = k
     ·subst e; rw [oV hc] at h2; obtain rfl:=Option.some.inj h2; exact hd2
     ·exact hr i r zo h2⟩ zo (zS rfl) aY
  ·simp only [decide_eq_false_iff_not] at hc
   have hall:∀ (i:Nat) (r:List Qi),s[i]? = some r → r.length = z.length:=fun i r h=>hr i r (by have:=(List.getElem?_eq_some_iff.1 h).1; omega) h
   refine gW rfl (ts (ro rfl (cQ cV) (eX (fW rfl (fX (eU rfl) ?_)))))
   exact (cT (by rw [xU,No hall,hb]; rfl))
theorem yN {z:List Qi} {L:Nat} (hz:dA z L) (h:L ≤ 17592186044415) (hl:z.length ≤ 100000):aT Tryz.prog 223 [Bv z] (aC (z.all gI)):=by
 refine aT.intro Tryz.func223 rfl Tryz.ntmps223 rfl (fun cx=>(ts (ro rfl (cQ cV) (eX (cK (ts (ro rfl (cQ (cJ 0)) (eX (eG ?_)))))))))
 refine dB (fun (k : Nat) => k ≤ z.length ∧ ∀ (i : Nat) (r : Qi), i < k → z[i]? = some r → gI r = true) (fun (k : Nat) => z.length - k) (fun (k : Nat) => [(0, Bv z), (3, NT .i64 k)]) (fun (k : Nat) => []) 0 ⟨Nat.zero_le _, fun i r h => by omega⟩
  (zS rfl) aY (fun k ⟨hk,hr⟩=>?_)
 refine cK (ts (rm rfl (rm rfl (ro rfl (dG U_57 (Ht rfl) aA) (ro rfl (gZ (Ht rfl) (Ht rfl)) (eX (dQ (Ht rfl) (fun hc=>?_) (fun hc=>?_))))))))
 ·simp only [decide_eq_true_eq] at hc
  haveI hf:aP z[k] L:=hz _ (List.getElem_mem hc)
  refine cU (cK (eG (ts (rm rfl (rm rfl (ro rfl (dZ U_57 Z_40 (Ht rfl) (Ht rfl) rfl (dY (oV hc))) (ro rfl (dJ A_40 Z_40 (Ht rfl)) (ro rfl (cZ Tryz.call95 (Ct (L:=L) h) ⟨(Ht rfl),trivial⟩) (ro rfl (eC (Ht rfl)) (eX (dQ (Ht rfl) (fun hd=>?_) (fun hd=>?_))))))))))))
  ·have hd2 : gI z[k] = false := by simpa using hd
   refine ts (ro rfl (cQ cV) (eX (fW rfl (fX (eU rfl) ?_))))
   exact (cT (Yt (oV hc) hd2).symm)
  ·have hd2 : gI z[k] = true := by simpa using hd
   refine cU (T_blk (cY (rm rfl (ro rfl (dV (Ht rfl) (cJ 1) z6) (ra rfl (eX ?_))))))
   refine fY (k + 1) ⟨hc, fun i r h1 h2 => by
    by_cases e:i = k
    ·subst e; rw [oV hc] at h2; obtain rfl:=Option.some.inj h2; exact hd2
    ·exact hr i r zo h2⟩ zo (zS rfl) aY
 ·simp only [decide_eq_false_iff_not] at hc
  have hall:∀ (i:Nat) (r:Qi),z[i]? = some r → gI r = true:=fun i r h=>hr i r (by have:=(List.getElem?_eq_some_iff.1 h).1; omega) h
  refine gW rfl (ts (ro rfl (cQ cV) (eX (fW rfl (fX (eU rfl) ?_)))))
  exact (cT (Sk hall).symm)
theorem Kw {z:List Qi} {s:List (List Qi)} {L:Nat} (hz:dA z L) (h:L ≤ 17592186044415) (hl:z.length ≤ 1000) (hl2:s.length ≤ 1000):aT Tryz.prog 133 [Bv z,QM s] (fB [rS (kP (cC z s) z) (kP (cC z s) s),aI .i64 (cC z s)]):=by
 refine aT.intro Tryz.func133 rfl Tryz.ntmps133 rfl (fun cx=>(ts (rn rfl (eW (Ts:=[Is (.slice none 0 0),Is (.slice none 0 0)]) O_104 rfl (fun V=>aW zd (aW zd (aG)))) fun B4=>(ro rfl (cQ (cJ 0)) (eX (cK (ts (rm rfl (rm rfl (ro rfl (cZ Tryz.call222 (Oj zo zo) ⟨(Ht rfl),(Ht rfl),trivial⟩) (ro rfl (eC (Ht rfl)) (eX (dQ (Ht rfl) (fun hb=>?_) (fun hb=>?_))))))))))))))
 ·have hb2 : ¬ xU z s = true := by simpa using hb
  have he:cC z s = 4:=by rw [uD,if_neg hb2]
  refine ts (ro rfl (aD.imp (Ce ) Em) (gX Z_104 (Ht rfl) (Ht rfl) rfl (i:=0) rfl (aK rfl) rfl rfl (ro rfl (cQ (cJ 4)) (eX (bE rfl (fX (fU A_104 Z_104 rfl (i:=0) rfl rfl) ?_) (fX (eU rfl) ?_))))))
  ·exact (Ek he (by decide))
  ·exact (aN he.symm)
 ·have hb2 : xU z s = true := by simpa using hb
  refine cU (cK (ts (rm rfl (ro rfl (cZ Tryz.call223 (yN (by assumption) (by assumption) zo) ⟨(Ht rfl),trivial⟩) ?_))))
  refine ro rfl (eC (Ht rfl)) (eX (dQ (Ht rfl) (fun hc=>?_) (fun hc=>?_)))
  ·have hc2 : ¬ z.all gI = true := by simp only [Bool.not_eq_true'] at hc; rw [hc]; exact Bool.noConfusion
   have he:cC z s = 1:=by rw [uD,if_pos hb2,if_neg hc2]
   refine ts (ro rfl (aD.imp (Ce ) Em) (gX Z_104 (Ht rfl) (Ht rfl) rfl (i:=0) rfl (aK rfl) rfl rfl (ro rfl (cQ (cJ 1)) (eX (bE rfl (fX (fU A_104 Z_104 rfl (i:=0) rfl rfl) ?_) (fX (eU rfl) ?_))))))
   ·exact (Ek he (by decide))
   ·exact (aN he.symm)
  ·have hc2 : z.all gI = true := by simp only [Bool.not_eq_false'] at hc; exact hc
   have he:cC z s = 0:=by rw [uD,if_pos hb2,if_pos hc2]
   refine cU (ts (rm rfl (rm rfl (ro rfl (Cf (Ht rfl) (Ht rfl)) (gX Z_104 (Ht rfl) (Ht rfl) rfl (i:=0) rfl (aK rfl) rfl rfl (ro rfl (cQ (cJ 0)) (eX (bE rfl (fX (fU A_104 Z_104 rfl (i:=0) rfl rfl) ?_) (fX (eU rfl) ?_)))))))))
   ·exact (Md he)
   ·exact (aN he.symm)
end
section
open Go Go.RowKit
theorem oL (v : Value) (w : World) : (method (Tryz.prog.types.size + Made.depth) 32 v "Of").run Tryz.prog w = .ok (318, v) w := by kernel_rfl
theorem fA (v:Value) (w:World):(Instr.makeInterface 32 v).run Tryz.prog w = .ok (.iface 32 v) w:=by
 simp [Instr.makeInterface,Sem.run_bind,Result.andThen,U_32]
end
section
open Go Go.RowKit
theorem Ny {y:Qi}:aT Tryz.prog 318 [eB [Is (.bool false),Is (.slice none 0 0),Is (.bool false),Is (.slice none 0 0),Is (.slice none 0 0)],aL y] (aL y):=by
 refine aT.intro Tryz.func318 rfl Tryz.ntmps318 rfl (fun cx=>(ts (rn rfl (fG (Ht rfl)) fun B2=>(rn rfl (fG (Ht rfl)) fun B3=>(rn rfl (eW (Ts:=[Is (.bool false),Is (.slice none 0 0),Is (.bool false),Is (.slice none 0 0),Is (.slice none 0 0)]) O_32 rfl (fun V=>aW zd (aW zd (aW zd (aW zd (aW zd (aG))))))) fun B4=>(eX (ts (ro rfl (eJ A_32 Z_32 (Ht rfl) (i:=1) rfl rfl rfl) (gX Z_32 (Ht rfl) (Ht rfl) rfl (i:=2) rfl (aK rfl) rfl rfl ?_)))))))))
 refine eX ?_
 exact fW rfl (fU A_32 Z_32 rfl (i:=2) rfl rfl)
theorem Fz {r:List Qi} {k:Nat}:aT Tryz.prog 266 [bP r,PT (NT .i64 k)] (aC (!decide (r.length = k))):=by
 refine aT.intro Tryz.func266 rfl Tryz.ntmps266 rfl (fun cx=>(ts (ro rfl (cQ cV) (eX (ts (rm rfl (ro rfl (dG U_54 (Ht rfl) aA) (ro rfl (dJ A_3 Z_3 (Ht rfl)) (ro rfl (fL (Ht rfl) (Ht rfl)) (ra rfl (eX ?_)))))))))))
 exact fW rfl (eU rfl)
theorem Fy  : aT Tryz.prog 231 [fC []] (fB [NT .i64 0,aC true]):=by
 refine aT.intro Tryz.func231 rfl Tryz.ntmps231 rfl (fun cx=>(ts (ro rfl (cQ (cJ 0)) (ro rfl (cQ cV) (eX (cK (ts (rm rfl (ro rfl (dG U_78 (Ht rfl) aA) (ro rfl (cD (Ht rfl) (cJ 0)) (eX (Aa (Ht rfl) (by rfl) ?_))))))))))))
 refine ts (ro rfl (cQ (cJ 0)) (ro rfl (cQ cV) (eX ?_)))
 exact bE rfl (eU rfl) (eU rfl)
theorem Kt {a:List (List Qi)} {n k:Nat} (h:iL a n k) (h1:1 ≤ n) (hn:n ≤ 32) (hk:k ≤ 32):aT Tryz.prog 231 [fC a] (fB [NT .i64 k,aC true]):=by
 obtain ⟨rfl,h2⟩:=h
 have hr0:(a.getD 0 []).length = k:=iL.row ⟨rfl,h2⟩ zo
 refine aT.intro Tryz.func231 rfl Tryz.ntmps231 rfl (fun cx=>(ts (ro rfl (cQ (cJ 0)) (ro rfl (cQ cV) (eX (cK (ts (rm rfl (ro rfl (dG U_78 (Ht rfl) aA) (ro rfl (cD (Ht rfl) (cJ 0)) (eX (dQ (Ht rfl) (fun hb=>?_) (fun hb=>?_)))))))))))))
 ·simp only [decide_eq_true_eq] at hb
  omega
 ·refine cU (ts (rm rfl (ro rfl (dZ U_78 Z_54 (Ht rfl) (cJ 0) rfl (dY (dU (d := []) zo))) (ro rfl (dJ A_54 Z_54 (Ht rfl)) (ro rfl (dG U_54 (Ht rfl) aA) (rn rfl (eW (Ts := [Is (.int .i64 0)]) O_3 rfl (fun V => aW zd (aG))) fun B4 => (iD Z_3 (Ht rfl) (Ht rfl) (i := 0) rfl (aK rfl) rfl (eX (cK (gV (i := 0) (tt := 4) rfl rfl jT (fZ (m := 15) (dp 4 rfl (dJ A_3 Z_3 (Ht rfl)) ?_))))))))))))
  refine dp 0 rfl (cX (Ht rfl)) (dq 13 1 rfl (dG U_78 (Ht rfl) aA) (dq 14 2 rfl (vR (Ht rfl) (cJ 32)) (dq 15 3 rfl (cX (Ht rfl)) (C.D_step (Ei:=[(4,_),(16,_)]) rfl rfl (bV (bK rfl rfl) (bV (bG 4 rfl rfl) bW)) (eK rfl rfl (Ht rfl) (fun h=>dJ A_3 Z_3 (Ht rfl))) (C.D_step (Ei:=[(17,_),(16,_)]) rfl rfl (bV (bG 5 rfl rfl) (bV (bG 4 rfl rfl) bW)) (eK rfl rfl (Ht rfl) (fun h=>vR (fJ rfl h) (cJ 32))) (eE 16 4 18 6 rfl (eS (Ht rfl) (fun h=>(fJ rfl h))) ?_))))))
  refine dq 19 7 rfl (cX (Ht rfl)) (C.D_step (Ei:=[(0,_),(20,_)]) rfl rfl (bV (bK rfl rfl) (bV (bG 8 rfl rfl) bW)) (eK rfl rfl (Ht rfl) (fun h=>cX (Ht rfl))) (C.D_step (Ei:=[(4,_),(20,_)]) rfl rfl (bV (bK rfl rfl) (bV (bG 8 rfl rfl) bW)) (eK rfl rfl (Ht rfl) (fun h=>qP (γ:=List Qi) (Ts:=fun r=>[bP r]) (U:=fun r=>aC (!decide (r.length = (a.getD 0 []).length))) Tryz.call266 (fun r=>Fz) ⟨(Ht rfl),trivial⟩)) (C.D_step (Ei:=[(21,_),(22,_),(20,_)]) rfl rfl (bV (bG 9 rfl rfl) (bV (bG 10 rfl rfl) (bV (bG 8 rfl rfl) bW))) (eK rfl rfl (Ht rfl) (fun h=>cZ Tryz.call118 (yM (l:=a) (T:=bP) (p:=fun r=>!decide (r.length = (a.getD 0 []).length)) zo) ⟨(fJ rfl h),(fJ rfl h),trivial⟩)) ?_)))
  refine C.D_step (Ei:=[(23,_),(20,_)]) rfl rfl (bV (bG 11 rfl rfl) (bV (bG 8 rfl rfl) bW)) (eK rfl rfl (Ht rfl) (fun h=>eC (fJ rfl h))) (eE 20 8 24 12 rfl (eS (Ht rfl) (fun h=>(fJ rfl h))) (dq 12 0 rfl (cQ (Ht rfl)) (fV bB rfl (by kernel_rfl) (zF (zF (zF (aJ (aJ (aJ (aV (ra rfl (eX (bE rfl (fX (eU rfl) ?_) (fX (eU rfl) ?_))))))))))))))
  ·exact (kJ hr0)
  ·exact (cT (by rw [hr0,Tz ⟨rfl,h2⟩]; simp; omega))
end
section
open Go Go.RowKit
theorem pN (v : Value) (w : World) : (method (Tryz.prog.types.size + Made.depth) 32 v "Add").run Tryz.prog w = .ok (33, v) w := by kernel_rfl
theorem kI (v : Value) (w : World) : (method (Tryz.prog.types.size + Made.depth) 32 v "Mul").run Tryz.prog w = .ok (29, v) w := by kernel_rfl
end
section
open Go Go.RowKit
theorem pO (v : Value) (w : World) : (method (Tryz.prog.types.size + Made.depth) 32 v "Div").run Tryz.prog w = .ok (142, v) w := by kernel_rfl
theorem lP (v : Value) (w : World) : (method (Tryz.prog.types.size + Made.depth) 32 v "Sub").run Tryz.prog w = .ok (32, v) w := by kernel_rfl
end
section
open Go Go.RowKit
theorem Sy {n:Nat} (h:n < 4294967296):aT Tryz.prog 289 [NT .u64 1,NT .u64 n] (fB [NT .u64 0,NT .u64 n]):=by
 refine aT.intro Tryz.func289 rfl Tryz.ntmps289 rfl (fun cx=>(ts (ro rfl (cQ (cJ 0)) (ro rfl (cQ (cJ 0)) (eX (ts (rm rfl (ro rfl (aD.nat (qO rfl (Ht rfl) (cJ 4294967295) z7 z7) (show (1:Nat) &&& 4294967295 = 1 by decide)) (ra rfl (eX (ts (rm rfl (ro rfl (aD.nat (dS (Ht rfl) (cJ 32) (by decide)) (show (1:Nat) / 2 ^ 32 = 0 by decide)) (ra rfl (eX (ts (rm rfl (ro rfl (aD.nat (qO rfl (Ht rfl) (cJ 4294967295) z7 z7) (show n &&& 4294967295 = n from (Nat.and_two_pow_sub_one_eq_mod n 32).trans (Nat.mod_eq_of_lt h))) ?_))))))))))))))))))
 refine ra rfl (eX (ts (rm rfl (ro rfl (aD.nat (dS (Ht rfl) (cJ 32) (by decide)) (show n / 2 ^ 32 = 0 from Nat.div_eq_of_lt h)) (ra rfl (eX (ts (rm rfl (rm rfl (ro rfl (aD.nat (jK (Ht rfl) (Ht rfl) z7) (Nat.one_mul n)) (ra rfl (eX (ts (rm rfl (rm rfl (ro rfl (aD.nat (jK (Ht rfl) (Ht rfl) z7) (Nat.zero_mul n)) (rm rfl (ro rfl (aD.nat (dS (Ht rfl) (cJ 32) (by decide)) (show n / 2 ^ 32 = 0 from Nat.div_eq_of_lt h)) ?_))))))))))))))))))
 refine ro rfl (dV (Ht rfl) (Ht rfl) z7) (ra rfl (eX (ts (rm rfl (ro rfl (aD.nat (qO rfl (Ht rfl) (cJ 4294967295) z7 z7) (show (0 + 0:Nat) &&& 4294967295 = 0 by decide)) (ra rfl (eX (ts (rm rfl (ro rfl (aD.nat (dS (Ht rfl) (cJ 32) (by decide)) (show (0 + 0:Nat) / 2 ^ 32 = 0 by decide)) (ra rfl (eX (ts (rm rfl (rm rfl (rm rfl ?_))))))))))))))))
 refine ro rfl (aD.nat (jK (Ht rfl) (Ht rfl) z7) (show (1 * 0:Nat) = 0 by decide)) (ro rfl (dV (Ht rfl) (Ht rfl) z7) (ra rfl (eX (ts (rm rfl (rm rfl (ro rfl (aD.nat (jK (Ht rfl) (Ht rfl) z7) (show (0 * 0:Nat) = 0 by decide)) (rm rfl (ro rfl (dV (Ht rfl) (Ht rfl) z7) ?_)))))))))
 refine rm rfl (ro rfl (aD.nat (dS (Ht rfl) (cJ 32) (by decide)) (show (0 + 0:Nat) / 2 ^ 32 = 0 by decide)) (ro rfl (dV (Ht rfl) (Ht rfl) z7) (ra rfl (eX (ts (rm rfl (rm rfl (ro rfl (aD.nat (jK (Ht rfl) (Ht rfl) z7) (Nat.one_mul n)) (ra rfl (eX (bE rfl (fX (eU rfl) ?_) (eU rfl))))))))))))
 exact (kJ (by decide))
theorem Zc {n:Nat} (h:n < 4294967296):aT Tryz.prog 259 [NT .u64 1,NT .u64 n] (fB [NT .u64 0,NT .u64 n]):=by
 refine aT.intro Tryz.func259 rfl Tryz.ntmps259 rfl (fun cx=>(ts (ro rfl (cQ (cJ 0)) (ro rfl (cQ (cJ 0)) (eX (cK (dQ cV (fun hf=>?_) (fun hf=>?_))))))))
 ·exact absurd hf (by decide)
 ·refine cU (ts (rm rfl (rm rfl (ro rfl (cZ Tryz.call289 (Sy h) ⟨(Ht rfl), (Ht rfl), trivial⟩) (rm rfl (ro rfl (dK (Ht rfl) rfl) (ro rfl (dK (Ht rfl) rfl) (ra rfl (ra rfl (eX (ts (rm rfl (rm rfl (ra rfl (ra rfl (eX ?_))))))))))))))))
  exact bE rfl (eU rfl) (eU rfl)
theorem Za {m:Nat} (h1:1 ≤ m) (hm:m ≤ 1000):iC Tryz.prog 212 [bP [Qi.zero],NT .i64 m] [] ({v:Value // tY v}) (fun v=>Is v.1) (fun v=>[bH 32 5 v.1 ((tab m fun _=>Qi.zero).map aL)]) (fun _=>True):=by
 refine iC.intro Tryz.func212 rfl Tryz.ntmps212 rfl (fun cx Z=>(ts (ro rfl (cQ cV) (eX (cK (ts (rm rfl (ro rfl (gZ (Ht rfl) (cJ 0)) (eX (dQ (Ht rfl) (fun h0=>?_) (fun h0=>?_)))))))))))
 ·simp only [decide_eq_true_eq] at h0
  omega
 ·refine cU (ts (rm rfl (ro rfl (dG U_54 (Ht rfl) (show (([Qi.zero].map aL).length : Int) = ((1 : Nat) : Int) from rfl)) (ro rfl (gJ U_3 U_275 (Ht rfl) z7) (rm rfl (ro rfl (gJ U_3 U_275 (Ht rfl) z7) (ro rfl (cZ Tryz.call259 (Zc zo) ⟨(Ht rfl), (Ht rfl), trivial⟩) (rm rfl (ro rfl (dK (Ht rfl) rfl) (ro rfl (dK (Ht rfl) rfl) ?_))))))))))
  refine ra rfl (ra rfl (eX (cK (ts (rm rfl (ro rfl (dE (Ht rfl) (cJ 0)) (rm rfl (fQ rfl rfl (eK rfl rfl (Ht rfl) (fun h=>cX (Ht rfl))) (fQ rfl rfl (eK rfl rfl (Ht rfl) (fun h=>dE (fJ rfl h) (cJ 9223372036854775807))) (ro rfl (iF (Ht rfl) (fun h=>(fJ rfl h))) (eX (dQ (Ht rfl) (fun h2=>?_) (fun h2=>?_)))))))))))))
  ·simp only [Bool.or_eq_true, decide_eq_true_eq] at h2
   omega
  ·refine cU (ts (rm rfl (ro rfl (gJ U_275 U_3 (Ht rfl) z6) (Sh (T := aL Qi.zero) (i := Tryz.t32) oP lX rfl rfl (Ht rfl) rfl kC (El.ag rfl) (by show 88 * _ ≤ _; omega) zo rfl (fun B30 hB30 => (ra rfl (eX (ts (rm rfl (rm rfl (ro rfl (Qg (q := 1) (T := aL Qi.zero) U_54 Z_32 (i := 1) rfl (Ht rfl) (Ht rfl) (by decide) (El.ag rfl) zo) (ra rfl (eX (cK (eG ?_)))))))))))))))
   refine dB (fun (k : Nat) => 1 ≤ k ∧ k ≤ m) (fun (k : Nat) => m - k) (fun (k : Nat) => [(7, Is B30), (8, NT .i64 k)]) (fun (k : Nat) => [Z, bH 32 5 B30 (List.replicate m (aL Qi.zero))]) (Nat.min 1 m) ⟨by show 1 ≤ min 1 m; omega, by show min 1 m ≤ m; omega⟩
    (zS rfl) (cA.refl _) (fun k ⟨hk1,hk⟩=>?_)
   refine cK (ts (rm rfl (rm rfl (ro rfl (qR U_54 (Ht rfl) (i:=1) rfl (show ((List.replicate m (aL Qi.zero)).length:Int) = ((m:Nat):Int) by simp)) (ro rfl (gZ (Ht rfl) (Ht rfl)) (eX (dQ (Ht rfl) (fun hd=>?_) (fun hd=>?_))))))))
   ·simp only [decide_eq_true_eq] at hd
    have hlen:(List.replicate m (aL Qi.zero)).length = m:=by simp
    have h5:Nat.min k ((List.replicate m (aL Qi.zero)).length - k) = min k (m - k):=by rw [hlen]
    refine cU (eG (fZ (m:=8) (dp 8 rfl (cX (Ht rfl)) (dp 7 rfl (cX (Ht rfl)) (dp 8 rfl (cX (Ht rfl)) (eE 39 1 40 2 rfl (Qk U_54 Z_32 (Ht rfl) (Ht rfl) rfl (i:=1) rfl (by rw [hlen]; exact hd)) ?_))))))
    refine dp 7 rfl (cX (Ht rfl)) (dp 8 rfl (cX (Ht rfl)) (eE 42 4 43 5 rfl (Qj U_54 Z_32 (Ht rfl) (Ht rfl) rfl (i:=1) rfl (by rw [hlen]; omega) (by rw [hlen]; omega)) ?_))
    refine eE 41 3 44 6 rfl (Gk (T:=aL Qi.zero) U_54 Z_32 (i:=1) rfl (Ht rfl) (Ht rfl)) (fV bB rfl (by kernel_rfl) (zF (zF (aV (ro rfl (dV (Ht rfl) (Ht rfl) (by show _ < 9223372036854775808; omega)) (ra rfl (eX (T_blk (fY (k + Nat.min k ((List.replicate m (aL Qi.zero)).length - k)) ⟨by omega,by omega⟩ zo (zS rfl) (cA.refl _))))))))))
   ·refine gW rfl (ts (rm rfl (ra rfl (eX ?_))))
    exact kX ⟨B30,hB30⟩ trivial [0,1] ⟨⟨_,rfl,fun _ _ _ h=>h⟩,⟨_,rfl,(bN (by rw [uH,pV]))⟩,trivial⟩ (by decide) (yR rfl (eU rfl))
end
section
open Go Go.RowKit
theorem Sq {n : Nat} {E : bD} {H : Hp} {d : Option Tmp} {t : TypeId} {pos : String} {af : Array Edge} {g : Option (Nat × Bool)}  :
  aD Tryz.prog n E H ⟨d,.build 23 #[],t,pos,af,g⟩ (eB [Is (.int .i64 0),Is (.int .i64 0),Is (.int .i64 0)]) :=
 fO (parts := []) fun a V w hs => by
  refine ⟨.agg #[(.int .i64 0),(.int .i64 0),(.int .i64 0)],?_,[(.int .i64 0),(.int .i64 0),(.int .i64 0)],rfl,aW (⟨rfl,trivial⟩) (aW (⟨rfl,trivial⟩) (aW (⟨rfl,trivial⟩) (aG)))⟩
  simp [Instr.build,Instr.fill,Sem.run_bind,Result.andThen,dN,O_23,U_23,Z_2]
theorem Ch {n : Nat} {E : bD} {H : Hp} {d : Option Tmp} {t : TypeId} {pos : String} {af : Array Edge} {g : Option (Nat × Bool)} {x0 : Operand} {T0 : Ty} [s0 : bT T0 1 false] (h0 : aB E x0 T0) :
  aD Tryz.prog n E H ⟨d,.build 23 #[(0,x0)],t,pos,af,g⟩ (eB [T0,Is (.int .i64 0),Is (.int .i64 0)]) :=
 fO (parts := [(0, x0)]) fun a V w hs => by
  have p0:=h0 n V a hs
  generalize e0:a.eval x0 = v0 at p0
  have q0:=(s0.ok v0 V p0).2.2 rfl
  refine ⟨.agg #[v0,(.int .i64 0),(.int .i64 0)],?_,[v0,(.int .i64 0),(.int .i64 0)],rfl,aW (⟨p0,q0⟩) (aW (⟨rfl,trivial⟩) (aW (⟨rfl,trivial⟩) (aG)))⟩
  simp [e0,Instr.build,Instr.fill,Sem.run_bind,Result.andThen,dN,q0.cells,O_23,U_23,Z_2]
theorem wN {n : Nat} {E : bD} {H : Hp} {d : Option Tmp} {t : TypeId} {pos : String} {af : Array Edge} {g : Option (Nat × Bool)} {x0 x2 : Operand} {T0 T2 : Ty} [s0 : bT T0 1 false] (h0 : aB E x0 T0) [s2 : bT T2 1 false] (h2 : aB E x2 T2) :
  aD Tryz.prog n E H ⟨d,.build 23 #[(0,x0),(2,x2)],t,pos,af,g⟩ (eB [T0,Is (.int .i64 0),T2]) :=
 fO (parts := [(0, x0), (2, x2)]) fun a V w hs => by
  have p0:=h0 n V a hs
  generalize e0:a.eval x0 = v0 at p0
  have q0:=(s0.ok v0 V p0).2.2 rfl
  have p2:=h2 n V a hs
  generalize e2:a.eval x2 = v2 at p2
  have q2:=(s2.ok v2 V p2).2.2 rfl
  refine ⟨.agg #[v0,(.int .i64 0),v2],?_,[v0,(.int .i64 0),v2],rfl,aW (⟨p0,q0⟩) (aW (⟨rfl,trivial⟩) (aW (⟨p2,q2⟩) (aG)))⟩
  simp [e0,e2,Instr.build,Instr.fill,Sem.run_bind,Result.andThen,dN,q0.cells,q2.cells,O_23,U_23,Z_2]
end
section
open Go Go.RowKit
theorem a02 {z:List Qi} {i:Nat} (h:i < z.length):∀ v V,(fB [aL (pkv z ((i + 1:Nat):Int)),aI .i64 (if 1 ≤ ((i + 1:Nat):Int) ∧ ((i + 1:Nat):Int) ≤ z.length then 0 else 1)]).p v V → (fB [aL (gv z i),aI .i64 0]).p v V:=by
 rw [show pkv z ((i + 1:Nat):Int) = gv z i from a0l h,if_pos zo]; exact fun _ _ h=>h
theorem a1r {n:Nat} {s:List (List Qi)} {i j:Nat} (h:i < n) (k:j < n):∀ v V,(fB [aL (Vq n s ((i + 1:Nat):Int) ((j + 1:Nat):Int)),aI .i64 (if (1 ≤ ((i + 1:Nat):Int) ∧ ((i + 1:Nat):Int) ≤ n) ∧ 1 ≤ ((j + 1:Nat):Int) ∧ ((j + 1:Nat):Int) ≤ n then 0 else 1)]).p v V → (fB [aL (gm s i j),aI .i64 0]).p v V:=by
 rw [show Vq n s ((i + 1:Nat):Int) ((j + 1:Nat):Int) = gm s i j from a0k h k,if_pos zo]; exact fun _ _ h=>h
end
section
open Go Go.RowKit
theorem Qi.zero_div (y:Qi):Qi.zero / y = Qi.zero:=by rw [Qi.div_def,Qi.zero_mul']
theorem pos_re {x:Qi} (h:gI x = true):x.im = 0 ∧ x.re ≠ 0:=by
 simp only [gI,decide_eq_true_eq] at h
 exact ⟨Qi.b_zero.1 h.1,fun e=>by have:=Qi.a_zero.2 e; omega⟩
end
section
open Go Go.RowKit
theorem vJ {α:Type} {l:List α} {d:α} {k:Nat} (h:k < l.length):l.getD k d = l[k]:=by simp [List.getD,h]
theorem a1m {l m:List Qi} (h:l.length = m.length) (k:∀ i,i < l.length → gv l i = gv m i):l = m:=by
 apply List.ext_getElem h
 intro i h1 h2
 have:=k i h1
 simpa [gv,List.getD,h1,h2] using this
theorem Ub {l m:List (List Qi)} (h:l.length = m.length) (k:∀ i,i < l.length → l.getD i [] = m.getD i []):l = m:=by
 apply List.ext_getElem h
 intro i h1 h2
 have:=k i h1
 simpa [List.getD,h1,h2] using this
theorem a1u {l m:List Qi} {i:Nat} (h:gv l i ≠ gv m i):l ≠ m:=fun e=>h (by rw [e])
theorem Uu {l m:List (List Qi)} {i:Nat} (h:l.getD i [] ≠ m.getD i []):l ≠ m:=fun e=>h (by rw [e])
def Qa (z z':List Qi) (s s':List (List Qi)):Bool:=decide (z = z') && decide (s = s')
theorem xN (z:List Qi) (s:List (List Qi)):Qa z z s s = true:=by simp [Qa]
end
section
open Go Go.RowKit
theorem Bd (v : Value) (w : World) : (method (Tryz.prog.types.size + Made.depth) 32 v "Same").run Tryz.prog w = .ok (45, v) w := by kernel_rfl
end
section
open Go Go.RowKit
theorem Ih {l m:List Qi} {L:Nat} (hl:dA l L) (hm:dA m L) (hL:1 ≤ L) (h1:l.length ≤ 1000) (h2:m.length ≤ 1000):aT Tryz.prog 137 [bP l,bP m,wD Tryz.prog {x:Qi × Qi // aP x.1 L ∧ aP x.2 L} (fun x=>[aL x.1.1,aL x.1.2]) (fun x=>aC (decide (x.1.1 = x.1.2)))] (aC (decide (l = m))):=by
 refine aT.intro Tryz.func137 rfl Tryz.ntmps137 rfl (fun cx=>(ts (ro rfl (cQ cV) (eX (cK (ts (rm rfl (ro rfl (dG U_54 (Ht rfl) aA) (rm rfl (ro rfl (dG U_54 (Ht rfl) aA) (ro rfl (fL (Ht rfl) (Ht rfl)) (eX (dQ (Ht rfl) (fun hb=>?_) (fun hb=>?_))))))))))))))
 ·have hn : ¬ l = m := fun e => by rw [e] at hb; simp at hb
  refine ts (ro rfl (cQ cV) (eX (fW rfl (fX (eU rfl) ?_))))
  exact (cT (decide_eq_false hn).symm)
 ·have he : l.length = m.length := by simpa using hb
  refine cU (cK (ts (rm rfl (ro rfl (dG U_54 (Ht rfl) aA) (ro rfl (cX (cJ 0)) (eX (eG ?_)))))))
  refine dB (fun (k : Nat) => k ≤ l.length ∧ ∀ i, i < k → gv l i = gv m i) (fun (k : Nat) => l.length - k) (fun (k : Nat) => [(0, bP l), (1, bP m), (2, wD Tryz.prog {x : Qi × Qi // aP x.1 L ∧ aP x.2 L} (fun x => [aL x.1.1, aL x.1.2]) (fun x => aC (decide (x.1.1 = x.1.2)))), (15, bP l), (16, NT .i64 l.length), (17, NT .i64 k)]) (fun (k : Nat) => []) 0 ⟨Nat.zero_le _, fun i h => by omega⟩
   (zS rfl) aY (fun k ⟨hk,hr⟩=>?_)
  refine ts (ro rfl (gZ (Ht rfl) (Ht rfl)) (eX (cK (dQ (Ht rfl) (fun hc=>?_) (fun hc=>?_)))))
  ·simp only [decide_eq_true_eq] at hc
   refine cU (cK (eG (ts (rm rfl (ro rfl (dZ U_54 Z_32 (Ht rfl) (Ht rfl) rfl (dY (dU (d:=Qi.zero) zo))) (ro rfl (dJ A_32 Z_32 (Ht rfl)) (rn rfl (eW (Ts:=[Is (.bool false),Is (.slice none 0 0),Is (.bool false),Is (.slice none 0 0),Is (.slice none 0 0)]) O_32 rfl (fun V=>aW zd (aW zd (aW zd (aW zd (aW zd (aG))))))) fun B8=>(ra rfl (gX Z_32 (Ht rfl) (Ht rfl) rfl (i:=0) rfl (aK rfl) rfl rfl ?_)))))))))
   refine eX (ts (rm rfl (rm rfl (ro rfl (dZ U_54 Z_32 (Ht rfl) (Ht rfl) rfl (dY (dU (d:=Qi.zero) zo))) (ro rfl (dJ A_32 Z_32 (Ht rfl)) (rn rfl (eW (Ts:=[Is (.bool false),Is (.slice none 0 0),Is (.bool false),Is (.slice none 0 0),Is (.slice none 0 0)]) O_32 rfl (fun V=>aW zd (aW zd (aW zd (aW zd (aW zd (aG))))))) fun B9=>(gX Z_32 (Ht rfl) (Ht rfl) rfl (i:=1) rfl (aK rfl) rfl rfl ?_)))))))
   refine eX (ts (rm rfl (ro rfl (eJ A_32 Z_32 (Ht rfl) (i:=0) rfl rfl rfl) (ro rfl (eJ A_32 Z_32 (Ht rfl) (i:=1) rfl rfl rfl) (ro rfl (lQ (⟨(gv l k,gv m k),hl.get hL k,hm.get hL k⟩:{x:Qi × Qi // aP x.1 L ∧ aP x.2 L}) (Ht rfl) ⟨(Ht rfl),(Ht rfl),trivial⟩) (ro rfl (eC (Ht rfl)) (eX (dQ (Ht rfl) (fun hd=>?_) (fun hd=>?_)))))))))
   ·have hn : ¬ l = m := a1u (i := k) (by simpa using hd)
    refine ts (ro rfl (cQ cV) (eX (fW rfl (fX (eU rfl) ?_))))
    exact (cT (decide_eq_false hn).symm)
   ·have hq : gv l k = gv m k := by simpa using hd
    refine cU (T_blk (cY (ro rfl (dV (Ht rfl) (cJ 1) z6) (rm rfl (eX (eR [] rfl (by decide) ?_))))))
    refine fY (k + 1) ⟨hc, fun i h => by
     by_cases e:i = k
     ·rw [e]; exact hq
     ·exact hr i zo⟩ zo (zS rfl) aY
  ·simp only [decide_eq_false_iff_not] at hc
   refine gW rfl (ts (ro rfl (cQ cV) (eX (fW rfl (fX (eU rfl) ?_)))))
   exact (cT (decide_eq_true (a1m he (fun i h=>hr i zo))).symm)
theorem Sx {l m:List (List Qi)} {L:Nat} (hl:dM l L) (hm:dM m L) (h3:∀ r,r ∈ l → r.length ≤ 1000) (h4:∀ r,r ∈ m → r.length ≤ 1000) (h1:l.length ≤ 1000) (h2:m.length ≤ 1000):aT Tryz.prog 150 [fC l,fC m,wD Tryz.prog {x:List Qi × List Qi // (dA x.1 L ∧ x.1.length ≤ 1000) ∧ dA x.2 L ∧ x.2.length ≤ 1000} (fun x=>[bP x.1.1,bP x.1.2]) (fun x=>aC (decide (x.1.1 = x.1.2)))] (aC (decide (l = m))):=by
 refine aT.intro Tryz.func150 rfl Tryz.ntmps150 rfl (fun cx=>(ts (ro rfl (cQ cV) (eX (cK (ts (rm rfl (ro rfl (dG U_78 (Ht rfl) aA) (rm rfl (ro rfl (dG U_78 (Ht rfl) aA) (ro rfl (fL (Ht rfl) (Ht rfl)) (eX (dQ (Ht rfl) (fun hb=>?_) (fun hb=>?_))))))))))))))
 ·have hn : ¬ l = m := fun e => by rw [e] at hb; simp at hb
  refine ts (ro rfl (cQ cV) (eX (fW rfl (fX (eU rfl) ?_))))
  exact (cT (decide_eq_false hn).symm)
 ·have he : l.length = m.length := by simpa using hb
  refine cU (cK (ts (rm rfl (ro rfl (dG U_78 (Ht rfl) aA) (ro rfl (cX (cJ 0)) (eX (eG ?_)))))))
  refine dB (fun (k : Nat) => k ≤ l.length ∧ ∀ i, i < k → l.getD i [] = m.getD i []) (fun (k : Nat) => l.length - k) (fun (k : Nat) => [(0, fC l), (1, fC m), (2, wD Tryz.prog {x : List Qi × List Qi // (dA x.1 L ∧ x.1.length ≤ 1000) ∧ dA x.2 L ∧ x.2.length ≤ 1000} (fun x => [bP x.1.1, bP x.1.2]) (fun x => aC (decide (x.1.1 = x.1.2)))), (15, fC l), (16, NT .i64 l.length), (17, NT .i64 k)]) (fun (k : Nat) => []) 0 ⟨Nat.zero_le _, fun i h => by omega⟩
   (zS rfl) aY (fun k ⟨hk,hr⟩=>?_)
  refine ts (ro rfl (gZ (Ht rfl) (Ht rfl)) (eX (cK (dQ (Ht rfl) (fun hc=>?_) (fun hc=>?_)))))
  ·simp only [decide_eq_true_eq] at hc
   refine cU (cK (eG (ts (rm rfl (ro rfl (dZ U_78 Z_54 (Ht rfl) (Ht rfl) rfl (dY (dU (d:=[]) hc))) (ro rfl (dJ A_54 Z_54 (Ht rfl)) (ra rfl (ra rfl (eX (ts (rm rfl (rm rfl (ro rfl (dZ U_78 Z_54 (Ht rfl) (Ht rfl) rfl (dY (dU (d:=[]) zo))) (ro rfl (dJ A_54 Z_54 (Ht rfl)) (ra rfl (eX (ts (rm rfl (rm rfl (rm rfl (ro rfl (lQ (⟨(l.getD k [],m.getD k []),⟨hl.row k,by rw [vJ hc]; exact h3 _ (List.getElem_mem hc)⟩,hm.row k,by rw [vJ (by omega:k < m.length)]; exact h4 _ (List.getElem_mem _)⟩:{x:List Qi × List Qi // (dA x.1 L ∧ x.1.length ≤ 1000) ∧ dA x.2 L ∧ x.2.length ≤ 1000}) (Ht rfl) ⟨(Ht rfl),(Ht rfl),trivial⟩) ?_)))))))))))))))))))))
   refine ro rfl (eC (Ht rfl)) (eX (dQ (Ht rfl) (fun hd=>?_) (fun hd=>?_)))
   ·have hn : ¬ l = m := Uu (i := k) (by simpa using hd)
    refine ts (ro rfl (cQ cV) (eX (fW rfl (fX (eU rfl) ?_))))
    exact (cT (decide_eq_false hn).symm)
   ·have hq : l.getD k [] = m.getD k [] := by simpa using hd
    refine cU (T_blk (cY (ro rfl (dV (Ht rfl) (cJ 1) z6) (rm rfl (eX ?_)))))
    refine fY (k + 1) ⟨hc, fun i h => by
     by_cases e:i = k
     ·rw [e]; exact hq
     ·exact hr i zo⟩ zo (zS rfl) aY
  ·simp only [decide_eq_false_iff_not] at hc
   refine gW rfl (ts (ro rfl (cQ cV) (eX (fW rfl (fX (eU rfl) ?_)))))
   exact (cT (decide_eq_true (Ub he (fun i h=>hr i zo))).symm)
theorem Oe {x y:Qi} {L:Nat} [hx:aP x L] [hy:aP y L] (h:L ≤ 8796093022208):aT Tryz.prog 148 [aL x,aL y] (aC (decide (x = y))):=by
 refine aT.intro Tryz.func148 rfl Tryz.ntmps148 rfl (fun cx=>(ts (rn rfl (fG (Ht rfl)) fun B2=>(rn rfl (fG (Ht rfl)) fun B3=>(ro rfl (cQ cV) (eX (ts (ro rfl (eJ A_32 Z_32 (Ht rfl) (i:=0) rfl rfl rfl) (ro rfl (dI fA (Ht rfl)) (ro rfl (eJ A_32 Z_32 (Ht rfl) (i:=1) rfl rfl rfl) (ro rfl (cM Bd Tryz.call45 (wO zo zo) (Ht rfl) ⟨(Ht rfl),trivial⟩) (ra rfl (eX ?_)))))))))))))
 exact fW rfl (eU rfl)
theorem Og {l m:List Qi} {L:Nat} (hl:dA l L) (hm:dA m L) (hL:1 ≤ L) (h1:l.length ≤ 1000) (h2:m.length ≤ 1000):aT Tryz.prog 149 [bP l,bP m,PT (wD Tryz.prog {x:Qi × Qi // aP x.1 L ∧ aP x.2 L} (fun x=>[aL x.1.1,aL x.1.2]) (fun x=>aC (decide (x.1.1 = x.1.2))))] (aC (decide (l = m))):=by
 refine aT.intro Tryz.func149 rfl Tryz.ntmps149 rfl (fun cx=>(ts (ro rfl (cQ cV) (eX (ts (rm rfl (rm rfl (ro rfl (dJ Tryz.isAgg224 Tryz.sizeOf224 (Ht rfl)) (ro rfl (cZ Tryz.call137 (Ih hl hm hL h1 h2) ⟨(Ht rfl),(Ht rfl),(Ht rfl),trivial⟩) (ra rfl (eX ?_)))))))))))
 exact fW rfl (eU rfl)
theorem sF {z z':List Qi} {s s':List (List Qi)} {L:Nat} (hz:dA z L) (hz2:dA z' L) (hs:dM s L) (hs2:dM s' L) (hL:1 ≤ L) (h:L ≤ 8796093022208) (hsh:iL s z.length z.length) (hsh2:iL s' z'.length z'.length) (hl:z.length ≤ 1000) (hl2:z'.length ≤ 1000):aT Tryz.prog 64 [eL z s,eL z' s'] (aC (Qa z z' s s')):=by
 have e1:∀ r,r ∈ s → r.length ≤ 1000:=fun r hr=>by rw [hsh.2 r hr]; exact hl
 have e2:∀ r,r ∈ s' → r.length ≤ 1000:=fun r hr=>by rw [hsh2.2 r hr]; exact hl2
 have e3:s.length ≤ 1000:=by rw [hsh.1]; exact hl
 have e4:s'.length ≤ 1000:=by rw [hsh2.1]; exact hl2
 refine aT.intro Tryz.func64 rfl Tryz.ntmps64 rfl (fun cx=>(ts (rn rfl (fG (Ht rfl)) fun B2=>(rn rfl (fG (Ht rfl)) fun B3=>(ro rfl (cQ cV) (eX (ts (rn rfl (eW (Ts:=[Is (.nilFunc)]) Tryz.zeroValue224 rfl (fun V=>aW zd (aG))) fun B5=>(iD Tryz.sizeOf224 (Ht rfl) (aB.fn Tryz.call148 (γ:={x:Qi × Qi // aP x.1 L ∧ aP x.2 L}) (Ts:=fun x=>[aL x.1.1,aL x.1.2]) (U:=fun x=>aC (decide (x.1.1 = x.1.2))) (fun x=>haveI:=x.2.1; haveI:=x.2.2; Oe (L:=L) h)) (i:=2) rfl (aK rfl) rfl ?_)))))))))
 refine eX (cK (gV (i:=2) (tt:=5) rfl rfl jT (cY (ro rfl (qP (γ:={x:List Qi × List Qi // (dA x.1 L ∧ x.1.length ≤ 1000) ∧ dA x.2 L ∧ x.2.length ≤ 1000}) (Ts:=fun x=>[bP x.1.1,bP x.1.2]) (U:=fun x=>aC (decide (x.1.1 = x.1.2))) Tryz.call149 (fun x=>Og x.2.1.1 x.2.2.1 hL x.2.1.2 x.2.2.2) ⟨(Ht rfl),trivial⟩) (ra rfl (eX (ts (ro rfl (eZ iH (Ht rfl) rfl) (ro rfl (eY A_54 Z_54 (Ht rfl) (i:=0) rfl rfl) (ro rfl (eZ iH (Ht rfl) rfl) (ro rfl (eY A_54 Z_54 (Ht rfl) (i:=1) rfl rfl) ?_)))))))))))
 refine ro rfl (cZ Tryz.call137 (Ih hz hz2 hL hl hl2) ⟨(Ht rfl),(Ht rfl),(aB.fn Tryz.call45 (γ:={x:Qi × Qi // aP x.1 L ∧ aP x.2 L}) (Ts:=fun x=>[aL x.1.1,aL x.1.2]) (U:=fun x=>aC (decide (x.1.1 = x.1.2))) (fun x=>haveI:=x.2.1; haveI:=x.2.2; wO (L:=L) (M:=L) zo zo)),trivial⟩) (rm rfl (fQ rfl rfl (eK rfl rfl (Ht rfl) (fun h=>eZ iY (Ht rfl) rfl)) (fQ rfl rfl (eK rfl rfl (Ht rfl) (fun h=>eY A_78 Z_78 (fJ rfl h) (i:=0) rfl rfl)) (fQ rfl rfl (eK rfl rfl (Ht rfl) (fun h=>eZ iY (Ht rfl) rfl)) ?_))))
 refine fQ rfl rfl (eK rfl rfl (Ht rfl) (fun h=>eY A_78 Z_78 (fJ rfl h) (i:=1) rfl rfl)) (fQ rfl rfl (eK rfl rfl (Ht rfl) (fun h=>cX (Ht rfl))) (fQ rfl rfl (eK rfl rfl (Ht rfl) (fun h=>cZ Tryz.call150 (Sx hs hs2 e1 e2 e3 e4) ⟨(fJ rfl h),(fJ rfl h),(fJ rfl h),trivial⟩)) (ro rfl (eS (Ht rfl) (fun h=>(fJ rfl h))) (ra rfl (eX (fW rfl (fX (eU rfl) ?_)))))))
 exact (cT rfl)
end
section
open Go Go.RowKit
namespace Qi
theorem Cd {x:Qi}:0 ≤ x.a ↔ 0 ≤ x.re:=by
 have hk:0 < x.den / x.re.den:=Nat.div_pos (Nat.le_of_dvd x.den_pos (Nat.dvd_lcm_left _ _)) x.re.den_pos
 rw [← Rat.num_nonneg]
 show 0 ≤ x.re.num * ((x.den / x.re.den:Nat):Int) ↔ _
 generalize x.den / x.re.den = k at hk
 constructor
 ·intro h
  exact Int.nonneg_of_mul_nonneg_left h zo
 ·intro h; exact Int.mul_nonneg h zo
theorem a_neg {x:Qi}:x.a < 0 ↔ x.re < 0:=by
 have:=@Cd x
 constructor
 ·intro h; rcases Rat.not_le.1 (fun k=>by have:=this.2 k; omega) with h; exact h
 ·intro h; exact Int.not_le.1 fun k=>Rat.not_le.2 h (this.1 k)
theorem a_pos {x:Qi}:0 < x.a ↔ 0 < x.re:=by
 have h1:=@Cd x; have h2:=@a_zero x
 constructor
 ·intro h
  have h3:0 ≤ x.re:=h1.1 zo
  have h4:x.re ≠ 0:=fun e=>by have:=h2.2 e; omega
  exact Rat.lt_of_le_of_ne h3 (Ne.symm h4)
 ·intro h
  have h3:0 ≤ x.a:=h1.2 (by grind)
  have h4:x.a ≠ 0:=fun e=>by have:=h2.1 e; grind
  omega
end Qi
theorem Oq {m n:Int} (h1:m < 0 ↔ n < 0) (h2:0 < m ↔ 0 < n):iT m 0 = iT n 0:=by
 unfold iT
 by_cases a:m < 0
 ·rw [if_pos a,if_pos (h1.1 a)]
 ·rw [if_neg a, if_neg (fun k => a (h1.2 k))]
  by_cases b:0 < m
  ·rw [if_pos b,if_pos (h2.1 b)]
  ·rw [if_neg b,if_neg (fun k=>b (h2.2 k))]
theorem Ot (m n:Int):iT m n = iT (m - n) 0:=by
 unfold iT
 by_cases a:m < n
 ·rw [if_pos a,if_pos zo]
 ·rw [if_neg a, if_neg (by omega : ¬ m - n < 0)]
  by_cases b:n < m
  ·rw [if_pos b,if_pos zo]
  ·rw [if_neg b,if_neg zo]
def nD (x y:Qi):Int:=iT (x - y).a 0
theorem Ao {x y:Qi}:nD x y < 0 ↔ x.re < y.re:=by
 rw [nD,Oo,Qi.a_neg]; show x.re - y.re < 0 ↔ _; constructor <;> intro h <;> grind
theorem Iw {x y:Qi}:0 < nD x y ↔ y.re < x.re:=by
 rw [nD,wV,Qi.a_pos]; show 0 < x.re - y.re ↔ _; constructor <;> intro h <;> grind
theorem An {x y:Qi}:nD x y ≤ 0 ↔ x.re ≤ y.re:=by
 have:=@Iw x y
 constructor
 ·intro h; exact Rat.not_lt.1 fun k=>by have:=this.2 k; omega
 ·intro h; exact Int.not_lt.1 fun k=>Rat.not_lt.2 h (this.1 k)
theorem mI {x y:Qi} (hx:x.b = 0) (hy:y.b = 0):pF x y = nD x y:=by
 have e2:iT (x.b * y.den) (y.b * x.den) = 0:=by rw [hx,hy]; simp [iT]
 have h0 : x - y = Qi.mk' (x.a * y.den + -y.a * x.den) (x.b * y.den + -y.b * x.den) (x.den * y.den) := by
  obtain ⟨n1,n2,n3⟩:=Qi.neg_a y
  rw [Qi.sub_def,← Qi.mk_add,n1,n2,n3]
 obtain ⟨k,hk,_,h2,_⟩:=Qi.mk_scale (x.a * y.den + -y.a * x.den) (x.b * y.den + -y.b * x.den) (Nat.mul_pos x.den_pos y.den_pos)
 rw [← h0] at h2
 have e1 : iT (x.a * y.den) (y.a * x.den) = nD x y := by
  rw [Ot,nD]
  have e:x.a * y.den - y.a * x.den = (x - y).a * k:=by rw [← h2,Int.neg_mul]; omega
  rw [e]
  refine Oq ?_ ?_
  ·constructor
   ·intro h; exact Int.not_le.1 fun g=>by have:=Int.mul_nonneg g (by omega:(0:Int) ≤ k); omega
   ·intro h; exact Int.mul_neg_of_neg_of_pos h zo
  ·constructor
   ·intro h; exact Int.not_le.1 fun g=>by have:=Int.mul_nonpos_of_nonpos_of_nonneg g (by omega:(0:Int) ≤ k); omega
   ·intro h; exact Int.mul_pos h zo
 unfold pF
 rw [e1,e2]
 by_cases h:nD x y ≠ 0
 ·rw [if_pos h]
 ·rw [if_neg h]; exact (Decidable.not_not.1 h).symm
def kY (f : Nat → Int) : Nat → Int
 | 0=>0
 | n + 1=>if kY f n ≠ 0 then kY f n else f n
theorem tZ {f:Nat → Int} {k:Nat} (h:∀ i,i < k → f i = 0) (hk:f k ≠ 0):∀ {n:Nat},k < n → kY f n = f k:=by
 have hz : kY f k = 0 := by
  clear hk
  induction k with
  | zero=>rfl
  | succ k ih=>rw [kY,ih (fun i hi=>h i zo),if_neg (by simp),h k zo]
 intro n
 induction n with
 | zero=>intro h; omega
 | succ n ih =>
  intro hn
  by_cases e:n = k
  ·rw [e,kY,hz,if_neg (by simp)]
  ·rw [kY,ih zo,if_pos hk]
theorem nH {f : Nat → Int} : ∀ {n : Nat}, (∀ i, i < n → f i = 0) → kY f n = 0
 | 0,_=>rfl
 | n + 1,h=>by rw [kY,nH (fun i hi=>h i zo),if_neg (by simp),h n zo]
abbrev eF (l:List (Qi × Qi)) (i:Nat):Qi:=(l.getD i (Qi.zero,Qi.zero)).1
abbrev eV (l:List (Qi × Qi)) (i:Nat):Qi:=(l.getD i (Qi.zero,Qi.zero)).2
structure Xf (l:List (Qi × Qi)) (f:Qi):Prop where
 real:∀ i,i < l.length → (eF l i).b = 0 ∧ (eV l i).b = 0
 up:∀ i,0 < i → i < l.length → (eF l (i - 1)).re < (eF l i).re
 fr:f.b = 0
theorem a0m {x:Qi} (h:gI x = true):x.b = 0:=by simp only [gI,decide_eq_true_eq] at h; exact h.1
theorem Xf.mono {l : List (Qi × Qi)} {f : Qi} (h : Xf l f) {i : Nat} : ∀ {j : Nat}, i < j → j < l.length → (eF l i).re < (eF l j).re
 | 0,h1,_=>by omega
 | j + 1, h1, h2 => by
  have h3:=h.up (j + 1) zo h2
  rw [Nat.add_sub_cancel] at h3
  by_cases e:i = j
  ·rw [e]; exact h3
  ·have := h.mono (i := i) (j := j) zo zo
   grind
theorem Qi.sub_ne {x y : Qi} (h : x.re ≠ y.re) : x - y ≠ Qi.zero := fun e => h (by
 have:(x - y).re = 0:=by rw [e]; rfl
 have h2:x.re - y.re = 0:=this
 grind)
def a0M (l:List (Qi × Qi)) (L:Nat):Prop:=∀ e,e ∈ l → aP e.1 L ∧ aP e.2 L
theorem a0M.get {l:List (Qi × Qi)} {L:Nat} (h:a0M l L) (hL:1 ≤ L) (i:Nat):aP (eF l i) L ∧ aP (eV l i) L:=by
 by_cases hi:i < l.length
 ·have e : l.getD i (Qi.zero, Qi.zero) = l[i] := by simp [List.getD, hi]
  show aP (l.getD i _).1 L ∧ aP (l.getD i _).2 L
  rw [e]; exact h _ (List.getElem_mem hi)
 ·have e : l.getD i (Qi.zero, Qi.zero) = (Qi.zero, Qi.zero) := by simp [List.getD, List.getElem?_eq_none (Nat.le_of_not_lt hi)]
  show aP (l.getD i _).1 L ∧ aP (l.getD i _).2 L
  rw [e]; exact ⟨aP.zero hL,aP.zero hL⟩
end
section
open Go Go.RowKit
@[irreducible] def a1Z (a:Nat):Nat:=a % 9223372036854775808
section
variable {P:Program} {R:cO} {cx:Cx} {n:Nat} {k:List It} {E:bD} {H:Hp} {ops:Array Oper} {o:Oper} {rest:List Oper}
section
variable {d:Option Tmp} {t tx ty:TypeId} {pos:String} {af:Array Edge} {g:Option (Nat × Bool)}
end
end
end
section
namespace Fl
open Ieee
@[irreducible] def w25:Nat:=925
def mg (f:Format) (r:Nat):Nat:=if r < f.binade then r else f.binade + r % f.binade
def up (f:Format) (r:Nat):Nat:=r / f.binade - 1
def nn (f:Format) (r:Nat):Nat:=mg f r * 2 ^ up f r
def rg (f:Format) (x:Nat):Nat:=x % f.signWeight
def ng (f:Format) (x:Nat):Bool:=x / f.signWeight % 2 == 1
def fin (f:Format) (x:Nat):Bool:=decide (rg f x < f.infRung)
def av (f:Format) (x:Nat):Int:=if ng f x then -(nn f (rg f x):Int) else nn f (rg f x)
theorem bs:single.binade ≤ single.infRung:=by decide
theorem wW (a b:Int):(compare a b == .lt) = decide (a < b):=by
 simp only [compare,compareOfLessAndEq]
 by_cases k:a < b
 ·rw [if_pos k]; simp [k]
 ·rw [if_neg k]
  by_cases k2:a = b
  ·rw [if_pos k2]; simp [k]
  ·rw [if_neg k2]; simp [k]
end Fl
end
section
namespace Fl
open Ieee
@[irreducible] def w74:Nat:=1074
def q32 (p:Nat):Qi:=Qi.mk' (av single p) 0 (2 ^ 149)
theorem a0q (p:Nat):(q32 p).im = 0:=by unfold q32; rw [Qi.mk_im]; push_cast; grind
theorem Gr (p:Nat):(q32 p).re = (av single p:Rat) / ((2 ^ 149:Nat):Rat):=rfl
def pw (p:Nat):Bool:=fin single p && decide (0 < av single p)
theorem Vv {p:Nat}:0 < (q32 p).re ↔ 0 < av single p:=by
 rw [Gr]
 have h : (0 : Rat) < ((2 ^ 149 : Nat) : Rat) := by
  have:((0:Nat):Rat) < ((2 ^ 149:Nat):Rat):=Rat.natCast_lt_natCast.2 (Nat.two_pow_pos _)
  exact this
 rw [Rat.lt_div_iff h,Rat.zero_mul]
 exact ⟨fun k=>Rat.intCast_lt_intCast.1 k,fun k=>Rat.intCast_lt_intCast.2 k⟩
theorem Qq {p q:Nat}:(q32 p).re ≤ (q32 q).re ↔ av single p ≤ av single q:=by
 rw [Gr,Gr]
 have h : (0 : Rat) < ((2 ^ 149 : Nat) : Rat) := by
  have:((0:Nat):Rat) < ((2 ^ 149:Nat):Rat):=Rat.natCast_lt_natCast.2 (Nat.two_pow_pos _)
  exact this
 generalize ((2 ^ 149:Nat):Rat) = D at *
 constructor
 ·intro k
  have e:∀ z:Int,(z:Rat) = (z:Rat) / D * D:=fun z=>by grind
  have:=Rat.mul_le_mul_of_nonneg_right k (Rat.le_of_lt h)
  rw [← e,← e] at this
  exact Rat.intCast_le_intCast.1 this
 ·intro k
  rw [Rat.div_def,Rat.div_def]
  exact Rat.mul_le_mul_of_nonneg_right (Rat.intCast_le_intCast.2 k) (Rat.le_of_lt (Rat.inv_pos.2 h))
end Fl
end
section
namespace Fl
theorem Qs {x y:Qi} (hx:x.im = 0) (hy:y.im = 0):(x / y).re = x.re / y.re ∧ (x / y).im = 0:=by
 have hn:y.nrm = y.re * y.re:=by unfold Qi.nrm; rw [hy]; grind
 have hi:Qi.inv y = ⟨y.re / y.nrm,-y.im / y.nrm⟩:=rfl
 constructor
 ·rw [Qi.div_def, Qi.mul_re, hi, hn, hx, hy]
  by_cases h:y.re = 0
  ·rw [h]; show x.re * (0 / (0 * 0)) - 0 * _ = _; grind
  ·show x.re * (y.re / (y.re * y.re)) - 0 * _ = _; grind
 ·rw [Qi.div_def,Qi.mul_im,hi,hx,hy]; show x.re * (-0 / _) + 0 * _ = _; grind
structure Re (x:Qi):Prop where
 im:x.im = 0
theorem Re.sub {x y:Qi} (h:Re x) (k:Re y):Re (x - y):=⟨by rw [Qi.sub_im,h.im,k.im]; grind⟩
theorem Re.add {x y:Qi} (h:Re x) (k:Re y):Re (x + y):=⟨by rw [Qi.add_im,h.im,k.im]; grind⟩
theorem Re.mul {x y:Qi} (h:Re x) (k:Re y):Re (x * y):=⟨by rw [Qi.mul_im,h.im,k.im]; grind⟩
theorem Re.div {x y:Qi} (h:Re x) (k:Re y):Re (x / y):=⟨(Qs h.im k.im).2⟩
theorem Re.one:Re (Qi.ofInt 1):=⟨rfl⟩
theorem Re.q32 (p:Nat):Re (q32 p):=⟨a0q p⟩
theorem Re.of {x:Qi} (h:x.b = 0):Re x:=⟨Qi.b_zero.1 h⟩
theorem Re.b {x:Qi} (h:Re x):x.b = 0:=Qi.b_zero.2 h.im
theorem Re.rdiv {x y:Qi} (h:Re x) (k:Re y):(x / y).re = x.re / y.re:=(Qs h.im k.im).1
theorem Re.rmul {x y:Qi} (h:Re x):(x * y).re = x.re * y.re:=by rw [Qi.mul_re,h.im]; grind
theorem Re.ext {x y:Qi} (h:Re x) (k:Re y) (e:x.re = y.re):x = y:=Qi.ext' e (by rw [h.im,k.im])
def tP (hot cold a b:Qi):Qi:=(hot - a / b * cold) / (a / b - Qi.ofInt 1)
def tR (hot cold a b:Qi):Qi:=(hot * b - cold * a) / (a - b)
theorem a1H {hot cold a b:Qi} (h:Re hot) (c:Re cold) (x:Re a) (y:Re b):Re (tP hot cold a b):=(h.sub ((x.div y).mul c)).div ((x.div y).sub Re.one)
theorem a1G {hot cold a b:Qi} (h:Re hot) (c:Re cold) (x:Re a) (y:Re b) (h0:b.re ≠ 0) (h1:a.re ≠ b.re):tP hot cold a b = tR hot cold a b:=by
 refine Re.ext (a1H h c x y) (((h.mul y).sub (c.mul x)).div (x.sub y)) ?_
 unfold tP tR
 rw [(h.sub ((x.div y).mul c)).rdiv ((x.div y).sub Re.one),((h.mul y).sub (c.mul x)).rdiv (x.sub y),Qi.sub_re,Qi.sub_re,Qi.sub_re,Qi.sub_re,(x.div y).rmul,x.rdiv y,h.rmul,c.rmul]
 show (hot.re - a.re / b.re * cold.re) / (a.re / b.re - ((1:Int):Rat)) = (hot.re * b.re - cold.re * a.re) / (a.re - b.re)
 generalize hot.re = H
 generalize cold.re = K
 generalize a.re = p at *
 generalize b.re = q at *
 have e:p = p / q * q:=by grind
 generalize p / q = y at *
 subst e
 have hy:y - 1 ≠ 0:=by grind
 have e1:y * q - q = (y - 1) * q:=by grind
 have e2:H * q - K * (y * q) = (H - y * K) * q:=by grind
 rw [e1,e2]
 show (H - y * K) / (y - 1) = _
 grind
theorem pos_re {x:Qi} (h:gI x = true):Re x:=Re.of (a0m h)
theorem Bn {p:Nat} (h:pw p = true):0 < (q32 p).re:=by
 unfold pw at h; simp only [Bool.and_eq_true,decide_eq_true_eq] at h; exact Vv.2 h.2
def Qt (hot cold:Qi) (p q:Nat):Int:=if !Yi hot || !Yi cold || !pw p || !pw q then 1 else if decide (nD hot cold ≤ 0) || decide (av Ieee.single p ≤ av Ieee.single q) then 7 else if (tR hot cold (q32 p) (q32 q)).re < 0 then 5 else 0
def Vx (hot cold:Qi) (p q:Nat):Qi × Int:=if Qt hot cold p q = 0 then (tR hot cold (q32 p) (q32 q),0) else (Qi.zero,Qt hot cold p q)
structure yU (hot cold:Qi) (p q:Nat):Prop where
 h:Re hot
 c:Re cold
 pp:pw p = true
 pq:pw q = true
 ord:¬ av Ieee.single p ≤ av Ieee.single q
theorem yU.eq {hot cold : Qi} {p q : Nat} (h : yU hot cold p q) : tP hot cold (q32 p) (q32 q) = tR hot cold (q32 p) (q32 q) :=
 a1G h.h h.c (Re.q32 p) (Re.q32 q) (fun e=>by have:=Bn h.pq; rw [e] at this; exact Rat.lt_irrefl this) (fun e=>h.ord (Qq.1 (by rw [e]; exact Rat.le_refl)))
theorem yU.ne {hot cold:Qi} {p q:Nat} (h:yU hot cold p q):q32 q ≠ Qi.zero ∧ q32 p - q32 q ≠ Qi.zero ∧ q32 p / q32 q - Qi.ofInt 1 ≠ Qi.zero:=by
 have h0:(q32 q).re ≠ 0:=fun e=>by have:=Bn h.pq; rw [e] at this; exact Rat.lt_irrefl this
 have h1:(q32 p).re ≠ (q32 q).re:=fun e=>h.ord (Qq.1 (by rw [e]; exact Rat.le_refl))
 refine ⟨fun e=>h0 (by rw [e]; rfl),Qi.sub_ne h1,Qi.sub_ne ?_⟩
 rw [(Re.q32 p).rdiv (Re.q32 q)]
 show _ ≠ ((1:Int):Rat)
 intro e
 apply h1
 have:(q32 p).re / (q32 q).re = 1:=e
 grind
theorem yU.real {hot cold:Qi} {p q:Nat} (h:yU hot cold p q):Re (tR hot cold (q32 p) (q32 q)):=((h.h.mul (Re.q32 q)).sub (h.c.mul (Re.q32 p))).div ((Re.q32 p).sub (Re.q32 q))
theorem Qo {x:Qi} (h:gI x = true):0 < x.re:=by
 simp only [gI,decide_eq_true_eq] at h; exact Qi.a_pos.1 h.2
def cR (n o a b k:Qi):Qi:=(n * (k * a - b) + a * (o - k * n)) / (o - k * n + (k * a - b))
end Fl
end
section
namespace Fl
def lv (l:List (Nat × Nat)):List (Qi × Qi):=l.map fun e=>(q32 e.1,q32 e.2)
abbrev bI (l:List (Nat × Nat)) (i:Nat):Nat:=(l.getD i (0,0)).1
abbrev bO (l:List (Nat × Nat)) (i:Nat):Nat:=(l.getD i (0,0)).2
theorem Gh {l:List (Nat × Nat)} {i:Nat} (h:i < l.length):eF (lv l) i = q32 (bI l i) ∧ eV (lv l) i = q32 (bO l i):=by
 unfold eF eV bI bO lv
 simp [List.getD,List.getElem?_map,List.getElem?_eq_getElem h]
def a1R (l:List (Nat × Nat)) (i:Nat):Int:=if pw (bI l i) = true ∧ pw (bO l i) = true then (if 0 < i ∧ av Ieee.single (bI l i) ≤ av Ieee.single (bI l (i - 1)) then 7 else 0) else 1
def Ps (l:List (Nat × Nat)):Int:=if l.length = 0 ∨ 256 < l.length then 4 else kY (a1R l) l.length
structure Hl (l:List (Nat × Nat)):Prop where
 pos:∀ i,i < l.length → pw (bI l i) = true ∧ pw (bO l i) = true
 up:∀ i,0 < i → i < l.length → (q32 (bI l (i - 1))).re < (q32 (bI l i)).re
 n0:0 < l.length
 n1:l.length ≤ 256
def bnd (l:List (Nat × Nat)) (f:Qi):Qi:=eV (lv l) 0 / eF (lv l) 0 * f
def Ol (l:List (Nat × Nat)) (f:Qi):Int:=yO (fun e:Qi × Qi=>decide (pF e.2 (bnd l f * e.1) ≤ 0)) (lv l)
def a1o (f:Qi):Bool:=gI f && decide (f.re < 1)
def comp (l : List (Nat × Nat)) (f : Qi) : Qi × Int :=
 if Ps l ≠ 0 then (Qi.zero,Ps l) else if a1o f = false then (Qi.zero,1) else if Ol l f < 0 then (Qi.zero,5)
 else (cR (eF (lv l) ((Ol l f).toNat - 1)) (eV (lv l) ((Ol l f).toNat - 1)) (eF (lv l) (Ol l f).toNat) (eV (lv l) (Ol l f).toNat) (bnd l f),0)
section
variable {l:List (Nat × Nat)} {f:Qi}
theorem Hl.re (h:Hl l) {i:Nat} (hi:i < l.length):Re (eF (lv l) i) ∧ Re (eV (lv l) i) ∧ 0 < (eF (lv l) i).re ∧ 0 < (eV (lv l) i).re:=by
 obtain ⟨e1,e2⟩:=Gh hi
 obtain ⟨p1,p2⟩:=h.pos i hi
 rw [e1,e2]; exact ⟨Re.q32 _,Re.q32 _,Bn p1,Bn p2⟩
theorem Hl.lt (h:Hl l) {i:Nat} (h0:0 < i) (hi:i < l.length):(eF (lv l) (i - 1)).re < (eF (lv l) i).re:=by
 rw [(Gh hi).1,(Gh (show i - 1 < l.length by omega)).1]; exact h.up i h0 hi
end
end Fl
end
section
namespace Fl
open Ieee
def bS (c n:Nat):List (Nat × Nat):=(List.range n).map fun i=>(single.nearest false (i + 1) 0,single.nearest false ((i + 1) * c) 0)
theorem iO (c n:Nat):(bS c n).length = n:=by simp [bS]
theorem mT {c n i:Nat} (h:i < n):bI (bS c n) i = single.nearest false (i + 1) 0 ∧ bO (bS c n) i = single.nearest false ((i + 1) * c) 0:=by
 unfold bI bO bS
 simp [List.getD,List.getElem?_map,List.getElem?_range h]
end Fl
end
section
open Go Go.RowKit
open Fl
@[irreducible] def wF:Nat:=2050
section
attribute [local irreducible] callFunc
end
section
attribute [local irreducible] callFunc
end
section
attribute [local irreducible] callFunc
end
end
end Go.Proofs.YthcmlodgnfekeaaGreat
