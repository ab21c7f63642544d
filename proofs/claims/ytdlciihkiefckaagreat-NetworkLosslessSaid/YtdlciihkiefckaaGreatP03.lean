/- What functions of the program compute, proved by walks over their code, and the plain mathematics of it; a part of the proof in the last text. -/
import Derived.Test.YtdlciihkiefckaaGreatP02
set_option linter.unusedVariables false
set_option linter.unusedSimpArgs false
set_option maxRecDepth 100000
set_option maxHeartbeats 4000000
namespace Go.Proofs.YtdlciihkiefckaaGreat
section
open Go Go.RowKit
theorem a5Y {m n:Nat} (hm:(dg m).length ≤ 17592186044416) (hn:(dg n).length ≤ 17592186044416):bF Tryz.prog 235 [aS m,aS n] (aS (m + n)):=by
 refine bF.intro Tryz.func235 rfl Tryz.ntmps235 rfl (fun cx=>(ts (ro rfl (cQ cV) (eX (cK (wH (fun (p:Nat) (q:Nat)=>p + q = m + n ∧ (dg q).length ≤ (dg p).length ∧ (dg p).length ≤ 17592186044416) (fun (p:Nat) (q:Nat)=>[(0,aS p),(1,aS q)]) (fun (p:Nat) (q:Nat)=>[]) ?_ (fun p q ⟨hpq,hle,hlp⟩=>?_)))))))
 ·refine ts (rm rfl (ro rfl (dG U_56 (Ht rfl) aC) (rm rfl (ro rfl (dG U_56 (Ht rfl) aC) (ro rfl (gX (Ht rfl) (Ht rfl)) (eX (dQ (Ht rfl) (fun hb => ?_) (fun hb => ?_))))))))
  ·simp at hb
   refine cY (rm rfl (rm rfl (ra rfl (ra rfl (eX (bD (n,m) ⟨Nat.add_comm _ _,Nat.le_of_lt hb,hn⟩ (zS rfl) aY))))))
  ·simp at hb
   refine cU (bD (m,n) ⟨rfl,hb,hm⟩ (zS rfl) aY)
 ·refine ts (rm rfl (ro rfl (dG U_56 (Ht rfl) aC) (ro rfl (dV (Ht rfl) (cJ 1) z6) (rn rfl (jN (T := dL 0) (i := Tryz.t218) V_56 oB rfl rfl (Ht rfl) rfl (fun _ => rfl) trivial (by show 4 * _ ≤ _; omega) zo) fun B19 => (ra rfl (eX (ts (ro rfl (cQ (cJ 0)) (eX (cK (ts (rm rfl (ro rfl (dG U_56 (Ht rfl) aC) (ro rfl (cX (cJ 0)) (eX (eG ?_))))))))))))))))
  refine oW (fun (k : Nat) (out : List Nat) (c : Nat) => Fp (dg p) (dg q) out k c) (fun (k : Nat) (out : List Nat) (c : Nat) => (dg p).length - k) (fun (k : Nat) (out : List Nat) (c : Nat) => [(0, aS p), (1, aS q), (5, Is (.slice (some ⟨B19, 0, none⟩) ((dg p).length + 1) ((dg p).length + 1))), (6, dL c), (21, NT .i64 (dg p).length), (22, NT .i64 k)]) (fun (k : Nat) (out : List Nat) (c : Nat) => [box B19 218 (out.map dL)]) 0 (List.replicate ((dg p).length + 1) 0) 0 (Fp.start _ _)
   (zS rfl) (aU (aD (sB _)) aY) (fun k out c hS=>?_)
  refine ts (ro rfl (gX (Ht rfl) (Ht rfl)) (eX (cK (dQ (Ht rfl) (fun hb=>?_) (fun hb=>?_)))))
  ·simp at hb
   have hlen:=hS.len; have hcl:=hS.cle; have hxk:=cC (dI p) k; have hyk:=cC (dI q) k
   simp only [BB] at hxk hyk
   refine cU (cK (eG (ts (rm rfl (ra rfl (eX (ts (ro rfl (cQ (cJ 0)) (eX (cK (kQ (fun (uu:Unit)=>True) (fun (uu:Unit)=>[(0,aS p),(1,aS q),(5,Is (.slice (some ⟨B19,0,none⟩) ((dg p).length + 1) ((dg p).length + 1))),(6,dL c),(7,NT .i64 k),(8,dL ((dg q).getD k 0)),(21,NT .i64 (dg p).length),(22,NT .i64 k)]) (fun (uu:Unit)=>[box B19 218 (out.map dL)]) ?_ (fun uu _=>?_))))))))))))
   ·refine ts (rm rfl (rm rfl (ro rfl (dG U_56 (Ht rfl) aC) (ro rfl (gX (Ht rfl) (Ht rfl)) (eX (dQ (Ht rfl) (fun hk2 => ?_) (fun hk2 => ?_)))))))
    ·simp at hk2
     refine cY (rm rfl (rm rfl (ro rfl (dZ U_56 Z_218 (Ht rfl) (Ht rfl) rfl (dY (cF zo))) (ro rfl (dJ A_218 Z_218 (Ht rfl)) (ra rfl (eX (bD () trivial (zS rfl) (eI.refl _))))))))
    ·simp at hk2
     refine cU (bD () trivial (aQ rfl (aQ rfl (aQ rfl (aQ rfl (aQ rfl (aZ rfl (nB (by simp [List.getD,List.getElem?_eq_none hk2])) (zS rfl))))))) (eI.refl _))
   ·refine cY (rm rfl (rm rfl (rm rfl (rm rfl (ro rfl (dZ U_56 Z_218 (Ht rfl) (Ht rfl) rfl (dY (cF zo))) (ro rfl (dJ A_218 Z_218 (Ht rfl)) (rm rfl (rm rfl (ro rfl (cZ Tryz.call269 (a1i hxk hyk zo) ⟨(Ht rfl), (Ht rfl), (Ht rfl), trivial⟩) (rm rfl (ro rfl (dK (Ht rfl) rfl) (ro rfl (dK (Ht rfl) rfl) (ro rfl (fY U_56 Z_218 (Ht rfl) (Ht rfl) rfl zo (by rw [Nat.mul_one, Nat.zero_add])) ?_)))))))))))))
    refine oK Z_218 (Ht rfl) (Ht rfl) (i:=0) rfl (by first | omega | (simp; omega)) rfl (ra rfl (eX (bN (cY (ro rfl (dV (Ht rfl) (cJ 1) z6) (rm rfl (eX (fU (k + 1,_,_) (hS.next (dI p) (dI q) hb) (by dsimp only; omega) (zS rfl) (aU (aD (lA _ _ _)) aY)))))))))
  ·simp at hb
   have hkl:k = (dg p).length:=Nat.le_antisymm hS.kle hb
   subst hkl
   have hlen:=hS.len; have hcl:=hS.cle
   refine gV rfl (ts (rm rfl (rm rfl (ro rfl (dG U_56 (Ht rfl) aC) (rm rfl (ro rfl (fY U_56 Z_218 (Ht rfl) (Ht rfl) rfl zo (by rw [Nat.mul_one,Nat.zero_add])) ?_))))))
   refine oK Z_218 (Ht rfl) (Ht rfl) (i:=0) rfl (by first | omega | (simp; omega)) rfl (eX (cK ?_))
   have hfin:=hS.fin hle
   refine gJ (i:=0) (tt:=5) rfl rfl (sW (lA _ _ _) (by simp [hlen]) (Nat.le_refl _)) ?_
   refine cY (rm rfl (ro rfl (cZ K_237 (rP _ (kZ hS.dig (by simp only [BB]; omega)) (by simp [hlen]; omega)) ⟨(Ht rfl),trivial⟩) ?_))
   refine ra rfl (eX (fW rfl (fX (eU rfl) ?_)))
   exact (gW (by rw [hfin,fF,fF]; exact hpq))
theorem a3u {m n:Nat} (hm:(dg m).length ≤ 17592186044416) (hnm:n ≤ m):bF Tryz.prog 236 [aS m,aS n] (aS (m - n)):=by
 have hle:=lU hnm
 refine bF.intro Tryz.func236 rfl Tryz.ntmps236 rfl (fun cx=>(ts (ro rfl (cQ cV) (eX (ts (rm rfl (ro rfl (dG U_56 (Ht rfl) aC) (rn rfl (jN (T:=dL 0) (i:=Tryz.t218) V_56 oB rfl rfl (Ht rfl) rfl (fun _=>rfl) trivial (by show 4 * _ ≤ _; omega) zo) fun B11=>(ra rfl (eX (ts (ro rfl (cQ (cJ 0)) (eX (cK (ts (rm rfl (ro rfl (dG U_56 (Ht rfl) aC) (ro rfl (cX (cJ 0)) (eX (eG ?_))))))))))))))))))))
 refine oW (fun (k : Nat) (out : List Nat) (c : Nat) => Fw (dg m) (dg n) out k c) (fun (k : Nat) (out : List Nat) (c : Nat) => (dg m).length - k) (fun (k : Nat) (out : List Nat) (c : Nat) => [(0, aS m), (1, aS n), (5, Is (.slice (some ⟨B11, 0, none⟩) (dg m).length (dg m).length)), (6, dL c), (13, NT .i64 (dg m).length), (14, NT .i64 k)]) (fun (k : Nat) (out : List Nat) (c : Nat) => [box B11 218 (out.map dL)]) 0 (List.replicate (dg m).length 0) 0 (Fw.start _ _)
  (zS rfl) (aU (aD (sB _)) aY) (fun k out c hS=>?_)
 refine ts (ro rfl (gX (Ht rfl) (Ht rfl)) (eX (cK (dQ (Ht rfl) (fun hb=>?_) (fun hb=>?_)))))
 ·simp at hb
  have hlen:=hS.len; have hcl:=hS.cle; have hxk:=cC (dI m) k; have hyk:=cC (dI n) k
  simp only [BB] at hxk hyk
  refine cU (cK (eG (ts (rm rfl (ra rfl (eX (ts (ro rfl (cQ (cJ 0)) (eX (cK (kQ (fun (uu:Unit)=>True) (fun (uu:Unit)=>[(0,aS m),(1,aS n),(5,Is (.slice (some ⟨B11,0,none⟩) (dg m).length (dg m).length)),(6,dL c),(7,NT .i64 k),(8,dL ((dg n).getD k 0)),(13,NT .i64 (dg m).length),(14,NT .i64 k)]) (fun (uu:Unit)=>[box B11 218 (out.map dL)]) ?_ (fun uu _=>?_))))))))))))
  ·refine ts (rm rfl (rm rfl (ro rfl (dG U_56 (Ht rfl) aC) (ro rfl (gX (Ht rfl) (Ht rfl)) (eX (dQ (Ht rfl) (fun hk2 => ?_) (fun hk2 => ?_)))))))
   ·simp at hk2
    refine cY (rm rfl (rm rfl (ro rfl (dZ U_56 Z_218 (Ht rfl) (Ht rfl) rfl (dY (cF zo))) (ro rfl (dJ A_218 Z_218 (Ht rfl)) (ra rfl (eX (bD () trivial (zS rfl) (eI.refl _))))))))
   ·simp at hk2
    refine cU (bD () trivial (aQ rfl (aQ rfl (aQ rfl (aQ rfl (aQ rfl (aZ rfl (nB (by simp [List.getD,List.getElem?_eq_none hk2])) (zS rfl))))))) (eI.refl _))
  ·refine cY (rm rfl (rm rfl (rm rfl (rm rfl (ro rfl (dZ U_56 Z_218 (Ht rfl) (Ht rfl) rfl (dY (cF zo))) (ro rfl (dJ A_218 Z_218 (Ht rfl)) (rm rfl (rm rfl (ro rfl (cZ Tryz.call270 (a1t hxk hyk zo) ⟨(Ht rfl), (Ht rfl), (Ht rfl), trivial⟩) (rm rfl (ro rfl (dK (Ht rfl) rfl) (ro rfl (dK (Ht rfl) rfl) (ro rfl (fY U_56 Z_218 (Ht rfl) (Ht rfl) rfl zo (by rw [Nat.mul_one, Nat.zero_add])) ?_)))))))))))))
   refine oK Z_218 (Ht rfl) (Ht rfl) (i:=0) rfl (by first | omega | (simp; omega)) rfl (ra rfl (eX (bN (cY (ro rfl (dV (Ht rfl) (cJ 1) z6) (rm rfl (eX (fU (k + 1,_,_) (hS.next (dI m) (dI n) hb) (by dsimp only; omega) (zS rfl) (aU (aD (lA _ _ _)) aY)))))))))
 ·simp at hb
  have hkl:k = (dg m).length:=Nat.le_antisymm hS.kle hb
  subst hkl
  have hlen:=hS.len
  have hfin:=hS.fin (dI m) hle (by rw [fF,fF]; exact hnm)
  rw [fF,fF] at hfin
  refine gV rfl (gJ (i:=0) (tt:=5) rfl rfl (sW rfl hlen.symm (Nat.le_refl _)) (ts (rm rfl (ro rfl (cZ K_237 (rP _ hS.dig zo) ⟨(Ht rfl),trivial⟩) (ra rfl (eX (fW rfl (fX (eU rfl) ?_))))))))
  exact (gW hfin)
theorem Ej {m n:Nat} (hm:(dg m).length ≤ 17592186044416) (hn:(dg n).length ≤ 17592186044416):bF Tryz.prog 154 [aS m,aS n] (aS (m * n)):=by
 refine bF.intro Tryz.func154 rfl Tryz.ntmps154 rfl (fun cx=>(ts (ro rfl (cQ cV) (eX (cK (ts (rm rfl (ro rfl (dG U_56 (Ht rfl) aC) (ro rfl (eC (Ht rfl) (cJ 0)) (rm rfl (fQ rfl rfl (eK rfl rfl (Ht rfl) (fun h=>cX (Ht rfl))) (fQ rfl rfl (eK rfl rfl (Ht rfl) (fun h=>dG U_56 (fJ rfl h) aC)) (fQ rfl rfl (eK rfl rfl (Ht rfl) (fun h=>eC (fJ rfl h) (cJ 0))) (ro rfl (nD (Ht rfl) (fun h=>(fJ rfl h))) (eX (dQ (Ht rfl) (fun hb=>?_) (fun hb=>?_)))))))))))))))))
 ·simp [bO] at hb
  have h0 : m * n = 0 := by
   rcases hb with h | h <;> simp_all [yB]
  refine ts (ro rfl (cQ cV) (eX (fW rfl (fX (eU rfl) ?_))))
  exact (fun v V h=>by rw [h0]; exact oG v V h)
 ·clear hb
  refine cU (ts (rm rfl (ro rfl (dG U_56 (Ht rfl) aC) (rm rfl (ro rfl (dG U_56 (Ht rfl) aC) (ro rfl (dV (Ht rfl) (Ht rfl) z6) (rn rfl (jN (T:=dL 0) (i:=Tryz.t218) V_56 oB rfl rfl (Ht rfl) rfl (fun _=>rfl) trivial (by show 4 * _ ≤ _; omega) zo) fun B24=>(ra rfl (eX (cK (ts (rm rfl (ro rfl (dG U_56 (Ht rfl) aC) (ro rfl (cX (cJ 0)) (eX (eG ?_))))))))))))))))
  refine jE (fun (i : Nat) (out : List Nat) => Fr (dg m) (dg n) out i) (fun (i : Nat) (out : List Nat) => (dg m).length - i) (fun (i : Nat) (out : List Nat) => [(0, aS m), (1, aS n), (5, Is (.slice (some ⟨B24, 0, none⟩) ((dg m).length + (dg n).length) ((dg m).length + (dg n).length))), (25, aS m), (26, NT .i64 (dg m).length), (27, NT .i64 i)]) (fun (i : Nat) (out : List Nat) => [box B24 218 (out.map dL)]) 0 (List.replicate ((dg m).length + (dg n).length) 0) (Fr.start _ _)
   (zS rfl) (aU (aD (sB _)) aY) (fun i out hS=>?_)
  refine ts (ro rfl (gX (Ht rfl) (Ht rfl)) (eX (cK (dQ (Ht rfl) (fun hb=>?_) (fun hb=>?_)))))
  ·simp at hb
   have hxi:=cC (dI m) i
   simp only [BB] at hxi
   refine cU (cK (eG (ts (rm rfl (ro rfl (dZ U_56 Z_218 (Ht rfl) (Ht rfl) rfl (dY (cF zo))) (ro rfl (dJ A_218 Z_218 (Ht rfl)) (ra rfl (ra rfl (eX (ts (ro rfl (cQ (cJ 0)) (eX (cK (ts (rm rfl (ro rfl (dG U_56 (Ht rfl) aC) (ro rfl (cX (cJ 0)) (eX (eG ?_)))))))))))))))))))
   refine oW (fun (k : Nat) (out2 : List Nat) (c : Nat) => Lw (dg m) (dg n) out2 i k c) (fun (k : Nat) (out2 : List Nat) (c : Nat) => (dg n).length - k) (fun (k : Nat) (out2 : List Nat) (c : Nat) => [(0, aS m), (1, aS n), (5, Is (.slice (some ⟨B24, 0, none⟩) ((dg m).length + (dg n).length) ((dg m).length + (dg n).length))), (6, NT .i64 i), (7, dL ((dg m).getD i 0)), (8, NT .u64 c), (25, aS m), (26, NT .i64 (dg m).length), (27, NT .i64 i), (32, aS n), (33, NT .i64 (dg n).length), (34, NT .i64 k)]) (fun (k : Nat) (out2 : List Nat) (c : Nat) => [box B24 218 (out2.map dL)]) 0 out 0 (hS.row hb)
    (zS rfl) (eI.refl _) (fun k out2 c hR=>?_)
   refine ts (ro rfl (gX (Ht rfl) (Ht rfl)) (eX (cK (dQ (Ht rfl) (fun hk=>?_) (fun hk=>?_)))))
   ·simp at hk
    have hlen:=hR.len; have hcl:=hR.clt; have hyk:=cC (dI n) k; have hok:=cC hR.dig (i + k)
    have hbnd:=yK (cC (dI m) i) (cC (dI n) k) (cC hR.dig (i + k)) hR.clt
    simp only [BB] at hcl hyk hok hbnd
    refine cU (cK (eG (ts (rm rfl (ro rfl (dZ U_56 Z_218 (Ht rfl) (Ht rfl) rfl (dY (cF zo))) (ro rfl (dJ A_218 Z_218 (Ht rfl)) (ra rfl (ra rfl (eX (ts (rm rfl (rm rfl (ro rfl (gZ U_218 U_263 (Ht rfl) z7) (rm rfl (ro rfl (gZ U_218 U_263 (Ht rfl) z7) (ro rfl (pD (Ht rfl) (Ht rfl) (by show _ < 18446744073709551616; omega)) ?_))))))))))))))))
    refine rm rfl (rm rfl (rm rfl (ro rfl (dV (Ht rfl) (Ht rfl) z6) (ro rfl (fY U_56 Z_218 (Ht rfl) (Ht rfl) rfl zo (by rw [Nat.mul_one,Nat.zero_add])) ?_))))
    refine ro rfl (eY A_218 Z_218 (Ht rfl) (i:=0) rfl (dY (cF zo))) (ro rfl (gZ U_218 U_263 (Ht rfl) z7) (ro rfl (dV (Ht rfl) (Ht rfl) z7) (ro rfl (dV (Ht rfl) (Ht rfl) z7) (ra rfl (eX (ts (rm rfl (rm rfl (rm rfl (ro rfl (dV (Ht rfl) (Ht rfl) z6) ?_))))))))))
    refine rm rfl (ro rfl (lH rfl U_263 U_218 (Ht rfl)) (ro rfl (fY U_56 Z_218 (Ht rfl) (Ht rfl) rfl zo (by rw [Nat.mul_one,Nat.zero_add])) ?_))
    refine oK Z_218 (Ht rfl) (Ht rfl) (i:=0) rfl (by first | omega | (simp; omega)) rfl (eX (cY (rm rfl (ro rfl (jO (Ht rfl) (cJ 32) (by decide)) (ra rfl (eX (bN (cY (ro rfl (dV (Ht rfl) (cJ 1) z6) (rm rfl (eX (fU (k + 1,_,_) (hR.next (dI m) (dI n) hk rfl) (by dsimp only; omega) (zS rfl) (aU (aD (lA _ _ _)) aY)))))))))))))
   ·simp at hk
    have hkl:k = (dg n).length:=Nat.le_antisymm hR.kle hk
    subst hkl
    have hlen:=hR.len; have hcl:=hR.clt
    simp only [BB] at hcl
    refine gV rfl (cY (rm rfl (rm rfl (rm rfl (ro rfl (dG U_56 (Ht rfl) aC) (ro rfl (dV (Ht rfl) (Ht rfl) z6) (rm rfl (ro rfl (gZ U_263 U_218 (Ht rfl) (by show _ < 4294967296; first | omega | (simp only [oD]; omega))) (ro rfl (fY U_56 Z_218 (Ht rfl) (Ht rfl) rfl zo (by rw [Nat.mul_one,Nat.zero_add])) ?_)))))))))
    refine oK Z_218 (Ht rfl) (Ht rfl) (i:=0) rfl (by first | omega | (simp; omega)) rfl (eX (bN (cY (ro rfl (dV (Ht rfl) (cJ 1) z6) (rm rfl (eX (fU (i + 1,_) (hR.fin) (by dsimp only; omega) (zS rfl) (aU (aD (lA _ _ _)) aY))))))))
  ·simp at hb
   have hkl:i = (dg m).length:=Nat.le_antisymm hS.ile hb
   subst hkl
   have hlen:=hS.len
   have hfin:=hS.fin
   rw [fF,fF] at hfin
   refine gV rfl (gJ (i:=0) (tt:=5) rfl rfl (sW rfl hlen.symm (Nat.le_refl _)) (ts (rm rfl (ro rfl (cZ K_237 (rP _ hS.dig zo) ⟨(Ht rfl),trivial⟩) (ra rfl (eX (fW rfl (fX (eU rfl) ?_))))))))
   exact (gW hfin)
end
section
open Go Go.RowKit
theorem a1p {v:Nat} (hv:v < 4294967296):bF Tryz.prog 284 [dL v] (NT .i64 (bl v)):=by
 refine bF.intro Tryz.func284 rfl Tryz.ntmps284 rfl (fun cx=>(ts (ro rfl (cQ (cJ 0)) (eX (cK (wH (fun (q:Nat) (x:Nat)=>bl v = q + bl x ∧ x < 65536 ∧ q ≤ 16) (fun (q:Nat) (x:Nat)=>[(0,dL x),(2,NT .i64 q)]) (fun (q:Nat) (x:Nat)=>[]) ?_ (fun q x ⟨hq1,hq2,hq3⟩=>?_)))))))
 ·refine ts (rm rfl (ro rfl (rZ (Ht rfl) (cJ 65536)) (eX (dQ (Ht rfl) (fun hb => ?_) (fun hb => ?_)))))
  ·simp at hb
   refine ts (rm rfl (ro rfl (jO (Ht rfl) (cJ 16) (by decide)) (ra rfl (eX (cY (ro rfl (cQ (cJ 16)) (eX (bD (16,v / 2 ^ 16) ⟨a6G hb,by dsimp only; omega,Nat.le_refl _⟩ (zS rfl) aY))))))))
  ·simp at hb
   refine cU (bD (0,v) ⟨(Nat.zero_add _).symm,hb,by dsimp only; omega⟩ (zS rfl) aY)
 ·refine cK (wH (fun (r : Nat) (z : Nat) => bl v = r + bl z ∧ z < 256 ∧ r ≤ 24) (fun (r : Nat) (z : Nat) => [(0, dL z), (2, NT .i64 r)]) (fun (r : Nat) (z : Nat) => []) ?_ (fun r z ⟨hr1, hr2, hr3⟩ => ?_))
  ·refine ts (rm rfl (ro rfl (rZ (Ht rfl) (cJ 256)) (eX (dQ (Ht rfl) (fun hb => ?_) (fun hb => ?_)))))
   ·simp at hb
    refine ts (rm rfl (ro rfl (jO (Ht rfl) (cJ 8) (by decide)) (ra rfl (eX (cY (rm rfl (ro rfl (dV (Ht rfl) (cJ 8) z6) (ra rfl (eX (bD (q + 8,x / 2 ^ 8) ⟨by have:=bl8 hb; dsimp only; omega,by dsimp only; omega,by dsimp only; omega⟩ (zS rfl) aY))))))))))
   ·simp at hb
    refine cU (bD (q,x) ⟨hq1,hb,by dsimp only; omega⟩ (zS rfl) aY)
  ·have hbl := sL (k := 8) hr2
   refine ts (rm rfl (rm rfl (ro rfl (gZ U_218 U_5 (Ht rfl) (by show _ < 256; first | omega | (simp only [oD]; omega))) (ro rfl (a2C Tryz.runUnderlying9 cV (Ht rfl) (a6R hr2 (by kernel_rfl))) (ro rfl (gZ U_5 U_3 (Ht rfl) z6) (ro rfl (dV (Ht rfl) (Ht rfl) z6) (ra rfl (eX (fW rfl (fX (eU rfl) ?_))))))))))
   exact (nB zo)
theorem a48 {v:Nat} (hv:v < 4294967296):bF Tryz.prog 265 [dL v] (NT .i64 (32 - bl v)):=by
 refine bF.intro Tryz.func265 rfl Tryz.ntmps265 rfl (fun cx=>(ts (ro rfl (cQ (cJ 0)) (eX (ts (rm rfl (ro rfl (cZ Tryz.call284 (a1p hv) ⟨(Ht rfl),trivial⟩) (ro rfl (dW (cJ 32) (Ht rfl) (sL hv) z6) (ra rfl (eX ?_))))))))))
 exact fW rfl (eU rfl)
theorem a1j {hi lo y:Nat} (hy:hi < y) (hl:lo < BB) (hyb:y < BB):bF Tryz.prog 283 [dL hi,dL lo,dL y] (eD [dL ((hi * BB + lo) / y),dL ((hi * BB + lo) % y)]):=by
 have hq:=Uo hy hl; have hm:=Nat.mod_lt (hi * BB + lo) (by omega:y > 0); have hz:hi * BB + lo < 18446744073709551616:=by simp only [BB] at *; omega
 have hsh : hi * 2 ^ 32 < 18446744073709551616 := by
  have h1:hi < BB:=by omega
  show hi * BB < _
  simp only [BB] at h1 ⊢; omega
 refine bF.intro Tryz.func283 rfl Tryz.ntmps283 rfl (fun cx=>(ts (ro rfl (cQ (cJ 0)) (ro rfl (cQ (cJ 0)) (eX (cK (ts (rm rfl (ro rfl (lS (Ht rfl) (cJ 0)) (rm rfl (fQ rfl rfl (eK rfl rfl (Ht rfl) (fun h=>cX (Ht rfl))) (fQ rfl rfl (eK rfl rfl (Ht rfl) (fun h=>cX (Ht rfl))) (fQ rfl rfl (eK rfl rfl (Ht rfl) (fun h=>Ai (fJ rfl h) (fJ rfl h))) (ro rfl (gS (Ht rfl) (fun h=>(fJ rfl h))) (eX (kP (Ht rfl) (by simp; omega) ?_))))))))))))))))
 have hl2:lo < 18446744073709551616:=by simp only [BB] at hl; omega
 have hy2:y < 18446744073709551616:=by simp only [BB] at hyb; omega
 refine cU (ts (rm rfl (ro rfl (gZ U_218 U_263 (Ht rfl) (by show _ < 18446744073709551616; simp only [BB] at *; omega)) (ro rfl (xI (Ht rfl) (cJ 32) (by decide) hsh) (rm rfl (ro rfl (gZ U_218 U_263 (Ht rfl) (by show _ < 18446744073709551616; simp only [BB] at *; omega)) (ro rfl (aM.nat (yM rfl (Ht rfl) (Ht rfl) z7 z7) (Hr hl)) (ra rfl (eX ?_)))))))))
 refine cK (fZ (m:=11) (dp 8 rfl (cX (Ht rfl)) (dp 2 rfl (cX (Ht rfl)) (dq 24 1 rfl (gZ U_218 U_263 (Ht rfl) (by show _ < 18446744073709551616; simp only [BB] at *; omega)) (dH 23 0 25 2 rfl (xH (Ht rfl) (Ht rfl) zo (by show _ < 18446744073709551616; exact hz)) (dq 26 3 rfl (gZ U_263 U_218 (Ht rfl) (by show _ < 4294967296; exact hq)) (dp 8 rfl (cX (Ht rfl)) (dp 2 rfl (cX (Ht rfl)) (dq 29 6 rfl (gZ U_218 U_263 (Ht rfl) (by show _ < 18446744073709551616; simp only [BB] at *; omega)) ?_)))))))))
 refine dH 28 5 30 7 rfl (lT (Ht rfl) (Ht rfl) zo) (dq 31 8 rfl (gZ U_263 U_218 (Ht rfl) (by show _ < 4294967296; simp only [BB] at *; omega)) (dq 27 4 rfl (cQ (Ht rfl)) (fV bB rfl (by kernel_rfl) (zF (zF (aJ (aJ (aJ (aV (ra rfl (eX ?_)))))))))))
 exact bL rfl (eU rfl) (eU rfl)
theorem a3t {m k:Nat} (hm:(dg m).length ≤ 17592186044416) (hk:k ≤ 562949953421312):bF Tryz.prog 266 [aS m,NT .i64 k] (aS (m * 2 ^ k)):=by
 refine bF.intro Tryz.func266 rfl Tryz.ntmps266 rfl (fun cx=>(ts (ro rfl (cQ cV) (eX (cK (ts (rm rfl (ro rfl (dG U_56 (Ht rfl) aC) (ro rfl (eC (Ht rfl) (cJ 0)) (rm rfl (fQ rfl rfl (eK rfl rfl (Ht rfl) (fun h=>cX (Ht rfl))) (fQ rfl rfl (eK rfl rfl (Ht rfl) (fun h=>eC (fJ rfl h) (cJ 0))) (ro rfl (nD (Ht rfl) (fun h=>(fJ rfl h))) (eX (dQ (Ht rfl) (fun hb=>?_) (fun hb=>?_))))))))))))))))
 ·simp [bO] at hb
  have h0 : m * 2 ^ k = m := by
   rcases hb with h | h
   ·simp_all [yB]
   ·rw [h,Nat.pow_zero,Nat.mul_one]
  refine ts (rm rfl (ra rfl (eX (fW rfl (fX (eU rfl) ?_)))))
  exact (gW h0.symm)
 ·clear hb
  have hr:=Nat.mod_lt k (by decide:32 > 0)
  refine cU (ts (rm rfl (ro rfl (xH (Ht rfl) (cJ 32) zo z6) (rm rfl (ro rfl (lT (Ht rfl) (cJ 32) zo) (ro rfl (gZ U_3 U_264 (Ht rfl) z7) (ra rfl (ra rfl (eX (ts (rm rfl (ro rfl (dG U_56 (Ht rfl) aC) (rm rfl (ro rfl (dV (Ht rfl) (Ht rfl) z6) (ro rfl (dV (Ht rfl) (cJ 1) z6) ?_)))))))))))))))
  refine rn rfl (jN (T:=dL 0) (i:=Tryz.t218) V_56 oB rfl rfl (Ht rfl) rfl (fun _=>rfl) trivial (by show 4 * _ ≤ _; omega) zo) fun B29=>ra rfl (eX (cK (ts (rm rfl (ro rfl (dG U_56 (Ht rfl) aC) (ro rfl (cX (cJ 0)) (eX (eG ?_))))))))
  refine jE (fun (i : Nat) (out : List Nat) => Fu (dg m) (k / 32) (k % 32) out i) (fun (i : Nat) (out : List Nat) => (dg m).length - i) (fun (i : Nat) (out : List Nat) => [(5, NT .i64 (k / 32)), (6, NT .u64 (k % 32)), (7, Is (.slice (some ⟨B29, 0, none⟩) ((dg m).length + k / 32 + 1) ((dg m).length + k / 32 + 1))), (30, aS m), (31, NT .i64 (dg m).length), (32, NT .i64 i)]) (fun (i : Nat) (out : List Nat) => [box B29 218 (out.map dL)]) 0 (List.replicate ((dg m).length + k / 32 + 1) 0) (Fu.start _ _ _)
   (zS rfl) (aU (aD (sB _)) aY) (fun i out hS=>?_)
  refine ts (ro rfl (gX (Ht rfl) (Ht rfl)) (eX (cK (dQ (Ht rfl) (fun hb=>?_) (fun hb=>?_)))))
  ·simp at hb
   have hlen:=hS.len; have hxi:=cC (dI m) i; have hok:=cC hS.dig (i + k / 32)
   have hv:=Un hxi hr
   have hd:(dg m).getD i 0 * 2 ^ (k % 32) / 2 ^ 32 < 4294967296:=Nat.div_lt_of_lt_mul hv
   simp only [BB] at hxi hok
   refine cU (cK (eG (ts (rm rfl (ro rfl (dZ U_56 Z_218 (Ht rfl) (Ht rfl) rfl (dY (cF zo))) (ro rfl (dJ A_218 Z_218 (Ht rfl)) (ra rfl (ra rfl (eX (ts (rm rfl (ro rfl (gZ U_218 U_263 (Ht rfl) z7) (rm rfl (ro rfl (xI (Ht rfl) (Ht rfl) (by show _ ≤ _; simp [IntKind.bits]; omega) (by show _ < 18446744073709551616; exact hv)) (ra rfl (eX (ts (rm rfl (rm rfl (rm rfl (ro rfl (dV (Ht rfl) (Ht rfl) z6) ?_)))))))))))))))))))))
   refine ro rfl (fY U_56 Z_218 (Ht rfl) (Ht rfl) rfl zo (by rw [Nat.mul_one,Nat.zero_add])) ?_
   refine ro rfl (eY A_218 Z_218 (Ht rfl) (i:=0) rfl (dY (cF zo))) (rm rfl (ro rfl (lH rfl U_263 U_218 (Ht rfl)) (ro rfl (yM rfl (Ht rfl) (Ht rfl) (by show _ < 4294967296; omega) (by show _ % 4294967296 < 4294967296; omega)) (ro rfl (fY U_56 Z_218 (Ht rfl) (Ht rfl) rfl zo (by rw [Nat.mul_one,Nat.zero_add])) ?_))))
   refine oK Z_218 (Ht rfl) (Ht rfl) (i:=0) rfl (by first | omega | (simp; omega)) rfl (eX (cY (rm rfl (rm rfl (rm rfl (ro rfl (dV (Ht rfl) (Ht rfl) z6) (ro rfl (dV (Ht rfl) (cJ 1) z6) (rm rfl (ro rfl (jO (Ht rfl) (cJ 32) (by decide)) (ro rfl (gZ U_263 U_218 (Ht rfl) (by show _ < 4294967296; exact hd)) (ro rfl (fY U_56 Z_218 (Ht rfl) (Ht rfl) rfl zo (by rw [Nat.mul_one,Nat.zero_add])) ?_)))))))))))
   refine oK Z_218 (Ht rfl) (Ht rfl) (i:=0) rfl (by first | omega | (simp; omega)) rfl (eX (bN (cY (ro rfl (dV (Ht rfl) (cJ 1) z6) (rm rfl (eX (fU (i + 1,_) (hS.next (dI m) hr hb rfl rfl) (by dsimp only; omega) (zS rfl) (aU (aD (a0s _ _ _ _ _)) aY))))))))
  ·simp at hb
   have hkl:i = (dg m).length:=Nat.le_antisymm hS.kle hb
   subst hkl
   have hlen:=hS.len
   have hfin:=hS.fin
   rw [fF,tK] at hfin
   refine gV rfl (gJ (i:=0) (tt:=7) rfl rfl (sW rfl hlen.symm (Nat.le_refl _)) (ts (rm rfl (ro rfl (cZ K_237 (rP _ hS.dig zo) ⟨(Ht rfl),trivial⟩) (ra rfl (eX (fW rfl (fX (eU rfl) ?_))))))))
   exact (gW hfin)
theorem a61 {m k:Nat} (hm:(dg m).length ≤ 17592186044416) (hk:k ≤ 562949953421312):bF Tryz.prog 268 [aS m,NT .i64 k] (aS (m / 2 ^ k)):=by
 refine bF.intro Tryz.func268 rfl Tryz.ntmps268 rfl (fun cx=>?_)
 have hr:=Nat.mod_lt k (by decide:32 > 0)
 refine ts (ro rfl (cQ cV) (eX (ts (rm rfl (ro rfl (xH (Ht rfl) (cJ 32) zo z6) (rm rfl (ro rfl (lT (Ht rfl) (cJ 32) zo) (ro rfl (gZ U_3 U_264 (Ht rfl) z7) (ra rfl (ra rfl (eX (cK (ts (rm rfl (rm rfl (ro rfl (dG U_56 (Ht rfl) aC) (ro rfl (rZ (Ht rfl) (Ht rfl)) (eX (dQ (Ht rfl) (fun hb=>?_) (fun hb=>?_))))))))))))))))))))
 ·simp at hb
  have h0:=a0v (dI m) hb (r:=k % 32)
  rw [fF,tK] at h0
  refine ts (ro rfl (cQ cV) (eX (fW rfl (fX (eU rfl) ?_))))
  exact (fun v V h=>gW h0.symm v V (oG v V h))
 ·simp at hb
  refine cU (ts (rm rfl (ro rfl (dG U_56 (Ht rfl) aC) (rm rfl (ro rfl (dW (Ht rfl) (Ht rfl) zo z6) (rn rfl (jN (T:=dL 0) (i:=Tryz.t218) V_56 oB rfl rfl (Ht rfl) rfl (fun _=>rfl) trivial (by show 4 * _ ≤ _; omega) zo) fun B23=>(ra rfl (eX (cK (ts (rm rfl (ro rfl (jB U_56 (Ht rfl)) (ro rfl (cX (cJ 0)) (eX (eG ?_)))))))))))))))
  refine jE (fun (i : Nat) (out : List Nat) => Fv (dg m) (k / 32) (k % 32) out i) (fun (i : Nat) (out : List Nat) => (dg m).length - i) (fun (i : Nat) (out : List Nat) => [(0, aS m), (5, NT .i64 (k / 32)), (6, NT .u64 (k % 32)), (7, Is (.slice (some ⟨B23, 0, none⟩) ((dg m).length - k / 32) ((dg m).length - k / 32))), (25, NT .i64 ((dg m).length - k / 32 : Nat)), (26, NT .i64 i)]) (fun (i : Nat) (out : List Nat) => [box B23 218 (out.map dL)]) 0 (List.replicate ((dg m).length - k / 32) 0) (Fv.start _ _ _)
   (zS rfl) (aU (aD (sB _)) aY) (fun i out hS=>?_)
  refine ts (ro rfl (gX (Ht rfl) (Ht rfl)) (eX (cK (dQ (Ht rfl) (fun hb=>?_) (fun hb=>?_)))))
  ·simp at hb
   have hlen:=hS.len; have hx0:=cC (dI m) (i + k / 32); have hx1:=cC (dI m) (i + k / 32 + 1)
   have hio:i < out.length:=by omega
   simp only [BB] at hx0 hx1
   refine cU (cK (eG (ts (rm rfl (ra rfl (eX (ts (rm rfl (rm rfl (rm rfl (ro rfl (dV (Ht rfl) (Ht rfl) z6) (ro rfl (dZ U_56 Z_218 (Ht rfl) (Ht rfl) rfl (dY (cF zo))) (ro rfl (dJ A_218 Z_218 (Ht rfl)) (ro rfl (gZ U_218 U_263 (Ht rfl) z7) (ra rfl (eX (cK (kQ (fun (v:Nat)=>v = (dg m).getD (i + k / 32) 0 + BB * (dg m).getD (i + k / 32 + 1) 0) (fun (v:Nat)=>[(0,aS m),(5,NT .i64 (k / 32)),(6,NT .u64 (k % 32)),(7,Is (.slice (some ⟨B23,0,none⟩) ((dg m).length - k / 32) ((dg m).length - k / 32))),(8,NT .i64 i),(9,NT .u64 v),(25,NT .i64 ((dg m).length - k / 32:Nat)),(26,NT .i64 i)]) (fun (v:Nat)=>[box B23 218 (out.map dL)]) ?_ (fun v hv=>?_)))))))))))))))))))
   ·refine ts (rm rfl (rm rfl (ro rfl (dV (Ht rfl) (Ht rfl) z6) (ro rfl (dV (Ht rfl) (cJ 1) z6) (rm rfl (ro rfl (dG U_56 (Ht rfl) aC) (ro rfl (gX (Ht rfl) (Ht rfl)) (eX (dQ (Ht rfl) (fun hk2 => ?_) (fun hk2 => ?_))))))))))
    ·simp at hk2
     refine cY (rm rfl (rm rfl (rm rfl (rm rfl (ro rfl (dV (Ht rfl) (Ht rfl) z6) (ro rfl (dV (Ht rfl) (cJ 1) z6) (ro rfl (dZ U_56 Z_218 (Ht rfl) (Ht rfl) rfl (dY (cF zo))) (ro rfl (dJ A_218 Z_218 (Ht rfl)) (ro rfl (gZ U_218 U_263 (Ht rfl) z7) (ro rfl (xI (Ht rfl) (cJ 32) (by decide) (by show _ < 18446744073709551616; omega)) ?_))))))))))
     refine ro rfl (aM.nat (yM rfl (Ht rfl) (Ht rfl) z7 z7) (a2G hx0)) (ra rfl (eX (bD ((dg m).getD (i + k / 32) 0 + BB * (dg m).getD (i + k / 32 + 1) 0) rfl (zS rfl) (eI.refl _))))
    ·simp at hk2
     refine cU (bD ((dg m).getD (i + k / 32) 0) (by simp [List.getD,List.getElem?_eq_none hk2]) (zS rfl) (eI.refl _))
   ·refine cY (rm rfl (rm rfl (rm rfl (rm rfl (ro rfl (jO (Ht rfl) (Ht rfl) (by show _ ≤ 64; omega)) (ro rfl (lH rfl U_263 U_218 (Ht rfl)) (ro rfl (fY U_56 Z_218 (Ht rfl) (Ht rfl) rfl zo (by rw [Nat.mul_one, Nat.zero_add])) ?_)))))))
    refine oK Z_218 (Ht rfl) (Ht rfl) (i:=0) rfl (by first | omega | (simp; omega)) rfl (eX (bN (cY (ro rfl (dV (Ht rfl) (cJ 1) z6) (rm rfl (eX (fU (i + 1,_) (hS.next (dI m) hr hio (by rw [hv]; rfl)) (by dsimp only; omega) (zS rfl) (aU (aD (lA _ _ _)) aY))))))))
  ·simp at hb
   have hlen:=hS.len
   have hkl:i = out.length:=Nat.le_antisymm hS.kle zo
   subst hkl
   have hfin:=hS.fin (dI m) zo
   rw [fF,tK] at hfin
   refine gV rfl (gJ (i:=0) (tt:=7) rfl rfl (sW rfl hlen.symm (Nat.le_refl _)) (ts (rm rfl (ro rfl (cZ K_237 (rP _ hS.dig zo) ⟨(Ht rfl),trivial⟩) (ra rfl (eX (fW rfl (fX (eU rfl) ?_))))))))
   exact (gW hfin)
theorem Pi {m y:Nat} (hm:(dg m).length ≤ 17592186044416) (hy:0 < y) (hyb:y < BB):bF Tryz.prog 264 [aS m,dL y] (eD [aS (m / y),dL (m % y)]):=by
 refine bF.intro Tryz.func264 rfl Tryz.ntmps264 rfl (fun cx=>(ts (ro rfl (cQ cV) (ro rfl (cQ (cJ 0)) (eX (ts (rm rfl (ro rfl (dG U_56 (Ht rfl) aC) (rn rfl (jN (T:=dL 0) (i:=Tryz.t218) V_56 oB rfl rfl (Ht rfl) rfl (fun _=>rfl) trivial (by show 4 * _ ≤ _; omega) zo) fun B11=>(ra rfl (eX (ts (ro rfl (cQ (cJ 0)) (eX (cK (ts (rm rfl (ro rfl (dG U_56 (Ht rfl) aC) (ro rfl (kX (Ht rfl) cV (Ea zo)) (ra rfl (eX (eG ?_))))))))))))))))))))))
 refine oW (fun (k : Nat) (out : List Nat) (r : Nat) => rN (dg m) y out k r) (fun (k : Nat) (out : List Nat) (r : Nat) => k) (fun (k : Nat) (out : List Nat) (r : Nat) => [(0, aS m), (1, dL y), (6, Is (.slice (some ⟨B11, 0, none⟩) (dg m).length (dg m).length)), (7, dL r), (8, aL .i64 ((k : Int) - 1))]) (fun (k : Nat) (out : List Nat) (r : Nat) => [box B11 218 (out.map dL)]) (dg m).length (List.replicate (dg m).length 0) 0 (rN.start _ hy)
  (zS rfl) (aU (aD (sB _)) aY) (fun k out r hS=>?_)
 refine cK (ts (rm rfl (ro rfl (pS (Ht rfl) cV) (eX (dQ (Ht rfl) (fun hb=>?_) (fun hb=>?_))))))
 ·simp at hb
  have hlen:=hS.len; have hkl:=hS.kle
  refine cU (cK (eG (cY (rm rfl (rm rfl (rm rfl (rm rfl (rm rfl (ro rfl (dZ U_56 Z_218 (Ht rfl) (Ht rfl) (show ((k:Int) - 1) = ((k - 1:Nat):Int) by omega) (dY (cF zo))) (ro rfl (dJ A_218 Z_218 (Ht rfl)) (rm rfl (ro rfl (cZ Tryz.call283 (a1j hS.rlt (cC (dI m) (k - 1)) hyb) ⟨(Ht rfl),(Ht rfl),(Ht rfl),trivial⟩) (rm rfl (ro rfl (dK (Ht rfl) rfl) (ro rfl (dK (Ht rfl) rfl) (ro rfl (fY U_56 Z_218 (Ht rfl) (Ht rfl) (show ((k:Int) - 1) = ((k - 1:Nat):Int) by omega) zo (by rw [Nat.mul_one,Nat.zero_add])) ?_))))))))))))))))
  refine oK Z_218 (Ht rfl) (Ht rfl) (i:=0) rfl (by first | omega | (simp; omega)) rfl (ra rfl (eX (bN (cY (rm rfl (ro rfl (kX (Ht rfl) cV (Ea zo)) (ra rfl (eX (fU (k - 1,_,_) (hS.next (dI m) zo rfl) (by dsimp only; omega) (aQ rfl (aQ rfl (aQ rfl (aQ rfl (aZ rfl (aT zo) aX))))) (aU (aD (lA _ _ _)) aY))))))))))
 ·simp at hb
  have hk0:k = 0:=by omega
  subst hk0
  have hlen:=hS.len
  have hfin:=hS.fin
  rw [fF] at hfin
  refine gV rfl (gJ (i:=0) (tt:=6) rfl rfl (sW rfl hlen.symm (Nat.le_refl _)) (ts (rm rfl (ro rfl (cZ K_237 (rP _ hS.dig zo) ⟨(Ht rfl),trivial⟩) (rm rfl (ra rfl (ra rfl (eX (bL rfl (fX (eU rfl) ?_) (fX (eU rfl) ?_))))))))))
  ·exact (gW hfin.1)
  ·exact (nB hfin.2)
end
section
open Go Go.RowKit
theorem a4c {us vs : List Nat} {q j B l : Nat} (hul : us.length = l) (hu : lD us) (hv : lD vs) (hq : q < BB) (hl : j + vs.length < us.length) (hL : us.length ≤ 1152921504606846976) :
    iV Tryz.prog 267 [Is (.slice (some ⟨B,0,none⟩) l l),Iq vs,NT .u64 q,NT .i64 j] [box B 218 (us.map dL)] (List Nat × Bool) (fun x=>aI x.2) (fun x=>[box B 218 (x.1.map dL)]) (fun x=>Iy us vs q j x.1 x.2):=by
 refine iV.intro Tryz.func267 rfl Tryz.ntmps267 rfl (fun cx Z=>(ts (ro rfl (cQ cV) (eX (ts (ro rfl (cQ (cJ 0)) (ro rfl (cQ (cJ 0)) (eX (cK (ts (rm rfl (ro rfl (dG U_56 (Ht rfl) aC) (ro rfl (cX (cJ 0)) (eX (eG ?_)))))))))))))))
 refine Fx (fun (i : Nat) (out : List Nat) (c : Nat) (b : Nat) => wI us vs q j out i c b) (fun (i : Nat) (out : List Nat) (c : Nat) (b : Nat) => vs.length - i) (fun (i : Nat) (out : List Nat) (c : Nat) (b : Nat) => [(0, Is (.slice (some ⟨B, 0, none⟩) l l)), (1, Iq vs), (2, NT .u64 q), (3, NT .i64 j), (9, NT .u64 c), (10, NT .u64 b), (16, Iq vs), (17, NT .i64 vs.length), (18, NT .i64 i)]) (fun (i : Nat) (out : List Nat) (c : Nat) (b : Nat) => [Z, box B 218 (out.map dL)]) 0 us 0 0 (wI.start hu vs q j)
  (zS rfl) (eI.refl _) (fun i out c b hS=>?_)
 refine ts (ro rfl (gX (Ht rfl) (Ht rfl)) (eX (cK (dQ (Ht rfl) (fun hb=>?_) (fun hb=>?_)))))
 ·simp at hb
  have hlen:=hS.len; have hcl:=hS.clt; have hbl:=hS.ble; have hvi:=cC hv i; have hok:=cC hS.dig (i + j)
  have hp:=a0O hq hvi hS.clt
  simp only [BB] at hp hcl hvi hok
  obtain ⟨p,hp1⟩:∃ p,p = q * vs.getD i 0 + c:=⟨_,rfl⟩
  obtain ⟨x,hx1⟩:∃ x,x = ((out.getD (i + j) 0 + 18446744073709551616 - p % 4294967296) % 18446744073709551616 + 18446744073709551616 - b) % 18446744073709551616:=⟨_,rfl⟩
  refine cU (cK (eG (ts (rm rfl (ro rfl (dZ U_56 Z_218 (Ht rfl) (Ht rfl) rfl (dY (cF zo))) (ro rfl (dJ A_218 Z_218 (Ht rfl)) (ra rfl (ra rfl (eX (ts (rm rfl (rm rfl (ro rfl (gZ U_218 U_263 (Ht rfl) z7) (ro rfl (pD (Ht rfl) (Ht rfl) z7) (rm rfl (ro rfl (aM.nat (dV (Ht rfl) (Ht rfl) z7) hp1.symm) ?_))))))))))))))))
  refine ra rfl (eX (ts (rm rfl (ro rfl (jO (Ht rfl) (cJ 32) (by decide)) (ra rfl (eX (ts (rm rfl (rm rfl (rm rfl (ro rfl (dV (Ht rfl) (Ht rfl) z6) (ro rfl (fY U_56 Z_218 (Ht rfl) (Ht rfl) rfl zo (by rw [Nat.mul_one,Nat.zero_add])) ?_))))))))))))
  refine ro rfl (eY A_218 Z_218 (Ht rfl) (i:=1) rfl (dY (cF zo))) (ro rfl (gZ U_218 U_263 (Ht rfl) z7) (rm rfl (ro rfl (lH rfl U_263 U_218 (Ht rfl)) (ro rfl (gZ U_218 U_263 (Ht rfl) z7) (ro rfl (tZ rfl (Ht rfl) (Ht rfl) (by show _ ≤ 18446744073709551616; first | omega | (simp only [oD]; omega))) ?_)))))
  refine rm rfl (ro rfl (aM.nat (tZ rfl (Ht rfl) (Ht rfl) (by show _ ≤ 18446744073709551616; first | omega | (simp only [oD]; omega))) hx1.symm) (ra rfl (eX (ts (rm rfl (rm rfl (rm rfl (ro rfl (dV (Ht rfl) (Ht rfl) z6) (rm rfl (ro rfl (lH rfl U_263 U_218 (Ht rfl)) (ro rfl (fY U_56 Z_218 (Ht rfl) (Ht rfl) rfl zo (by rw [Nat.mul_one,Nat.zero_add])) ?_)))))))))))
  refine oK Z_218 (Ht rfl) (Ht rfl) (i:=1) rfl (by first | omega | (simp; omega)) rfl (eX (cY (rm rfl (ro rfl (jO (Ht rfl) (cJ 63) (by decide)) (ra rfl (eX (bN (cY (ro rfl (dV (Ht rfl) (cJ 1) z6) (rm rfl (eX (fU (i + 1,_,_,_) (hS.next hu hv hq hb hl hp1 (Oh hok hbl hx1) rfl) (by dsimp only; omega) (zS rfl) (aU (fun _ _ _ h=>h) (aU (aD (lA _ _ _)) aY))))))))))))))
 ·simp at hb
  have hkl:i = vs.length:=Nat.le_antisymm hS.ile hb
  subst hkl
  have hlen:=hS.len; have hcl:=hS.clt; have hbl:=hS.ble; have hok:=cC hS.dig (j + vs.length)
  obtain ⟨x,hx1⟩:∃ x,x = ((out.getD (j + vs.length) 0 + 18446744073709551616 - c) % 18446744073709551616 + 18446744073709551616 - b) % 18446744073709551616:=⟨_,rfl⟩
  have hfin:=hS.fin hl (Oi hok hcl hbl hx1) rfl
  simp only [BB] at hcl hok
  refine gV rfl (ts (rm rfl (rm rfl (rm rfl (ro rfl (dG U_56 (Ht rfl) aC) (ro rfl (dV (Ht rfl) (Ht rfl) z6) (ro rfl (fY U_56 Z_218 (Ht rfl) (Ht rfl) rfl zo (by rw [Nat.mul_one,Nat.zero_add])) ?_)))))))
  refine ro rfl (eY A_218 Z_218 (Ht rfl) (i:=1) rfl (dY (cF zo))) (ro rfl (gZ U_218 U_263 (Ht rfl) z7) (rm rfl (ro rfl (tZ rfl (Ht rfl) (Ht rfl) (by show _ ≤ 18446744073709551616; first | omega | (simp only [oD]; omega))) (rm rfl (ro rfl (aM.nat (tZ rfl (Ht rfl) (Ht rfl) (by show _ ≤ 18446744073709551616; first | omega | (simp only [oD]; omega))) hx1.symm) (ra rfl (eX (ts (rm rfl (rm rfl (rm rfl (ro rfl (dG U_56 (Ht rfl) aC) ?_))))))))))))
  refine ro rfl (dV (Ht rfl) (Ht rfl) z6) (rm rfl (ro rfl (lH rfl U_263 U_218 (Ht rfl)) (ro rfl (fY U_56 Z_218 (Ht rfl) (Ht rfl) rfl zo (by rw [Nat.mul_one,Nat.zero_add])) ?_)))
  refine oK Z_218 (Ht rfl) (Ht rfl) (i:=1) rfl (by first | omega | (simp; omega)) rfl (eX (ts (rm rfl (ro rfl (jO (Ht rfl) (cJ 63) (by decide)) (ro rfl (lS (Ht rfl) (cJ 0)) (ra rfl (eX ?_)))))))
  exact kW (_,_) hfin [0,1] ⟨⟨_,rfl,fun _ _ _ h=>h⟩,⟨_,rfl,(aD (lA _ _ _))⟩,trivial⟩ (by decide) (xP rfl (eU rfl))
theorem Pd {m n:Nat} (hm:(dg m).length ≤ 17592186044415) (hn1:(dg n).length ≤ 17592186044416) (hn:n ≠ 0):bF Tryz.prog 233 [aS m,aS n] (eD [aS (m / n),aS (m % n)]):=by
 refine bF.intro Tryz.func233 rfl Tryz.ntmps233 rfl (fun cx=>(ts (ro rfl (cQ cV) (ro rfl (cQ cV) (eX (cK (ts (rm rfl (rm rfl (ro rfl (cZ Tryz.call199 (Wg zo zo) ⟨(Ht rfl),(Ht rfl),trivial⟩) (ro rfl (tD (Ht rfl) cV) (eX (dQ (Ht rfl) (fun hb=>?_) (fun hb=>?_))))))))))))))
 ·simp only [decide_eq_true_eq] at hb
  have hlt : m < n := by
   unfold vC at hb
   split at hb
   ·assumption
   ·split at hb <;> simp at hb
  refine ts (rm rfl (ro rfl (cQ cV) (ra rfl (eX (bL rfl (fX (eU rfl) ?_) (fX (eU rfl) ?_))))))
  ·exact (fun v V h=>gW (Nat.div_eq_of_lt hlt).symm v V (oG v V h))
  ·exact (gW (Nat.mod_eq_of_lt hlt).symm)
 ·simp only [decide_eq_false_iff_not] at hb
  have hle : n ≤ m := by
   unfold vC at hb
   split at hb
   ·simp at hb
   ·omega
  clear hb
  refine cU (cK (ts (rm rfl (ro rfl (dG U_56 (Ht rfl) aC) (ro rfl (eC (Ht rfl) (cJ 1)) (eX (dQ (Ht rfl) (fun h1=>?_) (fun h1=>?_))))))))
  ·simp at h1
   have hy0:=a4j h1
   have hyb:=cC (dI n) 0
   have hmod:=Nat.mod_lt m (show (dg n).getD 0 0 > 0 by omega)
   simp only [BB] at hyb
   refine ts (rm rfl (rm rfl (ro rfl (dZ U_56 Z_218 (Ht rfl) (cJ 0) rfl (dY (cF zo))) (ro rfl (dJ A_218 Z_218 (Ht rfl)) (ro rfl (cZ Tryz.call264 (Pi zo zo hyb) ⟨(Ht rfl),(Ht rfl),trivial⟩) (rm rfl (ro rfl (dK (Ht rfl) rfl) (ro rfl (dK (Ht rfl) rfl) (ra rfl (ra rfl (eX (ts (rm rfl (rm rfl (ro rfl (gZ U_218 U_263 (Ht rfl) z7) (ro rfl (cZ Tryz.call238 (Gg zo) ⟨(Ht rfl),trivial⟩) ?_))))))))))))))))
   refine ra rfl (ra rfl (eX (bL rfl (fX (eU rfl) ?_) (fX (eU rfl) ?_))))
   ·exact (gW (by rw [hy0]))
   ·exact (gW (by rw [hy0]))
  ·simp at h1
   have hl0:(dg n).length ≠ 0:=fun e=>hn (bO.1 e)
   have hyb:=cC (dI n) ((dg n).length - 1)
   obtain ⟨s,hs⟩:∃ s,s = 32 - bl ((dg n).getD ((dg n).length - 1) 0):=⟨_,rfl⟩
   obtain ⟨hs1,hvl,hvb⟩:=Xg hn hs
   obtain ⟨hc1,hc2,hc3,hc4⟩:=Wv (m:=m) hs1
   simp only [BB] at hyb
   have hp2:0 < 2 ^ s:=Nat.pow_pos (by decide)
   have hX0:(dg (m * 2 ^ s)).length ≠ 0:=fun e=>(Nat.ne_of_gt (Nat.mul_pos (show 0 < m by omega) hp2)) (bO.1 e)
   have hmono:=lU hle
   refine cU (ts (rm rfl (ro rfl (dG U_56 (Ht rfl) aC) (rm rfl (rm rfl (ro rfl (dG U_56 (Ht rfl) aC) (ro rfl (dW (Ht rfl) (cJ 1) zo z6) (ro rfl (dZ U_56 Z_218 (Ht rfl) (Ht rfl) rfl (dY (cF zo))) (ro rfl (dJ A_218 Z_218 (Ht rfl)) (ro rfl (aM.nat (cZ Tryz.call265 (a48 zo) ⟨(Ht rfl),trivial⟩) hs.symm) (ra rfl (ra rfl (eX (ts (rm rfl (rm rfl (ro rfl (cZ Tryz.call266 (a3t zo zo) ⟨(Ht rfl),(Ht rfl),trivial⟩) ?_)))))))))))))))))
   refine ra rfl (eX (ts (rm rfl (ro rfl (dG U_56 (Ht rfl) aC) (ro rfl (dV (Ht rfl) (cJ 1) z6) (rn rfl (jN (T:=dL 0) (i:=Tryz.t218) V_56 oB rfl rfl (Ht rfl) rfl (fun _=>rfl) trivial (by show 4 * _ ≤ _; omega) zo) fun B55=>(ra rfl (eX (ts (rm rfl (rm rfl (rm rfl (ro rfl (cZ Tryz.call266 (a3t zo zo) ⟨(Ht rfl),(Ht rfl),trivial⟩) (a0Z U_56 Z_218 (Ht rfl) (Ht rfl) (a4N hX0) a6y (i:=0) rfl (by simp) (by simp; omega) (Ww _ _) rfl rfl ?_))))))))))))))
   refine eX (ts (rm rfl (ro rfl (jB U_56 (Ht rfl)) (rm rfl (ro rfl (dW (Ht rfl) (Ht rfl) zo z6) (rn rfl (jN (T:=dL 0) (i:=Tryz.t218) V_56 oB rfl rfl (Ht rfl) rfl (fun _=>rfl) trivial (by show 4 * _ ≤ _; omega) zo) fun B65=>(ra rfl (eX (cK (ts (rm rfl (ro rfl (jB U_56 (Ht rfl)) (ro rfl (kX (Ht rfl) cV (Ea zo)) (ra rfl (eX (eG ?_))))))))))))))))
   obtain ⟨vs,hvs⟩:∃ vs,vs = dg (n * 2 ^ s):=⟨_,rfl⟩
   rw [← hvs] at hvl hvb
   have hv:lD vs:=hvs ▸ dI _
   have hvv:val vs = n * 2 ^ s:=by rw [hvs,fF]
   have hV0:0 < val vs:=by rw [hvv]; exact Nat.mul_pos zo hp2
   have hnr:=a2o hv zo hvb
   have hv1:=hnr.v1lt; have hv2:=hnr.v2lt; have hbig:=hnr.big
   simp only [BB] at hv1 hv2 hbig
   refine oW (fun (k : Nat) (us : List Nat) (qs : List Nat) => pZ (m * 2 ^ s) vs us qs k ∧ us.length = (dg m).length + 1) (fun (k : Nat) (us : List Nat) (qs : List Nat) => k) (fun (k : Nat) (us : List Nat) (qs : List Nat) => [(8, NT .i64 vs.length), (9, NT .i64 s), (10, Iq vs), (11, Is (.slice (some ⟨B55, 0, none⟩) ((dg m).length + 1) ((dg m).length + 1))), (12, Is (.slice (some ⟨B65, 0, none⟩) ((dg m).length + 1 - (dg n).length) ((dg m).length + 1 - (dg n).length))), (13, aL .i64 ((k : Int) - 1))]) (fun (k : Nat) (us : List Nat) (qs : List Nat) => [box B55 218 (us.map dL), box B65 218 (qs.map dL)]) ((dg m).length + 1 - (dg n).length) (En m s) (List.replicate ((dg m).length + 1 - (dg n).length) 0) ⟨pZ.start hv zo hvb hs1 (by have := kK (dI m); rwa [fF] at this) hc3 hc2 hc4 zo, hc2⟩
    (aZ rfl (nB hvl.symm) (aQ rfl (aZ rfl (fun v V h=>by rw [hvs]; exact h) (aQ rfl (aQ rfl (aZ rfl (aT zo) aX)))))) (aU (fun _ _ _ h=>h) (aU (aD (sB _)) aY)) (fun k us qs ⟨hS,hus⟩=>?_)
   refine cK (ts (rm rfl (ro rfl (pS (Ht rfl) cV) (eX (dQ (Ht rfl) (fun hk=>?_) (fun hk=>?_))))))
   ·simp at hk
    obtain ⟨j,rfl⟩:∃ j,k = j + 1:=⟨k - 1,by omega⟩
    have htp:=hS.top hv zo (Nat.succ_pos j) rfl
    have hkq:=hS.kle; have hlq:=hS.lenq
    rw [Nat.add_sub_cancel] at htp
    have hu0:=cC hS.dig (j + vs.length); have hu1:=cC hS.dig (j + vs.length - 1); have hu2:=cC hS.dig (j + vs.length - 2)
    have ht64:=a6B hu0 hu1; have hsh:=a3J hu0
    obtain ⟨top,htop⟩:∃ top,top = us.getD (j + vs.length) 0 * BB + us.getD (j + vs.length - 1) 0:=⟨_,rfl⟩
    have hor:=(Hr (a:=us.getD (j + vs.length) 0) hu1).trans htop.symm
    rw [← htop] at htp ht64
    have hu2b:=hu2
    simp only [BB] at hu0 hu1 hu2
    refine Bf (E':=[(8,_),(9,_),(10,_),(11,_),(12,_),(13,_),(69,_),(70,_)]) (aQ rfl (aQ rfl (aQ rfl (aQ rfl (aQ rfl (aZ rfl (aT (show ((j + 1:Nat):Int) - 1 = (j:Int) by omega)) (zS rfl))))))) (cU (cK (eG (cK (fZ (m:=16) (dp 11 rfl (cX (Ht rfl)) (dp 13 rfl (cX (Ht rfl)) (dp 8 rfl (cX (Ht rfl)) (dH 74 1 75 2 rfl (dV (Ht rfl) (Ht rfl) z6) (dH 73 0 76 3 rfl (fY U_56 Z_218 (Ht rfl) (Ht rfl) rfl zo (by rw [Nat.mul_one,Nat.zero_add])) ?_))))))))))
    refine dq 77 4 rfl (eY A_218 Z_218 (Ht rfl) (i:=0) rfl (dY (cF zo))) (dq 78 5 rfl (gZ U_218 U_263 (Ht rfl) z7) (dq 79 6 rfl (xI (Ht rfl) (cJ 32) (by decide) hsh) (dp 11 rfl (cX (Ht rfl)) (dp 13 rfl (cX (Ht rfl)) (dp 8 rfl (cX (Ht rfl)) (dH 82 9 83 10 rfl (dV (Ht rfl) (Ht rfl) z6) (dq 84 11 rfl (dW (Ht rfl) (cJ 1) zo z6) ?_)))))))
    refine dH 81 8 85 12 rfl (fY U_56 Z_218 (Ht rfl) (Ht rfl) rfl zo (by rw [Nat.mul_one,Nat.zero_add])) ?_
    refine dq 86 13 rfl (eY A_218 Z_218 (Ht rfl) (i:=0) rfl (dY (cF zo))) (dq 87 14 rfl (gZ U_218 U_263 (Ht rfl) z7) (fV bB rfl (by kernel_rfl) (zF (zF (zF (zF (aV (ro rfl (aM.nat (yM rfl (Ht rfl) (Ht rfl) z7 z7) hor) ?_))))))))
    refine ra rfl (eX (cK (fZ (m:=17) (dp 14 rfl (cX (Ht rfl)) (dp 10 rfl (cX (Ht rfl)) (dp 8 rfl (cX (Ht rfl)) (dq 92 2 rfl (dW (Ht rfl) (cJ 1) zo z6) (dH 91 1 93 3 rfl (dZ U_56 Z_218 (Ht rfl) (Ht rfl) rfl (dY (cF zo))) (dq 94 4 rfl (dJ A_218 Z_218 (Ht rfl)) (dq 95 5 rfl (gZ U_218 U_263 (Ht rfl) z7) ?_))))))))))
    refine dH 90 0 96 6 rfl (xH (Ht rfl) (Ht rfl) zo (by show _ < 18446744073709551616; exact ht64)) (dp 14 rfl (cX (Ht rfl)) (dp 10 rfl (cX (Ht rfl)) (dp 8 rfl (cX (Ht rfl)) (dq 100 10 rfl (dW (Ht rfl) (cJ 1) zo z6) (dH 99 9 101 11 rfl (dZ U_56 Z_218 (Ht rfl) (Ht rfl) rfl (dY (cF zo))) (dq 102 12 rfl (dJ A_218 Z_218 (Ht rfl)) (dq 103 13 rfl (gZ U_218 U_263 (Ht rfl) z7) ?_)))))))
    refine dH 98 8 104 14 rfl (lT (Ht rfl) (Ht rfl) zo) (dq 97 7 rfl (cQ (Ht rfl)) (fV bB rfl (by kernel_rfl) (zF (zF (zF (zF (aJ (aV (ra rfl (eX (cK (kQ (fun (g:Nat)=>Rx (val (us.drop j)) (val vs) g) (fun (g:Nat)=>[(8,NT .i64 vs.length),(9,NT .i64 s),(10,Iq vs),(11,Is (.slice (some ⟨B55,0,none⟩) ((dg m).length + 1) ((dg m).length + 1))),(12,Is (.slice (some ⟨B65,0,none⟩) ((dg m).length + 1 - (dg n).length) ((dg m).length + 1 - (dg n).length))),(13,NT .i64 j),(15,NT .u64 g)]) (fun (g:Nat)=>[box B55 218 (us.map dL),box B65 218 (qs.map dL)]) ?_ (fun g hg=>?_)))))))))))))
    ·refine eG ?_
     refine jE (fun (g : Nat) (r : Nat) => nH (val (us.drop j)) (val vs) (vs.getD (vs.length - 1) 0) top g r ∧ r < 4294967296) (fun (g : Nat) (r : Nat) => g) (fun (g : Nat) (r : Nat) => [(8, NT .i64 vs.length), (9, NT .i64 s), (10, Iq vs), (11, Is (.slice (some ⟨B55, 0, none⟩) ((dg m).length + 1) ((dg m).length + 1))), (12, Is (.slice (some ⟨B65, 0, none⟩) ((dg m).length + 1 - (dg n).length) ((dg m).length + 1 - (dg n).length))), (13, NT .i64 j), (15, NT .u64 g), (16, NT .u64 r)]) (fun (g : Nat) (r : Nat) => [box B55 218 (us.map dL), box B65 218 (qs.map dL)]) (top / vs.getD (vs.length - 1) 0) (top % vs.getD (vs.length - 1) 0) ⟨nH.start hnr htp, Nat.lt_trans (Nat.mod_lt _ zo) hv1⟩
      (zS rfl) (eI.refl _) (fun g r ⟨hG,hr⟩=>?_)
     have hgl:=(hG.glt hnr htp).1
     have hrs:=a3J (a:=r) hr
     have horr:=Hr (a:=r) hu2b
     simp only [BB] at hgl
     refine cK (cK (fZ (m:=22) (dp 15 rfl (cX (Ht rfl)) (dq 106 0 rfl (rZ (Ht rfl) (cJ 4294967296)) (dq 107 1 rfl (cX (Ht rfl)) (C.D_step (Ei:=[(15,_),(108,_)]) rfl rfl (bV (bK rfl rfl) (bV (bG 2 rfl rfl) bW)) (eK rfl rfl (Ht rfl) (fun h=>cX (Ht rfl))) (C.D_step (Ei:=[(10,_),(108,_)]) rfl rfl (bV (bK rfl rfl) (bV (bG 2 rfl rfl) bW)) (eK rfl rfl (Ht rfl) (fun h=>cX (Ht rfl))) (C.D_step (Ei:=[(8,_),(108,_)]) rfl rfl (bV (bK rfl rfl) (bV (bG 2 rfl rfl) bW)) (eK rfl rfl (Ht rfl) (fun h=>cX (Ht rfl))) ?_))))))))
     refine C.D_step (Ei:=[(111,_),(108,_)]) rfl rfl (bV (bG 5 rfl rfl) (bV (bG 2 rfl rfl) bW)) (eK rfl rfl (Ht rfl) (fun h=>dW (fJ rfl h) (cJ 2) (by first | omega | (simp at h; omega)) (by show _ < 9223372036854775808; first | omega | (simp at h; omega)))) (C.D_step (Ei:=[(110,_),(112,_),(108,_)]) rfl rfl (bV (bG 4 rfl rfl) (bV (bG 6 rfl rfl) (bV (bG 2 rfl rfl) bW))) (eK rfl rfl (Ht rfl) (fun h=>dZ U_56 Z_218 (fJ rfl h) (fJ rfl h) rfl (dY (cF (by first | omega | (simp at h; omega)))))) ?_)
     refine C.D_step (Ei:=[(113,_),(108,_)]) rfl rfl (bV (bG 7 rfl rfl) (bV (bG 2 rfl rfl) bW)) (eK rfl rfl (Ht rfl) (fun h=>dJ A_218 Z_218 (fJ rfl h))) (C.D_step (Ei:=[(114,_),(108,_)]) rfl rfl (bV (bG 8 rfl rfl) (bV (bG 2 rfl rfl) bW)) (eK rfl rfl (Ht rfl) (fun h=>gZ U_218 U_263 (fJ rfl h) (by show _ < 18446744073709551616; first | omega | (simp at h; omega)))) (C.D_step (Ei:=[(109,_),(115,_),(108,_)]) rfl rfl (bV (bG 3 rfl rfl) (bV (bG 9 rfl rfl) (bV (bG 2 rfl rfl) bW))) (eK rfl rfl (Ht rfl) (fun h=>pD (fJ rfl h) (fJ rfl h) (by show _ < 18446744073709551616; simp at h; exact a6j h hv2))) ?_))
     refine C.D_step (Ei:=[(16,_),(108,_)]) rfl rfl (bV (bK rfl rfl) (bV (bG 2 rfl rfl) bW)) (eK rfl rfl (Ht rfl) (fun h=>cX (Ht rfl))) (C.D_step (Ei:=[(117,_),(108,_)]) rfl rfl (bV (bG 11 rfl rfl) (bV (bG 2 rfl rfl) bW)) (eK rfl rfl (Ht rfl) (fun h=>xI (fJ rfl h) (cJ 32) (by decide) hrs)) (C.D_step (Ei:=[(11,_),(108,_)]) rfl rfl (bV (bK rfl rfl) (bV (bG 2 rfl rfl) bW)) (eK rfl rfl (Ht rfl) (fun h=>cX (Ht rfl))) (C.D_step (Ei:=[(13,_),(108,_)]) rfl rfl (bV (bK rfl rfl) (bV (bG 2 rfl rfl) bW)) (eK rfl rfl (Ht rfl) (fun h=>cX (Ht rfl))) ?_)))
     refine C.D_step (Ei:=[(8,_),(108,_)]) rfl rfl (bV (bK rfl rfl) (bV (bG 2 rfl rfl) bW)) (eK rfl rfl (Ht rfl) (fun h=>cX (Ht rfl))) (C.D_step (Ei:=[(120,_),(121,_),(108,_)]) rfl rfl (bV (bG 14 rfl rfl) (bV (bG 15 rfl rfl) (bV (bG 2 rfl rfl) bW))) (eK rfl rfl (Ht rfl) (fun h=>dV (fJ rfl h) (fJ rfl h) (by show _ < 9223372036854775808; first | omega | (simp at h; omega)))) (C.D_step (Ei:=[(122,_),(108,_)]) rfl rfl (bV (bG 16 rfl rfl) (bV (bG 2 rfl rfl) bW)) (eK rfl rfl (Ht rfl) (fun h=>dW (fJ rfl h) (cJ 2) (by first | omega | (simp at h; omega)) (by show _ < 9223372036854775808; first | omega | (simp at h; omega)))) ?_))
     refine C.D_step (Ei:=[(119,_),(123,_),(108,_)]) rfl rfl (bV (bG 13 rfl rfl) (bV (bG 17 rfl rfl) (bV (bG 2 rfl rfl) bW))) (eK rfl rfl (Ht rfl) (fun h=>fY U_56 Z_218 (fJ rfl h) (fJ rfl h) rfl (by first | omega | (simp at h; omega)) (by rw [Nat.mul_one,Nat.zero_add]))) ?_
     refine C.D_step (Ei:=[(124,_),(108,_)]) rfl rfl (bV (bG 18 rfl rfl) (bV (bG 2 rfl rfl) bW)) (eK rfl rfl (Ht rfl) (fun h=>eY A_218 Z_218 (fJ rfl h) (i:=0) rfl (dY (cF zo)))) (C.D_step (Ei:=[(125,_),(108,_)]) rfl rfl (bV (bG 19 rfl rfl) (bV (bG 2 rfl rfl) bW)) (eK rfl rfl (Ht rfl) (fun h=>gZ U_218 U_263 (fJ rfl h) (by show _ < 18446744073709551616; first | omega | (simp at h; omega)))) (C.D_step (Ei:=[(118,_),(126,_),(108,_)]) rfl rfl (bV (bG 12 rfl rfl) (bV (bG 20 rfl rfl) (bV (bG 2 rfl rfl) bW))) (eK rfl rfl (Ht rfl) (fun h=>aM.nat (yM rfl (fJ rfl h) (fJ rfl h) (by show _ < 18446744073709551616; first | omega | (simp at h; omega)) (by show _ < 18446744073709551616; first | omega | (simp at h; omega))) horr)) ?_))
     refine fV bB rfl (by kernel_rfl) (zF (zF (zF (zF (zF (aJ (aJ (aV (fQ rfl rfl (eK rfl rfl (Ht rfl) (fun h=>jV (fJ rfl h) (fJ rfl h))) (ro rfl (nD (Ht rfl) (fun h=>(fJ rfl h))) (eX (dQ (Ht rfl) (fun hc=>?_) (fun hc=>?_)))))))))))))
     ·have hn2 := hG.next hnr htp (by simpa [BB] using hc)
      have hg1:=hn2.2
      refine cU (eG (ts (rm rfl (ro rfl (dW (Ht rfl) (cJ 1) zo z7) (ra rfl (eX (ts (rm rfl (rm rfl (rm rfl (ro rfl (dW (Ht rfl) (cJ 1) zo z6) (ro rfl (dZ U_56 Z_218 (Ht rfl) (Ht rfl) rfl (dY (cF zo))) (ro rfl (dJ A_218 Z_218 (Ht rfl)) (ro rfl (gZ U_218 U_263 (Ht rfl) z7) ?_))))))))))))))
      refine ro rfl (dV (Ht rfl) (Ht rfl) z7) (ra rfl (eX (ts (rm rfl (ro rfl (rZ (Ht rfl) (cJ 4294967296)) (eX (dQ (Ht rfl) (fun hr2=>?_) (fun hr2=>?_))))))))
      ·simp at hr2
       refine gV rfl (bD (g - 1) (hn2.1.stop hnr htp hr2) (zS rfl) (eI.refl _))
      ·simp at hr2
       refine cU (bN (fU (g - 1,_) ⟨hn2.1,hr2⟩ (by dsimp only; omega) (zS rfl) (eI.refl _)))
     ·simp at hc
      refine gV rfl (bD g (hG.done hnr htp hc.1 hc.2) (zS rfl) (eI.refl _))
    ·have hglt := hg.lt
     simp only [BB] at hglt
     refine cK (wH (fun (us2:List Nat) (g2:Nat)=>pZ (m * 2 ^ s) vs us2 (qs.set j g2) j ∧ g2 < 4294967296 ∧ us2.length = (dg m).length + 1) (fun (us2:List Nat) (g2:Nat)=>[(8,NT .i64 vs.length),(9,NT .i64 s),(10,Iq vs),(11,Is (.slice (some ⟨B55,0,none⟩) ((dg m).length + 1) ((dg m).length + 1))),(12,Is (.slice (some ⟨B65,0,none⟩) ((dg m).length + 1 - (dg n).length) ((dg m).length + 1 - (dg n).length))),(13,NT .i64 j),(15,NT .u64 g2)]) (fun (us2:List Nat) (g2:Nat)=>[box B55 218 (us2.map dL),box B65 218 (qs.map dL)]) ?_ (fun us2 g2 ⟨hD,hg2,hus2⟩=>?_))
     ·refine ts (rm rfl (rm rfl (rm rfl (rm rfl (Fs Tryz.call267 (a4c hus hS.dig hv hg.lt zo zo) (i := 0) rfl ⟨(Ht rfl), (Ht rfl), (Ht rfl), (Ht rfl), trivial⟩ rfl (fun ⟨out, b⟩ hT => ?_))))))
      dsimp only at hT
      refine eX (dQ (Ht rfl) (fun hbb=>?_) (fun hbb=>?_))
      ·have hbb : b = true := hbb
       subst hbb
       have hg0:=hS.gpos hv rfl zo hT
       have hol:=hT.len
       refine ts (rm rfl (ro rfl (dW (Ht rfl) (cJ 1) zo z7) (ra rfl (eX (ts (ro rfl (cQ (cJ 0)) (eX (cK (ts (rm rfl (ro rfl (dG U_56 (Ht rfl) aC) (ro rfl (cX (cJ 0)) (eX (eG ?_))))))))))))))
       refine oW (fun (i : Nat) (out2 : List Nat) (c : Nat) => wD out vs j out2 i c) (fun (i : Nat) (out2 : List Nat) (c : Nat) => vs.length - i) (fun (i : Nat) (out2 : List Nat) (c : Nat) => [(8, NT .i64 vs.length), (9, NT .i64 s), (10, Iq vs), (11, Is (.slice (some ⟨B55, 0, none⟩) ((dg m).length + 1) ((dg m).length + 1))), (12, Is (.slice (some ⟨B65, 0, none⟩) ((dg m).length + 1 - (dg n).length) ((dg m).length + 1 - (dg n).length))), (13, NT .i64 j), (15, NT .u64 (g - 1 : Nat)), (17, NT .u64 c), (149, Iq vs), (150, NT .i64 vs.length), (151, NT .i64 i)]) (fun (i : Nat) (out2 : List Nat) (c : Nat) => [box B55 218 (out2.map dL), box B65 218 (qs.map dL)]) 0 out 0 (wD.start hT.dig vs j)
        (zS rfl) (eI.refl _) (fun i out2 c hB=>?_)
       refine ts (ro rfl (gX (Ht rfl) (Ht rfl)) (eX (cK (dQ (Ht rfl) (fun hi=>?_) (fun hi=>?_)))))
       ·simp at hi
        have hlen:=hB.len; have hcl:=hB.cle; have hvi:=cC hv i; have hok:=cC hB.dig (i + j)
        simp only [BB] at hvi hok
        refine cU (cK (eG (ts (rm rfl (ro rfl (dZ U_56 Z_218 (Ht rfl) (Ht rfl) rfl (dY (cF zo))) (ro rfl (dJ A_218 Z_218 (Ht rfl)) (ra rfl (ra rfl (eX (ts (rm rfl (rm rfl (rm rfl (rm rfl (ro rfl (dV (Ht rfl) (Ht rfl) z6) (ro rfl (fY U_56 Z_218 (Ht rfl) (Ht rfl) rfl zo (by rw [Nat.mul_one,Nat.zero_add])) ?_))))))))))))))))
        refine ro rfl (eY A_218 Z_218 (Ht rfl) (i:=0) rfl (dY (cF zo))) (ro rfl (gZ U_218 U_263 (Ht rfl) z7) (rm rfl (ro rfl (gZ U_218 U_263 (Ht rfl) z7) (ro rfl (dV (Ht rfl) (Ht rfl) z7) (ro rfl (dV (Ht rfl) (Ht rfl) z7) ?_)))))
        refine ra rfl (eX (ts (rm rfl (rm rfl (rm rfl (ro rfl (dV (Ht rfl) (Ht rfl) z6) (rm rfl (ro rfl (lH rfl U_263 U_218 (Ht rfl)) (ro rfl (fY U_56 Z_218 (Ht rfl) (Ht rfl) rfl zo (by rw [Nat.mul_one,Nat.zero_add])) ?_)))))))))
        refine oK Z_218 (Ht rfl) (Ht rfl) (i:=0) rfl (by first | omega | (simp; omega)) rfl (eX (cY (rm rfl (ro rfl (jO (Ht rfl) (cJ 32) (by decide)) (ra rfl (eX (bN (cY (ro rfl (dV (Ht rfl) (cJ 1) z6) (rm rfl (eX (fU (i + 1,_,_) (hB.next hv hi zo rfl) (by dsimp only; omega) (zS rfl) (aU (aD (lA _ _ _)) (aU (fun _ _ _ h=>h) aY))))))))))))))
       ·simp at hi
        have hil:i = vs.length:=Nat.le_antisymm hB.ile hi
        subst hil
        have hlen:=hB.len; have hcl:=hB.cle; have hok:=cC hB.dig (j + vs.length)
        have hBk:=hB.fin zo rfl
        obtain ⟨_,hDn⟩:=hS.wrong hv hV0 (Nat.succ_pos j) rfl hg hT hBk
        simp only [BB] at hok
        refine gV rfl (cY (rm rfl (rm rfl (rm rfl (ro rfl (dV (Ht rfl) (Ht rfl) z6) (ro rfl (fY U_56 Z_218 (Ht rfl) (Ht rfl) rfl zo (by rw [Nat.mul_one,Nat.zero_add])) ?_))))))
        refine ro rfl (eY A_218 Z_218 (Ht rfl) (i:=0) rfl (dY (cF zo))) (rm rfl (ro rfl (gZ U_263 U_218 (Ht rfl) (by show _ < 4294967296; first | omega | (simp only [oD]; omega))) (ro rfl (a2r rfl (Ht rfl) (Ht rfl)) (ro rfl (fY U_56 Z_218 (Ht rfl) (Ht rfl) rfl zo (by rw [Nat.mul_one,Nat.zero_add])) ?_))))
        refine oK Z_218 (Ht rfl) (Ht rfl) (i:=0) rfl (by first | omega | (simp; omega)) rfl (eX (bD (_,g - 1) ⟨hDn,by dsimp only; omega,by simp; omega⟩ (zS rfl) (aU (aD (lA _ _ _)) (aU (fun _ _ _ h=>h) aY))))
      ·have hbb : b = false := hbb
       subst hbb
       have hol:=hT.len
       refine cU (bD (out,g) ⟨hS.right hv hV0 (Nat.succ_pos j) rfl hg hT,hglt,by dsimp only; omega⟩ (zS rfl) (eI.refl _))
     ·refine cY (rm rfl (rm rfl (rm rfl (ro rfl (gZ U_263 U_218 (Ht rfl) (by show _ < 4294967296; first | omega | (simp only [oD]; omega))) (ro rfl (fY U_56 Z_218 (Ht rfl) (Ht rfl) rfl zo (by rw [Nat.mul_one, Nat.zero_add])) ?_)))))
      refine oK Z_218 (Ht rfl) (Ht rfl) (i:=1) rfl (by first | omega | (simp; omega)) rfl (eX (bN (cY (rm rfl (ro rfl (kX (Ht rfl) cV (Ea zo)) (ra rfl (eX (fU (j,us2,_) ⟨hD,hus2⟩ (by dsimp only; omega) (zS rfl) (aU (fun _ _ _ h=>h) (aU (aD (lA _ _ _)) aY))))))))))
   ·simp at hk
    have hk0:k = 0:=by omega
    subst hk0
    have hfin:=hS.fin hV0
    have hlq:=hS.lenq
    rw [hvv] at hfin
    have hdiv:val qs = m / n:=by rw [hfin.1]; exact Nat.mul_div_mul_right _ _ hp2
    have hsm:val us < BB ^ vs.length:=by have h1:=hS.small; rw [List.drop_zero] at h1; exact Nat.lt_trans h1 (kK hv)
    have hmod : val (us.take vs.length) / 2 ^ s = m % n := by
     rw [xT hsm zo,hfin.2,Nat.mul_mod_mul_right,Nat.mul_div_cancel _ hp2]
    have hru : (dg (val (us.take vs.length))).length ≤ 17592186044416 := by
     refine Nat.le_trans (lP (k:=vs.length) ?_) zo
     rw [xT hsm zo]; exact hsm
    refine gV rfl (gJ (i:=1) (tt:=12) rfl rfl (sW rfl zo (Nat.le_refl _)) (gJ (i:=0) (tt:=11) rfl rfl (sW rfl zo (Nat.le_refl _)) (cK (fZ (m:=7) (dp 12 rfl (cX (Ht rfl)) (dq 193 0 rfl (cZ K_237 (rP _ hS.digq zo) ⟨(Ht rfl),trivial⟩) (dp 11 rfl (cX (Ht rfl)) (dp 8 rfl (cX (Ht rfl)) (dH 195 2 196 3 rfl (aM.imp (Fg U_56 Z_218 (Ht rfl) (Ht rfl) (fun m e=>by cases e) zo (by simp; omega) rfl) (a1L _ _)) ?_)))))))))
    refine dq 197 4 rfl (cZ K_237 (rP _ (hS.dig.take' vs.length) (by simp; omega)) ⟨(Ht rfl),trivial⟩) ?_
    refine dp 9 rfl (cX (Ht rfl)) (fV bB rfl (by kernel_rfl) (zF (aJ (aJ (aJ (aV (ro rfl (cZ Tryz.call268 (a61 hru zo) ⟨(Ht rfl),(Ht rfl),trivial⟩) (ra rfl (ra rfl (eX (bL rfl (fX (eU rfl) ?_) (fX (eU rfl) ?_))))))))))))
    ·exact (gW hdiv)
    ·exact (gW hmod)
end
section
open Go Go.RowKit
theorem a4C:Tryz.prog.info? 5 = some Tryz.t5:=by kernel_rfl
theorem Ru:Tryz.prog.underlying 296 = some (.slice 5):=by kernel_rfl
theorem a6D:Tryz.prog.underlying 5 = some (.int .u8):=by kernel_rfl
theorem a6E:Tryz.prog.underlying 9 = some (.string):=by kernel_rfl
end
section
open Go Go.RowKit
theorem a3q {m n:Nat} (hm:(dg m).length ≤ 17592186044415) (hn:(dg n).length ≤ 17592186044415):bF Tryz.prog 231 [aS m,aS n] (aS (Nat.gcd m n)):=by
 refine bF.intro Tryz.func231 rfl Tryz.ntmps231 rfl (fun cx=>(ts (ro rfl (cQ cV) (eX (cK (eG ?_))))))
 refine jE (fun (x : Nat) (y : Nat) => Nat.gcd x y = Nat.gcd m n ∧ (dg x).length ≤ 17592186044415 ∧ (dg y).length ≤ 17592186044415) (fun (x : Nat) (y : Nat) => y) (fun (x : Nat) (y : Nat) => [(0, aS x), (1, aS y)]) (fun (x : Nat) (y : Nat) => []) m n ⟨rfl, hm, hn⟩
  (zS rfl) aY (fun x y ⟨hg,hx,hy⟩=>?_)
 refine cK (ts (rm rfl (ro rfl (dG U_56 (Ht rfl) aC) (ro rfl (jV (Ht rfl) (cJ 0)) (eX (dQ (Ht rfl) (fun hb=>?_) (fun hb=>?_)))))))
 ·simp at hb
  have hy0:y ≠ 0:=fun e=>by rw [e,fP] at hb; simp at hb
  have hlt:=Nat.mod_lt x (Nat.pos_of_ne_zero hy0)
  refine cU (eG (ts (rm rfl (rm rfl (ro rfl (cZ Tryz.call233 (Pd hx zo hy0) ⟨(Ht rfl),(Ht rfl),trivial⟩) (rm rfl (ro rfl (dK (Ht rfl) rfl) (ro rfl (dK (Ht rfl) rfl) (ra rfl (ra rfl (eX (cY (rm rfl (rm rfl (ra rfl (ra rfl (eX (bN (fU (y,x % y) ⟨by rw [← hg,Nat.gcd_comm x y,Nat.gcd_rec y x,Nat.gcd_comm],hy,Nat.le_trans (lU (Nat.le_of_lt hlt)) hy⟩ hlt (zS rfl) aY)))))))))))))))))))
 ·simp at hb
  have hy0:y = 0:=bO.1 (by simpa using hb)
  subst hy0
  rw [Nat.gcd_zero_right] at hg
  refine gV rfl (ts (rm rfl (ra rfl (eX (fW rfl (fX (eU rfl) ?_))))))
  exact (gW hg)
theorem a60 {l:List Nat} {v:Value} (hl:l.length ≤ 1152921504606846976):iV Tryz.prog 280 [Is v] [bI 5 1 v (l.map Du)] Unit (fun _=>pX) (fun _=>[bI 5 1 v (l.reverse.map Du)]) (fun _=>True):=by
 refine iV.intro Tryz.func280 rfl Tryz.ntmps280 rfl (fun cx Z=>(ts (rm rfl (ro rfl (nW U_296 (Ht rfl) (i:=1) rfl aC) (ro rfl (kX (Ht rfl) cV (Ea zo)) (ro rfl (cQ (cJ 0)) (ra rfl (eX (eG ?_)))))))))
 refine jE (fun (k : Nat) (o : List Nat) => Ft l o k) (fun (k : Nat) (o : List Nat) => l.length - k) (fun (k : Nat) (o : List Nat) => [(0, Is v), (2, NT .i64 k), (3, aL .i64 ((l.length : Int) - 1 - (k : Int)))]) (fun (k : Nat) (o : List Nat) => [Z, bI 5 1 v (o.map Du)]) 0 l (Ft.start l)
  (aQ rfl (aQ rfl (aZ rfl (aT zo) aX))) (eI.refl _) (fun k o hS=>?_)
 refine cK (ts (rm rfl (rm rfl (ro rfl (tD (Ht rfl) (Ht rfl)) (eX (dQ (Ht rfl) (fun hb=>?_) (fun hb=>?_)))))))
 ·simp only [decide_eq_true_eq] at hb
  have hk:2 * k + 1 < l.length:=by omega
  obtain ⟨j,hj⟩:∃ j,j = l.length - 1 - k:=⟨_,rfl⟩
  have hlen:=hS.len
  refine Bf (E':=[(0,_),(2,_),(3,_),(7,_),(8,_),(9,_)]) (aQ rfl (aQ rfl (aZ rfl (aT (show (l.length:Int) - 1 - (k:Int) = (j:Int) by omega)) (zS rfl)))) (cU (cK (eG (W.D_start (m:=14) (fun b=>cond b ([Z,bI 5 1 v ((o.map Du).set k (Du (o.getD j 0)))]) _) 13 (W.D_step (Ei:=[(0,_)]) rfl rfl (W.Srcs.cons (W.Src.pre rfl rfl) W.Srcs.nil) rfl (by kernel_rfl) (dX rfl (cX (Ht rfl))) (W.D_step (Ei:=[(2,_)]) rfl rfl (W.Srcs.cons (W.Src.pre rfl rfl) W.Srcs.nil) rfl (by kernel_rfl) (dX rfl (cX (Ht rfl))) ?_))))))
  refine W.D_pure (Ei:=[(0,_)]) rfl rfl (W.Srcs.cons (W.Src.pre rfl rfl) W.Srcs.nil) rfl (fun _=>dX rfl (cX (Ht rfl))) (W.D_pure (Ei:=[(3,_)]) rfl rfl (W.Srcs.cons (W.Src.pre rfl rfl) W.Srcs.nil) rfl (fun _=>dX rfl (cX (Ht rfl))) (W.D_step (Ei:=[(0,_)]) rfl rfl (W.Srcs.cons (W.Src.pre rfl rfl) W.Srcs.nil) rfl (by kernel_rfl) (dX rfl (cX (Ht rfl))) (W.D_step (Ei:=[(3,_)]) rfl rfl (W.Srcs.cons (W.Src.pre rfl rfl) W.Srcs.nil) rfl (by kernel_rfl) (dX rfl (cX (Ht rfl))) (W.D_step (Ei:=[(18,_),(19,_)]) rfl rfl (W.Srcs.cons (W.Src.op 4 rfl rfl) (W.Srcs.cons (W.Src.op 5 rfl rfl) W.Srcs.nil)) rfl (by kernel_rfl) (dX rfl (dA U_296 Z_5 (Ht rfl) (Ht rfl) rfl (i:=1) rfl (by first | omega | (simp; omega)) rfl)) ?_))))
  refine W.D_step (Ei:=[(20,_)]) rfl rfl (W.Srcs.cons (W.Src.op 6 rfl rfl) W.Srcs.nil) rfl (by kernel_rfl) (dX rfl (oN A_5 Z_5 (Ht rfl) (i:=1) rfl rfl (dY (cF zo)))) (W.D_step (Ei:=[(0,_)]) rfl rfl (W.Srcs.cons (W.Src.pre rfl rfl) W.Srcs.nil) rfl (by kernel_rfl) (dX rfl (cX (Ht rfl))) (W.D_step (Ei:=[(2,_)]) rfl rfl (W.Srcs.cons (W.Src.pre rfl rfl) W.Srcs.nil) rfl (by kernel_rfl) (dX rfl (cX (Ht rfl))) (W.D_step (Ei:=[(22,_),(23,_)]) rfl rfl (W.Srcs.cons (W.Src.op 8 rfl rfl) (W.Srcs.cons (W.Src.op 9 rfl rfl) W.Srcs.nil)) rfl (by kernel_rfl) (dX rfl (dA U_296 Z_5 (Ht rfl) (Ht rfl) rfl (i:=1) rfl (by first | omega | (simp; omega)) rfl)) ?_)))
  refine W.D_step (Ei:=[(24,_)]) rfl rfl (W.Srcs.cons (W.Src.op 10 rfl rfl) W.Srcs.nil) rfl (by kernel_rfl) (dX rfl (oN A_5 Z_5 (Ht rfl) (i:=1) rfl rfl (dY (cF zo)))) (W.D_step (Ei:=[(14,_),(15,_)]) rfl rfl (W.Srcs.cons (W.Src.op 0 rfl rfl) (W.Srcs.cons (W.Src.op 1 rfl rfl) W.Srcs.nil)) rfl (by kernel_rfl) (dX rfl (dA U_296 Z_5 (Ht rfl) (Ht rfl) rfl (i:=1) rfl (by first | omega | (simp; omega)) rfl)) (W.D_put (Ei:=[(26,_),(21,_)]) rfl rfl (W.Srcs.cons (W.Src.op 12 rfl rfl) (W.Srcs.cons (W.Src.op 7 rfl rfl) W.Srcs.nil)) rfl (Om Z_5 (Ht rfl) (Ht rfl) El.one (i:=1) rfl rfl (by first | omega | (simp; omega))) ?_))
  refine W.D_done bB rfl (by kernel_rfl) rfl (W.F_val (W.F_val (W.F_val (W.F_val (W.F_val (W.F_val (W.F_val (W.F_val (W.F_val (W.F_val (W.F_val (W.F_val (W.F_val (W.F_put (W.F_nil (ro rfl (dA U_296 Z_5 (Ht rfl) (Ht rfl) rfl (i:=1) rfl (by first | omega | (simp; omega)) rfl) (lZ Z_5 (Ht rfl) (Ht rfl) El.one (i:=1) rfl rfl (by first | omega | (simp; omega)) rfl (eX (bN (cY (rm rfl (ro rfl (dV (Ht rfl) (cJ 1) z6) (rm rfl (ro rfl (kX (Ht rfl) cV (Ea zo)) ?_))))))))))))))))))))))))
  refine ra rfl (ra rfl (eX (fU (k + 1,_) (hS.next hk hj) (by dsimp only; omega) (aQ rfl (aQ rfl (aZ rfl (aT zo) aX))) (aU (fun _ _ _ h=>h) (aU (aP (a3f _ _ _ _ _)) aY)))))
 ·simp only [decide_eq_false_iff_not] at hb
  have hfin:=hS.fin (by have:=hS.kle; omega)
  refine gV rfl ?_
  exact a3S () trivial [0,1] ⟨⟨_,rfl,fun _ _ _ h=>h⟩,⟨_,rfl,(aP (by rw [hfin]))⟩,trivial⟩ (by decide) (a6U rfl (fun _=>trivial))
theorem Jg {m:Nat} (hm:(dg m).length ≤ 8796093022208):bF Tryz.prog 260 [aS m] (uI (Bm m)):=by
 refine bF.intro Tryz.func260 rfl Tryz.ntmps260 rfl (fun cx=>(ts (ro rfl (cQ (bC.cS (l:=[]) rfl)) (eX (cK (ts (rm rfl (ro rfl (dG U_56 (Ht rfl) aC) (ro rfl (eC (Ht rfl) (cJ 0)) (eX (dQ (Ht rfl) (fun hb=>?_) (fun hb=>?_))))))))))))
 ·simp at hb
  have h0:m = 0:=bO.1 (by simpa using hb)
  subst h0
  refine ts (ro rfl (cQ (bC.cS (l:=[48]) rfl)) (eX (fW rfl (fX (eU rfl) ?_))))
  exact (pW rfl)
 ·simp at hb
  have h0:m ≠ 0:=fun e=>hb (by rw [e,fP])
  refine cU (ts (ro rfl (cQ cV) (eX (cK (eG (uL 5 1 ?_))))))
  refine oW (fun (x : Nat) (out : List Nat) (v : Value) => Fq m out x ∧ x ≤ m) (fun (x : Nat) (out : List Nat) (v : Value) => x) (fun (x : Nat) (out : List Nat) (v : Value) => [(0, aS x), (3, Is v)]) (fun (x : Nat) (out : List Nat) (v : Value) => [bI 5 1 v (out.map Du)]) m [] (.slice none 0 0) ⟨Fq.start m, Nat.le_refl m⟩
   (zS rfl) (eI.refl _) (fun x out v ⟨hO,hle⟩=>?_)
  refine cK (ts (rm rfl (ro rfl (dG U_56 (Ht rfl) aC) (ro rfl (jV (Ht rfl) (cJ 0)) (eX (dQ (Ht rfl) (fun hc=>?_) (fun hc=>?_)))))))
  ·simp at hc
   have hx0:x ≠ 0:=fun e=>by rw [e,fP] at hc; simp at hc
   have hxm:=lU hle
   refine cU (eG (ts (ro rfl (cQ (cJ 0)) (eX (ts (rm rfl (ro rfl (cZ Tryz.call264 (Pi zo (by decide) (by decide)) ⟨(Ht rfl),(cJ 1000000000),trivial⟩) (rm rfl (ro rfl (dK (Ht rfl) rfl) (ro rfl (dK (Ht rfl) rfl) (ra rfl (ra rfl (eX (ts (ro rfl (cQ (cJ 0)) (eX (eG ?_)))))))))))))))))
   refine Fx (fun (r : Nat) (k : Nat) (out : List Nat) (v : Value) => Bc m out (x / 1000000000) r k) (fun (r : Nat) (k : Nat) (out : List Nat) (v : Value) => 9 - k) (fun (r : Nat) (k : Nat) (out : List Nat) (v : Value) => [(0, aS (x / 1000000000)), (3, Is v), (4, dL r), (5, NT .i64 k)]) (fun (r : Nat) (k : Nat) (out : List Nat) (v : Value) => [bI 5 1 v (out.map Du)]) (x % 1000000000) 0 out v (hO.inner)
    (zS rfl) (eI.refl _) (fun r k out v hI=>?_)
   refine cK (ts (rm rfl (ro rfl (gX (Ht rfl) (cJ 9)) (rm rfl (fQ rfl rfl (wG rfl rfl (Ht rfl) (fun h=>cX (Ht rfl))) (fQ rfl rfl (wG rfl rfl (Ht rfl) (fun h=>dG U_56 (bC.wu rfl h) aC)) (fQ rfl rfl (wG rfl rfl (Ht rfl) (fun h=>jV (bC.wu rfl h) (cJ 0))) (fQ rfl rfl (wG rfl rfl (Ht rfl) (fun h=>cX (bC.wu rfl h))) (fQ rfl rfl (On rfl rfl rfl (fun h h2=>cX (Ht rfl))) (fQ rfl rfl (On rfl rfl rfl (fun h h2=>jV (bC.wu rfl ⟨h,h2⟩) (cJ 0))) (fQ rfl rfl (wG rfl rfl (Ht rfl) (fun h=>nD (bC.wu rfl h) (fun h2=>(bC.wu rfl ⟨h,h2⟩)))) ?_)))))))))))
   refine ro rfl (gS (Ht rfl) (fun h=>(bC.wu rfl h))) (eX (dQ (Ht rfl) (fun hd=>?_) (fun hd=>?_)))
   ·simp at hd
    have hxr:0 < x / 1000000000 ∨ 0 < r:=hd.2.imp (fun h=>Nat.pos_of_ne_zero (fun e=>by rw [e,fP] at h; simp at h)) id
    have hln:=hI.len hxr
    have hr32:=hI.r32
    refine cU (cK (eG (ts (rm rfl (rm rfl (ro rfl (lT (Ht rfl) (cJ 10) zo) (ro rfl (dV (cJ 48) (Ht rfl) (by show _ < 4294967296; first | omega | (simp only [oD]; omega))) (ro rfl (gZ U_218 U_5 (Ht rfl) (by show _ < 256; first | omega | (simp only [oD]; omega))) (ro rfl (eH (xs:=[.tmp 34]) U_296 Z_5 Tryz.zeroValue5 (cW (Ht rfl) cG) rfl rfl rfl) (sJ (inf:=Tryz.t5) Ru a4C rfl rfl rfl (Ht rfl) (Ht rfl) (i:=0) rfl (by simp) (fun T hT=>by simp at hT; subst hT; exact El.one) (by show _ * 1 ≤ _; simp only [List.length_map,List.length_cons,List.length_nil]; omega) (by simp only [List.length_map,List.length_cons,List.length_nil]; omega) rfl (fun v2=>?_)))))))))))
    refine ra rfl (eX (cY (rm rfl (ro rfl (xH (Ht rfl) (cJ 10) zo (by show _ < 4294967296; first | omega | (simp only [oD]; omega))) (ra rfl (eX (bN (cY (rm rfl (ro rfl (dV (Ht rfl) (cJ 1) z6) (ra rfl (eX (fU (r / 10,k + 1,_,v2) (hI.next hd.1 hxr) (by dsimp only; omega) (zS rfl) (aU (aP (a5G _ _)) aY))))))))))))))
   ·simp at hd
    have hO2 := hI.fin (fun ⟨h1, h2⟩ => by
     have h3:=hd h1
     rcases h2 with h2 | h2
     ·have:=yB.1 h3.1; omega
     ·omega)
    refine gV rfl (bN (fU (x / 1000000000,_,_) ⟨hO2,Nat.le_trans (Nat.div_le_self _ _) hle⟩ (Nat.div_lt_self (Nat.pos_of_ne_zero hx0) (by decide)) (zS rfl) (eI.refl _)))
  ·simp at hc
   have hx0:x = 0:=bO.1 (by simpa using hc)
   subst hx0
   have hfin:=hO.fin
   have hdl:=sS m
   rw [hfin] at hdl
   refine gV rfl (ts (rm rfl (Fs Tryz.call280 (a60 zo) (i:=0) rfl ⟨(Ht rfl),trivial⟩ rfl (fun _ _=>(eX (cK (gJ (i:=0) (tt:=3) rfl rfl gE (cY (rm rfl (ro rfl (Zn Ru a6D a6E (Ht rfl) (by rw [← hfin]; simpa using a1K h0) (fun b hb=>a4g (n:=m) b (by rw [zR h0,hfin]; exact hb))) ?_))))))))))
   refine ra rfl (eX (fW rfl (fX (eU rfl) ?_)))
   exact (pW (by rw [zR h0,hfin]))
end
section
open Go Go.RowKit
theorem uX {n : Nat} {E : cP} {H : Hp} {d : Option Tmp} {t : TypeId} {pos : String} {af : Array Edge} {g : Option (Nat × Bool)} {x0 x1 : Operand} {T0 T1 : Ty} [s0 : dF T0 1 false] (h0 : bC E x0 T0) [s1 : dF T1 1 false] (h1 : bC E x1 T1) :
  aM Tryz.prog n E H ⟨d,.build 58 #[(0,x0),(1,x1)],t,pos,af,g⟩ (fS [T0,T1]) :=
 kD (parts := [(0, x0), (1, x1)]) fun a V w hs => by
  have p0:=h0 n V a hs
  generalize e0:a.eval x0 = v0 at p0
  have q0:=(s0.ok v0 V p0).2.2 rfl
  have p1:=h1 n V a hs
  generalize e1:a.eval x1 = v1 at p1
  have q1:=(s1.ok v1 V p1).2.2 rfl
  refine ⟨.agg #[v0,v1],?_,[v0,v1],rfl,aW (⟨p0,q0⟩) (aW (⟨p1,q1⟩) (aG))⟩
  simp [e0,e1,Instr.build,Instr.fill,Sem.run_bind,Result.andThen,iW,q0.cells,q1.cells,O_58,U_58,Z_4,Z_56]
theorem lQ (a:Addr) (w:World):(Instr.fieldAt 58 (.pointer (some a)) 0).run Tryz.prog w = .ok (.pointer (some (a.add 0))) w:=by
 simp [Instr.fieldAt,Instr.sureAddr,fieldPlace,Sem.run_bind,Result.andThen,U_58,Z_4]
theorem eT (a:Addr) (w:World):(Instr.fieldAt 58 (.pointer (some a)) 1).run Tryz.prog w = .ok (.pointer (some (a.add 1))) w:=by
 simp [Instr.fieldAt,Instr.sureAddr,fieldPlace,Sem.run_bind,Result.andThen,U_58,Z_56]
end
section
open Go Go.RowKit
theorem Gh {n:Int} (h1:-9223372036854775808 ≤ n) (h2:n ≤ 9223372036854775807):bF Tryz.prog 157 [aL .i64 n] (jP n):=by
 refine bF.intro Tryz.func157 rfl Tryz.ntmps157 rfl (fun cx=>(ts (rn rfl (eW (Ts:=[Is (.bool false),Is (.slice none 0 0)]) O_58 rfl (fun V=>aW zd (aW zd (aG)))) fun B2=>(eX (cK (ts (rm rfl (ro rfl (tD (Ht rfl) cV) (eX (dQ (Ht rfl) (fun hb=>?_) (fun hb=>?_)))))))))))
 ·have hn : n < 0 := by simpa using hb
  refine ts (rm rfl (ro rfl (Ah U_2 U_263 (Ht rfl) (r:=((18446744073709551616 - n.natAbs:Nat):Int)) (by rw [IntKind.wrap_u64]; omega)) ?_))
  refine ro rfl (Nq (Ht rfl) (r:=((n.natAbs:Nat):Int)) (by rw [IntKind.wrap_u64]; omega)) ?_
  refine ro rfl (cZ Tryz.call238 (Gg zo) ⟨(Ht rfl),trivial⟩) (ro rfl (uX cV (Ht rfl)) (gQ Z_58 (Ht rfl) (Ht rfl) rfl (i:=0) rfl (aK rfl) rfl rfl (eX (fW rfl (fX (fK A_58 Z_58 rfl (i:=0) rfl rfl) ?_)))))
  exact (xY (by rw [hb]; rfl))
 ·have hn : ¬ n < 0 := by simpa using hb
  refine cU (ts (rm rfl (ro rfl (Ah U_2 U_263 (Ht rfl) (r:=((n.natAbs:Nat):Int)) (by rw [IntKind.wrap_u64]; omega)) ?_)))
  refine ro rfl (cZ Tryz.call238 (Gg zo) ⟨(Ht rfl),trivial⟩) (ro rfl (uX cV (Ht rfl)) (gQ Z_58 (Ht rfl) (Ht rfl) rfl (i:=0) rfl (aK rfl) rfl rfl (eX (fW rfl (fX (fK A_58 Z_58 rfl (i:=0) rfl rfl) ?_)))))
  exact (xY (by rw [hb]; rfl))
theorem pH {b:Bool} {m:Nat}:bF Tryz.prog 234 [aI b,aS m] (jP (Ij b m)):=by
 refine bF.intro Tryz.func234 rfl Tryz.ntmps234 rfl (fun cx=>(ts (rn rfl (eW (Ts:=[Is (.bool false),Is (.slice none 0 0)]) O_58 rfl (fun V=>aW zd (aW zd (aG)))) fun B4=>(eX (ts (rm rfl (rm rfl (fQ rfl rfl (eK rfl rfl (Ht rfl) (fun h=>cX (Ht rfl))) (fQ rfl rfl (eK rfl rfl (Ht rfl) (fun h=>dG U_56 (fJ rfl h) aC)) (fQ rfl rfl (eK rfl rfl (Ht rfl) (fun h=>jV (fJ rfl h) (cJ 0))) (ro rfl (gS (Ht rfl) (fun h=>(fJ rfl h))) (rm rfl ?_))))))))))))
 refine ro rfl (uX (Ht rfl) (Ht rfl)) (gQ Z_58 (Ht rfl) (Ht rfl) rfl (i:=0) rfl (aK rfl) rfl rfl (eX (fW rfl (fX (fK A_58 Z_58 rfl (i:=0) rfl rfl) ?_))))
 exact a5o
theorem qC {x:Int}:bF Tryz.prog 167 [jP x] (jP (-x)):=by
 refine bF.intro Tryz.func167 rfl Tryz.ntmps167 rfl (fun cx=>(ts (rn rfl (fG (Ht rfl)) fun B1=>(rn rfl (eW (Ts:=[Is (.bool false),Is (.slice none 0 0)]) O_58 rfl (fun V=>aW zd (aW zd (aG)))) fun B2=>(eX (ts (ro rfl (eZ lQ (Ht rfl) rfl) (ro rfl (eY A_4 Z_4 (Ht rfl) (i:=0) rfl rfl) (ro rfl (gG (Ht rfl)) (ro rfl (eZ eT (Ht rfl) rfl) (ro rfl (eY A_56 Z_56 (Ht rfl) (i:=0) rfl rfl) (ro rfl (cZ K_234 pH ⟨(Ht rfl),(Ht rfl),trivial⟩) ?_))))))))))))
 refine gQ Z_58 (Ht rfl) (Ht rfl) rfl (i:=1) rfl (aK rfl) rfl rfl (eX (fW rfl (fX (fK A_58 Z_58 rfl (i:=1) rfl rfl) ?_)))
 exact (rK (Ul x))
theorem vA {x y:Int} (hx:(dg x.natAbs).length ≤ 17592186044416) (hy:(dg y.natAbs).length ≤ 17592186044416):bF Tryz.prog 152 [jP x,jP y] (jP (x + y)):=by
 refine bF.intro Tryz.func152 rfl Tryz.ntmps152 rfl (fun cx=>(ts (rn rfl (fG (Ht rfl)) fun B2=>(rn rfl (fG (Ht rfl)) fun B3=>(rn rfl (eW (Ts:=[Is (.bool false),Is (.slice none 0 0)]) O_58 rfl (fun V=>aW zd (aW zd (aG)))) fun B4=>(eX (cK (ts (ro rfl (eZ lQ (Ht rfl) rfl) (ro rfl (eY A_4 Z_4 (Ht rfl) (i:=0) rfl rfl) (ro rfl (eZ lQ (Ht rfl) rfl) (ro rfl (eY A_4 Z_4 (Ht rfl) (i:=1) rfl rfl) (ro rfl (a4Y Tryz.runUnderlying4 (Ht rfl) (Ht rfl)) ?_)))))))))))))
 refine eX (dQ (Ht rfl) (fun hb=>?_) (fun hb=>?_))
 ·have he : decide (x < 0) = decide (y < 0) := by simpa using hb
  refine cK (fZ (m:=7) (dp 2 rfl (eZ lQ (Ht rfl) rfl) (dq 10 0 rfl (eY A_4 Z_4 (Ht rfl) (i:=0) rfl rfl) (dp 2 rfl (eZ eT (Ht rfl) rfl) (dq 12 2 rfl (eY A_56 Z_56 (Ht rfl) (i:=0) rfl rfl) (dp 3 rfl (eZ eT (Ht rfl) rfl) (dq 14 4 rfl (eY A_56 Z_56 (Ht rfl) (i:=1) rfl rfl) (dH 13 3 15 5 rfl (cZ Tryz.call235 (a5Y zo zo) ⟨(Ht rfl),(Ht rfl),trivial⟩) (fV bB rfl (by kernel_rfl) (zF (aJ (aJ (aJ (aV ?_))))))))))))))
  refine ro rfl (cZ K_234 pH ⟨(Ht rfl),(Ht rfl),trivial⟩) (gQ Z_58 (Ht rfl) (Ht rfl) rfl (i:=2) rfl (aK rfl) rfl rfl (eX (fW rfl (fX (fK A_58 Z_58 rfl (i:=2) rfl rfl) ?_))))
  exact (rK (a0u he))
 ·have he : decide (x < 0) ≠ decide (y < 0) := by simpa using hb
  refine cU (cK (ts (ro rfl (eZ eT (Ht rfl) rfl) (ro rfl (eY A_56 Z_56 (Ht rfl) (i:=0) rfl rfl) (ro rfl (eZ eT (Ht rfl) rfl) (ro rfl (eY A_56 Z_56 (Ht rfl) (i:=1) rfl rfl) (ro rfl (cZ Tryz.call199 (Wg zo zo) ⟨(Ht rfl),(Ht rfl),trivial⟩) (ro rfl (pS (Ht rfl) cV) (eX (dQ (Ht rfl) (fun hc=>?_) (fun hc=>?_)))))))))))
  ·have hle : y.natAbs ≤ x.natAbs := a1A (by simpa using hc)
   refine cK (fZ (m:=7) (dp 2 rfl (eZ lQ (Ht rfl) rfl) (dq 24 0 rfl (eY A_4 Z_4 (Ht rfl) (i:=0) rfl rfl) (dp 2 rfl (eZ eT (Ht rfl) rfl) (dq 26 2 rfl (eY A_56 Z_56 (Ht rfl) (i:=0) rfl rfl) (dp 3 rfl (eZ eT (Ht rfl) rfl) (dq 28 4 rfl (eY A_56 Z_56 (Ht rfl) (i:=1) rfl rfl) (dH 27 3 29 5 rfl (cZ Tryz.call236 (a3u zo zo) ⟨(Ht rfl),(Ht rfl),trivial⟩) (fV bB rfl (by kernel_rfl) (zF (aJ (aJ (aJ (aV ?_))))))))))))))
   refine ro rfl (cZ K_234 pH ⟨(Ht rfl),(Ht rfl),trivial⟩) (gQ Z_58 (Ht rfl) (Ht rfl) rfl (i:=2) rfl (aK rfl) rfl rfl (eX (fW rfl (fX (fK A_58 Z_58 rfl (i:=2) rfl rfl) ?_))))
   exact (rK (Le he hle))
  ·have hle : x.natAbs ≤ y.natAbs := Nat.le_of_lt (a1B (by simpa using hc))
   refine cU (cK (fZ (m:=7) (dp 3 rfl (eZ lQ (Ht rfl) rfl) (dq 32 0 rfl (eY A_4 Z_4 (Ht rfl) (i:=1) rfl rfl) (dp 3 rfl (eZ eT (Ht rfl) rfl) (dq 34 2 rfl (eY A_56 Z_56 (Ht rfl) (i:=1) rfl rfl) (dp 2 rfl (eZ eT (Ht rfl) rfl) (dq 36 4 rfl (eY A_56 Z_56 (Ht rfl) (i:=0) rfl rfl) (dH 35 3 37 5 rfl (cZ Tryz.call236 (a3u zo zo) ⟨(Ht rfl),(Ht rfl),trivial⟩) (fV bB rfl (by kernel_rfl) (zF (aJ (aJ (aJ (aV ?_)))))))))))))))
   refine ro rfl (cZ K_234 pH ⟨(Ht rfl),(Ht rfl),trivial⟩) (gQ Z_58 (Ht rfl) (Ht rfl) rfl (i:=2) rfl (aK rfl) rfl rfl (eX (fW rfl (fX (fK A_58 Z_58 rfl (i:=2) rfl rfl) ?_))))
   exact (rK (by rw [Le (Ne.symm he) hle,Int.add_comm]))
theorem qD {x y:Int} (hx:(dg x.natAbs).length ≤ 17592186044416) (hy:(dg y.natAbs).length ≤ 17592186044416):bF Tryz.prog 151 [jP x,jP y] (jP (x * y)):=by
 refine bF.intro Tryz.func151 rfl Tryz.ntmps151 rfl (fun cx=>(ts (rn rfl (fG (Ht rfl)) fun B2=>(rn rfl (fG (Ht rfl)) fun B3=>(rn rfl (eW (Ts:=[Is (.bool false),Is (.slice none 0 0)]) O_58 rfl (fun V=>aW zd (aW zd (aG)))) fun B4=>(eX (cK (fZ (m:=10) (dp 2 rfl (eZ lQ (Ht rfl) rfl) (dq 5 0 rfl (eY A_4 Z_4 (Ht rfl) (i:=0) rfl rfl) (dp 3 rfl (eZ lQ (Ht rfl) rfl) (dq 7 2 rfl (eY A_4 Z_4 (Ht rfl) (i:=1) rfl rfl) (dH 6 1 8 3 rfl (a4Z Tryz.runUnderlying4 (Ht rfl) (Ht rfl)) ?_)))))))))))))
 refine dp 2 rfl (eZ eT (Ht rfl) rfl) (dq 10 5 rfl (eY A_56 Z_56 (Ht rfl) (i:=0) rfl rfl) (dp 3 rfl (eZ eT (Ht rfl) rfl) (dq 12 7 rfl (eY A_56 Z_56 (Ht rfl) (i:=1) rfl rfl) (dH 11 6 13 8 rfl (cZ K_154 (Ej zo zo) ⟨(Ht rfl),(Ht rfl),trivial⟩) (fV bB rfl (by kernel_rfl) (zF (zF (aJ (aJ (aV (ro rfl (cZ K_234 pH ⟨(Ht rfl),(Ht rfl),trivial⟩) (gQ Z_58 (Ht rfl) (Ht rfl) rfl (i:=2) rfl (aK rfl) rfl rfl ?_))))))))))))
 refine eX (fW rfl (fX (fK A_58 Z_58 rfl (i:=2) rfl rfl) ?_))
 exact (rK (Um x y))
theorem mA {x:Int} {n:Nat} (hx:(dg x.natAbs).length ≤ 17592186044416) (hn:(dg n).length ≤ 17592186044416):bF Tryz.prog 155 [jP x,aS n] (jP (x * n)):=by
 refine bF.intro Tryz.func155 rfl Tryz.ntmps155 rfl (fun cx=>(ts (rn rfl (fG (Ht rfl)) fun B2=>(rn rfl (eW (Ts:=[Is (.bool false),Is (.slice none 0 0)]) O_58 rfl (fun V=>aW zd (aW zd (aG)))) fun B4=>(eX (cK (fZ (m:=6) (dp 2 rfl (eZ lQ (Ht rfl) rfl) (dq 5 0 rfl (eY A_4 Z_4 (Ht rfl) (i:=0) rfl rfl) (dp 2 rfl (eZ eT (Ht rfl) rfl) (dq 7 2 rfl (eY A_56 Z_56 (Ht rfl) (i:=0) rfl rfl) (dp 1 rfl (cX (Ht rfl)) (dH 8 3 9 4 rfl (cZ K_154 (Ej zo zo) ⟨(Ht rfl),(Ht rfl),trivial⟩) ?_)))))))))))))
 refine fV bB rfl (by kernel_rfl) (zF (aJ (aJ (aV (ro rfl (cZ K_234 pH ⟨(Ht rfl),(Ht rfl),trivial⟩) (gQ Z_58 (Ht rfl) (Ht rfl) rfl (i:=1) rfl (aK rfl) rfl rfl (eX (fW rfl (fX (fK A_58 Z_58 rfl (i:=1) rfl rfl) ?_)))))))))
 exact (rK (Nz x n))
theorem Gj {x y:Int} (hx:(dg x.natAbs).length ≤ 17592186044415) (hy:(dg y.natAbs).length ≤ 17592186044415):bF Tryz.prog 156 [jP x,jP y] (aL .i64 (vB x y)):=by
 have hny:=Bp y
 have hs:=nJ (x:=x) (y:=-y) hx zo
 refine bF.intro Tryz.func156 rfl Tryz.ntmps156 rfl (fun cx=>(ts (rn rfl (fG (Ht rfl)) fun B2=>(rn rfl (fG (Ht rfl)) fun B3=>(ro rfl (cQ (cJ 0)) (eX (cK (fZ (m:=5) (dp 2 rfl (eJ A_58 Z_58 (Ht rfl) (i:=0) rfl rfl rfl) (dp 3 rfl (eJ A_58 Z_58 (Ht rfl) (i:=1) rfl rfl rfl) (dq 7 1 rfl (cZ K_167 qC ⟨(Ht rfl),trivial⟩) (dH 6 0 8 2 rfl (cZ K_152 (vA zo zo) ⟨(Ht rfl),(Ht rfl),trivial⟩) (C.D_new (Ei:=[]) rfl rfl rfl bW (eW (Ts:=[Is (.bool false),Is (.slice none 0 0)]) O_58 rfl (fun V=>aW zd (aW zd (aG)))) ?_)))))))))))))
 refine fV bB rfl (by kernel_rfl) (zF (C.F_new (fun B5=>aV (gQ Z_58 (Ht rfl) (Ht rfl) rfl (i:=2) rfl (aK rfl) rfl rfl (eX (cK (ts (ro rfl (eZ lQ (Ht rfl) rfl) (ro rfl (eY A_4 Z_4 (Ht rfl) (i:=2) rfl rfl) (eX (dQ (Ht rfl) (fun hb=>?_) (fun hb=>?_))))))))))))
 ·have hn : x + -y < 0 := by simpa using hb
  refine ts (ro rfl (cQ cV) (eX (fW rfl (fX (eU rfl) ?_))))
  exact (aT (a1z hn))
 ·have hn : ¬ x + -y < 0 := by simpa using hb
  refine cU (ts (ro rfl (eZ eT (Ht rfl) rfl) (ro rfl (eY A_56 Z_56 (Ht rfl) (i:=2) rfl rfl) (ro rfl (dG U_56 (Ht rfl) aC) (ro rfl (Qx (Ht rfl) (cJ 1)) (ra rfl (eX (fW rfl (fX (eU rfl) ?_)))))))))
  exact (aT (a1y hn))
end
section
open Go Go.RowKit
theorem Vu {n : Nat} {E : cP} {H : Hp} {d : Option Tmp} {t : TypeId} {pos : String} {af : Array Edge} {g : Option (Nat × Bool)} {x0 : Operand} {T0 T1 : Ty} (h0 : bC E x0 (fS [T0, T1])) :
  aM Tryz.prog n E H ⟨d,.build 60 #[(0,x0)],t,pos,af,g⟩ (fS [T0,T1,Is (.bool false),Is (.slice none 0 0),Is (.slice none 0 0)]) :=
 kD (parts := [(0, x0)]) fun a V w hs => by
  obtain ⟨v0,e0,c0⟩:=h0 n V a hs
  obtain ⟨c0_0,c0_1,rfl⟩:∃ c0_0 c0_1,v0 = [c0_0,c0_1]:=Yz (by simpa using c0.length)
  refine ⟨.agg #[c0_0,c0_1,(.bool false),(.slice none 0 0),(.slice none 0 0)],?_,[c0_0,c0_1,(.bool false),(.slice none 0 0),(.slice none 0 0)],rfl,aW (c0.at (i:=0) rfl rfl) (aW (c0.at (i:=1) rfl rfl) (aW (⟨rfl,trivial⟩) (aW (⟨rfl,trivial⟩) (aW (⟨rfl,trivial⟩) (aG)))))⟩
  simp [e0,Instr.build,Instr.fill,Sem.run_bind,Result.andThen,iW,O_60,U_60,Z_56,Z_58]
theorem rO {n : Nat} {E : cP} {H : Hp} {d : Option Tmp} {t : TypeId} {pos : String} {af : Array Edge} {g : Option (Nat × Bool)} {x0 x1 x2 : Operand} {T0 T1 T2 T3 T4 : Ty} (h0 : bC E x0 (fS [T0, T1])) (h1 : bC E x1 (fS [T2, T3])) [s2 : dF T4 1 false] (h2 : bC E x2 T4) :
  aM Tryz.prog n E H ⟨d,.build 60 #[(0,x0),(1,x1),(2,x2)],t,pos,af,g⟩ (fS [T0,T1,T2,T3,T4]) :=
 kD (parts := [(0, x0), (1, x1), (2, x2)]) fun a V w hs => by
  obtain ⟨v0,e0,c0⟩:=h0 n V a hs
  obtain ⟨c0_0,c0_1,rfl⟩:∃ c0_0 c0_1,v0 = [c0_0,c0_1]:=Yz (by simpa using c0.length)
  obtain ⟨v1,e1,c1⟩:=h1 n V a hs
  obtain ⟨c1_0,c1_1,rfl⟩:∃ c1_0 c1_1,v1 = [c1_0,c1_1]:=Yz (by simpa using c1.length)
  have p2:=h2 n V a hs
  generalize e2:a.eval x2 = v2 at p2
  have q2:=(s2.ok v2 V p2).2.2 rfl
  refine ⟨.agg #[c0_0,c0_1,c1_0,c1_1,v2],?_,[c0_0,c0_1,c1_0,c1_1,v2],rfl,aW (c0.at (i:=0) rfl rfl) (aW (c0.at (i:=1) rfl rfl) (aW (c1.at (i:=0) rfl rfl) (aW (c1.at (i:=1) rfl rfl) (aW (⟨p2,q2⟩) (aG)))))⟩
  simp [e0,e1,e2,Instr.build,Instr.fill,Sem.run_bind,Result.andThen,iW,q2.cells,O_60,U_60,Z_56,Z_58]
theorem fR (a:Addr) (w:World):(Instr.fieldAt 60 (.pointer (some a)) 0).run Tryz.prog w = .ok (.pointer (some (a.add 0))) w:=by
 simp [Instr.fieldAt,Instr.sureAddr,fieldPlace,Sem.run_bind,Result.andThen,U_60,Z_58]
theorem gN (a:Addr) (w:World):(Instr.fieldAt 60 (.pointer (some a)) 1).run Tryz.prog w = .ok (.pointer (some (a.add 2))) w:=by
 simp [Instr.fieldAt,Instr.sureAddr,fieldPlace,Sem.run_bind,Result.andThen,U_60,Z_58]
theorem qF (a:Addr) (w:World):(Instr.fieldAt 60 (.pointer (some a)) 2).run Tryz.prog w = .ok (.pointer (some (a.add 4))) w:=by
 simp [Instr.fieldAt,Instr.sureAddr,fieldPlace,Sem.run_bind,Result.andThen,U_60,Z_56]
end
section
open Go Go.RowKit
theorem uZ {A B:Int} {D:Nat} (hD:0 < D) (hA:(dg A.natAbs).length ≤ 17592186044415) (hB:(dg B.natAbs).length ≤ 17592186044415) (hD2:(dg D).length ≤ 17592186044415):bF Tryz.prog 150 [jP A,jP B,aS D] (aE (Qi.mk' A B D)):=by
 have hg1:=Xj hA hB
 have hg2:=Xj hg1 hD2
 have hgp:Nat.gcd (Nat.gcd A.natAbs B.natAbs) D ≠ 0:=fun e=>by have:=Nat.gcd_eq_zero_iff.1 e; omega
 refine bF.intro Tryz.func150 rfl Tryz.ntmps150 rfl (fun cx=>(ts (rn rfl (fG (Ht rfl)) fun B3=>(rn rfl (fG (Ht rfl)) fun B4=>(rn rfl (eW (Ts:=[Is (.bool false),Is (.slice none 0 0),Is (.bool false),Is (.slice none 0 0),Is (.slice none 0 0)]) O_60 rfl (fun V=>aW zd (aW zd (aW zd (aW zd (aW zd (aG))))))) fun B6=>(eX (ts (ro rfl (eZ eT (Ht rfl) rfl) (ro rfl (eY A_56 Z_56 (Ht rfl) (i:=0) rfl rfl) ?_)))))))))
 refine ro rfl (eZ eT (Ht rfl) rfl) (ro rfl (eY A_56 Z_56 (Ht rfl) (i:=1) rfl rfl) (ro rfl (cZ Tryz.call231 (a3q zo zo) ⟨(Ht rfl),(Ht rfl),trivial⟩) (rm rfl (ro rfl (cZ Tryz.call231 (a3q zo zo) ⟨(Ht rfl),(Ht rfl),trivial⟩) (ra rfl (eX (cK (kQ (fun (uu:Unit)=>True) (fun (uu:Unit)=>[(2,aS (D / (Nat.gcd (Nat.gcd A.natAbs B.natAbs) D))),(3,cA B3 0),(4,cA B4 0),(6,cA B6 0)]) (fun (uu:Unit)=>[box B3 58 [aI (decide (A < 0)),aS (A.natAbs / (Nat.gcd (Nat.gcd A.natAbs B.natAbs) D))],box B4 58 [aI (decide (B < 0)),aS (B.natAbs / (Nat.gcd (Nat.gcd A.natAbs B.natAbs) D))],box B6 60 [Is (.bool false),Is (.slice none 0 0),Is (.bool false),Is (.slice none 0 0),Is (.slice none 0 0)]]) ?_ (fun uu _=>?_)))))))))
 ·refine ts (rm rfl (ro rfl (cZ Tryz.call232 a3r ⟨(Ht rfl), trivial⟩) (ro rfl (gG (Ht rfl)) (eX (dQ (Ht rfl) (fun hb => ?_) (fun hb => ?_))))))
  ·simp at hb
   refine ts (ro rfl (eZ eT (Ht rfl) rfl) (ro rfl (eY A_56 Z_56 (Ht rfl) (i:=0) rfl rfl) (rm rfl (ro rfl (cZ Tryz.call233 (Pd zo zo zo) ⟨(Ht rfl),(Ht rfl),trivial⟩) (rm rfl (ro rfl (dK (Ht rfl) rfl) (ro rfl (dK (Ht rfl) rfl) (ro rfl (eZ eT (Ht rfl) rfl) (oK Z_56 (Ht rfl) (Ht rfl) (i:=0) rfl (aK rfl) rfl (eX (ts (ro rfl (eZ eT (Ht rfl) rfl) (ro rfl (eY A_56 Z_56 (Ht rfl) (i:=1) rfl rfl) (rm rfl (ro rfl (cZ Tryz.call233 (Pd zo zo zo) ⟨(Ht rfl),(Ht rfl),trivial⟩) ?_)))))))))))))))
   refine rm rfl (ro rfl (dK (Ht rfl) rfl) (ro rfl (dK (Ht rfl) rfl) (ro rfl (eZ eT (Ht rfl) rfl) (oK Z_56 (Ht rfl) (Ht rfl) (i:=1) rfl (aK rfl) rfl (eX (cY (rm rfl (rm rfl (ro rfl (cZ Tryz.call233 (Pd zo zo zo) ⟨(Ht rfl),(Ht rfl),trivial⟩) (rm rfl (ro rfl (dK (Ht rfl) rfl) (ro rfl (dK (Ht rfl) rfl) (ra rfl (eX (bD () trivial (zS rfl) (aU (aD (by first | rfl | simp)) (aU (aD (by first | rfl | simp)) (aU (aD rfl) aY))))))))))))))))))
  ·simp at hb
   refine cU (bD () trivial (aZ rfl (gW (by rw [hb,Nat.div_one])) (zS rfl)) (aU (aD (by rw [hb,Nat.div_one])) (aU (aD (by rw [hb,Nat.div_one])) (aU (aD rfl) aY))))
 ·refine cK (kQ (fun (uu : Unit) => True) (fun (uu : Unit) => [(2, aS (if D / (Nat.gcd (Nat.gcd A.natAbs B.natAbs) D) = 1 then 0 else D / (Nat.gcd (Nat.gcd A.natAbs B.natAbs) D))), (3, cA B3 0), (4, cA B4 0), (6, cA B6 0)]) (fun (uu : Unit) => [box B3 58 [aI (decide (A < 0)), aS (A.natAbs / (Nat.gcd (Nat.gcd A.natAbs B.natAbs) D))], box B4 58 [aI (decide (B < 0)), aS (B.natAbs / (Nat.gcd (Nat.gcd A.natAbs B.natAbs) D))], box B6 60 [Is (.bool false), Is (.slice none 0 0), Is (.bool false), Is (.slice none 0 0), Is (.slice none 0 0)]]) ?_ (fun uu _ => ?_))
  ·refine ts (rm rfl (ro rfl (cZ Tryz.call232 a3r ⟨(Ht rfl), trivial⟩) (eX (dQ (Ht rfl) (fun hb => ?_) (fun hb => ?_)))))
   ·simp only [decide_eq_true_eq] at hb
    refine cY (ro rfl (cQ cV) (eX (bD () trivial (aZ rfl (fun v V h=>gW (by rw [if_pos hb]) v V (oG v V h)) (zS rfl)) (eI.refl _))))
   ·simp only [decide_eq_false_iff_not] at hb
    refine cU (bD () trivial (aZ rfl (gW (by rw [if_neg hb])) (zS rfl)) (eI.refl _))
  ·refine ts (ro rfl (eJ A_58 Z_58 (Ht rfl) (i := 0) rfl rfl rfl) (ro rfl (eJ A_58 Z_58 (Ht rfl) (i := 1) rfl rfl rfl) (rm rfl (ro rfl (rO (Ht rfl) (Ht rfl) (Ht rfl)) (gQ Z_60 (Ht rfl) (Ht rfl) rfl (i := 2) rfl (aK rfl) rfl rfl (eX (fW rfl (fX (fK A_60 Z_60 rfl (i := 2) rfl rfl) ?_))))))))
   exact (a2K hD)
theorem oU {x:Qi}:bF Tryz.prog 153 [aE x] (aS x.den):=by
 refine bF.intro Tryz.func153 rfl Tryz.ntmps153 rfl (fun cx=>(ts (rn rfl (fG (Ht rfl)) fun B1=>(ro rfl (cQ cV) (eX (cK (ts (ro rfl (eZ qF (Ht rfl) rfl) (ro rfl (eY A_56 Z_56 (Ht rfl) (i:=0) rfl rfl) (ro rfl (dG U_56 (Ht rfl) aC) (ro rfl (eC (Ht rfl) (cJ 0)) (eX (dQ (Ht rfl) (fun hb=>?_) (fun hb=>?_))))))))))))))
 ·simp at hb
  have h1:x.den = 1:=zU (bO.1 (by simpa using hb))
  refine ts (ro rfl (eH (xs:=[_]) U_56 Z_218 Tryz.zeroValue218 (cW (cJ 1) cG) rfl rfl rfl) (ra rfl (eX (fW rfl (fX (eU rfl) ?_)))))
  exact (fun v V h=>gW h1.symm v V (Kq v V h))
 ·simp at hb
  have h1:du x = x.den:=wQ (fun e=>hb (by simp [e,fP]))
  refine cU (ts (ro rfl (eZ qF (Ht rfl) rfl) (ro rfl (eY A_56 Z_56 (Ht rfl) (i:=0) rfl rfl) (ra rfl (eX (fW rfl (fX (eU rfl) ?_)))))))
  exact (gW h1)
theorem Bg {n:Int} (h1:-9223372036854775808 ≤ n) (h2:n ≤ 9223372036854775807):bF Tryz.prog 52 [aL .i64 n] (aE (Qi.ofInt n)):=by
 refine bF.intro Tryz.func52 rfl Tryz.ntmps52 rfl (fun cx=>(ts (rn rfl (eW (Ts:=[Is (.bool false),Is (.slice none 0 0),Is (.bool false),Is (.slice none 0 0),Is (.slice none 0 0)]) O_60 rfl (fun V=>aW zd (aW zd (aW zd (aW zd (aW zd (aG))))))) fun B2=>(eX (ts (rm rfl (ro rfl (cZ Tryz.call157 (Gh h1 h2) ⟨(Ht rfl),trivial⟩) (ro rfl (Vu (Ht rfl)) (gQ Z_60 (Ht rfl) (Ht rfl) rfl (i:=0) rfl (aK rfl) rfl rfl ?_)))))))))
 refine eX (fW rfl (fX (fK A_60 Z_60 rfl (i:=0) rfl rfl) ?_))
 exact Qr
theorem a5X {p q d:Int} (p1:-9223372036854775808 ≤ p) (p2:p ≤ 9223372036854775807) (q1:-9223372036854775808 ≤ q) (q2:q ≤ 9223372036854775807) (d1:-9223372036854775808 ≤ d) (d2:d ≤ 9223372036854775807) (hd:d ≠ 0):bF Tryz.prog 108 [aL .i64 p,aL .i64 q,aL .i64 d] (eD [aE (Qi.frac p q d),aL .i64 0]):=by
 have lp:=a4l p1 p2; have lq:=a4l q1 q2; have ld:=a4l d1 d2; have np:=Bp p; have nq:=Bp q
 refine bF.intro Tryz.func108 rfl Tryz.ntmps108 rfl (fun cx=>(ts (rn rfl (eW (Ts:=[Is (.bool false),Is (.slice none 0 0),Is (.bool false),Is (.slice none 0 0),Is (.slice none 0 0)]) O_60 rfl (fun V=>aW zd (aW zd (aW zd (aW zd (aW zd (aG))))))) fun B6=>(ro rfl (cQ (cJ 0)) (eX (cK (ts (rm rfl (ro rfl (oM (Ht rfl) cV) (eX (kP (Ht rfl) (by simp [hd]) ?_)))))))))))
 refine cU (ts (rm rfl (ro rfl (cZ Tryz.call157 (Gh p1 p2) ⟨(Ht rfl),trivial⟩) (rm rfl (ro rfl (cZ Tryz.call157 (Gh q1 q2) ⟨(Ht rfl),trivial⟩) (rm rfl (ro rfl (cZ Tryz.call157 (Gh d1 d2) ⟨(Ht rfl),trivial⟩) (rn rfl (eW (Ts:=[Is (.bool false),Is (.slice none 0 0)]) O_58 rfl (fun V=>aW zd (aW zd (aG)))) fun B8=>(rn rfl (eW (Ts:=[Is (.bool false),Is (.slice none 0 0)]) O_58 rfl (fun V=>aW zd (aW zd (aG)))) fun B9=>?_)))))))))
 refine rn rfl (eW (Ts:=[Is (.bool false),Is (.slice none 0 0)]) O_58 rfl (fun V=>aW zd (aW zd (aG)))) fun B10=>gQ Z_58 (Ht rfl) (Ht rfl) rfl (i:=1) rfl (aK rfl) rfl rfl (gQ Z_58 (Ht rfl) (Ht rfl) rfl (i:=2) rfl (aK rfl) rfl rfl (gQ Z_58 (Ht rfl) (Ht rfl) rfl (i:=3) rfl (aK rfl) rfl rfl (eX (cK (wH (fun (a:Int) (b:Int)=>Qi.mk' a b d.natAbs = Qi.frac p q d ∧ (dg a.natAbs).length ≤ 2 ∧ (dg b.natAbs).length ≤ 2) (fun (a:Int) (b:Int)=>[(6,cA B6 0),(8,cA B8 0),(9,cA B9 0),(10,cA B10 0)]) (fun (a:Int) (b:Int)=>[box B6 60 [Is (.bool false),Is (.slice none 0 0),Is (.bool false),Is (.slice none 0 0),Is (.slice none 0 0)],box B8 58 [aI (decide (a < 0)),aS (a).natAbs],box B9 58 [aI (decide (b < 0)),aS (b).natAbs],box B10 58 [aI (decide (d < 0)),aS (d).natAbs]]) ?_ (fun a b ⟨hab,ha,hb⟩=>?_))))))
 ·refine ts (ro rfl (eZ lQ (Ht rfl) rfl) (ro rfl (eY A_4 Z_4 (Ht rfl) (i := 3) rfl rfl) (eX (dQ (Ht rfl) (fun hn => ?_) (fun hn => ?_)))))
  ·simp only [decide_eq_true_eq] at hn
   refine fZ (m:=3) (dp 8 rfl (eJ A_58 Z_58 (Ht rfl) (i:=1) rfl rfl rfl) (dq 22 0 rfl (cZ K_167 qC ⟨(Ht rfl),trivial⟩) (dp 9 rfl (eJ A_58 Z_58 (Ht rfl) (i:=2) rfl rfl rfl) (fV bB rfl (by kernel_rfl) (aJ (aJ (aJ (aV (ro rfl (cZ K_167 qC ⟨(Ht rfl),trivial⟩) (gQ Z_58 (Ht rfl) (Ht rfl) rfl (i:=1) rfl (aK rfl) rfl rfl (gQ Z_58 (Ht rfl) (Ht rfl) rfl (i:=2) rfl (aK rfl) rfl rfl (eX (bD (-p,-q) ⟨Qi.frac_neg hn,by dsimp only; omega,by dsimp only; omega⟩ (zS rfl) (aU (aD rfl) (aU (aD rfl) (aU (aD rfl) (aU (aD rfl) aY)))))))))))))))))
  ·simp only [decide_eq_false_iff_not] at hn
   refine cU (bD (p,q) ⟨Qi.frac_pos hn hd,by omega,by omega⟩ (zS rfl) (eI.refl _))
 ·refine ts (ro rfl (eJ A_58 Z_58 (Ht rfl) (i := 1) rfl rfl rfl) (ro rfl (eJ A_58 Z_58 (Ht rfl) (i := 2) rfl rfl rfl) (ro rfl (eZ eT (Ht rfl) rfl) (ro rfl (eY A_56 Z_56 (Ht rfl) (i := 3) rfl rfl) (ro rfl (cZ K_150 (uZ zo zo zo zo) ⟨(Ht rfl), (Ht rfl), (Ht rfl), trivial⟩) (gQ Z_60 (Ht rfl) (Ht rfl) rfl (i := 0) rfl (aK rfl) rfl rfl (ro rfl (cQ (cJ 0)) (eX (bL rfl (fX (fK A_60 Z_60 rfl (i := 0) rfl rfl) ?_) (eU rfl))))))))))
  exact (iZ hab)
theorem a6I {x y:Qi}:bF Tryz.prog 304 [aE x,aE y] (aE y):=by
 refine bF.intro Tryz.func304 rfl Tryz.ntmps304 rfl (fun cx=>(ts (rn rfl (fG (Ht rfl)) fun B2=>(rn rfl (fG (Ht rfl)) fun B3=>(rn rfl (eW (Ts:=[Is (.bool false),Is (.slice none 0 0),Is (.bool false),Is (.slice none 0 0),Is (.slice none 0 0)]) O_60 rfl (fun V=>aW zd (aW zd (aW zd (aW zd (aW zd (aG))))))) fun B4=>(eX (ts (ro rfl (eJ A_60 Z_60 (Ht rfl) (i:=1) rfl rfl rfl) (gQ Z_60 (Ht rfl) (Ht rfl) rfl (i:=2) rfl (aK rfl) rfl rfl ?_)))))))))
 refine eX ?_
 exact fW rfl (fK A_60 Z_60 rfl (i:=2) rfl rfl)
theorem sG {x y:Qi} {L M:Nat} [hx:aH x L] [hy:aH y M] (h:L + M + 1 ≤ 17592186044415):bF Tryz.prog 71 [aE x,aE y] (aE (x + y)):=by
 have hxa:=oQ hx.fit; have hxb:=oR hx.fit; have hxd:=oS hx.fit
 have hya:=oQ hy.fit; have hyb:=oR hy.fit; have hyd:=oS hy.fit
 have hxp:=x.den_pos; have hyp:=y.den_pos; have hdp:=Nat.mul_pos hxp hyp
 have e1:=gT x.a y.den; have e2:=gT y.a x.den; have e3:=gT x.b y.den; have e4:=gT y.b x.den; have e5:=yC x.den y.den
 have e6:=nJ (x:=x.a * y.den) (y:=y.a * x.den) (L:=L + M) zo zo; have e7:=nJ (x:=x.b * y.den) (y:=y.b * x.den) (L:=L + M) zo zo
 refine bF.intro Tryz.func71 rfl Tryz.ntmps71 rfl (fun cx=>(ts (rn rfl (fG (Ht rfl)) fun B2=>(rn rfl (fG (Ht rfl)) fun B3=>(rn rfl (eW (Ts:=[Is (.bool false),Is (.slice none 0 0),Is (.bool false),Is (.slice none 0 0),Is (.slice none 0 0)]) O_60 rfl (fun V=>aW zd (aW zd (aW zd (aW zd (aW zd (aG))))))) fun B4=>(eX (cK (fZ (m:=3) (dp 2 rfl (eJ A_60 Z_60 (Ht rfl) (i:=0) rfl rfl rfl) (dq 7 0 rfl (cZ K_153 oU ⟨(Ht rfl),trivial⟩) ?_))))))))))
 refine dp 3 rfl (eJ A_60 Z_60 (Ht rfl) (i:=1) rfl rfl rfl) (fV bB rfl (by kernel_rfl) (aJ (aJ (aJ (aV (ro rfl (cZ K_153 oU ⟨(Ht rfl),trivial⟩) (ra rfl (ra rfl (eX (cK (fZ (m:=20) (dp 2 rfl (eZ fR (Ht rfl) rfl) (dq 11 0 rfl (eJ A_58 Z_58 (Ht rfl) (i:=0) rfl rfl rfl) (dp 6 rfl (cX (Ht rfl)) (dH 12 1 13 2 rfl (cZ K_155 (mA zo zo) ⟨(Ht rfl),(Ht rfl),trivial⟩) (dp 3 rfl (eZ fR (Ht rfl) rfl) (dq 15 4 rfl (eJ A_58 Z_58 (Ht rfl) (i:=1) rfl rfl rfl) ?_)))))))))))))))))
 refine dp 5 rfl (cX (Ht rfl)) (dH 16 5 17 6 rfl (cZ K_155 (mA zo zo) ⟨(Ht rfl),(Ht rfl),trivial⟩) (dH 14 3 18 7 rfl (cZ K_152 (vA zo zo) ⟨(Ht rfl),(Ht rfl),trivial⟩) (dp 2 rfl (eZ gN (Ht rfl) rfl) (dq 20 9 rfl (eJ A_58 Z_58 (Ht rfl) (i:=0) rfl rfl rfl) (dp 6 rfl (cX (Ht rfl)) (dH 21 10 22 11 rfl (cZ K_155 (mA zo zo) ⟨(Ht rfl),(Ht rfl),trivial⟩) (dp 3 rfl (eZ gN (Ht rfl) rfl) (dq 24 13 rfl (eJ A_58 Z_58 (Ht rfl) (i:=1) rfl rfl rfl) ?_))))))))
 refine dp 5 rfl (cX (Ht rfl)) (dH 25 14 26 15 rfl (cZ K_155 (mA zo zo) ⟨(Ht rfl),(Ht rfl),trivial⟩) (dH 23 12 27 16 rfl (cZ K_152 (vA zo zo) ⟨(Ht rfl),(Ht rfl),trivial⟩) (dp 5 rfl (cX (Ht rfl)) (dp 6 rfl (cX (Ht rfl)) (fV bB rfl (by kernel_rfl) (zF (zF (zF (zF (zF (aV (ro rfl (cZ K_154 (Ej zo zo) ⟨(Ht rfl),(Ht rfl),trivial⟩) ?_))))))))))))
 refine ro rfl (cZ K_150 (uZ (by first | assumption | omega) zo zo zo) ⟨(Ht rfl),(Ht rfl),(Ht rfl),trivial⟩) (gQ Z_60 (Ht rfl) (Ht rfl) rfl (i:=2) rfl (aK rfl) rfl rfl (eX (fW rfl (fX (fK A_60 Z_60 rfl (i:=2) rfl rfl) ?_))))
 exact (iZ (Qi.mk_add x y))
theorem Pb {x:Qi}:bF Tryz.prog 168 [aE x] (aE (-x)):=by
 refine bF.intro Tryz.func168 rfl Tryz.ntmps168 rfl (fun cx=>(ts (rn rfl (fG (Ht rfl)) fun B1=>(rn rfl (eW (Ts:=[Is (.bool false),Is (.slice none 0 0),Is (.bool false),Is (.slice none 0 0),Is (.slice none 0 0)]) O_60 rfl (fun V=>aW zd (aW zd (aW zd (aW zd (aW zd (aG))))))) fun B2=>(eX (cK (fZ (m:=8) (dp 1 rfl (eZ fR (Ht rfl) rfl) (dq 3 0 rfl (eJ A_58 Z_58 (Ht rfl) (i:=0) rfl rfl rfl) (dq 4 1 rfl (cZ K_167 qC ⟨(Ht rfl),trivial⟩) ?_))))))))))
 refine dp 1 rfl (eZ gN (Ht rfl) rfl) (dq 6 3 rfl (eJ A_58 Z_58 (Ht rfl) (i:=0) rfl rfl rfl) (dq 7 4 rfl (cZ K_167 qC ⟨(Ht rfl),trivial⟩) (dp 1 rfl (eZ qF (Ht rfl) rfl) (dq 9 6 rfl (eY A_56 Z_56 (Ht rfl) (i:=0) rfl rfl) (fV bB rfl (by kernel_rfl) (zF (zF (aV (ro rfl (rO (Ht rfl) (Ht rfl) (Ht rfl)) (gQ Z_60 (Ht rfl) (Ht rfl) rfl (i:=1) rfl (aK rfl) rfl rfl (eX (fW rfl (fX (fK A_60 Z_60 rfl (i:=1) rfl rfl) ?_)))))))))))))
 exact (xY (by obtain ⟨e1,e2,e3⟩:=Qi.neg_a x; rw [e1,e2,a3x e3]; rfl))
theorem Vx {x:Qi}:bF Tryz.prog 173 [aE x] (aE x.conj):=by
 refine bF.intro Tryz.func173 rfl Tryz.ntmps173 rfl (fun cx=>(ts (rn rfl (fG (Ht rfl)) fun B1=>(rn rfl (eW (Ts:=[Is (.bool false),Is (.slice none 0 0),Is (.bool false),Is (.slice none 0 0),Is (.slice none 0 0)]) O_60 rfl (fun V=>aW zd (aW zd (aW zd (aW zd (aW zd (aG))))))) fun B2=>(eX (cK (fZ (m:=7) (dp 1 rfl (eZ fR (Ht rfl) rfl) (dq 3 0 rfl (eJ A_58 Z_58 (Ht rfl) (i:=0) rfl rfl rfl) (dp 1 rfl (eZ gN (Ht rfl) rfl) ?_))))))))))
 refine dq 5 2 rfl (eJ A_58 Z_58 (Ht rfl) (i:=0) rfl rfl rfl) (dq 6 3 rfl (cZ K_167 qC ⟨(Ht rfl),trivial⟩) (dp 1 rfl (eZ qF (Ht rfl) rfl) (dq 8 5 rfl (eY A_56 Z_56 (Ht rfl) (i:=0) rfl rfl) (fV bB rfl (by kernel_rfl) (zF (aJ (aJ (aJ (aV (ro rfl (rO (Ht rfl) (Ht rfl) (Ht rfl)) (gQ Z_60 (Ht rfl) (Ht rfl) rfl (i:=1) rfl (aK rfl) rfl rfl (eX (fW rfl (fX (fK A_60 Z_60 rfl (i:=1) rfl rfl) ?_))))))))))))))
 exact (xY (by obtain ⟨e1,e2,e3⟩:=Qi.conj_a x; rw [e1,e2,a3x e3]; rfl))
theorem uO {x y:Qi} {L M:Nat} [hx:aH x L] [hy:aH y M] (h:L + M + 1 ≤ 17592186044415):bF Tryz.prog 69 [aE x,aE y] (aE (x - y)):=by
 have hxa:=oQ hx.fit; have hxb:=oR hx.fit; have hxd:=oS hx.fit
 have hya:=oQ hy.fit; have hyb:=oR hy.fit; have hyd:=oS hy.fit
 have hxp:=x.den_pos; have hyp:=y.den_pos; have hdp:=Nat.mul_pos hxp hyp
 refine bF.intro Tryz.func69 rfl Tryz.ntmps69 rfl (fun cx=>(ts (rn rfl (fG (Ht rfl)) fun B2=>(rn rfl (fG (Ht rfl)) fun B3=>(rn rfl (eW (Ts:=[Is (.bool false),Is (.slice none 0 0),Is (.bool false),Is (.slice none 0 0),Is (.slice none 0 0)]) O_60 rfl (fun V=>aW zd (aW zd (aW zd (aW zd (aW zd (aG))))))) fun B4=>(eX (cK (fZ (m:=3) (dp 2 rfl (eJ A_60 Z_60 (Ht rfl) (i:=0) rfl rfl rfl) (dp 3 rfl (eJ A_60 Z_60 (Ht rfl) (i:=1) rfl rfl rfl) ?_))))))))))
 refine dq 6 1 rfl (cZ Tryz.call168 Pb ⟨(Ht rfl),trivial⟩) (fV bB rfl (by kernel_rfl) (aJ (aJ (aJ (aV (ro rfl (cZ K_71 (sG zo) ⟨(Ht rfl),(Ht rfl),trivial⟩) (gQ Z_60 (Ht rfl) (Ht rfl) rfl (i:=2) rfl (aK rfl) rfl rfl (eX (fW rfl (fX (fK A_60 Z_60 rfl (i:=2) rfl rfl) ?_))))))))))
 exact (iZ (Qi.sub_def x y).symm)
theorem kY {x y:Qi} {L M:Nat} [hx:aH x L] [hy:aH y M] (h:L + M + 1 ≤ 17592186044415):bF Tryz.prog 70 [aE x,aE y] (aE (x * y)):=by
 have hxa:=oQ hx.fit; have hxb:=oR hx.fit; have hxd:=oS hx.fit
 have hya:=oQ hy.fit; have hyb:=oR hy.fit; have hyd:=oS hy.fit
 have hxp:=x.den_pos; have hyp:=y.den_pos; have hdp:=Nat.mul_pos hxp hyp
 have e1:=mN x.a y.a; have e2:=mN x.b y.b; have e3:=mN x.a y.b; have e4:=mN x.b y.a; have e5:=yC x.den y.den; have e8:=Bp (x.b * y.b)
 have e6:=nJ (x:=x.a * y.a) (y:=-(x.b * y.b)) (L:=L + M) zo zo; have e7:=nJ (x:=x.a * y.b) (y:=x.b * y.a) (L:=L + M) zo zo
 refine bF.intro Tryz.func70 rfl Tryz.ntmps70 rfl (fun cx=>(ts (rn rfl (fG (Ht rfl)) fun B2=>(rn rfl (fG (Ht rfl)) fun B3=>(rn rfl (eW (Ts:=[Is (.bool false),Is (.slice none 0 0),Is (.bool false),Is (.slice none 0 0),Is (.slice none 0 0)]) O_60 rfl (fun V=>aW zd (aW zd (aW zd (aW zd (aW zd (aG))))))) fun B4=>(eX (cK (fZ (m:=13) (dp 2 rfl (eZ fR (Ht rfl) rfl) (dq 7 0 rfl (eJ A_58 Z_58 (Ht rfl) (i:=0) rfl rfl rfl) ?_))))))))))
 refine dp 3 rfl (eZ fR (Ht rfl) rfl) (dq 9 2 rfl (eJ A_58 Z_58 (Ht rfl) (i:=1) rfl rfl rfl) (dH 8 1 10 3 rfl (cZ K_151 (qD zo zo) ⟨(Ht rfl),(Ht rfl),trivial⟩) (dp 2 rfl (eZ gN (Ht rfl) rfl) (dq 12 5 rfl (eJ A_58 Z_58 (Ht rfl) (i:=0) rfl rfl rfl) (dp 3 rfl (eZ gN (Ht rfl) rfl) (dq 14 7 rfl (eJ A_58 Z_58 (Ht rfl) (i:=1) rfl rfl rfl) (dH 13 6 15 8 rfl (cZ K_151 (qD zo zo) ⟨(Ht rfl),(Ht rfl),trivial⟩) (dq 16 9 rfl (cZ K_167 qC ⟨(Ht rfl),trivial⟩) ?_))))))))
 refine dH 11 4 17 10 rfl (cZ K_152 (vA zo zo) ⟨(Ht rfl),(Ht rfl),trivial⟩) (C.D_new (Ei:=[]) rfl rfl rfl bW (eW (Ts:=[Is (.bool false),Is (.slice none 0 0)]) O_58 rfl (fun V=>aW zd (aW zd (aG)))) (fV bB rfl (by kernel_rfl) (zF (zF (zF (C.F_new (fun B5=>aV (gQ Z_58 (Ht rfl) (Ht rfl) rfl (i:=3) rfl (aK rfl) rfl rfl (eX ?_)))))))))
 refine cK (fZ (m:=12) (dp 2 rfl (eZ fR (Ht rfl) rfl) (dq 19 0 rfl (eJ A_58 Z_58 (Ht rfl) (i:=0) rfl rfl rfl) (dp 3 rfl (eZ gN (Ht rfl) rfl) (dq 21 2 rfl (eJ A_58 Z_58 (Ht rfl) (i:=1) rfl rfl rfl) (dH 20 1 22 3 rfl (cZ K_151 (qD zo zo) ⟨(Ht rfl),(Ht rfl),trivial⟩) (dp 2 rfl (eZ gN (Ht rfl) rfl) (dq 24 5 rfl (eJ A_58 Z_58 (Ht rfl) (i:=0) rfl rfl rfl) (dp 3 rfl (eZ fR (Ht rfl) rfl) (dq 26 7 rfl (eJ A_58 Z_58 (Ht rfl) (i:=1) rfl rfl rfl) ?_))))))))))
 refine dH 25 6 27 8 rfl (cZ K_151 (qD zo zo) ⟨(Ht rfl),(Ht rfl),trivial⟩) (dH 23 4 28 9 rfl (cZ K_152 (vA zo zo) ⟨(Ht rfl),(Ht rfl),trivial⟩) (C.D_new (Ei:=[]) rfl rfl rfl bW (eW (Ts:=[Is (.bool false),Is (.slice none 0 0)]) O_58 rfl (fun V=>aW zd (aW zd (aG)))) (fV bB rfl (by kernel_rfl) (zF (zF (aJ (aJ (aJ (C.F_new (fun B6=>aV (gQ Z_58 (Ht rfl) (Ht rfl) rfl (i:=4) rfl (aK rfl) rfl rfl ?_)))))))))))
 refine eX (cK (fZ (m:=7) (dp 5 rfl (eJ A_58 Z_58 (Ht rfl) (i:=3) rfl rfl rfl) (dp 6 rfl (eJ A_58 Z_58 (Ht rfl) (i:=4) rfl rfl rfl) (dp 2 rfl (eJ A_60 Z_60 (Ht rfl) (i:=0) rfl rfl rfl) (dq 32 2 rfl (cZ K_153 oU ⟨(Ht rfl),trivial⟩) (dp 3 rfl (eJ A_60 Z_60 (Ht rfl) (i:=1) rfl rfl rfl) (dq 34 4 rfl (cZ K_153 oU ⟨(Ht rfl),trivial⟩) (dH 33 3 35 5 rfl (cZ K_154 (Ej zo zo) ⟨(Ht rfl),(Ht rfl),trivial⟩) (fV bB rfl (by kernel_rfl) (zF (aJ (aJ (aJ (aV ?_)))))))))))))))
 refine ro rfl (cZ K_150 (uZ (by first | assumption | omega) zo zo zo) ⟨(Ht rfl),(Ht rfl),(Ht rfl),trivial⟩) (gQ Z_60 (Ht rfl) (Ht rfl) rfl (i:=2) rfl (aK rfl) rfl rfl (eX (fW rfl (fX (fK A_60 Z_60 rfl (i:=2) rfl rfl) ?_))))
 exact (iZ (Qi.mk_mul x y))
theorem tP {x:Qi} {L:Nat} [hx:aH x L] (h:L ≤ 17592186044415):bF Tryz.prog 82 [aE x] (aI (!decide (x = Qi.zero))):=by
 have hxa:=oQ hx.fit; have hxb:=oR hx.fit; have hxd:=oS hx.fit
 refine bF.intro Tryz.func82 rfl Tryz.ntmps82 rfl (fun cx=>(ts (rn rfl (fG (Ht rfl)) fun B1=>(ro rfl (cQ cV) (eX (ts (ro rfl (eZ fR (Ht rfl) rfl) (ro rfl (eZ eT (Ht rfl) rfl) (ro rfl (eY A_56 Z_56 (Ht rfl) (i:=0) rfl rfl) (ro rfl (dG U_56 (Ht rfl) aC) (ro rfl (eZ gN (Ht rfl) rfl) (ro rfl (eZ eT (Ht rfl) rfl) (ro rfl (eY A_56 Z_56 (Ht rfl) (i:=0) rfl rfl) (ro rfl (dG U_56 (Ht rfl) aC) (ro rfl (dV (Ht rfl) (Ht rfl) z6) ?_)))))))))))))))
 refine ro rfl (jV (Ht rfl) (cJ 0)) (ra rfl (eX (fW rfl (fX (eU rfl) ?_))))
 exact (fO (Wo x))
theorem We {x:Qi}:bF Tryz.prog 55 [aE x] (aI (decide (x.b = 0))):=by
 refine bF.intro Tryz.func55 rfl Tryz.ntmps55 rfl (fun cx=>(ts (rn rfl (fG (Ht rfl)) fun B1=>(ro rfl (cQ cV) (eX (ts (ro rfl (eZ gN (Ht rfl) rfl) (ro rfl (eZ eT (Ht rfl) rfl) (ro rfl (eY A_56 Z_56 (Ht rfl) (i:=0) rfl rfl) (ro rfl (dG U_56 (Ht rfl) aC) (ro rfl (eC (Ht rfl) (cJ 0)) (ra rfl (eX (fW rfl (fX (eU rfl) ?_)))))))))))))))
 exact (fO (a2W x))
theorem Gd {x y:Qi} {L M:Nat} [hx:aH x L] [hy:aH y M] (h:L ≤ 17592186044415) (h2:M ≤ 17592186044415):bF Tryz.prog 100 [aE x,aE y] (aI (decide (x = y))):=by
 have hxa:=oQ hx.fit; have hxb:=oR hx.fit; have hxd:=oS hx.fit
 have hya:=oQ hy.fit; have hyb:=oR hy.fit; have hyd:=oS hy.fit
 have hxu:=Xi x; have hyu:=Xi y
 refine bF.intro Tryz.func100 rfl Tryz.ntmps100 rfl (fun cx=>(ts (rn rfl (fG (Ht rfl)) fun B2=>(rn rfl (fG (Ht rfl)) fun B3=>(ro rfl (cQ cV) (eX (ts (ro rfl (eZ fR (Ht rfl) rfl) (ro rfl (eJ A_58 Z_58 (Ht rfl) (i:=0) rfl rfl rfl) (ro rfl (eZ fR (Ht rfl) rfl) (ro rfl (eJ A_58 Z_58 (Ht rfl) (i:=1) rfl rfl rfl) (ro rfl (cZ Tryz.call156 (Gj zo zo) ⟨(Ht rfl),(Ht rfl),trivial⟩) (ro rfl (oM (Ht rfl) cV) (rm rfl (fQ rfl rfl (eK rfl rfl (Ht rfl) (fun h=>eZ gN (Ht rfl) rfl)) ?_)))))))))))))))
 refine fQ rfl rfl (eK rfl rfl (Ht rfl) (fun h=>eJ A_58 Z_58 (fJ rfl h) (i:=0) rfl rfl rfl)) (fQ rfl rfl (eK rfl rfl (Ht rfl) (fun h=>eZ gN (Ht rfl) rfl)) (fQ rfl rfl (eK rfl rfl (Ht rfl) (fun h=>eJ A_58 Z_58 (fJ rfl h) (i:=1) rfl rfl rfl)) (fQ rfl rfl (eK rfl rfl (Ht rfl) (fun h=>cZ Tryz.call156 (Gj zo zo) ⟨(fJ rfl h),(fJ rfl h),trivial⟩)) (fQ rfl rfl (eK rfl rfl (Ht rfl) (fun h=>oM (fJ rfl h) cV)) (ro rfl (gS (Ht rfl) (fun h=>(fJ rfl h))) ?_)))))
 refine rm rfl (fQ rfl rfl (eK rfl rfl (Ht rfl) (fun h=>eZ qF (Ht rfl) rfl)) (fQ rfl rfl (eK rfl rfl (Ht rfl) (fun h=>eY A_56 Z_56 (fJ rfl h) (i:=0) rfl rfl)) (fQ rfl rfl (eK rfl rfl (Ht rfl) (fun h=>eZ qF (Ht rfl) rfl)) (fQ rfl rfl (eK rfl rfl (Ht rfl) (fun h=>eY A_56 Z_56 (fJ rfl h) (i:=1) rfl rfl)) (fQ rfl rfl (eK rfl rfl (Ht rfl) (fun h=>cZ Tryz.call199 (Wg zo zo) ⟨(fJ rfl h),(fJ rfl h),trivial⟩)) (fQ rfl rfl (eK rfl rfl (Ht rfl) (fun h=>oM (fJ rfl h) cV)) ?_))))))
 refine ro rfl (gS (Ht rfl) (fun h=>(fJ rfl h))) (ra rfl (eX (fW rfl (fX (eU rfl) ?_))))
 exact (fO (a36 x y))
theorem Vv {x y:Qi} {L M:Nat} [hx:aH x L] [hy:aH y M] (h:L + M ≤ 17592186044415):bF Tryz.prog 51 [aE x,aE y] (aL .i64 (Ms x y)):=by
 have hxa:=oQ hx.fit; have hxb:=oR hx.fit; have hxd:=oS hx.fit
 have hya:=oQ hy.fit; have hyb:=oR hy.fit; have hyd:=oS hy.fit
 have e1:=gT x.a y.den; have e2:=gT y.a x.den; have e3:=gT x.b y.den; have e4:=gT y.b x.den
 refine bF.intro Tryz.func51 rfl Tryz.ntmps51 rfl (fun cx=>(ts (rn rfl (fG (Ht rfl)) fun B2=>(rn rfl (fG (Ht rfl)) fun B3=>(ro rfl (cQ (cJ 0)) (eX (cK (cK (fZ (m:=9) (dp 2 rfl (eZ fR (Ht rfl) rfl) (dq 6 0 rfl (eJ A_58 Z_58 (Ht rfl) (i:=0) rfl rfl rfl) (dp 3 rfl (eJ A_60 Z_60 (Ht rfl) (i:=1) rfl rfl rfl) (dq 8 2 rfl (cZ K_153 oU ⟨(Ht rfl),trivial⟩) (dH 7 1 9 3 rfl (cZ K_155 (mA zo zo) ⟨(Ht rfl),(Ht rfl),trivial⟩) (dp 3 rfl (eZ fR (Ht rfl) rfl) ?_)))))))))))))))
 refine dq 11 5 rfl (eJ A_58 Z_58 (Ht rfl) (i:=1) rfl rfl rfl) (dp 2 rfl (eJ A_60 Z_60 (Ht rfl) (i:=0) rfl rfl rfl) (dq 13 7 rfl (cZ K_153 oU ⟨(Ht rfl),trivial⟩) (fV bB rfl (by kernel_rfl) (zF (zF (aJ (aV (ro rfl (cZ K_155 (mA zo zo) ⟨(Ht rfl),(Ht rfl),trivial⟩) (ro rfl (cZ Tryz.call156 (Gj zo zo) ⟨(Ht rfl),(Ht rfl),trivial⟩) (ra rfl (eX (ts (rm rfl (ro rfl (fM (Ht rfl) cV) ?_))))))))))))))
 refine eX (dQ (Ht rfl) (fun hb=>?_) (fun hb=>?_))
 ·simp only [Bool.not_eq_true', decide_eq_false_iff_not] at hb
  refine ts (rm rfl (ra rfl (eX (fW rfl (fX (eU rfl) ?_)))))
  exact (aT (by rw [Ms,if_pos hb]))
 ·simp only [Bool.not_eq_false', decide_eq_true_eq] at hb
  refine cU (cK (fZ (m:=9) (dp 2 rfl (eZ gN (Ht rfl) rfl) (dq 20 0 rfl (eJ A_58 Z_58 (Ht rfl) (i:=0) rfl rfl rfl) (dp 3 rfl (eJ A_60 Z_60 (Ht rfl) (i:=1) rfl rfl rfl) (dq 22 2 rfl (cZ K_153 oU ⟨(Ht rfl),trivial⟩) (dH 21 1 23 3 rfl (cZ K_155 (mA zo zo) ⟨(Ht rfl),(Ht rfl),trivial⟩) (dp 3 rfl (eZ gN (Ht rfl) rfl) (dq 25 5 rfl (eJ A_58 Z_58 (Ht rfl) (i:=1) rfl rfl rfl) (dp 2 rfl (eJ A_60 Z_60 (Ht rfl) (i:=0) rfl rfl rfl) ?_))))))))))
  refine dq 27 7 rfl (cZ K_153 oU ⟨(Ht rfl),trivial⟩) (fV bB rfl (by kernel_rfl) (zF (zF (aJ (aV (ro rfl (cZ K_155 (mA zo zo) ⟨(Ht rfl),(Ht rfl),trivial⟩) (ro rfl (cZ Tryz.call156 (Gj zo zo) ⟨(Ht rfl),(Ht rfl),trivial⟩) (ra rfl (eX (fW rfl (fX (eU rfl) ?_)))))))))))
  exact (aT (by rw [Ms,if_neg (by simpa using hb)]))
end
section
open Go Go.RowKit
theorem Oz {n : Nat} {E : cP} {H : Hp} {d : Option Tmp} {t : TypeId} {pos : String} {af : Array Edge} {g : Option (Nat × Bool)}  :
  aM Tryz.prog n E H ⟨d,.build 58 #[],t,pos,af,g⟩ (fS [Is (.bool false),Is (.slice none 0 0)]) :=
 kD (parts := []) fun a V w hs => by
  refine ⟨.agg #[(.bool false),(.slice none 0 0)],?_,[(.bool false),(.slice none 0 0)],rfl,aW (⟨rfl,trivial⟩) (aW (⟨rfl,trivial⟩) (aG))⟩
  simp [Instr.build,Instr.fill,Sem.run_bind,Result.andThen,iW,O_58,U_58,Z_4,Z_56]
theorem qE (a:Addr) (w:World):(Instr.fieldAt 48 (.pointer (some a)) 0).run Tryz.prog w = .ok (.pointer (some (a.add 0))) w:=by
 simp [Instr.fieldAt,Instr.sureAddr,fieldPlace,Sem.run_bind,Result.andThen,U_48,Z_2]
theorem Pv (a:Addr) (w:World):(Instr.fieldAt 48 (.pointer (some a)) 1).run Tryz.prog w = .ok (.pointer (some (a.add 1))) w:=by
 simp [Instr.fieldAt,Instr.sureAddr,fieldPlace,Sem.run_bind,Result.andThen,U_48,Z_2]
theorem wT (a:Addr) (w:World):(Instr.fieldAt 48 (.pointer (some a)) 2).run Tryz.prog w = .ok (.pointer (some (a.add 2))) w:=by
 simp [Instr.fieldAt,Instr.sureAddr,fieldPlace,Sem.run_bind,Result.andThen,U_48,Z_2]
theorem gU:Tryz.prog.info? 60 = some Tryz.t60:=by kernel_rfl
theorem jS:Tryz.prog.underlying 25 = some (.slice 60):=by kernel_rfl
end
section
open Go Go.RowKit
theorem Mq {a:Int} {d:Nat} (hd:0 < d) (ha:(dg a.natAbs).length ≤ 8796093022208) (hd2:(dg d).length ≤ 8796093022208):bF Tryz.prog 216 [jP a,aS d] (uI (xJ a d)):=by
 have h1:=Kk a hd; have h2:=Kl a hd
 obtain ⟨x,hx⟩:∃ x,x = Qi.mk' a 0 d:=⟨_,rfl⟩
 rw [xJ,← hx]
 rw [← hx] at h1 h2
 have h3:=wM x.a.natAbs; have h4:=wM x.den
 have h5:(dg (0:Int).natAbs).length ≤ 0:=by rw [show (0:Int).natAbs = 0 from rfl,fP]; exact Nat.le_refl _
 refine bF.intro Tryz.func216 rfl Tryz.ntmps216 rfl (fun cx=>(ts (rn rfl (fG (Ht rfl)) fun B2=>(ro rfl (cQ (bC.cS (l:=[]) rfl)) (eX (ts (ro rfl (eJ A_58 Z_58 (Ht rfl) (i:=0) rfl rfl rfl) (ro rfl (aM.imp (Oz ) Do) (rm rfl (ro rfl (aM.imp (cZ K_150 (uZ (by first | assumption | omega) zo zo zo) ⟨(Ht rfl),(Ht rfl),(Ht rfl),trivial⟩) (iZ hx.symm)) (rn rfl (eW (Ts:=[Is (.bool false),Is (.slice none 0 0),Is (.bool false),Is (.slice none 0 0),Is (.slice none 0 0)]) O_60 rfl (fun V=>aW zd (aW zd (aW zd (aW zd (aW zd (aG))))))) fun B5=>?_)))))))))))
 refine gQ Z_60 (Ht rfl) (Ht rfl) rfl (i:=1) rfl (aK rfl) rfl rfl (eX (ts (ro rfl (eZ fR (Ht rfl) rfl) (ro rfl (eZ eT (Ht rfl) rfl) (ro rfl (eY A_56 Z_56 (Ht rfl) (i:=1) rfl rfl) (ro rfl (cZ Tryz.call260 (Jg zo) ⟨(Ht rfl),trivial⟩) (ra rfl (eX (cK (kQ (fun (uu:Unit)=>True) (fun (uu:Unit)=>[(5,cA B5 0),(6,uI (if x.a < 0 then 45 :: Bm x.a.natAbs else Bm x.a.natAbs))]) (fun (uu:Unit)=>[box B2 58 [aI (decide (a < 0)),aS (a).natAbs],box B5 60 [aI (decide ((x).a < 0)),aS (x).a.natAbs,aI (decide ((x).b < 0)),aS (x).b.natAbs,aS (du (x))]]) ?_ (fun uu _=>?_)))))))))))
 ·refine ts (ro rfl (eZ fR (Ht rfl) rfl) (ro rfl (eZ lQ (Ht rfl) rfl) (ro rfl (eY A_4 Z_4 (Ht rfl) (i := 1) rfl rfl) (eX (dQ (Ht rfl) (fun hb => ?_) (fun hb => ?_))))))
  ·simp only [decide_eq_true_eq] at hb
   refine cY (rm rfl (ro rfl (tY (bC.cS (l:=[45]) rfl) (Ht rfl) (by first | omega | (simp; omega))) (ra rfl (eX (bD () trivial (aQ rfl (aZ rfl (pW (by rw [if_pos hb]; rfl)) aX)) (aU (aD rfl) (aU (aD rfl) aY)))))))
  ·simp only [decide_eq_false_iff_not] at hb
   refine cU (bD () trivial (aQ rfl (aZ rfl (pW (by rw [if_neg hb])) aX)) (aU (aD rfl) (aU (aD rfl) aY)))
 ·have h6 : (if x.a < 0 then 45 :: Bm x.a.natAbs else Bm x.a.natAbs).length ≤ (Bm x.a.natAbs).length + 1 := by split <;> simp
  have h7:=Xi x
  refine cK (kQ (fun (uu:Unit)=>True) (fun (uu:Unit)=>[(6,uI ((if x.a < 0 then 45 :: Bm x.a.natAbs else Bm x.a.natAbs) ++ (if x.den = 1 then [] else 47 :: Bm x.den)))]) (fun (uu:Unit)=>[box B2 58 [aI (decide (a < 0)),aS (a).natAbs],box B5 60 [aI (decide ((x).a < 0)),aS (x).a.natAbs,aI (decide ((x).b < 0)),aS (x).b.natAbs,aS (du (x))]]) ?_ (fun uu _=>?_))
  ·refine ts (ro rfl (eZ qF (Ht rfl) rfl) (ro rfl (eY A_56 Z_56 (Ht rfl) (i := 1) rfl rfl) (ro rfl (dG U_56 (Ht rfl) aC) (ro rfl (jV (Ht rfl) (cJ 0)) (eX (dQ (Ht rfl) (fun hb => ?_) (fun hb => ?_)))))))
   ·simp only [decide_eq_true_eq] at hb
    have h8:du x = x.den:=wQ (fun e=>by rw [e,fP] at hb; simp at hb)
    have h9:x.den ≠ 1:=fun e=>by rw [du,if_pos e,fP] at hb; simp at hb
    have h10:=wM (du x)
    refine cY (rm rfl (ro rfl (eZ qF (Ht rfl) rfl) (ro rfl (eY A_56 Z_56 (Ht rfl) (i:=1) rfl rfl) (ro rfl (cZ Tryz.call260 (Jg zo) ⟨(Ht rfl),trivial⟩) (ro rfl (tY (bC.cS (l:=[47]) rfl) (Ht rfl) (by simp only [List.length_cons,List.length_nil]; omega)) ?_)))))
    refine ro rfl (tY (Ht rfl) (Ht rfl) (by simp only [List.length_append,List.length_cons,List.length_nil]; omega)) ?_
    refine ra rfl (eX (bD () trivial (aZ rfl (pW (by rw [if_neg h9,h8]; rfl)) aX) (eI.refl _)))
   ·simp only [decide_eq_false_iff_not] at hb
    have h9:x.den = 1:=zU (bO.1 zo)
    refine cU (bD () trivial (aZ rfl (pW (by rw [if_pos h9,List.append_nil])) aX) (eI.refl _))
  ·refine ts (rm rfl (ra rfl (eX ?_)))
   exact fW rfl (eU rfl)
theorem a45 {x:Qi} {L:Nat} [hx:aH x L] (h:L ≤ 8796093022208):bF Tryz.prog 115 [aE x] (uI (txt x)):=by
 have hxa:=oQ hx.fit; have hxb:=oR hx.fit; have hxd:=oS hx.fit; have hdp:=x.den_pos
 have l1:=Ku x.a hdp; have l2:=Ku x.b hdp
 refine bF.intro Tryz.func115 rfl Tryz.ntmps115 rfl (fun cx=>(ts (rn rfl (fG (Ht rfl)) fun B1=>(ro rfl (cQ (bC.cS (l:=[]) rfl)) (eX (cK (ts (ro rfl (eJ A_60 Z_60 (Ht rfl) (i:=0) rfl rfl rfl) (ro rfl (cZ Tryz.call55 We ⟨(Ht rfl),trivial⟩) (eX (dQ (Ht rfl) (fun hb=>?_) (fun hb=>?_))))))))))))
 ·simp only [decide_eq_true_eq] at hb
  refine cK (fZ (m:=4) (dp 1 rfl (eZ fR (Ht rfl) rfl) (dq 6 0 rfl (eJ A_58 Z_58 (Ht rfl) (i:=0) rfl rfl rfl) (dp 1 rfl (eJ A_60 Z_60 (Ht rfl) (i:=0) rfl rfl rfl) (dq 8 2 rfl (cZ K_153 oU ⟨(Ht rfl),trivial⟩) (fV bB rfl (by kernel_rfl) (zF (aV (ro rfl (cZ Tryz.call216 (Mq (by assumption) zo zo) ⟨(Ht rfl),(Ht rfl),trivial⟩) ?_)))))))))
  refine ra rfl (eX (fW rfl (fX (eU rfl) ?_)))
  exact (pW (by rw [txt,if_pos hb]))
 ·simp only [decide_eq_false_iff_not] at hb
  refine cU (cK (fZ (m:=4) (dp 1 rfl (eZ gN (Ht rfl) rfl) (dq 11 0 rfl (eJ A_58 Z_58 (Ht rfl) (i:=0) rfl rfl rfl) (dp 1 rfl (eJ A_60 Z_60 (Ht rfl) (i:=0) rfl rfl rfl) (dq 13 2 rfl (cZ K_153 oU ⟨(Ht rfl),trivial⟩) (fV bB rfl (by kernel_rfl) (zF (aV (ro rfl (cZ Tryz.call216 (Mq (by assumption) zo zo) ⟨(Ht rfl),(Ht rfl),trivial⟩) ?_))))))))))
  refine ro rfl (tY (Ht rfl) (bC.cS (l:=[105]) rfl) (by simp only [List.length_append,List.length_cons,List.length_nil]; omega)) ?_
  refine ra rfl (eX (cK (ts (ro rfl (eZ fR (Ht rfl) rfl) (ro rfl (eZ eT (Ht rfl) rfl) (ro rfl (eY A_56 Z_56 (Ht rfl) (i:=0) rfl rfl) (ro rfl (dG U_56 (Ht rfl) aC) (ro rfl (eC (Ht rfl) (cJ 0)) (eX (dQ (Ht rfl) (fun hc=>?_) (fun hc=>?_)))))))))))
  ·simp only [decide_eq_true_eq] at hc
   have ha:x.a = 0:=by have:=bO.1 hc; omega
   refine ts (rm rfl (ra rfl (eX (fW rfl (fX (eU rfl) ?_)))))
   exact (pW (by rw [txt,if_neg hb,if_pos ha]))
  ·simp only [decide_eq_false_iff_not] at hc
   have ha:x.a ≠ 0:=fun e=>hc (by rw [e]; exact bO.2 rfl)
   refine cU (cK (kQ (fun (uu:Unit)=>True) (fun (uu:Unit)=>[(1,cA B1 0),(3,uI ((if x.b < 0 then xJ x.b x.den else 43 :: xJ x.b x.den) ++ [105]))]) (fun (uu:Unit)=>[box B1 60 [aI (decide ((x).a < 0)),aS (x).a.natAbs,aI (decide ((x).b < 0)),aS (x).b.natAbs,aS (du (x))]]) ?_ (fun uu _=>?_)))
   ·refine ts (ro rfl (eZ gN (Ht rfl) rfl) (ro rfl (eZ lQ (Ht rfl) rfl) (ro rfl (eY A_4 Z_4 (Ht rfl) (i := 0) rfl rfl) (ro rfl (gG (Ht rfl)) (eX (dQ (Ht rfl) (fun hd => ?_) (fun hd => ?_)))))))
    ·have hn : ¬ x.b < 0 := by simpa using hd
     refine cY (rm rfl (ro rfl (tY (bC.cS (l:=[43]) rfl) (Ht rfl) (by simp only [List.length_append,List.length_cons,List.length_nil]; omega)) ?_))
     refine ra rfl (eX (bD () trivial (aQ rfl (aZ rfl (pW (by rw [if_neg hn]; rfl)) aX)) (aU (aD rfl) aY)))
    ·have hn : x.b < 0 := by simpa using hd
     refine cU (bD () trivial (aQ rfl (aZ rfl (pW (by rw [if_pos hn])) aX)) (aU (aD rfl) aY))
   ·have l3 : ((if x.b < 0 then xJ x.b x.den else 43 :: xJ x.b x.den) ++ [105]).length ≤ (xJ x.b x.den).length + 2 := by split <;> simp
    refine cK (fZ (m:=6) (dp 1 rfl (eZ fR (Ht rfl) rfl) (dq 29 0 rfl (eJ A_58 Z_58 (Ht rfl) (i:=0) rfl rfl rfl) (dp 1 rfl (eJ A_60 Z_60 (Ht rfl) (i:=0) rfl rfl rfl) (dq 31 2 rfl (cZ K_153 oU ⟨(Ht rfl),trivial⟩) (dH 30 1 32 3 rfl (cZ Tryz.call216 (Mq (by assumption) zo zo) ⟨(Ht rfl),(Ht rfl),trivial⟩) ?_))))))
    refine dp 3 rfl (cX (Ht rfl)) (fV bB rfl (by kernel_rfl) (zF (aJ (aJ (aV (ro rfl (tY (Ht rfl) (Ht rfl) zo) (ra rfl (eX (fW rfl (fX (eU rfl) ?_))))))))))
    exact (pW (by rw [txt,if_neg hb,if_neg ha]))
theorem zP {r:Rt}:bF Tryz.prog 33 [mS r] (aE r.q):=by
 have hr1:=r.h1; have hr2:=r.h2; have hr3:=r.h3; have hr4:=r.h4; have hr5:=r.d1; have hr6:=r.d2; have hr0:=r.d0
 refine bF.intro Tryz.func33 rfl Tryz.ntmps33 rfl (fun cx=>(ts (rn rfl (fG (Ht rfl)) fun B1=>(rn rfl (eW (Ts:=[Is (.bool false),Is (.slice none 0 0),Is (.bool false),Is (.slice none 0 0),Is (.slice none 0 0)]) O_60 rfl (fun V=>aW zd (aW zd (aW zd (aW zd (aW zd (aG))))))) fun B2=>(eX (cK (kQ (fun (uu:Unit)=>True) (fun (uu:Unit)=>[(1,cA B1 0),(2,cA B2 0)]) (fun (uu:Unit)=>[box B1 48 [aL .i64 r.re,aL .i64 r.im,aL .i64 r.d],box B2 60 [Is (.bool false),Is (.slice none 0 0),Is (.bool false),Is (.slice none 0 0),Is (.slice none 0 0)]]) ?_ (fun uu _=>?_))))))))
 ·refine ts (ro rfl (eZ wT (Ht rfl) rfl) (ro rfl (eY A_2 Z_2 (Ht rfl) (i := 0) rfl rfl) (ro rfl (oM (Ht rfl) cV) (eX (dQ (Ht rfl) (fun hb => ?_) (fun hb => ?_))))))
  ·simp only [decide_eq_true_eq] at hb
   refine cY (ro rfl (eZ wT (Ht rfl) rfl) (oK Z_2 (Ht rfl) (cJ 1) (i:=0) rfl (aK rfl) rfl (eX (bD () trivial (zS rfl) (aU (aD (by rw [Rt.d,if_pos hb]; rfl)) (aU (aD rfl) aY))))))
  ·simp only [decide_eq_false_iff_not] at hb
   refine cU (bD () trivial (zS rfl) (aU (aD (by rw [Rt.d,if_neg hb])) (aU (aD rfl) aY)))
 ·refine ts (ro rfl (eZ qE (Ht rfl) rfl) (ro rfl (eY A_2 Z_2 (Ht rfl) (i := 0) rfl rfl) (ro rfl (eZ Pv (Ht rfl) rfl) (ro rfl (eY A_2 Z_2 (Ht rfl) (i := 0) rfl rfl) (ro rfl (eZ wT (Ht rfl) rfl) (ro rfl (eY A_2 Z_2 (Ht rfl) (i := 0) rfl rfl) (ro rfl (cZ Tryz.call108 (a5X hr1 hr2 hr3 hr4 hr5 hr6 hr0) ⟨(Ht rfl), (Ht rfl), (Ht rfl), trivial⟩) (rm rfl (ro rfl (dK (Ht rfl) rfl) (ro rfl (dK (Ht rfl) rfl) (rn rfl (eW (Ts := [Is (.bool false), Is (.slice none 0 0), Is (.bool false), Is (.slice none 0 0), Is (.slice none 0 0)]) O_60 rfl (fun V => aW zd (aW zd (aW zd (aW zd (aW zd (aG))))))) fun B3 => ?_)))))))))))
  refine gQ Z_60 (Ht rfl) (Ht rfl) rfl (i:=2) rfl (aK rfl) rfl rfl (ra rfl (eX (ts (ro rfl (eJ A_60 Z_60 (Ht rfl) (i:=2) rfl rfl rfl) (gQ Z_60 (Ht rfl) (Ht rfl) rfl (i:=1) rfl (aK rfl) rfl rfl (eX ?_))))))
  exact fW rfl (fK A_60 Z_60 rfl (i:=1) rfl rfl)
theorem Eh {l:List Rt} (hl:l.length ≤ 1000000):bF Tryz.prog 48 [lW l] (aN (l.map Rt.q)):=by
 refine bF.intro Tryz.func48 rfl Tryz.ntmps48 rfl (fun cx=>(ts (ro rfl (cQ cV) (eX (ts (rm rfl (ro rfl (dG U_22 (Ht rfl) aC) (rn rfl (iG (T:=aE Qi.zero) (i:=Tryz.t60) jS gU rfl rfl (Ht rfl) rfl gF (El.ag rfl) (by show 88 * _ ≤ _; omega) zo) fun B8=>(ra rfl (eX (cK (ts (rm rfl (ro rfl (dG U_22 (Ht rfl) aC) (ro rfl (cX (cJ 0)) (eX (eG ?_)))))))))))))))))
 refine jE (fun (k : Nat) (out : List Qi) => pM (fun i => (l.getD i default).q) l.length out k) (fun (k : Nat) (out : List Qi) => l.length - k) (fun (k : Nat) (out : List Qi) => [(3, Is B8), (9, lW l), (10, NT .i64 l.length), (11, NT .i64 k)]) (fun (k : Nat) (out : List Qi) => [bI 60 5 B8 (out.map aE)]) 0 (List.replicate l.length Qi.zero) (pM.start _ _ _)
  (zS rfl) (aU (aP (xO aE _ _)) aY) (fun k out hS=>?_)
 refine ts (ro rfl (gX (Ht rfl) (Ht rfl)) (eX (cK (dQ (Ht rfl) (fun hk=>?_) (fun hk=>?_)))))
 ·simp only [decide_eq_true_eq] at hk
  have hlen:=hS.len
  refine cU (cK (eG (ts (rm rfl (ro rfl (dZ U_22 Z_48 (Ht rfl) (Ht rfl) rfl (dY (dU (d:=default) hk))) (ro rfl (dJ A_48 Z_48 (Ht rfl)) (rn rfl (eW (Ts:=[Is (.int .i64 0),Is (.int .i64 0),Is (.int .i64 0)]) O_48 rfl (fun V=>aW zd (aW zd (aW zd (aG))))) fun B5=>(ra rfl (gQ Z_48 (Ht rfl) (Ht rfl) rfl (i:=1) rfl (aK rfl) rfl rfl (eX (cY (rm rfl (rm rfl (ro rfl (eJ A_48 Z_48 (Ht rfl) (i:=1) rfl rfl rfl) ?_))))))))))))))
  refine ro rfl (cZ Tryz.call33 zP ⟨(Ht rfl),trivial⟩) (ro rfl (dA U_25 Z_60 (Ht rfl) (Ht rfl) rfl (i:=0) rfl (by first | omega | (simp; omega)) rfl) (lZ Z_60 (Ht rfl) (Ht rfl) (El.ag rfl) (i:=0) rfl rfl (by first | omega | (simp; omega)) rfl (eX (bN (cY (ro rfl (dV (Ht rfl) (cJ 1) z6) (rm rfl (eX (cM [0] rfl (by decide) (fU (k + 1,_) (hS.next hk rfl) (by dsimp only; omega) (zS rfl) (aU (aP (gI aE _ _ _)) aY)))))))))))
 ·simp only [decide_eq_false_iff_not] at hk
  obtain rfl:k = l.length:=Nat.le_antisymm hS.kle zo
  have hfin:=hS.fin
  rw [Dg l Rt.q] at hfin
  refine gV rfl (gJ (i:=0) (tt:=3) rfl rfl gE (ts (rm rfl (ra rfl (eX (fW rfl (fX (eU rfl) ?_)))))))
  exact (jC (by rw [hfin]))
end
section
open Go Go.RowKit
theorem wJ {n : Nat} {E : cP} {H : Hp} {d : Option Tmp} {t : TypeId} {pos : String} {af : Array Edge} {g : Option (Nat × Bool)}  :
  aM Tryz.prog n E H ⟨d,.build 60 #[],t,pos,af,g⟩ (fS [Is (.bool false),Is (.slice none 0 0),Is (.bool false),Is (.slice none 0 0),Is (.slice none 0 0)]) :=
 kD (parts := []) fun a V w hs => by
  refine ⟨.agg #[(.bool false),(.slice none 0 0),(.bool false),(.slice none 0 0),(.slice none 0 0)],?_,[(.bool false),(.slice none 0 0),(.bool false),(.slice none 0 0),(.slice none 0 0)],rfl,aW (⟨rfl,trivial⟩) (aW (⟨rfl,trivial⟩) (aW (⟨rfl,trivial⟩) (aW (⟨rfl,trivial⟩) (aW (⟨rfl,trivial⟩) (aG)))))⟩
  simp [Instr.build,Instr.fill,Sem.run_bind,Result.andThen,iW,O_60,U_60,Z_56,Z_58]
end
section
open Go Go.RowKit
theorem qR {x y:Qi} {L M:Nat} [hx:aH x L] [hy:aH y M] (h:L + 3 * M + 2 ≤ 17592186044415):bF Tryz.prog 64 [aE x,aE y] (eD [aE (x / y),aL .i64 (if y = Qi.zero then 3 else 0)]):=by
 have hxa:=oQ hx.fit; have hxb:=oR hx.fit; have hxd:=oS hx.fit
 have hya:=oQ hy.fit; have hyb:=oR hy.fit; have hyd:=oS hy.fit
 have hxp:=x.den_pos; have hyp:=y.den_pos; have hMp:=hy.pos
 refine bF.intro Tryz.func64 rfl Tryz.ntmps64 rfl (fun cx=>(ts (rn rfl (fG (Ht rfl)) fun B2=>(rn rfl (fG (Ht rfl)) fun B3=>(rn rfl (eW (Ts:=[Is (.bool false),Is (.slice none 0 0),Is (.bool false),Is (.slice none 0 0),Is (.slice none 0 0)]) O_60 rfl (fun V=>aW zd (aW zd (aW zd (aW zd (aW zd (aG))))))) fun B4=>(ro rfl (cQ (cJ 0)) (eX (cK (ts (ro rfl (eJ A_60 Z_60 (Ht rfl) (i:=1) rfl rfl rfl) ?_))))))))))
 refine ro rfl (cZ K_82 (tP zo) ⟨(Ht rfl),trivial⟩) (ro rfl (gG (Ht rfl)) (eX (dQ (Ht rfl) (fun hb=>?_) (fun hb=>?_))))
 ·have h0 : y = Qi.zero := by simpa using hb
  refine ts (ro rfl (aM.imp (wJ ) rE) (gQ Z_60 (Ht rfl) (Ht rfl) rfl (i:=2) rfl (aK rfl) rfl rfl (ro rfl (cQ (cJ 3)) (eX (bL rfl (fX (fK A_60 Z_60 rfl (i:=2) rfl rfl) ?_) (fX (eU rfl) ?_))))))
  ·exact (iZ (by rw [h0,Qi.div_zero]))
  ·exact (aT (by rw [if_pos h0]; rfl))
 ·have h0 : y ≠ Qi.zero := by simpa using hb
  have g1:=mN y.a y.a; have g2:=mN y.b y.b; have g3:=Bp y.b
  have g4:=nJ (x:=y.a * y.a) (y:=y.b * y.b) (L:=M + M) zo zo
  obtain ⟨c,hc⟩:∃ c,c = Qi.mk' y.a (-y.b) 1:=⟨_,rfl⟩
  obtain ⟨z,hz⟩:∃ z,z = x * c:=⟨_,rfl⟩
  have l1:(dg 1).length ≤ 1:=by rw [Xb (by decide) (by decide)]; exact Nat.le_refl _
  haveI fc:aH c M:=hc ▸ ⟨Qi.Fit.mk (by decide) hy.fit.1 (by rw [Int.natAbs_neg]; exact hy.fit.2.1) (Qi.one_lt hMp)⟩
  haveI fz:aH z (L + M + 1):=hz ▸ fitMul
  have hza:=oQ fz.fit; have hzb:=oR fz.fit; have hzd:=oS fz.fit
  have hnp:=Qi.nrm_int_pos h0
  have hm:(((y.a * y.a + y.b * y.b).natAbs:Nat):Int) = y.a * y.a + y.b * y.b:=Int.natAbs_of_nonneg zo
  have hdp2:=Nat.mul_pos z.den_pos (show 0 < (y.a * y.a + y.b * y.b).natAbs by omega)
  have e1:=gT z.a y.den; have e2:=gT z.b y.den; have e3:=yC z.den (y.a * y.a + y.b * y.b).natAbs
  refine cU (cK (fZ (m:=12) (dp 3 rfl (eZ fR (Ht rfl) rfl) (dq 12 0 rfl (eJ A_58 Z_58 (Ht rfl) (i:=1) rfl rfl rfl) (dp 3 rfl (eZ fR (Ht rfl) rfl) (dq 14 2 rfl (eJ A_58 Z_58 (Ht rfl) (i:=1) rfl rfl rfl) (dH 13 1 15 3 rfl (cZ K_151 (qD zo zo) ⟨(Ht rfl),(Ht rfl),trivial⟩) (dp 3 rfl (eZ gN (Ht rfl) rfl) (dq 17 5 rfl (eJ A_58 Z_58 (Ht rfl) (i:=1) rfl rfl rfl) (dp 3 rfl (eZ gN (Ht rfl) rfl) (dq 19 7 rfl (eJ A_58 Z_58 (Ht rfl) (i:=1) rfl rfl rfl) ?_)))))))))))
  refine dH 18 6 20 8 rfl (cZ K_151 (qD zo zo) ⟨(Ht rfl),(Ht rfl),trivial⟩) (dH 16 4 21 9 rfl (cZ K_152 (vA zo zo) ⟨(Ht rfl),(Ht rfl),trivial⟩) (C.D_new (Ei:=[]) rfl rfl rfl bW (eW (Ts:=[Is (.bool false),Is (.slice none 0 0)]) O_58 rfl (fun V=>aW zd (aW zd (aG)))) (fV bB rfl (by kernel_rfl) (zF (zF (aJ (aJ (aJ (C.F_new (fun B6=>aV (gQ Z_58 (Ht rfl) (Ht rfl) rfl (i:=3) rfl (aK rfl) rfl rfl ?_)))))))))))
  refine eX (cK (fZ (m:=10) (dp 2 rfl (eJ A_60 Z_60 (Ht rfl) (i:=0) rfl rfl rfl) (dp 3 rfl (eZ fR (Ht rfl) rfl) (dq 24 1 rfl (eJ A_58 Z_58 (Ht rfl) (i:=1) rfl rfl rfl) (dp 3 rfl (eZ gN (Ht rfl) rfl) (dq 26 3 rfl (eJ A_58 Z_58 (Ht rfl) (i:=1) rfl rfl rfl) (dq 27 4 rfl (cZ K_167 qC ⟨(Ht rfl),trivial⟩) (d0 rfl (aM.imp (eH (xs:=[_]) U_56 Z_218 Tryz.zeroValue218 (cW (cJ 1) cG) rfl rfl rfl) Kq) (C.D_step (Ei:=[(25,_),(28,_),(29,_)]) rfl rfl (bV (bG 2 rfl rfl) (bV (bG 5 rfl rfl) (bV (bG 6 rfl rfl) bW))) (dX rfl (aM.imp (cZ K_150 (uZ (by first | assumption | omega) zo zo zo) ⟨(Ht rfl),(Ht rfl),(Ht rfl),trivial⟩) (iZ hc.symm))) ?_))))))))))
  refine dH 23 0 30 7 rfl (aM.imp (cZ K_70 (kY zo) ⟨(Ht rfl),(Ht rfl),trivial⟩) (iZ hz.symm)) (C.D_new (Ei:=[]) rfl rfl rfl bW (eW (Ts:=[Is (.bool false),Is (.slice none 0 0),Is (.bool false),Is (.slice none 0 0),Is (.slice none 0 0)]) O_60 rfl (fun V=>aW zd (aW zd (aW zd (aW zd (aW zd (aG))))))) (fV bB rfl (by kernel_rfl) (zF (zF (aJ (C.F_new (fun B7=>aV ?_)))))))
  refine gQ Z_60 (Ht rfl) (Ht rfl) rfl (i:=4) rfl (aK rfl) rfl rfl (eX (cK (fZ (m:=14) (dp 7 rfl (eZ fR (Ht rfl) rfl) (dq 32 0 rfl (eJ A_58 Z_58 (Ht rfl) (i:=4) rfl rfl rfl) (dp 3 rfl (eJ A_60 Z_60 (Ht rfl) (i:=1) rfl rfl rfl) (dq 34 2 rfl (cZ K_153 oU ⟨(Ht rfl),trivial⟩) (dH 33 1 35 3 rfl (cZ K_155 (mA zo zo) ⟨(Ht rfl),(Ht rfl),trivial⟩) (dp 7 rfl (eZ gN (Ht rfl) rfl) (dq 37 5 rfl (eJ A_58 Z_58 (Ht rfl) (i:=4) rfl rfl rfl) ?_))))))))))
  refine dp 3 rfl (eJ A_60 Z_60 (Ht rfl) (i:=1) rfl rfl rfl) (dq 39 7 rfl (cZ K_153 oU ⟨(Ht rfl),trivial⟩) (dH 38 6 40 8 rfl (cZ K_155 (mA zo zo) ⟨(Ht rfl),(Ht rfl),trivial⟩) (dp 7 rfl (eJ A_60 Z_60 (Ht rfl) (i:=4) rfl rfl rfl) (dq 42 10 rfl (cZ K_153 oU ⟨(Ht rfl),trivial⟩) (dp 6 rfl (eZ eT (Ht rfl) rfl) (dq 44 12 rfl (eY A_56 Z_56 (Ht rfl) (i:=3) rfl rfl) (fV bB rfl (by kernel_rfl) (zF (zF (zF (aJ (aJ (aV ?_)))))))))))))
  refine ro rfl (cZ K_154 (Ej zo zo) ⟨(Ht rfl),(Ht rfl),trivial⟩) (ro rfl (cZ K_150 (uZ (by first | assumption | omega) zo zo zo) ⟨(Ht rfl),(Ht rfl),(Ht rfl),trivial⟩) (gQ Z_60 (Ht rfl) (Ht rfl) rfl (i:=2) rfl (aK rfl) rfl rfl (ro rfl (cQ (cJ 0)) (eX (bL rfl (fX (fK A_60 Z_60 rfl (i:=2) rfl rfl) ?_) (fX (eU rfl) ?_))))))
  ·exact (iZ (Qi.mk_divP x h0 (hc ▸ hz) hm))
  ·exact (aT (by rw [if_neg h0]; rfl))
end
section
open Go Go.RowKit
theorem tU:Tryz.prog.info? 25 = some Tryz.t25:=by kernel_rfl
end
section
open Go Go.RowKit
theorem Mg {γ:Type} {l:List γ} {T:γ → Ty} {p:γ → Bool} [sh:∀ x,dF (T x) 5 true] (hl:l.length ≤ 1000000):bF Tryz.prog 207 [kM 5 (l.map T),yU Tryz.prog γ (fun x=>[T x]) (fun x=>aI (p x))] (aL .i64 (Gx p l)):=by
 refine bF.intro Tryz.func207 rfl Tryz.ntmps207 rfl (fun cx=>(ts (ro rfl (cQ (cJ 0)) (eX (cK (ts (rm rfl (ro rfl (dG U_25 (Ht rfl) aC) (ro rfl (cX (cJ 0)) (eX (eG ?_)))))))))))
 refine cI (fun (k : Nat) => k ≤ l.length ∧ ∀ (i : Nat) (x : γ), i < k → l[i]? = some x → p x = false) (fun (k : Nat) => l.length - k) (fun (k : Nat) => [(0, kM 5 (l.map T)), (1, yU Tryz.prog γ (fun x => [T x]) (fun x => aI (p x))), (7, NT .i64 l.length), (8, NT .i64 k)]) (fun (k : Nat) => []) 0 ⟨Nat.zero_le _, fun i x h => by omega⟩
  (zS rfl) aY (fun k ⟨hk,hn⟩=>?_)
 refine ts (ro rfl (gX (Ht rfl) (Ht rfl)) (eX (cK (dQ (Ht rfl) (fun hb=>?_) (fun hb=>?_)))))
 ·simp only [decide_eq_true_eq] at hb
  refine cU (cK (eG (ts (rm rfl (ra rfl (eX (ts (rm rfl (rm rfl (rm rfl (ro rfl (dZ U_25 Z_60 (Ht rfl) (Ht rfl) rfl (dY (zJ hb))) (ro rfl (dJ A_60 Z_60 (Ht rfl)) (ro rfl (nC (l[k]) (Ht rfl) ⟨(Ht rfl),trivial⟩) (eX (dQ (Ht rfl) (fun hc=>?_) (fun hc=>?_))))))))))))))))
  ·have hp : p l[k] = true := hc
   refine ts (rm rfl (ra rfl (eX (fW rfl (fX (eU rfl) ?_)))))
   exact (aT (Gy (zJ hb) hp hn).symm)
  ·have hp : p l[k] = false := hc
   refine cU (bN (cY (ro rfl (dV (Ht rfl) (cJ 1) z6) (rm rfl (eX ?_)))))
   refine fU (k + 1) ⟨hb, fun i x h1 h2 => by
    by_cases e:i = k
    ·subst e; rw [zJ hb] at h2; obtain rfl:=Option.some.inj h2; exact hp
    ·exact hn i x zo h2⟩ zo (zS rfl) aY
 ·simp only [decide_eq_false_iff_not] at hb
  refine gV rfl (ts (ro rfl (cQ cV) (eX (fW rfl (fX (eU rfl) ?_)))))
  exact (aT (yH (fun i x h=>hn i x (by have:=(List.getElem?_eq_some_iff.1 h).1; omega) h)).symm)
theorem uN {γ:Type} {l:List γ} {T:γ → Ty} {p:γ → Bool} [sh:∀ x,dF (T x) 5 true] (hl:l.length ≤ 1000000):bF Tryz.prog 103 [kM 5 (l.map T),yU Tryz.prog γ (fun x=>[T x]) (fun x=>aI (p x))] (aI (l.any p)):=by
 refine bF.intro Tryz.func103 rfl Tryz.ntmps103 rfl (fun cx=>(ts (ro rfl (cQ cV) (eX (ts (rm rfl (rm rfl (ro rfl (cZ Tryz.call207 (Mg zo) ⟨(Ht rfl),(Ht rfl),trivial⟩) (ro rfl (pS (Ht rfl) cV) (ra rfl (eX (fW rfl (fX (eU rfl) ?_)))))))))))))
 exact (fO (Ca p l))
theorem Mh {γ:Type} {l:List γ} {T:γ → Ty} {p:γ → Bool} [sh:∀ x,dF (T x) 1 false] (hl:l.length ≤ 1000000):bF Tryz.prog 262 [kM 1 (l.map T),yU Tryz.prog γ (fun x=>[T x]) (fun x=>aI (p x))] (aL .i64 (Gx p l)):=by
 refine bF.intro Tryz.func262 rfl Tryz.ntmps262 rfl (fun cx=>(ts (ro rfl (cQ (cJ 0)) (eX (cK (ts (rm rfl (ro rfl (dG U_26 (Ht rfl) aC) (ro rfl (cX (cJ 0)) (eX (eG ?_)))))))))))
 refine cI (fun (k : Nat) => k ≤ l.length ∧ ∀ (i : Nat) (x : γ), i < k → l[i]? = some x → p x = false) (fun (k : Nat) => l.length - k) (fun (k : Nat) => [(0, kM 1 (l.map T)), (1, yU Tryz.prog γ (fun x => [T x]) (fun x => aI (p x))), (7, NT .i64 l.length), (8, NT .i64 k)]) (fun (k : Nat) => []) 0 ⟨Nat.zero_le _, fun i x h => by omega⟩
  (zS rfl) aY (fun k ⟨hk,hn⟩=>?_)
 refine ts (ro rfl (gX (Ht rfl) (Ht rfl)) (eX (cK (dQ (Ht rfl) (fun hb=>?_) (fun hb=>?_)))))
 ·simp only [decide_eq_true_eq] at hb
  refine cU (cK (eG (ts (rm rfl (ra rfl (eX (ts (rm rfl (rm rfl (rm rfl (ro rfl (dZ U_26 Z_25 (Ht rfl) (Ht rfl) rfl (dY (zJ hb))) (ro rfl (dJ A_25 Z_25 (Ht rfl)) (ro rfl (nC (l[k]) (Ht rfl) ⟨(Ht rfl),trivial⟩) (eX (dQ (Ht rfl) (fun hc=>?_) (fun hc=>?_))))))))))))))))
  ·have hp : p l[k] = true := hc
   refine ts (rm rfl (ra rfl (eX (fW rfl (fX (eU rfl) ?_)))))
   exact (aT (Gy (zJ hb) hp hn).symm)
  ·have hp : p l[k] = false := hc
   refine cU (bN (cY (ro rfl (dV (Ht rfl) (cJ 1) z6) (rm rfl (eX ?_)))))
   refine fU (k + 1) ⟨hb, fun i x h1 h2 => by
    by_cases e:i = k
    ·subst e; rw [zJ hb] at h2; obtain rfl:=Option.some.inj h2; exact hp
    ·exact hn i x zo h2⟩ zo (zS rfl) aY
 ·simp only [decide_eq_false_iff_not] at hb
  refine gV rfl (ts (ro rfl (cQ cV) (eX (fW rfl (fX (eU rfl) ?_)))))
  exact (aT (yH (fun i x h=>hn i x (by have:=(List.getElem?_eq_some_iff.1 h).1; omega) h)).symm)
theorem Dv {γ:Type} {l:List γ} {T:γ → Ty} {p:γ → Bool} [sh:∀ x,dF (T x) 1 false] (hl:l.length ≤ 1000000):bF Tryz.prog 227 [kM 1 (l.map T),yU Tryz.prog γ (fun x=>[T x]) (fun x=>aI (p x))] (aI (l.any p)):=by
 refine bF.intro Tryz.func227 rfl Tryz.ntmps227 rfl (fun cx=>(ts (ro rfl (cQ cV) (eX (ts (rm rfl (rm rfl (ro rfl (cZ Tryz.call262 (Mh zo) ⟨(Ht rfl),(Ht rfl),trivial⟩) (ro rfl (pS (Ht rfl) cV) (ra rfl (eX (fW rfl (fX (eU rfl) ?_)))))))))))))
 exact (fO (Ca p l))
theorem Mr {x:Qi} {L:Nat} [hx:aH x L] (h:L ≤ 8796093022208):bF Tryz.prog 223 [aE x] (aI (eS x)):=by
 haveI hz:aH Qi.zero 1:=aH.zero (Nat.le_refl 1)
 refine bF.intro Tryz.func223 rfl Tryz.ntmps223 rfl (fun cx=>(ts (rn rfl (fG (Ht rfl)) fun B1=>(ro rfl (cQ cV) (eX (ts (ro rfl (eJ A_60 Z_60 (Ht rfl) (i:=0) rfl rfl rfl) (ro rfl (cZ Tryz.call55 We ⟨(Ht rfl),trivial⟩) (rm rfl (fQ rfl rfl (eK rfl rfl (Ht rfl) (fun h=>eJ A_60 Z_60 (Ht rfl) (i:=0) rfl rfl rfl)) (fQ rfl rfl (eK rfl rfl (Ht rfl) (fun h=>aM.imp (wJ ) rE)) (fQ rfl rfl (eK rfl rfl (Ht rfl) (fun h=>cZ Tryz.call51 (Vv zo) ⟨(fJ rfl h),(fJ rfl h),trivial⟩)) ?_))))))))))))
 refine fQ rfl rfl (eK rfl rfl (Ht rfl) (fun h=>Zq (fJ rfl h) cV)) (ro rfl (gS (Ht rfl) (fun h=>(fJ rfl h))) (ra rfl (eX (fW rfl (fX (eU rfl) ?_)))))
 exact (fO (a5d x))
theorem Gi {x:Qi} {L:Nat} [hx:aH x L] (h:L ≤ 8796093022208):bF Tryz.prog 222 [aE x] (aI (!eS x)):=by
 refine bF.intro Tryz.func222 rfl Tryz.ntmps222 rfl (fun cx=>(ts (rn rfl (fG (Ht rfl)) fun B1=>(ro rfl (cQ cV) (eX (ts (ro rfl (eJ A_60 Z_60 (Ht rfl) (i:=0) rfl rfl rfl) (ro rfl (cZ Tryz.call223 (Mr zo) ⟨(Ht rfl),trivial⟩) (ro rfl (gG (Ht rfl)) (ra rfl (eX ?_)))))))))))
 exact fW rfl (eU rfl)
theorem yW {z:List Qi} {L:Nat} (hz:bH z L) (h:L ≤ 8796093022208) (hl:z.length ≤ 1000):bF Tryz.prog 129 [aN z] (aL .i64 (if z.all eS then 0 else 1)):=by
 obtain ⟨l,hzl⟩:∃ l:List {x:Qi // aH x L},z = l.map Subtype.val:=⟨z.attach.map fun x=>⟨x.1,hz x.1 x.2⟩,by simp⟩
 subst hzl
 have hll:l.length ≤ 1000:=by simpa using hl
 refine bF.intro Tryz.func129 rfl Tryz.ntmps129 rfl (fun cx=>(Bf (E':=[(0,_)]) (aZ rfl (jC (Us:=l.map fun x=>aE x.1) (by simp [List.map_map,Function.comp_def])) aX) ?_))
 refine ts (ro rfl (cQ (cJ 0)) (eX (cK (ts (rm rfl (ro rfl (cZ Tryz.call103 (uN (l:=l) (T:=fun x=>aE x.1) (p:=fun x=>!eS x.1) zo) ⟨(Ht rfl),(bC.fn Tryz.call222 (γ:={x:Qi // aH x L}) (Ts:=fun x=>[aE x.1]) (U:=fun x=>aI (!eS x.1)) (fun x=>haveI:=x.2; Gi h)),trivial⟩) (eX (dQ (Ht rfl) (fun hb=>?_) (fun hb=>?_)))))))))
 ·have hn : ¬ (l.map Subtype.val).all eS = true := by simp at hb ⊢; exact hb
  refine ts (ro rfl (cQ (cJ 1)) (eX (fW rfl (fX (eU rfl) ?_))))
  exact (aT (by rw [if_neg hn]; rfl))
 ·have hn : (l.map Subtype.val).all eS = true := by simp at hb ⊢; exact hb
  refine cU (ts (ro rfl (cQ (cJ 0)) (eX (fW rfl (fX (eU rfl) ?_)))))
  exact (aT (by rw [if_pos hn]; rfl))
theorem Jc {l:List Qi} (hl:l.length ≤ 1000):iV Tryz.prog 109 [aN l] [] (Value) (fun v=>Is v) (fun v=>[bI 60 5 v (l.map aE)]) (fun _=>True):=by
 refine iV.intro Tryz.func109 rfl Tryz.ntmps109 rfl (fun cx Z=>(ts (ro rfl (cQ cV) (eX (cK (ts (rm rfl (ro rfl (Zp U_25 (Ht rfl)) (eX (a13 (Ht rfl) (fun hb=>?_) (fun hb=>?_)))))))))))
 ·have hT : l.map aE = [] := hb rfl
  refine ts (ro rfl (cQ cV) (eX (uL 60 5 ?_)))
  exact kW (.slice none 0 0) trivial [0,1] ⟨⟨_,rfl,fun _ _ _ h=>h⟩,⟨_,rfl,(aP hT.symm)⟩,trivial⟩ (by decide) (xP rfl (eU rfl))
 ·refine cU (ts (rn rfl (Ko U_25 Z_60 O_60) fun B5 => (rm rfl (Ed (inf := Tryz.t60) jS gU rfl rfl rfl (Ht rfl) (Ht rfl) (i := 1) rfl (fun T hT => by obtain ⟨x, _, rfl⟩ := List.mem_map.1 hT; exact El.ag rfl) (by show _ * 88 ≤ _; simp only [List.length_map, List.length_nil]; omega) (by simp only [List.length_map, List.length_nil]; omega) rfl (fun v2 => ?_)))))
  refine ra rfl (eX ?_)
  exact kW v2 trivial [0,1] ⟨⟨_,rfl,fun _ _ _ h=>h⟩,⟨_,rfl,fun _ _ _ h=>h⟩,trivial⟩ (by decide) (xP rfl (eU rfl))
theorem Pa {l:List Qi} (hl:l.length ≤ 1000):bF Tryz.prog 109 [aN l] (aN l):=(Jc hl).fun fun v _=>gE
theorem zO {n:Nat} {f:Nat → Nat → Qi} (hn:n ≤ 1000):iV Tryz.prog 110 [NT .i64 n,yU Tryz.prog (Fin n × Fin n) (fun x=>[NT .i64 x.1.1,NT .i64 x.2.1]) (fun x=>aE (f x.1.1 x.2.1))] [] (Nat) (fun B=>Is (.slice (some ⟨B,0,none⟩) n n)) (fun B=>[oE B 25 60 5 (cO aE (tab n fun i=>tab n (f i)))]) (fun _=>True):=by
 refine iV.intro Tryz.func110 rfl Tryz.ntmps110 rfl (fun cx Z=>(ts (ro rfl (cQ cV) (eX (ts (rm rfl (rn rfl (jN (T:=Is (.slice none 0 0)) (i:=Tryz.t25) V_26 tU rfl rfl (Ht rfl) rfl (fun _=>rfl) trivial (by show 24 * _ ≤ _; omega) zo) fun B9=>(ra rfl (eX (cK (ts (rm rfl (ro rfl (jB U_26 (Ht rfl)) (ro rfl (cX (cJ 0)) (eX (eG (pN 1 rfl (xE (e:=60) (s:=5)) ?_)))))))))))))))))
 refine jE (fun (k : Nat) (m : List (List Qi)) => pM (fun i => tab n (f i)) n m k) (fun (k : Nat) (m : List (List Qi)) => n - k) (fun (k : Nat) (m : List (List Qi)) => [(0, NT .i64 n), (1, yU Tryz.prog (Fin n × Fin n) (fun x => [NT .i64 x.1.1, NT .i64 x.2.1]) (fun x => aE (f x.1.1 x.2.1))), (5, Is (.slice (some ⟨B9, 0, none⟩) n n)), (11, NT .i64 n), (12, NT .i64 k)]) (fun (k : Nat) (m : List (List Qi)) => [Z, oE B9 25 60 5 (cO aE m)]) 0 (List.replicate n []) (pM.start _ _ _)
  (zS rfl) (aU (fun _ _ _ h=>h) (aU (eB (tF aE n)) aY)) (fun k m hS=>?_)
 refine ts (ro rfl (gX (Ht rfl) (Ht rfl)) (eX (cK (dQ (Ht rfl) (fun hk=>?_) (fun hk=>?_)))))
 ·simp only [decide_eq_true_eq] at hk
  have hlen:=hS.len
  refine oV 1 (k) rfl (oA (m:=m) (i:=k) zo) (fun v=>(cU (cK (eG (ts (rm rfl (ra rfl (eX (ts (rm rfl (rm rfl (rm rfl (rn rfl (iG (T:=aE Qi.zero) (i:=Tryz.t60) jS gU rfl rfl (Ht rfl) rfl gF (El.ag rfl) (by show 88 * _ ≤ _; omega) zo) fun B18=>(ro rfl (fY U_26 Z_25 (Ht rfl) (Ht rfl) rfl zo (by rw [Nat.mul_one,Nat.zero_add])) ?_))))))))))))))
  refine Bd Z_25 (Ht rfl) (Ht rfl) (by simp; omega) (j:=1) (l:=3) rfl rfl rfl ?_
  refine eX (cK (cM [0,1,3] rfl (by decide) (cY (rm rfl (rm rfl (ro rfl (fY U_26 Z_25 (Ht rfl) (Ht rfl) rfl zo (by rw [Nat.mul_one,Nat.zero_add])) ?_))))))
  refine ro rfl (lI A_25 Z_25 (Ht rfl) (j:=1) rfl) (ro rfl (nW U_25 (Ht rfl) (i:=2) rfl (show ((List.replicate n (aE Qi.zero)).length:Int) = ((n:Nat):Int) by simp)) (ro rfl (cX (cJ 0)) (eX (eG ?_))))
  refine jE (fun (j : Nat) (out : List Qi) => pM (f k) n out j) (fun (j : Nat) (out : List Qi) => n - j) (fun (j : Nat) (out : List Qi) => [(0, NT .i64 n), (1, yU Tryz.prog (Fin n × Fin n) (fun x => [NT .i64 x.1.1, NT .i64 x.2.1]) (fun x => aE (f x.1.1 x.2.1))), (5, Is (.slice (some ⟨B9, 0, none⟩) n n)), (6, NT .i64 k), (11, NT .i64 n), (12, NT .i64 k), (24, NT .i64 n), (25, NT .i64 j)]) (fun (j : Nat) (out : List Qi) => [Z, He B9 25 60 5 (cO aE m) k B18, bI 60 5 B18 (out.map aE)]) 0 (List.replicate n Qi.zero) (pM.start _ _ _)
   (zS rfl) (aU (fun _ _ _ h=>h) (aU (fun _ _ _ h=>h) (aU (aP (xO aE _ _)) aY))) (fun j out hT=>?_)
  refine ts (ro rfl (gX (Ht rfl) (Ht rfl)) (eX (cK (dQ (Ht rfl) (fun hj=>?_) (fun hj=>?_)))))
  ·simp only [decide_eq_true_eq] at hj
   have hlen2:=hT.len
   refine cU (cK (eG (ts (rm rfl (ra rfl (eX (fZ (m:=9) (dp 5 rfl (cX (Ht rfl)) (dp 6 rfl (cX (Ht rfl)) (dH 28 0 29 1 rfl (fY U_26 Z_25 (Ht rfl) (Ht rfl) rfl zo (by rw [Nat.mul_one,Nat.zero_add])) ?_))))))))))
   refine dq 30 2 rfl (lI A_25 Z_25 (Ht rfl) (j:=1) rfl) (dp 7 rfl (cX (Ht rfl)) (dp 1 rfl (cX (Ht rfl)) (dp 6 rfl (cX (Ht rfl)) (dp 7 rfl (cX (Ht rfl)) (C.D_step (Ei:=[(33,_),(34,_),(35,_)]) rfl rfl (bV (bG 5 rfl rfl) (bV (bG 6 rfl rfl) (bV (bG 7 rfl rfl) bW))) (dX rfl (nC ((⟨k,hk⟩,⟨j,hj⟩):Fin n × Fin n) (Ht rfl) ⟨(Ht rfl),(Ht rfl),trivial⟩)) (fV bB rfl (by kernel_rfl) (zF (zF (aJ (aV ?_))))))))))
   refine ro rfl (dA U_25 Z_60 (Ht rfl) (Ht rfl) rfl (i:=2) rfl (by first | omega | (simp; omega)) rfl) (lZ Z_60 (Ht rfl) (Ht rfl) (El.ag rfl) (i:=2) rfl rfl (by first | omega | (simp; omega)) rfl (eX (bN (cY (ro rfl (dV (Ht rfl) (cJ 1) z6) (rm rfl (eX (fU (j + 1,_) (hT.next hj rfl) (by dsimp only; omega) (zS rfl) (aU (fun _ _ _ h=>h) (aU (fun _ _ _ h=>h) (aU (aP (gI aE _ _ _)) aY)))))))))))
  ·simp only [decide_eq_false_iff_not] at hj
   obtain rfl:j = n:=Nat.le_antisymm hT.kle zo
   have hfin:=hT.fin
   refine gV rfl (bN (kU 1 2 rfl rfl (by decide) (by simp; omega) ?_))
   refine cY (ro rfl (dV (Ht rfl) (cJ 1) z6) (rm rfl (eX (cM [0,1] rfl (by decide) (fU (k + 1,_) (hS.next hk hfin) (by dsimp only; omega) (zS rfl) (aU (fun _ _ _ h=>h) (aU (eB (lK aE _ _ _)) aY)))))))
 ·simp only [decide_eq_false_iff_not] at hk
  obtain rfl:k = n:=Nat.le_antisymm hS.kle zo
  have hfin:=hS.fin
  refine gV rfl (ts (rm rfl (ra rfl (eX ?_))))
  exact kW B9 trivial [0,1] ⟨⟨_,rfl,fun _ _ _ h=>h⟩,⟨_,rfl,(eB (by rw [hfin]))⟩,trivial⟩ (by decide) (xP rfl (eU rfl))
theorem uY {n:Nat} {f:Nat → Nat → Qi} (hn:n ≤ 1000):bF Tryz.prog 110 [NT .i64 n,yU Tryz.prog (Fin n × Fin n) (fun x=>[NT .i64 x.1.1,NT .i64 x.2.1]) (fun x=>aE (f x.1.1 x.2.1))] (cH (tab n fun i=>tab n (f i))):=(zO hn).fun fun B _ v S V h1 h2=>jC (by simp [cO,List.map_map,Function.comp_def]) v V (Gu (by simp [cO,aF]) (Nat.le_refl _) v S V h1 h2)
end
section
open Go Go.RowKit
theorem jF {n : Nat} {E : cP} {H : Hp} {d : Option Tmp} {t : TypeId} {pos : String} {af : Array Edge} {g : Option (Nat × Bool)}  :
  aM Tryz.prog n E H ⟨d,.build 28 #[],t,pos,af,g⟩ (fS [Is (.slice none 0 0),Is (.slice none 0 0)]) :=
 kD (parts := []) fun a V w hs => by
  refine ⟨.agg #[(.slice none 0 0),(.slice none 0 0)],?_,[(.slice none 0 0),(.slice none 0 0)],rfl,aW (⟨rfl,trivial⟩) (aW (⟨rfl,trivial⟩) (aG))⟩
  simp [Instr.build,Instr.fill,Sem.run_bind,Result.andThen,iW,O_28,U_28,Z_25,Z_26]
theorem pO {n : Nat} {E : cP} {H : Hp} {d : Option Tmp} {t : TypeId} {pos : String} {af : Array Edge} {g : Option (Nat × Bool)} {x0 x1 : Operand} {T0 T1 : Ty} [s0 : dF T0 1 false] (h0 : bC E x0 T0) [s1 : dF T1 1 false] (h1 : bC E x1 T1) :
  aM Tryz.prog n E H ⟨d,.build 28 #[(0,x0),(1,x1)],t,pos,af,g⟩ (fS [T0,T1]) :=
 kD (parts := [(0, x0), (1, x1)]) fun a V w hs => by
  have p0:=h0 n V a hs
  generalize e0:a.eval x0 = v0 at p0
  have q0:=(s0.ok v0 V p0).2.2 rfl
  have p1:=h1 n V a hs
  generalize e1:a.eval x1 = v1 at p1
  have q1:=(s1.ok v1 V p1).2.2 rfl
  refine ⟨.agg #[v0,v1],?_,[v0,v1],rfl,aW (⟨p0,q0⟩) (aW (⟨p1,q1⟩) (aG))⟩
  simp [e0,e1,Instr.build,Instr.fill,Sem.run_bind,Result.andThen,iW,q0.cells,q1.cells,O_28,U_28,Z_25,Z_26]
theorem dS (a:Addr) (w:World):(Instr.fieldAt 28 (.pointer (some a)) 0).run Tryz.prog w = .ok (.pointer (some (a.add 0))) w:=by
 simp [Instr.fieldAt,Instr.sureAddr,fieldPlace,Sem.run_bind,Result.andThen,U_28,Z_25]
end
section
open Go Go.RowKit
theorem a42 {s:List (List Qi)} {n i j:Nat} (hs:cB s n n) (hi:i < n) (hj:j < n):bF Tryz.prog 192 [NT .i64 i,NT .i64 j,PT (cH s)] (aE (gm s i j)):=by
 have h1:=hs.1; have h2:=hs.row hi
 refine bF.intro Tryz.func192 rfl Tryz.ntmps192 rfl (fun cx=>(ts (rn rfl (eW (Ts:=[Is (.bool false),Is (.slice none 0 0),Is (.bool false),Is (.slice none 0 0),Is (.slice none 0 0)]) O_60 rfl (fun V=>aW zd (aW zd (aW zd (aW zd (aW zd (aG))))))) fun B5=>(eX (ts (ro rfl (dJ A_26 Z_26 (Ht rfl)) (rm rfl (ro rfl (dZ U_26 Z_25 (Ht rfl) (Ht rfl) rfl (dY (dU (d:=[]) zo))) (ro rfl (dJ A_25 Z_25 (Ht rfl)) ?_)))))))))
 refine rm rfl (ro rfl (dZ U_25 Z_60 (Ht rfl) (Ht rfl) rfl (dY (dU (d:=Qi.zero) zo))) (ro rfl (dJ A_60 Z_60 (Ht rfl)) (gQ Z_60 (Ht rfl) (Ht rfl) rfl (i:=0) rfl (aK rfl) rfl rfl (eX ?_))))
 exact fW rfl (fK A_60 Z_60 rfl (i:=0) rfl rfl)
theorem Ji {z:List Qi} {s:List (List Qi)} {L:Nat} (hz:bH z L) (h:L ≤ 8796093022208) (hl:z.length ≤ 1000) (hl2:s.length ≤ 1000):bF Tryz.prog 93 [aN z,cH s] (eD [dC (iC (fD z s) z) (iC (fD z s) s),aL .i64 (fD z s)]):=by
 refine bF.intro Tryz.func93 rfl Tryz.ntmps93 rfl (fun cx=>(ts (rn rfl (mB (Ht rfl)) fun B3=>(rn rfl (eW (Ts:=[Is (.slice none 0 0),Is (.slice none 0 0)]) O_28 rfl (fun V=>aW zd (aW zd (aG)))) fun B4=>(ro rfl (cQ (cJ 0)) (eX (cK (cK (gJ (i:=0) (tt:=3) rfl rfl gY (cY (rm rfl (ro rfl (dG U_25 (Ht rfl) aC) (ro rfl (gX (Ht rfl) (cJ 1)) (rm rfl (fQ rfl rfl (eK rfl rfl (Ht rfl) (fun h=>cX (Ht rfl))) (fQ rfl rfl (eK rfl rfl (Ht rfl) (fun h=>dG U_25 (fJ rfl h) aC)) ?_))))))))))))))))
 refine fQ rfl rfl (eK rfl rfl (Ht rfl) (fun h=>jV (fJ rfl h) (cJ 8))) (ro rfl (nD (Ht rfl) (fun h=>(fJ rfl h))) (rm rfl (fQ rfl rfl (eK rfl rfl (Ht rfl) (fun h=>dJ A_26 Z_26 (Ht rfl))) (fQ rfl rfl (eK rfl rfl (Ht rfl) (fun h=>dG U_26 (fJ rfl h) aC)) (fQ rfl rfl (eK rfl rfl (Ht rfl) (fun h=>cX (Ht rfl))) (fQ rfl rfl (eK rfl rfl (Ht rfl) (fun h=>dG U_25 (fJ rfl h) aC)) (fQ rfl rfl (eK rfl rfl (Ht rfl) (fun h=>lS (fJ rfl h) (fJ rfl h))) ?_)))))))
 refine ro rfl (nD (Ht rfl) (fun h=>(fJ rfl h))) (eX (dQ (Ht rfl) (fun hb=>?_) (fun hb=>?_)))
 ·have he := Kn hb
  refine ts (ro rfl (aM.imp (jF ) jM) (gQ Z_28 (Ht rfl) (Ht rfl) rfl (i:=1) rfl (aK rfl) rfl rfl (ro rfl (cQ (cJ 4)) (eX (bL rfl (fX (fK A_28 Z_28 rfl (i:=1) rfl rfl) ?_) (fX (eU rfl) ?_))))))
  ·exact (Hk he (by decide))
  ·exact (aT he.symm)
 ·refine cU (cK (ts (ro rfl (dJ A_26 Z_26 (Ht rfl)) (ro rfl (dG U_26 (Ht rfl) aC) (ro rfl (cX (cJ 0)) (eX (eG ?_)))))))
  refine cI (fun (k : Nat) => k ≤ s.length ∧ ∀ (i : Nat) (r : List Qi), i < k → s[i]? = some r → r.length = z.length) (fun (k : Nat) => s.length - k) (fun (k : Nat) => [(0, aN z), (3, PT (cH s)), (4, cA B4 0), (25, cH s), (26, NT .i64 s.length), (27, NT .i64 k)]) (fun (k : Nat) => [SA.emp, box B4 28 [Is (.slice none 0 0), Is (.slice none 0 0)]]) 0 ⟨Nat.zero_le _, fun i r h => by omega⟩
   (zS rfl) (eI.refl _) (fun k ⟨hk,hr⟩=>?_)
  refine ts (ro rfl (gX (Ht rfl) (Ht rfl)) (eX (cK (dQ (Ht rfl) (fun hc=>?_) (fun hc=>?_)))))
  ·simp only [decide_eq_true_eq] at hc
   refine cU (cK (eG (ts (ro rfl (dZ U_26 Z_25 (Ht rfl) (Ht rfl) rfl (dY (zJ hc))) (ro rfl (dJ A_25 Z_25 (Ht rfl)) (ra rfl (eX (ts (rm rfl (ro rfl (dG U_25 (Ht rfl) aC) (rm rfl (ro rfl (dG U_25 (Ht rfl) aC) (ro rfl (lS (Ht rfl) (Ht rfl)) (eX (dQ (Ht rfl) (fun hd=>?_) (fun hd=>?_))))))))))))))))
   ·have hd2 : ¬ (s[k]).length = z.length := by simpa using hd
    have he:=Nm (zJ hc) hd2
    refine ts (ro rfl (aM.imp (jF ) jM) (gQ Z_28 (Ht rfl) (Ht rfl) rfl (i:=1) rfl (aK rfl) rfl rfl (ro rfl (cQ (cJ 4)) (eX (bL rfl (fX (fK A_28 Z_28 rfl (i:=1) rfl rfl) ?_) (fX (eU rfl) ?_))))))
    ·exact (Hk he (by decide))
    ·exact (aT he.symm)
   ·have hd2 : (s[k]).length = z.length := by simpa using hd
    refine cU (bN (cY (ro rfl (dV (Ht rfl) (cJ 1) z6) (rm rfl (eX ?_)))))
    refine fU (k + 1) ⟨hc, fun i r h1 h2 => by
      by_cases e:i = k
      ·subst e; rw [zJ hc] at h2; obtain rfl:=Option.some.inj h2; exact hd2
      ·exact hr i r zo h2⟩ zo (zS rfl) (eI.refl _)
  ·simp only [decide_eq_false_iff_not] at hc
   have hall:∀ (i:Nat) (r:List Qi),s[i]? = some r → r.length = z.length:=fun i r h=>hr i r (by have:=(List.getElem?_eq_some_iff.1 h).1; omega) h
   have hpos:=Nl hb hall
   refine gV rfl (cK (ts (rm rfl (ro rfl (cZ Tryz.call129 (yW hz h zo) ⟨(Ht rfl),trivial⟩) (ra rfl (eX (ts (rm rfl (ro rfl (fM (Ht rfl) cV) (eX (dQ (Ht rfl) (fun hd=>?_) (fun hd=>?_))))))))))))
   ·have hd2 : ¬ (if z.all eS = true then (0 : Int) else 1) = 0 := by simpa using hd
    refine ts (ro rfl (aM.imp (jF ) jM) (rm rfl (gQ Z_28 (Ht rfl) (Ht rfl) rfl (i:=1) rfl (aK rfl) rfl rfl (ra rfl (eX (bL rfl (fX (fK A_28 Z_28 rfl (i:=1) rfl rfl) ?_) (fX (eU rfl) ?_)))))))
    ·exact (Hk hpos hd2)
    ·exact (aT hpos.symm)
   ·have hd2 : (if z.all eS = true then (0 : Int) else 1) = 0 := by simpa using hd
    have he:=hpos.trans hd2
    obtain ⟨h1,h2,hsh,_⟩:=yL he
    refine cU (ts (rm rfl (ro rfl (cZ Tryz.call109 (Pa zo) ⟨(Ht rfl),trivial⟩) (rm rfl (ro rfl (dG U_25 (Ht rfl) aC) (ro rfl (lR (γ:=Fin z.length × Fin z.length) (Ts:=fun x=>[NT .i64 x.1.1,NT .i64 x.2.1]) (U:=fun x=>aE (gm s x.1.1 x.2.1)) Tryz.call192 (fun x=>a42 hsh x.1.2 x.2.2) ⟨(Ht rfl),trivial⟩) (ro rfl (cZ K_110 (eQ (uY (n:=z.length) (f:=gm s) zo) (jC (by rw [← tX hsh]))) ⟨(Ht rfl),(Ht rfl),trivial⟩) ?_)))))))
    refine ro rfl (pO (Ht rfl) (Ht rfl)) (gQ Z_28 (Ht rfl) (Ht rfl) rfl (i:=1) rfl (aK rfl) rfl rfl (ro rfl (cQ (cJ 0)) (eX (bL rfl (fX (fK A_28 Z_28 rfl (i:=1) rfl rfl) ?_) (fX (eU rfl) ?_)))))
    ·exact (Zd he)
    ·exact (aT he.symm)
theorem qB {z:List Qi} {s:List (List Qi)}:bF Tryz.prog 31 [dC z s] (NT .i64 z.length):=by
 refine bF.intro Tryz.func31 rfl Tryz.ntmps31 rfl (fun cx=>(ts (rn rfl (fG (Ht rfl)) fun B1=>(ro rfl (cQ (cJ 0)) (eX (ts (ro rfl (eZ dS (Ht rfl) rfl) (ro rfl (eY A_25 Z_25 (Ht rfl) (i:=0) rfl rfl) (ro rfl (dG U_25 (Ht rfl) aC) (ra rfl (eX ?_)))))))))))
 exact fW rfl (eU rfl)
theorem Jh {z:List Qi} {s:List (List Qi)} {i:Int}:bF Tryz.prog 138 [dC z s,aL .i64 i] (aI (decide (1 ≤ i ∧ i ≤ z.length))):=by
 refine bF.intro Tryz.func138 rfl Tryz.ntmps138 rfl (fun cx=>(ts (rn rfl (fG (Ht rfl)) fun B2=>(ro rfl (cQ cV) (eX (ts (rm rfl (ro rfl (pS (Ht rfl) cV) (rm rfl (fQ rfl rfl (eK rfl rfl (Ht rfl) (fun h=>cX (Ht rfl))) (fQ rfl rfl (eK rfl rfl (Ht rfl) (fun h=>eZ dS (Ht rfl) rfl)) (fQ rfl rfl (eK rfl rfl (Ht rfl) (fun h=>eY A_25 Z_25 (fJ rfl h) (i:=0) rfl rfl)) (fQ rfl rfl (eK rfl rfl (Ht rfl) (fun h=>dG U_25 (fJ rfl h) aC)) (fQ rfl rfl (eK rfl rfl (Ht rfl) (fun h=>Zs (fJ rfl h) (fJ rfl h))) ?_))))))))))))))
 refine ro rfl (gS (Ht rfl) (fun h=>(fJ rfl h))) (ra rfl (eX (fW rfl (fX (eU rfl) ?_))))
 exact (fO (by rw [Bool.eq_iff_iff]; simp))
end
section
open Go Go.RowKit
theorem cT (a:Addr) (w:World):(Instr.fieldAt 28 (.pointer (some a)) 1).run Tryz.prog w = .ok (.pointer (some (a.add 1))) w:=by
 simp [Instr.fieldAt,Instr.sureAddr,fieldPlace,Sem.run_bind,Result.andThen,U_28,Z_26]
end
section
open Go Go.RowKit
theorem a6H {z:List Qi} {s:List (List Qi)} {i j:Int} (hs:cB s z.length z.length) (hl:z.length ≤ 1000):bF Tryz.prog 39 [dC z s,aL .i64 i,aL .i64 j] (eD [aE (pkm z.length s i j),aL .i64 (if (1 ≤ i ∧ i ≤ z.length) ∧ 1 ≤ j ∧ j ≤ z.length then 0 else 1)]):=by
 have hs1:=hs.1
 refine bF.intro Tryz.func39 rfl Tryz.ntmps39 rfl (fun cx=>(ts (rn rfl (fG (Ht rfl)) fun B3=>(rn rfl (eW (Ts:=[Is (.bool false),Is (.slice none 0 0),Is (.bool false),Is (.slice none 0 0),Is (.slice none 0 0)]) O_60 rfl (fun V=>aW zd (aW zd (aW zd (aW zd (aW zd (aG))))))) fun B6=>(ro rfl (cQ (cJ 0)) (eX (cK (ts (ro rfl (eJ A_28 Z_28 (Ht rfl) (i:=0) rfl rfl rfl) (rm rfl (ro rfl (cZ Tryz.call138 Jh ⟨(Ht rfl),(Ht rfl),trivial⟩) ?_)))))))))))
 refine ro rfl (gG (Ht rfl)) (rm rfl (fQ rfl rfl (eK rfl rfl (Ht rfl) (fun h=>eJ A_28 Z_28 (Ht rfl) (i:=0) rfl rfl rfl)) (fQ rfl rfl (eK rfl rfl (Ht rfl) (fun h=>cX (Ht rfl))) (fQ rfl rfl (eK rfl rfl (Ht rfl) (fun h=>cZ Tryz.call138 Jh ⟨(fJ rfl h),(fJ rfl h),trivial⟩)) (fQ rfl rfl (eK rfl rfl (Ht rfl) (fun h=>gG (fJ rfl h))) (ro rfl (nD (Ht rfl) (fun h=>(fJ rfl h))) (eX (dQ (Ht rfl) (fun hb=>?_) (fun hb=>?_)))))))))
 ·have hn : ¬ ((1 ≤ i ∧ i ≤ (z.length : Int)) ∧ 1 ≤ j ∧ j ≤ (z.length : Int)) := by simp only [Bool.or_eq_true, Bool.not_eq_true', decide_eq_false_iff_not] at hb; exact fun k => hb.elim (fun h => h k.1) (fun h => h k.2)
  refine ts (rn rfl (eW (Ts:=[Is (.bool false),Is (.slice none 0 0),Is (.bool false),Is (.slice none 0 0),Is (.slice none 0 0)]) O_60 rfl (fun V=>aW zd (aW zd (aW zd (aW zd (aW zd (aG))))))) fun B8=>(eX (ts (ro rfl (eJ A_60 Z_60 (Ht rfl) (i:=2) rfl rfl rfl) (gQ Z_60 (Ht rfl) (Ht rfl) rfl (i:=1) rfl (aK rfl) rfl rfl (ro rfl (cQ (cJ 1)) (eX (bL rfl (fX (fK A_60 Z_60 rfl (i:=1) rfl rfl) ?_) (fX (eU rfl) ?_)))))))))
  ·exact (fun v V k=>by rw [pkm,if_neg hn]; exact rE v V k)
  ·exact (aT (by rw [if_neg hn]; rfl))
 ·have hp : (1 ≤ i ∧ i ≤ (z.length : Int)) ∧ 1 ≤ j ∧ j ≤ (z.length : Int) := by simpa only [Bool.or_eq_false_iff, Bool.not_eq_false', decide_eq_true_eq] using hb
  have hq:(i - 1).toNat < s.length:=by omega
  have hq2:(j - 1).toNat < (s.getD (i - 1).toNat []).length:=by rw [hs.row zo]; omega
  refine cU (ts (ro rfl (eZ cT (Ht rfl) rfl) (ro rfl (eY A_26 Z_26 (Ht rfl) (i:=0) rfl rfl) (rm rfl (ro rfl (kX (Ht rfl) cV (Ea zo)) (ro rfl (dZ U_26 Z_25 (Ht rfl) (Ht rfl) (by omega:i - 1 = (((i - 1).toNat:Nat):Int)) (dY (dU (d:=[]) hq))) (ro rfl (dJ A_25 Z_25 (Ht rfl)) (rm rfl (ro rfl (kX (Ht rfl) cV (Ea zo)) (ro rfl (dZ U_25 Z_60 (Ht rfl) (Ht rfl) (by omega:j - 1 = (((j - 1).toNat:Nat):Int)) (dY (dU (d:=Qi.zero) hq2))) ?_))))))))))
  refine ro rfl (dJ A_60 Z_60 (Ht rfl)) (gQ Z_60 (Ht rfl) (Ht rfl) rfl (i:=1) rfl (aK rfl) rfl rfl (ro rfl (cQ (cJ 0)) (eX (bL rfl (fX (fK A_60 Z_60 rfl (i:=1) rfl rfl) ?_) (fX (eU rfl) ?_)))))
  ·exact (iZ (by rw [pkm,if_pos hp]))
  ·exact (aT (by rw [if_pos hp]; rfl))
end
section
open Go Go.RowKit
theorem a5H:Tryz.prog.underlying 26 = some (.slice 25):=by kernel_rfl
end
section
open Go Go.RowKit
theorem Sk {m:List (List Rt)} (hm:m.length ≤ 1000) (hr:∀ r,r ∈ m → r.length ≤ 1000):bF Tryz.prog 94 [Ry m] (cH (rq m)):=by
 refine bF.intro Tryz.func94 rfl Tryz.ntmps94 rfl (fun cx=>(ts (ro rfl (cQ cV) (eX (ts (rm rfl (ro rfl (dG U_75 (Ht rfl) aC) (rn rfl (iG (T:=aN []) (i:=Tryz.t25) a5H tU rfl rfl (Ht rfl) rfl Kp El.one (by show 24 * _ ≤ _; omega) zo) fun B8=>(ra rfl (eX (cK (ts (rm rfl (ro rfl (dG U_75 (Ht rfl) aC) (ro rfl (cX (cJ 0)) (eX (eG ?_)))))))))))))))))
 refine jE (fun (k : Nat) (out : List (List Qi)) => pM (fun i => (m.getD i default).map Rt.q) m.length out k) (fun (k : Nat) (out : List (List Qi)) => m.length - k) (fun (k : Nat) (out : List (List Qi)) => [(3, Is B8), (9, Ry m), (10, NT .i64 m.length), (11, NT .i64 k)]) (fun (k : Nat) (out : List (List Qi)) => [bI 25 1 B8 (out.map aN)]) 0 (List.replicate m.length []) (pM.start _ _ _)
  (zS rfl) (aU (aP (xO aN _ _)) aY) (fun k out hS=>?_)
 refine ts (ro rfl (gX (Ht rfl) (Ht rfl)) (eX (cK (dQ (Ht rfl) (fun hk=>?_) (fun hk=>?_)))))
 ·simp only [decide_eq_true_eq] at hk
  have hlen:=hS.len
  have hrk : (m.getD k default).length ≤ 1000 := by
   have e:m.getD k default = m[k]:=by simp [List.getD,hk]
   rw [e]; exact hr _ (List.getElem_mem hk)
  refine cU (cK (eG (ts (rm rfl (ro rfl (dZ U_75 Z_22 (Ht rfl) (Ht rfl) rfl (dY (dU (d:=default) hk))) (ro rfl (dJ A_22 Z_22 (Ht rfl)) (ra rfl (ra rfl (eX (cY (rm rfl (rm rfl (rm rfl (ro rfl (cZ Tryz.call48 (Eh zo) ⟨(Ht rfl),trivial⟩) (ro rfl (dA U_26 Z_25 (Ht rfl) (Ht rfl) rfl (i:=0) rfl (by first | omega | (simp; omega)) rfl) (lZ Z_25 (Ht rfl) (Ht rfl) El.one (i:=0) rfl rfl (by first | omega | (simp; omega)) rfl (eX (bN ?_))))))))))))))))))
  refine cY (ro rfl (dV (Ht rfl) (cJ 1) z6) (rm rfl (eX (fU (k + 1,_) (hS.next hk rfl) (by dsimp only; omega) (zS rfl) (aU (aP (gI aN _ _ _)) aY)))))
 ·simp only [decide_eq_false_iff_not] at hk
  obtain rfl:k = m.length:=Nat.le_antisymm hS.kle zo
  have hfin:=hS.fin
  rw [Dg m (fun r=>r.map Rt.q)] at hfin
  refine gV rfl (gJ (i:=0) (tt:=3) rfl rfl gE (ts (rm rfl (ra rfl (eX (fW rfl (fX (eU rfl) ?_)))))))
  exact (jC (by rw [hfin]))
end
section
open Go Go.RowKit
theorem nL (v : Value) (w : World) : (method (Tryz.prog.types.size + Made.depth) 60 v "Of").run Tryz.prog w = .ok (304, v) w := by kernel_rfl
theorem bP (v:Value) (w:World):(Instr.makeInterface 60 v).run Tryz.prog w = .ok (.iface 60 v) w:=by
 simp [Instr.makeInterface,Sem.run_bind,Result.andThen,U_60]
end
section
open Go Go.RowKit
theorem Jd {y:Qi}:bF Tryz.prog 304 [fS [Is (.bool false),Is (.slice none 0 0),Is (.bool false),Is (.slice none 0 0),Is (.slice none 0 0)],aE y] (aE y):=by
 refine bF.intro Tryz.func304 rfl Tryz.ntmps304 rfl (fun cx=>(ts (rn rfl (fG (Ht rfl)) fun B2=>(rn rfl (fG (Ht rfl)) fun B3=>(rn rfl (eW (Ts:=[Is (.bool false),Is (.slice none 0 0),Is (.bool false),Is (.slice none 0 0),Is (.slice none 0 0)]) O_60 rfl (fun V=>aW zd (aW zd (aW zd (aW zd (aW zd (aG))))))) fun B4=>(eX (ts (ro rfl (eJ A_60 Z_60 (Ht rfl) (i:=1) rfl rfl rfl) (gQ Z_60 (Ht rfl) (Ht rfl) rfl (i:=2) rfl (aK rfl) rfl rfl ?_)))))))))
 refine eX ?_
 exact fW rfl (fK A_60 Z_60 rfl (i:=2) rfl rfl)
theorem Mk {r:List Qi} {k:Nat}:bF Tryz.prog 261 [aN r,PT (NT .i64 k)] (aI (!decide (r.length = k))):=by
 refine bF.intro Tryz.func261 rfl Tryz.ntmps261 rfl (fun cx=>(ts (ro rfl (cQ cV) (eX (ts (rm rfl (ro rfl (dG U_25 (Ht rfl) aC) (ro rfl (dJ A_3 Z_3 (Ht rfl)) (ro rfl (lS (Ht rfl) (Ht rfl)) (ra rfl (eX ?_)))))))))))
 exact fW rfl (eU rfl)
theorem Bi  : bF Tryz.prog 226 [cH []] (eD [NT .i64 0,aI true]):=by
 refine bF.intro Tryz.func226 rfl Tryz.ntmps226 rfl (fun cx=>(ts (ro rfl (cQ (cJ 0)) (ro rfl (cQ cV) (eX (cK (ts (rm rfl (ro rfl (dG U_26 (Ht rfl) aC) (ro rfl (eC (Ht rfl) (cJ 0)) (eX (qA (Ht rfl) (by rfl) ?_))))))))))))
 refine ts (ro rfl (cQ (cJ 0)) (ro rfl (cQ cV) (eX ?_)))
 exact bL rfl (eU rfl) (eU rfl)
theorem Ee {a:List (List Qi)} {n k:Nat} (h:cB a n k) (h1:1 ≤ n) (hn:n ≤ 32) (hk:k ≤ 32):bF Tryz.prog 226 [cH a] (eD [NT .i64 k,aI true]):=by
 obtain ⟨rfl,h2⟩:=h
 have hr0:(a.getD 0 []).length = k:=cB.row ⟨rfl,h2⟩ zo
 refine bF.intro Tryz.func226 rfl Tryz.ntmps226 rfl (fun cx=>(ts (ro rfl (cQ (cJ 0)) (ro rfl (cQ cV) (eX (cK (ts (rm rfl (ro rfl (dG U_26 (Ht rfl) aC) (ro rfl (eC (Ht rfl) (cJ 0)) (eX (dQ (Ht rfl) (fun hb=>?_) (fun hb=>?_)))))))))))))
 ·simp only [decide_eq_true_eq] at hb
  omega
 ·refine cU (ts (rm rfl (ro rfl (dZ U_26 Z_25 (Ht rfl) (cJ 0) rfl (dY (dU (d := []) zo))) (ro rfl (dJ A_25 Z_25 (Ht rfl)) (ro rfl (dG U_25 (Ht rfl) aC) (rn rfl (eW (Ts := [Is (.int .i64 0)]) O_3 rfl (fun V => aW zd (aG))) fun B4 => (oK Z_3 (Ht rfl) (Ht rfl) (i := 0) rfl (aK rfl) rfl (eX (cK (gJ (i := 0) (tt := 4) rfl rfl gY (fZ (m := 15) (dp 4 rfl (dJ A_3 Z_3 (Ht rfl)) ?_))))))))))))
  refine dp 0 rfl (cX (Ht rfl)) (dq 13 1 rfl (dG U_26 (Ht rfl) aC) (dq 14 2 rfl (Ai (Ht rfl) (cJ 32)) (dq 15 3 rfl (cX (Ht rfl)) (C.D_step (Ei:=[(4,_),(16,_)]) rfl rfl (bV (bK rfl rfl) (bV (bG 4 rfl rfl) bW)) (eK rfl rfl (Ht rfl) (fun h=>dJ A_3 Z_3 (Ht rfl))) (C.D_step (Ei:=[(17,_),(16,_)]) rfl rfl (bV (bG 5 rfl rfl) (bV (bG 4 rfl rfl) bW)) (eK rfl rfl (Ht rfl) (fun h=>Ai (fJ rfl h) (cJ 32))) (dH 16 4 18 6 rfl (gS (Ht rfl) (fun h=>(fJ rfl h))) ?_))))))
  refine dq 19 7 rfl (cX (Ht rfl)) (C.D_step (Ei:=[(0,_),(20,_)]) rfl rfl (bV (bK rfl rfl) (bV (bG 8 rfl rfl) bW)) (eK rfl rfl (Ht rfl) (fun h=>cX (Ht rfl))) (C.D_step (Ei:=[(4,_),(20,_)]) rfl rfl (bV (bK rfl rfl) (bV (bG 8 rfl rfl) bW)) (eK rfl rfl (Ht rfl) (fun h=>lR (γ:=List Qi) (Ts:=fun r=>[aN r]) (U:=fun r=>aI (!decide (r.length = (a.getD 0 []).length))) Tryz.call261 (fun r=>Mk) ⟨(Ht rfl),trivial⟩)) (C.D_step (Ei:=[(21,_),(22,_),(20,_)]) rfl rfl (bV (bG 9 rfl rfl) (bV (bG 10 rfl rfl) (bV (bG 8 rfl rfl) bW))) (eK rfl rfl (Ht rfl) (fun h=>cZ Tryz.call227 (Dv (l:=a) (T:=aN) (p:=fun r=>!decide (r.length = (a.getD 0 []).length)) zo) ⟨(fJ rfl h),(fJ rfl h),trivial⟩)) ?_)))
  refine C.D_step (Ei:=[(23,_),(20,_)]) rfl rfl (bV (bG 11 rfl rfl) (bV (bG 8 rfl rfl) bW)) (eK rfl rfl (Ht rfl) (fun h=>gG (fJ rfl h))) (dH 20 8 24 12 rfl (gS (Ht rfl) (fun h=>(fJ rfl h))) (dq 12 0 rfl (cQ (Ht rfl)) (fV bB rfl (by kernel_rfl) (zF (zF (zF (aJ (aJ (aJ (aV (ra rfl (eX (bL rfl (fX (eU rfl) ?_) (fX (eU rfl) ?_))))))))))))))
  ·exact (nB hr0)
  ·exact (fO (by rw [hr0,a1D ⟨rfl,h2⟩]; simp; omega))
theorem Bj {a:List (List Qi)} {n k:Nat} (h:cB a n k) (h1:1 ≤ n ∨ k = 0) (hn:n ≤ 32) (hk:k ≤ 32):bF Tryz.prog 226 [cH a] (eD [NT .i64 k,aI true]):=by
 by_cases e:n = 0
 ·subst e
  obtain rfl:=List.length_eq_zero_iff.1 h.1
  rw [show k = 0 by omega]; exact Bi
 ·exact Ee h zo hn hk
end
section
open Go Go.RowKit
theorem lF (v : Value) (w : World) : (method (Tryz.prog.types.size + Made.depth) 60 v "Add").run Tryz.prog w = .ok (71, v) w := by kernel_rfl
theorem dP (v : Value) (w : World) : (method (Tryz.prog.types.size + Made.depth) 60 v "Mul").run Tryz.prog w = .ok (70, v) w := by kernel_rfl
end
section
open Go Go.RowKit
theorem Wd {a b:List (List Qi)} {n k m L M:Nat} (ha:cB a n k) (hb:cB b k m) (hfa:bA a L) (hfb:bA b M) (hL1:1 ≤ L) (hM1:1 ≤ M) (hL:L ≤ 900000000000) (hM:M ≤ 900000000000) (hn1:1 ≤ n ∨ k = 0) (hk1:1 ≤ k ∨ m = 0) (hn:n ≤ 8) (hk:k ≤ 8) (hm:m ≤ 8):iV Tryz.prog 141 [cH a,cH b] [] (Nat) (fun B=>eD [Is (.slice (some ⟨B,0,none⟩) n n),aL .i64 0]) (fun B=>[oE B 25 60 5 (cO aE (gR a b n k m))]) (fun _=>True):=by
 have hal:=ha.1
 have hbl:=hb.1
 refine iV.intro Tryz.func141 rfl Tryz.ntmps141 rfl (fun cx Z=>(ts (ro rfl (cQ cV) (ro rfl (cQ (cJ 0)) (eX (ts (rm rfl (ro rfl (cZ Tryz.call226 (Bj ha hn1 zo zo) ⟨(Ht rfl),trivial⟩) (rm rfl (ro rfl (dK (Ht rfl) rfl) (ro rfl (dK (Ht rfl) rfl) (ra rfl (ra rfl (eX (ts (rm rfl (ro rfl (cZ Tryz.call226 (Bj hb hk1 zo zo) ⟨(Ht rfl),trivial⟩) (rm rfl (ro rfl (dK (Ht rfl) rfl) (ro rfl (dK (Ht rfl) rfl) (ra rfl (ra rfl (eX (cK (ts (rm rfl (ro rfl (gG (Ht rfl)) ?_)))))))))))))))))))))))))))
 refine rm rfl (fQ rfl rfl (eK rfl rfl (Ht rfl) (fun h=>cX (Ht rfl))) (fQ rfl rfl (eK rfl rfl (Ht rfl) (fun h=>gG (fJ rfl h))) (ro rfl (nD (Ht rfl) (fun h=>(fJ rfl h))) (rm rfl (fQ rfl rfl (eK rfl rfl (Ht rfl) (fun h=>cX (Ht rfl))) (fQ rfl rfl (eK rfl rfl (Ht rfl) (fun h=>cX (Ht rfl))) (fQ rfl rfl (eK rfl rfl (Ht rfl) (fun h=>dG U_26 (fJ rfl h) aC)) (fQ rfl rfl (eK rfl rfl (Ht rfl) (fun h=>lS (fJ rfl h) (fJ rfl h))) (ro rfl (nD (Ht rfl) (fun h=>(fJ rfl h))) ?_)))))))))
 refine eX (dQ (Ht rfl) (fun h0=>?_) (fun h0=>?_))
 ·exact absurd h0 (by simp [hbl])
 ·refine cU (ts (rm rfl (ro rfl (dG U_26 (Ht rfl) aC) (rn rfl (jN (T := Is (.slice none 0 0)) (i := Tryz.t25) V_26 tU rfl rfl (Ht rfl) rfl (fun _ => rfl) trivial (by show 24 * _ ≤ _; omega) zo) fun B39 => (ra rfl (eX (cK (ts (rm rfl (ro rfl (jB U_26 (Ht rfl)) (ro rfl (cX (cJ 0)) (eX (eG (pN 1 rfl (xE (e := 60) (s := 5)) ?_))))))))))))))
  refine cI (fun (i : Nat) => i ≤ n) (fun (i : Nat) => n - i) (fun (i : Nat) => [(0, cH a), (1, cH b), (6, NT .i64 k), (8, NT .i64 m), (10, Is (.slice (some ⟨B39, 0, none⟩) n n)), (41, NT .i64 n), (42, NT .i64 i)]) (fun (i : Nat) => [Z, oE B39 25 60 5 (cO aE (kS (fun i => tab m fun c => Dw a b k i c) [] n i))]) 0 (Nat.zero_le _)
   (aQ rfl (aQ rfl (aQ rfl (aQ rfl (aZ rfl (fun v V h=>by rw [← hal]; exact h) (aZ rfl (nB hal) (zS rfl))))))) (aU (fun _ _ _ h=>h) (aU (eB (by rw [← iN,rJ,hal]; exact tF aE n)) aY)) (fun i hi=>?_)
  refine ts (ro rfl (gX (Ht rfl) (Ht rfl)) (eX (cK (dQ (Ht rfl) (fun hd=>?_) (fun hd=>?_)))))
  ·simp only [decide_eq_true_eq] at hd
   have har:=ha.row hd
   refine oV 1 (i) rfl (wW hd) (fun v=>(cU (cK (eG (ts (rm rfl (ra rfl (eX (ts (rm rfl (ro rfl (cX (cJ 0)) (eX (eG ?_)))))))))))))
   refine jE (fun (c : Nat) (v : Value) => c ≤ m) (fun (c : Nat) (v : Value) => m - c) (fun (c : Nat) (v : Value) => [(0, cH a), (1, cH b), (6, NT .i64 k), (8, NT .i64 m), (10, Is (.slice (some ⟨B39, 0, none⟩) n n)), (11, NT .i64 i), (41, NT .i64 n), (42, NT .i64 i), (45, NT .i64 m), (46, NT .i64 c)]) (fun (c : Nat) (v : Value) => [Z, He B39 25 60 5 (cO aE (kS (fun i => tab m fun c => Dw a b k i c) [] n i)) i v, bI 60 5 v ((tab c fun c => Dw a b k i c).map aE)]) 0 v (Nat.zero_le _)
    (zS rfl) (eI.refl _) (fun c v hc=>?_)
   refine ts (ro rfl (gX (Ht rfl) (Ht rfl)) (eX (cK (dQ (Ht rfl) (fun he=>?_) (fun he=>?_)))))
   ·simp only [decide_eq_true_eq] at he
    have hk1:1 ≤ k:=by omega
    have hb0:=hb.row (i:=0) zo
    haveI f1:aH (gm a i 0) L:=hfa.get hL1 i 0
    haveI f2:aH (gm b 0 c) M:=hfb.get hM1 0 c
    refine cU (cK (eG (ts (rm rfl (ra rfl (eX (cK (fZ (m:=15) (dp 0 rfl (cX (Ht rfl)) (dp 11 rfl (cX (Ht rfl)) (dH 49 0 50 1 rfl (dZ U_26 Z_25 (Ht rfl) (Ht rfl) rfl (dY (dU (d:=[]) zo))) (dq 51 2 rfl (dJ A_25 Z_25 (Ht rfl)) (dq 52 3 rfl (dZ U_25 Z_60 (Ht rfl) (cJ 0) rfl (dY (dU (d:=Qi.zero) (by rw [har]; omega)))) ?_)))))))))))))
    refine dq 53 4 rfl (dJ A_60 Z_60 (Ht rfl)) (dq 54 5 rfl (bE bP (Ht rfl)) (dp 1 rfl (cX (Ht rfl)) (dq 56 7 rfl (dZ U_26 Z_25 (Ht rfl) (cJ 0) rfl (dY (dU (d:=[]) zo))) (dq 57 8 rfl (dJ A_25 Z_25 (Ht rfl)) (dp 12 rfl (cX (Ht rfl)) (dH 58 9 59 10 rfl (dZ U_25 Z_60 (Ht rfl) (Ht rfl) rfl (dY (dU (d:=Qi.zero) (by rw [hb0]; omega)))) ?_))))))
    refine dq 60 11 rfl (dJ A_60 Z_60 (Ht rfl)) (dH 55 6 61 12 rfl (aR dP K_70 (kY zo) (Ht rfl) ⟨(Ht rfl),trivial⟩) (C.D_new (Ei:=[]) rfl rfl rfl bW (eW (Ts:=[Is (.bool false),Is (.slice none 0 0),Is (.bool false),Is (.slice none 0 0),Is (.slice none 0 0)]) O_60 rfl (fun V=>aW zd (aW zd (aW zd (aW zd (aW zd (aG))))))) (fV bB rfl (by kernel_rfl) (zF (zF (zF (aJ (aJ (C.F_new (fun B13=>aV ?_))))))))))
    refine gQ Z_60 (Ht rfl) (Ht rfl) rfl (i:=3) rfl (aK rfl) rfl rfl (eX (cK (ts (ro rfl (cQ (cJ 1)) (eX (eG ?_))))))
    refine cI (fun (j : Nat) => 1 ≤ j ∧ j ≤ k) (fun (j : Nat) => k - j) (fun (j : Nat) => [(0, cH a), (1, cH b), (6, NT .i64 k), (8, NT .i64 m), (10, Is (.slice (some ⟨B39, 0, none⟩) n n)), (11, NT .i64 i), (12, NT .i64 c), (13, cA B13 0), (14, NT .i64 j), (41, NT .i64 n), (42, NT .i64 i), (45, NT .i64 m), (46, NT .i64 c)]) (fun (j : Nat) => [Z, He B39 25 60 5 (cO aE (kS (fun i => tab m fun c => Dw a b k i c) [] n i)) i v, bI 60 5 v ((tab c fun c => Dw a b k i c).map aE), box B13 60 [aI (decide ((aB j fun j => gm a i j * gm b j c).a < 0)), aS (aB j fun j => gm a i j * gm b j c).a.natAbs, aI (decide ((aB j fun j => gm a i j * gm b j c).b < 0)), aS (aB j fun j => gm a i j * gm b j c).b.natAbs, aS (du (aB j fun j => gm a i j * gm b j c))]]) 1 ⟨Nat.le_refl _, hk1⟩
     (zS rfl) (aU (fun _ _ _ h=>h) (aU (fun _ _ _ h=>h) (aU (fun _ _ _ h=>h) (aU (aD (by rw [De]; rfl)) aY)))) (fun j ⟨hj1,hj⟩=>?_)
    refine cK (ts (rm rfl (rm rfl (ro rfl (gX (Ht rfl) (Ht rfl)) (eX (dQ (Ht rfl) (fun hf=>?_) (fun hf=>?_)))))))
    ·simp only [decide_eq_true_eq] at hf
     haveI f3:aH (gm a i j) L:=hfa.get hL1 i j
     haveI f4:aH (gm b j c) M:=hfb.get hM1 j c
     haveI f5:aH (aB j fun j=>gm a i j * gm b j c) (8 * (L + M) + 17):=Ps hfa hfb hL1 hM1 zo i c
     have hbj:=hb.row (i:=j) zo
     refine cU (cK (eG (fZ (m:=18) (dp 13 rfl (eJ A_60 Z_60 (Ht rfl) (i:=3) rfl rfl rfl) (dq 68 0 rfl (bE bP (Ht rfl)) (dp 0 rfl (cX (Ht rfl)) (dp 11 rfl (cX (Ht rfl)) (dH 70 2 71 3 rfl (dZ U_26 Z_25 (Ht rfl) (Ht rfl) rfl (dY (dU (d:=[]) zo))) (dq 72 4 rfl (dJ A_25 Z_25 (Ht rfl)) (dp 14 rfl (cX (Ht rfl)) (dH 73 5 74 6 rfl (dZ U_25 Z_60 (Ht rfl) (Ht rfl) rfl (dY (dU (d:=Qi.zero) (by rw [har]; omega)))) ?_)))))))))))
     refine dq 75 7 rfl (dJ A_60 Z_60 (Ht rfl)) (dq 76 8 rfl (bE bP (Ht rfl)) (dp 1 rfl (cX (Ht rfl)) (dp 14 rfl (cX (Ht rfl)) (dH 78 10 79 11 rfl (dZ U_26 Z_25 (Ht rfl) (Ht rfl) rfl (dY (dU (d:=[]) zo))) (dq 80 12 rfl (dJ A_25 Z_25 (Ht rfl)) (dp 12 rfl (cX (Ht rfl)) (dH 81 13 82 14 rfl (dZ U_25 Z_60 (Ht rfl) (Ht rfl) rfl (dY (dU (d:=Qi.zero) (by rw [hbj]; omega)))) ?_)))))))
     refine dq 83 15 rfl (dJ A_60 Z_60 (Ht rfl)) (dH 77 9 84 16 rfl (aR dP K_70 (kY zo) (Ht rfl) ⟨(Ht rfl),trivial⟩) (fV bB rfl (by kernel_rfl) (zF (zF (zF (zF (aJ (aJ (aV (ro rfl (aR lF K_71 (sG zo) (Ht rfl) ⟨(Ht rfl),trivial⟩) (gQ Z_60 (Ht rfl) (Ht rfl) rfl (i:=3) rfl (aK rfl) rfl rfl (eX (bN ?_)))))))))))))
     refine cY (rm rfl (ro rfl (dV (Ht rfl) (cJ 1) z6) (ra rfl (eX (fU (j + 1) ⟨by omega,hf⟩ zo (zS rfl) (aU (fun _ _ _ h=>h) (aU (fun _ _ _ h=>h) (aU (fun _ _ _ h=>h) (aU (aD rfl) aY)))))))))
    ·simp only [decide_eq_false_iff_not] at hf
     obtain rfl:k = j:=Nat.le_antisymm zo hj
     refine gV rfl (Y.D_startA (m:=9) [] 8 2 rfl rfl (bY (Ei:=[(10,_)]) rfl rfl (bQ (bJ rfl rfl) bX) rfl rfl (dX rfl (cX (Ht rfl))) (bY (Ei:=[(11,_)]) rfl rfl (bQ (bJ rfl rfl) bX) rfl rfl (dX rfl (cX (Ht rfl))) (bY (Ei:=[(10,_)]) rfl rfl (bQ (bJ rfl rfl) bX) rfl rfl (dX rfl (cX (Ht rfl))) (bY (Ei:=[(11,_)]) rfl rfl (bQ (bJ rfl rfl) bX) rfl rfl (dX rfl (cX (Ht rfl))) (bY (Ei:=[(89,_),(90,_)]) rfl rfl (bQ (bZ 2 rfl rfl) (bQ (bZ 3 rfl rfl) bX)) rfl rfl (dX rfl (fY U_26 Z_25 (Ht rfl) (Ht rfl) rfl zo (by rw [Nat.mul_one,Nat.zero_add]))) ?_))))))
     refine bY (Ei:=[(91,_)]) rfl rfl (bQ (bZ 4 rfl rfl) bX) rfl rfl (dX rfl (lI A_25 Z_25 (Ht rfl) (j:=1) rfl)) (bY (Ei:=[(13,_)]) rfl rfl (bQ (bJ rfl rfl) bX) rfl rfl (dX rfl (eJ A_60 Z_60 (Ht rfl) (i:=3) rfl rfl rfl)) (bY (Ei:=[(93,_)]) rfl rfl (bQ (bZ 6 rfl rfl) bX) rfl rfl (dX rfl (eH (xs:=[.tmp 93]) U_25 Z_60 O_60 (cW (Ht rfl) cG) rfl rfl rfl)) (Y.D_app (Ei:=[(92,_),(94,_)]) rfl rfl rfl rfl (bQ (bZ 5 rfl rfl) (bQ (bZ 7 rfl rfl) bX)) rfl (Ay (inf:=Tryz.t60) jS gU rfl rfl rfl (Ht rfl) (Ht rfl) (by simp) (fun T hT=>by simp at hT; subst hT; exact El.ag rfl) (by show _ * 88 ≤ _; simp only [List.length_map,aF,List.length_cons,List.length_nil]; omega) (by simp only [List.length_map,aF,List.length_cons,List.length_nil]; omega)) ?_)))
     refine Y.D_done bB rfl (by kernel_rfl) rfl (by simp [Y.okP]) rfl rfl (bU (bU (bU (bU (bU (bU (bU (bU (Y.F_app (fun v2=>Y.F_nil ?_))))))))))
     refine ro rfl (fY U_26 Z_25 (Ht rfl) (Ht rfl) rfl zo (by rw [Nat.mul_one,Nat.zero_add])) ?_
     refine Bd Z_25 (Ht rfl) (Ht rfl) (by simp only [cO,List.length_map,dE]; omega) (j:=1) (l:=4) rfl rfl rfl ?_
     refine eX (bN (cY (ro rfl (dV (Ht rfl) (cJ 1) z6) (rm rfl (eX (cM [0,1,4] rfl (by decide) (fU (c + 1,v2) he (by dsimp only; omega) (zS rfl) (aU (fun _ _ _ h=>h) (aU (fun _ _ _ h=>h) (aU (aP ((Iz aE _ (Dw a b k i c)).trans (congrArg _ (lM c (fun c=>Dw a b k i c)).symm))) aY))))))))))
   ·simp only [decide_eq_false_iff_not] at he
    obtain rfl:m = c:=Nat.le_antisymm zo hc
    refine gV rfl (bN (kU 1 2 rfl rfl (by decide) (by simp only [cO,List.length_map,dE]; omega) ?_))
    refine cY (ro rfl (dV (Ht rfl) (cJ 1) z6) (rm rfl (eX (cM [0,1] rfl (by decide) (fU (i + 1) hd zo (zS rfl) (aU (fun _ _ _ h=>h) (aU (eB (by rw [lK,← jU (f:=(fun i=>tab m fun c=>Dw a b k i c))])) aY)))))))
  ·simp only [decide_eq_false_iff_not] at hd
   obtain rfl:n = i:=Nat.le_antisymm zo hi
   refine gV rfl (ts (rm rfl (ra rfl (ro rfl (cQ (cJ 0)) (eX ?_)))))
   exact kW B39 trivial [0,1] ⟨⟨_,rfl,fun _ _ _ h=>h⟩,⟨_,rfl,(eB (by rw [jT]; rfl))⟩,trivial⟩ (by decide) (a35 rfl (eU rfl) (eU rfl))
theorem Pc {a b:List (List Qi)} {n k m L M:Nat} (ha:cB a n k) (hb:cB b k m) (hfa:bA a L) (hfb:bA b M) (hL1:1 ≤ L) (hM1:1 ≤ M) (hL:L ≤ 900000000000) (hM:M ≤ 900000000000) (hn1:1 ≤ n ∨ k = 0) (hk1:1 ≤ k ∨ m = 0) (hn:n ≤ 8) (hk:k ≤ 8) (hm:m ≤ 8):bF Tryz.prog 141 [cH a,cH b] (eD [cH (gR a b n k m),aL .i64 0]):=(Wd ha hb hfa hfb hL1 hM1 hL hM hn1 hk1 hn hk hm).fun fun B _ v S V h1 h2=>a6Z h1 fun u hu=>qY (s:=5) (M:=gR a b n k m) (aF _ _).symm u S V hu h2
end
section
open Go Go.RowKit
theorem kO (v : Value) (w : World) : (method (Tryz.prog.types.size + Made.depth) 60 v "Div").run Tryz.prog w = .ok (64, v) w := by kernel_rfl
theorem lG (v : Value) (w : World) : (method (Tryz.prog.types.size + Made.depth) 60 v "Sub").run Tryz.prog w = .ok (69, v) w := by kernel_rfl
end
section
open Go Go.RowKit
theorem a1d {n:Nat} (h:n < 4294967296):bF Tryz.prog 282 [NT .u64 1,NT .u64 n] (eD [NT .u64 0,NT .u64 n]):=by
 refine bF.intro Tryz.func282 rfl Tryz.ntmps282 rfl (fun cx=>(ts (ro rfl (cQ (cJ 0)) (ro rfl (cQ (cJ 0)) (eX (ts (rm rfl (ro rfl (aM.nat (xG rfl (Ht rfl) (cJ 4294967295) z7 z7) (show (1:Nat) &&& 4294967295 = 1 by decide)) (ra rfl (eX (ts (rm rfl (ro rfl (aM.nat (jO (Ht rfl) (cJ 32) (by decide)) (show (1:Nat) / 2 ^ 32 = 0 by decide)) (ra rfl (eX (ts (rm rfl (ro rfl (aM.nat (xG rfl (Ht rfl) (cJ 4294967295) z7 z7) (show n &&& 4294967295 = n from (Nat.and_two_pow_sub_one_eq_mod n 32).trans (Nat.mod_eq_of_lt h))) ?_))))))))))))))))))
 refine ra rfl (eX (ts (rm rfl (ro rfl (aM.nat (jO (Ht rfl) (cJ 32) (by decide)) (show n / 2 ^ 32 = 0 from Nat.div_eq_of_lt h)) (ra rfl (eX (ts (rm rfl (rm rfl (ro rfl (aM.nat (pD (Ht rfl) (Ht rfl) z7) (Nat.one_mul n)) (ra rfl (eX (ts (rm rfl (rm rfl (ro rfl (aM.nat (pD (Ht rfl) (Ht rfl) z7) (Nat.zero_mul n)) (rm rfl (ro rfl (aM.nat (jO (Ht rfl) (cJ 32) (by decide)) (show n / 2 ^ 32 = 0 from Nat.div_eq_of_lt h)) ?_))))))))))))))))))
 refine ro rfl (dV (Ht rfl) (Ht rfl) z7) (ra rfl (eX (ts (rm rfl (ro rfl (aM.nat (xG rfl (Ht rfl) (cJ 4294967295) z7 z7) (show (0 + 0:Nat) &&& 4294967295 = 0 by decide)) (ra rfl (eX (ts (rm rfl (ro rfl (aM.nat (jO (Ht rfl) (cJ 32) (by decide)) (show (0 + 0:Nat) / 2 ^ 32 = 0 by decide)) (ra rfl (eX (ts (rm rfl (rm rfl (rm rfl ?_))))))))))))))))
 refine ro rfl (aM.nat (pD (Ht rfl) (Ht rfl) z7) (show (1 * 0:Nat) = 0 by decide)) (ro rfl (dV (Ht rfl) (Ht rfl) z7) (ra rfl (eX (ts (rm rfl (rm rfl (ro rfl (aM.nat (pD (Ht rfl) (Ht rfl) z7) (show (0 * 0:Nat) = 0 by decide)) (rm rfl (ro rfl (dV (Ht rfl) (Ht rfl) z7) ?_)))))))))
 refine rm rfl (ro rfl (aM.nat (jO (Ht rfl) (cJ 32) (by decide)) (show (0 + 0:Nat) / 2 ^ 32 = 0 by decide)) (ro rfl (dV (Ht rfl) (Ht rfl) z7) (ra rfl (eX (ts (rm rfl (rm rfl (ro rfl (aM.nat (pD (Ht rfl) (Ht rfl) z7) (Nat.one_mul n)) (ra rfl (eX (bL rfl (fX (eU rfl) ?_) (eU rfl))))))))))))
 exact (nB (by decide))
theorem a46 {n:Nat} (h:n < 4294967296):bF Tryz.prog 263 [NT .u64 1,NT .u64 n] (eD [NT .u64 0,NT .u64 n]):=by
 refine bF.intro Tryz.func263 rfl Tryz.ntmps263 rfl (fun cx=>(ts (ro rfl (cQ (cJ 0)) (ro rfl (cQ (cJ 0)) (eX (cK (dQ cV (fun hf=>?_) (fun hf=>?_))))))))
 ·exact absurd hf (by decide)
 ·refine cU (ts (rm rfl (rm rfl (ro rfl (cZ Tryz.call282 (a1d h) ⟨(Ht rfl), (Ht rfl), trivial⟩) (rm rfl (ro rfl (dK (Ht rfl) rfl) (ro rfl (dK (Ht rfl) rfl) (ra rfl (ra rfl (eX (ts (rm rfl (rm rfl (ra rfl (ra rfl (eX ?_))))))))))))))))
  exact bL rfl (eU rfl) (eU rfl)
theorem a43 {m:Nat} (h1:1 ≤ m) (hm:m ≤ 1000):iV Tryz.prog 229 [aN [Qi.zero],NT .i64 m] [] ({v:Value // yE v}) (fun v=>Is v.1) (fun v=>[bI 60 5 v.1 ((tab m fun _=>Qi.zero).map aE)]) (fun _=>True):=by
 refine iV.intro Tryz.func229 rfl Tryz.ntmps229 rfl (fun cx Z=>(ts (ro rfl (cQ cV) (eX (cK (ts (rm rfl (ro rfl (gX (Ht rfl) (cJ 0)) (eX (dQ (Ht rfl) (fun h0=>?_) (fun h0=>?_)))))))))))
 ·simp only [decide_eq_true_eq] at h0
  omega
 ·refine cU (ts (rm rfl (ro rfl (dG U_25 (Ht rfl) (show (([Qi.zero].map aE).length : Int) = ((1 : Nat) : Int) from rfl)) (ro rfl (gZ U_3 U_264 (Ht rfl) z7) (rm rfl (ro rfl (gZ U_3 U_264 (Ht rfl) z7) (ro rfl (cZ Tryz.call263 (a46 zo) ⟨(Ht rfl), (Ht rfl), trivial⟩) (rm rfl (ro rfl (dK (Ht rfl) rfl) (ro rfl (dK (Ht rfl) rfl) ?_))))))))))
  refine ra rfl (ra rfl (eX (cK (ts (rm rfl (ro rfl (jV (Ht rfl) (cJ 0)) (rm rfl (fQ rfl rfl (eK rfl rfl (Ht rfl) (fun h=>cX (Ht rfl))) (fQ rfl rfl (eK rfl rfl (Ht rfl) (fun h=>jV (fJ rfl h) (cJ 9223372036854775807))) (ro rfl (nD (Ht rfl) (fun h=>(fJ rfl h))) (eX (dQ (Ht rfl) (fun h2=>?_) (fun h2=>?_)))))))))))))
  ·simp only [Bool.or_eq_true, decide_eq_true_eq] at h2
   omega
  ·refine cU (ts (rm rfl (ro rfl (gZ U_264 U_3 (Ht rfl) z6) (a10 (T := aE Qi.zero) (i := Tryz.t60) jS gU rfl rfl (Ht rfl) rfl gF (El.ag rfl) (by show 88 * _ ≤ _; omega) zo rfl (fun B30 hB30 => (ra rfl (eX (ts (rm rfl (rm rfl (ro rfl (Zo (q := 1) (T := aE Qi.zero) U_25 Z_60 (i := 1) rfl (Ht rfl) (Ht rfl) (by decide) (El.ag rfl) zo) (ra rfl (eX (cK (eG ?_)))))))))))))))
   refine cI (fun (k : Nat) => 1 ≤ k ∧ k ≤ m) (fun (k : Nat) => m - k) (fun (k : Nat) => [(7, Is B30), (8, NT .i64 k)]) (fun (k : Nat) => [Z, bI 60 5 B30 (List.replicate m (aE Qi.zero))]) (Nat.min 1 m) ⟨by show 1 ≤ min 1 m; omega, by show min 1 m ≤ m; omega⟩
    (zS rfl) (eI.refl _) (fun k ⟨hk1,hk⟩=>?_)
   refine cK (ts (rm rfl (rm rfl (ro rfl (nW U_25 (Ht rfl) (i:=1) rfl (show ((List.replicate m (aE Qi.zero)).length:Int) = ((m:Nat):Int) by simp)) (ro rfl (gX (Ht rfl) (Ht rfl)) (eX (dQ (Ht rfl) (fun hd=>?_) (fun hd=>?_))))))))
   ·simp only [decide_eq_true_eq] at hd
    have hlen:(List.replicate m (aE Qi.zero)).length = m:=by simp
    have h5:Nat.min k ((List.replicate m (aE Qi.zero)).length - k) = min k (m - k):=by rw [hlen]
    refine cU (eG (fZ (m:=8) (dp 8 rfl (cX (Ht rfl)) (dp 7 rfl (cX (Ht rfl)) (dp 8 rfl (cX (Ht rfl)) (dH 39 1 40 2 rfl (Zu U_25 Z_60 (Ht rfl) (Ht rfl) rfl (i:=1) rfl (by rw [hlen]; exact hd)) ?_))))))
    refine dp 7 rfl (cX (Ht rfl)) (dp 8 rfl (cX (Ht rfl)) (dH 42 4 43 5 rfl (Zt U_25 Z_60 (Ht rfl) (Ht rfl) rfl (i:=1) rfl (by rw [hlen]; omega) (by rw [hlen]; omega)) ?_))
    refine dH 41 3 44 6 rfl (No (T:=aE Qi.zero) U_25 Z_60 (i:=1) rfl (Ht rfl) (Ht rfl)) (fV bB rfl (by kernel_rfl) (zF (zF (aV (ro rfl (dV (Ht rfl) (Ht rfl) (by show _ < 9223372036854775808; omega)) (ra rfl (eX (bN (fU (k + Nat.min k ((List.replicate m (aE Qi.zero)).length - k)) ⟨by omega,by omega⟩ zo (zS rfl) (eI.refl _))))))))))
   ·refine gV rfl (ts (rm rfl (ra rfl (eX ?_))))
    exact kW ⟨B30,hB30⟩ trivial [0,1] ⟨⟨_,rfl,fun _ _ _ h=>h⟩,⟨_,rfl,(aP (by rw [rJ,xO]))⟩,trivial⟩ (by decide) (xP rfl (eU rfl))
end
section
open Go Go.RowKit
theorem a1a {n : Nat} {E : cP} {H : Hp} {d : Option Tmp} {t : TypeId} {pos : String} {af : Array Edge} {g : Option (Nat × Bool)}  :
  aM Tryz.prog n E H ⟨d,.build 48 #[],t,pos,af,g⟩ (fS [Is (.int .i64 0),Is (.int .i64 0),Is (.int .i64 0)]) :=
 kD (parts := []) fun a V w hs => by
  refine ⟨.agg #[(.int .i64 0),(.int .i64 0),(.int .i64 0)],?_,[(.int .i64 0),(.int .i64 0),(.int .i64 0)],rfl,aW (⟨rfl,trivial⟩) (aW (⟨rfl,trivial⟩) (aW (⟨rfl,trivial⟩) (aG)))⟩
  simp [Instr.build,Instr.fill,Sem.run_bind,Result.andThen,iW,O_48,U_48,Z_2]
theorem Jb {n : Nat} {E : cP} {H : Hp} {d : Option Tmp} {t : TypeId} {pos : String} {af : Array Edge} {g : Option (Nat × Bool)} {x0 : Operand} {T0 : Ty} [s0 : dF T0 1 false] (h0 : bC E x0 T0) :
  aM Tryz.prog n E H ⟨d,.build 48 #[(0,x0)],t,pos,af,g⟩ (fS [T0,Is (.int .i64 0),Is (.int .i64 0)]) :=
 kD (parts := [(0, x0)]) fun a V w hs => by
  have p0:=h0 n V a hs
  generalize e0:a.eval x0 = v0 at p0
  have q0:=(s0.ok v0 V p0).2.2 rfl
  refine ⟨.agg #[v0,(.int .i64 0),(.int .i64 0)],?_,[v0,(.int .i64 0),(.int .i64 0)],rfl,aW (⟨p0,q0⟩) (aW (⟨rfl,trivial⟩) (aW (⟨rfl,trivial⟩) (aG)))⟩
  simp [e0,Instr.build,Instr.fill,Sem.run_bind,Result.andThen,iW,q0.cells,O_48,U_48,Z_2]
theorem uW {n : Nat} {E : cP} {H : Hp} {d : Option Tmp} {t : TypeId} {pos : String} {af : Array Edge} {g : Option (Nat × Bool)} {x0 x2 : Operand} {T0 T2 : Ty} [s0 : dF T0 1 false] (h0 : bC E x0 T0) [s2 : dF T2 1 false] (h2 : bC E x2 T2) :
  aM Tryz.prog n E H ⟨d,.build 48 #[(0,x0),(2,x2)],t,pos,af,g⟩ (fS [T0,Is (.int .i64 0),T2]) :=
 kD (parts := [(0, x0), (2, x2)]) fun a V w hs => by
  have p0:=h0 n V a hs
  generalize e0:a.eval x0 = v0 at p0
  have q0:=(s0.ok v0 V p0).2.2 rfl
  have p2:=h2 n V a hs
  generalize e2:a.eval x2 = v2 at p2
  have q2:=(s2.ok v2 V p2).2.2 rfl
  refine ⟨.agg #[v0,(.int .i64 0),v2],?_,[v0,(.int .i64 0),v2],rfl,aW (⟨p0,q0⟩) (aW (⟨rfl,trivial⟩) (aW (⟨p2,q2⟩) (aG)))⟩
  simp [e0,e2,Instr.build,Instr.fill,Sem.run_bind,Result.andThen,iW,q0.cells,q2.cells,O_48,U_48,Z_2]
end
section
open Go Go.RowKit
theorem mQ (n m:Nat):cB (fB n m) n m:=cB.tab
theorem Uy {n m L:Nat} (h:1 ≤ L):bA (fB n m) L:=bA.tab fun _ _ _ _=>aH.zero h
theorem Qi.zero_div (y:Qi):Qi.zero / y = Qi.zero:=by rw [Qi.div_def,Qi.zero_mul']
theorem a5e {x:Qi} (h:eS x = true):x.im = 0 ∧ x.re ≠ 0:=by
 simp only [eS,decide_eq_true_eq] at h
 exact ⟨Qi.b_zero.1 h.1,fun e=>by have:=Qi.a_zero.2 e; omega⟩
end
section
open Go Go.RowKit
theorem a1T {α:Type} {l:List α} {d:α} {k:Nat} (h:k < l.length):l.getD k d = l[k]:=by simp [List.getD,h]
end
section
open Go Go.RowKit
namespace Qi
theorem Vm {x:Qi}:0 ≤ x.a ↔ 0 ≤ x.re:=by
 have hk:0 < x.den / x.re.den:=Nat.div_pos (Nat.le_of_dvd x.den_pos (Nat.dvd_lcm_left _ _)) x.re.den_pos
 rw [← Rat.num_nonneg]
 show 0 ≤ x.re.num * ((x.den / x.re.den:Nat):Int) ↔ _
 generalize x.den / x.re.den = k at hk
 constructor
 ·intro h
  exact Int.nonneg_of_mul_nonneg_left h zo
 ·intro h; exact Int.mul_nonneg h zo
theorem a_pos {x:Qi}:0 < x.a ↔ 0 < x.re:=by
 have h1:=@Vm x; have h2:=@a_zero x
 constructor
 ·intro h
  have h3:0 ≤ x.re:=h1.1 zo
  have h4:x.re ≠ 0:=fun e=>by have:=h2.2 e; omega
  exact Rat.lt_of_le_of_ne h3 (Ne.symm h4)
 ·intro h
  have h3:0 ≤ x.a:=h1.2 (by grind)
  have h4:x.a ≠ 0:=fun e=>by have:=h2.1 e; grind
  omega
end Qi
def jZ (f : Nat → Int) : Nat → Int
 | 0=>0
 | n + 1=>if jZ f n ≠ 0 then jZ f n else f n
theorem tS {f:Nat → Int} {k:Nat} (h:∀ i,i < k → f i = 0) (hk:f k ≠ 0):∀ {n:Nat},k < n → jZ f n = f k:=by
 have hz : jZ f k = 0 := by
  clear hk
  induction k with
  | zero=>rfl
  | succ k ih=>rw [jZ,ih (fun i hi=>h i zo),if_neg (by simp),h k zo]
 intro n
 induction n with
 | zero=>intro h; omega
 | succ n ih =>
  intro hn
  by_cases e:n = k
  ·rw [e,jZ,hz,if_neg (by simp)]
  ·rw [jZ,ih zo,if_pos hk]
theorem gL {f : Nat → Int} : ∀ {n : Nat}, (∀ i, i < n → f i = 0) → jZ f n = 0
 | 0,_=>rfl
 | n + 1,h=>by rw [jZ,gL (fun i hi=>h i zo),if_neg (by simp),h n zo]
theorem gM {f : Nat → Int} : ∀ {n : Nat}, jZ f n = 0 → ∀ i, i < n → f i = 0
 | 0,_,i,hi=>by omega
 | n + 1, h, i, hi => by
  rw [jZ] at h
  split at h
  ·rename_i c; exact absurd h c
  ·rename_i c
   by_cases e:i = n
   ·rw [e]; exact h
   ·exact gM (Decidable.not_not.1 c) i zo
abbrev eF (l:List (Qi × Qi)) (i:Nat):Qi:=(l.getD i (Qi.zero,Qi.zero)).1
abbrev eV (l:List (Qi × Qi)) (i:Nat):Qi:=(l.getD i (Qi.zero,Qi.zero)).2
structure a3m (l:List (Qi × Qi)) (f:Qi):Prop where
 real:∀ i,i < l.length → (eF l i).b = 0 ∧ (eV l i).b = 0
 up:∀ i,0 < i → i < l.length → (eF l (i - 1)).re < (eF l i).re
 fr:f.b = 0
theorem a5c {x:Qi} (h:eS x = true):x.b = 0:=by simp only [eS,decide_eq_true_eq] at h; exact h.1
theorem a3m.mono {l : List (Qi × Qi)} {f : Qi} (h : a3m l f) {i : Nat} : ∀ {j : Nat}, i < j → j < l.length → (eF l i).re < (eF l j).re
 | 0,h1,_=>by omega
 | j + 1, h1, h2 => by
  have h3:=h.up (j + 1) zo h2
  rw [Nat.add_sub_cancel] at h3
  by_cases e:i = j
  ·rw [e]; exact h3
  ·have := h.mono (i := i) (j := j) zo zo
   grind
def a5N (l:List (Qi × Qi)) (L:Nat):Prop:=∀ e,e ∈ l → aH e.1 L ∧ aH e.2 L
theorem a5N.get {l:List (Qi × Qi)} {L:Nat} (h:a5N l L) (hL:1 ≤ L) (i:Nat):aH (eF l i) L ∧ aH (eV l i) L:=by
 by_cases hi:i < l.length
 ·have e : l.getD i (Qi.zero, Qi.zero) = l[i] := by simp [List.getD, hi]
  show aH (l.getD i _).1 L ∧ aH (l.getD i _).2 L
  rw [e]; exact h _ (List.getElem_mem hi)
 ·have e : l.getD i (Qi.zero, Qi.zero) = (Qi.zero, Qi.zero) := by simp [List.getD, List.getElem?_eq_none (Nat.le_of_not_lt hi)]
  show aH (l.getD i _).1 L ∧ aH (l.getD i _).2 L
  rw [e]; exact ⟨aH.zero hL,aH.zero hL⟩
end
section
open Go Go.RowKit
abbrev eE (M:List (List Qi)) (i:Nat):List Qi:=M.getD i []
def Vb (M : List (List Qi)) (c n : Nat) : Nat → Nat
 | 0=>n
 | k + 1=>if gm M (n - (k + 1)) c = Qi.zero then Vb M c n k else n - (k + 1)
def pv (M:List (List Qi)) (c n:Nat):Nat:=Vb M c n (n - c)
theorem Kv {M : List (List Qi)} {c n : Nat} : ∀ {k : Nat}, k ≤ n → (∀ r, n - k ≤ r → r < Vb M c n k → gm M r c = Qi.zero) ∧ n - k ≤ Vb M c n k ∧ Vb M c n k ≤ n ∧ (Vb M c n k < n → gm M (Vb M c n k) c ≠ Qi.zero)
 | 0,_=>⟨fun r h1 h2=>by simp [Vb] at h2; omega,by simp [Vb],by simp [Vb],fun h=>by simp [Vb] at h⟩
 | k + 1, hk => by
  obtain ⟨i1,i2,i3,i4⟩:=Kv (M:=M) (c:=c) (n:=n) (k:=k) zo
  unfold Vb
  by_cases e:gm M (n - (k + 1)) c = Qi.zero
  ·rw [if_pos e]
   refine ⟨fun r h1 h2=>?_,by omega,i3,i4⟩
   by_cases e2:r = n - (k + 1)
   ·rw [e2]; exact e
   ·exact i1 r zo h2
  ·rw [if_neg e]
   exact ⟨fun r h1 h2=>by omega,Nat.le_refl _,by omega,fun _=>e⟩
theorem nX {M:List (List Qi)} {c n:Nat} (hc:c ≤ n):(∀ r,c ≤ r → r < pv M c n → gm M r c = Qi.zero) ∧ c ≤ pv M c n ∧ pv M c n ≤ n ∧ (pv M c n < n → gm M (pv M c n) c ≠ Qi.zero):=by
 have h:=Kv (M:=M) (c:=c) (n:=n) (k:=n - c) zo
 rw [show n - (n - c) = c by omega] at h
 exact h
theorem a6q {M:List (List Qi)} {c n p:Nat} (hc:c ≤ p) (hp:p ≤ n) (h1:∀ r,c ≤ r → r < p → gm M r c = Qi.zero) (h2:p < n → gm M p c ≠ Qi.zero):pv M c n = p:=by
 obtain ⟨i1,i2,i3,i4⟩:=nX (M:=M) (n:=n) (show c ≤ n by omega)
 rcases Nat.lt_trichotomy (pv M c n) p with h | h | h
 ·exact absurd (h1 _ i2 h) (i4 zo)
 ·exact h
 ·exact absurd (i1 p hc h) (h2 zo)
def lY (rr rc:List Qi) (c k:Nat):List Qi:=tab rr.length fun j=>if c < j ∧ j < k then gv rr j - gv rr c / gv rc c * gv rc j else gv rr j
def redM (M:List (List Qi)) (c r:Nat):List (List Qi):=tab M.length fun i=>if c < i ∧ i < r then lY (eE M i) (eE M c) c (eE M i).length else eE M i
def cE (M : List (List Qi)) : Nat → List (List Qi) × Nat × Int
 | 0=>(M,0,-1)
 | c + 1 =>
  let s:=cE M c
  if 0 ≤ s.2.2 then s else
  if pv s.1 c M.length = M.length then (s.1,s.2.1,(c:Int)) else
  (redM (if pv s.1 c M.length = c then s.1 else swp [] s.1 (pv s.1 c M.length) c) c M.length,s.2.1 + (if pv s.1 c M.length = c then 0 else 1),-1)
theorem Ev {M : List (List Qi)} {c : Nat} (h : 0 ≤ (cE M c).2.2) : ∀ {d : Nat}, c ≤ d → cE M d = cE M c
 | 0,hd=>by rw [show c = 0 by omega]
 | d + 1, hd => by
  by_cases e:c = d + 1
  ·rw [e]
  ·have := Ev h (d := d) zo
   simp only [cE,this]
   rw [if_pos h]
theorem tE (M:List (List Qi)) (c r:Nat):(redM M c r).length = M.length:=aF _ _
theorem La {M:List (List Qi)} {n m c r:Nat} (h:cB M n m):cB (redM M c r) n m:=by
 refine ⟨(tE _ _ _).trans h.1,fun x hx=>?_⟩
 obtain ⟨i,hi,rfl⟩:=dN.1 hx
 have hr:=h.row (i:=i) (by rw [← h.1]; exact hi)
 show (if c < i ∧ i < r then lY (eE M i) (eE M c) c (eE M i).length else eE M i).length = m
 split
 ·rw [lY,aF]; exact hr
 ·exact hr
theorem Aw {M:List (List Qi)} {n m p c:Nat} (h:cB M n m) (hp:p < n) (hc:c < n):cB (swp [] M p c) n m:=by
 refine ⟨(Av _ _ _ _).trans h.1,fun x hx=>?_⟩
 unfold swp at hx
 rcases List.mem_or_eq_of_mem_set hx with h1 | h1
 ·rcases List.mem_or_eq_of_mem_set h1 with h2 | h2
  ·exact h.2 x h2
  ·rw [h2]; exact h.row hc
 ·rw [h1]; exact h.row hp
theorem pQ {M : List (List Qi)} {n m : Nat} (h : cB M n m) : ∀ {c : Nat}, c ≤ n → cB (cE M c).1 n m
 | 0,_=>h
 | c + 1, hc => by
  have ih:=pQ h (c:=c) zo
  obtain ⟨_,_,i3,_⟩:=nX (M:=(cE M c).1) (c:=c) (n:=M.length) (by rw [h.1]; omega)
  simp only [cE]
  split
  ·exact ih
  ·split
   ·exact ih
   ·rename_i e
    apply La
    split
    ·exact ih
    ·exact Aw ih (by rw [← h.1]; omega) zo
def jQ (L : Nat) : Nat → Nat
 | 0=>L
 | c + 1=>6 * jQ L c + 4
theorem mO (L : Nat) : ∀ {c d : Nat}, c ≤ d → jQ L c ≤ jQ L d
 | c,0,h=>by rw [show c = 0 by omega]; exact Nat.le_refl _
 | c, d + 1, h => by
  by_cases e:c = d + 1
  ·rw [e]; exact Nat.le_refl _
  ·have := mO L (c := c) (d := d) zo
   simp only [jQ]; omega
theorem qH (L c:Nat):L ≤ jQ L c:=mO L (Nat.zero_le c)
theorem Pu {rr rc:List Qi} {L c j:Nat} (h1:bH rr L) (h2:bH rc L) (hL:1 ≤ L) (hp:gv rc c ≠ Qi.zero):aH (gv rr j - gv rr c / gv rc c * gv rc j) (6 * L + 4):=by
 haveI f1:=h1.get hL j; haveI f2:=h1.get hL c; haveI f3:=h2.get hL c; haveI f4:=h2.get hL j
 haveI g:aH (gv rr c / gv rc c) (L + 3 * L + 2):=⟨f2.fit.div f3.fit hp⟩
 have:aH (gv rr j - gv rr c / gv rc c * gv rc j) (L + (L + 3 * L + 2 + L + 1) + 1):=inferInstance
 exact this.le zo
theorem a0n {rr rc : List Qi} {L c k : Nat} (h1 : bH rr L) (h2 : bH rc L) (hL : 1 ≤ L) (hp : gv rc c ≠ Qi.zero) : bH (lY rr rc c k) (6 * L + 4) := bH.tab fun j _ => by
 split
 ·exact Pu h1 h2 hL hp
 ·exact (h1.get hL j).le zo
theorem Kz {M : List (List Qi)} {L c r : Nat} (h : bA M L) (hL : 1 ≤ L) (hp : gm M c c ≠ Qi.zero) : bA (redM M c r) (6 * L + 4) := fun x hx => by
 obtain ⟨i,hi,rfl⟩:=dN.1 hx
 show bH (if c < i ∧ i < r then lY (eE M i) (eE M c) c (eE M i).length else eE M i) _
 split
 ·exact a0n (h.row i) (h.row c) hL hp
 ·exact (h.row i).le zo
theorem Il {M : List (List Qi)} {L p c : Nat} (h : bA M L) : bA (swp [] M p c) L := fun x hx => by
 unfold swp at hx
 rcases List.mem_or_eq_of_mem_set hx with h1 | h1
 ·rcases List.mem_or_eq_of_mem_set h1 with h2 | h2
  ·exact h x h2
  ·rw [h2]; exact h.row c
 ·rw [h1]; exact h.row p
theorem yR {M:List (List Qi)} {p c:Nat} (hc:c < M.length):eE (swp [] M p c) c = eE M p:=by
 simp [eE,swp,List.getD,hc]
theorem Br {M : List (List Qi)} {n m L : Nat} (hs : cB M n m) (h : bA M L) (hL : 1 ≤ L) : ∀ {c : Nat}, c ≤ n → bA (cE M c).1 (jQ L c)
 | 0,_=>h
 | c + 1, hc => by
  have ih:=Br hs h hL (c:=c) zo
  have hg:1 ≤ jQ L c:=Nat.le_trans hL (qH L c)
  have sh:=pQ hs (c:=c) zo
  obtain ⟨_,i2,i3,i4⟩:=nX (M:=(cE M c).1) (c:=c) (n:=M.length) (by rw [hs.1]; omega)
  simp only [cE,jQ]
  split
  ·exact ih.le zo
  ·split
   ·exact ih.le zo
   ·rename_i e
    split
    ·rename_i e2
     refine Kz ih hg ?_
     have:=i4 zo
     rw [e2] at this; exact this
    ·refine Kz (Il ih) hg ?_
     show gv (eE (swp [] _ _ c) c) c ≠ _
     rw [yR (by rw [sh.1]; omega)]
     exact i4 zo
theorem Nw {rr rc:List Qi} {c:Nat}:rr = lY rr rc c (c + 1):=by
 unfold lY
 have:(tab rr.length fun j=>if c < j ∧ j < c + 1 then gv rr j - gv rr c / gv rc c * gv rc j else gv rr j) = tab rr.length (gv rr):=bT fun j _=>by rw [if_neg zo]
 rw [this]; exact Kh rfl
theorem xN (rr rc:List Qi) (c k:Nat):(lY rr rc c k).length = rr.length:=aF _ _
theorem Lb {rr rc:List Qi} {c k:Nat} (hk:k < rr.length) (h:c < k):gv (lY rr rc c k) k = gv rr k:=by
 rw [lY,fC hk,if_neg zo]
theorem Uh {rr rc:List Qi} {c k:Nat} (hk:k < rr.length) (h:c < k):(lY rr rc c k).set k (gv (lY rr rc c k) k - gv rr c / gv rc c * gv rc k) = lY rr rc c (k + 1):=by
 rw [Lb hk h]
 apply List.ext_getElem?
 intro j
 by_cases hj:j < rr.length
 ·by_cases e : j = k
  ·subst e
   rw [List.getElem?_set_self (by rw [xN]; exact hj),lY,bR hj,if_pos zo]
  ·rw [List.getElem?_set_ne (Ne.symm e), lY, lY, bR hj, bR hj]
   by_cases e2:c < j ∧ j < k
   ·rw [if_pos e2,if_pos zo]
   ·rw [if_neg e2,if_neg zo]
 ·rw [List.getElem?_eq_none (by rw [List.length_set,xN]; omega),List.getElem?_eq_none (by rw [xN]; omega)]
theorem Nv {M:List (List Qi)} {c:Nat}:M = redM M c (c + 1):=by
 unfold redM
 have:(tab M.length fun i=>if c < i ∧ i < c + 1 then lY (eE M i) (eE M c) c (eE M i).length else eE M i) = tab M.length (eE M):=bT fun i _=>by rw [if_neg zo]
 rw [this]; exact Im (h:=rfl)
theorem xM {M:List (List Qi)} {c r i:Nat} (hi:i < M.length) (h:¬ (c < i ∧ i < r)):eE (redM M c r) i = eE M i:=by
 simp only [eE,redM,List.getD]
 rw [bR hi,if_neg h]; rfl
theorem Ug {M:List (List Qi)} {c r:Nat} (hr:r < M.length) (h:c < r):(redM M c r).set r (lY (eE M r) (eE M c) c (eE M r).length) = redM M c (r + 1):=by
 apply List.ext_getElem?
 intro j
 by_cases hj:j < M.length
 ·by_cases e : j = r
  ·subst e
   rw [List.getElem?_set_self (by rw [tE]; exact hj),redM,bR hj,if_pos zo]
  ·rw [List.getElem?_set_ne (Ne.symm e), redM, redM, bR hj, bR hj]
   by_cases e2:c < j ∧ j < r
   ·rw [if_pos e2,if_pos zo]
   ·rw [if_neg e2,if_neg zo]
 ·rw [List.getElem?_eq_none (by rw [List.length_set,tE]; omega),List.getElem?_eq_none (by rw [tE]; omega)]
theorem a0t {M:List (List Qi)} {r:Nat} {x y:List Qi}:(M.set r x).set r y = M.set r y:=List.set_set ..
theorem Db {M:List (List Qi)} {r:Nat} {x:List Qi} (h:r < M.length):eE (M.set r x) r = x:=by simp [eE,List.getD,h]
theorem uC {M:List (List Qi)} {r i:Nat} {x:List Qi} (h:r ≠ i):eE (M.set r x) i = eE M i:=by simp [eE,List.getD,List.getElem?_set_ne h]
theorem a5n {M:List (List Qi)} {r:Nat} (h:r < M.length):M.set r (eE M r) = M:=by
 apply List.ext_getElem?
 intro j
 by_cases e:j = r
 ·subst e; rw [List.getElem?_set_self h]; simp [eE,List.getD,h]
 ·rw [List.getElem?_set_ne (Ne.symm e)]
theorem a0E {X : List (List Qi)} {r c k : Nat} (hr : r < X.length) (hne : r ≠ c) (hk : k < (eE X r).length) (hck : c < k) :
  (X.set r (lY (eE X r) (eE X c) c k)).set r ((eE (X.set r (lY (eE X r) (eE X c) c k)) r).set k (gm (X.set r (lY (eE X r) (eE X c) c k)) r k - gm X r c / gm X c c * gm (X.set r (lY (eE X r) (eE X c) c k)) c k)) = X.set r (lY (eE X r) (eE X c) c (k + 1)):=by
 rw [a0t,Db hr]
 have e1:gm (X.set r (lY (eE X r) (eE X c) c k)) r k = gv (lY (eE X r) (eE X c) c k) k:=by show gv (eE (X.set r _) r) k = _; rw [Db hr]
 have e2:gm (X.set r (lY (eE X r) (eE X c) c k)) c k = gv (eE X c) k:=by show gv (eE (X.set r _) c) k = _; rw [uC hne]
 rw [e1,e2]
 exact congrArg _ (Uh hk hck)
theorem a0F {D:List (List Qi)} {r c:Nat} (hr:r < D.length) (hc:c < r):(redM D c r).set r (lY (eE (redM D c r) r) (eE (redM D c r) c) c (eE D r).length) = redM D c (r + 1):=by
 rw [xM hr zo,xM zo zo]
 exact Ug hr hc
theorem a66 {X:List (List Qi)} {r c k:Nat} (hr:r < X.length) (hk:k < (eE X r).length) (hck:c < k):gm (X.set r (lY (eE X r) (eE X c) c k)) r k = gv (eE X r) k:=by
 show gv (eE (X.set r _) r) k = _; rw [Db hr,Lb hk hck]
theorem a65 {X:List (List Qi)} {r c k:Nat} {y:List Qi} (hne:r ≠ c):gm (X.set r y) c k = gv (eE X c) k:=by show gv (eE (X.set r _) c) k = _; rw [uC hne]
theorem Sz {M A:List (List Qi)} {n c sw p:Nat} (hl:M.length = n) (h:cE M c = (A,sw,-1)) (hp:pv A c n = p) (hpn:p < n):cE M (c + 1) = (redM (if p = c then A else swp [] A p c) c n,sw + (if p = c then 0 else 1),-1):=by
 simp only [cE,h,hl,hp]
 rw [if_neg (by decide),if_neg zo]
theorem Xn {M A:List (List Qi)} {n c sw:Nat} (hl:M.length = n) (h:cE M c = (A,sw,-1)) (hp:pv A c n = n) (hc:c < n):cE M n = (A,sw,(c:Int)):=by
 have e : cE M (c + 1) = (A, sw, (c : Int)) := by
  simp only [cE,h,hl,hp]
  rw [if_neg (by decide)]; simp
 rw [Ev (c:=c + 1) (by rw [e]; show (0:Int) ≤ (c:Int); omega) hc,e]
end
section
open Go Go.RowKit
theorem Dz (v : Value) (w : World) : (method (Tryz.prog.types.size + Made.depth) 60 v "Clear").run Tryz.prog w = .ok (82, v) w := by kernel_rfl
end
section
open Go Go.RowKit
theorem a1k {M:List (List Qi)} {n m G B:Nat} (hs:cB M n m) (hstg:∀ c,c ≤ n → bA (cE M c).1 G) (hG1:1 ≤ G) (hg:6 * G + 4 ≤ 17592186044415) (hnm:n ≤ m) (hm:m ≤ 1000):iV Tryz.prog 221 [Is (.slice (some ⟨B,0,none⟩) n n)] [oE B 25 60 5 (cO aE M)] (Unit) (fun _=>eD [NT .i64 (cE M n).2.1,aL .i64 (cE M n).2.2]) (fun _=>[oE B 25 60 5 (cO aE (cE M n).1)]) (fun _=>True):=by
 have hs1:=hs.1
 refine iV.intro Tryz.func221 rfl Tryz.ntmps221 rfl (fun cx Z=>(ts (ro rfl (cQ (cJ 0)) (ro rfl (cQ (cJ 0)) (eX (ts (ro rfl (cQ (cJ 0)) (eX (cK (ts (rm rfl (ro rfl (jB U_26 (Ht rfl)) (ro rfl (cX (cJ 0)) (eX (eG (Fy 1 rfl (fun vs hvs=>?_)))))))))))))))))
 have hvs2:Hds vs n:=by have h:=hvs; rw [List.length_map,hs1] at h; exact h
 refine Fx (fun (c : Nat) (sw : Nat) (vs : List Value) (A : List (List Qi)) => (c ≤ n ∧ sw ≤ c) ∧ cE M c = (A, sw, -1) ∧ Hds vs n) (fun (c : Nat) (sw : Nat) (vs : List Value) (A : List (List Qi)) => n - c) (fun (c : Nat) (sw : Nat) (vs : List Value) (A : List (List Qi)) => [(0, Is (.slice (some ⟨B, 0, none⟩) n n)), (4, NT .i64 sw), (12, NT .i64 n), (13, NT .i64 c)]) (fun (c : Nat) (sw : Nat) (vs : List Value) (A : List (List Qi)) => [Z, jL B 25 60 5 vs vs (cO aE A)]) 0 0 vs M ⟨⟨Nat.zero_le _, Nat.le_refl _⟩, rfl, hvs2⟩
  (zS rfl) (eI.refl _) (fun c sw vs A ⟨⟨hc,hsw⟩,hA,hvs⟩=>?_)
 refine ts (ro rfl (gX (Ht rfl) (Ht rfl)) (eX (cK (dQ (Ht rfl) (fun hcn=>?_) (fun hcn=>?_)))))
 ·simp only [decide_eq_true_eq] at hcn
  have hvl:=hvs.len
  have hAs:cB A n m:=by have h:=pQ hs hc; rw [hA] at h; exact h
  have hAf:bA A G:=by have h:=hstg c hc; rw [hA] at h; exact h
  have hAl:=hAs.1
  refine cU (cK (eG (ts (rm rfl (ra rfl (eX (ts (rm rfl (ra rfl (eX (cK (eG ?_))))))))))))
  refine cI (fun (p : Nat) => (c ≤ p ∧ p ≤ n) ∧ ∀ r, c ≤ r → r < p → gm A r c = Qi.zero) (fun (p : Nat) => n - p) (fun (p : Nat) => [(0, Is (.slice (some ⟨B, 0, none⟩) n n)), (4, NT .i64 sw), (5, NT .i64 c), (6, NT .i64 p), (12, NT .i64 n), (13, NT .i64 c)]) (fun (p : Nat) => [Z, jL B 25 60 5 vs vs (cO aE A)]) c ⟨⟨Nat.le_refl _, hc⟩, fun r h1 h2 => by omega⟩
   (zS rfl) (eI.refl _) (fun p ⟨⟨hcp,hpn⟩,hz⟩=>?_)
  haveI fp:aH (gm A p c) G:=hAf.get hG1 p c
  refine cK (ts (rm rfl (rm rfl (ro rfl (jB U_26 (Ht rfl)) (ro rfl (gX (Ht rfl) (Ht rfl)) (rm rfl (fQ rfl rfl (eK rfl rfl (Ht rfl) (fun h=>cX (Ht rfl))) (fQ rfl rfl (eK rfl rfl (Ht rfl) (fun h=>cX (Ht rfl))) (fQ rfl rfl (eK rfl rfl (Ht rfl) (fun h=>fY U_26 Z_25 (fJ rfl h) (fJ rfl h) rfl (by first | omega | (simp at h; omega)) (by rw [Nat.mul_one,Nat.zero_add]))) ?_)))))))))
  refine fQ rfl rfl (eK rfl rfl (Ht rfl) (fun h=>fI A_25 Z_25 (fJ rfl h) (j:=1) rfl (by simp at h; omega))) ?_
  refine fQ rfl rfl (eK rfl rfl (Ht rfl) (fun h=>cX (Ht rfl))) (fQ rfl rfl (eK rfl rfl (Ht rfl) (fun h=>gP U_25 Z_60 (fJ rfl h) (fJ rfl h) rfl (j:=1) rfl zo (by simp at h; omega) (by simp at h; rw [hAs.row h]; omega))) ?_)
  refine fQ rfl rfl (eK rfl rfl (Ht rfl) (fun h=>kG A_60 Z_60 (fJ rfl h) (j:=1) rfl zo (by simp at h; omega) (by simp at h; rw [hAs.row h]; omega))) ?_
  refine fQ rfl rfl (eK rfl rfl (Ht rfl) (fun h=>bE bP (fJ rfl h))) (fQ rfl rfl (eK rfl rfl (Ht rfl) (fun h=>aR Dz K_82 (tP (x:=gm A p c) (L:=G) zo) (fJ rfl h) trivial)) (fQ rfl rfl (eK rfl rfl (Ht rfl) (fun h=>gG (fJ rfl h))) (ro rfl (gS (Ht rfl) (fun h=>(fJ rfl h))) (eX (dQ (Ht rfl) (fun he=>?_) (fun he=>?_))))))
  ·have he2 : p < n ∧ gm A p c = Qi.zero := by simpa using he
   refine cU (eG (cY (rm rfl (ro rfl (dV (Ht rfl) (cJ 1) z6) (ra rfl (eX (bN ?_)))))))
   refine fU (p + 1) ⟨⟨by omega, by omega⟩, fun r h1 h2 => by
     by_cases e:r = p
     ·rw [e]; exact he2.2
     ·exact hz r h1 zo⟩ zo (zS rfl) (eI.refl _)
  ·have hpv : pv A c n = p := a6q hcp hpn hz (fun h => by simp at he; exact he h)
   refine gV rfl (cK (ts (rm rfl (rm rfl (ro rfl (jB U_26 (Ht rfl)) (ro rfl (eC (Ht rfl) (Ht rfl)) (eX (dQ (Ht rfl) (fun hp=>?_) (fun hp=>?_)))))))))
   ·have hp2 : p = n := by simpa using hp
    have hend:=Xn hs1 hA (by rw [hpv]; exact hp2) hcn
    refine ts (rm rfl (rm rfl (ra rfl (ra rfl (eX ?_)))))
    exact kW () trivial [0,1] ⟨⟨_,rfl,fun _ _ _ h=>h⟩,⟨_,rfl,(fun S w V h=>eB (by rw [hend]) S w V (Ck (by rw [List.length_map]; omega) S w V h))⟩,trivial⟩ (by decide) (a35 rfl (fX (eU rfl) (nB (by rw [hend]))) (fX (eU rfl) (aT (by rw [hend]))))
   ·have hp2 : p < n := by simp at hp; omega
    have hpz:=(nX (M:=A) (c:=c) (n:=n) hc).2.2.2 (by rw [hpv]; exact hp2)
    rw [hpv] at hpz
    have hnx:=Sz hs1 hA hpv hp2
    refine cU (cK (a14 (fun (q:Nat) (us:List Value) (D:List (List Qi))=>(q = sw + (if p = c then 0 else 1) ∧ D = (if p = c then A else swp [] A p c)) ∧ Hds us n) (fun (q:Nat) (us:List Value) (D:List (List Qi))=>[(0,Is (.slice (some ⟨B,0,none⟩) n n)),(4,NT .i64 q),(5,NT .i64 c),(12,NT .i64 n),(13,NT .i64 c)]) (fun (q:Nat) (us:List Value) (D:List (List Qi))=>[Z,jL B 25 60 5 us us (cO aE D)]) ?_ (fun q us D ⟨⟨hq,hD⟩,hus⟩=>?_)))
    ·refine ts (rm rfl (rm rfl (ro rfl (lS (Ht rfl) (Ht rfl)) (eX (dQ (Ht rfl) (fun hpc => ?_) (fun hpc => ?_))))))
     ·have hpc2 : ¬ p = c := by simpa using hpc
      refine cK (Y.D_start (m:=14) [(13,1,jL B 25 60 5 (vs.set p (hd vs c)) vs (cO aE A))] (Y.D_step (Ei:=[(0,_)]) rfl rfl (bQ (bJ rfl rfl) bX) rfl rfl (by kernel_rfl) (dX rfl (cX (Ht rfl))) (Y.D_step (Ei:=[(6,_)]) rfl rfl (bQ (bJ rfl rfl) bX) rfl rfl (by kernel_rfl) (dX rfl (cX (Ht rfl))) (bY (Ei:=[(0,_)]) rfl rfl (bQ (bJ rfl rfl) bX) rfl rfl (dX rfl (cX (Ht rfl))) (bY (Ei:=[(5,_)]) rfl rfl (bQ (bJ rfl rfl) bX) rfl rfl (dX rfl (cX (Ht rfl))) ?_)))))
      refine Y.D_step (Ei:=[(0,_)]) rfl rfl (bQ (bJ rfl rfl) bX) rfl rfl (by kernel_rfl) (dX rfl (cX (Ht rfl))) (Y.D_step (Ei:=[(5,_)]) rfl rfl (bQ (bJ rfl rfl) bX) rfl rfl (by kernel_rfl) (dX rfl (cX (Ht rfl))) (Y.D_step (Ei:=[(48,_),(49,_)]) rfl rfl (bQ (bZ 4 rfl rfl) (bQ (bZ 5 rfl rfl) bX)) rfl rfl (by kernel_rfl) (dX rfl (fY U_26 Z_25 (Ht rfl) (Ht rfl) rfl zo (by rw [Nat.mul_one,Nat.zero_add]))) ?_))
      refine Y.D_step (Ei:=[(50,_)]) rfl rfl (bQ (bZ 6 rfl rfl) bX) rfl rfl (by kernel_rfl) (dX rfl (fI A_25 Z_25 (Ht rfl) (j:=1) rfl zo)) (Y.D_step (Ei:=[(0,_)]) rfl rfl (bQ (bJ rfl rfl) bX) rfl rfl (by kernel_rfl) (dX rfl (cX (Ht rfl))) (Y.D_step (Ei:=[(6,_)]) rfl rfl (bQ (bJ rfl rfl) bX) rfl rfl (by kernel_rfl) (dX rfl (cX (Ht rfl))) (Y.D_step (Ei:=[(52,_),(53,_)]) rfl rfl (bQ (bZ 8 rfl rfl) (bQ (bZ 9 rfl rfl) bX)) rfl rfl (by kernel_rfl) (dX rfl (fY U_26 Z_25 (Ht rfl) (Ht rfl) rfl zo (by rw [Nat.mul_one,Nat.zero_add]))) ?_)))
      refine Y.D_step (Ei:=[(54,_)]) rfl rfl (bQ (bZ 10 rfl rfl) bX) rfl rfl (by kernel_rfl) (dX rfl (fI A_25 Z_25 (Ht rfl) (j:=1) rfl zo)) (Y.D_step (Ei:=[(44,_),(45,_)]) rfl rfl (bQ (bZ 0 rfl rfl) (bQ (bZ 1 rfl rfl) bX)) rfl rfl (by kernel_rfl) (dX rfl (fY U_26 Z_25 (Ht rfl) (Ht rfl) rfl zo (by rw [Nat.mul_one,Nat.zero_add]))) ?_)
      refine Y.D_putI (Ei:=[(56,_),(51,_)]) 1 rfl rfl rfl (bQ (bZ 12 rfl rfl) (bQ (bZ 7 rfl rfl) bX)) (.head _) rfl (Vh Z_25 (Ht rfl) (Ht rfl) (hvs.pl c zo) (i:=p) (hs:=vs) zo) (Y.D_done bB rfl (by kernel_rfl) rfl (by simp [Y.okP]) rfl rfl (bU (bU (bU (bU (bU (bU (bU (bU (bU (bU (bU (bU (bU (Y.F_putI (Y.F_nil ?_))))))))))))))))
      refine ro rfl (fY U_26 Z_25 (Ht rfl) (Ht rfl) rfl zo (by rw [Nat.mul_one,Nat.zero_add])) ?_
      refine a3P Z_25 (Ht rfl) (Ht rfl) (j:=1) rfl (hvs.pl p zo) (by rw [List.length_set]; omega) rfl ?_
      refine eX (pN 1 rfl (Tn (hs:=swp Hl vs p c) (p:=p) (c:=c) zo zo zo) (cY (rm rfl (ro rfl (dV (Ht rfl) (cJ 1) z6) (ra rfl (eX (bD (sw + 1,swp Hl vs p c,swp [] A p c) ⟨⟨by rw [if_neg hpc2],by rw [if_neg hpc2]⟩,hvs.swp hp2 hcn⟩ (zS rfl) (eI.refl _))))))))
     ·have hpc2 : p = c := by simpa using hpc
      refine cU (bD (sw,vs,A) ⟨⟨by rw [if_pos hpc2]; rfl,by rw [if_pos hpc2]⟩,hvs⟩ (zS rfl) (eI.refl _))
    ·have hul := hus.len
     rw [← hq,← hD] at hnx
     have hDs:cB D n m:=by rw [hD]; split; exact hAs; exact Aw hAs hp2 hcn
     have hDf:bA D G:=by rw [hD]; split; exact hAf; exact Il hAf
     have hDl:=hDs.1
     have hDz : gm D c c ≠ Qi.zero := by
      rw [hD]; split
      ·rename_i e; rw [e] at hpz; exact hpz
      ·show gv (eE (swp [] A p c) c) c ≠ _
       rw [yR zo]; exact hpz
     refine ts (rm rfl (ro rfl (dV (Ht rfl) (cJ 1) z6) (ra rfl (eX (eG ?_)))))
     refine cI (fun (r : Nat) => c < r ∧ r ≤ n) (fun (r : Nat) => n - r) (fun (r : Nat) => [(0, Is (.slice (some ⟨B, 0, none⟩) n n)), (4, NT .i64 q), (5, NT .i64 c), (7, NT .i64 r), (12, NT .i64 n), (13, NT .i64 c)]) (fun (r : Nat) => [Z, jL B 25 60 5 us us (cO aE (redM D c r))]) (c + 1) ⟨Nat.lt_succ_self _, hcn⟩
      (zS rfl) (aU (fun _ _ _ h=>h) (aU (pC (congrArg _ Nv)) aY)) (fun r ⟨hcr,hrn⟩=>?_)
     refine cK (ts (rm rfl (rm rfl (ro rfl (jB U_26 (Ht rfl)) (ro rfl (gX (Ht rfl) (Ht rfl)) (eX (dQ (Ht rfl) (fun hr=>?_) (fun hr=>?_))))))))
     ·simp only [decide_eq_true_eq] at hr
      obtain ⟨X,hX⟩:∃ X,X = redM D c r:=⟨_,rfl⟩
      have hXr:eE X r = eE D r:=by rw [hX]; exact xM zo zo
      have hXc:eE X c = eE D c:=by rw [hX]; exact xM zo zo
      have hXl:X.length = n:=by rw [hX,tE]; exact hDl
      have hXrl:(eE X r).length = m:=by rw [hXr]; exact hDs.row hr
      have hXcl:(eE X c).length = m:=by rw [hXc]; exact hDs.row hcn
      have hXrg:(X.getD r []).length = m:=hXrl
      have hXcg:(X.getD c []).length = m:=hXcl
      have hXfr:bH (eE X r) G:=by rw [hXr]; exact hDf.row r
      have hXfc:bH (eE X c) G:=by rw [hXc]; exact hDf.row c
      haveI g1:aH (gm X r c) G:=hXfr.get hG1 c
      haveI g2:aH (gm X c c) G:=hXfc.get hG1 c
      have hXz:gm X c c ≠ Qi.zero:=by show gv (eE X c) c ≠ _; rw [hXc]; exact hDz
      haveI g3:aH (gm X r c / gm X c c) (G + 3 * G + 2):=⟨g1.fit.div g2.fit hXz⟩
      have hend:=a0F (D:=D) (r:=r) (c:=c) zo hcr
      rw [← hX] at hend ⊢
      refine cU (cK (eG (cK (Y.D_start (m:=21) [] (bY (Ei:=[(0,_)]) rfl rfl (bQ (bJ rfl rfl) bX) rfl rfl (dX rfl (cX (Ht rfl))) (bY (Ei:=[(7,_)]) rfl rfl (bQ (bJ rfl rfl) bX) rfl rfl (dX rfl (cX (Ht rfl))) (bY (Ei:=[(69,_),(70,_)]) rfl rfl (bQ (bZ 0 rfl rfl) (bQ (bZ 1 rfl rfl) bX)) rfl rfl (dX rfl (fY U_26 Z_25 (Ht rfl) (Ht rfl) rfl zo (by rw [Nat.mul_one,Nat.zero_add]))) ?_)))))))
      refine bY (Ei:=[(71,_)]) rfl rfl (bQ (bZ 2 rfl rfl) bX) rfl rfl (dX rfl (fI A_25 Z_25 (Ht rfl) (j:=1) rfl zo)) (bY (Ei:=[(5,_)]) rfl rfl (bQ (bJ rfl rfl) bX) rfl rfl (dX rfl (cX (Ht rfl))) (bY (Ei:=[(72,_),(73,_)]) rfl rfl (bQ (bZ 3 rfl rfl) (bQ (bZ 4 rfl rfl) bX)) rfl rfl (dX rfl (gP U_25 Z_60 (Ht rfl) (Ht rfl) rfl (j:=1) rfl zo zo zo)) (bY (Ei:=[(74,_)]) rfl rfl (bQ (bZ 5 rfl rfl) bX) rfl rfl (dX rfl (kG A_60 Z_60 (Ht rfl) (j:=1) rfl zo zo zo)) ?_)))
      refine bY (Ei:=[(75,_)]) rfl rfl (bQ (bZ 6 rfl rfl) bX) rfl rfl (dX rfl (bE bP (Ht rfl))) (bY (Ei:=[(0,_)]) rfl rfl (bQ (bJ rfl rfl) bX) rfl rfl (dX rfl (cX (Ht rfl))) (bY (Ei:=[(5,_)]) rfl rfl (bQ (bJ rfl rfl) bX) rfl rfl (dX rfl (cX (Ht rfl))) (bY (Ei:=[(77,_),(78,_)]) rfl rfl (bQ (bZ 8 rfl rfl) (bQ (bZ 9 rfl rfl) bX)) rfl rfl (dX rfl (fY U_26 Z_25 (Ht rfl) (Ht rfl) rfl zo (by rw [Nat.mul_one,Nat.zero_add]))) ?_)))
      refine bY (Ei:=[(79,_)]) rfl rfl (bQ (bZ 10 rfl rfl) bX) rfl rfl (dX rfl (fI A_25 Z_25 (Ht rfl) (j:=1) rfl zo)) (bY (Ei:=[(5,_)]) rfl rfl (bQ (bJ rfl rfl) bX) rfl rfl (dX rfl (cX (Ht rfl))) (bY (Ei:=[(80,_),(81,_)]) rfl rfl (bQ (bZ 11 rfl rfl) (bQ (bZ 12 rfl rfl) bX)) rfl rfl (dX rfl (gP U_25 Z_60 (Ht rfl) (Ht rfl) rfl (j:=1) rfl zo zo zo)) (bY (Ei:=[(82,_)]) rfl rfl (bQ (bZ 13 rfl rfl) bX) rfl rfl (dX rfl (kG A_60 Z_60 (Ht rfl) (j:=1) rfl zo zo zo)) ?_)))
      refine bY (Ei:=[(76,_),(83,_)]) rfl rfl (bQ (bZ 7 rfl rfl) (bQ (bZ 14 rfl rfl) bX)) rfl rfl (dX rfl (aR kO K_64 (qR (x:=gm X r c) (y:=gm X c c) (L:=G) (M:=G) zo) (Ht rfl) ⟨(Ht rfl),trivial⟩)) (bY (Ei:=[(84,_)]) rfl rfl (bQ (bZ 15 rfl rfl) bX) rfl rfl (dX rfl (cX (Ht rfl))) (bY (Ei:=[(68,_)]) rfl rfl (bQ (bZ 16 rfl rfl) bX) rfl rfl (dX rfl (dK (Ht rfl) rfl)) (bY (Ei:=[(68,_)]) rfl rfl (bQ (bZ 16 rfl rfl) bX) rfl rfl (dX rfl (dK (Ht rfl) rfl)) ?_)))
      refine Y.D_newp (Ei:=[]) (fun bb=>box bb 60 [aI (decide ((gm X r c / gm X c c).a < 0)),aS (gm X r c / gm X c c).a.natAbs,aI (decide ((gm X r c / gm X c c).b < 0)),aS (gm X r c / gm X c c).b.natAbs,aS (du (gm X r c / gm X c c))]) 20 rfl rfl rfl bX rfl rfl (by kernel_rfl) (eW (Ts:=[Is (.bool false),Is (.slice none 0 0),Is (.bool false),Is (.slice none 0 0),Is (.slice none 0 0)]) O_60 rfl (fun V=>aW zd (aW zd (aW zd (aW zd (aW zd (aG))))))) ?_
      refine Y.D_putN (Ei:=[(85,_)]) 19 rfl rfl rfl rfl rfl rfl (bQ (bZ 17 rfl rfl) bX) (fun bb=>mK Z_60 (Ht rfl) (Ht rfl) rfl (i:=0) rfl (aK rfl) rfl rfl) (Y.D_done bB rfl (by kernel_rfl) rfl (by simp [Y.okP]) rfl rfl (bU (bU (bU (bU (bU (bU (bU (bU (bU (bU (bU (bU (bU (bU (bU (bU (bU (bU (bU (Y.F_newp (fun B8=>Y.F_putN (Y.F_nil ?_)))))))))))))))))))))))
      refine ra rfl (eX (ts (rm rfl (ro rfl (dV (Ht rfl) (cJ 1) z6) (ra rfl (eX (eG ?_)))))))
      refine cI (fun (k : Nat) => c < k ∧ k ≤ m) (fun (k : Nat) => m - k) (fun (k : Nat) => [(0, Is (.slice (some ⟨B, 0, none⟩) n n)), (4, NT .i64 q), (5, NT .i64 c), (7, NT .i64 r), (8, cA B8 0), (10, NT .i64 k), (12, NT .i64 n), (13, NT .i64 c)]) (fun (k : Nat) => [Z, jL B 25 60 5 us us (cO aE (X.set r (lY (eE X r) (eE X c) c k))), box B8 60 [aI (decide ((gm X r c / gm X c c).a < 0)), aS (gm X r c / gm X c c).a.natAbs, aI (decide ((gm X r c / gm X c c).b < 0)), aS (gm X r c / gm X c c).b.natAbs, aS (du (gm X r c / gm X c c))]]) (c + 1) ⟨Nat.lt_succ_self _, by omega⟩
       (zS rfl) (aU (fun _ _ _ h=>h) (aU (pC (by rw [← Nw,a5n zo])) (aU (aD rfl) aY))) (fun k ⟨hck,hkm⟩=>?_)
      obtain ⟨Y,hY⟩:∃ Y,Y = (X.set r (lY (eE X r) (eE X c) c k)):=⟨_,rfl⟩
      have hYl:Y.length = n:=by rw [hY,List.length_set]; exact hXl
      have hYrl:(eE Y r).length = m:=by rw [hY,Db zo,xN]; exact hXrl
      have hYcl:(eE Y c).length = m:=by rw [hY,uC zo]; exact hXcl
      have hYrg:(Y.getD r []).length = m:=hYrl
      have hYcg:(Y.getD c []).length = m:=hYcl
      rw [← hY]
      refine cK (ts (rm rfl (rm rfl (rm rfl (ro rfl (fY U_26 Z_25 (Ht rfl) (Ht rfl) rfl zo (by rw [Nat.mul_one,Nat.zero_add])) ?_)))))
      refine ro rfl (fI A_25 Z_25 (Ht rfl) (j:=1) rfl zo) (ro rfl (a2y U_25 (Ht rfl) (j:=1) rfl zo zo) (ro rfl (gX (Ht rfl) (Ht rfl)) (eX (dQ (Ht rfl) (fun hk=>?_) (fun hk=>?_)))))
      ·have hk2 : k < m := by simp only [decide_eq_true_eq] at hk; omega
       have e1:gm Y r k = gv (eE X r) k:=by rw [hY]; exact a66 zo zo hck
       have e2:gm Y c k = gv (eE X c) k:=by rw [hY]; exact a65 zo
       haveI y1:aH (gm Y r k) G:=by rw [e1]; exact hXfr.get hG1 k
       haveI y2:aH (gm Y c k) G:=by rw [e2]; exact hXfc.get hG1 k
       have hst:=a0E (X:=X) (r:=r) (c:=c) (k:=k) zo zo zo hck
       rw [← hY] at hst
       refine cU (cK (eG (fZ (m:=24) (dp 0 rfl (cX (Ht rfl)) (dp 7 rfl (cX (Ht rfl)) (dH 98 0 99 1 rfl (fY U_26 Z_25 (Ht rfl) (Ht rfl) rfl zo (by rw [Nat.mul_one,Nat.zero_add])) ?_))))))
       refine dq 100 2 rfl (fI A_25 Z_25 (Ht rfl) (j:=1) rfl zo) (dp 10 rfl (cX (Ht rfl)) (dp 0 rfl (cX (Ht rfl)) (dp 7 rfl (cX (Ht rfl)) (dH 103 5 104 6 rfl (fY U_26 Z_25 (Ht rfl) (Ht rfl) rfl zo (by rw [Nat.mul_one,Nat.zero_add])) ?_))))
       refine dq 105 7 rfl (fI A_25 Z_25 (Ht rfl) (j:=1) rfl zo) (dp 10 rfl (cX (Ht rfl)) (dH 106 8 107 9 rfl (gP U_25 Z_60 (Ht rfl) (Ht rfl) rfl (j:=1) rfl zo zo zo) (dq 108 10 rfl (kG A_60 Z_60 (Ht rfl) (j:=1) rfl zo zo zo) (dq 109 11 rfl (bE bP (Ht rfl)) (dp 8 rfl (eJ A_60 Z_60 (Ht rfl) (i:=2) rfl rfl rfl) (dq 111 13 rfl (bE bP (Ht rfl)) (dp 0 rfl (cX (Ht rfl)) (dp 5 rfl (cX (Ht rfl)) (dH 113 15 114 16 rfl (fY U_26 Z_25 (Ht rfl) (Ht rfl) rfl zo (by rw [Nat.mul_one,Nat.zero_add])) ?_)))))))))
       refine dq 115 17 rfl (fI A_25 Z_25 (Ht rfl) (j:=1) rfl zo) (dp 10 rfl (cX (Ht rfl)) (dH 116 18 117 19 rfl (gP U_25 Z_60 (Ht rfl) (Ht rfl) rfl (j:=1) rfl zo zo zo) (dq 118 20 rfl (kG A_60 Z_60 (Ht rfl) (j:=1) rfl zo zo zo) (dH 112 14 119 21 rfl (aR dP K_70 (kY (x:=gm X r c / gm X c c) (y:=gm Y c k) (L:=G + 3 * G + 2) (M:=G) zo) (Ht rfl) ⟨(Ht rfl),trivial⟩) (dH 110 12 120 22 rfl (aR lG K_69 (uO (x:=gm Y r k) (y:=gm X r c / gm X c c * gm Y c k) (L:=G) (M:=G + 3 * G + 2 + G + 1) zo) (Ht rfl) ⟨(Ht rfl),trivial⟩) ?_)))))
       refine fV bB rfl (by kernel_rfl) (zF (zF (zF (zF (zF (zF (aV (ro rfl (gP U_25 Z_60 (Ht rfl) (Ht rfl) rfl (j:=1) rfl zo zo zo) (a3j Z_60 (Ht rfl) (Ht rfl) (j:=1) rfl (El.ag rfl) (F:=aE) (z:=gm Y r k - gm X r c / gm X c c * gm Y c k) zo zo zo rfl (eX (bN (cY ?_))))))))))))
       refine rm rfl (ro rfl (dV (Ht rfl) (cJ 1) z6) (ra rfl (eX (fU (k + 1) ⟨by omega,hk2⟩ zo (zS rfl) (aU (fun _ _ _ h=>h) (aU (pC (congrArg _ hst)) (aU (aD rfl) aY)))))))
      ·have hk3 : k = m := by simp only [decide_eq_false_iff_not] at hk; omega
       subst hk3
       refine gV rfl (bN (cY (rm rfl (ro rfl (dV (Ht rfl) (cJ 1) z6) (ra rfl (eX (cM [0,1] rfl (by decide) (fU (r + 1) ⟨by omega,hr⟩ zo (zS rfl) (aU (fun _ _ _ h=>h) (aU (pC (by rw [hY,← hend,hDs.row hr])) aY))))))))))
     ·simp only [decide_eq_false_iff_not] at hr
      obtain rfl:r = n:=Nat.le_antisymm hrn zo
      refine gV rfl (bN (cY (ro rfl (dV (Ht rfl) (cJ 1) z6) (rm rfl (eX (fU (c + 1,q,us,redM D c r) ⟨⟨hcn,by show q ≤ c + 1; rw [hq]; split <;> omega⟩,hnx,hus⟩ (by dsimp only; omega) (zS rfl) (eI.refl _)))))))
 ·simp only [decide_eq_false_iff_not] at hcn
  obtain rfl:c = n:=Nat.le_antisymm hc zo
  have hvl:=hvs.len
  have hAs:cB A c m:=by have h:=pQ hs hc; rw [hA] at h; exact h
  refine gV rfl (ts (rm rfl (ra rfl (ro rfl (cQ cV) (eX ?_)))))
  exact kW () trivial [0,1] ⟨⟨_,rfl,fun _ _ _ h=>h⟩,⟨_,rfl,(fun S w V h=>eB (by rw [hA]) S w V (Ck (by rw [List.length_map,hAs.1]; exact hvl) S w V h))⟩,trivial⟩ (by decide) (a35 rfl (fX (eU rfl) (nB (by rw [hA]))) (fX (eU rfl) (aT (by rw [hA]))))
end
section
open Go Go.RowKit
abbrev Jp (M bs:List (List Qi)) (i:Nat):List Qi:=eE M i ++ bs.map fun b=>gv b i
def kN (M bs:List (List Qi)) (n:Nat):List (List Qi):=tab n (Jp M bs)
theorem a1E {r:List Qi} {bs:List (List Qi)} {i j:Nat} (h:j < bs.length):(r ++ (bs.take j).map fun b=>gv b i) ++ [gv (bs.getD j []) i] = r ++ (bs.take (j + 1)).map fun b=>gv b i:=by
 rw [List.append_assoc,List.take_add_one,List.map_append]
 simp [List.getD,h]
theorem lO {M bs:List (List Qi)} {n m:Nat} (h:cB M n m):cB (kN M bs n) n (m + bs.length):=by
 refine ⟨aF _ _,fun r hr=>?_⟩
 obtain ⟨i,hi,rfl⟩:=dN.1 hr
 rw [List.length_append,List.length_map,h.row hi]
theorem tQ {M bs : List (List Qi)} {n L : Nat} (h : bA M L) (hb : bA bs L) (hL : 1 ≤ L) : bA (kN M bs n) L := fun r hr x hx => by
 obtain ⟨i,hi,rfl⟩:=dN.1 hr
 rcases List.mem_append.1 hx with h1 | h1
 ·exact h.row i x h1
 ·obtain ⟨b, hb1, rfl⟩ := List.mem_map.1 h1
  exact bH.get (hb b hb1) hL i
theorem Sv {M:List (List Qi)} {n m:Nat} (h:cB M n m):kN M [] n = M:=by
 have:kN M [] n = tab n (eE M):=bT fun i _=>by simp [Jp]
 rw [this]; exact (Im (h:=h.1)).symm
def oP (U : List (List Qi)) (x : List Qi) (n c : Nat) : Nat → Qi
 | 0=>gm U c n
 | k + 1=>oP U x n c k - gm U c (c + 1 + k) * gv x (c + 1 + k)
def nR (U : List (List Qi)) (n : Nat) : Nat → List Qi
 | 0=>tab n fun _=>Qi.zero
 | j + 1=>(nR U n j).set (n - (j + 1)) (oP U (nR U n j) n (n - (j + 1)) j / gm U (n - (j + 1)) (n - (j + 1)))
theorem tO (U : List (List Qi)) (n : Nat) : ∀ j, (nR U n j).length = n
 | 0=>aF _ _
 | j + 1=>by rw [nR,List.length_set,tO U n j]
def qO (M:List (List Qi)) (b:List Qi) (n:Nat):List (List Qi) × Nat × Int:=cE (kN M [b] n) n
def jA (M:List (List Qi)) (b:List Qi) (n:Nat):Int:=if 0 ≤ (qO M b n).2.2 then 6 else 0
def iE (M:List (List Qi)) (b:List Qi) (n:Nat):List Qi:=nR (qO M b n).1 n n
def uG (G : Nat) : Nat → Nat
 | 0=>G
 | j + 1=>j * (uG G j + G + 2) + 4 * G + 2
theorem tM (G j:Nat):uG G j ≤ uG G (j + 1):=by
 cases j with
 | zero=>simp only [uG]; omega
 | succ j =>
  have:uG G (j + 1) + G + 2 ≤ (j + 1) * (uG G (j + 1) + G + 2):=Nat.le_mul_of_pos_left _ zo
  rw [show uG G (j + 1 + 1) = (j + 1) * (uG G (j + 1) + G + 2) + 4 * G + 2 from rfl]
  omega
theorem Dn (G : Nat) : ∀ j, G ≤ uG G j
 | 0=>Nat.le_refl _
 | j + 1=>Nat.le_trans (Dn G j) (tM G j)
theorem xU (G : Nat) : ∀ {i j : Nat}, i ≤ j → uG G i ≤ uG G j
 | i,0,h=>by rw [show i = 0 by omega]; exact Nat.le_refl _
 | i, j + 1, h => by
  by_cases e:i = j + 1
  ·rw [e]; exact Nat.le_refl _
  ·exact Nat.le_trans (xU G (show i ≤ j by omega)) (tM G j)
theorem pI {M : List (List Qi)} {n m : Nat} (hs : cB M n m) : ∀ {c : Nat}, c ≤ n → (cE M c).2.2 < 0 → ∀ i, i < c → gm (cE M c).1 i i ≠ Qi.zero
 | 0,_,_,i,hi=>by omega
 | c + 1, hc, hst, i, hi => by
  have sh:=pQ hs (c:=c) zo
  obtain ⟨_,i2,i3,i4⟩:=nX (M:=(cE M c).1) (c:=c) (n:=M.length) (by rw [hs.1]; omega)
  simp only [cE] at hst ⊢
  split at hst
  ·rename_i h0; omega
  ·rename_i h0
   rw [if_neg h0]
   split at hst
   ·simp at hst; omega
   ·rename_i h1
    rw [if_neg h1]
    have ih:=pI hs (c:=c) zo zo
    have hl : ∀ X : List (List Qi), X.length = n → gm (redM X c M.length) i i = gm X i i := fun X hX => by
     show gv (eE (redM X c M.length) i) i = _
     rw [xM zo zo]
    by_cases e:pv (cE M c).1 c M.length = c
    ·rw [if_pos e, hl _ sh.1]
     by_cases e2:i = c
     ·rw [e2]; have:=i4 (by have:=hs.1; omega); rw [e] at this; exact this
     ·exact ih i zo
    ·have hpl : pv (cE M c).1 c M.length < n := by rw [← hs.1]; omega
     rw [if_neg e,hl _ ((Av _ _ _ _).trans sh.1)]
     by_cases e2:i = c
     ·rw [e2]
      show gv (eE (swp [] _ _ c) c) c ≠ _
      rw [yR (by rw [sh.1]; omega)]
      exact i4 (by have:=hs.1; omega)
     ·have : eE (swp [] (cE M c).1 (pv (cE M c).1 c M.length) c) i = eE (cE M c).1 i := by
       simp only [eE,swp,List.getD]
       rw [List.getElem?_set_ne (Ne.symm e2),List.getElem?_set_ne zo]
      show gv (eE (swp [] _ _ c) i) i ≠ _
      rw [this]; exact ih i zo
theorem Au {U : List (List Qi)} {x : List Qi} {n c G X : Nat} (hU : bA U G) (hx : bH x X) (hG : 1 ≤ G) (hX : 1 ≤ X) : ∀ k, aH (oP U x n c k) (G + k * (G + X + 2))
 | 0=>(hU.get hG c n).le zo
 | k + 1 => by
  haveI f1:=Au (n:=n) (c:=c) hU hx hG hX k
  haveI f2:=hU.get hG c (c + 1 + k)
  haveI f3:=hx.get hX (c + 1 + k)
  have:aH (oP U x n c (k + 1)) (G + k * (G + X + 2) + (G + X + 1) + 1):=by unfold oP; infer_instance
  exact this.le (by rw [Nat.add_mul]; omega)
theorem a3Y {U:List (List Qi)} {x:List Qi} {n c G X j:Nat} (hU:bA U G) (hx:bH x X) (hG:1 ≤ G) (hX:1 ≤ X) (hz:gm U c c ≠ Qi.zero):aH (oP U x n c j / gm U c c) (j * (X + G + 2) + 4 * G + 2):=by
 have f1:=Au (n:=n) (c:=c) hU hx hG hX j
 have f2:=hU.get hG c c
 have:aH (oP U x n c j / gm U c c) (G + j * (G + X + 2) + 3 * G + 2):=⟨f1.fit.div f2.fit hz⟩
 exact this.le (by rw [Nat.add_comm X G]; omega)
theorem Mc {U : List (List Qi)} {n G : Nat} (hU : bA U G) (hG : 1 ≤ G) (hz : ∀ i, i < n → gm U i i ≠ Qi.zero) : ∀ j, j ≤ n → bH (nR U n j) (uG G j)
 | 0,_=>bH.tab fun _ _=>aH.zero hG
 | j + 1, hj => fun y hy => by
  have ih:=Mc hU hG hz j zo
  rcases List.mem_or_eq_of_mem_set hy with h1 | h1
  ·exact (ih y h1).le (tM G j)
  ·rw [h1]; exact a3Y hU ih hG (Nat.le_trans hG (Dn G j)) (hz _ zo)
theorem a0z {M:List (List Qi)} {b:List Qi} {n:Nat} (h:cB M n n):cB (qO M b n).1 n (n + 1):=pQ (lO h) (Nat.le_refl n)
theorem Li {M:List (List Qi)} {b:List Qi} {n L:Nat} (h:cB M n n) (hM:bA M L) (hb:bH b L) (hL:1 ≤ L):bA (qO M b n).1 (jQ L n):=Br (lO h) (tQ hM (fun r hr=>by simp at hr; subst hr; exact hb) hL) hL (Nat.le_refl n)
theorem a0A {M : List (List Qi)} {b : List Qi} {n L : Nat} (h : cB M n n) (hM : bA M L) (hb : bH b L) (hL : 1 ≤ L) (hE : (qO M b n).2.2 < 0) : bH (iE M b n) (uG (jQ L n) n) :=
 Mc (Li h hM hb hL) (Nat.le_trans hL (qH L n)) (pI (lO h) (Nat.le_refl n) hE) n (Nat.le_refl n)
def Dk (n i:Nat):List Qi:=(tab n fun _=>Qi.zero).set i (Qi.ofInt 1)
def qP (n:Nat):List (List Qi):=tab n (Dk n)
theorem mY (n:Nat):cB (qP n) n n:=⟨aF _ _,fun r hr=>by obtain ⟨i,_,rfl⟩:=dN.1 hr; rw [Dk,List.length_set,aF]⟩
theorem jH:aH (Qi.ofInt 1) 1:=⟨Qi.Fit.int (L:=1) (by decide) (by decide)⟩
theorem Uv {n i L : Nat} (h : 1 ≤ L) : bH (Dk n i) L := fun x hx => by
 rcases List.mem_or_eq_of_mem_set hx with h1 | h1
 ·obtain ⟨_,_,rfl⟩:=dN.1 h1; exact aH.zero h
 ·rw [h1]; exact jH.le h
theorem Ac {n L:Nat} (h:1 ≤ L):bA (qP n) L:=fun r hr=>by obtain ⟨i,_,rfl⟩:=dN.1 hr; exact Uv h
theorem Rj {M:List (List Qi)} {b:List Qi} {n:Nat} (h:¬ 0 ≤ (qO M b n).2.2):(qO M b n).2.2 < 0:=by omega
theorem nY (F:Qi → Ty) (n:Nat):List.replicate n (F Qi.zero) = (tab n fun _=>Qi.zero).map F:=by rw [qL,An]
theorem a5U {n j:Nat} (h:(0:Int) ≤ (n:Int) - 1 - (j:Int)):j < n:=by omega
theorem a5V {n j:Nat} (h:(n:Int) - 1 - (j:Int) < 0):n ≤ j:=by omega
end
section
open Go Go.RowKit
theorem So  : bF Tryz.prog 172 [cH []] (aI true):=by
 refine bF.intro Tryz.func172 rfl Tryz.ntmps172 rfl (fun cx=>(ts (ro rfl (cQ cV) (eX (ts (rm rfl (ro rfl (cZ Tryz.call226 Bi ⟨(Ht rfl),trivial⟩) (rm rfl (ro rfl (dK (Ht rfl) rfl) (ro rfl (dK (Ht rfl) rfl) (ra rfl (ra rfl (eX (ts (rm rfl (rm rfl (fQ rfl rfl (eK rfl rfl (Ht rfl) (fun h=>cX (Ht rfl))) (fQ rfl rfl (eK rfl rfl (Ht rfl) (fun h=>cX (Ht rfl))) (fQ rfl rfl (eK rfl rfl (Ht rfl) (fun h=>dG U_26 (fJ rfl h) aC)) (fQ rfl rfl (eK rfl rfl (Ht rfl) (fun h=>eC (fJ rfl h) (fJ rfl h))) ?_))))))))))))))))))))
 refine ro rfl (gS (Ht rfl) (fun h=>(fJ rfl h))) (ra rfl (eX (fW rfl (fX (eU rfl) ?_))))
 exact (fO (by simp))
theorem Jl {M:List (List Qi)} {n:Nat} (h:cB M n n) (h1:1 ≤ n) (hn:n ≤ 32):bF Tryz.prog 172 [cH M] (aI true):=by
 have hl:=h.1
 refine bF.intro Tryz.func172 rfl Tryz.ntmps172 rfl (fun cx=>(ts (ro rfl (cQ cV) (eX (ts (rm rfl (ro rfl (cZ Tryz.call226 (Ee h h1 hn hn) ⟨(Ht rfl),trivial⟩) (rm rfl (ro rfl (dK (Ht rfl) rfl) (ro rfl (dK (Ht rfl) rfl) (ra rfl (ra rfl (eX (ts (rm rfl (rm rfl (fQ rfl rfl (eK rfl rfl (Ht rfl) (fun h=>cX (Ht rfl))) (fQ rfl rfl (eK rfl rfl (Ht rfl) (fun h=>cX (Ht rfl))) (fQ rfl rfl (eK rfl rfl (Ht rfl) (fun h=>dG U_26 (fJ rfl h) aC)) (fQ rfl rfl (eK rfl rfl (Ht rfl) (fun h=>eC (fJ rfl h) (fJ rfl h))) ?_))))))))))))))))))))
 refine ro rfl (gS (Ht rfl) (fun h=>(fJ rfl h))) (ra rfl (eX (fW rfl (fX (eU rfl) ?_))))
 exact (fO (by simp [hl]))
theorem Ek {M:List (List Qi)} {n:Nat} (h:cB M n n) (hn:n ≤ 32):bF Tryz.prog 172 [cH M] (aI true):=by
 by_cases e:n = 0
 ·subst e
  obtain rfl:=List.length_eq_zero_iff.1 h.1
  exact So
 ·exact Jl h zo hn
theorem Eg {M bs:List (List Qi)} {n m:Nat} (hM:cB M n m) (hb:∀ b,b ∈ bs → n ≤ b.length) (hn:n ≤ 1000) (hm:m ≤ 1000) (hbl:bs.length ≤ 1000):iV Tryz.prog 195 [cH M,cH bs] [] (Nat) (fun B=>Is (.slice (some ⟨B,0,none⟩) n n)) (fun B=>[oE B 25 60 5 (cO aE (kN M bs n))]) (fun _=>True):=by
 have hMl:=hM.1
 refine iV.intro Tryz.func195 rfl Tryz.ntmps195 rfl (fun cx Z=>(ts (ro rfl (cQ cV) (eX (ts (rm rfl (ro rfl (dG U_26 (Ht rfl) aC) (rn rfl (jN (T:=Is (.slice none 0 0)) (i:=Tryz.t25) V_26 tU rfl rfl (Ht rfl) rfl (fun _=>rfl) trivial (by show 24 * _ ≤ _; omega) zo) fun B12=>(ra rfl (eX (cK (ts (rm rfl (ro rfl (dG U_26 (Ht rfl) aC) (ro rfl (cX (cJ 0)) (eX (eG (pN 1 rfl (xE (e:=60) (s:=5)) ?_))))))))))))))))))
 refine cI (fun (i : Nat) => i ≤ M.length) (fun (i : Nat) => M.length - i) (fun (i : Nat) => [(0, cH M), (1, cH bs), (5, Is (.slice (some ⟨B12, 0, none⟩) M.length M.length)), (13, cH M), (14, NT .i64 M.length), (15, NT .i64 i)]) (fun (i : Nat) => [Z, oE B12 25 60 5 (cO aE (kS (Jp M bs) [] M.length i))]) 0 (Nat.zero_le _)
  (zS rfl) (aU (fun _ _ _ h=>h) (aU (eB (by rw [← iN,rJ]; exact tF aE M.length)) aY)) (fun i hi=>?_)
 refine ts (ro rfl (gX (Ht rfl) (Ht rfl)) (eX (cK (dQ (Ht rfl) (fun hd0=>?_) (fun hd0=>?_)))))
 ·simp only [decide_eq_true_eq] at hd0
  have hrl:(eE M i).length = m:=hM.row zo
  have hrl2:(M.getD i []).length = m:=hrl
  refine oV 1 (i) rfl (wW hd0) (fun v0=>(cU (cK (eG (ts (rm rfl (ro rfl (dZ U_26 Z_25 (Ht rfl) (Ht rfl) rfl (dY (dU (d:=[]) hd0))) (ro rfl (dJ A_25 Z_25 (Ht rfl)) (ra rfl (ra rfl (eX (ts (rm rfl (rm rfl (rm rfl (mW Tryz.call109 (Jc (l:=M.getD i []) zo) ⟨(Ht rfl),trivial⟩ rfl (fun v1 _=>(ro rfl (fY U_26 Z_25 (Ht rfl) (Ht rfl) rfl zo (by rw [Nat.mul_one,Nat.zero_add])) ?_))))))))))))))))))
  refine Bd Z_25 (Ht rfl) (Ht rfl) (by simp only [cO,List.length_map,dE]; omega) (j:=1) (l:=3) rfl rfl rfl ?_
  refine eX (ts (rm rfl (ro rfl (dG U_26 (Ht rfl) aC) (ro rfl (cX (cJ 0)) (eX (eG (cM [0,1,3] rfl (by decide) ?_)))))))
  refine jE (fun (j : Nat) (v : Value) => j ≤ bs.length) (fun (j : Nat) (v : Value) => bs.length - j) (fun (j : Nat) (v : Value) => [(0, cH M), (1, cH bs), (5, Is (.slice (some ⟨B12, 0, none⟩) M.length M.length)), (6, NT .i64 i), (13, cH M), (14, NT .i64 M.length), (15, NT .i64 i), (25, cH bs), (26, NT .i64 bs.length), (27, NT .i64 j)]) (fun (j : Nat) (v : Value) => [Z, He B12 25 60 5 (cO aE (kS (Jp M bs) [] M.length i)) i v, bI 60 5 v ((eE M i ++ (bs.take j).map fun b => gv b i).map aE)]) 0 v1 (Nat.zero_le _)
   (zS rfl) (aU (fun _ _ _ h=>h) (aU (fun _ _ _ h=>h) (aU (aP (by simp)) aY))) (fun j v hj=>?_)
  refine ts (ro rfl (gX (Ht rfl) (Ht rfl)) (eX (cK (dQ (Ht rfl) (fun he=>?_) (fun he=>?_)))))
  ·simp only [decide_eq_true_eq] at he
   have hbj:i < (bs.getD j []).length:=by have h1:=hb (bs.getD j []) (by rw [a1T he]; exact List.getElem_mem _); omega
   refine cU (cK (eG (ts (ro rfl (dZ U_26 Z_25 (Ht rfl) (Ht rfl) rfl (dY (dU (d:=[]) he))) (ro rfl (dJ A_25 Z_25 (Ht rfl)) (ra rfl (eX (Y.D_startA (m:=12) [] 11 2 rfl rfl (bY (Ei:=[(5,_)]) rfl rfl (bQ (bJ rfl rfl) bX) rfl rfl (dX rfl (cX (Ht rfl))) (bY (Ei:=[(6,_)]) rfl rfl (bQ (bJ rfl rfl) bX) rfl rfl (dX rfl (cX (Ht rfl))) (bY (Ei:=[(5,_)]) rfl rfl (bQ (bJ rfl rfl) bX) rfl rfl (dX rfl (cX (Ht rfl))) ?_)))))))))))
   refine bY (Ei:=[(6,_)]) rfl rfl (bQ (bJ rfl rfl) bX) rfl rfl (dX rfl (cX (Ht rfl))) (bY (Ei:=[(33,_),(34,_)]) rfl rfl (bQ (bZ 2 rfl rfl) (bQ (bZ 3 rfl rfl) bX)) rfl rfl (dX rfl (fY U_26 Z_25 (Ht rfl) (Ht rfl) rfl zo (by rw [Nat.mul_one,Nat.zero_add]))) ?_)
   refine bY (Ei:=[(35,_)]) rfl rfl (bQ (bZ 4 rfl rfl) bX) rfl rfl (dX rfl (lI A_25 Z_25 (Ht rfl) (j:=1) rfl)) (bY (Ei:=[(9,_)]) rfl rfl (bQ (bJ rfl rfl) bX) rfl rfl (dX rfl (cX (Ht rfl))) (bY (Ei:=[(6,_)]) rfl rfl (bQ (bJ rfl rfl) bX) rfl rfl (dX rfl (cX (Ht rfl))) (bY (Ei:=[(37,_),(38,_)]) rfl rfl (bQ (bZ 6 rfl rfl) (bQ (bZ 7 rfl rfl) bX)) rfl rfl (dX rfl (dZ U_25 Z_60 (Ht rfl) (Ht rfl) rfl (dY (dU (d:=Qi.zero) hbj)))) ?_)))
   refine bY (Ei:=[(39,_)]) rfl rfl (bQ (bZ 8 rfl rfl) bX) rfl rfl (dX rfl (dJ A_60 Z_60 (Ht rfl))) (bY (Ei:=[(40,_)]) rfl rfl (bQ (bZ 9 rfl rfl) bX) rfl rfl (dX rfl (eH (xs:=[.tmp 40]) U_25 Z_60 O_60 (cW (Ht rfl) cG) rfl rfl rfl)) (Y.D_app (Ei:=[(36,_),(41,_)]) rfl rfl rfl rfl (bQ (bZ 5 rfl rfl) (bQ (bZ 10 rfl rfl) bX)) rfl (Ay (inf:=Tryz.t60) jS gU rfl rfl rfl (Ht rfl) (Ht rfl) (by simp) (fun T hT=>by simp at hT; subst hT; exact El.ag rfl) (by show _ * 88 ≤ _; simp only [List.length_map,List.length_append,List.length_take,List.length_cons,List.length_nil]; omega) (by simp only [List.length_map,List.length_append,List.length_take,List.length_cons,List.length_nil]; omega)) ?_))
   refine Y.D_done bB rfl (by kernel_rfl) rfl (by simp [Y.okP]) rfl rfl (bU (bU (bU (bU (bU (bU (bU (bU (bU (bU (bU (Y.F_app (fun v2=>Y.F_nil ?_)))))))))))))
   refine ro rfl (fY U_26 Z_25 (Ht rfl) (Ht rfl) rfl zo (by rw [Nat.mul_one,Nat.zero_add])) ?_
   refine Bd Z_25 (Ht rfl) (Ht rfl) (by simp only [cO,List.length_map,dE]; omega) (j:=1) (l:=3) rfl rfl rfl ?_
   refine eX (bN (cY (ro rfl (dV (Ht rfl) (cJ 1) z6) (rm rfl (eX (cM [0,1,3] rfl (by decide) (fU (j + 1,v2) he (by dsimp only; omega) (zS rfl) (aU (fun _ _ _ h=>h) (aU (fun _ _ _ h=>h) (aU (aP ((Iz aE _ (gv (bs.getD j []) i)).trans (congrArg _ (a1E he)))) aY))))))))))
  ·simp only [decide_eq_false_iff_not] at he
   obtain rfl:bs.length = j:=Nat.le_antisymm zo hj
   refine gV rfl (bN (kU 1 2 rfl rfl (by decide) (by simp only [cO,List.length_map,dE]; omega) ?_))
   refine cY (ro rfl (dV (Ht rfl) (cJ 1) z6) (rm rfl (eX (cM [0,1] rfl (by decide) (fU (i + 1) hd0 zo (zS rfl) (aU (fun _ _ _ h=>h) (aU (eB (by rw [List.take_length,lK,← jU (f:=Jp M bs)])) aY)))))))
 ·simp only [decide_eq_false_iff_not] at hd0
  obtain rfl:i = M.length:=Nat.le_antisymm hi zo
  subst hMl
  refine gV rfl (ts (rm rfl (ra rfl (eX ?_))))
  exact kW B12 trivial [0,1] ⟨⟨_,rfl,fun _ _ _ h=>h⟩,⟨_,rfl,(eB (by rw [jT]; rfl))⟩,trivial⟩ (by decide) (xP rfl (eU rfl))
end
section
open Go Go.RowKit
abbrev ek (n k:Nat):List Qi:=(qP n).getD k []
theorem a4o {n k:Nat} (h:k < n):(ek n k).length = n:=(mY n).row h
theorem Gm {n k L:Nat} (h:1 ≤ L):bH (ek n k) L:=(Ac h).row k
def nK (M:List (List Qi)) (n:Nat):Int:=jZ (fun k=>jA M (ek n k) n) n
def jK (M:List (List Qi)) (n:Nat):List (List Qi):=tab n fun r=>tab n fun j=>gv (iE M (ek n j) n) r
theorem kJ {α:Type} {n i:Nat} {f:Nat → α} {d:α} (h:i < n):(tab n f).getD i d = f i:=by simp [List.getD,bR h]
def sY (M:List (List Qi)) (n k i:Nat):List (List Qi):=tab n fun r=>tab n fun j=>if j < k ∨ j = k ∧ r < i then gv (iE M (ek n j) n) r else gm M r j
theorem rB (M:List (List Qi)) (n k i:Nat):cB (sY M n k i) n n:=cB.tab
theorem Tk {M:List (List Qi)} {n:Nat} (h:cB M n n):M = sY M n 0 0:=by
 rw [sY]
 conv=>lhs; rw [tX h]
 exact bT fun r _=>bT fun j _=>by rw [if_neg zo]
theorem Yl (M : List (List Qi)) (n k : Nat) : sY M n k n = sY M n (k + 1) 0 := bT fun r hr => bT fun j _ => by
 by_cases h:j < k ∨ j = k ∧ r < n
 ·rw [if_pos h,if_pos zo]
 ·rw [if_neg h,if_neg zo]
theorem Ym (M:List (List Qi)) (n:Nat):sY M n n 0 = jK M n:=bT fun r _=>bT fun j hj=>by rw [if_pos zo]
theorem Tj {M:List (List Qi)} {n k i:Nat} (hi:i < n) (hk:k < n):(sY M n k i).set i (((sY M n k i).getD i []).set k (gv (iE M (ek n k) n) i)) = sY M n k (i + 1):=by
 apply List.ext_getElem?
 intro r
 by_cases hr:r < n
 ·by_cases e : r = i
  ·subst e
   rw [List.getElem?_set_self (by rw [(rB _ _ _ _).1]; exact hr),sY,sY,bR (f:=fun r=>tab n fun j=>if j < k ∨ j = k ∧ r < _ + 1 then gv (iE M (ek n j) n) r else gm M r j) hr]
   congr 1
   have:(tab n fun x=>tab n fun j=>if j < k ∨ j = k ∧ x < r then gv (iE M (ek n j) n) x else gm M x j).getD r [] = tab n fun j=>if j < k ∨ j = k ∧ r < r then gv (iE M (ek n j) n) r else gm M r j:=kJ hr
   rw [this]
   apply List.ext_getElem?
   intro j
   by_cases hj:j < n
   ·by_cases e2 : j = k
    ·subst e2
     rw [List.getElem?_set_self (by rw [aF]; exact hj),bR hj,if_pos zo]
    ·rw [List.getElem?_set_ne (Ne.symm e2), bR hj, bR hj]
     by_cases e3:j < k
     ·rw [if_pos (.inl e3),if_pos (.inl e3)]
     ·rw [if_neg zo,if_neg zo]
   ·rw [List.getElem?_eq_none (by rw [List.length_set,aF]; omega),List.getElem?_eq_none (by rw [aF]; omega)]
  ·rw [List.getElem?_set_ne (Ne.symm e), sY, sY, bR hr, bR hr]
   congr 1
   refine bT fun j _=>?_
   by_cases e3:j < k ∨ j = k ∧ r < i
   ·rw [if_pos e3,if_pos zo]
   ·rw [if_neg e3,if_neg zo]
 ·rw [List.getElem?_eq_none (by rw [List.length_set,(rB _ _ _ _).1]; omega),List.getElem?_eq_none (by rw [(rB _ _ _ _).1]; omega)]
theorem a1Y {M:List (List Qi)} {n k:Nat} (h:∀ i,i < k → jA M (ek n i) n = 0) (hk:k < n) (hx:jA M (ek n k) n ≠ 0):nK M n = jA M (ek n k) n:=tS h hx hk
theorem Ti {M:List (List Qi)} {n:Nat} (h:∀ i,i < n → jA M (ek n i) n = 0):nK M n = 0:=gL h
def pmM (m:Bool) (a b:List (List Qi)) (n:Nat):List (List Qi):=tab n fun i=>tab n fun j=>if m = true then gm a i j - gm b i j else gm a i j + gm b i j
theorem Hv {m:Bool} {a b:List (List Qi)} {n:Nat}:cB (pmM m a b n) n n:=cB.tab
theorem a2N {m : Bool} {a b : List (List Qi)} {n L M : Nat} (ha : bA a L) (hb : bA b M) (h1 : 1 ≤ L) (h2 : 1 ≤ M) : bA (pmM m a b n) (L + M + 1) := bA.tab fun i j _ _ => by
 haveI:=ha.get h1 i j; haveI:=hb.get h2 i j
 split
 ·infer_instance
 ·infer_instance
theorem Vp {T : Ty} {s : Nat} : ∀ vs V, fT [T, Is (.slice none 0 0)] vs V → fT [T, kM s []] vs V
 | [_,_],_,⟨h1,h2,h3⟩=>⟨h1,iP _ _ h2,h3⟩
 | [],_,h=>h.elim
 | [_],_,h=>h.2.elim
 | _ :: _ :: _ :: _,_,h=>h.2.2.elim
theorem iV.arg {P : Program} {f : FuncId} {Ts Ts' : List Ty} {As : Hp} {γ : Type} {U : γ → Ty} {As' : γ → Hp} {Q : γ → Prop} (h : iV P f Ts As γ U As' Q) (i : ∀ vs V, fT Ts' vs V → fT Ts vs V) : iV P f Ts' As γ U As' Q :=
 fun cx Z vs V w h1 h2=>h cx Z vs V w h1 (i _ _ h2)
end
section
open Go Go.RowKit
section
variable {P:Program} {R:iD} {cx:Cx} {n:Nat} {k:List It} {E:cP} {H:Hp}
theorem Be (i l off : Nat) {B : Nat} {BT : TypeId} {Us : List Ty} {v : Value} {A : SA} {T : Ty} (hB : H[i]? = some (box B BT Us)) (hU : Us[off]? = some (Is v)) (hL : H[l]? = some A) (hne : i ≠ l) (hT : ∀ S V, A.h S V V → T.p v V)
  (h:Tr P R cx n k E ((H.set l SA.emp).set i (box B BT (Us.set off T)))):Tr P R cx n k E H:=fun a w ⟨V,hi,hs⟩=>by
 obtain ⟨V',S,hle,hi',hA⟩:=hi.freeze hL
 have hT:=hT S V' hA
 refine h a w ⟨V',hi'.withHH ?_,hs.mono hle⟩
 obtain ⟨F,h1,h2⟩:=hi'.hp
 have hB':(H.set l SA.emp)[i]? = some (box B BT Us):=by rw [List.getElem?_set_ne (Ne.symm hne)]; exact hB
 have hil:=(List.getElem?_eq_some_iff.1 hB').1
 refine ⟨F,fun q A hq=>?_,fun q r b hq hr=>h2 q r b (by simpa using hq) (by simpa using hr)⟩
 by_cases c:i = q
 ·subst c
  rw [List.getElem?_set_self hil] at hq
  obtain rfl:=Option.some.inj hq
  obtain ⟨⟨k1,cs,k2,k3⟩,k4⟩:=h1 i _ hB'
  obtain ⟨u,u1,u2⟩:=k3.get hU
  obtain rfl:u = v:=u2
  have hset : cs.set off u = cs := by
   apply List.ext_getElem?
   intro j
   by_cases cj:off = j
   ·subst cj; rw [List.getElem?_set_self (List.getElem?_eq_some_iff.1 u1).1,u1]
   ·rw [List.getElem?_set_ne cj]
  refine ⟨⟨k1,cs,k2,?_⟩,k4⟩
  have:=k3.set off (v:=u) hT (k3.pl u (List.mem_of_getElem? u1))
  rwa [hset] at this
 ·rw [List.getElem?_set_ne c] at hq
  exact h1 q A hq
theorem a67 {B e l : Nat} {BT : TypeId} {F : Qi → Ty} {q : Value → Prop} {M : List (List Qi)} (hl : l = M.length) : ∀ S V, (rX q B BT e 5 (cO F M)).h S V V → (kM 1 (M.map fun r => kM 5 (r.map F))).p (.slice (some ⟨B, 0, none⟩) l l) V := fun S V h =>
 qY (s:=5) (M:=M) hl _ S V rfl h
end
def nP (p i:Nat):Nat:=if i < p then i else i + 1
abbrev iM (l:List Nat):Ty:=kM 1 (l.map (NT .i64))
def Ci (p n:Nat):List Nat:=tab n fun j=>nP p j + 1
def Su (p i:Nat):Nat:=if i ≤ p then i else i - 1
theorem Pn {p n:Nat} (h:p < n):Su p n = n - 1:=by unfold Su; split <;> omega
theorem Oa {p i n:Nat} (h:i < n - 1) (hp:p < n):nP p i < n:=by unfold nP; split <;> omega
theorem Qk {p n j:Nat} (h:j < n):(Ci p n)[j]? = some (nP p j + 1):=bR h
def Uc (z:List Qi) (p m:Nat):List Qi:=tab m fun i=>gv z (nP p i)
def a6p (s:List (List Qi)) (p m:Nat):List (List Qi):=tab m fun i=>tab m fun j=>gm s (nP p i) (nP p j)
def Oj (s:List (List Qi)) (p:Nat) (f:Qi) (i j:Nat):Qi:=gm s (nP p i) (nP p j) + gm s (nP p i) p * (f * gm s p (nP p j))
def a5F (s:List (List Qi)) (p m:Nat) (f:Qi):List (List Qi):=tab m fun i=>tab m fun j=>Oj s p f i j
def mT (s:List (List Qi)) (p:Nat) (g:Qi):Qi:=g / (Qi.ofInt 1 - gm s p p * g)
def sI (z : List Qi) (s : List (List Qi)) (port : Int) (g : Qi) : Int :=
 if ¬ (1 ≤ port ∧ port ≤ z.length) then 1 else if z.length = 1 then 4 else if Qi.ofInt 1 - gm s (port - 1).toNat (port - 1).toNat * g = Qi.zero then 6 else 0
def Di (z:List Qi) (s:List (List Qi)) (port:Int) (g:Qi):List Qi:=iC (sI z s port g) (Uc z (port - 1).toNat (z.length - 1))
def Dh (z:List Qi) (s:List (List Qi)) (port:Int) (g:Qi):List (List Qi):=iC (sI z s port g) (a5F s (port - 1).toNat (z.length - 1) (mT s (port - 1).toNat g))
theorem Io {z:List Qi} {s:List (List Qi)} {port:Int} {g:Qi} {e:Int} (h:sI z s port g = e) (he:e ≠ 0):∀ v V,(dC [] []).p v V → (dC (Di z s port g) (Dh z s port g)).p v V:=by
 rw [Di,Dh,iC,iC,h,if_neg he,if_neg he]; exact fun _ _ k=>k
theorem a3K (p:Nat):((p:Int) + 1 - 1).toNat = p:=by omega
theorem a0R {z:List Qi} {s:List (List Qi)} {p:Nat} {g:Qi} (h:sI z s ((p:Int) + 1) g = 0):∀ v V,(dC (Uc z p (z.length - 1)) (a5F s p (z.length - 1) (mT s p g))).p v V → (dC (Di z s ((p:Int) + 1) g) (Dh z s ((p:Int) + 1) g)).p v V:=by
 rw [Di,Dh,iC,iC,h,if_pos rfl,if_pos rfl,a3K]; exact fun _ _ k=>k
theorem a5C {z:List Qi} {s:List (List Qi)} {port:Int} {g:Qi} (h:¬ (1 ≤ port ∧ port ≤ z.length)):sI z s port g = 1:=by rw [sI,if_pos h]
theorem a5D {z:List Qi} {s:List (List Qi)} {port:Int} {g:Qi} (h:1 ≤ port ∧ port ≤ z.length) (h1:z.length = 1):sI z s port g = 4:=by rw [sI,if_neg (fun k=>k h),if_pos h1]
theorem a5E {z:List Qi} {s:List (List Qi)} {p:Nat} {g:Qi} (h:p < z.length) (h1:¬ z.length = 1):sI z s ((p:Int) + 1) g = if Qi.ofInt 1 - gm s p p * g = Qi.zero then 6 else 0:=by
 rw [sI,if_neg (fun k=>k zo),if_neg h1,a3K]
theorem a0Q {s:List (List Qi)} {p L:Nat} {g:Qi} (hs:bA s L) (hg:aH g L) (hL:1 ≤ L) (hd:Qi.ofInt 1 - gm s p p * g ≠ Qi.zero):aH (mT s p g) (7 * L + 11):=by
 haveI f0:=jH
 haveI f1:=hs.get hL p p
 haveI f2:=hg
 have f3:aH (Qi.ofInt 1 - gm s p p * g) (1 + (L + L + 1) + 1):=@fitSub _ _ _ _ f0 inferInstance
 have:aH (mT s p g) (L + 3 * (1 + (L + L + 1) + 1) + 2):=⟨f2.fit.div f3.fit hd⟩
 exact this.le zo
end
section
open Go Go.RowKit
def Bw:List Qi:=[r50,r50].map Rt.q
def Ez:List (List Qi):=rq [[zC,zC],[zC,zC]]
def Gw:List Qi:=Di Bw Ez 2 (Qi.ofInt 1)
def Te:List (List Qi):=Dh Bw Ez 2 (Qi.ofInt 1)
theorem Xx:fD Bw Ez = 0:=by decide +kernel
theorem Xy:cB Ez Bw.length Bw.length:=(yL Xx).2.2.1
theorem a4u:sI Bw Ez 2 (Qi.ofInt 1) = 0:=by decide +kernel
theorem Xz:Gw.length = 1:=by decide +kernel
theorem a3D:Te = [[Qi.ofInt 1]]:=by decide +kernel
theorem a4r:nK (pmM true (qP Bw.length) Ez Bw.length) Bw.length ≠ 0:=by decide +kernel
theorem a69:bH Bw 2:=bH.rt
theorem a3C:bA Ez 2:=bA.rt
theorem a3B:aH (Qi.ofInt 1) 2:=jH.le (by decide)
theorem a4s:∀ v V,(eD [dC (iC (fD Bw Ez) Bw) (iC (fD Bw Ez) Ez),aL .i64 (fD Bw Ez)]).p v V → (eD [dC Bw Ez,aL .i64 0]).p v V:=by rw [Xx]; exact fun _ _ h=>h
theorem a4t:∀ v V,(eD [dC (Di Bw Ez ((2:Nat):Int) (Qi.ofInt 1)) (Dh Bw Ez ((2:Nat):Int) (Qi.ofInt 1)),aL .i64 (sI Bw Ez ((2:Nat):Int) (Qi.ofInt 1))]).p v V → (eD [dC Gw Te,aL .i64 0]).p v V:=by
 rw [show sI Bw Ez ((2:Nat):Int) (Qi.ofInt 1) = 0 from a4u]; exact fun _ _ h=>h
theorem a4v:cB Te Gw.length Gw.length:=by rw [Xz,a3D]; exact ⟨rfl,by simp⟩
theorem a68:∀ v V,(eD [aE (pkm Gw.length Te ((1:Nat):Int) ((1:Nat):Int)),aL .i64 (if (1 ≤ ((1:Nat):Int) ∧ ((1:Nat):Int) ≤ Gw.length) ∧ 1 ≤ ((1:Nat):Int) ∧ ((1:Nat):Int) ≤ Gw.length then 0 else 1)]).p v V → (eD [aE (Qi.ofInt 1),aL .i64 0]).p v V:=by
 rw [Xz,a3D,if_pos (by decide)]
 rw [show pkm 1 [[Qi.ofInt 1]] ((1:Nat):Int) ((1:Nat):Int) = Qi.ofInt 1 from rfl]
 exact fun _ _ h=>h
theorem a6L:txt (Qi.ofInt 1) = [49]:=by decide +kernel
end
section
open Go Go.RowKit
theorem kT (x:Int) {b:Int} (h:0 < b):-b < x.tmod b ∧ x.tmod b < b:=by
 by_cases hx:0 ≤ x
 ·rw [Int.tmod_eq_emod_of_nonneg hx]
  have h1:=Int.emod_nonneg x (by omega:b ≠ 0)
  have h2:=Int.emod_lt_of_pos x h
  omega
 ·have e : x.tmod b = -((-x).tmod b) := by rw [Int.neg_tmod, Int.neg_neg]
  rw [e,Int.tmod_eq_emod_of_nonneg (by omega:0 ≤ -x)]
  have h1:=Int.emod_nonneg (-x) (by omega:b ≠ 0)
  have h2:=Int.emod_lt_of_pos (-x) h
  omega
def qQ (x:Int):Int:=if x < 0 then -x else x
theorem sK {x:Int} {b:Int} (h:-b < x ∧ x < b):0 ≤ qQ x ∧ qQ x < b:=by unfold qQ; split <;> omega
def uQ (r:Rt):Rt where
 re:=r.re.tmod 9
 im:=r.im.tmod 9
 den:=qQ (r.den.tmod 4) + 1
 h1:=by have:=kT r.re (b:=9) (by decide); omega
 h2:=by have:=kT r.re (b:=9) (by decide); omega
 h3:=by have:=kT r.im (b:=9) (by decide); omega
 h4:=by have:=kT r.im (b:=9) (by decide); omega
 h5:=by have:=sK (kT r.den (b:=4) (by decide)); omega
 h6:=by have:=sK (kT r.den (b:=4) (by decide)); omega
def yZ (r:Rt):Rt where
 re:=qQ (uQ r).re + 1
 im:=0
 den:=(uQ r).den
 h1:=by have:=sK (kT r.re (b:=9) (by decide)); show _ ≤ qQ (r.re.tmod 9) + 1; omega
 h2:=by have:=sK (kT r.re (b:=9) (by decide)); show qQ (r.re.tmod 9) + 1 ≤ _; omega
 h3:=by decide
 h4:=by decide
 h5:=(uQ r).h5
 h6:=(uQ r).h6
def zN (l:List Rt) (i:Nat):Rt:=if l.length = 0 then default else l.getD (i % l.length) default
def fA (a:Nat):Nat:=a % 4 + 1
def plZ (a:Nat) (zl:List Rt):List Rt:=tab (fA a) fun i=>yZ (zN zl i)
def Va (a:Nat) (sl:List Rt):List (List Rt):=tab (fA a) fun i=>tab (fA a) fun j=>uQ (zN sl (fA a * i + j))
theorem Ad (r:Rt):eS (yZ r).q = true:=by
 have h1:=sK (kT r.re (b:=9) (by decide))
 have h2:=sK (kT r.den (b:=4) (by decide))
 have hd : (yZ r).d = qQ (r.den.tmod 4) + 1 := by
  show (if qQ (r.den.tmod 4) + 1 = 0 then 1 else qQ (r.den.tmod 4) + 1) = _
  rw [if_neg zo]
 have hq:(yZ r).q = Qi.frac (qQ (r.re.tmod 9) + 1) 0 (qQ (r.den.tmod 4) + 1):=by rw [Rt.q,hd]; rfl
 have hb:(yZ r).q.b = 0:=Qi.b_zero.2 (by rw [hq]; show ((0:Int):Rat) / _ = 0; rw [Rat.div_def]; exact Rat.zero_mul _)
 have ha : 0 < (yZ r).q.a := by
  rw [Qi.a_pos,hq]
  show (0:Rat) < ((qQ (r.re.tmod 9) + 1:Int):Rat) / ((qQ (r.den.tmod 4) + 1:Int):Rat)
  rw [Rat.div_def]
  refine Rat.mul_pos (Rat.intCast_pos.2 zo) (Rat.inv_pos.2 (Rat.intCast_pos.2 zo))
 simp only [eS,hb,ha,and_self,decide_true]
def uJ (x : Qi) (l m : List Qi) : Nat → Qi
 | 0=>x
 | k + 1=>uJ x l m k + gv l k * gv m k
theorem Bq {x : Qi} {l m : List Qi} {L M : Nat} (hx : aH x M) (hl : bH l L) (hm : bH m L) (hL : 1 ≤ L) : ∀ k, aH (uJ x l m k) (M + k * (2 * L + 2))
 | 0=>hx.le zo
 | k + 1 => by
  haveI f1:=Bq hx hl hm hL k
  haveI f2:=hl.get hL k
  haveI f3:=hm.get hL k
  have:aH (uJ x l m (k + 1)) (M + k * (2 * L + 2) + (L + L + 1) + 1):=by unfold uJ; infer_instance
  exact this.le (by rw [Nat.add_mul]; omega)
end
section
open Go Go.RowKit
namespace Qi
def npow' (x : Qi) : Nat → Qi
 | 0=>Qi.ofInt 1
 | k + 1=>npow' x k * x
theorem one_mul2 (x:Qi):Qi.ofInt 1 * x = x:=ext' (by show ((1:Int):Rat) * x.re - 0 * x.im = x.re; grind) (by show ((1:Int):Rat) * x.im + 0 * x.re = x.im; grind)
theorem mul_one2 (x:Qi):x * Qi.ofInt 1 = x:=by rw [mul_comm',one_mul2]
end Qi
instance qiField:Lean.Grind.CommRing Qi where
 natCast:=⟨fun n=>Qi.ofInt n⟩
 ofNat n:=⟨Qi.ofInt n⟩
 nsmul:=⟨fun n x=>Qi.ofInt n * x⟩
 npow:=⟨Qi.npow'⟩
 add_zero:=Qi.add_zero'
 add_comm:=Qi.add_comm'
 add_assoc:=Qi.add_assoc'
 mul_assoc:=Qi.mul_assoc'
 mul_comm:=Qi.mul_comm'
 mul_one:=Qi.mul_one2
 one_mul:=Qi.one_mul2
 left_distrib:=Qi.mul_add'
 right_distrib:=Qi.add_mul'
 zero_mul:=Qi.zero_mul'
 mul_zero:=Qi.mul_zero'
 pow_zero _:=rfl
 pow_succ _ _:=rfl
 ofNat_succ n:=Qi.ext' (by show (((n + 1:Nat):Int):Rat) = ((n:Int):Rat) + ((1:Int):Rat); rw [Int.natCast_add,Rat.intCast_add]; rfl) (by show (0:Rat) = 0 + 0; grind)
 intCast:=⟨Qi.ofInt⟩
 zsmul:=⟨fun n x=>Qi.ofInt n * x⟩
 neg_add_cancel x:=Qi.ext' (by show -x.re + x.re = ((0:Int):Rat); grind) (by show -x.im + x.im = 0; grind)
 sub_eq_add_neg:=Qi.sub_def
 neg_zsmul i x:=Qi.ext' (by show ((-i:Int):Rat) * x.re - 0 * x.im = -((i:Rat) * x.re - 0 * x.im); rw [Rat.intCast_neg]; grind) (by show ((-i:Int):Rat) * x.im + 0 * x.re = -((i:Rat) * x.im + 0 * x.re); rw [Rat.intCast_neg]; grind)
 intCast_neg i:=Qi.ext' (Rat.intCast_neg i) (by show (0:Rat) = -0; grind)
theorem q0:Qi.zero = 0:=rfl
theorem q1:Qi.ofInt 1 = 1:=rfl
theorem oF {x:Qi} (h:x ≠ 0):x * Qi.inv x = 1:=by
 have hn:x.nrm ≠ 0:=fun e=>h (Qi.nrm_zero.1 e)
 have e:x.re * x.re + x.im * x.im = x.nrm:=rfl
 refine Qi.ext' ?_ ?_
 ·show x.re * (x.re / x.nrm) - x.im * (-x.im / x.nrm) = ((1 : Int) : Rat)
  grind
 ·show x.re * (-x.im / x.nrm) + x.im * (x.re / x.nrm) = 0
  grind
theorem sU {x y:Qi} (h:y ≠ 0):x / y * y = x:=by
 rw [Qi.div_def]
 have:=oF h
 grind
theorem Mx {x y z:Qi} (h:y ≠ 0) (e:x = z * y):x / y = z:=by
 have h1:=sU (x:=x) h
 have h2:=oF h
 grind
theorem iS {x y:Qi} (h:x * y = 0):x = 0 ∨ y = 0:=by
 by_cases e:x = 0
 ·exact .inl e
 ·right; have:=oF e; grind
end
section
open Go Go.RowKit
theorem lL (m:Nat) (f:Qi) (a b:Nat → Qi):aB m (fun k=>a k - f * b k) = aB m a - f * aB m b:=by
 induction m with
 | zero=>simp only [aB,q0]; grind
 | succ m ih=>simp only [aB,ih]; grind
theorem bM {m i:Nat} (hi:i < m) {f:Nat → Qi} (h:∀ k,k < m → k ≠ i → f k = 0):aB m f = f i:=by
 induction m with
 | zero=>omega
 | succ m ih =>
  by_cases e:i = m
  ·subst e
   have : aB i f = 0 := by
    rw [← q0,← yQ i]
    exact aA fun k hk=>h k zo zo
   simp only [aB,this]; grind
  ·have h1 := ih zo (fun k hk => h k zo)
   have h2:=h m zo zo
   simp only [aB,h1,h2]; grind
theorem dT {m:Nat} {f:Nat → Qi} (h:∀ k,k < m → f k = 0):aB m f = 0:=by
 rw [← q0,← yQ m]; exact aA h
def Ker (M:List (List Qi)) (n m:Nat) (x:Nat → Qi):Prop:=∀ i,i < n → aB m (fun k=>gm M i k * x k) = 0
def zD (rr rc:List Qi) (c k:Nat):List Qi:=tab rr.length fun j=>if c ≤ j ∧ j < k then gv rr j - gv rr c / gv rc c * gv rc j else gv rr j
def redJ (M:List (List Qi)) (c r:Nat):List (List Qi):=tab M.length fun i=>if i ≠ c ∧ i < r then zD (eE M i) (eE M c) c (eE M i).length else eE M i
def Tf (M : List (List Qi)) : Nat → Option (List (List Qi))
 | 0=>some M
 | c + 1=>(Tf M c).bind fun A=>if pv A c M.length = M.length then none else some (redJ (swp [] A (pv A c M.length) c) c M.length)
theorem a0k (M:List (List Qi)) (c r:Nat):(redJ M c r).length = M.length:=aF _ _
theorem Uf (rr rc:List Qi) (c k:Nat):(zD rr rc c k).length = rr.length:=aF _ _
theorem a0l {M:List (List Qi)} {c r i:Nat} (hi:i < M.length):eE (redJ M c r) i = if i ≠ c ∧ i < r then zD (eE M i) (eE M c) c (eE M i).length else eE M i:=by
 simp only [eE,redJ,List.getD]; rw [bR hi]; rfl
theorem a0m {M:List (List Qi)} {n m c r:Nat} (h:cB M n m):cB (redJ M c r) n m:=by
 refine ⟨(a0k _ _ _).trans h.1,fun x hx=>?_⟩
 obtain ⟨i,hi,rfl⟩:=dN.1 hx
 have hr:=h.row (i:=i) (by rw [← h.1]; exact hi)
 show (if i ≠ c ∧ i < r then zD (eE M i) (eE M c) c (eE M i).length else eE M i).length = m
 split
 ·rw [Uf]; exact hr
 ·exact hr
theorem Al {M:List (List Qi)} {n m c i j:Nat} (h:cB M n m) (hi:i < n) (hj:j < m):gm (redJ M c n) i j = if i ≠ c ∧ c ≤ j then gm M i j - gm M i c / gm M c c * gm M c j else gm M i j:=by
 have hr:(eE M i).length = m:=h.row hi
 show gv (eE (redJ M c n) i) j = _
 rw [a0l (by rw [h.1]; exact hi)]
 by_cases e:i = c
 ·rw [if_neg (fun k=>k.1 e),if_neg (fun k=>k.1 e)]
 ·rw [if_pos ⟨e, hi⟩, zD, fC zo]
  by_cases e2:c ≤ j
  ·rw [if_pos ⟨e2,by omega⟩,if_pos ⟨e,e2⟩]
  ·rw [if_neg (fun k=>e2 k.1),if_neg (fun k=>e2 k.2)]
theorem Oe {M:List (List Qi)} {p c i:Nat} (hp:p < M.length) (hc:c < M.length):eE (swp [] M p c) i = eE M (if i = c then p else if i = p then c else i):=by
 simp only [eE,swp,List.getD]
 by_cases e:i = c
 ·subst e; rw [List.getElem?_set_self (by simpa using hc),if_pos rfl]; rfl
 ·rw [List.getElem?_set_ne (Ne.symm e), if_neg e]
  by_cases e2:i = p
  ·subst e2; rw [List.getElem?_set_self hp,if_pos rfl]; rfl
  ·rw [List.getElem?_set_ne (Ne.symm e2),if_neg e2]
theorem a29 {M:List (List Qi)} {n m p c:Nat} {x:Nat → Qi} (hl:M.length = n) (hp:p < n) (hc:c < n):Ker (swp [] M p c) n m x ↔ Ker M n m x:=by
 have key : ∀ i, gm (swp [] M p c) i = gm M (if i = c then p else if i = p then c else i) := fun i => by
  funext j; exact congrArg (fun r=>gv r j) (Oe zo zo)
 constructor
 ·intro h i hi
  have h1:=h (if i = c then p else if i = p then c else i) (by split <;> (try split) <;> omega)
  rw [key] at h1
  have e : (if (if i = c then p else if i = p then c else i) = c then p else if (if i = c then p else if i = p then c else i) = p then c else (if i = c then p else if i = p then c else i)) = i := by
   by_cases e1:i = c
   ·subst e1; rw [if_pos rfl]
    by_cases e2:p = i
    ·rw [if_pos e2]; exact e2
    ·rw [if_neg e2,if_pos rfl]
   ·rw [if_neg e1]
    by_cases e2:i = p
    ·subst e2; rw [if_pos rfl,if_pos rfl]
    ·rw [if_neg e2,if_neg e1,if_neg e2]
  rw [e] at h1; exact h1
 ·intro h i hi
  rw [key]; exact h _ (by split <;> (try split) <;> omega)
theorem a28 {M:List (List Qi)} {n m c:Nat} {x:Nat → Qi} (hs:cB M n m) (hc:c < n) (hz:∀ j,j < c → gm M c j = 0):Ker (redJ M c n) n m x ↔ Ker M n m x:=by
 have key : ∀ i, i < n → i ≠ c → aB m (fun k => gm (redJ M c n) i k * x k) = aB m (fun k => gm M i k * x k) - gm M i c / gm M c c * aB m (fun k => gm M c k * x k) := fun i hi e => by
  rw [← lL]
  refine aA fun k hk=>?_
  rw [Al hs hi hk]
  by_cases e2:c ≤ k
  ·rw [if_pos ⟨e,e2⟩]; grind
  ·rw [if_neg (fun h=>e2 h.2),hz k zo]; grind
 have keyc:aB m (fun k=>gm (redJ M c n) c k * x k) = aB m (fun k=>gm M c k * x k):=aA fun k hk=>by rw [Al hs hc hk,if_neg (fun h=>h.1 rfl)]
 constructor
 ·intro h i hi
  have h0:=h c hc
  rw [keyc] at h0
  by_cases e:i = c
  ·rw [e]; exact h0
  ·have h1 := h i hi
   rw [key i hi e,h0] at h1
   grind
 ·intro h i hi
  have h0:=h c hc
  by_cases e:i = c
  ·rw [e,keyc]; exact h0
  ·rw [key i hi e,h0,h i hi]; grind
structure GJ (M A:List (List Qi)) (n m c:Nat):Prop where
 sh:cB A n m
 ker:∀ x,Ker A n m x ↔ Ker M n m x
 off:∀ j,j < c → ∀ i,i < n → i ≠ j → gm A i j = 0
 dg:∀ j,j < c → gm A j j ≠ 0
theorem GJ.next {M A:List (List Qi)} {n m c p:Nat} (h:GJ M A n m c) (hc:c < n) (hnm:n ≤ m) (hcp:c ≤ p) (hp:p < n) (hz:gm A p c ≠ 0):GJ M (redJ (swp [] A p c) c n) n m (c + 1):=by
 have hs:cB (swp [] A p c) n m:=Aw h.sh hp hc
 have hl:=h.sh.1
 have key : ∀ i, gm (swp [] A p c) i = gm A (if i = c then p else if i = p then c else i) := fun i => by
  funext j; exact congrArg (fun r=>gv r j) (Oe zo zo)
 have hcc:gm (swp [] A p c) c c ≠ 0:=by rw [key,if_pos rfl]; exact hz
 have hoff : ∀ j, j < c → ∀ i, i < n → i ≠ j → gm (swp [] A p c) i j = 0 := fun j hj i hi hij => by
  rw [key]
  by_cases e1:i = c
  ·rw [if_pos e1]; exact h.off j hj p hp zo
  ·rw [if_neg e1]
   by_cases e2:i = p
   ·rw [if_pos e2]; exact h.off j hj c hc zo
   ·rw [if_neg e2]; exact h.off j hj i hi hij
 refine ⟨a0m hs,fun x=>(a28 hs hc (fun j hj=>hoff j hj c hc zo)).trans ((a29 hl hp hc).trans (h.ker x)),fun j hj i hi hij=>?_,fun j hj=>?_⟩
 ·rw [Al hs hi zo]
  by_cases e:j = c
  ·subst e
   rw [if_pos ⟨hij,Nat.le_refl _⟩]
   have:=sU (x:=gm (swp [] A p j) i j) hcc
   grind
  ·rw [if_neg (fun k=>by omega)]; exact hoff j zo i hi hij
 ·rw [Al hs zo zo]
  by_cases e:j = c
  ·subst e; rw [if_neg (fun k=>k.1 rfl)]; exact hcc
  ·rw [if_neg (fun k=>by omega),key,if_neg zo,if_neg zo]; exact h.dg j zo
theorem Yc {M : List (List Qi)} {n m : Nat} (hs : cB M n m) (hnm : n ≤ m) : ∀ {c : Nat} {A : List (List Qi)}, c ≤ n → Tf M c = some A → GJ M A n m c
 | 0, A, _, h => by
  obtain rfl:=Option.some.inj h
  exact ⟨hs,fun _=>Iff.rfl,fun j hj=>by omega,fun j hj=>by omega⟩
 | c + 1, A, hc, h => by
  simp only [Tf] at h
  obtain ⟨B,h1,h2⟩:=Option.bind_eq_some_iff.1 h
  split at h2
  ·cases h2
  ·rename_i e
   obtain rfl:=Option.some.inj h2
   have ih:=Yc hs hnm (c:=c) zo h1
   rw [hs.1] at e ⊢
   obtain ⟨_,i2,i3,i4⟩:=nX (M:=B) (c:=c) (n:=n) zo
   exact ih.next zo hnm i2 zo (i4 zo)
theorem a4A {l:List Qi} {z:Qi} {k:Nat} (h:k < l.length):gv (l ++ [z]) k = gv l k:=by
 simp only [gv,List.getD]; rw [List.getElem?_append_left h]
theorem a4B {l:List Qi} {z:Qi}:gv (l ++ [z]) l.length = z:=by
 simp [gv,List.getD]
theorem a63 {M:List (List Qi)} {b:List Qi} {n i:Nat} (h:cB M n n) (hi:i < n):(∀ k,k < n → gm (kN M [b] n) i k = gm M i k) ∧ gm (kN M [b] n) i n = gv b i:=by
 obtain ⟨r,hr⟩:∃ r,r = eE M i:=⟨_,rfl⟩
 have hl:r.length = n:=by rw [hr]; exact h.row hi
 have e : eE (kN M [b] n) i = r ++ [gv b i] := by
  rw [hr]; simp only [eE,kN,List.getD]; rw [bR hi]; rfl
 refine ⟨fun k hk=>?_,?_⟩
 ·show gv (eE (kN M [b] n) i) k = gv (eE M i) k
  rw [e,← hr,a4A zo]
 ·show gv (eE (kN M [b] n) i) n = gv b i
  rw [e,← hl,a4B]
theorem Mt {M:List (List Qi)} {b:List Qi} {n i:Nat} (h:cB M n n) (hi:i < n) (x:Nat → Qi):aB (n + 1) (fun k=>gm (kN M [b] n) i k * x k) = aB n (fun k=>gm M i k * x k) + gv b i * x n:=by
 obtain ⟨h1,h2⟩:=a63 (b:=b) h hi
 simp only [aB,h2]
 rw [aA (fun k hk=>by rw [h1 k hk])]
theorem Ue {rr rc : List Qi} {L c k : Nat} (h1 : bH rr L) (h2 : bH rc L) (hL : 1 ≤ L) (hp : gv rc c ≠ Qi.zero) : bH (zD rr rc c k) (6 * L + 4) := bH.tab fun j _ => by
 split
 ·exact Pu h1 h2 hL hp
 ·exact (h1.get hL j).le zo
theorem a0j {M : List (List Qi)} {L c r : Nat} (h : bA M L) (hL : 1 ≤ L) (hp : gm M c c ≠ Qi.zero) : bA (redJ M c r) (6 * L + 4) := fun x hx => by
 obtain ⟨i,hi,rfl⟩:=dN.1 hx
 show bH (if i ≠ c ∧ i < r then zD (eE M i) (eE M c) c (eE M i).length else eE M i) _
 split
 ·exact Ue (h.row i) (h.row c) hL hp
 ·exact (h.row i).le zo
theorem Yb {M : List (List Qi)} {n m L : Nat} (hs : cB M n m) (hnm : n ≤ m) (h : bA M L) (hL : 1 ≤ L) : ∀ {c : Nat} {A : List (List Qi)}, c ≤ n → Tf M c = some A → bA A (jQ L c)
 | 0,A,_,e=>by obtain rfl:=Option.some.inj e; exact h
 | c + 1, A, hc, e => by
  simp only [Tf] at e
  obtain ⟨B,h1,h2⟩:=Option.bind_eq_some_iff.1 e
  split at h2
  ·cases h2
  ·rename_i e3
   obtain rfl:=Option.some.inj h2
   have ih:=Yb hs hnm h hL (c:=c) zo h1
   have hsB:=(Yc hs hnm (c:=c) zo h1).sh
   rw [hs.1] at e3 ⊢
   obtain ⟨_,i2,i3,i4⟩:=nX (M:=B) (c:=c) (n:=n) zo
   refine a0j (Il ih) (Nat.le_trans hL (qH L c)) ?_
   show gv (eE (swp [] _ _ c) c) c ≠ _
   rw [yR (by rw [hsB.1]; omega)]
   exact i4 zo
end
section
open Go Go.RowKit
def a5s (a b:List (List Qi)) (x y i:Nat):List Qi:=tab (x + y) fun j=>if i < x then (if j < x then gm a i j else Qi.zero) else (if x ≤ j then gm b (i - x) (j - x) else Qi.zero)
def rG (a b:List (List Qi)) (x y:Nat):List (List Qi):=tab (x + y) (a5s a b x y)
theorem oJ (a b:List (List Qi)) (x y:Nat):cB (rG a b x y) (x + y) (x + y):=⟨aF _ _,fun r hr=>by obtain ⟨i,_,rfl⟩:=dN.1 hr; exact aF _ _⟩
theorem a0w {a b : List (List Qi)} {x y L : Nat} (ha : bA a L) (hb : bA b L) (hL : 1 ≤ L) : bA (rG a b x y) L := fun r hr => by
 obtain ⟨i,_,rfl⟩:=dN.1 hr
 refine bH.tab fun j _=>?_
 split
 ·split
  ·exact ha.get hL _ _
  ·exact aH.zero hL
 ·split
  ·exact hb.get hL _ _
  ·exact aH.zero hL
theorem iQ {a b:List (List Qi)} {x y i j:Nat} (hi:i < x + y) (hj:j < x + y):gm (rG a b x y) i j = if i < x then (if j < x then gm a i j else Qi.zero) else (if x ≤ j then gm b (i - x) (j - x) else Qi.zero):=by
 have e:(rG a b x y).getD i [] = a5s a b x y i:=by rw [rG,List.getD,bR hi]; rfl
 show gv ((rG a b x y).getD i []) j = _
 rw [e,a5s,fC hj]
end
section
open Go Go.RowKit
abbrev pA (ps:List (Nat × Nat)) (k:Nat):Nat:=(ps.getD k (0,0)).1
abbrev pB (ps:List (Nat × Nat)) (k:Nat):Nat:=(ps.getD k (0,0)).2
end
section
open Go Go.RowKit
theorem sX {l:List Qi} {t k:Nat} {v:Qi} (ht:t < l.length):gv (l.set t v) k = if k = t then v else gv l k:=by
 simp only [gv,List.getD]
 by_cases e:k = t
 ·subst e; rw [if_pos rfl,List.getElem?_set_self ht]; rfl
 ·rw [if_neg e,List.getElem?_set_ne (Ne.symm e)]
end
section
open Go Go.RowKit
def wC (A:List (List Qi)) (c i j:Nat):Qi:=if j < c ∧ j < i then 0 else gm A i j
def wE (F:Nat → Nat → Qi) (n m:Nat) (x:Nat → Qi):Prop:=∀ i,i < n → aB m (fun k=>F i k * x k) = 0
theorem Cg {F G:Nat → Nat → Qi} {n m:Nat} {x:Nat → Qi} (h:∀ i,i < n → ∀ j,j < m → F i j = G i j):wE F n m x ↔ wE G n m x:=by
 have e:∀ i,i < n → aB m (fun k=>F i k * x k) = aB m (fun k=>G i k * x k):=fun i hi=>aA fun k hk=>by rw [h i hi k hk]
 exact ⟨fun k i hi=>by rw [← e i hi]; exact k i hi,fun k i hi=>by rw [e i hi]; exact k i hi⟩
def Rm (p c i:Nat):Nat:=if i = c then p else if i = p then c else i
theorem In {p c i n:Nat} (hp:p < n) (hc:c < n) (hi:i < n):Rm p c i < n:=by unfold Rm; split <;> (try split) <;> omega
theorem Rn (p c i:Nat):Rm p c (Rm p c i) = i:=by
 unfold Rm
 by_cases e1:i = c
 ·subst e1
  rw [if_pos rfl]
  by_cases e2:p = i
  ·rw [if_pos e2]; exact e2
  ·rw [if_neg e2,if_pos rfl]
 ·rw [if_neg e1]
  by_cases e2:i = p
  ·subst e2; rw [if_pos rfl,if_pos rfl]
  ·rw [if_neg e2,if_neg e1,if_neg e2]
theorem Kg {F : Nat → Nat → Qi} {n m p c : Nat} {x : Nat → Qi} (hp : p < n) (hc : c < n) : wE (fun i => F (Rm p c i)) n m x ↔ wE F n m x :=
 ⟨fun h i hi=>by have:=h _ (In hp hc hi); simp only [Rn] at this; exact this,fun h i hi=>h _ (In hp hc hi)⟩
theorem Yw {F G:Nat → Nat → Qi} {n m c:Nat} {x f:Nat → Qi} (hc:c < n) (hG:∀ i,i < n → ∀ j,j < m → G i j = if c < i then F i j - f i * F c j else F i j):wE G n m x ↔ wE F n m x:=by
 have key : ∀ i, i < n → aB m (fun k => G i k * x k) = if c < i then aB m (fun k => F i k * x k) - f i * aB m (fun k => F c k * x k) else aB m (fun k => F i k * x k) := fun i hi => by
  by_cases e:c < i
  ·rw [if_pos e, ← lL]
   exact aA fun k hk=>by rw [hG i hi k hk,if_pos e]; grind
  ·rw [if_neg e]
   exact aA fun k hk=>by rw [hG i hi k hk,if_neg e]
 have kc:=key c hc
 rw [if_neg zo] at kc
 constructor
 ·intro h i hi
  have h0:=h c hc
  rw [kc] at h0
  have h1:=h i hi
  rw [key i hi] at h1
  by_cases e:c < i
  ·rw [if_pos e,h0] at h1; grind
  ·rw [if_neg e] at h1; exact h1
 ·intro h i hi
  rw [key i hi]
  by_cases e:c < i
  ·rw [if_pos e,h i hi,h c hc]; grind
  ·rw [if_neg e]; exact h i hi
theorem a2X {M:List (List Qi)} {n m c i j:Nat} (h:cB M n m) (hi:i < n) (hj:j < m):gm (redM M c n) i j = if c < i ∧ c < j then gm M i j - gm M i c / gm M c c * gm M c j else gm M i j:=by
 have hr:(eE M i).length = m:=h.row hi
 have e0 : eE (redM M c n) i = if c < i ∧ i < n then lY (eE M i) (eE M c) c (eE M i).length else eE M i := by
  simp only [eE,redM,List.getD]; rw [bR (by rw [h.1]; exact hi)]; rfl
 show gv (eE (redM M c n) i) j = _
 rw [e0]
 by_cases e:c < i
 ·rw [if_pos ⟨e, hi⟩, lY, fC zo]
  by_cases e2:c < j
  ·rw [if_pos ⟨e2,by omega⟩,if_pos ⟨e,e2⟩]
  ·rw [if_neg (fun k=>e2 k.1),if_neg (fun k=>e2 k.2)]
 ·rw [if_neg (fun k=>e k.1),if_neg (fun k=>e k.1)]
theorem a1x {A:List (List Qi)} {p c i j:Nat} (hc:c < A.length) (hp:p < A.length) (hcp:c ≤ p):wC (swp [] A p c) c i j = wC A c (Rm p c i) j:=by
 have key:gm (swp [] A p c) i j = gm A (Rm p c i) j:=congrArg (fun r=>gv r j) (Oe zo zo)
 unfold wC
 rw [key]
 have e:(j < c ∧ j < i) ↔ (j < c ∧ j < Rm p c i):=by unfold Rm; split <;> (try split) <;> omega
 by_cases h:j < c ∧ j < i
 ·rw [if_pos h,if_pos (e.1 h)]
 ·rw [if_neg h,if_neg (fun k=>h (e.2 k))]
structure EL (M A:List (List Qi)) (n m c:Nat):Prop where
 sh:cB A n m
 ker:∀ x,wE (wC A c) n m x ↔ wE (gm M) n m x
theorem EL.next {M A:List (List Qi)} {n m c p:Nat} (h:EL M A n m c) (hc:c < n) (hcm:c < m) (hcp:c ≤ p) (hp:p < n) (hz:gm A p c ≠ 0):EL M (redM (if p = c then A else swp [] A p c) c n) n m (c + 1):=by
 have hl:=h.sh.1
 obtain ⟨B,hB⟩:∃ B,B = if p = c then A else swp [] A p c:=⟨_,rfl⟩
 have hs : cB B n m := by
  rw [hB]; split
  ·exact h.sh
  ·exact Aw h.sh hp hc
 have hBk : ∀ x, wE (wC B c) n m x ↔ wE (gm M) n m x := fun x => by
  rw [hB]; split
  ·exact h.ker x
  ·exact (Cg (G:=fun i=>wC A c (Rm p c i)) fun i hi j hj=>a1x zo zo hcp).trans ((Kg hp hc).trans (h.ker x))
 have hBz : gm B c c ≠ 0 := by
  rw [hB]; split
  ·rename_i e; rw [← e] at hz ⊢; exact hz
  ·show gv (eE (swp [] A p c) c) c ≠ 0
   rw [yR zo]; exact hz
 rw [← hB]
 refine ⟨La hs,fun x=>(Yw (f:=fun i=>gm B i c / gm B c c) hc fun i hi j hj=>?_).trans (hBk x)⟩
 have hd:=sU (x:=gm B i c) hBz
 unfold wC
 rw [a2X hs hi hj]
 by_cases e:c < i
 ·rw [if_pos e]
  by_cases e1:j < c
  ·rw [if_pos zo,if_pos zo,if_pos zo]; grind
  ·by_cases e2 : j = c
   ·subst e2
    rw [if_pos zo,if_neg zo,if_neg zo]; grind
   ·rw [if_neg zo,if_pos zo,if_neg zo,if_neg zo]
 ·rw [if_neg e, if_neg (show ¬ (c < i ∧ c < j) from fun k => e k.1)]
  by_cases e1:j < i
  ·rw [if_pos (show j < c + 1 ∧ j < i by omega),if_pos (show j < c ∧ j < i by omega)]
  ·rw [if_neg (show ¬ (j < c + 1 ∧ j < i) by omega),if_neg (show ¬ (j < c ∧ j < i) by omega)]
theorem Gn {M : List (List Qi)} {n m : Nat} (hs : cB M n m) (hnm : n ≤ m) : ∀ {c : Nat}, c ≤ n → (cE M c).2.2 < 0 → EL M (cE M c).1 n m c
 | 0,_,_=>⟨hs,fun x=>Cg fun i _ j _=>by unfold wC; rw [if_neg zo]; rfl⟩
 | c + 1, hc, h => by
  obtain ⟨i1,i2,i3,i4⟩:=nX (M:=(cE M c).1) (c:=c) (n:=M.length) (by rw [hs.1]; omega)
  simp only [cE] at h ⊢
  by_cases e:0 ≤ (cE M c).2.2
  ·rw [if_pos e] at h; omega
  ·rw [if_neg e] at h ⊢
   have ih:=Gn hs hnm (c:=c) zo zo
   by_cases e2:pv (cE M c).1 c M.length = M.length
   ·rw [if_pos e2] at h; simp only at h; omega
   ·rw [if_neg e2]
    rw [hs.1] at i3 i4 e2 ⊢
    exact ih.next zo zo (by rw [hs.1] at i2; exact i2) zo (i4 zo)
theorem Et {M : List (List Qi)} : ∀ {n : Nat}, 0 ≤ (cE M n).2.2 → ∃ c, c < n ∧ (cE M c).2.2 < 0 ∧ pv (cE M c).1 c M.length = M.length
 | 0,h=>absurd h (by show ¬ (0:Int) ≤ -1; omega)
 | c + 1, h => by
  by_cases e:0 ≤ (cE M c).2.2
  ·obtain ⟨d, h1, h2⟩ := Et e
   exact ⟨d,by omega,h2⟩
  ·simp only [cE] at h
   rw [if_neg e] at h
   by_cases e2:pv (cE M c).1 c M.length = M.length
   ·exact ⟨c,by omega,by omega,e2⟩
   ·rw [if_neg e2] at h; simp only at h; omega
theorem wA {U : List (List Qi)} {x y : List Qi} {n c : Nat} : ∀ {K : Nat}, (∀ k, k < K → gv x (c + 1 + k) = gv y (c + 1 + k)) → oP U x n c K = oP U y n c K
 | 0,_=>rfl
 | K + 1,h=>by rw [oP,oP,wA (fun k hk=>h k zo),h K zo]
theorem Lk (U : List (List Qi)) (x : List Qi) (n c : Nat) : ∀ K, oP U x n c K = gm U c n - aB K (fun k => gm U c (c + 1 + k) * gv x (c + 1 + k))
 | 0=>by simp only [oP,aB,q0]; grind
 | K + 1=>by simp only [oP,aB,Lk U x n c K]; grind
theorem Vs {U : List (List Qi)} {n : Nat} : ∀ {j : Nat}, j ≤ n → ∀ c, n - j ≤ c → c < n → gv (nR U n j) c = oP U (nR U n j) n c (n - 1 - c) / gm U c c
 | 0,_,c,h1,h2=>by omega
 | j + 1, hj, c, h1, h2 => by
  have hl:=tO U n j
  rw [nR]
  by_cases e:c = n - (j + 1)
  ·subst e
   rw [sX zo,if_pos rfl,show n - 1 - (n - (j + 1)) = j by omega]
   rw [wA (x:=(nR U n j).set _ _) (y:=nR U n j) fun k hk=>by rw [sX zo,if_neg zo]]
  ·rw [sX zo, if_neg e, Vs (j := j) zo c zo h2]
   rw [wA (x:=(nR U n j).set _ _) (y:=nR U n j) fun k hk=>by rw [sX zo,if_neg zo]]
theorem rI (a : Nat) (f : Nat → Qi) : ∀ b, aB (a + b) f = aB a f + aB b fun k => f (a + k)
 | 0=>by simp only [aB,q0,Nat.add_zero]; grind
 | b + 1=>by rw [← Nat.add_assoc]; simp only [aB,rI a f b]; grind
theorem Rp {U:List (List Qi)} {n i:Nat} (hi:i < n) (y:Nat → Qi):aB n (fun k=>wC U n i k * y k) = gm U i i * y i + aB (n - 1 - i) fun k=>gm U i (i + 1 + k) * y (i + 1 + k):=by
 have e:n = i + 1 + (n - 1 - i):=by omega
 have h1:aB i (fun k=>wC U n i k * y k) = 0:=dT fun k hk=>by unfold wC; rw [if_pos zo]; grind
 have h2:wC U n i i = gm U i i:=by unfold wC; rw [if_neg zo]
 have h3:aB (n - 1 - i) (fun k=>wC U n i (i + 1 + k) * y (i + 1 + k)) = aB (n - 1 - i) fun k=>gm U i (i + 1 + k) * y (i + 1 + k):=aA fun k hk=>by unfold wC; rw [if_neg zo]
 have h4:=rI (i + 1) (fun k=>wC U n i k * y k) (n - 1 - i)
 rw [← e] at h4
 rw [h4,h3]
 simp only [aB,h1,h2]; grind
theorem Ro {U:List (List Qi)} {n i:Nat} (hd:∀ j,j < n → gm U j j ≠ 0) (hi:i < n):aB n (fun k=>wC U n i k * gv (nR U n n) k) = gm U i n:=by
 rw [Rp hi,Vs (Nat.le_refl n) i zo hi,Lk]
 have:=sU (x:=gm U i n - aB (n - 1 - i) (fun k=>gm U i (i + 1 + k) * gv (nR U n n) (i + 1 + k))) (hd i hi)
 grind
theorem Lp {U : List (List Qi)} {n : Nat} (hd : ∀ j, j < n → gm U j j ≠ 0) {y : Nat → Qi} (h : ∀ i, i < n → aB n (fun k => wC U n i k * y k) = 0) : ∀ t k, n - t ≤ k → k < n → y k = 0
 | 0,k,h1,h2=>by omega
 | t + 1, k, h1, h2 => by
  have h3:=h k h2
  rw [Rp h2,dT (fun j hj=>by rw [Lp hd h t (k + 1 + j) zo zo]; grind)] at h3
  rcases iS (x:=gm U k k) (y:=y k) (by grind) with h4 | h4
  ·exact absurd h4 (hd k h2)
  ·exact h4
theorem mE {M:List (List Qi)} {b:List Qi} {n:Nat} (h:cB M n n) (hE:jA M b n = 0):(∀ i,i < n → aB n (fun k=>gm M i k * gv (iE M b n) k) = gv b i) ∧ ∀ y:Nat → Qi,(∀ i,i < n → aB n (fun k=>gm M i k * y k) = 0) → ∀ k,k < n → y k = 0:=by
 have hcs:cB (kN M [b] n) n (n + 1):=lO h
 have hst : (qO M b n).2.2 < 0 := by
  unfold jA at hE
  by_cases e:0 ≤ (qO M b n).2.2
  ·rw [if_pos e] at hE; omega
  ·omega
 have hg:=Gn hcs (Nat.le_succ n) (Nat.le_refl n) hst
 have hd:=pI hcs (Nat.le_refl n) hst
 obtain ⟨U,hU⟩:∃ U,U = (qO M b n).1:=⟨_,rfl⟩
 have hX:iE M b n = nR U n n:=by rw [hU]; rfl
 have hU2:(cE (kN M [b] n) n).1 = U:=hU.symm
 rw [hU2] at hg hd
 rw [hX]
 refine ⟨fun i hi=>?_,fun y hy k hk=>?_⟩
 ·have h1 := (hg.ker fun k => if k < n then gv (nR U n n) k else -1).1 (fun i hi => by
   simp only [aB]
   rw [aA (g:=fun k=>wC U n i k * gv (nR U n n) k) (fun k hk=>by rw [if_pos hk]),Ro hd hi,if_neg zo,show wC U n i n = gm U i n by unfold wC; rw [if_neg zo]]
   grind) i hi
  rw [Mt h hi,aA (g:=fun k=>gm M i k * gv (nR U n n) k) (fun k hk=>by rw [if_pos hk]),if_neg zo] at h1
  grind
 ·have h1 := (hg.ker fun k => if k < n then y k else 0).2 (fun i hi => by
   rw [Mt h hi,aA (g:=fun k=>gm M i k * y k) (fun k hk=>by rw [if_pos hk]),if_neg zo,hy i hi]; grind)
  refine Lp (y:=y) hd (fun i hi=>?_) n k zo hk
  have h2:=h1 i hi
  simp only [aB] at h2
  rw [aA (g:=fun k=>wC U n i k * y k) (fun k hk=>by rw [if_pos hk]),if_neg zo] at h2
  grind
theorem xQ {M:List (List Qi)} {b:List Qi} {n:Nat} (h:cB M n n) (hE:jA M b n ≠ 0):∃ y:Nat → Qi,(∀ i,i < n → aB n (fun k=>gm M i k * y k) = 0) ∧ ∃ k,k < n ∧ y k ≠ 0:=by
 have hcs:cB (kN M [b] n) n (n + 1):=lO h
 have hst : 0 ≤ (qO M b n).2.2 := by
  unfold jA at hE
  by_cases e:0 ≤ (qO M b n).2.2
  ·exact e
  ·rw [if_neg e] at hE; exact absurd rfl hE
 obtain ⟨c,hc,hA,hp⟩:=Et hst
 have hg:=Gn hcs (Nat.le_succ n) zo hA
 have hd:=pI hcs zo hA
 obtain ⟨U,hU⟩:∃ U,U = (cE (kN M [b] n) c).1:=⟨_,rfl⟩
 rw [← hU] at hg hd hp
 rw [hcs.1] at hp
 have hz:=(nX (M:=U) (c:=c) (n:=n) zo).1
 rw [hp] at hz
 have key := (hg.ker fun k => if k < c then gv (nR U c c) k else if k = c then -1 else 0).1 (fun i hi => by
  have e:n + 1 = c + (1 + (n - c)):=by omega
  rw [e,rI,rI]
  have z3:aB (n - c) (fun k=>wC U c i (c + (1 + k)) * (if c + (1 + k) < c then gv (nR U c c) (c + (1 + k)) else if c + (1 + k) = c then -1 else 0)) = 0:=dT fun k hk=>by rw [if_neg zo,if_neg zo]; grind
  have z2 : aB 1 (fun k => wC U c i (c + k) * (if c + k < c then gv (nR U c c) (c + k) else if c + k = c then -1 else 0)) = wC U c i c * -1 := by
   rw [De,if_neg zo,if_pos zo]; rfl
  have z1:aB c (fun k=>wC U c i k * (if k < c then gv (nR U c c) k else if k = c then -1 else 0)) = aB c (fun k=>wC U c i k * gv (nR U c c) k):=aA fun k hk=>by rw [if_pos hk]
  rw [z1,z2,z3]
  have zc:wC U c i c = gm U i c:=by unfold wC; rw [if_neg zo]
  rw [zc]
  by_cases e2:i < c
  ·rw [Ro hd e2]; grind
  ·rw [hz i zo hi,dT (fun k hk=>by unfold wC; rw [if_pos zo]; grind),q0]; grind)
 refine ⟨fun k=>if k < c then gv (nR U c c) k else if k = c then -1 else 0,fun i hi=>?_,c,hc,?_⟩
 ·have h1 := key i hi
  rw [Mt h hi,if_neg zo,if_neg zo] at h1
  grind
 ·show (if c < c then gv (nR U c c) c else if c = c then (-1 : Qi) else 0) ≠ 0
  rw [if_neg zo,if_pos rfl]
  intro e
  exact absurd (congrArg Qi.re e) (by decide)
end
section
open Go Go.RowKit
abbrev gnI (G:List Nat):List Int:=G.map fun (q:Nat)=>(q:Int) + 1
def eO (G : List Nat) : Nat → List Nat
 | 0=>[]
 | k + 1=>eO G k ++ (if k ∈ G then [] else [k])
theorem Af (G : List Nat) : ∀ k, (eO G k).length ≤ k
 | 0=>Nat.le_refl _
 | k + 1 => by
  have:=Af G k
  simp only [eO,List.length_append]
  split
  ·simp; omega
  ·simp; omega
theorem yJ {G : List Nat} : ∀ {k x : Nat}, x ∈ eO G k → x < k
 | 0,x,h=>by cases h
 | k + 1, x, h => by
  rcases List.mem_append.1 h with h1 | h1
  ·have:=yJ h1; omega
  ·split at h1
   ·cases h1
   ·have:=List.mem_singleton.1 h1; omega
theorem Hd {p : Nat} : ∀ {k : Nat}, eO [p] k = tab (Su p k) (nP p)
 | 0=>by rw [eO,show Su p 0 = 0 by unfold Su; split <;> omega]; rfl
 | k + 1 => by
  rw [eO,Hd]
  by_cases c:k = p
  ·subst c
   rw [if_pos (by simp),List.append_nil,show Su k (k + 1) = Su k k by unfold Su; split <;> split <;> omega]
  ·rw [if_neg (by simpa using c)]
   have e1:nP p (Su p k) = k:=by unfold nP Su; split <;> split <;> omega
   have e2:Su p (k + 1) = Su p k + 1:=by unfold Su; split <;> split <;> omega
   rw [e2,lM,e1]
theorem a2a {p n:Nat} (h:p < n):(eO [p] n).map Nat.succ = Ci p (n - 1):=by rw [Hd,Pn h,qL]; rfl
theorem Yg {G:List Nat} {i:Nat}:((gnI G).any fun x=>decide (((i + 1:Nat):Int) = x)) = decide (i ∈ G):=by
 rw [Bool.eq_iff_iff]
 simp only [gnI,List.any_map,List.any_eq_true,Function.comp,decide_eq_true_eq]
 constructor
 ·rintro ⟨q, h1, h2⟩
  obtain rfl:i = q:=by omega
  exact h1
 ·intro h; exact ⟨i,h,by omega⟩
abbrev cD (Q:List Nat) (i:Nat):Nat:=Q.getD i 0
def mF (z:List Qi) (Q:List Nat):List Qi:=tab Q.length fun i=>gv z (cD Q i)
def pF (s:List (List Qi)) (Q:List Nat):List (List Qi):=tab Q.length fun i=>tab Q.length fun j=>gm s (cD Q i) (cD Q j)
theorem pU {Q:List Nat} {n i:Nat} (h:∀ x,x ∈ Q → x < n) (hi:i < Q.length):cD Q i < n:=h _ (by rw [show cD Q i = Q[i] by simp [cD,List.getD,hi]]; exact List.getElem_mem hi)
theorem pG {Q:List Nat} {i:Nat} (h:i < Q.length):(Q.map Nat.succ)[i]? = some (cD Q i + 1):=by simp [cD,List.getD,h]
theorem Df {m i:Nat} {p:Nat} (h:i < m):cD (tab m (nP p)) i = nP p i:=kJ h
theorem a0K (z:List Qi) (p m:Nat):mF z (tab m (nP p)) = Uc z p m:=by
 rw [mF,aF]; exact bT fun i hi=>by rw [Df hi]
theorem a0I (s:List (List Qi)) (p m:Nat):pF s (tab m (nP p)) = a6p s p m:=by
 rw [pF,aF]; exact bT fun i hi=>bT fun j hj=>by rw [Df hi,Df hj]
theorem a3a {p m n : Nat} (hp : p < n) (hm : m = n - 1) : ∀ x, x ∈ tab m (nP p) → x < n := fun x hx => by
 obtain ⟨i,hi,rfl⟩:=dN.1 hx; exact Oa zo hp
theorem a2c (p m:Nat):(tab m (nP p)).map Nat.succ = Ci p m:=by rw [qL]; rfl
end
section
open Go Go.RowKit
def gq (ps:List (Nat × Nat)) (x:Nat):Nat:=if x % 2 = 0 then pA ps (x / 2) else pB ps (x / 2)
def jW (x:Nat):Nat:=if x % 2 = 0 then x + 1 else x - 1
theorem sA (x:Nat):jW (jW x) = x:=by unfold jW; split <;> split <;> omega
theorem oO {x k:Nat} (h:x < 2 * k):jW x < 2 * k:=by unfold jW; split <;> omega
theorem a1V (ps:List (Nat × Nat)) (k:Nat):gq ps (2 * k) = pA ps k:=by unfold gq; rw [if_pos zo,show 2 * k / 2 = k by omega]
theorem a4z (ps:List (Nat × Nat)) (k:Nat):gq ps (2 * k + 1) = pB ps k:=by unfold gq; rw [if_neg zo,show (2 * k + 1) / 2 = k by omega]
structure Jn (ps:List (Nat × Nat)) (n K:Nat):Prop where
 lt:∀ x,x < 2 * K → gq ps x < n
 inj:∀ x y,x < 2 * K → y < 2 * K → gq ps x = gq ps y → x = y
theorem Jn.le {ps:List (Nat × Nat)} {n K k:Nat} (h:Jn ps n K) (hk:k ≤ K):Jn ps n k:=⟨fun x hx=>h.lt x zo,fun x y hx hy=>h.inj x y zo zo⟩
def nU (S:List (List Qi)) (ps:List (Nat × Nat)) (m:Nat):List (List Qi):=tab m fun x=>tab m fun y=>(if x = y then Qi.ofInt 1 else Qi.ofInt 0) - gm S (gq ps (jW x)) (gq ps y)
def zA (S:List (List Qi)) (ps:List (Nat × Nat)) (m b:Nat):List Qi:=tab m fun x=>gm S (gq ps (jW x)) b
theorem nV (S:List (List Qi)) (ps:List (Nat × Nat)) (m:Nat):cB (nU S ps m) m m:=cB.tab
theorem Qf {S:List (List Qi)} {ps:List (Nat × Nat)} {m x:Nat} (hx:x < m) (v:Nat → Qi):aB m (fun y=>gm (nU S ps m) x y * v y) = v x - aB m fun y=>gm S (gq ps (jW x)) (gq ps y) * v y:=by
 have e : ∀ y, y < m → gm (nU S ps m) x y * v y = (if y = x then v x else 0) - 1 * (gm S (gq ps (jW x)) (gq ps y) * v y) := fun y hy => by
  have : gm (nU S ps m) x y = (if x = y then Qi.ofInt 1 else Qi.ofInt 0) - gm S (gq ps (jW x)) (gq ps y) := by
   show gv ((nU S ps m).getD x []) y = _
   rw [nU,kJ hx,fC hy]
  rw [this]
  by_cases c:y = x
  ·subst c; rw [if_pos rfl,if_pos rfl,q1]; grind
  ·rw [if_neg c,if_neg (Ne.symm c),show Qi.ofInt 0 = (0:Qi) from rfl]; grind
 rw [aA e,lL,bM hx (fun k _ hk=>if_neg hk),if_pos rfl]; grind
theorem Mz {S:List (List Qi)} {ps:List (Nat × Nat)} {m b x:Nat} (hx:x < m):gv (zA S ps m b) x = gm S (gq ps (jW x)) b:=fC hx
def xA (S:List (List Qi)) (ps:List (Nat × Nat)) (m a b:Nat):Qi:=gm S a b + aB m fun y=>gm S a (gq ps y) * gv (iE (nU S ps m) (zA S ps m b) m) y
end
section
open Go Go.RowKit
def a0G (x y:Nat):Int:=if 8 < x + y then 4 else 0
def a3d (z zb:List Qi):List Qi:=iC (a0G z.length zb.length) (z ++ zb)
def a3c (z zb:List Qi) (a b:List (List Qi)):List (List Qi):=iC (a0G z.length zb.length) (rG a b z.length zb.length)
theorem a3e {x y:Nat} (h:8 < x + y):a0G x y = 4:=if_pos h
theorem a0H {x y:Nat} (h:¬ 8 < x + y):a0G x y = 0:=if_neg h
theorem Xt {z zb:List Qi} {L:Nat} (hz:bH z L) (hb:bH zb L):bH (z ++ zb) L:=fun x hx=>(List.mem_append.1 hx).elim (hz x) (hb x)
def eR (n:Nat) (p:Int) (o:List Int):Int:=if ¬ (1 ≤ p ∧ p ≤ n) then 1 else if (o.any fun x=>decide (p = x)) = true then 8 else 0
def Cq (n:Nat) (l:List Int):Int:=jZ (fun i=>eR n (l.getD i 0) (l.take i)) l.length
def a6n (l:List Int):List Nat:=l.map fun p=>(p - 1).toNat
theorem wV {n:Nat} {p:Int} {o:List Int} (h:eR n p o = 0):1 ≤ p ∧ p ≤ n:=by
 unfold eR at h
 split at h
 ·omega
 ·rename_i c; exact Decidable.not_not.1 c
theorem a07 {n : Nat} {l : List Int} (h : Cq n l = 0) : ∀ x, x ∈ l → 1 ≤ x ∧ x ≤ n := fun x hx => by
 obtain ⟨i,hi,e⟩:=List.getElem_of_mem hx
 have:=wV (gM h i hi)
 rw [show l.getD i 0 = x by rw [List.getD,List.getElem?_eq_getElem hi,e]; rfl] at this
 exact this
theorem a05 {n:Nat} {l:List Int} (h:Cq n l = 0):l.map (aL .i64) = ((a6n l).map Nat.succ).map (NT .i64):=by
 rw [a6n,List.map_map,List.map_map]
 refine List.map_congr_left fun p hp=>?_
 have:=a07 h p hp
 show aL .i64 p = aL .i64 (((p - 1).toNat + 1:Nat):Int)
 congr 1; omega
theorem rH (z:List Qi) (Q:List Nat):(mF z Q).length = Q.length:=aF _ _
theorem Dd (s:List (List Qi)) (Q:List Nat):cB (pF s Q) Q.length Q.length:=cB.tab
theorem a0J {z:List Qi} {Q:List Nat} {L:Nat} (h:bH z L) (hL:1 ≤ L):bH (mF z Q) L:=bH.tab fun i _=>h.get hL _
end
section
open Go Go.RowKit
def nT (js:List (Int × Int)):List Int:=js.flatMap fun q=>[q.1,q.2]
def cL (js:List (Int × Int)):List (Nat × Nat):=js.map fun q=>((q.1 - 1).toNat,(q.2 - 1).toNat)
abbrev mU (js:List (Int × Int)) (k:Nat):Int × Int:=js.getD k (0,0)
theorem a21 (a b:List (Int × Int)):nT (a ++ b) = nT a ++ nT b:=by simp [nT]
theorem Ke {js:List (Int × Int)} {k:Nat} (h:k < js.length):nT (js.take (k + 1)) = nT (js.take k) ++ [(mU js k).1,(mU js k).2]:=by
 rw [List.take_succ_eq_append_getElem h,a21]
 simp [nT,mU,List.getD,h]
theorem oX : ∀ (js : List (Int × Int)), (nT js).length = 2 * js.length
 | []=>rfl
 | q :: r => by
  have:=oX r
  have e:nT (q :: r) = q.1 :: q.2 :: nT r:=rfl
  rw [e,List.length_cons,List.length_cons,List.length_cons,this]; omega
theorem Qd : ∀ (js : List (Int × Int)) {x : Nat}, x < 2 * js.length → (nT js).getD x 0 = if x % 2 = 0 then (mU js (x / 2)).1 else (mU js (x / 2)).2
 | [],x,h=>by simp at h
 | q :: r,0,_=>rfl
 | q :: r,1,_=>rfl
 | q :: r, x + 2, h => by
  have ih:=Qd r (x:=x) (by simp only [List.length_cons] at h; omega)
  have e:nT (q :: r) = q.1 :: q.2 :: nT r:=rfl
  rw [e]
  show (nT r).getD x 0 = _
  rw [ih,show (x + 2) % 2 = x % 2 by omega,show (x + 2) / 2 = x / 2 + 1 by omega]
  rfl
theorem Nh {js:List (Int × Int)} {k:Nat} (h:k < js.length):pA (cL js) k = ((mU js k).1 - 1).toNat ∧ pB (cL js) k = ((mU js k).2 - 1).toNat:=by
 simp [pA,pB,cL,mU,List.getD,h]
theorem jgq {js:List (Int × Int)} {x:Nat} (h:x < 2 * js.length):gq (cL js) x = ((nT js).getD x 0 - 1).toNat:=by
 have h2:x / 2 < js.length:=by omega
 rw [Qd js h,gq,(Nh h2).1,(Nh h2).2]
 split <;> rfl
theorem Kt {n:Nat} {A:List Int} (h:Cq n A = 0) (a:Int):Cq n (A ++ [a]) = eR n a A:=by
 rw [Cq,List.length_append,List.length_singleton]
 have e : jZ (fun i => eR n ((A ++ [a]).getD i 0) ((A ++ [a]).take i)) A.length = 0 := gL fun i hi => by
  have:=gM h i hi
  rw [List.take_append_of_le_length zo]
  have e2:(A ++ [a]).getD i 0 = A.getD i 0:=by simp [List.getD,List.getElem?_append_left hi]
  rw [e2]; exact this
 rw [jZ,e,if_neg (by simp),List.take_append_of_le_length (Nat.le_refl _),List.take_length]
 congr 1
 simp [List.getD]
theorem Ub {n:Nat} {A:List Int} (h:Cq n A = 0) (a b:Int):Cq n (A ++ [a,b]) = if eR n a A ≠ 0 then eR n a A else eR n b (A ++ [a]):=by
 have e:A ++ [a,b] = (A ++ [a]) ++ [b]:=by simp
 by_cases c:eR n a A = 0
 ·rw [if_neg (fun k=>k c),e,Kt (by rw [Kt h]; exact c)]
 ·rw [if_pos c]
  have h1 : jZ (fun i => eR n ((A ++ [a, b]).getD i 0) ((A ++ [a, b]).take i)) A.length = 0 := gL fun i hi => by
   have:=gM h i hi
   rw [List.take_append_of_le_length zo]
   have e2:(A ++ [a,b]).getD i 0 = A.getD i 0:=by simp [List.getD,List.getElem?_append_left hi]
   rw [e2]; exact this
  have h2 : eR n ((A ++ [a, b]).getD A.length 0) ((A ++ [a, b]).take A.length) = eR n a A := by
   rw [List.take_append_of_le_length (Nat.le_refl _),List.take_length]
   congr 1
   simp [List.getD]
  rw [Cq,tS (k:=A.length) (fun i hi=>gM h1 i hi) (by rw [h2]; exact c) (by simp)]
  exact h2
def xB (z : List Qi) (js : List (Int × Int)) (k : Nat) : Int :=
 if eR z.length (mU js k).1 (nT (js.take k)) ≠ 0 then eR z.length (mU js k).1 (nT (js.take k))
 else if eR z.length (mU js k).2 (nT (js.take k) ++ [(mU js k).1]) ≠ 0 then eR z.length (mU js k).2 (nT (js.take k) ++ [(mU js k).1])
 else if gv z ((mU js k).1 - 1).toNat = gv z ((mU js k).2 - 1).toNat then 0 else 40
def zK (z:List Qi) (js:List (Int × Int)):Int:=jZ (xB z js) js.length
theorem Kf {z:List Qi} {js:List (Int × Int)} {k:Nat} (h:xB z js k = 0):eR z.length (mU js k).1 (nT (js.take k)) = 0 ∧ eR z.length (mU js k).2 (nT (js.take k) ++ [(mU js k).1]) = 0 ∧ gv z ((mU js k).1 - 1).toNat = gv z ((mU js k).2 - 1).toNat:=by
 unfold xB at h
 by_cases c1:eR z.length (mU js k).1 (nT (js.take k)) = 0
 ·rw [if_neg (fun k => k c1)] at h
  by_cases c2:eR z.length (mU js k).2 (nT (js.take k) ++ [(mU js k).1]) = 0
  ·rw [if_neg (fun k => k c2)] at h
   by_cases c3:gv z ((mU js k).1 - 1).toNat = gv z ((mU js k).2 - 1).toNat
   ·exact ⟨c1,c2,c3⟩
   ·rw [if_neg c3] at h; omega
  ·rw [if_pos c2] at h; exact absurd h c2
 ·rw [if_pos c1] at h; exact absurd h c1
theorem jpr {z : List Qi} {js : List (Int × Int)} : ∀ {k : Nat}, k ≤ js.length → (∀ j, j < k → xB z js j = 0) → Cq z.length (nT (js.take k)) = 0
 | 0,_,_=>rfl
 | k + 1, hk, h => by
  have ih:=jpr (z:=z) (js:=js) (k:=k) zo fun j hj=>h j zo
  obtain ⟨h1,h2,_⟩:=Kf (h k zo)
  rw [Ke zo,Ub ih,if_neg (fun k=>k h1)]; exact h2
theorem Yr {z:List Qi} {js:List (Int × Int)} (h:zK z js = 0):Cq z.length (nT js) = 0:=by
 have:=jpr (z:=z) (Nat.le_refl js.length) (gM h)
 rwa [List.take_length] at this
theorem Tc {n : Nat} {p : Int} {o : List Int} (h : eR n p o = 0) : p ∉ o := fun hm => by
 have h1:=wV h
 unfold eR at h
 rw [if_neg (fun k=>k h1),if_pos (List.any_eq_true.2 ⟨p,hm,by simp⟩)] at h
 omega
theorem a2P {n:Nat} {l:List Int} (h:Cq n l = 0) {x y:Nat} (hx:x < l.length) (hy:y < l.length) (e:l.getD x 0 = l.getD y 0):x = y:=by
 have key : ∀ x y, x < y → y < l.length → l.getD x 0 ≠ l.getD y 0 := fun x y hxy hy e => by
  refine Tc (gM h y hy) ?_
  rw [← e]
  have e2:l.getD x 0 = l[x]'zo:=by simp [List.getD,show x < l.length by omega]
  rw [e2]
  exact List.mem_take_iff_getElem.2 ⟨x,by omega,rfl⟩
 rcases Nat.lt_trichotomy x y with c | c | c
 ·exact absurd e (key x y c hy)
 ·exact c
 ·exact absurd e.symm (key y x c hx)
theorem Ce {z:List Qi} {js:List (Int × Int)} (h:zK z js = 0):Jn (cL js) z.length js.length:=by
 have hp:=Yr h
 have hl:=oX js
 have hr : ∀ x, x < 2 * js.length → 1 ≤ (nT js).getD x 0 ∧ (nT js).getD x 0 ≤ z.length := fun x hx => a07 hp _ (by
  rw [show (nT js).getD x 0 = (nT js)[x]'zo by simp [List.getD,show x < (nT js).length by omega]]; exact List.getElem_mem _)
 refine ⟨fun x hx=>?_,fun x y hx hy e=>?_⟩
 ·rw [jgq hx]; have:=hr x hx; omega
 ·rw [jgq hx, jgq hy] at e
  have h1:=hr x hx; have h2:=hr y hy
  exact a2P hp zo zo zo
def iL (js:List (Int × Int)):List Nat:=(nT js).map fun p=>(p - 1).toNat
def dO (z:List Qi) (js:List (Int × Int)):List Nat:=eO (iL js) z.length
def Ni (z:List Qi) (S:List (List Qi)) (js:List (Int × Int)):Int:=jZ (fun y=>jA (nU S (cL js) (2 * js.length)) (zA S (cL js) (2 * js.length) ((dO z js).getD y 0)) (2 * js.length)) (dO z js).length
def vF (z : List Qi) (S : List (List Qi)) (js : List (Int × Int)) : Int :=
 if zK z js ≠ 0 then zK z js else if js.length = 0 then 0 else if 2 * js.length = z.length then 4 else if Ni z S js = 0 then 0 else 6
def rW (z:List Qi) (js:List (Int × Int)):List Qi:=mF z (dO z js)
def zL (z:List Qi) (S:List (List Qi)) (js:List (Int × Int)):List (List Qi):=tab (dO z js).length fun x=>tab (dO z js).length fun y=>xA S (cL js) (2 * js.length) (cD (dO z js) x) (cD (dO z js) y)
def tV (z:List Qi) (S:List (List Qi)) (js:List (Int × Int)):List Qi:=iC (vF z S js) (if js.length = 0 then z else rW z js)
def Cd (z:List Qi) (S:List (List Qi)) (js:List (Int × Int)):List (List Qi):=iC (vF z S js) (if js.length = 0 then S else zL z S js)
theorem Ha (js:List (Int × Int)):(iL js).length = 2 * js.length:=by rw [iL,List.length_map,oX]
theorem rV {js:List (Int × Int)} {j:Nat}:j ∈ iL js ↔ ∃ x,x < 2 * js.length ∧ gq (cL js) x = j:=by
 constructor
 ·intro h
  obtain ⟨p,hp,rfl⟩:=List.mem_map.1 h
  obtain ⟨x,hx,e⟩:=List.getElem_of_mem hp
  have hl:=oX js
  refine ⟨x,by omega,?_⟩
  rw [jgq zo,show (nT js).getD x 0 = p by rw [← e]; simp [List.getD,hx]]
 ·rintro ⟨x, hx, rfl⟩
  have hl:=oX js
  rw [jgq hx]
  refine List.mem_map.2 ⟨(nT js).getD x 0,?_,rfl⟩
  rw [show (nT js).getD x 0 = (nT js)[x]'zo by simp [List.getD,show x < (nT js).length by omega]]; exact List.getElem_mem _
theorem Na {z : List Qi} {js : List (Int × Int)} {y : Nat} (hy : y < (dO z js).length) : (dO z js).getD y 0 < z.length := yJ (by
 rw [show (dO z js).getD y 0 = (dO z js)[y] by simp [List.getD,hy]]; exact List.getElem_mem hy)
end
section
open Go Go.RowKit
theorem sZ (M:List (List Qi)) (n:Nat):cB (jK M n) n n:=cB.tab
theorem tL (M:List (List Qi)) (b:List Qi) (n:Nat):(iE M b n).length = n:=tO _ _ _
theorem Rk {M : List (List Qi)} {b : List Qi} {n L : Nat} (h : cB M n n) (hM : bA M L) (hb : bH b L) (hL : 1 ≤ L) (hE : jA M b n = 0) : bH (iE M b n) (uG (jQ L n) n) := a0A h hM hb hL (by
 unfold jA at hE
 by_cases e:0 ≤ (qO M b n).2.2
 ·rw [if_pos e] at hE; omega
 ·omega)
theorem wY {M:List (List Qi)} {n:Nat} (h:nK M n = 0):∀ k,k < n → jA M (ek n k) n = 0:=gM h
theorem yT {G H : Nat} (h : G ≤ H) : ∀ j, uG G j ≤ uG H j
 | 0=>h
 | j + 1 => by
  have:=yT h j
  have h2:j * (uG G j + G + 2) ≤ j * (uG H j + H + 2):=Nat.mul_le_mul_left _ zo
  simp only [uG]; omega
def Fj (M:List (List Qi)) (n:Nat):Int:=if nK M n = 0 then 0 else 5
def ovX (Y M:List (List Qi)) (n:Nat):List (List Qi):=iC (Fj M n) (gR Y (jK M n) n n n)
def unX (M Y:List (List Qi)) (n:Nat):List (List Qi):=iC (Fj M n) (gR (jK M n) Y n n n)
theorem Zw {M:List (List Qi)} {n:Nat} (h:Fj M n = 0):nK M n = 0:=by
 unfold Fj at h; split at h
 ·assumption
 ·omega
def kL (x y:Int) (m:List (List Qi)) (n:Nat):List (List Qi):=tab n fun i=>(tab n fun j=>Qi.ofInt y * gm m i j).set i (Qi.ofInt y * gm m i i + Qi.ofInt x)
theorem qK (x y:Int) (m:List (List Qi)) (n:Nat):cB (kL x y m n) n n:=⟨aF _ _,fun r hr=>by obtain ⟨i,_,rfl⟩:=dN.1 hr; rw [List.length_set,aF]⟩
theorem sD {n i j:Nat} (hi:i < n) (hj:j < n):gm (qP n) i j = if i = j then 1 else 0:=by
 show gv ((qP n).getD i []) j = _
 rw [qP,kJ hi,Dk,sX (by rw [aF]; exact hi)]
 by_cases e:j = i
 ·subst e; rw [if_pos rfl,if_pos rfl]; rfl
 ·rw [if_neg e,if_neg (Ne.symm e),fC hj]; rfl
theorem Hu {x y:Int} {m:List (List Qi)} {n i j:Nat} (hi:i < n) (hj:j < n):gm (kL x y m n) i j = Qi.ofInt y * gm m i j + (if i = j then Qi.ofInt x else 0):=by
 show gv ((kL x y m n).getD i []) j = _
 rw [kL,kJ hi,sX (by rw [aF]; exact hi)]
 by_cases e:j = i
 ·subst e; rw [if_pos rfl,if_pos rfl]
 ·rw [if_neg e,if_neg (Ne.symm e),fC hj]; grind
theorem fH {a b:List (List Qi)} {n m:Nat} (ha:cB a n m) (hb:cB b n m) (h:∀ i,i < n → ∀ j,j < m → gm a i j = gm b i j):a = b:=by
 rw [tX ha,tX hb]
 exact bT fun i hi=>bT fun j hj=>h i hi j hj
theorem a2k:Qi.ofInt (-1) = -1:=rfl
theorem Ua {s : List (List Qi)} {n : Nat} : pmM true s (qP n) n = kL (-1) 1 s n := fH Hv (qK (-1) 1 s n) fun i hi j hj => by
 rw [Hu hi hj,pmM,dD hi hj,sD hi hj,q1,a2k]
 simp only [if_true]
 by_cases e:i = j
 ·rw [if_pos e,if_pos e]; grind
 ·rw [if_neg e,if_neg e]; grind
theorem a04 {s : List (List Qi)} {n : Nat} : pmM false s (qP n) n = kL 1 1 s n := fH Hv (qK 1 1 s n) fun i hi j hj => by
 rw [Hu hi hj,pmM,dD hi hj,sD hi hj,q1]
 simp only [Bool.false_eq_true,if_false]; grind
theorem Aj {x y : Int} {m : List (List Qi)} {n L : Nat} (hm : bA m L) (hL : 1 ≤ L) (hx : aH (Qi.ofInt x) 1) (hy : aH (Qi.ofInt y) 1) : bA (kL x y m n) (L + 4) := fun r hr => by
 obtain ⟨i,_,rfl⟩:=dN.1 hr
 intro z hz
 have f1:∀ j,aH (Qi.ofInt y * gm m i j) (1 + L + 1):=fun j=>by haveI:=hm.get hL i j; haveI:=hy; exact fitMul
 rcases List.mem_or_eq_of_mem_set hz with h | h
 ·obtain ⟨j,_,rfl⟩:=dN.1 h; exact (f1 j).le zo
 ·rw [h]
  have:aH (Qi.ofInt y * gm m i i + Qi.ofInt x) (1 + L + 1 + 1 + 1):=@fitAdd (Qi.ofInt y * gm m i i) (Qi.ofInt x) (1 + L + 1) 1 (f1 i) hx
  exact this.le zo
end
section
open Go Go.RowKit
def Ks (q:Int × Int):List Int:=[q.1,q.2]
abbrev JT (q:Int × Int):Ty:=fS [aL .i64 q.1,aL .i64 q.2]
abbrev JsT (js:List (Int × Int)):Ty:=kM 2 (js.map JT)
theorem a2M {q : Int × Int} : ∀ {i : Nat}, i < 2 → ([aL .i64 q.1, aL .i64 q.2] : List Ty)[i]? = some (aL .i64 ((Ks q).getD i 0))
 | 0,_=>rfl
 | 1,_=>rfl
theorem a01 {q : Int × Int} : ∀ {i : Nat}, i < 2 → (Ks q).take (i + 1) = (Ks q).take i ++ [(Ks q).getD i 0]
 | 0,_=>rfl
 | 1,_=>rfl
abbrev Hc (z:List Qi) (js:List (Int × Int)) (k i:Nat):Int:=eR z.length ((Ks (mU js k)).getD i 0) (nT (js.take k) ++ (Ks (mU js k)).take i)
theorem a6f {z : List Qi} {js : List (Int × Int)} {k : Nat} : ∀ {i : Nat}, i < 2 → (∀ x, x < i → Hc z js k x = 0) → Hc z js k i ≠ 0 → xB z js k = Hc z js k i
 | 0, _, _, h => by
  have e:Hc z js k 0 = eR z.length (mU js k).1 (nT (js.take k)):=by simp [Hc,Ks]
  rw [e] at h ⊢
  rw [xB,if_pos h]
 | 1, _, h0, h => by
  have e0:Hc z js k 0 = eR z.length (mU js k).1 (nT (js.take k)):=by simp [Hc,Ks]
  have e:Hc z js k 1 = eR z.length (mU js k).2 (nT (js.take k) ++ [(mU js k).1]):=by simp [Hc,Ks]
  have h1:=h0 0 zo
  rw [e0] at h1
  rw [e] at h ⊢
  rw [xB,if_neg (fun k=>k h1),if_pos h]
theorem a6g {z : List Qi} {js : List (Int × Int)} {k : Nat} (h : ∀ x, x < 2 → Hc z js k x = 0) : (1 ≤ (mU js k).1 ∧ (mU js k).1 ≤ z.length) ∧ (1 ≤ (mU js k).2 ∧ (mU js k).2 ≤ z.length) ∧
  xB z js k = if gv z ((mU js k).1 - 1).toNat = gv z ((mU js k).2 - 1).toNat then 0 else 40:=by
 have e0:Hc z js k 0 = eR z.length (mU js k).1 (nT (js.take k)):=by simp [Hc,Ks]
 have e:Hc z js k 1 = eR z.length (mU js k).2 (nT (js.take k) ++ [(mU js k).1]):=by simp [Hc,Ks]
 have h0:=h 0 zo
 have h1:=h 1 zo
 rw [e0] at h0
 rw [e] at h1
 exact ⟨wV h0,wV h1,by rw [xB,if_neg (fun k=>k h0),if_neg (fun k=>k h1)]⟩
def Dq (z:List Qi) (js:List (Int × Int)):Int:=if zK z js ≠ 0 then zK z js else if 0 < 2 * js.length ∧ 2 * js.length = z.length then 4 else 0
def jeL (z:List Qi) (js:List (Int × Int)):List Int:=iC (Dq z js) (nT js)
theorem Ys {z:List Qi} {js:List (Int × Int)} (h:zK z js ≠ 0):Dq z js = zK z js:=if_pos h
theorem a20 {z:List Qi} {js:List (Int × Int)} (h:zK z js = 0) (h2:0 < 2 * js.length ∧ 2 * js.length = z.length):Dq z js = 4:=by rw [Dq,if_neg (fun k=>k h),if_pos h2]
theorem a3H {z:List Qi} {js:List (Int × Int)} (h:zK z js = 0) (h2:¬ (0 < 2 * js.length ∧ 2 * js.length = z.length)):Dq z js = 0:=by rw [Dq,if_neg (fun k=>k h),if_neg h2]
theorem Gz {z:List Qi} {js:List (Int × Int)} (h:Dq z js = 0):zK z js = 0 ∧ ¬ (0 < 2 * js.length ∧ 2 * js.length = z.length):=by
 unfold Dq at h
 by_cases c:zK z js = 0
 ·refine ⟨c, fun h2 => ?_⟩
  rw [if_neg (fun k=>k c),if_pos h2] at h
  omega
 ·rw [if_pos c] at h; exact absurd h c
theorem a6d {z:List Qi} {S:List (List Qi)} {js:List (Int × Int)} (h:Dq z js ≠ 0):vF z S js = Dq z js:=by
 unfold vF Dq at *
 by_cases c:zK z js ≠ 0
 ·rw [if_pos c,if_pos c]
 ·rw [if_neg c] at h
  rw [if_neg c,if_neg c]
  by_cases d:0 < 2 * js.length ∧ 2 * js.length = z.length
  ·rw [if_neg zo,if_pos d.2,if_pos d]
  ·rw [if_neg d] at h; exact absurd rfl h
theorem a27 {z:List Qi} {S:List (List Qi)} {js:List (Int × Int)} (h:Dq z js = 0) (h2:js.length = 0):vF z S js = 0:=by
 obtain ⟨h1,_⟩:=Gz h
 rw [vF,if_neg (fun k=>k h1),if_pos h2]
theorem Ng {z:List Qi} {S:List (List Qi)} {js:List (Int × Int)} (h:Dq z js = 0) (h2:js.length ≠ 0):vF z S js = if Ni z S js = 0 then 0 else 6:=by
 obtain ⟨h1,h3⟩:=Gz h
 rw [vF,if_neg (fun k=>k h1),if_neg h2,if_neg zo]
theorem pig : ∀ {n m : Nat} {f : Nat → Nat}, (∀ x, x < m → f x < n) → (∀ x y, x < m → y < m → f x = f y → x = y) → m ≤ n
 | 0, m, f, h, _ => by
  cases m with
  | zero=>exact Nat.le_refl 0
  | succ m=>exact absurd (h 0 zo) zo
 | n + 1,0,_,_,_=>by omega
 | n + 1, k + 1, f, h, i => by
  have := pig (n := n) (m := k) (f := fun x => if f x = n then f k else f x) (fun x hx => by
   have h1:=h x zo
   have h2:=h k zo
   by_cases c:f x = n
   ·simp only [if_pos c]
    have:f k ≠ n:=fun e=>by have:=i x k zo zo (by rw [c,e]); omega
    omega
   ·simp only [if_neg c]; omega) (fun x y hx hy e=>by
   by_cases c:f x = n <;> by_cases d:f y = n
   ·exact i x y zo zo (by rw [c,d])
   ·simp only [if_pos c, if_neg d] at e
    have:=i k y zo zo e; omega
   ·simp only [if_neg c, if_pos d] at e
    have:=i x k zo zo e; omega
   ·simp only [if_neg c, if_neg d] at e
    exact i x y zo zo e)
  omega
theorem Yu {z:List Qi} {js:List (Int × Int)} (h:zK z js = 0):2 * js.length ≤ z.length:=by
 have hj:=Ce h
 exact pig (f:=gq (cL js)) hj.lt hj.inj
theorem Yt {z:List Qi} {js:List (Int × Int)} (h:zK z js = 0):(nT js).map (aL .i64) = ((iL js).map Nat.succ).map (NT .i64):=a05 (Yr h)
theorem Nb {js:List (Int × Int)} {x:Nat} (h:x < 2 * js.length):(iL js).getD x 0 = gq (cL js) x:=by
 have hl:=oX js
 rw [jgq h,iL]
 simp [List.getD,show x < (nT js).length by omega]
theorem Ye (G:List Nat):(gnI G).map (aL .i64) = (G.map Nat.succ).map (NT .i64):=by
 simp only [gnI,List.map_map]
 refine List.map_congr_left fun x _=>?_
 simp [Function.comp,NT]
theorem Qj {G : List Nat} {j : Nat} (h : j ∉ G) : ∀ {k : Nat}, j < k → j ∈ eO G k
 | k + 1, hk => by
  rw [eO,List.mem_append]
  by_cases e:j = k
  ·subst e; exact .inr (by rw [if_neg h]; simp)
  ·exact .inl (Qj h zo)
theorem a4G {z:List Qi} {js:List (Int × Int)} (h:zK z js = 0) (h2:2 * js.length ≠ z.length):1 ≤ (dO z js).length:=by
 by_cases c:(dO z js).length = 0
 ·have hn : dO z js = [] := List.eq_nil_of_length_eq_zero c
  have hm : ∀ j, j < z.length → ∃ x, x < 2 * js.length ∧ gq (cL js) x = j := fun j hj => by
   by_cases d:j ∈ iL js
   ·exact rV.1 d
   ·have := Qj d hj
    rw [show eO (iL js) z.length = [] from hn] at this
    cases this
  have:=Yu h
  have h3 : z.length ≤ 2 * js.length := pig (f := fun j => if hj : j < z.length then Classical.choose (hm j hj) else 0) (fun j hj => by
   simp only [dif_pos hj]; exact (Classical.choose_spec (hm j hj)).1) (fun x y hx hy e=>by
   simp only [dif_pos hx,dif_pos hy] at e
   rw [← (Classical.choose_spec (hm x hx)).2,← (Classical.choose_spec (hm y hy)).2,e])
  omega
 ·omega
theorem Pt (x : Qi) (l m : List Qi) : ∀ k, uJ x l m k = x + aB k fun y => gv l y * gv m y
 | 0=>by rw [uJ,aB,show Qi.zero = (0:Qi) from rfl]; grind
 | k + 1=>by rw [uJ,Pt x l m k,aB]; grind
theorem Xk {S:List (List Qi)} {ps:List (Nat × Nat)} {m a b:Nat}:uJ (gm S a b) (tab m fun x=>gm S a (gq ps x)) (iE (nU S ps m) (zA S ps m b) m) m = xA S ps m a b:=by
 rw [Pt,xA]
 congr 1
 exact aA fun y hy=>by rw [fC hy]
theorem Hb {S : List (List Qi)} {ps : List (Nat × Nat)} {m L : Nat} (hf : bA S L) (hL : 1 ≤ L) : bA (nU S ps m) (L + 2) := bA.tab fun x y _ _ => by
 haveI h1:=hf.get hL (gq ps (jW x)) (gq ps y)
 haveI h2 : aH (if x = y then Qi.ofInt 1 else Qi.ofInt 0) 1 := by
  split
  ·exact jH
  ·exact (aH.zero (Nat.le_refl 1):aH Qi.zero 1)
 exact (fitSub:aH (_ - _) (1 + L + 1)).le zo
theorem Qe {S:List (List Qi)} {ps:List (Nat × Nat)} {m b L:Nat} (hf:bA S L) (hL:1 ≤ L):bH (zA S ps m b) L:=bH.tab fun x _=>hf.get hL _ _
theorem a25 {S:List (List Qi)} {ps:List (Nat × Nat)} {m a b L G:Nat} (hf:bA S L) (hL:1 ≤ L) (hG:uG (jQ (L + 2) m) m ≤ G) (hE:jA (nU S ps m) (zA S ps m b) m = 0):aH (xA S ps m a b) (L + m * (2 * G + 2)):=by
 have h1:L + 2 ≤ G:=Nat.le_trans (Nat.le_trans (qH (L + 2) m) (Dn _ _)) hG
 rw [← Xk]
 exact Bq (hf.get hL a b) (bH.tab fun x _=>(hf.get hL a (gq ps x)).le zo) ((Rk (nV S ps m) (Hb hf hL) ((Qe hf hL).le zo) zo hE).le hG) zo m
theorem a26 {z:List Qi} {S:List (List Qi)} {js:List (Int × Int)} {L M:Nat} (h:bH z L) (hL:1 ≤ L) (hM:L ≤ M):bH (tV z S js) M:=by
 refine a2p ?_
 split
 ·exact h.le hM
 ·exact (a0J h hL).le hM
theorem Yv {z:List Qi} {S:List (List Qi)} {js:List (Int × Int)} (hS:cB S z.length z.length):cB (Cd z S js) (tV z S js).length (tV z S js).length ∧ (tV z S js).length ≤ z.length:=by
 by_cases h:vF z S js = 0
 ·by_cases h0 : js.length = 0
  ·rw [Cd,tV,iC,iC,if_pos h,if_pos h,if_pos h0,if_pos h0]; exact ⟨hS,Nat.le_refl _⟩
  ·rw [Cd,tV,iC,iC,if_pos h,if_pos h,if_neg h0,if_neg h0,rW,rH]; exact ⟨cB.tab,Af _ _⟩
 ·rw [Cd,tV,iC,iC,if_neg h,if_neg h]; exact ⟨⟨rfl,fun r hr=>by cases hr⟩,Nat.zero_le _⟩
end
end Go.Proofs.YtdlciihkiefckaaGreat
