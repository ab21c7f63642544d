/- What functions of the program compute, proved by walks over their code, and the plain mathematics of it; a part of the proof in the last text. -/
import Derived.Test.YtdlciihkiefckaaGreatP02
set_option linter.unusedVariables false
set_option linter.unusedSimpArgs false
set_option maxRecDepth 100000
set_option maxHeartbeats 4000000
namespace Go.Proofs.YtdlciihkiefckaaGreat
section
open Go Go.RowKit
theorem a1J {m n:Nat} (hm:(dg m).length ≤ 17592186044416) (hn:(dg n).length ≤ 17592186044416):aP Tryz.prog 235 [aE m,aE n] (aE (m + n)):=by
 refine aP.intro Tryz.func235 rfl Tryz.ntmps235 rfl (fun cx=>(ts (ro rfl (cQ cV) (eJ (cK (nN (fun (p:Nat) (q:Nat)=>p + q = m + n ∧ (dg q).length ≤ (dg p).length ∧ (dg p).length ≤ 17592186044416) (fun (p:Nat) (q:Nat)=>[(0,aE p),(1,aE q)]) (fun (p:Nat) (q:Nat)=>[]) ?_ (fun p q ⟨hpq,hle,hlp⟩=>?_)))))))
 ·refine ts (rm rfl (ro rfl (dU U_56 (Ht rfl) aA) (rm rfl (ro rfl (dU U_56 (Ht rfl) aA) (ro rfl (gJ (Ht rfl) (Ht rfl)) (eJ (dQ (Ht rfl) (fun hb => ?_) (fun hb => ?_))))))))
  ·simp at hb
   refine cY (rm rfl (rm rfl (ra rfl (ra rfl (eJ (aL (n,m) ⟨Nat.add_comm _ _,Nat.le_of_lt hb,hn⟩ (zS rfl) aY))))))
  ·simp at hb
   refine cU (aL (m,n) ⟨rfl,hb,hm⟩ (zS rfl) aY)
 ·refine ts (rm rfl (ro rfl (dU U_56 (Ht rfl) aA) (ro rfl (dW (Ht rfl) (cJ 1) z6) (rn rfl (eI (T := bH 0) (i := Tryz.t218) V_56 gO rfl rfl (Ht rfl) rfl (fun _ => rfl) trivial (by show 4 * _ ≤ _; omega) zo) fun B19 => (ra rfl (eJ (ts (ro rfl (cQ (cJ 0)) (eJ (cK (ts (rm rfl (ro rfl (dU U_56 (Ht rfl) aA) (ro rfl (cX (cJ 0)) (eJ (eU ?_))))))))))))))))
  refine jO (fun (k : Nat) (out : List Nat) (c : Nat) => wF (dg p) (dg q) out k c) (fun (k : Nat) (out : List Nat) (c : Nat) => (dg p).length - k) (fun (k : Nat) (out : List Nat) (c : Nat) => [(0, aE p), (1, aE q), (5, Is (.slice (some ⟨B19, 0, none⟩) ((dg p).length + 1) ((dg p).length + 1))), (6, bH c), (21, NT .i64 (dg p).length), (22, NT .i64 k)]) (fun (k : Nat) (out : List Nat) (c : Nat) => [box B19 218 (out.map bH)]) 0 (List.replicate ((dg p).length + 1) 0) 0 (wF.start _ _)
   (zS rfl) (aU (aB (jS _)) aY) (fun k out c hS=>?_)
  refine ts (ro rfl (gJ (Ht rfl) (Ht rfl)) (eJ (cK (dQ (Ht rfl) (fun hb=>?_) (fun hb=>?_)))))
  ·simp at hb
   have hlen:=hS.len; have hcl:=hS.cle; have hxk:=aM (bD p) k; have hyk:=aM (bD q) k
   simp only [BB] at hxk hyk
   refine cU (cK (eU (ts (rm rfl (ra rfl (eJ (ts (ro rfl (cQ (cJ 0)) (eJ (cK (iB (fun (uu:Unit)=>True) (fun (uu:Unit)=>[(0,aE p),(1,aE q),(5,Is (.slice (some ⟨B19,0,none⟩) ((dg p).length + 1) ((dg p).length + 1))),(6,bH c),(7,NT .i64 k),(8,bH ((dg q).getD k 0)),(21,NT .i64 (dg p).length),(22,NT .i64 k)]) (fun (uu:Unit)=>[box B19 218 (out.map bH)]) ?_ (fun uu _=>?_))))))))))))
   ·refine ts (rm rfl (rm rfl (ro rfl (dU U_56 (Ht rfl) aA) (ro rfl (gJ (Ht rfl) (Ht rfl)) (eJ (dQ (Ht rfl) (fun hk2 => ?_) (fun hk2 => ?_)))))))
    ·simp at hk2
     refine cY (rm rfl (rm rfl (ro rfl (dZ U_56 Z_218 (Ht rfl) (Ht rfl) rfl (eX (aF zo))) (ro rfl (dJ A_218 Z_218 (Ht rfl)) (ra rfl (eJ (aL () trivial (zS rfl) (cI.refl _))))))))
    ·simp at hk2
     refine cU (aL () trivial (aQ rfl (aQ rfl (aQ rfl (aQ rfl (aQ rfl (aZ rfl (jQ (by simp [List.getD,List.getElem?_eq_none hk2])) (zS rfl))))))) (cI.refl _))
   ·refine cY (rm rfl (rm rfl (rm rfl (rm rfl (ro rfl (dZ U_56 Z_218 (Ht rfl) (Ht rfl) rfl (eX (aF zo))) (ro rfl (dJ A_218 Z_218 (Ht rfl)) (rm rfl (rm rfl (ro rfl (cZ Tryz.call269 (Vh hxk hyk zo) ⟨(Ht rfl), (Ht rfl), (Ht rfl), trivial⟩) (rm rfl (ro rfl (dY (Ht rfl) rfl) (ro rfl (dY (Ht rfl) rfl) (ro rfl (gX U_56 Z_218 (Ht rfl) (Ht rfl) rfl zo (by rw [Nat.mul_one, Nat.zero_add])) ?_)))))))))))))
    refine jT Z_218 (Ht rfl) (Ht rfl) (i:=0) rfl (by first | omega | (simp; omega)) rfl (ra rfl (eJ (bC (cY (ro rfl (dW (Ht rfl) (cJ 1) z6) (rm rfl (eJ (gQ (k + 1,_,_) (hS.next (bD p) (bD q) hb) (by dsimp only; omega) (zS rfl) (aU (aB (eD _ _ _)) aY)))))))))
  ·simp at hb
   have hkl:k = (dg p).length:=Nat.le_antisymm hS.kle hb
   subst hkl
   have hlen:=hS.len; have hcl:=hS.cle
   refine gG rfl (ts (rm rfl (rm rfl (ro rfl (dU U_56 (Ht rfl) aA) (rm rfl (ro rfl (gX U_56 Z_218 (Ht rfl) (Ht rfl) rfl zo (by rw [Nat.mul_one,Nat.zero_add])) ?_))))))
   refine jT Z_218 (Ht rfl) (Ht rfl) (i:=0) rfl (by first | omega | (simp; omega)) rfl (eJ (cK ?_))
   have hfin:=hS.fin hle
   refine gW (i:=0) (tt:=5) rfl rfl (kH (eD _ _ _) (by simp [hlen]) (Nat.le_refl _)) ?_
   refine cY (rm rfl (ro rfl (cZ K_237 (oY _ (iW hS.dig (by simp only [BB]; omega)) (by simp [hlen]; omega)) ⟨(Ht rfl),trivial⟩) ?_))
   refine ra rfl (eJ (fK rfl (fJ (fQ rfl) ?_)))
   exact (cF (by rw [hfin,bS,bS]; exact hpq))
theorem Zv {m n:Nat} (hm:(dg m).length ≤ 17592186044416) (hnm:n ≤ m):aP Tryz.prog 236 [aE m,aE n] (aE (m - n)):=by
 have hle:=gE hnm
 refine aP.intro Tryz.func236 rfl Tryz.ntmps236 rfl (fun cx=>(ts (ro rfl (cQ cV) (eJ (ts (rm rfl (ro rfl (dU U_56 (Ht rfl) aA) (rn rfl (eI (T:=bH 0) (i:=Tryz.t218) V_56 gO rfl rfl (Ht rfl) rfl (fun _=>rfl) trivial (by show 4 * _ ≤ _; omega) zo) fun B11=>(ra rfl (eJ (ts (ro rfl (cQ (cJ 0)) (eJ (cK (ts (rm rfl (ro rfl (dU U_56 (Ht rfl) aA) (ro rfl (cX (cJ 0)) (eJ (eU ?_))))))))))))))))))))
 refine jO (fun (k : Nat) (out : List Nat) (c : Nat) => wI (dg m) (dg n) out k c) (fun (k : Nat) (out : List Nat) (c : Nat) => (dg m).length - k) (fun (k : Nat) (out : List Nat) (c : Nat) => [(0, aE m), (1, aE n), (5, Is (.slice (some ⟨B11, 0, none⟩) (dg m).length (dg m).length)), (6, bH c), (13, NT .i64 (dg m).length), (14, NT .i64 k)]) (fun (k : Nat) (out : List Nat) (c : Nat) => [box B11 218 (out.map bH)]) 0 (List.replicate (dg m).length 0) 0 (wI.start _ _)
  (zS rfl) (aU (aB (jS _)) aY) (fun k out c hS=>?_)
 refine ts (ro rfl (gJ (Ht rfl) (Ht rfl)) (eJ (cK (dQ (Ht rfl) (fun hb=>?_) (fun hb=>?_)))))
 ·simp at hb
  have hlen:=hS.len; have hcl:=hS.cle; have hxk:=aM (bD m) k; have hyk:=aM (bD n) k
  simp only [BB] at hxk hyk
  refine cU (cK (eU (ts (rm rfl (ra rfl (eJ (ts (ro rfl (cQ (cJ 0)) (eJ (cK (iB (fun (uu:Unit)=>True) (fun (uu:Unit)=>[(0,aE m),(1,aE n),(5,Is (.slice (some ⟨B11,0,none⟩) (dg m).length (dg m).length)),(6,bH c),(7,NT .i64 k),(8,bH ((dg n).getD k 0)),(13,NT .i64 (dg m).length),(14,NT .i64 k)]) (fun (uu:Unit)=>[box B11 218 (out.map bH)]) ?_ (fun uu _=>?_))))))))))))
  ·refine ts (rm rfl (rm rfl (ro rfl (dU U_56 (Ht rfl) aA) (ro rfl (gJ (Ht rfl) (Ht rfl)) (eJ (dQ (Ht rfl) (fun hk2 => ?_) (fun hk2 => ?_)))))))
   ·simp at hk2
    refine cY (rm rfl (rm rfl (ro rfl (dZ U_56 Z_218 (Ht rfl) (Ht rfl) rfl (eX (aF zo))) (ro rfl (dJ A_218 Z_218 (Ht rfl)) (ra rfl (eJ (aL () trivial (zS rfl) (cI.refl _))))))))
   ·simp at hk2
    refine cU (aL () trivial (aQ rfl (aQ rfl (aQ rfl (aQ rfl (aQ rfl (aZ rfl (jQ (by simp [List.getD,List.getElem?_eq_none hk2])) (zS rfl))))))) (cI.refl _))
  ·refine cY (rm rfl (rm rfl (rm rfl (rm rfl (ro rfl (dZ U_56 Z_218 (Ht rfl) (Ht rfl) rfl (eX (aF zo))) (ro rfl (dJ A_218 Z_218 (Ht rfl)) (rm rfl (rm rfl (ro rfl (cZ Tryz.call270 (Vw hxk hyk zo) ⟨(Ht rfl), (Ht rfl), (Ht rfl), trivial⟩) (rm rfl (ro rfl (dY (Ht rfl) rfl) (ro rfl (dY (Ht rfl) rfl) (ro rfl (gX U_56 Z_218 (Ht rfl) (Ht rfl) rfl zo (by rw [Nat.mul_one, Nat.zero_add])) ?_)))))))))))))
   refine jT Z_218 (Ht rfl) (Ht rfl) (i:=0) rfl (by first | omega | (simp; omega)) rfl (ra rfl (eJ (bC (cY (ro rfl (dW (Ht rfl) (cJ 1) z6) (rm rfl (eJ (gQ (k + 1,_,_) (hS.next (bD m) (bD n) hb) (by dsimp only; omega) (zS rfl) (aU (aB (eD _ _ _)) aY)))))))))
 ·simp at hb
  have hkl:k = (dg m).length:=Nat.le_antisymm hS.kle hb
  subst hkl
  have hlen:=hS.len
  have hfin:=hS.fin (bD m) hle (by rw [bS,bS]; exact hnm)
  rw [bS,bS] at hfin
  refine gG rfl (gW (i:=0) (tt:=5) rfl rfl (kH rfl hlen.symm (Nat.le_refl _)) (ts (rm rfl (ro rfl (cZ K_237 (oY _ hS.dig zo) ⟨(Ht rfl),trivial⟩) (ra rfl (eJ (fK rfl (fJ (fQ rfl) ?_))))))))
  exact (cF hfin)
theorem Bf {m n:Nat} (hm:(dg m).length ≤ 17592186044416) (hn:(dg n).length ≤ 17592186044416):aP Tryz.prog 154 [aE m,aE n] (aE (m * n)):=by
 refine aP.intro Tryz.func154 rfl Tryz.ntmps154 rfl (fun cx=>(ts (ro rfl (cQ cV) (eJ (cK (ts (rm rfl (ro rfl (dU U_56 (Ht rfl) aA) (ro rfl (cA (Ht rfl) (cJ 0)) (rm rfl (fZ rfl rfl (eY rfl rfl (Ht rfl) (fun h=>cX (Ht rfl))) (fZ rfl rfl (eY rfl rfl (Ht rfl) (fun h=>dU U_56 (fW rfl h) aA)) (fZ rfl rfl (eY rfl rfl (Ht rfl) (fun h=>cA (fW rfl h) (cJ 0))) (ro rfl (kP (Ht rfl) (fun h=>(fW rfl h))) (eJ (dQ (Ht rfl) (fun hb=>?_) (fun hb=>?_)))))))))))))))))
 ·simp [aH] at hb
  have h0 : m * n = 0 := by
   rcases hb with h | h <;> simp_all [oK]
  refine ts (ro rfl (cQ cV) (eJ (fK rfl (fJ (fQ rfl) ?_))))
  exact (fun v V h=>by rw [h0]; exact jF v V h)
 ·clear hb
  refine cU (ts (rm rfl (ro rfl (dU U_56 (Ht rfl) aA) (rm rfl (ro rfl (dU U_56 (Ht rfl) aA) (ro rfl (dW (Ht rfl) (Ht rfl) z6) (rn rfl (eI (T:=bH 0) (i:=Tryz.t218) V_56 gO rfl rfl (Ht rfl) rfl (fun _=>rfl) trivial (by show 4 * _ ≤ _; omega) zo) fun B24=>(ra rfl (eJ (cK (ts (rm rfl (ro rfl (dU U_56 (Ht rfl) aA) (ro rfl (cX (cJ 0)) (eJ (eU ?_))))))))))))))))
  refine eS (fun (i : Nat) (out : List Nat) => yB (dg m) (dg n) out i) (fun (i : Nat) (out : List Nat) => (dg m).length - i) (fun (i : Nat) (out : List Nat) => [(0, aE m), (1, aE n), (5, Is (.slice (some ⟨B24, 0, none⟩) ((dg m).length + (dg n).length) ((dg m).length + (dg n).length))), (25, aE m), (26, NT .i64 (dg m).length), (27, NT .i64 i)]) (fun (i : Nat) (out : List Nat) => [box B24 218 (out.map bH)]) 0 (List.replicate ((dg m).length + (dg n).length) 0) (yB.start _ _)
   (zS rfl) (aU (aB (jS _)) aY) (fun i out hS=>?_)
  refine ts (ro rfl (gJ (Ht rfl) (Ht rfl)) (eJ (cK (dQ (Ht rfl) (fun hb=>?_) (fun hb=>?_)))))
  ·simp at hb
   have hxi:=aM (bD m) i
   simp only [BB] at hxi
   refine cU (cK (eU (ts (rm rfl (ro rfl (dZ U_56 Z_218 (Ht rfl) (Ht rfl) rfl (eX (aF zo))) (ro rfl (dJ A_218 Z_218 (Ht rfl)) (ra rfl (ra rfl (eJ (ts (ro rfl (cQ (cJ 0)) (eJ (cK (ts (rm rfl (ro rfl (dU U_56 (Ht rfl) aA) (ro rfl (cX (cJ 0)) (eJ (eU ?_)))))))))))))))))))
   refine jO (fun (k : Nat) (out2 : List Nat) (c : Nat) => Em (dg m) (dg n) out2 i k c) (fun (k : Nat) (out2 : List Nat) (c : Nat) => (dg n).length - k) (fun (k : Nat) (out2 : List Nat) (c : Nat) => [(0, aE m), (1, aE n), (5, Is (.slice (some ⟨B24, 0, none⟩) ((dg m).length + (dg n).length) ((dg m).length + (dg n).length))), (6, NT .i64 i), (7, bH ((dg m).getD i 0)), (8, NT .u64 c), (25, aE m), (26, NT .i64 (dg m).length), (27, NT .i64 i), (32, aE n), (33, NT .i64 (dg n).length), (34, NT .i64 k)]) (fun (k : Nat) (out2 : List Nat) (c : Nat) => [box B24 218 (out2.map bH)]) 0 out 0 (hS.row hb)
    (zS rfl) (cI.refl _) (fun k out2 c hR=>?_)
   refine ts (ro rfl (gJ (Ht rfl) (Ht rfl)) (eJ (cK (dQ (Ht rfl) (fun hk=>?_) (fun hk=>?_)))))
   ·simp at hk
    have hlen:=hR.len; have hcl:=hR.clt; have hyk:=aM (bD n) k; have hok:=aM hR.dig (i + k)
    have hbnd:=rY (aM (bD m) i) (aM (bD n) k) (aM hR.dig (i + k)) hR.clt
    simp only [BB] at hcl hyk hok hbnd
    refine cU (cK (eU (ts (rm rfl (ro rfl (dZ U_56 Z_218 (Ht rfl) (Ht rfl) rfl (eX (aF zo))) (ro rfl (dJ A_218 Z_218 (Ht rfl)) (ra rfl (ra rfl (eJ (ts (rm rfl (rm rfl (ro rfl (gV U_218 U_263 (Ht rfl) z7) (rm rfl (ro rfl (gV U_218 U_263 (Ht rfl) z7) (ro rfl (jR (Ht rfl) (Ht rfl) (by show _ < 18446744073709551616; omega)) ?_))))))))))))))))
    refine rm rfl (rm rfl (rm rfl (ro rfl (dW (Ht rfl) (Ht rfl) z6) (ro rfl (gX U_56 Z_218 (Ht rfl) (Ht rfl) rfl zo (by rw [Nat.mul_one,Nat.zero_add])) ?_))))
    refine ro rfl (fX A_218 Z_218 (Ht rfl) (i:=0) rfl (eX (aF zo))) (ro rfl (gV U_218 U_263 (Ht rfl) z7) (ro rfl (dW (Ht rfl) (Ht rfl) z7) (ro rfl (dW (Ht rfl) (Ht rfl) z7) (ra rfl (eJ (ts (rm rfl (rm rfl (rm rfl (ro rfl (dW (Ht rfl) (Ht rfl) z6) ?_))))))))))
    refine rm rfl (ro rfl (eO rfl U_263 U_218 (Ht rfl)) (ro rfl (gX U_56 Z_218 (Ht rfl) (Ht rfl) rfl zo (by rw [Nat.mul_one,Nat.zero_add])) ?_))
    refine jT Z_218 (Ht rfl) (Ht rfl) (i:=0) rfl (by first | omega | (simp; omega)) rfl (eJ (cY (rm rfl (ro rfl (dP (Ht rfl) (cJ 32) (by decide)) (ra rfl (eJ (bC (cY (ro rfl (dW (Ht rfl) (cJ 1) z6) (rm rfl (eJ (gQ (k + 1,_,_) (hR.next (bD m) (bD n) hk rfl) (by dsimp only; omega) (zS rfl) (aU (aB (eD _ _ _)) aY)))))))))))))
   ·simp at hk
    have hkl:k = (dg n).length:=Nat.le_antisymm hR.kle hk
    subst hkl
    have hlen:=hR.len; have hcl:=hR.clt
    simp only [BB] at hcl
    refine gG rfl (cY (rm rfl (rm rfl (rm rfl (ro rfl (dU U_56 (Ht rfl) aA) (ro rfl (dW (Ht rfl) (Ht rfl) z6) (rm rfl (ro rfl (gV U_263 U_218 (Ht rfl) (by show _ < 4294967296; first | omega | (simp only [kI]; omega))) (ro rfl (gX U_56 Z_218 (Ht rfl) (Ht rfl) rfl zo (by rw [Nat.mul_one,Nat.zero_add])) ?_)))))))))
    refine jT Z_218 (Ht rfl) (Ht rfl) (i:=0) rfl (by first | omega | (simp; omega)) rfl (eJ (bC (cY (ro rfl (dW (Ht rfl) (cJ 1) z6) (rm rfl (eJ (gQ (i + 1,_) (hR.fin) (by dsimp only; omega) (zS rfl) (aU (aB (eD _ _ _)) aY))))))))
  ·simp at hb
   have hkl:i = (dg m).length:=Nat.le_antisymm hS.ile hb
   subst hkl
   have hlen:=hS.len
   have hfin:=hS.fin
   rw [bS,bS] at hfin
   refine gG rfl (gW (i:=0) (tt:=5) rfl rfl (kH rfl hlen.symm (Nat.le_refl _)) (ts (rm rfl (ro rfl (cZ K_237 (oY _ hS.dig zo) ⟨(Ht rfl),trivial⟩) (ra rfl (eJ (fK rfl (fJ (fQ rfl) ?_))))))))
   exact (cF hfin)
end
section
open Go Go.RowKit
theorem Vn {v:Nat} (hv:v < 4294967296):aP Tryz.prog 284 [bH v] (NT .i64 (bl v)):=by
 refine aP.intro Tryz.func284 rfl Tryz.ntmps284 rfl (fun cx=>(ts (ro rfl (cQ (cJ 0)) (eJ (cK (nN (fun (q:Nat) (x:Nat)=>bl v = q + bl x ∧ x < 65536 ∧ q ≤ 16) (fun (q:Nat) (x:Nat)=>[(0,bH x),(2,NT .i64 q)]) (fun (q:Nat) (x:Nat)=>[]) ?_ (fun q x ⟨hq1,hq2,hq3⟩=>?_)))))))
 ·refine ts (rm rfl (ro rfl (nY (Ht rfl) (cJ 65536)) (eJ (dQ (Ht rfl) (fun hb => ?_) (fun hb => ?_)))))
  ·simp at hb
   refine ts (rm rfl (ro rfl (dP (Ht rfl) (cJ 16) (by decide)) (ra rfl (eJ (cY (ro rfl (cQ (cJ 16)) (eJ (aL (16,v / 2 ^ 16) ⟨a2d hb,by dsimp only; omega,Nat.le_refl _⟩ (zS rfl) aY))))))))
  ·simp at hb
   refine cU (aL (0,v) ⟨(Nat.zero_add _).symm,hb,by dsimp only; omega⟩ (zS rfl) aY)
 ·refine cK (nN (fun (r : Nat) (z : Nat) => bl v = r + bl z ∧ z < 256 ∧ r ≤ 24) (fun (r : Nat) (z : Nat) => [(0, bH z), (2, NT .i64 r)]) (fun (r : Nat) (z : Nat) => []) ?_ (fun r z ⟨hr1, hr2, hr3⟩ => ?_))
  ·refine ts (rm rfl (ro rfl (nY (Ht rfl) (cJ 256)) (eJ (dQ (Ht rfl) (fun hb => ?_) (fun hb => ?_)))))
   ·simp at hb
    refine ts (rm rfl (ro rfl (dP (Ht rfl) (cJ 8) (by decide)) (ra rfl (eJ (cY (rm rfl (ro rfl (dW (Ht rfl) (cJ 8) z6) (ra rfl (eJ (aL (q + 8,x / 2 ^ 8) ⟨by have:=bl8 hb; dsimp only; omega,by dsimp only; omega,by dsimp only; omega⟩ (zS rfl) aY))))))))))
   ·simp at hb
    refine cU (aL (q,x) ⟨hq1,hb,by dsimp only; omega⟩ (zS rfl) aY)
  ·have hbl := mG (k := 8) hr2
   refine ts (rm rfl (rm rfl (ro rfl (gV U_218 U_5 (Ht rfl) (by show _ < 256; first | omega | (simp only [kI]; omega))) (ro rfl (Ya Tryz.runUnderlying9 cV (Ht rfl) (a2i hr2 (by kernel_rfl))) (ro rfl (gV U_5 U_3 (Ht rfl) z6) (ro rfl (dW (Ht rfl) (Ht rfl) z6) (ra rfl (eJ (fK rfl (fJ (fQ rfl) ?_))))))))))
   exact (jQ zo)
theorem a0v {v:Nat} (hv:v < 4294967296):aP Tryz.prog 265 [bH v] (NT .i64 (32 - bl v)):=by
 refine aP.intro Tryz.func265 rfl Tryz.ntmps265 rfl (fun cx=>(ts (ro rfl (cQ (cJ 0)) (eJ (ts (rm rfl (ro rfl (cZ Tryz.call284 (Vn hv) ⟨(Ht rfl),trivial⟩) (ro rfl (dK (cJ 32) (Ht rfl) (mG hv) z6) (ra rfl (eJ ?_))))))))))
 exact fK rfl (fQ rfl)
theorem Vi {hi lo y:Nat} (hy:hi < y) (hl:lo < BB) (hyb:y < BB):aP Tryz.prog 283 [bH hi,bH lo,bH y] (fR [bH ((hi * BB + lo) / y),bH ((hi * BB + lo) % y)]):=by
 have hq:=Cd hy hl; have hm:=Nat.mod_lt (hi * BB + lo) (by omega:y > 0); have hz:hi * BB + lo < 18446744073709551616:=by simp only [BB] at *; omega
 have hsh : hi * 2 ^ 32 < 18446744073709551616 := by
  have h1:hi < BB:=by omega
  show hi * BB < _
  simp only [BB] at h1 ⊢; omega
 refine aP.intro Tryz.func283 rfl Tryz.ntmps283 rfl (fun cx=>(ts (ro rfl (cQ (cJ 0)) (ro rfl (cQ (cJ 0)) (eJ (cK (ts (rm rfl (ro rfl (iQ (Ht rfl) (cJ 0)) (rm rfl (fZ rfl rfl (eY rfl rfl (Ht rfl) (fun h=>cX (Ht rfl))) (fZ rfl rfl (eY rfl rfl (Ht rfl) (fun h=>cX (Ht rfl))) (fZ rfl rfl (eY rfl rfl (Ht rfl) (fun h=>uA (fW rfl h) (fW rfl h))) (ro rfl (dO (Ht rfl) (fun h=>(fW rfl h))) (eJ (gS (Ht rfl) (by simp; omega) ?_))))))))))))))))
 have hl2:lo < 18446744073709551616:=by simp only [BB] at hl; omega
 have hy2:y < 18446744073709551616:=by simp only [BB] at hyb; omega
 refine cU (ts (rm rfl (ro rfl (gV U_218 U_263 (Ht rfl) (by show _ < 18446744073709551616; simp only [BB] at *; omega)) (ro rfl (mA (Ht rfl) (cJ 32) (by decide) hsh) (rm rfl (ro rfl (gV U_218 U_263 (Ht rfl) (by show _ < 18446744073709551616; simp only [BB] at *; omega)) (ro rfl (aI.nat (nH rfl (Ht rfl) (Ht rfl) z7 z7) (tD hl)) (ra rfl (eJ ?_)))))))))
 refine cK (fV (m:=11) (dp 8 rfl (cX (Ht rfl)) (dp 2 rfl (cX (Ht rfl)) (dq 24 1 rfl (gV U_218 U_263 (Ht rfl) (by show _ < 18446744073709551616; simp only [BB] at *; omega)) (bR 23 0 25 2 rfl (gU (Ht rfl) (Ht rfl) zo (by show _ < 18446744073709551616; exact hz)) (dq 26 3 rfl (gV U_263 U_218 (Ht rfl) (by show _ < 4294967296; exact hq)) (dp 8 rfl (cX (Ht rfl)) (dp 2 rfl (cX (Ht rfl)) (dq 29 6 rfl (gV U_218 U_263 (Ht rfl) (by show _ < 18446744073709551616; simp only [BB] at *; omega)) ?_)))))))))
 refine bR 28 5 30 7 rfl (kE (Ht rfl) (Ht rfl) zo) (dq 31 8 rfl (gV U_263 U_218 (Ht rfl) (by show _ < 4294967296; simp only [BB] at *; omega)) (dq 27 4 rfl (cQ (Ht rfl)) (fG aO rfl (by kernel_rfl) (zF (zF (aJ (aJ (aJ (aV (ra rfl (eJ ?_)))))))))))
 exact cB rfl (fQ rfl) (fQ rfl)
theorem Zu {m k:Nat} (hm:(dg m).length ≤ 17592186044416) (hk:k ≤ 562949953421312):aP Tryz.prog 266 [aE m,NT .i64 k] (aE (m * 2 ^ k)):=by
 refine aP.intro Tryz.func266 rfl Tryz.ntmps266 rfl (fun cx=>(ts (ro rfl (cQ cV) (eJ (cK (ts (rm rfl (ro rfl (dU U_56 (Ht rfl) aA) (ro rfl (cA (Ht rfl) (cJ 0)) (rm rfl (fZ rfl rfl (eY rfl rfl (Ht rfl) (fun h=>cX (Ht rfl))) (fZ rfl rfl (eY rfl rfl (Ht rfl) (fun h=>cA (fW rfl h) (cJ 0))) (ro rfl (kP (Ht rfl) (fun h=>(fW rfl h))) (eJ (dQ (Ht rfl) (fun hb=>?_) (fun hb=>?_))))))))))))))))
 ·simp [aH] at hb
  have h0 : m * 2 ^ k = m := by
   rcases hb with h | h
   ·simp_all [oK]
   ·rw [h,Nat.pow_zero,Nat.mul_one]
  refine ts (rm rfl (ra rfl (eJ (fK rfl (fJ (fQ rfl) ?_)))))
  exact (cF h0.symm)
 ·clear hb
  have hr:=Nat.mod_lt k (by decide:32 > 0)
  refine cU (ts (rm rfl (ro rfl (gU (Ht rfl) (cJ 32) zo z6) (rm rfl (ro rfl (kE (Ht rfl) (cJ 32) zo) (ro rfl (gV U_3 U_264 (Ht rfl) z7) (ra rfl (ra rfl (eJ (ts (rm rfl (ro rfl (dU U_56 (Ht rfl) aA) (rm rfl (ro rfl (dW (Ht rfl) (Ht rfl) z6) (ro rfl (dW (Ht rfl) (cJ 1) z6) ?_)))))))))))))))
  refine rn rfl (eI (T:=bH 0) (i:=Tryz.t218) V_56 gO rfl rfl (Ht rfl) rfl (fun _=>rfl) trivial (by show 4 * _ ≤ _; omega) zo) fun B29=>ra rfl (eJ (cK (ts (rm rfl (ro rfl (dU U_56 (Ht rfl) aA) (ro rfl (cX (cJ 0)) (eJ (eU ?_))))))))
  refine eS (fun (i : Nat) (out : List Nat) => yE (dg m) (k / 32) (k % 32) out i) (fun (i : Nat) (out : List Nat) => (dg m).length - i) (fun (i : Nat) (out : List Nat) => [(5, NT .i64 (k / 32)), (6, NT .u64 (k % 32)), (7, Is (.slice (some ⟨B29, 0, none⟩) ((dg m).length + k / 32 + 1) ((dg m).length + k / 32 + 1))), (30, aE m), (31, NT .i64 (dg m).length), (32, NT .i64 i)]) (fun (i : Nat) (out : List Nat) => [box B29 218 (out.map bH)]) 0 (List.replicate ((dg m).length + k / 32 + 1) 0) (yE.start _ _ _)
   (zS rfl) (aU (aB (jS _)) aY) (fun i out hS=>?_)
  refine ts (ro rfl (gJ (Ht rfl) (Ht rfl)) (eJ (cK (dQ (Ht rfl) (fun hb=>?_) (fun hb=>?_)))))
  ·simp at hb
   have hlen:=hS.len; have hxi:=aM (bD m) i; have hok:=aM hS.dig (i + k / 32)
   have hv:=Cb hxi hr
   have hd:(dg m).getD i 0 * 2 ^ (k % 32) / 2 ^ 32 < 4294967296:=Nat.div_lt_of_lt_mul hv
   simp only [BB] at hxi hok
   refine cU (cK (eU (ts (rm rfl (ro rfl (dZ U_56 Z_218 (Ht rfl) (Ht rfl) rfl (eX (aF zo))) (ro rfl (dJ A_218 Z_218 (Ht rfl)) (ra rfl (ra rfl (eJ (ts (rm rfl (ro rfl (gV U_218 U_263 (Ht rfl) z7) (rm rfl (ro rfl (mA (Ht rfl) (Ht rfl) (by show _ ≤ _; simp [IntKind.bits]; omega) (by show _ < 18446744073709551616; exact hv)) (ra rfl (eJ (ts (rm rfl (rm rfl (rm rfl (ro rfl (dW (Ht rfl) (Ht rfl) z6) ?_)))))))))))))))))))))
   refine ro rfl (gX U_56 Z_218 (Ht rfl) (Ht rfl) rfl zo (by rw [Nat.mul_one,Nat.zero_add])) ?_
   refine ro rfl (fX A_218 Z_218 (Ht rfl) (i:=0) rfl (eX (aF zo))) (rm rfl (ro rfl (eO rfl U_263 U_218 (Ht rfl)) (ro rfl (nH rfl (Ht rfl) (Ht rfl) (by show _ < 4294967296; omega) (by show _ % 4294967296 < 4294967296; omega)) (ro rfl (gX U_56 Z_218 (Ht rfl) (Ht rfl) rfl zo (by rw [Nat.mul_one,Nat.zero_add])) ?_))))
   refine jT Z_218 (Ht rfl) (Ht rfl) (i:=0) rfl (by first | omega | (simp; omega)) rfl (eJ (cY (rm rfl (rm rfl (rm rfl (ro rfl (dW (Ht rfl) (Ht rfl) z6) (ro rfl (dW (Ht rfl) (cJ 1) z6) (rm rfl (ro rfl (dP (Ht rfl) (cJ 32) (by decide)) (ro rfl (gV U_263 U_218 (Ht rfl) (by show _ < 4294967296; exact hd)) (ro rfl (gX U_56 Z_218 (Ht rfl) (Ht rfl) rfl zo (by rw [Nat.mul_one,Nat.zero_add])) ?_)))))))))))
   refine jT Z_218 (Ht rfl) (Ht rfl) (i:=0) rfl (by first | omega | (simp; omega)) rfl (eJ (bC (cY (ro rfl (dW (Ht rfl) (cJ 1) z6) (rm rfl (eJ (gQ (i + 1,_) (hS.next (bD m) hr hb rfl rfl) (by dsimp only; omega) (zS rfl) (aU (aB (Gz _ _ _ _ _)) aY))))))))
  ·simp at hb
   have hkl:i = (dg m).length:=Nat.le_antisymm hS.kle hb
   subst hkl
   have hlen:=hS.len
   have hfin:=hS.fin
   rw [bS,lB] at hfin
   refine gG rfl (gW (i:=0) (tt:=7) rfl rfl (kH rfl hlen.symm (Nat.le_refl _)) (ts (rm rfl (ro rfl (cZ K_237 (oY _ hS.dig zo) ⟨(Ht rfl),trivial⟩) (ra rfl (eJ (fK rfl (fJ (fQ rfl) ?_))))))))
   exact (cF hfin)
theorem a1O {m k:Nat} (hm:(dg m).length ≤ 17592186044416) (hk:k ≤ 562949953421312):aP Tryz.prog 268 [aE m,NT .i64 k] (aE (m / 2 ^ k)):=by
 refine aP.intro Tryz.func268 rfl Tryz.ntmps268 rfl (fun cx=>?_)
 have hr:=Nat.mod_lt k (by decide:32 > 0)
 refine ts (ro rfl (cQ cV) (eJ (ts (rm rfl (ro rfl (gU (Ht rfl) (cJ 32) zo z6) (rm rfl (ro rfl (kE (Ht rfl) (cJ 32) zo) (ro rfl (gV U_3 U_264 (Ht rfl) z7) (ra rfl (ra rfl (eJ (cK (ts (rm rfl (rm rfl (ro rfl (dU U_56 (Ht rfl) aA) (ro rfl (nY (Ht rfl) (Ht rfl)) (eJ (dQ (Ht rfl) (fun hb=>?_) (fun hb=>?_))))))))))))))))))))
 ·simp at hb
  have h0:=Hg (bD m) hb (r:=k % 32)
  rw [bS,lB] at h0
  refine ts (ro rfl (cQ cV) (eJ (fK rfl (fJ (fQ rfl) ?_))))
  exact (fun v V h=>cF h0.symm v V (jF v V h))
 ·simp at hb
  refine cU (ts (rm rfl (ro rfl (dU U_56 (Ht rfl) aA) (rm rfl (ro rfl (dK (Ht rfl) (Ht rfl) zo z6) (rn rfl (eI (T:=bH 0) (i:=Tryz.t218) V_56 gO rfl rfl (Ht rfl) rfl (fun _=>rfl) trivial (by show 4 * _ ≤ _; omega) zo) fun B23=>(ra rfl (eJ (cK (ts (rm rfl (ro rfl (fT U_56 (Ht rfl)) (ro rfl (cX (cJ 0)) (eJ (eU ?_)))))))))))))))
  refine eS (fun (i : Nat) (out : List Nat) => yF (dg m) (k / 32) (k % 32) out i) (fun (i : Nat) (out : List Nat) => (dg m).length - i) (fun (i : Nat) (out : List Nat) => [(0, aE m), (5, NT .i64 (k / 32)), (6, NT .u64 (k % 32)), (7, Is (.slice (some ⟨B23, 0, none⟩) ((dg m).length - k / 32) ((dg m).length - k / 32))), (25, NT .i64 ((dg m).length - k / 32 : Nat)), (26, NT .i64 i)]) (fun (i : Nat) (out : List Nat) => [box B23 218 (out.map bH)]) 0 (List.replicate ((dg m).length - k / 32) 0) (yF.start _ _ _)
   (zS rfl) (aU (aB (jS _)) aY) (fun i out hS=>?_)
  refine ts (ro rfl (gJ (Ht rfl) (Ht rfl)) (eJ (cK (dQ (Ht rfl) (fun hb=>?_) (fun hb=>?_)))))
  ·simp at hb
   have hlen:=hS.len; have hx0:=aM (bD m) (i + k / 32); have hx1:=aM (bD m) (i + k / 32 + 1)
   have hio:i < out.length:=by omega
   simp only [BB] at hx0 hx1
   refine cU (cK (eU (ts (rm rfl (ra rfl (eJ (ts (rm rfl (rm rfl (rm rfl (ro rfl (dW (Ht rfl) (Ht rfl) z6) (ro rfl (dZ U_56 Z_218 (Ht rfl) (Ht rfl) rfl (eX (aF zo))) (ro rfl (dJ A_218 Z_218 (Ht rfl)) (ro rfl (gV U_218 U_263 (Ht rfl) z7) (ra rfl (eJ (cK (iB (fun (v:Nat)=>v = (dg m).getD (i + k / 32) 0 + BB * (dg m).getD (i + k / 32 + 1) 0) (fun (v:Nat)=>[(0,aE m),(5,NT .i64 (k / 32)),(6,NT .u64 (k % 32)),(7,Is (.slice (some ⟨B23,0,none⟩) ((dg m).length - k / 32) ((dg m).length - k / 32))),(8,NT .i64 i),(9,NT .u64 v),(25,NT .i64 ((dg m).length - k / 32:Nat)),(26,NT .i64 i)]) (fun (v:Nat)=>[box B23 218 (out.map bH)]) ?_ (fun v hv=>?_)))))))))))))))))))
   ·refine ts (rm rfl (rm rfl (ro rfl (dW (Ht rfl) (Ht rfl) z6) (ro rfl (dW (Ht rfl) (cJ 1) z6) (rm rfl (ro rfl (dU U_56 (Ht rfl) aA) (ro rfl (gJ (Ht rfl) (Ht rfl)) (eJ (dQ (Ht rfl) (fun hk2 => ?_) (fun hk2 => ?_))))))))))
    ·simp at hk2
     refine cY (rm rfl (rm rfl (rm rfl (rm rfl (ro rfl (dW (Ht rfl) (Ht rfl) z6) (ro rfl (dW (Ht rfl) (cJ 1) z6) (ro rfl (dZ U_56 Z_218 (Ht rfl) (Ht rfl) rfl (eX (aF zo))) (ro rfl (dJ A_218 Z_218 (Ht rfl)) (ro rfl (gV U_218 U_263 (Ht rfl) z7) (ro rfl (mA (Ht rfl) (cJ 32) (by decide) (by show _ < 18446744073709551616; omega)) ?_))))))))))
     refine ro rfl (aI.nat (nH rfl (Ht rfl) (Ht rfl) z7 z7) (Mg hx0)) (ra rfl (eJ (aL ((dg m).getD (i + k / 32) 0 + BB * (dg m).getD (i + k / 32 + 1) 0) rfl (zS rfl) (cI.refl _))))
    ·simp at hk2
     refine cU (aL ((dg m).getD (i + k / 32) 0) (by simp [List.getD,List.getElem?_eq_none hk2]) (zS rfl) (cI.refl _))
   ·refine cY (rm rfl (rm rfl (rm rfl (rm rfl (ro rfl (dP (Ht rfl) (Ht rfl) (by show _ ≤ 64; omega)) (ro rfl (eO rfl U_263 U_218 (Ht rfl)) (ro rfl (gX U_56 Z_218 (Ht rfl) (Ht rfl) rfl zo (by rw [Nat.mul_one, Nat.zero_add])) ?_)))))))
    refine jT Z_218 (Ht rfl) (Ht rfl) (i:=0) rfl (by first | omega | (simp; omega)) rfl (eJ (bC (cY (ro rfl (dW (Ht rfl) (cJ 1) z6) (rm rfl (eJ (gQ (i + 1,_) (hS.next (bD m) hr hio (by rw [hv]; rfl)) (by dsimp only; omega) (zS rfl) (aU (aB (eD _ _ _)) aY))))))))
  ·simp at hb
   have hlen:=hS.len
   have hkl:i = out.length:=Nat.le_antisymm hS.kle zo
   subst hkl
   have hfin:=hS.fin (bD m) zo
   rw [bS,lB] at hfin
   refine gG rfl (gW (i:=0) (tt:=7) rfl rfl (kH rfl hlen.symm (Nat.le_refl _)) (ts (rm rfl (ro rfl (cZ K_237 (oY _ hS.dig zo) ⟨(Ht rfl),trivial⟩) (ra rfl (eJ (fK rfl (fJ (fQ rfl) ?_))))))))
   exact (cF hfin)
theorem Kz {m y:Nat} (hm:(dg m).length ≤ 17592186044416) (hy:0 < y) (hyb:y < BB):aP Tryz.prog 264 [aE m,bH y] (fR [aE (m / y),bH (m % y)]):=by
 refine aP.intro Tryz.func264 rfl Tryz.ntmps264 rfl (fun cx=>(ts (ro rfl (cQ cV) (ro rfl (cQ (cJ 0)) (eJ (ts (rm rfl (ro rfl (dU U_56 (Ht rfl) aA) (rn rfl (eI (T:=bH 0) (i:=Tryz.t218) V_56 gO rfl rfl (Ht rfl) rfl (fun _=>rfl) trivial (by show 4 * _ ≤ _; omega) zo) fun B11=>(ra rfl (eJ (ts (ro rfl (cQ (cJ 0)) (eJ (cK (ts (rm rfl (ro rfl (dU U_56 (Ht rfl) aA) (ro rfl (iD (Ht rfl) cV (wD zo)) (ra rfl (eJ (eU ?_))))))))))))))))))))))
 refine jO (fun (k : Nat) (out : List Nat) (r : Nat) => mZ (dg m) y out k r) (fun (k : Nat) (out : List Nat) (r : Nat) => k) (fun (k : Nat) (out : List Nat) (r : Nat) => [(0, aE m), (1, bH y), (6, Is (.slice (some ⟨B11, 0, none⟩) (dg m).length (dg m).length)), (7, bH r), (8, aN .i64 ((k : Int) - 1))]) (fun (k : Nat) (out : List Nat) (r : Nat) => [box B11 218 (out.map bH)]) (dg m).length (List.replicate (dg m).length 0) 0 (mZ.start _ hy)
  (zS rfl) (aU (aB (jS _)) aY) (fun k out r hS=>?_)
 refine cK (ts (rm rfl (ro rfl (kW (Ht rfl) cV) (eJ (dQ (Ht rfl) (fun hb=>?_) (fun hb=>?_))))))
 ·simp at hb
  have hlen:=hS.len; have hkl:=hS.kle
  refine cU (cK (eU (cY (rm rfl (rm rfl (rm rfl (rm rfl (rm rfl (ro rfl (dZ U_56 Z_218 (Ht rfl) (Ht rfl) (show ((k:Int) - 1) = ((k - 1:Nat):Int) by omega) (eX (aF zo))) (ro rfl (dJ A_218 Z_218 (Ht rfl)) (rm rfl (ro rfl (cZ Tryz.call283 (Vi hS.rlt (aM (bD m) (k - 1)) hyb) ⟨(Ht rfl),(Ht rfl),(Ht rfl),trivial⟩) (rm rfl (ro rfl (dY (Ht rfl) rfl) (ro rfl (dY (Ht rfl) rfl) (ro rfl (gX U_56 Z_218 (Ht rfl) (Ht rfl) (show ((k:Int) - 1) = ((k - 1:Nat):Int) by omega) zo (by rw [Nat.mul_one,Nat.zero_add])) ?_))))))))))))))))
  refine jT Z_218 (Ht rfl) (Ht rfl) (i:=0) rfl (by first | omega | (simp; omega)) rfl (ra rfl (eJ (bC (cY (rm rfl (ro rfl (iD (Ht rfl) cV (wD zo)) (ra rfl (eJ (gQ (k - 1,_,_) (hS.next (bD m) zo rfl) (by dsimp only; omega) (aQ rfl (aQ rfl (aQ rfl (aQ rfl (aZ rfl (aS zo) aX))))) (aU (aB (eD _ _ _)) aY))))))))))
 ·simp at hb
  have hk0:k = 0:=by omega
  subst hk0
  have hlen:=hS.len
  have hfin:=hS.fin
  rw [bS] at hfin
  refine gG rfl (gW (i:=0) (tt:=6) rfl rfl (kH rfl hlen.symm (Nat.le_refl _)) (ts (rm rfl (ro rfl (cZ K_237 (oY _ hS.dig zo) ⟨(Ht rfl),trivial⟩) (rm rfl (ra rfl (ra rfl (eJ (cB rfl (fJ (fQ rfl) ?_) (fJ (fQ rfl) ?_))))))))))
  ·exact (cF hfin.1)
  ·exact (jQ hfin.2)
end
section
open Go Go.RowKit
theorem a0C {us vs : List Nat} {q j B l : Nat} (hul : us.length = l) (hu : jL us) (hv : jL vs) (hq : q < BB) (hl : j + vs.length < us.length) (hL : us.length ≤ 1152921504606846976) :
    iI Tryz.prog 267 [Is (.slice (some ⟨B,0,none⟩) l l),uI vs,NT .u64 q,NT .i64 j] [box B 218 (us.map bH)] (List Nat × Bool) (fun x=>aC x.2) (fun x=>[box B 218 (x.1.map bH)]) (fun x=>Ep us vs q j x.1 x.2):=by
 refine iI.intro Tryz.func267 rfl Tryz.ntmps267 rfl (fun cx Z=>(ts (ro rfl (cQ cV) (eJ (ts (ro rfl (cQ (cJ 0)) (ro rfl (cQ (cJ 0)) (eJ (cK (ts (rm rfl (ro rfl (dU U_56 (Ht rfl) aA) (ro rfl (cX (cJ 0)) (eJ (eU ?_)))))))))))))))
 refine tJ (fun (i : Nat) (out : List Nat) (c : Nat) (b : Nat) => qA us vs q j out i c b) (fun (i : Nat) (out : List Nat) (c : Nat) (b : Nat) => vs.length - i) (fun (i : Nat) (out : List Nat) (c : Nat) (b : Nat) => [(0, Is (.slice (some ⟨B, 0, none⟩) l l)), (1, uI vs), (2, NT .u64 q), (3, NT .i64 j), (9, NT .u64 c), (10, NT .u64 b), (16, uI vs), (17, NT .i64 vs.length), (18, NT .i64 i)]) (fun (i : Nat) (out : List Nat) (c : Nat) (b : Nat) => [Z, box B 218 (out.map bH)]) 0 us 0 0 (qA.start hu vs q j)
  (zS rfl) (cI.refl _) (fun i out c b hS=>?_)
 refine ts (ro rfl (gJ (Ht rfl) (Ht rfl)) (eJ (cK (dQ (Ht rfl) (fun hb=>?_) (fun hb=>?_)))))
 ·simp at hb
  have hlen:=hS.len; have hcl:=hS.clt; have hbl:=hS.ble; have hvi:=aM hv i; have hok:=aM hS.dig (i + j)
  have hp:=Jv hq hvi hS.clt
  simp only [BB] at hp hcl hvi hok
  obtain ⟨p,hp1⟩:∃ p,p = q * vs.getD i 0 + c:=⟨_,rfl⟩
  obtain ⟨x,hx1⟩:∃ x,x = ((out.getD (i + j) 0 + 18446744073709551616 - p % 4294967296) % 18446744073709551616 + 18446744073709551616 - b) % 18446744073709551616:=⟨_,rfl⟩
  refine cU (cK (eU (ts (rm rfl (ro rfl (dZ U_56 Z_218 (Ht rfl) (Ht rfl) rfl (eX (aF zo))) (ro rfl (dJ A_218 Z_218 (Ht rfl)) (ra rfl (ra rfl (eJ (ts (rm rfl (rm rfl (ro rfl (gV U_218 U_263 (Ht rfl) z7) (ro rfl (jR (Ht rfl) (Ht rfl) z7) (rm rfl (ro rfl (aI.nat (dW (Ht rfl) (Ht rfl) z7) hp1.symm) ?_))))))))))))))))
  refine ra rfl (eJ (ts (rm rfl (ro rfl (dP (Ht rfl) (cJ 32) (by decide)) (ra rfl (eJ (ts (rm rfl (rm rfl (rm rfl (ro rfl (dW (Ht rfl) (Ht rfl) z6) (ro rfl (gX U_56 Z_218 (Ht rfl) (Ht rfl) rfl zo (by rw [Nat.mul_one,Nat.zero_add])) ?_))))))))))))
  refine ro rfl (fX A_218 Z_218 (Ht rfl) (i:=1) rfl (eX (aF zo))) (ro rfl (gV U_218 U_263 (Ht rfl) z7) (rm rfl (ro rfl (eO rfl U_263 U_218 (Ht rfl)) (ro rfl (gV U_218 U_263 (Ht rfl) z7) (ro rfl (kS rfl (Ht rfl) (Ht rfl) (by show _ ≤ 18446744073709551616; first | omega | (simp only [kI]; omega))) ?_)))))
  refine rm rfl (ro rfl (aI.nat (kS rfl (Ht rfl) (Ht rfl) (by show _ ≤ 18446744073709551616; first | omega | (simp only [kI]; omega))) hx1.symm) (ra rfl (eJ (ts (rm rfl (rm rfl (rm rfl (ro rfl (dW (Ht rfl) (Ht rfl) z6) (rm rfl (ro rfl (eO rfl U_263 U_218 (Ht rfl)) (ro rfl (gX U_56 Z_218 (Ht rfl) (Ht rfl) rfl zo (by rw [Nat.mul_one,Nat.zero_add])) ?_)))))))))))
  refine jT Z_218 (Ht rfl) (Ht rfl) (i:=1) rfl (by first | omega | (simp; omega)) rfl (eJ (cY (rm rfl (ro rfl (dP (Ht rfl) (cJ 63) (by decide)) (ra rfl (eJ (bC (cY (ro rfl (dW (Ht rfl) (cJ 1) z6) (rm rfl (eJ (gQ (i + 1,_,_,_) (hS.next hu hv hq hb hl hp1 (Af hok hbl hx1) rfl) (by dsimp only; omega) (zS rfl) (aU (fun _ _ _ h=>h) (aU (aB (eD _ _ _)) aY))))))))))))))
 ·simp at hb
  have hkl:i = vs.length:=Nat.le_antisymm hS.ile hb
  subst hkl
  have hlen:=hS.len; have hcl:=hS.clt; have hbl:=hS.ble; have hok:=aM hS.dig (j + vs.length)
  obtain ⟨x,hx1⟩:∃ x,x = ((out.getD (j + vs.length) 0 + 18446744073709551616 - c) % 18446744073709551616 + 18446744073709551616 - b) % 18446744073709551616:=⟨_,rfl⟩
  have hfin:=hS.fin hl (Ag hok hcl hbl hx1) rfl
  simp only [BB] at hcl hok
  refine gG rfl (ts (rm rfl (rm rfl (rm rfl (ro rfl (dU U_56 (Ht rfl) aA) (ro rfl (dW (Ht rfl) (Ht rfl) z6) (ro rfl (gX U_56 Z_218 (Ht rfl) (Ht rfl) rfl zo (by rw [Nat.mul_one,Nat.zero_add])) ?_)))))))
  refine ro rfl (fX A_218 Z_218 (Ht rfl) (i:=1) rfl (eX (aF zo))) (ro rfl (gV U_218 U_263 (Ht rfl) z7) (rm rfl (ro rfl (kS rfl (Ht rfl) (Ht rfl) (by show _ ≤ 18446744073709551616; first | omega | (simp only [kI]; omega))) (rm rfl (ro rfl (aI.nat (kS rfl (Ht rfl) (Ht rfl) (by show _ ≤ 18446744073709551616; first | omega | (simp only [kI]; omega))) hx1.symm) (ra rfl (eJ (ts (rm rfl (rm rfl (rm rfl (ro rfl (dU U_56 (Ht rfl) aA) ?_))))))))))))
  refine ro rfl (dW (Ht rfl) (Ht rfl) z6) (rm rfl (ro rfl (eO rfl U_263 U_218 (Ht rfl)) (ro rfl (gX U_56 Z_218 (Ht rfl) (Ht rfl) rfl zo (by rw [Nat.mul_one,Nat.zero_add])) ?_)))
  refine jT Z_218 (Ht rfl) (Ht rfl) (i:=1) rfl (by first | omega | (simp; omega)) rfl (eJ (ts (rm rfl (ro rfl (dP (Ht rfl) (cJ 63) (by decide)) (ro rfl (iQ (Ht rfl) (cJ 0)) (ra rfl (eJ ?_)))))))
  exact kG (_,_) hfin [0,1] ⟨⟨_,rfl,fun _ _ _ h=>h⟩,⟨_,rfl,(aB (eD _ _ _))⟩,trivial⟩ (by decide) (vG rfl (fQ rfl))
theorem Kr {m n:Nat} (hm:(dg m).length ≤ 17592186044415) (hn1:(dg n).length ≤ 17592186044416) (hn:n ≠ 0):aP Tryz.prog 233 [aE m,aE n] (fR [aE (m / n),aE (m % n)]):=by
 refine aP.intro Tryz.func233 rfl Tryz.ntmps233 rfl (fun cx=>(ts (ro rfl (cQ cV) (ro rfl (cQ cV) (eJ (cK (ts (rm rfl (rm rfl (ro rfl (cZ Tryz.call199 (Qd zo zo) ⟨(Ht rfl),(Ht rfl),trivial⟩) (ro rfl (lT (Ht rfl) cV) (eJ (dQ (Ht rfl) (fun hb=>?_) (fun hb=>?_))))))))))))))
 ·simp only [decide_eq_true_eq] at hb
  have hlt : m < n := by
   unfold mH at hb
   split at hb
   ·assumption
   ·split at hb <;> simp at hb
  refine ts (rm rfl (ro rfl (cQ cV) (ra rfl (eJ (cB rfl (fJ (fQ rfl) ?_) (fJ (fQ rfl) ?_))))))
  ·exact (fun v V h=>cF (Nat.div_eq_of_lt hlt).symm v V (jF v V h))
  ·exact (cF (Nat.mod_eq_of_lt hlt).symm)
 ·simp only [decide_eq_false_iff_not] at hb
  have hle : n ≤ m := by
   unfold mH at hb
   split at hb
   ·simp at hb
   ·omega
  clear hb
  refine cU (cK (ts (rm rfl (ro rfl (dU U_56 (Ht rfl) aA) (ro rfl (cA (Ht rfl) (cJ 1)) (eJ (dQ (Ht rfl) (fun h1=>?_) (fun h1=>?_))))))))
  ·simp at h1
   have hy0:=Qz h1
   have hyb:=aM (bD n) 0
   have hmod:=Nat.mod_lt m (show (dg n).getD 0 0 > 0 by omega)
   simp only [BB] at hyb
   refine ts (rm rfl (rm rfl (ro rfl (dZ U_56 Z_218 (Ht rfl) (cJ 0) rfl (eX (aF zo))) (ro rfl (dJ A_218 Z_218 (Ht rfl)) (ro rfl (cZ Tryz.call264 (Kz zo zo hyb) ⟨(Ht rfl),(Ht rfl),trivial⟩) (rm rfl (ro rfl (dY (Ht rfl) rfl) (ro rfl (dY (Ht rfl) rfl) (ra rfl (ra rfl (eJ (ts (rm rfl (rm rfl (ro rfl (gV U_218 U_263 (Ht rfl) z7) (ro rfl (cZ Tryz.call238 (Co zo) ⟨(Ht rfl),trivial⟩) ?_))))))))))))))))
   refine ra rfl (ra rfl (eJ (cB rfl (fJ (fQ rfl) ?_) (fJ (fQ rfl) ?_))))
   ·exact (cF (by rw [hy0]))
   ·exact (cF (by rw [hy0]))
  ·simp at h1
   have hl0:(dg n).length ≠ 0:=fun e=>hn (aH.1 e)
   have hyb:=aM (bD n) ((dg n).length - 1)
   obtain ⟨s,hs⟩:∃ s,s = 32 - bl ((dg n).getD ((dg n).length - 1) 0):=⟨_,rfl⟩
   obtain ⟨hs1,hvl,hvb⟩:=Ft hn hs
   obtain ⟨hc1,hc2,hc3,hc4⟩:=Fl (m:=m) hs1
   simp only [BB] at hyb
   have hp2:0 < 2 ^ s:=Nat.pow_pos (by decide)
   have hX0:(dg (m * 2 ^ s)).length ≠ 0:=fun e=>(Nat.ne_of_gt (Nat.mul_pos (show 0 < m by omega) hp2)) (aH.1 e)
   have hmono:=gE hle
   refine cU (ts (rm rfl (ro rfl (dU U_56 (Ht rfl) aA) (rm rfl (rm rfl (ro rfl (dU U_56 (Ht rfl) aA) (ro rfl (dK (Ht rfl) (cJ 1) zo z6) (ro rfl (dZ U_56 Z_218 (Ht rfl) (Ht rfl) rfl (eX (aF zo))) (ro rfl (dJ A_218 Z_218 (Ht rfl)) (ro rfl (aI.nat (cZ Tryz.call265 (a0v zo) ⟨(Ht rfl),trivial⟩) hs.symm) (ra rfl (ra rfl (eJ (ts (rm rfl (rm rfl (ro rfl (cZ Tryz.call266 (Zu zo zo) ⟨(Ht rfl),(Ht rfl),trivial⟩) ?_)))))))))))))))))
   refine ra rfl (eJ (ts (rm rfl (ro rfl (dU U_56 (Ht rfl) aA) (ro rfl (dW (Ht rfl) (cJ 1) z6) (rn rfl (eI (T:=bH 0) (i:=Tryz.t218) V_56 gO rfl rfl (Ht rfl) rfl (fun _=>rfl) trivial (by show 4 * _ ≤ _; omega) zo) fun B55=>(ra rfl (eJ (ts (rm rfl (rm rfl (rm rfl (ro rfl (cZ Tryz.call266 (Zu zo zo) ⟨(Ht rfl),(Ht rfl),trivial⟩) (Ke U_56 Z_218 (Ht rfl) (Ht rfl) (Sa hX0) a05 (i:=0) rfl (by simp) (by simp; omega) (Fm _ _) rfl rfl ?_))))))))))))))
   refine eJ (ts (rm rfl (ro rfl (fT U_56 (Ht rfl)) (rm rfl (ro rfl (dK (Ht rfl) (Ht rfl) zo z6) (rn rfl (eI (T:=bH 0) (i:=Tryz.t218) V_56 gO rfl rfl (Ht rfl) rfl (fun _=>rfl) trivial (by show 4 * _ ≤ _; omega) zo) fun B65=>(ra rfl (eJ (cK (ts (rm rfl (ro rfl (fT U_56 (Ht rfl)) (ro rfl (iD (Ht rfl) cV (wD zo)) (ra rfl (eJ (eU ?_))))))))))))))))
   obtain ⟨vs,hvs⟩:∃ vs,vs = dg (n * 2 ^ s):=⟨_,rfl⟩
   rw [← hvs] at hvl hvb
   have hv:jL vs:=hvs ▸ bD _
   have hvv:val vs = n * 2 ^ s:=by rw [hvs,bS]
   have hV0:0 < val vs:=by rw [hvv]; exact Nat.mul_pos zo hp2
   have hnr:=Ly hv zo hvb
   have hv1:=hnr.v1lt; have hv2:=hnr.v2lt; have hbig:=hnr.big
   simp only [BB] at hv1 hv2 hbig
   refine jO (fun (k : Nat) (us : List Nat) (qs : List Nat) => mL (m * 2 ^ s) vs us qs k ∧ us.length = (dg m).length + 1) (fun (k : Nat) (us : List Nat) (qs : List Nat) => k) (fun (k : Nat) (us : List Nat) (qs : List Nat) => [(8, NT .i64 vs.length), (9, NT .i64 s), (10, uI vs), (11, Is (.slice (some ⟨B55, 0, none⟩) ((dg m).length + 1) ((dg m).length + 1))), (12, Is (.slice (some ⟨B65, 0, none⟩) ((dg m).length + 1 - (dg n).length) ((dg m).length + 1 - (dg n).length))), (13, aN .i64 ((k : Int) - 1))]) (fun (k : Nat) (us : List Nat) (qs : List Nat) => [box B55 218 (us.map bH), box B65 218 (qs.map bH)]) ((dg m).length + 1 - (dg n).length) (yR m s) (List.replicate ((dg m).length + 1 - (dg n).length) 0) ⟨mL.start hv zo hvb hs1 (by have := iJ (bD m); rwa [bS] at this) hc3 hc2 hc4 zo, hc2⟩
    (aZ rfl (jQ hvl.symm) (aQ rfl (aZ rfl (fun v V h=>by rw [hvs]; exact h) (aQ rfl (aQ rfl (aZ rfl (aS zo) aX)))))) (aU (fun _ _ _ h=>h) (aU (aB (jS _)) aY)) (fun k us qs ⟨hS,hus⟩=>?_)
   refine cK (ts (rm rfl (ro rfl (kW (Ht rfl) cV) (eJ (dQ (Ht rfl) (fun hk=>?_) (fun hk=>?_))))))
   ·simp at hk
    obtain ⟨j,rfl⟩:∃ j,k = j + 1:=⟨k - 1,by omega⟩
    have htp:=hS.top hv zo (Nat.succ_pos j) rfl
    have hkq:=hS.kle; have hlq:=hS.lenq
    rw [Nat.add_sub_cancel] at htp
    have hu0:=aM hS.dig (j + vs.length); have hu1:=aM hS.dig (j + vs.length - 1); have hu2:=aM hS.dig (j + vs.length - 2)
    have ht64:=Ub hu0 hu1; have hsh:=Hd hu0
    obtain ⟨top,htop⟩:∃ top,top = us.getD (j + vs.length) 0 * BB + us.getD (j + vs.length - 1) 0:=⟨_,rfl⟩
    have hor:=(tD (a:=us.getD (j + vs.length) 0) hu1).trans htop.symm
    rw [← htop] at htp ht64
    have hu2b:=hu2
    simp only [BB] at hu0 hu1 hu2
    refine vM (E':=[(8,_),(9,_),(10,_),(11,_),(12,_),(13,_),(69,_),(70,_)]) (aQ rfl (aQ rfl (aQ rfl (aQ rfl (aQ rfl (aZ rfl (aS (show ((j + 1:Nat):Int) - 1 = (j:Int) by omega)) (zS rfl))))))) (cU (cK (eU (cK (fV (m:=16) (dp 11 rfl (cX (Ht rfl)) (dp 13 rfl (cX (Ht rfl)) (dp 8 rfl (cX (Ht rfl)) (bR 74 1 75 2 rfl (dW (Ht rfl) (Ht rfl) z6) (bR 73 0 76 3 rfl (gX U_56 Z_218 (Ht rfl) (Ht rfl) rfl zo (by rw [Nat.mul_one,Nat.zero_add])) ?_))))))))))
    refine dq 77 4 rfl (fX A_218 Z_218 (Ht rfl) (i:=0) rfl (eX (aF zo))) (dq 78 5 rfl (gV U_218 U_263 (Ht rfl) z7) (dq 79 6 rfl (mA (Ht rfl) (cJ 32) (by decide) hsh) (dp 11 rfl (cX (Ht rfl)) (dp 13 rfl (cX (Ht rfl)) (dp 8 rfl (cX (Ht rfl)) (bR 82 9 83 10 rfl (dW (Ht rfl) (Ht rfl) z6) (dq 84 11 rfl (dK (Ht rfl) (cJ 1) zo z6) ?_)))))))
    refine bR 81 8 85 12 rfl (gX U_56 Z_218 (Ht rfl) (Ht rfl) rfl zo (by rw [Nat.mul_one,Nat.zero_add])) ?_
    refine dq 86 13 rfl (fX A_218 Z_218 (Ht rfl) (i:=0) rfl (eX (aF zo))) (dq 87 14 rfl (gV U_218 U_263 (Ht rfl) z7) (fG aO rfl (by kernel_rfl) (zF (zF (zF (zF (aV (ro rfl (aI.nat (nH rfl (Ht rfl) (Ht rfl) z7 z7) hor) ?_))))))))
    refine ra rfl (eJ (cK (fV (m:=17) (dp 14 rfl (cX (Ht rfl)) (dp 10 rfl (cX (Ht rfl)) (dp 8 rfl (cX (Ht rfl)) (dq 92 2 rfl (dK (Ht rfl) (cJ 1) zo z6) (bR 91 1 93 3 rfl (dZ U_56 Z_218 (Ht rfl) (Ht rfl) rfl (eX (aF zo))) (dq 94 4 rfl (dJ A_218 Z_218 (Ht rfl)) (dq 95 5 rfl (gV U_218 U_263 (Ht rfl) z7) ?_))))))))))
    refine bR 90 0 96 6 rfl (gU (Ht rfl) (Ht rfl) zo (by show _ < 18446744073709551616; exact ht64)) (dp 14 rfl (cX (Ht rfl)) (dp 10 rfl (cX (Ht rfl)) (dp 8 rfl (cX (Ht rfl)) (dq 100 10 rfl (dK (Ht rfl) (cJ 1) zo z6) (bR 99 9 101 11 rfl (dZ U_56 Z_218 (Ht rfl) (Ht rfl) rfl (eX (aF zo))) (dq 102 12 rfl (dJ A_218 Z_218 (Ht rfl)) (dq 103 13 rfl (gV U_218 U_263 (Ht rfl) z7) ?_)))))))
    refine bR 98 8 104 14 rfl (kE (Ht rfl) (Ht rfl) zo) (dq 97 7 rfl (cQ (Ht rfl)) (fG aO rfl (by kernel_rfl) (zF (zF (zF (zF (aJ (aV (ra rfl (eJ (cK (iB (fun (g:Nat)=>Ia (val (us.drop j)) (val vs) g) (fun (g:Nat)=>[(8,NT .i64 vs.length),(9,NT .i64 s),(10,uI vs),(11,Is (.slice (some ⟨B55,0,none⟩) ((dg m).length + 1) ((dg m).length + 1))),(12,Is (.slice (some ⟨B65,0,none⟩) ((dg m).length + 1 - (dg n).length) ((dg m).length + 1 - (dg n).length))),(13,NT .i64 j),(15,NT .u64 g)]) (fun (g:Nat)=>[box B55 218 (us.map bH),box B65 218 (qs.map bH)]) ?_ (fun g hg=>?_)))))))))))))
    ·refine eU ?_
     refine eS (fun (g : Nat) (r : Nat) => kU (val (us.drop j)) (val vs) (vs.getD (vs.length - 1) 0) top g r ∧ r < 4294967296) (fun (g : Nat) (r : Nat) => g) (fun (g : Nat) (r : Nat) => [(8, NT .i64 vs.length), (9, NT .i64 s), (10, uI vs), (11, Is (.slice (some ⟨B55, 0, none⟩) ((dg m).length + 1) ((dg m).length + 1))), (12, Is (.slice (some ⟨B65, 0, none⟩) ((dg m).length + 1 - (dg n).length) ((dg m).length + 1 - (dg n).length))), (13, NT .i64 j), (15, NT .u64 g), (16, NT .u64 r)]) (fun (g : Nat) (r : Nat) => [box B55 218 (us.map bH), box B65 218 (qs.map bH)]) (top / vs.getD (vs.length - 1) 0) (top % vs.getD (vs.length - 1) 0) ⟨kU.start hnr htp, Nat.lt_trans (Nat.mod_lt _ zo) hv1⟩
      (zS rfl) (cI.refl _) (fun g r ⟨hG,hr⟩=>?_)
     have hgl:=(hG.glt hnr htp).1
     have hrs:=Hd (a:=r) hr
     have horr:=tD (a:=r) hu2b
     simp only [BB] at hgl
     refine cK (cK (fV (m:=22) (dp 15 rfl (cX (Ht rfl)) (dq 106 0 rfl (nY (Ht rfl) (cJ 4294967296)) (dq 107 1 rfl (cX (Ht rfl)) (C.D_step (Ei:=[(15,_),(108,_)]) rfl rfl (bV (bK rfl rfl) (bV (bG 2 rfl rfl) bW)) (eY rfl rfl (Ht rfl) (fun h=>cX (Ht rfl))) (C.D_step (Ei:=[(10,_),(108,_)]) rfl rfl (bV (bK rfl rfl) (bV (bG 2 rfl rfl) bW)) (eY rfl rfl (Ht rfl) (fun h=>cX (Ht rfl))) (C.D_step (Ei:=[(8,_),(108,_)]) rfl rfl (bV (bK rfl rfl) (bV (bG 2 rfl rfl) bW)) (eY rfl rfl (Ht rfl) (fun h=>cX (Ht rfl))) ?_))))))))
     refine C.D_step (Ei:=[(111,_),(108,_)]) rfl rfl (bV (bG 5 rfl rfl) (bV (bG 2 rfl rfl) bW)) (eY rfl rfl (Ht rfl) (fun h=>dK (fW rfl h) (cJ 2) (by first | omega | (simp at h; omega)) (by show _ < 9223372036854775808; first | omega | (simp at h; omega)))) (C.D_step (Ei:=[(110,_),(112,_),(108,_)]) rfl rfl (bV (bG 4 rfl rfl) (bV (bG 6 rfl rfl) (bV (bG 2 rfl rfl) bW))) (eY rfl rfl (Ht rfl) (fun h=>dZ U_56 Z_218 (fW rfl h) (fW rfl h) rfl (eX (aF (by first | omega | (simp at h; omega)))))) ?_)
     refine C.D_step (Ei:=[(113,_),(108,_)]) rfl rfl (bV (bG 7 rfl rfl) (bV (bG 2 rfl rfl) bW)) (eY rfl rfl (Ht rfl) (fun h=>dJ A_218 Z_218 (fW rfl h))) (C.D_step (Ei:=[(114,_),(108,_)]) rfl rfl (bV (bG 8 rfl rfl) (bV (bG 2 rfl rfl) bW)) (eY rfl rfl (Ht rfl) (fun h=>gV U_218 U_263 (fW rfl h) (by show _ < 18446744073709551616; first | omega | (simp at h; omega)))) (C.D_step (Ei:=[(109,_),(115,_),(108,_)]) rfl rfl (bV (bG 3 rfl rfl) (bV (bG 9 rfl rfl) (bV (bG 2 rfl rfl) bW))) (eY rfl rfl (Ht rfl) (fun h=>jR (fW rfl h) (fW rfl h) (by show _ < 18446744073709551616; simp at h; exact a04 h hv2))) ?_))
     refine C.D_step (Ei:=[(16,_),(108,_)]) rfl rfl (bV (bK rfl rfl) (bV (bG 2 rfl rfl) bW)) (eY rfl rfl (Ht rfl) (fun h=>cX (Ht rfl))) (C.D_step (Ei:=[(117,_),(108,_)]) rfl rfl (bV (bG 11 rfl rfl) (bV (bG 2 rfl rfl) bW)) (eY rfl rfl (Ht rfl) (fun h=>mA (fW rfl h) (cJ 32) (by decide) hrs)) (C.D_step (Ei:=[(11,_),(108,_)]) rfl rfl (bV (bK rfl rfl) (bV (bG 2 rfl rfl) bW)) (eY rfl rfl (Ht rfl) (fun h=>cX (Ht rfl))) (C.D_step (Ei:=[(13,_),(108,_)]) rfl rfl (bV (bK rfl rfl) (bV (bG 2 rfl rfl) bW)) (eY rfl rfl (Ht rfl) (fun h=>cX (Ht rfl))) ?_)))
     refine C.D_step (Ei:=[(8,_),(108,_)]) rfl rfl (bV (bK rfl rfl) (bV (bG 2 rfl rfl) bW)) (eY rfl rfl (Ht rfl) (fun h=>cX (Ht rfl))) (C.D_step (Ei:=[(120,_),(121,_),(108,_)]) rfl rfl (bV (bG 14 rfl rfl) (bV (bG 15 rfl rfl) (bV (bG 2 rfl rfl) bW))) (eY rfl rfl (Ht rfl) (fun h=>dW (fW rfl h) (fW rfl h) (by show _ < 9223372036854775808; first | omega | (simp at h; omega)))) (C.D_step (Ei:=[(122,_),(108,_)]) rfl rfl (bV (bG 16 rfl rfl) (bV (bG 2 rfl rfl) bW)) (eY rfl rfl (Ht rfl) (fun h=>dK (fW rfl h) (cJ 2) (by first | omega | (simp at h; omega)) (by show _ < 9223372036854775808; first | omega | (simp at h; omega)))) ?_))
     refine C.D_step (Ei:=[(119,_),(123,_),(108,_)]) rfl rfl (bV (bG 13 rfl rfl) (bV (bG 17 rfl rfl) (bV (bG 2 rfl rfl) bW))) (eY rfl rfl (Ht rfl) (fun h=>gX U_56 Z_218 (fW rfl h) (fW rfl h) rfl (by first | omega | (simp at h; omega)) (by rw [Nat.mul_one,Nat.zero_add]))) ?_
     refine C.D_step (Ei:=[(124,_),(108,_)]) rfl rfl (bV (bG 18 rfl rfl) (bV (bG 2 rfl rfl) bW)) (eY rfl rfl (Ht rfl) (fun h=>fX A_218 Z_218 (fW rfl h) (i:=0) rfl (eX (aF zo)))) (C.D_step (Ei:=[(125,_),(108,_)]) rfl rfl (bV (bG 19 rfl rfl) (bV (bG 2 rfl rfl) bW)) (eY rfl rfl (Ht rfl) (fun h=>gV U_218 U_263 (fW rfl h) (by show _ < 18446744073709551616; first | omega | (simp at h; omega)))) (C.D_step (Ei:=[(118,_),(126,_),(108,_)]) rfl rfl (bV (bG 12 rfl rfl) (bV (bG 20 rfl rfl) (bV (bG 2 rfl rfl) bW))) (eY rfl rfl (Ht rfl) (fun h=>aI.nat (nH rfl (fW rfl h) (fW rfl h) (by show _ < 18446744073709551616; first | omega | (simp at h; omega)) (by show _ < 18446744073709551616; first | omega | (simp at h; omega))) horr)) ?_))
     refine fG aO rfl (by kernel_rfl) (zF (zF (zF (zF (zF (aJ (aJ (aV (fZ rfl rfl (eY rfl rfl (Ht rfl) (fun h=>eN (fW rfl h) (fW rfl h))) (ro rfl (kP (Ht rfl) (fun h=>(fW rfl h))) (eJ (dQ (Ht rfl) (fun hc=>?_) (fun hc=>?_)))))))))))))
     ·have hn2 := hG.next hnr htp (by simpa [BB] using hc)
      have hg1:=hn2.2
      refine cU (eU (ts (rm rfl (ro rfl (dK (Ht rfl) (cJ 1) zo z7) (ra rfl (eJ (ts (rm rfl (rm rfl (rm rfl (ro rfl (dK (Ht rfl) (cJ 1) zo z6) (ro rfl (dZ U_56 Z_218 (Ht rfl) (Ht rfl) rfl (eX (aF zo))) (ro rfl (dJ A_218 Z_218 (Ht rfl)) (ro rfl (gV U_218 U_263 (Ht rfl) z7) ?_))))))))))))))
      refine ro rfl (dW (Ht rfl) (Ht rfl) z7) (ra rfl (eJ (ts (rm rfl (ro rfl (nY (Ht rfl) (cJ 4294967296)) (eJ (dQ (Ht rfl) (fun hr2=>?_) (fun hr2=>?_))))))))
      ·simp at hr2
       refine gG rfl (aL (g - 1) (hn2.1.stop hnr htp hr2) (zS rfl) (cI.refl _))
      ·simp at hr2
       refine cU (bC (gQ (g - 1,_) ⟨hn2.1,hr2⟩ (by dsimp only; omega) (zS rfl) (cI.refl _)))
     ·simp at hc
      refine gG rfl (aL g (hG.done hnr htp hc.1 hc.2) (zS rfl) (cI.refl _))
    ·have hglt := hg.lt
     simp only [BB] at hglt
     refine cK (nN (fun (us2:List Nat) (g2:Nat)=>mL (m * 2 ^ s) vs us2 (qs.set j g2) j ∧ g2 < 4294967296 ∧ us2.length = (dg m).length + 1) (fun (us2:List Nat) (g2:Nat)=>[(8,NT .i64 vs.length),(9,NT .i64 s),(10,uI vs),(11,Is (.slice (some ⟨B55,0,none⟩) ((dg m).length + 1) ((dg m).length + 1))),(12,Is (.slice (some ⟨B65,0,none⟩) ((dg m).length + 1 - (dg n).length) ((dg m).length + 1 - (dg n).length))),(13,NT .i64 j),(15,NT .u64 g2)]) (fun (us2:List Nat) (g2:Nat)=>[box B55 218 (us2.map bH),box B65 218 (qs.map bH)]) ?_ (fun us2 g2 ⟨hD,hg2,hus2⟩=>?_))
     ·refine ts (rm rfl (rm rfl (rm rfl (rm rfl (Ch Tryz.call267 (a0C hus hS.dig hv hg.lt zo zo) (i := 0) rfl ⟨(Ht rfl), (Ht rfl), (Ht rfl), (Ht rfl), trivial⟩ rfl (fun ⟨out, b⟩ hT => ?_))))))
      dsimp only at hT
      refine eJ (dQ (Ht rfl) (fun hbb=>?_) (fun hbb=>?_))
      ·have hbb : b = true := hbb
       subst hbb
       have hg0:=hS.gpos hv rfl zo hT
       have hol:=hT.len
       refine ts (rm rfl (ro rfl (dK (Ht rfl) (cJ 1) zo z7) (ra rfl (eJ (ts (ro rfl (cQ (cJ 0)) (eJ (cK (ts (rm rfl (ro rfl (dU U_56 (Ht rfl) aA) (ro rfl (cX (cJ 0)) (eJ (eU ?_))))))))))))))
       refine jO (fun (i : Nat) (out2 : List Nat) (c : Nat) => pY out vs j out2 i c) (fun (i : Nat) (out2 : List Nat) (c : Nat) => vs.length - i) (fun (i : Nat) (out2 : List Nat) (c : Nat) => [(8, NT .i64 vs.length), (9, NT .i64 s), (10, uI vs), (11, Is (.slice (some ⟨B55, 0, none⟩) ((dg m).length + 1) ((dg m).length + 1))), (12, Is (.slice (some ⟨B65, 0, none⟩) ((dg m).length + 1 - (dg n).length) ((dg m).length + 1 - (dg n).length))), (13, NT .i64 j), (15, NT .u64 (g - 1 : Nat)), (17, NT .u64 c), (149, uI vs), (150, NT .i64 vs.length), (151, NT .i64 i)]) (fun (i : Nat) (out2 : List Nat) (c : Nat) => [box B55 218 (out2.map bH), box B65 218 (qs.map bH)]) 0 out 0 (pY.start hT.dig vs j)
        (zS rfl) (cI.refl _) (fun i out2 c hB=>?_)
       refine ts (ro rfl (gJ (Ht rfl) (Ht rfl)) (eJ (cK (dQ (Ht rfl) (fun hi=>?_) (fun hi=>?_)))))
       ·simp at hi
        have hlen:=hB.len; have hcl:=hB.cle; have hvi:=aM hv i; have hok:=aM hB.dig (i + j)
        simp only [BB] at hvi hok
        refine cU (cK (eU (ts (rm rfl (ro rfl (dZ U_56 Z_218 (Ht rfl) (Ht rfl) rfl (eX (aF zo))) (ro rfl (dJ A_218 Z_218 (Ht rfl)) (ra rfl (ra rfl (eJ (ts (rm rfl (rm rfl (rm rfl (rm rfl (ro rfl (dW (Ht rfl) (Ht rfl) z6) (ro rfl (gX U_56 Z_218 (Ht rfl) (Ht rfl) rfl zo (by rw [Nat.mul_one,Nat.zero_add])) ?_))))))))))))))))
        refine ro rfl (fX A_218 Z_218 (Ht rfl) (i:=0) rfl (eX (aF zo))) (ro rfl (gV U_218 U_263 (Ht rfl) z7) (rm rfl (ro rfl (gV U_218 U_263 (Ht rfl) z7) (ro rfl (dW (Ht rfl) (Ht rfl) z7) (ro rfl (dW (Ht rfl) (Ht rfl) z7) ?_)))))
        refine ra rfl (eJ (ts (rm rfl (rm rfl (rm rfl (ro rfl (dW (Ht rfl) (Ht rfl) z6) (rm rfl (ro rfl (eO rfl U_263 U_218 (Ht rfl)) (ro rfl (gX U_56 Z_218 (Ht rfl) (Ht rfl) rfl zo (by rw [Nat.mul_one,Nat.zero_add])) ?_)))))))))
        refine jT Z_218 (Ht rfl) (Ht rfl) (i:=0) rfl (by first | omega | (simp; omega)) rfl (eJ (cY (rm rfl (ro rfl (dP (Ht rfl) (cJ 32) (by decide)) (ra rfl (eJ (bC (cY (ro rfl (dW (Ht rfl) (cJ 1) z6) (rm rfl (eJ (gQ (i + 1,_,_) (hB.next hv hi zo rfl) (by dsimp only; omega) (zS rfl) (aU (aB (eD _ _ _)) (aU (fun _ _ _ h=>h) aY))))))))))))))
       ·simp at hi
        have hil:i = vs.length:=Nat.le_antisymm hB.ile hi
        subst hil
        have hlen:=hB.len; have hcl:=hB.cle; have hok:=aM hB.dig (j + vs.length)
        have hBk:=hB.fin zo rfl
        obtain ⟨_,hDn⟩:=hS.wrong hv hV0 (Nat.succ_pos j) rfl hg hT hBk
        simp only [BB] at hok
        refine gG rfl (cY (rm rfl (rm rfl (rm rfl (ro rfl (dW (Ht rfl) (Ht rfl) z6) (ro rfl (gX U_56 Z_218 (Ht rfl) (Ht rfl) rfl zo (by rw [Nat.mul_one,Nat.zero_add])) ?_))))))
        refine ro rfl (fX A_218 Z_218 (Ht rfl) (i:=0) rfl (eX (aF zo))) (rm rfl (ro rfl (gV U_263 U_218 (Ht rfl) (by show _ < 4294967296; first | omega | (simp only [kI]; omega))) (ro rfl (Ma rfl (Ht rfl) (Ht rfl)) (ro rfl (gX U_56 Z_218 (Ht rfl) (Ht rfl) rfl zo (by rw [Nat.mul_one,Nat.zero_add])) ?_))))
        refine jT Z_218 (Ht rfl) (Ht rfl) (i:=0) rfl (by first | omega | (simp; omega)) rfl (eJ (aL (_,g - 1) ⟨hDn,by dsimp only; omega,by simp; omega⟩ (zS rfl) (aU (aB (eD _ _ _)) (aU (fun _ _ _ h=>h) aY))))
      ·have hbb : b = false := hbb
       subst hbb
       have hol:=hT.len
       refine cU (aL (out,g) ⟨hS.right hv hV0 (Nat.succ_pos j) rfl hg hT,hglt,by dsimp only; omega⟩ (zS rfl) (cI.refl _))
     ·refine cY (rm rfl (rm rfl (rm rfl (ro rfl (gV U_263 U_218 (Ht rfl) (by show _ < 4294967296; first | omega | (simp only [kI]; omega))) (ro rfl (gX U_56 Z_218 (Ht rfl) (Ht rfl) rfl zo (by rw [Nat.mul_one, Nat.zero_add])) ?_)))))
      refine jT Z_218 (Ht rfl) (Ht rfl) (i:=1) rfl (by first | omega | (simp; omega)) rfl (eJ (bC (cY (rm rfl (ro rfl (iD (Ht rfl) cV (wD zo)) (ra rfl (eJ (gQ (j,us2,_) ⟨hD,hus2⟩ (by dsimp only; omega) (zS rfl) (aU (fun _ _ _ h=>h) (aU (aB (eD _ _ _)) aY))))))))))
   ·simp at hk
    have hk0:k = 0:=by omega
    subst hk0
    have hfin:=hS.fin hV0
    have hlq:=hS.lenq
    rw [hvv] at hfin
    have hdiv:val qs = m / n:=by rw [hfin.1]; exact Nat.mul_div_mul_right _ _ hp2
    have hsm:val us < BB ^ vs.length:=by have h1:=hS.small; rw [List.drop_zero] at h1; exact Nat.lt_trans h1 (iJ hv)
    have hmod : val (us.take vs.length) / 2 ^ s = m % n := by
     rw [mS hsm zo,hfin.2,Nat.mul_mod_mul_right,Nat.mul_div_cancel _ hp2]
    have hru : (dg (val (us.take vs.length))).length ≤ 17592186044416 := by
     refine Nat.le_trans (iV (k:=vs.length) ?_) zo
     rw [mS hsm zo]; exact hsm
    refine gG rfl (gW (i:=1) (tt:=12) rfl rfl (kH rfl zo (Nat.le_refl _)) (gW (i:=0) (tt:=11) rfl rfl (kH rfl zo (Nat.le_refl _)) (cK (fV (m:=7) (dp 12 rfl (cX (Ht rfl)) (dq 193 0 rfl (cZ K_237 (oY _ hS.digq zo) ⟨(Ht rfl),trivial⟩) (dp 11 rfl (cX (Ht rfl)) (dp 8 rfl (cX (Ht rfl)) (bR 195 2 196 3 rfl (aI.imp (sE U_56 Z_218 (Ht rfl) (Ht rfl) (fun m e=>by cases e) zo (by simp; omega) rfl) (Lk _ _)) ?_)))))))))
    refine dq 197 4 rfl (cZ K_237 (oY _ (hS.dig.take' vs.length) (by simp; omega)) ⟨(Ht rfl),trivial⟩) ?_
    refine dp 9 rfl (cX (Ht rfl)) (fG aO rfl (by kernel_rfl) (zF (aJ (aJ (aJ (aV (ro rfl (cZ Tryz.call268 (a1O hru zo) ⟨(Ht rfl),(Ht rfl),trivial⟩) (ra rfl (ra rfl (eJ (cB rfl (fJ (fQ rfl) ?_) (fJ (fQ rfl) ?_))))))))))))
    ·exact (cF hdiv)
    ·exact (cF hmod)
end
section
open Go Go.RowKit
theorem Rp:Tryz.prog.info? 5 = some Tryz.t5:=by kernel_rfl
theorem xU:Tryz.prog.underlying 296 = some (.slice 5):=by kernel_rfl
theorem a07:Tryz.prog.underlying 5 = some (.int .u8):=by kernel_rfl
theorem a08:Tryz.prog.underlying 9 = some (.string):=by kernel_rfl
end
section
open Go Go.RowKit
theorem Zr {m n:Nat} (hm:(dg m).length ≤ 17592186044415) (hn:(dg n).length ≤ 17592186044415):aP Tryz.prog 231 [aE m,aE n] (aE (Nat.gcd m n)):=by
 refine aP.intro Tryz.func231 rfl Tryz.ntmps231 rfl (fun cx=>(ts (ro rfl (cQ cV) (eJ (cK (eU ?_))))))
 refine eS (fun (x : Nat) (y : Nat) => Nat.gcd x y = Nat.gcd m n ∧ (dg x).length ≤ 17592186044415 ∧ (dg y).length ≤ 17592186044415) (fun (x : Nat) (y : Nat) => y) (fun (x : Nat) (y : Nat) => [(0, aE x), (1, aE y)]) (fun (x : Nat) (y : Nat) => []) m n ⟨rfl, hm, hn⟩
  (zS rfl) aY (fun x y ⟨hg,hx,hy⟩=>?_)
 refine cK (ts (rm rfl (ro rfl (dU U_56 (Ht rfl) aA) (ro rfl (eN (Ht rfl) (cJ 0)) (eJ (dQ (Ht rfl) (fun hb=>?_) (fun hb=>?_)))))))
 ·simp at hb
  have hy0:y ≠ 0:=fun e=>by rw [e,dI] at hb; simp at hb
  have hlt:=Nat.mod_lt x (Nat.pos_of_ne_zero hy0)
  refine cU (eU (ts (rm rfl (rm rfl (ro rfl (cZ Tryz.call233 (Kr hx zo hy0) ⟨(Ht rfl),(Ht rfl),trivial⟩) (rm rfl (ro rfl (dY (Ht rfl) rfl) (ro rfl (dY (Ht rfl) rfl) (ra rfl (ra rfl (eJ (cY (rm rfl (rm rfl (ra rfl (ra rfl (eJ (bC (gQ (y,x % y) ⟨by rw [← hg,Nat.gcd_comm x y,Nat.gcd_rec y x,Nat.gcd_comm],hy,Nat.le_trans (gE (Nat.le_of_lt hlt)) hy⟩ hlt (zS rfl) aY)))))))))))))))))))
 ·simp at hb
  have hy0:y = 0:=aH.1 (by simpa using hb)
  subst hy0
  rw [Nat.gcd_zero_right] at hg
  refine gG rfl (ts (rm rfl (ra rfl (eJ (fK rfl (fJ (fQ rfl) ?_))))))
  exact (cF hg)
theorem a1N {l:List Nat} {v:Value} (hl:l.length ≤ 1152921504606846976):iI Tryz.prog 280 [Is v] [bI 5 1 v (l.map vN)] Unit (fun _=>nK) (fun _=>[bI 5 1 v (l.reverse.map vN)]) (fun _=>True):=by
 refine iI.intro Tryz.func280 rfl Tryz.ntmps280 rfl (fun cx Z=>(ts (rm rfl (ro rfl (sD U_296 (Ht rfl) (i:=1) rfl aA) (ro rfl (iD (Ht rfl) cV (wD zo)) (ro rfl (cQ (cJ 0)) (ra rfl (eJ (eU ?_)))))))))
 refine eS (fun (k : Nat) (o : List Nat) => yD l o k) (fun (k : Nat) (o : List Nat) => l.length - k) (fun (k : Nat) (o : List Nat) => [(0, Is v), (2, NT .i64 k), (3, aN .i64 ((l.length : Int) - 1 - (k : Int)))]) (fun (k : Nat) (o : List Nat) => [Z, bI 5 1 v (o.map vN)]) 0 l (yD.start l)
  (aQ rfl (aQ rfl (aZ rfl (aS zo) aX))) (cI.refl _) (fun k o hS=>?_)
 refine cK (ts (rm rfl (rm rfl (ro rfl (lT (Ht rfl) (Ht rfl)) (eJ (dQ (Ht rfl) (fun hb=>?_) (fun hb=>?_)))))))
 ·simp only [decide_eq_true_eq] at hb
  have hk:2 * k + 1 < l.length:=by omega
  obtain ⟨j,hj⟩:∃ j,j = l.length - 1 - k:=⟨_,rfl⟩
  have hlen:=hS.len
  refine vM (E':=[(0,_),(2,_),(3,_),(7,_),(8,_),(9,_)]) (aQ rfl (aQ rfl (aZ rfl (aS (show (l.length:Int) - 1 - (k:Int) = (j:Int) by omega)) (zS rfl)))) (cU (cK (eU (W.D_start (m:=14) (fun b=>cond b ([Z,bI 5 1 v ((o.map vN).set k (vN (o.getD j 0)))]) _) 13 (W.D_step (Ei:=[(0,_)]) rfl rfl (W.Srcs.cons (W.Src.pre rfl rfl) W.Srcs.nil) rfl (by kernel_rfl) (dX rfl (cX (Ht rfl))) (W.D_step (Ei:=[(2,_)]) rfl rfl (W.Srcs.cons (W.Src.pre rfl rfl) W.Srcs.nil) rfl (by kernel_rfl) (dX rfl (cX (Ht rfl))) ?_))))))
  refine W.D_pure (Ei:=[(0,_)]) rfl rfl (W.Srcs.cons (W.Src.pre rfl rfl) W.Srcs.nil) rfl (fun _=>dX rfl (cX (Ht rfl))) (W.D_pure (Ei:=[(3,_)]) rfl rfl (W.Srcs.cons (W.Src.pre rfl rfl) W.Srcs.nil) rfl (fun _=>dX rfl (cX (Ht rfl))) (W.D_step (Ei:=[(0,_)]) rfl rfl (W.Srcs.cons (W.Src.pre rfl rfl) W.Srcs.nil) rfl (by kernel_rfl) (dX rfl (cX (Ht rfl))) (W.D_step (Ei:=[(3,_)]) rfl rfl (W.Srcs.cons (W.Src.pre rfl rfl) W.Srcs.nil) rfl (by kernel_rfl) (dX rfl (cX (Ht rfl))) (W.D_step (Ei:=[(18,_),(19,_)]) rfl rfl (W.Srcs.cons (W.Src.op 4 rfl rfl) (W.Srcs.cons (W.Src.op 5 rfl rfl) W.Srcs.nil)) rfl (by kernel_rfl) (dX rfl (cP U_296 Z_5 (Ht rfl) (Ht rfl) rfl (i:=1) rfl (by first | omega | (simp; omega)) rfl)) ?_))))
  refine W.D_step (Ei:=[(20,_)]) rfl rfl (W.Srcs.cons (W.Src.op 6 rfl rfl) W.Srcs.nil) rfl (by kernel_rfl) (dX rfl (lS A_5 Z_5 (Ht rfl) (i:=1) rfl rfl (eX (aF zo)))) (W.D_step (Ei:=[(0,_)]) rfl rfl (W.Srcs.cons (W.Src.pre rfl rfl) W.Srcs.nil) rfl (by kernel_rfl) (dX rfl (cX (Ht rfl))) (W.D_step (Ei:=[(2,_)]) rfl rfl (W.Srcs.cons (W.Src.pre rfl rfl) W.Srcs.nil) rfl (by kernel_rfl) (dX rfl (cX (Ht rfl))) (W.D_step (Ei:=[(22,_),(23,_)]) rfl rfl (W.Srcs.cons (W.Src.op 8 rfl rfl) (W.Srcs.cons (W.Src.op 9 rfl rfl) W.Srcs.nil)) rfl (by kernel_rfl) (dX rfl (cP U_296 Z_5 (Ht rfl) (Ht rfl) rfl (i:=1) rfl (by first | omega | (simp; omega)) rfl)) ?_)))
  refine W.D_step (Ei:=[(24,_)]) rfl rfl (W.Srcs.cons (W.Src.op 10 rfl rfl) W.Srcs.nil) rfl (by kernel_rfl) (dX rfl (lS A_5 Z_5 (Ht rfl) (i:=1) rfl rfl (eX (aF zo)))) (W.D_step (Ei:=[(14,_),(15,_)]) rfl rfl (W.Srcs.cons (W.Src.op 0 rfl rfl) (W.Srcs.cons (W.Src.op 1 rfl rfl) W.Srcs.nil)) rfl (by kernel_rfl) (dX rfl (cP U_296 Z_5 (Ht rfl) (Ht rfl) rfl (i:=1) rfl (by first | omega | (simp; omega)) rfl)) (W.D_put (Ei:=[(26,_),(21,_)]) rfl rfl (W.Srcs.cons (W.Src.op 12 rfl rfl) (W.Srcs.cons (W.Src.op 7 rfl rfl) W.Srcs.nil)) rfl (Kc Z_5 (Ht rfl) (Ht rfl) El.one (i:=1) rfl rfl (by first | omega | (simp; omega))) ?_))
  refine W.D_done aO rfl (by kernel_rfl) rfl (W.F_val (W.F_val (W.F_val (W.F_val (W.F_val (W.F_val (W.F_val (W.F_val (W.F_val (W.F_val (W.F_val (W.F_val (W.F_val (W.F_put (W.F_nil (ro rfl (cP U_296 Z_5 (Ht rfl) (Ht rfl) rfl (i:=1) rfl (by first | omega | (simp; omega)) rfl) (lE Z_5 (Ht rfl) (Ht rfl) El.one (i:=1) rfl rfl (by first | omega | (simp; omega)) rfl (eJ (bC (cY (rm rfl (ro rfl (dW (Ht rfl) (cJ 1) z6) (rm rfl (ro rfl (iD (Ht rfl) cV (wD zo)) ?_))))))))))))))))))))))))
  refine ra rfl (ra rfl (eJ (gQ (k + 1,_) (hS.next hk hj) (by dsimp only; omega) (aQ rfl (aQ rfl (aZ rfl (aS zo) aX))) (aU (fun _ _ _ h=>h) (aU (bL (Mp _ _ _ _ _)) aY)))))
 ·simp only [decide_eq_false_iff_not] at hb
  have hfin:=hS.fin (by have:=hS.kle; omega)
  refine gG rfl ?_
  exact a0h () trivial [0,1] ⟨⟨_,rfl,fun _ _ _ h=>h⟩,⟨_,rfl,(bL (by rw [hfin]))⟩,trivial⟩ (by decide) (a2k rfl (fun _=>trivial))
theorem Ev {m:Nat} (hm:(dg m).length ≤ 8796093022208):aP Tryz.prog 260 [aE m] (oE (sM m)):=by
 refine aP.intro Tryz.func260 rfl Tryz.ntmps260 rfl (fun cx=>(ts (ro rfl (cQ (bB.cS (l:=[]) rfl)) (eJ (cK (ts (rm rfl (ro rfl (dU U_56 (Ht rfl) aA) (ro rfl (cA (Ht rfl) (cJ 0)) (eJ (dQ (Ht rfl) (fun hb=>?_) (fun hb=>?_))))))))))))
 ·simp at hb
  have h0:m = 0:=aH.1 (by simpa using hb)
  subst h0
  refine ts (ro rfl (cQ (bB.cS (l:=[48]) rfl)) (eJ (fK rfl (fJ (fQ rfl) ?_))))
  exact (iP rfl)
 ·simp at hb
  have h0:m ≠ 0:=fun e=>hb (by rw [e,dI])
  refine cU (ts (ro rfl (cQ cV) (eJ (cK (eU (Eo 5 1 ?_))))))
  refine jO (fun (x : Nat) (out : List Nat) (v : Value) => xZ m out x ∧ x ≤ m) (fun (x : Nat) (out : List Nat) (v : Value) => x) (fun (x : Nat) (out : List Nat) (v : Value) => [(0, aE x), (3, Is v)]) (fun (x : Nat) (out : List Nat) (v : Value) => [bI 5 1 v (out.map vN)]) m [] (.slice none 0 0) ⟨xZ.start m, Nat.le_refl m⟩
   (zS rfl) (cI.refl _) (fun x out v ⟨hO,hle⟩=>?_)
  refine cK (ts (rm rfl (ro rfl (dU U_56 (Ht rfl) aA) (ro rfl (eN (Ht rfl) (cJ 0)) (eJ (dQ (Ht rfl) (fun hc=>?_) (fun hc=>?_)))))))
  ·simp at hc
   have hx0:x ≠ 0:=fun e=>by rw [e,dI] at hc; simp at hc
   have hxm:=gE hle
   refine cU (eU (ts (ro rfl (cQ (cJ 0)) (eJ (ts (rm rfl (ro rfl (cZ Tryz.call264 (Kz zo (by decide) (by decide)) ⟨(Ht rfl),(cJ 1000000000),trivial⟩) (rm rfl (ro rfl (dY (Ht rfl) rfl) (ro rfl (dY (Ht rfl) rfl) (ra rfl (ra rfl (eJ (ts (ro rfl (cQ (cJ 0)) (eJ (eU ?_)))))))))))))))))
   refine tJ (fun (r : Nat) (k : Nat) (out : List Nat) (v : Value) => wG m out (x / 1000000000) r k) (fun (r : Nat) (k : Nat) (out : List Nat) (v : Value) => 9 - k) (fun (r : Nat) (k : Nat) (out : List Nat) (v : Value) => [(0, aE (x / 1000000000)), (3, Is v), (4, bH r), (5, NT .i64 k)]) (fun (r : Nat) (k : Nat) (out : List Nat) (v : Value) => [bI 5 1 v (out.map vN)]) (x % 1000000000) 0 out v (hO.inner)
    (zS rfl) (cI.refl _) (fun r k out v hI=>?_)
   refine cK (ts (rm rfl (ro rfl (gJ (Ht rfl) (cJ 9)) (rm rfl (fZ rfl rfl (dF rfl rfl (Ht rfl) (fun h=>cX (Ht rfl))) (fZ rfl rfl (dF rfl rfl (Ht rfl) (fun h=>dU U_56 (bB.wu rfl h) aA)) (fZ rfl rfl (dF rfl rfl (Ht rfl) (fun h=>eN (bB.wu rfl h) (cJ 0))) (fZ rfl rfl (dF rfl rfl (Ht rfl) (fun h=>cX (bB.wu rfl h))) (fZ rfl rfl (jM rfl rfl rfl (fun h h2=>cX (Ht rfl))) (fZ rfl rfl (jM rfl rfl rfl (fun h h2=>eN (bB.wu rfl ⟨h,h2⟩) (cJ 0))) (fZ rfl rfl (dF rfl rfl (Ht rfl) (fun h=>kP (bB.wu rfl h) (fun h2=>(bB.wu rfl ⟨h,h2⟩)))) ?_)))))))))))
   refine ro rfl (dO (Ht rfl) (fun h=>(bB.wu rfl h))) (eJ (dQ (Ht rfl) (fun hd=>?_) (fun hd=>?_)))
   ·simp at hd
    have hxr:0 < x / 1000000000 ∨ 0 < r:=hd.2.imp (fun h=>Nat.pos_of_ne_zero (fun e=>by rw [e,dI] at h; simp at h)) id
    have hln:=hI.len hxr
    have hr32:=hI.r32
    refine cU (cK (eU (ts (rm rfl (rm rfl (ro rfl (kE (Ht rfl) (cJ 10) zo) (ro rfl (dW (cJ 48) (Ht rfl) (by show _ < 4294967296; first | omega | (simp only [kI]; omega))) (ro rfl (gV U_218 U_5 (Ht rfl) (by show _ < 256; first | omega | (simp only [kI]; omega))) (ro rfl (fE (xs:=[.tmp 34]) U_296 Z_5 Tryz.zeroValue5 (cW (Ht rfl) cG) rfl rfl rfl) (tI (inf:=Tryz.t5) xU Rp rfl rfl rfl (Ht rfl) (Ht rfl) (i:=0) rfl (by simp) (fun T hT=>by simp at hT; subst hT; exact El.one) (by show _ * 1 ≤ _; simp only [List.length_map,List.length_cons,List.length_nil]; omega) (by simp only [List.length_map,List.length_cons,List.length_nil]; omega) rfl (fun v2=>?_)))))))))))
    refine ra rfl (eJ (cY (rm rfl (ro rfl (gU (Ht rfl) (cJ 10) zo (by show _ < 4294967296; first | omega | (simp only [kI]; omega))) (ra rfl (eJ (bC (cY (rm rfl (ro rfl (dW (Ht rfl) (cJ 1) z6) (ra rfl (eJ (gQ (r / 10,k + 1,_,v2) (hI.next hd.1 hxr) (by dsimp only; omega) (zS rfl) (aU (bL (Uf _ _)) aY))))))))))))))
   ·simp at hd
    have hO2 := hI.fin (fun ⟨h1, h2⟩ => by
     have h3:=hd h1
     rcases h2 with h2 | h2
     ·have:=oK.1 h3.1; omega
     ·omega)
    refine gG rfl (bC (gQ (x / 1000000000,_,_) ⟨hO2,Nat.le_trans (Nat.div_le_self _ _) hle⟩ (Nat.div_lt_self (Nat.pos_of_ne_zero hx0) (by decide)) (zS rfl) (cI.refl _)))
  ·simp at hc
   have hx0:x = 0:=aH.1 (by simpa using hc)
   subst hx0
   have hfin:=hO.fin
   have hdl:=nQ m
   rw [hfin] at hdl
   refine gG rfl (ts (rm rfl (Ch Tryz.call280 (a1N zo) (i:=0) rfl ⟨(Ht rfl),trivial⟩ rfl (fun _ _=>(eJ (cK (gW (i:=0) (tt:=3) rfl rfl iY (cY (rm rfl (ro rfl (Gn xU a07 a08 (Ht rfl) (by rw [← hfin]; simpa using Lj h0) (fun b hb=>Qq (n:=m) b (by rw [rP h0,hfin]; exact hb))) ?_))))))))))
   refine ra rfl (eJ (fK rfl (fJ (fQ rfl) ?_)))
   exact (iP (by rw [rP h0,hfin]))
end
section
open Go Go.RowKit
theorem sU {n : Nat} {E : cH} {H : Hp} {d : Option Tmp} {t : TypeId} {pos : String} {af : Array Edge} {g : Option (Nat × Bool)} {x0 x1 : Operand} {T0 T1 : Ty} [s0 : cT T0 1 false] (h0 : bB E x0 T0) [s1 : cT T1 1 false] (h1 : bB E x1 T1) :
  aI Tryz.prog n E H ⟨d,.build 58 #[(0,x0),(1,x1)],t,pos,af,g⟩ (fI [T0,T1]) :=
 gP (parts := [(0, x0), (1, x1)]) fun a V w hs => by
  have p0:=h0 n V a hs
  generalize e0:a.eval x0 = v0 at p0
  have q0:=(s0.ok v0 V p0).2.2 rfl
  have p1:=h1 n V a hs
  generalize e1:a.eval x1 = v1 at p1
  have q1:=(s1.ok v1 V p1).2.2 rfl
  refine ⟨.agg #[v0,v1],?_,[v0,v1],rfl,aW (⟨p0,q0⟩) (aW (⟨p1,q1⟩) (aG))⟩
  simp [e0,e1,Instr.build,Instr.fill,Sem.run_bind,Result.andThen,fP,q0.cells,q1.cells,O_58,U_58,Z_4,Z_56]
theorem kC (a:Addr) (w:World):(Instr.fieldAt 58 (.pointer (some a)) 0).run Tryz.prog w = .ok (.pointer (some (a.add 0))) w:=by
 simp [Instr.fieldAt,Instr.sureAddr,fieldPlace,Sem.run_bind,Result.andThen,U_58,Z_4]
theorem eM (a:Addr) (w:World):(Instr.fieldAt 58 (.pointer (some a)) 1).run Tryz.prog w = .ok (.pointer (some (a.add 1))) w:=by
 simp [Instr.fieldAt,Instr.sureAddr,fieldPlace,Sem.run_bind,Result.andThen,U_58,Z_56]
end
section
open Go Go.RowKit
theorem Cp {n:Int} (h1:-9223372036854775808 ≤ n) (h2:n ≤ 9223372036854775807):aP Tryz.prog 157 [aN .i64 n] (dE n):=by
 refine aP.intro Tryz.func157 rfl Tryz.ntmps157 rfl (fun cx=>(ts (rn rfl (eK (Ts:=[Is (.bool false),Is (.slice none 0 0)]) O_58 rfl (fun V=>aW zd (aW zd (aG)))) fun B2=>(eJ (cK (ts (rm rfl (ro rfl (lT (Ht rfl) cV) (eJ (dQ (Ht rfl) (fun hb=>?_) (fun hb=>?_)))))))))))
 ·have hn : n < 0 := by simpa using hb
  refine ts (rm rfl (ro rfl (sC U_2 U_263 (Ht rfl) (r:=((18446744073709551616 - n.natAbs:Nat):Int)) (by rw [IntKind.wrap_u64]; omega)) ?_))
  refine ro rfl (Dw (Ht rfl) (r:=((n.natAbs:Nat):Int)) (by rw [IntKind.wrap_u64]; omega)) ?_
  refine ro rfl (cZ Tryz.call238 (Co zo) ⟨(Ht rfl),trivial⟩) (ro rfl (sU cV (Ht rfl)) (gZ Z_58 (Ht rfl) (Ht rfl) rfl (i:=0) rfl (aK rfl) rfl rfl (eJ (fK rfl (fJ (fY A_58 Z_58 rfl (i:=0) rfl rfl) ?_)))))
  exact (lP (by rw [hb]; rfl))
 ·have hn : ¬ n < 0 := by simpa using hb
  refine cU (ts (rm rfl (ro rfl (sC U_2 U_263 (Ht rfl) (r:=((n.natAbs:Nat):Int)) (by rw [IntKind.wrap_u64]; omega)) ?_)))
  refine ro rfl (cZ Tryz.call238 (Co zo) ⟨(Ht rfl),trivial⟩) (ro rfl (sU cV (Ht rfl)) (gZ Z_58 (Ht rfl) (Ht rfl) rfl (i:=0) rfl (aK rfl) rfl rfl (eJ (fK rfl (fJ (fY A_58 Z_58 rfl (i:=0) rfl rfl) ?_)))))
  exact (lP (by rw [hb]; rfl))
theorem mU {b:Bool} {m:Nat}:aP Tryz.prog 234 [aC b,aE m] (dE (wB b m)):=by
 refine aP.intro Tryz.func234 rfl Tryz.ntmps234 rfl (fun cx=>(ts (rn rfl (eK (Ts:=[Is (.bool false),Is (.slice none 0 0)]) O_58 rfl (fun V=>aW zd (aW zd (aG)))) fun B4=>(eJ (ts (rm rfl (rm rfl (fZ rfl rfl (eY rfl rfl (Ht rfl) (fun h=>cX (Ht rfl))) (fZ rfl rfl (eY rfl rfl (Ht rfl) (fun h=>dU U_56 (fW rfl h) aA)) (fZ rfl rfl (eY rfl rfl (Ht rfl) (fun h=>eN (fW rfl h) (cJ 0))) (ro rfl (dO (Ht rfl) (fun h=>(fW rfl h))) (rm rfl ?_))))))))))))
 refine ro rfl (sU (Ht rfl) (Ht rfl)) (gZ Z_58 (Ht rfl) (Ht rfl) rfl (i:=0) rfl (aK rfl) rfl rfl (eJ (fK rfl (fJ (fY A_58 Z_58 rfl (i:=0) rfl rfl) ?_))))
 exact Ti
theorem nO {x:Int}:aP Tryz.prog 167 [dE x] (dE (-x)):=by
 refine aP.intro Tryz.func167 rfl Tryz.ntmps167 rfl (fun cx=>(ts (rn rfl (fU (Ht rfl)) fun B1=>(rn rfl (eK (Ts:=[Is (.bool false),Is (.slice none 0 0)]) O_58 rfl (fun V=>aW zd (aW zd (aG)))) fun B2=>(eJ (ts (ro rfl (eW kC (Ht rfl) rfl) (ro rfl (fX A_4 Z_4 (Ht rfl) (i:=0) rfl rfl) (ro rfl (dT (Ht rfl)) (ro rfl (eW eM (Ht rfl) rfl) (ro rfl (fX A_56 Z_56 (Ht rfl) (i:=0) rfl rfl) (ro rfl (cZ K_234 mU ⟨(Ht rfl),(Ht rfl),trivial⟩) ?_))))))))))))
 refine gZ Z_58 (Ht rfl) (Ht rfl) rfl (i:=1) rfl (aK rfl) rfl rfl (eJ (fK rfl (fJ (fY A_58 Z_58 rfl (i:=1) rfl rfl) ?_)))
 exact (kA (Bz x))
theorem sW {x y:Int} (hx:(dg x.natAbs).length ≤ 17592186044416) (hy:(dg y.natAbs).length ≤ 17592186044416):aP Tryz.prog 152 [dE x,dE y] (dE (x + y)):=by
 refine aP.intro Tryz.func152 rfl Tryz.ntmps152 rfl (fun cx=>(ts (rn rfl (fU (Ht rfl)) fun B2=>(rn rfl (fU (Ht rfl)) fun B3=>(rn rfl (eK (Ts:=[Is (.bool false),Is (.slice none 0 0)]) O_58 rfl (fun V=>aW zd (aW zd (aG)))) fun B4=>(eJ (cK (ts (ro rfl (eW kC (Ht rfl) rfl) (ro rfl (fX A_4 Z_4 (Ht rfl) (i:=0) rfl rfl) (ro rfl (eW kC (Ht rfl) rfl) (ro rfl (fX A_4 Z_4 (Ht rfl) (i:=1) rfl rfl) (ro rfl (Sk U_4 (Ht rfl) (Ht rfl)) ?_)))))))))))))
 refine eJ (dQ (Ht rfl) (fun hb=>?_) (fun hb=>?_))
 ·have he : decide (x < 0) = decide (y < 0) := by simpa using hb
  refine cK (fV (m:=7) (dp 2 rfl (eW kC (Ht rfl) rfl) (dq 10 0 rfl (fX A_4 Z_4 (Ht rfl) (i:=0) rfl rfl) (dp 2 rfl (eW eM (Ht rfl) rfl) (dq 12 2 rfl (fX A_56 Z_56 (Ht rfl) (i:=0) rfl rfl) (dp 3 rfl (eW eM (Ht rfl) rfl) (dq 14 4 rfl (fX A_56 Z_56 (Ht rfl) (i:=1) rfl rfl) (bR 13 3 15 5 rfl (cZ Tryz.call235 (a1J zo zo) ⟨(Ht rfl),(Ht rfl),trivial⟩) (fG aO rfl (by kernel_rfl) (zF (aJ (aJ (aJ (aV ?_))))))))))))))
  refine ro rfl (cZ K_234 mU ⟨(Ht rfl),(Ht rfl),trivial⟩) (gZ Z_58 (Ht rfl) (Ht rfl) rfl (i:=2) rfl (aK rfl) rfl rfl (eJ (fK rfl (fJ (fY A_58 Z_58 rfl (i:=2) rfl rfl) ?_))))
  exact (kA (Ha he))
 ·have he : decide (x < 0) ≠ decide (y < 0) := by simpa using hb
  refine cU (cK (ts (ro rfl (eW eM (Ht rfl) rfl) (ro rfl (fX A_56 Z_56 (Ht rfl) (i:=0) rfl rfl) (ro rfl (eW eM (Ht rfl) rfl) (ro rfl (fX A_56 Z_56 (Ht rfl) (i:=1) rfl rfl) (ro rfl (cZ Tryz.call199 (Qd zo zo) ⟨(Ht rfl),(Ht rfl),trivial⟩) (ro rfl (kW (Ht rfl) cV) (eJ (dQ (Ht rfl) (fun hc=>?_) (fun hc=>?_)))))))))))
  ·have hle : y.natAbs ≤ x.natAbs := Cy (by simpa using hc)
   refine cK (fV (m:=7) (dp 2 rfl (eW kC (Ht rfl) rfl) (dq 24 0 rfl (fX A_4 Z_4 (Ht rfl) (i:=0) rfl rfl) (dp 2 rfl (eW eM (Ht rfl) rfl) (dq 26 2 rfl (fX A_56 Z_56 (Ht rfl) (i:=0) rfl rfl) (dp 3 rfl (eW eM (Ht rfl) rfl) (dq 28 4 rfl (fX A_56 Z_56 (Ht rfl) (i:=1) rfl rfl) (bR 27 3 29 5 rfl (cZ Tryz.call236 (Zv zo zo) ⟨(Ht rfl),(Ht rfl),trivial⟩) (fG aO rfl (by kernel_rfl) (zF (aJ (aJ (aJ (aV ?_))))))))))))))
   refine ro rfl (cZ K_234 mU ⟨(Ht rfl),(Ht rfl),trivial⟩) (gZ Z_58 (Ht rfl) (Ht rfl) rfl (i:=2) rfl (aK rfl) rfl rfl (eJ (fK rfl (fJ (fY A_58 Z_58 rfl (i:=2) rfl rfl) ?_))))
   exact (kA (uG he hle))
  ·have hle : x.natAbs ≤ y.natAbs := Nat.le_of_lt (Cz (by simpa using hc))
   refine cU (cK (fV (m:=7) (dp 3 rfl (eW kC (Ht rfl) rfl) (dq 32 0 rfl (fX A_4 Z_4 (Ht rfl) (i:=1) rfl rfl) (dp 3 rfl (eW eM (Ht rfl) rfl) (dq 34 2 rfl (fX A_56 Z_56 (Ht rfl) (i:=1) rfl rfl) (dp 2 rfl (eW eM (Ht rfl) rfl) (dq 36 4 rfl (fX A_56 Z_56 (Ht rfl) (i:=0) rfl rfl) (bR 35 3 37 5 rfl (cZ Tryz.call236 (Zv zo zo) ⟨(Ht rfl),(Ht rfl),trivial⟩) (fG aO rfl (by kernel_rfl) (zF (aJ (aJ (aJ (aV ?_)))))))))))))))
   refine ro rfl (cZ K_234 mU ⟨(Ht rfl),(Ht rfl),trivial⟩) (gZ Z_58 (Ht rfl) (Ht rfl) rfl (i:=2) rfl (aK rfl) rfl rfl (eJ (fK rfl (fJ (fY A_58 Z_58 rfl (i:=2) rfl rfl) ?_))))
   exact (kA (by rw [uG (Ne.symm he) hle,Int.add_comm]))
theorem nP {x y:Int} (hx:(dg x.natAbs).length ≤ 17592186044416) (hy:(dg y.natAbs).length ≤ 17592186044416):aP Tryz.prog 151 [dE x,dE y] (dE (x * y)):=by
 refine aP.intro Tryz.func151 rfl Tryz.ntmps151 rfl (fun cx=>(ts (rn rfl (fU (Ht rfl)) fun B2=>(rn rfl (fU (Ht rfl)) fun B3=>(rn rfl (eK (Ts:=[Is (.bool false),Is (.slice none 0 0)]) O_58 rfl (fun V=>aW zd (aW zd (aG)))) fun B4=>(eJ (cK (fV (m:=10) (dp 2 rfl (eW kC (Ht rfl) rfl) (dq 5 0 rfl (fX A_4 Z_4 (Ht rfl) (i:=0) rfl rfl) (dp 3 rfl (eW kC (Ht rfl) rfl) (dq 7 2 rfl (fX A_4 Z_4 (Ht rfl) (i:=1) rfl rfl) (bR 6 1 8 3 rfl (vD U_4 (Ht rfl) (Ht rfl)) ?_)))))))))))))
 refine dp 2 rfl (eW eM (Ht rfl) rfl) (dq 10 5 rfl (fX A_56 Z_56 (Ht rfl) (i:=0) rfl rfl) (dp 3 rfl (eW eM (Ht rfl) rfl) (dq 12 7 rfl (fX A_56 Z_56 (Ht rfl) (i:=1) rfl rfl) (bR 11 6 13 8 rfl (cZ K_154 (Bf zo zo) ⟨(Ht rfl),(Ht rfl),trivial⟩) (fG aO rfl (by kernel_rfl) (zF (zF (aJ (aJ (aV (ro rfl (cZ K_234 mU ⟨(Ht rfl),(Ht rfl),trivial⟩) (gZ Z_58 (Ht rfl) (Ht rfl) rfl (i:=2) rfl (aK rfl) rfl rfl ?_))))))))))))
 refine eJ (fK rfl (fJ (fY A_58 Z_58 rfl (i:=2) rfl rfl) ?_))
 exact (kA (Ca x y))
theorem kO {x:Int} {n:Nat} (hx:(dg x.natAbs).length ≤ 17592186044416) (hn:(dg n).length ≤ 17592186044416):aP Tryz.prog 155 [dE x,aE n] (dE (x * n)):=by
 refine aP.intro Tryz.func155 rfl Tryz.ntmps155 rfl (fun cx=>(ts (rn rfl (fU (Ht rfl)) fun B2=>(rn rfl (eK (Ts:=[Is (.bool false),Is (.slice none 0 0)]) O_58 rfl (fun V=>aW zd (aW zd (aG)))) fun B4=>(eJ (cK (fV (m:=6) (dp 2 rfl (eW kC (Ht rfl) rfl) (dq 5 0 rfl (fX A_4 Z_4 (Ht rfl) (i:=0) rfl rfl) (dp 2 rfl (eW eM (Ht rfl) rfl) (dq 7 2 rfl (fX A_56 Z_56 (Ht rfl) (i:=0) rfl rfl) (dp 1 rfl (cX (Ht rfl)) (bR 8 3 9 4 rfl (cZ K_154 (Bf zo zo) ⟨(Ht rfl),(Ht rfl),trivial⟩) ?_)))))))))))))
 refine fG aO rfl (by kernel_rfl) (zF (aJ (aJ (aV (ro rfl (cZ K_234 mU ⟨(Ht rfl),(Ht rfl),trivial⟩) (gZ Z_58 (Ht rfl) (Ht rfl) rfl (i:=1) rfl (aK rfl) rfl rfl (eJ (fK rfl (fJ (fY A_58 Z_58 rfl (i:=1) rfl rfl) ?_)))))))))
 exact (kA (Js x n))
theorem Cw {x y:Int} (hx:(dg x.natAbs).length ≤ 17592186044415) (hy:(dg y.natAbs).length ≤ 17592186044415):aP Tryz.prog 156 [dE x,dE y] (aN .i64 (iE x y)):=by
 have hny:=pE y
 have hs:=iS (x:=x) (y:=-y) hx zo
 refine aP.intro Tryz.func156 rfl Tryz.ntmps156 rfl (fun cx=>(ts (rn rfl (fU (Ht rfl)) fun B2=>(rn rfl (fU (Ht rfl)) fun B3=>(ro rfl (cQ (cJ 0)) (eJ (cK (fV (m:=5) (dp 2 rfl (eG A_58 Z_58 (Ht rfl) (i:=0) rfl rfl rfl) (dp 3 rfl (eG A_58 Z_58 (Ht rfl) (i:=1) rfl rfl rfl) (dq 7 1 rfl (cZ K_167 nO ⟨(Ht rfl),trivial⟩) (bR 6 0 8 2 rfl (cZ K_152 (sW zo zo) ⟨(Ht rfl),(Ht rfl),trivial⟩) (C.D_new (Ei:=[]) rfl rfl rfl bW (eK (Ts:=[Is (.bool false),Is (.slice none 0 0)]) O_58 rfl (fun V=>aW zd (aW zd (aG)))) ?_)))))))))))))
 refine fG aO rfl (by kernel_rfl) (zF (C.F_new (fun B5=>aV (gZ Z_58 (Ht rfl) (Ht rfl) rfl (i:=2) rfl (aK rfl) rfl rfl (eJ (cK (ts (ro rfl (eW kC (Ht rfl) rfl) (ro rfl (fX A_4 Z_4 (Ht rfl) (i:=2) rfl rfl) (eJ (dQ (Ht rfl) (fun hb=>?_) (fun hb=>?_))))))))))))
 ·have hn : x + -y < 0 := by simpa using hb
  refine ts (ro rfl (cQ cV) (eJ (fK rfl (fJ (fQ rfl) ?_))))
  exact (aS (Wa hn))
 ·have hn : ¬ x + -y < 0 := by simpa using hb
  refine cU (ts (ro rfl (eW eM (Ht rfl) rfl) (ro rfl (fX A_56 Z_56 (Ht rfl) (i:=2) rfl rfl) (ro rfl (dU U_56 (Ht rfl) aA) (ro rfl (Mc (Ht rfl) (cJ 1)) (ra rfl (eJ (fK rfl (fJ (fQ rfl) ?_)))))))))
  exact (aS (Vz hn))
end
section
open Go Go.RowKit
theorem Pt {n : Nat} {E : cH} {H : Hp} {d : Option Tmp} {t : TypeId} {pos : String} {af : Array Edge} {g : Option (Nat × Bool)} {x0 : Operand} {T0 T1 : Ty} (h0 : bB E x0 (fI [T0, T1])) :
  aI Tryz.prog n E H ⟨d,.build 60 #[(0,x0)],t,pos,af,g⟩ (fI [T0,T1,Is (.bool false),Is (.slice none 0 0),Is (.slice none 0 0)]) :=
 gP (parts := [(0, x0)]) fun a V w hs => by
  obtain ⟨v0,e0,c0⟩:=h0 n V a hs
  obtain ⟨c0_0,c0_1,rfl⟩:∃ c0_0 c0_1,v0 = [c0_0,c0_1]:=Gg (by simpa using c0.length)
  refine ⟨.agg #[c0_0,c0_1,(.bool false),(.slice none 0 0),(.slice none 0 0)],?_,[c0_0,c0_1,(.bool false),(.slice none 0 0),(.slice none 0 0)],rfl,aW (c0.at (i:=0) rfl rfl) (aW (c0.at (i:=1) rfl rfl) (aW (⟨rfl,trivial⟩) (aW (⟨rfl,trivial⟩) (aW (⟨rfl,trivial⟩) (aG)))))⟩
  simp [e0,Instr.build,Instr.fill,Sem.run_bind,Result.andThen,fP,O_60,U_60,Z_56,Z_58]
theorem oX {n : Nat} {E : cH} {H : Hp} {d : Option Tmp} {t : TypeId} {pos : String} {af : Array Edge} {g : Option (Nat × Bool)} {x0 x1 x2 : Operand} {T0 T1 T2 T3 T4 : Ty} (h0 : bB E x0 (fI [T0, T1])) (h1 : bB E x1 (fI [T2, T3])) [s2 : cT T4 1 false] (h2 : bB E x2 T4) :
  aI Tryz.prog n E H ⟨d,.build 60 #[(0,x0),(1,x1),(2,x2)],t,pos,af,g⟩ (fI [T0,T1,T2,T3,T4]) :=
 gP (parts := [(0, x0), (1, x1), (2, x2)]) fun a V w hs => by
  obtain ⟨v0,e0,c0⟩:=h0 n V a hs
  obtain ⟨c0_0,c0_1,rfl⟩:∃ c0_0 c0_1,v0 = [c0_0,c0_1]:=Gg (by simpa using c0.length)
  obtain ⟨v1,e1,c1⟩:=h1 n V a hs
  obtain ⟨c1_0,c1_1,rfl⟩:∃ c1_0 c1_1,v1 = [c1_0,c1_1]:=Gg (by simpa using c1.length)
  have p2:=h2 n V a hs
  generalize e2:a.eval x2 = v2 at p2
  have q2:=(s2.ok v2 V p2).2.2 rfl
  refine ⟨.agg #[c0_0,c0_1,c1_0,c1_1,v2],?_,[c0_0,c0_1,c1_0,c1_1,v2],rfl,aW (c0.at (i:=0) rfl rfl) (aW (c0.at (i:=1) rfl rfl) (aW (c1.at (i:=0) rfl rfl) (aW (c1.at (i:=1) rfl rfl) (aW (⟨p2,q2⟩) (aG)))))⟩
  simp [e0,e1,e2,Instr.build,Instr.fill,Sem.run_bind,Result.andThen,fP,q2.cells,O_60,U_60,Z_56,Z_58]
theorem fF (a:Addr) (w:World):(Instr.fieldAt 60 (.pointer (some a)) 0).run Tryz.prog w = .ok (.pointer (some (a.add 0))) w:=by
 simp [Instr.fieldAt,Instr.sureAddr,fieldPlace,Sem.run_bind,Result.andThen,U_60,Z_58]
theorem fS (a:Addr) (w:World):(Instr.fieldAt 60 (.pointer (some a)) 1).run Tryz.prog w = .ok (.pointer (some (a.add 2))) w:=by
 simp [Instr.fieldAt,Instr.sureAddr,fieldPlace,Sem.run_bind,Result.andThen,U_60,Z_58]
theorem nS (a:Addr) (w:World):(Instr.fieldAt 60 (.pointer (some a)) 2).run Tryz.prog w = .ok (.pointer (some (a.add 4))) w:=by
 simp [Instr.fieldAt,Instr.sureAddr,fieldPlace,Sem.run_bind,Result.andThen,U_60,Z_56]
end
section
open Go Go.RowKit
theorem sV {A B:Int} {D:Nat} (hD:0 < D) (hA:(dg A.natAbs).length ≤ 17592186044415) (hB:(dg B.natAbs).length ≤ 17592186044415) (hD2:(dg D).length ≤ 17592186044415):aP Tryz.prog 150 [dE A,dE B,aE D] (bA (Qi.mk' A B D)):=by
 have hg1:=yU hA hB
 have hg2:=yU hg1 hD2
 have hgp:Nat.gcd (Nat.gcd A.natAbs B.natAbs) D ≠ 0:=fun e=>by have:=Nat.gcd_eq_zero_iff.1 e; omega
 refine aP.intro Tryz.func150 rfl Tryz.ntmps150 rfl (fun cx=>(ts (rn rfl (fU (Ht rfl)) fun B3=>(rn rfl (fU (Ht rfl)) fun B4=>(rn rfl (eK (Ts:=[Is (.bool false),Is (.slice none 0 0),Is (.bool false),Is (.slice none 0 0),Is (.slice none 0 0)]) O_60 rfl (fun V=>aW zd (aW zd (aW zd (aW zd (aW zd (aG))))))) fun B6=>(eJ (ts (ro rfl (eW eM (Ht rfl) rfl) (ro rfl (fX A_56 Z_56 (Ht rfl) (i:=0) rfl rfl) ?_)))))))))
 refine ro rfl (eW eM (Ht rfl) rfl) (ro rfl (fX A_56 Z_56 (Ht rfl) (i:=1) rfl rfl) (ro rfl (cZ Tryz.call231 (Zr zo zo) ⟨(Ht rfl),(Ht rfl),trivial⟩) (rm rfl (ro rfl (cZ Tryz.call231 (Zr zo zo) ⟨(Ht rfl),(Ht rfl),trivial⟩) (ra rfl (eJ (cK (iB (fun (uu:Unit)=>True) (fun (uu:Unit)=>[(2,aE (D / (Nat.gcd (Nat.gcd A.natAbs B.natAbs) D))),(3,cC B3 0),(4,cC B4 0),(6,cC B6 0)]) (fun (uu:Unit)=>[box B3 58 [aC (decide (A < 0)),aE (A.natAbs / (Nat.gcd (Nat.gcd A.natAbs B.natAbs) D))],box B4 58 [aC (decide (B < 0)),aE (B.natAbs / (Nat.gcd (Nat.gcd A.natAbs B.natAbs) D))],box B6 60 [Is (.bool false),Is (.slice none 0 0),Is (.bool false),Is (.slice none 0 0),Is (.slice none 0 0)]]) ?_ (fun uu _=>?_)))))))))
 ·refine ts (rm rfl (ro rfl (cZ Tryz.call232 Zt ⟨(Ht rfl), trivial⟩) (ro rfl (dT (Ht rfl)) (eJ (dQ (Ht rfl) (fun hb => ?_) (fun hb => ?_))))))
  ·simp at hb
   refine ts (ro rfl (eW eM (Ht rfl) rfl) (ro rfl (fX A_56 Z_56 (Ht rfl) (i:=0) rfl rfl) (rm rfl (ro rfl (cZ Tryz.call233 (Kr zo zo zo) ⟨(Ht rfl),(Ht rfl),trivial⟩) (rm rfl (ro rfl (dY (Ht rfl) rfl) (ro rfl (dY (Ht rfl) rfl) (ro rfl (eW eM (Ht rfl) rfl) (jT Z_56 (Ht rfl) (Ht rfl) (i:=0) rfl (aK rfl) rfl (eJ (ts (ro rfl (eW eM (Ht rfl) rfl) (ro rfl (fX A_56 Z_56 (Ht rfl) (i:=1) rfl rfl) (rm rfl (ro rfl (cZ Tryz.call233 (Kr zo zo zo) ⟨(Ht rfl),(Ht rfl),trivial⟩) ?_)))))))))))))))
   refine rm rfl (ro rfl (dY (Ht rfl) rfl) (ro rfl (dY (Ht rfl) rfl) (ro rfl (eW eM (Ht rfl) rfl) (jT Z_56 (Ht rfl) (Ht rfl) (i:=1) rfl (aK rfl) rfl (eJ (cY (rm rfl (rm rfl (ro rfl (cZ Tryz.call233 (Kr zo zo zo) ⟨(Ht rfl),(Ht rfl),trivial⟩) (rm rfl (ro rfl (dY (Ht rfl) rfl) (ro rfl (dY (Ht rfl) rfl) (ra rfl (eJ (aL () trivial (zS rfl) (aU (aB (by first | rfl | simp)) (aU (aB (by first | rfl | simp)) (aU (aB rfl) aY))))))))))))))))))
  ·simp at hb
   refine cU (aL () trivial (aZ rfl (cF (by rw [hb,Nat.div_one])) (zS rfl)) (aU (aB (by rw [hb,Nat.div_one])) (aU (aB (by rw [hb,Nat.div_one])) (aU (aB rfl) aY))))
 ·refine cK (iB (fun (uu : Unit) => True) (fun (uu : Unit) => [(2, aE (if D / (Nat.gcd (Nat.gcd A.natAbs B.natAbs) D) = 1 then 0 else D / (Nat.gcd (Nat.gcd A.natAbs B.natAbs) D))), (3, cC B3 0), (4, cC B4 0), (6, cC B6 0)]) (fun (uu : Unit) => [box B3 58 [aC (decide (A < 0)), aE (A.natAbs / (Nat.gcd (Nat.gcd A.natAbs B.natAbs) D))], box B4 58 [aC (decide (B < 0)), aE (B.natAbs / (Nat.gcd (Nat.gcd A.natAbs B.natAbs) D))], box B6 60 [Is (.bool false), Is (.slice none 0 0), Is (.bool false), Is (.slice none 0 0), Is (.slice none 0 0)]]) ?_ (fun uu _ => ?_))
  ·refine ts (rm rfl (ro rfl (cZ Tryz.call232 Zt ⟨(Ht rfl), trivial⟩) (eJ (dQ (Ht rfl) (fun hb => ?_) (fun hb => ?_)))))
   ·simp only [decide_eq_true_eq] at hb
    refine cY (ro rfl (cQ cV) (eJ (aL () trivial (aZ rfl (fun v V h=>cF (by rw [if_pos hb]) v V (jF v V h)) (zS rfl)) (cI.refl _))))
   ·simp only [decide_eq_false_iff_not] at hb
    refine cU (aL () trivial (aZ rfl (cF (by rw [if_neg hb])) (zS rfl)) (cI.refl _))
  ·refine ts (ro rfl (eG A_58 Z_58 (Ht rfl) (i := 0) rfl rfl rfl) (ro rfl (eG A_58 Z_58 (Ht rfl) (i := 1) rfl rfl rfl) (rm rfl (ro rfl (oX (Ht rfl) (Ht rfl) (Ht rfl)) (gZ Z_60 (Ht rfl) (Ht rfl) rfl (i := 2) rfl (aK rfl) rfl rfl (eJ (fK rfl (fJ (fY A_60 Z_60 rfl (i := 2) rfl rfl) ?_))))))))
   exact (Yf hD)
theorem mM {x:Qi}:aP Tryz.prog 153 [bA x] (aE x.den):=by
 refine aP.intro Tryz.func153 rfl Tryz.ntmps153 rfl (fun cx=>(ts (rn rfl (fU (Ht rfl)) fun B1=>(ro rfl (cQ cV) (eJ (cK (ts (ro rfl (eW nS (Ht rfl) rfl) (ro rfl (fX A_56 Z_56 (Ht rfl) (i:=0) rfl rfl) (ro rfl (dU U_56 (Ht rfl) aA) (ro rfl (cA (Ht rfl) (cJ 0)) (eJ (dQ (Ht rfl) (fun hb=>?_) (fun hb=>?_))))))))))))))
 ·simp at hb
  have h1:x.den = 1:=xF (aH.1 (by simpa using hb))
  refine ts (ro rfl (fE (xs:=[_]) U_56 Z_218 O_218 (cW (cJ 1) cG) rfl rfl rfl) (ra rfl (eJ (fK rfl (fJ (fQ rfl) ?_)))))
  exact (fun v V h=>cF h1.symm v V (zN v V h))
 ·simp at hb
  have h1:du x = x.den:=tT (fun e=>hb (by simp [e,dI]))
  refine cU (ts (ro rfl (eW nS (Ht rfl) rfl) (ro rfl (fX A_56 Z_56 (Ht rfl) (i:=0) rfl rfl) (ra rfl (eJ (fK rfl (fJ (fQ rfl) ?_)))))))
  exact (cF h1)
theorem vR {n:Int} (h1:-9223372036854775808 ≤ n) (h2:n ≤ 9223372036854775807):aP Tryz.prog 52 [aN .i64 n] (bA (Qi.ofInt n)):=by
 refine aP.intro Tryz.func52 rfl Tryz.ntmps52 rfl (fun cx=>(ts (rn rfl (eK (Ts:=[Is (.bool false),Is (.slice none 0 0),Is (.bool false),Is (.slice none 0 0),Is (.slice none 0 0)]) O_60 rfl (fun V=>aW zd (aW zd (aW zd (aW zd (aW zd (aG))))))) fun B2=>(eJ (ts (rm rfl (ro rfl (cZ Tryz.call157 (Cp h1 h2) ⟨(Ht rfl),trivial⟩) (ro rfl (Pt (Ht rfl)) (gZ Z_60 (Ht rfl) (Ht rfl) rfl (i:=0) rfl (aK rfl) rfl rfl ?_)))))))))
 refine eJ (fK rfl (fJ (fY A_60 Z_60 rfl (i:=0) rfl rfl) ?_))
 exact Lz
theorem Zp {p q d:Int} (p1:-9223372036854775808 ≤ p) (p2:p ≤ 9223372036854775807) (q1:-9223372036854775808 ≤ q) (q2:q ≤ 9223372036854775807) (d1:-9223372036854775808 ≤ d) (d2:d ≤ 9223372036854775807) (hd:d ≠ 0):aP Tryz.prog 108 [aN .i64 p,aN .i64 q,aN .i64 d] (fR [bA (Qi.frac p q d),aN .i64 0]):=by
 have lp:=Nk p1 p2; have lq:=Nk q1 q2; have ld:=Nk d1 d2; have np:=pE p; have nq:=pE q
 refine aP.intro Tryz.func108 rfl Tryz.ntmps108 rfl (fun cx=>(ts (rn rfl (eK (Ts:=[Is (.bool false),Is (.slice none 0 0),Is (.bool false),Is (.slice none 0 0),Is (.slice none 0 0)]) O_60 rfl (fun V=>aW zd (aW zd (aW zd (aW zd (aW zd (aG))))))) fun B6=>(ro rfl (cQ (cJ 0)) (eJ (cK (ts (rm rfl (ro rfl (jB (Ht rfl) cV) (eJ (gS (Ht rfl) (by simp [hd]) ?_)))))))))))
 refine cU (ts (rm rfl (ro rfl (cZ Tryz.call157 (Cp p1 p2) ⟨(Ht rfl),trivial⟩) (rm rfl (ro rfl (cZ Tryz.call157 (Cp q1 q2) ⟨(Ht rfl),trivial⟩) (rm rfl (ro rfl (cZ Tryz.call157 (Cp d1 d2) ⟨(Ht rfl),trivial⟩) (rn rfl (eK (Ts:=[Is (.bool false),Is (.slice none 0 0)]) O_58 rfl (fun V=>aW zd (aW zd (aG)))) fun B8=>(rn rfl (eK (Ts:=[Is (.bool false),Is (.slice none 0 0)]) O_58 rfl (fun V=>aW zd (aW zd (aG)))) fun B9=>?_)))))))))
 refine rn rfl (eK (Ts:=[Is (.bool false),Is (.slice none 0 0)]) O_58 rfl (fun V=>aW zd (aW zd (aG)))) fun B10=>gZ Z_58 (Ht rfl) (Ht rfl) rfl (i:=1) rfl (aK rfl) rfl rfl (gZ Z_58 (Ht rfl) (Ht rfl) rfl (i:=2) rfl (aK rfl) rfl rfl (gZ Z_58 (Ht rfl) (Ht rfl) rfl (i:=3) rfl (aK rfl) rfl rfl (eJ (cK (nN (fun (a:Int) (b:Int)=>Qi.mk' a b d.natAbs = Qi.frac p q d ∧ (dg a.natAbs).length ≤ 2 ∧ (dg b.natAbs).length ≤ 2) (fun (a:Int) (b:Int)=>[(6,cC B6 0),(8,cC B8 0),(9,cC B9 0),(10,cC B10 0)]) (fun (a:Int) (b:Int)=>[box B6 60 [Is (.bool false),Is (.slice none 0 0),Is (.bool false),Is (.slice none 0 0),Is (.slice none 0 0)],box B8 58 [aC (decide (a < 0)),aE (a).natAbs],box B9 58 [aC (decide (b < 0)),aE (b).natAbs],box B10 58 [aC (decide (d < 0)),aE (d).natAbs]]) ?_ (fun a b ⟨hab,ha,hb⟩=>?_))))))
 ·refine ts (ro rfl (eW kC (Ht rfl) rfl) (ro rfl (fX A_4 Z_4 (Ht rfl) (i := 3) rfl rfl) (eJ (dQ (Ht rfl) (fun hn => ?_) (fun hn => ?_)))))
  ·simp only [decide_eq_true_eq] at hn
   refine fV (m:=3) (dp 8 rfl (eG A_58 Z_58 (Ht rfl) (i:=1) rfl rfl rfl) (dq 22 0 rfl (cZ K_167 nO ⟨(Ht rfl),trivial⟩) (dp 9 rfl (eG A_58 Z_58 (Ht rfl) (i:=2) rfl rfl rfl) (fG aO rfl (by kernel_rfl) (aJ (aJ (aJ (aV (ro rfl (cZ K_167 nO ⟨(Ht rfl),trivial⟩) (gZ Z_58 (Ht rfl) (Ht rfl) rfl (i:=1) rfl (aK rfl) rfl rfl (gZ Z_58 (Ht rfl) (Ht rfl) rfl (i:=2) rfl (aK rfl) rfl rfl (eJ (aL (-p,-q) ⟨Qi.frac_neg hn,by dsimp only; omega,by dsimp only; omega⟩ (zS rfl) (aU (aB rfl) (aU (aB rfl) (aU (aB rfl) (aU (aB rfl) aY)))))))))))))))))
  ·simp only [decide_eq_false_iff_not] at hn
   refine cU (aL (p,q) ⟨Qi.frac_pos hn hd,by omega,by omega⟩ (zS rfl) (cI.refl _))
 ·refine ts (ro rfl (eG A_58 Z_58 (Ht rfl) (i := 1) rfl rfl rfl) (ro rfl (eG A_58 Z_58 (Ht rfl) (i := 2) rfl rfl rfl) (ro rfl (eW eM (Ht rfl) rfl) (ro rfl (fX A_56 Z_56 (Ht rfl) (i := 3) rfl rfl) (ro rfl (cZ K_150 (sV zo zo zo zo) ⟨(Ht rfl), (Ht rfl), (Ht rfl), trivial⟩) (gZ Z_60 (Ht rfl) (Ht rfl) rfl (i := 0) rfl (aK rfl) rfl rfl (ro rfl (cQ (cJ 0)) (eJ (cB rfl (fJ (fY A_60 Z_60 rfl (i := 0) rfl rfl) ?_) (fQ rfl))))))))))
  exact (kJ hab)
theorem vP {x y:Qi} {L M:Nat} [hx:aD x L] [hy:aD y M] (h:L + M + 1 ≤ 17592186044415):aP Tryz.prog 71 [bA x,bA y] (bA (x + y)):=by
 have hxa:=iF hx.fit; have hxb:=iM hx.fit; have hxd:=iG hx.fit
 have hya:=iF hy.fit; have hyb:=iM hy.fit; have hyd:=iG hy.fit
 have hxp:=x.den_pos; have hyp:=y.den_pos; have hdp:=Nat.mul_pos hxp hyp
 have e1:=dC x.a y.den; have e2:=dC y.a x.den; have e3:=dC x.b y.den; have e4:=dC y.b x.den; have e5:=pD x.den y.den
 have e6:=iS (x:=x.a * y.den) (y:=y.a * x.den) (L:=L + M) zo zo; have e7:=iS (x:=x.b * y.den) (y:=y.b * x.den) (L:=L + M) zo zo
 refine aP.intro Tryz.func71 rfl Tryz.ntmps71 rfl (fun cx=>(ts (rn rfl (fU (Ht rfl)) fun B2=>(rn rfl (fU (Ht rfl)) fun B3=>(rn rfl (eK (Ts:=[Is (.bool false),Is (.slice none 0 0),Is (.bool false),Is (.slice none 0 0),Is (.slice none 0 0)]) O_60 rfl (fun V=>aW zd (aW zd (aW zd (aW zd (aW zd (aG))))))) fun B4=>(eJ (cK (fV (m:=3) (dp 2 rfl (eG A_60 Z_60 (Ht rfl) (i:=0) rfl rfl rfl) (dq 7 0 rfl (cZ K_153 mM ⟨(Ht rfl),trivial⟩) ?_))))))))))
 refine dp 3 rfl (eG A_60 Z_60 (Ht rfl) (i:=1) rfl rfl rfl) (fG aO rfl (by kernel_rfl) (aJ (aJ (aJ (aV (ro rfl (cZ K_153 mM ⟨(Ht rfl),trivial⟩) (ra rfl (ra rfl (eJ (cK (fV (m:=20) (dp 2 rfl (eW fF (Ht rfl) rfl) (dq 11 0 rfl (eG A_58 Z_58 (Ht rfl) (i:=0) rfl rfl rfl) (dp 6 rfl (cX (Ht rfl)) (bR 12 1 13 2 rfl (cZ K_155 (kO zo zo) ⟨(Ht rfl),(Ht rfl),trivial⟩) (dp 3 rfl (eW fF (Ht rfl) rfl) (dq 15 4 rfl (eG A_58 Z_58 (Ht rfl) (i:=1) rfl rfl rfl) ?_)))))))))))))))))
 refine dp 5 rfl (cX (Ht rfl)) (bR 16 5 17 6 rfl (cZ K_155 (kO zo zo) ⟨(Ht rfl),(Ht rfl),trivial⟩) (bR 14 3 18 7 rfl (cZ K_152 (sW zo zo) ⟨(Ht rfl),(Ht rfl),trivial⟩) (dp 2 rfl (eW fS (Ht rfl) rfl) (dq 20 9 rfl (eG A_58 Z_58 (Ht rfl) (i:=0) rfl rfl rfl) (dp 6 rfl (cX (Ht rfl)) (bR 21 10 22 11 rfl (cZ K_155 (kO zo zo) ⟨(Ht rfl),(Ht rfl),trivial⟩) (dp 3 rfl (eW fS (Ht rfl) rfl) (dq 24 13 rfl (eG A_58 Z_58 (Ht rfl) (i:=1) rfl rfl rfl) ?_))))))))
 refine dp 5 rfl (cX (Ht rfl)) (bR 25 14 26 15 rfl (cZ K_155 (kO zo zo) ⟨(Ht rfl),(Ht rfl),trivial⟩) (bR 23 12 27 16 rfl (cZ K_152 (sW zo zo) ⟨(Ht rfl),(Ht rfl),trivial⟩) (dp 5 rfl (cX (Ht rfl)) (dp 6 rfl (cX (Ht rfl)) (fG aO rfl (by kernel_rfl) (zF (zF (zF (zF (zF (aV (ro rfl (cZ K_154 (Bf zo zo) ⟨(Ht rfl),(Ht rfl),trivial⟩) ?_))))))))))))
 refine ro rfl (cZ K_150 (sV (by first | assumption | omega) zo zo zo) ⟨(Ht rfl),(Ht rfl),(Ht rfl),trivial⟩) (gZ Z_60 (Ht rfl) (Ht rfl) rfl (i:=2) rfl (aK rfl) rfl rfl (eJ (fK rfl (fJ (fY A_60 Z_60 rfl (i:=2) rfl rfl) ?_))))
 exact (kJ (Qi.mk_add x y))
theorem Kp {x:Qi}:aP Tryz.prog 168 [bA x] (bA (-x)):=by
 refine aP.intro Tryz.func168 rfl Tryz.ntmps168 rfl (fun cx=>(ts (rn rfl (fU (Ht rfl)) fun B1=>(rn rfl (eK (Ts:=[Is (.bool false),Is (.slice none 0 0),Is (.bool false),Is (.slice none 0 0),Is (.slice none 0 0)]) O_60 rfl (fun V=>aW zd (aW zd (aW zd (aW zd (aW zd (aG))))))) fun B2=>(eJ (cK (fV (m:=8) (dp 1 rfl (eW fF (Ht rfl) rfl) (dq 3 0 rfl (eG A_58 Z_58 (Ht rfl) (i:=0) rfl rfl rfl) (dq 4 1 rfl (cZ K_167 nO ⟨(Ht rfl),trivial⟩) ?_))))))))))
 refine dp 1 rfl (eW fS (Ht rfl) rfl) (dq 6 3 rfl (eG A_58 Z_58 (Ht rfl) (i:=0) rfl rfl rfl) (dq 7 4 rfl (cZ K_167 nO ⟨(Ht rfl),trivial⟩) (dp 1 rfl (eW nS (Ht rfl) rfl) (dq 9 6 rfl (fX A_56 Z_56 (Ht rfl) (i:=0) rfl rfl) (fG aO rfl (by kernel_rfl) (zF (zF (aV (ro rfl (oX (Ht rfl) (Ht rfl) (Ht rfl)) (gZ Z_60 (Ht rfl) (Ht rfl) rfl (i:=1) rfl (aK rfl) rfl rfl (eJ (fK rfl (fJ (fY A_60 Z_60 rfl (i:=1) rfl rfl) ?_)))))))))))))
 exact (lP (by obtain ⟨e1,e2,e3⟩:=Qi.neg_a x; rw [e1,e2,a00 e3]; rfl))
theorem Pu {x:Qi}:aP Tryz.prog 173 [bA x] (bA x.conj):=by
 refine aP.intro Tryz.func173 rfl Tryz.ntmps173 rfl (fun cx=>(ts (rn rfl (fU (Ht rfl)) fun B1=>(rn rfl (eK (Ts:=[Is (.bool false),Is (.slice none 0 0),Is (.bool false),Is (.slice none 0 0),Is (.slice none 0 0)]) O_60 rfl (fun V=>aW zd (aW zd (aW zd (aW zd (aW zd (aG))))))) fun B2=>(eJ (cK (fV (m:=7) (dp 1 rfl (eW fF (Ht rfl) rfl) (dq 3 0 rfl (eG A_58 Z_58 (Ht rfl) (i:=0) rfl rfl rfl) (dp 1 rfl (eW fS (Ht rfl) rfl) ?_))))))))))
 refine dq 5 2 rfl (eG A_58 Z_58 (Ht rfl) (i:=0) rfl rfl rfl) (dq 6 3 rfl (cZ K_167 nO ⟨(Ht rfl),trivial⟩) (dp 1 rfl (eW nS (Ht rfl) rfl) (dq 8 5 rfl (fX A_56 Z_56 (Ht rfl) (i:=0) rfl rfl) (fG aO rfl (by kernel_rfl) (zF (aJ (aJ (aJ (aV (ro rfl (oX (Ht rfl) (Ht rfl) (Ht rfl)) (gZ Z_60 (Ht rfl) (Ht rfl) rfl (i:=1) rfl (aK rfl) rfl rfl (eJ (fK rfl (fJ (fY A_60 Z_60 rfl (i:=1) rfl rfl) ?_))))))))))))))
 exact (lP (by obtain ⟨e1,e2,e3⟩:=Qi.conj_a x; rw [e1,e2,a00 e3]; rfl))
theorem yM {x y:Qi} {L M:Nat} [hx:aD x L] [hy:aD y M] (h:L + M + 1 ≤ 17592186044415):aP Tryz.prog 69 [bA x,bA y] (bA (x - y)):=by
 have hxa:=iF hx.fit; have hxb:=iM hx.fit; have hxd:=iG hx.fit
 have hya:=iF hy.fit; have hyb:=iM hy.fit; have hyd:=iG hy.fit
 have hxp:=x.den_pos; have hyp:=y.den_pos; have hdp:=Nat.mul_pos hxp hyp
 refine aP.intro Tryz.func69 rfl Tryz.ntmps69 rfl (fun cx=>(ts (rn rfl (fU (Ht rfl)) fun B2=>(rn rfl (fU (Ht rfl)) fun B3=>(rn rfl (eK (Ts:=[Is (.bool false),Is (.slice none 0 0),Is (.bool false),Is (.slice none 0 0),Is (.slice none 0 0)]) O_60 rfl (fun V=>aW zd (aW zd (aW zd (aW zd (aW zd (aG))))))) fun B4=>(eJ (cK (fV (m:=3) (dp 2 rfl (eG A_60 Z_60 (Ht rfl) (i:=0) rfl rfl rfl) (dp 3 rfl (eG A_60 Z_60 (Ht rfl) (i:=1) rfl rfl rfl) ?_))))))))))
 refine dq 6 1 rfl (cZ Tryz.call168 Kp ⟨(Ht rfl),trivial⟩) (fG aO rfl (by kernel_rfl) (aJ (aJ (aJ (aV (ro rfl (cZ K_71 (vP zo) ⟨(Ht rfl),(Ht rfl),trivial⟩) (gZ Z_60 (Ht rfl) (Ht rfl) rfl (i:=2) rfl (aK rfl) rfl rfl (eJ (fK rfl (fJ (fY A_60 Z_60 rfl (i:=2) rfl rfl) ?_))))))))))
 exact (kJ (Qi.sub_def x y).symm)
theorem nA {x y:Qi} {L M:Nat} [hx:aD x L] [hy:aD y M] (h:L + M + 1 ≤ 17592186044415):aP Tryz.prog 70 [bA x,bA y] (bA (x * y)):=by
 have hxa:=iF hx.fit; have hxb:=iM hx.fit; have hxd:=iG hx.fit
 have hya:=iF hy.fit; have hyb:=iM hy.fit; have hyd:=iG hy.fit
 have hxp:=x.den_pos; have hyp:=y.den_pos; have hdp:=Nat.mul_pos hxp hyp
 have e1:=iL x.a y.a; have e2:=iL x.b y.b; have e3:=iL x.a y.b; have e4:=iL x.b y.a; have e5:=pD x.den y.den; have e8:=pE (x.b * y.b)
 have e6:=iS (x:=x.a * y.a) (y:=-(x.b * y.b)) (L:=L + M) zo zo; have e7:=iS (x:=x.a * y.b) (y:=x.b * y.a) (L:=L + M) zo zo
 refine aP.intro Tryz.func70 rfl Tryz.ntmps70 rfl (fun cx=>(ts (rn rfl (fU (Ht rfl)) fun B2=>(rn rfl (fU (Ht rfl)) fun B3=>(rn rfl (eK (Ts:=[Is (.bool false),Is (.slice none 0 0),Is (.bool false),Is (.slice none 0 0),Is (.slice none 0 0)]) O_60 rfl (fun V=>aW zd (aW zd (aW zd (aW zd (aW zd (aG))))))) fun B4=>(eJ (cK (fV (m:=13) (dp 2 rfl (eW fF (Ht rfl) rfl) (dq 7 0 rfl (eG A_58 Z_58 (Ht rfl) (i:=0) rfl rfl rfl) ?_))))))))))
 refine dp 3 rfl (eW fF (Ht rfl) rfl) (dq 9 2 rfl (eG A_58 Z_58 (Ht rfl) (i:=1) rfl rfl rfl) (bR 8 1 10 3 rfl (cZ K_151 (nP zo zo) ⟨(Ht rfl),(Ht rfl),trivial⟩) (dp 2 rfl (eW fS (Ht rfl) rfl) (dq 12 5 rfl (eG A_58 Z_58 (Ht rfl) (i:=0) rfl rfl rfl) (dp 3 rfl (eW fS (Ht rfl) rfl) (dq 14 7 rfl (eG A_58 Z_58 (Ht rfl) (i:=1) rfl rfl rfl) (bR 13 6 15 8 rfl (cZ K_151 (nP zo zo) ⟨(Ht rfl),(Ht rfl),trivial⟩) (dq 16 9 rfl (cZ K_167 nO ⟨(Ht rfl),trivial⟩) ?_))))))))
 refine bR 11 4 17 10 rfl (cZ K_152 (sW zo zo) ⟨(Ht rfl),(Ht rfl),trivial⟩) (C.D_new (Ei:=[]) rfl rfl rfl bW (eK (Ts:=[Is (.bool false),Is (.slice none 0 0)]) O_58 rfl (fun V=>aW zd (aW zd (aG)))) (fG aO rfl (by kernel_rfl) (zF (zF (zF (C.F_new (fun B5=>aV (gZ Z_58 (Ht rfl) (Ht rfl) rfl (i:=3) rfl (aK rfl) rfl rfl (eJ ?_)))))))))
 refine cK (fV (m:=12) (dp 2 rfl (eW fF (Ht rfl) rfl) (dq 19 0 rfl (eG A_58 Z_58 (Ht rfl) (i:=0) rfl rfl rfl) (dp 3 rfl (eW fS (Ht rfl) rfl) (dq 21 2 rfl (eG A_58 Z_58 (Ht rfl) (i:=1) rfl rfl rfl) (bR 20 1 22 3 rfl (cZ K_151 (nP zo zo) ⟨(Ht rfl),(Ht rfl),trivial⟩) (dp 2 rfl (eW fS (Ht rfl) rfl) (dq 24 5 rfl (eG A_58 Z_58 (Ht rfl) (i:=0) rfl rfl rfl) (dp 3 rfl (eW fF (Ht rfl) rfl) (dq 26 7 rfl (eG A_58 Z_58 (Ht rfl) (i:=1) rfl rfl rfl) ?_))))))))))
 refine bR 25 6 27 8 rfl (cZ K_151 (nP zo zo) ⟨(Ht rfl),(Ht rfl),trivial⟩) (bR 23 4 28 9 rfl (cZ K_152 (sW zo zo) ⟨(Ht rfl),(Ht rfl),trivial⟩) (C.D_new (Ei:=[]) rfl rfl rfl bW (eK (Ts:=[Is (.bool false),Is (.slice none 0 0)]) O_58 rfl (fun V=>aW zd (aW zd (aG)))) (fG aO rfl (by kernel_rfl) (zF (zF (aJ (aJ (aJ (C.F_new (fun B6=>aV (gZ Z_58 (Ht rfl) (Ht rfl) rfl (i:=4) rfl (aK rfl) rfl rfl ?_)))))))))))
 refine eJ (cK (fV (m:=7) (dp 5 rfl (eG A_58 Z_58 (Ht rfl) (i:=3) rfl rfl rfl) (dp 6 rfl (eG A_58 Z_58 (Ht rfl) (i:=4) rfl rfl rfl) (dp 2 rfl (eG A_60 Z_60 (Ht rfl) (i:=0) rfl rfl rfl) (dq 32 2 rfl (cZ K_153 mM ⟨(Ht rfl),trivial⟩) (dp 3 rfl (eG A_60 Z_60 (Ht rfl) (i:=1) rfl rfl rfl) (dq 34 4 rfl (cZ K_153 mM ⟨(Ht rfl),trivial⟩) (bR 33 3 35 5 rfl (cZ K_154 (Bf zo zo) ⟨(Ht rfl),(Ht rfl),trivial⟩) (fG aO rfl (by kernel_rfl) (zF (aJ (aJ (aJ (aV ?_)))))))))))))))
 refine ro rfl (cZ K_150 (sV (by first | assumption | omega) zo zo zo) ⟨(Ht rfl),(Ht rfl),(Ht rfl),trivial⟩) (gZ Z_60 (Ht rfl) (Ht rfl) rfl (i:=2) rfl (aK rfl) rfl rfl (eJ (fK rfl (fJ (fY A_60 Z_60 rfl (i:=2) rfl rfl) ?_))))
 exact (kJ (Qi.mk_mul x y))
theorem rI {x:Qi} {L:Nat} [hx:aD x L] (h:L ≤ 17592186044415):aP Tryz.prog 82 [bA x] (aC (!decide (x = Qi.zero))):=by
 have hxa:=iF hx.fit; have hxb:=iM hx.fit; have hxd:=iG hx.fit
 refine aP.intro Tryz.func82 rfl Tryz.ntmps82 rfl (fun cx=>(ts (rn rfl (fU (Ht rfl)) fun B1=>(ro rfl (cQ cV) (eJ (ts (ro rfl (eW fF (Ht rfl) rfl) (ro rfl (eW eM (Ht rfl) rfl) (ro rfl (fX A_56 Z_56 (Ht rfl) (i:=0) rfl rfl) (ro rfl (dU U_56 (Ht rfl) aA) (ro rfl (eW fS (Ht rfl) rfl) (ro rfl (eW eM (Ht rfl) rfl) (ro rfl (fX A_56 Z_56 (Ht rfl) (i:=0) rfl rfl) (ro rfl (dU U_56 (Ht rfl) aA) (ro rfl (dW (Ht rfl) (Ht rfl) z6) ?_)))))))))))))))
 refine ro rfl (eN (Ht rfl) (cJ 0)) (ra rfl (eJ (fK rfl (fJ (fQ rfl) ?_))))
 exact (bN (Qo x))
theorem In {x:Qi}:aP Tryz.prog 55 [bA x] (aC (decide (x.b = 0))):=by
 refine aP.intro Tryz.func55 rfl Tryz.ntmps55 rfl (fun cx=>(ts (rn rfl (fU (Ht rfl)) fun B1=>(ro rfl (cQ cV) (eJ (ts (ro rfl (eW fS (Ht rfl) rfl) (ro rfl (eW eM (Ht rfl) rfl) (ro rfl (fX A_56 Z_56 (Ht rfl) (i:=0) rfl rfl) (ro rfl (dU U_56 (Ht rfl) aA) (ro rfl (cA (Ht rfl) (cJ 0)) (ra rfl (eJ (fK rfl (fJ (fQ rfl) ?_)))))))))))))))
 exact (bN (Ym x))
theorem Px {x y:Qi} {L M:Nat} [hx:aD x L] [hy:aD y M] (h:L ≤ 17592186044415) (h2:M ≤ 17592186044415):aP Tryz.prog 100 [bA x,bA y] (aC (decide (x = y))):=by
 have hxa:=iF hx.fit; have hxb:=iM hx.fit; have hxd:=iG hx.fit
 have hya:=iF hy.fit; have hyb:=iM hy.fit; have hyd:=iG hy.fit
 have hxu:=Rd x; have hyu:=Rd y
 refine aP.intro Tryz.func100 rfl Tryz.ntmps100 rfl (fun cx=>(ts (rn rfl (fU (Ht rfl)) fun B2=>(rn rfl (fU (Ht rfl)) fun B3=>(ro rfl (cQ cV) (eJ (ts (ro rfl (eW fF (Ht rfl) rfl) (ro rfl (eG A_58 Z_58 (Ht rfl) (i:=0) rfl rfl rfl) (ro rfl (eW fF (Ht rfl) rfl) (ro rfl (eG A_58 Z_58 (Ht rfl) (i:=1) rfl rfl rfl) (ro rfl (cZ Tryz.call156 (Cw zo zo) ⟨(Ht rfl),(Ht rfl),trivial⟩) (ro rfl (jB (Ht rfl) cV) (rm rfl (fZ rfl rfl (eY rfl rfl (Ht rfl) (fun h=>eW fS (Ht rfl) rfl)) ?_)))))))))))))))
 refine fZ rfl rfl (eY rfl rfl (Ht rfl) (fun h=>eG A_58 Z_58 (fW rfl h) (i:=0) rfl rfl rfl)) (fZ rfl rfl (eY rfl rfl (Ht rfl) (fun h=>eW fS (Ht rfl) rfl)) (fZ rfl rfl (eY rfl rfl (Ht rfl) (fun h=>eG A_58 Z_58 (fW rfl h) (i:=1) rfl rfl rfl)) (fZ rfl rfl (eY rfl rfl (Ht rfl) (fun h=>cZ Tryz.call156 (Cw zo zo) ⟨(fW rfl h),(fW rfl h),trivial⟩)) (fZ rfl rfl (eY rfl rfl (Ht rfl) (fun h=>jB (fW rfl h) cV)) (ro rfl (dO (Ht rfl) (fun h=>(fW rfl h))) ?_)))))
 refine rm rfl (fZ rfl rfl (eY rfl rfl (Ht rfl) (fun h=>eW nS (Ht rfl) rfl)) (fZ rfl rfl (eY rfl rfl (Ht rfl) (fun h=>fX A_56 Z_56 (fW rfl h) (i:=0) rfl rfl)) (fZ rfl rfl (eY rfl rfl (Ht rfl) (fun h=>eW nS (Ht rfl) rfl)) (fZ rfl rfl (eY rfl rfl (Ht rfl) (fun h=>fX A_56 Z_56 (fW rfl h) (i:=1) rfl rfl)) (fZ rfl rfl (eY rfl rfl (Ht rfl) (fun h=>cZ Tryz.call199 (Qd zo zo) ⟨(fW rfl h),(fW rfl h),trivial⟩)) (fZ rfl rfl (eY rfl rfl (Ht rfl) (fun h=>jB (fW rfl h) cV)) ?_))))))
 refine ro rfl (dO (Ht rfl) (fun h=>(fW rfl h))) (ra rfl (eJ (fK rfl (fJ (fQ rfl) ?_))))
 exact (bN (Yr x y))
theorem Ko {x y:Qi} {L M:Nat} [hx:aD x L] [hy:aD y M] (h:L + M ≤ 17592186044415):aP Tryz.prog 51 [bA x,bA y] (aN .i64 (Au x y)):=by
 have hxa:=iF hx.fit; have hxb:=iM hx.fit; have hxd:=iG hx.fit
 have hya:=iF hy.fit; have hyb:=iM hy.fit; have hyd:=iG hy.fit
 have e1:=dC x.a y.den; have e2:=dC y.a x.den; have e3:=dC x.b y.den; have e4:=dC y.b x.den
 refine aP.intro Tryz.func51 rfl Tryz.ntmps51 rfl (fun cx=>(ts (rn rfl (fU (Ht rfl)) fun B2=>(rn rfl (fU (Ht rfl)) fun B3=>(ro rfl (cQ (cJ 0)) (eJ (cK (cK (fV (m:=9) (dp 2 rfl (eW fF (Ht rfl) rfl) (dq 6 0 rfl (eG A_58 Z_58 (Ht rfl) (i:=0) rfl rfl rfl) (dp 3 rfl (eG A_60 Z_60 (Ht rfl) (i:=1) rfl rfl rfl) (dq 8 2 rfl (cZ K_153 mM ⟨(Ht rfl),trivial⟩) (bR 7 1 9 3 rfl (cZ K_155 (kO zo zo) ⟨(Ht rfl),(Ht rfl),trivial⟩) (dp 3 rfl (eW fF (Ht rfl) rfl) ?_)))))))))))))))
 refine dq 11 5 rfl (eG A_58 Z_58 (Ht rfl) (i:=1) rfl rfl rfl) (dp 2 rfl (eG A_60 Z_60 (Ht rfl) (i:=0) rfl rfl rfl) (dq 13 7 rfl (cZ K_153 mM ⟨(Ht rfl),trivial⟩) (fG aO rfl (by kernel_rfl) (zF (zF (aJ (aV (ro rfl (cZ K_155 (kO zo zo) ⟨(Ht rfl),(Ht rfl),trivial⟩) (ro rfl (cZ Tryz.call156 (Cw zo zo) ⟨(Ht rfl),(Ht rfl),trivial⟩) (ra rfl (eJ (ts (rm rfl (ro rfl (nG (Ht rfl) cV) ?_))))))))))))))
 refine eJ (dQ (Ht rfl) (fun hb=>?_) (fun hb=>?_))
 ·simp only [Bool.not_eq_true', decide_eq_false_iff_not] at hb
  refine ts (rm rfl (ra rfl (eJ (fK rfl (fJ (fQ rfl) ?_)))))
  exact (aS (by rw [Au,if_pos hb]))
 ·simp only [Bool.not_eq_false', decide_eq_true_eq] at hb
  refine cU (cK (fV (m:=9) (dp 2 rfl (eW fS (Ht rfl) rfl) (dq 20 0 rfl (eG A_58 Z_58 (Ht rfl) (i:=0) rfl rfl rfl) (dp 3 rfl (eG A_60 Z_60 (Ht rfl) (i:=1) rfl rfl rfl) (dq 22 2 rfl (cZ K_153 mM ⟨(Ht rfl),trivial⟩) (bR 21 1 23 3 rfl (cZ K_155 (kO zo zo) ⟨(Ht rfl),(Ht rfl),trivial⟩) (dp 3 rfl (eW fS (Ht rfl) rfl) (dq 25 5 rfl (eG A_58 Z_58 (Ht rfl) (i:=1) rfl rfl rfl) (dp 2 rfl (eG A_60 Z_60 (Ht rfl) (i:=0) rfl rfl rfl) ?_))))))))))
  refine dq 27 7 rfl (cZ K_153 mM ⟨(Ht rfl),trivial⟩) (fG aO rfl (by kernel_rfl) (zF (zF (aJ (aV (ro rfl (cZ K_155 (kO zo zo) ⟨(Ht rfl),(Ht rfl),trivial⟩) (ro rfl (cZ Tryz.call156 (Cw zo zo) ⟨(Ht rfl),(Ht rfl),trivial⟩) (ra rfl (eJ (fK rfl (fJ (fQ rfl) ?_)))))))))))
  exact (aS (by rw [Au,if_neg (by simpa using hb)]))
end
section
open Go Go.RowKit
theorem Km {n : Nat} {E : cH} {H : Hp} {d : Option Tmp} {t : TypeId} {pos : String} {af : Array Edge} {g : Option (Nat × Bool)}  :
  aI Tryz.prog n E H ⟨d,.build 58 #[],t,pos,af,g⟩ (fI [Is (.bool false),Is (.slice none 0 0)]) :=
 gP (parts := []) fun a V w hs => by
  refine ⟨.agg #[(.bool false),(.slice none 0 0)],?_,[(.bool false),(.slice none 0 0)],rfl,aW (⟨rfl,trivial⟩) (aW (⟨rfl,trivial⟩) (aG))⟩
  simp [Instr.build,Instr.fill,Sem.run_bind,Result.andThen,fP,O_58,U_58,Z_4,Z_56]
theorem pG (a:Addr) (w:World):(Instr.fieldAt 48 (.pointer (some a)) 0).run Tryz.prog w = .ok (.pointer (some (a.add 0))) w:=by
 simp [Instr.fieldAt,Instr.sureAddr,fieldPlace,Sem.run_bind,Result.andThen,U_48,Z_2]
theorem Df (a:Addr) (w:World):(Instr.fieldAt 48 (.pointer (some a)) 1).run Tryz.prog w = .ok (.pointer (some (a.add 1))) w:=by
 simp [Instr.fieldAt,Instr.sureAddr,fieldPlace,Sem.run_bind,Result.andThen,U_48,Z_2]
theorem nR (a:Addr) (w:World):(Instr.fieldAt 48 (.pointer (some a)) 2).run Tryz.prog w = .ok (.pointer (some (a.add 2))) w:=by
 simp [Instr.fieldAt,Instr.sureAddr,fieldPlace,Sem.run_bind,Result.andThen,U_48,Z_2]
theorem mO:Tryz.prog.info? 60 = some Tryz.t60:=by kernel_rfl
theorem pR:Tryz.prog.underlying 25 = some (.slice 60):=by kernel_rfl
end
section
open Go Go.RowKit
theorem Ir {a:Int} {d:Nat} (hd:0 < d) (ha:(dg a.natAbs).length ≤ 8796093022208) (hd2:(dg d).length ≤ 8796093022208):aP Tryz.prog 216 [dE a,aE d] (oE (qT a d)):=by
 have h1:=Gj a hd; have h2:=Gk a hd
 obtain ⟨x,hx⟩:∃ x,x = Qi.mk' a 0 d:=⟨_,rfl⟩
 rw [qT,← hx]
 rw [← hx] at h1 h2
 have h3:=oZ x.a.natAbs; have h4:=oZ x.den
 have h5:(dg (0:Int).natAbs).length ≤ 0:=by rw [show (0:Int).natAbs = 0 from rfl,dI]; exact Nat.le_refl _
 refine aP.intro Tryz.func216 rfl Tryz.ntmps216 rfl (fun cx=>(ts (rn rfl (fU (Ht rfl)) fun B2=>(ro rfl (cQ (bB.cS (l:=[]) rfl)) (eJ (ts (ro rfl (eG A_58 Z_58 (Ht rfl) (i:=0) rfl rfl rfl) (ro rfl (aI.imp (Km ) tF) (rm rfl (ro rfl (aI.imp (cZ K_150 (sV (by first | assumption | omega) zo zo zo) ⟨(Ht rfl),(Ht rfl),(Ht rfl),trivial⟩) (kJ hx.symm)) (rn rfl (eK (Ts:=[Is (.bool false),Is (.slice none 0 0),Is (.bool false),Is (.slice none 0 0),Is (.slice none 0 0)]) O_60 rfl (fun V=>aW zd (aW zd (aW zd (aW zd (aW zd (aG))))))) fun B5=>?_)))))))))))
 refine gZ Z_60 (Ht rfl) (Ht rfl) rfl (i:=1) rfl (aK rfl) rfl rfl (eJ (ts (ro rfl (eW fF (Ht rfl) rfl) (ro rfl (eW eM (Ht rfl) rfl) (ro rfl (fX A_56 Z_56 (Ht rfl) (i:=1) rfl rfl) (ro rfl (cZ Tryz.call260 (Ev zo) ⟨(Ht rfl),trivial⟩) (ra rfl (eJ (cK (iB (fun (uu:Unit)=>True) (fun (uu:Unit)=>[(5,cC B5 0),(6,oE (if x.a < 0 then 45 :: sM x.a.natAbs else sM x.a.natAbs))]) (fun (uu:Unit)=>[box B2 58 [aC (decide (a < 0)),aE (a).natAbs],box B5 60 [aC (decide ((x).a < 0)),aE (x).a.natAbs,aC (decide ((x).b < 0)),aE (x).b.natAbs,aE (du (x))]]) ?_ (fun uu _=>?_)))))))))))
 ·refine ts (ro rfl (eW fF (Ht rfl) rfl) (ro rfl (eW kC (Ht rfl) rfl) (ro rfl (fX A_4 Z_4 (Ht rfl) (i := 1) rfl rfl) (eJ (dQ (Ht rfl) (fun hb => ?_) (fun hb => ?_))))))
  ·simp only [decide_eq_true_eq] at hb
   refine cY (rm rfl (ro rfl (jA (bB.cS (l:=[45]) rfl) (Ht rfl) (by first | omega | (simp; omega))) (ra rfl (eJ (aL () trivial (aQ rfl (aZ rfl (iP (by rw [if_pos hb]; rfl)) aX)) (aU (aB rfl) (aU (aB rfl) aY)))))))
  ·simp only [decide_eq_false_iff_not] at hb
   refine cU (aL () trivial (aQ rfl (aZ rfl (iP (by rw [if_neg hb])) aX)) (aU (aB rfl) (aU (aB rfl) aY)))
 ·have h6 : (if x.a < 0 then 45 :: sM x.a.natAbs else sM x.a.natAbs).length ≤ (sM x.a.natAbs).length + 1 := by split <;> simp
  have h7:=Rd x
  refine cK (iB (fun (uu:Unit)=>True) (fun (uu:Unit)=>[(6,oE ((if x.a < 0 then 45 :: sM x.a.natAbs else sM x.a.natAbs) ++ (if x.den = 1 then [] else 47 :: sM x.den)))]) (fun (uu:Unit)=>[box B2 58 [aC (decide (a < 0)),aE (a).natAbs],box B5 60 [aC (decide ((x).a < 0)),aE (x).a.natAbs,aC (decide ((x).b < 0)),aE (x).b.natAbs,aE (du (x))]]) ?_ (fun uu _=>?_))
  ·refine ts (ro rfl (eW nS (Ht rfl) rfl) (ro rfl (fX A_56 Z_56 (Ht rfl) (i := 1) rfl rfl) (ro rfl (dU U_56 (Ht rfl) aA) (ro rfl (eN (Ht rfl) (cJ 0)) (eJ (dQ (Ht rfl) (fun hb => ?_) (fun hb => ?_)))))))
   ·simp only [decide_eq_true_eq] at hb
    have h8:du x = x.den:=tT (fun e=>by rw [e,dI] at hb; simp at hb)
    have h9:x.den ≠ 1:=fun e=>by rw [du,if_pos e,dI] at hb; simp at hb
    have h10:=oZ (du x)
    refine cY (rm rfl (ro rfl (eW nS (Ht rfl) rfl) (ro rfl (fX A_56 Z_56 (Ht rfl) (i:=1) rfl rfl) (ro rfl (cZ Tryz.call260 (Ev zo) ⟨(Ht rfl),trivial⟩) (ro rfl (jA (bB.cS (l:=[47]) rfl) (Ht rfl) (by simp only [List.length_cons,List.length_nil]; omega)) ?_)))))
    refine ro rfl (jA (Ht rfl) (Ht rfl) (by simp only [List.length_append,List.length_cons,List.length_nil]; omega)) ?_
    refine ra rfl (eJ (aL () trivial (aZ rfl (iP (by rw [if_neg h9,h8]; rfl)) aX) (cI.refl _)))
   ·simp only [decide_eq_false_iff_not] at hb
    have h9:x.den = 1:=xF (aH.1 zo)
    refine cU (aL () trivial (aZ rfl (iP (by rw [if_pos h9,List.append_nil])) aX) (cI.refl _))
  ·refine ts (rm rfl (ra rfl (eJ ?_)))
   exact fK rfl (fQ rfl)
theorem Qa {x:Qi} {L:Nat} [hx:aD x L] (h:L ≤ 8796093022208):aP Tryz.prog 115 [bA x] (oE (Oz x)):=by
 have hxa:=iF hx.fit; have hxb:=iM hx.fit; have hxd:=iG hx.fit; have hdp:=x.den_pos
 have l1:=uB x.a hdp; have l2:=uB x.b hdp
 refine aP.intro Tryz.func115 rfl Tryz.ntmps115 rfl (fun cx=>(ts (rn rfl (fU (Ht rfl)) fun B1=>(ro rfl (cQ (bB.cS (l:=[]) rfl)) (eJ (cK (ts (ro rfl (eG A_60 Z_60 (Ht rfl) (i:=0) rfl rfl rfl) (ro rfl (cZ Tryz.call55 In ⟨(Ht rfl),trivial⟩) (eJ (dQ (Ht rfl) (fun hb=>?_) (fun hb=>?_))))))))))))
 ·simp only [decide_eq_true_eq] at hb
  refine cK (fV (m:=4) (dp 1 rfl (eW fF (Ht rfl) rfl) (dq 6 0 rfl (eG A_58 Z_58 (Ht rfl) (i:=0) rfl rfl rfl) (dp 1 rfl (eG A_60 Z_60 (Ht rfl) (i:=0) rfl rfl rfl) (dq 8 2 rfl (cZ K_153 mM ⟨(Ht rfl),trivial⟩) (fG aO rfl (by kernel_rfl) (zF (aV (ro rfl (cZ Tryz.call216 (Ir (by assumption) zo zo) ⟨(Ht rfl),(Ht rfl),trivial⟩) ?_)))))))))
  refine ra rfl (eJ (fK rfl (fJ (fQ rfl) ?_)))
  exact (iP (by rw [Oz,if_pos hb]))
 ·simp only [decide_eq_false_iff_not] at hb
  refine cU (cK (fV (m:=4) (dp 1 rfl (eW fS (Ht rfl) rfl) (dq 11 0 rfl (eG A_58 Z_58 (Ht rfl) (i:=0) rfl rfl rfl) (dp 1 rfl (eG A_60 Z_60 (Ht rfl) (i:=0) rfl rfl rfl) (dq 13 2 rfl (cZ K_153 mM ⟨(Ht rfl),trivial⟩) (fG aO rfl (by kernel_rfl) (zF (aV (ro rfl (cZ Tryz.call216 (Ir (by assumption) zo zo) ⟨(Ht rfl),(Ht rfl),trivial⟩) ?_))))))))))
  refine ro rfl (jA (Ht rfl) (bB.cS (l:=[105]) rfl) (by simp only [List.length_append,List.length_cons,List.length_nil]; omega)) ?_
  refine ra rfl (eJ (cK (ts (ro rfl (eW fF (Ht rfl) rfl) (ro rfl (eW eM (Ht rfl) rfl) (ro rfl (fX A_56 Z_56 (Ht rfl) (i:=0) rfl rfl) (ro rfl (dU U_56 (Ht rfl) aA) (ro rfl (cA (Ht rfl) (cJ 0)) (eJ (dQ (Ht rfl) (fun hc=>?_) (fun hc=>?_)))))))))))
  ·simp only [decide_eq_true_eq] at hc
   have ha:x.a = 0:=by have:=aH.1 hc; omega
   refine ts (rm rfl (ra rfl (eJ (fK rfl (fJ (fQ rfl) ?_)))))
   exact (iP (by rw [Oz,if_neg hb,if_pos ha]))
  ·simp only [decide_eq_false_iff_not] at hc
   have ha:x.a ≠ 0:=fun e=>hc (by rw [e]; exact aH.2 rfl)
   refine cU (cK (iB (fun (uu:Unit)=>True) (fun (uu:Unit)=>[(1,cC B1 0),(3,oE ((if x.b < 0 then qT x.b x.den else 43 :: qT x.b x.den) ++ [105]))]) (fun (uu:Unit)=>[box B1 60 [aC (decide ((x).a < 0)),aE (x).a.natAbs,aC (decide ((x).b < 0)),aE (x).b.natAbs,aE (du (x))]]) ?_ (fun uu _=>?_)))
   ·refine ts (ro rfl (eW fS (Ht rfl) rfl) (ro rfl (eW kC (Ht rfl) rfl) (ro rfl (fX A_4 Z_4 (Ht rfl) (i := 0) rfl rfl) (ro rfl (dT (Ht rfl)) (eJ (dQ (Ht rfl) (fun hd => ?_) (fun hd => ?_)))))))
    ·have hn : ¬ x.b < 0 := by simpa using hd
     refine cY (rm rfl (ro rfl (jA (bB.cS (l:=[43]) rfl) (Ht rfl) (by simp only [List.length_append,List.length_cons,List.length_nil]; omega)) ?_))
     refine ra rfl (eJ (aL () trivial (aQ rfl (aZ rfl (iP (by rw [if_neg hn]; rfl)) aX)) (aU (aB rfl) aY)))
    ·have hn : x.b < 0 := by simpa using hd
     refine cU (aL () trivial (aQ rfl (aZ rfl (iP (by rw [if_pos hn])) aX)) (aU (aB rfl) aY))
   ·have l3 : ((if x.b < 0 then qT x.b x.den else 43 :: qT x.b x.den) ++ [105]).length ≤ (qT x.b x.den).length + 2 := by split <;> simp
    refine cK (fV (m:=6) (dp 1 rfl (eW fF (Ht rfl) rfl) (dq 29 0 rfl (eG A_58 Z_58 (Ht rfl) (i:=0) rfl rfl rfl) (dp 1 rfl (eG A_60 Z_60 (Ht rfl) (i:=0) rfl rfl rfl) (dq 31 2 rfl (cZ K_153 mM ⟨(Ht rfl),trivial⟩) (bR 30 1 32 3 rfl (cZ Tryz.call216 (Ir (by assumption) zo zo) ⟨(Ht rfl),(Ht rfl),trivial⟩) ?_))))))
    refine dp 3 rfl (cX (Ht rfl)) (fG aO rfl (by kernel_rfl) (zF (aJ (aJ (aV (ro rfl (jA (Ht rfl) (Ht rfl) zo) (ra rfl (eJ (fK rfl (fJ (fQ rfl) ?_))))))))))
    exact (iP (by rw [Oz,if_neg hb,if_neg ha]))
theorem Vl {r:Rt}:aP Tryz.prog 33 [lN r] (bA r.q):=by
 have hr1:=r.h1; have hr2:=r.h2; have hr3:=r.h3; have hr4:=r.h4; have hr5:=r.d1; have hr6:=r.d2; have hr0:=r.d0
 refine aP.intro Tryz.func33 rfl Tryz.ntmps33 rfl (fun cx=>(ts (rn rfl (fU (Ht rfl)) fun B1=>(rn rfl (eK (Ts:=[Is (.bool false),Is (.slice none 0 0),Is (.bool false),Is (.slice none 0 0),Is (.slice none 0 0)]) O_60 rfl (fun V=>aW zd (aW zd (aW zd (aW zd (aW zd (aG))))))) fun B2=>(eJ (cK (iB (fun (uu:Unit)=>True) (fun (uu:Unit)=>[(1,cC B1 0),(2,cC B2 0)]) (fun (uu:Unit)=>[box B1 48 [aN .i64 r.re,aN .i64 r.im,aN .i64 r.d],box B2 60 [Is (.bool false),Is (.slice none 0 0),Is (.bool false),Is (.slice none 0 0),Is (.slice none 0 0)]]) ?_ (fun uu _=>?_))))))))
 ·refine ts (ro rfl (eW nR (Ht rfl) rfl) (ro rfl (fX A_2 Z_2 (Ht rfl) (i := 0) rfl rfl) (ro rfl (jB (Ht rfl) cV) (eJ (dQ (Ht rfl) (fun hb => ?_) (fun hb => ?_))))))
  ·simp only [decide_eq_true_eq] at hb
   refine cY (ro rfl (eW nR (Ht rfl) rfl) (jT Z_2 (Ht rfl) (cJ 1) (i:=0) rfl (aK rfl) rfl (eJ (aL () trivial (zS rfl) (aU (aB (by rw [Rt.d,if_pos hb]; rfl)) (aU (aB rfl) aY))))))
  ·simp only [decide_eq_false_iff_not] at hb
   refine cU (aL () trivial (zS rfl) (aU (aB (by rw [Rt.d,if_neg hb])) (aU (aB rfl) aY)))
 ·refine ts (ro rfl (eW pG (Ht rfl) rfl) (ro rfl (fX A_2 Z_2 (Ht rfl) (i := 0) rfl rfl) (ro rfl (eW Df (Ht rfl) rfl) (ro rfl (fX A_2 Z_2 (Ht rfl) (i := 0) rfl rfl) (ro rfl (eW nR (Ht rfl) rfl) (ro rfl (fX A_2 Z_2 (Ht rfl) (i := 0) rfl rfl) (ro rfl (cZ Tryz.call108 (Zp hr1 hr2 hr3 hr4 hr5 hr6 hr0) ⟨(Ht rfl), (Ht rfl), (Ht rfl), trivial⟩) (rm rfl (ro rfl (dY (Ht rfl) rfl) (ro rfl (dY (Ht rfl) rfl) (rn rfl (eK (Ts := [Is (.bool false), Is (.slice none 0 0), Is (.bool false), Is (.slice none 0 0), Is (.slice none 0 0)]) O_60 rfl (fun V => aW zd (aW zd (aW zd (aW zd (aW zd (aG))))))) fun B3 => ?_)))))))))))
  refine gZ Z_60 (Ht rfl) (Ht rfl) rfl (i:=2) rfl (aK rfl) rfl rfl (ra rfl (eJ (ts (ro rfl (eG A_60 Z_60 (Ht rfl) (i:=2) rfl rfl rfl) (gZ Z_60 (Ht rfl) (Ht rfl) rfl (i:=1) rfl (aK rfl) rfl rfl (eJ ?_))))))
  exact fK rfl (fY A_60 Z_60 rfl (i:=1) rfl rfl)
theorem uR {l:List Rt} (hl:l.length ≤ 1000000):aP Tryz.prog 48 [lF l] (cE (l.map Rt.q)):=by
 refine aP.intro Tryz.func48 rfl Tryz.ntmps48 rfl (fun cx=>(ts (ro rfl (cQ cV) (eJ (ts (rm rfl (ro rfl (dU U_22 (Ht rfl) aA) (rn rfl (jJ (T:=bA Qi.zero) (i:=Tryz.t60) pR mO rfl rfl (Ht rfl) rfl kV (El.ag rfl) (by show 88 * _ ≤ _; omega) zo) fun B8=>(ra rfl (eJ (cK (ts (rm rfl (ro rfl (dU U_22 (Ht rfl) aA) (ro rfl (cX (cJ 0)) (eJ (eU ?_)))))))))))))))))
 refine eS (fun (k : Nat) (out : List Qi) => kM (fun i => (l.getD i default).q) l.length out k) (fun (k : Nat) (out : List Qi) => l.length - k) (fun (k : Nat) (out : List Qi) => [(3, Is B8), (9, lF l), (10, NT .i64 l.length), (11, NT .i64 k)]) (fun (k : Nat) (out : List Qi) => [bI 60 5 B8 (out.map bA)]) 0 (List.replicate l.length Qi.zero) (kM.start _ _ _)
  (zS rfl) (aU (bL (qX bA _ _)) aY) (fun k out hS=>?_)
 refine ts (ro rfl (gJ (Ht rfl) (Ht rfl)) (eJ (cK (dQ (Ht rfl) (fun hk=>?_) (fun hk=>?_)))))
 ·simp only [decide_eq_true_eq] at hk
  have hlen:=hS.len
  refine cU (cK (eU (ts (rm rfl (ro rfl (dZ U_22 Z_48 (Ht rfl) (Ht rfl) rfl (eX (eQ (d:=default) hk))) (ro rfl (dJ A_48 Z_48 (Ht rfl)) (rn rfl (eK (Ts:=[Is (.int .i64 0),Is (.int .i64 0),Is (.int .i64 0)]) O_48 rfl (fun V=>aW zd (aW zd (aW zd (aG))))) fun B5=>(ra rfl (gZ Z_48 (Ht rfl) (Ht rfl) rfl (i:=1) rfl (aK rfl) rfl rfl (eJ (cY (rm rfl (rm rfl (ro rfl (eG A_48 Z_48 (Ht rfl) (i:=1) rfl rfl rfl) ?_))))))))))))))
  refine ro rfl (cZ Tryz.call33 Vl ⟨(Ht rfl),trivial⟩) (ro rfl (cP U_25 Z_60 (Ht rfl) (Ht rfl) rfl (i:=0) rfl (by first | omega | (simp; omega)) rfl) (lE Z_60 (Ht rfl) (Ht rfl) (El.ag rfl) (i:=0) rfl rfl (by first | omega | (simp; omega)) rfl (eJ (bC (cY (ro rfl (dW (Ht rfl) (cJ 1) z6) (rm rfl (eJ (eB [0] rfl (by decide) (gQ (k + 1,_) (hS.next hk rfl) (by dsimp only; omega) (zS rfl) (aU (bL (iU bA _ _ _)) aY)))))))))))
 ·simp only [decide_eq_false_iff_not] at hk
  obtain rfl:k = l.length:=Nat.le_antisymm hS.kle zo
  have hfin:=hS.fin
  rw [rF l Rt.q] at hfin
  refine gG rfl (gW (i:=0) (tt:=3) rfl rfl iY (ts (rm rfl (ra rfl (eJ (fK rfl (fJ (fQ rfl) ?_)))))))
  exact (jC (by rw [hfin]))
end
section
open Go Go.RowKit
theorem mN (ds:List Nat) (hd:jL ds) (hl:ds.length ≤ 1152921504606846976):aP Tryz.prog 254 [uI ds] (aE (val ds)):=by
 refine aP.intro Tryz.func254 rfl Tryz.ntmps254 rfl (fun cx=>(ts (ro rfl (cQ cV) (eJ (ts (rm rfl (ro rfl (dU U_55 (Ht rfl) aA) (ra rfl (eJ (cK (eU ?_)))))))))))
 refine bF (fun (k : Nat) => k ≤ ds.length ∧ ∀ i, k ≤ i → i < ds.length → ds.getD i 0 = 0) (fun (k : Nat) => k) (fun (k : Nat) => [(0, uI ds), (3, NT .i64 k)]) (fun (k : Nat) => []) ds.length ⟨Nat.le_refl _, fun i h1 h2 => by omega⟩
  (zS rfl) aY (fun k ⟨hk,hz⟩=>?_)
 refine cK (ts (rm rfl (ro rfl (eN (Ht rfl) (cJ 0)) (rm rfl (fZ rfl rfl (eY rfl rfl (Ht rfl) (fun h=>cX (Ht rfl))) (fZ rfl rfl (eY rfl rfl (Ht rfl) (fun h=>cX (Ht rfl))) (fZ rfl rfl (eY rfl rfl (Ht rfl) (fun h=>dK (fW rfl h) (cJ 1) (by first | omega | (simp at h; omega)) (by show _ < 9223372036854775808; first | omega | (simp at h; omega)))) (fZ rfl rfl (eY rfl rfl (Ht rfl) (fun h=>dZ U_55 Z_218 (fW rfl h) (fW rfl h) rfl (eX (aF (by first | omega | (simp at h; omega)))))) ?_))))))))
 refine fZ rfl rfl (eY rfl rfl (Ht rfl) (fun h=>dJ A_218 Z_218 (fW rfl h))) (fZ rfl rfl (eY rfl rfl (Ht rfl) (fun h=>cA (fW rfl h) (cJ 0))) (ro rfl (dO (Ht rfl) (fun h=>(fW rfl h))) (eJ (dQ (Ht rfl) (fun hb=>?_) (fun hb=>?_)))))
 ·simp at hb
  refine cU (eU (cY (rm rfl (ro rfl (dK (Ht rfl) (cJ 1) zo z6) (ra rfl (eJ (bC (gQ (k - 1) ⟨by omega,fun i h1 h2=>?_⟩ zo (zS rfl) aY))))))))
  by_cases e2:i = k - 1
  ·subst e2; simpa using hb.2
  ·exact hz i zo h2
 ·have hn : k = 0 ∨ ds.getD (k - 1) 0 ≠ 0 := by
   simp only [Bool.and_eq_false_iff,decide_eq_false_iff_not] at hb
   rcases hb with h1 | h1
   ·left; omega
   ·right; exact h1
  have hfin:=Li hd hk hz hn
  refine gG rfl (ts (rm rfl (rm rfl (ro rfl (sE U_55 Z_218 (Ht rfl) (Ht rfl) (fun m e=>by cases e) zo (by simp; omega) rfl) ?_))))
  refine ra rfl (eJ (fK rfl (fJ (fQ rfl) ?_)))
  exact (Fy (by rw [hfin]; simp))
theorem yN {m:Nat} (hm:m < 18446744073709551616):aP Tryz.prog 257 [NT .u64 m] (aE m):=by
 refine aP.intro Tryz.func257 rfl Tryz.ntmps257 rfl (fun cx=>(ts (ro rfl (cQ cV) (eJ (ts (rm rfl (ro rfl (eO rfl U_263 U_218 (Ht rfl)) (rm rfl (ro rfl (dP (Ht rfl) (cJ 32) (by decide)) (ro rfl (eO rfl U_263 U_218 (Ht rfl)) (ro rfl (fE (xs:=[.tmp 4,.tmp 7]) U_55 Z_218 O_218 (cW (Ht rfl) (cW (Ht rfl) cG)) rfl rfl rfl) (ro rfl (cZ K_254 (mN [m % 4294967296,m / 2 ^ 32 % 4294967296] (a1S _ _) (by simp)) ⟨(Ht rfl),trivial⟩) ?_))))))))))))
 refine ra rfl (eJ (fK rfl (fJ (fQ rfl) ?_)))
 exact (cF (Bt hm))
theorem oG {m n:Nat} (hm:(dg m).length ≤ 1152921504606846976) (hn:(dg n).length ≤ 1152921504606846976):aP Tryz.prog 201 [aE m,aE n] (aN .i64 (mH m n)):=by
 refine aP.intro Tryz.func201 rfl Tryz.ntmps201 rfl (fun cx=>(ts (ro rfl (cQ (cJ 0)) (eJ (cK (ts (rm rfl (ro rfl (dU U_55 (Ht rfl) aA) (rm rfl (ro rfl (dU U_55 (Ht rfl) aA) (ro rfl (iQ (Ht rfl) (Ht rfl)) (eJ (dQ (Ht rfl) (fun hb=>?_) (fun hb=>?_))))))))))))))
 ·simp at hb
  refine cK (ts (rm rfl (ro rfl (dU U_55 (Ht rfl) aA) (rm rfl (ro rfl (dU U_55 (Ht rfl) aA) (ro rfl (gJ (Ht rfl) (Ht rfl)) (eJ (dQ (Ht rfl) (fun hb2=>?_) (fun hb2=>?_)))))))))
  ·simp at hb2
   have hlt:=Da hb2
   refine ts (ro rfl (cQ cV) (eJ (fK rfl (fJ (fQ rfl) ?_))))
   exact (aS (by simp [mH,hlt]))
  ·simp at hb2
   have hlt:=Da (a:=n) (b:=m) zo
   refine cU (ts (ro rfl (cQ (cJ 1)) (eJ (fK rfl (fJ (fQ rfl) ?_)))))
   exact (aS (by simp [mH,hlt,Nat.lt_asymm hlt]))
 ·simp at hb
  refine cU (cK (ts (rm rfl (ro rfl (dU U_55 (Ht rfl) aA) (ro rfl (iD (Ht rfl) cV (wD zo)) (ra rfl (eJ (eU ?_))))))))
  refine bF (fun (k : Nat) => k ≤ (dg m).length ∧ ∀ i, k ≤ i → i < (dg m).length → (dg m).getD i 0 = (dg n).getD i 0) (fun (k : Nat) => k) (fun (k : Nat) => [(0, aE m), (1, aE n), (5, aN .i64 ((k : Int) - 1))]) (fun (k : Nat) => []) (dg m).length ⟨Nat.le_refl _, fun i h1 h2 => by omega⟩
   (zS rfl) aY (fun k ⟨hk,he⟩=>?_)
  refine cK (ts (rm rfl (ro rfl (kW (Ht rfl) cV) (eJ (dQ (Ht rfl) (fun hk1=>?_) (fun hk1=>?_))))))
  ·simp at hk1
   refine cU (cK (eU (cK (fV (m:=8) (dp 0 rfl (cX (Ht rfl)) (dp 5 rfl (cX (Ht rfl)) (bR 23 0 24 1 rfl (dZ U_55 Z_218 (Ht rfl) (Ht rfl) (show ((k:Int) - 1) = ((k - 1:Nat):Int) by omega) (eX (aF zo))) (dq 25 2 rfl (dJ A_218 Z_218 (Ht rfl)) (dp 1 rfl (cX (Ht rfl)) (dp 5 rfl (cX (Ht rfl)) (bR 27 4 28 5 rfl (dZ U_55 Z_218 (Ht rfl) (Ht rfl) (show ((k:Int) - 1) = ((k - 1:Nat):Int) by omega) (eX (aF zo))) (dq 29 6 rfl (dJ A_218 Z_218 (Ht rfl)) ?_))))))))))))
   refine fG aO rfl (by kernel_rfl) (zF (zF (aV (ro rfl (iQ (Ht rfl) (Ht rfl)) (eJ (dQ (Ht rfl) (fun h1=>?_) (fun h1=>?_)))))))
   ·simp only [Bool.not_eq_true', decide_eq_false_iff_not] at h1
    refine cK (cK (fV (m:=8) (dp 0 rfl (cX (Ht rfl)) (dp 5 rfl (cX (Ht rfl)) (bR 32 0 33 1 rfl (dZ U_55 Z_218 (Ht rfl) (Ht rfl) (show ((k:Int) - 1) = ((k - 1:Nat):Int) by omega) (eX (aF zo))) (dq 34 2 rfl (dJ A_218 Z_218 (Ht rfl)) (dp 1 rfl (cX (Ht rfl)) (dp 5 rfl (cX (Ht rfl)) (bR 36 4 37 5 rfl (dZ U_55 Z_218 (Ht rfl) (Ht rfl) (show ((k:Int) - 1) = ((k - 1:Nat):Int) by omega) (eX (aF zo))) (dq 38 6 rfl (dJ A_218 Z_218 (Ht rfl)) ?_))))))))))
    refine fG aO rfl (by kernel_rfl) (zF (zF (aV (ro rfl (gJ (Ht rfl) (Ht rfl)) (eJ (dQ (Ht rfl) (fun h2=>?_) (fun h2=>?_)))))))
    ·simp only [decide_eq_true_eq] at h2
     have hlt:=xC (bD m) (bD n) hb (k:=k - 1) zo (fun i h2 h3=>he i zo h3) h2
     rw [bS,bS] at hlt
     refine ts (ro rfl (cQ cV) (eJ (fK rfl (fJ (fQ rfl) ?_))))
     exact (aS (by simp [mH,hlt]))
    ·simp only [decide_eq_false_iff_not] at h2
     have hlt:=xC (bD n) (bD m) hb.symm (k:=k - 1) zo (fun i h2 h3=>(he i zo zo).symm) zo
     rw [bS,bS] at hlt
     refine cU (ts (ro rfl (cQ (cJ 1)) (eJ (fK rfl (fJ (fQ rfl) ?_)))))
     exact (aS (by simp [mH,hlt,Nat.lt_asymm hlt]))
   ·simp only [Bool.not_eq_false', decide_eq_true_eq] at h1
    refine cU (bC (cY (rm rfl (ro rfl (iD (Ht rfl) cV (wD zo)) (ra rfl (eJ (gQ (k - 1) ⟨by omega,fun i h3 h4=>(by by_cases e:i = k - 1; (· subst e; omega); exact he i zo h4)⟩ zo (aQ rfl (aQ rfl (aZ rfl (aS zo) aX))) aY)))))))
  ·simp at hk1
   have hk0:k = 0:=by omega
   have heq : m = n := by
    have : dg m = dg n := by
     apply List.ext_getElem?
     intro i
     by_cases hi:i < (dg m).length
     ·have h5 := he i zo hi
      have h6:i < (dg n).length:=by omega
      simp [List.getD,hi,h6] at h5
      simp [hi,h6,h5]
     ·rw [List.getElem?_eq_none zo,List.getElem?_eq_none zo]
    rw [← bS m,this,bS]
   refine gG rfl (ts (ro rfl (cQ (cJ 0)) (eJ (fK rfl (fJ (fQ rfl) ?_)))))
   exact (aS (by simp [mH,heq]))
theorem Mx {m n:Nat} (hm:(dg m).length ≤ 17592186044416) (hn:(dg n).length ≤ 17592186044416):aP Tryz.prog 252 [aE m,aE n] (aE (m + n)):=by
 refine aP.intro Tryz.func252 rfl Tryz.ntmps252 rfl (fun cx=>(ts (ro rfl (cQ cV) (eJ (cK (nN (fun (p:Nat) (q:Nat)=>p + q = m + n ∧ (dg q).length ≤ (dg p).length ∧ (dg p).length ≤ 17592186044416) (fun (p:Nat) (q:Nat)=>[(0,aE p),(1,aE q)]) (fun (p:Nat) (q:Nat)=>[]) ?_ (fun p q ⟨hpq,hle,hlp⟩=>?_)))))))
 ·refine ts (rm rfl (ro rfl (dU U_55 (Ht rfl) aA) (rm rfl (ro rfl (dU U_55 (Ht rfl) aA) (ro rfl (gJ (Ht rfl) (Ht rfl)) (eJ (dQ (Ht rfl) (fun hb => ?_) (fun hb => ?_))))))))
  ·simp at hb
   refine cY (rm rfl (rm rfl (ra rfl (ra rfl (eJ (aL (n,m) ⟨Nat.add_comm _ _,Nat.le_of_lt hb,hn⟩ (zS rfl) aY))))))
  ·simp at hb
   refine cU (aL (m,n) ⟨rfl,hb,hm⟩ (zS rfl) aY)
 ·refine ts (rm rfl (ro rfl (dU U_55 (Ht rfl) aA) (ro rfl (dW (Ht rfl) (cJ 1) z6) (rn rfl (eI (T := bH 0) (i := Tryz.t218) V_55 gO rfl rfl (Ht rfl) rfl (fun _ => rfl) trivial (by show 4 * _ ≤ _; omega) zo) fun B19 => (ra rfl (eJ (ts (ro rfl (cQ (cJ 0)) (eJ (cK (ts (ro rfl (cQ (cJ 0)) (eJ (eU ?_))))))))))))))
  refine jO (fun (k : Nat) (out : List Nat) (c : Nat) => wF (dg p) (dg q) out k c) (fun (k : Nat) (out : List Nat) (c : Nat) => (dg p).length - k) (fun (k : Nat) (out : List Nat) (c : Nat) => [(0, aE p), (1, aE q), (5, Is (.slice (some ⟨B19, 0, none⟩) ((dg p).length + 1) ((dg p).length + 1))), (6, NT .u64 c), (7, NT .i64 k)]) (fun (k : Nat) (out : List Nat) (c : Nat) => [box B19 218 (out.map bH)]) 0 (List.replicate ((dg p).length + 1) 0) 0 (wF.start _ _)
   (zS rfl) (aU (aB (jS _)) aY) (fun k out c hS=>?_)
  refine cK (ts (rm rfl (rm rfl (ro rfl (dU U_55 (Ht rfl) aA) (ro rfl (gJ (Ht rfl) (Ht rfl)) (eJ (dQ (Ht rfl) (fun hb=>?_) (fun hb=>?_))))))))
  ·simp at hb
   have hlen:=hS.len; have hcl:=hS.cle; have hxk:=aM (bD p) k; have hyk:=aM (bD q) k
   simp only [BB] at hxk hyk
   refine cU (cK (eU (ts (rm rfl (rm rfl (ro rfl (dZ U_55 Z_218 (Ht rfl) (Ht rfl) rfl (eX (aF zo))) (ro rfl (dJ A_218 Z_218 (Ht rfl)) (ro rfl (gV U_218 U_263 (Ht rfl) z7) (rm rfl (ro rfl (dW (Ht rfl) (Ht rfl) z7) (ra rfl (eJ (cK (iB (fun (s:Nat)=>s = (dg p).getD k 0 + (dg q).getD k 0 + c) (fun (s:Nat)=>[(0,aE p),(1,aE q),(5,Is (.slice (some ⟨B19,0,none⟩) ((dg p).length + 1) ((dg p).length + 1))),(7,NT .i64 k),(8,NT .u64 s)]) (fun (s:Nat)=>[box B19 218 (out.map bH)]) ?_ (fun s hs=>?_)))))))))))))))
   ·refine ts (rm rfl (rm rfl (ro rfl (dU U_55 (Ht rfl) aA) (ro rfl (gJ (Ht rfl) (Ht rfl)) (eJ (dQ (Ht rfl) (fun hk2 => ?_) (fun hk2 => ?_)))))))
    ·simp at hk2
     refine cY (rm rfl (rm rfl (rm rfl (ro rfl (dZ U_55 Z_218 (Ht rfl) (Ht rfl) rfl (eX (aF zo))) (ro rfl (dJ A_218 Z_218 (Ht rfl)) (ro rfl (gV U_218 U_263 (Ht rfl) z7) (ro rfl (dW (Ht rfl) (Ht rfl) z7) (ra rfl (eJ (aL ((dg p).getD k 0 + c + (dg q).getD k 0) zo (zS rfl) (cI.refl _)))))))))))
    ·simp at hk2
     have hq0:(dg q).getD k 0 = 0:=by simp [List.getD,List.getElem?_eq_none hk2]
     refine cU (aL ((dg p).getD k 0 + c) zo (zS rfl) (cI.refl _))
   ·refine ts (rm rfl (rm rfl (rm rfl (ro rfl (eO rfl U_263 U_218 (Ht rfl)) (ro rfl (gX U_55 Z_218 (Ht rfl) (Ht rfl) rfl zo (by rw [Nat.mul_one, Nat.zero_add])) ?_)))))
    refine jT Z_218 (Ht rfl) (Ht rfl) (i:=0) rfl (by first | omega | (simp; omega)) rfl (eJ (cY (rm rfl (ro rfl (dP (Ht rfl) (cJ 32) (by decide)) (ra rfl (eJ (bC (cY (rm rfl (ro rfl (dW (Ht rfl) (cJ 1) z6) (ra rfl (eJ (gQ (k + 1,out.set k (s % 4294967296),s / 4294967296) (by show wF _ _ (out.set k (s % 4294967296)) (k + 1) (s / 4294967296); rw [hs]; exact hS.next (bD p) (bD q) hb) (by dsimp only; omega) (zS rfl) (aU (aB (eD _ _ _)) aY))))))))))))))
  ·simp at hb
   have hkl:k = (dg p).length:=Nat.le_antisymm hS.kle hb
   subst hkl
   have hlen:=hS.len; have hcl:=hS.cle
   refine gG rfl (ts (rm rfl (rm rfl (ro rfl (dU U_55 (Ht rfl) aA) (rm rfl (ro rfl (gV U_263 U_218 (Ht rfl) (by show _ < 4294967296; first | omega | (simp only [kI]; omega))) (ro rfl (gX U_55 Z_218 (Ht rfl) (Ht rfl) rfl zo (by rw [Nat.mul_one,Nat.zero_add])) ?_)))))))
   refine jT Z_218 (Ht rfl) (Ht rfl) (i:=0) rfl (by first | omega | (simp; omega)) rfl (eJ (cK ?_))
   have hfin:=hS.fin hle
   refine gW (i:=0) (tt:=5) rfl rfl (kH (eD _ _ _) (by simp [hlen]) (Nat.le_refl _)) ?_
   refine cY (rm rfl (ro rfl (cZ K_254 (mN _ (iW hS.dig (by simp only [BB]; omega)) (by simp [hlen]; omega)) ⟨(Ht rfl),trivial⟩) ?_))
   refine ra rfl (eJ (fK rfl (fJ (fQ rfl) ?_)))
   exact (cF (by rw [hfin,bS,bS]; exact hpq))
theorem Bh {m n:Nat} (hm:(dg m).length ≤ 17592186044416) (hnm:n ≤ m):aP Tryz.prog 253 [aE m,aE n] (aE (m - n)):=by
 have hle:=gE hnm
 refine aP.intro Tryz.func253 rfl Tryz.ntmps253 rfl (fun cx=>(ts (ro rfl (cQ cV) (eJ (ts (rm rfl (ro rfl (dU U_55 (Ht rfl) aA) (rn rfl (eI (T:=bH 0) (i:=Tryz.t218) V_55 gO rfl rfl (Ht rfl) rfl (fun _=>rfl) trivial (by show 4 * _ ≤ _; omega) zo) fun B11=>(ra rfl (eJ (ts (ro rfl (cQ (cJ 0)) (eJ (cK (ts (ro rfl (cQ (cJ 0)) (eJ (eU ?_))))))))))))))))))
 refine jO (fun (k : Nat) (out : List Nat) (c : Nat) => wI (dg m) (dg n) out k c) (fun (k : Nat) (out : List Nat) (c : Nat) => (dg m).length - k) (fun (k : Nat) (out : List Nat) (c : Nat) => [(0, aE m), (1, aE n), (5, Is (.slice (some ⟨B11, 0, none⟩) (dg m).length (dg m).length)), (6, NT .u64 c), (7, NT .i64 k)]) (fun (k : Nat) (out : List Nat) (c : Nat) => [box B11 218 (out.map bH)]) 0 (List.replicate (dg m).length 0) 0 (wI.start _ _)
  (zS rfl) (aU (aB (jS _)) aY) (fun k out c hS=>?_)
 refine cK (ts (rm rfl (rm rfl (ro rfl (dU U_55 (Ht rfl) aA) (ro rfl (gJ (Ht rfl) (Ht rfl)) (eJ (dQ (Ht rfl) (fun hb=>?_) (fun hb=>?_))))))))
 ·simp at hb
  have hlen:=hS.len; have hcl:=hS.cle; have hxk:=aM (bD m) k; have hyk:=aM (bD n) k
  simp only [BB] at hxk hyk
  refine cU (cK (eU (ts (rm rfl (rm rfl (ro rfl (dZ U_55 Z_218 (Ht rfl) (Ht rfl) rfl (eX (aF zo))) (ro rfl (dJ A_218 Z_218 (Ht rfl)) (ro rfl (gV U_218 U_263 (Ht rfl) z7) (rm rfl (ro rfl (kS rfl (Ht rfl) (Ht rfl) (by show _ ≤ 18446744073709551616; first | omega | (simp only [kI]; omega))) (ra rfl (eJ (cK (iB (fun (s:Nat)=>s = (((dg m).getD k 0 + 18446744073709551616 - c) % 18446744073709551616 + 18446744073709551616 - (dg n).getD k 0) % 18446744073709551616) (fun (s:Nat)=>[(0,aE m),(1,aE n),(5,Is (.slice (some ⟨B11,0,none⟩) (dg m).length (dg m).length)),(7,NT .i64 k),(8,NT .u64 s)]) (fun (s:Nat)=>[box B11 218 (out.map bH)]) ?_ (fun s hs=>?_)))))))))))))))
  ·refine ts (rm rfl (rm rfl (ro rfl (dU U_55 (Ht rfl) aA) (ro rfl (gJ (Ht rfl) (Ht rfl)) (eJ (dQ (Ht rfl) (fun hk2 => ?_) (fun hk2 => ?_)))))))
   ·simp at hk2
    refine cY (rm rfl (rm rfl (rm rfl (ro rfl (dZ U_55 Z_218 (Ht rfl) (Ht rfl) rfl (eX (aF zo))) (ro rfl (dJ A_218 Z_218 (Ht rfl)) (ro rfl (gV U_218 U_263 (Ht rfl) z7) (ro rfl (kS rfl (Ht rfl) (Ht rfl) (by show _ ≤ 18446744073709551616; first | omega | (simp only [kI]; omega))) (ra rfl (eJ (aL _ rfl (zS rfl) (cI.refl _)))))))))))
   ·simp at hk2
    have hq0:(dg n).getD k 0 = 0:=by simp [List.getD,List.getElem?_eq_none hk2]
    refine cU (aL (((dg m).getD k 0 + 18446744073709551616 - c) % 18446744073709551616) zo (zS rfl) (cI.refl _))
  ·refine ts (rm rfl (rm rfl (rm rfl (ro rfl (eO rfl U_263 U_218 (Ht rfl)) (ro rfl (gX U_55 Z_218 (Ht rfl) (Ht rfl) rfl zo (by rw [Nat.mul_one, Nat.zero_add])) ?_)))))
   refine jT Z_218 (Ht rfl) (Ht rfl) (i:=0) rfl (by first | omega | (simp; omega)) rfl (eJ (cY (rm rfl (ro rfl (dP (Ht rfl) (cJ 63) (by decide)) (ra rfl (eJ (bC (cY (rm rfl (ro rfl (dW (Ht rfl) (cJ 1) z6) (ra rfl (eJ ?_))))))))))))
   refine gQ (k + 1, out.set k (s % 4294967296), s / 9223372036854775808) (by
     show wI _ _ (out.set k (s % 4294967296)) (k + 1) (s / 9223372036854775808)
     have h1:=hS.next (bD m) (bD n) hb
     rw [← show s % 4294967296 = ((dg m).getD k 0 + 8589934592 - (dg n).getD k 0 - c) % 4294967296 by omega,← show s / 9223372036854775808 = (if (dg m).getD k 0 < (dg n).getD k 0 + c then 1 else 0) by (split <;> omega)] at h1
     exact h1) (by dsimp only; omega) (zS rfl) (aU (aB (eD _ _ _)) aY)
 ·simp at hb
  have hkl:k = (dg m).length:=Nat.le_antisymm hS.kle hb
  subst hkl
  have hlen:=hS.len
  have hfin:=hS.fin (bD m) hle (by rw [bS,bS]; exact hnm)
  rw [bS,bS] at hfin
  refine gG rfl (gW (i:=0) (tt:=5) rfl rfl (kH rfl hlen.symm (Nat.le_refl _)) (ts (rm rfl (ro rfl (cZ K_254 (mN _ hS.dig zo) ⟨(Ht rfl),trivial⟩) (ra rfl (eJ (fK rfl (fJ (fQ rfl) ?_))))))))
  exact (cF hfin)
theorem rK {m n:Nat} (hm:(dg m).length ≤ 17592186044416) (hn:(dg n).length ≤ 17592186044416):aP Tryz.prog 206 [aE m,aE n] (aE (m * n)):=by
 refine aP.intro Tryz.func206 rfl Tryz.ntmps206 rfl (fun cx=>(ts (ro rfl (cQ cV) (eJ (ts (rm rfl (ro rfl (dU U_55 (Ht rfl) aA) (rm rfl (ro rfl (dU U_55 (Ht rfl) aA) (ro rfl (dW (Ht rfl) (Ht rfl) z6) (rn rfl (eI (T:=bH 0) (i:=Tryz.t218) V_55 gO rfl rfl (Ht rfl) rfl (fun _=>rfl) trivial (by show 4 * _ ≤ _; omega) zo) fun B15=>(ra rfl (eJ (cK (ts (ro rfl (cQ (cJ 0)) (eJ (eU ?_))))))))))))))))))
 refine eS (fun (i : Nat) (out : List Nat) => yB (dg m) (dg n) out i) (fun (i : Nat) (out : List Nat) => (dg m).length - i) (fun (i : Nat) (out : List Nat) => [(0, aE m), (1, aE n), (5, Is (.slice (some ⟨B15, 0, none⟩) ((dg m).length + (dg n).length) ((dg m).length + (dg n).length))), (6, NT .i64 i)]) (fun (i : Nat) (out : List Nat) => [box B15 218 (out.map bH)]) 0 (List.replicate ((dg m).length + (dg n).length) 0) (yB.start _ _)
  (zS rfl) (aU (aB (jS _)) aY) (fun i out hS=>?_)
 refine cK (ts (rm rfl (rm rfl (ro rfl (dU U_55 (Ht rfl) aA) (ro rfl (gJ (Ht rfl) (Ht rfl)) (eJ (dQ (Ht rfl) (fun hb=>?_) (fun hb=>?_))))))))
 ·simp at hb
  have hxi:=aM (bD m) i
  simp only [BB] at hxi
  refine cU (cK (eU (ts (ro rfl (cQ (cJ 0)) (eJ (cK (ts (ro rfl (cQ (cJ 0)) (eJ (eU ?_))))))))))
  refine jO (fun (k : Nat) (out2 : List Nat) (c : Nat) => Em (dg m) (dg n) out2 i k c) (fun (k : Nat) (out2 : List Nat) (c : Nat) => (dg n).length - k) (fun (k : Nat) (out2 : List Nat) (c : Nat) => [(0, aE m), (1, aE n), (5, Is (.slice (some ⟨B15, 0, none⟩) ((dg m).length + (dg n).length) ((dg m).length + (dg n).length))), (6, NT .i64 i), (7, NT .u64 c), (8, NT .i64 k)]) (fun (k : Nat) (out2 : List Nat) (c : Nat) => [box B15 218 (out2.map bH)]) 0 out 0 (hS.row hb)
   (zS rfl) (cI.refl _) (fun k out2 c hR=>?_)
  refine cK (ts (rm rfl (rm rfl (ro rfl (dU U_55 (Ht rfl) aA) (ro rfl (gJ (Ht rfl) (Ht rfl)) (eJ (dQ (Ht rfl) (fun hk=>?_) (fun hk=>?_))))))))
  ·simp at hk
   have hlen:=hR.len; have hcl:=hR.clt; have hyk:=aM (bD n) k; have hok:=aM hR.dig (i + k)
   have hbnd:=rY (aM (bD m) i) (aM (bD n) k) (aM hR.dig (i + k)) hR.clt
   simp only [BB] at hcl hyk hok hbnd
   refine cU (cK (eU (cK (fV (m:=20) (dp 0 rfl (cX (Ht rfl)) (dp 6 rfl (cX (Ht rfl)) (bR 28 0 29 1 rfl (dZ U_55 Z_218 (Ht rfl) (Ht rfl) rfl (eX (aF zo))) (dq 30 2 rfl (dJ A_218 Z_218 (Ht rfl)) (dq 31 3 rfl (gV U_218 U_263 (Ht rfl) z7) (dp 1 rfl (cX (Ht rfl)) (dp 8 rfl (cX (Ht rfl)) (bR 33 5 34 6 rfl (dZ U_55 Z_218 (Ht rfl) (Ht rfl) rfl (eX (aF zo))) ?_))))))))))))
   refine dq 35 7 rfl (dJ A_218 Z_218 (Ht rfl)) (dq 36 8 rfl (gV U_218 U_263 (Ht rfl) z7) (bR 32 4 37 9 rfl (jR (Ht rfl) (Ht rfl) z7) (dp 5 rfl (cX (Ht rfl)) (dp 6 rfl (cX (Ht rfl)) (dp 8 rfl (cX (Ht rfl)) (bR 40 12 41 13 rfl (dW (Ht rfl) (Ht rfl) z6) (bR 39 11 42 14 rfl (gX U_55 Z_218 (Ht rfl) (Ht rfl) rfl zo (by rw [Nat.mul_one,Nat.zero_add])) ?_)))))))
   refine dq 43 15 rfl (fX A_218 Z_218 (Ht rfl) (i:=0) rfl (eX (aF zo))) (dq 44 16 rfl (gV U_218 U_263 (Ht rfl) z7) (bR 38 10 45 17 rfl (dW (Ht rfl) (Ht rfl) z7) (dp 7 rfl (cX (Ht rfl)) (fG aO rfl (by kernel_rfl) (zF (zF (zF (zF (zF (aV ?_))))))))))
   refine ro rfl (dW (Ht rfl) (Ht rfl) z7) (ra rfl (eJ (ts (rm rfl (rm rfl (rm rfl (ro rfl (dW (Ht rfl) (Ht rfl) z6) (rm rfl (ro rfl (eO rfl U_263 U_218 (Ht rfl)) (ro rfl (gX U_55 Z_218 (Ht rfl) (Ht rfl) rfl zo (by rw [Nat.mul_one,Nat.zero_add])) ?_))))))))))
   refine jT Z_218 (Ht rfl) (Ht rfl) (i:=0) rfl (by first | omega | (simp; omega)) rfl (eJ (cY (rm rfl (ro rfl (dP (Ht rfl) (cJ 32) (by decide)) (ra rfl (eJ (bC (cY (rm rfl (ro rfl (dW (Ht rfl) (cJ 1) z6) (ra rfl (eJ (gQ (k + 1,_,_) (hR.next (bD m) (bD n) hk (Nat.add_comm _ _)) (by dsimp only; omega) (zS rfl) (aU (aB (eD _ _ _)) aY))))))))))))))
  ·simp at hk
   have hkl:k = (dg n).length:=Nat.le_antisymm hR.kle hk
   subst hkl
   have hlen:=hR.len; have hcl:=hR.clt
   simp only [BB] at hcl
   refine gG rfl (cY (rm rfl (rm rfl (rm rfl (ro rfl (dU U_55 (Ht rfl) aA) (ro rfl (dW (Ht rfl) (Ht rfl) z6) (rm rfl (ro rfl (gV U_263 U_218 (Ht rfl) (by show _ < 4294967296; first | omega | (simp only [kI]; omega))) (ro rfl (gX U_55 Z_218 (Ht rfl) (Ht rfl) rfl zo (by rw [Nat.mul_one,Nat.zero_add])) ?_)))))))))
   refine jT Z_218 (Ht rfl) (Ht rfl) (i:=0) rfl (by first | omega | (simp; omega)) rfl (eJ (bC (cY (rm rfl (ro rfl (dW (Ht rfl) (cJ 1) z6) (ra rfl (eJ (gQ (i + 1,_) (hR.fin) (by dsimp only; omega) (zS rfl) (aU (aB (eD _ _ _)) aY)))))))))
 ·simp at hb
  have hkl:i = (dg m).length:=Nat.le_antisymm hS.ile hb
  subst hkl
  have hlen:=hS.len
  have hfin:=hS.fin
  rw [bS,bS] at hfin
  refine gG rfl (gW (i:=0) (tt:=5) rfl rfl (kH rfl hlen.symm (Nat.le_refl _)) (ts (rm rfl (ro rfl (cZ K_254 (mN _ hS.dig zo) ⟨(Ht rfl),trivial⟩) (ra rfl (eJ (fK rfl (fJ (fQ rfl) ?_))))))))
  exact (cF hfin)
theorem Fc {m y:Nat} (hm:(dg m).length ≤ 17592186044416) (hy:0 < y) (hyb:y < BB):aP Tryz.prog 276 [aE m,bH y] (fR [aE (m / y),bH (m % y)]):=by
 refine aP.intro Tryz.func276 rfl Tryz.ntmps276 rfl (fun cx=>?_)
 have hyb2:=hyb
 simp only [BB] at hyb2
 refine ts (ro rfl (cQ cV) (ro rfl (cQ (cJ 0)) (eJ (ts (rm rfl (ro rfl (dU U_55 (Ht rfl) aA) (rn rfl (eI (T:=bH 0) (i:=Tryz.t218) V_55 gO rfl rfl (Ht rfl) rfl (fun _=>rfl) trivial (by show 4 * _ ≤ _; omega) zo) fun B12=>(ra rfl (eJ (ts (ro rfl (cQ (cJ 0)) (eJ (cK (ts (rm rfl (ro rfl (dU U_55 (Ht rfl) aA) (ro rfl (iD (Ht rfl) cV (wD zo)) (ra rfl (eJ (eU ?_))))))))))))))))))))
 refine jO (fun (k : Nat) (out : List Nat) (r : Nat) => mZ (dg m) y out k r) (fun (k : Nat) (out : List Nat) (r : Nat) => k) (fun (k : Nat) (out : List Nat) (r : Nat) => [(0, aE m), (1, bH y), (6, Is (.slice (some ⟨B12, 0, none⟩) (dg m).length (dg m).length)), (7, NT .u64 r), (8, aN .i64 ((k : Int) - 1))]) (fun (k : Nat) (out : List Nat) (r : Nat) => [box B12 218 (out.map bH)]) (dg m).length (List.replicate (dg m).length 0) 0 (mZ.start _ hy)
  (zS rfl) (aU (aB (jS _)) aY) (fun k out r hS=>?_)
 refine cK (ts (rm rfl (ro rfl (kW (Ht rfl) cV) (eJ (dQ (Ht rfl) (fun hb=>?_) (fun hb=>?_))))))
 ·simp at hb
  have hlen:=hS.len; have hkl:=hS.kle; have hrl:=hS.rlt; have hxk:=aM (bD m) (k - 1)
  have hz2:=Ub (Nat.lt_trans hrl hyb) hxk; have hsh:=Hd (Nat.lt_trans hrl hyb); have hq:=Cd hrl hxk; have hor:=tD (a:=r) hxk; have hmod:=Nat.mod_lt (r * BB + (dg m).getD (k - 1) 0) hy
  have hxk2:=hxk
  simp only [BB] at hxk2
  refine cU (cK (eU (ts (rm rfl (ro rfl (mA (Ht rfl) (cJ 32) (by decide) hsh) (rm rfl (rm rfl (ro rfl (dZ U_55 Z_218 (Ht rfl) (Ht rfl) (show ((k:Int) - 1) = ((k - 1:Nat):Int) by omega) (eX (aF zo))) (ro rfl (dJ A_218 Z_218 (Ht rfl)) (ro rfl (gV U_218 U_263 (Ht rfl) z7) (ro rfl (aI.nat (nH rfl (Ht rfl) (Ht rfl) z7 z7) hor) ?_)))))))))))
  refine ra rfl (eJ (ts (rm rfl (rm rfl (rm rfl (rm rfl (ro rfl (gV U_218 U_263 (Ht rfl) z7) (ro rfl (gU (Ht rfl) (Ht rfl) zo (by show _ < 18446744073709551616; exact hz2)) (ro rfl (gV U_263 U_218 (Ht rfl) (by show _ < 4294967296; exact hq)) (ro rfl (gX U_55 Z_218 (Ht rfl) (Ht rfl) (show ((k:Int) - 1) = ((k - 1:Nat):Int) by omega) zo (by rw [Nat.mul_one,Nat.zero_add])) ?_))))))))))
  refine jT Z_218 (Ht rfl) (Ht rfl) (i:=0) rfl (by first | omega | (simp; omega)) rfl (eJ (cY (rm rfl (rm rfl (ro rfl (gV U_218 U_263 (Ht rfl) z7) (ro rfl (kE (Ht rfl) (Ht rfl) zo) (ra rfl (eJ (bC (cY (rm rfl (ro rfl (iD (Ht rfl) cV (wD zo)) (ra rfl (eJ (gQ (k - 1,_,_) (hS.next (bD m) zo rfl) (by dsimp only; omega) (aQ rfl (aQ rfl (aQ rfl (aQ rfl (aZ rfl (aS zo) aX))))) (aU (aB (eD _ _ _)) aY))))))))))))))))
 ·simp at hb
  have hk0:k = 0:=by omega
  subst hk0
  have hlen:=hS.len; have hrl:=hS.rlt
  have hfin:=hS.fin
  rw [bS] at hfin
  refine gG rfl (gW (i:=0) (tt:=6) rfl rfl (kH rfl hlen.symm (Nat.le_refl _)) (ts (rm rfl (ro rfl (cZ K_254 (mN _ hS.dig zo) ⟨(Ht rfl),trivial⟩) (rm rfl (ro rfl (gV U_263 U_218 (Ht rfl) (by show _ < 4294967296; first | omega | (simp only [kI]; omega))) (ra rfl (ra rfl (eJ (cB rfl (fJ (fQ rfl) ?_) (fJ (fQ rfl) ?_)))))))))))
  ·exact (cF hfin.1)
  ·exact (jQ hfin.2)
end
section
open Go Go.RowKit
theorem Vs {m:Nat} (hm:(dg m).length ≤ 17592186044416) (h0:m ≠ 0):aP Tryz.prog 277 [aE m] (NT .i64 (32 * ((dg m).length - 1) + bl ((dg m).getD ((dg m).length - 1) 0))):=by
 have hl:(dg m).length ≠ 0:=fun e=>h0 (aH.1 e)
 have htl:=aM (bD m) ((dg m).length - 1)
 obtain ⟨v,hv⟩:∃ v,v = (dg m).getD ((dg m).length - 1) 0:=⟨_,rfl⟩
 rw [← hv] at htl ⊢
 simp only [BB] at htl
 have hb32:=mG (k:=32) htl
 refine aP.intro Tryz.func277 rfl Tryz.ntmps277 rfl (fun cx=>(ts (ro rfl (cQ (cJ 0)) (eJ (cK (ts (rm rfl (ro rfl (dU U_55 (Ht rfl) aA) (ro rfl (cA (Ht rfl) (cJ 0)) (eJ (gS (Ht rfl) (by simpa using hl) ?_)))))))))))
 refine cU (ts (ro rfl (cQ (cJ 0)) (eJ (cK (ts (rm rfl (rm rfl (ro rfl (dU U_55 (Ht rfl) aA) (ro rfl (dK (Ht rfl) (cJ 1) zo z6) (ro rfl (dZ U_55 Z_218 (Ht rfl) (Ht rfl) rfl (eX (aF zo))) (ro rfl (dJ A_218 Z_218 (Ht rfl)) (ra rfl (eJ (eU ?_))))))))))))))
 refine eS (fun (x : Nat) (q : Nat) => bl v = q + bl x ∧ x < 4294967296) (fun (x : Nat) (q : Nat) => x) (fun (x : Nat) (q : Nat) => [(0, aE m), (3, NT .i64 q), (4, bH x)]) (fun (x : Nat) (q : Nat) => []) v 0 ⟨(Nat.zero_add _).symm, htl⟩
  (aQ rfl (aQ rfl (aZ rfl (jQ hv.symm) aX))) aY (fun x q ⟨hq,hx⟩=>?_)
 refine cK (ts (rm rfl (ro rfl (eN (Ht rfl) (cJ 0)) (eJ (dQ (Ht rfl) (fun hb=>?_) (fun hb=>?_))))))
 ·simp at hb
  have hsh:=Uz (v:=x) zo
  refine cU (cK (eU (cY (rm rfl (ro rfl (dW (Ht rfl) (cJ 1) z6) (ra rfl (eJ (bC (cY (rm rfl (ro rfl (dP (Ht rfl) (cJ 1) (by decide)) (ra rfl (eJ (gQ (x / 2 ^ 1,q + 1) ⟨by dsimp only; omega,by dsimp only; omega⟩ (by dsimp only; omega) (zS rfl) aY))))))))))))))
 ·simp at hb
  subst hb
  rw [Va] at hq
  refine gG rfl (ts (rm rfl (ro rfl (dU U_55 (Ht rfl) aA) (ro rfl (dK (Ht rfl) (cJ 1) zo z6) (ro rfl (jR (cJ 32) (Ht rfl) z6) (rm rfl (ro rfl (dW (Ht rfl) (Ht rfl) z6) (ra rfl (eJ (fK rfl (fJ (fQ rfl) ?_)))))))))))
  exact (jQ zo)
theorem Qk {m k:Nat} (hm:(dg m).length ≤ 17592186044416) (hk:k ≤ 562949953421312):aP Tryz.prog 278 [aE m,NT .i64 k] (aE (m * 2 ^ k)):=by
 refine aP.intro Tryz.func278 rfl Tryz.ntmps278 rfl (fun cx=>(ts (ro rfl (cQ cV) (eJ (cK (ts (rm rfl (ro rfl (dU U_55 (Ht rfl) aA) (ro rfl (cA (Ht rfl) (cJ 0)) (eJ (dQ (Ht rfl) (fun hb=>?_) (fun hb=>?_))))))))))))
 ·simp [aH] at hb
  have h0:m * 2 ^ k = 0:=by simp_all [oK]
  refine ts (ro rfl (cQ cV) (eJ (fK rfl (fJ (fQ rfl) ?_))))
  exact (fun v V h=>by rw [h0]; exact jF v V h)
 ·clear hb
  have hr:=Nat.mod_lt k (by decide:32 > 0)
  refine cU (ts (rm rfl (ro rfl (dU U_55 (Ht rfl) aA) (rm rfl (ro rfl (gU (Ht rfl) (cJ 32) zo z6) (ro rfl (dW (Ht rfl) (Ht rfl) z6) (ro rfl (dW (Ht rfl) (cJ 1) z6) (rn rfl (eI (T:=bH 0) (i:=Tryz.t218) V_55 gO rfl rfl (Ht rfl) rfl (fun _=>rfl) trivial (by show 4 * _ ≤ _; omega) zo) fun B17=>?_))))))))
  refine ra rfl (eJ (cK (ts (ro rfl (cQ (cJ 0)) (eJ (eU ?_))))))
  refine eS (fun (i : Nat) (out : List Nat) => yE (dg m) (k / 32) (k % 32) out i) (fun (i : Nat) (out : List Nat) => (dg m).length - i) (fun (i : Nat) (out : List Nat) => [(0, aE m), (1, NT .i64 k), (5, Is (.slice (some ⟨B17, 0, none⟩) ((dg m).length + k / 32 + 1) ((dg m).length + k / 32 + 1))), (6, NT .i64 i)]) (fun (i : Nat) (out : List Nat) => [box B17 218 (out.map bH)]) 0 (List.replicate ((dg m).length + k / 32 + 1) 0) (yE.start _ _ _)
   (zS rfl) (aU (aB (jS _)) aY) (fun i out hS=>?_)
  refine cK (ts (rm rfl (rm rfl (ro rfl (dU U_55 (Ht rfl) aA) (ro rfl (gJ (Ht rfl) (Ht rfl)) (eJ (dQ (Ht rfl) (fun hb=>?_) (fun hb=>?_))))))))
  ·simp at hb
   have hlen:=hS.len; have hxi:=aM (bD m) i; have hok:=aM hS.dig (i + k / 32)
   have hv:=Cb hxi hr
   have hd:(dg m).getD i 0 * 2 ^ (k % 32) / 2 ^ 32 < 4294967296:=Nat.div_lt_of_lt_mul hv
   simp only [BB] at hxi hok
   refine cU (cK (eU (ts (rm rfl (rm rfl (ro rfl (dZ U_55 Z_218 (Ht rfl) (Ht rfl) rfl (eX (aF zo))) (ro rfl (dJ A_218 Z_218 (Ht rfl)) (ro rfl (gV U_218 U_263 (Ht rfl) z7) (rm rfl (ro rfl (kE (Ht rfl) (cJ 32) zo) (ro rfl (gV U_3 U_264 (Ht rfl) z7) (ro rfl (mA (Ht rfl) (Ht rfl) (by show _ ≤ _; simp [IntKind.bits]; omega) (by show _ < 18446744073709551616; exact hv)) ?_))))))))))))
   refine ra rfl (eJ (ts (rm rfl (rm rfl (rm rfl (ro rfl (gU (Ht rfl) (cJ 32) zo z6) (ro rfl (dW (Ht rfl) (Ht rfl) z6) (rm rfl (rm rfl (rm rfl (ro rfl (gU (Ht rfl) (cJ 32) zo z6) (ro rfl (dW (Ht rfl) (Ht rfl) z6) (ro rfl (gX U_55 Z_218 (Ht rfl) (Ht rfl) rfl zo (by rw [Nat.mul_one,Nat.zero_add])) ?_)))))))))))))
   refine ro rfl (fX A_218 Z_218 (Ht rfl) (i:=0) rfl (eX (aF zo))) (rm rfl (ro rfl (eO rfl U_263 U_218 (Ht rfl)) (ro rfl (nH rfl (Ht rfl) (Ht rfl) (by show _ < 4294967296; omega) (by show _ % 4294967296 < 4294967296; omega)) (ro rfl (gX U_55 Z_218 (Ht rfl) (Ht rfl) rfl zo (by rw [Nat.mul_one,Nat.zero_add])) ?_))))
   refine jT Z_218 (Ht rfl) (Ht rfl) (i:=0) rfl (by first | omega | (simp; omega)) rfl (eJ (cY (rm rfl (rm rfl (rm rfl (ro rfl (gU (Ht rfl) (cJ 32) zo z6) (ro rfl (dW (Ht rfl) (Ht rfl) z6) (ro rfl (dW (Ht rfl) (cJ 1) z6) (rm rfl (ro rfl (dP (Ht rfl) (cJ 32) (by decide)) (ro rfl (gV U_263 U_218 (Ht rfl) (by show _ < 4294967296; exact hd)) ?_)))))))))))
   refine ro rfl (gX U_55 Z_218 (Ht rfl) (Ht rfl) rfl zo (by rw [Nat.mul_one,Nat.zero_add])) ?_
   refine jT Z_218 (Ht rfl) (Ht rfl) (i:=0) rfl (by first | omega | (simp; omega)) rfl (eJ (bC (cY (rm rfl (ro rfl (dW (Ht rfl) (cJ 1) z6) (ra rfl (eJ (gQ (i + 1,_) (hS.next (bD m) hr hb rfl rfl) (by dsimp only; omega) (zS rfl) (aU (aB (Gz _ _ _ _ _)) aY)))))))))
  ·simp at hb
   have hkl:i = (dg m).length:=Nat.le_antisymm hS.kle hb
   subst hkl
   have hlen:=hS.len
   have hfin:=hS.fin
   rw [bS,lB] at hfin
   refine gG rfl (gW (i:=0) (tt:=5) rfl rfl (kH rfl hlen.symm (Nat.le_refl _)) (ts (rm rfl (ro rfl (cZ K_254 (mN _ hS.dig zo) ⟨(Ht rfl),trivial⟩) (ra rfl (eJ (fK rfl (fJ (fQ rfl) ?_))))))))
   exact (cF hfin)
theorem a0x {m k:Nat} (hm:(dg m).length ≤ 17592186044416) (hk:k ≤ 562949953421312):aP Tryz.prog 279 [aE m,NT .i64 k] (aE (m / 2 ^ k)):=by
 refine aP.intro Tryz.func279 rfl Tryz.ntmps279 rfl (fun cx=>?_)
 have hr:=Nat.mod_lt k (by decide:32 > 0)
 refine ts (ro rfl (cQ cV) (eJ (cK (ts (rm rfl (ro rfl (gU (Ht rfl) (cJ 32) zo z6) (rm rfl (ro rfl (dU U_55 (Ht rfl) aA) (ro rfl (nY (Ht rfl) (Ht rfl)) (eJ (dQ (Ht rfl) (fun hb=>?_) (fun hb=>?_))))))))))))
 ·simp at hb
  have h0:=Hg (bD m) hb (r:=k % 32)
  rw [bS,lB] at h0
  refine ts (ro rfl (cQ cV) (eJ (fK rfl (fJ (fQ rfl) ?_))))
  exact (fun v V h=>cF h0.symm v V (jF v V h))
 ·simp at hb
  refine cU (ts (rm rfl (ro rfl (dU U_55 (Ht rfl) aA) (rm rfl (ro rfl (gU (Ht rfl) (cJ 32) zo z6) (ro rfl (dK (Ht rfl) (Ht rfl) zo z6) (rn rfl (eI (T:=bH 0) (i:=Tryz.t218) V_55 gO rfl rfl (Ht rfl) rfl (fun _=>rfl) trivial (by show 4 * _ ≤ _; omega) zo) fun B18=>(ra rfl (eJ (cK (ts (ro rfl (cQ (cJ 0)) (eJ (eU ?_))))))))))))))
  refine eS (fun (i : Nat) (out : List Nat) => yF (dg m) (k / 32) (k % 32) out i) (fun (i : Nat) (out : List Nat) => (dg m).length - i) (fun (i : Nat) (out : List Nat) => [(0, aE m), (1, NT .i64 k), (5, Is (.slice (some ⟨B18, 0, none⟩) ((dg m).length - k / 32) ((dg m).length - k / 32))), (6, NT .i64 i)]) (fun (i : Nat) (out : List Nat) => [box B18 218 (out.map bH)]) 0 (List.replicate ((dg m).length - k / 32) 0) (yF.start _ _ _)
   (zS rfl) (aU (aB (jS _)) aY) (fun i out hS=>?_)
  refine cK (ts (rm rfl (rm rfl (ro rfl (fT U_55 (Ht rfl)) (ro rfl (gJ (Ht rfl) (Ht rfl)) (eJ (dQ (Ht rfl) (fun hb=>?_) (fun hb=>?_))))))))
  ·simp at hb
   have hlen:=hS.len; have hx0:=aM (bD m) (i + k / 32); have hx1:=aM (bD m) (i + k / 32 + 1)
   have hio:i < out.length:=by omega
   simp only [BB] at hx0 hx1
   refine cU (cK (eU (ts (rm rfl (rm rfl (rm rfl (ro rfl (gU (Ht rfl) (cJ 32) zo z6) (ro rfl (dW (Ht rfl) (Ht rfl) z6) (ro rfl (dZ U_55 Z_218 (Ht rfl) (Ht rfl) rfl (eX (aF zo))) (ro rfl (dJ A_218 Z_218 (Ht rfl)) (ro rfl (gV U_218 U_263 (Ht rfl) z7) ?_)))))))))))
   refine ra rfl (eJ (cK (iB (fun (v:Nat)=>v = (dg m).getD (i + k / 32) 0 + BB * (dg m).getD (i + k / 32 + 1) 0) (fun (v:Nat)=>[(0,aE m),(1,NT .i64 k),(5,Is (.slice (some ⟨B18,0,none⟩) ((dg m).length - k / 32) ((dg m).length - k / 32))),(6,NT .i64 i),(7,NT .u64 v)]) (fun (v:Nat)=>[box B18 218 (out.map bH)]) ?_ (fun v hv=>?_))))
   ·refine ts (rm rfl (rm rfl (ro rfl (gU (Ht rfl) (cJ 32) zo z6) (ro rfl (dW (Ht rfl) (Ht rfl) z6) (ro rfl (dW (Ht rfl) (cJ 1) z6) (rm rfl (ro rfl (dU U_55 (Ht rfl) aA) (ro rfl (gJ (Ht rfl) (Ht rfl)) (eJ (dQ (Ht rfl) (fun hk2 => ?_) (fun hk2 => ?_)))))))))))
    ·simp at hk2
     refine cY (rm rfl (rm rfl (rm rfl (rm rfl (ro rfl (gU (Ht rfl) (cJ 32) zo z6) (ro rfl (dW (Ht rfl) (Ht rfl) z6) (ro rfl (dW (Ht rfl) (cJ 1) z6) (ro rfl (dZ U_55 Z_218 (Ht rfl) (Ht rfl) rfl (eX (aF zo))) (ro rfl (dJ A_218 Z_218 (Ht rfl)) (ro rfl (gV U_218 U_263 (Ht rfl) z7) ?_))))))))))
     refine ro rfl (mA (Ht rfl) (cJ 32) (by decide) (by show _ < 18446744073709551616; omega)) (ro rfl (aI.nat (nH rfl (Ht rfl) (Ht rfl) z7 z7) (Mg hx0)) (ra rfl (eJ (aL ((dg m).getD (i + k / 32) 0 + BB * (dg m).getD (i + k / 32 + 1) 0) rfl (zS rfl) (cI.refl _)))))
    ·simp at hk2
     refine cU (aL ((dg m).getD (i + k / 32) 0) (by simp [List.getD,List.getElem?_eq_none hk2]) (zS rfl) (cI.refl _))
   ·refine cY (rm rfl (rm rfl (rm rfl (rm rfl (ro rfl (kE (Ht rfl) (cJ 32) zo) (ro rfl (gV U_3 U_264 (Ht rfl) z7) (ro rfl (dP (Ht rfl) (Ht rfl) (by show _ ≤ 64; omega)) (ro rfl (eO rfl U_263 U_218 (Ht rfl)) (ro rfl (gX U_55 Z_218 (Ht rfl) (Ht rfl) rfl zo (by rw [Nat.mul_one, Nat.zero_add])) ?_)))))))))
    refine jT Z_218 (Ht rfl) (Ht rfl) (i:=0) rfl (by first | omega | (simp; omega)) rfl (eJ (bC (cY (rm rfl (ro rfl (dW (Ht rfl) (cJ 1) z6) (ra rfl (eJ (gQ (i + 1,_) (hS.next (bD m) hr hio (by rw [hv]; rfl)) (by dsimp only; omega) (zS rfl) (aU (aB (eD _ _ _)) aY)))))))))
  ·simp at hb
   have hlen:=hS.len
   have hkl:i = out.length:=Nat.le_antisymm hS.kle zo
   subst hkl
   have hfin:=hS.fin (bD m) zo
   rw [bS,lB] at hfin
   refine gG rfl (gW (i:=0) (tt:=5) rfl rfl (kH rfl hlen.symm (Nat.le_refl _)) (ts (rm rfl (ro rfl (cZ K_254 (mN _ hS.dig zo) ⟨(Ht rfl),trivial⟩) (ra rfl (eJ (fK rfl (fJ (fQ rfl) ?_))))))))
   exact (cF hfin)
theorem uS {m n:Nat} (hm:(dg m).length ≤ 17592186044415) (hn1:(dg n).length ≤ 17592186044416) (hn:n ≠ 0):aP Tryz.prog 250 [aE m,aE n] (fR [aE (m / n),aE (m % n)]):=by
 refine aP.intro Tryz.func250 rfl Tryz.ntmps250 rfl (fun cx=>(ts (ro rfl (cQ cV) (ro rfl (cQ cV) (eJ (cK (ts (rm rfl (rm rfl (ro rfl (cZ Tryz.call201 (oG zo zo) ⟨(Ht rfl),(Ht rfl),trivial⟩) (ro rfl (lT (Ht rfl) cV) (eJ (dQ (Ht rfl) (fun hb=>?_) (fun hb=>?_))))))))))))))
 ·simp only [decide_eq_true_eq] at hb
  have hlt:m < n:=Cz hb
  refine ts (rm rfl (ro rfl (cQ cV) (ra rfl (eJ (cB rfl (fJ (fQ rfl) ?_) (fJ (fQ rfl) ?_))))))
  ·exact (fun v V h=>cF (Nat.div_eq_of_lt hlt).symm v V (jF v V h))
  ·exact (cF (Nat.mod_eq_of_lt hlt).symm)
 ·simp only [decide_eq_false_iff_not] at hb
  have hle:n ≤ m:=Cy zo
  clear hb
  refine cU (cK (ts (rm rfl (ro rfl (dU U_55 (Ht rfl) aA) (ro rfl (cA (Ht rfl) (cJ 1)) (eJ (dQ (Ht rfl) (fun h1=>?_) (fun h1=>?_))))))))
  ·simp at h1
   have hy0:=Qz h1
   have hyb:=aM (bD n) 0
   have hmod:=Nat.mod_lt m (show (dg n).getD 0 0 > 0 by omega)
   have hyb2:=hyb
   simp only [BB] at hyb
   refine ts (rm rfl (rm rfl (ro rfl (dZ U_55 Z_218 (Ht rfl) (cJ 0) rfl (eX (aF zo))) (ro rfl (dJ A_218 Z_218 (Ht rfl)) (ro rfl (cZ Tryz.call276 (Fc zo zo hyb2) ⟨(Ht rfl),(Ht rfl),trivial⟩) (rm rfl (ro rfl (dY (Ht rfl) rfl) (ro rfl (dY (Ht rfl) rfl) (ra rfl (ra rfl (eJ (ts (rm rfl (rm rfl (ro rfl (gV U_218 U_263 (Ht rfl) z7) (ro rfl (cZ Tryz.call257 (yN zo) ⟨(Ht rfl),trivial⟩) ?_))))))))))))))))
   refine ra rfl (ra rfl (eJ (cB rfl (fJ (fQ rfl) ?_) (fJ (fQ rfl) ?_))))
   ·exact (cF (by rw [hy0]))
   ·exact (cF (by rw [hy0]))
  ·simp at h1
   have hl0:(dg n).length ≠ 0:=fun e=>hn (aH.1 e)
   have hyb:=aM (bD n) ((dg n).length - 1)
   obtain ⟨s,hs⟩:∃ s,s = 32 - bl ((dg n).getD ((dg n).length - 1) 0):=⟨_,rfl⟩
   obtain ⟨hs1,hvl,hvb⟩:=Ft hn hs
   obtain ⟨hc1,hc2,hc3,hc4⟩:=Fl (m:=m) hs1
   have hbl:=mG (k:=32) hyb
   simp only [BB] at hyb
   have hp2:0 < 2 ^ s:=Nat.pow_pos (by decide)
   have hX0:(dg (m * 2 ^ s)).length ≠ 0:=fun e=>(Nat.ne_of_gt (Nat.mul_pos (show 0 < m by omega) hp2)) (aH.1 e)
   have hmono:=gE hle
   refine cU (ts (rm rfl (ro rfl (dU U_55 (Ht rfl) aA) (ro rfl (jR (cJ 32) (Ht rfl) z6) (rm rfl (ro rfl (cZ Tryz.call277 (Vs zo hn) ⟨(Ht rfl),trivial⟩) (ro rfl (aI.nat (dK (Ht rfl) (Ht rfl) zo z6) (show 32 * (dg n).length - (32 * ((dg n).length - 1) + bl ((dg n).getD ((dg n).length - 1) 0)) = s by omega)) (ra rfl (eJ (ts (rm rfl (rm rfl (ro rfl (cZ Tryz.call278 (Qk zo zo) ⟨(Ht rfl),(Ht rfl),trivial⟩) ?_)))))))))))))
   refine ra rfl (eJ (ts (rm rfl (ro rfl (dU U_55 (Ht rfl) aA) (ro rfl (dW (Ht rfl) (cJ 1) z6) (rn rfl (eI (T:=bH 0) (i:=Tryz.t218) V_55 gO rfl rfl (Ht rfl) rfl (fun _=>rfl) trivial (by show 4 * _ ≤ _; omega) zo) fun B57=>(ra rfl (eJ (ts (rm rfl (rm rfl (rm rfl (ro rfl (cZ Tryz.call278 (Qk zo zo) ⟨(Ht rfl),(Ht rfl),trivial⟩) (Ke U_55 Z_218 (Ht rfl) (Ht rfl) (Sa hX0) a05 (i:=0) rfl (by simp) (by simp; omega) (Fm _ _) rfl rfl ?_))))))))))))))
   refine eJ (cK ?_)
   obtain ⟨vs,hvs⟩:∃ vs,vs = dg (n * 2 ^ s):=⟨_,rfl⟩
   rw [← hvs] at hvl hvb
   have hv:jL vs:=hvs ▸ bD _
   have hvv:val vs = n * 2 ^ s:=by rw [hvs,bS]
   have hV0:0 < val vs:=by rw [hvv]; exact Nat.mul_pos zo hp2
   have hnr:=Ly hv zo hvb
   have hv1:=hnr.v1lt; have hv2:=hnr.v2lt; have hbig:=hnr.big
   simp only [BB] at hv1 hv2 hbig
   refine vM (E':=[(8,_),(9,_),(10,_)]) (aQ rfl (aZ rfl (a0I hvs.symm) (zS rfl))) (cY (rm rfl (ro rfl (dU U_55 (Ht rfl) aA) (ra rfl (eJ (ts (rm rfl (ro rfl (fT U_55 (Ht rfl)) (rm rfl (ro rfl (dK (Ht rfl) (Ht rfl) zo z6) (rn rfl (eI (T:=bH 0) (i:=Tryz.t218) V_55 gO rfl rfl (Ht rfl) rfl (fun _=>rfl) trivial (by show 4 * _ ≤ _; omega) zo) fun B69=>(ra rfl (eJ (cK ?_))))))))))))))
   refine ts (rm rfl (ro rfl (fT U_55 (Ht rfl)) (ro rfl (iD (Ht rfl) cV (wD zo)) (ra rfl (eJ (eU ?_))))))
   refine jO (fun (k : Nat) (us : List Nat) (qs : List Nat) => mL (m * 2 ^ s) vs us qs k ∧ us.length = (dg m).length + 1) (fun (k : Nat) (us : List Nat) (qs : List Nat) => k) (fun (k : Nat) (us : List Nat) (qs : List Nat) => [(8, NT .i64 s), (9, uI vs), (10, Is (.slice (some ⟨B57, 0, none⟩) ((dg m).length + 1) ((dg m).length + 1))), (11, NT .i64 vs.length), (12, Is (.slice (some ⟨B69, 0, none⟩) ((dg m).length + 1 - vs.length) ((dg m).length + 1 - vs.length))), (13, aN .i64 ((k : Int) - 1))]) (fun (k : Nat) (us : List Nat) (qs : List Nat) => [box B57 218 (us.map bH), box B69 218 (qs.map bH)]) ((dg m).length + 1 - vs.length) (yR m s) (List.replicate ((dg m).length + 1 - vs.length) 0) ⟨mL.start hv zo hvb hs1 (by have := iJ (bD m); rwa [bS] at this) hc3 hc2 hc4 zo, hc2⟩
    (aQ rfl (aQ rfl (aQ rfl (aQ rfl (aQ rfl (aZ rfl (aS zo) aX)))))) (aU (fun _ _ _ h=>h) (aU (aB (jS _)) aY)) (fun k us qs ⟨hS,hus⟩=>?_)
   refine cK (ts (rm rfl (ro rfl (kW (Ht rfl) cV) (eJ (dQ (Ht rfl) (fun hk=>?_) (fun hk=>?_))))))
   ·simp at hk
    obtain ⟨j,rfl⟩:∃ j,k = j + 1:=⟨k - 1,by omega⟩
    have htp:=hS.top hv zo (Nat.succ_pos j) rfl
    have hkq:=hS.kle; have hlq:=hS.lenq
    rw [Nat.add_sub_cancel] at htp
    have hu0:=aM hS.dig (j + vs.length); have hu1:=aM hS.dig (j + vs.length - 1); have hu2:=aM hS.dig (j + vs.length - 2)
    have ht64:=Ub hu0 hu1; have hsh:=Hd hu0
    obtain ⟨top,htop⟩:∃ top,top = us.getD (j + vs.length) 0 * BB + us.getD (j + vs.length - 1) 0:=⟨_,rfl⟩
    have hor:=(tD (a:=us.getD (j + vs.length) 0) hu1).trans htop.symm
    rw [← htop] at htp ht64
    have hu2b:=hu2
    simp only [BB] at hu0 hu1 hu2
    refine vM (E':=[(8,_),(9,_),(10,_),(11,_),(12,_),(13,_),(73,_),(74,_)]) (aQ rfl (aQ rfl (aQ rfl (aQ rfl (aQ rfl (aZ rfl (aS (show ((j + 1:Nat):Int) - 1 = (j:Int) by omega)) (zS rfl))))))) (cU (cK (eU (cK (fV (m:=16) (dp 10 rfl (cX (Ht rfl)) (dp 13 rfl (cX (Ht rfl)) (dp 11 rfl (cX (Ht rfl)) (bR 78 1 79 2 rfl (dW (Ht rfl) (Ht rfl) z6) (bR 77 0 80 3 rfl (gX U_55 Z_218 (Ht rfl) (Ht rfl) rfl zo (by rw [Nat.mul_one,Nat.zero_add])) ?_))))))))))
    refine dq 81 4 rfl (fX A_218 Z_218 (Ht rfl) (i:=0) rfl (eX (aF zo))) (dq 82 5 rfl (gV U_218 U_263 (Ht rfl) z7) (dq 83 6 rfl (mA (Ht rfl) (cJ 32) (by decide) hsh) (dp 10 rfl (cX (Ht rfl)) (dp 13 rfl (cX (Ht rfl)) (dp 11 rfl (cX (Ht rfl)) (bR 86 9 87 10 rfl (dW (Ht rfl) (Ht rfl) z6) (dq 88 11 rfl (dK (Ht rfl) (cJ 1) zo z6) ?_)))))))
    refine bR 85 8 89 12 rfl (gX U_55 Z_218 (Ht rfl) (Ht rfl) rfl zo (by rw [Nat.mul_one,Nat.zero_add])) ?_
    refine dq 90 13 rfl (fX A_218 Z_218 (Ht rfl) (i:=0) rfl (eX (aF zo))) (dq 91 14 rfl (gV U_218 U_263 (Ht rfl) z7) (fG aO rfl (by kernel_rfl) (zF (zF (zF (zF (aV (ro rfl (aI.nat (nH rfl (Ht rfl) (Ht rfl) z7 z7) hor) ?_))))))))
    refine ra rfl (eJ (ts (rm rfl (rm rfl (rm rfl (ro rfl (dK (Ht rfl) (cJ 1) zo z6) (ro rfl (dZ U_55 Z_218 (Ht rfl) (Ht rfl) rfl (eX (aF zo))) (ro rfl (dJ A_218 Z_218 (Ht rfl)) (ro rfl (gV U_218 U_263 (Ht rfl) z7) (ro rfl (gU (Ht rfl) (Ht rfl) zo (by show _ < 18446744073709551616; exact ht64)) (ra rfl (eJ ?_))))))))))))
    refine ts (rm rfl (rm rfl (rm rfl (ro rfl (dK (Ht rfl) (cJ 1) zo z6) (ro rfl (dZ U_55 Z_218 (Ht rfl) (Ht rfl) rfl (eX (aF zo))) (ro rfl (dJ A_218 Z_218 (Ht rfl)) (ro rfl (gV U_218 U_263 (Ht rfl) z7) (ro rfl (kE (Ht rfl) (Ht rfl) zo) (ra rfl (eJ (cK (iB (fun (g:Nat)=>Ia (val (us.drop j)) (val vs) g) (fun (g:Nat)=>[(8,NT .i64 s),(9,uI vs),(10,Is (.slice (some ⟨B57,0,none⟩) ((dg m).length + 1) ((dg m).length + 1))),(11,NT .i64 vs.length),(12,Is (.slice (some ⟨B69,0,none⟩) ((dg m).length + 1 - vs.length) ((dg m).length + 1 - vs.length))),(13,NT .i64 j),(15,NT .u64 g)]) (fun (g:Nat)=>[box B57 218 (us.map bH),box B69 218 (qs.map bH)]) ?_ (fun g hg=>?_)))))))))))))
    ·refine eU ?_
     refine eS (fun (g : Nat) (r : Nat) => kU (val (us.drop j)) (val vs) (vs.getD (vs.length - 1) 0) top g r ∧ r < 4294967296) (fun (g : Nat) (r : Nat) => g) (fun (g : Nat) (r : Nat) => [(8, NT .i64 s), (9, uI vs), (10, Is (.slice (some ⟨B57, 0, none⟩) ((dg m).length + 1) ((dg m).length + 1))), (11, NT .i64 vs.length), (12, Is (.slice (some ⟨B69, 0, none⟩) ((dg m).length + 1 - vs.length) ((dg m).length + 1 - vs.length))), (13, NT .i64 j), (15, NT .u64 g), (16, NT .u64 r)]) (fun (g : Nat) (r : Nat) => [box B57 218 (us.map bH), box B69 218 (qs.map bH)]) (top / vs.getD (vs.length - 1) 0) (top % vs.getD (vs.length - 1) 0) ⟨kU.start hnr htp, Nat.lt_trans (Nat.mod_lt _ zo) hv1⟩
      (zS rfl) (cI.refl _) (fun g r ⟨hG,hr⟩=>?_)
     have hgl:=(hG.glt hnr htp).1
     have hrs:=Hd (a:=r) hr
     have horr:=tD (a:=r) hu2b
     simp only [BB] at hgl
     refine cK (cK (fV (m:=22) (dp 15 rfl (cX (Ht rfl)) (dq 110 0 rfl (nY (Ht rfl) (cJ 4294967296)) (dq 111 1 rfl (cX (Ht rfl)) (C.D_step (Ei:=[(15,_),(112,_)]) rfl rfl (bV (bK rfl rfl) (bV (bG 2 rfl rfl) bW)) (eY rfl rfl (Ht rfl) (fun h=>cX (Ht rfl))) (C.D_step (Ei:=[(9,_),(112,_)]) rfl rfl (bV (bK rfl rfl) (bV (bG 2 rfl rfl) bW)) (eY rfl rfl (Ht rfl) (fun h=>cX (Ht rfl))) (C.D_step (Ei:=[(11,_),(112,_)]) rfl rfl (bV (bK rfl rfl) (bV (bG 2 rfl rfl) bW)) (eY rfl rfl (Ht rfl) (fun h=>cX (Ht rfl))) ?_))))))))
     refine C.D_step (Ei:=[(115,_),(112,_)]) rfl rfl (bV (bG 5 rfl rfl) (bV (bG 2 rfl rfl) bW)) (eY rfl rfl (Ht rfl) (fun h=>dK (fW rfl h) (cJ 2) (by first | omega | (simp at h; omega)) (by show _ < 9223372036854775808; first | omega | (simp at h; omega)))) (C.D_step (Ei:=[(114,_),(116,_),(112,_)]) rfl rfl (bV (bG 4 rfl rfl) (bV (bG 6 rfl rfl) (bV (bG 2 rfl rfl) bW))) (eY rfl rfl (Ht rfl) (fun h=>dZ U_55 Z_218 (fW rfl h) (fW rfl h) rfl (eX (aF (by first | omega | (simp at h; omega)))))) ?_)
     refine C.D_step (Ei:=[(117,_),(112,_)]) rfl rfl (bV (bG 7 rfl rfl) (bV (bG 2 rfl rfl) bW)) (eY rfl rfl (Ht rfl) (fun h=>dJ A_218 Z_218 (fW rfl h))) (C.D_step (Ei:=[(118,_),(112,_)]) rfl rfl (bV (bG 8 rfl rfl) (bV (bG 2 rfl rfl) bW)) (eY rfl rfl (Ht rfl) (fun h=>gV U_218 U_263 (fW rfl h) (by show _ < 18446744073709551616; first | omega | (simp at h; omega)))) (C.D_step (Ei:=[(113,_),(119,_),(112,_)]) rfl rfl (bV (bG 3 rfl rfl) (bV (bG 9 rfl rfl) (bV (bG 2 rfl rfl) bW))) (eY rfl rfl (Ht rfl) (fun h=>jR (fW rfl h) (fW rfl h) (by show _ < 18446744073709551616; simp at h; exact a04 h hv2))) ?_))
     refine C.D_step (Ei:=[(16,_),(112,_)]) rfl rfl (bV (bK rfl rfl) (bV (bG 2 rfl rfl) bW)) (eY rfl rfl (Ht rfl) (fun h=>cX (Ht rfl))) (C.D_step (Ei:=[(121,_),(112,_)]) rfl rfl (bV (bG 11 rfl rfl) (bV (bG 2 rfl rfl) bW)) (eY rfl rfl (Ht rfl) (fun h=>mA (fW rfl h) (cJ 32) (by decide) hrs)) (C.D_step (Ei:=[(10,_),(112,_)]) rfl rfl (bV (bK rfl rfl) (bV (bG 2 rfl rfl) bW)) (eY rfl rfl (Ht rfl) (fun h=>cX (Ht rfl))) (C.D_step (Ei:=[(13,_),(112,_)]) rfl rfl (bV (bK rfl rfl) (bV (bG 2 rfl rfl) bW)) (eY rfl rfl (Ht rfl) (fun h=>cX (Ht rfl))) ?_)))
     refine C.D_step (Ei:=[(11,_),(112,_)]) rfl rfl (bV (bK rfl rfl) (bV (bG 2 rfl rfl) bW)) (eY rfl rfl (Ht rfl) (fun h=>cX (Ht rfl))) (C.D_step (Ei:=[(124,_),(125,_),(112,_)]) rfl rfl (bV (bG 14 rfl rfl) (bV (bG 15 rfl rfl) (bV (bG 2 rfl rfl) bW))) (eY rfl rfl (Ht rfl) (fun h=>dW (fW rfl h) (fW rfl h) (by show _ < 9223372036854775808; first | omega | (simp at h; omega)))) (C.D_step (Ei:=[(126,_),(112,_)]) rfl rfl (bV (bG 16 rfl rfl) (bV (bG 2 rfl rfl) bW)) (eY rfl rfl (Ht rfl) (fun h=>dK (fW rfl h) (cJ 2) (by first | omega | (simp at h; omega)) (by show _ < 9223372036854775808; first | omega | (simp at h; omega)))) ?_))
     refine C.D_step (Ei:=[(123,_),(127,_),(112,_)]) rfl rfl (bV (bG 13 rfl rfl) (bV (bG 17 rfl rfl) (bV (bG 2 rfl rfl) bW))) (eY rfl rfl (Ht rfl) (fun h=>gX U_55 Z_218 (fW rfl h) (fW rfl h) rfl (by first | omega | (simp at h; omega)) (by rw [Nat.mul_one,Nat.zero_add]))) ?_
     refine C.D_step (Ei:=[(128,_),(112,_)]) rfl rfl (bV (bG 18 rfl rfl) (bV (bG 2 rfl rfl) bW)) (eY rfl rfl (Ht rfl) (fun h=>fX A_218 Z_218 (fW rfl h) (i:=0) rfl (eX (aF zo)))) (C.D_step (Ei:=[(129,_),(112,_)]) rfl rfl (bV (bG 19 rfl rfl) (bV (bG 2 rfl rfl) bW)) (eY rfl rfl (Ht rfl) (fun h=>gV U_218 U_263 (fW rfl h) (by show _ < 18446744073709551616; first | omega | (simp at h; omega)))) (C.D_step (Ei:=[(122,_),(130,_),(112,_)]) rfl rfl (bV (bG 12 rfl rfl) (bV (bG 20 rfl rfl) (bV (bG 2 rfl rfl) bW))) (eY rfl rfl (Ht rfl) (fun h=>aI.nat (nH rfl (fW rfl h) (fW rfl h) (by show _ < 18446744073709551616; first | omega | (simp at h; omega)) (by show _ < 18446744073709551616; first | omega | (simp at h; omega))) horr)) ?_))
     refine fG aO rfl (by kernel_rfl) (zF (zF (zF (zF (zF (aJ (aJ (aV (fZ rfl rfl (eY rfl rfl (Ht rfl) (fun h=>eN (fW rfl h) (fW rfl h))) (ro rfl (kP (Ht rfl) (fun h=>(fW rfl h))) (eJ (dQ (Ht rfl) (fun hc=>?_) (fun hc=>?_)))))))))))))
     ·have hn2 := hG.next hnr htp (by simpa [BB] using hc)
      have hg1:=hn2.2
      refine cU (eU (ts (rm rfl (ro rfl (dK (Ht rfl) (cJ 1) zo z7) (ra rfl (eJ (ts (rm rfl (rm rfl (rm rfl (ro rfl (dK (Ht rfl) (cJ 1) zo z6) (ro rfl (dZ U_55 Z_218 (Ht rfl) (Ht rfl) rfl (eX (aF zo))) (ro rfl (dJ A_218 Z_218 (Ht rfl)) (ro rfl (gV U_218 U_263 (Ht rfl) z7) ?_))))))))))))))
      refine ro rfl (dW (Ht rfl) (Ht rfl) z7) (ra rfl (eJ (ts (rm rfl (ro rfl (nY (Ht rfl) (cJ 4294967296)) (eJ (dQ (Ht rfl) (fun hr2=>?_) (fun hr2=>?_))))))))
      ·simp at hr2
       refine gG rfl (aL (g - 1) (hn2.1.stop hnr htp hr2) (zS rfl) (cI.refl _))
      ·simp at hr2
       refine cU (bC (gQ (g - 1,_) ⟨hn2.1,hr2⟩ (by dsimp only; omega) (zS rfl) (cI.refl _)))
     ·simp at hc
      refine gG rfl (aL g (hG.done hnr htp hc.1 hc.2) (zS rfl) (cI.refl _))
    ·have hglt := hg.lt
     have hglt2:=hg.lt
     simp only [BB] at hglt
     have hjl:j + vs.length < us.length:=by omega
     refine ts (ro rfl (cQ (cJ 0)) (eJ (ts (ro rfl (cQ (cJ 0)) (eJ (cK (ts (ro rfl (cQ (cJ 0)) (eJ (eU ?_))))))))))
     refine tJ (fun (i : Nat) (out : List Nat) (c : Nat) (b : Nat) => qA us vs g j out i c b) (fun (i : Nat) (out : List Nat) (c : Nat) (b : Nat) => vs.length - i) (fun (i : Nat) (out : List Nat) (c : Nat) (b : Nat) => [(8, NT .i64 s), (9, uI vs), (10, Is (.slice (some ⟨B57, 0, none⟩) ((dg m).length + 1) ((dg m).length + 1))), (11, NT .i64 vs.length), (12, Is (.slice (some ⟨B69, 0, none⟩) ((dg m).length + 1 - vs.length) ((dg m).length + 1 - vs.length))), (13, NT .i64 j), (15, NT .u64 g), (17, NT .u64 b), (18, NT .u64 c), (19, NT .i64 i)]) (fun (i : Nat) (out : List Nat) (c : Nat) (b : Nat) => [box B57 218 (out.map bH), box B69 218 (qs.map bH)]) 0 us 0 0 (qA.start hS.dig vs g j)
      (zS rfl) (cI.refl _) (fun i out c b hT=>?_)
     refine cK (ts (rm rfl (rm rfl (ro rfl (gJ (Ht rfl) (Ht rfl)) (eJ (dQ (Ht rfl) (fun hi=>?_) (fun hi=>?_)))))))
     ·simp at hi
      have hlen:=hT.len; have hcl:=hT.clt; have hbl:=hT.ble; have hvi:=aM hv i; have hok:=aM hT.dig (i + j)
      have hp:=Jv hglt2 hvi hT.clt
      simp only [BB] at hp hcl hvi hok
      obtain ⟨p,hp1⟩:∃ p,p = g * vs.getD i 0 + c:=⟨_,rfl⟩
      obtain ⟨x,hx1⟩:∃ x,x = ((out.getD (i + j) 0 + 18446744073709551616 - p % 4294967296) % 18446744073709551616 + 18446744073709551616 - b) % 18446744073709551616:=⟨_,rfl⟩
      refine cU (cK (eU (ts (rm rfl (rm rfl (rm rfl (ro rfl (dZ U_55 Z_218 (Ht rfl) (Ht rfl) rfl (eX (aF zo))) (ro rfl (dJ A_218 Z_218 (Ht rfl)) (ro rfl (gV U_218 U_263 (Ht rfl) z7) (ro rfl (jR (Ht rfl) (Ht rfl) z7) (rm rfl (ro rfl (aI.nat (dW (Ht rfl) (Ht rfl) z7) hp1.symm) ?_))))))))))))
      refine ra rfl (eJ (ts (rm rfl (ro rfl (dP (Ht rfl) (cJ 32) (by decide)) (ra rfl (eJ (ts (rm rfl (rm rfl (rm rfl (ro rfl (dW (Ht rfl) (Ht rfl) z6) (ro rfl (gX U_55 Z_218 (Ht rfl) (Ht rfl) rfl zo (by rw [Nat.mul_one,Nat.zero_add])) ?_))))))))))))
      refine ro rfl (fX A_218 Z_218 (Ht rfl) (i:=0) rfl (eX (aF zo))) (ro rfl (gV U_218 U_263 (Ht rfl) z7) (rm rfl (ro rfl (aI.nat (sB rfl (Ht rfl) (cJ 4294967295) z7 z7) (a1D p)) (ro rfl (kS rfl (Ht rfl) (Ht rfl) (by show _ ≤ 18446744073709551616; first | omega | (simp only [kI]; omega))) ?_))))
      refine rm rfl (ro rfl (aI.nat (kS rfl (Ht rfl) (Ht rfl) (by show _ ≤ 18446744073709551616; first | omega | (simp only [kI]; omega))) hx1.symm) (ra rfl (eJ (ts (rm rfl (rm rfl (rm rfl (ro rfl (dW (Ht rfl) (Ht rfl) z6) (rm rfl (ro rfl (eO rfl U_263 U_218 (Ht rfl)) (ro rfl (gX U_55 Z_218 (Ht rfl) (Ht rfl) rfl zo (by rw [Nat.mul_one,Nat.zero_add])) ?_)))))))))))
      refine jT Z_218 (Ht rfl) (Ht rfl) (i:=0) rfl (by first | omega | (simp; omega)) rfl (eJ (cY (rm rfl (ro rfl (dP (Ht rfl) (cJ 63) (by decide)) (ra rfl (eJ (bC (cY (rm rfl (ro rfl (dW (Ht rfl) (cJ 1) z6) (ra rfl (eJ (gQ (i + 1,_,_,_) (hT.next hS.dig hv hglt2 hi hjl hp1 (Af hok hbl hx1) rfl) (by dsimp only; omega) (zS rfl) (aU (aB (eD _ _ _)) (aU (fun _ _ _ h=>h) aY)))))))))))))))
     ·simp at hi
      have hkl:i = vs.length:=Nat.le_antisymm hT.ile hi
      subst hkl
      have hlen:=hT.len; have hcl:=hT.clt; have hbl:=hT.ble; have hok:=aM hT.dig (j + vs.length)
      obtain ⟨x,hx1⟩:∃ x,x = ((out.getD (j + vs.length) 0 + 18446744073709551616 - c) % 18446744073709551616 + 18446744073709551616 - b) % 18446744073709551616:=⟨_,rfl⟩
      have htd:=Ag hok hcl hbl hx1
      have hTk:=hT.fin hjl htd rfl
      have hx2:=htd.2
      simp only [BB] at hcl hok
      refine gG rfl (ts (rm rfl (rm rfl (rm rfl (ro rfl (dW (Ht rfl) (Ht rfl) z6) (ro rfl (gX U_55 Z_218 (Ht rfl) (Ht rfl) rfl zo (by rw [Nat.mul_one,Nat.zero_add])) ?_))))))
      refine ro rfl (fX A_218 Z_218 (Ht rfl) (i:=0) rfl (eX (aF zo))) (ro rfl (gV U_218 U_263 (Ht rfl) z7) (rm rfl (ro rfl (kS rfl (Ht rfl) (Ht rfl) (by show _ ≤ 18446744073709551616; first | omega | (simp only [kI]; omega))) (rm rfl (ro rfl (aI.nat (kS rfl (Ht rfl) (Ht rfl) (by show _ ≤ 18446744073709551616; first | omega | (simp only [kI]; omega))) hx1.symm) (ra rfl (eJ (ts (rm rfl (rm rfl (rm rfl (ro rfl (dW (Ht rfl) (Ht rfl) z6) ?_))))))))))))
      refine rm rfl (ro rfl (eO rfl U_263 U_218 (Ht rfl)) (ro rfl (gX U_55 Z_218 (Ht rfl) (Ht rfl) rfl zo (by rw [Nat.mul_one,Nat.zero_add])) ?_))
      refine jT Z_218 (Ht rfl) (Ht rfl) (i:=0) rfl (by first | omega | (simp; omega)) rfl (eJ (cK (nN (fun (us2:List Nat) (g2:Nat)=>mL (m * 2 ^ s) vs us2 (qs.set j g2) j ∧ g2 < 4294967296 ∧ us2.length = (dg m).length + 1) (fun (us2:List Nat) (g2:Nat)=>[(8,NT .i64 s),(9,uI vs),(10,Is (.slice (some ⟨B57,0,none⟩) ((dg m).length + 1) ((dg m).length + 1))),(11,NT .i64 vs.length),(12,Is (.slice (some ⟨B69,0,none⟩) ((dg m).length + 1 - vs.length) ((dg m).length + 1 - vs.length))),(13,NT .i64 j),(15,NT .u64 g2)]) (fun (us2:List Nat) (g2:Nat)=>[box B57 218 (us2.map bH),box B69 218 (qs.map bH)]) ?_ (fun us2 g2 ⟨hD,hg2,hus2⟩=>?_))))
      ·refine ts (rm rfl (ro rfl (dP (Ht rfl) (cJ 63) (by decide)) (ro rfl (cA (Ht rfl) (cJ 1)) (eJ (dQ (Ht rfl) (fun hbb => ?_) (fun hbb => ?_))))))
       ·simp only [decide_eq_true_eq] at hbb
        have hdec:(!decide (x / 2 ^ 63 = 0)) = true:=by rw [hbb]; rfl
        rw [hdec] at hTk
        obtain ⟨o1,ho1⟩:∃ o1,o1 = out.set (j + vs.length) (x % BB):=⟨_,rfl⟩
        rw [← ho1] at hTk
        have hg0:=hS.gpos hv rfl zo hTk
        have hol:=hTk.len
        refine ts (rm rfl (ro rfl (dK (Ht rfl) (cJ 1) zo z7) (ra rfl (eJ (ts (ro rfl (cQ (cJ 0)) (eJ (cK (ts (ro rfl (cQ (cJ 0)) (eJ (eU ?_))))))))))))
        refine jO (fun (i : Nat) (out2 : List Nat) (c : Nat) => pY o1 vs j out2 i c) (fun (i : Nat) (out2 : List Nat) (c : Nat) => vs.length - i) (fun (i : Nat) (out2 : List Nat) (c : Nat) => [(8, NT .i64 s), (9, uI vs), (10, Is (.slice (some ⟨B57, 0, none⟩) ((dg m).length + 1) ((dg m).length + 1))), (11, NT .i64 vs.length), (12, Is (.slice (some ⟨B69, 0, none⟩) ((dg m).length + 1 - vs.length) ((dg m).length + 1 - vs.length))), (13, NT .i64 j), (15, NT .u64 (g - 1 : Nat)), (18, NT .u64 c), (23, NT .i64 i)]) (fun (i : Nat) (out2 : List Nat) (c : Nat) => [box B57 218 (out2.map bH), box B69 218 (qs.map bH)]) 0 o1 0 (pY.start hTk.dig vs j)
         (zS rfl) (aU (aB (by rw [ho1]; exact eD _ _ _)) (aU (fun _ _ _ h=>h) aY)) (fun i out2 c hB=>?_)
        refine cK (ts (rm rfl (rm rfl (ro rfl (gJ (Ht rfl) (Ht rfl)) (eJ (dQ (Ht rfl) (fun hi=>?_) (fun hi=>?_)))))))
        ·simp at hi
         have hlen:=hB.len; have hcl:=hB.cle; have hvi:=aM hv i; have hok:=aM hB.dig (i + j)
         simp only [BB] at hvi hok
         refine cU (cK (eU (cK (fV (m:=14) (dp 10 rfl (cX (Ht rfl)) (dp 23 rfl (cX (Ht rfl)) (dp 13 rfl (cX (Ht rfl)) (bR 212 1 213 2 rfl (dW (Ht rfl) (Ht rfl) z6) (bR 211 0 214 3 rfl (gX U_55 Z_218 (Ht rfl) (Ht rfl) rfl zo (by rw [Nat.mul_one,Nat.zero_add])) ?_)))))))))
         refine dq 215 4 rfl (fX A_218 Z_218 (Ht rfl) (i:=0) rfl (eX (aF zo))) (dq 216 5 rfl (gV U_218 U_263 (Ht rfl) z7) (dp 9 rfl (cX (Ht rfl)) (dp 23 rfl (cX (Ht rfl)) (bR 218 7 219 8 rfl (dZ U_55 Z_218 (Ht rfl) (Ht rfl) rfl (eX (aF zo))) (dq 220 9 rfl (dJ A_218 Z_218 (Ht rfl)) (dq 221 10 rfl (gV U_218 U_263 (Ht rfl) z7) ?_))))))
         refine bR 217 6 222 11 rfl (dW (Ht rfl) (Ht rfl) z7) (dp 18 rfl (cX (Ht rfl)) (fG aO rfl (by kernel_rfl) (zF (zF (zF (aJ (aJ (aV (ro rfl (dW (Ht rfl) (Ht rfl) z7) (ra rfl (eJ (ts (rm rfl (rm rfl (rm rfl (ro rfl (dW (Ht rfl) (Ht rfl) z6) ?_))))))))))))))))
         refine rm rfl (ro rfl (eO rfl U_263 U_218 (Ht rfl)) (ro rfl (gX U_55 Z_218 (Ht rfl) (Ht rfl) rfl zo (by rw [Nat.mul_one,Nat.zero_add])) ?_))
         refine jT Z_218 (Ht rfl) (Ht rfl) (i:=0) rfl (by first | omega | (simp; omega)) rfl (eJ (cY (rm rfl (ro rfl (dP (Ht rfl) (cJ 32) (by decide)) (ra rfl (eJ (bC (cY (rm rfl (ro rfl (dW (Ht rfl) (cJ 1) z6) (ra rfl (eJ (gQ (i + 1,_,_) (hB.next hv hi zo (Nat.add_comm _ _)) (by dsimp only; omega) (zS rfl) (aU (aB (eD _ _ _)) (aU (fun _ _ _ h=>h) aY)))))))))))))))
        ·simp at hi
         have hil:i = vs.length:=Nat.le_antisymm hB.ile hi
         subst hil
         have hlen:=hB.len; have hcl:=hB.cle; have hok:=aM hB.dig (j + vs.length)
         have hBk:=hB.fin zo rfl
         obtain ⟨_,hDn⟩:=hS.wrong hv hV0 (Nat.succ_pos j) rfl hg hTk hBk
         simp only [BB] at hok
         refine gG rfl (cY (rm rfl (rm rfl (rm rfl (ro rfl (dW (Ht rfl) (Ht rfl) z6) (rm rfl (rm rfl (rm rfl (ro rfl (dW (Ht rfl) (Ht rfl) z6) (ro rfl (gX U_55 Z_218 (Ht rfl) (Ht rfl) rfl zo (by rw [Nat.mul_one,Nat.zero_add])) ?_))))))))))
         refine ro rfl (fX A_218 Z_218 (Ht rfl) (i:=0) rfl (eX (aF zo))) (rm rfl (ro rfl (gV U_263 U_218 (Ht rfl) (by show _ < 4294967296; first | omega | (simp only [kI]; omega))) (ro rfl (Ma rfl (Ht rfl) (Ht rfl)) (ro rfl (gX U_55 Z_218 (Ht rfl) (Ht rfl) rfl zo (by rw [Nat.mul_one,Nat.zero_add])) ?_))))
         refine jT Z_218 (Ht rfl) (Ht rfl) (i:=0) rfl (by first | omega | (simp; omega)) rfl (eJ (aL (_,g - 1) ⟨hDn,by dsimp only; omega,by simp; omega⟩ (zS rfl) (aU (aB (eD _ _ _)) (aU (fun _ _ _ h=>h) aY))))
       ·simp only [decide_eq_false_iff_not] at hbb
        have hdec:(!decide (x / 2 ^ 63 = 0)) = false:=by rw [show x / 2 ^ 63 = 0 by omega]; rfl
        rw [hdec] at hTk
        have hol:=hTk.len
        refine cU (aL (_,g) ⟨hS.right hv hV0 (Nat.succ_pos j) rfl hg hTk,hglt,by dsimp only; omega⟩ (zS rfl) (aU (aB (eD _ _ _)) (aU (fun _ _ _ h=>h) aY)))
      ·refine cY (rm rfl (rm rfl (rm rfl (ro rfl (gV U_263 U_218 (Ht rfl) (by show _ < 4294967296; first | omega | (simp only [kI]; omega))) (ro rfl (gX U_55 Z_218 (Ht rfl) (Ht rfl) rfl zo (by rw [Nat.mul_one, Nat.zero_add])) ?_)))))
       refine jT Z_218 (Ht rfl) (Ht rfl) (i:=1) rfl (by first | omega | (simp; omega)) rfl (eJ (bC (cY (rm rfl (ro rfl (iD (Ht rfl) cV (wD zo)) (ra rfl (eJ (gQ (j,us2,_) ⟨hD,hus2⟩ (by dsimp only; omega) (zS rfl) (aU (fun _ _ _ h=>h) (aU (aB (eD _ _ _)) aY))))))))))
   ·simp at hk
    have hk0:k = 0:=by omega
    subst hk0
    have hfin:=hS.fin hV0
    have hlq:=hS.lenq
    rw [hvv] at hfin
    have hdiv:val qs = m / n:=by rw [hfin.1]; exact Nat.mul_div_mul_right _ _ hp2
    have hsm:val us < BB ^ vs.length:=by have h1:=hS.small; rw [List.drop_zero] at h1; exact Nat.lt_trans h1 (iJ hv)
    have hmod : val (us.take vs.length) / 2 ^ s = m % n := by
     rw [mS hsm zo,hfin.2,Nat.mul_mod_mul_right,Nat.mul_div_cancel _ hp2]
    have hru : (dg (val (us.take vs.length))).length ≤ 17592186044416 := by
     refine Nat.le_trans (iV (k:=vs.length) ?_) zo
     rw [mS hsm zo]; exact hsm
    refine gG rfl (gW (i:=1) (tt:=12) rfl rfl (kH rfl zo (Nat.le_refl _)) (gW (i:=0) (tt:=10) rfl rfl (kH rfl zo (Nat.le_refl _)) (cK (fV (m:=7) (dp 12 rfl (cX (Ht rfl)) (dq 254 0 rfl (cZ K_254 (mN _ hS.digq zo) ⟨(Ht rfl),trivial⟩) (dp 10 rfl (cX (Ht rfl)) (dp 11 rfl (cX (Ht rfl)) (bR 256 2 257 3 rfl (aI.imp (sE U_55 Z_218 (Ht rfl) (Ht rfl) (fun m e=>by cases e) zo (by simp; omega) rfl) (Lk _ _)) ?_)))))))))
    refine dq 258 4 rfl (cZ K_254 (mN _ (hS.dig.take' vs.length) (by simp; omega)) ⟨(Ht rfl),trivial⟩) ?_
    refine dp 8 rfl (cX (Ht rfl)) (fG aO rfl (by kernel_rfl) (zF (aJ (aJ (aJ (aV (ro rfl (cZ Tryz.call279 (a0x hru zo) ⟨(Ht rfl),(Ht rfl),trivial⟩) (ra rfl (ra rfl (eJ (cB rfl (fJ (fQ rfl) ?_) (fJ (fQ rfl) ?_))))))))))))
    ·exact (cF hdiv)
    ·exact (cF hmod)
theorem Ix {m n:Nat} (hm:(dg m).length ≤ 17592186044415) (hn:(dg n).length ≤ 17592186044415):aP Tryz.prog 249 [aE m,aE n] (aE (Nat.gcd m n)):=by
 refine aP.intro Tryz.func249 rfl Tryz.ntmps249 rfl (fun cx=>(ts (ro rfl (cQ cV) (eJ (cK (eU ?_))))))
 refine eS (fun (x : Nat) (y : Nat) => Nat.gcd x y = Nat.gcd m n ∧ (dg x).length ≤ 17592186044415 ∧ (dg y).length ≤ 17592186044415) (fun (x : Nat) (y : Nat) => y) (fun (x : Nat) (y : Nat) => [(0, aE x), (1, aE y)]) (fun (x : Nat) (y : Nat) => []) m n ⟨rfl, hm, hn⟩
  (zS rfl) aY (fun x y ⟨hg,hx,hy⟩=>?_)
 refine cK (ts (rm rfl (ro rfl (dU U_55 (Ht rfl) aA) (ro rfl (eN (Ht rfl) (cJ 0)) (eJ (dQ (Ht rfl) (fun hb=>?_) (fun hb=>?_)))))))
 ·simp at hb
  have hy0:y ≠ 0:=fun e=>by rw [e,dI] at hb; simp at hb
  have hlt:=Nat.mod_lt x (Nat.pos_of_ne_zero hy0)
  refine cU (eU (ts (rm rfl (rm rfl (ro rfl (cZ K_250 (uS hx zo hy0) ⟨(Ht rfl),(Ht rfl),trivial⟩) (rm rfl (ro rfl (dY (Ht rfl) rfl) (ro rfl (dY (Ht rfl) rfl) (ra rfl (ra rfl (eJ (cY (rm rfl (rm rfl (ra rfl (ra rfl (eJ (bC (gQ (y,x % y) ⟨by rw [← hg,Nat.gcd_comm x y,Nat.gcd_rec y x,Nat.gcd_comm],hy,Nat.le_trans (gE (Nat.le_of_lt hlt)) hy⟩ hlt (zS rfl) aY)))))))))))))))))))
 ·simp at hb
  have hy0:y = 0:=aH.1 (by simpa using hb)
  subst hy0
  rw [Nat.gcd_zero_right] at hg
  refine gG rfl (ts (rm rfl (ra rfl (eJ (fK rfl (fJ (fQ rfl) ?_))))))
  exact (cF hg)
theorem Ky {m:Nat} (hm:(dg m).length ≤ 8796093022208):aP Tryz.prog 272 [aE m] (oE (sM m)):=by
 refine aP.intro Tryz.func272 rfl Tryz.ntmps272 rfl (fun cx=>(ts (ro rfl (cQ (bB.cS (l:=[]) rfl)) (eJ (cK (ts (rm rfl (ro rfl (dU U_55 (Ht rfl) aA) (ro rfl (cA (Ht rfl) (cJ 0)) (eJ (dQ (Ht rfl) (fun hb=>?_) (fun hb=>?_))))))))))))
 ·simp at hb
  have h0:m = 0:=aH.1 (by simpa using hb)
  subst h0
  refine ts (ro rfl (cQ (bB.cS (l:=[48]) rfl)) (eJ (fK rfl (fJ (fQ rfl) ?_))))
  exact (iP rfl)
 ·simp at hb
  have h0:m ≠ 0:=fun e=>hb (by rw [e,dI])
  refine cU (ts (ro rfl (cQ cV) (eJ (cK (eU (Eo 5 1 ?_))))))
  refine jO (fun (x : Nat) (out : List Nat) (v : Value) => xZ m out x ∧ x ≤ m) (fun (x : Nat) (out : List Nat) (v : Value) => x) (fun (x : Nat) (out : List Nat) (v : Value) => [(0, aE x), (3, Is v)]) (fun (x : Nat) (out : List Nat) (v : Value) => [bI 5 1 v (out.map vN)]) m [] (.slice none 0 0) ⟨xZ.start m, Nat.le_refl m⟩
   (zS rfl) (cI.refl _) (fun x out v ⟨hO,hle⟩=>?_)
  refine cK (ts (rm rfl (ro rfl (dU U_55 (Ht rfl) aA) (ro rfl (eN (Ht rfl) (cJ 0)) (eJ (dQ (Ht rfl) (fun hc=>?_) (fun hc=>?_)))))))
  ·simp at hc
   have hx0:x ≠ 0:=fun e=>by rw [e,dI] at hc; simp at hc
   have hxm:=gE hle
   refine cU (eU (ts (rm rfl (ro rfl (cZ Tryz.call276 (Fc zo (by decide) (by decide)) ⟨(Ht rfl),(cJ 1000000000),trivial⟩) (rm rfl (ro rfl (dY (Ht rfl) rfl) (ro rfl (dY (Ht rfl) rfl) (ra rfl (ra rfl (eJ (cK (ts (ro rfl (cQ (cJ 0)) (eJ (eU ?_)))))))))))))))
   refine tJ (fun (r : Nat) (k : Nat) (out : List Nat) (v : Value) => wG m out (x / 1000000000) r k) (fun (r : Nat) (k : Nat) (out : List Nat) (v : Value) => 9 - k) (fun (r : Nat) (k : Nat) (out : List Nat) (v : Value) => [(3, Is v), (4, aE (x / 1000000000)), (5, bH r), (6, NT .i64 k)]) (fun (r : Nat) (k : Nat) (out : List Nat) (v : Value) => [bI 5 1 v (out.map vN)]) (x % 1000000000) 0 out v (hO.inner)
    (zS rfl) (cI.refl _) (fun r k out v hI=>?_)
   refine cK (ts (rm rfl (ro rfl (gJ (Ht rfl) (cJ 9)) (rm rfl (fZ rfl rfl (dF rfl rfl (Ht rfl) (fun h=>cX (Ht rfl))) (fZ rfl rfl (dF rfl rfl (Ht rfl) (fun h=>eN (bB.wu rfl h) (cJ 0))) (fZ rfl rfl (dF rfl rfl (Ht rfl) (fun h=>cX (bB.wu rfl h))) (fZ rfl rfl (jM rfl rfl rfl (fun h h2=>cX (Ht rfl))) (fZ rfl rfl (jM rfl rfl rfl (fun h h2=>dU U_55 (bB.wu rfl ⟨h,h2⟩) aA)) (fZ rfl rfl (jM rfl rfl rfl (fun h h2=>eN (bB.wu rfl ⟨h,h2⟩) (cJ 0))) (fZ rfl rfl (dF rfl rfl (Ht rfl) (fun h=>kP (bB.wu rfl h) (fun h2=>(bB.wu rfl ⟨h,h2⟩)))) ?_)))))))))))
   refine ro rfl (dO (Ht rfl) (fun h=>(bB.wu rfl h))) (eJ (dQ (Ht rfl) (fun hd=>?_) (fun hd=>?_)))
   ·simp at hd
    have hxr:0 < x / 1000000000 ∨ 0 < r:=hd.2.elim (fun h=>.inr h) (fun h=>.inl (Nat.pos_of_ne_zero (fun e=>by rw [e,dI] at h; simp at h)))
    have hln:=hI.len hxr
    have hr32:=hI.r32
    refine cU (cK (eU (ts (rm rfl (rm rfl (ro rfl (kE (Ht rfl) (cJ 10) zo) (ro rfl (dW (cJ 48) (Ht rfl) (by show _ < 4294967296; first | omega | (simp only [kI]; omega))) (ro rfl (gV U_218 U_5 (Ht rfl) (by show _ < 256; first | omega | (simp only [kI]; omega))) (ro rfl (fE (xs:=[.tmp 37]) U_296 Z_5 Tryz.zeroValue5 (cW (Ht rfl) cG) rfl rfl rfl) (tI (inf:=Tryz.t5) xU Rp rfl rfl rfl (Ht rfl) (Ht rfl) (i:=0) rfl (by simp) (fun T hT=>by simp at hT; subst hT; exact El.one) (by show _ * 1 ≤ _; simp only [List.length_map,List.length_cons,List.length_nil]; omega) (by simp only [List.length_map,List.length_cons,List.length_nil]; omega) rfl (fun v2=>?_)))))))))))
    refine ra rfl (eJ (cY (rm rfl (ro rfl (gU (Ht rfl) (cJ 10) zo (by show _ < 4294967296; first | omega | (simp only [kI]; omega))) (ra rfl (eJ (bC (cY (rm rfl (ro rfl (dW (Ht rfl) (cJ 1) z6) (ra rfl (eJ (gQ (r / 10,k + 1,_,v2) (hI.next hd.1 hxr) (by dsimp only; omega) (zS rfl) (aU (bL (Uf _ _)) aY))))))))))))))
   ·simp at hd
    have hO2 := hI.fin (fun ⟨h1, h2⟩ => by
     have h3:=hd h1
     rcases h2 with h2 | h2
     ·have:=oK.1 h3.2; omega
     ·omega)
    refine gG rfl (cY (rm rfl (ra rfl (eJ (bC (gQ (x / 1000000000,_,_) ⟨hO2,Nat.le_trans (Nat.div_le_self _ _) hle⟩ (Nat.div_lt_self (Nat.pos_of_ne_zero hx0) (by decide)) (zS rfl) (cI.refl _)))))))
  ·simp at hc
   have hx0:x = 0:=aH.1 (by simpa using hc)
   subst hx0
   have hfin:=hO.fin
   have hdl:=nQ m
   rw [hfin] at hdl
   refine gG rfl (cK (ts (rm rfl (ro rfl (sD U_296 (Ht rfl) (i:=0) rfl aA) (ro rfl (iD (Ht rfl) cV (wD zo)) (ro rfl (cQ (cJ 0)) (ra rfl (eJ (eU ?_)))))))))
   refine eS (fun (k : Nat) (o : List Nat) => yD out o k) (fun (k : Nat) (o : List Nat) => out.length - k) (fun (k : Nat) (o : List Nat) => [(3, Is v), (7, NT .i64 k), (8, aN .i64 ((out.length : Int) - 1 - (k : Int)))]) (fun (k : Nat) (o : List Nat) => [bI 5 1 v (o.map vN)]) 0 out (yD.start out)
    (aQ rfl (aQ rfl (aZ rfl (aS zo) aX))) (cI.refl _) (fun k o hR=>?_)
   refine cK (ts (rm rfl (rm rfl (ro rfl (lT (Ht rfl) (Ht rfl)) (eJ (dQ (Ht rfl) (fun hk=>?_) (fun hk=>?_)))))))
   ·simp only [decide_eq_true_eq] at hk
    have hk2:2 * k + 1 < out.length:=by omega
    obtain ⟨j,hj⟩:∃ j,j = out.length - 1 - k:=⟨_,rfl⟩
    have hlen:=hR.len
    refine vM (E':=[(3,_),(7,_),(8,_),(46,_),(47,_),(48,_)]) (aQ rfl (aQ rfl (aZ rfl (aS (show (out.length:Int) - 1 - (k:Int) = (j:Int) by omega)) (zS rfl)))) (cU (cK (eU (W.D_start (m:=14) (fun b=>cond b ([bI 5 1 v ((o.map vN).set k (vN (o.getD j 0)))]) _) 13 (W.D_step (Ei:=[(3,_)]) rfl rfl (W.Srcs.cons (W.Src.pre rfl rfl) W.Srcs.nil) rfl (by kernel_rfl) (dX rfl (cX (Ht rfl))) (W.D_step (Ei:=[(7,_)]) rfl rfl (W.Srcs.cons (W.Src.pre rfl rfl) W.Srcs.nil) rfl (by kernel_rfl) (dX rfl (cX (Ht rfl))) ?_))))))
    refine W.D_pure (Ei:=[(3,_)]) rfl rfl (W.Srcs.cons (W.Src.pre rfl rfl) W.Srcs.nil) rfl (fun _=>dX rfl (cX (Ht rfl))) (W.D_pure (Ei:=[(8,_)]) rfl rfl (W.Srcs.cons (W.Src.pre rfl rfl) W.Srcs.nil) rfl (fun _=>dX rfl (cX (Ht rfl))) (W.D_step (Ei:=[(3,_)]) rfl rfl (W.Srcs.cons (W.Src.pre rfl rfl) W.Srcs.nil) rfl (by kernel_rfl) (dX rfl (cX (Ht rfl))) (W.D_step (Ei:=[(8,_)]) rfl rfl (W.Srcs.cons (W.Src.pre rfl rfl) W.Srcs.nil) rfl (by kernel_rfl) (dX rfl (cX (Ht rfl))) (W.D_step (Ei:=[(57,_),(58,_)]) rfl rfl (W.Srcs.cons (W.Src.op 4 rfl rfl) (W.Srcs.cons (W.Src.op 5 rfl rfl) W.Srcs.nil)) rfl (by kernel_rfl) (dX rfl (cP U_296 Z_5 (Ht rfl) (Ht rfl) rfl (i:=0) rfl (by first | omega | (simp; omega)) rfl)) ?_))))
    refine W.D_step (Ei:=[(59,_)]) rfl rfl (W.Srcs.cons (W.Src.op 6 rfl rfl) W.Srcs.nil) rfl (by kernel_rfl) (dX rfl (lS A_5 Z_5 (Ht rfl) (i:=0) rfl rfl (eX (aF zo)))) (W.D_step (Ei:=[(3,_)]) rfl rfl (W.Srcs.cons (W.Src.pre rfl rfl) W.Srcs.nil) rfl (by kernel_rfl) (dX rfl (cX (Ht rfl))) (W.D_step (Ei:=[(7,_)]) rfl rfl (W.Srcs.cons (W.Src.pre rfl rfl) W.Srcs.nil) rfl (by kernel_rfl) (dX rfl (cX (Ht rfl))) (W.D_step (Ei:=[(61,_),(62,_)]) rfl rfl (W.Srcs.cons (W.Src.op 8 rfl rfl) (W.Srcs.cons (W.Src.op 9 rfl rfl) W.Srcs.nil)) rfl (by kernel_rfl) (dX rfl (cP U_296 Z_5 (Ht rfl) (Ht rfl) rfl (i:=0) rfl (by first | omega | (simp; omega)) rfl)) ?_)))
    refine W.D_step (Ei:=[(63,_)]) rfl rfl (W.Srcs.cons (W.Src.op 10 rfl rfl) W.Srcs.nil) rfl (by kernel_rfl) (dX rfl (lS A_5 Z_5 (Ht rfl) (i:=0) rfl rfl (eX (aF zo)))) (W.D_step (Ei:=[(53,_),(54,_)]) rfl rfl (W.Srcs.cons (W.Src.op 0 rfl rfl) (W.Srcs.cons (W.Src.op 1 rfl rfl) W.Srcs.nil)) rfl (by kernel_rfl) (dX rfl (cP U_296 Z_5 (Ht rfl) (Ht rfl) rfl (i:=0) rfl (by first | omega | (simp; omega)) rfl)) (W.D_put (Ei:=[(65,_),(60,_)]) rfl rfl (W.Srcs.cons (W.Src.op 12 rfl rfl) (W.Srcs.cons (W.Src.op 7 rfl rfl) W.Srcs.nil)) rfl (Kc Z_5 (Ht rfl) (Ht rfl) El.one (i:=0) rfl rfl (by first | omega | (simp; omega))) ?_))
    refine W.D_done aO rfl (by kernel_rfl) rfl (W.F_val (W.F_val (W.F_val (W.F_val (W.F_val (W.F_val (W.F_val (W.F_val (W.F_val (W.F_val (W.F_val (W.F_val (W.F_val (W.F_put (W.F_nil (ro rfl (cP U_296 Z_5 (Ht rfl) (Ht rfl) rfl (i:=0) rfl (by first | omega | (simp; omega)) rfl) (lE Z_5 (Ht rfl) (Ht rfl) El.one (i:=0) rfl rfl (by first | omega | (simp; omega)) rfl (eJ (bC (cY (rm rfl (ro rfl (dW (Ht rfl) (cJ 1) z6) (rm rfl (ro rfl (iD (Ht rfl) cV (wD zo)) ?_))))))))))))))))))))))))
    refine ra rfl (ra rfl (eJ (gQ (k + 1,_) (hR.next hk2 hj) (by dsimp only; omega) (aQ rfl (aQ rfl (aZ rfl (aS zo) aX))) (aU (bL (Mp _ _ _ _ _)) aY))))
   ·simp only [decide_eq_false_iff_not] at hk
    have hrev:=hR.fin zo
    subst hrev
    refine gG rfl (gW (i:=0) (tt:=3) rfl rfl iY (ts (rm rfl (ro rfl (Gn xU a07 a08 (Ht rfl) (by rw [← hfin]; simpa using Lj h0) (fun b hb=>Qq (n:=m) b (by rw [rP h0,hfin]; exact hb))) ?_))))
    refine ra rfl (eJ (fK rfl (fJ (fQ rfl) ?_)))
    exact (iP (by rw [rP h0,hfin]))
end
section
open Go Go.RowKit
theorem Er {n : Nat} {E : cH} {H : Hp} {d : Option Tmp} {t : TypeId} {pos : String} {af : Array Edge} {g : Option (Nat × Bool)}  :
  aI Tryz.prog n E H ⟨d,.build 128 #[],t,pos,af,g⟩ (fI [Is (.bool false),Is (.slice none 0 0)]) :=
 gP (parts := []) fun a V w hs => by
  refine ⟨.agg #[(.bool false),(.slice none 0 0)],?_,[(.bool false),(.slice none 0 0)],rfl,aW (⟨rfl,trivial⟩) (aW (⟨rfl,trivial⟩) (aG))⟩
  simp [Instr.build,Instr.fill,Sem.run_bind,Result.andThen,fP,O_128,U_128,Z_4,Z_55]
theorem kY {n : Nat} {E : cH} {H : Hp} {d : Option Tmp} {t : TypeId} {pos : String} {af : Array Edge} {g : Option (Nat × Bool)} {x0 x1 : Operand} {T0 T1 : Ty} [s0 : cT T0 1 false] (h0 : bB E x0 T0) [s1 : cT T1 1 false] (h1 : bB E x1 T1) :
  aI Tryz.prog n E H ⟨d,.build 128 #[(0,x0),(1,x1)],t,pos,af,g⟩ (fI [T0,T1]) :=
 gP (parts := [(0, x0), (1, x1)]) fun a V w hs => by
  have p0:=h0 n V a hs
  generalize e0:a.eval x0 = v0 at p0
  have q0:=(s0.ok v0 V p0).2.2 rfl
  have p1:=h1 n V a hs
  generalize e1:a.eval x1 = v1 at p1
  have q1:=(s1.ok v1 V p1).2.2 rfl
  refine ⟨.agg #[v0,v1],?_,[v0,v1],rfl,aW (⟨p0,q0⟩) (aW (⟨p1,q1⟩) (aG))⟩
  simp [e0,e1,Instr.build,Instr.fill,Sem.run_bind,Result.andThen,fP,q0.cells,q1.cells,O_128,U_128,Z_4,Z_55]
theorem kN {n : Nat} {E : cH} {H : Hp} {d : Option Tmp} {t : TypeId} {pos : String} {af : Array Edge} {g : Option (Nat × Bool)} {x0 x1 x2 : Operand} {T0 T1 T2 T3 T4 : Ty} (h0 : bB E x0 (fI [T0, T1])) (h1 : bB E x1 (fI [T2, T3])) [s2 : cT T4 1 false] (h2 : bB E x2 T4) :
  aI Tryz.prog n E H ⟨d,.build 130 #[(0,x0),(1,x1),(2,x2)],t,pos,af,g⟩ (fI [T0,T1,T2,T3,T4]) :=
 gP (parts := [(0, x0), (1, x1), (2, x2)]) fun a V w hs => by
  obtain ⟨v0,e0,c0⟩:=h0 n V a hs
  obtain ⟨c0_0,c0_1,rfl⟩:∃ c0_0 c0_1,v0 = [c0_0,c0_1]:=Gg (by simpa using c0.length)
  obtain ⟨v1,e1,c1⟩:=h1 n V a hs
  obtain ⟨c1_0,c1_1,rfl⟩:∃ c1_0 c1_1,v1 = [c1_0,c1_1]:=Gg (by simpa using c1.length)
  have p2:=h2 n V a hs
  generalize e2:a.eval x2 = v2 at p2
  have q2:=(s2.ok v2 V p2).2.2 rfl
  refine ⟨.agg #[c0_0,c0_1,c1_0,c1_1,v2],?_,[c0_0,c0_1,c1_0,c1_1,v2],rfl,aW (c0.at (i:=0) rfl rfl) (aW (c0.at (i:=1) rfl rfl) (aW (c1.at (i:=0) rfl rfl) (aW (c1.at (i:=1) rfl rfl) (aW (⟨p2,q2⟩) (aG)))))⟩
  simp [e0,e1,e2,Instr.build,Instr.fill,Sem.run_bind,Result.andThen,fP,q2.cells,O_130,U_130,Z_55,Z_128]
theorem rH {n : Nat} {E : cH} {H : Hp} {d : Option Tmp} {t : TypeId} {pos : String} {af : Array Edge} {g : Option (Nat × Bool)}  :
  aI Tryz.prog n E H ⟨d,.build 60 #[],t,pos,af,g⟩ (fI [Is (.bool false),Is (.slice none 0 0),Is (.bool false),Is (.slice none 0 0),Is (.slice none 0 0)]) :=
 gP (parts := []) fun a V w hs => by
  refine ⟨.agg #[(.bool false),(.slice none 0 0),(.bool false),(.slice none 0 0),(.slice none 0 0)],?_,[(.bool false),(.slice none 0 0),(.bool false),(.slice none 0 0),(.slice none 0 0)],rfl,aW (⟨rfl,trivial⟩) (aW (⟨rfl,trivial⟩) (aW (⟨rfl,trivial⟩) (aW (⟨rfl,trivial⟩) (aW (⟨rfl,trivial⟩) (aG)))))⟩
  simp [Instr.build,Instr.fill,Sem.run_bind,Result.andThen,fP,O_60,U_60,Z_56,Z_58]
theorem gA (a:Addr) (w:World):(Instr.fieldAt 128 (.pointer (some a)) 0).run Tryz.prog w = .ok (.pointer (some (a.add 0))) w:=by
 simp [Instr.fieldAt,Instr.sureAddr,fieldPlace,Sem.run_bind,Result.andThen,U_128,Z_4]
theorem dA (a:Addr) (w:World):(Instr.fieldAt 128 (.pointer (some a)) 1).run Tryz.prog w = .ok (.pointer (some (a.add 1))) w:=by
 simp [Instr.fieldAt,Instr.sureAddr,fieldPlace,Sem.run_bind,Result.andThen,U_128,Z_55]
theorem fN (a:Addr) (w:World):(Instr.fieldAt 130 (.pointer (some a)) 0).run Tryz.prog w = .ok (.pointer (some (a.add 0))) w:=by
 simp [Instr.fieldAt,Instr.sureAddr,fieldPlace,Sem.run_bind,Result.andThen,U_130,Z_128]
theorem gB (a:Addr) (w:World):(Instr.fieldAt 130 (.pointer (some a)) 1).run Tryz.prog w = .ok (.pointer (some (a.add 2))) w:=by
 simp [Instr.fieldAt,Instr.sureAddr,fieldPlace,Sem.run_bind,Result.andThen,U_130,Z_128]
theorem fO (a:Addr) (w:World):(Instr.fieldAt 130 (.pointer (some a)) 2).run Tryz.prog w = .ok (.pointer (some (a.add 4))) w:=by
 simp [Instr.fieldAt,Instr.sureAddr,fieldPlace,Sem.run_bind,Result.andThen,U_130,Z_55]
end
section
open Go Go.RowKit
theorem lQ {b:Bool} {m:Nat}:aP Tryz.prog 251 [aC b,aE m] (dE (wB b m)):=by
 refine aP.intro Tryz.func251 rfl Tryz.ntmps251 rfl (fun cx=>(ts (rn rfl (eK (Ts:=[Is (.bool false),Is (.slice none 0 0)]) O_128 rfl (fun V=>aW zd (aW zd (aG)))) fun B4=>(eJ (ts (rm rfl (rm rfl (fZ rfl rfl (eY rfl rfl (Ht rfl) (fun h=>cX (Ht rfl))) (fZ rfl rfl (eY rfl rfl (Ht rfl) (fun h=>dU U_55 (fW rfl h) aA)) (fZ rfl rfl (eY rfl rfl (Ht rfl) (fun h=>eN (fW rfl h) (cJ 0))) (ro rfl (dO (Ht rfl) (fun h=>(fW rfl h))) (rm rfl ?_))))))))))))
 refine ro rfl (kY (Ht rfl) (Ht rfl)) (gZ Z_128 (Ht rfl) (Ht rfl) rfl (i:=0) rfl (aK rfl) rfl rfl (eJ (fK rfl (fJ (fY A_128 Z_128 rfl (i:=0) rfl rfl) ?_))))
 exact Ti
theorem tK {n:Int} (h1:-9223372036854775808 ≤ n) (h2:n ≤ 9223372036854775807):aP Tryz.prog 210 [aN .i64 n] (dE n):=by
 refine aP.intro Tryz.func210 rfl Tryz.ntmps210 rfl (fun cx=>(ts (rn rfl (eK (Ts:=[Is (.bool false),Is (.slice none 0 0)]) O_128 rfl (fun V=>aW zd (aW zd (aG)))) fun B2=>(eJ (cK (ts (rm rfl (ro rfl (lT (Ht rfl) cV) (eJ (dQ (Ht rfl) (fun hb=>?_) (fun hb=>?_)))))))))))
 ·have hn : n < 0 := by simpa using hb
  refine ts (rm rfl (ro rfl (Dw (Ht rfl) (r:=IntKind.i64.wrap (-n)) rfl) ?_))
  refine ro rfl (sC U_2 U_263 (Ht rfl) (r:=((n.natAbs:Nat):Int)) (by rw [IntKind.wrap_u64,IntKind.wrap_i64]; omega)) ?_
  refine ro rfl (cZ Tryz.call257 (yN zo) ⟨(Ht rfl),trivial⟩) (ro rfl (kY cV (Ht rfl)) (gZ Z_128 (Ht rfl) (Ht rfl) rfl (i:=0) rfl (aK rfl) rfl rfl (eJ (fK rfl (fJ (fY A_128 Z_128 rfl (i:=0) rfl rfl) ?_)))))
  exact (lP (by rw [hb]; rfl))
 ·have hn : ¬ n < 0 := by simpa using hb
  refine cU (ts (rm rfl (ro rfl (sC U_2 U_263 (Ht rfl) (r:=((n.natAbs:Nat):Int)) (by rw [IntKind.wrap_u64]; omega)) ?_)))
  refine ro rfl (cZ Tryz.call257 (yN zo) ⟨(Ht rfl),trivial⟩) (ro rfl (kY cV (Ht rfl)) (gZ Z_128 (Ht rfl) (Ht rfl) rfl (i:=0) rfl (aK rfl) rfl rfl (eJ (fK rfl (fJ (fY A_128 Z_128 rfl (i:=0) rfl rfl) ?_)))))
  exact (lP (by rw [hb]; rfl))
theorem mT {x:Int}:aP Tryz.prog 211 [dE x] (dE (-x)):=by
 refine aP.intro Tryz.func211 rfl Tryz.ntmps211 rfl (fun cx=>(ts (rn rfl (fU (Ht rfl)) fun B1=>(rn rfl (eK (Ts:=[Is (.bool false),Is (.slice none 0 0)]) O_128 rfl (fun V=>aW zd (aW zd (aG)))) fun B2=>(eJ (ts (ro rfl (eW gA (Ht rfl) rfl) (ro rfl (fX A_4 Z_4 (Ht rfl) (i:=0) rfl rfl) (ro rfl (dT (Ht rfl)) (ro rfl (eW dA (Ht rfl) rfl) (ro rfl (fX A_55 Z_55 (Ht rfl) (i:=0) rfl rfl) (ro rfl (cZ K_251 lQ ⟨(Ht rfl),(Ht rfl),trivial⟩) ?_))))))))))))
 refine gZ Z_128 (Ht rfl) (Ht rfl) rfl (i:=1) rfl (aK rfl) rfl rfl (eJ (fK rfl (fJ (fY A_128 Z_128 rfl (i:=1) rfl rfl) ?_)))
 exact (kA (Bz x))
theorem rJ {x y:Int} (hx:(dg x.natAbs).length ≤ 17592186044416) (hy:(dg y.natAbs).length ≤ 17592186044416):aP Tryz.prog 205 [dE x,dE y] (dE (x + y)):=by
 refine aP.intro Tryz.func205 rfl Tryz.ntmps205 rfl (fun cx=>(ts (rn rfl (fU (Ht rfl)) fun B2=>(rn rfl (fU (Ht rfl)) fun B3=>(rn rfl (eK (Ts:=[Is (.bool false),Is (.slice none 0 0)]) O_128 rfl (fun V=>aW zd (aW zd (aG)))) fun B4=>(eJ (cK (ts (ro rfl (eW gA (Ht rfl) rfl) (ro rfl (fX A_4 Z_4 (Ht rfl) (i:=0) rfl rfl) (ro rfl (eW gA (Ht rfl) rfl) (ro rfl (fX A_4 Z_4 (Ht rfl) (i:=1) rfl rfl) (ro rfl (Sk U_4 (Ht rfl) (Ht rfl)) ?_)))))))))))))
 refine eJ (dQ (Ht rfl) (fun hb=>?_) (fun hb=>?_))
 ·have he : decide (x < 0) = decide (y < 0) := by simpa using hb
  refine cK (fV (m:=7) (dp 2 rfl (eW gA (Ht rfl) rfl) (dq 10 0 rfl (fX A_4 Z_4 (Ht rfl) (i:=0) rfl rfl) (dp 2 rfl (eW dA (Ht rfl) rfl) (dq 12 2 rfl (fX A_55 Z_55 (Ht rfl) (i:=0) rfl rfl) (dp 3 rfl (eW dA (Ht rfl) rfl) (dq 14 4 rfl (fX A_55 Z_55 (Ht rfl) (i:=1) rfl rfl) (bR 13 3 15 5 rfl (cZ Tryz.call252 (Mx zo zo) ⟨(Ht rfl),(Ht rfl),trivial⟩) (fG aO rfl (by kernel_rfl) (zF (aJ (aJ (aJ (aV ?_))))))))))))))
  refine ro rfl (cZ K_251 lQ ⟨(Ht rfl),(Ht rfl),trivial⟩) (gZ Z_128 (Ht rfl) (Ht rfl) rfl (i:=2) rfl (aK rfl) rfl rfl (eJ (fK rfl (fJ (fY A_128 Z_128 rfl (i:=2) rfl rfl) ?_))))
  exact (kA (Ha he))
 ·have he : decide (x < 0) ≠ decide (y < 0) := by simpa using hb
  refine cU (cK (ts (ro rfl (eW dA (Ht rfl) rfl) (ro rfl (fX A_55 Z_55 (Ht rfl) (i:=0) rfl rfl) (ro rfl (eW dA (Ht rfl) rfl) (ro rfl (fX A_55 Z_55 (Ht rfl) (i:=1) rfl rfl) (ro rfl (cZ Tryz.call201 (oG zo zo) ⟨(Ht rfl),(Ht rfl),trivial⟩) (ro rfl (kW (Ht rfl) cV) (eJ (dQ (Ht rfl) (fun hc=>?_) (fun hc=>?_)))))))))))
  ·have hle : y.natAbs ≤ x.natAbs := Cy (by simpa using hc)
   refine cK (fV (m:=7) (dp 2 rfl (eW gA (Ht rfl) rfl) (dq 24 0 rfl (fX A_4 Z_4 (Ht rfl) (i:=0) rfl rfl) (dp 2 rfl (eW dA (Ht rfl) rfl) (dq 26 2 rfl (fX A_55 Z_55 (Ht rfl) (i:=0) rfl rfl) (dp 3 rfl (eW dA (Ht rfl) rfl) (dq 28 4 rfl (fX A_55 Z_55 (Ht rfl) (i:=1) rfl rfl) (bR 27 3 29 5 rfl (cZ Tryz.call253 (Bh zo zo) ⟨(Ht rfl),(Ht rfl),trivial⟩) (fG aO rfl (by kernel_rfl) (zF (aJ (aJ (aJ (aV ?_))))))))))))))
   refine ro rfl (cZ K_251 lQ ⟨(Ht rfl),(Ht rfl),trivial⟩) (gZ Z_128 (Ht rfl) (Ht rfl) rfl (i:=2) rfl (aK rfl) rfl rfl (eJ (fK rfl (fJ (fY A_128 Z_128 rfl (i:=2) rfl rfl) ?_))))
   exact (kA (uG he hle))
  ·have hle : x.natAbs ≤ y.natAbs := Nat.le_of_lt (Cz (by simpa using hc))
   refine cU (cK (fV (m:=7) (dp 3 rfl (eW gA (Ht rfl) rfl) (dq 32 0 rfl (fX A_4 Z_4 (Ht rfl) (i:=1) rfl rfl) (dp 3 rfl (eW dA (Ht rfl) rfl) (dq 34 2 rfl (fX A_55 Z_55 (Ht rfl) (i:=1) rfl rfl) (dp 2 rfl (eW dA (Ht rfl) rfl) (dq 36 4 rfl (fX A_55 Z_55 (Ht rfl) (i:=0) rfl rfl) (bR 35 3 37 5 rfl (cZ Tryz.call253 (Bh zo zo) ⟨(Ht rfl),(Ht rfl),trivial⟩) (fG aO rfl (by kernel_rfl) (zF (aJ (aJ (aJ (aV ?_)))))))))))))))
   refine ro rfl (cZ K_251 lQ ⟨(Ht rfl),(Ht rfl),trivial⟩) (gZ Z_128 (Ht rfl) (Ht rfl) rfl (i:=2) rfl (aK rfl) rfl rfl (eJ (fK rfl (fJ (fY A_128 Z_128 rfl (i:=2) rfl rfl) ?_))))
   exact (kA (by rw [uG (Ne.symm he) hle,Int.add_comm]))
theorem Mw {x y:Int} (hx:(dg x.natAbs).length ≤ 17592186044416) (hy:(dg y.natAbs).length ≤ 17592186044416):aP Tryz.prog 203 [dE x,dE y] (dE (x + -y)):=by
 have hny:=pE y
 refine aP.intro Tryz.func203 rfl Tryz.ntmps203 rfl (fun cx=>(ts (rn rfl (fU (Ht rfl)) fun B2=>(rn rfl (fU (Ht rfl)) fun B3=>(rn rfl (eK (Ts:=[Is (.bool false),Is (.slice none 0 0)]) O_128 rfl (fun V=>aW zd (aW zd (aG)))) fun B4=>(eJ (cK (fV (m:=3) (dp 2 rfl (eG A_128 Z_128 (Ht rfl) (i:=0) rfl rfl rfl) (dp 3 rfl (eG A_128 Z_128 (Ht rfl) (i:=1) rfl rfl rfl) (dq 6 1 rfl (cZ K_211 mT ⟨(Ht rfl),trivial⟩) (fG aO rfl (by kernel_rfl) (aJ (aJ (aJ (aV ?_))))))))))))))))
 refine ro rfl (cZ Tryz.call205 (rJ zo zo) ⟨(Ht rfl),(Ht rfl),trivial⟩) (gZ Z_128 (Ht rfl) (Ht rfl) rfl (i:=2) rfl (aK rfl) rfl rfl (eJ ?_))
 exact fK rfl (fY A_128 Z_128 rfl (i:=2) rfl rfl)
theorem jI {x y:Int} (hx:(dg x.natAbs).length ≤ 17592186044416) (hy:(dg y.natAbs).length ≤ 17592186044416):aP Tryz.prog 204 [dE x,dE y] (dE (x * y)):=by
 refine aP.intro Tryz.func204 rfl Tryz.ntmps204 rfl (fun cx=>(ts (rn rfl (fU (Ht rfl)) fun B2=>(rn rfl (fU (Ht rfl)) fun B3=>(rn rfl (eK (Ts:=[Is (.bool false),Is (.slice none 0 0)]) O_128 rfl (fun V=>aW zd (aW zd (aG)))) fun B4=>(eJ (cK (fV (m:=10) (dp 2 rfl (eW gA (Ht rfl) rfl) (dq 5 0 rfl (fX A_4 Z_4 (Ht rfl) (i:=0) rfl rfl) (dp 3 rfl (eW gA (Ht rfl) rfl) (dq 7 2 rfl (fX A_4 Z_4 (Ht rfl) (i:=1) rfl rfl) (bR 6 1 8 3 rfl (vD U_4 (Ht rfl) (Ht rfl)) ?_)))))))))))))
 refine dp 2 rfl (eW dA (Ht rfl) rfl) (dq 10 5 rfl (fX A_55 Z_55 (Ht rfl) (i:=0) rfl rfl) (dp 3 rfl (eW dA (Ht rfl) rfl) (dq 12 7 rfl (fX A_55 Z_55 (Ht rfl) (i:=1) rfl rfl) (bR 11 6 13 8 rfl (cZ Tryz.call206 (rK zo zo) ⟨(Ht rfl),(Ht rfl),trivial⟩) (fG aO rfl (by kernel_rfl) (zF (zF (aJ (aJ (aV (ro rfl (cZ K_251 lQ ⟨(Ht rfl),(Ht rfl),trivial⟩) (gZ Z_128 (Ht rfl) (Ht rfl) rfl (i:=2) rfl (aK rfl) rfl rfl ?_))))))))))))
 refine eJ (fK rfl (fJ (fY A_128 Z_128 rfl (i:=2) rfl rfl) ?_))
 exact (kA (Ca x y))
theorem Bg {x y:Int} (hx:(dg x.natAbs).length ≤ 17592186044416) (hy:(dg y.natAbs).length ≤ 17592186044416):aP Tryz.prog 200 [dE x,dE y] (aN .i64 (iE x y)):=by
 refine aP.intro Tryz.func200 rfl Tryz.ntmps200 rfl (fun cx=>(ts (rn rfl (fU (Ht rfl)) fun B2=>(rn rfl (fU (Ht rfl)) fun B3=>(ro rfl (cQ (cJ 0)) (eJ (cK (ts (ro rfl (eW gA (Ht rfl) rfl) (ro rfl (fX A_4 Z_4 (Ht rfl) (i:=0) rfl rfl) (ro rfl (eW gA (Ht rfl) rfl) (ro rfl (fX A_4 Z_4 (Ht rfl) (i:=1) rfl rfl) (ro rfl (vD U_4 (Ht rfl) (Ht rfl)) (eJ (dQ (Ht rfl) (fun hb=>?_) (fun hb=>?_))))))))))))))))
 ·have he : decide (x < 0) ≠ decide (y < 0) := by simpa using hb
  refine cK (ts (ro rfl (eW gA (Ht rfl) rfl) (ro rfl (fX A_4 Z_4 (Ht rfl) (i:=0) rfl rfl) (eJ (dQ (Ht rfl) (fun hc=>?_) (fun hc=>?_))))))
  ·have hn : x < 0 := by simpa using hc
   have hm:¬ y < 0:=by simpa [hn] using he
   refine ts (ro rfl (cQ cV) (eJ (fK rfl (fJ (fQ rfl) ?_))))
   exact (aS (by rw [iE,if_pos zo]))
  ·have hn : ¬ x < 0 := by simpa using hc
   have hm:y < 0:=by simpa [hn] using he
   refine cU (ts (ro rfl (cQ (cJ 1)) (eJ (fK rfl (fJ (fQ rfl) ?_)))))
   exact (aS (by rw [iE,if_neg zo,if_pos zo]; rfl))
 ·have he : decide (x < 0) = decide (y < 0) := by simpa using hb
  refine cU (cK (ts (ro rfl (eW gA (Ht rfl) rfl) (ro rfl (fX A_4 Z_4 (Ht rfl) (i:=0) rfl rfl) (eJ (dQ (Ht rfl) (fun hc=>?_) (fun hc=>?_)))))))
  ·refine ts (ro rfl (eW dA (Ht rfl) rfl) (ro rfl (fX A_55 Z_55 (Ht rfl) (i := 1) rfl rfl) (ro rfl (eW dA (Ht rfl) rfl) (ro rfl (fX A_55 Z_55 (Ht rfl) (i := 0) rfl rfl) (ro rfl (cZ Tryz.call201 (oG zo zo) ⟨(Ht rfl), (Ht rfl), trivial⟩) (ra rfl (eJ (fK rfl (fJ (fQ rfl) ?_)))))))))
   exact (aS (Fi he (by simpa using hc)))
  ·refine cU (ts (ro rfl (eW dA (Ht rfl) rfl) (ro rfl (fX A_55 Z_55 (Ht rfl) (i := 0) rfl rfl) (ro rfl (eW dA (Ht rfl) rfl) (ro rfl (fX A_55 Z_55 (Ht rfl) (i := 1) rfl rfl) (ro rfl (cZ Tryz.call201 (oG zo zo) ⟨(Ht rfl), (Ht rfl), trivial⟩) (ra rfl (eJ (fK rfl (fJ (fQ rfl) ?_))))))))))
   exact (aS (Ja he (by simpa using hc)))
theorem tL {A B:Int} {D:Nat} (hD:0 < D) (hA:(dg A.natAbs).length ≤ 17592186044415) (hB:(dg B.natAbs).length ≤ 17592186044415) (hD2:(dg D).length ≤ 17592186044415):aP Tryz.prog 202 [dE A,dE B,aE D] (QT (Qi.mk' A B D)):=by
 have hg1:=yU hA hB
 have hg2:=yU hg1 hD2
 have hgp:Nat.gcd (Nat.gcd A.natAbs B.natAbs) D ≠ 0:=fun e=>by have:=Nat.gcd_eq_zero_iff.1 e; omega
 refine aP.intro Tryz.func202 rfl Tryz.ntmps202 rfl (fun cx=>(ts (rn rfl (fU (Ht rfl)) fun B3=>(rn rfl (fU (Ht rfl)) fun B4=>(rn rfl (eK (Ts:=[Is (.bool false),Is (.slice none 0 0),Is (.bool false),Is (.slice none 0 0),Is (.slice none 0 0)]) O_130 rfl (fun V=>aW zd (aW zd (aW zd (aW zd (aW zd (aG))))))) fun B6=>(eJ (ts (ro rfl (eW dA (Ht rfl) rfl) (ro rfl (fX A_55 Z_55 (Ht rfl) (i:=0) rfl rfl) ?_)))))))))
 refine ro rfl (eW dA (Ht rfl) rfl) (ro rfl (fX A_55 Z_55 (Ht rfl) (i:=1) rfl rfl) (ro rfl (cZ Tryz.call249 (Ix zo zo) ⟨(Ht rfl),(Ht rfl),trivial⟩) (rm rfl (ro rfl (cZ Tryz.call249 (Ix zo zo) ⟨(Ht rfl),(Ht rfl),trivial⟩) (ra rfl (eJ (cK (ts (rm rfl (ro rfl (dU U_55 (Ht rfl) aA) (ro rfl (cA (Ht rfl) (cJ 1)) (rm rfl (fZ rfl rfl (eY rfl rfl (Ht rfl) (fun h=>cX (Ht rfl))) (fZ rfl rfl (eY rfl rfl (Ht rfl) (fun h=>dZ U_55 Z_218 (fW rfl h) (cJ 0) rfl (eX (aF (by first | omega | (simp at h; omega)))))) ?_))))))))))))))
 refine fZ rfl rfl (eY rfl rfl (Ht rfl) (fun h=>dJ A_218 Z_218 (fW rfl h))) (fZ rfl rfl (eY rfl rfl (Ht rfl) (fun h=>cA (fW rfl h) (cJ 1))) (ro rfl (dO (Ht rfl) (fun h=>(fW rfl h))) (eJ (dQ (Ht rfl) (fun hb=>?_) (fun hb=>?_)))))
 ·rw [Du] at hb
  have hg:Qi.g3 A B D = 1:=by simpa [Qi.g3] using hb
  refine ts (ro rfl (eG A_128 Z_128 (Ht rfl) (i:=0) rfl rfl rfl) (ro rfl (eG A_128 Z_128 (Ht rfl) (i:=1) rfl rfl rfl) (rm rfl (ro rfl (kN (Ht rfl) (Ht rfl) (Ht rfl)) (gZ Z_130 (Ht rfl) (Ht rfl) rfl (i:=2) rfl (aK rfl) rfl rfl (eJ (fK rfl (fJ (fY A_130 Z_130 rfl (i:=2) rfl rfl) ?_))))))))
  exact (Ry hD hg)
 ·refine cU (ts (ro rfl (eW dA (Ht rfl) rfl) (ro rfl (fX A_55 Z_55 (Ht rfl) (i := 0) rfl rfl) (rm rfl (ro rfl (cZ K_250 (uS zo zo zo) ⟨(Ht rfl), (Ht rfl), trivial⟩) (rm rfl (ro rfl (dY (Ht rfl) rfl) (ro rfl (dY (Ht rfl) rfl) (ra rfl (ra rfl (eJ (ts (ro rfl (eW dA (Ht rfl) rfl) (ro rfl (fX A_55 Z_55 (Ht rfl) (i := 1) rfl rfl) (rm rfl (ro rfl (cZ K_250 (uS zo zo zo) ⟨(Ht rfl), (Ht rfl), trivial⟩) (rm rfl (ro rfl (dY (Ht rfl) rfl) ?_))))))))))))))))))
  refine ro rfl (dY (Ht rfl) rfl) (ra rfl (ra rfl (eJ (ts (rm rfl (rm rfl (ro rfl (cZ K_250 (uS zo zo zo) ⟨(Ht rfl),(Ht rfl),trivial⟩) (rm rfl (ro rfl (dY (Ht rfl) rfl) (ro rfl (dY (Ht rfl) rfl) (ra rfl (ra rfl (eJ (cK (fV (m:=9) (dp 3 rfl (eW gA (Ht rfl) rfl) (dq 54 0 rfl (fX A_4 Z_4 (Ht rfl) (i:=0) rfl rfl) (dp 8 rfl (cX (Ht rfl)) (bR 55 1 56 2 rfl (cZ K_251 lQ ⟨(Ht rfl),(Ht rfl),trivial⟩) (dp 4 rfl (eW gA (Ht rfl) rfl) ?_))))))))))))))))))))
  refine dq 58 4 rfl (fX A_4 Z_4 (Ht rfl) (i:=1) rfl rfl) (dp 10 rfl (cX (Ht rfl)) (bR 59 5 60 6 rfl (cZ K_251 lQ ⟨(Ht rfl),(Ht rfl),trivial⟩) (dp 12 rfl (cX (Ht rfl)) (fG aO rfl (by kernel_rfl) (zF (zF (aJ (aV (ro rfl (kN (Ht rfl) (Ht rfl) (Ht rfl)) (gZ Z_130 (Ht rfl) (Ht rfl) rfl (i:=2) rfl (aK rfl) rfl rfl (eJ (fK rfl (fJ (fY A_130 Z_130 rfl (i:=2) rfl rfl) ?_)))))))))))))
  exact (Rz hD rfl)
theorem tM {n:Int} (h1:-9223372036854775808 ≤ n) (h2:n ≤ 9223372036854775807):aP Tryz.prog 175 [aN .i64 n] (QT (Qi.ofInt n)):=by
 refine aP.intro Tryz.func175 rfl Tryz.ntmps175 rfl (fun cx=>(ts (rn rfl (eK (Ts:=[Is (.bool false),Is (.slice none 0 0),Is (.bool false),Is (.slice none 0 0),Is (.slice none 0 0)]) O_130 rfl (fun V=>aW zd (aW zd (aW zd (aW zd (aW zd (aG))))))) fun B2=>(eJ (ts (rm rfl (ro rfl (cZ Tryz.call210 (tK h1 h2) ⟨(Ht rfl),trivial⟩) (ro rfl (Er ) (ro rfl (fE (xs:=[_]) U_55 Z_218 O_218 (cW (cJ 1) cG) rfl rfl rfl) ?_)))))))))
 refine ro rfl (kN (Ht rfl) (Ht rfl) (Ht rfl)) (gZ Z_130 (Ht rfl) (Ht rfl) rfl (i:=0) rfl (aK rfl) rfl rfl (eJ (fK rfl (fJ (fY A_130 Z_130 rfl (i:=0) rfl rfl) ?_))))
 exact a26
theorem Qh {p q d:Int} (p1:-9223372036854775808 ≤ p) (p2:p ≤ 9223372036854775807) (q1:-9223372036854775808 ≤ q) (q2:q ≤ 9223372036854775807) (d1:-9223372036854775808 ≤ d) (d2:d ≤ 9223372036854775807) (hd:d ≠ 0):aP Tryz.prog 112 [aN .i64 p,aN .i64 q,aN .i64 d] (fR [QT (Qi.frac p q d),aN .i64 0]):=by
 have lp:=Nk p1 p2; have lq:=Nk q1 q2; have ld:=Nk d1 d2; have np:=pE p; have nq:=pE q
 refine aP.intro Tryz.func112 rfl Tryz.ntmps112 rfl (fun cx=>(ts (rn rfl (eK (Ts:=[Is (.bool false),Is (.slice none 0 0),Is (.bool false),Is (.slice none 0 0),Is (.slice none 0 0)]) O_130 rfl (fun V=>aW zd (aW zd (aW zd (aW zd (aW zd (aG))))))) fun B6=>(ro rfl (cQ (cJ 0)) (eJ (cK (ts (rm rfl (ro rfl (jB (Ht rfl) cV) (eJ (gS (Ht rfl) (by simp [hd]) ?_)))))))))))
 refine cU (ts (rm rfl (ro rfl (cZ Tryz.call210 (tK d1 d2) ⟨(Ht rfl),trivial⟩) (rn rfl (eK (Ts:=[Is (.bool false),Is (.slice none 0 0)]) O_128 rfl (fun V=>aW zd (aW zd (aG)))) fun B8=>(gZ Z_128 (Ht rfl) (Ht rfl) rfl (i:=1) rfl (aK rfl) rfl rfl (eJ (ts (rm rfl (ro rfl (cZ Tryz.call210 (tK p1 p2) ⟨(Ht rfl),trivial⟩) (rm rfl (ro rfl (cZ Tryz.call210 (tK q1 q2) ⟨(Ht rfl),trivial⟩) (rn rfl (eK (Ts:=[Is (.bool false),Is (.slice none 0 0)]) O_128 rfl (fun V=>aW zd (aW zd (aG)))) fun B9=>?_))))))))))))
 refine rn rfl (eK (Ts:=[Is (.bool false),Is (.slice none 0 0)]) O_128 rfl (fun V=>aW zd (aW zd (aG)))) fun B10=>gZ Z_128 (Ht rfl) (Ht rfl) rfl (i:=2) rfl (aK rfl) rfl rfl (gZ Z_128 (Ht rfl) (Ht rfl) rfl (i:=3) rfl (aK rfl) rfl rfl (eJ (cK (nN (fun (a:Int) (b:Int)=>Qi.mk' a b d.natAbs = Qi.frac p q d ∧ (dg a.natAbs).length ≤ 2 ∧ (dg b.natAbs).length ≤ 2) (fun (a:Int) (b:Int)=>[(6,cC B6 0),(8,cC B8 0),(9,cC B9 0),(10,cC B10 0)]) (fun (a:Int) (b:Int)=>[box B6 130 [Is (.bool false),Is (.slice none 0 0),Is (.bool false),Is (.slice none 0 0),Is (.slice none 0 0)],box B8 128 [aC (decide (d < 0)),aE (d).natAbs],box B9 128 [aC (decide (a < 0)),aE (a).natAbs],box B10 128 [aC (decide (b < 0)),aE (b).natAbs]]) ?_ (fun a b ⟨hab,ha,hb⟩=>?_)))))
 ·refine ts (ro rfl (eW gA (Ht rfl) rfl) (ro rfl (fX A_4 Z_4 (Ht rfl) (i := 1) rfl rfl) (eJ (dQ (Ht rfl) (fun hn => ?_) (fun hn => ?_)))))
  ·simp only [decide_eq_true_eq] at hn
   refine fV (m:=3) (dp 9 rfl (eG A_128 Z_128 (Ht rfl) (i:=2) rfl rfl rfl) (dq 22 0 rfl (cZ K_211 mT ⟨(Ht rfl),trivial⟩) (dp 10 rfl (eG A_128 Z_128 (Ht rfl) (i:=3) rfl rfl rfl) (fG aO rfl (by kernel_rfl) (aJ (aJ (aJ (aV (ro rfl (cZ K_211 mT ⟨(Ht rfl),trivial⟩) (gZ Z_128 (Ht rfl) (Ht rfl) rfl (i:=2) rfl (aK rfl) rfl rfl (gZ Z_128 (Ht rfl) (Ht rfl) rfl (i:=3) rfl (aK rfl) rfl rfl (eJ (aL (-p,-q) ⟨Qi.frac_neg hn,by dsimp only; omega,by dsimp only; omega⟩ (zS rfl) (aU (aB rfl) (aU (aB rfl) (aU (aB rfl) (aU (aB rfl) aY)))))))))))))))))
  ·simp only [decide_eq_false_iff_not] at hn
   refine cU (aL (p,q) ⟨Qi.frac_pos hn hd,by omega,by omega⟩ (zS rfl) (cI.refl _))
 ·refine ts (ro rfl (eG A_128 Z_128 (Ht rfl) (i := 2) rfl rfl rfl) (ro rfl (eG A_128 Z_128 (Ht rfl) (i := 3) rfl rfl rfl) (ro rfl (eW dA (Ht rfl) rfl) (ro rfl (fX A_55 Z_55 (Ht rfl) (i := 1) rfl rfl) (ro rfl (cZ Tryz.call202 (tL zo zo zo zo) ⟨(Ht rfl), (Ht rfl), (Ht rfl), trivial⟩) (gZ Z_130 (Ht rfl) (Ht rfl) rfl (i := 0) rfl (aK rfl) rfl rfl (ro rfl (cQ (cJ 0)) (eJ (cB rfl (fJ (fY A_130 Z_130 rfl (i := 0) rfl rfl) ?_) (fQ rfl))))))))))
  exact (Ay hab)
theorem a1M {r:Rt}:aP Tryz.prog 191 [lN r] (QT r.q):=by
 have hr1:=r.h1; have hr2:=r.h2; have hr3:=r.h3; have hr4:=r.h4; have hr5:=r.d1; have hr6:=r.d2; have hr0:=r.d0
 refine aP.intro Tryz.func191 rfl Tryz.ntmps191 rfl (fun cx=>(ts (rn rfl (fU (Ht rfl)) fun B1=>(rn rfl (eK (Ts:=[Is (.bool false),Is (.slice none 0 0),Is (.bool false),Is (.slice none 0 0),Is (.slice none 0 0)]) O_130 rfl (fun V=>aW zd (aW zd (aW zd (aW zd (aW zd (aG))))))) fun B2=>(eJ (cK (iB (fun (uu:Unit)=>True) (fun (uu:Unit)=>[(1,cC B1 0),(2,cC B2 0)]) (fun (uu:Unit)=>[box B1 48 [aN .i64 r.re,aN .i64 r.im,aN .i64 r.d],box B2 130 [Is (.bool false),Is (.slice none 0 0),Is (.bool false),Is (.slice none 0 0),Is (.slice none 0 0)]]) ?_ (fun uu _=>?_))))))))
 ·refine ts (ro rfl (eW nR (Ht rfl) rfl) (ro rfl (fX A_2 Z_2 (Ht rfl) (i := 0) rfl rfl) (ro rfl (jB (Ht rfl) cV) (eJ (dQ (Ht rfl) (fun hb => ?_) (fun hb => ?_))))))
  ·simp only [decide_eq_true_eq] at hb
   refine cY (ro rfl (eW nR (Ht rfl) rfl) (jT Z_2 (Ht rfl) (cJ 1) (i:=0) rfl (aK rfl) rfl (eJ (aL () trivial (zS rfl) (aU (aB (by rw [Rt.d,if_pos hb]; rfl)) (aU (aB rfl) aY))))))
  ·simp only [decide_eq_false_iff_not] at hb
   refine cU (aL () trivial (zS rfl) (aU (aB (by rw [Rt.d,if_neg hb])) (aU (aB rfl) aY)))
 ·refine ts (ro rfl (eW pG (Ht rfl) rfl) (ro rfl (fX A_2 Z_2 (Ht rfl) (i := 0) rfl rfl) (ro rfl (eW Df (Ht rfl) rfl) (ro rfl (fX A_2 Z_2 (Ht rfl) (i := 0) rfl rfl) (ro rfl (eW nR (Ht rfl) rfl) (ro rfl (fX A_2 Z_2 (Ht rfl) (i := 0) rfl rfl) (ro rfl (cZ Tryz.call112 (Qh hr1 hr2 hr3 hr4 hr5 hr6 hr0) ⟨(Ht rfl), (Ht rfl), (Ht rfl), trivial⟩) (rm rfl (ro rfl (dY (Ht rfl) rfl) (ro rfl (dY (Ht rfl) rfl) (rn rfl (eK (Ts := [Is (.bool false), Is (.slice none 0 0), Is (.bool false), Is (.slice none 0 0), Is (.slice none 0 0)]) O_130 rfl (fun V => aW zd (aW zd (aW zd (aW zd (aW zd (aG))))))) fun B3 => ?_)))))))))))
  refine gZ Z_130 (Ht rfl) (Ht rfl) rfl (i:=2) rfl (aK rfl) rfl rfl (ra rfl (eJ (ts (ro rfl (eG A_130 Z_130 (Ht rfl) (i:=2) rfl rfl rfl) (gZ Z_130 (Ht rfl) (Ht rfl) rfl (i:=1) rfl (aK rfl) rfl rfl (eJ ?_))))))
  exact fK rfl (fY A_130 Z_130 rfl (i:=1) rfl rfl)
theorem Iv {x y:Qi} {L M:Nat} [hx:aD x L] [hy:aD y M] (h:L + M + 1 ≤ 17592186044415):aP Tryz.prog 188 [QT x,QT y] (QT (x + y)):=by
 have hxa:=iF hx.fit; have hxb:=iM hx.fit; have hxd:=iG hx.fit
 have hya:=iF hy.fit; have hyb:=iM hy.fit; have hyd:=iG hy.fit
 have hxp:=x.den_pos; have hyp:=y.den_pos; have hdp:=Nat.mul_pos hxp hyp
 have e1:=dC x.a y.den; have e2:=dC y.a x.den; have e3:=dC x.b y.den; have e4:=dC y.b x.den; have e5:=pD x.den y.den
 have e6:=iS (x:=x.a * y.den) (y:=y.a * x.den) (L:=L + M) zo zo; have e7:=iS (x:=x.b * y.den) (y:=y.b * x.den) (L:=L + M) zo zo
 refine aP.intro Tryz.func188 rfl Tryz.ntmps188 rfl (fun cx=>?_)
 have n1:(dg ((x.den:Nat):Int).natAbs).length ≤ L:=by rw [Int.natAbs_natCast]; exact hxd
 have n2:(dg ((y.den:Nat):Int).natAbs).length ≤ M:=by rw [Int.natAbs_natCast]; exact hyd
 refine ts (rn rfl (fU (Ht rfl)) fun B2=>(rn rfl (fU (Ht rfl)) fun B3=>(rn rfl (eK (Ts:=[Is (.bool false),Is (.slice none 0 0),Is (.bool false),Is (.slice none 0 0),Is (.slice none 0 0)]) O_130 rfl (fun V=>aW zd (aW zd (aW zd (aW zd (aW zd (aG))))))) fun B4=>(eJ (cK (Y.D_start (m:=9) [] (bY (Ei:=[(2,_)]) rfl rfl (bQ (bJ rfl rfl) bX) rfl rfl (dX rfl (eW fO (Ht rfl) rfl)) (bY (Ei:=[(7,_)]) rfl rfl (bQ (bZ 0 rfl rfl) bX) rfl rfl (dX rfl (fX A_55 Z_55 (Ht rfl) (i:=0) rfl rfl)) ?_))))))))
 refine bY (Ei:=[(8,_)]) rfl rfl (bQ (bZ 1 rfl rfl) bX) rfl rfl (dX rfl (aI.imp (kY cV (Ht rfl)) vA)) (bY (Ei:=[(3,_)]) rfl rfl (bQ (bJ rfl rfl) bX) rfl rfl (dX rfl (eW fO (Ht rfl) rfl)) (bY (Ei:=[(10,_)]) rfl rfl (bQ (bZ 3 rfl rfl) bX) rfl rfl (dX rfl (fX A_55 Z_55 (Ht rfl) (i:=1) rfl rfl)) (bY (Ei:=[(11,_)]) rfl rfl (bQ (bZ 4 rfl rfl) bX) rfl rfl (dX rfl (aI.imp (kY cV (Ht rfl)) vA)) ?_)))
 refine Y.D_newp (Ei:=[]) (fun bb=>box bb 128 [aC (decide (((x.den:Nat):Int) < 0)),aE (((x.den:Nat):Int)).natAbs]) 8 rfl rfl rfl bX rfl rfl (by kernel_rfl) (eK (Ts:=[Is (.bool false),Is (.slice none 0 0)]) O_128 rfl (fun V=>aW zd (aW zd (aG)))) (Y.D_new (Ei:=[]) rfl rfl rfl bX rfl rfl (eK (Ts:=[Is (.bool false),Is (.slice none 0 0)]) O_128 rfl (fun V=>aW zd (aW zd (aG)))) (Y.D_putN (Ei:=[(9,_)]) 6 rfl rfl rfl rfl rfl rfl (bQ (bZ 2 rfl rfl) bX) (fun bb=>mY Z_128 (Ht rfl) (Ht rfl) rfl (i:=0) rfl (aK rfl) rfl rfl) ?_))
 refine Y.D_done aO rfl (by kernel_rfl) rfl (by simp [Y.okP]) rfl rfl (bU (bU (bU (bU (bU (bU (Y.F_newp (fun B5=>Y.F_new (fun B6=>Y.F_putN (Y.F_nil ?_))))))))))
 refine gZ Z_128 (Ht rfl) (Ht rfl) rfl (i:=4) rfl (aK rfl) rfl rfl (eJ (cK (fV (m:=22) (dp 2 rfl (eW fN (Ht rfl) rfl) (dq 13 0 rfl (eG A_128 Z_128 (Ht rfl) (i:=0) rfl rfl rfl) (dp 6 rfl (eG A_128 Z_128 (Ht rfl) (i:=4) rfl rfl rfl) (bR 14 1 15 2 rfl (cZ K_204 (jI zo zo) ⟨(Ht rfl),(Ht rfl),trivial⟩) (dp 3 rfl (eW fN (Ht rfl) rfl) (dq 17 4 rfl (eG A_128 Z_128 (Ht rfl) (i:=1) rfl rfl rfl) (dp 5 rfl (eG A_128 Z_128 (Ht rfl) (i:=3) rfl rfl rfl) ?_))))))))))
 refine bR 18 5 19 6 rfl (cZ K_204 (jI zo zo) ⟨(Ht rfl),(Ht rfl),trivial⟩) (bR 16 3 20 7 rfl (cZ Tryz.call205 (rJ zo zo) ⟨(Ht rfl),(Ht rfl),trivial⟩) (dp 2 rfl (eW gB (Ht rfl) rfl) (dq 22 9 rfl (eG A_128 Z_128 (Ht rfl) (i:=0) rfl rfl rfl) (dp 6 rfl (eG A_128 Z_128 (Ht rfl) (i:=4) rfl rfl rfl) (bR 23 10 24 11 rfl (cZ K_204 (jI zo zo) ⟨(Ht rfl),(Ht rfl),trivial⟩) (dp 3 rfl (eW gB (Ht rfl) rfl) (dq 26 13 rfl (eG A_128 Z_128 (Ht rfl) (i:=1) rfl rfl rfl) ?_)))))))
 refine dp 5 rfl (eG A_128 Z_128 (Ht rfl) (i:=3) rfl rfl rfl) (bR 27 14 28 15 rfl (cZ K_204 (jI zo zo) ⟨(Ht rfl),(Ht rfl),trivial⟩) (bR 25 12 29 16 rfl (cZ Tryz.call205 (rJ zo zo) ⟨(Ht rfl),(Ht rfl),trivial⟩) (dp 2 rfl (eW fO (Ht rfl) rfl) (dq 31 18 rfl (fX A_55 Z_55 (Ht rfl) (i:=0) rfl rfl) (dp 3 rfl (eW fO (Ht rfl) rfl) (dq 33 20 rfl (fX A_55 Z_55 (Ht rfl) (i:=1) rfl rfl) (fG aO rfl (by kernel_rfl) (zF (zF (zF (zF (zF (aJ (aJ (aV ?_)))))))))))))))
 refine ro rfl (cZ Tryz.call206 (rK zo zo) ⟨(Ht rfl),(Ht rfl),trivial⟩) (ro rfl (cZ Tryz.call202 (tL (by first | assumption | omega) zo zo zo) ⟨(Ht rfl),(Ht rfl),(Ht rfl),trivial⟩) (gZ Z_130 (Ht rfl) (Ht rfl) rfl (i:=2) rfl (aK rfl) rfl rfl (eJ (fK rfl (fJ (fY A_130 Z_130 rfl (i:=2) rfl rfl) ?_)))))
 exact (Ay (Qi.mk_add x y))
theorem Qg {x:Qi}:aP Tryz.prog 189 [QT x] (QT (-x)):=by
 refine aP.intro Tryz.func189 rfl Tryz.ntmps189 rfl (fun cx=>(ts (rn rfl (fU (Ht rfl)) fun B1=>(rn rfl (eK (Ts:=[Is (.bool false),Is (.slice none 0 0),Is (.bool false),Is (.slice none 0 0),Is (.slice none 0 0)]) O_130 rfl (fun V=>aW zd (aW zd (aW zd (aW zd (aW zd (aG))))))) fun B2=>(eJ (cK (fV (m:=8) (dp 1 rfl (eW fN (Ht rfl) rfl) (dq 3 0 rfl (eG A_128 Z_128 (Ht rfl) (i:=0) rfl rfl rfl) ?_)))))))))
 refine dq 4 1 rfl (cZ K_211 mT ⟨(Ht rfl),trivial⟩) (dp 1 rfl (eW gB (Ht rfl) rfl) (dq 6 3 rfl (eG A_128 Z_128 (Ht rfl) (i:=0) rfl rfl rfl) (dq 7 4 rfl (cZ K_211 mT ⟨(Ht rfl),trivial⟩) (dp 1 rfl (eW fO (Ht rfl) rfl) (dq 9 6 rfl (fX A_55 Z_55 (Ht rfl) (i:=0) rfl rfl) (fG aO rfl (by kernel_rfl) (zF (zF (aV (ro rfl (kN (Ht rfl) (Ht rfl) (Ht rfl)) (gZ Z_130 (Ht rfl) (Ht rfl) rfl (i:=1) rfl (aK rfl) rfl rfl ?_)))))))))))
 refine eJ (fK rfl (fJ (fY A_130 Z_130 rfl (i:=1) rfl rfl) ?_))
 exact (lP (by obtain ⟨e1,e2,e3⟩:=Qi.neg_a x; rw [e1,e2,e3]; rfl))
theorem xB {x:Qi}:aP Tryz.prog 171 [QT x] (QT x.conj):=by
 refine aP.intro Tryz.func171 rfl Tryz.ntmps171 rfl (fun cx=>(ts (rn rfl (fU (Ht rfl)) fun B1=>(rn rfl (eK (Ts:=[Is (.bool false),Is (.slice none 0 0),Is (.bool false),Is (.slice none 0 0),Is (.slice none 0 0)]) O_130 rfl (fun V=>aW zd (aW zd (aW zd (aW zd (aW zd (aG))))))) fun B2=>(eJ (cK (fV (m:=7) (dp 1 rfl (eW fN (Ht rfl) rfl) (dq 3 0 rfl (eG A_128 Z_128 (Ht rfl) (i:=0) rfl rfl rfl) ?_)))))))))
 refine dp 1 rfl (eW gB (Ht rfl) rfl) (dq 5 2 rfl (eG A_128 Z_128 (Ht rfl) (i:=0) rfl rfl rfl) (dq 6 3 rfl (cZ K_211 mT ⟨(Ht rfl),trivial⟩) (dp 1 rfl (eW fO (Ht rfl) rfl) (dq 8 5 rfl (fX A_55 Z_55 (Ht rfl) (i:=0) rfl rfl) (fG aO rfl (by kernel_rfl) (zF (aJ (aJ (aJ (aV (ro rfl (kN (Ht rfl) (Ht rfl) (Ht rfl)) (gZ Z_130 (Ht rfl) (Ht rfl) rfl (i:=1) rfl (aK rfl) rfl rfl (eJ (fK rfl (fJ (fY A_130 Z_130 rfl (i:=1) rfl rfl) ?_)))))))))))))))
 exact (lP (by obtain ⟨e1,e2,e3⟩:=Qi.conj_a x; rw [e1,e2,e3]; rfl))
theorem a0y {x y:Qi} {L M:Nat} [hx:aD x L] [hy:aD y M] (h:L + M + 1 ≤ 17592186044415):aP Tryz.prog 187 [QT x,QT y] (QT (x - y)):=by
 have hxa:=iF hx.fit; have hxb:=iM hx.fit; have hxd:=iG hx.fit
 have hya:=iF hy.fit; have hyb:=iM hy.fit; have hyd:=iG hy.fit
 have hxp:=x.den_pos; have hyp:=y.den_pos; have hdp:=Nat.mul_pos hxp hyp
 refine aP.intro Tryz.func187 rfl Tryz.ntmps187 rfl (fun cx=>(ts (rn rfl (fU (Ht rfl)) fun B2=>(rn rfl (fU (Ht rfl)) fun B3=>(rn rfl (eK (Ts:=[Is (.bool false),Is (.slice none 0 0),Is (.bool false),Is (.slice none 0 0),Is (.slice none 0 0)]) O_130 rfl (fun V=>aW zd (aW zd (aW zd (aW zd (aW zd (aG))))))) fun B4=>(eJ (cK (fV (m:=3) (dp 2 rfl (eG A_130 Z_130 (Ht rfl) (i:=0) rfl rfl rfl) (dp 3 rfl (eG A_130 Z_130 (Ht rfl) (i:=1) rfl rfl rfl) ?_))))))))))
 refine dq 6 1 rfl (cZ Tryz.call189 Qg ⟨(Ht rfl),trivial⟩) (fG aO rfl (by kernel_rfl) (aJ (aJ (aJ (aV (ro rfl (cZ Tryz.call188 (Iv zo) ⟨(Ht rfl),(Ht rfl),trivial⟩) (gZ Z_130 (Ht rfl) (Ht rfl) rfl (i:=2) rfl (aK rfl) rfl rfl (eJ (fK rfl (fJ (fY A_130 Z_130 rfl (i:=2) rfl rfl) ?_))))))))))
 exact (Ay (Qi.sub_def x y).symm)
theorem sX {x y:Qi} {L M:Nat} [hx:aD x L] [hy:aD y M] (h:L + M + 1 ≤ 17592186044415):aP Tryz.prog 102 [QT x,QT y] (QT (x * y)):=by
 have hxa:=iF hx.fit; have hxb:=iM hx.fit; have hxd:=iG hx.fit
 have hya:=iF hy.fit; have hyb:=iM hy.fit; have hyd:=iG hy.fit
 have hxp:=x.den_pos; have hyp:=y.den_pos; have hdp:=Nat.mul_pos hxp hyp
 have e1:=iL x.a y.a; have e2:=iL x.b y.b; have e3:=iL x.a y.b; have e4:=iL x.b y.a; have e5:=pD x.den y.den; have e8:=pE (x.b * y.b)
 have e6:=iS (x:=x.a * y.a) (y:=-(x.b * y.b)) (L:=L + M) zo zo; have e7:=iS (x:=x.a * y.b) (y:=x.b * y.a) (L:=L + M) zo zo
 refine aP.intro Tryz.func102 rfl Tryz.ntmps102 rfl (fun cx=>(ts (rn rfl (fU (Ht rfl)) fun B2=>(rn rfl (fU (Ht rfl)) fun B3=>(rn rfl (eK (Ts:=[Is (.bool false),Is (.slice none 0 0),Is (.bool false),Is (.slice none 0 0),Is (.slice none 0 0)]) O_130 rfl (fun V=>aW zd (aW zd (aW zd (aW zd (aW zd (aG))))))) fun B4=>(eJ (cK (fV (m:=26) (dp 2 rfl (eW fN (Ht rfl) rfl) (dq 5 0 rfl (eG A_128 Z_128 (Ht rfl) (i:=0) rfl rfl rfl) ?_))))))))))
 refine dp 3 rfl (eW fN (Ht rfl) rfl) (dq 7 2 rfl (eG A_128 Z_128 (Ht rfl) (i:=1) rfl rfl rfl) (bR 6 1 8 3 rfl (cZ K_204 (jI zo zo) ⟨(Ht rfl),(Ht rfl),trivial⟩) (dp 2 rfl (eW gB (Ht rfl) rfl) (dq 10 5 rfl (eG A_128 Z_128 (Ht rfl) (i:=0) rfl rfl rfl) (dp 3 rfl (eW gB (Ht rfl) rfl) (dq 12 7 rfl (eG A_128 Z_128 (Ht rfl) (i:=1) rfl rfl rfl) (bR 11 6 13 8 rfl (cZ K_204 (jI zo zo) ⟨(Ht rfl),(Ht rfl),trivial⟩) (bR 9 4 14 9 rfl (cZ Tryz.call203 (Mw zo zo) ⟨(Ht rfl),(Ht rfl),trivial⟩) ?_))))))))
 refine dp 2 rfl (eW fN (Ht rfl) rfl) (dq 16 11 rfl (eG A_128 Z_128 (Ht rfl) (i:=0) rfl rfl rfl) (dp 3 rfl (eW gB (Ht rfl) rfl) (dq 18 13 rfl (eG A_128 Z_128 (Ht rfl) (i:=1) rfl rfl rfl) (bR 17 12 19 14 rfl (cZ K_204 (jI zo zo) ⟨(Ht rfl),(Ht rfl),trivial⟩) (dp 2 rfl (eW gB (Ht rfl) rfl) (dq 21 16 rfl (eG A_128 Z_128 (Ht rfl) (i:=0) rfl rfl rfl) (dp 3 rfl (eW fN (Ht rfl) rfl) (dq 23 18 rfl (eG A_128 Z_128 (Ht rfl) (i:=1) rfl rfl rfl) ?_))))))))
 refine bR 22 17 24 19 rfl (cZ K_204 (jI zo zo) ⟨(Ht rfl),(Ht rfl),trivial⟩) (bR 20 15 25 20 rfl (cZ Tryz.call205 (rJ zo zo) ⟨(Ht rfl),(Ht rfl),trivial⟩) (dp 2 rfl (eW fO (Ht rfl) rfl) (dq 27 22 rfl (fX A_55 Z_55 (Ht rfl) (i:=0) rfl rfl) (dp 3 rfl (eW fO (Ht rfl) rfl) (dq 29 24 rfl (fX A_55 Z_55 (Ht rfl) (i:=1) rfl rfl) (fG aO rfl (by kernel_rfl) (zF (zF (zF (zF (zF (zF (aJ (aJ (aV ?_)))))))))))))))
 refine ro rfl (cZ Tryz.call206 (rK zo zo) ⟨(Ht rfl),(Ht rfl),trivial⟩) (ro rfl (cZ Tryz.call202 (tL (by first | assumption | omega) zo zo zo) ⟨(Ht rfl),(Ht rfl),(Ht rfl),trivial⟩) (gZ Z_130 (Ht rfl) (Ht rfl) rfl (i:=2) rfl (aK rfl) rfl rfl (eJ (fK rfl (fJ (fY A_130 Z_130 rfl (i:=2) rfl rfl) ?_)))))
 exact (Ay (Qi.mk_mul x y))
theorem Cv {x:Qi}:aP Tryz.prog 105 [QT x] (aC (decide (x = Qi.zero))):=by
 refine aP.intro Tryz.func105 rfl Tryz.ntmps105 rfl (fun cx=>(ts (rn rfl (fU (Ht rfl)) fun B1=>(ro rfl (cQ cV) (eJ (ts (ro rfl (eW fN (Ht rfl) rfl) (ro rfl (eW dA (Ht rfl) rfl) (ro rfl (fX A_55 Z_55 (Ht rfl) (i:=0) rfl rfl) (ro rfl (dU U_55 (Ht rfl) aA) (ro rfl (cA (Ht rfl) (cJ 0)) (rm rfl (fZ rfl rfl (eY rfl rfl (Ht rfl) (fun h=>eW gB (Ht rfl) rfl)) (fZ rfl rfl (eY rfl rfl (Ht rfl) (fun h=>eW dA (fW rfl h) rfl)) (fZ rfl rfl (eY rfl rfl (Ht rfl) (fun h=>fX A_55 Z_55 (fW rfl h) (i:=0) rfl rfl)) ?_)))))))))))))))
 refine fZ rfl rfl (eY rfl rfl (Ht rfl) (fun h=>dU U_55 (fW rfl h) aA)) (fZ rfl rfl (eY rfl rfl (Ht rfl) (fun h=>cA (fW rfl h) (cJ 0))) (ro rfl (dO (Ht rfl) (fun h=>(fW rfl h))) (ra rfl (eJ (fK rfl (fJ (fQ rfl) ?_))))))
 exact (bN (Tg x))
theorem Kx {x y:Qi} {L M:Nat} [hx:aD x L] [hy:aD y M] (h:L ≤ 17592186044415) (h2:M ≤ 17592186044415):aP Tryz.prog 101 [QT x,QT y] (aC (decide (x = y))):=by
 have hxa:=iF hx.fit; have hxb:=iM hx.fit; have hxd:=iG hx.fit
 have hya:=iF hy.fit; have hyb:=iM hy.fit; have hyd:=iG hy.fit
 refine aP.intro Tryz.func101 rfl Tryz.ntmps101 rfl (fun cx=>(ts (rn rfl (fU (Ht rfl)) fun B2=>(rn rfl (fU (Ht rfl)) fun B3=>(ro rfl (cQ cV) (eJ (ts (ro rfl (eW fN (Ht rfl) rfl) (ro rfl (eG A_128 Z_128 (Ht rfl) (i:=0) rfl rfl rfl) (ro rfl (eW fN (Ht rfl) rfl) (ro rfl (eG A_128 Z_128 (Ht rfl) (i:=1) rfl rfl rfl) (ro rfl (cZ Tryz.call200 (Bg zo zo) ⟨(Ht rfl),(Ht rfl),trivial⟩) (ro rfl (jB (Ht rfl) cV) (rm rfl (fZ rfl rfl (eY rfl rfl (Ht rfl) (fun h=>eW gB (Ht rfl) rfl)) ?_)))))))))))))))
 refine fZ rfl rfl (eY rfl rfl (Ht rfl) (fun h=>eG A_128 Z_128 (fW rfl h) (i:=0) rfl rfl rfl)) (fZ rfl rfl (eY rfl rfl (Ht rfl) (fun h=>eW gB (Ht rfl) rfl)) (fZ rfl rfl (eY rfl rfl (Ht rfl) (fun h=>eG A_128 Z_128 (fW rfl h) (i:=1) rfl rfl rfl)) (fZ rfl rfl (eY rfl rfl (Ht rfl) (fun h=>cZ Tryz.call200 (Bg zo zo) ⟨(fW rfl h),(fW rfl h),trivial⟩)) (fZ rfl rfl (eY rfl rfl (Ht rfl) (fun h=>jB (fW rfl h) cV)) (ro rfl (dO (Ht rfl) (fun h=>(fW rfl h))) ?_)))))
 refine rm rfl (fZ rfl rfl (eY rfl rfl (Ht rfl) (fun h=>eW fO (Ht rfl) rfl)) (fZ rfl rfl (eY rfl rfl (Ht rfl) (fun h=>fX A_55 Z_55 (fW rfl h) (i:=0) rfl rfl)) (fZ rfl rfl (eY rfl rfl (Ht rfl) (fun h=>eW fO (Ht rfl) rfl)) (fZ rfl rfl (eY rfl rfl (Ht rfl) (fun h=>fX A_55 Z_55 (fW rfl h) (i:=1) rfl rfl)) (fZ rfl rfl (eY rfl rfl (Ht rfl) (fun h=>cZ Tryz.call201 (oG zo zo) ⟨(fW rfl h),(fW rfl h),trivial⟩)) (fZ rfl rfl (eY rfl rfl (Ht rfl) (fun h=>jB (fW rfl h) cV)) ?_))))))
 refine ro rfl (dO (Ht rfl) (fun h=>(fW rfl h))) (ra rfl (eJ (fK rfl (fJ (fQ rfl) ?_))))
 exact (bN (Tf x y))
theorem a1L {x:Qi} {L:Nat} [hx:aD x L] (h:L ≤ 17592186044415):aP Tryz.prog 271 [QT x] (QT x.imp):=by
 have hxa:=iF hx.fit; have hxb:=iM hx.fit; have hxd:=iG hx.fit
 have hxp:=x.den_pos
 have h5:(dg (0:Int).natAbs).length ≤ 0:=by rw [show (0:Int).natAbs = 0 from rfl,dI]; exact Nat.le_refl _
 refine aP.intro Tryz.func271 rfl Tryz.ntmps271 rfl (fun cx=>(ts (rn rfl (fU (Ht rfl)) fun B1=>(rn rfl (eK (Ts:=[Is (.bool false),Is (.slice none 0 0),Is (.bool false),Is (.slice none 0 0),Is (.slice none 0 0)]) O_130 rfl (fun V=>aW zd (aW zd (aW zd (aW zd (aW zd (aG))))))) fun B2=>(eJ (ts (ro rfl (eW gB (Ht rfl) rfl) (ro rfl (eG A_128 Z_128 (Ht rfl) (i:=0) rfl rfl rfl) (ro rfl (aI.imp (Er ) tF) ?_)))))))))
 refine ro rfl (eW fO (Ht rfl) rfl) (ro rfl (fX A_55 Z_55 (Ht rfl) (i:=0) rfl rfl) (ro rfl (cZ Tryz.call202 (tL (by first | assumption | omega) zo zo zo) ⟨(Ht rfl),(Ht rfl),(Ht rfl),trivial⟩) (gZ Z_130 (Ht rfl) (Ht rfl) rfl (i:=1) rfl (aK rfl) rfl rfl (eJ (fK rfl (fJ (fY A_130 Z_130 rfl (i:=1) rfl rfl) ?_))))))
 exact (Ay (Qi.mk_im0 x))
theorem Vt {x:Qi} {L:Nat} [hx:aD x L] (h:L + L + 1 ≤ 17592186044415):aP Tryz.prog 241 [QT x] (QT x.norm):=by
 refine aP.intro Tryz.func241 rfl Tryz.ntmps241 rfl (fun cx=>(ts (rn rfl (fU (Ht rfl)) fun B1=>(rn rfl (eK (Ts:=[Is (.bool false),Is (.slice none 0 0),Is (.bool false),Is (.slice none 0 0),Is (.slice none 0 0)]) O_130 rfl (fun V=>aW zd (aW zd (aW zd (aW zd (aW zd (aG))))))) fun B2=>(eJ (cK (fV (m:=3) (dp 1 rfl (eG A_130 Z_130 (Ht rfl) (i:=0) rfl rfl rfl) (dp 1 rfl (eG A_130 Z_130 (Ht rfl) (i:=0) rfl rfl rfl) ?_)))))))))
 refine dq 4 1 rfl (cZ Tryz.call171 xB ⟨(Ht rfl),trivial⟩) (fG aO rfl (by kernel_rfl) (aJ (aJ (aJ (aV (ro rfl (cZ K_102 (sX zo) ⟨(Ht rfl),(Ht rfl),trivial⟩) (gZ Z_130 (Ht rfl) (Ht rfl) rfl (i:=1) rfl (aK rfl) rfl rfl (eJ (fK rfl (fJ (fY A_130 Z_130 rfl (i:=1) rfl rfl) ?_))))))))))
 exact (Ay (Qi.mul_conj x))
theorem Cu {x:Qi}:aP Tryz.prog 209 [QT x] (aN .i64 (iE x.a 0)):=by
 refine aP.intro Tryz.func209 rfl Tryz.ntmps209 rfl (fun cx=>(ts (rn rfl (fU (Ht rfl)) fun B1=>(ro rfl (cQ (cJ 0)) (eJ (cK (ts (ro rfl (eW fN (Ht rfl) rfl) (ro rfl (eW gA (Ht rfl) rfl) (ro rfl (fX A_4 Z_4 (Ht rfl) (i:=0) rfl rfl) (eJ (dQ (Ht rfl) (fun hb=>?_) (fun hb=>?_)))))))))))))
 ·simp only [decide_eq_true_eq] at hb
  refine ts (ro rfl (cQ cV) (eJ (fK rfl (fJ (fQ rfl) ?_))))
  exact (aS (by rw [iE,if_pos hb]))
 ·simp only [decide_eq_false_iff_not] at hb
  refine cU (cK (ts (ro rfl (eW fN (Ht rfl) rfl) (ro rfl (eW dA (Ht rfl) rfl) (ro rfl (fX A_55 Z_55 (Ht rfl) (i:=0) rfl rfl) (ro rfl (dU U_55 (Ht rfl) aA) (ro rfl (eN (Ht rfl) (cJ 0)) (eJ (dQ (Ht rfl) (fun hc=>?_) (fun hc=>?_))))))))))
  ·simp only [decide_eq_true_eq] at hc
   have h0:x.a ≠ 0:=fun e=>by rw [e] at hc; simp [dI] at hc
   refine ts (ro rfl (cQ (cJ 1)) (eJ (fK rfl (fJ (fQ rfl) ?_))))
   exact (aS (by rw [iE,if_neg hb,if_pos zo]; rfl))
  ·simp only [decide_eq_false_iff_not] at hc
   have h0:x.a = 0:=by have:=aH.1 (Nat.eq_zero_of_not_pos hc); omega
   refine cU (ts (ro rfl (cQ (cJ 0)) (eJ (fK rfl (fJ (fQ rfl) ?_)))))
   exact (aS (by rw [iE,if_neg hb,if_neg zo]; rfl))
theorem Vu {x:Qi} {L:Nat} [hx:aD x L] (h:L ≤ 17592186044415):aP Tryz.prog 242 [QT x] (aN .i64 (iE x.b 0)):=by
 refine aP.intro Tryz.func242 rfl Tryz.ntmps242 rfl (fun cx=>(ts (rn rfl (fU (Ht rfl)) fun B1=>(ro rfl (cQ (cJ 0)) (eJ (ts (ro rfl (eG A_130 Z_130 (Ht rfl) (i:=0) rfl rfl rfl) (ro rfl (cZ Tryz.call271 (a1L zo) ⟨(Ht rfl),trivial⟩) (ro rfl (cZ Tryz.call209 Cu ⟨(Ht rfl),trivial⟩) (ra rfl (eJ (fK rfl (fJ (fQ rfl) ?_)))))))))))))
 exact (aS (Yt x))
theorem Ct {x y:Qi} {L M:Nat} [hx:aD x L] [hy:aD y M] (h:L + 3 * M + 2 ≤ 17592186044415):aP Tryz.prog 176 [QT x,QT y] (fR [QT (x / y),aN .i64 (if y = Qi.zero then 3 else 0)]):=by
 have hxa:=iF hx.fit; have hxb:=iM hx.fit; have hxd:=iG hx.fit
 have hya:=iF hy.fit; have hyb:=iM hy.fit; have hyd:=iG hy.fit
 have hxp:=x.den_pos; have hyp:=y.den_pos; have hdp:=Nat.mul_pos hxp hyp
 refine aP.intro Tryz.func176 rfl Tryz.ntmps176 rfl (fun cx=>(ts (rn rfl (fU (Ht rfl)) fun B2=>(rn rfl (fU (Ht rfl)) fun B3=>(rn rfl (eK (Ts:=[Is (.bool false),Is (.slice none 0 0),Is (.bool false),Is (.slice none 0 0),Is (.slice none 0 0)]) O_130 rfl (fun V=>aW zd (aW zd (aW zd (aW zd (aW zd (aG))))))) fun B4=>(ro rfl (cQ (cJ 0)) (eJ (cK (ts (ro rfl (eG A_130 Z_130 (Ht rfl) (i:=1) rfl rfl rfl) ?_))))))))))
 refine ro rfl (cZ Tryz.call105 Cv ⟨(Ht rfl),trivial⟩) (eJ (dQ (Ht rfl) (fun hb=>?_) (fun hb=>?_)))
 ·simp only [decide_eq_true_eq] at hb
  refine ts (ro rfl (cZ Tryz.call175 (tM (by decide) (by decide)) ⟨(cJ 0),trivial⟩) (gZ Z_130 (Ht rfl) (Ht rfl) rfl (i:=2) rfl (aK rfl) rfl rfl (ro rfl (cQ (cJ 3)) (eJ (cB rfl (fJ (fY A_130 Z_130 rfl (i:=2) rfl rfl) ?_) (fJ (fQ rfl) ?_))))))
  ·exact (Ay (by rw [hb,Qi.div_zero]; rfl))
  ·exact (aS (by rw [if_pos hb]; rfl))
 ·simp only [decide_eq_false_iff_not] at hb
  obtain ⟨n,hn⟩:∃ n,n = y.norm:=⟨_,rfl⟩
  obtain ⟨z,hz⟩:∃ z,z = x * y.conj:=⟨_,rfl⟩
  haveI fn:aD n (M + M + 1):=hn ▸ fitNorm
  haveI fz:aD z (L + M + 1):=hz ▸ fitMul
  have hna:=iF fn.fit; have hnd:=iG fn.fit; have hza:=iF fz.fit; have hzb:=iM fz.fit; have hzd:=iG fz.fit
  have hnp:0 < n.a:=hn ▸ Qi.norm_pos hb
  have hm:((n.a.natAbs:Nat):Int) = n.a:=Int.natAbs_of_nonneg zo
  have hdp2:=Nat.mul_pos z.den_pos (show 0 < n.a.natAbs by omega)
  have n1:(dg ((n.den:Nat):Int).natAbs).length ≤ M + M + 1:=by rw [Int.natAbs_natCast]; exact hnd
  have e1:=dC z.a n.den; have e2:=dC z.b n.den; have e3:=pD z.den n.a.natAbs
  refine cU (ts (ro rfl (eG A_130 Z_130 (Ht rfl) (i:=1) rfl rfl rfl) (ro rfl (aI.imp (cZ Tryz.call241 (Vt zo) ⟨(Ht rfl),trivial⟩) (Ay hn.symm)) (rn rfl (eK (Ts:=[Is (.bool false),Is (.slice none 0 0),Is (.bool false),Is (.slice none 0 0),Is (.slice none 0 0)]) O_130 rfl (fun V=>aW zd (aW zd (aW zd (aW zd (aW zd (aG))))))) fun B6=>(gZ Z_130 (Ht rfl) (Ht rfl) rfl (i:=3) rfl (aK rfl) rfl rfl ?_)))))
  refine eJ (cK (fV (m:=5) (dp 2 rfl (eG A_130 Z_130 (Ht rfl) (i:=0) rfl rfl rfl) (dp 3 rfl (eG A_130 Z_130 (Ht rfl) (i:=1) rfl rfl rfl) (dq 15 1 rfl (cZ Tryz.call171 xB ⟨(Ht rfl),trivial⟩) (bR 14 0 16 2 rfl (aI.imp (cZ K_102 (sX zo) ⟨(Ht rfl),(Ht rfl),trivial⟩) (Ay hz.symm)) (C.D_new (Ei:=[]) rfl rfl rfl bW (eK (Ts:=[Is (.bool false),Is (.slice none 0 0),Is (.bool false),Is (.slice none 0 0),Is (.slice none 0 0)]) O_130 rfl (fun V=>aW zd (aW zd (aW zd (aW zd (aW zd (aG))))))) ?_)))))))
  refine fG aO rfl (by kernel_rfl) (zF (C.F_new (fun B7=>aV (gZ Z_130 (Ht rfl) (Ht rfl) rfl (i:=4) rfl (aK rfl) rfl rfl (eJ (ts (ro rfl (eW fO (Ht rfl) rfl) (ro rfl (fX A_55 Z_55 (Ht rfl) (i:=3) rfl rfl) (ro rfl (aI.imp (kY cV (Ht rfl)) vA) (rn rfl (eK (Ts:=[Is (.bool false),Is (.slice none 0 0)]) O_128 rfl (fun V=>aW zd (aW zd (aG)))) fun B8=>(gZ Z_128 (Ht rfl) (Ht rfl) rfl (i:=5) rfl (aK rfl) rfl rfl ?_)))))))))))
  refine eJ (cK (fV (m:=13) (dp 7 rfl (eW fN (Ht rfl) rfl) (dq 21 0 rfl (eG A_128 Z_128 (Ht rfl) (i:=4) rfl rfl rfl) (dp 8 rfl (eG A_128 Z_128 (Ht rfl) (i:=5) rfl rfl rfl) (bR 22 1 23 2 rfl (cZ K_204 (jI zo zo) ⟨(Ht rfl),(Ht rfl),trivial⟩) (dp 7 rfl (eW gB (Ht rfl) rfl) (dq 25 4 rfl (eG A_128 Z_128 (Ht rfl) (i:=4) rfl rfl rfl) (dp 8 rfl (eG A_128 Z_128 (Ht rfl) (i:=5) rfl rfl rfl) (bR 26 5 27 6 rfl (cZ K_204 (jI zo zo) ⟨(Ht rfl),(Ht rfl),trivial⟩) ?_))))))))))
  refine dp 7 rfl (eW fO (Ht rfl) rfl) (dq 29 8 rfl (fX A_55 Z_55 (Ht rfl) (i:=4) rfl rfl) (dp 6 rfl (eW fN (Ht rfl) rfl) (dq 31 10 rfl (eW dA (Ht rfl) rfl) (dq 32 11 rfl (fX A_55 Z_55 (Ht rfl) (i:=3) rfl rfl) (fG aO rfl (by kernel_rfl) (zF (zF (zF (aJ (aV (ro rfl (cZ Tryz.call206 (rK zo zo) ⟨(Ht rfl),(Ht rfl),trivial⟩) (ro rfl (cZ Tryz.call202 (tL (by first | assumption | omega) zo zo zo) ⟨(Ht rfl),(Ht rfl),(Ht rfl),trivial⟩) ?_))))))))))))
  refine gZ Z_130 (Ht rfl) (Ht rfl) rfl (i:=2) rfl (aK rfl) rfl rfl (ro rfl (cQ (cJ 0)) (eJ (cB rfl (fJ (fY A_130 Z_130 rfl (i:=2) rfl rfl) ?_) (fJ (fQ rfl) ?_))))
  ·exact (Ay (Qi.mk_divR x hb hz hn hm))
  ·exact (aS (by rw [if_neg hb]; rfl))
theorem vQ {x y:Qi} {L M:Nat} [hx:aD x L] [hy:aD y M] (h:L + 3 * M + 2 ≤ 17592186044415):aP Tryz.prog 64 [bA x,bA y] (fR [bA (x / y),aN .i64 (if y = Qi.zero then 3 else 0)]):=by
 have hxa:=iF hx.fit; have hxb:=iM hx.fit; have hxd:=iG hx.fit
 have hya:=iF hy.fit; have hyb:=iM hy.fit; have hyd:=iG hy.fit
 have hxp:=x.den_pos; have hyp:=y.den_pos; have hMp:=hy.pos
 refine aP.intro Tryz.func64 rfl Tryz.ntmps64 rfl (fun cx=>(ts (rn rfl (fU (Ht rfl)) fun B2=>(rn rfl (fU (Ht rfl)) fun B3=>(rn rfl (eK (Ts:=[Is (.bool false),Is (.slice none 0 0),Is (.bool false),Is (.slice none 0 0),Is (.slice none 0 0)]) O_60 rfl (fun V=>aW zd (aW zd (aW zd (aW zd (aW zd (aG))))))) fun B4=>(ro rfl (cQ (cJ 0)) (eJ (cK (ts (ro rfl (eG A_60 Z_60 (Ht rfl) (i:=1) rfl rfl rfl) ?_))))))))))
 refine ro rfl (cZ K_82 (rI zo) ⟨(Ht rfl),trivial⟩) (ro rfl (dT (Ht rfl)) (eJ (dQ (Ht rfl) (fun hb=>?_) (fun hb=>?_))))
 ·have h0 : y = Qi.zero := by simpa using hb
  refine ts (ro rfl (aI.imp (rH ) nF) (gZ Z_60 (Ht rfl) (Ht rfl) rfl (i:=2) rfl (aK rfl) rfl rfl (ro rfl (cQ (cJ 3)) (eJ (cB rfl (fJ (fY A_60 Z_60 rfl (i:=2) rfl rfl) ?_) (fJ (fQ rfl) ?_))))))
  ·exact (kJ (by rw [h0,Qi.div_zero]))
  ·exact (aS (by rw [if_pos h0]; rfl))
 ·have h0 : y ≠ Qi.zero := by simpa using hb
  have g1:=iL y.a y.a; have g2:=iL y.b y.b; have g3:=pE y.b
  have g4:=iS (x:=y.a * y.a) (y:=y.b * y.b) (L:=M + M) zo zo
  obtain ⟨c,hc⟩:∃ c,c = Qi.mk' y.a (-y.b) 1:=⟨_,rfl⟩
  obtain ⟨z,hz⟩:∃ z,z = x * c:=⟨_,rfl⟩
  have l1:(dg 1).length ≤ 1:=by rw [Qy (by decide) (by decide)]; exact Nat.le_refl _
  haveI fc:aD c M:=hc ▸ ⟨Qi.Fit.mk (by decide) hy.fit.1 (by rw [Int.natAbs_neg]; exact hy.fit.2.1) (Qi.one_lt hMp)⟩
  haveI fz:aD z (L + M + 1):=hz ▸ fitMul
  have hza:=iF fz.fit; have hzb:=iM fz.fit; have hzd:=iG fz.fit
  have hnp:=Qi.nrm_int_pos h0
  have hm:(((y.a * y.a + y.b * y.b).natAbs:Nat):Int) = y.a * y.a + y.b * y.b:=Int.natAbs_of_nonneg zo
  have hdp2:=Nat.mul_pos z.den_pos (show 0 < (y.a * y.a + y.b * y.b).natAbs by omega)
  have e1:=dC z.a y.den; have e2:=dC z.b y.den; have e3:=pD z.den (y.a * y.a + y.b * y.b).natAbs
  refine cU (cK (fV (m:=12) (dp 3 rfl (eW fF (Ht rfl) rfl) (dq 12 0 rfl (eG A_58 Z_58 (Ht rfl) (i:=1) rfl rfl rfl) (dp 3 rfl (eW fF (Ht rfl) rfl) (dq 14 2 rfl (eG A_58 Z_58 (Ht rfl) (i:=1) rfl rfl rfl) (bR 13 1 15 3 rfl (cZ K_151 (nP zo zo) ⟨(Ht rfl),(Ht rfl),trivial⟩) (dp 3 rfl (eW fS (Ht rfl) rfl) (dq 17 5 rfl (eG A_58 Z_58 (Ht rfl) (i:=1) rfl rfl rfl) (dp 3 rfl (eW fS (Ht rfl) rfl) (dq 19 7 rfl (eG A_58 Z_58 (Ht rfl) (i:=1) rfl rfl rfl) ?_)))))))))))
  refine bR 18 6 20 8 rfl (cZ K_151 (nP zo zo) ⟨(Ht rfl),(Ht rfl),trivial⟩) (bR 16 4 21 9 rfl (cZ K_152 (sW zo zo) ⟨(Ht rfl),(Ht rfl),trivial⟩) (C.D_new (Ei:=[]) rfl rfl rfl bW (eK (Ts:=[Is (.bool false),Is (.slice none 0 0)]) O_58 rfl (fun V=>aW zd (aW zd (aG)))) (fG aO rfl (by kernel_rfl) (zF (zF (aJ (aJ (aJ (C.F_new (fun B6=>aV (gZ Z_58 (Ht rfl) (Ht rfl) rfl (i:=3) rfl (aK rfl) rfl rfl ?_)))))))))))
  refine eJ (cK (fV (m:=10) (dp 2 rfl (eG A_60 Z_60 (Ht rfl) (i:=0) rfl rfl rfl) (dp 3 rfl (eW fF (Ht rfl) rfl) (dq 24 1 rfl (eG A_58 Z_58 (Ht rfl) (i:=1) rfl rfl rfl) (dp 3 rfl (eW fS (Ht rfl) rfl) (dq 26 3 rfl (eG A_58 Z_58 (Ht rfl) (i:=1) rfl rfl rfl) (dq 27 4 rfl (cZ K_167 nO ⟨(Ht rfl),trivial⟩) (d0 rfl (aI.imp (fE (xs:=[_]) U_56 Z_218 O_218 (cW (cJ 1) cG) rfl rfl rfl) zN) (C.D_step (Ei:=[(25,_),(28,_),(29,_)]) rfl rfl (bV (bG 2 rfl rfl) (bV (bG 5 rfl rfl) (bV (bG 6 rfl rfl) bW))) (dX rfl (aI.imp (cZ K_150 (sV (by first | assumption | omega) zo zo zo) ⟨(Ht rfl),(Ht rfl),(Ht rfl),trivial⟩) (kJ hc.symm))) ?_))))))))))
  refine bR 23 0 30 7 rfl (aI.imp (cZ K_70 (nA zo) ⟨(Ht rfl),(Ht rfl),trivial⟩) (kJ hz.symm)) (C.D_new (Ei:=[]) rfl rfl rfl bW (eK (Ts:=[Is (.bool false),Is (.slice none 0 0),Is (.bool false),Is (.slice none 0 0),Is (.slice none 0 0)]) O_60 rfl (fun V=>aW zd (aW zd (aW zd (aW zd (aW zd (aG))))))) (fG aO rfl (by kernel_rfl) (zF (zF (aJ (C.F_new (fun B7=>aV ?_)))))))
  refine gZ Z_60 (Ht rfl) (Ht rfl) rfl (i:=4) rfl (aK rfl) rfl rfl (eJ (cK (fV (m:=14) (dp 7 rfl (eW fF (Ht rfl) rfl) (dq 32 0 rfl (eG A_58 Z_58 (Ht rfl) (i:=4) rfl rfl rfl) (dp 3 rfl (eG A_60 Z_60 (Ht rfl) (i:=1) rfl rfl rfl) (dq 34 2 rfl (cZ K_153 mM ⟨(Ht rfl),trivial⟩) (bR 33 1 35 3 rfl (cZ K_155 (kO zo zo) ⟨(Ht rfl),(Ht rfl),trivial⟩) (dp 7 rfl (eW fS (Ht rfl) rfl) (dq 37 5 rfl (eG A_58 Z_58 (Ht rfl) (i:=4) rfl rfl rfl) ?_))))))))))
  refine dp 3 rfl (eG A_60 Z_60 (Ht rfl) (i:=1) rfl rfl rfl) (dq 39 7 rfl (cZ K_153 mM ⟨(Ht rfl),trivial⟩) (bR 38 6 40 8 rfl (cZ K_155 (kO zo zo) ⟨(Ht rfl),(Ht rfl),trivial⟩) (dp 7 rfl (eG A_60 Z_60 (Ht rfl) (i:=4) rfl rfl rfl) (dq 42 10 rfl (cZ K_153 mM ⟨(Ht rfl),trivial⟩) (dp 6 rfl (eW eM (Ht rfl) rfl) (dq 44 12 rfl (fX A_56 Z_56 (Ht rfl) (i:=3) rfl rfl) (fG aO rfl (by kernel_rfl) (zF (zF (zF (aJ (aJ (aV ?_)))))))))))))
  refine ro rfl (cZ K_154 (Bf zo zo) ⟨(Ht rfl),(Ht rfl),trivial⟩) (ro rfl (cZ K_150 (sV (by first | assumption | omega) zo zo zo) ⟨(Ht rfl),(Ht rfl),(Ht rfl),trivial⟩) (gZ Z_60 (Ht rfl) (Ht rfl) rfl (i:=2) rfl (aK rfl) rfl rfl (ro rfl (cQ (cJ 0)) (eJ (cB rfl (fJ (fY A_60 Z_60 rfl (i:=2) rfl rfl) ?_) (fJ (fQ rfl) ?_))))))
  ·exact (kJ (Qi.mk_divP x h0 (hc ▸ hz) hm))
  ·exact (aS (by rw [if_neg h0]; rfl))
theorem rL {a:Int} {d:Nat} (hd:0 < d) (ha:(dg a.natAbs).length ≤ 8796093022208) (hd2:(dg d).length ≤ 8796093022208):aP Tryz.prog 243 [dE a,aE d] (oE (qT a d)):=by
 have hg:=yU ha hd2
 have hg0:Nat.gcd a.natAbs d ≠ 0:=fun e=>by have:=Nat.gcd_eq_zero_iff.1 e; omega
 have h1:=Dd a.natAbs (Nat.gcd a.natAbs d); have h2:=Dd d (Nat.gcd a.natAbs d)
 rw [Yj a hd]
 obtain ⟨u,hu⟩:∃ u,u = a.natAbs / Nat.gcd a.natAbs d:=⟨_,rfl⟩
 obtain ⟨v,hv⟩:∃ v,v = d / Nat.gcd a.natAbs d:=⟨_,rfl⟩
 rw [← hu,← hv]
 rw [← hu] at h1
 rw [← hv] at h2
 have h3:=oZ u; have h4:=oZ v
 refine aP.intro Tryz.func243 rfl Tryz.ntmps243 rfl (fun cx=>(ts (rn rfl (fU (Ht rfl)) fun B2=>(ro rfl (cQ (bB.cS (l:=[]) rfl)) (eJ (ts (ro rfl (eW dA (Ht rfl) rfl) (ro rfl (fX A_55 Z_55 (Ht rfl) (i:=0) rfl rfl) (rm rfl (ro rfl (cZ Tryz.call249 (Ix zo zo) ⟨(Ht rfl),(Ht rfl),trivial⟩) (ra rfl (eJ (ts (ro rfl (eW dA (Ht rfl) rfl) (ro rfl (fX A_55 Z_55 (Ht rfl) (i:=0) rfl rfl) (rm rfl (ro rfl (cZ K_250 (uS zo zo zo) ⟨(Ht rfl),(Ht rfl),trivial⟩) ?_)))))))))))))))))
 refine rm rfl (ro rfl (aI.imp (dY (Ht rfl) rfl) (cF hu.symm)) (ro rfl (dY (Ht rfl) rfl) (ra rfl (ra rfl (eJ (ts (rm rfl (rm rfl (ro rfl (cZ K_250 (uS zo zo zo) ⟨(Ht rfl),(Ht rfl),trivial⟩) (rm rfl (ro rfl (aI.imp (dY (Ht rfl) rfl) (cF hv.symm)) (ro rfl (dY (Ht rfl) rfl) (ra rfl (ra rfl (eJ (ts (rm rfl (ro rfl (cZ Tryz.call272 (Ky zo) ⟨(Ht rfl),trivial⟩) (ra rfl (eJ (cK (iB (fun (uu:Unit)=>True) (fun (uu:Unit)=>[(8,aE v),(10,oE (if a < 0 then 45 :: sM u else sM u))]) (fun (uu:Unit)=>[box B2 128 [aC (decide (a < 0)),aE (a).natAbs]]) ?_ (fun uu _=>?_)))))))))))))))))))))))
 ·refine ts (ro rfl (eW gA (Ht rfl) rfl) (ro rfl (fX A_4 Z_4 (Ht rfl) (i := 0) rfl rfl) (eJ (dQ (Ht rfl) (fun hb => ?_) (fun hb => ?_)))))
  ·simp only [decide_eq_true_eq] at hb
   refine cY (rm rfl (ro rfl (jA (bB.cS (l:=[45]) rfl) (Ht rfl) (by first | omega | (simp; omega))) (ra rfl (eJ (aL () trivial (aQ rfl (aZ rfl (iP (by rw [if_pos hb]; rfl)) aX)) (cI.refl _))))))
  ·simp only [decide_eq_false_iff_not] at hb
   refine cU (aL () trivial (aQ rfl (aZ rfl (iP (by rw [if_neg hb])) aX)) (cI.refl _))
 ·have h6 : (if a < 0 then 45 :: sM u else sM u).length ≤ (sM u).length + 1 := by split <;> simp
  refine cK (ts (rm rfl (ro rfl (dU U_55 (Ht rfl) aA) (ro rfl (cA (Ht rfl) (cJ 1)) (rm rfl (fZ rfl rfl (eY rfl rfl (Ht rfl) (fun h=>cX (Ht rfl))) (fZ rfl rfl (eY rfl rfl (Ht rfl) (fun h=>dZ U_55 Z_218 (fW rfl h) (cJ 0) rfl (eX (aF (by first | omega | (simp at h; omega)))))) (fZ rfl rfl (eY rfl rfl (Ht rfl) (fun h=>dJ A_218 Z_218 (fW rfl h))) (fZ rfl rfl (eY rfl rfl (Ht rfl) (fun h=>cA (fW rfl h) (cJ 1))) (ro rfl (dO (Ht rfl) (fun h=>(fW rfl h))) ?_))))))))))
  refine eJ (dQ (Ht rfl) (fun hc=>?_) (fun hc=>?_))
  ·rw [Du] at hc
   have hv1:v = 1:=by simpa using hc
   refine ts (rm rfl (ra rfl (eJ (fK rfl (fJ (fQ rfl) ?_)))))
   exact (iP (by rw [if_pos hv1,List.append_nil]))
  ·rw [Du] at hc
   have hv1:v ≠ 1:=by simpa using hc
   refine cU (ts (rm rfl (ro rfl (jA (Ht rfl) (bB.cS (l:=[47]) rfl) (by simp only [List.length_cons,List.length_nil]; omega)) ?_)))
   refine rm rfl (ro rfl (cZ Tryz.call272 (Ky zo) ⟨(Ht rfl),trivial⟩) (ro rfl (jA (Ht rfl) (Ht rfl) (by simp only [List.length_append,List.length_cons,List.length_nil]; omega)) ?_))
   refine ra rfl (eJ (fK rfl (fJ (fQ rfl) ?_)))
   exact (iP (by rw [if_neg hv1,List.append_assoc]; rfl))
theorem a0z {x:Qi} {L:Nat} [hx:aD x L] (h:L ≤ 8796093022208):aP Tryz.prog 179 [QT x] (oE (Oz x)):=by
 have hxa:=iF hx.fit; have hxb:=iM hx.fit; have hxd:=iG hx.fit
 have hdp:=x.den_pos
 have l1:=uB x.a hdp; have l2:=uB x.b hdp
 refine aP.intro Tryz.func179 rfl Tryz.ntmps179 rfl (fun cx=>(ts (rn rfl (fU (Ht rfl)) fun B1=>(ro rfl (cQ (bB.cS (l:=[]) rfl)) (eJ (cK (ts (ro rfl (eW gB (Ht rfl) rfl) (ro rfl (eW dA (Ht rfl) rfl) (ro rfl (fX A_55 Z_55 (Ht rfl) (i:=0) rfl rfl) (ro rfl (dU U_55 (Ht rfl) aA) (ro rfl (cA (Ht rfl) (cJ 0)) (eJ (dQ (Ht rfl) (fun hb=>?_) (fun hb=>?_)))))))))))))))
 ·simp only [decide_eq_true_eq] at hb
  have h0:x.b = 0:=by have:=aH.1 hb; omega
  refine ts (ro rfl (eW fN (Ht rfl) rfl) (ro rfl (eG A_128 Z_128 (Ht rfl) (i:=0) rfl rfl rfl) (ro rfl (eW fO (Ht rfl) rfl) (ro rfl (fX A_55 Z_55 (Ht rfl) (i:=0) rfl rfl) (ro rfl (cZ K_243 (rL (by assumption) zo zo) ⟨(Ht rfl),(Ht rfl),trivial⟩) ?_)))))
  refine ra rfl (eJ (fK rfl (fJ (fQ rfl) ?_)))
  exact (iP (by rw [Oz,if_pos h0]))
 ·simp only [decide_eq_false_iff_not] at hb
  have h0:x.b ≠ 0:=fun e=>hb (by rw [e]; exact aH.2 rfl)
  refine cU (cK (ts (ro rfl (eW fN (Ht rfl) rfl) (ro rfl (eW dA (Ht rfl) rfl) (ro rfl (fX A_55 Z_55 (Ht rfl) (i:=0) rfl rfl) (ro rfl (dU U_55 (Ht rfl) aA) (ro rfl (cA (Ht rfl) (cJ 0)) (eJ (dQ (Ht rfl) (fun hc=>?_) (fun hc=>?_))))))))))
  ·simp only [decide_eq_true_eq] at hc
   have h1:x.a = 0:=by have:=aH.1 hc; omega
   refine ts (ro rfl (eW gB (Ht rfl) rfl) (ro rfl (eG A_128 Z_128 (Ht rfl) (i:=0) rfl rfl rfl) (ro rfl (eW fO (Ht rfl) rfl) (ro rfl (fX A_55 Z_55 (Ht rfl) (i:=0) rfl rfl) (ro rfl (cZ K_243 (rL (by assumption) zo zo) ⟨(Ht rfl),(Ht rfl),trivial⟩) ?_)))))
   refine ro rfl (jA (Ht rfl) (bB.cS (l:=[105]) rfl) (by first | omega | (simp only [List.length_append,List.length_cons,List.length_nil]; omega))) (ra rfl (eJ (fK rfl (fJ (fQ rfl) ?_))))
   exact (iP (by rw [Oz,if_neg h0,if_pos h1]))
  ·simp only [decide_eq_false_iff_not] at hc
   have h1:x.a ≠ 0:=fun e=>hc (by rw [e]; exact aH.2 rfl)
   refine cU (cK (ts (ro rfl (eW gB (Ht rfl) rfl) (ro rfl (eW gA (Ht rfl) rfl) (ro rfl (fX A_4 Z_4 (Ht rfl) (i:=0) rfl rfl) (eJ (dQ (Ht rfl) (fun hd=>?_) (fun hd=>?_))))))))
   ·simp only [decide_eq_true_eq] at hd
    refine cK (fV (m:=9) (dp 1 rfl (eW fN (Ht rfl) rfl) (dq 27 0 rfl (eG A_128 Z_128 (Ht rfl) (i:=0) rfl rfl rfl) (dp 1 rfl (eW fO (Ht rfl) rfl) (dq 29 2 rfl (fX A_55 Z_55 (Ht rfl) (i:=0) rfl rfl) (bR 28 1 30 3 rfl (cZ K_243 (rL (by assumption) zo zo) ⟨(Ht rfl),(Ht rfl),trivial⟩) ?_))))))
    refine dp 1 rfl (eW gB (Ht rfl) rfl) (dq 32 5 rfl (eG A_128 Z_128 (Ht rfl) (i:=0) rfl rfl rfl) (dp 1 rfl (eW fO (Ht rfl) rfl) (dq 34 7 rfl (fX A_55 Z_55 (Ht rfl) (i:=0) rfl rfl) (fG aO rfl (by kernel_rfl) (zF (zF (aJ (aV (ro rfl (cZ K_243 (rL (by assumption) zo zo) ⟨(Ht rfl),(Ht rfl),trivial⟩) ?_)))))))))
    refine ro rfl (jA (Ht rfl) (Ht rfl) (by first | omega | (simp only [List.length_append,List.length_cons,List.length_nil]; omega))) (ro rfl (jA (Ht rfl) (bB.cS (l:=[105]) rfl) (by first | omega | (simp only [List.length_append,List.length_cons,List.length_nil]; omega))) (ra rfl (eJ (fK rfl (fJ (fQ rfl) ?_)))))
    exact (iP (by rw [Oz,if_neg h0,if_neg h1,if_pos hd,List.append_assoc]))
   ·simp only [decide_eq_false_iff_not] at hd
    refine cU (cK (fV (m:=11) (dp 1 rfl (eW fN (Ht rfl) rfl) (dq 39 0 rfl (eG A_128 Z_128 (Ht rfl) (i:=0) rfl rfl rfl) (dp 1 rfl (eW fO (Ht rfl) rfl) (dq 41 2 rfl (fX A_55 Z_55 (Ht rfl) (i:=0) rfl rfl) (bR 40 1 42 3 rfl (cZ K_243 (rL (by assumption) zo zo) ⟨(Ht rfl),(Ht rfl),trivial⟩) ?_)))))))
    refine dq 43 4 rfl (jA (Ht rfl) (bB.cS (l:=[43]) rfl) (by first | omega | (simp only [List.length_append,List.length_cons,List.length_nil]; omega))) (dp 1 rfl (eW gB (Ht rfl) rfl) (dq 45 6 rfl (eG A_128 Z_128 (Ht rfl) (i:=0) rfl rfl rfl) (dp 1 rfl (eW fO (Ht rfl) rfl) (dq 47 8 rfl (fX A_55 Z_55 (Ht rfl) (i:=0) rfl rfl) (bR 46 7 48 9 rfl (cZ K_243 (rL (by assumption) zo zo) ⟨(Ht rfl),(Ht rfl),trivial⟩) ?_)))))
    refine fG aO rfl (by kernel_rfl) (zF (zF (aJ (aJ (aJ (aV (ro rfl (jA (Ht rfl) (Ht rfl) (by first | omega | (simp only [List.length_append,List.length_cons,List.length_nil]; omega))) (ro rfl (jA (Ht rfl) (bB.cS (l:=[105]) rfl) (by first | omega | (simp only [List.length_append,List.length_cons,List.length_nil]; omega))) (ra rfl (eJ (fK rfl (fJ (fQ rfl) ?_))))))))))))
    exact (iP (by rw [Oz,if_neg h0,if_neg h1,if_neg hd,List.append_assoc,List.append_assoc]; rfl))
theorem Ku {x y:Qi} {L M:Nat} [hx:aD x L] [hy:aD y M] (h:L ≤ 8796093022208) (h2:M ≤ 8796093022208):aP Tryz.prog 79 [bA x,QT y] (aC (decide (Oz x = Oz y))):=by
 refine aP.intro Tryz.func79 rfl Tryz.ntmps79 rfl (fun cx=>(ts (rn rfl (fU (Ht rfl)) fun B2=>(rn rfl (fU (Ht rfl)) fun B3=>(ro rfl (cQ cV) (eJ (cK (fV (m:=3) (dp 2 rfl (eG A_60 Z_60 (Ht rfl) (i:=0) rfl rfl rfl) (dq 5 0 rfl (cZ Tryz.call115 (Qa zo) ⟨(Ht rfl),trivial⟩) (dp 3 rfl (eG A_130 Z_130 (Ht rfl) (i:=1) rfl rfl rfl) (fG aO rfl (by kernel_rfl) (aJ (aJ (aJ (aV (ro rfl (cZ Tryz.call179 (a0z zo) ⟨(Ht rfl),trivial⟩) (ro rfl (Sn (Ht rfl) (Ht rfl)) ?_))))))))))))))))))
 refine ra rfl (eJ ?_)
 exact fK rfl (fQ rfl)
end
section
open Go Go.RowKit
theorem xJ:Tryz.prog.info? 25 = some Tryz.t25:=by kernel_rfl
end
section
open Go Go.RowKit
theorem Ik {γ:Type} {l:List γ} {T:γ → Ty} {p:γ → Bool} [sh:∀ x,cT (T x) 5 true] (hl:l.length ≤ 1000000):aP Tryz.prog 207 [jN 5 (l.map T),Hx Tryz.prog γ (fun x=>[T x]) (fun x=>aC (p x))] (aN .i64 (Dl p l)):=by
 refine aP.intro Tryz.func207 rfl Tryz.ntmps207 rfl (fun cx=>(ts (ro rfl (cQ (cJ 0)) (eJ (cK (ts (rm rfl (ro rfl (dU U_25 (Ht rfl) aA) (ro rfl (cX (cJ 0)) (eJ (eU ?_)))))))))))
 refine bF (fun (k : Nat) => k ≤ l.length ∧ ∀ (i : Nat) (x : γ), i < k → l[i]? = some x → p x = false) (fun (k : Nat) => l.length - k) (fun (k : Nat) => [(0, jN 5 (l.map T)), (1, Hx Tryz.prog γ (fun x => [T x]) (fun x => aC (p x))), (7, NT .i64 l.length), (8, NT .i64 k)]) (fun (k : Nat) => []) 0 ⟨Nat.zero_le _, fun i x h => by omega⟩
  (zS rfl) aY (fun k ⟨hk,hn⟩=>?_)
 refine ts (ro rfl (gJ (Ht rfl) (Ht rfl)) (eJ (cK (dQ (Ht rfl) (fun hb=>?_) (fun hb=>?_)))))
 ·simp only [decide_eq_true_eq] at hb
  refine cU (cK (eU (ts (rm rfl (ra rfl (eJ (ts (rm rfl (rm rfl (rm rfl (ro rfl (dZ U_25 Z_60 (Ht rfl) (Ht rfl) rfl (eX (pW hb))) (ro rfl (dJ A_60 Z_60 (Ht rfl)) (ro rfl (qS (l[k]) (Ht rfl) ⟨(Ht rfl),trivial⟩) (eJ (dQ (Ht rfl) (fun hc=>?_) (fun hc=>?_))))))))))))))))
  ·have hp : p l[k] = true := hc
   refine ts (rm rfl (ra rfl (eJ (fK rfl (fJ (fQ rfl) ?_)))))
   exact (aS (Dm (pW hb) hp hn).symm)
  ·have hp : p l[k] = false := hc
   refine cU (bC (cY (ro rfl (dW (Ht rfl) (cJ 1) z6) (rm rfl (eJ ?_)))))
   refine gQ (k + 1) ⟨hb, fun i x h1 h2 => by
    by_cases e:i = k
    ·subst e; rw [pW hb] at h2; obtain rfl:=Option.some.inj h2; exact hp
    ·exact hn i x zo h2⟩ zo (zS rfl) aY
 ·simp only [decide_eq_false_iff_not] at hb
  refine gG rfl (ts (ro rfl (cQ cV) (eJ (fK rfl (fJ (fQ rfl) ?_)))))
  exact (aS (uY (fun i x h=>hn i x (by have:=(List.getElem?_eq_some_iff.1 h).1; omega) h)).symm)
theorem sL {γ:Type} {l:List γ} {T:γ → Ty} {p:γ → Bool} [sh:∀ x,cT (T x) 5 true] (hl:l.length ≤ 1000000):aP Tryz.prog 103 [jN 5 (l.map T),Hx Tryz.prog γ (fun x=>[T x]) (fun x=>aC (p x))] (aC (l.any p)):=by
 refine aP.intro Tryz.func103 rfl Tryz.ntmps103 rfl (fun cx=>(ts (ro rfl (cQ cV) (eJ (ts (rm rfl (rm rfl (ro rfl (cZ Tryz.call207 (Ik zo) ⟨(Ht rfl),(Ht rfl),trivial⟩) (ro rfl (kW (Ht rfl) cV) (ra rfl (eJ (fK rfl (fJ (fQ rfl) ?_)))))))))))))
 exact (bN (zA p l))
theorem Il {γ:Type} {l:List γ} {T:γ → Ty} {p:γ → Bool} [sh:∀ x,cT (T x) 1 false] (hl:l.length ≤ 1000000):aP Tryz.prog 262 [jN 1 (l.map T),Hx Tryz.prog γ (fun x=>[T x]) (fun x=>aC (p x))] (aN .i64 (Dl p l)):=by
 refine aP.intro Tryz.func262 rfl Tryz.ntmps262 rfl (fun cx=>(ts (ro rfl (cQ (cJ 0)) (eJ (cK (ts (rm rfl (ro rfl (dU U_26 (Ht rfl) aA) (ro rfl (cX (cJ 0)) (eJ (eU ?_)))))))))))
 refine bF (fun (k : Nat) => k ≤ l.length ∧ ∀ (i : Nat) (x : γ), i < k → l[i]? = some x → p x = false) (fun (k : Nat) => l.length - k) (fun (k : Nat) => [(0, jN 1 (l.map T)), (1, Hx Tryz.prog γ (fun x => [T x]) (fun x => aC (p x))), (7, NT .i64 l.length), (8, NT .i64 k)]) (fun (k : Nat) => []) 0 ⟨Nat.zero_le _, fun i x h => by omega⟩
  (zS rfl) aY (fun k ⟨hk,hn⟩=>?_)
 refine ts (ro rfl (gJ (Ht rfl) (Ht rfl)) (eJ (cK (dQ (Ht rfl) (fun hb=>?_) (fun hb=>?_)))))
 ·simp only [decide_eq_true_eq] at hb
  refine cU (cK (eU (ts (rm rfl (ra rfl (eJ (ts (rm rfl (rm rfl (rm rfl (ro rfl (dZ U_26 Z_25 (Ht rfl) (Ht rfl) rfl (eX (pW hb))) (ro rfl (dJ A_25 Z_25 (Ht rfl)) (ro rfl (qS (l[k]) (Ht rfl) ⟨(Ht rfl),trivial⟩) (eJ (dQ (Ht rfl) (fun hc=>?_) (fun hc=>?_))))))))))))))))
  ·have hp : p l[k] = true := hc
   refine ts (rm rfl (ra rfl (eJ (fK rfl (fJ (fQ rfl) ?_)))))
   exact (aS (Dm (pW hb) hp hn).symm)
  ·have hp : p l[k] = false := hc
   refine cU (bC (cY (ro rfl (dW (Ht rfl) (cJ 1) z6) (rm rfl (eJ ?_)))))
   refine gQ (k + 1) ⟨hb, fun i x h1 h2 => by
    by_cases e:i = k
    ·subst e; rw [pW hb] at h2; obtain rfl:=Option.some.inj h2; exact hp
    ·exact hn i x zo h2⟩ zo (zS rfl) aY
 ·simp only [decide_eq_false_iff_not] at hb
  refine gG rfl (ts (ro rfl (cQ cV) (eJ (fK rfl (fJ (fQ rfl) ?_)))))
  exact (aS (uY (fun i x h=>hn i x (by have:=(List.getElem?_eq_some_iff.1 h).1; omega) h)).symm)
theorem Ar {γ:Type} {l:List γ} {T:γ → Ty} {p:γ → Bool} [sh:∀ x,cT (T x) 1 false] (hl:l.length ≤ 1000000):aP Tryz.prog 227 [jN 1 (l.map T),Hx Tryz.prog γ (fun x=>[T x]) (fun x=>aC (p x))] (aC (l.any p)):=by
 refine aP.intro Tryz.func227 rfl Tryz.ntmps227 rfl (fun cx=>(ts (ro rfl (cQ cV) (eJ (ts (rm rfl (rm rfl (ro rfl (cZ Tryz.call262 (Il zo) ⟨(Ht rfl),(Ht rfl),trivial⟩) (ro rfl (kW (Ht rfl) cV) (ra rfl (eJ (fK rfl (fJ (fQ rfl) ?_)))))))))))))
 exact (bN (zA p l))
theorem Iu {x:Qi} {L:Nat} [hx:aD x L] (h:L ≤ 8796093022208):aP Tryz.prog 223 [bA x] (aC (gY x)):=by
 haveI hz:aD Qi.zero 1:=aD.zero (Nat.le_refl 1)
 refine aP.intro Tryz.func223 rfl Tryz.ntmps223 rfl (fun cx=>(ts (rn rfl (fU (Ht rfl)) fun B1=>(ro rfl (cQ cV) (eJ (ts (ro rfl (eG A_60 Z_60 (Ht rfl) (i:=0) rfl rfl rfl) (ro rfl (cZ Tryz.call55 In ⟨(Ht rfl),trivial⟩) (rm rfl (fZ rfl rfl (eY rfl rfl (Ht rfl) (fun h=>eG A_60 Z_60 (Ht rfl) (i:=0) rfl rfl rfl)) (fZ rfl rfl (eY rfl rfl (Ht rfl) (fun h=>aI.imp (rH ) nF)) (fZ rfl rfl (eY rfl rfl (Ht rfl) (fun h=>cZ Tryz.call51 (Ko zo) ⟨(fW rfl h),(fW rfl h),trivial⟩)) ?_))))))))))))
 refine fZ rfl rfl (eY rfl rfl (Ht rfl) (fun h=>Jm (fW rfl h) cV)) (ro rfl (dO (Ht rfl) (fun h=>(fW rfl h))) (ra rfl (eJ (fK rfl (fJ (fQ rfl) ?_)))))
 exact (bN (a1a x))
theorem Cq {x:Qi} {L:Nat} [hx:aD x L] (h:L ≤ 8796093022208):aP Tryz.prog 222 [bA x] (aC (!gY x)):=by
 refine aP.intro Tryz.func222 rfl Tryz.ntmps222 rfl (fun cx=>(ts (rn rfl (fU (Ht rfl)) fun B1=>(ro rfl (cQ cV) (eJ (ts (ro rfl (eG A_60 Z_60 (Ht rfl) (i:=0) rfl rfl rfl) (ro rfl (cZ Tryz.call223 (Iu zo) ⟨(Ht rfl),trivial⟩) (ro rfl (dT (Ht rfl)) (ra rfl (eJ ?_)))))))))))
 exact fK rfl (fQ rfl)
theorem Ex {z:List Qi} {L:Nat} (hz:cD z L) (h:L ≤ 8796093022208) (hl:z.length ≤ 1000):aP Tryz.prog 129 [cE z] (aN .i64 (if z.all gY then 0 else 1)):=by
 obtain ⟨l,hzl⟩:∃ l:List {x:Qi // aD x L},z = l.map Subtype.val:=⟨z.attach.map fun x=>⟨x.1,hz x.1 x.2⟩,by simp⟩
 subst hzl
 have hll:l.length ≤ 1000:=by simpa using hl
 refine aP.intro Tryz.func129 rfl Tryz.ntmps129 rfl (fun cx=>(vM (E':=[(0,_)]) (aZ rfl (jC (Us:=l.map fun x=>bA x.1) (by simp [List.map_map,Function.comp_def])) aX) ?_))
 refine ts (ro rfl (cQ (cJ 0)) (eJ (cK (ts (rm rfl (ro rfl (cZ Tryz.call103 (sL (l:=l) (T:=fun x=>bA x.1) (p:=fun x=>!gY x.1) zo) ⟨(Ht rfl),(bB.fn Tryz.call222 (γ:={x:Qi // aD x L}) (Ts:=fun x=>[bA x.1]) (U:=fun x=>aC (!gY x.1)) (fun x=>haveI:=x.2; Cq h)),trivial⟩) (eJ (dQ (Ht rfl) (fun hb=>?_) (fun hb=>?_)))))))))
 ·have hn : ¬ (l.map Subtype.val).all gY = true := by simp at hb ⊢; exact hb
  refine ts (ro rfl (cQ (cJ 1)) (eJ (fK rfl (fJ (fQ rfl) ?_))))
  exact (aS (by rw [if_neg hn]; rfl))
 ·have hn : (l.map Subtype.val).all gY = true := by simp at hb ⊢; exact hb
  refine cU (ts (ro rfl (cQ (cJ 0)) (eJ (fK rfl (fJ (fQ rfl) ?_)))))
  exact (aS (by rw [if_pos hn]; rfl))
theorem Eu {l:List Qi} (hl:l.length ≤ 1000):iI Tryz.prog 109 [cE l] [] (Value) (fun v=>Is v) (fun v=>[bI 60 5 v (l.map bA)]) (fun _=>True):=by
 refine iI.intro Tryz.func109 rfl Tryz.ntmps109 rfl (fun cx Z=>(ts (ro rfl (cQ cV) (eJ (cK (ts (rm rfl (ro rfl (So U_25 (Ht rfl)) (eJ (Uv (Ht rfl) (fun hb=>?_) (fun hb=>?_)))))))))))
 ·have hT : l.map bA = [] := hb rfl
  refine ts (ro rfl (cQ cV) (eJ (Eo 60 5 ?_)))
  exact kG (.slice none 0 0) trivial [0,1] ⟨⟨_,rfl,fun _ _ _ h=>h⟩,⟨_,rfl,(bL hT.symm)⟩,trivial⟩ (by decide) (vG rfl (fQ rfl))
 ·refine cU (ts (rn rfl (vV U_25 Z_60 O_60) fun B5 => (rm rfl (Ba (inf := Tryz.t60) pR mO rfl rfl rfl (Ht rfl) (Ht rfl) (i := 1) rfl (fun T hT => by obtain ⟨x, _, rfl⟩ := List.mem_map.1 hT; exact El.ag rfl) (by show _ * 88 ≤ _; simp only [List.length_map, List.length_nil]; omega) (by simp only [List.length_map, List.length_nil]; omega) rfl (fun v2 => ?_)))))
  refine ra rfl (eJ ?_)
  exact kG v2 trivial [0,1] ⟨⟨_,rfl,fun _ _ _ h=>h⟩,⟨_,rfl,fun _ _ _ h=>h⟩,trivial⟩ (by decide) (vG rfl (fQ rfl))
theorem Kn {l:List Qi} (hl:l.length ≤ 1000):aP Tryz.prog 109 [cE l] (cE l):=(Eu hl).fun fun v _=>iY
theorem Ks {n:Nat} {f:Nat → Nat → Qi} (hn:n ≤ 1000):iI Tryz.prog 110 [NT .i64 n,Hx Tryz.prog (Fin n × Fin n) (fun x=>[NT .i64 x.1.1,NT .i64 x.2.1]) (fun x=>bA (f x.1.1 x.2.1))] [] (Nat) (fun B=>Is (.slice (some ⟨B,0,none⟩) n n)) (fun B=>[pL B 25 60 5 (cL bA (tab n fun i=>tab n (f i)))]) (fun _=>True):=by
 refine iI.intro Tryz.func110 rfl Tryz.ntmps110 rfl (fun cx Z=>(ts (ro rfl (cQ cV) (eJ (ts (rm rfl (rn rfl (eI (T:=Is (.slice none 0 0)) (i:=Tryz.t25) Tryz.underlying26 xJ rfl rfl (Ht rfl) rfl (fun _=>rfl) trivial (by show 24 * _ ≤ _; omega) zo) fun B9=>(ra rfl (eJ (cK (ts (rm rfl (ro rfl (fT U_26 (Ht rfl)) (ro rfl (cX (cJ 0)) (eJ (eU (pZ 1 rfl (xK (e:=60) (s:=5)) ?_)))))))))))))))))
 refine eS (fun (k : Nat) (m : List (List Qi)) => kM (fun i => tab n (f i)) n m k) (fun (k : Nat) (m : List (List Qi)) => n - k) (fun (k : Nat) (m : List (List Qi)) => [(0, NT .i64 n), (1, Hx Tryz.prog (Fin n × Fin n) (fun x => [NT .i64 x.1.1, NT .i64 x.2.1]) (fun x => bA (f x.1.1 x.2.1))), (5, Is (.slice (some ⟨B9, 0, none⟩) n n)), (11, NT .i64 n), (12, NT .i64 k)]) (fun (k : Nat) (m : List (List Qi)) => [Z, pL B9 25 60 5 (cL bA m)]) 0 (List.replicate n []) (kM.start _ _ _)
  (zS rfl) (aU (fun _ _ _ h=>h) (aU (dM (qW bA n)) aY)) (fun k m hS=>?_)
 refine ts (ro rfl (gJ (Ht rfl) (Ht rfl)) (eJ (cK (dQ (Ht rfl) (fun hk=>?_) (fun hk=>?_)))))
 ·simp only [decide_eq_true_eq] at hk
  have hlen:=hS.len
  refine oV 1 (k) rfl (lG (m:=m) (i:=k) zo) (fun v=>(cU (cK (eU (ts (rm rfl (ra rfl (eJ (ts (rm rfl (rm rfl (rm rfl (rn rfl (jJ (T:=bA Qi.zero) (i:=Tryz.t60) pR mO rfl rfl (Ht rfl) rfl kV (El.ag rfl) (by show 88 * _ ≤ _; omega) zo) fun B18=>(ro rfl (gX U_26 Z_25 (Ht rfl) (Ht rfl) rfl zo (by rw [Nat.mul_one,Nat.zero_add])) ?_))))))))))))))
  refine yC Z_25 (Ht rfl) (Ht rfl) (by simp; omega) (j:=1) (l:=3) rfl rfl rfl ?_
  refine eJ (cK (eB [0,1,3] rfl (by decide) (cY (rm rfl (rm rfl (ro rfl (gX U_26 Z_25 (Ht rfl) (Ht rfl) rfl zo (by rw [Nat.mul_one,Nat.zero_add])) ?_))))))
  refine ro rfl (kX A_25 Z_25 (Ht rfl) (j:=1) rfl) (ro rfl (sD U_25 (Ht rfl) (i:=2) rfl (show ((List.replicate n (bA Qi.zero)).length:Int) = ((n:Nat):Int) by simp)) (ro rfl (cX (cJ 0)) (eJ (eU ?_))))
  refine eS (fun (j : Nat) (out : List Qi) => kM (f k) n out j) (fun (j : Nat) (out : List Qi) => n - j) (fun (j : Nat) (out : List Qi) => [(0, NT .i64 n), (1, Hx Tryz.prog (Fin n × Fin n) (fun x => [NT .i64 x.1.1, NT .i64 x.2.1]) (fun x => bA (f x.1.1 x.2.1))), (5, Is (.slice (some ⟨B9, 0, none⟩) n n)), (6, NT .i64 k), (11, NT .i64 n), (12, NT .i64 k), (24, NT .i64 n), (25, NT .i64 j)]) (fun (j : Nat) (out : List Qi) => [Z, Sb B9 25 60 5 (cL bA m) k B18, bI 60 5 B18 (out.map bA)]) 0 (List.replicate n Qi.zero) (kM.start _ _ _)
   (zS rfl) (aU (fun _ _ _ h=>h) (aU (fun _ _ _ h=>h) (aU (bL (qX bA _ _)) aY))) (fun j out hT=>?_)
  refine ts (ro rfl (gJ (Ht rfl) (Ht rfl)) (eJ (cK (dQ (Ht rfl) (fun hj=>?_) (fun hj=>?_)))))
  ·simp only [decide_eq_true_eq] at hj
   have hlen2:=hT.len
   refine cU (cK (eU (ts (rm rfl (ra rfl (eJ (fV (m:=9) (dp 5 rfl (cX (Ht rfl)) (dp 6 rfl (cX (Ht rfl)) (bR 28 0 29 1 rfl (gX U_26 Z_25 (Ht rfl) (Ht rfl) rfl zo (by rw [Nat.mul_one,Nat.zero_add])) ?_))))))))))
   refine dq 30 2 rfl (kX A_25 Z_25 (Ht rfl) (j:=1) rfl) (dp 7 rfl (cX (Ht rfl)) (dp 1 rfl (cX (Ht rfl)) (dp 6 rfl (cX (Ht rfl)) (dp 7 rfl (cX (Ht rfl)) (C.D_step (Ei:=[(33,_),(34,_),(35,_)]) rfl rfl (bV (bG 5 rfl rfl) (bV (bG 6 rfl rfl) (bV (bG 7 rfl rfl) bW))) (dX rfl (qS ((⟨k,hk⟩,⟨j,hj⟩):Fin n × Fin n) (Ht rfl) ⟨(Ht rfl),(Ht rfl),trivial⟩)) (fG aO rfl (by kernel_rfl) (zF (zF (aJ (aV ?_))))))))))
   refine ro rfl (cP U_25 Z_60 (Ht rfl) (Ht rfl) rfl (i:=2) rfl (by first | omega | (simp; omega)) rfl) (lE Z_60 (Ht rfl) (Ht rfl) (El.ag rfl) (i:=2) rfl rfl (by first | omega | (simp; omega)) rfl (eJ (bC (cY (ro rfl (dW (Ht rfl) (cJ 1) z6) (rm rfl (eJ (gQ (j + 1,_) (hT.next hj rfl) (by dsimp only; omega) (zS rfl) (aU (fun _ _ _ h=>h) (aU (fun _ _ _ h=>h) (aU (bL (iU bA _ _ _)) aY)))))))))))
  ·simp only [decide_eq_false_iff_not] at hj
   obtain rfl:j = n:=Nat.le_antisymm hT.kle zo
   have hfin:=hT.fin
   refine gG rfl (bC (jH 1 2 rfl rfl (by decide) (by simp; omega) ?_))
   refine cY (ro rfl (dW (Ht rfl) (cJ 1) z6) (rm rfl (eJ (eB [0,1] rfl (by decide) (gQ (k + 1,_) (hS.next hk hfin) (by dsimp only; omega) (zS rfl) (aU (fun _ _ _ h=>h) (aU (dM (jY bA _ _ _)) aY)))))))
 ·simp only [decide_eq_false_iff_not] at hk
  obtain rfl:k = n:=Nat.le_antisymm hS.kle zo
  have hfin:=hS.fin
  refine gG rfl (ts (rm rfl (ra rfl (eJ ?_))))
  exact kG B9 trivial [0,1] ⟨⟨_,rfl,fun _ _ _ h=>h⟩,⟨_,rfl,(dM (by rw [hfin]))⟩,trivial⟩ (by decide) (vG rfl (fQ rfl))
theorem Cn {n:Nat} {f:Nat → Nat → Qi} (hn:n ≤ 1000):aP Tryz.prog 110 [NT .i64 n,Hx Tryz.prog (Fin n × Fin n) (fun x=>[NT .i64 x.1.1,NT .i64 x.2.1]) (fun x=>bA (f x.1.1 x.2.1))] (fB (tab n fun i=>tab n (f i))):=(Ks hn).fun fun B _ v S V h1 h2=>jC (by simp [cL,List.map_map,Function.comp_def]) v V (Dh (by simp [cL,aT]) (Nat.le_refl _) v S V h1 h2)
end
section
open Go Go.RowKit
theorem rG {n : Nat} {E : cH} {H : Hp} {d : Option Tmp} {t : TypeId} {pos : String} {af : Array Edge} {g : Option (Nat × Bool)}  :
  aI Tryz.prog n E H ⟨d,.build 28 #[],t,pos,af,g⟩ (fI [Is (.slice none 0 0),Is (.slice none 0 0)]) :=
 gP (parts := []) fun a V w hs => by
  refine ⟨.agg #[(.slice none 0 0),(.slice none 0 0)],?_,[(.slice none 0 0),(.slice none 0 0)],rfl,aW (⟨rfl,trivial⟩) (aW (⟨rfl,trivial⟩) (aG))⟩
  simp [Instr.build,Instr.fill,Sem.run_bind,Result.andThen,fP,O_28,U_28,Z_25,Z_26]
theorem sT {n : Nat} {E : cH} {H : Hp} {d : Option Tmp} {t : TypeId} {pos : String} {af : Array Edge} {g : Option (Nat × Bool)} {x0 x1 : Operand} {T0 T1 : Ty} [s0 : cT T0 1 false] (h0 : bB E x0 T0) [s1 : cT T1 1 false] (h1 : bB E x1 T1) :
  aI Tryz.prog n E H ⟨d,.build 28 #[(0,x0),(1,x1)],t,pos,af,g⟩ (fI [T0,T1]) :=
 gP (parts := [(0, x0), (1, x1)]) fun a V w hs => by
  have p0:=h0 n V a hs
  generalize e0:a.eval x0 = v0 at p0
  have q0:=(s0.ok v0 V p0).2.2 rfl
  have p1:=h1 n V a hs
  generalize e1:a.eval x1 = v1 at p1
  have q1:=(s1.ok v1 V p1).2.2 rfl
  refine ⟨.agg #[v0,v1],?_,[v0,v1],rfl,aW (⟨p0,q0⟩) (aW (⟨p1,q1⟩) (aG))⟩
  simp [e0,e1,Instr.build,Instr.fill,Sem.run_bind,Result.andThen,fP,q0.cells,q1.cells,O_28,U_28,Z_25,Z_26]
theorem iX (a:Addr) (w:World):(Instr.fieldAt 28 (.pointer (some a)) 0).run Tryz.prog w = .ok (.pointer (some (a.add 0))) w:=by
 simp [Instr.fieldAt,Instr.sureAddr,fieldPlace,Sem.run_bind,Result.andThen,U_28,Z_25]
end
section
open Go Go.RowKit
theorem a0q {s:List (List Qi)} {n i j:Nat} (hs:eR s n n) (hi:i < n) (hj:j < n):aP Tryz.prog 192 [NT .i64 i,NT .i64 j,PT (fB s)] (bA (gm s i j)):=by
 have h1:=hs.1; have h2:=hs.row hi
 refine aP.intro Tryz.func192 rfl Tryz.ntmps192 rfl (fun cx=>(ts (rn rfl (eK (Ts:=[Is (.bool false),Is (.slice none 0 0),Is (.bool false),Is (.slice none 0 0),Is (.slice none 0 0)]) O_60 rfl (fun V=>aW zd (aW zd (aW zd (aW zd (aW zd (aG))))))) fun B5=>(eJ (ts (ro rfl (dJ A_26 Z_26 (Ht rfl)) (rm rfl (ro rfl (dZ U_26 Z_25 (Ht rfl) (Ht rfl) rfl (eX (eQ (d:=[]) zo))) (ro rfl (dJ A_25 Z_25 (Ht rfl)) ?_)))))))))
 refine rm rfl (ro rfl (dZ U_25 Z_60 (Ht rfl) (Ht rfl) rfl (eX (eQ (d:=Qi.zero) zo))) (ro rfl (dJ A_60 Z_60 (Ht rfl)) (gZ Z_60 (Ht rfl) (Ht rfl) rfl (i:=0) rfl (aK rfl) rfl rfl (eJ ?_))))
 exact fK rfl (fY A_60 Z_60 rfl (i:=0) rfl rfl)
theorem Ew {z:List Qi} {s:List (List Qi)} {L:Nat} (hz:cD z L) (h:L ≤ 8796093022208) (hl:z.length ≤ 1000) (hl2:s.length ≤ 1000):aP Tryz.prog 93 [cE z,fB s] (fR [gR (pV (cO z s) z) (pV (cO z s) s),aN .i64 (cO z s)]):=by
 refine aP.intro Tryz.func93 rfl Tryz.ntmps93 rfl (fun cx=>(ts (rn rfl (qR (Ht rfl)) fun B3=>(rn rfl (eK (Ts:=[Is (.slice none 0 0),Is (.slice none 0 0)]) O_28 rfl (fun V=>aW zd (aW zd (aG)))) fun B4=>(ro rfl (cQ (cJ 0)) (eJ (cK (cK (gW (i:=0) (tt:=3) rfl rfl oN (cY (rm rfl (ro rfl (dU U_25 (Ht rfl) aA) (ro rfl (gJ (Ht rfl) (cJ 1)) (rm rfl (fZ rfl rfl (eY rfl rfl (Ht rfl) (fun h=>cX (Ht rfl))) (fZ rfl rfl (eY rfl rfl (Ht rfl) (fun h=>dU U_25 (fW rfl h) aA)) ?_))))))))))))))))
 refine fZ rfl rfl (eY rfl rfl (Ht rfl) (fun h=>eN (fW rfl h) (cJ 8))) (ro rfl (kP (Ht rfl) (fun h=>(fW rfl h))) (rm rfl (fZ rfl rfl (eY rfl rfl (Ht rfl) (fun h=>dJ A_26 Z_26 (Ht rfl))) (fZ rfl rfl (eY rfl rfl (Ht rfl) (fun h=>dU U_26 (fW rfl h) aA)) (fZ rfl rfl (eY rfl rfl (Ht rfl) (fun h=>cX (Ht rfl))) (fZ rfl rfl (eY rfl rfl (Ht rfl) (fun h=>dU U_25 (fW rfl h) aA)) (fZ rfl rfl (eY rfl rfl (Ht rfl) (fun h=>iQ (fW rfl h) (fW rfl h))) ?_)))))))
 refine ro rfl (kP (Ht rfl) (fun h=>(fW rfl h))) (eJ (dQ (Ht rfl) (fun hb=>?_) (fun hb=>?_)))
 ·have he := Gl hb
  refine ts (ro rfl (aI.imp (rG ) sA) (gZ Z_28 (Ht rfl) (Ht rfl) rfl (i:=1) rfl (aK rfl) rfl rfl (ro rfl (cQ (cJ 4)) (eJ (cB rfl (fJ (fY A_28 Z_28 rfl (i:=1) rfl rfl) ?_) (fJ (fQ rfl) ?_))))))
  ·exact (Ds he (by decide))
  ·exact (aS he.symm)
 ·refine cU (cK (ts (ro rfl (dJ A_26 Z_26 (Ht rfl)) (ro rfl (dU U_26 (Ht rfl) aA) (ro rfl (cX (cJ 0)) (eJ (eU ?_)))))))
  refine bF (fun (k : Nat) => k ≤ s.length ∧ ∀ (i : Nat) (r : List Qi), i < k → s[i]? = some r → r.length = z.length) (fun (k : Nat) => s.length - k) (fun (k : Nat) => [(0, cE z), (3, PT (fB s)), (4, cC B4 0), (25, fB s), (26, NT .i64 s.length), (27, NT .i64 k)]) (fun (k : Nat) => [SA.emp, box B4 28 [Is (.slice none 0 0), Is (.slice none 0 0)]]) 0 ⟨Nat.zero_le _, fun i r h => by omega⟩
   (zS rfl) (cI.refl _) (fun k ⟨hk,hr⟩=>?_)
  refine ts (ro rfl (gJ (Ht rfl) (Ht rfl)) (eJ (cK (dQ (Ht rfl) (fun hc=>?_) (fun hc=>?_)))))
  ·simp only [decide_eq_true_eq] at hc
   refine cU (cK (eU (ts (ro rfl (dZ U_26 Z_25 (Ht rfl) (Ht rfl) rfl (eX (pW hc))) (ro rfl (dJ A_25 Z_25 (Ht rfl)) (ra rfl (eJ (ts (rm rfl (ro rfl (dU U_25 (Ht rfl) aA) (rm rfl (ro rfl (dU U_25 (Ht rfl) aA) (ro rfl (iQ (Ht rfl) (Ht rfl)) (eJ (dQ (Ht rfl) (fun hd=>?_) (fun hd=>?_))))))))))))))))
   ·have hd2 : ¬ (s[k]).length = z.length := by simpa using hd
    have he:=Ji (pW hc) hd2
    refine ts (ro rfl (aI.imp (rG ) sA) (gZ Z_28 (Ht rfl) (Ht rfl) rfl (i:=1) rfl (aK rfl) rfl rfl (ro rfl (cQ (cJ 4)) (eJ (cB rfl (fJ (fY A_28 Z_28 rfl (i:=1) rfl rfl) ?_) (fJ (fQ rfl) ?_))))))
    ·exact (Ds he (by decide))
    ·exact (aS he.symm)
   ·have hd2 : (s[k]).length = z.length := by simpa using hd
    refine cU (bC (cY (ro rfl (dW (Ht rfl) (cJ 1) z6) (rm rfl (eJ ?_)))))
    refine gQ (k + 1) ⟨hc, fun i r h1 h2 => by
      by_cases e:i = k
      ·subst e; rw [pW hc] at h2; obtain rfl:=Option.some.inj h2; exact hd2
      ·exact hr i r zo h2⟩ zo (zS rfl) (cI.refl _)
  ·simp only [decide_eq_false_iff_not] at hc
   have hall:∀ (i:Nat) (r:List Qi),s[i]? = some r → r.length = z.length:=fun i r h=>hr i r (by have:=(List.getElem?_eq_some_iff.1 h).1; omega) h
   have hpos:=Jh hb hall
   refine gG rfl (cK (ts (rm rfl (ro rfl (cZ Tryz.call129 (Ex hz h zo) ⟨(Ht rfl),trivial⟩) (ra rfl (eJ (ts (rm rfl (ro rfl (nG (Ht rfl) cV) (eJ (dQ (Ht rfl) (fun hd=>?_) (fun hd=>?_))))))))))))
   ·have hd2 : ¬ (if z.all gY = true then (0 : Int) else 1) = 0 := by simpa using hd
    refine ts (ro rfl (aI.imp (rG ) sA) (rm rfl (gZ Z_28 (Ht rfl) (Ht rfl) rfl (i:=1) rfl (aK rfl) rfl rfl (ra rfl (eJ (cB rfl (fJ (fY A_28 Z_28 rfl (i:=1) rfl rfl) ?_) (fJ (fQ rfl) ?_)))))))
    ·exact (Ds hpos hd2)
    ·exact (aS hpos.symm)
   ·have hd2 : (if z.all gY = true then (0 : Int) else 1) = 0 := by simpa using hd
    have he:=hpos.trans hd2
    obtain ⟨h1,h2,hsh,_⟩:=rZ he
    refine cU (ts (rm rfl (ro rfl (cZ Tryz.call109 (Kn zo) ⟨(Ht rfl),trivial⟩) (rm rfl (ro rfl (dU U_25 (Ht rfl) aA) (ro rfl (pO (γ:=Fin z.length × Fin z.length) (Ts:=fun x=>[NT .i64 x.1.1,NT .i64 x.2.1]) (U:=fun x=>bA (gm s x.1.1 x.2.1)) Tryz.call192 (fun x=>a0q hsh x.1.2 x.2.2) ⟨(Ht rfl),trivial⟩) (ro rfl (cZ Tryz.call110 (eZ (Cn (n:=z.length) (f:=gm s) zo) (jC (by rw [← pM hsh]))) ⟨(Ht rfl),(Ht rfl),trivial⟩) ?_)))))))
    refine ro rfl (sT (Ht rfl) (Ht rfl)) (gZ Z_28 (Ht rfl) (Ht rfl) rfl (i:=1) rfl (aK rfl) rfl rfl (ro rfl (cQ (cJ 0)) (eJ (cB rfl (fJ (fY A_28 Z_28 rfl (i:=1) rfl rfl) ?_) (fJ (fQ rfl) ?_)))))
    ·exact (Sf he)
    ·exact (aS he.symm)
theorem Kq {z:List Qi} {s:List (List Qi)}:aP Tryz.prog 31 [gR z s] (NT .i64 z.length):=by
 refine aP.intro Tryz.func31 rfl Tryz.ntmps31 rfl (fun cx=>(ts (rn rfl (fU (Ht rfl)) fun B1=>(ro rfl (cQ (cJ 0)) (eJ (ts (ro rfl (eW iX (Ht rfl) rfl) (ro rfl (fX A_25 Z_25 (Ht rfl) (i:=0) rfl rfl) (ro rfl (dU U_25 (Ht rfl) aA) (ra rfl (eJ ?_)))))))))))
 exact fK rfl (fQ rfl)
theorem Kt {z:List Qi} {s:List (List Qi)} {i:Int}:aP Tryz.prog 138 [gR z s,aN .i64 i] (aC (decide (1 ≤ i ∧ i ≤ z.length))):=by
 refine aP.intro Tryz.func138 rfl Tryz.ntmps138 rfl (fun cx=>(ts (rn rfl (fU (Ht rfl)) fun B2=>(ro rfl (cQ cV) (eJ (ts (rm rfl (ro rfl (kW (Ht rfl) cV) (rm rfl (fZ rfl rfl (eY rfl rfl (Ht rfl) (fun h=>cX (Ht rfl))) (fZ rfl rfl (eY rfl rfl (Ht rfl) (fun h=>eW iX (Ht rfl) rfl)) (fZ rfl rfl (eY rfl rfl (Ht rfl) (fun h=>fX A_25 Z_25 (fW rfl h) (i:=0) rfl rfl)) (fZ rfl rfl (eY rfl rfl (Ht rfl) (fun h=>dU U_25 (fW rfl h) aA)) (fZ rfl rfl (eY rfl rfl (Ht rfl) (fun h=>Sq (fW rfl h) (fW rfl h))) ?_))))))))))))))
 refine ro rfl (dO (Ht rfl) (fun h=>(fW rfl h))) (ra rfl (eJ (fK rfl (fJ (fQ rfl) ?_))))
 exact (bN (by rw [Bool.eq_iff_iff]; simp))
end
section
open Go Go.RowKit
theorem iO (a:Addr) (w:World):(Instr.fieldAt 28 (.pointer (some a)) 1).run Tryz.prog w = .ok (.pointer (some (a.add 1))) w:=by
 simp [Instr.fieldAt,Instr.sureAddr,fieldPlace,Sem.run_bind,Result.andThen,U_28,Z_26]
end
section
open Go Go.RowKit
theorem Zq {z:List Qi} {s:List (List Qi)} {i:Int} (hl:z.length ≤ 1000):aP Tryz.prog 67 [gR z s,aN .i64 i] (fR [bA (pkv z i),aN .i64 (if 1 ≤ i ∧ i ≤ z.length then 0 else 1)]):=by
 refine aP.intro Tryz.func67 rfl Tryz.ntmps67 rfl (fun cx=>(ts (rn rfl (fU (Ht rfl)) fun B2=>(rn rfl (eK (Ts:=[Is (.bool false),Is (.slice none 0 0),Is (.bool false),Is (.slice none 0 0),Is (.slice none 0 0)]) O_60 rfl (fun V=>aW zd (aW zd (aW zd (aW zd (aW zd (aG))))))) fun B4=>(ro rfl (cQ (cJ 0)) (eJ (cK (ts (ro rfl (eG A_28 Z_28 (Ht rfl) (i:=0) rfl rfl rfl) (rm rfl (ro rfl (cZ Tryz.call138 Kt ⟨(Ht rfl),(Ht rfl),trivial⟩) ?_)))))))))))
 refine ro rfl (dT (Ht rfl)) (eJ (dQ (Ht rfl) (fun hb=>?_) (fun hb=>?_)))
 ·have hn : ¬ (1 ≤ i ∧ i ≤ (z.length : Int)) := by simpa only [Bool.not_eq_true', decide_eq_false_iff_not] using hb
  refine ts (ro rfl (aI.imp (rH ) nF) (gZ Z_60 (Ht rfl) (Ht rfl) rfl (i:=1) rfl (aK rfl) rfl rfl (ro rfl (cQ (cJ 1)) (eJ (cB rfl (fJ (fY A_60 Z_60 rfl (i:=1) rfl rfl) ?_) (fJ (fQ rfl) ?_))))))
  ·exact (kJ (by rw [pkv,if_neg hn]))
  ·exact (aS (by rw [if_neg hn]; rfl))
 ·have hp : 1 ≤ i ∧ i ≤ (z.length : Int) := by simpa only [Bool.not_eq_false', decide_eq_true_eq] using hb
  have hq:(i - 1).toNat < z.length:=by omega
  refine cU (ts (ro rfl (eW iX (Ht rfl) rfl) (ro rfl (fX A_25 Z_25 (Ht rfl) (i:=0) rfl rfl) (rm rfl (ro rfl (iD (Ht rfl) cV (wD zo)) (ro rfl (dZ U_25 Z_60 (Ht rfl) (Ht rfl) (by omega:i - 1 = (((i - 1).toNat:Nat):Int)) (eX (eQ (d:=Qi.zero) hq))) (ro rfl (dJ A_60 Z_60 (Ht rfl)) (gZ Z_60 (Ht rfl) (Ht rfl) rfl (i:=1) rfl (aK rfl) rfl rfl (ro rfl (cQ (cJ 0)) (eJ (cB rfl (fJ (fY A_60 Z_60 rfl (i:=1) rfl rfl) ?_) (fJ (fQ rfl) ?_))))))))))))
  ·exact (kJ (by rw [pkv,if_pos hp]))
  ·exact (aS (by rw [if_pos hp]; rfl))
theorem a1G {z:List Qi} {s:List (List Qi)} {i j:Int} (hs:eR s z.length z.length) (hl:z.length ≤ 1000):aP Tryz.prog 39 [gR z s,aN .i64 i,aN .i64 j] (fR [bA (Yg z.length s i j),aN .i64 (if (1 ≤ i ∧ i ≤ z.length) ∧ 1 ≤ j ∧ j ≤ z.length then 0 else 1)]):=by
 have hs1:=hs.1
 refine aP.intro Tryz.func39 rfl Tryz.ntmps39 rfl (fun cx=>(ts (rn rfl (fU (Ht rfl)) fun B3=>(rn rfl (eK (Ts:=[Is (.bool false),Is (.slice none 0 0),Is (.bool false),Is (.slice none 0 0),Is (.slice none 0 0)]) O_60 rfl (fun V=>aW zd (aW zd (aW zd (aW zd (aW zd (aG))))))) fun B6=>(ro rfl (cQ (cJ 0)) (eJ (cK (ts (ro rfl (eG A_28 Z_28 (Ht rfl) (i:=0) rfl rfl rfl) (rm rfl (ro rfl (cZ Tryz.call138 Kt ⟨(Ht rfl),(Ht rfl),trivial⟩) ?_)))))))))))
 refine ro rfl (dT (Ht rfl)) (rm rfl (fZ rfl rfl (eY rfl rfl (Ht rfl) (fun h=>eG A_28 Z_28 (Ht rfl) (i:=0) rfl rfl rfl)) (fZ rfl rfl (eY rfl rfl (Ht rfl) (fun h=>cX (Ht rfl))) (fZ rfl rfl (eY rfl rfl (Ht rfl) (fun h=>cZ Tryz.call138 Kt ⟨(fW rfl h),(fW rfl h),trivial⟩)) (fZ rfl rfl (eY rfl rfl (Ht rfl) (fun h=>dT (fW rfl h))) (ro rfl (kP (Ht rfl) (fun h=>(fW rfl h))) (eJ (dQ (Ht rfl) (fun hb=>?_) (fun hb=>?_)))))))))
 ·have hn : ¬ ((1 ≤ i ∧ i ≤ (z.length : Int)) ∧ 1 ≤ j ∧ j ≤ (z.length : Int)) := by simp only [Bool.or_eq_true, Bool.not_eq_true', decide_eq_false_iff_not] at hb; exact fun k => hb.elim (fun h => h k.1) (fun h => h k.2)
  refine ts (rn rfl (eK (Ts:=[Is (.bool false),Is (.slice none 0 0),Is (.bool false),Is (.slice none 0 0),Is (.slice none 0 0)]) O_60 rfl (fun V=>aW zd (aW zd (aW zd (aW zd (aW zd (aG))))))) fun B8=>(eJ (ts (ro rfl (eG A_60 Z_60 (Ht rfl) (i:=2) rfl rfl rfl) (gZ Z_60 (Ht rfl) (Ht rfl) rfl (i:=1) rfl (aK rfl) rfl rfl (ro rfl (cQ (cJ 1)) (eJ (cB rfl (fJ (fY A_60 Z_60 rfl (i:=1) rfl rfl) ?_) (fJ (fQ rfl) ?_)))))))))
  ·exact (fun v V k=>by rw [Yg,if_neg hn]; exact nF v V k)
  ·exact (aS (by rw [if_neg hn]; rfl))
 ·have hp : (1 ≤ i ∧ i ≤ (z.length : Int)) ∧ 1 ≤ j ∧ j ≤ (z.length : Int) := by simpa only [Bool.or_eq_false_iff, Bool.not_eq_false', decide_eq_true_eq] using hb
  have hq:(i - 1).toNat < s.length:=by omega
  have hq2:(j - 1).toNat < (s.getD (i - 1).toNat []).length:=by rw [hs.row zo]; omega
  refine cU (ts (ro rfl (eW iO (Ht rfl) rfl) (ro rfl (fX A_26 Z_26 (Ht rfl) (i:=0) rfl rfl) (rm rfl (ro rfl (iD (Ht rfl) cV (wD zo)) (ro rfl (dZ U_26 Z_25 (Ht rfl) (Ht rfl) (by omega:i - 1 = (((i - 1).toNat:Nat):Int)) (eX (eQ (d:=[]) hq))) (ro rfl (dJ A_25 Z_25 (Ht rfl)) (rm rfl (ro rfl (iD (Ht rfl) cV (wD zo)) (ro rfl (dZ U_25 Z_60 (Ht rfl) (Ht rfl) (by omega:j - 1 = (((j - 1).toNat:Nat):Int)) (eX (eQ (d:=Qi.zero) hq2))) ?_))))))))))
  refine ro rfl (dJ A_60 Z_60 (Ht rfl)) (gZ Z_60 (Ht rfl) (Ht rfl) rfl (i:=1) rfl (aK rfl) rfl rfl (ro rfl (cQ (cJ 0)) (eJ (cB rfl (fJ (fY A_60 Z_60 rfl (i:=1) rfl rfl) ?_) (fJ (fQ rfl) ?_)))))
  ·exact (kJ (by rw [Yg,if_pos hp]))
  ·exact (aS (by rw [if_pos hp]; rfl))
end
section
open Go Go.RowKit
theorem zB:Tryz.prog.info? 130 = some Tryz.t130:=by kernel_rfl
theorem Dn:Tryz.prog.info? 29 = some Tryz.t29:=by kernel_rfl
theorem a1s:Tryz.prog.underlying 26 = some (.slice 25):=by kernel_rfl
theorem Jz:Tryz.prog.underlying 29 = some (.slice 130):=by kernel_rfl
theorem a1t:Tryz.prog.underlying 30 = some (.slice 29):=by kernel_rfl
end
section
open Go Go.RowKit
theorem Be {m:List (List Rt)} (hm:m.length ≤ 1000) (hr:∀ r,r ∈ m → r.length ≤ 1000):aP Tryz.prog 94 [Ph m] (fB (rq m)):=by
 refine aP.intro Tryz.func94 rfl Tryz.ntmps94 rfl (fun cx=>(ts (ro rfl (cQ cV) (eJ (ts (rm rfl (ro rfl (dU U_75 (Ht rfl) aA) (rn rfl (jJ (T:=cE []) (i:=Tryz.t25) a1s xJ rfl rfl (Ht rfl) rfl Gm El.one (by show 24 * _ ≤ _; omega) zo) fun B8=>(ra rfl (eJ (cK (ts (rm rfl (ro rfl (dU U_75 (Ht rfl) aA) (ro rfl (cX (cJ 0)) (eJ (eU ?_)))))))))))))))))
 refine eS (fun (k : Nat) (out : List (List Qi)) => kM (fun i => (m.getD i default).map Rt.q) m.length out k) (fun (k : Nat) (out : List (List Qi)) => m.length - k) (fun (k : Nat) (out : List (List Qi)) => [(3, Is B8), (9, Ph m), (10, NT .i64 m.length), (11, NT .i64 k)]) (fun (k : Nat) (out : List (List Qi)) => [bI 25 1 B8 (out.map cE)]) 0 (List.replicate m.length []) (kM.start _ _ _)
  (zS rfl) (aU (bL (qX cE _ _)) aY) (fun k out hS=>?_)
 refine ts (ro rfl (gJ (Ht rfl) (Ht rfl)) (eJ (cK (dQ (Ht rfl) (fun hk=>?_) (fun hk=>?_)))))
 ·simp only [decide_eq_true_eq] at hk
  have hlen:=hS.len
  have hrk : (m.getD k default).length ≤ 1000 := by
   have e:m.getD k default = m[k]:=by simp [List.getD,hk]
   rw [e]; exact hr _ (List.getElem_mem hk)
  refine cU (cK (eU (ts (rm rfl (ro rfl (dZ U_75 Z_22 (Ht rfl) (Ht rfl) rfl (eX (eQ (d:=default) hk))) (ro rfl (dJ A_22 Z_22 (Ht rfl)) (ra rfl (ra rfl (eJ (cY (rm rfl (rm rfl (rm rfl (ro rfl (cZ Tryz.call48 (uR zo) ⟨(Ht rfl),trivial⟩) (ro rfl (cP U_26 Z_25 (Ht rfl) (Ht rfl) rfl (i:=0) rfl (by first | omega | (simp; omega)) rfl) (lE Z_25 (Ht rfl) (Ht rfl) El.one (i:=0) rfl rfl (by first | omega | (simp; omega)) rfl (eJ (bC ?_))))))))))))))))))
  refine cY (ro rfl (dW (Ht rfl) (cJ 1) z6) (rm rfl (eJ (gQ (k + 1,_) (hS.next hk rfl) (by dsimp only; omega) (zS rfl) (aU (bL (iU cE _ _ _)) aY)))))
 ·simp only [decide_eq_false_iff_not] at hk
  obtain rfl:k = m.length:=Nat.le_antisymm hS.kle zo
  have hfin:=hS.fin
  rw [rF m (fun r=>r.map Rt.q)] at hfin
  refine gG rfl (gW (i:=0) (tt:=3) rfl rfl iY (ts (rm rfl (ra rfl (eJ (fK rfl (fJ (fQ rfl) ?_)))))))
  exact (jC (by rw [hfin]))
end
section
open Go Go.RowKit
theorem Kl {n : Nat} {E : cH} {H : Hp} {d : Option Tmp} {t : TypeId} {pos : String} {af : Array Edge} {g : Option (Nat × Bool)}  :
  aI Tryz.prog n E H ⟨d,.build 32 #[],t,pos,af,g⟩ (fI [Is (.slice none 0 0),Is (.slice none 0 0)]) :=
 gP (parts := []) fun a V w hs => by
  refine ⟨.agg #[(.slice none 0 0),(.slice none 0 0)],?_,[(.slice none 0 0),(.slice none 0 0)],rfl,aW (⟨rfl,trivial⟩) (aW (⟨rfl,trivial⟩) (aG))⟩
  simp [Instr.build,Instr.fill,Sem.run_bind,Result.andThen,fP,O_32,U_32,Z_29,Z_30]
theorem yJ {n : Nat} {E : cH} {H : Hp} {d : Option Tmp} {t : TypeId} {pos : String} {af : Array Edge} {g : Option (Nat × Bool)} {x0 x1 : Operand} {T0 T1 : Ty} [s0 : cT T0 1 false] (h0 : bB E x0 T0) [s1 : cT T1 1 false] (h1 : bB E x1 T1) :
  aI Tryz.prog n E H ⟨d,.build 32 #[(0,x0),(1,x1)],t,pos,af,g⟩ (fI [T0,T1]) :=
 gP (parts := [(0, x0), (1, x1)]) fun a V w hs => by
  have p0:=h0 n V a hs
  generalize e0:a.eval x0 = v0 at p0
  have q0:=(s0.ok v0 V p0).2.2 rfl
  have p1:=h1 n V a hs
  generalize e1:a.eval x1 = v1 at p1
  have q1:=(s1.ok v1 V p1).2.2 rfl
  refine ⟨.agg #[v0,v1],?_,[v0,v1],rfl,aW (⟨p0,q0⟩) (aW (⟨p1,q1⟩) (aG))⟩
  simp [e0,e1,Instr.build,Instr.fill,Sem.run_bind,Result.andThen,fP,q0.cells,q1.cells,O_32,U_32,Z_29,Z_30]
theorem kB (a:Addr) (w:World):(Instr.fieldAt 32 (.pointer (some a)) 0).run Tryz.prog w = .ok (.pointer (some (a.add 0))) w:=by
 simp [Instr.fieldAt,Instr.sureAddr,fieldPlace,Sem.run_bind,Result.andThen,U_32,Z_29]
end
section
open Go Go.RowKit
theorem Fe {x:Qi} {L:Nat} [hx:aD x L] (h:L ≤ 17592186044415):aP Tryz.prog 248 [QT x] (aC (gY x)):=by
 refine aP.intro Tryz.func248 rfl Tryz.ntmps248 rfl (fun cx=>(ts (rn rfl (fU (Ht rfl)) fun B1=>(ro rfl (cQ cV) (eJ (ts (ro rfl (eG A_130 Z_130 (Ht rfl) (i:=0) rfl rfl rfl) (ro rfl (cZ Tryz.call242 (Vu zo) ⟨(Ht rfl),trivial⟩) (ro rfl (jB (Ht rfl) cV) (rm rfl (fZ rfl rfl (eY rfl rfl (Ht rfl) (fun h=>eG A_130 Z_130 (Ht rfl) (i:=0) rfl rfl rfl)) (fZ rfl rfl (eY rfl rfl (Ht rfl) (fun h=>cZ Tryz.call209 Cu ⟨(fW rfl h),trivial⟩)) (fZ rfl rfl (eY rfl rfl (Ht rfl) (fun h=>Jm (fW rfl h) cV)) ?_)))))))))))))
 refine ro rfl (dO (Ht rfl) (fun h=>(fW rfl h))) (ra rfl (eJ (fK rfl (fJ (fQ rfl) ?_))))
 exact (bN (Yp x))
theorem Qm {z:List Qi} {s:List (List Qi)} (hz:z.length ≤ 100000) (hs:s.length ≤ 100000):aP Tryz.prog 193 [uJ z,QM s] (aC (zX z s)):=by
 refine aP.intro Tryz.func193 rfl Tryz.ntmps193 rfl (fun cx=>(ts (ro rfl (cQ cV) (eJ (cK (ts (rm rfl (ro rfl (dU U_29 (Ht rfl) aA) (ro rfl (gJ (Ht rfl) (cJ 1)) (rm rfl (fZ rfl rfl (eY rfl rfl (Ht rfl) (fun h=>cX (Ht rfl))) (fZ rfl rfl (eY rfl rfl (Ht rfl) (fun h=>dU U_29 (fW rfl h) aA)) (fZ rfl rfl (eY rfl rfl (Ht rfl) (fun h=>eN (fW rfl h) (cJ 8))) (ro rfl (kP (Ht rfl) (fun h=>(fW rfl h))) (rm rfl (fZ rfl rfl (eY rfl rfl (Ht rfl) (fun h=>cX (Ht rfl))) ?_))))))))))))))))
 refine fZ rfl rfl (eY rfl rfl (Ht rfl) (fun h=>dU U_30 (fW rfl h) aA)) (fZ rfl rfl (eY rfl rfl (Ht rfl) (fun h=>cX (Ht rfl))) (fZ rfl rfl (eY rfl rfl (Ht rfl) (fun h=>dU U_29 (fW rfl h) aA)) (fZ rfl rfl (eY rfl rfl (Ht rfl) (fun h=>iQ (fW rfl h) (fW rfl h))) (ro rfl (kP (Ht rfl) (fun h=>(fW rfl h))) (eJ (dQ (Ht rfl) (fun hb=>?_) (fun hb=>?_)))))))
 ·refine ts (ro rfl (cQ cV) (eJ (fK rfl (fJ (fQ rfl) ?_))))
  exact (bN (by rw [zX,hb]; rfl))
 ·refine cU (cK (ts (ro rfl (cQ (cJ 0)) (eJ (eU ?_)))))
  refine bF (fun (k : Nat) => k ≤ s.length ∧ ∀ (i : Nat) (r : List Qi), i < k → s[i]? = some r → r.length = z.length) (fun (k : Nat) => s.length - k) (fun (k : Nat) => [(0, uJ z), (1, QM s), (5, NT .i64 k)]) (fun (k : Nat) => []) 0 ⟨Nat.zero_le _, fun i r h => by omega⟩
   (zS rfl) aY (fun k ⟨hk,hr⟩=>?_)
  refine cK (ts (rm rfl (rm rfl (ro rfl (dU U_30 (Ht rfl) aA) (ro rfl (gJ (Ht rfl) (Ht rfl)) (eJ (dQ (Ht rfl) (fun hc=>?_) (fun hc=>?_))))))))
  ·simp only [decide_eq_true_eq] at hc
   refine cU (cK (eU (ts (rm rfl (rm rfl (ro rfl (dZ U_30 Z_29 (Ht rfl) (Ht rfl) rfl (eX (pW hc))) (ro rfl (dJ A_29 Z_29 (Ht rfl)) (ro rfl (dU U_29 (Ht rfl) aA) (rm rfl (ro rfl (dU U_29 (Ht rfl) aA) (ro rfl (iQ (Ht rfl) (Ht rfl)) (eJ (dQ (Ht rfl) (fun hd=>?_) (fun hd=>?_))))))))))))))
   ·have hd2 : ¬ (s[k]).length = z.length := by simpa using hd
    refine ts (ro rfl (cQ cV) (eJ (fK rfl (fJ (fQ rfl) ?_))))
    exact (bN (by rw [zX,Uy (pW hc) hd2,Bool.or_true]; rfl))
   ·have hd2 : (s[k]).length = z.length := by simpa using hd
    refine cU (bC (cY (rm rfl (ro rfl (dW (Ht rfl) (cJ 1) z6) (ra rfl (eJ ?_))))))
    refine gQ (k + 1) ⟨hc, fun i r h1 h2 => by
     by_cases e:i = k
     ·subst e; rw [pW hc] at h2; obtain rfl:=Option.some.inj h2; exact hd2
     ·exact hr i r zo h2⟩ zo (zS rfl) aY
  ·simp only [decide_eq_false_iff_not] at hc
   have hall:∀ (i:Nat) (r:List Qi),s[i]? = some r → r.length = z.length:=fun i r h=>hr i r (by have:=(List.getElem?_eq_some_iff.1 h).1; omega) h
   refine gG rfl (ts (ro rfl (cQ cV) (eJ (fK rfl (fJ (fQ rfl) ?_)))))
   exact (bN (by rw [zX,Pp hall,hb]; rfl))
theorem At {z:List Qi} {L:Nat} (hz:cD z L) (h:L ≤ 17592186044415) (hl:z.length ≤ 100000):aP Tryz.prog 194 [uJ z] (aC (z.all gY)):=by
 refine aP.intro Tryz.func194 rfl Tryz.ntmps194 rfl (fun cx=>(ts (ro rfl (cQ cV) (eJ (cK (ts (ro rfl (cQ (cJ 0)) (eJ (eU ?_)))))))))
 refine bF (fun (k : Nat) => k ≤ z.length ∧ ∀ (i : Nat) (r : Qi), i < k → z[i]? = some r → gY r = true) (fun (k : Nat) => z.length - k) (fun (k : Nat) => [(0, uJ z), (3, NT .i64 k)]) (fun (k : Nat) => []) 0 ⟨Nat.zero_le _, fun i r h => by omega⟩
  (zS rfl) aY (fun k ⟨hk,hr⟩=>?_)
 refine cK (ts (rm rfl (rm rfl (ro rfl (dU U_29 (Ht rfl) aA) (ro rfl (gJ (Ht rfl) (Ht rfl)) (eJ (dQ (Ht rfl) (fun hc=>?_) (fun hc=>?_))))))))
 ·simp only [decide_eq_true_eq] at hc
  haveI hf:aD z[k] L:=hz _ (List.getElem_mem hc)
  refine cU (cK (eU (ts (rm rfl (rm rfl (ro rfl (dZ U_29 Z_130 (Ht rfl) (Ht rfl) rfl (eX (pW hc))) (ro rfl (dJ A_130 Z_130 (Ht rfl)) (ro rfl (cZ Tryz.call248 (Fe (L:=L) h) ⟨(Ht rfl),trivial⟩) (ro rfl (dT (Ht rfl)) (eJ (dQ (Ht rfl) (fun hd=>?_) (fun hd=>?_))))))))))))
  ·have hd2 : gY z[k] = false := by simpa using hd
   refine ts (ro rfl (cQ cV) (eJ (fK rfl (fJ (fQ rfl) ?_))))
   exact (bN (a0m (pW hc) hd2).symm)
  ·have hd2 : gY z[k] = true := by simpa using hd
   refine cU (bC (cY (rm rfl (ro rfl (dW (Ht rfl) (cJ 1) z6) (ra rfl (eJ ?_))))))
   refine gQ (k + 1) ⟨hc, fun i r h1 h2 => by
    by_cases e:i = k
    ·subst e; rw [pW hc] at h2; obtain rfl:=Option.some.inj h2; exact hd2
    ·exact hr i r zo h2⟩ zo (zS rfl) aY
 ·simp only [decide_eq_false_iff_not] at hc
  have hall:∀ (i:Nat) (r:Qi),z[i]? = some r → gY r = true:=fun i r h=>hr i r (by have:=(List.getElem?_eq_some_iff.1 h).1; omega) h
  refine gG rfl (ts (ro rfl (cQ cV) (eJ (fK rfl (fJ (fQ rfl) ?_)))))
  exact (bN (Ux hall).symm)
theorem Mz {z:List Qi} {s:List (List Qi)} {L:Nat} (hz:cD z L) (h:L ≤ 17592186044415) (hl:z.length ≤ 1000) (hl2:s.length ≤ 1000):aP Tryz.prog 95 [uJ z,QM s] (fR [mD (pV (cO z s) z) (pV (cO z s) s),aN .i64 (cO z s)]):=by
 refine aP.intro Tryz.func95 rfl Tryz.ntmps95 rfl (fun cx=>(ts (rn rfl (eK (Ts:=[Is (.slice none 0 0),Is (.slice none 0 0)]) O_32 rfl (fun V=>aW zd (aW zd (aG)))) fun B4=>(ro rfl (cQ (cJ 0)) (eJ (cK (ts (rm rfl (rm rfl (ro rfl (cZ Tryz.call193 (Qm zo zo) ⟨(Ht rfl),(Ht rfl),trivial⟩) (ro rfl (dT (Ht rfl)) (eJ (dQ (Ht rfl) (fun hb=>?_) (fun hb=>?_))))))))))))))
 ·have hb2 : ¬ zX z s = true := by simpa using hb
  have he:cO z s = 4:=by rw [vB,if_neg hb2]
  refine ts (ro rfl (aI.imp (Kl ) Gx) (gZ Z_32 (Ht rfl) (Ht rfl) rfl (i:=0) rfl (aK rfl) rfl rfl (ro rfl (cQ (cJ 4)) (eJ (cB rfl (fJ (fY A_32 Z_32 rfl (i:=0) rfl rfl) ?_) (fJ (fQ rfl) ?_))))))
  ·exact (Gw he (by decide))
  ·exact (aS he.symm)
 ·have hb2 : zX z s = true := by simpa using hb
  refine cU (cK (ts (rm rfl (ro rfl (cZ Tryz.call194 (At (by assumption) (by assumption) zo) ⟨(Ht rfl),trivial⟩) ?_))))
  refine ro rfl (dT (Ht rfl)) (eJ (dQ (Ht rfl) (fun hc=>?_) (fun hc=>?_)))
  ·have hc2 : ¬ z.all gY = true := by simp only [Bool.not_eq_true'] at hc; rw [hc]; exact Bool.noConfusion
   have he:cO z s = 1:=by rw [vB,if_pos hb2,if_neg hc2]
   refine ts (ro rfl (aI.imp (Kl ) Gx) (gZ Z_32 (Ht rfl) (Ht rfl) rfl (i:=0) rfl (aK rfl) rfl rfl (ro rfl (cQ (cJ 1)) (eJ (cB rfl (fJ (fY A_32 Z_32 rfl (i:=0) rfl rfl) ?_) (fJ (fQ rfl) ?_))))))
   ·exact (Gw he (by decide))
   ·exact (aS he.symm)
  ·have hc2 : z.all gY = true := by simp only [Bool.not_eq_false'] at hc; exact hc
   have he:cO z s = 0:=by rw [vB,if_pos hb2,if_pos hc2]
   refine cU (ts (rm rfl (rm rfl (ro rfl (yJ (Ht rfl) (Ht rfl)) (gZ Z_32 (Ht rfl) (Ht rfl) rfl (i:=0) rfl (aK rfl) rfl rfl (ro rfl (cQ (cJ 0)) (eJ (cB rfl (fJ (fY A_32 Z_32 rfl (i:=0) rfl rfl) ?_) (fJ (fQ rfl) ?_)))))))))
   ·exact (Om he)
   ·exact (aS he.symm)
end
section
open Go Go.RowKit
theorem rT (a:Addr) (w:World):(Instr.fieldAt 32 (.pointer (some a)) 1).run Tryz.prog w = .ok (.pointer (some (a.add 1))) w:=by
 simp [Instr.fieldAt,Instr.sureAddr,fieldPlace,Sem.run_bind,Result.andThen,U_32,Z_30]
end
section
open Go Go.RowKit
theorem Qb {n m:Nat} (hn:n ≤ 1000) (hm:m ≤ 1000):iI Tryz.prog 185 [NT .i64 n,NT .i64 m] [] (Nat) (fun B=>Is (.slice (some ⟨B,0,none⟩) n n)) (fun B=>[nM lR B 29 130 5 (cL QT (a0a n m))]) (fun _=>True):=by
 refine iI.intro Tryz.func185 rfl Tryz.ntmps185 rfl (fun cx Z=>(ts (ro rfl (cQ cV) (eJ (ts (rm rfl (rn rfl (eI (T:=Is (.slice none 0 0)) (i:=Tryz.t29) Tryz.underlying30 Dn rfl rfl (Ht rfl) rfl (fun _=>rfl) trivial (by show 24 * _ ≤ _; omega) zo) fun B9=>(ra rfl (eJ (cK (ts (ro rfl (cQ (cJ 0)) (eJ (eU (pZ 1 rfl (zI lR ⟨none,0,rfl⟩ (e:=130) (s:=5)) ?_)))))))))))))))
 refine eS (fun (k : Nat) (M : List (List Qi)) => kM (fun _ => tab m fun _ => Qi.zero) n M k) (fun (k : Nat) (M : List (List Qi)) => n - k) (fun (k : Nat) (M : List (List Qi)) => [(0, NT .i64 n), (1, NT .i64 m), (5, Is (.slice (some ⟨B9, 0, none⟩) n n)), (6, NT .i64 k)]) (fun (k : Nat) (M : List (List Qi)) => [Z, nM lR B9 29 130 5 (cL QT M)]) 0 (List.replicate n []) (kM.start _ _ _)
  (zS rfl) (aU (fun _ _ _ h=>h) (aU (dM (qW QT n)) aY)) (fun k M hS=>?_)
 refine cK (ts (rm rfl (rm rfl (ro rfl (gJ (Ht rfl) (Ht rfl)) (eJ (dQ (Ht rfl) (fun hk=>?_) (fun hk=>?_)))))))
 ·simp only [decide_eq_true_eq] at hk
  have hlen:=hS.len
  refine yG 1 (k) rfl (lG (m:=M) (i:=k) zo) (fun v hv=>(cU (cK (eU (ts (rm rfl (rm rfl (rm rfl (Kf (T:=ZQ) (i:=Tryz.t130) Jz zB rfl rfl (Ht rfl) rfl a2b (El.ag rfl) (by show 88 * _ ≤ _; omega) zo rfl (fun B18 hB18=>(ro rfl (gX U_30 Z_29 (Ht rfl) (Ht rfl) rfl zo (by rw [Nat.mul_one,Nat.zero_add])) ?_)))))))))))
  refine yC Z_29 (Ht rfl) (Ht rfl) (by simp; omega) (j:=1) (l:=3) rfl rfl rfl ?_
  refine eJ (cK (eB [0,1,3] rfl (by decide) (cY (ro rfl (cQ (cJ 0)) (eJ (eU ?_))))))
  refine eS (fun (j : Nat) (out : List Ty) => kM (fun _ => QT Qi.zero) m out j) (fun (j : Nat) (out : List Ty) => m - j) (fun (j : Nat) (out : List Ty) => [(0, NT .i64 n), (1, NT .i64 m), (5, Is (.slice (some ⟨B9, 0, none⟩) n n)), (6, NT .i64 k), (7, NT .i64 j)]) (fun (j : Nat) (out : List Ty) => [Z, tB lR B9 29 130 5 (cL QT M) k B18, bI 130 5 B18 out]) 0 (List.replicate m ZQ) (kM.start _ _ _)
   (zS rfl) (cI.refl _) (fun j out hT=>?_)
  refine cK (ts (rm rfl (rm rfl (ro rfl (gJ (Ht rfl) (Ht rfl)) (eJ (dQ (Ht rfl) (fun hj=>?_) (fun hj=>?_)))))))
  ·simp only [decide_eq_true_eq] at hj
   have hlen2:=hT.len
   refine cU (cK (eU (fV (m:=6) (dp 5 rfl (cX (Ht rfl)) (dp 6 rfl (cX (Ht rfl)) (bR 25 0 26 1 rfl (gX U_30 Z_29 (Ht rfl) (Ht rfl) rfl zo (by rw [Nat.mul_one,Nat.zero_add])) ?_))))))
   refine dq 27 2 rfl (kX A_29 Z_29 (Ht rfl) (j:=1) rfl) (dp 7 rfl (cX (Ht rfl)) (d0 rfl (cZ Tryz.call175 (tM (by decide) (by decide)) ⟨(cJ 0),trivial⟩) (fG aO rfl (by kernel_rfl) (zF (aJ (aJ (aV (ro rfl (cP U_29 Z_130 (Ht rfl) (Ht rfl) rfl (i:=2) rfl zo rfl) (lE Z_130 (Ht rfl) (Ht rfl) (El.ag rfl) (i:=2) rfl rfl (by first | omega | (simp; omega)) rfl (eJ (bC (cY (rm rfl (ro rfl (dW (Ht rfl) (cJ 1) z6) ?_))))))))))))))
   refine ra rfl (eJ (gQ (j + 1,_) (hT.next hj rfl) (by dsimp only; omega) (zS rfl) (cI.refl _)))
  ·simp only [decide_eq_false_iff_not] at hj
   obtain rfl:j = m:=Nat.le_antisymm hT.kle zo
   have hfin:=hT.fin
   rw [← mB _ (fun _=>Qi.zero) QT] at hfin
   subst hfin
   refine gG rfl (bC (jH 1 2 rfl rfl (by decide) (by show k < (cL QT M).length; simp only [cL,List.length_map]; omega) (cY (rm rfl (ro rfl (dW (Ht rfl) (cJ 1) z6) (ra rfl (eJ (eB [0,1] rfl (by decide) (gQ (k + 1,_) (hS.next hk rfl) (by dsimp only; omega) (zS rfl) (aU (fun _ _ _ h=>h) (aU (dM (jY QT _ _ _)) aY)))))))))))
 ·simp only [decide_eq_false_iff_not] at hk
  obtain rfl:k = n:=Nat.le_antisymm hS.kle zo
  have hfin:=hS.fin
  refine gG rfl (ts (rm rfl (ra rfl (eJ ?_))))
  exact kG B9 trivial [0,1] ⟨⟨_,rfl,fun _ _ _ h=>h⟩,⟨_,rfl,(dM (by rw [hfin]; rfl))⟩,trivial⟩ (by decide) (vG rfl (fQ rfl))
end
section
open Go Go.RowKit
theorem tC (v : Value) (w : World) : (method (Tryz.prog.types.size + Made.depth) 60 v "Of").run Tryz.prog w = .ok (304, v) w := by kernel_rfl
theorem gD (v:Value) (w:World):(Instr.makeInterface 60 v).run Tryz.prog w = .ok (.iface 60 v) w:=by
 simp [Instr.makeInterface,Sem.run_bind,Result.andThen,U_60]
end
end Go.Proofs.YtdlciihkiefckaaGreat
