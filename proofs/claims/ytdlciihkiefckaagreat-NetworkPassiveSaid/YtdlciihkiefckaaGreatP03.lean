/- What functions of the program compute, proved by walks over their code, and the plain mathematics of it; a part of the proof in the last text. -/
import Derived.Test.YtdlciihkiefckaaGreatP02
set_option linter.unusedVariables false
set_option linter.unusedSimpArgs false
set_option maxRecDepth 100000
set_option maxHeartbeats 4000000
namespace Go.Proofs.YtdlciihkiefckaaGreat
section
open Go Go.RowKit
theorem a7I {m n:Nat} (hm:(dg m).length ≤ 17592186044416) (hn:(dg n).length ≤ 17592186044416):bB Tryz.prog 235 [aN m,aN n] (aN (m + n)):=by
 refine bB.intro Tryz.func235 rfl Tryz.ntmps235 rfl (fun cx=>(ts (ro rfl (cX cW) (eW (cU (tE (fun (p:Nat) (q:Nat)=>p + q = m + n ∧ (dg q).length ≤ (dg p).length ∧ (dg p).length ≤ 17592186044416) (fun (p:Nat) (q:Nat)=>[(0,aN p),(1,aN q)]) (fun (p:Nat) (q:Nat)=>[]) ?_ (fun p q ⟨hpq,hle,hlp⟩=>?_)))))))
 ·refine ts (rm rfl (ro rfl (dY U_56 (Ht rfl) aB) (rm rfl (ro rfl (dY U_56 (Ht rfl) aB) (ro rfl (gV (Ht rfl) (Ht rfl)) (eW (dX (Ht rfl) (fun hb => ?_) (fun hb => ?_))))))))
  ·simp at hb
   refine dQ (rm rfl (rm rfl (ra rfl (ra rfl (eW (aT (n,m) ⟨Nat.add_comm _ _,Nat.le_of_lt hb,hn⟩ (zS rfl) aY))))))
  ·simp at hb
   refine cY (aT (m,n) ⟨rfl,hb,hm⟩ (zS rfl) aY)
 ·refine ts (rm rfl (ro rfl (dY U_56 (Ht rfl) aB) (ro rfl (dK (Ht rfl) (cV 1) z6) (rn rfl (iI (T := cF 0) (i := Tryz.t218) V_56 kM rfl rfl (Ht rfl) rfl (fun _ => rfl) trivial (by show 4 * _ ≤ _; omega) zo) fun B19 => (ra rfl (eW (ts (ro rfl (cX (cV 0)) (eW (cU (ts (rm rfl (ro rfl (dY U_56 (Ht rfl) aB) (ro rfl (cZ (cV 0)) (eW (eY ?_))))))))))))))))
  refine mF (fun (k : Nat) (out : List Nat) (c : Nat) => Ik (dg p) (dg q) out k c) (fun (k : Nat) (out : List Nat) (c : Nat) => (dg p).length - k) (fun (k : Nat) (out : List Nat) (c : Nat) => [(0, aN p), (1, aN q), (5, Is (.slice (some ⟨B19, 0, none⟩) ((dg p).length + 1) ((dg p).length + 1))), (6, cF c), (21, NT .i64 (dg p).length), (22, NT .i64 k)]) (fun (k : Nat) (out : List Nat) (c : Nat) => [box B19 218 (out.map cF)]) 0 (List.replicate ((dg p).length + 1) 0) 0 (Ik.start _ _)
   (zS rfl) (aU (aD (nZ _)) aY) (fun k out c hS=>?_)
  refine ts (ro rfl (gV (Ht rfl) (Ht rfl)) (eW (cU (dX (Ht rfl) (fun hb=>?_) (fun hb=>?_)))))
  ·simp at hb
   have hlen:=hS.len; have hcl:=hS.cle; have hxk:=bL (cA p) k; have hyk:=bL (cA q) k
   simp only [BB] at hxk hyk
   refine cY (cU (eY (ts (rm rfl (ra rfl (eW (ts (ro rfl (cX (cV 0)) (eW (cU (jU (fun (uu:Unit)=>True) (fun (uu:Unit)=>[(0,aN p),(1,aN q),(5,Is (.slice (some ⟨B19,0,none⟩) ((dg p).length + 1) ((dg p).length + 1))),(6,cF c),(7,NT .i64 k),(8,cF ((dg q).getD k 0)),(21,NT .i64 (dg p).length),(22,NT .i64 k)]) (fun (uu:Unit)=>[box B19 218 (out.map cF)]) ?_ (fun uu _=>?_))))))))))))
   ·refine ts (rm rfl (rm rfl (ro rfl (dY U_56 (Ht rfl) aB) (ro rfl (gV (Ht rfl) (Ht rfl)) (eW (dX (Ht rfl) (fun hk2 => ?_) (fun hk2 => ?_)))))))
    ·simp at hk2
     refine dQ (rm rfl (rm rfl (ro rfl (dJ U_56 Z_218 (Ht rfl) (Ht rfl) rfl (eZ (aO zo))) (ro rfl (dW A_218 Z_218 (Ht rfl)) (ra rfl (eW (aT () trivial (zS rfl) (dI.refl _))))))))
    ·simp at hk2
     refine cY (aT () trivial (aQ rfl (aQ rfl (aQ rfl (aQ rfl (aQ rfl (aZ rfl (mK (by simp [List.getD,List.getElem?_eq_none hk2])) (zS rfl))))))) (dI.refl _))
   ·refine dQ (rm rfl (rm rfl (rm rfl (rm rfl (ro rfl (dJ U_56 Z_218 (Ht rfl) (Ht rfl) rfl (eZ (aO zo))) (ro rfl (dW A_218 Z_218 (Ht rfl)) (rm rfl (rm rfl (ro rfl (cJ Tryz.call269 (a2T hxk hyk zo) ⟨(Ht rfl), (Ht rfl), (Ht rfl), trivial⟩) (rm rfl (ro rfl (eQ (Ht rfl) rfl) (ro rfl (eQ (Ht rfl) rfl) (ro rfl (gZ U_56 Z_218 (Ht rfl) (Ht rfl) rfl zo (by rw [Nat.mul_one, Nat.zero_add])) ?_)))))))))))))
    refine lP Z_218 (Ht rfl) (Ht rfl) (i:=0) rfl (by first | omega | (simp; omega)) rfl (ra rfl (eW (bM (dQ (ro rfl (dK (Ht rfl) (cV 1) z6) (rm rfl (eW (gX (k + 1,_,_) (hS.next (cA p) (cA q) hb) (by dsimp only; omega) (zS rfl) (aU (aD (iH _ _ _)) aY)))))))))
  ·simp at hb
   have hkl:k = (dg p).length:=Nat.le_antisymm hS.kle hb
   subst hkl
   have hlen:=hS.len; have hcl:=hS.cle
   refine gK rfl (ts (rm rfl (rm rfl (ro rfl (dY U_56 (Ht rfl) aB) (rm rfl (ro rfl (gZ U_56 Z_218 (Ht rfl) (Ht rfl) rfl zo (by rw [Nat.mul_one,Nat.zero_add])) ?_))))))
   refine lP Z_218 (Ht rfl) (Ht rfl) (i:=0) rfl (by first | omega | (simp; omega)) rfl (eW (cU ?_))
   have hfin:=hS.fin hle
   refine gG (i:=0) (tt:=5) rfl rfl (oM (iH _ _ _) (by simp [hlen]) (Nat.le_refl _)) ?_
   refine dQ (rm rfl (ro rfl (cJ K_237 (tG _ (lL hS.dig (by simp only [BB]; omega)) (by simp [hlen]; omega)) ⟨(Ht rfl),trivial⟩) ?_))
   refine ra rfl (eW (fU rfl (fV (fX rfl) ?_)))
   exact (dL (by rw [hfin,dN,dN]; exact hpq))
theorem a5a {m n:Nat} (hm:(dg m).length ≤ 17592186044416) (hnm:n ≤ m):bB Tryz.prog 236 [aN m,aN n] (aN (m - n)):=by
 have hle:=jJ hnm
 refine bB.intro Tryz.func236 rfl Tryz.ntmps236 rfl (fun cx=>(ts (ro rfl (cX cW) (eW (ts (rm rfl (ro rfl (dY U_56 (Ht rfl) aB) (rn rfl (iI (T:=cF 0) (i:=Tryz.t218) V_56 kM rfl rfl (Ht rfl) rfl (fun _=>rfl) trivial (by show 4 * _ ≤ _; omega) zo) fun B11=>(ra rfl (eW (ts (ro rfl (cX (cV 0)) (eW (cU (ts (rm rfl (ro rfl (dY U_56 (Ht rfl) aB) (ro rfl (cZ (cV 0)) (eW (eY ?_))))))))))))))))))))
 refine mF (fun (k : Nat) (out : List Nat) (c : Nat) => In (dg m) (dg n) out k c) (fun (k : Nat) (out : List Nat) (c : Nat) => (dg m).length - k) (fun (k : Nat) (out : List Nat) (c : Nat) => [(0, aN m), (1, aN n), (5, Is (.slice (some ⟨B11, 0, none⟩) (dg m).length (dg m).length)), (6, cF c), (13, NT .i64 (dg m).length), (14, NT .i64 k)]) (fun (k : Nat) (out : List Nat) (c : Nat) => [box B11 218 (out.map cF)]) 0 (List.replicate (dg m).length 0) 0 (In.start _ _)
  (zS rfl) (aU (aD (nZ _)) aY) (fun k out c hS=>?_)
 refine ts (ro rfl (gV (Ht rfl) (Ht rfl)) (eW (cU (dX (Ht rfl) (fun hb=>?_) (fun hb=>?_)))))
 ·simp at hb
  have hlen:=hS.len; have hcl:=hS.cle; have hxk:=bL (cA m) k; have hyk:=bL (cA n) k
  simp only [BB] at hxk hyk
  refine cY (cU (eY (ts (rm rfl (ra rfl (eW (ts (ro rfl (cX (cV 0)) (eW (cU (jU (fun (uu:Unit)=>True) (fun (uu:Unit)=>[(0,aN m),(1,aN n),(5,Is (.slice (some ⟨B11,0,none⟩) (dg m).length (dg m).length)),(6,cF c),(7,NT .i64 k),(8,cF ((dg n).getD k 0)),(13,NT .i64 (dg m).length),(14,NT .i64 k)]) (fun (uu:Unit)=>[box B11 218 (out.map cF)]) ?_ (fun uu _=>?_))))))))))))
  ·refine ts (rm rfl (rm rfl (ro rfl (dY U_56 (Ht rfl) aB) (ro rfl (gV (Ht rfl) (Ht rfl)) (eW (dX (Ht rfl) (fun hk2 => ?_) (fun hk2 => ?_)))))))
   ·simp at hk2
    refine dQ (rm rfl (rm rfl (ro rfl (dJ U_56 Z_218 (Ht rfl) (Ht rfl) rfl (eZ (aO zo))) (ro rfl (dW A_218 Z_218 (Ht rfl)) (ra rfl (eW (aT () trivial (zS rfl) (dI.refl _))))))))
   ·simp at hk2
    refine cY (aT () trivial (aQ rfl (aQ rfl (aQ rfl (aQ rfl (aQ rfl (aZ rfl (mK (by simp [List.getD,List.getElem?_eq_none hk2])) (zS rfl))))))) (dI.refl _))
  ·refine dQ (rm rfl (rm rfl (rm rfl (rm rfl (ro rfl (dJ U_56 Z_218 (Ht rfl) (Ht rfl) rfl (eZ (aO zo))) (ro rfl (dW A_218 Z_218 (Ht rfl)) (rm rfl (rm rfl (ro rfl (cJ Tryz.call270 (a39 hxk hyk zo) ⟨(Ht rfl), (Ht rfl), (Ht rfl), trivial⟩) (rm rfl (ro rfl (eQ (Ht rfl) rfl) (ro rfl (eQ (Ht rfl) rfl) (ro rfl (gZ U_56 Z_218 (Ht rfl) (Ht rfl) rfl zo (by rw [Nat.mul_one, Nat.zero_add])) ?_)))))))))))))
   refine lP Z_218 (Ht rfl) (Ht rfl) (i:=0) rfl (by first | omega | (simp; omega)) rfl (ra rfl (eW (bM (dQ (ro rfl (dK (Ht rfl) (cV 1) z6) (rm rfl (eW (gX (k + 1,_,_) (hS.next (cA m) (cA n) hb) (by dsimp only; omega) (zS rfl) (aU (aD (iH _ _ _)) aY)))))))))
 ·simp at hb
  have hkl:k = (dg m).length:=Nat.le_antisymm hS.kle hb
  subst hkl
  have hlen:=hS.len
  have hfin:=hS.fin (cA m) hle (by rw [dN,dN]; exact hnm)
  rw [dN,dN] at hfin
  refine gK rfl (gG (i:=0) (tt:=5) rfl rfl (oM rfl hlen.symm (Nat.le_refl _)) (ts (rm rfl (ro rfl (cJ K_237 (tG _ hS.dig zo) ⟨(Ht rfl),trivial⟩) (ra rfl (eW (fU rfl (fV (fX rfl) ?_))))))))
  exact (dL hfin)
theorem Gz {m n:Nat} (hm:(dg m).length ≤ 17592186044416) (hn:(dg n).length ≤ 17592186044416):bB Tryz.prog 154 [aN m,aN n] (aN (m * n)):=by
 refine bB.intro Tryz.func154 rfl Tryz.ntmps154 rfl (fun cx=>(ts (ro rfl (cX cW) (eW (cU (ts (rm rfl (ro rfl (dY U_56 (Ht rfl) aB) (ro rfl (cL (Ht rfl) (cV 0)) (rm rfl (fJ rfl rfl (fQ rfl rfl (Ht rfl) (fun h=>cZ (Ht rfl))) (fJ rfl rfl (fQ rfl rfl (Ht rfl) (fun h=>dY U_56 (fG rfl h) aB)) (fJ rfl rfl (fQ rfl rfl (Ht rfl) (fun h=>cL (fG rfl h) (cV 0))) (ro rfl (kQ (Ht rfl) (fun h=>(fG rfl h))) (eW (dX (Ht rfl) (fun hb=>?_) (fun hb=>?_)))))))))))))))))
 ·simp [aP] at hb
  have h0 : m * n = 0 := by
   rcases hb with h | h <;> simp_all [sK]
  refine ts (ro rfl (cX cW) (eW (fU rfl (fV (fX rfl) ?_))))
  exact (fun v V h=>by rw [h0]; exact lX v V h)
 ·clear hb
  refine cY (ts (rm rfl (ro rfl (dY U_56 (Ht rfl) aB) (rm rfl (ro rfl (dY U_56 (Ht rfl) aB) (ro rfl (dK (Ht rfl) (Ht rfl) z6) (rn rfl (iI (T:=cF 0) (i:=Tryz.t218) V_56 kM rfl rfl (Ht rfl) rfl (fun _=>rfl) trivial (by show 4 * _ ≤ _; omega) zo) fun B24=>(ra rfl (eW (cU (ts (rm rfl (ro rfl (dY U_56 (Ht rfl) aB) (ro rfl (cZ (cV 0)) (eW (eY ?_))))))))))))))))
  refine fP (fun (i : Nat) (out : List Nat) => Il (dg m) (dg n) out i) (fun (i : Nat) (out : List Nat) => (dg m).length - i) (fun (i : Nat) (out : List Nat) => [(0, aN m), (1, aN n), (5, Is (.slice (some ⟨B24, 0, none⟩) ((dg m).length + (dg n).length) ((dg m).length + (dg n).length))), (25, aN m), (26, NT .i64 (dg m).length), (27, NT .i64 i)]) (fun (i : Nat) (out : List Nat) => [box B24 218 (out.map cF)]) 0 (List.replicate ((dg m).length + (dg n).length) 0) (Il.start _ _)
   (zS rfl) (aU (aD (nZ _)) aY) (fun i out hS=>?_)
  refine ts (ro rfl (gV (Ht rfl) (Ht rfl)) (eW (cU (dX (Ht rfl) (fun hb=>?_) (fun hb=>?_)))))
  ·simp at hb
   have hxi:=bL (cA m) i
   simp only [BB] at hxi
   refine cY (cU (eY (ts (rm rfl (ro rfl (dJ U_56 Z_218 (Ht rfl) (Ht rfl) rfl (eZ (aO zo))) (ro rfl (dW A_218 Z_218 (Ht rfl)) (ra rfl (ra rfl (eW (ts (ro rfl (cX (cV 0)) (eW (cU (ts (rm rfl (ro rfl (dY U_56 (Ht rfl) aB) (ro rfl (cZ (cV 0)) (eW (eY ?_)))))))))))))))))))
   refine mF (fun (k : Nat) (out2 : List Nat) (c : Nat) => Pg (dg m) (dg n) out2 i k c) (fun (k : Nat) (out2 : List Nat) (c : Nat) => (dg n).length - k) (fun (k : Nat) (out2 : List Nat) (c : Nat) => [(0, aN m), (1, aN n), (5, Is (.slice (some ⟨B24, 0, none⟩) ((dg m).length + (dg n).length) ((dg m).length + (dg n).length))), (6, NT .i64 i), (7, cF ((dg m).getD i 0)), (8, NT .u64 c), (25, aN m), (26, NT .i64 (dg m).length), (27, NT .i64 i), (32, aN n), (33, NT .i64 (dg n).length), (34, NT .i64 k)]) (fun (k : Nat) (out2 : List Nat) (c : Nat) => [box B24 218 (out2.map cF)]) 0 out 0 (hS.row hb)
    (zS rfl) (dI.refl _) (fun k out2 c hR=>?_)
   refine ts (ro rfl (gV (Ht rfl) (Ht rfl)) (eW (cU (dX (Ht rfl) (fun hk=>?_) (fun hk=>?_)))))
   ·simp at hk
    have hlen:=hR.len; have hcl:=hR.clt; have hyk:=bL (cA n) k; have hok:=bL hR.dig (i + k)
    have hbnd:=Al (bL (cA m) i) (bL (cA n) k) (bL hR.dig (i + k)) hR.clt
    simp only [BB] at hcl hyk hok hbnd
    refine cY (cU (eY (ts (rm rfl (ro rfl (dJ U_56 Z_218 (Ht rfl) (Ht rfl) rfl (eZ (aO zo))) (ro rfl (dW A_218 Z_218 (Ht rfl)) (ra rfl (ra rfl (eW (ts (rm rfl (rm rfl (ro rfl (gW U_218 U_263 (Ht rfl) z7) (rm rfl (ro rfl (gW U_218 U_263 (Ht rfl) z7) (ro rfl (mI (Ht rfl) (Ht rfl) (by show _ < 18446744073709551616; omega)) ?_))))))))))))))))
    refine rm rfl (rm rfl (rm rfl (ro rfl (dK (Ht rfl) (Ht rfl) z6) (ro rfl (gZ U_56 Z_218 (Ht rfl) (Ht rfl) rfl zo (by rw [Nat.mul_one,Nat.zero_add])) ?_))))
    refine ro rfl (fZ A_218 Z_218 (Ht rfl) (i:=0) rfl (eZ (aO zo))) (ro rfl (gW U_218 U_263 (Ht rfl) z7) (ro rfl (dK (Ht rfl) (Ht rfl) z7) (ro rfl (dK (Ht rfl) (Ht rfl) z7) (ra rfl (eW (ts (rm rfl (rm rfl (rm rfl (ro rfl (dK (Ht rfl) (Ht rfl) z6) ?_))))))))))
    refine rm rfl (ro rfl (iJ rfl U_263 U_218 (Ht rfl)) (ro rfl (gZ U_56 Z_218 (Ht rfl) (Ht rfl) rfl zo (by rw [Nat.mul_one,Nat.zero_add])) ?_))
    refine lP Z_218 (Ht rfl) (Ht rfl) (i:=0) rfl (by first | omega | (simp; omega)) rfl (eW (dQ (rm rfl (ro rfl (gE (Ht rfl) (cV 32) (by decide)) (ra rfl (eW (bM (dQ (ro rfl (dK (Ht rfl) (cV 1) z6) (rm rfl (eW (gX (k + 1,_,_) (hR.next (cA m) (cA n) hk rfl) (by dsimp only; omega) (zS rfl) (aU (aD (iH _ _ _)) aY)))))))))))))
   ·simp at hk
    have hkl:k = (dg n).length:=Nat.le_antisymm hR.kle hk
    subst hkl
    have hlen:=hR.len; have hcl:=hR.clt
    simp only [BB] at hcl
    refine gK rfl (dQ (rm rfl (rm rfl (rm rfl (ro rfl (dY U_56 (Ht rfl) aB) (ro rfl (dK (Ht rfl) (Ht rfl) z6) (rm rfl (ro rfl (gW U_263 U_218 (Ht rfl) (by show _ < 4294967296; first | omega | (simp only [mZ]; omega))) (ro rfl (gZ U_56 Z_218 (Ht rfl) (Ht rfl) rfl zo (by rw [Nat.mul_one,Nat.zero_add])) ?_)))))))))
    refine lP Z_218 (Ht rfl) (Ht rfl) (i:=0) rfl (by first | omega | (simp; omega)) rfl (eW (bM (dQ (ro rfl (dK (Ht rfl) (cV 1) z6) (rm rfl (eW (gX (i + 1,_) (hR.fin) (by dsimp only; omega) (zS rfl) (aU (aD (iH _ _ _)) aY))))))))
  ·simp at hb
   have hkl:i = (dg m).length:=Nat.le_antisymm hS.ile hb
   subst hkl
   have hlen:=hS.len
   have hfin:=hS.fin
   rw [dN,dN] at hfin
   refine gK rfl (gG (i:=0) (tt:=5) rfl rfl (oM rfl hlen.symm (Nat.le_refl _)) (ts (rm rfl (ro rfl (cJ K_237 (tG _ hS.dig zo) ⟨(Ht rfl),trivial⟩) (ra rfl (eW (fU rfl (fV (fX rfl) ?_))))))))
   exact (dL hfin)
end
section
open Go Go.RowKit
theorem a31 {v:Nat} (hv:v < 4294967296):bB Tryz.prog 284 [cF v] (NT .i64 (bl v)):=by
 refine bB.intro Tryz.func284 rfl Tryz.ntmps284 rfl (fun cx=>(ts (ro rfl (cX (cV 0)) (eW (cU (tE (fun (q:Nat) (x:Nat)=>bl v = q + bl x ∧ x < 65536 ∧ q ≤ 16) (fun (q:Nat) (x:Nat)=>[(0,cF x),(2,NT .i64 q)]) (fun (q:Nat) (x:Nat)=>[]) ?_ (fun q x ⟨hq1,hq2,hq3⟩=>?_)))))))
 ·refine ts (rm rfl (ro rfl (oW (Ht rfl) (cV 65536)) (eW (dX (Ht rfl) (fun hb => ?_) (fun hb => ?_)))))
  ·simp at hb
   refine ts (rm rfl (ro rfl (gE (Ht rfl) (cV 16) (by decide)) (ra rfl (eW (dQ (ro rfl (cX (cV 16)) (eW (aT (16,v / 2 ^ 16) ⟨a8v hb,by dsimp only; omega,Nat.le_refl _⟩ (zS rfl) aY))))))))
  ·simp at hb
   refine cY (aT (0,v) ⟨(Nat.zero_add _).symm,hb,by dsimp only; omega⟩ (zS rfl) aY)
 ·refine cU (tE (fun (r : Nat) (z : Nat) => bl v = r + bl z ∧ z < 256 ∧ r ≤ 24) (fun (r : Nat) (z : Nat) => [(0, cF z), (2, NT .i64 r)]) (fun (r : Nat) (z : Nat) => []) ?_ (fun r z ⟨hr1, hr2, hr3⟩ => ?_))
  ·refine ts (rm rfl (ro rfl (oW (Ht rfl) (cV 256)) (eW (dX (Ht rfl) (fun hb => ?_) (fun hb => ?_)))))
   ·simp at hb
    refine ts (rm rfl (ro rfl (gE (Ht rfl) (cV 8) (by decide)) (ra rfl (eW (dQ (rm rfl (ro rfl (dK (Ht rfl) (cV 8) z6) (ra rfl (eW (aT (q + 8,x / 2 ^ 8) ⟨by have:=bl8 hb; dsimp only; omega,by dsimp only; omega,by dsimp only; omega⟩ (zS rfl) aY))))))))))
   ·simp at hb
    refine cY (aT (q,x) ⟨hq1,hb,by dsimp only; omega⟩ (zS rfl) aY)
  ·have hbl := pI (k := 8) hr2
   refine ts (rm rfl (rm rfl (ro rfl (gW U_218 U_5 (Ht rfl) (by show _ < 256; first | omega | (simp only [mZ]; omega))) (ro rfl (a4d Tryz.runUnderlying9 cW (Ht rfl) (a8E hr2 (by kernel_rfl))) (ro rfl (gW U_5 U_3 (Ht rfl) z6) (ro rfl (dK (Ht rfl) (Ht rfl) z6) (ra rfl (eW (fU rfl (fV (fX rfl) ?_))))))))))
   exact (mK zo)
theorem a5T {v:Nat} (hv:v < 4294967296):bB Tryz.prog 265 [cF v] (NT .i64 (32 - bl v)):=by
 refine bB.intro Tryz.func265 rfl Tryz.ntmps265 rfl (fun cx=>(ts (ro rfl (cX (cV 0)) (eW (ts (rm rfl (ro rfl (cJ Tryz.call284 (a31 hv) ⟨(Ht rfl),trivial⟩) (ro rfl (dU (cV 32) (Ht rfl) (pI hv) z6) (ra rfl (eW ?_))))))))))
 exact fU rfl (fX rfl)
theorem a2V {hi lo y:Nat} (hy:hi < y) (hl:lo < BB) (hyb:y < BB):bB Tryz.prog 283 [cF hi,cF lo,cF y] (eH [cF ((hi * BB + lo) / y),cF ((hi * BB + lo) % y)]):=by
 have hq:=Ig hy hl; have hm:=Nat.mod_lt (hi * BB + lo) (by omega:y > 0); have hz:hi * BB + lo < 18446744073709551616:=by simp only [BB] at *; omega
 have hsh : hi * 2 ^ 32 < 18446744073709551616 := by
  have h1:hi < BB:=by omega
  show hi * BB < _
  simp only [BB] at h1 ⊢; omega
 refine bB.intro Tryz.func283 rfl Tryz.ntmps283 rfl (fun cx=>(ts (ro rfl (cX (cV 0)) (ro rfl (cX (cV 0)) (eW (cU (ts (rm rfl (ro rfl (jR (Ht rfl) (cV 0)) (rm rfl (fJ rfl rfl (fQ rfl rfl (Ht rfl) (fun h=>cZ (Ht rfl))) (fJ rfl rfl (fQ rfl rfl (Ht rfl) (fun h=>cZ (Ht rfl))) (fJ rfl rfl (fQ rfl rfl (Ht rfl) (fun h=>Co (fG rfl h) (fG rfl h))) (ro rfl (fC (Ht rfl) (fun h=>(fG rfl h))) (eW (jQ (Ht rfl) (by simp; omega) ?_))))))))))))))))
 have hl2:lo < 18446744073709551616:=by simp only [BB] at hl; omega
 have hy2:y < 18446744073709551616:=by simp only [BB] at hyb; omega
 refine cY (ts (rm rfl (ro rfl (gW U_218 U_263 (Ht rfl) (by show _ < 18446744073709551616; simp only [BB] at *; omega)) (ro rfl (oY (Ht rfl) (cV 32) (by decide) hsh) (rm rfl (ro rfl (gW U_218 U_263 (Ht rfl) (by show _ < 18446744073709551616; simp only [BB] at *; omega)) (ro rfl (aM.nat (qX rfl (Ht rfl) (Ht rfl) z7 z7) (xA hl)) (ra rfl (eW ?_)))))))))
 refine cU (fW (m:=11) (dp 8 rfl (cZ (Ht rfl)) (dp 2 rfl (cZ (Ht rfl)) (dq 24 1 rfl (gW U_218 U_263 (Ht rfl) (by show _ < 18446744073709551616; simp only [BB] at *; omega)) (dE 23 0 25 2 rfl (jS (Ht rfl) (Ht rfl) zo (by show _ < 18446744073709551616; exact hz)) (dq 26 3 rfl (gW U_263 U_218 (Ht rfl) (by show _ < 4294967296; exact hq)) (dp 8 rfl (cZ (Ht rfl)) (dp 2 rfl (cZ (Ht rfl)) (dq 29 6 rfl (gW U_218 U_263 (Ht rfl) (by show _ < 18446744073709551616; simp only [BB] at *; omega)) ?_)))))))))
 refine dE 28 5 30 7 rfl (jT (Ht rfl) (Ht rfl) zo) (dq 31 8 rfl (gW U_263 U_218 (Ht rfl) (by show _ < 4294967296; simp only [BB] at *; omega)) (dq 27 4 rfl (cX (Ht rfl)) (fK aS rfl (by kernel_rfl) (zF (zF (aJ (aJ (aJ (aV (ra rfl (eW ?_)))))))))))
 exact bN rfl (fX rfl) (fX rfl)
theorem a59 {m k:Nat} (hm:(dg m).length ≤ 17592186044416) (hk:k ≤ 562949953421312):bB Tryz.prog 266 [aN m,NT .i64 k] (aN (m * 2 ^ k)):=by
 refine bB.intro Tryz.func266 rfl Tryz.ntmps266 rfl (fun cx=>(ts (ro rfl (cX cW) (eW (cU (ts (rm rfl (ro rfl (dY U_56 (Ht rfl) aB) (ro rfl (cL (Ht rfl) (cV 0)) (rm rfl (fJ rfl rfl (fQ rfl rfl (Ht rfl) (fun h=>cZ (Ht rfl))) (fJ rfl rfl (fQ rfl rfl (Ht rfl) (fun h=>cL (fG rfl h) (cV 0))) (ro rfl (kQ (Ht rfl) (fun h=>(fG rfl h))) (eW (dX (Ht rfl) (fun hb=>?_) (fun hb=>?_))))))))))))))))
 ·simp [aP] at hb
  have h0 : m * 2 ^ k = m := by
   rcases hb with h | h
   ·simp_all [sK]
   ·rw [h,Nat.pow_zero,Nat.mul_one]
  refine ts (rm rfl (ra rfl (eW (fU rfl (fV (fX rfl) ?_)))))
  exact (dL h0.symm)
 ·clear hb
  have hr:=Nat.mod_lt k (by decide:32 > 0)
  refine cY (ts (rm rfl (ro rfl (jS (Ht rfl) (cV 32) zo z6) (rm rfl (ro rfl (jT (Ht rfl) (cV 32) zo) (ro rfl (gW U_3 U_264 (Ht rfl) z7) (ra rfl (ra rfl (eW (ts (rm rfl (ro rfl (dY U_56 (Ht rfl) aB) (rm rfl (ro rfl (dK (Ht rfl) (Ht rfl) z6) (ro rfl (dK (Ht rfl) (cV 1) z6) ?_)))))))))))))))
  refine rn rfl (iI (T:=cF 0) (i:=Tryz.t218) V_56 kM rfl rfl (Ht rfl) rfl (fun _=>rfl) trivial (by show 4 * _ ≤ _; omega) zo) fun B29=>ra rfl (eW (cU (ts (rm rfl (ro rfl (dY U_56 (Ht rfl) aB) (ro rfl (cZ (cV 0)) (eW (eY ?_))))))))
  refine fP (fun (i : Nat) (out : List Nat) => Dk (dg m) (k / 32) (k % 32) out i) (fun (i : Nat) (out : List Nat) => (dg m).length - i) (fun (i : Nat) (out : List Nat) => [(5, NT .i64 (k / 32)), (6, NT .u64 (k % 32)), (7, Is (.slice (some ⟨B29, 0, none⟩) ((dg m).length + k / 32 + 1) ((dg m).length + k / 32 + 1))), (30, aN m), (31, NT .i64 (dg m).length), (32, NT .i64 i)]) (fun (i : Nat) (out : List Nat) => [box B29 218 (out.map cF)]) 0 (List.replicate ((dg m).length + k / 32 + 1) 0) (Dk.start _ _ _)
   (zS rfl) (aU (aD (nZ _)) aY) (fun i out hS=>?_)
  refine ts (ro rfl (gV (Ht rfl) (Ht rfl)) (eW (cU (dX (Ht rfl) (fun hb=>?_) (fun hb=>?_)))))
  ·simp at hb
   have hlen:=hS.len; have hxi:=bL (cA m) i; have hok:=bL hS.dig (i + k / 32)
   have hv:=If hxi hr
   have hd:(dg m).getD i 0 * 2 ^ (k % 32) / 2 ^ 32 < 4294967296:=Nat.div_lt_of_lt_mul hv
   simp only [BB] at hxi hok
   refine cY (cU (eY (ts (rm rfl (ro rfl (dJ U_56 Z_218 (Ht rfl) (Ht rfl) rfl (eZ (aO zo))) (ro rfl (dW A_218 Z_218 (Ht rfl)) (ra rfl (ra rfl (eW (ts (rm rfl (ro rfl (gW U_218 U_263 (Ht rfl) z7) (rm rfl (ro rfl (oY (Ht rfl) (Ht rfl) (by show _ ≤ _; simp [IntKind.bits]; omega) (by show _ < 18446744073709551616; exact hv)) (ra rfl (eW (ts (rm rfl (rm rfl (rm rfl (ro rfl (dK (Ht rfl) (Ht rfl) z6) ?_)))))))))))))))))))))
   refine ro rfl (gZ U_56 Z_218 (Ht rfl) (Ht rfl) rfl zo (by rw [Nat.mul_one,Nat.zero_add])) ?_
   refine ro rfl (fZ A_218 Z_218 (Ht rfl) (i:=0) rfl (eZ (aO zo))) (rm rfl (ro rfl (iJ rfl U_263 U_218 (Ht rfl)) (ro rfl (qX rfl (Ht rfl) (Ht rfl) (by show _ < 4294967296; omega) (by show _ % 4294967296 < 4294967296; omega)) (ro rfl (gZ U_56 Z_218 (Ht rfl) (Ht rfl) rfl zo (by rw [Nat.mul_one,Nat.zero_add])) ?_))))
   refine lP Z_218 (Ht rfl) (Ht rfl) (i:=0) rfl (by first | omega | (simp; omega)) rfl (eW (dQ (rm rfl (rm rfl (rm rfl (ro rfl (dK (Ht rfl) (Ht rfl) z6) (ro rfl (dK (Ht rfl) (cV 1) z6) (rm rfl (ro rfl (gE (Ht rfl) (cV 32) (by decide)) (ro rfl (gW U_263 U_218 (Ht rfl) (by show _ < 4294967296; exact hd)) (ro rfl (gZ U_56 Z_218 (Ht rfl) (Ht rfl) rfl zo (by rw [Nat.mul_one,Nat.zero_add])) ?_)))))))))))
   refine lP Z_218 (Ht rfl) (Ht rfl) (i:=0) rfl (by first | omega | (simp; omega)) rfl (eW (bM (dQ (ro rfl (dK (Ht rfl) (cV 1) z6) (rm rfl (eW (gX (i + 1,_) (hS.next (cA m) hr hb rfl rfl) (by dsimp only; omega) (zS rfl) (aU (aD (Od _ _ _ _ _)) aY))))))))
  ·simp at hb
   have hkl:i = (dg m).length:=Nat.le_antisymm hS.kle hb
   subst hkl
   have hlen:=hS.len
   have hfin:=hS.fin
   rw [dN,nF] at hfin
   refine gK rfl (gG (i:=0) (tt:=7) rfl rfl (oM rfl hlen.symm (Nat.le_refl _)) (ts (rm rfl (ro rfl (cJ K_237 (tG _ hS.dig zo) ⟨(Ht rfl),trivial⟩) (ra rfl (eW (fU rfl (fV (fX rfl) ?_))))))))
   exact (dL hfin)
theorem a7O {m k:Nat} (hm:(dg m).length ≤ 17592186044416) (hk:k ≤ 562949953421312):bB Tryz.prog 268 [aN m,NT .i64 k] (aN (m / 2 ^ k)):=by
 refine bB.intro Tryz.func268 rfl Tryz.ntmps268 rfl (fun cx=>?_)
 have hr:=Nat.mod_lt k (by decide:32 > 0)
 refine ts (ro rfl (cX cW) (eW (ts (rm rfl (ro rfl (jS (Ht rfl) (cV 32) zo z6) (rm rfl (ro rfl (jT (Ht rfl) (cV 32) zo) (ro rfl (gW U_3 U_264 (Ht rfl) z7) (ra rfl (ra rfl (eW (cU (ts (rm rfl (rm rfl (ro rfl (dY U_56 (Ht rfl) aB) (ro rfl (oW (Ht rfl) (Ht rfl)) (eW (dX (Ht rfl) (fun hb=>?_) (fun hb=>?_))))))))))))))))))))
 ·simp at hb
  have h0:=Oi (cA m) hb (r:=k % 32)
  rw [dN,nF] at h0
  refine ts (ro rfl (cX cW) (eW (fU rfl (fV (fX rfl) ?_))))
  exact (fun v V h=>dL h0.symm v V (lX v V h))
 ·simp at hb
  refine cY (ts (rm rfl (ro rfl (dY U_56 (Ht rfl) aB) (rm rfl (ro rfl (dU (Ht rfl) (Ht rfl) zo z6) (rn rfl (iI (T:=cF 0) (i:=Tryz.t218) V_56 kM rfl rfl (Ht rfl) rfl (fun _=>rfl) trivial (by show 4 * _ ≤ _; omega) zo) fun B23=>(ra rfl (eW (cU (ts (rm rfl (ro rfl (iV U_56 (Ht rfl)) (ro rfl (cZ (cV 0)) (eW (eY ?_)))))))))))))))
  refine fP (fun (i : Nat) (out : List Nat) => Dl (dg m) (k / 32) (k % 32) out i) (fun (i : Nat) (out : List Nat) => (dg m).length - i) (fun (i : Nat) (out : List Nat) => [(0, aN m), (5, NT .i64 (k / 32)), (6, NT .u64 (k % 32)), (7, Is (.slice (some ⟨B23, 0, none⟩) ((dg m).length - k / 32) ((dg m).length - k / 32))), (25, NT .i64 ((dg m).length - k / 32 : Nat)), (26, NT .i64 i)]) (fun (i : Nat) (out : List Nat) => [box B23 218 (out.map cF)]) 0 (List.replicate ((dg m).length - k / 32) 0) (Dl.start _ _ _)
   (zS rfl) (aU (aD (nZ _)) aY) (fun i out hS=>?_)
  refine ts (ro rfl (gV (Ht rfl) (Ht rfl)) (eW (cU (dX (Ht rfl) (fun hb=>?_) (fun hb=>?_)))))
  ·simp at hb
   have hlen:=hS.len; have hx0:=bL (cA m) (i + k / 32); have hx1:=bL (cA m) (i + k / 32 + 1)
   have hio:i < out.length:=by omega
   simp only [BB] at hx0 hx1
   refine cY (cU (eY (ts (rm rfl (ra rfl (eW (ts (rm rfl (rm rfl (rm rfl (ro rfl (dK (Ht rfl) (Ht rfl) z6) (ro rfl (dJ U_56 Z_218 (Ht rfl) (Ht rfl) rfl (eZ (aO zo))) (ro rfl (dW A_218 Z_218 (Ht rfl)) (ro rfl (gW U_218 U_263 (Ht rfl) z7) (ra rfl (eW (cU (jU (fun (v:Nat)=>v = (dg m).getD (i + k / 32) 0 + BB * (dg m).getD (i + k / 32 + 1) 0) (fun (v:Nat)=>[(0,aN m),(5,NT .i64 (k / 32)),(6,NT .u64 (k % 32)),(7,Is (.slice (some ⟨B23,0,none⟩) ((dg m).length - k / 32) ((dg m).length - k / 32))),(8,NT .i64 i),(9,NT .u64 v),(25,NT .i64 ((dg m).length - k / 32:Nat)),(26,NT .i64 i)]) (fun (v:Nat)=>[box B23 218 (out.map cF)]) ?_ (fun v hv=>?_)))))))))))))))))))
   ·refine ts (rm rfl (rm rfl (ro rfl (dK (Ht rfl) (Ht rfl) z6) (ro rfl (dK (Ht rfl) (cV 1) z6) (rm rfl (ro rfl (dY U_56 (Ht rfl) aB) (ro rfl (gV (Ht rfl) (Ht rfl)) (eW (dX (Ht rfl) (fun hk2 => ?_) (fun hk2 => ?_))))))))))
    ·simp at hk2
     refine dQ (rm rfl (rm rfl (rm rfl (rm rfl (ro rfl (dK (Ht rfl) (Ht rfl) z6) (ro rfl (dK (Ht rfl) (cV 1) z6) (ro rfl (dJ U_56 Z_218 (Ht rfl) (Ht rfl) rfl (eZ (aO zo))) (ro rfl (dW A_218 Z_218 (Ht rfl)) (ro rfl (gW U_218 U_263 (Ht rfl) z7) (ro rfl (oY (Ht rfl) (cV 32) (by decide) (by show _ < 18446744073709551616; omega)) ?_))))))))))
     refine ro rfl (aM.nat (qX rfl (Ht rfl) (Ht rfl) z7 z7) (Vq hx0)) (ra rfl (eW (aT ((dg m).getD (i + k / 32) 0 + BB * (dg m).getD (i + k / 32 + 1) 0) rfl (zS rfl) (dI.refl _))))
    ·simp at hk2
     refine cY (aT ((dg m).getD (i + k / 32) 0) (by simp [List.getD,List.getElem?_eq_none hk2]) (zS rfl) (dI.refl _))
   ·refine dQ (rm rfl (rm rfl (rm rfl (rm rfl (ro rfl (gE (Ht rfl) (Ht rfl) (by show _ ≤ 64; omega)) (ro rfl (iJ rfl U_263 U_218 (Ht rfl)) (ro rfl (gZ U_56 Z_218 (Ht rfl) (Ht rfl) rfl zo (by rw [Nat.mul_one, Nat.zero_add])) ?_)))))))
    refine lP Z_218 (Ht rfl) (Ht rfl) (i:=0) rfl (by first | omega | (simp; omega)) rfl (eW (bM (dQ (ro rfl (dK (Ht rfl) (cV 1) z6) (rm rfl (eW (gX (i + 1,_) (hS.next (cA m) hr hio (by rw [hv]; rfl)) (by dsimp only; omega) (zS rfl) (aU (aD (iH _ _ _)) aY))))))))
  ·simp at hb
   have hlen:=hS.len
   have hkl:i = out.length:=Nat.le_antisymm hS.kle zo
   subst hkl
   have hfin:=hS.fin (cA m) zo
   rw [dN,nF] at hfin
   refine gK rfl (gG (i:=0) (tt:=7) rfl rfl (oM rfl hlen.symm (Nat.le_refl _)) (ts (rm rfl (ro rfl (cJ K_237 (tG _ hS.dig zo) ⟨(Ht rfl),trivial⟩) (ra rfl (eW (fU rfl (fV (fX rfl) ?_))))))))
   exact (dL hfin)
theorem Tc {m y:Nat} (hm:(dg m).length ≤ 17592186044416) (hy:0 < y) (hyb:y < BB):bB Tryz.prog 264 [aN m,cF y] (eH [aN (m / y),cF (m % y)]):=by
 refine bB.intro Tryz.func264 rfl Tryz.ntmps264 rfl (fun cx=>(ts (ro rfl (cX cW) (ro rfl (cX (cV 0)) (eW (ts (rm rfl (ro rfl (dY U_56 (Ht rfl) aB) (rn rfl (iI (T:=cF 0) (i:=Tryz.t218) V_56 kM rfl rfl (Ht rfl) rfl (fun _=>rfl) trivial (by show 4 * _ ≤ _; omega) zo) fun B11=>(ra rfl (eW (ts (ro rfl (cX (cV 0)) (eW (cU (ts (rm rfl (ro rfl (dY U_56 (Ht rfl) aB) (ro rfl (iN (Ht rfl) cW (xK zo)) (ra rfl (eW (eY ?_))))))))))))))))))))))
 refine mF (fun (k : Nat) (out : List Nat) (r : Nat) => qN (dg m) y out k r) (fun (k : Nat) (out : List Nat) (r : Nat) => k) (fun (k : Nat) (out : List Nat) (r : Nat) => [(0, aN m), (1, cF y), (6, Is (.slice (some ⟨B11, 0, none⟩) (dg m).length (dg m).length)), (7, cF r), (8, aL .i64 ((k : Int) - 1))]) (fun (k : Nat) (out : List Nat) (r : Nat) => [box B11 218 (out.map cF)]) (dg m).length (List.replicate (dg m).length 0) 0 (qN.start _ hy)
  (zS rfl) (aU (aD (nZ _)) aY) (fun k out r hS=>?_)
 refine cU (ts (rm rfl (ro rfl (nY (Ht rfl) cW) (eW (dX (Ht rfl) (fun hb=>?_) (fun hb=>?_))))))
 ·simp at hb
  have hlen:=hS.len; have hkl:=hS.kle
  refine cY (cU (eY (dQ (rm rfl (rm rfl (rm rfl (rm rfl (rm rfl (ro rfl (dJ U_56 Z_218 (Ht rfl) (Ht rfl) (show ((k:Int) - 1) = ((k - 1:Nat):Int) by omega) (eZ (aO zo))) (ro rfl (dW A_218 Z_218 (Ht rfl)) (rm rfl (ro rfl (cJ Tryz.call283 (a2V hS.rlt (bL (cA m) (k - 1)) hyb) ⟨(Ht rfl),(Ht rfl),(Ht rfl),trivial⟩) (rm rfl (ro rfl (eQ (Ht rfl) rfl) (ro rfl (eQ (Ht rfl) rfl) (ro rfl (gZ U_56 Z_218 (Ht rfl) (Ht rfl) (show ((k:Int) - 1) = ((k - 1:Nat):Int) by omega) zo (by rw [Nat.mul_one,Nat.zero_add])) ?_))))))))))))))))
  refine lP Z_218 (Ht rfl) (Ht rfl) (i:=0) rfl (by first | omega | (simp; omega)) rfl (ra rfl (eW (bM (dQ (rm rfl (ro rfl (iN (Ht rfl) cW (xK zo)) (ra rfl (eW (gX (k - 1,_,_) (hS.next (cA m) zo rfl) (by dsimp only; omega) (aQ rfl (aQ rfl (aQ rfl (aQ rfl (aZ rfl (aR zo) aX))))) (aU (aD (iH _ _ _)) aY))))))))))
 ·simp at hb
  have hk0:k = 0:=by omega
  subst hk0
  have hlen:=hS.len
  have hfin:=hS.fin
  rw [dN] at hfin
  refine gK rfl (gG (i:=0) (tt:=6) rfl rfl (oM rfl hlen.symm (Nat.le_refl _)) (ts (rm rfl (ro rfl (cJ K_237 (tG _ hS.dig zo) ⟨(Ht rfl),trivial⟩) (rm rfl (ra rfl (ra rfl (eW (bN rfl (fV (fX rfl) ?_) (fV (fX rfl) ?_))))))))))
  ·exact (dL hfin.1)
  ·exact (mK hfin.2)
end
section
open Go Go.RowKit
theorem a61 {us vs : List Nat} {q j B l : Nat} (hul : us.length = l) (hu : lK us) (hv : lK vs) (hq : q < BB) (hl : j + vs.length < us.length) (hL : us.length ≤ 1152921504606846976) :
    jM Tryz.prog 267 [Is (.slice (some ⟨B,0,none⟩) l l),zP vs,NT .u64 q,NT .i64 j] [box B 218 (us.map cF)] (List Nat × Bool) (fun x=>aH x.2) (fun x=>[box B 218 (x.1.map cF)]) (fun x=>Lk us vs q j x.1 x.2):=by
 refine jM.intro Tryz.func267 rfl Tryz.ntmps267 rfl (fun cx Z=>(ts (ro rfl (cX cW) (eW (ts (ro rfl (cX (cV 0)) (ro rfl (cX (cV 0)) (eW (cU (ts (rm rfl (ro rfl (dY U_56 (Ht rfl) aB) (ro rfl (cZ (cV 0)) (eW (eY ?_)))))))))))))))
 refine xN (fun (i : Nat) (out : List Nat) (c : Nat) (b : Nat) => uB us vs q j out i c b) (fun (i : Nat) (out : List Nat) (c : Nat) (b : Nat) => vs.length - i) (fun (i : Nat) (out : List Nat) (c : Nat) (b : Nat) => [(0, Is (.slice (some ⟨B, 0, none⟩) l l)), (1, zP vs), (2, NT .u64 q), (3, NT .i64 j), (9, NT .u64 c), (10, NT .u64 b), (16, zP vs), (17, NT .i64 vs.length), (18, NT .i64 i)]) (fun (i : Nat) (out : List Nat) (c : Nat) (b : Nat) => [Z, box B 218 (out.map cF)]) 0 us 0 0 (uB.start hu vs q j)
  (zS rfl) (dI.refl _) (fun i out c b hS=>?_)
 refine ts (ro rfl (gV (Ht rfl) (Ht rfl)) (eW (cU (dX (Ht rfl) (fun hb=>?_) (fun hb=>?_)))))
 ·simp at hb
  have hlen:=hS.len; have hcl:=hS.clt; have hbl:=hS.ble; have hvi:=bL hv i; have hok:=bL hS.dig (i + j)
  have hp:=Rz hq hvi hS.clt
  simp only [BB] at hp hcl hvi hok
  obtain ⟨p,hp1⟩:∃ p,p = q * vs.getD i 0 + c:=⟨_,rfl⟩
  obtain ⟨x,hx1⟩:∃ x,x = ((out.getD (i + j) 0 + 18446744073709551616 - p % 4294967296) % 18446744073709551616 + 18446744073709551616 - b) % 18446744073709551616:=⟨_,rfl⟩
  refine cY (cU (eY (ts (rm rfl (ro rfl (dJ U_56 Z_218 (Ht rfl) (Ht rfl) rfl (eZ (aO zo))) (ro rfl (dW A_218 Z_218 (Ht rfl)) (ra rfl (ra rfl (eW (ts (rm rfl (rm rfl (ro rfl (gW U_218 U_263 (Ht rfl) z7) (ro rfl (mI (Ht rfl) (Ht rfl) z7) (rm rfl (ro rfl (aM.nat (dK (Ht rfl) (Ht rfl) z7) hp1.symm) ?_))))))))))))))))
  refine ra rfl (eW (ts (rm rfl (ro rfl (gE (Ht rfl) (cV 32) (by decide)) (ra rfl (eW (ts (rm rfl (rm rfl (rm rfl (ro rfl (dK (Ht rfl) (Ht rfl) z6) (ro rfl (gZ U_56 Z_218 (Ht rfl) (Ht rfl) rfl zo (by rw [Nat.mul_one,Nat.zero_add])) ?_))))))))))))
  refine ro rfl (fZ A_218 Z_218 (Ht rfl) (i:=1) rfl (eZ (aO zo))) (ro rfl (gW U_218 U_263 (Ht rfl) z7) (rm rfl (ro rfl (iJ rfl U_263 U_218 (Ht rfl)) (ro rfl (gW U_218 U_263 (Ht rfl) z7) (ro rfl (oZ rfl (Ht rfl) (Ht rfl) (by show _ ≤ 18446744073709551616; first | omega | (simp only [mZ]; omega))) ?_)))))
  refine rm rfl (ro rfl (aM.nat (oZ rfl (Ht rfl) (Ht rfl) (by show _ ≤ 18446744073709551616; first | omega | (simp only [mZ]; omega))) hx1.symm) (ra rfl (eW (ts (rm rfl (rm rfl (rm rfl (ro rfl (dK (Ht rfl) (Ht rfl) z6) (rm rfl (ro rfl (iJ rfl U_263 U_218 (Ht rfl)) (ro rfl (gZ U_56 Z_218 (Ht rfl) (Ht rfl) rfl zo (by rw [Nat.mul_one,Nat.zero_add])) ?_)))))))))))
  refine lP Z_218 (Ht rfl) (Ht rfl) (i:=1) rfl (by first | omega | (simp; omega)) rfl (eW (dQ (rm rfl (ro rfl (gE (Ht rfl) (cV 63) (by decide)) (ra rfl (eW (bM (dQ (ro rfl (dK (Ht rfl) (cV 1) z6) (rm rfl (eW (gX (i + 1,_,_,_) (hS.next hu hv hq hb hl hp1 (Fu hok hbl hx1) rfl) (by dsimp only; omega) (zS rfl) (aU (fun _ _ _ h=>h) (aU (aD (iH _ _ _)) aY))))))))))))))
 ·simp at hb
  have hkl:i = vs.length:=Nat.le_antisymm hS.ile hb
  subst hkl
  have hlen:=hS.len; have hcl:=hS.clt; have hbl:=hS.ble; have hok:=bL hS.dig (j + vs.length)
  obtain ⟨x,hx1⟩:∃ x,x = ((out.getD (j + vs.length) 0 + 18446744073709551616 - c) % 18446744073709551616 + 18446744073709551616 - b) % 18446744073709551616:=⟨_,rfl⟩
  have hfin:=hS.fin hl (Fv hok hcl hbl hx1) rfl
  simp only [BB] at hcl hok
  refine gK rfl (ts (rm rfl (rm rfl (rm rfl (ro rfl (dY U_56 (Ht rfl) aB) (ro rfl (dK (Ht rfl) (Ht rfl) z6) (ro rfl (gZ U_56 Z_218 (Ht rfl) (Ht rfl) rfl zo (by rw [Nat.mul_one,Nat.zero_add])) ?_)))))))
  refine ro rfl (fZ A_218 Z_218 (Ht rfl) (i:=1) rfl (eZ (aO zo))) (ro rfl (gW U_218 U_263 (Ht rfl) z7) (rm rfl (ro rfl (oZ rfl (Ht rfl) (Ht rfl) (by show _ ≤ 18446744073709551616; first | omega | (simp only [mZ]; omega))) (rm rfl (ro rfl (aM.nat (oZ rfl (Ht rfl) (Ht rfl) (by show _ ≤ 18446744073709551616; first | omega | (simp only [mZ]; omega))) hx1.symm) (ra rfl (eW (ts (rm rfl (rm rfl (rm rfl (ro rfl (dY U_56 (Ht rfl) aB) ?_))))))))))))
  refine ro rfl (dK (Ht rfl) (Ht rfl) z6) (rm rfl (ro rfl (iJ rfl U_263 U_218 (Ht rfl)) (ro rfl (gZ U_56 Z_218 (Ht rfl) (Ht rfl) rfl zo (by rw [Nat.mul_one,Nat.zero_add])) ?_)))
  refine lP Z_218 (Ht rfl) (Ht rfl) (i:=1) rfl (by first | omega | (simp; omega)) rfl (eW (ts (rm rfl (ro rfl (gE (Ht rfl) (cV 63) (by decide)) (ro rfl (jR (Ht rfl) (cV 0)) (ra rfl (eW ?_)))))))
  exact lJ (_,_) hfin [0,1] ⟨⟨_,rfl,fun _ _ _ h=>h⟩,⟨_,rfl,(aD (iH _ _ _))⟩,trivial⟩ (by decide) (zJ rfl (fX rfl))
theorem Sr {m n:Nat} (hm:(dg m).length ≤ 17592186044415) (hn1:(dg n).length ≤ 17592186044416) (hn:n ≠ 0):bB Tryz.prog 233 [aN m,aN n] (eH [aN (m / n),aN (m % n)]):=by
 refine bB.intro Tryz.func233 rfl Tryz.ntmps233 rfl (fun cx=>(ts (ro rfl (cX cW) (ro rfl (cX cW) (eW (cU (ts (rm rfl (rm rfl (ro rfl (cJ Tryz.call199 (a0g zo zo) ⟨(Ht rfl),(Ht rfl),trivial⟩) (ro rfl (qW (Ht rfl) cW) (eW (dX (Ht rfl) (fun hb=>?_) (fun hb=>?_))))))))))))))
 ·simp only [decide_eq_true_eq] at hb
  have hlt : m < n := by
   unfold rX at hb
   split at hb
   ·assumption
   ·split at hb <;> simp at hb
  refine ts (rm rfl (ro rfl (cX cW) (ra rfl (eW (bN rfl (fV (fX rfl) ?_) (fV (fX rfl) ?_))))))
  ·exact (fun v V h=>dL (Nat.div_eq_of_lt hlt).symm v V (lX v V h))
  ·exact (dL (Nat.mod_eq_of_lt hlt).symm)
 ·simp only [decide_eq_false_iff_not] at hb
  have hle : n ≤ m := by
   unfold rX at hb
   split at hb
   ·simp at hb
   ·omega
  clear hb
  refine cY (cU (ts (rm rfl (ro rfl (dY U_56 (Ht rfl) aB) (ro rfl (cL (Ht rfl) (cV 1)) (eW (dX (Ht rfl) (fun h1=>?_) (fun h1=>?_))))))))
  ·simp at h1
   have hy0:=a0w h1
   have hyb:=bL (cA n) 0
   have hmod:=Nat.mod_lt m (show (dg n).getD 0 0 > 0 by omega)
   simp only [BB] at hyb
   refine ts (rm rfl (rm rfl (ro rfl (dJ U_56 Z_218 (Ht rfl) (cV 0) rfl (eZ (aO zo))) (ro rfl (dW A_218 Z_218 (Ht rfl)) (ro rfl (cJ Tryz.call264 (Tc zo zo hyb) ⟨(Ht rfl),(Ht rfl),trivial⟩) (rm rfl (ro rfl (eQ (Ht rfl) rfl) (ro rfl (eQ (Ht rfl) rfl) (ra rfl (ra rfl (eW (ts (rm rfl (rm rfl (ro rfl (gW U_218 U_263 (Ht rfl) z7) (ro rfl (cJ Tryz.call238 (Iy zo) ⟨(Ht rfl),trivial⟩) ?_))))))))))))))))
   refine ra rfl (ra rfl (eW (bN rfl (fV (fX rfl) ?_) (fV (fX rfl) ?_))))
   ·exact (dL (by rw [hy0]))
   ·exact (dL (by rw [hy0]))
  ·simp at h1
   have hl0:(dg n).length ≠ 0:=fun e=>hn (aP.1 e)
   have hyb:=bL (cA n) ((dg n).length - 1)
   obtain ⟨s,hs⟩:∃ s,s = 32 - bl ((dg n).getD ((dg n).length - 1) 0):=⟨_,rfl⟩
   obtain ⟨hs1,hvl,hvb⟩:=Mh hn hs
   obtain ⟨hc1,hc2,hc3,hc4⟩:=Lz (m:=m) hs1
   simp only [BB] at hyb
   have hp2:0 < 2 ^ s:=Nat.pow_pos (by decide)
   have hX0:(dg (m * 2 ^ s)).length ≠ 0:=fun e=>(Nat.ne_of_gt (Nat.mul_pos (show 0 < m by omega) hp2)) (aP.1 e)
   have hmono:=jJ hle
   refine cY (ts (rm rfl (ro rfl (dY U_56 (Ht rfl) aB) (rm rfl (rm rfl (ro rfl (dY U_56 (Ht rfl) aB) (ro rfl (dU (Ht rfl) (cV 1) zo z6) (ro rfl (dJ U_56 Z_218 (Ht rfl) (Ht rfl) rfl (eZ (aO zo))) (ro rfl (dW A_218 Z_218 (Ht rfl)) (ro rfl (aM.nat (cJ Tryz.call265 (a5T zo) ⟨(Ht rfl),trivial⟩) hs.symm) (ra rfl (ra rfl (eW (ts (rm rfl (rm rfl (ro rfl (cJ Tryz.call266 (a59 zo zo) ⟨(Ht rfl),(Ht rfl),trivial⟩) ?_)))))))))))))))))
   refine ra rfl (eW (ts (rm rfl (ro rfl (dY U_56 (Ht rfl) aB) (ro rfl (dK (Ht rfl) (cV 1) z6) (rn rfl (iI (T:=cF 0) (i:=Tryz.t218) V_56 kM rfl rfl (Ht rfl) rfl (fun _=>rfl) trivial (by show 4 * _ ≤ _; omega) zo) fun B55=>(ra rfl (eW (ts (rm rfl (rm rfl (rm rfl (ro rfl (cJ Tryz.call266 (a59 zo zo) ⟨(Ht rfl),(Ht rfl),trivial⟩) (Se U_56 Z_218 (Ht rfl) (Ht rfl) (a1g hX0) a5t (i:=0) rfl (by simp) (by simp; omega) (Ma _ _) rfl rfl ?_))))))))))))))
   refine eW (ts (rm rfl (ro rfl (iV U_56 (Ht rfl)) (rm rfl (ro rfl (dU (Ht rfl) (Ht rfl) zo z6) (rn rfl (iI (T:=cF 0) (i:=Tryz.t218) V_56 kM rfl rfl (Ht rfl) rfl (fun _=>rfl) trivial (by show 4 * _ ≤ _; omega) zo) fun B65=>(ra rfl (eW (cU (ts (rm rfl (ro rfl (iV U_56 (Ht rfl)) (ro rfl (iN (Ht rfl) cW (xK zo)) (ra rfl (eW (eY ?_))))))))))))))))
   obtain ⟨vs,hvs⟩:∃ vs,vs = dg (n * 2 ^ s):=⟨_,rfl⟩
   rw [← hvs] at hvl hvb
   have hv:lK vs:=hvs ▸ cA _
   have hvv:val vs = n * 2 ^ s:=by rw [hvs,dN]
   have hV0:0 < val vs:=by rw [hvv]; exact Nat.mul_pos zo hp2
   have hnr:=Uz hv zo hvb
   have hv1:=hnr.v1lt; have hv2:=hnr.v2lt; have hbig:=hnr.big
   simp only [BB] at hv1 hv2 hbig
   refine mF (fun (k : Nat) (us : List Nat) (qs : List Nat) => pP (m * 2 ^ s) vs us qs k ∧ us.length = (dg m).length + 1) (fun (k : Nat) (us : List Nat) (qs : List Nat) => k) (fun (k : Nat) (us : List Nat) (qs : List Nat) => [(8, NT .i64 vs.length), (9, NT .i64 s), (10, zP vs), (11, Is (.slice (some ⟨B55, 0, none⟩) ((dg m).length + 1) ((dg m).length + 1))), (12, Is (.slice (some ⟨B65, 0, none⟩) ((dg m).length + 1 - (dg n).length) ((dg m).length + 1 - (dg n).length))), (13, aL .i64 ((k : Int) - 1))]) (fun (k : Nat) (us : List Nat) (qs : List Nat) => [box B55 218 (us.map cF), box B65 218 (qs.map cF)]) ((dg m).length + 1 - (dg n).length) (Ea m s) (List.replicate ((dg m).length + 1 - (dg n).length) 0) ⟨pP.start hv zo hvb hs1 (by have := jV (cA m); rwa [dN] at this) hc3 hc2 hc4 zo, hc2⟩
    (aZ rfl (mK hvl.symm) (aQ rfl (aZ rfl (fun v V h=>by rw [hvs]; exact h) (aQ rfl (aQ rfl (aZ rfl (aR zo) aX)))))) (aU (fun _ _ _ h=>h) (aU (aD (nZ _)) aY)) (fun k us qs ⟨hS,hus⟩=>?_)
   refine cU (ts (rm rfl (ro rfl (nY (Ht rfl) cW) (eW (dX (Ht rfl) (fun hk=>?_) (fun hk=>?_))))))
   ·simp at hk
    obtain ⟨j,rfl⟩:∃ j,k = j + 1:=⟨k - 1,by omega⟩
    have htp:=hS.top hv zo (Nat.succ_pos j) rfl
    have hkq:=hS.kle; have hlq:=hS.lenq
    rw [Nat.add_sub_cancel] at htp
    have hu0:=bL hS.dig (j + vs.length); have hu1:=bL hS.dig (j + vs.length - 1); have hu2:=bL hS.dig (j + vs.length - 2)
    have ht64:=a2i hu0 hu1; have hsh:=Og hu0
    obtain ⟨top,htop⟩:∃ top,top = us.getD (j + vs.length) 0 * BB + us.getD (j + vs.length - 1) 0:=⟨_,rfl⟩
    have hor:=(xA (a:=us.getD (j + vs.length) 0) hu1).trans htop.symm
    rw [← htop] at htp ht64
    have hu2b:=hu2
    simp only [BB] at hu0 hu1 hu2
    refine Ay (E':=[(8,_),(9,_),(10,_),(11,_),(12,_),(13,_),(69,_),(70,_)]) (aQ rfl (aQ rfl (aQ rfl (aQ rfl (aQ rfl (aZ rfl (aR (show ((j + 1:Nat):Int) - 1 = (j:Int) by omega)) (zS rfl))))))) (cY (cU (eY (cU (fW (m:=16) (dp 11 rfl (cZ (Ht rfl)) (dp 13 rfl (cZ (Ht rfl)) (dp 8 rfl (cZ (Ht rfl)) (dE 74 1 75 2 rfl (dK (Ht rfl) (Ht rfl) z6) (dE 73 0 76 3 rfl (gZ U_56 Z_218 (Ht rfl) (Ht rfl) rfl zo (by rw [Nat.mul_one,Nat.zero_add])) ?_))))))))))
    refine dq 77 4 rfl (fZ A_218 Z_218 (Ht rfl) (i:=0) rfl (eZ (aO zo))) (dq 78 5 rfl (gW U_218 U_263 (Ht rfl) z7) (dq 79 6 rfl (oY (Ht rfl) (cV 32) (by decide) hsh) (dp 11 rfl (cZ (Ht rfl)) (dp 13 rfl (cZ (Ht rfl)) (dp 8 rfl (cZ (Ht rfl)) (dE 82 9 83 10 rfl (dK (Ht rfl) (Ht rfl) z6) (dq 84 11 rfl (dU (Ht rfl) (cV 1) zo z6) ?_)))))))
    refine dE 81 8 85 12 rfl (gZ U_56 Z_218 (Ht rfl) (Ht rfl) rfl zo (by rw [Nat.mul_one,Nat.zero_add])) ?_
    refine dq 86 13 rfl (fZ A_218 Z_218 (Ht rfl) (i:=0) rfl (eZ (aO zo))) (dq 87 14 rfl (gW U_218 U_263 (Ht rfl) z7) (fK aS rfl (by kernel_rfl) (zF (zF (zF (zF (aV (ro rfl (aM.nat (qX rfl (Ht rfl) (Ht rfl) z7 z7) hor) ?_))))))))
    refine ra rfl (eW (cU (fW (m:=17) (dp 14 rfl (cZ (Ht rfl)) (dp 10 rfl (cZ (Ht rfl)) (dp 8 rfl (cZ (Ht rfl)) (dq 92 2 rfl (dU (Ht rfl) (cV 1) zo z6) (dE 91 1 93 3 rfl (dJ U_56 Z_218 (Ht rfl) (Ht rfl) rfl (eZ (aO zo))) (dq 94 4 rfl (dW A_218 Z_218 (Ht rfl)) (dq 95 5 rfl (gW U_218 U_263 (Ht rfl) z7) ?_))))))))))
    refine dE 90 0 96 6 rfl (jS (Ht rfl) (Ht rfl) zo (by show _ < 18446744073709551616; exact ht64)) (dp 14 rfl (cZ (Ht rfl)) (dp 10 rfl (cZ (Ht rfl)) (dp 8 rfl (cZ (Ht rfl)) (dq 100 10 rfl (dU (Ht rfl) (cV 1) zo z6) (dE 99 9 101 11 rfl (dJ U_56 Z_218 (Ht rfl) (Ht rfl) rfl (eZ (aO zo))) (dq 102 12 rfl (dW A_218 Z_218 (Ht rfl)) (dq 103 13 rfl (gW U_218 U_263 (Ht rfl) z7) ?_)))))))
    refine dE 98 8 104 14 rfl (jT (Ht rfl) (Ht rfl) zo) (dq 97 7 rfl (cX (Ht rfl)) (fK aS rfl (by kernel_rfl) (zF (zF (zF (zF (aJ (aV (ra rfl (eW (cU (jU (fun (g:Nat)=>Ph (val (us.drop j)) (val vs) g) (fun (g:Nat)=>[(8,NT .i64 vs.length),(9,NT .i64 s),(10,zP vs),(11,Is (.slice (some ⟨B55,0,none⟩) ((dg m).length + 1) ((dg m).length + 1))),(12,Is (.slice (some ⟨B65,0,none⟩) ((dg m).length + 1 - (dg n).length) ((dg m).length + 1 - (dg n).length))),(13,NT .i64 j),(15,NT .u64 g)]) (fun (g:Nat)=>[box B55 218 (us.map cF),box B65 218 (qs.map cF)]) ?_ (fun g hg=>?_)))))))))))))
    ·refine eY ?_
     refine fP (fun (g : Nat) (r : Nat) => mY (val (us.drop j)) (val vs) (vs.getD (vs.length - 1) 0) top g r ∧ r < 4294967296) (fun (g : Nat) (r : Nat) => g) (fun (g : Nat) (r : Nat) => [(8, NT .i64 vs.length), (9, NT .i64 s), (10, zP vs), (11, Is (.slice (some ⟨B55, 0, none⟩) ((dg m).length + 1) ((dg m).length + 1))), (12, Is (.slice (some ⟨B65, 0, none⟩) ((dg m).length + 1 - (dg n).length) ((dg m).length + 1 - (dg n).length))), (13, NT .i64 j), (15, NT .u64 g), (16, NT .u64 r)]) (fun (g : Nat) (r : Nat) => [box B55 218 (us.map cF), box B65 218 (qs.map cF)]) (top / vs.getD (vs.length - 1) 0) (top % vs.getD (vs.length - 1) 0) ⟨mY.start hnr htp, Nat.lt_trans (Nat.mod_lt _ zo) hv1⟩
      (zS rfl) (dI.refl _) (fun g r ⟨hG,hr⟩=>?_)
     have hgl:=(hG.glt hnr htp).1
     have hrs:=Og (a:=r) hr
     have horr:=xA (a:=r) hu2b
     simp only [BB] at hgl
     refine cU (cU (fW (m:=22) (dp 15 rfl (cZ (Ht rfl)) (dq 106 0 rfl (oW (Ht rfl) (cV 4294967296)) (dq 107 1 rfl (cZ (Ht rfl)) (C.D_step (Ei:=[(15,_),(108,_)]) rfl rfl (bV (bK rfl rfl) (bV (bG 2 rfl rfl) bW)) (fQ rfl rfl (Ht rfl) (fun h=>cZ (Ht rfl))) (C.D_step (Ei:=[(10,_),(108,_)]) rfl rfl (bV (bK rfl rfl) (bV (bG 2 rfl rfl) bW)) (fQ rfl rfl (Ht rfl) (fun h=>cZ (Ht rfl))) (C.D_step (Ei:=[(8,_),(108,_)]) rfl rfl (bV (bK rfl rfl) (bV (bG 2 rfl rfl) bW)) (fQ rfl rfl (Ht rfl) (fun h=>cZ (Ht rfl))) ?_))))))))
     refine C.D_step (Ei:=[(111,_),(108,_)]) rfl rfl (bV (bG 5 rfl rfl) (bV (bG 2 rfl rfl) bW)) (fQ rfl rfl (Ht rfl) (fun h=>dU (fG rfl h) (cV 2) (by first | omega | (simp at h; omega)) (by show _ < 9223372036854775808; first | omega | (simp at h; omega)))) (C.D_step (Ei:=[(110,_),(112,_),(108,_)]) rfl rfl (bV (bG 4 rfl rfl) (bV (bG 6 rfl rfl) (bV (bG 2 rfl rfl) bW))) (fQ rfl rfl (Ht rfl) (fun h=>dJ U_56 Z_218 (fG rfl h) (fG rfl h) rfl (eZ (aO (by first | omega | (simp at h; omega)))))) ?_)
     refine C.D_step (Ei:=[(113,_),(108,_)]) rfl rfl (bV (bG 7 rfl rfl) (bV (bG 2 rfl rfl) bW)) (fQ rfl rfl (Ht rfl) (fun h=>dW A_218 Z_218 (fG rfl h))) (C.D_step (Ei:=[(114,_),(108,_)]) rfl rfl (bV (bG 8 rfl rfl) (bV (bG 2 rfl rfl) bW)) (fQ rfl rfl (Ht rfl) (fun h=>gW U_218 U_263 (fG rfl h) (by show _ < 18446744073709551616; first | omega | (simp at h; omega)))) (C.D_step (Ei:=[(109,_),(115,_),(108,_)]) rfl rfl (bV (bG 3 rfl rfl) (bV (bG 9 rfl rfl) (bV (bG 2 rfl rfl) bW))) (fQ rfl rfl (Ht rfl) (fun h=>mI (fG rfl h) (fG rfl h) (by show _ < 18446744073709551616; simp at h; exact a5r h hv2))) ?_))
     refine C.D_step (Ei:=[(16,_),(108,_)]) rfl rfl (bV (bK rfl rfl) (bV (bG 2 rfl rfl) bW)) (fQ rfl rfl (Ht rfl) (fun h=>cZ (Ht rfl))) (C.D_step (Ei:=[(117,_),(108,_)]) rfl rfl (bV (bG 11 rfl rfl) (bV (bG 2 rfl rfl) bW)) (fQ rfl rfl (Ht rfl) (fun h=>oY (fG rfl h) (cV 32) (by decide) hrs)) (C.D_step (Ei:=[(11,_),(108,_)]) rfl rfl (bV (bK rfl rfl) (bV (bG 2 rfl rfl) bW)) (fQ rfl rfl (Ht rfl) (fun h=>cZ (Ht rfl))) (C.D_step (Ei:=[(13,_),(108,_)]) rfl rfl (bV (bK rfl rfl) (bV (bG 2 rfl rfl) bW)) (fQ rfl rfl (Ht rfl) (fun h=>cZ (Ht rfl))) ?_)))
     refine C.D_step (Ei:=[(8,_),(108,_)]) rfl rfl (bV (bK rfl rfl) (bV (bG 2 rfl rfl) bW)) (fQ rfl rfl (Ht rfl) (fun h=>cZ (Ht rfl))) (C.D_step (Ei:=[(120,_),(121,_),(108,_)]) rfl rfl (bV (bG 14 rfl rfl) (bV (bG 15 rfl rfl) (bV (bG 2 rfl rfl) bW))) (fQ rfl rfl (Ht rfl) (fun h=>dK (fG rfl h) (fG rfl h) (by show _ < 9223372036854775808; first | omega | (simp at h; omega)))) (C.D_step (Ei:=[(122,_),(108,_)]) rfl rfl (bV (bG 16 rfl rfl) (bV (bG 2 rfl rfl) bW)) (fQ rfl rfl (Ht rfl) (fun h=>dU (fG rfl h) (cV 2) (by first | omega | (simp at h; omega)) (by show _ < 9223372036854775808; first | omega | (simp at h; omega)))) ?_))
     refine C.D_step (Ei:=[(119,_),(123,_),(108,_)]) rfl rfl (bV (bG 13 rfl rfl) (bV (bG 17 rfl rfl) (bV (bG 2 rfl rfl) bW))) (fQ rfl rfl (Ht rfl) (fun h=>gZ U_56 Z_218 (fG rfl h) (fG rfl h) rfl (by first | omega | (simp at h; omega)) (by rw [Nat.mul_one,Nat.zero_add]))) ?_
     refine C.D_step (Ei:=[(124,_),(108,_)]) rfl rfl (bV (bG 18 rfl rfl) (bV (bG 2 rfl rfl) bW)) (fQ rfl rfl (Ht rfl) (fun h=>fZ A_218 Z_218 (fG rfl h) (i:=0) rfl (eZ (aO zo)))) (C.D_step (Ei:=[(125,_),(108,_)]) rfl rfl (bV (bG 19 rfl rfl) (bV (bG 2 rfl rfl) bW)) (fQ rfl rfl (Ht rfl) (fun h=>gW U_218 U_263 (fG rfl h) (by show _ < 18446744073709551616; first | omega | (simp at h; omega)))) (C.D_step (Ei:=[(118,_),(126,_),(108,_)]) rfl rfl (bV (bG 12 rfl rfl) (bV (bG 20 rfl rfl) (bV (bG 2 rfl rfl) bW))) (fQ rfl rfl (Ht rfl) (fun h=>aM.nat (qX rfl (fG rfl h) (fG rfl h) (by show _ < 18446744073709551616; first | omega | (simp at h; omega)) (by show _ < 18446744073709551616; first | omega | (simp at h; omega))) horr)) ?_))
     refine fK aS rfl (by kernel_rfl) (zF (zF (zF (zF (zF (aJ (aJ (aV (fJ rfl rfl (fQ rfl rfl (Ht rfl) (fun h=>fM (fG rfl h) (fG rfl h))) (ro rfl (kQ (Ht rfl) (fun h=>(fG rfl h))) (eW (dX (Ht rfl) (fun hc=>?_) (fun hc=>?_)))))))))))))
     ·have hn2 := hG.next hnr htp (by simpa [BB] using hc)
      have hg1:=hn2.2
      refine cY (eY (ts (rm rfl (ro rfl (dU (Ht rfl) (cV 1) zo z7) (ra rfl (eW (ts (rm rfl (rm rfl (rm rfl (ro rfl (dU (Ht rfl) (cV 1) zo z6) (ro rfl (dJ U_56 Z_218 (Ht rfl) (Ht rfl) rfl (eZ (aO zo))) (ro rfl (dW A_218 Z_218 (Ht rfl)) (ro rfl (gW U_218 U_263 (Ht rfl) z7) ?_))))))))))))))
      refine ro rfl (dK (Ht rfl) (Ht rfl) z7) (ra rfl (eW (ts (rm rfl (ro rfl (oW (Ht rfl) (cV 4294967296)) (eW (dX (Ht rfl) (fun hr2=>?_) (fun hr2=>?_))))))))
      ·simp at hr2
       refine gK rfl (aT (g - 1) (hn2.1.stop hnr htp hr2) (zS rfl) (dI.refl _))
      ·simp at hr2
       refine cY (bM (gX (g - 1,_) ⟨hn2.1,hr2⟩ (by dsimp only; omega) (zS rfl) (dI.refl _)))
     ·simp at hc
      refine gK rfl (aT g (hG.done hnr htp hc.1 hc.2) (zS rfl) (dI.refl _))
    ·have hglt := hg.lt
     simp only [BB] at hglt
     refine cU (tE (fun (us2:List Nat) (g2:Nat)=>pP (m * 2 ^ s) vs us2 (qs.set j g2) j ∧ g2 < 4294967296 ∧ us2.length = (dg m).length + 1) (fun (us2:List Nat) (g2:Nat)=>[(8,NT .i64 vs.length),(9,NT .i64 s),(10,zP vs),(11,Is (.slice (some ⟨B55,0,none⟩) ((dg m).length + 1) ((dg m).length + 1))),(12,Is (.slice (some ⟨B65,0,none⟩) ((dg m).length + 1 - (dg n).length) ((dg m).length + 1 - (dg n).length))),(13,NT .i64 j),(15,NT .u64 g2)]) (fun (us2:List Nat) (g2:Nat)=>[box B55 218 (us2.map cF),box B65 218 (qs.map cF)]) ?_ (fun us2 g2 ⟨hD,hg2,hus2⟩=>?_))
     ·refine ts (rm rfl (rm rfl (rm rfl (rm rfl (Im Tryz.call267 (a61 hus hS.dig hv hg.lt zo zo) (i := 0) rfl ⟨(Ht rfl), (Ht rfl), (Ht rfl), (Ht rfl), trivial⟩ rfl (fun ⟨out, b⟩ hT => ?_))))))
      dsimp only at hT
      refine eW (dX (Ht rfl) (fun hbb=>?_) (fun hbb=>?_))
      ·have hbb : b = true := hbb
       subst hbb
       have hg0:=hS.gpos hv rfl zo hT
       have hol:=hT.len
       refine ts (rm rfl (ro rfl (dU (Ht rfl) (cV 1) zo z7) (ra rfl (eW (ts (ro rfl (cX (cV 0)) (eW (cU (ts (rm rfl (ro rfl (dY U_56 (Ht rfl) aB) (ro rfl (cZ (cV 0)) (eW (eY ?_))))))))))))))
       refine mF (fun (i : Nat) (out2 : List Nat) (c : Nat) => tZ out vs j out2 i c) (fun (i : Nat) (out2 : List Nat) (c : Nat) => vs.length - i) (fun (i : Nat) (out2 : List Nat) (c : Nat) => [(8, NT .i64 vs.length), (9, NT .i64 s), (10, zP vs), (11, Is (.slice (some ⟨B55, 0, none⟩) ((dg m).length + 1) ((dg m).length + 1))), (12, Is (.slice (some ⟨B65, 0, none⟩) ((dg m).length + 1 - (dg n).length) ((dg m).length + 1 - (dg n).length))), (13, NT .i64 j), (15, NT .u64 (g - 1 : Nat)), (17, NT .u64 c), (149, zP vs), (150, NT .i64 vs.length), (151, NT .i64 i)]) (fun (i : Nat) (out2 : List Nat) (c : Nat) => [box B55 218 (out2.map cF), box B65 218 (qs.map cF)]) 0 out 0 (tZ.start hT.dig vs j)
        (zS rfl) (dI.refl _) (fun i out2 c hB=>?_)
       refine ts (ro rfl (gV (Ht rfl) (Ht rfl)) (eW (cU (dX (Ht rfl) (fun hi=>?_) (fun hi=>?_)))))
       ·simp at hi
        have hlen:=hB.len; have hcl:=hB.cle; have hvi:=bL hv i; have hok:=bL hB.dig (i + j)
        simp only [BB] at hvi hok
        refine cY (cU (eY (ts (rm rfl (ro rfl (dJ U_56 Z_218 (Ht rfl) (Ht rfl) rfl (eZ (aO zo))) (ro rfl (dW A_218 Z_218 (Ht rfl)) (ra rfl (ra rfl (eW (ts (rm rfl (rm rfl (rm rfl (rm rfl (ro rfl (dK (Ht rfl) (Ht rfl) z6) (ro rfl (gZ U_56 Z_218 (Ht rfl) (Ht rfl) rfl zo (by rw [Nat.mul_one,Nat.zero_add])) ?_))))))))))))))))
        refine ro rfl (fZ A_218 Z_218 (Ht rfl) (i:=0) rfl (eZ (aO zo))) (ro rfl (gW U_218 U_263 (Ht rfl) z7) (rm rfl (ro rfl (gW U_218 U_263 (Ht rfl) z7) (ro rfl (dK (Ht rfl) (Ht rfl) z7) (ro rfl (dK (Ht rfl) (Ht rfl) z7) ?_)))))
        refine ra rfl (eW (ts (rm rfl (rm rfl (rm rfl (ro rfl (dK (Ht rfl) (Ht rfl) z6) (rm rfl (ro rfl (iJ rfl U_263 U_218 (Ht rfl)) (ro rfl (gZ U_56 Z_218 (Ht rfl) (Ht rfl) rfl zo (by rw [Nat.mul_one,Nat.zero_add])) ?_)))))))))
        refine lP Z_218 (Ht rfl) (Ht rfl) (i:=0) rfl (by first | omega | (simp; omega)) rfl (eW (dQ (rm rfl (ro rfl (gE (Ht rfl) (cV 32) (by decide)) (ra rfl (eW (bM (dQ (ro rfl (dK (Ht rfl) (cV 1) z6) (rm rfl (eW (gX (i + 1,_,_) (hB.next hv hi zo rfl) (by dsimp only; omega) (zS rfl) (aU (aD (iH _ _ _)) (aU (fun _ _ _ h=>h) aY))))))))))))))
       ·simp at hi
        have hil:i = vs.length:=Nat.le_antisymm hB.ile hi
        subst hil
        have hlen:=hB.len; have hcl:=hB.cle; have hok:=bL hB.dig (j + vs.length)
        have hBk:=hB.fin zo rfl
        obtain ⟨_,hDn⟩:=hS.wrong hv hV0 (Nat.succ_pos j) rfl hg hT hBk
        simp only [BB] at hok
        refine gK rfl (dQ (rm rfl (rm rfl (rm rfl (ro rfl (dK (Ht rfl) (Ht rfl) z6) (ro rfl (gZ U_56 Z_218 (Ht rfl) (Ht rfl) rfl zo (by rw [Nat.mul_one,Nat.zero_add])) ?_))))))
        refine ro rfl (fZ A_218 Z_218 (Ht rfl) (i:=0) rfl (eZ (aO zo))) (rm rfl (ro rfl (gW U_263 U_218 (Ht rfl) (by show _ < 4294967296; first | omega | (simp only [mZ]; omega))) (ro rfl (Vg rfl (Ht rfl) (Ht rfl)) (ro rfl (gZ U_56 Z_218 (Ht rfl) (Ht rfl) rfl zo (by rw [Nat.mul_one,Nat.zero_add])) ?_))))
        refine lP Z_218 (Ht rfl) (Ht rfl) (i:=0) rfl (by first | omega | (simp; omega)) rfl (eW (aT (_,g - 1) ⟨hDn,by dsimp only; omega,by simp; omega⟩ (zS rfl) (aU (aD (iH _ _ _)) (aU (fun _ _ _ h=>h) aY))))
      ·have hbb : b = false := hbb
       subst hbb
       have hol:=hT.len
       refine cY (aT (out,g) ⟨hS.right hv hV0 (Nat.succ_pos j) rfl hg hT,hglt,by dsimp only; omega⟩ (zS rfl) (dI.refl _))
     ·refine dQ (rm rfl (rm rfl (rm rfl (ro rfl (gW U_263 U_218 (Ht rfl) (by show _ < 4294967296; first | omega | (simp only [mZ]; omega))) (ro rfl (gZ U_56 Z_218 (Ht rfl) (Ht rfl) rfl zo (by rw [Nat.mul_one, Nat.zero_add])) ?_)))))
      refine lP Z_218 (Ht rfl) (Ht rfl) (i:=1) rfl (by first | omega | (simp; omega)) rfl (eW (bM (dQ (rm rfl (ro rfl (iN (Ht rfl) cW (xK zo)) (ra rfl (eW (gX (j,us2,_) ⟨hD,hus2⟩ (by dsimp only; omega) (zS rfl) (aU (fun _ _ _ h=>h) (aU (aD (iH _ _ _)) aY))))))))))
   ·simp at hk
    have hk0:k = 0:=by omega
    subst hk0
    have hfin:=hS.fin hV0
    have hlq:=hS.lenq
    rw [hvv] at hfin
    have hdiv:val qs = m / n:=by rw [hfin.1]; exact Nat.mul_div_mul_right _ _ hp2
    have hsm:val us < BB ^ vs.length:=by have h1:=hS.small; rw [List.drop_zero] at h1; exact Nat.lt_trans h1 (jV hv)
    have hmod : val (us.take vs.length) / 2 ^ s = m % n := by
     rw [qF hsm zo,hfin.2,Nat.mul_mod_mul_right,Nat.mul_div_cancel _ hp2]
    have hru : (dg (val (us.take vs.length))).length ≤ 17592186044416 := by
     refine Nat.le_trans (kZ (k:=vs.length) ?_) zo
     rw [qF hsm zo]; exact hsm
    refine gK rfl (gG (i:=1) (tt:=12) rfl rfl (oM rfl zo (Nat.le_refl _)) (gG (i:=0) (tt:=11) rfl rfl (oM rfl zo (Nat.le_refl _)) (cU (fW (m:=7) (dp 12 rfl (cZ (Ht rfl)) (dq 193 0 rfl (cJ K_237 (tG _ hS.digq zo) ⟨(Ht rfl),trivial⟩) (dp 11 rfl (cZ (Ht rfl)) (dp 8 rfl (cZ (Ht rfl)) (dE 195 2 196 3 rfl (aM.imp (vP U_56 Z_218 (Ht rfl) (Ht rfl) (fun m e=>by cases e) zo (by simp; omega) rfl) (Tw _ _)) ?_)))))))))
    refine dq 197 4 rfl (cJ K_237 (tG _ (hS.dig.take' vs.length) (by simp; omega)) ⟨(Ht rfl),trivial⟩) ?_
    refine dp 9 rfl (cZ (Ht rfl)) (fK aS rfl (by kernel_rfl) (zF (aJ (aJ (aJ (aV (ro rfl (cJ Tryz.call268 (a7O hru zo) ⟨(Ht rfl),(Ht rfl),trivial⟩) (ra rfl (ra rfl (eW (bN rfl (fV (fX rfl) ?_) (fV (fX rfl) ?_))))))))))))
    ·exact (dL hdiv)
    ·exact (dL hmod)
end
section
open Go Go.RowKit
theorem a0Z:Tryz.prog.info? 5 = some Tryz.t5:=by kernel_rfl
theorem Dc:Tryz.prog.underlying 296 = some (.slice 5):=by kernel_rfl
theorem a5v:Tryz.prog.underlying 5 = some (.int .u8):=by kernel_rfl
theorem a5w:Tryz.prog.underlying 9 = some (.string):=by kernel_rfl
end
section
open Go Go.RowKit
theorem a56 {m n:Nat} (hm:(dg m).length ≤ 17592186044415) (hn:(dg n).length ≤ 17592186044415):bB Tryz.prog 231 [aN m,aN n] (aN (Nat.gcd m n)):=by
 refine bB.intro Tryz.func231 rfl Tryz.ntmps231 rfl (fun cx=>(ts (ro rfl (cX cW) (eW (cU (eY ?_))))))
 refine fP (fun (x : Nat) (y : Nat) => Nat.gcd x y = Nat.gcd m n ∧ (dg x).length ≤ 17592186044415 ∧ (dg y).length ≤ 17592186044415) (fun (x : Nat) (y : Nat) => y) (fun (x : Nat) (y : Nat) => [(0, aN x), (1, aN y)]) (fun (x : Nat) (y : Nat) => []) m n ⟨rfl, hm, hn⟩
  (zS rfl) aY (fun x y ⟨hg,hx,hy⟩=>?_)
 refine cU (ts (rm rfl (ro rfl (dY U_56 (Ht rfl) aB) (ro rfl (fM (Ht rfl) (cV 0)) (eW (dX (Ht rfl) (fun hb=>?_) (fun hb=>?_)))))))
 ·simp at hb
  have hy0:y ≠ 0:=fun e=>by rw [e,eO] at hb; simp at hb
  have hlt:=Nat.mod_lt x (Nat.pos_of_ne_zero hy0)
  refine cY (eY (ts (rm rfl (rm rfl (ro rfl (cJ Tryz.call233 (Sr hx zo hy0) ⟨(Ht rfl),(Ht rfl),trivial⟩) (rm rfl (ro rfl (eQ (Ht rfl) rfl) (ro rfl (eQ (Ht rfl) rfl) (ra rfl (ra rfl (eW (dQ (rm rfl (rm rfl (ra rfl (ra rfl (eW (bM (gX (y,x % y) ⟨by rw [← hg,Nat.gcd_comm x y,Nat.gcd_rec y x,Nat.gcd_comm],hy,Nat.le_trans (jJ (Nat.le_of_lt hlt)) hy⟩ hlt (zS rfl) aY)))))))))))))))))))
 ·simp at hb
  have hy0:y = 0:=aP.1 (by simpa using hb)
  subst hy0
  rw [Nat.gcd_zero_right] at hg
  refine gK rfl (ts (rm rfl (ra rfl (eW (fU rfl (fV (fX rfl) ?_))))))
  exact (dL hg)
theorem a7N {l:List Nat} {v:Value} (hl:l.length ≤ 1152921504606846976):jM Tryz.prog 280 [Is v] [bP 5 1 v (l.map Az)] Unit (fun _=>rC) (fun _=>[bP 5 1 v (l.reverse.map Az)]) (fun _=>True):=by
 refine jM.intro Tryz.func280 rfl Tryz.ntmps280 rfl (fun cx Z=>(ts (rm rfl (ro rfl (oX U_296 (Ht rfl) (i:=1) rfl aB) (ro rfl (iN (Ht rfl) cW (xK zo)) (ro rfl (cX (cV 0)) (ra rfl (eW (eY ?_)))))))))
 refine fP (fun (k : Nat) (o : List Nat) => Dj l o k) (fun (k : Nat) (o : List Nat) => l.length - k) (fun (k : Nat) (o : List Nat) => [(0, Is v), (2, NT .i64 k), (3, aL .i64 ((l.length : Int) - 1 - (k : Int)))]) (fun (k : Nat) (o : List Nat) => [Z, bP 5 1 v (o.map Az)]) 0 l (Dj.start l)
  (aQ rfl (aQ rfl (aZ rfl (aR zo) aX))) (dI.refl _) (fun k o hS=>?_)
 refine cU (ts (rm rfl (rm rfl (ro rfl (qW (Ht rfl) (Ht rfl)) (eW (dX (Ht rfl) (fun hb=>?_) (fun hb=>?_)))))))
 ·simp only [decide_eq_true_eq] at hb
  have hk:2 * k + 1 < l.length:=by omega
  obtain ⟨j,hj⟩:∃ j,j = l.length - 1 - k:=⟨_,rfl⟩
  have hlen:=hS.len
  refine Ay (E':=[(0,_),(2,_),(3,_),(7,_),(8,_),(9,_)]) (aQ rfl (aQ rfl (aZ rfl (aR (show (l.length:Int) - 1 - (k:Int) = (j:Int) by omega)) (zS rfl)))) (cY (cU (eY (W.D_start (m:=14) (fun b=>cond b ([Z,bP 5 1 v ((o.map Az).set k (Az (o.getD j 0)))]) _) 13 (W.D_step (Ei:=[(0,_)]) rfl rfl (W.Srcs.cons (W.Src.pre rfl rfl) W.Srcs.nil) rfl (by kernel_rfl) (dZ rfl (cZ (Ht rfl))) (W.D_step (Ei:=[(2,_)]) rfl rfl (W.Srcs.cons (W.Src.pre rfl rfl) W.Srcs.nil) rfl (by kernel_rfl) (dZ rfl (cZ (Ht rfl))) ?_))))))
  refine W.D_pure (Ei:=[(0,_)]) rfl rfl (W.Srcs.cons (W.Src.pre rfl rfl) W.Srcs.nil) rfl (fun _=>dZ rfl (cZ (Ht rfl))) (W.D_pure (Ei:=[(3,_)]) rfl rfl (W.Srcs.cons (W.Src.pre rfl rfl) W.Srcs.nil) rfl (fun _=>dZ rfl (cZ (Ht rfl))) (W.D_step (Ei:=[(0,_)]) rfl rfl (W.Srcs.cons (W.Src.pre rfl rfl) W.Srcs.nil) rfl (by kernel_rfl) (dZ rfl (cZ (Ht rfl))) (W.D_step (Ei:=[(3,_)]) rfl rfl (W.Srcs.cons (W.Src.pre rfl rfl) W.Srcs.nil) rfl (by kernel_rfl) (dZ rfl (cZ (Ht rfl))) (W.D_step (Ei:=[(18,_),(19,_)]) rfl rfl (W.Srcs.cons (W.Src.op 4 rfl rfl) (W.Srcs.cons (W.Src.op 5 rfl rfl) W.Srcs.nil)) rfl (by kernel_rfl) (dZ rfl (dB U_296 Z_5 (Ht rfl) (Ht rfl) rfl (i:=1) rfl (by first | omega | (simp; omega)) rfl)) ?_))))
  refine W.D_step (Ei:=[(20,_)]) rfl rfl (W.Srcs.cons (W.Src.op 6 rfl rfl) W.Srcs.nil) rfl (by kernel_rfl) (dZ rfl (pS A_5 Z_5 (Ht rfl) (i:=1) rfl rfl (eZ (aO zo)))) (W.D_step (Ei:=[(0,_)]) rfl rfl (W.Srcs.cons (W.Src.pre rfl rfl) W.Srcs.nil) rfl (by kernel_rfl) (dZ rfl (cZ (Ht rfl))) (W.D_step (Ei:=[(2,_)]) rfl rfl (W.Srcs.cons (W.Src.pre rfl rfl) W.Srcs.nil) rfl (by kernel_rfl) (dZ rfl (cZ (Ht rfl))) (W.D_step (Ei:=[(22,_),(23,_)]) rfl rfl (W.Srcs.cons (W.Src.op 8 rfl rfl) (W.Srcs.cons (W.Src.op 9 rfl rfl) W.Srcs.nil)) rfl (by kernel_rfl) (dZ rfl (dB U_296 Z_5 (Ht rfl) (Ht rfl) rfl (i:=1) rfl (by first | omega | (simp; omega)) rfl)) ?_)))
  refine W.D_step (Ei:=[(24,_)]) rfl rfl (W.Srcs.cons (W.Src.op 10 rfl rfl) W.Srcs.nil) rfl (by kernel_rfl) (dZ rfl (pS A_5 Z_5 (Ht rfl) (i:=1) rfl rfl (eZ (aO zo)))) (W.D_step (Ei:=[(14,_),(15,_)]) rfl rfl (W.Srcs.cons (W.Src.op 0 rfl rfl) (W.Srcs.cons (W.Src.op 1 rfl rfl) W.Srcs.nil)) rfl (by kernel_rfl) (dZ rfl (dB U_296 Z_5 (Ht rfl) (Ht rfl) rfl (i:=1) rfl (by first | omega | (simp; omega)) rfl)) (W.D_put (Ei:=[(26,_),(21,_)]) rfl rfl (W.Srcs.cons (W.Src.op 12 rfl rfl) (W.Srcs.cons (W.Src.op 7 rfl rfl) W.Srcs.nil)) rfl (Li Z_5 (Ht rfl) (Ht rfl) El.one (i:=1) rfl rfl (by first | omega | (simp; omega))) ?_))
  refine W.D_done aS rfl (by kernel_rfl) rfl (W.F_val (W.F_val (W.F_val (W.F_val (W.F_val (W.F_val (W.F_val (W.F_val (W.F_val (W.F_val (W.F_val (W.F_val (W.F_val (W.F_put (W.F_nil (ro rfl (dB U_296 Z_5 (Ht rfl) (Ht rfl) rfl (i:=1) rfl (by first | omega | (simp; omega)) rfl) (mP Z_5 (Ht rfl) (Ht rfl) El.one (i:=1) rfl rfl (by first | omega | (simp; omega)) rfl (eW (bM (dQ (rm rfl (ro rfl (dK (Ht rfl) (cV 1) z6) (rm rfl (ro rfl (iN (Ht rfl) cW (xK zo)) ?_))))))))))))))))))))))))
  refine ra rfl (ra rfl (eW (gX (k + 1,_) (hS.next hk hj) (by dsimp only; omega) (aQ rfl (aQ rfl (aZ rfl (aR zo) aX))) (aU (fun _ _ _ h=>h) (aU (bD (Wj _ _ _ _ _)) aY)))))
 ·simp only [decide_eq_false_iff_not] at hb
  have hfin:=hS.fin (by have:=hS.kle; omega)
  refine gK rfl ?_
  exact a5E () trivial [0,1] ⟨⟨_,rfl,fun _ _ _ h=>h⟩,⟨_,rfl,(bD (by rw [hfin]))⟩,trivial⟩ (by decide) (a8H rfl (fun _=>trivial))
theorem Lr {m:Nat} (hm:(dg m).length ≤ 8796093022208):bB Tryz.prog 260 [aN m] (sF (wJ m)):=by
 refine bB.intro Tryz.func260 rfl Tryz.ntmps260 rfl (fun cx=>(ts (ro rfl (cX (bH.cS (l:=[]) rfl)) (eW (cU (ts (rm rfl (ro rfl (dY U_56 (Ht rfl) aB) (ro rfl (cL (Ht rfl) (cV 0)) (eW (dX (Ht rfl) (fun hb=>?_) (fun hb=>?_))))))))))))
 ·simp at hb
  have h0:m = 0:=aP.1 (by simpa using hb)
  subst h0
  refine ts (ro rfl (cX (bH.cS (l:=[48]) rfl)) (eW (fU rfl (fV (fX rfl) ?_))))
  exact (kI rfl)
 ·simp at hb
  have h0:m ≠ 0:=fun e=>hb (by rw [e,eO])
  refine cY (ts (ro rfl (cX cW) (eW (cU (eY (uA 5 1 ?_))))))
  refine mF (fun (x : Nat) (out : List Nat) (v : Value) => Di m out x ∧ x ≤ m) (fun (x : Nat) (out : List Nat) (v : Value) => x) (fun (x : Nat) (out : List Nat) (v : Value) => [(0, aN x), (3, Is v)]) (fun (x : Nat) (out : List Nat) (v : Value) => [bP 5 1 v (out.map Az)]) m [] (.slice none 0 0) ⟨Di.start m, Nat.le_refl m⟩
   (zS rfl) (dI.refl _) (fun x out v ⟨hO,hle⟩=>?_)
  refine cU (ts (rm rfl (ro rfl (dY U_56 (Ht rfl) aB) (ro rfl (fM (Ht rfl) (cV 0)) (eW (dX (Ht rfl) (fun hc=>?_) (fun hc=>?_)))))))
  ·simp at hc
   have hx0:x ≠ 0:=fun e=>by rw [e,eO] at hc; simp at hc
   have hxm:=jJ hle
   refine cY (eY (ts (ro rfl (cX (cV 0)) (eW (ts (rm rfl (ro rfl (cJ Tryz.call264 (Tc zo (by decide) (by decide)) ⟨(Ht rfl),(cV 1000000000),trivial⟩) (rm rfl (ro rfl (eQ (Ht rfl) rfl) (ro rfl (eQ (Ht rfl) rfl) (ra rfl (ra rfl (eW (ts (ro rfl (cX (cV 0)) (eW (eY ?_)))))))))))))))))
   refine xN (fun (r : Nat) (k : Nat) (out : List Nat) (v : Value) => Bn m out (x / 1000000000) r k) (fun (r : Nat) (k : Nat) (out : List Nat) (v : Value) => 9 - k) (fun (r : Nat) (k : Nat) (out : List Nat) (v : Value) => [(0, aN (x / 1000000000)), (3, Is v), (4, cF r), (5, NT .i64 k)]) (fun (r : Nat) (k : Nat) (out : List Nat) (v : Value) => [bP 5 1 v (out.map Az)]) (x % 1000000000) 0 out v (hO.inner)
    (zS rfl) (dI.refl _) (fun r k out v hI=>?_)
   refine cU (ts (rm rfl (ro rfl (gV (Ht rfl) (cV 9)) (rm rfl (fJ rfl rfl (pW rfl rfl (Ht rfl) (fun h=>cZ (Ht rfl))) (fJ rfl rfl (pW rfl rfl (Ht rfl) (fun h=>dY U_56 (bH.wu rfl h) aB)) (fJ rfl rfl (pW rfl rfl (Ht rfl) (fun h=>fM (bH.wu rfl h) (cV 0))) (fJ rfl rfl (pW rfl rfl (Ht rfl) (fun h=>cZ (bH.wu rfl h))) (fJ rfl rfl (xM rfl rfl rfl (fun h h2=>cZ (Ht rfl))) (fJ rfl rfl (xM rfl rfl rfl (fun h h2=>fM (bH.wu rfl ⟨h,h2⟩) (cV 0))) (fJ rfl rfl (pW rfl rfl (Ht rfl) (fun h=>kQ (bH.wu rfl h) (fun h2=>(bH.wu rfl ⟨h,h2⟩)))) ?_)))))))))))
   refine ro rfl (fC (Ht rfl) (fun h=>(bH.wu rfl h))) (eW (dX (Ht rfl) (fun hd=>?_) (fun hd=>?_)))
   ·simp at hd
    have hxr:0 < x / 1000000000 ∨ 0 < r:=hd.2.imp (fun h=>Nat.pos_of_ne_zero (fun e=>by rw [e,eO] at h; simp at h)) id
    have hln:=hI.len hxr
    have hr32:=hI.r32
    refine cY (cU (eY (ts (rm rfl (rm rfl (ro rfl (jT (Ht rfl) (cV 10) zo) (ro rfl (dK (cV 48) (Ht rfl) (by show _ < 4294967296; first | omega | (simp only [mZ]; omega))) (ro rfl (gW U_218 U_5 (Ht rfl) (by show _ < 256; first | omega | (simp only [mZ]; omega))) (ro rfl (eB (xs:=[.tmp 34]) U_296 Z_5 Tryz.zeroValue5 (cG (Ht rfl) cK) rfl rfl rfl) (sD (inf:=Tryz.t5) Dc a0Z rfl rfl rfl (Ht rfl) (Ht rfl) (i:=0) rfl (by simp) (fun T hT=>by simp at hT; subst hT; exact El.one) (by show _ * 1 ≤ _; simp only [List.length_map,List.length_cons,List.length_nil]; omega) (by simp only [List.length_map,List.length_cons,List.length_nil]; omega) rfl (fun v2=>?_)))))))))))
    refine ra rfl (eW (dQ (rm rfl (ro rfl (jS (Ht rfl) (cV 10) zo (by show _ < 4294967296; first | omega | (simp only [mZ]; omega))) (ra rfl (eW (bM (dQ (rm rfl (ro rfl (dK (Ht rfl) (cV 1) z6) (ra rfl (eW (gX (r / 10,k + 1,_,v2) (hI.next hd.1 hxr) (by dsimp only; omega) (zS rfl) (aU (bD (a2p _ _)) aY))))))))))))))
   ·simp at hd
    have hO2 := hI.fin (fun ⟨h1, h2⟩ => by
     have h3:=hd h1
     rcases h2 with h2 | h2
     ·have:=sK.1 h3.1; omega
     ·omega)
    refine gK rfl (bM (gX (x / 1000000000,_,_) ⟨hO2,Nat.le_trans (Nat.div_le_self _ _) hle⟩ (Nat.div_lt_self (Nat.pos_of_ne_zero hx0) (by decide)) (zS rfl) (dI.refl _)))
  ·simp at hc
   have hx0:x = 0:=aP.1 (by simpa using hc)
   subst hx0
   have hfin:=hO.fin
   have hdl:=rL m
   rw [hfin] at hdl
   refine gK rfl (ts (rm rfl (Im Tryz.call280 (a7N zo) (i:=0) rfl ⟨(Ht rfl),trivial⟩ rfl (fun _ _=>(eW (cU (gG (i:=0) (tt:=3) rfl rfl fR (dQ (rm rfl (ro rfl (Nm Dc a5v a5w (Ht rfl) (by rw [← hfin]; simpa using Tt h0) (fun b hb=>a0q (n:=m) b (by rw [vD h0,hfin]; exact hb))) ?_))))))))))
   refine ra rfl (eW (fU rfl (fV (fX rfl) ?_)))
   exact (kI (by rw [vD h0,hfin]))
end
section
open Go Go.RowKit
theorem wR {n : Nat} {E : cT} {H : Hp} {d : Option Tmp} {t : TypeId} {pos : String} {af : Array Edge} {g : Option (Nat × Bool)} {x0 x1 : Operand} {T0 T1 : Ty} [s0 : dD T0 1 false] (h0 : bH E x0 T0) [s1 : dD T1 1 false] (h1 : bH E x1 T1) :
  aM Tryz.prog n E H ⟨d,.build 58 #[(0,x0),(1,x1)],t,pos,af,g⟩ (eT [T0,T1]) :=
 iQ (parts := [(0, x0), (1, x1)]) fun a V w hs => by
  have p0:=h0 n V a hs
  generalize e0:a.eval x0 = v0 at p0
  have q0:=(s0.ok v0 V p0).2.2 rfl
  have p1:=h1 n V a hs
  generalize e1:a.eval x1 = v1 at p1
  have q1:=(s1.ok v1 V p1).2.2 rfl
  refine ⟨.agg #[v0,v1],?_,[v0,v1],rfl,aW (⟨p0,q0⟩) (aW (⟨p1,q1⟩) (aG))⟩
  simp [e0,e1,Instr.build,Instr.fill,Sem.run_bind,Result.andThen,gI,q0.cells,q1.cells,O_58,U_58,Z_4,Z_56]
theorem mH (a:Addr) (w:World):(Instr.fieldAt 58 (.pointer (some a)) 0).run Tryz.prog w = .ok (.pointer (some (a.add 0))) w:=by
 simp [Instr.fieldAt,Instr.sureAddr,fieldPlace,Sem.run_bind,Result.andThen,U_58,Z_4]
theorem fL (a:Addr) (w:World):(Instr.fieldAt 58 (.pointer (some a)) 1).run Tryz.prog w = .ok (.pointer (some (a.add 1))) w:=by
 simp [Instr.fieldAt,Instr.sureAddr,fieldPlace,Sem.run_bind,Result.andThen,U_58,Z_56]
end
section
open Go Go.RowKit
theorem Iz {n:Int} (h1:-9223372036854775808 ≤ n) (h2:n ≤ 9223372036854775807):bB Tryz.prog 157 [aL .i64 n] (iE n):=by
 refine bB.intro Tryz.func157 rfl Tryz.ntmps157 rfl (fun cx=>(ts (rn rfl (eU (Ts:=[Is (.bool false),Is (.slice none 0 0)]) O_58 rfl (fun V=>aW zd (aW zd (aG)))) fun B2=>(eW (cU (ts (rm rfl (ro rfl (qW (Ht rfl) cW) (eW (dX (Ht rfl) (fun hb=>?_) (fun hb=>?_)))))))))))
 ·have hn : n < 0 := by simpa using hb
  refine ts (rm rfl (ro rfl (vO U_2 U_263 (Ht rfl) (r:=((18446744073709551616 - n.natAbs:Nat):Int)) (by rw [IntKind.wrap_u64]; omega)) ?_))
  refine ro rfl (Kh (Ht rfl) (r:=((n.natAbs:Nat):Int)) (by rw [IntKind.wrap_u64]; omega)) ?_
  refine ro rfl (cJ Tryz.call238 (Iy zo) ⟨(Ht rfl),trivial⟩) (ro rfl (wR cW (Ht rfl)) (gJ Z_58 (Ht rfl) (Ht rfl) rfl (i:=0) rfl (aK rfl) rfl rfl (eW (fU rfl (fV (gQ A_58 Z_58 rfl (i:=0) rfl rfl) ?_)))))
  exact (rW (by rw [hb]; rfl))
 ·have hn : ¬ n < 0 := by simpa using hb
  refine cY (ts (rm rfl (ro rfl (vO U_2 U_263 (Ht rfl) (r:=((n.natAbs:Nat):Int)) (by rw [IntKind.wrap_u64]; omega)) ?_)))
  refine ro rfl (cJ Tryz.call238 (Iy zo) ⟨(Ht rfl),trivial⟩) (ro rfl (wR cW (Ht rfl)) (gJ Z_58 (Ht rfl) (Ht rfl) rfl (i:=0) rfl (aK rfl) rfl rfl (eW (fU rfl (fV (gQ A_58 Z_58 rfl (i:=0) rfl rfl) ?_)))))
  exact (rW (by rw [hb]; rfl))
theorem qG {b:Bool} {m:Nat}:bB Tryz.prog 234 [aH b,aN m] (iE (Bk b m)):=by
 refine bB.intro Tryz.func234 rfl Tryz.ntmps234 rfl (fun cx=>(ts (rn rfl (eU (Ts:=[Is (.bool false),Is (.slice none 0 0)]) O_58 rfl (fun V=>aW zd (aW zd (aG)))) fun B4=>(eW (ts (rm rfl (rm rfl (fJ rfl rfl (fQ rfl rfl (Ht rfl) (fun h=>cZ (Ht rfl))) (fJ rfl rfl (fQ rfl rfl (Ht rfl) (fun h=>dY U_56 (fG rfl h) aB)) (fJ rfl rfl (fQ rfl rfl (Ht rfl) (fun h=>fM (fG rfl h) (cV 0))) (ro rfl (fC (Ht rfl) (fun h=>(fG rfl h))) (rm rfl ?_))))))))))))
 refine ro rfl (wR (Ht rfl) (Ht rfl)) (gJ Z_58 (Ht rfl) (Ht rfl) rfl (i:=0) rfl (aK rfl) rfl rfl (eW (fU rfl (fV (gQ A_58 Z_58 rfl (i:=0) rfl rfl) ?_))))
 exact a20
theorem rI {x:Int}:bB Tryz.prog 167 [iE x] (iE (-x)):=by
 refine bB.intro Tryz.func167 rfl Tryz.ntmps167 rfl (fun cx=>(ts (rn rfl (fY (Ht rfl)) fun B1=>(rn rfl (eU (Ts:=[Is (.bool false),Is (.slice none 0 0)]) O_58 rfl (fun V=>aW zd (aW zd (aG)))) fun B2=>(eW (ts (ro rfl (eG mH (Ht rfl) rfl) (ro rfl (fZ A_4 Z_4 (Ht rfl) (i:=0) rfl rfl) (ro rfl (eS (Ht rfl)) (ro rfl (eG fL (Ht rfl) rfl) (ro rfl (fZ A_56 Z_56 (Ht rfl) (i:=0) rfl rfl) (ro rfl (cJ K_234 qG ⟨(Ht rfl),(Ht rfl),trivial⟩) ?_))))))))))))
 refine gJ Z_58 (Ht rfl) (Ht rfl) rfl (i:=1) rfl (aK rfl) rfl rfl (eW (fU rfl (fV (gQ A_58 Z_58 rfl (i:=1) rfl rfl) ?_)))
 exact (rA (Ie x))
theorem wT {x y:Int} (hx:(dg x.natAbs).length ≤ 17592186044416) (hy:(dg y.natAbs).length ≤ 17592186044416):bB Tryz.prog 152 [iE x,iE y] (iE (x + y)):=by
 refine bB.intro Tryz.func152 rfl Tryz.ntmps152 rfl (fun cx=>(ts (rn rfl (fY (Ht rfl)) fun B2=>(rn rfl (fY (Ht rfl)) fun B3=>(rn rfl (eU (Ts:=[Is (.bool false),Is (.slice none 0 0)]) O_58 rfl (fun V=>aW zd (aW zd (aG)))) fun B4=>(eW (cU (ts (ro rfl (eG mH (Ht rfl) rfl) (ro rfl (fZ A_4 Z_4 (Ht rfl) (i:=0) rfl rfl) (ro rfl (eG mH (Ht rfl) rfl) (ro rfl (fZ A_4 Z_4 (Ht rfl) (i:=1) rfl rfl) (ro rfl (a6E Tryz.runUnderlying4 (Ht rfl) (Ht rfl)) ?_)))))))))))))
 refine eW (dX (Ht rfl) (fun hb=>?_) (fun hb=>?_))
 ·have he : decide (x < 0) = decide (y < 0) := by simpa using hb
  refine cU (fW (m:=7) (dp 2 rfl (eG mH (Ht rfl) rfl) (dq 10 0 rfl (fZ A_4 Z_4 (Ht rfl) (i:=0) rfl rfl) (dp 2 rfl (eG fL (Ht rfl) rfl) (dq 12 2 rfl (fZ A_56 Z_56 (Ht rfl) (i:=0) rfl rfl) (dp 3 rfl (eG fL (Ht rfl) rfl) (dq 14 4 rfl (fZ A_56 Z_56 (Ht rfl) (i:=1) rfl rfl) (dE 13 3 15 5 rfl (cJ Tryz.call235 (a7I zo zo) ⟨(Ht rfl),(Ht rfl),trivial⟩) (fK aS rfl (by kernel_rfl) (zF (aJ (aJ (aJ (aV ?_))))))))))))))
  refine ro rfl (cJ K_234 qG ⟨(Ht rfl),(Ht rfl),trivial⟩) (gJ Z_58 (Ht rfl) (Ht rfl) rfl (i:=2) rfl (aK rfl) rfl rfl (eW (fU rfl (fV (gQ A_58 Z_58 rfl (i:=2) rfl rfl) ?_))))
  exact (rA (a21 he))
 ·have he : decide (x < 0) ≠ decide (y < 0) := by simpa using hb
  refine cY (cU (ts (ro rfl (eG fL (Ht rfl) rfl) (ro rfl (fZ A_56 Z_56 (Ht rfl) (i:=0) rfl rfl) (ro rfl (eG fL (Ht rfl) rfl) (ro rfl (fZ A_56 Z_56 (Ht rfl) (i:=1) rfl rfl) (ro rfl (cJ Tryz.call199 (a0g zo zo) ⟨(Ht rfl),(Ht rfl),trivial⟩) (ro rfl (nY (Ht rfl) cW) (eW (dX (Ht rfl) (fun hc=>?_) (fun hc=>?_)))))))))))
  ·have hle : y.natAbs ≤ x.natAbs := Tg (by simpa using hc)
   refine cU (fW (m:=7) (dp 2 rfl (eG mH (Ht rfl) rfl) (dq 24 0 rfl (fZ A_4 Z_4 (Ht rfl) (i:=0) rfl rfl) (dp 2 rfl (eG fL (Ht rfl) rfl) (dq 26 2 rfl (fZ A_56 Z_56 (Ht rfl) (i:=0) rfl rfl) (dp 3 rfl (eG fL (Ht rfl) rfl) (dq 28 4 rfl (fZ A_56 Z_56 (Ht rfl) (i:=1) rfl rfl) (dE 27 3 29 5 rfl (cJ Tryz.call236 (a5a zo zo) ⟨(Ht rfl),(Ht rfl),trivial⟩) (fK aS rfl (by kernel_rfl) (zF (aJ (aJ (aJ (aV ?_))))))))))))))
   refine ro rfl (cJ K_234 qG ⟨(Ht rfl),(Ht rfl),trivial⟩) (gJ Z_58 (Ht rfl) (Ht rfl) rfl (i:=2) rfl (aK rfl) rfl rfl (eW (fU rfl (fV (gQ A_58 Z_58 rfl (i:=2) rfl rfl) ?_))))
   exact (rA (Oe he hle))
  ·have hle : x.natAbs ≤ y.natAbs := Nat.le_of_lt (Th (by simpa using hc))
   refine cY (cU (fW (m:=7) (dp 3 rfl (eG mH (Ht rfl) rfl) (dq 32 0 rfl (fZ A_4 Z_4 (Ht rfl) (i:=1) rfl rfl) (dp 3 rfl (eG fL (Ht rfl) rfl) (dq 34 2 rfl (fZ A_56 Z_56 (Ht rfl) (i:=1) rfl rfl) (dp 2 rfl (eG fL (Ht rfl) rfl) (dq 36 4 rfl (fZ A_56 Z_56 (Ht rfl) (i:=0) rfl rfl) (dE 35 3 37 5 rfl (cJ Tryz.call236 (a5a zo zo) ⟨(Ht rfl),(Ht rfl),trivial⟩) (fK aS rfl (by kernel_rfl) (zF (aJ (aJ (aJ (aV ?_)))))))))))))))
   refine ro rfl (cJ K_234 qG ⟨(Ht rfl),(Ht rfl),trivial⟩) (gJ Z_58 (Ht rfl) (Ht rfl) rfl (i:=2) rfl (aK rfl) rfl rfl (eW (fU rfl (fV (gQ A_58 Z_58 rfl (i:=2) rfl rfl) ?_))))
   exact (rA (by rw [Oe (Ne.symm he) hle,Int.add_comm]))
theorem rJ {x y:Int} (hx:(dg x.natAbs).length ≤ 17592186044416) (hy:(dg y.natAbs).length ≤ 17592186044416):bB Tryz.prog 151 [iE x,iE y] (iE (x * y)):=by
 refine bB.intro Tryz.func151 rfl Tryz.ntmps151 rfl (fun cx=>(ts (rn rfl (fY (Ht rfl)) fun B2=>(rn rfl (fY (Ht rfl)) fun B3=>(rn rfl (eU (Ts:=[Is (.bool false),Is (.slice none 0 0)]) O_58 rfl (fun V=>aW zd (aW zd (aG)))) fun B4=>(eW (cU (fW (m:=10) (dp 2 rfl (eG mH (Ht rfl) rfl) (dq 5 0 rfl (fZ A_4 Z_4 (Ht rfl) (i:=0) rfl rfl) (dp 3 rfl (eG mH (Ht rfl) rfl) (dq 7 2 rfl (fZ A_4 Z_4 (Ht rfl) (i:=1) rfl rfl) (dE 6 1 8 3 rfl (a6F Tryz.runUnderlying4 (Ht rfl) (Ht rfl)) ?_)))))))))))))
 refine dp 2 rfl (eG fL (Ht rfl) rfl) (dq 10 5 rfl (fZ A_56 Z_56 (Ht rfl) (i:=0) rfl rfl) (dp 3 rfl (eG fL (Ht rfl) rfl) (dq 12 7 rfl (fZ A_56 Z_56 (Ht rfl) (i:=1) rfl rfl) (dE 11 6 13 8 rfl (cJ K_154 (Gz zo zo) ⟨(Ht rfl),(Ht rfl),trivial⟩) (fK aS rfl (by kernel_rfl) (zF (zF (aJ (aJ (aV (ro rfl (cJ K_234 qG ⟨(Ht rfl),(Ht rfl),trivial⟩) (gJ Z_58 (Ht rfl) (Ht rfl) rfl (i:=2) rfl (aK rfl) rfl rfl ?_))))))))))))
 refine eW (fU rfl (fV (gQ A_58 Z_58 rfl (i:=2) rfl rfl) ?_))
 exact (rA (Yr x y))
theorem mT {x:Int} {n:Nat} (hx:(dg x.natAbs).length ≤ 17592186044416) (hn:(dg n).length ≤ 17592186044416):bB Tryz.prog 155 [iE x,aN n] (iE (x * n)):=by
 refine bB.intro Tryz.func155 rfl Tryz.ntmps155 rfl (fun cx=>(ts (rn rfl (fY (Ht rfl)) fun B2=>(rn rfl (eU (Ts:=[Is (.bool false),Is (.slice none 0 0)]) O_58 rfl (fun V=>aW zd (aW zd (aG)))) fun B4=>(eW (cU (fW (m:=6) (dp 2 rfl (eG mH (Ht rfl) rfl) (dq 5 0 rfl (fZ A_4 Z_4 (Ht rfl) (i:=0) rfl rfl) (dp 2 rfl (eG fL (Ht rfl) rfl) (dq 7 2 rfl (fZ A_56 Z_56 (Ht rfl) (i:=0) rfl rfl) (dp 1 rfl (cZ (Ht rfl)) (dE 8 3 9 4 rfl (cJ K_154 (Gz zo zo) ⟨(Ht rfl),(Ht rfl),trivial⟩) ?_)))))))))))))
 refine fK aS rfl (by kernel_rfl) (zF (aJ (aJ (aV (ro rfl (cJ K_234 qG ⟨(Ht rfl),(Ht rfl),trivial⟩) (gJ Z_58 (Ht rfl) (Ht rfl) rfl (i:=1) rfl (aK rfl) rfl rfl (eW (fU rfl (fV (gQ A_58 Z_58 rfl (i:=1) rfl rfl) ?_)))))))))
 exact (rA (Rq x n))
theorem Jb {x y:Int} (hx:(dg x.natAbs).length ≤ 17592186044415) (hy:(dg y.natAbs).length ≤ 17592186044415):bB Tryz.prog 156 [iE x,iE y] (aL .i64 (nM x y)):=by
 have hny:=wV y
 have hs:=oL (x:=x) (y:=-y) hx zo
 refine bB.intro Tryz.func156 rfl Tryz.ntmps156 rfl (fun cx=>(ts (rn rfl (fY (Ht rfl)) fun B2=>(rn rfl (fY (Ht rfl)) fun B3=>(ro rfl (cX (cV 0)) (eW (cU (fW (m:=5) (dp 2 rfl (eK A_58 Z_58 (Ht rfl) (i:=0) rfl rfl rfl) (dp 3 rfl (eK A_58 Z_58 (Ht rfl) (i:=1) rfl rfl rfl) (dq 7 1 rfl (cJ K_167 rI ⟨(Ht rfl),trivial⟩) (dE 6 0 8 2 rfl (cJ K_152 (wT zo zo) ⟨(Ht rfl),(Ht rfl),trivial⟩) (C.D_new (Ei:=[]) rfl rfl rfl bW (eU (Ts:=[Is (.bool false),Is (.slice none 0 0)]) O_58 rfl (fun V=>aW zd (aW zd (aG)))) ?_)))))))))))))
 refine fK aS rfl (by kernel_rfl) (zF (C.F_new (fun B5=>aV (gJ Z_58 (Ht rfl) (Ht rfl) rfl (i:=2) rfl (aK rfl) rfl rfl (eW (cU (ts (ro rfl (eG mH (Ht rfl) rfl) (ro rfl (fZ A_4 Z_4 (Ht rfl) (i:=2) rfl rfl) (eW (dX (Ht rfl) (fun hb=>?_) (fun hb=>?_))))))))))))
 ·have hn : x + -y < 0 := by simpa using hb
  refine ts (ro rfl (cX cW) (eW (fU rfl (fV (fX rfl) ?_))))
  exact (aR (a3c hn))
 ·have hn : ¬ x + -y < 0 := by simpa using hb
  refine cY (ts (ro rfl (eG fL (Ht rfl) rfl) (ro rfl (fZ A_56 Z_56 (Ht rfl) (i:=2) rfl rfl) (ro rfl (dY U_56 (Ht rfl) aB) (ro rfl (Vl (Ht rfl) (cV 1)) (ra rfl (eW (fU rfl (fV (fX rfl) ?_)))))))))
  exact (aR (a3b hn))
end
section
open Go Go.RowKit
theorem Zz {n : Nat} {E : cT} {H : Hp} {d : Option Tmp} {t : TypeId} {pos : String} {af : Array Edge} {g : Option (Nat × Bool)} {x0 : Operand} {T0 T1 : Ty} (h0 : bH E x0 (eT [T0, T1])) :
  aM Tryz.prog n E H ⟨d,.build 60 #[(0,x0)],t,pos,af,g⟩ (eT [T0,T1,Is (.bool false),Is (.slice none 0 0),Is (.slice none 0 0)]) :=
 iQ (parts := [(0, x0)]) fun a V w hs => by
  obtain ⟨v0,e0,c0⟩:=h0 n V a hs
  obtain ⟨c0_0,c0_1,rfl⟩:∃ c0_0 c0_1,v0 = [c0_0,c0_1]:=Mx (by simpa using c0.length)
  refine ⟨.agg #[c0_0,c0_1,(.bool false),(.slice none 0 0),(.slice none 0 0)],?_,[c0_0,c0_1,(.bool false),(.slice none 0 0),(.slice none 0 0)],rfl,aW (c0.at (i:=0) rfl rfl) (aW (c0.at (i:=1) rfl rfl) (aW (⟨rfl,trivial⟩) (aW (⟨rfl,trivial⟩) (aW (⟨rfl,trivial⟩) (aG)))))⟩
  simp [e0,Instr.build,Instr.fill,Sem.run_bind,Result.andThen,gI,O_60,U_60,Z_56,Z_58]
theorem tF {n : Nat} {E : cT} {H : Hp} {d : Option Tmp} {t : TypeId} {pos : String} {af : Array Edge} {g : Option (Nat × Bool)} {x0 x1 x2 : Operand} {T0 T1 T2 T3 T4 : Ty} (h0 : bH E x0 (eT [T0, T1])) (h1 : bH E x1 (eT [T2, T3])) [s2 : dD T4 1 false] (h2 : bH E x2 T4) :
  aM Tryz.prog n E H ⟨d,.build 60 #[(0,x0),(1,x1),(2,x2)],t,pos,af,g⟩ (eT [T0,T1,T2,T3,T4]) :=
 iQ (parts := [(0, x0), (1, x1), (2, x2)]) fun a V w hs => by
  obtain ⟨v0,e0,c0⟩:=h0 n V a hs
  obtain ⟨c0_0,c0_1,rfl⟩:∃ c0_0 c0_1,v0 = [c0_0,c0_1]:=Mx (by simpa using c0.length)
  obtain ⟨v1,e1,c1⟩:=h1 n V a hs
  obtain ⟨c1_0,c1_1,rfl⟩:∃ c1_0 c1_1,v1 = [c1_0,c1_1]:=Mx (by simpa using c1.length)
  have p2:=h2 n V a hs
  generalize e2:a.eval x2 = v2 at p2
  have q2:=(s2.ok v2 V p2).2.2 rfl
  refine ⟨.agg #[c0_0,c0_1,c1_0,c1_1,v2],?_,[c0_0,c0_1,c1_0,c1_1,v2],rfl,aW (c0.at (i:=0) rfl rfl) (aW (c0.at (i:=1) rfl rfl) (aW (c1.at (i:=0) rfl rfl) (aW (c1.at (i:=1) rfl rfl) (aW (⟨p2,q2⟩) (aG)))))⟩
  simp [e0,e1,e2,Instr.build,Instr.fill,Sem.run_bind,Result.andThen,gI,q2.cells,O_60,U_60,Z_56,Z_58]
theorem gM (a:Addr) (w:World):(Instr.fieldAt 60 (.pointer (some a)) 0).run Tryz.prog w = .ok (.pointer (some (a.add 0))) w:=by
 simp [Instr.fieldAt,Instr.sureAddr,fieldPlace,Sem.run_bind,Result.andThen,U_60,Z_58]
theorem iF (a:Addr) (w:World):(Instr.fieldAt 60 (.pointer (some a)) 1).run Tryz.prog w = .ok (.pointer (some (a.add 2))) w:=by
 simp [Instr.fieldAt,Instr.sureAddr,fieldPlace,Sem.run_bind,Result.andThen,U_60,Z_58]
theorem rN (a:Addr) (w:World):(Instr.fieldAt 60 (.pointer (some a)) 2).run Tryz.prog w = .ok (.pointer (some (a.add 4))) w:=by
 simp [Instr.fieldAt,Instr.sureAddr,fieldPlace,Sem.run_bind,Result.andThen,U_60,Z_56]
end
section
open Go Go.RowKit
theorem wS {A B:Int} {D:Nat} (hD:0 < D) (hA:(dg A.natAbs).length ≤ 17592186044415) (hB:(dg B.natAbs).length ≤ 17592186044415) (hD2:(dg D).length ≤ 17592186044415):bB Tryz.prog 150 [iE A,iE B,aN D] (aI (Qi.mk' A B D)):=by
 have hg1:=Ec hA hB
 have hg2:=Ec hg1 hD2
 have hgp:Nat.gcd (Nat.gcd A.natAbs B.natAbs) D ≠ 0:=fun e=>by have:=Nat.gcd_eq_zero_iff.1 e; omega
 refine bB.intro Tryz.func150 rfl Tryz.ntmps150 rfl (fun cx=>(ts (rn rfl (fY (Ht rfl)) fun B3=>(rn rfl (fY (Ht rfl)) fun B4=>(rn rfl (eU (Ts:=[Is (.bool false),Is (.slice none 0 0),Is (.bool false),Is (.slice none 0 0),Is (.slice none 0 0)]) O_60 rfl (fun V=>aW zd (aW zd (aW zd (aW zd (aW zd (aG))))))) fun B6=>(eW (ts (ro rfl (eG fL (Ht rfl) rfl) (ro rfl (fZ A_56 Z_56 (Ht rfl) (i:=0) rfl rfl) ?_)))))))))
 refine ro rfl (eG fL (Ht rfl) rfl) (ro rfl (fZ A_56 Z_56 (Ht rfl) (i:=1) rfl rfl) (ro rfl (cJ Tryz.call231 (a56 zo zo) ⟨(Ht rfl),(Ht rfl),trivial⟩) (rm rfl (ro rfl (cJ Tryz.call231 (a56 zo zo) ⟨(Ht rfl),(Ht rfl),trivial⟩) (ra rfl (eW (cU (jU (fun (uu:Unit)=>True) (fun (uu:Unit)=>[(2,aN (D / (Nat.gcd (Nat.gcd A.natAbs B.natAbs) D))),(3,cC B3 0),(4,cC B4 0),(6,cC B6 0)]) (fun (uu:Unit)=>[box B3 58 [aH (decide (A < 0)),aN (A.natAbs / (Nat.gcd (Nat.gcd A.natAbs B.natAbs) D))],box B4 58 [aH (decide (B < 0)),aN (B.natAbs / (Nat.gcd (Nat.gcd A.natAbs B.natAbs) D))],box B6 60 [Is (.bool false),Is (.slice none 0 0),Is (.bool false),Is (.slice none 0 0),Is (.slice none 0 0)]]) ?_ (fun uu _=>?_)))))))))
 ·refine ts (rm rfl (ro rfl (cJ Tryz.call232 a57 ⟨(Ht rfl), trivial⟩) (ro rfl (eS (Ht rfl)) (eW (dX (Ht rfl) (fun hb => ?_) (fun hb => ?_))))))
  ·simp at hb
   refine ts (ro rfl (eG fL (Ht rfl) rfl) (ro rfl (fZ A_56 Z_56 (Ht rfl) (i:=0) rfl rfl) (rm rfl (ro rfl (cJ Tryz.call233 (Sr zo zo zo) ⟨(Ht rfl),(Ht rfl),trivial⟩) (rm rfl (ro rfl (eQ (Ht rfl) rfl) (ro rfl (eQ (Ht rfl) rfl) (ro rfl (eG fL (Ht rfl) rfl) (lP Z_56 (Ht rfl) (Ht rfl) (i:=0) rfl (aK rfl) rfl (eW (ts (ro rfl (eG fL (Ht rfl) rfl) (ro rfl (fZ A_56 Z_56 (Ht rfl) (i:=1) rfl rfl) (rm rfl (ro rfl (cJ Tryz.call233 (Sr zo zo zo) ⟨(Ht rfl),(Ht rfl),trivial⟩) ?_)))))))))))))))
   refine rm rfl (ro rfl (eQ (Ht rfl) rfl) (ro rfl (eQ (Ht rfl) rfl) (ro rfl (eG fL (Ht rfl) rfl) (lP Z_56 (Ht rfl) (Ht rfl) (i:=1) rfl (aK rfl) rfl (eW (dQ (rm rfl (rm rfl (ro rfl (cJ Tryz.call233 (Sr zo zo zo) ⟨(Ht rfl),(Ht rfl),trivial⟩) (rm rfl (ro rfl (eQ (Ht rfl) rfl) (ro rfl (eQ (Ht rfl) rfl) (ra rfl (eW (aT () trivial (zS rfl) (aU (aD (by first | rfl | simp)) (aU (aD (by first | rfl | simp)) (aU (aD rfl) aY))))))))))))))))))
  ·simp at hb
   refine cY (aT () trivial (aZ rfl (dL (by rw [hb,Nat.div_one])) (zS rfl)) (aU (aD (by rw [hb,Nat.div_one])) (aU (aD (by rw [hb,Nat.div_one])) (aU (aD rfl) aY))))
 ·refine cU (jU (fun (uu : Unit) => True) (fun (uu : Unit) => [(2, aN (if D / (Nat.gcd (Nat.gcd A.natAbs B.natAbs) D) = 1 then 0 else D / (Nat.gcd (Nat.gcd A.natAbs B.natAbs) D))), (3, cC B3 0), (4, cC B4 0), (6, cC B6 0)]) (fun (uu : Unit) => [box B3 58 [aH (decide (A < 0)), aN (A.natAbs / (Nat.gcd (Nat.gcd A.natAbs B.natAbs) D))], box B4 58 [aH (decide (B < 0)), aN (B.natAbs / (Nat.gcd (Nat.gcd A.natAbs B.natAbs) D))], box B6 60 [Is (.bool false), Is (.slice none 0 0), Is (.bool false), Is (.slice none 0 0), Is (.slice none 0 0)]]) ?_ (fun uu _ => ?_))
  ·refine ts (rm rfl (ro rfl (cJ Tryz.call232 a57 ⟨(Ht rfl), trivial⟩) (eW (dX (Ht rfl) (fun hb => ?_) (fun hb => ?_)))))
   ·simp only [decide_eq_true_eq] at hb
    refine dQ (ro rfl (cX cW) (eW (aT () trivial (aZ rfl (fun v V h=>dL (by rw [if_pos hb]) v V (lX v V h)) (zS rfl)) (dI.refl _))))
   ·simp only [decide_eq_false_iff_not] at hb
    refine cY (aT () trivial (aZ rfl (dL (by rw [if_neg hb])) (zS rfl)) (dI.refl _))
  ·refine ts (ro rfl (eK A_58 Z_58 (Ht rfl) (i := 0) rfl rfl rfl) (ro rfl (eK A_58 Z_58 (Ht rfl) (i := 1) rfl rfl rfl) (rm rfl (ro rfl (tF (Ht rfl) (Ht rfl) (Ht rfl)) (gJ Z_60 (Ht rfl) (Ht rfl) rfl (i := 2) rfl (aK rfl) rfl rfl (eW (fU rfl (fV (gQ A_60 Z_60 rfl (i := 2) rfl rfl) ?_))))))))
   exact (a4k hD)
theorem pV {x:Qi}:bB Tryz.prog 153 [aI x] (aN x.den):=by
 refine bB.intro Tryz.func153 rfl Tryz.ntmps153 rfl (fun cx=>(ts (rn rfl (fY (Ht rfl)) fun B1=>(ro rfl (cX cW) (eW (cU (ts (ro rfl (eG rN (Ht rfl) rfl) (ro rfl (fZ A_56 Z_56 (Ht rfl) (i:=0) rfl rfl) (ro rfl (dY U_56 (Ht rfl) aB) (ro rfl (cL (Ht rfl) (cV 0)) (eW (dX (Ht rfl) (fun hb=>?_) (fun hb=>?_))))))))))))))
 ·simp at hb
  have h1:x.den = 1:=By (aP.1 (by simpa using hb))
  refine ts (ro rfl (eB (xs:=[_]) U_56 Z_218 O_218 (cG (cV 1) cK) rfl rfl rfl) (ra rfl (eW (fU rfl (fV (fX rfl) ?_)))))
  exact (fun v V h=>dL h1.symm v V (Nl v V h))
 ·simp at hb
  have h1:du x = x.den:=xU (fun e=>hb (by simp [e,eO]))
  refine cY (ts (ro rfl (eG rN (Ht rfl) rfl) (ro rfl (fZ A_56 Z_56 (Ht rfl) (i:=0) rfl rfl) (ra rfl (eW (fU rfl (fV (fX rfl) ?_)))))))
  exact (dL h1)
theorem Dq {n:Int} (h1:-9223372036854775808 ≤ n) (h2:n ≤ 9223372036854775807):bB Tryz.prog 52 [aL .i64 n] (aI (Qi.ofInt n)):=by
 refine bB.intro Tryz.func52 rfl Tryz.ntmps52 rfl (fun cx=>(ts (rn rfl (eU (Ts:=[Is (.bool false),Is (.slice none 0 0),Is (.bool false),Is (.slice none 0 0),Is (.slice none 0 0)]) O_60 rfl (fun V=>aW zd (aW zd (aW zd (aW zd (aW zd (aG))))))) fun B2=>(eW (ts (rm rfl (ro rfl (cJ Tryz.call157 (Iz h1 h2) ⟨(Ht rfl),trivial⟩) (ro rfl (Zz (Ht rfl)) (gJ Z_60 (Ht rfl) (Ht rfl) rfl (i:=0) rfl (aK rfl) rfl rfl ?_)))))))))
 refine eW (fU rfl (fV (gQ A_60 Z_60 rfl (i:=0) rfl rfl) ?_))
 exact Ve
theorem a55 {p q d:Int} (p1:-9223372036854775808 ≤ p) (p2:p ≤ 9223372036854775807) (q1:-9223372036854775808 ≤ q) (q2:q ≤ 9223372036854775807) (d1:-9223372036854775808 ≤ d) (d2:d ≤ 9223372036854775807) (hd:d ≠ 0):bB Tryz.prog 108 [aL .i64 p,aL .i64 q,aL .i64 d] (eH [aI (Qi.frac p q d),aL .i64 0]):=by
 have lp:=Xj p1 p2; have lq:=Xj q1 q2; have ld:=Xj d1 d2; have np:=wV p; have nq:=wV q
 refine bB.intro Tryz.func108 rfl Tryz.ntmps108 rfl (fun cx=>(ts (rn rfl (eU (Ts:=[Is (.bool false),Is (.slice none 0 0),Is (.bool false),Is (.slice none 0 0),Is (.slice none 0 0)]) O_60 rfl (fun V=>aW zd (aW zd (aW zd (aW zd (aW zd (aG))))))) fun B6=>(ro rfl (cX (cV 0)) (eW (cU (ts (rm rfl (ro rfl (lY (Ht rfl) cW) (eW (jQ (Ht rfl) (by simp [hd]) ?_)))))))))))
 refine cY (ts (rm rfl (ro rfl (cJ Tryz.call157 (Iz p1 p2) ⟨(Ht rfl),trivial⟩) (rm rfl (ro rfl (cJ Tryz.call157 (Iz q1 q2) ⟨(Ht rfl),trivial⟩) (rm rfl (ro rfl (cJ Tryz.call157 (Iz d1 d2) ⟨(Ht rfl),trivial⟩) (rn rfl (eU (Ts:=[Is (.bool false),Is (.slice none 0 0)]) O_58 rfl (fun V=>aW zd (aW zd (aG)))) fun B8=>(rn rfl (eU (Ts:=[Is (.bool false),Is (.slice none 0 0)]) O_58 rfl (fun V=>aW zd (aW zd (aG)))) fun B9=>?_)))))))))
 refine rn rfl (eU (Ts:=[Is (.bool false),Is (.slice none 0 0)]) O_58 rfl (fun V=>aW zd (aW zd (aG)))) fun B10=>gJ Z_58 (Ht rfl) (Ht rfl) rfl (i:=1) rfl (aK rfl) rfl rfl (gJ Z_58 (Ht rfl) (Ht rfl) rfl (i:=2) rfl (aK rfl) rfl rfl (gJ Z_58 (Ht rfl) (Ht rfl) rfl (i:=3) rfl (aK rfl) rfl rfl (eW (cU (tE (fun (a:Int) (b:Int)=>Qi.mk' a b d.natAbs = Qi.frac p q d ∧ (dg a.natAbs).length ≤ 2 ∧ (dg b.natAbs).length ≤ 2) (fun (a:Int) (b:Int)=>[(6,cC B6 0),(8,cC B8 0),(9,cC B9 0),(10,cC B10 0)]) (fun (a:Int) (b:Int)=>[box B6 60 [Is (.bool false),Is (.slice none 0 0),Is (.bool false),Is (.slice none 0 0),Is (.slice none 0 0)],box B8 58 [aH (decide (a < 0)),aN (a).natAbs],box B9 58 [aH (decide (b < 0)),aN (b).natAbs],box B10 58 [aH (decide (d < 0)),aN (d).natAbs]]) ?_ (fun a b ⟨hab,ha,hb⟩=>?_))))))
 ·refine ts (ro rfl (eG mH (Ht rfl) rfl) (ro rfl (fZ A_4 Z_4 (Ht rfl) (i := 3) rfl rfl) (eW (dX (Ht rfl) (fun hn => ?_) (fun hn => ?_)))))
  ·simp only [decide_eq_true_eq] at hn
   refine fW (m:=3) (dp 8 rfl (eK A_58 Z_58 (Ht rfl) (i:=1) rfl rfl rfl) (dq 22 0 rfl (cJ K_167 rI ⟨(Ht rfl),trivial⟩) (dp 9 rfl (eK A_58 Z_58 (Ht rfl) (i:=2) rfl rfl rfl) (fK aS rfl (by kernel_rfl) (aJ (aJ (aJ (aV (ro rfl (cJ K_167 rI ⟨(Ht rfl),trivial⟩) (gJ Z_58 (Ht rfl) (Ht rfl) rfl (i:=1) rfl (aK rfl) rfl rfl (gJ Z_58 (Ht rfl) (Ht rfl) rfl (i:=2) rfl (aK rfl) rfl rfl (eW (aT (-p,-q) ⟨Qi.frac_neg hn,by dsimp only; omega,by dsimp only; omega⟩ (zS rfl) (aU (aD rfl) (aU (aD rfl) (aU (aD rfl) (aU (aD rfl) aY)))))))))))))))))
  ·simp only [decide_eq_false_iff_not] at hn
   refine cY (aT (p,q) ⟨Qi.frac_pos hn hd,by omega,by omega⟩ (zS rfl) (dI.refl _))
 ·refine ts (ro rfl (eK A_58 Z_58 (Ht rfl) (i := 1) rfl rfl rfl) (ro rfl (eK A_58 Z_58 (Ht rfl) (i := 2) rfl rfl rfl) (ro rfl (eG fL (Ht rfl) rfl) (ro rfl (fZ A_56 Z_56 (Ht rfl) (i := 3) rfl rfl) (ro rfl (cJ K_150 (wS zo zo zo zo) ⟨(Ht rfl), (Ht rfl), (Ht rfl), trivial⟩) (gJ Z_60 (Ht rfl) (Ht rfl) rfl (i := 0) rfl (aK rfl) rfl rfl (ro rfl (cX (cV 0)) (eW (bN rfl (fV (gQ A_60 Z_60 rfl (i := 0) rfl rfl) ?_) (fX rfl))))))))))
  exact (jA hab)
theorem tW {x y:Qi} {L M:Nat} [hx:aF x L] [hy:aF y M] (h:L + M + 1 ≤ 17592186044415):bB Tryz.prog 71 [aI x,aI y] (aI (x + y)):=by
 have hxa:=oH hx.fit; have hxb:=oI hx.fit; have hxd:=oJ hx.fit
 have hya:=oH hy.fit; have hyb:=oI hy.fit; have hyd:=oJ hy.fit
 have hxp:=x.den_pos; have hyp:=y.den_pos; have hdp:=Nat.mul_pos hxp hyp
 have e1:=iO x.a y.den; have e2:=iO y.a x.den; have e3:=iO x.b y.den; have e4:=iO y.b x.den; have e5:=Ae x.den y.den
 have e6:=oL (x:=x.a * y.den) (y:=y.a * x.den) (L:=L + M) zo zo; have e7:=oL (x:=x.b * y.den) (y:=y.b * x.den) (L:=L + M) zo zo
 refine bB.intro Tryz.func71 rfl Tryz.ntmps71 rfl (fun cx=>(ts (rn rfl (fY (Ht rfl)) fun B2=>(rn rfl (fY (Ht rfl)) fun B3=>(rn rfl (eU (Ts:=[Is (.bool false),Is (.slice none 0 0),Is (.bool false),Is (.slice none 0 0),Is (.slice none 0 0)]) O_60 rfl (fun V=>aW zd (aW zd (aW zd (aW zd (aW zd (aG))))))) fun B4=>(eW (cU (fW (m:=3) (dp 2 rfl (eK A_60 Z_60 (Ht rfl) (i:=0) rfl rfl rfl) (dq 7 0 rfl (cJ K_153 pV ⟨(Ht rfl),trivial⟩) ?_))))))))))
 refine dp 3 rfl (eK A_60 Z_60 (Ht rfl) (i:=1) rfl rfl rfl) (fK aS rfl (by kernel_rfl) (aJ (aJ (aJ (aV (ro rfl (cJ K_153 pV ⟨(Ht rfl),trivial⟩) (ra rfl (ra rfl (eW (cU (fW (m:=20) (dp 2 rfl (eG gM (Ht rfl) rfl) (dq 11 0 rfl (eK A_58 Z_58 (Ht rfl) (i:=0) rfl rfl rfl) (dp 6 rfl (cZ (Ht rfl)) (dE 12 1 13 2 rfl (cJ K_155 (mT zo zo) ⟨(Ht rfl),(Ht rfl),trivial⟩) (dp 3 rfl (eG gM (Ht rfl) rfl) (dq 15 4 rfl (eK A_58 Z_58 (Ht rfl) (i:=1) rfl rfl rfl) ?_)))))))))))))))))
 refine dp 5 rfl (cZ (Ht rfl)) (dE 16 5 17 6 rfl (cJ K_155 (mT zo zo) ⟨(Ht rfl),(Ht rfl),trivial⟩) (dE 14 3 18 7 rfl (cJ K_152 (wT zo zo) ⟨(Ht rfl),(Ht rfl),trivial⟩) (dp 2 rfl (eG iF (Ht rfl) rfl) (dq 20 9 rfl (eK A_58 Z_58 (Ht rfl) (i:=0) rfl rfl rfl) (dp 6 rfl (cZ (Ht rfl)) (dE 21 10 22 11 rfl (cJ K_155 (mT zo zo) ⟨(Ht rfl),(Ht rfl),trivial⟩) (dp 3 rfl (eG iF (Ht rfl) rfl) (dq 24 13 rfl (eK A_58 Z_58 (Ht rfl) (i:=1) rfl rfl rfl) ?_))))))))
 refine dp 5 rfl (cZ (Ht rfl)) (dE 25 14 26 15 rfl (cJ K_155 (mT zo zo) ⟨(Ht rfl),(Ht rfl),trivial⟩) (dE 23 12 27 16 rfl (cJ K_152 (wT zo zo) ⟨(Ht rfl),(Ht rfl),trivial⟩) (dp 5 rfl (cZ (Ht rfl)) (dp 6 rfl (cZ (Ht rfl)) (fK aS rfl (by kernel_rfl) (zF (zF (zF (zF (zF (aV (ro rfl (cJ K_154 (Gz zo zo) ⟨(Ht rfl),(Ht rfl),trivial⟩) ?_))))))))))))
 refine ro rfl (cJ K_150 (wS (by first | assumption | omega) zo zo zo) ⟨(Ht rfl),(Ht rfl),(Ht rfl),trivial⟩) (gJ Z_60 (Ht rfl) (Ht rfl) rfl (i:=2) rfl (aK rfl) rfl rfl (eW (fU rfl (fV (gQ A_60 Z_60 rfl (i:=2) rfl rfl) ?_))))
 exact (jA (Qi.mk_add x y))
theorem Sq {x:Qi}:bB Tryz.prog 168 [aI x] (aI (-x)):=by
 refine bB.intro Tryz.func168 rfl Tryz.ntmps168 rfl (fun cx=>(ts (rn rfl (fY (Ht rfl)) fun B1=>(rn rfl (eU (Ts:=[Is (.bool false),Is (.slice none 0 0),Is (.bool false),Is (.slice none 0 0),Is (.slice none 0 0)]) O_60 rfl (fun V=>aW zd (aW zd (aW zd (aW zd (aW zd (aG))))))) fun B2=>(eW (cU (fW (m:=8) (dp 1 rfl (eG gM (Ht rfl) rfl) (dq 3 0 rfl (eK A_58 Z_58 (Ht rfl) (i:=0) rfl rfl rfl) (dq 4 1 rfl (cJ K_167 rI ⟨(Ht rfl),trivial⟩) ?_))))))))))
 refine dp 1 rfl (eG iF (Ht rfl) rfl) (dq 6 3 rfl (eK A_58 Z_58 (Ht rfl) (i:=0) rfl rfl rfl) (dq 7 4 rfl (cJ K_167 rI ⟨(Ht rfl),trivial⟩) (dp 1 rfl (eG rN (Ht rfl) rfl) (dq 9 6 rfl (fZ A_56 Z_56 (Ht rfl) (i:=0) rfl rfl) (fK aS rfl (by kernel_rfl) (zF (zF (aV (ro rfl (tF (Ht rfl) (Ht rfl) (Ht rfl)) (gJ Z_60 (Ht rfl) (Ht rfl) rfl (i:=1) rfl (aK rfl) rfl rfl (eW (fU rfl (fV (gQ A_60 Z_60 rfl (i:=1) rfl rfl) ?_)))))))))))))
 exact (rW (by obtain ⟨e1,e2,e3⟩:=Qi.neg_a x; rw [e1,e2,a5e e3]; rfl))
theorem a03 {x:Qi}:bB Tryz.prog 173 [aI x] (aI x.conj):=by
 refine bB.intro Tryz.func173 rfl Tryz.ntmps173 rfl (fun cx=>(ts (rn rfl (fY (Ht rfl)) fun B1=>(rn rfl (eU (Ts:=[Is (.bool false),Is (.slice none 0 0),Is (.bool false),Is (.slice none 0 0),Is (.slice none 0 0)]) O_60 rfl (fun V=>aW zd (aW zd (aW zd (aW zd (aW zd (aG))))))) fun B2=>(eW (cU (fW (m:=7) (dp 1 rfl (eG gM (Ht rfl) rfl) (dq 3 0 rfl (eK A_58 Z_58 (Ht rfl) (i:=0) rfl rfl rfl) (dp 1 rfl (eG iF (Ht rfl) rfl) ?_))))))))))
 refine dq 5 2 rfl (eK A_58 Z_58 (Ht rfl) (i:=0) rfl rfl rfl) (dq 6 3 rfl (cJ K_167 rI ⟨(Ht rfl),trivial⟩) (dp 1 rfl (eG rN (Ht rfl) rfl) (dq 8 5 rfl (fZ A_56 Z_56 (Ht rfl) (i:=0) rfl rfl) (fK aS rfl (by kernel_rfl) (zF (aJ (aJ (aJ (aV (ro rfl (tF (Ht rfl) (Ht rfl) (Ht rfl)) (gJ Z_60 (Ht rfl) (Ht rfl) rfl (i:=1) rfl (aK rfl) rfl rfl (eW (fU rfl (fV (gQ A_60 Z_60 rfl (i:=1) rfl rfl) ?_))))))))))))))
 exact (rW (by obtain ⟨e1,e2,e3⟩:=Qi.conj_a x; rw [e1,e2,a5e e3]; rfl))
theorem wI {x y:Qi} {L M:Nat} [hx:aF x L] [hy:aF y M] (h:L + M + 1 ≤ 17592186044415):bB Tryz.prog 69 [aI x,aI y] (aI (x - y)):=by
 have hxa:=oH hx.fit; have hxb:=oI hx.fit; have hxd:=oJ hx.fit
 have hya:=oH hy.fit; have hyb:=oI hy.fit; have hyd:=oJ hy.fit
 have hxp:=x.den_pos; have hyp:=y.den_pos; have hdp:=Nat.mul_pos hxp hyp
 refine bB.intro Tryz.func69 rfl Tryz.ntmps69 rfl (fun cx=>(ts (rn rfl (fY (Ht rfl)) fun B2=>(rn rfl (fY (Ht rfl)) fun B3=>(rn rfl (eU (Ts:=[Is (.bool false),Is (.slice none 0 0),Is (.bool false),Is (.slice none 0 0),Is (.slice none 0 0)]) O_60 rfl (fun V=>aW zd (aW zd (aW zd (aW zd (aW zd (aG))))))) fun B4=>(eW (cU (fW (m:=3) (dp 2 rfl (eK A_60 Z_60 (Ht rfl) (i:=0) rfl rfl rfl) (dp 3 rfl (eK A_60 Z_60 (Ht rfl) (i:=1) rfl rfl rfl) ?_))))))))))
 refine dq 6 1 rfl (cJ Tryz.call168 Sq ⟨(Ht rfl),trivial⟩) (fK aS rfl (by kernel_rfl) (aJ (aJ (aJ (aV (ro rfl (cJ K_71 (tW zo) ⟨(Ht rfl),(Ht rfl),trivial⟩) (gJ Z_60 (Ht rfl) (Ht rfl) rfl (i:=2) rfl (aK rfl) rfl rfl (eW (fU rfl (fV (gQ A_60 Z_60 rfl (i:=2) rfl rfl) ?_))))))))))
 exact (jA (Qi.sub_def x y).symm)
theorem lS {x y:Qi} {L M:Nat} [hx:aF x L] [hy:aF y M] (h:L + M + 1 ≤ 17592186044415):bB Tryz.prog 70 [aI x,aI y] (aI (x * y)):=by
 have hxa:=oH hx.fit; have hxb:=oI hx.fit; have hxd:=oJ hx.fit
 have hya:=oH hy.fit; have hyb:=oI hy.fit; have hyd:=oJ hy.fit
 have hxp:=x.den_pos; have hyp:=y.den_pos; have hdp:=Nat.mul_pos hxp hyp
 have e1:=nD x.a y.a; have e2:=nD x.b y.b; have e3:=nD x.a y.b; have e4:=nD x.b y.a; have e5:=Ae x.den y.den; have e8:=wV (x.b * y.b)
 have e6:=oL (x:=x.a * y.a) (y:=-(x.b * y.b)) (L:=L + M) zo zo; have e7:=oL (x:=x.a * y.b) (y:=x.b * y.a) (L:=L + M) zo zo
 refine bB.intro Tryz.func70 rfl Tryz.ntmps70 rfl (fun cx=>(ts (rn rfl (fY (Ht rfl)) fun B2=>(rn rfl (fY (Ht rfl)) fun B3=>(rn rfl (eU (Ts:=[Is (.bool false),Is (.slice none 0 0),Is (.bool false),Is (.slice none 0 0),Is (.slice none 0 0)]) O_60 rfl (fun V=>aW zd (aW zd (aW zd (aW zd (aW zd (aG))))))) fun B4=>(eW (cU (fW (m:=13) (dp 2 rfl (eG gM (Ht rfl) rfl) (dq 7 0 rfl (eK A_58 Z_58 (Ht rfl) (i:=0) rfl rfl rfl) ?_))))))))))
 refine dp 3 rfl (eG gM (Ht rfl) rfl) (dq 9 2 rfl (eK A_58 Z_58 (Ht rfl) (i:=1) rfl rfl rfl) (dE 8 1 10 3 rfl (cJ K_151 (rJ zo zo) ⟨(Ht rfl),(Ht rfl),trivial⟩) (dp 2 rfl (eG iF (Ht rfl) rfl) (dq 12 5 rfl (eK A_58 Z_58 (Ht rfl) (i:=0) rfl rfl rfl) (dp 3 rfl (eG iF (Ht rfl) rfl) (dq 14 7 rfl (eK A_58 Z_58 (Ht rfl) (i:=1) rfl rfl rfl) (dE 13 6 15 8 rfl (cJ K_151 (rJ zo zo) ⟨(Ht rfl),(Ht rfl),trivial⟩) (dq 16 9 rfl (cJ K_167 rI ⟨(Ht rfl),trivial⟩) ?_))))))))
 refine dE 11 4 17 10 rfl (cJ K_152 (wT zo zo) ⟨(Ht rfl),(Ht rfl),trivial⟩) (C.D_new (Ei:=[]) rfl rfl rfl bW (eU (Ts:=[Is (.bool false),Is (.slice none 0 0)]) O_58 rfl (fun V=>aW zd (aW zd (aG)))) (fK aS rfl (by kernel_rfl) (zF (zF (zF (C.F_new (fun B5=>aV (gJ Z_58 (Ht rfl) (Ht rfl) rfl (i:=3) rfl (aK rfl) rfl rfl (eW ?_)))))))))
 refine cU (fW (m:=12) (dp 2 rfl (eG gM (Ht rfl) rfl) (dq 19 0 rfl (eK A_58 Z_58 (Ht rfl) (i:=0) rfl rfl rfl) (dp 3 rfl (eG iF (Ht rfl) rfl) (dq 21 2 rfl (eK A_58 Z_58 (Ht rfl) (i:=1) rfl rfl rfl) (dE 20 1 22 3 rfl (cJ K_151 (rJ zo zo) ⟨(Ht rfl),(Ht rfl),trivial⟩) (dp 2 rfl (eG iF (Ht rfl) rfl) (dq 24 5 rfl (eK A_58 Z_58 (Ht rfl) (i:=0) rfl rfl rfl) (dp 3 rfl (eG gM (Ht rfl) rfl) (dq 26 7 rfl (eK A_58 Z_58 (Ht rfl) (i:=1) rfl rfl rfl) ?_))))))))))
 refine dE 25 6 27 8 rfl (cJ K_151 (rJ zo zo) ⟨(Ht rfl),(Ht rfl),trivial⟩) (dE 23 4 28 9 rfl (cJ K_152 (wT zo zo) ⟨(Ht rfl),(Ht rfl),trivial⟩) (C.D_new (Ei:=[]) rfl rfl rfl bW (eU (Ts:=[Is (.bool false),Is (.slice none 0 0)]) O_58 rfl (fun V=>aW zd (aW zd (aG)))) (fK aS rfl (by kernel_rfl) (zF (zF (aJ (aJ (aJ (C.F_new (fun B6=>aV (gJ Z_58 (Ht rfl) (Ht rfl) rfl (i:=4) rfl (aK rfl) rfl rfl ?_)))))))))))
 refine eW (cU (fW (m:=7) (dp 5 rfl (eK A_58 Z_58 (Ht rfl) (i:=3) rfl rfl rfl) (dp 6 rfl (eK A_58 Z_58 (Ht rfl) (i:=4) rfl rfl rfl) (dp 2 rfl (eK A_60 Z_60 (Ht rfl) (i:=0) rfl rfl rfl) (dq 32 2 rfl (cJ K_153 pV ⟨(Ht rfl),trivial⟩) (dp 3 rfl (eK A_60 Z_60 (Ht rfl) (i:=1) rfl rfl rfl) (dq 34 4 rfl (cJ K_153 pV ⟨(Ht rfl),trivial⟩) (dE 33 3 35 5 rfl (cJ K_154 (Gz zo zo) ⟨(Ht rfl),(Ht rfl),trivial⟩) (fK aS rfl (by kernel_rfl) (zF (aJ (aJ (aJ (aV ?_)))))))))))))))
 refine ro rfl (cJ K_150 (wS (by first | assumption | omega) zo zo zo) ⟨(Ht rfl),(Ht rfl),(Ht rfl),trivial⟩) (gJ Z_60 (Ht rfl) (Ht rfl) rfl (i:=2) rfl (aK rfl) rfl rfl (eW (fU rfl (fV (gQ A_60 Z_60 rfl (i:=2) rfl rfl) ?_))))
 exact (jA (Qi.mk_mul x y))
theorem xO {x:Qi} {L:Nat} [hx:aF x L] (h:L ≤ 17592186044415):bB Tryz.prog 82 [aI x] (aH (!decide (x = Qi.zero))):=by
 have hxa:=oH hx.fit; have hxb:=oI hx.fit; have hxd:=oJ hx.fit
 refine bB.intro Tryz.func82 rfl Tryz.ntmps82 rfl (fun cx=>(ts (rn rfl (fY (Ht rfl)) fun B1=>(ro rfl (cX cW) (eW (ts (ro rfl (eG gM (Ht rfl) rfl) (ro rfl (eG fL (Ht rfl) rfl) (ro rfl (fZ A_56 Z_56 (Ht rfl) (i:=0) rfl rfl) (ro rfl (dY U_56 (Ht rfl) aB) (ro rfl (eG iF (Ht rfl) rfl) (ro rfl (eG fL (Ht rfl) rfl) (ro rfl (fZ A_56 Z_56 (Ht rfl) (i:=0) rfl rfl) (ro rfl (dY U_56 (Ht rfl) aB) (ro rfl (dK (Ht rfl) (Ht rfl) z6) ?_)))))))))))))))
 refine ro rfl (fM (Ht rfl) (cV 0)) (ra rfl (eW (fU rfl (fV (fX rfl) ?_))))
 exact (fA (a0o x))
theorem a0b {x:Qi}:bB Tryz.prog 55 [aI x] (aH (decide (x.b = 0))):=by
 refine bB.intro Tryz.func55 rfl Tryz.ntmps55 rfl (fun cx=>(ts (rn rfl (fY (Ht rfl)) fun B1=>(ro rfl (cX cW) (eW (ts (ro rfl (eG iF (Ht rfl) rfl) (ro rfl (eG fL (Ht rfl) rfl) (ro rfl (fZ A_56 Z_56 (Ht rfl) (i:=0) rfl rfl) (ro rfl (dY U_56 (Ht rfl) aB) (ro rfl (cL (Ht rfl) (cV 0)) (ra rfl (eW (fU rfl (fV (fX rfl) ?_)))))))))))))))
 exact (fA (a4v x))
theorem Pu {x y:Qi} {L M:Nat} [hx:aF x L] [hy:aF y M] (h:L ≤ 17592186044415) (h2:M ≤ 17592186044415):bB Tryz.prog 100 [aI x,aI y] (aH (decide (x = y))):=by
 have hxa:=oH hx.fit; have hxb:=oI hx.fit; have hxd:=oJ hx.fit
 have hya:=oH hy.fit; have hyb:=oI hy.fit; have hyd:=oJ hy.fit
 have hxu:=a0B x; have hyu:=a0B y
 refine bB.intro Tryz.func100 rfl Tryz.ntmps100 rfl (fun cx=>(ts (rn rfl (fY (Ht rfl)) fun B2=>(rn rfl (fY (Ht rfl)) fun B3=>(ro rfl (cX cW) (eW (ts (ro rfl (eG gM (Ht rfl) rfl) (ro rfl (eK A_58 Z_58 (Ht rfl) (i:=0) rfl rfl rfl) (ro rfl (eG gM (Ht rfl) rfl) (ro rfl (eK A_58 Z_58 (Ht rfl) (i:=1) rfl rfl rfl) (ro rfl (cJ Tryz.call156 (Jb zo zo) ⟨(Ht rfl),(Ht rfl),trivial⟩) (ro rfl (lY (Ht rfl) cW) (rm rfl (fJ rfl rfl (fQ rfl rfl (Ht rfl) (fun h=>eG iF (Ht rfl) rfl)) ?_)))))))))))))))
 refine fJ rfl rfl (fQ rfl rfl (Ht rfl) (fun h=>eK A_58 Z_58 (fG rfl h) (i:=0) rfl rfl rfl)) (fJ rfl rfl (fQ rfl rfl (Ht rfl) (fun h=>eG iF (Ht rfl) rfl)) (fJ rfl rfl (fQ rfl rfl (Ht rfl) (fun h=>eK A_58 Z_58 (fG rfl h) (i:=1) rfl rfl rfl)) (fJ rfl rfl (fQ rfl rfl (Ht rfl) (fun h=>cJ Tryz.call156 (Jb zo zo) ⟨(fG rfl h),(fG rfl h),trivial⟩)) (fJ rfl rfl (fQ rfl rfl (Ht rfl) (fun h=>lY (fG rfl h) cW)) (ro rfl (fC (Ht rfl) (fun h=>(fG rfl h))) ?_)))))
 refine rm rfl (fJ rfl rfl (fQ rfl rfl (Ht rfl) (fun h=>eG rN (Ht rfl) rfl)) (fJ rfl rfl (fQ rfl rfl (Ht rfl) (fun h=>fZ A_56 Z_56 (fG rfl h) (i:=0) rfl rfl)) (fJ rfl rfl (fQ rfl rfl (Ht rfl) (fun h=>eG rN (Ht rfl) rfl)) (fJ rfl rfl (fQ rfl rfl (Ht rfl) (fun h=>fZ A_56 Z_56 (fG rfl h) (i:=1) rfl rfl)) (fJ rfl rfl (fQ rfl rfl (Ht rfl) (fun h=>cJ Tryz.call199 (a0g zo zo) ⟨(fG rfl h),(fG rfl h),trivial⟩)) (fJ rfl rfl (fQ rfl rfl (Ht rfl) (fun h=>lY (fG rfl h) cW)) ?_))))))
 refine ro rfl (fC (Ht rfl) (fun h=>(fG rfl h))) (ra rfl (eW (fU rfl (fV (fX rfl) ?_))))
 exact (fA (a4G x y))
theorem a01 {x y:Qi} {L M:Nat} [hx:aF x L] [hy:aF y M] (h:L + M ≤ 17592186044415):bB Tryz.prog 51 [aI x,aI y] (aL .i64 (Jc x y)):=by
 have hxa:=oH hx.fit; have hxb:=oI hx.fit; have hxd:=oJ hx.fit
 have hya:=oH hy.fit; have hyb:=oI hy.fit; have hyd:=oJ hy.fit
 have e1:=iO x.a y.den; have e2:=iO y.a x.den; have e3:=iO x.b y.den; have e4:=iO y.b x.den
 refine bB.intro Tryz.func51 rfl Tryz.ntmps51 rfl (fun cx=>(ts (rn rfl (fY (Ht rfl)) fun B2=>(rn rfl (fY (Ht rfl)) fun B3=>(ro rfl (cX (cV 0)) (eW (cU (cU (fW (m:=9) (dp 2 rfl (eG gM (Ht rfl) rfl) (dq 6 0 rfl (eK A_58 Z_58 (Ht rfl) (i:=0) rfl rfl rfl) (dp 3 rfl (eK A_60 Z_60 (Ht rfl) (i:=1) rfl rfl rfl) (dq 8 2 rfl (cJ K_153 pV ⟨(Ht rfl),trivial⟩) (dE 7 1 9 3 rfl (cJ K_155 (mT zo zo) ⟨(Ht rfl),(Ht rfl),trivial⟩) (dp 3 rfl (eG gM (Ht rfl) rfl) ?_)))))))))))))))
 refine dq 11 5 rfl (eK A_58 Z_58 (Ht rfl) (i:=1) rfl rfl rfl) (dp 2 rfl (eK A_60 Z_60 (Ht rfl) (i:=0) rfl rfl rfl) (dq 13 7 rfl (cJ K_153 pV ⟨(Ht rfl),trivial⟩) (fK aS rfl (by kernel_rfl) (zF (zF (aJ (aV (ro rfl (cJ K_155 (mT zo zo) ⟨(Ht rfl),(Ht rfl),trivial⟩) (ro rfl (cJ Tryz.call156 (Jb zo zo) ⟨(Ht rfl),(Ht rfl),trivial⟩) (ra rfl (eW (ts (rm rfl (ro rfl (iM (Ht rfl) cW) ?_))))))))))))))
 refine eW (dX (Ht rfl) (fun hb=>?_) (fun hb=>?_))
 ·simp only [Bool.not_eq_true', decide_eq_false_iff_not] at hb
  refine ts (rm rfl (ra rfl (eW (fU rfl (fV (fX rfl) ?_)))))
  exact (aR (by rw [Jc,if_pos hb]))
 ·simp only [Bool.not_eq_false', decide_eq_true_eq] at hb
  refine cY (cU (fW (m:=9) (dp 2 rfl (eG iF (Ht rfl) rfl) (dq 20 0 rfl (eK A_58 Z_58 (Ht rfl) (i:=0) rfl rfl rfl) (dp 3 rfl (eK A_60 Z_60 (Ht rfl) (i:=1) rfl rfl rfl) (dq 22 2 rfl (cJ K_153 pV ⟨(Ht rfl),trivial⟩) (dE 21 1 23 3 rfl (cJ K_155 (mT zo zo) ⟨(Ht rfl),(Ht rfl),trivial⟩) (dp 3 rfl (eG iF (Ht rfl) rfl) (dq 25 5 rfl (eK A_58 Z_58 (Ht rfl) (i:=1) rfl rfl rfl) (dp 2 rfl (eK A_60 Z_60 (Ht rfl) (i:=0) rfl rfl rfl) ?_))))))))))
  refine dq 27 7 rfl (cJ K_153 pV ⟨(Ht rfl),trivial⟩) (fK aS rfl (by kernel_rfl) (zF (zF (aJ (aV (ro rfl (cJ K_155 (mT zo zo) ⟨(Ht rfl),(Ht rfl),trivial⟩) (ro rfl (cJ Tryz.call156 (Jb zo zo) ⟨(Ht rfl),(Ht rfl),trivial⟩) (ra rfl (eW (fU rfl (fV (fX rfl) ?_)))))))))))
  exact (aR (by rw [Jc,if_neg (by simpa using hb)]))
end
section
open Go Go.RowKit
theorem Sn {n : Nat} {E : cT} {H : Hp} {d : Option Tmp} {t : TypeId} {pos : String} {af : Array Edge} {g : Option (Nat × Bool)}  :
  aM Tryz.prog n E H ⟨d,.build 58 #[],t,pos,af,g⟩ (eT [Is (.bool false),Is (.slice none 0 0)]) :=
 iQ (parts := []) fun a V w hs => by
  refine ⟨.agg #[(.bool false),(.slice none 0 0)],?_,[(.bool false),(.slice none 0 0)],rfl,aW (⟨rfl,trivial⟩) (aW (⟨rfl,trivial⟩) (aG))⟩
  simp [Instr.build,Instr.fill,Sem.run_bind,Result.andThen,gI,O_58,U_58,Z_4,Z_56]
theorem tL (a:Addr) (w:World):(Instr.fieldAt 48 (.pointer (some a)) 0).run Tryz.prog w = .ok (.pointer (some (a.add 0))) w:=by
 simp [Instr.fieldAt,Instr.sureAddr,fieldPlace,Sem.run_bind,Result.andThen,U_48,Z_2]
theorem Jl (a:Addr) (w:World):(Instr.fieldAt 48 (.pointer (some a)) 1).run Tryz.prog w = .ok (.pointer (some (a.add 1))) w:=by
 simp [Instr.fieldAt,Instr.sureAddr,fieldPlace,Sem.run_bind,Result.andThen,U_48,Z_2]
theorem rM (a:Addr) (w:World):(Instr.fieldAt 48 (.pointer (some a)) 2).run Tryz.prog w = .ok (.pointer (some (a.add 2))) w:=by
 simp [Instr.fieldAt,Instr.sureAddr,fieldPlace,Sem.run_bind,Result.andThen,U_48,Z_2]
theorem jH:Tryz.prog.info? 60 = some Tryz.t60:=by kernel_rfl
theorem lE:Tryz.prog.underlying 25 = some (.slice 60):=by kernel_rfl
end
section
open Go Go.RowKit
theorem Qa {a:Int} {d:Nat} (hd:0 < d) (ha:(dg a.natAbs).length ≤ 8796093022208) (hd2:(dg d).length ≤ 8796093022208):bB Tryz.prog 216 [iE a,aN d] (sF (uP a d)):=by
 have h1:=Nb a hd; have h2:=Nc a hd
 obtain ⟨x,hx⟩:∃ x,x = Qi.mk' a 0 d:=⟨_,rfl⟩
 rw [uP,← hx]
 rw [← hx] at h1 h2
 have h3:=tJ x.a.natAbs; have h4:=tJ x.den
 have h5:(dg (0:Int).natAbs).length ≤ 0:=by rw [show (0:Int).natAbs = 0 from rfl,eO]; exact Nat.le_refl _
 refine bB.intro Tryz.func216 rfl Tryz.ntmps216 rfl (fun cx=>(ts (rn rfl (fY (Ht rfl)) fun B2=>(ro rfl (cX (bH.cS (l:=[]) rfl)) (eW (ts (ro rfl (eK A_58 Z_58 (Ht rfl) (i:=0) rfl rfl rfl) (ro rfl (aM.imp (Sn ) xF) (rm rfl (ro rfl (aM.imp (cJ K_150 (wS (by first | assumption | omega) zo zo zo) ⟨(Ht rfl),(Ht rfl),(Ht rfl),trivial⟩) (jA hx.symm)) (rn rfl (eU (Ts:=[Is (.bool false),Is (.slice none 0 0),Is (.bool false),Is (.slice none 0 0),Is (.slice none 0 0)]) O_60 rfl (fun V=>aW zd (aW zd (aW zd (aW zd (aW zd (aG))))))) fun B5=>?_)))))))))))
 refine gJ Z_60 (Ht rfl) (Ht rfl) rfl (i:=1) rfl (aK rfl) rfl rfl (eW (ts (ro rfl (eG gM (Ht rfl) rfl) (ro rfl (eG fL (Ht rfl) rfl) (ro rfl (fZ A_56 Z_56 (Ht rfl) (i:=1) rfl rfl) (ro rfl (cJ Tryz.call260 (Lr zo) ⟨(Ht rfl),trivial⟩) (ra rfl (eW (cU (jU (fun (uu:Unit)=>True) (fun (uu:Unit)=>[(5,cC B5 0),(6,sF (if x.a < 0 then 45 :: wJ x.a.natAbs else wJ x.a.natAbs))]) (fun (uu:Unit)=>[box B2 58 [aH (decide (a < 0)),aN (a).natAbs],box B5 60 [aH (decide ((x).a < 0)),aN (x).a.natAbs,aH (decide ((x).b < 0)),aN (x).b.natAbs,aN (du (x))]]) ?_ (fun uu _=>?_)))))))))))
 ·refine ts (ro rfl (eG gM (Ht rfl) rfl) (ro rfl (eG mH (Ht rfl) rfl) (ro rfl (fZ A_4 Z_4 (Ht rfl) (i := 1) rfl rfl) (eW (dX (Ht rfl) (fun hb => ?_) (fun hb => ?_))))))
  ·simp only [decide_eq_true_eq] at hb
   refine dQ (rm rfl (ro rfl (lD (bH.cS (l:=[45]) rfl) (Ht rfl) (by first | omega | (simp; omega))) (ra rfl (eW (aT () trivial (aQ rfl (aZ rfl (kI (by rw [if_pos hb]; rfl)) aX)) (aU (aD rfl) (aU (aD rfl) aY)))))))
  ·simp only [decide_eq_false_iff_not] at hb
   refine cY (aT () trivial (aQ rfl (aZ rfl (kI (by rw [if_neg hb])) aX)) (aU (aD rfl) (aU (aD rfl) aY)))
 ·have h6 : (if x.a < 0 then 45 :: wJ x.a.natAbs else wJ x.a.natAbs).length ≤ (wJ x.a.natAbs).length + 1 := by split <;> simp
  have h7:=a0B x
  refine cU (jU (fun (uu:Unit)=>True) (fun (uu:Unit)=>[(6,sF ((if x.a < 0 then 45 :: wJ x.a.natAbs else wJ x.a.natAbs) ++ (if x.den = 1 then [] else 47 :: wJ x.den)))]) (fun (uu:Unit)=>[box B2 58 [aH (decide (a < 0)),aN (a).natAbs],box B5 60 [aH (decide ((x).a < 0)),aN (x).a.natAbs,aH (decide ((x).b < 0)),aN (x).b.natAbs,aN (du (x))]]) ?_ (fun uu _=>?_))
  ·refine ts (ro rfl (eG rN (Ht rfl) rfl) (ro rfl (fZ A_56 Z_56 (Ht rfl) (i := 1) rfl rfl) (ro rfl (dY U_56 (Ht rfl) aB) (ro rfl (fM (Ht rfl) (cV 0)) (eW (dX (Ht rfl) (fun hb => ?_) (fun hb => ?_)))))))
   ·simp only [decide_eq_true_eq] at hb
    have h8:du x = x.den:=xU (fun e=>by rw [e,eO] at hb; simp at hb)
    have h9:x.den ≠ 1:=fun e=>by rw [du,if_pos e,eO] at hb; simp at hb
    have h10:=tJ (du x)
    refine dQ (rm rfl (ro rfl (eG rN (Ht rfl) rfl) (ro rfl (fZ A_56 Z_56 (Ht rfl) (i:=1) rfl rfl) (ro rfl (cJ Tryz.call260 (Lr zo) ⟨(Ht rfl),trivial⟩) (ro rfl (lD (bH.cS (l:=[47]) rfl) (Ht rfl) (by simp only [List.length_cons,List.length_nil]; omega)) ?_)))))
    refine ro rfl (lD (Ht rfl) (Ht rfl) (by simp only [List.length_append,List.length_cons,List.length_nil]; omega)) ?_
    refine ra rfl (eW (aT () trivial (aZ rfl (kI (by rw [if_neg h9,h8]; rfl)) aX) (dI.refl _)))
   ·simp only [decide_eq_false_iff_not] at hb
    have h9:x.den = 1:=By (aP.1 zo)
    refine cY (aT () trivial (aZ rfl (kI (by rw [if_pos h9,List.append_nil])) aX) (dI.refl _))
  ·refine ts (rm rfl (ra rfl (eW ?_)))
   exact fU rfl (fX rfl)
theorem a0f {x:Qi} {L:Nat} [hx:aF x L] (h:L ≤ 8796093022208):bB Tryz.prog 115 [aI x] (sF (Ze x)):=by
 have hxa:=oH hx.fit; have hxb:=oI hx.fit; have hxd:=oJ hx.fit; have hdp:=x.den_pos
 have l1:=zC x.a hdp; have l2:=zC x.b hdp
 refine bB.intro Tryz.func115 rfl Tryz.ntmps115 rfl (fun cx=>(ts (rn rfl (fY (Ht rfl)) fun B1=>(ro rfl (cX (bH.cS (l:=[]) rfl)) (eW (cU (ts (ro rfl (eK A_60 Z_60 (Ht rfl) (i:=0) rfl rfl rfl) (ro rfl (cJ Tryz.call55 a0b ⟨(Ht rfl),trivial⟩) (eW (dX (Ht rfl) (fun hb=>?_) (fun hb=>?_))))))))))))
 ·simp only [decide_eq_true_eq] at hb
  refine cU (fW (m:=4) (dp 1 rfl (eG gM (Ht rfl) rfl) (dq 6 0 rfl (eK A_58 Z_58 (Ht rfl) (i:=0) rfl rfl rfl) (dp 1 rfl (eK A_60 Z_60 (Ht rfl) (i:=0) rfl rfl rfl) (dq 8 2 rfl (cJ K_153 pV ⟨(Ht rfl),trivial⟩) (fK aS rfl (by kernel_rfl) (zF (aV (ro rfl (cJ Tryz.call216 (Qa (by assumption) zo zo) ⟨(Ht rfl),(Ht rfl),trivial⟩) ?_)))))))))
  refine ra rfl (eW (fU rfl (fV (fX rfl) ?_)))
  exact (kI (by rw [Ze,if_pos hb]))
 ·simp only [decide_eq_false_iff_not] at hb
  refine cY (cU (fW (m:=4) (dp 1 rfl (eG iF (Ht rfl) rfl) (dq 11 0 rfl (eK A_58 Z_58 (Ht rfl) (i:=0) rfl rfl rfl) (dp 1 rfl (eK A_60 Z_60 (Ht rfl) (i:=0) rfl rfl rfl) (dq 13 2 rfl (cJ K_153 pV ⟨(Ht rfl),trivial⟩) (fK aS rfl (by kernel_rfl) (zF (aV (ro rfl (cJ Tryz.call216 (Qa (by assumption) zo zo) ⟨(Ht rfl),(Ht rfl),trivial⟩) ?_))))))))))
  refine ro rfl (lD (Ht rfl) (bH.cS (l:=[105]) rfl) (by simp only [List.length_append,List.length_cons,List.length_nil]; omega)) ?_
  refine ra rfl (eW (cU (ts (ro rfl (eG gM (Ht rfl) rfl) (ro rfl (eG fL (Ht rfl) rfl) (ro rfl (fZ A_56 Z_56 (Ht rfl) (i:=0) rfl rfl) (ro rfl (dY U_56 (Ht rfl) aB) (ro rfl (cL (Ht rfl) (cV 0)) (eW (dX (Ht rfl) (fun hc=>?_) (fun hc=>?_)))))))))))
  ·simp only [decide_eq_true_eq] at hc
   have ha:x.a = 0:=by have:=aP.1 hc; omega
   refine ts (rm rfl (ra rfl (eW (fU rfl (fV (fX rfl) ?_)))))
   exact (kI (by rw [Ze,if_neg hb,if_pos ha]))
  ·simp only [decide_eq_false_iff_not] at hc
   have ha:x.a ≠ 0:=fun e=>hc (by rw [e]; exact aP.2 rfl)
   refine cY (cU (jU (fun (uu:Unit)=>True) (fun (uu:Unit)=>[(1,cC B1 0),(3,sF ((if x.b < 0 then uP x.b x.den else 43 :: uP x.b x.den) ++ [105]))]) (fun (uu:Unit)=>[box B1 60 [aH (decide ((x).a < 0)),aN (x).a.natAbs,aH (decide ((x).b < 0)),aN (x).b.natAbs,aN (du (x))]]) ?_ (fun uu _=>?_)))
   ·refine ts (ro rfl (eG iF (Ht rfl) rfl) (ro rfl (eG mH (Ht rfl) rfl) (ro rfl (fZ A_4 Z_4 (Ht rfl) (i := 0) rfl rfl) (ro rfl (eS (Ht rfl)) (eW (dX (Ht rfl) (fun hd => ?_) (fun hd => ?_)))))))
    ·have hn : ¬ x.b < 0 := by simpa using hd
     refine dQ (rm rfl (ro rfl (lD (bH.cS (l:=[43]) rfl) (Ht rfl) (by simp only [List.length_append,List.length_cons,List.length_nil]; omega)) ?_))
     refine ra rfl (eW (aT () trivial (aQ rfl (aZ rfl (kI (by rw [if_neg hn]; rfl)) aX)) (aU (aD rfl) aY)))
    ·have hn : x.b < 0 := by simpa using hd
     refine cY (aT () trivial (aQ rfl (aZ rfl (kI (by rw [if_pos hn])) aX)) (aU (aD rfl) aY))
   ·have l3 : ((if x.b < 0 then uP x.b x.den else 43 :: uP x.b x.den) ++ [105]).length ≤ (uP x.b x.den).length + 2 := by split <;> simp
    refine cU (fW (m:=6) (dp 1 rfl (eG gM (Ht rfl) rfl) (dq 29 0 rfl (eK A_58 Z_58 (Ht rfl) (i:=0) rfl rfl rfl) (dp 1 rfl (eK A_60 Z_60 (Ht rfl) (i:=0) rfl rfl rfl) (dq 31 2 rfl (cJ K_153 pV ⟨(Ht rfl),trivial⟩) (dE 30 1 32 3 rfl (cJ Tryz.call216 (Qa (by assumption) zo zo) ⟨(Ht rfl),(Ht rfl),trivial⟩) ?_))))))
    refine dp 3 rfl (cZ (Ht rfl)) (fK aS rfl (by kernel_rfl) (zF (aJ (aJ (aV (ro rfl (lD (Ht rfl) (Ht rfl) zo) (ra rfl (eW (fU rfl (fV (fX rfl) ?_))))))))))
    exact (kI (by rw [Ze,if_neg hb,if_neg ha]))
theorem Sv {r:Rt}:bB Tryz.prog 33 [mQ r] (aI r.q):=by
 have hr1:=r.h1; have hr2:=r.h2; have hr3:=r.h3; have hr4:=r.h4; have hr5:=r.d1; have hr6:=r.d2; have hr0:=r.d0
 refine bB.intro Tryz.func33 rfl Tryz.ntmps33 rfl (fun cx=>(ts (rn rfl (fY (Ht rfl)) fun B1=>(rn rfl (eU (Ts:=[Is (.bool false),Is (.slice none 0 0),Is (.bool false),Is (.slice none 0 0),Is (.slice none 0 0)]) O_60 rfl (fun V=>aW zd (aW zd (aW zd (aW zd (aW zd (aG))))))) fun B2=>(eW (cU (jU (fun (uu:Unit)=>True) (fun (uu:Unit)=>[(1,cC B1 0),(2,cC B2 0)]) (fun (uu:Unit)=>[box B1 48 [aL .i64 r.re,aL .i64 r.im,aL .i64 r.d],box B2 60 [Is (.bool false),Is (.slice none 0 0),Is (.bool false),Is (.slice none 0 0),Is (.slice none 0 0)]]) ?_ (fun uu _=>?_))))))))
 ·refine ts (ro rfl (eG rM (Ht rfl) rfl) (ro rfl (fZ A_2 Z_2 (Ht rfl) (i := 0) rfl rfl) (ro rfl (lY (Ht rfl) cW) (eW (dX (Ht rfl) (fun hb => ?_) (fun hb => ?_))))))
  ·simp only [decide_eq_true_eq] at hb
   refine dQ (ro rfl (eG rM (Ht rfl) rfl) (lP Z_2 (Ht rfl) (cV 1) (i:=0) rfl (aK rfl) rfl (eW (aT () trivial (zS rfl) (aU (aD (by rw [Rt.d,if_pos hb]; rfl)) (aU (aD rfl) aY))))))
  ·simp only [decide_eq_false_iff_not] at hb
   refine cY (aT () trivial (zS rfl) (aU (aD (by rw [Rt.d,if_neg hb])) (aU (aD rfl) aY)))
 ·refine ts (ro rfl (eG tL (Ht rfl) rfl) (ro rfl (fZ A_2 Z_2 (Ht rfl) (i := 0) rfl rfl) (ro rfl (eG Jl (Ht rfl) rfl) (ro rfl (fZ A_2 Z_2 (Ht rfl) (i := 0) rfl rfl) (ro rfl (eG rM (Ht rfl) rfl) (ro rfl (fZ A_2 Z_2 (Ht rfl) (i := 0) rfl rfl) (ro rfl (cJ Tryz.call108 (a55 hr1 hr2 hr3 hr4 hr5 hr6 hr0) ⟨(Ht rfl), (Ht rfl), (Ht rfl), trivial⟩) (rm rfl (ro rfl (eQ (Ht rfl) rfl) (ro rfl (eQ (Ht rfl) rfl) (rn rfl (eU (Ts := [Is (.bool false), Is (.slice none 0 0), Is (.bool false), Is (.slice none 0 0), Is (.slice none 0 0)]) O_60 rfl (fun V => aW zd (aW zd (aW zd (aW zd (aW zd (aG))))))) fun B3 => ?_)))))))))))
  refine gJ Z_60 (Ht rfl) (Ht rfl) rfl (i:=2) rfl (aK rfl) rfl rfl (ra rfl (eW (ts (ro rfl (eK A_60 Z_60 (Ht rfl) (i:=2) rfl rfl rfl) (gJ Z_60 (Ht rfl) (Ht rfl) rfl (i:=1) rfl (aK rfl) rfl rfl (eW ?_))))))
  exact fU rfl (gQ A_60 Z_60 rfl (i:=1) rfl rfl)
theorem zW {l:List Rt} (hl:l.length ≤ 1000000):bB Tryz.prog 48 [mR l] (bC (l.map Rt.q)):=by
 refine bB.intro Tryz.func48 rfl Tryz.ntmps48 rfl (fun cx=>(ts (ro rfl (cX cW) (eW (ts (rm rfl (ro rfl (dY U_22 (Ht rfl) aB) (rn rfl (iU (T:=aI Qi.zero) (i:=Tryz.t60) lE jH rfl rfl (Ht rfl) rfl jB (El.ag rfl) (by show 88 * _ ≤ _; omega) zo) fun B8=>(ra rfl (eW (cU (ts (rm rfl (ro rfl (dY U_22 (Ht rfl) aB) (ro rfl (cZ (cV 0)) (eW (eY ?_)))))))))))))))))
 refine fP (fun (k : Nat) (out : List Qi) => pH (fun i => (l.getD i default).q) l.length out k) (fun (k : Nat) (out : List Qi) => l.length - k) (fun (k : Nat) (out : List Qi) => [(3, Is B8), (9, mR l), (10, NT .i64 l.length), (11, NT .i64 k)]) (fun (k : Nat) (out : List Qi) => [bP 60 5 B8 (out.map aI)]) 0 (List.replicate l.length Qi.zero) (pH.start _ _ _)
  (zS rfl) (aU (bD (uS aI _ _)) aY) (fun k out hS=>?_)
 refine ts (ro rfl (gV (Ht rfl) (Ht rfl)) (eW (cU (dX (Ht rfl) (fun hk=>?_) (fun hk=>?_)))))
 ·simp only [decide_eq_true_eq] at hk
  have hlen:=hS.len
  refine cY (cU (eY (ts (rm rfl (ro rfl (dJ U_22 Z_48 (Ht rfl) (Ht rfl) rfl (eZ (eX (d:=default) hk))) (ro rfl (dW A_48 Z_48 (Ht rfl)) (rn rfl (eU (Ts:=[Is (.int .i64 0),Is (.int .i64 0),Is (.int .i64 0)]) O_48 rfl (fun V=>aW zd (aW zd (aW zd (aG))))) fun B5=>(ra rfl (gJ Z_48 (Ht rfl) (Ht rfl) rfl (i:=1) rfl (aK rfl) rfl rfl (eW (dQ (rm rfl (rm rfl (ro rfl (eK A_48 Z_48 (Ht rfl) (i:=1) rfl rfl rfl) ?_))))))))))))))
  refine ro rfl (cJ Tryz.call33 Sv ⟨(Ht rfl),trivial⟩) (ro rfl (dB U_25 Z_60 (Ht rfl) (Ht rfl) rfl (i:=0) rfl (by first | omega | (simp; omega)) rfl) (mP Z_60 (Ht rfl) (Ht rfl) (El.ag rfl) (i:=0) rfl rfl (by first | omega | (simp; omega)) rfl (eW (bM (dQ (ro rfl (dK (Ht rfl) (cV 1) z6) (rm rfl (eW (cM [0] rfl (by decide) (gX (k + 1,_) (hS.next hk rfl) (by dsimp only; omega) (zS rfl) (aU (bD (iR aI _ _ _)) aY)))))))))))
 ·simp only [decide_eq_false_iff_not] at hk
  obtain rfl:k = l.length:=Nat.le_antisymm hS.kle zo
  have hfin:=hS.fin
  rw [uX l Rt.q] at hfin
  refine gK rfl (gG (i:=0) (tt:=3) rfl rfl fR (ts (rm rfl (ra rfl (eW (fU rfl (fV (fX rfl) ?_)))))))
  exact (kH (by rw [hfin]))
end
section
open Go Go.RowKit
theorem vB (ds:List Nat) (hd:lK ds) (hl:ds.length ≤ 1152921504606846976):bB Tryz.prog 254 [zP ds] (aN (val ds)):=by
 refine bB.intro Tryz.func254 rfl Tryz.ntmps254 rfl (fun cx=>(ts (ro rfl (cX cW) (eW (ts (rm rfl (ro rfl (dY U_55 (Ht rfl) aB) (ra rfl (eW (cU (eY ?_)))))))))))
 refine cP (fun (k : Nat) => k ≤ ds.length ∧ ∀ i, k ≤ i → i < ds.length → ds.getD i 0 = 0) (fun (k : Nat) => k) (fun (k : Nat) => [(0, zP ds), (3, NT .i64 k)]) (fun (k : Nat) => []) ds.length ⟨Nat.le_refl _, fun i h1 h2 => by omega⟩
  (zS rfl) aY (fun k ⟨hk,hz⟩=>?_)
 refine cU (ts (rm rfl (ro rfl (fM (Ht rfl) (cV 0)) (rm rfl (fJ rfl rfl (fQ rfl rfl (Ht rfl) (fun h=>cZ (Ht rfl))) (fJ rfl rfl (fQ rfl rfl (Ht rfl) (fun h=>cZ (Ht rfl))) (fJ rfl rfl (fQ rfl rfl (Ht rfl) (fun h=>dU (fG rfl h) (cV 1) (by first | omega | (simp at h; omega)) (by show _ < 9223372036854775808; first | omega | (simp at h; omega)))) (fJ rfl rfl (fQ rfl rfl (Ht rfl) (fun h=>dJ U_55 Z_218 (fG rfl h) (fG rfl h) rfl (eZ (aO (by first | omega | (simp at h; omega)))))) ?_))))))))
 refine fJ rfl rfl (fQ rfl rfl (Ht rfl) (fun h=>dW A_218 Z_218 (fG rfl h))) (fJ rfl rfl (fQ rfl rfl (Ht rfl) (fun h=>cL (fG rfl h) (cV 0))) (ro rfl (fC (Ht rfl) (fun h=>(fG rfl h))) (eW (dX (Ht rfl) (fun hb=>?_) (fun hb=>?_)))))
 ·simp at hb
  refine cY (eY (dQ (rm rfl (ro rfl (dU (Ht rfl) (cV 1) zo z6) (ra rfl (eW (bM (gX (k - 1) ⟨by omega,fun i h1 h2=>?_⟩ zo (zS rfl) aY))))))))
  by_cases e2:i = k - 1
  ·subst e2; simpa using hb.2
  ·exact hz i zo h2
 ·have hn : k = 0 ∨ ds.getD (k - 1) 0 ≠ 0 := by
   simp only [Bool.and_eq_false_iff,decide_eq_false_iff_not] at hb
   rcases hb with h1 | h1
   ·left; omega
   ·right; exact h1
  have hfin:=To hd hk hz hn
  refine gK rfl (ts (rm rfl (rm rfl (ro rfl (vP U_55 Z_218 (Ht rfl) (Ht rfl) (fun m e=>by cases e) zo (by simp; omega) rfl) ?_))))
  refine ra rfl (eW (fU rfl (fV (fX rfl) ?_)))
  exact (Mj (by rw [hfin]; simp))
theorem Dv {m:Nat} (hm:m < 18446744073709551616):bB Tryz.prog 257 [NT .u64 m] (aN m):=by
 refine bB.intro Tryz.func257 rfl Tryz.ntmps257 rfl (fun cx=>(ts (ro rfl (cX cW) (eW (ts (rm rfl (ro rfl (iJ rfl U_263 U_218 (Ht rfl)) (rm rfl (ro rfl (gE (Ht rfl) (cV 32) (by decide)) (ro rfl (iJ rfl U_263 U_218 (Ht rfl)) (ro rfl (eB (xs:=[.tmp 4,.tmp 7]) U_55 Z_218 O_218 (cG (Ht rfl) (cG (Ht rfl) cK)) rfl rfl rfl) (ro rfl (cJ K_254 (vB [m % 4294967296,m / 2 ^ 32 % 4294967296] (a7T _ _) (by simp)) ⟨(Ht rfl),trivial⟩) ?_))))))))))))
 refine ra rfl (eW (fU rfl (fV (fX rfl) ?_)))
 exact (dL (Hu hm))
theorem Wx {m n:Nat} (hm:(dg m).length ≤ 1152921504606846976) (hn:(dg n).length ≤ 1152921504606846976):bB Tryz.prog 201 [aN m,aN n] (aL .i64 (rX m n)):=by
 refine bB.intro Tryz.func201 rfl Tryz.ntmps201 rfl (fun cx=>(ts (ro rfl (cX (cV 0)) (eW (cU (ts (rm rfl (ro rfl (dY U_55 (Ht rfl) aB) (rm rfl (ro rfl (dY U_55 (Ht rfl) aB) (ro rfl (jR (Ht rfl) (Ht rfl)) (eW (dX (Ht rfl) (fun hb=>?_) (fun hb=>?_))))))))))))))
 ·simp at hb
  refine cU (ts (rm rfl (ro rfl (dY U_55 (Ht rfl) aB) (rm rfl (ro rfl (dY U_55 (Ht rfl) aB) (ro rfl (gV (Ht rfl) (Ht rfl)) (eW (dX (Ht rfl) (fun hb2=>?_) (fun hb2=>?_)))))))))
  ·simp at hb2
   have hlt:=Jd hb2
   refine ts (ro rfl (cX cW) (eW (fU rfl (fV (fX rfl) ?_))))
   exact (aR (by simp [rX,hlt]))
  ·simp at hb2
   have hlt:=Jd (a:=n) (b:=m) zo
   refine cY (ts (ro rfl (cX (cV 1)) (eW (fU rfl (fV (fX rfl) ?_)))))
   exact (aR (by simp [rX,hlt,Nat.lt_asymm hlt]))
 ·simp at hb
  refine cY (cU (ts (rm rfl (ro rfl (dY U_55 (Ht rfl) aB) (ro rfl (iN (Ht rfl) cW (xK zo)) (ra rfl (eW (eY ?_))))))))
  refine cP (fun (k : Nat) => k ≤ (dg m).length ∧ ∀ i, k ≤ i → i < (dg m).length → (dg m).getD i 0 = (dg n).getD i 0) (fun (k : Nat) => k) (fun (k : Nat) => [(0, aN m), (1, aN n), (5, aL .i64 ((k : Int) - 1))]) (fun (k : Nat) => []) (dg m).length ⟨Nat.le_refl _, fun i h1 h2 => by omega⟩
   (zS rfl) aY (fun k ⟨hk,he⟩=>?_)
  refine cU (ts (rm rfl (ro rfl (nY (Ht rfl) cW) (eW (dX (Ht rfl) (fun hk1=>?_) (fun hk1=>?_))))))
  ·simp at hk1
   refine cY (cU (eY (cU (fW (m:=8) (dp 0 rfl (cZ (Ht rfl)) (dp 5 rfl (cZ (Ht rfl)) (dE 23 0 24 1 rfl (dJ U_55 Z_218 (Ht rfl) (Ht rfl) (show ((k:Int) - 1) = ((k - 1:Nat):Int) by omega) (eZ (aO zo))) (dq 25 2 rfl (dW A_218 Z_218 (Ht rfl)) (dp 1 rfl (cZ (Ht rfl)) (dp 5 rfl (cZ (Ht rfl)) (dE 27 4 28 5 rfl (dJ U_55 Z_218 (Ht rfl) (Ht rfl) (show ((k:Int) - 1) = ((k - 1:Nat):Int) by omega) (eZ (aO zo))) (dq 29 6 rfl (dW A_218 Z_218 (Ht rfl)) ?_))))))))))))
   refine fK aS rfl (by kernel_rfl) (zF (zF (aV (ro rfl (jR (Ht rfl) (Ht rfl)) (eW (dX (Ht rfl) (fun h1=>?_) (fun h1=>?_)))))))
   ·simp only [Bool.not_eq_true', decide_eq_false_iff_not] at h1
    refine cU (cU (fW (m:=8) (dp 0 rfl (cZ (Ht rfl)) (dp 5 rfl (cZ (Ht rfl)) (dE 32 0 33 1 rfl (dJ U_55 Z_218 (Ht rfl) (Ht rfl) (show ((k:Int) - 1) = ((k - 1:Nat):Int) by omega) (eZ (aO zo))) (dq 34 2 rfl (dW A_218 Z_218 (Ht rfl)) (dp 1 rfl (cZ (Ht rfl)) (dp 5 rfl (cZ (Ht rfl)) (dE 36 4 37 5 rfl (dJ U_55 Z_218 (Ht rfl) (Ht rfl) (show ((k:Int) - 1) = ((k - 1:Nat):Int) by omega) (eZ (aO zo))) (dq 38 6 rfl (dW A_218 Z_218 (Ht rfl)) ?_))))))))))
    refine fK aS rfl (by kernel_rfl) (zF (zF (aV (ro rfl (gV (Ht rfl) (Ht rfl)) (eW (dX (Ht rfl) (fun h2=>?_) (fun h2=>?_)))))))
    ·simp only [decide_eq_true_eq] at h2
     have hlt:=Bt (cA m) (cA n) hb (k:=k - 1) zo (fun i h2 h3=>he i zo h3) h2
     rw [dN,dN] at hlt
     refine ts (ro rfl (cX cW) (eW (fU rfl (fV (fX rfl) ?_))))
     exact (aR (by simp [rX,hlt]))
    ·simp only [decide_eq_false_iff_not] at h2
     have hlt:=Bt (cA n) (cA m) hb.symm (k:=k - 1) zo (fun i h2 h3=>(he i zo zo).symm) zo
     rw [dN,dN] at hlt
     refine cY (ts (ro rfl (cX (cV 1)) (eW (fU rfl (fV (fX rfl) ?_)))))
     exact (aR (by simp [rX,hlt,Nat.lt_asymm hlt]))
   ·simp only [Bool.not_eq_false', decide_eq_true_eq] at h1
    refine cY (bM (dQ (rm rfl (ro rfl (iN (Ht rfl) cW (xK zo)) (ra rfl (eW (gX (k - 1) ⟨by omega,fun i h3 h4=>(by by_cases e:i = k - 1; (· subst e; omega); exact he i zo h4)⟩ zo (aQ rfl (aQ rfl (aZ rfl (aR zo) aX))) aY)))))))
  ·simp at hk1
   have hk0:k = 0:=by omega
   have heq : m = n := by
    have : dg m = dg n := by
     apply List.ext_getElem?
     intro i
     by_cases hi:i < (dg m).length
     ·have h5 := he i zo hi
      have h6:i < (dg n).length:=by omega
      simp [List.getD,hi,h6] at h5
      simp [hi,h6,h5]
     ·rw [List.getElem?_eq_none zo,List.getElem?_eq_none zo]
    rw [← dN m,this,dN]
   refine gK rfl (ts (ro rfl (cX (cV 0)) (eW (fU rfl (fV (fX rfl) ?_)))))
   exact (aR (by simp [rX,heq]))
theorem Lt {m y:Nat} (hm:(dg m).length ≤ 17592186044416) (hy:0 < y) (hyb:y < BB):bB Tryz.prog 276 [aN m,cF y] (eH [aN (m / y),cF (m % y)]):=by
 refine bB.intro Tryz.func276 rfl Tryz.ntmps276 rfl (fun cx=>?_)
 have hyb2:=hyb
 simp only [BB] at hyb2
 refine ts (ro rfl (cX cW) (ro rfl (cX (cV 0)) (eW (ts (rm rfl (ro rfl (dY U_55 (Ht rfl) aB) (rn rfl (iI (T:=cF 0) (i:=Tryz.t218) V_55 kM rfl rfl (Ht rfl) rfl (fun _=>rfl) trivial (by show 4 * _ ≤ _; omega) zo) fun B12=>(ra rfl (eW (ts (ro rfl (cX (cV 0)) (eW (cU (ts (rm rfl (ro rfl (dY U_55 (Ht rfl) aB) (ro rfl (iN (Ht rfl) cW (xK zo)) (ra rfl (eW (eY ?_))))))))))))))))))))
 refine mF (fun (k : Nat) (out : List Nat) (r : Nat) => qN (dg m) y out k r) (fun (k : Nat) (out : List Nat) (r : Nat) => k) (fun (k : Nat) (out : List Nat) (r : Nat) => [(0, aN m), (1, cF y), (6, Is (.slice (some ⟨B12, 0, none⟩) (dg m).length (dg m).length)), (7, NT .u64 r), (8, aL .i64 ((k : Int) - 1))]) (fun (k : Nat) (out : List Nat) (r : Nat) => [box B12 218 (out.map cF)]) (dg m).length (List.replicate (dg m).length 0) 0 (qN.start _ hy)
  (zS rfl) (aU (aD (nZ _)) aY) (fun k out r hS=>?_)
 refine cU (ts (rm rfl (ro rfl (nY (Ht rfl) cW) (eW (dX (Ht rfl) (fun hb=>?_) (fun hb=>?_))))))
 ·simp at hb
  have hlen:=hS.len; have hkl:=hS.kle; have hrl:=hS.rlt; have hxk:=bL (cA m) (k - 1)
  have hz2:=a2i (Nat.lt_trans hrl hyb) hxk; have hsh:=Og (Nat.lt_trans hrl hyb); have hq:=Ig hrl hxk; have hor:=xA (a:=r) hxk; have hmod:=Nat.mod_lt (r * BB + (dg m).getD (k - 1) 0) hy
  have hxk2:=hxk
  simp only [BB] at hxk2
  refine cY (cU (eY (ts (rm rfl (ro rfl (oY (Ht rfl) (cV 32) (by decide) hsh) (rm rfl (rm rfl (ro rfl (dJ U_55 Z_218 (Ht rfl) (Ht rfl) (show ((k:Int) - 1) = ((k - 1:Nat):Int) by omega) (eZ (aO zo))) (ro rfl (dW A_218 Z_218 (Ht rfl)) (ro rfl (gW U_218 U_263 (Ht rfl) z7) (ro rfl (aM.nat (qX rfl (Ht rfl) (Ht rfl) z7 z7) hor) ?_)))))))))))
  refine ra rfl (eW (ts (rm rfl (rm rfl (rm rfl (rm rfl (ro rfl (gW U_218 U_263 (Ht rfl) z7) (ro rfl (jS (Ht rfl) (Ht rfl) zo (by show _ < 18446744073709551616; exact hz2)) (ro rfl (gW U_263 U_218 (Ht rfl) (by show _ < 4294967296; exact hq)) (ro rfl (gZ U_55 Z_218 (Ht rfl) (Ht rfl) (show ((k:Int) - 1) = ((k - 1:Nat):Int) by omega) zo (by rw [Nat.mul_one,Nat.zero_add])) ?_))))))))))
  refine lP Z_218 (Ht rfl) (Ht rfl) (i:=0) rfl (by first | omega | (simp; omega)) rfl (eW (dQ (rm rfl (rm rfl (ro rfl (gW U_218 U_263 (Ht rfl) z7) (ro rfl (jT (Ht rfl) (Ht rfl) zo) (ra rfl (eW (bM (dQ (rm rfl (ro rfl (iN (Ht rfl) cW (xK zo)) (ra rfl (eW (gX (k - 1,_,_) (hS.next (cA m) zo rfl) (by dsimp only; omega) (aQ rfl (aQ rfl (aQ rfl (aQ rfl (aZ rfl (aR zo) aX))))) (aU (aD (iH _ _ _)) aY))))))))))))))))
 ·simp at hb
  have hk0:k = 0:=by omega
  subst hk0
  have hlen:=hS.len; have hrl:=hS.rlt
  have hfin:=hS.fin
  rw [dN] at hfin
  refine gK rfl (gG (i:=0) (tt:=6) rfl rfl (oM rfl hlen.symm (Nat.le_refl _)) (ts (rm rfl (ro rfl (cJ K_254 (vB _ hS.dig zo) ⟨(Ht rfl),trivial⟩) (rm rfl (ro rfl (gW U_263 U_218 (Ht rfl) (by show _ < 4294967296; first | omega | (simp only [mZ]; omega))) (ra rfl (ra rfl (eW (bN rfl (fV (fX rfl) ?_) (fV (fX rfl) ?_)))))))))))
  ·exact (dL hfin.1)
  ·exact (mK hfin.2)
end
section
open Go Go.RowKit
theorem a36 {m:Nat} (hm:(dg m).length ≤ 17592186044416) (h0:m ≠ 0):bB Tryz.prog 277 [aN m] (NT .i64 (32 * ((dg m).length - 1) + bl ((dg m).getD ((dg m).length - 1) 0))):=by
 have hl:(dg m).length ≠ 0:=fun e=>h0 (aP.1 e)
 have htl:=bL (cA m) ((dg m).length - 1)
 obtain ⟨v,hv⟩:∃ v,v = (dg m).getD ((dg m).length - 1) 0:=⟨_,rfl⟩
 rw [← hv] at htl ⊢
 simp only [BB] at htl
 have hb32:=pI (k:=32) htl
 refine bB.intro Tryz.func277 rfl Tryz.ntmps277 rfl (fun cx=>(ts (ro rfl (cX (cV 0)) (eW (cU (ts (rm rfl (ro rfl (dY U_55 (Ht rfl) aB) (ro rfl (cL (Ht rfl) (cV 0)) (eW (jQ (Ht rfl) (by simpa using hl) ?_)))))))))))
 refine cY (ts (ro rfl (cX (cV 0)) (eW (cU (ts (rm rfl (rm rfl (ro rfl (dY U_55 (Ht rfl) aB) (ro rfl (dU (Ht rfl) (cV 1) zo z6) (ro rfl (dJ U_55 Z_218 (Ht rfl) (Ht rfl) rfl (eZ (aO zo))) (ro rfl (dW A_218 Z_218 (Ht rfl)) (ra rfl (eW (eY ?_))))))))))))))
 refine fP (fun (x : Nat) (q : Nat) => bl v = q + bl x ∧ x < 4294967296) (fun (x : Nat) (q : Nat) => x) (fun (x : Nat) (q : Nat) => [(0, aN m), (3, NT .i64 q), (4, cF x)]) (fun (x : Nat) (q : Nat) => []) v 0 ⟨(Nat.zero_add _).symm, htl⟩
  (aQ rfl (aQ rfl (aZ rfl (mK hv.symm) aX))) aY (fun x q ⟨hq,hx⟩=>?_)
 refine cU (ts (rm rfl (ro rfl (fM (Ht rfl) (cV 0)) (eW (dX (Ht rfl) (fun hb=>?_) (fun hb=>?_))))))
 ·simp at hb
  have hsh:=a2H (v:=x) zo
  refine cY (cU (eY (dQ (rm rfl (ro rfl (dK (Ht rfl) (cV 1) z6) (ra rfl (eW (bM (dQ (rm rfl (ro rfl (gE (Ht rfl) (cV 1) (by decide)) (ra rfl (eW (gX (x / 2 ^ 1,q + 1) ⟨by dsimp only; omega,by dsimp only; omega⟩ (by dsimp only; omega) (zS rfl) aY))))))))))))))
 ·simp at hb
  subst hb
  rw [a2I] at hq
  refine gK rfl (ts (rm rfl (ro rfl (dY U_55 (Ht rfl) aB) (ro rfl (dU (Ht rfl) (cV 1) zo z6) (ro rfl (mI (cV 32) (Ht rfl) z6) (rm rfl (ro rfl (dK (Ht rfl) (Ht rfl) z6) (ra rfl (eW (fU rfl (fV (fX rfl) ?_)))))))))))
  exact (mK zo)
theorem a0j {m k:Nat} (hm:(dg m).length ≤ 17592186044416) (hk:k ≤ 562949953421312):bB Tryz.prog 278 [aN m,NT .i64 k] (aN (m * 2 ^ k)):=by
 refine bB.intro Tryz.func278 rfl Tryz.ntmps278 rfl (fun cx=>(ts (ro rfl (cX cW) (eW (cU (ts (rm rfl (ro rfl (dY U_55 (Ht rfl) aB) (ro rfl (cL (Ht rfl) (cV 0)) (eW (dX (Ht rfl) (fun hb=>?_) (fun hb=>?_))))))))))))
 ·simp [aP] at hb
  have h0:m * 2 ^ k = 0:=by simp_all [sK]
  refine ts (ro rfl (cX cW) (eW (fU rfl (fV (fX rfl) ?_))))
  exact (fun v V h=>by rw [h0]; exact lX v V h)
 ·clear hb
  have hr:=Nat.mod_lt k (by decide:32 > 0)
  refine cY (ts (rm rfl (ro rfl (dY U_55 (Ht rfl) aB) (rm rfl (ro rfl (jS (Ht rfl) (cV 32) zo z6) (ro rfl (dK (Ht rfl) (Ht rfl) z6) (ro rfl (dK (Ht rfl) (cV 1) z6) (rn rfl (iI (T:=cF 0) (i:=Tryz.t218) V_55 kM rfl rfl (Ht rfl) rfl (fun _=>rfl) trivial (by show 4 * _ ≤ _; omega) zo) fun B17=>?_))))))))
  refine ra rfl (eW (cU (ts (ro rfl (cX (cV 0)) (eW (eY ?_))))))
  refine fP (fun (i : Nat) (out : List Nat) => Dk (dg m) (k / 32) (k % 32) out i) (fun (i : Nat) (out : List Nat) => (dg m).length - i) (fun (i : Nat) (out : List Nat) => [(0, aN m), (1, NT .i64 k), (5, Is (.slice (some ⟨B17, 0, none⟩) ((dg m).length + k / 32 + 1) ((dg m).length + k / 32 + 1))), (6, NT .i64 i)]) (fun (i : Nat) (out : List Nat) => [box B17 218 (out.map cF)]) 0 (List.replicate ((dg m).length + k / 32 + 1) 0) (Dk.start _ _ _)
   (zS rfl) (aU (aD (nZ _)) aY) (fun i out hS=>?_)
  refine cU (ts (rm rfl (rm rfl (ro rfl (dY U_55 (Ht rfl) aB) (ro rfl (gV (Ht rfl) (Ht rfl)) (eW (dX (Ht rfl) (fun hb=>?_) (fun hb=>?_))))))))
  ·simp at hb
   have hlen:=hS.len; have hxi:=bL (cA m) i; have hok:=bL hS.dig (i + k / 32)
   have hv:=If hxi hr
   have hd:(dg m).getD i 0 * 2 ^ (k % 32) / 2 ^ 32 < 4294967296:=Nat.div_lt_of_lt_mul hv
   simp only [BB] at hxi hok
   refine cY (cU (eY (ts (rm rfl (rm rfl (ro rfl (dJ U_55 Z_218 (Ht rfl) (Ht rfl) rfl (eZ (aO zo))) (ro rfl (dW A_218 Z_218 (Ht rfl)) (ro rfl (gW U_218 U_263 (Ht rfl) z7) (rm rfl (ro rfl (jT (Ht rfl) (cV 32) zo) (ro rfl (gW U_3 U_264 (Ht rfl) z7) (ro rfl (oY (Ht rfl) (Ht rfl) (by show _ ≤ _; simp [IntKind.bits]; omega) (by show _ < 18446744073709551616; exact hv)) ?_))))))))))))
   refine ra rfl (eW (ts (rm rfl (rm rfl (rm rfl (ro rfl (jS (Ht rfl) (cV 32) zo z6) (ro rfl (dK (Ht rfl) (Ht rfl) z6) (rm rfl (rm rfl (rm rfl (ro rfl (jS (Ht rfl) (cV 32) zo z6) (ro rfl (dK (Ht rfl) (Ht rfl) z6) (ro rfl (gZ U_55 Z_218 (Ht rfl) (Ht rfl) rfl zo (by rw [Nat.mul_one,Nat.zero_add])) ?_)))))))))))))
   refine ro rfl (fZ A_218 Z_218 (Ht rfl) (i:=0) rfl (eZ (aO zo))) (rm rfl (ro rfl (iJ rfl U_263 U_218 (Ht rfl)) (ro rfl (qX rfl (Ht rfl) (Ht rfl) (by show _ < 4294967296; omega) (by show _ % 4294967296 < 4294967296; omega)) (ro rfl (gZ U_55 Z_218 (Ht rfl) (Ht rfl) rfl zo (by rw [Nat.mul_one,Nat.zero_add])) ?_))))
   refine lP Z_218 (Ht rfl) (Ht rfl) (i:=0) rfl (by first | omega | (simp; omega)) rfl (eW (dQ (rm rfl (rm rfl (rm rfl (ro rfl (jS (Ht rfl) (cV 32) zo z6) (ro rfl (dK (Ht rfl) (Ht rfl) z6) (ro rfl (dK (Ht rfl) (cV 1) z6) (rm rfl (ro rfl (gE (Ht rfl) (cV 32) (by decide)) (ro rfl (gW U_263 U_218 (Ht rfl) (by show _ < 4294967296; exact hd)) ?_)))))))))))
   refine ro rfl (gZ U_55 Z_218 (Ht rfl) (Ht rfl) rfl zo (by rw [Nat.mul_one,Nat.zero_add])) ?_
   refine lP Z_218 (Ht rfl) (Ht rfl) (i:=0) rfl (by first | omega | (simp; omega)) rfl (eW (bM (dQ (rm rfl (ro rfl (dK (Ht rfl) (cV 1) z6) (ra rfl (eW (gX (i + 1,_) (hS.next (cA m) hr hb rfl rfl) (by dsimp only; omega) (zS rfl) (aU (aD (Od _ _ _ _ _)) aY)))))))))
  ·simp at hb
   have hkl:i = (dg m).length:=Nat.le_antisymm hS.kle hb
   subst hkl
   have hlen:=hS.len
   have hfin:=hS.fin
   rw [dN,nF] at hfin
   refine gK rfl (gG (i:=0) (tt:=5) rfl rfl (oM rfl hlen.symm (Nat.le_refl _)) (ts (rm rfl (ro rfl (cJ K_254 (vB _ hS.dig zo) ⟨(Ht rfl),trivial⟩) (ra rfl (eW (fU rfl (fV (fX rfl) ?_))))))))
   exact (dL hfin)
theorem a5W {m k:Nat} (hm:(dg m).length ≤ 17592186044416) (hk:k ≤ 562949953421312):bB Tryz.prog 279 [aN m,NT .i64 k] (aN (m / 2 ^ k)):=by
 refine bB.intro Tryz.func279 rfl Tryz.ntmps279 rfl (fun cx=>?_)
 have hr:=Nat.mod_lt k (by decide:32 > 0)
 refine ts (ro rfl (cX cW) (eW (cU (ts (rm rfl (ro rfl (jS (Ht rfl) (cV 32) zo z6) (rm rfl (ro rfl (dY U_55 (Ht rfl) aB) (ro rfl (oW (Ht rfl) (Ht rfl)) (eW (dX (Ht rfl) (fun hb=>?_) (fun hb=>?_))))))))))))
 ·simp at hb
  have h0:=Oi (cA m) hb (r:=k % 32)
  rw [dN,nF] at h0
  refine ts (ro rfl (cX cW) (eW (fU rfl (fV (fX rfl) ?_))))
  exact (fun v V h=>dL h0.symm v V (lX v V h))
 ·simp at hb
  refine cY (ts (rm rfl (ro rfl (dY U_55 (Ht rfl) aB) (rm rfl (ro rfl (jS (Ht rfl) (cV 32) zo z6) (ro rfl (dU (Ht rfl) (Ht rfl) zo z6) (rn rfl (iI (T:=cF 0) (i:=Tryz.t218) V_55 kM rfl rfl (Ht rfl) rfl (fun _=>rfl) trivial (by show 4 * _ ≤ _; omega) zo) fun B18=>(ra rfl (eW (cU (ts (ro rfl (cX (cV 0)) (eW (eY ?_))))))))))))))
  refine fP (fun (i : Nat) (out : List Nat) => Dl (dg m) (k / 32) (k % 32) out i) (fun (i : Nat) (out : List Nat) => (dg m).length - i) (fun (i : Nat) (out : List Nat) => [(0, aN m), (1, NT .i64 k), (5, Is (.slice (some ⟨B18, 0, none⟩) ((dg m).length - k / 32) ((dg m).length - k / 32))), (6, NT .i64 i)]) (fun (i : Nat) (out : List Nat) => [box B18 218 (out.map cF)]) 0 (List.replicate ((dg m).length - k / 32) 0) (Dl.start _ _ _)
   (zS rfl) (aU (aD (nZ _)) aY) (fun i out hS=>?_)
  refine cU (ts (rm rfl (rm rfl (ro rfl (iV U_55 (Ht rfl)) (ro rfl (gV (Ht rfl) (Ht rfl)) (eW (dX (Ht rfl) (fun hb=>?_) (fun hb=>?_))))))))
  ·simp at hb
   have hlen:=hS.len; have hx0:=bL (cA m) (i + k / 32); have hx1:=bL (cA m) (i + k / 32 + 1)
   have hio:i < out.length:=by omega
   simp only [BB] at hx0 hx1
   refine cY (cU (eY (ts (rm rfl (rm rfl (rm rfl (ro rfl (jS (Ht rfl) (cV 32) zo z6) (ro rfl (dK (Ht rfl) (Ht rfl) z6) (ro rfl (dJ U_55 Z_218 (Ht rfl) (Ht rfl) rfl (eZ (aO zo))) (ro rfl (dW A_218 Z_218 (Ht rfl)) (ro rfl (gW U_218 U_263 (Ht rfl) z7) ?_)))))))))))
   refine ra rfl (eW (cU (jU (fun (v:Nat)=>v = (dg m).getD (i + k / 32) 0 + BB * (dg m).getD (i + k / 32 + 1) 0) (fun (v:Nat)=>[(0,aN m),(1,NT .i64 k),(5,Is (.slice (some ⟨B18,0,none⟩) ((dg m).length - k / 32) ((dg m).length - k / 32))),(6,NT .i64 i),(7,NT .u64 v)]) (fun (v:Nat)=>[box B18 218 (out.map cF)]) ?_ (fun v hv=>?_))))
   ·refine ts (rm rfl (rm rfl (ro rfl (jS (Ht rfl) (cV 32) zo z6) (ro rfl (dK (Ht rfl) (Ht rfl) z6) (ro rfl (dK (Ht rfl) (cV 1) z6) (rm rfl (ro rfl (dY U_55 (Ht rfl) aB) (ro rfl (gV (Ht rfl) (Ht rfl)) (eW (dX (Ht rfl) (fun hk2 => ?_) (fun hk2 => ?_)))))))))))
    ·simp at hk2
     refine dQ (rm rfl (rm rfl (rm rfl (rm rfl (ro rfl (jS (Ht rfl) (cV 32) zo z6) (ro rfl (dK (Ht rfl) (Ht rfl) z6) (ro rfl (dK (Ht rfl) (cV 1) z6) (ro rfl (dJ U_55 Z_218 (Ht rfl) (Ht rfl) rfl (eZ (aO zo))) (ro rfl (dW A_218 Z_218 (Ht rfl)) (ro rfl (gW U_218 U_263 (Ht rfl) z7) ?_))))))))))
     refine ro rfl (oY (Ht rfl) (cV 32) (by decide) (by show _ < 18446744073709551616; omega)) (ro rfl (aM.nat (qX rfl (Ht rfl) (Ht rfl) z7 z7) (Vq hx0)) (ra rfl (eW (aT ((dg m).getD (i + k / 32) 0 + BB * (dg m).getD (i + k / 32 + 1) 0) rfl (zS rfl) (dI.refl _)))))
    ·simp at hk2
     refine cY (aT ((dg m).getD (i + k / 32) 0) (by simp [List.getD,List.getElem?_eq_none hk2]) (zS rfl) (dI.refl _))
   ·refine dQ (rm rfl (rm rfl (rm rfl (rm rfl (ro rfl (jT (Ht rfl) (cV 32) zo) (ro rfl (gW U_3 U_264 (Ht rfl) z7) (ro rfl (gE (Ht rfl) (Ht rfl) (by show _ ≤ 64; omega)) (ro rfl (iJ rfl U_263 U_218 (Ht rfl)) (ro rfl (gZ U_55 Z_218 (Ht rfl) (Ht rfl) rfl zo (by rw [Nat.mul_one, Nat.zero_add])) ?_)))))))))
    refine lP Z_218 (Ht rfl) (Ht rfl) (i:=0) rfl (by first | omega | (simp; omega)) rfl (eW (bM (dQ (rm rfl (ro rfl (dK (Ht rfl) (cV 1) z6) (ra rfl (eW (gX (i + 1,_) (hS.next (cA m) hr hio (by rw [hv]; rfl)) (by dsimp only; omega) (zS rfl) (aU (aD (iH _ _ _)) aY)))))))))
  ·simp at hb
   have hlen:=hS.len
   have hkl:i = out.length:=Nat.le_antisymm hS.kle zo
   subst hkl
   have hfin:=hS.fin (cA m) zo
   rw [dN,nF] at hfin
   refine gK rfl (gG (i:=0) (tt:=5) rfl rfl (oM rfl hlen.symm (Nat.le_refl _)) (ts (rm rfl (ro rfl (cJ K_254 (vB _ hS.dig zo) ⟨(Ht rfl),trivial⟩) (ra rfl (eW (fU rfl (fV (fX rfl) ?_))))))))
   exact (dL hfin)
theorem zY {m n:Nat} (hm:(dg m).length ≤ 17592186044415) (hn1:(dg n).length ≤ 17592186044416) (hn:n ≠ 0):bB Tryz.prog 250 [aN m,aN n] (eH [aN (m / n),aN (m % n)]):=by
 refine bB.intro Tryz.func250 rfl Tryz.ntmps250 rfl (fun cx=>(ts (ro rfl (cX cW) (ro rfl (cX cW) (eW (cU (ts (rm rfl (rm rfl (ro rfl (cJ Tryz.call201 (Wx zo zo) ⟨(Ht rfl),(Ht rfl),trivial⟩) (ro rfl (qW (Ht rfl) cW) (eW (dX (Ht rfl) (fun hb=>?_) (fun hb=>?_))))))))))))))
 ·simp only [decide_eq_true_eq] at hb
  have hlt:m < n:=Th hb
  refine ts (rm rfl (ro rfl (cX cW) (ra rfl (eW (bN rfl (fV (fX rfl) ?_) (fV (fX rfl) ?_))))))
  ·exact (fun v V h=>dL (Nat.div_eq_of_lt hlt).symm v V (lX v V h))
  ·exact (dL (Nat.mod_eq_of_lt hlt).symm)
 ·simp only [decide_eq_false_iff_not] at hb
  have hle:n ≤ m:=Tg zo
  clear hb
  refine cY (cU (ts (rm rfl (ro rfl (dY U_55 (Ht rfl) aB) (ro rfl (cL (Ht rfl) (cV 1)) (eW (dX (Ht rfl) (fun h1=>?_) (fun h1=>?_))))))))
  ·simp at h1
   have hy0:=a0w h1
   have hyb:=bL (cA n) 0
   have hmod:=Nat.mod_lt m (show (dg n).getD 0 0 > 0 by omega)
   have hyb2:=hyb
   simp only [BB] at hyb
   refine ts (rm rfl (rm rfl (ro rfl (dJ U_55 Z_218 (Ht rfl) (cV 0) rfl (eZ (aO zo))) (ro rfl (dW A_218 Z_218 (Ht rfl)) (ro rfl (cJ Tryz.call276 (Lt zo zo hyb2) ⟨(Ht rfl),(Ht rfl),trivial⟩) (rm rfl (ro rfl (eQ (Ht rfl) rfl) (ro rfl (eQ (Ht rfl) rfl) (ra rfl (ra rfl (eW (ts (rm rfl (rm rfl (ro rfl (gW U_218 U_263 (Ht rfl) z7) (ro rfl (cJ Tryz.call257 (Dv zo) ⟨(Ht rfl),trivial⟩) ?_))))))))))))))))
   refine ra rfl (ra rfl (eW (bN rfl (fV (fX rfl) ?_) (fV (fX rfl) ?_))))
   ·exact (dL (by rw [hy0]))
   ·exact (dL (by rw [hy0]))
  ·simp at h1
   have hl0:(dg n).length ≠ 0:=fun e=>hn (aP.1 e)
   have hyb:=bL (cA n) ((dg n).length - 1)
   obtain ⟨s,hs⟩:∃ s,s = 32 - bl ((dg n).getD ((dg n).length - 1) 0):=⟨_,rfl⟩
   obtain ⟨hs1,hvl,hvb⟩:=Mh hn hs
   obtain ⟨hc1,hc2,hc3,hc4⟩:=Lz (m:=m) hs1
   have hbl:=pI (k:=32) hyb
   simp only [BB] at hyb
   have hp2:0 < 2 ^ s:=Nat.pow_pos (by decide)
   have hX0:(dg (m * 2 ^ s)).length ≠ 0:=fun e=>(Nat.ne_of_gt (Nat.mul_pos (show 0 < m by omega) hp2)) (aP.1 e)
   have hmono:=jJ hle
   refine cY (ts (rm rfl (ro rfl (dY U_55 (Ht rfl) aB) (ro rfl (mI (cV 32) (Ht rfl) z6) (rm rfl (ro rfl (cJ Tryz.call277 (a36 zo hn) ⟨(Ht rfl),trivial⟩) (ro rfl (aM.nat (dU (Ht rfl) (Ht rfl) zo z6) (show 32 * (dg n).length - (32 * ((dg n).length - 1) + bl ((dg n).getD ((dg n).length - 1) 0)) = s by omega)) (ra rfl (eW (ts (rm rfl (rm rfl (ro rfl (cJ Tryz.call278 (a0j zo zo) ⟨(Ht rfl),(Ht rfl),trivial⟩) ?_)))))))))))))
   refine ra rfl (eW (ts (rm rfl (ro rfl (dY U_55 (Ht rfl) aB) (ro rfl (dK (Ht rfl) (cV 1) z6) (rn rfl (iI (T:=cF 0) (i:=Tryz.t218) V_55 kM rfl rfl (Ht rfl) rfl (fun _=>rfl) trivial (by show 4 * _ ≤ _; omega) zo) fun B57=>(ra rfl (eW (ts (rm rfl (rm rfl (rm rfl (ro rfl (cJ Tryz.call278 (a0j zo zo) ⟨(Ht rfl),(Ht rfl),trivial⟩) (Se U_55 Z_218 (Ht rfl) (Ht rfl) (a1g hX0) a5t (i:=0) rfl (by simp) (by simp; omega) (Ma _ _) rfl rfl ?_))))))))))))))
   refine eW (cU ?_)
   obtain ⟨vs,hvs⟩:∃ vs,vs = dg (n * 2 ^ s):=⟨_,rfl⟩
   rw [← hvs] at hvl hvb
   have hv:lK vs:=hvs ▸ cA _
   have hvv:val vs = n * 2 ^ s:=by rw [hvs,dN]
   have hV0:0 < val vs:=by rw [hvv]; exact Nat.mul_pos zo hp2
   have hnr:=Uz hv zo hvb
   have hv1:=hnr.v1lt; have hv2:=hnr.v2lt; have hbig:=hnr.big
   simp only [BB] at hv1 hv2 hbig
   refine Ay (E':=[(8,_),(9,_),(10,_)]) (aQ rfl (aZ rfl (a6a hvs.symm) (zS rfl))) (dQ (rm rfl (ro rfl (dY U_55 (Ht rfl) aB) (ra rfl (eW (ts (rm rfl (ro rfl (iV U_55 (Ht rfl)) (rm rfl (ro rfl (dU (Ht rfl) (Ht rfl) zo z6) (rn rfl (iI (T:=cF 0) (i:=Tryz.t218) V_55 kM rfl rfl (Ht rfl) rfl (fun _=>rfl) trivial (by show 4 * _ ≤ _; omega) zo) fun B69=>(ra rfl (eW (cU ?_))))))))))))))
   refine ts (rm rfl (ro rfl (iV U_55 (Ht rfl)) (ro rfl (iN (Ht rfl) cW (xK zo)) (ra rfl (eW (eY ?_))))))
   refine mF (fun (k : Nat) (us : List Nat) (qs : List Nat) => pP (m * 2 ^ s) vs us qs k ∧ us.length = (dg m).length + 1) (fun (k : Nat) (us : List Nat) (qs : List Nat) => k) (fun (k : Nat) (us : List Nat) (qs : List Nat) => [(8, NT .i64 s), (9, zP vs), (10, Is (.slice (some ⟨B57, 0, none⟩) ((dg m).length + 1) ((dg m).length + 1))), (11, NT .i64 vs.length), (12, Is (.slice (some ⟨B69, 0, none⟩) ((dg m).length + 1 - vs.length) ((dg m).length + 1 - vs.length))), (13, aL .i64 ((k : Int) - 1))]) (fun (k : Nat) (us : List Nat) (qs : List Nat) => [box B57 218 (us.map cF), box B69 218 (qs.map cF)]) ((dg m).length + 1 - vs.length) (Ea m s) (List.replicate ((dg m).length + 1 - vs.length) 0) ⟨pP.start hv zo hvb hs1 (by have := jV (cA m); rwa [dN] at this) hc3 hc2 hc4 zo, hc2⟩
    (aQ rfl (aQ rfl (aQ rfl (aQ rfl (aQ rfl (aZ rfl (aR zo) aX)))))) (aU (fun _ _ _ h=>h) (aU (aD (nZ _)) aY)) (fun k us qs ⟨hS,hus⟩=>?_)
   refine cU (ts (rm rfl (ro rfl (nY (Ht rfl) cW) (eW (dX (Ht rfl) (fun hk=>?_) (fun hk=>?_))))))
   ·simp at hk
    obtain ⟨j,rfl⟩:∃ j,k = j + 1:=⟨k - 1,by omega⟩
    have htp:=hS.top hv zo (Nat.succ_pos j) rfl
    have hkq:=hS.kle; have hlq:=hS.lenq
    rw [Nat.add_sub_cancel] at htp
    have hu0:=bL hS.dig (j + vs.length); have hu1:=bL hS.dig (j + vs.length - 1); have hu2:=bL hS.dig (j + vs.length - 2)
    have ht64:=a2i hu0 hu1; have hsh:=Og hu0
    obtain ⟨top,htop⟩:∃ top,top = us.getD (j + vs.length) 0 * BB + us.getD (j + vs.length - 1) 0:=⟨_,rfl⟩
    have hor:=(xA (a:=us.getD (j + vs.length) 0) hu1).trans htop.symm
    rw [← htop] at htp ht64
    have hu2b:=hu2
    simp only [BB] at hu0 hu1 hu2
    refine Ay (E':=[(8,_),(9,_),(10,_),(11,_),(12,_),(13,_),(73,_),(74,_)]) (aQ rfl (aQ rfl (aQ rfl (aQ rfl (aQ rfl (aZ rfl (aR (show ((j + 1:Nat):Int) - 1 = (j:Int) by omega)) (zS rfl))))))) (cY (cU (eY (cU (fW (m:=16) (dp 10 rfl (cZ (Ht rfl)) (dp 13 rfl (cZ (Ht rfl)) (dp 11 rfl (cZ (Ht rfl)) (dE 78 1 79 2 rfl (dK (Ht rfl) (Ht rfl) z6) (dE 77 0 80 3 rfl (gZ U_55 Z_218 (Ht rfl) (Ht rfl) rfl zo (by rw [Nat.mul_one,Nat.zero_add])) ?_))))))))))
    refine dq 81 4 rfl (fZ A_218 Z_218 (Ht rfl) (i:=0) rfl (eZ (aO zo))) (dq 82 5 rfl (gW U_218 U_263 (Ht rfl) z7) (dq 83 6 rfl (oY (Ht rfl) (cV 32) (by decide) hsh) (dp 10 rfl (cZ (Ht rfl)) (dp 13 rfl (cZ (Ht rfl)) (dp 11 rfl (cZ (Ht rfl)) (dE 86 9 87 10 rfl (dK (Ht rfl) (Ht rfl) z6) (dq 88 11 rfl (dU (Ht rfl) (cV 1) zo z6) ?_)))))))
    refine dE 85 8 89 12 rfl (gZ U_55 Z_218 (Ht rfl) (Ht rfl) rfl zo (by rw [Nat.mul_one,Nat.zero_add])) ?_
    refine dq 90 13 rfl (fZ A_218 Z_218 (Ht rfl) (i:=0) rfl (eZ (aO zo))) (dq 91 14 rfl (gW U_218 U_263 (Ht rfl) z7) (fK aS rfl (by kernel_rfl) (zF (zF (zF (zF (aV (ro rfl (aM.nat (qX rfl (Ht rfl) (Ht rfl) z7 z7) hor) ?_))))))))
    refine ra rfl (eW (ts (rm rfl (rm rfl (rm rfl (ro rfl (dU (Ht rfl) (cV 1) zo z6) (ro rfl (dJ U_55 Z_218 (Ht rfl) (Ht rfl) rfl (eZ (aO zo))) (ro rfl (dW A_218 Z_218 (Ht rfl)) (ro rfl (gW U_218 U_263 (Ht rfl) z7) (ro rfl (jS (Ht rfl) (Ht rfl) zo (by show _ < 18446744073709551616; exact ht64)) (ra rfl (eW ?_))))))))))))
    refine ts (rm rfl (rm rfl (rm rfl (ro rfl (dU (Ht rfl) (cV 1) zo z6) (ro rfl (dJ U_55 Z_218 (Ht rfl) (Ht rfl) rfl (eZ (aO zo))) (ro rfl (dW A_218 Z_218 (Ht rfl)) (ro rfl (gW U_218 U_263 (Ht rfl) z7) (ro rfl (jT (Ht rfl) (Ht rfl) zo) (ra rfl (eW (cU (jU (fun (g:Nat)=>Ph (val (us.drop j)) (val vs) g) (fun (g:Nat)=>[(8,NT .i64 s),(9,zP vs),(10,Is (.slice (some ⟨B57,0,none⟩) ((dg m).length + 1) ((dg m).length + 1))),(11,NT .i64 vs.length),(12,Is (.slice (some ⟨B69,0,none⟩) ((dg m).length + 1 - vs.length) ((dg m).length + 1 - vs.length))),(13,NT .i64 j),(15,NT .u64 g)]) (fun (g:Nat)=>[box B57 218 (us.map cF),box B69 218 (qs.map cF)]) ?_ (fun g hg=>?_)))))))))))))
    ·refine eY ?_
     refine fP (fun (g : Nat) (r : Nat) => mY (val (us.drop j)) (val vs) (vs.getD (vs.length - 1) 0) top g r ∧ r < 4294967296) (fun (g : Nat) (r : Nat) => g) (fun (g : Nat) (r : Nat) => [(8, NT .i64 s), (9, zP vs), (10, Is (.slice (some ⟨B57, 0, none⟩) ((dg m).length + 1) ((dg m).length + 1))), (11, NT .i64 vs.length), (12, Is (.slice (some ⟨B69, 0, none⟩) ((dg m).length + 1 - vs.length) ((dg m).length + 1 - vs.length))), (13, NT .i64 j), (15, NT .u64 g), (16, NT .u64 r)]) (fun (g : Nat) (r : Nat) => [box B57 218 (us.map cF), box B69 218 (qs.map cF)]) (top / vs.getD (vs.length - 1) 0) (top % vs.getD (vs.length - 1) 0) ⟨mY.start hnr htp, Nat.lt_trans (Nat.mod_lt _ zo) hv1⟩
      (zS rfl) (dI.refl _) (fun g r ⟨hG,hr⟩=>?_)
     have hgl:=(hG.glt hnr htp).1
     have hrs:=Og (a:=r) hr
     have horr:=xA (a:=r) hu2b
     simp only [BB] at hgl
     refine cU (cU (fW (m:=22) (dp 15 rfl (cZ (Ht rfl)) (dq 110 0 rfl (oW (Ht rfl) (cV 4294967296)) (dq 111 1 rfl (cZ (Ht rfl)) (C.D_step (Ei:=[(15,_),(112,_)]) rfl rfl (bV (bK rfl rfl) (bV (bG 2 rfl rfl) bW)) (fQ rfl rfl (Ht rfl) (fun h=>cZ (Ht rfl))) (C.D_step (Ei:=[(9,_),(112,_)]) rfl rfl (bV (bK rfl rfl) (bV (bG 2 rfl rfl) bW)) (fQ rfl rfl (Ht rfl) (fun h=>cZ (Ht rfl))) (C.D_step (Ei:=[(11,_),(112,_)]) rfl rfl (bV (bK rfl rfl) (bV (bG 2 rfl rfl) bW)) (fQ rfl rfl (Ht rfl) (fun h=>cZ (Ht rfl))) ?_))))))))
     refine C.D_step (Ei:=[(115,_),(112,_)]) rfl rfl (bV (bG 5 rfl rfl) (bV (bG 2 rfl rfl) bW)) (fQ rfl rfl (Ht rfl) (fun h=>dU (fG rfl h) (cV 2) (by first | omega | (simp at h; omega)) (by show _ < 9223372036854775808; first | omega | (simp at h; omega)))) (C.D_step (Ei:=[(114,_),(116,_),(112,_)]) rfl rfl (bV (bG 4 rfl rfl) (bV (bG 6 rfl rfl) (bV (bG 2 rfl rfl) bW))) (fQ rfl rfl (Ht rfl) (fun h=>dJ U_55 Z_218 (fG rfl h) (fG rfl h) rfl (eZ (aO (by first | omega | (simp at h; omega)))))) ?_)
     refine C.D_step (Ei:=[(117,_),(112,_)]) rfl rfl (bV (bG 7 rfl rfl) (bV (bG 2 rfl rfl) bW)) (fQ rfl rfl (Ht rfl) (fun h=>dW A_218 Z_218 (fG rfl h))) (C.D_step (Ei:=[(118,_),(112,_)]) rfl rfl (bV (bG 8 rfl rfl) (bV (bG 2 rfl rfl) bW)) (fQ rfl rfl (Ht rfl) (fun h=>gW U_218 U_263 (fG rfl h) (by show _ < 18446744073709551616; first | omega | (simp at h; omega)))) (C.D_step (Ei:=[(113,_),(119,_),(112,_)]) rfl rfl (bV (bG 3 rfl rfl) (bV (bG 9 rfl rfl) (bV (bG 2 rfl rfl) bW))) (fQ rfl rfl (Ht rfl) (fun h=>mI (fG rfl h) (fG rfl h) (by show _ < 18446744073709551616; simp at h; exact a5r h hv2))) ?_))
     refine C.D_step (Ei:=[(16,_),(112,_)]) rfl rfl (bV (bK rfl rfl) (bV (bG 2 rfl rfl) bW)) (fQ rfl rfl (Ht rfl) (fun h=>cZ (Ht rfl))) (C.D_step (Ei:=[(121,_),(112,_)]) rfl rfl (bV (bG 11 rfl rfl) (bV (bG 2 rfl rfl) bW)) (fQ rfl rfl (Ht rfl) (fun h=>oY (fG rfl h) (cV 32) (by decide) hrs)) (C.D_step (Ei:=[(10,_),(112,_)]) rfl rfl (bV (bK rfl rfl) (bV (bG 2 rfl rfl) bW)) (fQ rfl rfl (Ht rfl) (fun h=>cZ (Ht rfl))) (C.D_step (Ei:=[(13,_),(112,_)]) rfl rfl (bV (bK rfl rfl) (bV (bG 2 rfl rfl) bW)) (fQ rfl rfl (Ht rfl) (fun h=>cZ (Ht rfl))) ?_)))
     refine C.D_step (Ei:=[(11,_),(112,_)]) rfl rfl (bV (bK rfl rfl) (bV (bG 2 rfl rfl) bW)) (fQ rfl rfl (Ht rfl) (fun h=>cZ (Ht rfl))) (C.D_step (Ei:=[(124,_),(125,_),(112,_)]) rfl rfl (bV (bG 14 rfl rfl) (bV (bG 15 rfl rfl) (bV (bG 2 rfl rfl) bW))) (fQ rfl rfl (Ht rfl) (fun h=>dK (fG rfl h) (fG rfl h) (by show _ < 9223372036854775808; first | omega | (simp at h; omega)))) (C.D_step (Ei:=[(126,_),(112,_)]) rfl rfl (bV (bG 16 rfl rfl) (bV (bG 2 rfl rfl) bW)) (fQ rfl rfl (Ht rfl) (fun h=>dU (fG rfl h) (cV 2) (by first | omega | (simp at h; omega)) (by show _ < 9223372036854775808; first | omega | (simp at h; omega)))) ?_))
     refine C.D_step (Ei:=[(123,_),(127,_),(112,_)]) rfl rfl (bV (bG 13 rfl rfl) (bV (bG 17 rfl rfl) (bV (bG 2 rfl rfl) bW))) (fQ rfl rfl (Ht rfl) (fun h=>gZ U_55 Z_218 (fG rfl h) (fG rfl h) rfl (by first | omega | (simp at h; omega)) (by rw [Nat.mul_one,Nat.zero_add]))) ?_
     refine C.D_step (Ei:=[(128,_),(112,_)]) rfl rfl (bV (bG 18 rfl rfl) (bV (bG 2 rfl rfl) bW)) (fQ rfl rfl (Ht rfl) (fun h=>fZ A_218 Z_218 (fG rfl h) (i:=0) rfl (eZ (aO zo)))) (C.D_step (Ei:=[(129,_),(112,_)]) rfl rfl (bV (bG 19 rfl rfl) (bV (bG 2 rfl rfl) bW)) (fQ rfl rfl (Ht rfl) (fun h=>gW U_218 U_263 (fG rfl h) (by show _ < 18446744073709551616; first | omega | (simp at h; omega)))) (C.D_step (Ei:=[(122,_),(130,_),(112,_)]) rfl rfl (bV (bG 12 rfl rfl) (bV (bG 20 rfl rfl) (bV (bG 2 rfl rfl) bW))) (fQ rfl rfl (Ht rfl) (fun h=>aM.nat (qX rfl (fG rfl h) (fG rfl h) (by show _ < 18446744073709551616; first | omega | (simp at h; omega)) (by show _ < 18446744073709551616; first | omega | (simp at h; omega))) horr)) ?_))
     refine fK aS rfl (by kernel_rfl) (zF (zF (zF (zF (zF (aJ (aJ (aV (fJ rfl rfl (fQ rfl rfl (Ht rfl) (fun h=>fM (fG rfl h) (fG rfl h))) (ro rfl (kQ (Ht rfl) (fun h=>(fG rfl h))) (eW (dX (Ht rfl) (fun hc=>?_) (fun hc=>?_)))))))))))))
     ·have hn2 := hG.next hnr htp (by simpa [BB] using hc)
      have hg1:=hn2.2
      refine cY (eY (ts (rm rfl (ro rfl (dU (Ht rfl) (cV 1) zo z7) (ra rfl (eW (ts (rm rfl (rm rfl (rm rfl (ro rfl (dU (Ht rfl) (cV 1) zo z6) (ro rfl (dJ U_55 Z_218 (Ht rfl) (Ht rfl) rfl (eZ (aO zo))) (ro rfl (dW A_218 Z_218 (Ht rfl)) (ro rfl (gW U_218 U_263 (Ht rfl) z7) ?_))))))))))))))
      refine ro rfl (dK (Ht rfl) (Ht rfl) z7) (ra rfl (eW (ts (rm rfl (ro rfl (oW (Ht rfl) (cV 4294967296)) (eW (dX (Ht rfl) (fun hr2=>?_) (fun hr2=>?_))))))))
      ·simp at hr2
       refine gK rfl (aT (g - 1) (hn2.1.stop hnr htp hr2) (zS rfl) (dI.refl _))
      ·simp at hr2
       refine cY (bM (gX (g - 1,_) ⟨hn2.1,hr2⟩ (by dsimp only; omega) (zS rfl) (dI.refl _)))
     ·simp at hc
      refine gK rfl (aT g (hG.done hnr htp hc.1 hc.2) (zS rfl) (dI.refl _))
    ·have hglt := hg.lt
     have hglt2:=hg.lt
     simp only [BB] at hglt
     have hjl:j + vs.length < us.length:=by omega
     refine ts (ro rfl (cX (cV 0)) (eW (ts (ro rfl (cX (cV 0)) (eW (cU (ts (ro rfl (cX (cV 0)) (eW (eY ?_))))))))))
     refine xN (fun (i : Nat) (out : List Nat) (c : Nat) (b : Nat) => uB us vs g j out i c b) (fun (i : Nat) (out : List Nat) (c : Nat) (b : Nat) => vs.length - i) (fun (i : Nat) (out : List Nat) (c : Nat) (b : Nat) => [(8, NT .i64 s), (9, zP vs), (10, Is (.slice (some ⟨B57, 0, none⟩) ((dg m).length + 1) ((dg m).length + 1))), (11, NT .i64 vs.length), (12, Is (.slice (some ⟨B69, 0, none⟩) ((dg m).length + 1 - vs.length) ((dg m).length + 1 - vs.length))), (13, NT .i64 j), (15, NT .u64 g), (17, NT .u64 b), (18, NT .u64 c), (19, NT .i64 i)]) (fun (i : Nat) (out : List Nat) (c : Nat) (b : Nat) => [box B57 218 (out.map cF), box B69 218 (qs.map cF)]) 0 us 0 0 (uB.start hS.dig vs g j)
      (zS rfl) (dI.refl _) (fun i out c b hT=>?_)
     refine cU (ts (rm rfl (rm rfl (ro rfl (gV (Ht rfl) (Ht rfl)) (eW (dX (Ht rfl) (fun hi=>?_) (fun hi=>?_)))))))
     ·simp at hi
      have hlen:=hT.len; have hcl:=hT.clt; have hbl:=hT.ble; have hvi:=bL hv i; have hok:=bL hT.dig (i + j)
      have hp:=Rz hglt2 hvi hT.clt
      simp only [BB] at hp hcl hvi hok
      obtain ⟨p,hp1⟩:∃ p,p = g * vs.getD i 0 + c:=⟨_,rfl⟩
      obtain ⟨x,hx1⟩:∃ x,x = ((out.getD (i + j) 0 + 18446744073709551616 - p % 4294967296) % 18446744073709551616 + 18446744073709551616 - b) % 18446744073709551616:=⟨_,rfl⟩
      refine cY (cU (eY (ts (rm rfl (rm rfl (rm rfl (ro rfl (dJ U_55 Z_218 (Ht rfl) (Ht rfl) rfl (eZ (aO zo))) (ro rfl (dW A_218 Z_218 (Ht rfl)) (ro rfl (gW U_218 U_263 (Ht rfl) z7) (ro rfl (mI (Ht rfl) (Ht rfl) z7) (rm rfl (ro rfl (aM.nat (dK (Ht rfl) (Ht rfl) z7) hp1.symm) ?_))))))))))))
      refine ra rfl (eW (ts (rm rfl (ro rfl (gE (Ht rfl) (cV 32) (by decide)) (ra rfl (eW (ts (rm rfl (rm rfl (rm rfl (ro rfl (dK (Ht rfl) (Ht rfl) z6) (ro rfl (gZ U_55 Z_218 (Ht rfl) (Ht rfl) rfl zo (by rw [Nat.mul_one,Nat.zero_add])) ?_))))))))))))
      refine ro rfl (fZ A_218 Z_218 (Ht rfl) (i:=0) rfl (eZ (aO zo))) (ro rfl (gW U_218 U_263 (Ht rfl) z7) (rm rfl (ro rfl (aM.nat (vN rfl (Ht rfl) (cV 4294967295) z7 z7) (a7C p)) (ro rfl (oZ rfl (Ht rfl) (Ht rfl) (by show _ ≤ 18446744073709551616; first | omega | (simp only [mZ]; omega))) ?_))))
      refine rm rfl (ro rfl (aM.nat (oZ rfl (Ht rfl) (Ht rfl) (by show _ ≤ 18446744073709551616; first | omega | (simp only [mZ]; omega))) hx1.symm) (ra rfl (eW (ts (rm rfl (rm rfl (rm rfl (ro rfl (dK (Ht rfl) (Ht rfl) z6) (rm rfl (ro rfl (iJ rfl U_263 U_218 (Ht rfl)) (ro rfl (gZ U_55 Z_218 (Ht rfl) (Ht rfl) rfl zo (by rw [Nat.mul_one,Nat.zero_add])) ?_)))))))))))
      refine lP Z_218 (Ht rfl) (Ht rfl) (i:=0) rfl (by first | omega | (simp; omega)) rfl (eW (dQ (rm rfl (ro rfl (gE (Ht rfl) (cV 63) (by decide)) (ra rfl (eW (bM (dQ (rm rfl (ro rfl (dK (Ht rfl) (cV 1) z6) (ra rfl (eW (gX (i + 1,_,_,_) (hT.next hS.dig hv hglt2 hi hjl hp1 (Fu hok hbl hx1) rfl) (by dsimp only; omega) (zS rfl) (aU (aD (iH _ _ _)) (aU (fun _ _ _ h=>h) aY)))))))))))))))
     ·simp at hi
      have hkl:i = vs.length:=Nat.le_antisymm hT.ile hi
      subst hkl
      have hlen:=hT.len; have hcl:=hT.clt; have hbl:=hT.ble; have hok:=bL hT.dig (j + vs.length)
      obtain ⟨x,hx1⟩:∃ x,x = ((out.getD (j + vs.length) 0 + 18446744073709551616 - c) % 18446744073709551616 + 18446744073709551616 - b) % 18446744073709551616:=⟨_,rfl⟩
      have htd:=Fv hok hcl hbl hx1
      have hTk:=hT.fin hjl htd rfl
      have hx2:=htd.2
      simp only [BB] at hcl hok
      refine gK rfl (ts (rm rfl (rm rfl (rm rfl (ro rfl (dK (Ht rfl) (Ht rfl) z6) (ro rfl (gZ U_55 Z_218 (Ht rfl) (Ht rfl) rfl zo (by rw [Nat.mul_one,Nat.zero_add])) ?_))))))
      refine ro rfl (fZ A_218 Z_218 (Ht rfl) (i:=0) rfl (eZ (aO zo))) (ro rfl (gW U_218 U_263 (Ht rfl) z7) (rm rfl (ro rfl (oZ rfl (Ht rfl) (Ht rfl) (by show _ ≤ 18446744073709551616; first | omega | (simp only [mZ]; omega))) (rm rfl (ro rfl (aM.nat (oZ rfl (Ht rfl) (Ht rfl) (by show _ ≤ 18446744073709551616; first | omega | (simp only [mZ]; omega))) hx1.symm) (ra rfl (eW (ts (rm rfl (rm rfl (rm rfl (ro rfl (dK (Ht rfl) (Ht rfl) z6) ?_))))))))))))
      refine rm rfl (ro rfl (iJ rfl U_263 U_218 (Ht rfl)) (ro rfl (gZ U_55 Z_218 (Ht rfl) (Ht rfl) rfl zo (by rw [Nat.mul_one,Nat.zero_add])) ?_))
      refine lP Z_218 (Ht rfl) (Ht rfl) (i:=0) rfl (by first | omega | (simp; omega)) rfl (eW (cU (tE (fun (us2:List Nat) (g2:Nat)=>pP (m * 2 ^ s) vs us2 (qs.set j g2) j ∧ g2 < 4294967296 ∧ us2.length = (dg m).length + 1) (fun (us2:List Nat) (g2:Nat)=>[(8,NT .i64 s),(9,zP vs),(10,Is (.slice (some ⟨B57,0,none⟩) ((dg m).length + 1) ((dg m).length + 1))),(11,NT .i64 vs.length),(12,Is (.slice (some ⟨B69,0,none⟩) ((dg m).length + 1 - vs.length) ((dg m).length + 1 - vs.length))),(13,NT .i64 j),(15,NT .u64 g2)]) (fun (us2:List Nat) (g2:Nat)=>[box B57 218 (us2.map cF),box B69 218 (qs.map cF)]) ?_ (fun us2 g2 ⟨hD,hg2,hus2⟩=>?_))))
      ·refine ts (rm rfl (ro rfl (gE (Ht rfl) (cV 63) (by decide)) (ro rfl (cL (Ht rfl) (cV 1)) (eW (dX (Ht rfl) (fun hbb => ?_) (fun hbb => ?_))))))
       ·simp only [decide_eq_true_eq] at hbb
        have hdec:(!decide (x / 2 ^ 63 = 0)) = true:=by rw [hbb]; rfl
        rw [hdec] at hTk
        obtain ⟨o1,ho1⟩:∃ o1,o1 = out.set (j + vs.length) (x % BB):=⟨_,rfl⟩
        rw [← ho1] at hTk
        have hg0:=hS.gpos hv rfl zo hTk
        have hol:=hTk.len
        refine ts (rm rfl (ro rfl (dU (Ht rfl) (cV 1) zo z7) (ra rfl (eW (ts (ro rfl (cX (cV 0)) (eW (cU (ts (ro rfl (cX (cV 0)) (eW (eY ?_))))))))))))
        refine mF (fun (i : Nat) (out2 : List Nat) (c : Nat) => tZ o1 vs j out2 i c) (fun (i : Nat) (out2 : List Nat) (c : Nat) => vs.length - i) (fun (i : Nat) (out2 : List Nat) (c : Nat) => [(8, NT .i64 s), (9, zP vs), (10, Is (.slice (some ⟨B57, 0, none⟩) ((dg m).length + 1) ((dg m).length + 1))), (11, NT .i64 vs.length), (12, Is (.slice (some ⟨B69, 0, none⟩) ((dg m).length + 1 - vs.length) ((dg m).length + 1 - vs.length))), (13, NT .i64 j), (15, NT .u64 (g - 1 : Nat)), (18, NT .u64 c), (23, NT .i64 i)]) (fun (i : Nat) (out2 : List Nat) (c : Nat) => [box B57 218 (out2.map cF), box B69 218 (qs.map cF)]) 0 o1 0 (tZ.start hTk.dig vs j)
         (zS rfl) (aU (aD (by rw [ho1]; exact iH _ _ _)) (aU (fun _ _ _ h=>h) aY)) (fun i out2 c hB=>?_)
        refine cU (ts (rm rfl (rm rfl (ro rfl (gV (Ht rfl) (Ht rfl)) (eW (dX (Ht rfl) (fun hi=>?_) (fun hi=>?_)))))))
        ·simp at hi
         have hlen:=hB.len; have hcl:=hB.cle; have hvi:=bL hv i; have hok:=bL hB.dig (i + j)
         simp only [BB] at hvi hok
         refine cY (cU (eY (cU (fW (m:=14) (dp 10 rfl (cZ (Ht rfl)) (dp 23 rfl (cZ (Ht rfl)) (dp 13 rfl (cZ (Ht rfl)) (dE 212 1 213 2 rfl (dK (Ht rfl) (Ht rfl) z6) (dE 211 0 214 3 rfl (gZ U_55 Z_218 (Ht rfl) (Ht rfl) rfl zo (by rw [Nat.mul_one,Nat.zero_add])) ?_)))))))))
         refine dq 215 4 rfl (fZ A_218 Z_218 (Ht rfl) (i:=0) rfl (eZ (aO zo))) (dq 216 5 rfl (gW U_218 U_263 (Ht rfl) z7) (dp 9 rfl (cZ (Ht rfl)) (dp 23 rfl (cZ (Ht rfl)) (dE 218 7 219 8 rfl (dJ U_55 Z_218 (Ht rfl) (Ht rfl) rfl (eZ (aO zo))) (dq 220 9 rfl (dW A_218 Z_218 (Ht rfl)) (dq 221 10 rfl (gW U_218 U_263 (Ht rfl) z7) ?_))))))
         refine dE 217 6 222 11 rfl (dK (Ht rfl) (Ht rfl) z7) (dp 18 rfl (cZ (Ht rfl)) (fK aS rfl (by kernel_rfl) (zF (zF (zF (aJ (aJ (aV (ro rfl (dK (Ht rfl) (Ht rfl) z7) (ra rfl (eW (ts (rm rfl (rm rfl (rm rfl (ro rfl (dK (Ht rfl) (Ht rfl) z6) ?_))))))))))))))))
         refine rm rfl (ro rfl (iJ rfl U_263 U_218 (Ht rfl)) (ro rfl (gZ U_55 Z_218 (Ht rfl) (Ht rfl) rfl zo (by rw [Nat.mul_one,Nat.zero_add])) ?_))
         refine lP Z_218 (Ht rfl) (Ht rfl) (i:=0) rfl (by first | omega | (simp; omega)) rfl (eW (dQ (rm rfl (ro rfl (gE (Ht rfl) (cV 32) (by decide)) (ra rfl (eW (bM (dQ (rm rfl (ro rfl (dK (Ht rfl) (cV 1) z6) (ra rfl (eW (gX (i + 1,_,_) (hB.next hv hi zo (Nat.add_comm _ _)) (by dsimp only; omega) (zS rfl) (aU (aD (iH _ _ _)) (aU (fun _ _ _ h=>h) aY)))))))))))))))
        ·simp at hi
         have hil:i = vs.length:=Nat.le_antisymm hB.ile hi
         subst hil
         have hlen:=hB.len; have hcl:=hB.cle; have hok:=bL hB.dig (j + vs.length)
         have hBk:=hB.fin zo rfl
         obtain ⟨_,hDn⟩:=hS.wrong hv hV0 (Nat.succ_pos j) rfl hg hTk hBk
         simp only [BB] at hok
         refine gK rfl (dQ (rm rfl (rm rfl (rm rfl (ro rfl (dK (Ht rfl) (Ht rfl) z6) (rm rfl (rm rfl (rm rfl (ro rfl (dK (Ht rfl) (Ht rfl) z6) (ro rfl (gZ U_55 Z_218 (Ht rfl) (Ht rfl) rfl zo (by rw [Nat.mul_one,Nat.zero_add])) ?_))))))))))
         refine ro rfl (fZ A_218 Z_218 (Ht rfl) (i:=0) rfl (eZ (aO zo))) (rm rfl (ro rfl (gW U_263 U_218 (Ht rfl) (by show _ < 4294967296; first | omega | (simp only [mZ]; omega))) (ro rfl (Vg rfl (Ht rfl) (Ht rfl)) (ro rfl (gZ U_55 Z_218 (Ht rfl) (Ht rfl) rfl zo (by rw [Nat.mul_one,Nat.zero_add])) ?_))))
         refine lP Z_218 (Ht rfl) (Ht rfl) (i:=0) rfl (by first | omega | (simp; omega)) rfl (eW (aT (_,g - 1) ⟨hDn,by dsimp only; omega,by simp; omega⟩ (zS rfl) (aU (aD (iH _ _ _)) (aU (fun _ _ _ h=>h) aY))))
       ·simp only [decide_eq_false_iff_not] at hbb
        have hdec:(!decide (x / 2 ^ 63 = 0)) = false:=by rw [show x / 2 ^ 63 = 0 by omega]; rfl
        rw [hdec] at hTk
        have hol:=hTk.len
        refine cY (aT (_,g) ⟨hS.right hv hV0 (Nat.succ_pos j) rfl hg hTk,hglt,by dsimp only; omega⟩ (zS rfl) (aU (aD (iH _ _ _)) (aU (fun _ _ _ h=>h) aY)))
      ·refine dQ (rm rfl (rm rfl (rm rfl (ro rfl (gW U_263 U_218 (Ht rfl) (by show _ < 4294967296; first | omega | (simp only [mZ]; omega))) (ro rfl (gZ U_55 Z_218 (Ht rfl) (Ht rfl) rfl zo (by rw [Nat.mul_one, Nat.zero_add])) ?_)))))
       refine lP Z_218 (Ht rfl) (Ht rfl) (i:=1) rfl (by first | omega | (simp; omega)) rfl (eW (bM (dQ (rm rfl (ro rfl (iN (Ht rfl) cW (xK zo)) (ra rfl (eW (gX (j,us2,_) ⟨hD,hus2⟩ (by dsimp only; omega) (zS rfl) (aU (fun _ _ _ h=>h) (aU (aD (iH _ _ _)) aY))))))))))
   ·simp at hk
    have hk0:k = 0:=by omega
    subst hk0
    have hfin:=hS.fin hV0
    have hlq:=hS.lenq
    rw [hvv] at hfin
    have hdiv:val qs = m / n:=by rw [hfin.1]; exact Nat.mul_div_mul_right _ _ hp2
    have hsm:val us < BB ^ vs.length:=by have h1:=hS.small; rw [List.drop_zero] at h1; exact Nat.lt_trans h1 (jV hv)
    have hmod : val (us.take vs.length) / 2 ^ s = m % n := by
     rw [qF hsm zo,hfin.2,Nat.mul_mod_mul_right,Nat.mul_div_cancel _ hp2]
    have hru : (dg (val (us.take vs.length))).length ≤ 17592186044416 := by
     refine Nat.le_trans (kZ (k:=vs.length) ?_) zo
     rw [qF hsm zo]; exact hsm
    refine gK rfl (gG (i:=1) (tt:=12) rfl rfl (oM rfl zo (Nat.le_refl _)) (gG (i:=0) (tt:=10) rfl rfl (oM rfl zo (Nat.le_refl _)) (cU (fW (m:=7) (dp 12 rfl (cZ (Ht rfl)) (dq 254 0 rfl (cJ K_254 (vB _ hS.digq zo) ⟨(Ht rfl),trivial⟩) (dp 10 rfl (cZ (Ht rfl)) (dp 11 rfl (cZ (Ht rfl)) (dE 256 2 257 3 rfl (aM.imp (vP U_55 Z_218 (Ht rfl) (Ht rfl) (fun m e=>by cases e) zo (by simp; omega) rfl) (Tw _ _)) ?_)))))))))
    refine dq 258 4 rfl (cJ K_254 (vB _ (hS.dig.take' vs.length) (by simp; omega)) ⟨(Ht rfl),trivial⟩) ?_
    refine dp 8 rfl (cZ (Ht rfl)) (fK aS rfl (by kernel_rfl) (zF (aJ (aJ (aJ (aV (ro rfl (cJ Tryz.call279 (a5W hru zo) ⟨(Ht rfl),(Ht rfl),trivial⟩) (ra rfl (ra rfl (eW (bN rfl (fV (fX rfl) ?_) (fV (fX rfl) ?_))))))))))))
    ·exact (dL hdiv)
    ·exact (dL hmod)
theorem Qc {m n:Nat} (hm:(dg m).length ≤ 17592186044415) (hn:(dg n).length ≤ 17592186044415):bB Tryz.prog 249 [aN m,aN n] (aN (Nat.gcd m n)):=by
 refine bB.intro Tryz.func249 rfl Tryz.ntmps249 rfl (fun cx=>(ts (ro rfl (cX cW) (eW (cU (eY ?_))))))
 refine fP (fun (x : Nat) (y : Nat) => Nat.gcd x y = Nat.gcd m n ∧ (dg x).length ≤ 17592186044415 ∧ (dg y).length ≤ 17592186044415) (fun (x : Nat) (y : Nat) => y) (fun (x : Nat) (y : Nat) => [(0, aN x), (1, aN y)]) (fun (x : Nat) (y : Nat) => []) m n ⟨rfl, hm, hn⟩
  (zS rfl) aY (fun x y ⟨hg,hx,hy⟩=>?_)
 refine cU (ts (rm rfl (ro rfl (dY U_55 (Ht rfl) aB) (ro rfl (fM (Ht rfl) (cV 0)) (eW (dX (Ht rfl) (fun hb=>?_) (fun hb=>?_)))))))
 ·simp at hb
  have hy0:y ≠ 0:=fun e=>by rw [e,eO] at hb; simp at hb
  have hlt:=Nat.mod_lt x (Nat.pos_of_ne_zero hy0)
  refine cY (eY (ts (rm rfl (rm rfl (ro rfl (cJ K_250 (zY hx zo hy0) ⟨(Ht rfl),(Ht rfl),trivial⟩) (rm rfl (ro rfl (eQ (Ht rfl) rfl) (ro rfl (eQ (Ht rfl) rfl) (ra rfl (ra rfl (eW (dQ (rm rfl (rm rfl (ra rfl (ra rfl (eW (bM (gX (y,x % y) ⟨by rw [← hg,Nat.gcd_comm x y,Nat.gcd_rec y x,Nat.gcd_comm],hy,Nat.le_trans (jJ (Nat.le_of_lt hlt)) hy⟩ hlt (zS rfl) aY)))))))))))))))))))
 ·simp at hb
  have hy0:y = 0:=aP.1 (by simpa using hb)
  subst hy0
  rw [Nat.gcd_zero_right] at hg
  refine gK rfl (ts (rm rfl (ra rfl (eW (fU rfl (fV (fX rfl) ?_))))))
  exact (dL hg)
theorem Tb {m:Nat} (hm:(dg m).length ≤ 8796093022208):bB Tryz.prog 272 [aN m] (sF (wJ m)):=by
 refine bB.intro Tryz.func272 rfl Tryz.ntmps272 rfl (fun cx=>(ts (ro rfl (cX (bH.cS (l:=[]) rfl)) (eW (cU (ts (rm rfl (ro rfl (dY U_55 (Ht rfl) aB) (ro rfl (cL (Ht rfl) (cV 0)) (eW (dX (Ht rfl) (fun hb=>?_) (fun hb=>?_))))))))))))
 ·simp at hb
  have h0:m = 0:=aP.1 (by simpa using hb)
  subst h0
  refine ts (ro rfl (cX (bH.cS (l:=[48]) rfl)) (eW (fU rfl (fV (fX rfl) ?_))))
  exact (kI rfl)
 ·simp at hb
  have h0:m ≠ 0:=fun e=>hb (by rw [e,eO])
  refine cY (ts (ro rfl (cX cW) (eW (cU (eY (uA 5 1 ?_))))))
  refine mF (fun (x : Nat) (out : List Nat) (v : Value) => Di m out x ∧ x ≤ m) (fun (x : Nat) (out : List Nat) (v : Value) => x) (fun (x : Nat) (out : List Nat) (v : Value) => [(0, aN x), (3, Is v)]) (fun (x : Nat) (out : List Nat) (v : Value) => [bP 5 1 v (out.map Az)]) m [] (.slice none 0 0) ⟨Di.start m, Nat.le_refl m⟩
   (zS rfl) (dI.refl _) (fun x out v ⟨hO,hle⟩=>?_)
  refine cU (ts (rm rfl (ro rfl (dY U_55 (Ht rfl) aB) (ro rfl (fM (Ht rfl) (cV 0)) (eW (dX (Ht rfl) (fun hc=>?_) (fun hc=>?_)))))))
  ·simp at hc
   have hx0:x ≠ 0:=fun e=>by rw [e,eO] at hc; simp at hc
   have hxm:=jJ hle
   refine cY (eY (ts (rm rfl (ro rfl (cJ Tryz.call276 (Lt zo (by decide) (by decide)) ⟨(Ht rfl),(cV 1000000000),trivial⟩) (rm rfl (ro rfl (eQ (Ht rfl) rfl) (ro rfl (eQ (Ht rfl) rfl) (ra rfl (ra rfl (eW (cU (ts (ro rfl (cX (cV 0)) (eW (eY ?_)))))))))))))))
   refine xN (fun (r : Nat) (k : Nat) (out : List Nat) (v : Value) => Bn m out (x / 1000000000) r k) (fun (r : Nat) (k : Nat) (out : List Nat) (v : Value) => 9 - k) (fun (r : Nat) (k : Nat) (out : List Nat) (v : Value) => [(3, Is v), (4, aN (x / 1000000000)), (5, cF r), (6, NT .i64 k)]) (fun (r : Nat) (k : Nat) (out : List Nat) (v : Value) => [bP 5 1 v (out.map Az)]) (x % 1000000000) 0 out v (hO.inner)
    (zS rfl) (dI.refl _) (fun r k out v hI=>?_)
   refine cU (ts (rm rfl (ro rfl (gV (Ht rfl) (cV 9)) (rm rfl (fJ rfl rfl (pW rfl rfl (Ht rfl) (fun h=>cZ (Ht rfl))) (fJ rfl rfl (pW rfl rfl (Ht rfl) (fun h=>fM (bH.wu rfl h) (cV 0))) (fJ rfl rfl (pW rfl rfl (Ht rfl) (fun h=>cZ (bH.wu rfl h))) (fJ rfl rfl (xM rfl rfl rfl (fun h h2=>cZ (Ht rfl))) (fJ rfl rfl (xM rfl rfl rfl (fun h h2=>dY U_55 (bH.wu rfl ⟨h,h2⟩) aB)) (fJ rfl rfl (xM rfl rfl rfl (fun h h2=>fM (bH.wu rfl ⟨h,h2⟩) (cV 0))) (fJ rfl rfl (pW rfl rfl (Ht rfl) (fun h=>kQ (bH.wu rfl h) (fun h2=>(bH.wu rfl ⟨h,h2⟩)))) ?_)))))))))))
   refine ro rfl (fC (Ht rfl) (fun h=>(bH.wu rfl h))) (eW (dX (Ht rfl) (fun hd=>?_) (fun hd=>?_)))
   ·simp at hd
    have hxr:0 < x / 1000000000 ∨ 0 < r:=hd.2.elim (fun h=>.inr h) (fun h=>.inl (Nat.pos_of_ne_zero (fun e=>by rw [e,eO] at h; simp at h)))
    have hln:=hI.len hxr
    have hr32:=hI.r32
    refine cY (cU (eY (ts (rm rfl (rm rfl (ro rfl (jT (Ht rfl) (cV 10) zo) (ro rfl (dK (cV 48) (Ht rfl) (by show _ < 4294967296; first | omega | (simp only [mZ]; omega))) (ro rfl (gW U_218 U_5 (Ht rfl) (by show _ < 256; first | omega | (simp only [mZ]; omega))) (ro rfl (eB (xs:=[.tmp 37]) U_296 Z_5 Tryz.zeroValue5 (cG (Ht rfl) cK) rfl rfl rfl) (sD (inf:=Tryz.t5) Dc a0Z rfl rfl rfl (Ht rfl) (Ht rfl) (i:=0) rfl (by simp) (fun T hT=>by simp at hT; subst hT; exact El.one) (by show _ * 1 ≤ _; simp only [List.length_map,List.length_cons,List.length_nil]; omega) (by simp only [List.length_map,List.length_cons,List.length_nil]; omega) rfl (fun v2=>?_)))))))))))
    refine ra rfl (eW (dQ (rm rfl (ro rfl (jS (Ht rfl) (cV 10) zo (by show _ < 4294967296; first | omega | (simp only [mZ]; omega))) (ra rfl (eW (bM (dQ (rm rfl (ro rfl (dK (Ht rfl) (cV 1) z6) (ra rfl (eW (gX (r / 10,k + 1,_,v2) (hI.next hd.1 hxr) (by dsimp only; omega) (zS rfl) (aU (bD (a2p _ _)) aY))))))))))))))
   ·simp at hd
    have hO2 := hI.fin (fun ⟨h1, h2⟩ => by
     have h3:=hd h1
     rcases h2 with h2 | h2
     ·have:=sK.1 h3.2; omega
     ·omega)
    refine gK rfl (dQ (rm rfl (ra rfl (eW (bM (gX (x / 1000000000,_,_) ⟨hO2,Nat.le_trans (Nat.div_le_self _ _) hle⟩ (Nat.div_lt_self (Nat.pos_of_ne_zero hx0) (by decide)) (zS rfl) (dI.refl _)))))))
  ·simp at hc
   have hx0:x = 0:=aP.1 (by simpa using hc)
   subst hx0
   have hfin:=hO.fin
   have hdl:=rL m
   rw [hfin] at hdl
   refine gK rfl (cU (ts (rm rfl (ro rfl (oX U_296 (Ht rfl) (i:=0) rfl aB) (ro rfl (iN (Ht rfl) cW (xK zo)) (ro rfl (cX (cV 0)) (ra rfl (eW (eY ?_)))))))))
   refine fP (fun (k : Nat) (o : List Nat) => Dj out o k) (fun (k : Nat) (o : List Nat) => out.length - k) (fun (k : Nat) (o : List Nat) => [(3, Is v), (7, NT .i64 k), (8, aL .i64 ((out.length : Int) - 1 - (k : Int)))]) (fun (k : Nat) (o : List Nat) => [bP 5 1 v (o.map Az)]) 0 out (Dj.start out)
    (aQ rfl (aQ rfl (aZ rfl (aR zo) aX))) (dI.refl _) (fun k o hR=>?_)
   refine cU (ts (rm rfl (rm rfl (ro rfl (qW (Ht rfl) (Ht rfl)) (eW (dX (Ht rfl) (fun hk=>?_) (fun hk=>?_)))))))
   ·simp only [decide_eq_true_eq] at hk
    have hk2:2 * k + 1 < out.length:=by omega
    obtain ⟨j,hj⟩:∃ j,j = out.length - 1 - k:=⟨_,rfl⟩
    have hlen:=hR.len
    refine Ay (E':=[(3,_),(7,_),(8,_),(46,_),(47,_),(48,_)]) (aQ rfl (aQ rfl (aZ rfl (aR (show (out.length:Int) - 1 - (k:Int) = (j:Int) by omega)) (zS rfl)))) (cY (cU (eY (W.D_start (m:=14) (fun b=>cond b ([bP 5 1 v ((o.map Az).set k (Az (o.getD j 0)))]) _) 13 (W.D_step (Ei:=[(3,_)]) rfl rfl (W.Srcs.cons (W.Src.pre rfl rfl) W.Srcs.nil) rfl (by kernel_rfl) (dZ rfl (cZ (Ht rfl))) (W.D_step (Ei:=[(7,_)]) rfl rfl (W.Srcs.cons (W.Src.pre rfl rfl) W.Srcs.nil) rfl (by kernel_rfl) (dZ rfl (cZ (Ht rfl))) ?_))))))
    refine W.D_pure (Ei:=[(3,_)]) rfl rfl (W.Srcs.cons (W.Src.pre rfl rfl) W.Srcs.nil) rfl (fun _=>dZ rfl (cZ (Ht rfl))) (W.D_pure (Ei:=[(8,_)]) rfl rfl (W.Srcs.cons (W.Src.pre rfl rfl) W.Srcs.nil) rfl (fun _=>dZ rfl (cZ (Ht rfl))) (W.D_step (Ei:=[(3,_)]) rfl rfl (W.Srcs.cons (W.Src.pre rfl rfl) W.Srcs.nil) rfl (by kernel_rfl) (dZ rfl (cZ (Ht rfl))) (W.D_step (Ei:=[(8,_)]) rfl rfl (W.Srcs.cons (W.Src.pre rfl rfl) W.Srcs.nil) rfl (by kernel_rfl) (dZ rfl (cZ (Ht rfl))) (W.D_step (Ei:=[(57,_),(58,_)]) rfl rfl (W.Srcs.cons (W.Src.op 4 rfl rfl) (W.Srcs.cons (W.Src.op 5 rfl rfl) W.Srcs.nil)) rfl (by kernel_rfl) (dZ rfl (dB U_296 Z_5 (Ht rfl) (Ht rfl) rfl (i:=0) rfl (by first | omega | (simp; omega)) rfl)) ?_))))
    refine W.D_step (Ei:=[(59,_)]) rfl rfl (W.Srcs.cons (W.Src.op 6 rfl rfl) W.Srcs.nil) rfl (by kernel_rfl) (dZ rfl (pS A_5 Z_5 (Ht rfl) (i:=0) rfl rfl (eZ (aO zo)))) (W.D_step (Ei:=[(3,_)]) rfl rfl (W.Srcs.cons (W.Src.pre rfl rfl) W.Srcs.nil) rfl (by kernel_rfl) (dZ rfl (cZ (Ht rfl))) (W.D_step (Ei:=[(7,_)]) rfl rfl (W.Srcs.cons (W.Src.pre rfl rfl) W.Srcs.nil) rfl (by kernel_rfl) (dZ rfl (cZ (Ht rfl))) (W.D_step (Ei:=[(61,_),(62,_)]) rfl rfl (W.Srcs.cons (W.Src.op 8 rfl rfl) (W.Srcs.cons (W.Src.op 9 rfl rfl) W.Srcs.nil)) rfl (by kernel_rfl) (dZ rfl (dB U_296 Z_5 (Ht rfl) (Ht rfl) rfl (i:=0) rfl (by first | omega | (simp; omega)) rfl)) ?_)))
    refine W.D_step (Ei:=[(63,_)]) rfl rfl (W.Srcs.cons (W.Src.op 10 rfl rfl) W.Srcs.nil) rfl (by kernel_rfl) (dZ rfl (pS A_5 Z_5 (Ht rfl) (i:=0) rfl rfl (eZ (aO zo)))) (W.D_step (Ei:=[(53,_),(54,_)]) rfl rfl (W.Srcs.cons (W.Src.op 0 rfl rfl) (W.Srcs.cons (W.Src.op 1 rfl rfl) W.Srcs.nil)) rfl (by kernel_rfl) (dZ rfl (dB U_296 Z_5 (Ht rfl) (Ht rfl) rfl (i:=0) rfl (by first | omega | (simp; omega)) rfl)) (W.D_put (Ei:=[(65,_),(60,_)]) rfl rfl (W.Srcs.cons (W.Src.op 12 rfl rfl) (W.Srcs.cons (W.Src.op 7 rfl rfl) W.Srcs.nil)) rfl (Li Z_5 (Ht rfl) (Ht rfl) El.one (i:=0) rfl rfl (by first | omega | (simp; omega))) ?_))
    refine W.D_done aS rfl (by kernel_rfl) rfl (W.F_val (W.F_val (W.F_val (W.F_val (W.F_val (W.F_val (W.F_val (W.F_val (W.F_val (W.F_val (W.F_val (W.F_val (W.F_val (W.F_put (W.F_nil (ro rfl (dB U_296 Z_5 (Ht rfl) (Ht rfl) rfl (i:=0) rfl (by first | omega | (simp; omega)) rfl) (mP Z_5 (Ht rfl) (Ht rfl) El.one (i:=0) rfl rfl (by first | omega | (simp; omega)) rfl (eW (bM (dQ (rm rfl (ro rfl (dK (Ht rfl) (cV 1) z6) (rm rfl (ro rfl (iN (Ht rfl) cW (xK zo)) ?_))))))))))))))))))))))))
    refine ra rfl (ra rfl (eW (gX (k + 1,_) (hR.next hk2 hj) (by dsimp only; omega) (aQ rfl (aQ rfl (aZ rfl (aR zo) aX))) (aU (bD (Wj _ _ _ _ _)) aY))))
   ·simp only [decide_eq_false_iff_not] at hk
    have hrev:=hR.fin zo
    subst hrev
    refine gK rfl (gG (i:=0) (tt:=3) rfl rfl fR (ts (rm rfl (ro rfl (Nm Dc a5v a5w (Ht rfl) (by rw [← hfin]; simpa using Tt h0) (fun b hb=>a0q (n:=m) b (by rw [vD h0,hfin]; exact hb))) ?_))))
    refine ra rfl (eW (fU rfl (fV (fX rfl) ?_)))
    exact (kI (by rw [vD h0,hfin]))
end
section
open Go Go.RowKit
theorem Zy {n : Nat} {E : cT} {H : Hp} {d : Option Tmp} {t : TypeId} {pos : String} {af : Array Edge} {g : Option (Nat × Bool)}  :
  aM Tryz.prog n E H ⟨d,.build 128 #[],t,pos,af,g⟩ (eT [Is (.bool false),Is (.slice none 0 0)]) :=
 iQ (parts := []) fun a V w hs => by
  refine ⟨.agg #[(.bool false),(.slice none 0 0)],?_,[(.bool false),(.slice none 0 0)],rfl,aW (⟨rfl,trivial⟩) (aW (⟨rfl,trivial⟩) (aG))⟩
  simp [Instr.build,Instr.fill,Sem.run_bind,Result.andThen,gI,O_128,U_128,Z_4,Z_55]
theorem uD {n : Nat} {E : cT} {H : Hp} {d : Option Tmp} {t : TypeId} {pos : String} {af : Array Edge} {g : Option (Nat × Bool)} {x0 x1 : Operand} {T0 T1 : Ty} [s0 : dD T0 1 false] (h0 : bH E x0 T0) [s1 : dD T1 1 false] (h1 : bH E x1 T1) :
  aM Tryz.prog n E H ⟨d,.build 128 #[(0,x0),(1,x1)],t,pos,af,g⟩ (eT [T0,T1]) :=
 iQ (parts := [(0, x0), (1, x1)]) fun a V w hs => by
  have p0:=h0 n V a hs
  generalize e0:a.eval x0 = v0 at p0
  have q0:=(s0.ok v0 V p0).2.2 rfl
  have p1:=h1 n V a hs
  generalize e1:a.eval x1 = v1 at p1
  have q1:=(s1.ok v1 V p1).2.2 rfl
  refine ⟨.agg #[v0,v1],?_,[v0,v1],rfl,aW (⟨p0,q0⟩) (aW (⟨p1,q1⟩) (aG))⟩
  simp [e0,e1,Instr.build,Instr.fill,Sem.run_bind,Result.andThen,gI,q0.cells,q1.cells,O_128,U_128,Z_4,Z_55]
theorem wG {n : Nat} {E : cT} {H : Hp} {d : Option Tmp} {t : TypeId} {pos : String} {af : Array Edge} {g : Option (Nat × Bool)} {x0 x1 x2 : Operand} {T0 T1 T2 T3 T4 : Ty} (h0 : bH E x0 (eT [T0, T1])) (h1 : bH E x1 (eT [T2, T3])) [s2 : dD T4 1 false] (h2 : bH E x2 T4) :
  aM Tryz.prog n E H ⟨d,.build 130 #[(0,x0),(1,x1),(2,x2)],t,pos,af,g⟩ (eT [T0,T1,T2,T3,T4]) :=
 iQ (parts := [(0, x0), (1, x1), (2, x2)]) fun a V w hs => by
  obtain ⟨v0,e0,c0⟩:=h0 n V a hs
  obtain ⟨c0_0,c0_1,rfl⟩:∃ c0_0 c0_1,v0 = [c0_0,c0_1]:=Mx (by simpa using c0.length)
  obtain ⟨v1,e1,c1⟩:=h1 n V a hs
  obtain ⟨c1_0,c1_1,rfl⟩:∃ c1_0 c1_1,v1 = [c1_0,c1_1]:=Mx (by simpa using c1.length)
  have p2:=h2 n V a hs
  generalize e2:a.eval x2 = v2 at p2
  have q2:=(s2.ok v2 V p2).2.2 rfl
  refine ⟨.agg #[c0_0,c0_1,c1_0,c1_1,v2],?_,[c0_0,c0_1,c1_0,c1_1,v2],rfl,aW (c0.at (i:=0) rfl rfl) (aW (c0.at (i:=1) rfl rfl) (aW (c1.at (i:=0) rfl rfl) (aW (c1.at (i:=1) rfl rfl) (aW (⟨p2,q2⟩) (aG)))))⟩
  simp [e0,e1,e2,Instr.build,Instr.fill,Sem.run_bind,Result.andThen,gI,q2.cells,O_130,U_130,Z_55,Z_128]
theorem uZ {n : Nat} {E : cT} {H : Hp} {d : Option Tmp} {t : TypeId} {pos : String} {af : Array Edge} {g : Option (Nat × Bool)}  :
  aM Tryz.prog n E H ⟨d,.build 60 #[],t,pos,af,g⟩ (eT [Is (.bool false),Is (.slice none 0 0),Is (.bool false),Is (.slice none 0 0),Is (.slice none 0 0)]) :=
 iQ (parts := []) fun a V w hs => by
  refine ⟨.agg #[(.bool false),(.slice none 0 0),(.bool false),(.slice none 0 0),(.slice none 0 0)],?_,[(.bool false),(.slice none 0 0),(.bool false),(.slice none 0 0),(.slice none 0 0)],rfl,aW (⟨rfl,trivial⟩) (aW (⟨rfl,trivial⟩) (aW (⟨rfl,trivial⟩) (aW (⟨rfl,trivial⟩) (aW (⟨rfl,trivial⟩) (aG)))))⟩
  simp [Instr.build,Instr.fill,Sem.run_bind,Result.andThen,gI,O_60,U_60,Z_56,Z_58]
theorem qQ (a:Addr) (w:World):(Instr.fieldAt 128 (.pointer (some a)) 0).run Tryz.prog w = .ok (.pointer (some (a.add 0))) w:=by
 simp [Instr.fieldAt,Instr.sureAddr,fieldPlace,Sem.run_bind,Result.andThen,U_128,Z_4]
theorem lT (a:Addr) (w:World):(Instr.fieldAt 128 (.pointer (some a)) 1).run Tryz.prog w = .ok (.pointer (some (a.add 1))) w:=by
 simp [Instr.fieldAt,Instr.sureAddr,fieldPlace,Sem.run_bind,Result.andThen,U_128,Z_55]
theorem sL (a:Addr) (w:World):(Instr.fieldAt 130 (.pointer (some a)) 0).run Tryz.prog w = .ok (.pointer (some (a.add 0))) w:=by
 simp [Instr.fieldAt,Instr.sureAddr,fieldPlace,Sem.run_bind,Result.andThen,U_130,Z_128]
theorem sM (a:Addr) (w:World):(Instr.fieldAt 130 (.pointer (some a)) 1).run Tryz.prog w = .ok (.pointer (some (a.add 2))) w:=by
 simp [Instr.fieldAt,Instr.sureAddr,fieldPlace,Sem.run_bind,Result.andThen,U_130,Z_128]
theorem qR (a:Addr) (w:World):(Instr.fieldAt 130 (.pointer (some a)) 2).run Tryz.prog w = .ok (.pointer (some (a.add 4))) w:=by
 simp [Instr.fieldAt,Instr.sureAddr,fieldPlace,Sem.run_bind,Result.andThen,U_130,Z_55]
end
section
open Go Go.RowKit
theorem zZ {b:Bool} {m:Nat}:bB Tryz.prog 251 [aH b,aN m] (iE (Bk b m)):=by
 refine bB.intro Tryz.func251 rfl Tryz.ntmps251 rfl (fun cx=>(ts (rn rfl (eU (Ts:=[Is (.bool false),Is (.slice none 0 0)]) O_128 rfl (fun V=>aW zd (aW zd (aG)))) fun B4=>(eW (ts (rm rfl (rm rfl (fJ rfl rfl (fQ rfl rfl (Ht rfl) (fun h=>cZ (Ht rfl))) (fJ rfl rfl (fQ rfl rfl (Ht rfl) (fun h=>dY U_55 (fG rfl h) aB)) (fJ rfl rfl (fQ rfl rfl (Ht rfl) (fun h=>fM (fG rfl h) (cV 0))) (ro rfl (fC (Ht rfl) (fun h=>(fG rfl h))) (rm rfl ?_))))))))))))
 refine ro rfl (uD (Ht rfl) (Ht rfl)) (gJ Z_128 (Ht rfl) (Ht rfl) rfl (i:=0) rfl (aK rfl) rfl rfl (eW (fU rfl (fV (gQ A_128 Z_128 rfl (i:=0) rfl rfl) ?_))))
 exact a20
theorem Du {n:Int} (h1:-9223372036854775808 ≤ n) (h2:n ≤ 9223372036854775807):bB Tryz.prog 210 [aL .i64 n] (iE n):=by
 refine bB.intro Tryz.func210 rfl Tryz.ntmps210 rfl (fun cx=>(ts (rn rfl (eU (Ts:=[Is (.bool false),Is (.slice none 0 0)]) O_128 rfl (fun V=>aW zd (aW zd (aG)))) fun B2=>(eW (cU (ts (rm rfl (ro rfl (qW (Ht rfl) cW) (eW (dX (Ht rfl) (fun hb=>?_) (fun hb=>?_)))))))))))
 ·have hn : n < 0 := by simpa using hb
  refine ts (rm rfl (ro rfl (Kh (Ht rfl) (r:=IntKind.i64.wrap (-n)) rfl) ?_))
  refine ro rfl (vO U_2 U_263 (Ht rfl) (r:=((n.natAbs:Nat):Int)) (by rw [IntKind.wrap_u64,IntKind.wrap_i64]; omega)) ?_
  refine ro rfl (cJ Tryz.call257 (Dv zo) ⟨(Ht rfl),trivial⟩) (ro rfl (uD cW (Ht rfl)) (gJ Z_128 (Ht rfl) (Ht rfl) rfl (i:=0) rfl (aK rfl) rfl rfl (eW (fU rfl (fV (gQ A_128 Z_128 rfl (i:=0) rfl rfl) ?_)))))
  exact (rW (by rw [hb]; rfl))
 ·have hn : ¬ n < 0 := by simpa using hb
  refine cY (ts (rm rfl (ro rfl (vO U_2 U_263 (Ht rfl) (r:=((n.natAbs:Nat):Int)) (by rw [IntKind.wrap_u64]; omega)) ?_)))
  refine ro rfl (cJ Tryz.call257 (Dv zo) ⟨(Ht rfl),trivial⟩) (ro rfl (uD cW (Ht rfl)) (gJ Z_128 (Ht rfl) (Ht rfl) rfl (i:=0) rfl (aK rfl) rfl rfl (eW (fU rfl (fV (gQ A_128 Z_128 rfl (i:=0) rfl rfl) ?_)))))
  exact (rW (by rw [hb]; rfl))
theorem Ha {x:Int}:bB Tryz.prog 211 [iE x] (iE (-x)):=by
 refine bB.intro Tryz.func211 rfl Tryz.ntmps211 rfl (fun cx=>(ts (rn rfl (fY (Ht rfl)) fun B1=>(rn rfl (eU (Ts:=[Is (.bool false),Is (.slice none 0 0)]) O_128 rfl (fun V=>aW zd (aW zd (aG)))) fun B2=>(eW (ts (ro rfl (eG qQ (Ht rfl) rfl) (ro rfl (fZ A_4 Z_4 (Ht rfl) (i:=0) rfl rfl) (ro rfl (eS (Ht rfl)) (ro rfl (eG lT (Ht rfl) rfl) (ro rfl (fZ A_55 Z_55 (Ht rfl) (i:=0) rfl rfl) (ro rfl (cJ Tryz.call251 zZ ⟨(Ht rfl),(Ht rfl),trivial⟩) ?_))))))))))))
 refine gJ Z_128 (Ht rfl) (Ht rfl) rfl (i:=1) rfl (aK rfl) rfl rfl (eW (fU rfl (fV (gQ A_128 Z_128 rfl (i:=1) rfl rfl) ?_)))
 exact (rA (Ie x))
theorem Sz {A B:Int} {D:Nat} (hD:0 < D) (hA:(dg A.natAbs).length ≤ 17592186044415) (hB:(dg B.natAbs).length ≤ 17592186044415) (hD2:(dg D).length ≤ 17592186044415):bB Tryz.prog 202 [iE A,iE B,aN D] (QT (Qi.mk' A B D)):=by
 have hg1:=Ec hA hB
 have hg2:=Ec hg1 hD2
 have hgp:Nat.gcd (Nat.gcd A.natAbs B.natAbs) D ≠ 0:=fun e=>by have:=Nat.gcd_eq_zero_iff.1 e; omega
 refine bB.intro Tryz.func202 rfl Tryz.ntmps202 rfl (fun cx=>(ts (rn rfl (fY (Ht rfl)) fun B3=>(rn rfl (fY (Ht rfl)) fun B4=>(rn rfl (eU (Ts:=[Is (.bool false),Is (.slice none 0 0),Is (.bool false),Is (.slice none 0 0),Is (.slice none 0 0)]) O_130 rfl (fun V=>aW zd (aW zd (aW zd (aW zd (aW zd (aG))))))) fun B6=>(eW (ts (ro rfl (eG lT (Ht rfl) rfl) (ro rfl (fZ A_55 Z_55 (Ht rfl) (i:=0) rfl rfl) ?_)))))))))
 refine ro rfl (eG lT (Ht rfl) rfl) (ro rfl (fZ A_55 Z_55 (Ht rfl) (i:=1) rfl rfl) (ro rfl (cJ Tryz.call249 (Qc zo zo) ⟨(Ht rfl),(Ht rfl),trivial⟩) (rm rfl (ro rfl (cJ Tryz.call249 (Qc zo zo) ⟨(Ht rfl),(Ht rfl),trivial⟩) (ra rfl (eW (cU (ts (rm rfl (ro rfl (dY U_55 (Ht rfl) aB) (ro rfl (cL (Ht rfl) (cV 1)) (rm rfl (fJ rfl rfl (fQ rfl rfl (Ht rfl) (fun h=>cZ (Ht rfl))) (fJ rfl rfl (fQ rfl rfl (Ht rfl) (fun h=>dJ U_55 Z_218 (fG rfl h) (cV 0) rfl (eZ (aO (by first | omega | (simp at h; omega)))))) ?_))))))))))))))
 refine fJ rfl rfl (fQ rfl rfl (Ht rfl) (fun h=>dW A_218 Z_218 (fG rfl h))) (fJ rfl rfl (fQ rfl rfl (Ht rfl) (fun h=>cL (fG rfl h) (cV 1))) (ro rfl (fC (Ht rfl) (fun h=>(fG rfl h))) (eW (dX (Ht rfl) (fun hb=>?_) (fun hb=>?_)))))
 ·rw [Kf] at hb
  have hg:Qi.g3 A B D = 1:=by simpa [Qi.g3] using hb
  refine ts (ro rfl (eK A_128 Z_128 (Ht rfl) (i:=0) rfl rfl rfl) (ro rfl (eK A_128 Z_128 (Ht rfl) (i:=1) rfl rfl rfl) (rm rfl (ro rfl (wG (Ht rfl) (Ht rfl) (Ht rfl)) (gJ Z_130 (Ht rfl) (Ht rfl) rfl (i:=2) rfl (aK rfl) rfl rfl (eW (fU rfl (fV (gQ A_130 Z_130 rfl (i:=2) rfl rfl) ?_))))))))
  exact (a1e hD hg)
 ·refine cY (ts (ro rfl (eG lT (Ht rfl) rfl) (ro rfl (fZ A_55 Z_55 (Ht rfl) (i := 0) rfl rfl) (rm rfl (ro rfl (cJ K_250 (zY zo zo zo) ⟨(Ht rfl), (Ht rfl), trivial⟩) (rm rfl (ro rfl (eQ (Ht rfl) rfl) (ro rfl (eQ (Ht rfl) rfl) (ra rfl (ra rfl (eW (ts (ro rfl (eG lT (Ht rfl) rfl) (ro rfl (fZ A_55 Z_55 (Ht rfl) (i := 1) rfl rfl) (rm rfl (ro rfl (cJ K_250 (zY zo zo zo) ⟨(Ht rfl), (Ht rfl), trivial⟩) (rm rfl (ro rfl (eQ (Ht rfl) rfl) ?_))))))))))))))))))
  refine ro rfl (eQ (Ht rfl) rfl) (ra rfl (ra rfl (eW (ts (rm rfl (rm rfl (ro rfl (cJ K_250 (zY zo zo zo) ⟨(Ht rfl),(Ht rfl),trivial⟩) (rm rfl (ro rfl (eQ (Ht rfl) rfl) (ro rfl (eQ (Ht rfl) rfl) (ra rfl (ra rfl (eW (cU (fW (m:=9) (dp 3 rfl (eG qQ (Ht rfl) rfl) (dq 54 0 rfl (fZ A_4 Z_4 (Ht rfl) (i:=0) rfl rfl) (dp 8 rfl (cZ (Ht rfl)) (dE 55 1 56 2 rfl (cJ Tryz.call251 zZ ⟨(Ht rfl),(Ht rfl),trivial⟩) (dp 4 rfl (eG qQ (Ht rfl) rfl) ?_))))))))))))))))))))
  refine dq 58 4 rfl (fZ A_4 Z_4 (Ht rfl) (i:=1) rfl rfl) (dp 10 rfl (cZ (Ht rfl)) (dE 59 5 60 6 rfl (cJ Tryz.call251 zZ ⟨(Ht rfl),(Ht rfl),trivial⟩) (dp 12 rfl (cZ (Ht rfl)) (fK aS rfl (by kernel_rfl) (zF (zF (aJ (aV (ro rfl (wG (Ht rfl) (Ht rfl) (Ht rfl)) (gJ Z_130 (Ht rfl) (Ht rfl) rfl (i:=2) rfl (aK rfl) rfl rfl (eW (fU rfl (fV (gQ A_130 Z_130 rfl (i:=2) rfl rfl) ?_)))))))))))))
  exact (a1f hD rfl)
theorem a5V {p q d:Int} (p1:-9223372036854775808 ≤ p) (p2:p ≤ 9223372036854775807) (q1:-9223372036854775808 ≤ q) (q2:q ≤ 9223372036854775807) (d1:-9223372036854775808 ≤ d) (d2:d ≤ 9223372036854775807) (hd:d ≠ 0):bB Tryz.prog 112 [aL .i64 p,aL .i64 q,aL .i64 d] (eH [QT (Qi.frac p q d),aL .i64 0]):=by
 have lp:=Xj p1 p2; have lq:=Xj q1 q2; have ld:=Xj d1 d2; have np:=wV p; have nq:=wV q
 refine bB.intro Tryz.func112 rfl Tryz.ntmps112 rfl (fun cx=>(ts (rn rfl (eU (Ts:=[Is (.bool false),Is (.slice none 0 0),Is (.bool false),Is (.slice none 0 0),Is (.slice none 0 0)]) O_130 rfl (fun V=>aW zd (aW zd (aW zd (aW zd (aW zd (aG))))))) fun B6=>(ro rfl (cX (cV 0)) (eW (cU (ts (rm rfl (ro rfl (lY (Ht rfl) cW) (eW (jQ (Ht rfl) (by simp [hd]) ?_)))))))))))
 refine cY (ts (rm rfl (ro rfl (cJ Tryz.call210 (Du d1 d2) ⟨(Ht rfl),trivial⟩) (rn rfl (eU (Ts:=[Is (.bool false),Is (.slice none 0 0)]) O_128 rfl (fun V=>aW zd (aW zd (aG)))) fun B8=>(gJ Z_128 (Ht rfl) (Ht rfl) rfl (i:=1) rfl (aK rfl) rfl rfl (eW (ts (rm rfl (ro rfl (cJ Tryz.call210 (Du p1 p2) ⟨(Ht rfl),trivial⟩) (rm rfl (ro rfl (cJ Tryz.call210 (Du q1 q2) ⟨(Ht rfl),trivial⟩) (rn rfl (eU (Ts:=[Is (.bool false),Is (.slice none 0 0)]) O_128 rfl (fun V=>aW zd (aW zd (aG)))) fun B9=>?_))))))))))))
 refine rn rfl (eU (Ts:=[Is (.bool false),Is (.slice none 0 0)]) O_128 rfl (fun V=>aW zd (aW zd (aG)))) fun B10=>gJ Z_128 (Ht rfl) (Ht rfl) rfl (i:=2) rfl (aK rfl) rfl rfl (gJ Z_128 (Ht rfl) (Ht rfl) rfl (i:=3) rfl (aK rfl) rfl rfl (eW (cU (tE (fun (a:Int) (b:Int)=>Qi.mk' a b d.natAbs = Qi.frac p q d ∧ (dg a.natAbs).length ≤ 2 ∧ (dg b.natAbs).length ≤ 2) (fun (a:Int) (b:Int)=>[(6,cC B6 0),(8,cC B8 0),(9,cC B9 0),(10,cC B10 0)]) (fun (a:Int) (b:Int)=>[box B6 130 [Is (.bool false),Is (.slice none 0 0),Is (.bool false),Is (.slice none 0 0),Is (.slice none 0 0)],box B8 128 [aH (decide (d < 0)),aN (d).natAbs],box B9 128 [aH (decide (a < 0)),aN (a).natAbs],box B10 128 [aH (decide (b < 0)),aN (b).natAbs]]) ?_ (fun a b ⟨hab,ha,hb⟩=>?_)))))
 ·refine ts (ro rfl (eG qQ (Ht rfl) rfl) (ro rfl (fZ A_4 Z_4 (Ht rfl) (i := 1) rfl rfl) (eW (dX (Ht rfl) (fun hn => ?_) (fun hn => ?_)))))
  ·simp only [decide_eq_true_eq] at hn
   refine fW (m:=3) (dp 9 rfl (eK A_128 Z_128 (Ht rfl) (i:=2) rfl rfl rfl) (dq 22 0 rfl (cJ Tryz.call211 Ha ⟨(Ht rfl),trivial⟩) (dp 10 rfl (eK A_128 Z_128 (Ht rfl) (i:=3) rfl rfl rfl) (fK aS rfl (by kernel_rfl) (aJ (aJ (aJ (aV (ro rfl (cJ Tryz.call211 Ha ⟨(Ht rfl),trivial⟩) (gJ Z_128 (Ht rfl) (Ht rfl) rfl (i:=2) rfl (aK rfl) rfl rfl (gJ Z_128 (Ht rfl) (Ht rfl) rfl (i:=3) rfl (aK rfl) rfl rfl (eW (aT (-p,-q) ⟨Qi.frac_neg hn,by dsimp only; omega,by dsimp only; omega⟩ (zS rfl) (aU (aD rfl) (aU (aD rfl) (aU (aD rfl) (aU (aD rfl) aY)))))))))))))))))
  ·simp only [decide_eq_false_iff_not] at hn
   refine cY (aT (p,q) ⟨Qi.frac_pos hn hd,by omega,by omega⟩ (zS rfl) (dI.refl _))
 ·refine ts (ro rfl (eK A_128 Z_128 (Ht rfl) (i := 2) rfl rfl rfl) (ro rfl (eK A_128 Z_128 (Ht rfl) (i := 3) rfl rfl rfl) (ro rfl (eG lT (Ht rfl) rfl) (ro rfl (fZ A_55 Z_55 (Ht rfl) (i := 1) rfl rfl) (ro rfl (cJ Tryz.call202 (Sz zo zo zo zo) ⟨(Ht rfl), (Ht rfl), (Ht rfl), trivial⟩) (gJ Z_130 (Ht rfl) (Ht rfl) rfl (i := 0) rfl (aK rfl) rfl rfl (ro rfl (cX (cV 0)) (eW (bN rfl (fV (gQ A_130 Z_130 rfl (i := 0) rfl rfl) ?_) (fX rfl))))))))))
  exact (a8h hab)
theorem a7M {r:Rt}:bB Tryz.prog 191 [mQ r] (QT r.q):=by
 have hr1:=r.h1; have hr2:=r.h2; have hr3:=r.h3; have hr4:=r.h4; have hr5:=r.d1; have hr6:=r.d2; have hr0:=r.d0
 refine bB.intro Tryz.func191 rfl Tryz.ntmps191 rfl (fun cx=>(ts (rn rfl (fY (Ht rfl)) fun B1=>(rn rfl (eU (Ts:=[Is (.bool false),Is (.slice none 0 0),Is (.bool false),Is (.slice none 0 0),Is (.slice none 0 0)]) O_130 rfl (fun V=>aW zd (aW zd (aW zd (aW zd (aW zd (aG))))))) fun B2=>(eW (cU (jU (fun (uu:Unit)=>True) (fun (uu:Unit)=>[(1,cC B1 0),(2,cC B2 0)]) (fun (uu:Unit)=>[box B1 48 [aL .i64 r.re,aL .i64 r.im,aL .i64 r.d],box B2 130 [Is (.bool false),Is (.slice none 0 0),Is (.bool false),Is (.slice none 0 0),Is (.slice none 0 0)]]) ?_ (fun uu _=>?_))))))))
 ·refine ts (ro rfl (eG rM (Ht rfl) rfl) (ro rfl (fZ A_2 Z_2 (Ht rfl) (i := 0) rfl rfl) (ro rfl (lY (Ht rfl) cW) (eW (dX (Ht rfl) (fun hb => ?_) (fun hb => ?_))))))
  ·simp only [decide_eq_true_eq] at hb
   refine dQ (ro rfl (eG rM (Ht rfl) rfl) (lP Z_2 (Ht rfl) (cV 1) (i:=0) rfl (aK rfl) rfl (eW (aT () trivial (zS rfl) (aU (aD (by rw [Rt.d,if_pos hb]; rfl)) (aU (aD rfl) aY))))))
  ·simp only [decide_eq_false_iff_not] at hb
   refine cY (aT () trivial (zS rfl) (aU (aD (by rw [Rt.d,if_neg hb])) (aU (aD rfl) aY)))
 ·refine ts (ro rfl (eG tL (Ht rfl) rfl) (ro rfl (fZ A_2 Z_2 (Ht rfl) (i := 0) rfl rfl) (ro rfl (eG Jl (Ht rfl) rfl) (ro rfl (fZ A_2 Z_2 (Ht rfl) (i := 0) rfl rfl) (ro rfl (eG rM (Ht rfl) rfl) (ro rfl (fZ A_2 Z_2 (Ht rfl) (i := 0) rfl rfl) (ro rfl (cJ Tryz.call112 (a5V hr1 hr2 hr3 hr4 hr5 hr6 hr0) ⟨(Ht rfl), (Ht rfl), (Ht rfl), trivial⟩) (rm rfl (ro rfl (eQ (Ht rfl) rfl) (ro rfl (eQ (Ht rfl) rfl) (rn rfl (eU (Ts := [Is (.bool false), Is (.slice none 0 0), Is (.bool false), Is (.slice none 0 0), Is (.slice none 0 0)]) O_130 rfl (fun V => aW zd (aW zd (aW zd (aW zd (aW zd (aG))))))) fun B3 => ?_)))))))))))
  refine gJ Z_130 (Ht rfl) (Ht rfl) rfl (i:=2) rfl (aK rfl) rfl rfl (ra rfl (eW (ts (ro rfl (eK A_130 Z_130 (Ht rfl) (i:=2) rfl rfl rfl) (gJ Z_130 (Ht rfl) (Ht rfl) rfl (i:=1) rfl (aK rfl) rfl rfl (eW ?_))))))
  exact fU rfl (gQ A_130 Z_130 rfl (i:=1) rfl rfl)
theorem a7L {x:Qi} {L:Nat} [hx:aF x L] (h:L ≤ 17592186044415):bB Tryz.prog 271 [QT x] (QT x.imp):=by
 have hxa:=oH hx.fit; have hxb:=oI hx.fit; have hxd:=oJ hx.fit
 have hxp:=x.den_pos
 have h5:(dg (0:Int).natAbs).length ≤ 0:=by rw [show (0:Int).natAbs = 0 from rfl,eO]; exact Nat.le_refl _
 refine bB.intro Tryz.func271 rfl Tryz.ntmps271 rfl (fun cx=>(ts (rn rfl (fY (Ht rfl)) fun B1=>(rn rfl (eU (Ts:=[Is (.bool false),Is (.slice none 0 0),Is (.bool false),Is (.slice none 0 0),Is (.slice none 0 0)]) O_130 rfl (fun V=>aW zd (aW zd (aW zd (aW zd (aW zd (aG))))))) fun B2=>(eW (ts (ro rfl (eG sM (Ht rfl) rfl) (ro rfl (eK A_128 Z_128 (Ht rfl) (i:=0) rfl rfl rfl) (ro rfl (aM.imp (Zy ) xF) ?_)))))))))
 refine ro rfl (eG qR (Ht rfl) rfl) (ro rfl (fZ A_55 Z_55 (Ht rfl) (i:=0) rfl rfl) (ro rfl (cJ Tryz.call202 (Sz (by first | assumption | omega) zo zo zo) ⟨(Ht rfl),(Ht rfl),(Ht rfl),trivial⟩) (gJ Z_130 (Ht rfl) (Ht rfl) rfl (i:=1) rfl (aK rfl) rfl rfl (eW (fU rfl (fV (gQ A_130 Z_130 rfl (i:=1) rfl rfl) ?_))))))
 exact (a8h (Qi.mk_im0 x))
theorem Ta {x:Qi}:bB Tryz.prog 209 [QT x] (aL .i64 (nM x.a 0)):=by
 refine bB.intro Tryz.func209 rfl Tryz.ntmps209 rfl (fun cx=>(ts (rn rfl (fY (Ht rfl)) fun B1=>(ro rfl (cX (cV 0)) (eW (cU (ts (ro rfl (eG sL (Ht rfl) rfl) (ro rfl (eG qQ (Ht rfl) rfl) (ro rfl (fZ A_4 Z_4 (Ht rfl) (i:=0) rfl rfl) (eW (dX (Ht rfl) (fun hb=>?_) (fun hb=>?_)))))))))))))
 ·simp only [decide_eq_true_eq] at hb
  refine ts (ro rfl (cX cW) (eW (fU rfl (fV (fX rfl) ?_))))
  exact (aR (by rw [nM,if_pos hb]))
 ·simp only [decide_eq_false_iff_not] at hb
  refine cY (cU (ts (ro rfl (eG sL (Ht rfl) rfl) (ro rfl (eG lT (Ht rfl) rfl) (ro rfl (fZ A_55 Z_55 (Ht rfl) (i:=0) rfl rfl) (ro rfl (dY U_55 (Ht rfl) aB) (ro rfl (fM (Ht rfl) (cV 0)) (eW (dX (Ht rfl) (fun hc=>?_) (fun hc=>?_))))))))))
  ·simp only [decide_eq_true_eq] at hc
   have h0:x.a ≠ 0:=fun e=>by rw [e] at hc; simp [eO] at hc
   refine ts (ro rfl (cX (cV 1)) (eW (fU rfl (fV (fX rfl) ?_))))
   exact (aR (by rw [nM,if_neg hb,if_pos zo]; rfl))
  ·simp only [decide_eq_false_iff_not] at hc
   have h0:x.a = 0:=by have:=aP.1 (Nat.eq_zero_of_not_pos hc); omega
   refine cY (ts (ro rfl (cX (cV 0)) (eW (fU rfl (fV (fX rfl) ?_)))))
   exact (aR (by rw [nM,if_neg hb,if_neg zo]; rfl))
theorem a37 {x:Qi} {L:Nat} [hx:aF x L] (h:L ≤ 17592186044415):bB Tryz.prog 242 [QT x] (aL .i64 (nM x.b 0)):=by
 refine bB.intro Tryz.func242 rfl Tryz.ntmps242 rfl (fun cx=>(ts (rn rfl (fY (Ht rfl)) fun B1=>(ro rfl (cX (cV 0)) (eW (ts (ro rfl (eK A_130 Z_130 (Ht rfl) (i:=0) rfl rfl rfl) (ro rfl (cJ Tryz.call271 (a7L zo) ⟨(Ht rfl),trivial⟩) (ro rfl (cJ Tryz.call209 Ta ⟨(Ht rfl),trivial⟩) (ra rfl (eW (fU rfl (fV (fX rfl) ?_)))))))))))))
 exact (aR (a4I x))
theorem tX {x y:Qi} {L M:Nat} [hx:aF x L] [hy:aF y M] (h:L + 3 * M + 2 ≤ 17592186044415):bB Tryz.prog 64 [aI x,aI y] (eH [aI (x / y),aL .i64 (if y = Qi.zero then 3 else 0)]):=by
 have hxa:=oH hx.fit; have hxb:=oI hx.fit; have hxd:=oJ hx.fit
 have hya:=oH hy.fit; have hyb:=oI hy.fit; have hyd:=oJ hy.fit
 have hxp:=x.den_pos; have hyp:=y.den_pos; have hMp:=hy.pos
 refine bB.intro Tryz.func64 rfl Tryz.ntmps64 rfl (fun cx=>(ts (rn rfl (fY (Ht rfl)) fun B2=>(rn rfl (fY (Ht rfl)) fun B3=>(rn rfl (eU (Ts:=[Is (.bool false),Is (.slice none 0 0),Is (.bool false),Is (.slice none 0 0),Is (.slice none 0 0)]) O_60 rfl (fun V=>aW zd (aW zd (aW zd (aW zd (aW zd (aG))))))) fun B4=>(ro rfl (cX (cV 0)) (eW (cU (ts (ro rfl (eK A_60 Z_60 (Ht rfl) (i:=1) rfl rfl rfl) ?_))))))))))
 refine ro rfl (cJ Tryz.call82 (xO zo) ⟨(Ht rfl),trivial⟩) (ro rfl (eS (Ht rfl)) (eW (dX (Ht rfl) (fun hb=>?_) (fun hb=>?_))))
 ·have h0 : y = Qi.zero := by simpa using hb
  refine ts (ro rfl (aM.imp (uZ ) qV) (gJ Z_60 (Ht rfl) (Ht rfl) rfl (i:=2) rfl (aK rfl) rfl rfl (ro rfl (cX (cV 3)) (eW (bN rfl (fV (gQ A_60 Z_60 rfl (i:=2) rfl rfl) ?_) (fV (fX rfl) ?_))))))
  ·exact (jA (by rw [h0,Qi.div_zero]))
  ·exact (aR (by rw [if_pos h0]; rfl))
 ·have h0 : y ≠ Qi.zero := by simpa using hb
  have g1:=nD y.a y.a; have g2:=nD y.b y.b; have g3:=wV y.b
  have g4:=oL (x:=y.a * y.a) (y:=y.b * y.b) (L:=M + M) zo zo
  obtain ⟨c,hc⟩:∃ c,c = Qi.mk' y.a (-y.b) 1:=⟨_,rfl⟩
  obtain ⟨z,hz⟩:∃ z,z = x * c:=⟨_,rfl⟩
  have l1:(dg 1).length ≤ 1:=by rw [a0v (by decide) (by decide)]; exact Nat.le_refl _
  haveI fc:aF c M:=hc ▸ ⟨Qi.Fit.mk (by decide) hy.fit.1 (by rw [Int.natAbs_neg]; exact hy.fit.2.1) (Qi.one_lt hMp)⟩
  haveI fz:aF z (L + M + 1):=hz ▸ fitMul
  have hza:=oH fz.fit; have hzb:=oI fz.fit; have hzd:=oJ fz.fit
  have hnp:=Qi.nrm_int_pos h0
  have hm:(((y.a * y.a + y.b * y.b).natAbs:Nat):Int) = y.a * y.a + y.b * y.b:=Int.natAbs_of_nonneg zo
  have hdp2:=Nat.mul_pos z.den_pos (show 0 < (y.a * y.a + y.b * y.b).natAbs by omega)
  have e1:=iO z.a y.den; have e2:=iO z.b y.den; have e3:=Ae z.den (y.a * y.a + y.b * y.b).natAbs
  refine cY (cU (fW (m:=12) (dp 3 rfl (eG gM (Ht rfl) rfl) (dq 12 0 rfl (eK A_58 Z_58 (Ht rfl) (i:=1) rfl rfl rfl) (dp 3 rfl (eG gM (Ht rfl) rfl) (dq 14 2 rfl (eK A_58 Z_58 (Ht rfl) (i:=1) rfl rfl rfl) (dE 13 1 15 3 rfl (cJ K_151 (rJ zo zo) ⟨(Ht rfl),(Ht rfl),trivial⟩) (dp 3 rfl (eG iF (Ht rfl) rfl) (dq 17 5 rfl (eK A_58 Z_58 (Ht rfl) (i:=1) rfl rfl rfl) (dp 3 rfl (eG iF (Ht rfl) rfl) (dq 19 7 rfl (eK A_58 Z_58 (Ht rfl) (i:=1) rfl rfl rfl) ?_)))))))))))
  refine dE 18 6 20 8 rfl (cJ K_151 (rJ zo zo) ⟨(Ht rfl),(Ht rfl),trivial⟩) (dE 16 4 21 9 rfl (cJ K_152 (wT zo zo) ⟨(Ht rfl),(Ht rfl),trivial⟩) (C.D_new (Ei:=[]) rfl rfl rfl bW (eU (Ts:=[Is (.bool false),Is (.slice none 0 0)]) O_58 rfl (fun V=>aW zd (aW zd (aG)))) (fK aS rfl (by kernel_rfl) (zF (zF (aJ (aJ (aJ (C.F_new (fun B6=>aV (gJ Z_58 (Ht rfl) (Ht rfl) rfl (i:=3) rfl (aK rfl) rfl rfl ?_)))))))))))
  refine eW (cU (fW (m:=10) (dp 2 rfl (eK A_60 Z_60 (Ht rfl) (i:=0) rfl rfl rfl) (dp 3 rfl (eG gM (Ht rfl) rfl) (dq 24 1 rfl (eK A_58 Z_58 (Ht rfl) (i:=1) rfl rfl rfl) (dp 3 rfl (eG iF (Ht rfl) rfl) (dq 26 3 rfl (eK A_58 Z_58 (Ht rfl) (i:=1) rfl rfl rfl) (dq 27 4 rfl (cJ K_167 rI ⟨(Ht rfl),trivial⟩) (d0 rfl (aM.imp (eB (xs:=[_]) U_56 Z_218 O_218 (cG (cV 1) cK) rfl rfl rfl) Nl) (C.D_step (Ei:=[(25,_),(28,_),(29,_)]) rfl rfl (bV (bG 2 rfl rfl) (bV (bG 5 rfl rfl) (bV (bG 6 rfl rfl) bW))) (dZ rfl (aM.imp (cJ K_150 (wS (by first | assumption | omega) zo zo zo) ⟨(Ht rfl),(Ht rfl),(Ht rfl),trivial⟩) (jA hc.symm))) ?_))))))))))
  refine dE 23 0 30 7 rfl (aM.imp (cJ K_70 (lS zo) ⟨(Ht rfl),(Ht rfl),trivial⟩) (jA hz.symm)) (C.D_new (Ei:=[]) rfl rfl rfl bW (eU (Ts:=[Is (.bool false),Is (.slice none 0 0),Is (.bool false),Is (.slice none 0 0),Is (.slice none 0 0)]) O_60 rfl (fun V=>aW zd (aW zd (aW zd (aW zd (aW zd (aG))))))) (fK aS rfl (by kernel_rfl) (zF (zF (aJ (C.F_new (fun B7=>aV ?_)))))))
  refine gJ Z_60 (Ht rfl) (Ht rfl) rfl (i:=4) rfl (aK rfl) rfl rfl (eW (cU (fW (m:=14) (dp 7 rfl (eG gM (Ht rfl) rfl) (dq 32 0 rfl (eK A_58 Z_58 (Ht rfl) (i:=4) rfl rfl rfl) (dp 3 rfl (eK A_60 Z_60 (Ht rfl) (i:=1) rfl rfl rfl) (dq 34 2 rfl (cJ K_153 pV ⟨(Ht rfl),trivial⟩) (dE 33 1 35 3 rfl (cJ K_155 (mT zo zo) ⟨(Ht rfl),(Ht rfl),trivial⟩) (dp 7 rfl (eG iF (Ht rfl) rfl) (dq 37 5 rfl (eK A_58 Z_58 (Ht rfl) (i:=4) rfl rfl rfl) ?_))))))))))
  refine dp 3 rfl (eK A_60 Z_60 (Ht rfl) (i:=1) rfl rfl rfl) (dq 39 7 rfl (cJ K_153 pV ⟨(Ht rfl),trivial⟩) (dE 38 6 40 8 rfl (cJ K_155 (mT zo zo) ⟨(Ht rfl),(Ht rfl),trivial⟩) (dp 7 rfl (eK A_60 Z_60 (Ht rfl) (i:=4) rfl rfl rfl) (dq 42 10 rfl (cJ K_153 pV ⟨(Ht rfl),trivial⟩) (dp 6 rfl (eG fL (Ht rfl) rfl) (dq 44 12 rfl (fZ A_56 Z_56 (Ht rfl) (i:=3) rfl rfl) (fK aS rfl (by kernel_rfl) (zF (zF (zF (aJ (aJ (aV ?_)))))))))))))
  refine ro rfl (cJ K_154 (Gz zo zo) ⟨(Ht rfl),(Ht rfl),trivial⟩) (ro rfl (cJ K_150 (wS (by first | assumption | omega) zo zo zo) ⟨(Ht rfl),(Ht rfl),(Ht rfl),trivial⟩) (gJ Z_60 (Ht rfl) (Ht rfl) rfl (i:=2) rfl (aK rfl) rfl rfl (ro rfl (cX (cV 0)) (eW (bN rfl (fV (gQ A_60 Z_60 rfl (i:=2) rfl rfl) ?_) (fV (fX rfl) ?_))))))
  ·exact (jA (Qi.mk_divP x h0 (hc ▸ hz) hm))
  ·exact (aR (by rw [if_neg h0]; rfl))
theorem vA {a:Int} {d:Nat} (hd:0 < d) (ha:(dg a.natAbs).length ≤ 8796093022208) (hd2:(dg d).length ≤ 8796093022208):bB Tryz.prog 243 [iE a,aN d] (sF (uP a d)):=by
 have hg:=Ec ha hd2
 have hg0:Nat.gcd a.natAbs d ≠ 0:=fun e=>by have:=Nat.gcd_eq_zero_iff.1 e; omega
 have h1:=Jh a.natAbs (Nat.gcd a.natAbs d); have h2:=Jh d (Nat.gcd a.natAbs d)
 rw [a4t a hd]
 obtain ⟨u,hu⟩:∃ u,u = a.natAbs / Nat.gcd a.natAbs d:=⟨_,rfl⟩
 obtain ⟨v,hv⟩:∃ v,v = d / Nat.gcd a.natAbs d:=⟨_,rfl⟩
 rw [← hu,← hv]
 rw [← hu] at h1
 rw [← hv] at h2
 have h3:=tJ u; have h4:=tJ v
 refine bB.intro Tryz.func243 rfl Tryz.ntmps243 rfl (fun cx=>(ts (rn rfl (fY (Ht rfl)) fun B2=>(ro rfl (cX (bH.cS (l:=[]) rfl)) (eW (ts (ro rfl (eG lT (Ht rfl) rfl) (ro rfl (fZ A_55 Z_55 (Ht rfl) (i:=0) rfl rfl) (rm rfl (ro rfl (cJ Tryz.call249 (Qc zo zo) ⟨(Ht rfl),(Ht rfl),trivial⟩) (ra rfl (eW (ts (ro rfl (eG lT (Ht rfl) rfl) (ro rfl (fZ A_55 Z_55 (Ht rfl) (i:=0) rfl rfl) (rm rfl (ro rfl (cJ K_250 (zY zo zo zo) ⟨(Ht rfl),(Ht rfl),trivial⟩) ?_)))))))))))))))))
 refine rm rfl (ro rfl (aM.imp (eQ (Ht rfl) rfl) (dL hu.symm)) (ro rfl (eQ (Ht rfl) rfl) (ra rfl (ra rfl (eW (ts (rm rfl (rm rfl (ro rfl (cJ K_250 (zY zo zo zo) ⟨(Ht rfl),(Ht rfl),trivial⟩) (rm rfl (ro rfl (aM.imp (eQ (Ht rfl) rfl) (dL hv.symm)) (ro rfl (eQ (Ht rfl) rfl) (ra rfl (ra rfl (eW (ts (rm rfl (ro rfl (cJ Tryz.call272 (Tb zo) ⟨(Ht rfl),trivial⟩) (ra rfl (eW (cU (jU (fun (uu:Unit)=>True) (fun (uu:Unit)=>[(8,aN v),(10,sF (if a < 0 then 45 :: wJ u else wJ u))]) (fun (uu:Unit)=>[box B2 128 [aH (decide (a < 0)),aN (a).natAbs]]) ?_ (fun uu _=>?_)))))))))))))))))))))))
 ·refine ts (ro rfl (eG qQ (Ht rfl) rfl) (ro rfl (fZ A_4 Z_4 (Ht rfl) (i := 0) rfl rfl) (eW (dX (Ht rfl) (fun hb => ?_) (fun hb => ?_)))))
  ·simp only [decide_eq_true_eq] at hb
   refine dQ (rm rfl (ro rfl (lD (bH.cS (l:=[45]) rfl) (Ht rfl) (by first | omega | (simp; omega))) (ra rfl (eW (aT () trivial (aQ rfl (aZ rfl (kI (by rw [if_pos hb]; rfl)) aX)) (dI.refl _))))))
  ·simp only [decide_eq_false_iff_not] at hb
   refine cY (aT () trivial (aQ rfl (aZ rfl (kI (by rw [if_neg hb])) aX)) (dI.refl _))
 ·have h6 : (if a < 0 then 45 :: wJ u else wJ u).length ≤ (wJ u).length + 1 := by split <;> simp
  refine cU (ts (rm rfl (ro rfl (dY U_55 (Ht rfl) aB) (ro rfl (cL (Ht rfl) (cV 1)) (rm rfl (fJ rfl rfl (fQ rfl rfl (Ht rfl) (fun h=>cZ (Ht rfl))) (fJ rfl rfl (fQ rfl rfl (Ht rfl) (fun h=>dJ U_55 Z_218 (fG rfl h) (cV 0) rfl (eZ (aO (by first | omega | (simp at h; omega)))))) (fJ rfl rfl (fQ rfl rfl (Ht rfl) (fun h=>dW A_218 Z_218 (fG rfl h))) (fJ rfl rfl (fQ rfl rfl (Ht rfl) (fun h=>cL (fG rfl h) (cV 1))) (ro rfl (fC (Ht rfl) (fun h=>(fG rfl h))) ?_))))))))))
  refine eW (dX (Ht rfl) (fun hc=>?_) (fun hc=>?_))
  ·rw [Kf] at hc
   have hv1:v = 1:=by simpa using hc
   refine ts (rm rfl (ra rfl (eW (fU rfl (fV (fX rfl) ?_)))))
   exact (kI (by rw [if_pos hv1,List.append_nil]))
  ·rw [Kf] at hc
   have hv1:v ≠ 1:=by simpa using hc
   refine cY (ts (rm rfl (ro rfl (lD (Ht rfl) (bH.cS (l:=[47]) rfl) (by simp only [List.length_cons,List.length_nil]; omega)) ?_)))
   refine rm rfl (ro rfl (cJ Tryz.call272 (Tb zo) ⟨(Ht rfl),trivial⟩) (ro rfl (lD (Ht rfl) (Ht rfl) (by simp only [List.length_append,List.length_cons,List.length_nil]; omega)) ?_))
   refine ra rfl (eW (fU rfl (fV (fX rfl) ?_)))
   exact (kI (by rw [if_neg hv1,List.append_assoc]; rfl))
theorem a5X {x:Qi} {L:Nat} [hx:aF x L] (h:L ≤ 8796093022208):bB Tryz.prog 179 [QT x] (sF (Ze x)):=by
 have hxa:=oH hx.fit; have hxb:=oI hx.fit; have hxd:=oJ hx.fit
 have hdp:=x.den_pos
 have l1:=zC x.a hdp; have l2:=zC x.b hdp
 refine bB.intro Tryz.func179 rfl Tryz.ntmps179 rfl (fun cx=>(ts (rn rfl (fY (Ht rfl)) fun B1=>(ro rfl (cX (bH.cS (l:=[]) rfl)) (eW (cU (ts (ro rfl (eG sM (Ht rfl) rfl) (ro rfl (eG lT (Ht rfl) rfl) (ro rfl (fZ A_55 Z_55 (Ht rfl) (i:=0) rfl rfl) (ro rfl (dY U_55 (Ht rfl) aB) (ro rfl (cL (Ht rfl) (cV 0)) (eW (dX (Ht rfl) (fun hb=>?_) (fun hb=>?_)))))))))))))))
 ·simp only [decide_eq_true_eq] at hb
  have h0:x.b = 0:=by have:=aP.1 hb; omega
  refine ts (ro rfl (eG sL (Ht rfl) rfl) (ro rfl (eK A_128 Z_128 (Ht rfl) (i:=0) rfl rfl rfl) (ro rfl (eG qR (Ht rfl) rfl) (ro rfl (fZ A_55 Z_55 (Ht rfl) (i:=0) rfl rfl) (ro rfl (cJ K_243 (vA (by assumption) zo zo) ⟨(Ht rfl),(Ht rfl),trivial⟩) ?_)))))
  refine ra rfl (eW (fU rfl (fV (fX rfl) ?_)))
  exact (kI (by rw [Ze,if_pos h0]))
 ·simp only [decide_eq_false_iff_not] at hb
  have h0:x.b ≠ 0:=fun e=>hb (by rw [e]; exact aP.2 rfl)
  refine cY (cU (ts (ro rfl (eG sL (Ht rfl) rfl) (ro rfl (eG lT (Ht rfl) rfl) (ro rfl (fZ A_55 Z_55 (Ht rfl) (i:=0) rfl rfl) (ro rfl (dY U_55 (Ht rfl) aB) (ro rfl (cL (Ht rfl) (cV 0)) (eW (dX (Ht rfl) (fun hc=>?_) (fun hc=>?_))))))))))
  ·simp only [decide_eq_true_eq] at hc
   have h1:x.a = 0:=by have:=aP.1 hc; omega
   refine ts (ro rfl (eG sM (Ht rfl) rfl) (ro rfl (eK A_128 Z_128 (Ht rfl) (i:=0) rfl rfl rfl) (ro rfl (eG qR (Ht rfl) rfl) (ro rfl (fZ A_55 Z_55 (Ht rfl) (i:=0) rfl rfl) (ro rfl (cJ K_243 (vA (by assumption) zo zo) ⟨(Ht rfl),(Ht rfl),trivial⟩) ?_)))))
   refine ro rfl (lD (Ht rfl) (bH.cS (l:=[105]) rfl) (by first | omega | (simp only [List.length_append,List.length_cons,List.length_nil]; omega))) (ra rfl (eW (fU rfl (fV (fX rfl) ?_))))
   exact (kI (by rw [Ze,if_neg h0,if_pos h1]))
  ·simp only [decide_eq_false_iff_not] at hc
   have h1:x.a ≠ 0:=fun e=>hc (by rw [e]; exact aP.2 rfl)
   refine cY (cU (ts (ro rfl (eG sM (Ht rfl) rfl) (ro rfl (eG qQ (Ht rfl) rfl) (ro rfl (fZ A_4 Z_4 (Ht rfl) (i:=0) rfl rfl) (eW (dX (Ht rfl) (fun hd=>?_) (fun hd=>?_))))))))
   ·simp only [decide_eq_true_eq] at hd
    refine cU (fW (m:=9) (dp 1 rfl (eG sL (Ht rfl) rfl) (dq 27 0 rfl (eK A_128 Z_128 (Ht rfl) (i:=0) rfl rfl rfl) (dp 1 rfl (eG qR (Ht rfl) rfl) (dq 29 2 rfl (fZ A_55 Z_55 (Ht rfl) (i:=0) rfl rfl) (dE 28 1 30 3 rfl (cJ K_243 (vA (by assumption) zo zo) ⟨(Ht rfl),(Ht rfl),trivial⟩) ?_))))))
    refine dp 1 rfl (eG sM (Ht rfl) rfl) (dq 32 5 rfl (eK A_128 Z_128 (Ht rfl) (i:=0) rfl rfl rfl) (dp 1 rfl (eG qR (Ht rfl) rfl) (dq 34 7 rfl (fZ A_55 Z_55 (Ht rfl) (i:=0) rfl rfl) (fK aS rfl (by kernel_rfl) (zF (zF (aJ (aV (ro rfl (cJ K_243 (vA (by assumption) zo zo) ⟨(Ht rfl),(Ht rfl),trivial⟩) ?_)))))))))
    refine ro rfl (lD (Ht rfl) (Ht rfl) (by first | omega | (simp only [List.length_append,List.length_cons,List.length_nil]; omega))) (ro rfl (lD (Ht rfl) (bH.cS (l:=[105]) rfl) (by first | omega | (simp only [List.length_append,List.length_cons,List.length_nil]; omega))) (ra rfl (eW (fU rfl (fV (fX rfl) ?_)))))
    exact (kI (by rw [Ze,if_neg h0,if_neg h1,if_pos hd,List.append_assoc]))
   ·simp only [decide_eq_false_iff_not] at hd
    refine cY (cU (fW (m:=11) (dp 1 rfl (eG sL (Ht rfl) rfl) (dq 39 0 rfl (eK A_128 Z_128 (Ht rfl) (i:=0) rfl rfl rfl) (dp 1 rfl (eG qR (Ht rfl) rfl) (dq 41 2 rfl (fZ A_55 Z_55 (Ht rfl) (i:=0) rfl rfl) (dE 40 1 42 3 rfl (cJ K_243 (vA (by assumption) zo zo) ⟨(Ht rfl),(Ht rfl),trivial⟩) ?_)))))))
    refine dq 43 4 rfl (lD (Ht rfl) (bH.cS (l:=[43]) rfl) (by first | omega | (simp only [List.length_append,List.length_cons,List.length_nil]; omega))) (dp 1 rfl (eG sM (Ht rfl) rfl) (dq 45 6 rfl (eK A_128 Z_128 (Ht rfl) (i:=0) rfl rfl rfl) (dp 1 rfl (eG qR (Ht rfl) rfl) (dq 47 8 rfl (fZ A_55 Z_55 (Ht rfl) (i:=0) rfl rfl) (dE 46 7 48 9 rfl (cJ K_243 (vA (by assumption) zo zo) ⟨(Ht rfl),(Ht rfl),trivial⟩) ?_)))))
    refine fK aS rfl (by kernel_rfl) (zF (zF (aJ (aJ (aJ (aV (ro rfl (lD (Ht rfl) (Ht rfl) (by first | omega | (simp only [List.length_append,List.length_cons,List.length_nil]; omega))) (ro rfl (lD (Ht rfl) (bH.cS (l:=[105]) rfl) (by first | omega | (simp only [List.length_append,List.length_cons,List.length_nil]; omega))) (ra rfl (eW (fU rfl (fV (fX rfl) ?_))))))))))))
    exact (kI (by rw [Ze,if_neg h0,if_neg h1,if_neg hd,List.append_assoc,List.append_assoc]; rfl))
theorem Su {x y:Qi} {L M:Nat} [hx:aF x L] [hy:aF y M] (h:L ≤ 8796093022208) (h2:M ≤ 8796093022208):bB Tryz.prog 79 [aI x,QT y] (aH (decide (Ze x = Ze y))):=by
 refine bB.intro Tryz.func79 rfl Tryz.ntmps79 rfl (fun cx=>(ts (rn rfl (fY (Ht rfl)) fun B2=>(rn rfl (fY (Ht rfl)) fun B3=>(ro rfl (cX cW) (eW (cU (fW (m:=3) (dp 2 rfl (eK A_60 Z_60 (Ht rfl) (i:=0) rfl rfl rfl) (dq 5 0 rfl (cJ Tryz.call115 (a0f zo) ⟨(Ht rfl),trivial⟩) (dp 3 rfl (eK A_130 Z_130 (Ht rfl) (i:=1) rfl rfl rfl) (fK aS rfl (by kernel_rfl) (aJ (aJ (aJ (aV (ro rfl (cJ Tryz.call179 (a5X zo) ⟨(Ht rfl),trivial⟩) (ro rfl (a1x (Ht rfl) (Ht rfl)) ?_))))))))))))))))))
 refine ra rfl (eW ?_)
 exact fU rfl (fX rfl)
end
section
open Go Go.RowKit
theorem yC:Tryz.prog.info? 25 = some Tryz.t25:=by kernel_rfl
end
section
open Go Go.RowKit
theorem Ps {γ:Type} {l:List γ} {T:γ → Ty} {p:γ → Bool} [sh:∀ x,dD (T x) 5 true] (hl:l.length ≤ 1000000):bB Tryz.prog 207 [kU 5 (l.map T),Gg Tryz.prog γ (fun x=>[T x]) (fun x=>aH (p x))] (aL .i64 (Jt p l)):=by
 refine bB.intro Tryz.func207 rfl Tryz.ntmps207 rfl (fun cx=>(ts (ro rfl (cX (cV 0)) (eW (cU (ts (rm rfl (ro rfl (dY U_25 (Ht rfl) aB) (ro rfl (cZ (cV 0)) (eW (eY ?_)))))))))))
 refine cP (fun (k : Nat) => k ≤ l.length ∧ ∀ (i : Nat) (x : γ), i < k → l[i]? = some x → p x = false) (fun (k : Nat) => l.length - k) (fun (k : Nat) => [(0, kU 5 (l.map T)), (1, Gg Tryz.prog γ (fun x => [T x]) (fun x => aH (p x))), (7, NT .i64 l.length), (8, NT .i64 k)]) (fun (k : Nat) => []) 0 ⟨Nat.zero_le _, fun i x h => by omega⟩
  (zS rfl) aY (fun k ⟨hk,hn⟩=>?_)
 refine ts (ro rfl (gV (Ht rfl) (Ht rfl)) (eW (cU (dX (Ht rfl) (fun hb=>?_) (fun hb=>?_)))))
 ·simp only [decide_eq_true_eq] at hb
  refine cY (cU (eY (ts (rm rfl (ra rfl (eW (ts (rm rfl (rm rfl (rm rfl (ro rfl (dJ U_25 Z_60 (Ht rfl) (Ht rfl) rfl (eZ (tY hb))) (ro rfl (dW A_60 Z_60 (Ht rfl)) (ro rfl (nX (l[k]) (Ht rfl) ⟨(Ht rfl),trivial⟩) (eW (dX (Ht rfl) (fun hc=>?_) (fun hc=>?_))))))))))))))))
  ·have hp : p l[k] = true := hc
   refine ts (rm rfl (ra rfl (eW (fU rfl (fV (fX rfl) ?_)))))
   exact (aR (Ju (tY hb) hp hn).symm)
  ·have hp : p l[k] = false := hc
   refine cY (bM (dQ (ro rfl (dK (Ht rfl) (cV 1) z6) (rm rfl (eW ?_)))))
   refine gX (k + 1) ⟨hb, fun i x h1 h2 => by
    by_cases e:i = k
    ·subst e; rw [tY hb] at h2; obtain rfl:=Option.some.inj h2; exact hp
    ·exact hn i x zo h2⟩ zo (zS rfl) aY
 ·simp only [decide_eq_false_iff_not] at hb
  refine gK rfl (ts (ro rfl (cX cW) (eW (fU rfl (fV (fX rfl) ?_)))))
  exact (aR (Aj (fun i x h=>hn i x (by have:=(List.getElem?_eq_some_iff.1 h).1; omega) h)).symm)
theorem Gj {γ:Type} {l:List γ} {T:γ → Ty} {p:γ → Bool} [sh:∀ x,dD (T x) 5 true] (hl:l.length ≤ 1000000):bB Tryz.prog 103 [kU 5 (l.map T),Gg Tryz.prog γ (fun x=>[T x]) (fun x=>aH (p x))] (aH (l.any p)):=by
 refine bB.intro Tryz.func103 rfl Tryz.ntmps103 rfl (fun cx=>(ts (ro rfl (cX cW) (eW (ts (rm rfl (rm rfl (ro rfl (cJ Tryz.call207 (Ps zo) ⟨(Ht rfl),(Ht rfl),trivial⟩) (ro rfl (nY (Ht rfl) cW) (ra rfl (eW (fU rfl (fV (fX rfl) ?_)))))))))))))
 exact (fA (Ep p l))
theorem Pt {γ:Type} {l:List γ} {T:γ → Ty} {p:γ → Bool} [sh:∀ x,dD (T x) 1 false] (hl:l.length ≤ 1000000):bB Tryz.prog 262 [kU 1 (l.map T),Gg Tryz.prog γ (fun x=>[T x]) (fun x=>aH (p x))] (aL .i64 (Jt p l)):=by
 refine bB.intro Tryz.func262 rfl Tryz.ntmps262 rfl (fun cx=>(ts (ro rfl (cX (cV 0)) (eW (cU (ts (rm rfl (ro rfl (dY U_26 (Ht rfl) aB) (ro rfl (cZ (cV 0)) (eW (eY ?_)))))))))))
 refine cP (fun (k : Nat) => k ≤ l.length ∧ ∀ (i : Nat) (x : γ), i < k → l[i]? = some x → p x = false) (fun (k : Nat) => l.length - k) (fun (k : Nat) => [(0, kU 1 (l.map T)), (1, Gg Tryz.prog γ (fun x => [T x]) (fun x => aH (p x))), (7, NT .i64 l.length), (8, NT .i64 k)]) (fun (k : Nat) => []) 0 ⟨Nat.zero_le _, fun i x h => by omega⟩
  (zS rfl) aY (fun k ⟨hk,hn⟩=>?_)
 refine ts (ro rfl (gV (Ht rfl) (Ht rfl)) (eW (cU (dX (Ht rfl) (fun hb=>?_) (fun hb=>?_)))))
 ·simp only [decide_eq_true_eq] at hb
  refine cY (cU (eY (ts (rm rfl (ra rfl (eW (ts (rm rfl (rm rfl (rm rfl (ro rfl (dJ U_26 Z_25 (Ht rfl) (Ht rfl) rfl (eZ (tY hb))) (ro rfl (dW A_25 Z_25 (Ht rfl)) (ro rfl (nX (l[k]) (Ht rfl) ⟨(Ht rfl),trivial⟩) (eW (dX (Ht rfl) (fun hc=>?_) (fun hc=>?_))))))))))))))))
  ·have hp : p l[k] = true := hc
   refine ts (rm rfl (ra rfl (eW (fU rfl (fV (fX rfl) ?_)))))
   exact (aR (Ju (tY hb) hp hn).symm)
  ·have hp : p l[k] = false := hc
   refine cY (bM (dQ (ro rfl (dK (Ht rfl) (cV 1) z6) (rm rfl (eW ?_)))))
   refine gX (k + 1) ⟨hb, fun i x h1 h2 => by
    by_cases e:i = k
    ·subst e; rw [tY hb] at h2; obtain rfl:=Option.some.inj h2; exact hp
    ·exact hn i x zo h2⟩ zo (zS rfl) aY
 ·simp only [decide_eq_false_iff_not] at hb
  refine gK rfl (ts (ro rfl (cX cW) (eW (fU rfl (fV (fX rfl) ?_)))))
  exact (aR (Aj (fun i x h=>hn i x (by have:=(List.getElem?_eq_some_iff.1 h).1; omega) h)).symm)
theorem Gk {γ:Type} {l:List γ} {T:γ → Ty} {p:γ → Bool} [sh:∀ x,dD (T x) 1 false] (hl:l.length ≤ 1000000):bB Tryz.prog 227 [kU 1 (l.map T),Gg Tryz.prog γ (fun x=>[T x]) (fun x=>aH (p x))] (aH (l.any p)):=by
 refine bB.intro Tryz.func227 rfl Tryz.ntmps227 rfl (fun cx=>(ts (ro rfl (cX cW) (eW (ts (rm rfl (rm rfl (ro rfl (cJ Tryz.call262 (Pt zo) ⟨(Ht rfl),(Ht rfl),trivial⟩) (ro rfl (nY (Ht rfl) cW) (ra rfl (eW (fU rfl (fV (fX rfl) ?_)))))))))))))
 exact (fA (Ep p l))
theorem Qb {x:Qi} {L:Nat} [hx:aF x L] (h:L ≤ 8796093022208):bB Tryz.prog 223 [aI x] (aH (eA x)):=by
 haveI hz:aF Qi.zero 1:=aF.zero (Nat.le_refl 1)
 refine bB.intro Tryz.func223 rfl Tryz.ntmps223 rfl (fun cx=>(ts (rn rfl (fY (Ht rfl)) fun B1=>(ro rfl (cX cW) (eW (ts (ro rfl (eK A_60 Z_60 (Ht rfl) (i:=0) rfl rfl rfl) (ro rfl (cJ Tryz.call55 a0b ⟨(Ht rfl),trivial⟩) (rm rfl (fJ rfl rfl (fQ rfl rfl (Ht rfl) (fun h=>eK A_60 Z_60 (Ht rfl) (i:=0) rfl rfl rfl)) (fJ rfl rfl (fQ rfl rfl (Ht rfl) (fun h=>aM.imp (uZ ) qV)) (fJ rfl rfl (fQ rfl rfl (Ht rfl) (fun h=>cJ Tryz.call51 (a01 zo) ⟨(fG rfl h),(fG rfl h),trivial⟩)) ?_))))))))))))
 refine fJ rfl rfl (fQ rfl rfl (Ht rfl) (fun h=>Rj (fG rfl h) cW)) (ro rfl (fC (Ht rfl) (fun h=>(fG rfl h))) (ra rfl (eW (fU rfl (fV (fX rfl) ?_)))))
 exact (fA (a6T x))
theorem Ja {x:Qi} {L:Nat} [hx:aF x L] (h:L ≤ 8796093022208):bB Tryz.prog 222 [aI x] (aH (!eA x)):=by
 refine bB.intro Tryz.func222 rfl Tryz.ntmps222 rfl (fun cx=>(ts (rn rfl (fY (Ht rfl)) fun B1=>(ro rfl (cX cW) (eW (ts (ro rfl (eK A_60 Z_60 (Ht rfl) (i:=0) rfl rfl rfl) (ro rfl (cJ Tryz.call223 (Qb zo) ⟨(Ht rfl),trivial⟩) (ro rfl (eS (Ht rfl)) (ra rfl (eW ?_)))))))))))
 exact fU rfl (fX rfl)
theorem Ba {z:List Qi} {L:Nat} (hz:bI z L) (h:L ≤ 8796093022208) (hl:z.length ≤ 1000):bB Tryz.prog 129 [bC z] (aL .i64 (if z.all eA then 0 else 1)):=by
 obtain ⟨l,hzl⟩:∃ l:List {x:Qi // aF x L},z = l.map Subtype.val:=⟨z.attach.map fun x=>⟨x.1,hz x.1 x.2⟩,by simp⟩
 subst hzl
 have hll:l.length ≤ 1000:=by simpa using hl
 refine bB.intro Tryz.func129 rfl Tryz.ntmps129 rfl (fun cx=>(Ay (E':=[(0,_)]) (aZ rfl (kH (Us:=l.map fun x=>aI x.1) (by simp [List.map_map,Function.comp_def])) aX) ?_))
 refine ts (ro rfl (cX (cV 0)) (eW (cU (ts (rm rfl (ro rfl (cJ Tryz.call103 (Gj (l:=l) (T:=fun x=>aI x.1) (p:=fun x=>!eA x.1) zo) ⟨(Ht rfl),(bH.fn Tryz.call222 (γ:={x:Qi // aF x L}) (Ts:=fun x=>[aI x.1]) (U:=fun x=>aH (!eA x.1)) (fun x=>haveI:=x.2; Ja h)),trivial⟩) (eW (dX (Ht rfl) (fun hb=>?_) (fun hb=>?_)))))))))
 ·have hn : ¬ (l.map Subtype.val).all eA = true := by simp at hb ⊢; exact hb
  refine ts (ro rfl (cX (cV 1)) (eW (fU rfl (fV (fX rfl) ?_))))
  exact (aR (by rw [if_neg hn]; rfl))
 ·have hn : (l.map Subtype.val).all eA = true := by simp at hb ⊢; exact hb
  refine cY (ts (ro rfl (cX (cV 0)) (eW (fU rfl (fV (fX rfl) ?_)))))
  exact (aR (by rw [if_pos hn]; rfl))
theorem Ln {l:List Qi} (hl:l.length ≤ 1000):jM Tryz.prog 109 [bC l] [] (Value) (fun v=>Is v) (fun v=>[bP 60 5 v (l.map aI)]) (fun _=>True):=by
 refine jM.intro Tryz.func109 rfl Tryz.ntmps109 rfl (fun cx Z=>(ts (ro rfl (cX cW) (eW (cU (ts (rm rfl (ro rfl (a1y U_25 (Ht rfl)) (eW (a2y (Ht rfl) (fun hb=>?_) (fun hb=>?_)))))))))))
 ·have hT : l.map aI = [] := hb rfl
  refine ts (ro rfl (cX cW) (eW (uA 60 5 ?_)))
  exact lJ (.slice none 0 0) trivial [0,1] ⟨⟨_,rfl,fun _ _ _ h=>h⟩,⟨_,rfl,(bD hT.symm)⟩,trivial⟩ (by decide) (zJ rfl (fX rfl))
 ·refine cY (ts (rn rfl (Nf U_25 Z_60 O_60) fun B5 => (rm rfl (Gs (inf := Tryz.t60) lE jH rfl rfl rfl (Ht rfl) (Ht rfl) (i := 1) rfl (fun T hT => by obtain ⟨x, _, rfl⟩ := List.mem_map.1 hT; exact El.ag rfl) (by show _ * 88 ≤ _; simp only [List.length_map, List.length_nil]; omega) (by simp only [List.length_map, List.length_nil]; omega) rfl (fun v2 => ?_)))))
  refine ra rfl (eW ?_)
  exact lJ v2 trivial [0,1] ⟨⟨_,rfl,fun _ _ _ h=>h⟩,⟨_,rfl,fun _ _ _ h=>h⟩,trivial⟩ (by decide) (zJ rfl (fX rfl))
theorem Iv {l:List Qi} (hl:l.length ≤ 1000):bB Tryz.prog 109 [bC l] (bC l):=(Ln hl).fun fun v _=>fR
theorem Iw {n:Nat} {f:Nat → Nat → Qi} (hn:n ≤ 1000):jM Tryz.prog 110 [NT .i64 n,Gg Tryz.prog (Fin n × Fin n) (fun x=>[NT .i64 x.1.1,NT .i64 x.2.1]) (fun x=>aI (f x.1.1 x.2.1))] [] (Nat) (fun B=>Is (.slice (some ⟨B,0,none⟩) n n)) (fun B=>[qC B 25 60 5 (dO aI (tab n fun i=>tab n (f i)))]) (fun _=>True):=by
 refine jM.intro Tryz.func110 rfl Tryz.ntmps110 rfl (fun cx Z=>(ts (ro rfl (cX cW) (eW (ts (rm rfl (rn rfl (iI (T:=Is (.slice none 0 0)) (i:=Tryz.t25) V_26 yC rfl rfl (Ht rfl) rfl (fun _=>rfl) trivial (by show 24 * _ ≤ _; omega) zo) fun B9=>(ra rfl (eW (cU (ts (rm rfl (ro rfl (iV U_26 (Ht rfl)) (ro rfl (cZ (cV 0)) (eW (eY (tC 1 rfl (Ck (e:=60) (s:=5)) ?_)))))))))))))))))
 refine fP (fun (k : Nat) (m : List (List Qi)) => pH (fun i => tab n (f i)) n m k) (fun (k : Nat) (m : List (List Qi)) => n - k) (fun (k : Nat) (m : List (List Qi)) => [(0, NT .i64 n), (1, Gg Tryz.prog (Fin n × Fin n) (fun x => [NT .i64 x.1.1, NT .i64 x.2.1]) (fun x => aI (f x.1.1 x.2.1))), (5, Is (.slice (some ⟨B9, 0, none⟩) n n)), (11, NT .i64 n), (12, NT .i64 k)]) (fun (k : Nat) (m : List (List Qi)) => [Z, qC B9 25 60 5 (dO aI m)]) 0 (List.replicate n []) (pH.start _ _ _)
  (zS rfl) (aU (fun _ _ _ h=>h) (aU (fT (zH aI n)) aY)) (fun k m hS=>?_)
 refine ts (ro rfl (gV (Ht rfl) (Ht rfl)) (eW (cU (dX (Ht rfl) (fun hk=>?_) (fun hk=>?_)))))
 ·simp only [decide_eq_true_eq] at hk
  have hlen:=hS.len
  refine tD 1 (k) rfl (pJ (m:=m) (i:=k) zo) (fun v=>(cY (cU (eY (ts (rm rfl (ra rfl (eW (ts (rm rfl (rm rfl (rm rfl (rn rfl (iU (T:=aI Qi.zero) (i:=Tryz.t60) lE jH rfl rfl (Ht rfl) rfl jB (El.ag rfl) (by show 88 * _ ≤ _; omega) zo) fun B18=>(ro rfl (gZ U_26 Z_25 (Ht rfl) (Ht rfl) rfl zo (by rw [Nat.mul_one,Nat.zero_add])) ?_))))))))))))))
  refine Gt Z_25 (Ht rfl) (Ht rfl) (by simp; omega) (j:=1) (l:=3) rfl rfl rfl ?_
  refine eW (cU (cM [0,1,3] rfl (by decide) (dQ (rm rfl (rm rfl (ro rfl (gZ U_26 Z_25 (Ht rfl) (Ht rfl) rfl zo (by rw [Nat.mul_one,Nat.zero_add])) ?_))))))
  refine ro rfl (pR A_25 Z_25 (Ht rfl) (j:=1) rfl) (ro rfl (oX U_25 (Ht rfl) (i:=2) rfl (show ((List.replicate n (aI Qi.zero)).length:Int) = ((n:Nat):Int) by simp)) (ro rfl (cZ (cV 0)) (eW (eY ?_))))
  refine fP (fun (j : Nat) (out : List Qi) => pH (f k) n out j) (fun (j : Nat) (out : List Qi) => n - j) (fun (j : Nat) (out : List Qi) => [(0, NT .i64 n), (1, Gg Tryz.prog (Fin n × Fin n) (fun x => [NT .i64 x.1.1, NT .i64 x.2.1]) (fun x => aI (f x.1.1 x.2.1))), (5, Is (.slice (some ⟨B9, 0, none⟩) n n)), (6, NT .i64 k), (11, NT .i64 n), (12, NT .i64 k), (24, NT .i64 n), (25, NT .i64 j)]) (fun (j : Nat) (out : List Qi) => [Z, Xy B9 25 60 5 (dO aI m) k B18, bP 60 5 B18 (out.map aI)]) 0 (List.replicate n Qi.zero) (pH.start _ _ _)
   (zS rfl) (aU (fun _ _ _ h=>h) (aU (fun _ _ _ h=>h) (aU (bD (uS aI _ _)) aY))) (fun j out hT=>?_)
  refine ts (ro rfl (gV (Ht rfl) (Ht rfl)) (eW (cU (dX (Ht rfl) (fun hj=>?_) (fun hj=>?_)))))
  ·simp only [decide_eq_true_eq] at hj
   have hlen2:=hT.len
   refine cY (cU (eY (ts (rm rfl (ra rfl (eW (fW (m:=9) (dp 5 rfl (cZ (Ht rfl)) (dp 6 rfl (cZ (Ht rfl)) (dE 28 0 29 1 rfl (gZ U_26 Z_25 (Ht rfl) (Ht rfl) rfl zo (by rw [Nat.mul_one,Nat.zero_add])) ?_))))))))))
   refine dq 30 2 rfl (pR A_25 Z_25 (Ht rfl) (j:=1) rfl) (dp 7 rfl (cZ (Ht rfl)) (dp 1 rfl (cZ (Ht rfl)) (dp 6 rfl (cZ (Ht rfl)) (dp 7 rfl (cZ (Ht rfl)) (C.D_step (Ei:=[(33,_),(34,_),(35,_)]) rfl rfl (bV (bG 5 rfl rfl) (bV (bG 6 rfl rfl) (bV (bG 7 rfl rfl) bW))) (dZ rfl (nX ((⟨k,hk⟩,⟨j,hj⟩):Fin n × Fin n) (Ht rfl) ⟨(Ht rfl),(Ht rfl),trivial⟩)) (fK aS rfl (by kernel_rfl) (zF (zF (aJ (aV ?_))))))))))
   refine ro rfl (dB U_25 Z_60 (Ht rfl) (Ht rfl) rfl (i:=2) rfl (by first | omega | (simp; omega)) rfl) (mP Z_60 (Ht rfl) (Ht rfl) (El.ag rfl) (i:=2) rfl rfl (by first | omega | (simp; omega)) rfl (eW (bM (dQ (ro rfl (dK (Ht rfl) (cV 1) z6) (rm rfl (eW (gX (j + 1,_) (hT.next hj rfl) (by dsimp only; omega) (zS rfl) (aU (fun _ _ _ h=>h) (aU (fun _ _ _ h=>h) (aU (bD (iR aI _ _ _)) aY)))))))))))
  ·simp only [decide_eq_false_iff_not] at hj
   obtain rfl:j = n:=Nat.le_antisymm hT.kle zo
   have hfin:=hT.fin
   refine gK rfl (bM (nB 1 2 rfl rfl (by decide) (by simp; omega) ?_))
   refine dQ (ro rfl (dK (Ht rfl) (cV 1) z6) (rm rfl (eW (cM [0,1] rfl (by decide) (gX (k + 1,_) (hS.next hk hfin) (by dsimp only; omega) (zS rfl) (aU (fun _ _ _ h=>h) (aU (fT (oA aI _ _ _)) aY)))))))
 ·simp only [decide_eq_false_iff_not] at hk
  obtain rfl:k = n:=Nat.le_antisymm hS.kle zo
  have hfin:=hS.fin
  refine gK rfl (ts (rm rfl (ra rfl (eW ?_))))
  exact lJ B9 trivial [0,1] ⟨⟨_,rfl,fun _ _ _ h=>h⟩,⟨_,rfl,(fT (by rw [hfin]))⟩,trivial⟩ (by decide) (zJ rfl (fX rfl))
theorem uE {n:Nat} {f:Nat → Nat → Qi} (hn:n ≤ 1000):bB Tryz.prog 110 [NT .i64 n,Gg Tryz.prog (Fin n × Fin n) (fun x=>[NT .i64 x.1.1,NT .i64 x.2.1]) (fun x=>aI (f x.1.1 x.2.1))] (dF (tab n fun i=>tab n (f i))):=(Iw hn).fun fun B _ v S V h1 h2=>kH (by simp [dO,List.map_map,Function.comp_def]) v V (Jo (by simp [dO,aE]) (Nat.le_refl _) v S V h1 h2)
end
section
open Go Go.RowKit
theorem kY {n : Nat} {E : cT} {H : Hp} {d : Option Tmp} {t : TypeId} {pos : String} {af : Array Edge} {g : Option (Nat × Bool)}  :
  aM Tryz.prog n E H ⟨d,.build 28 #[],t,pos,af,g⟩ (eT [Is (.slice none 0 0),Is (.slice none 0 0)]) :=
 iQ (parts := []) fun a V w hs => by
  refine ⟨.agg #[(.slice none 0 0),(.slice none 0 0)],?_,[(.slice none 0 0),(.slice none 0 0)],rfl,aW (⟨rfl,trivial⟩) (aW (⟨rfl,trivial⟩) (aG))⟩
  simp [Instr.build,Instr.fill,Sem.run_bind,Result.andThen,gI,O_28,U_28,Z_25,Z_26]
theorem oK {n : Nat} {E : cT} {H : Hp} {d : Option Tmp} {t : TypeId} {pos : String} {af : Array Edge} {g : Option (Nat × Bool)} {x0 x1 : Operand} {T0 T1 : Ty} [s0 : dD T0 1 false] (h0 : bH E x0 T0) [s1 : dD T1 1 false] (h1 : bH E x1 T1) :
  aM Tryz.prog n E H ⟨d,.build 28 #[(0,x0),(1,x1)],t,pos,af,g⟩ (eT [T0,T1]) :=
 iQ (parts := [(0, x0), (1, x1)]) fun a V w hs => by
  have p0:=h0 n V a hs
  generalize e0:a.eval x0 = v0 at p0
  have q0:=(s0.ok v0 V p0).2.2 rfl
  have p1:=h1 n V a hs
  generalize e1:a.eval x1 = v1 at p1
  have q1:=(s1.ok v1 V p1).2.2 rfl
  refine ⟨.agg #[v0,v1],?_,[v0,v1],rfl,aW (⟨p0,q0⟩) (aW (⟨p1,q1⟩) (aG))⟩
  simp [e0,e1,Instr.build,Instr.fill,Sem.run_bind,Result.andThen,gI,q0.cells,q1.cells,O_28,U_28,Z_25,Z_26]
theorem eP (a:Addr) (w:World):(Instr.fieldAt 28 (.pointer (some a)) 0).run Tryz.prog w = .ok (.pointer (some (a.add 0))) w:=by
 simp [Instr.fieldAt,Instr.sureAddr,fieldPlace,Sem.run_bind,Result.andThen,U_28,Z_25]
end
section
open Go Go.RowKit
theorem a5P {s:List (List Qi)} {n i j:Nat} (hs:cB s n n) (hi:i < n) (hj:j < n):bB Tryz.prog 192 [NT .i64 i,NT .i64 j,PT (dF s)] (aI (gm s i j)):=by
 have h1:=hs.1; have h2:=hs.row hi
 refine bB.intro Tryz.func192 rfl Tryz.ntmps192 rfl (fun cx=>(ts (rn rfl (eU (Ts:=[Is (.bool false),Is (.slice none 0 0),Is (.bool false),Is (.slice none 0 0),Is (.slice none 0 0)]) O_60 rfl (fun V=>aW zd (aW zd (aW zd (aW zd (aW zd (aG))))))) fun B5=>(eW (ts (ro rfl (dW A_26 Z_26 (Ht rfl)) (rm rfl (ro rfl (dJ U_26 Z_25 (Ht rfl) (Ht rfl) rfl (eZ (eX (d:=[]) zo))) (ro rfl (dW A_25 Z_25 (Ht rfl)) ?_)))))))))
 refine rm rfl (ro rfl (dJ U_25 Z_60 (Ht rfl) (Ht rfl) rfl (eZ (eX (d:=Qi.zero) zo))) (ro rfl (dW A_60 Z_60 (Ht rfl)) (gJ Z_60 (Ht rfl) (Ht rfl) rfl (i:=0) rfl (aK rfl) rfl rfl (eW ?_))))
 exact fU rfl (gQ A_60 Z_60 rfl (i:=0) rfl rfl)
theorem Ls {z:List Qi} {s:List (List Qi)} {L:Nat} (hz:bI z L) (h:L ≤ 8796093022208) (hl:z.length ≤ 1000) (hl2:s.length ≤ 1000):bB Tryz.prog 93 [bC z,dF s] (eH [cO (iD (dM z s) z) (iD (dM z s) s),aL .i64 (dM z s)]):=by
 refine bB.intro Tryz.func93 rfl Tryz.ntmps93 rfl (fun cx=>(ts (rn rfl (nV (Ht rfl)) fun B3=>(rn rfl (eU (Ts:=[Is (.slice none 0 0),Is (.slice none 0 0)]) O_28 rfl (fun V=>aW zd (aW zd (aG)))) fun B4=>(ro rfl (cX (cV 0)) (eW (cU (cU (gG (i:=0) (tt:=3) rfl rfl jE (dQ (rm rfl (ro rfl (dY U_25 (Ht rfl) aB) (ro rfl (gV (Ht rfl) (cV 1)) (rm rfl (fJ rfl rfl (fQ rfl rfl (Ht rfl) (fun h=>cZ (Ht rfl))) (fJ rfl rfl (fQ rfl rfl (Ht rfl) (fun h=>dY U_25 (fG rfl h) aB)) ?_))))))))))))))))
 refine fJ rfl rfl (fQ rfl rfl (Ht rfl) (fun h=>fM (fG rfl h) (cV 8))) (ro rfl (kQ (Ht rfl) (fun h=>(fG rfl h))) (rm rfl (fJ rfl rfl (fQ rfl rfl (Ht rfl) (fun h=>dW A_26 Z_26 (Ht rfl))) (fJ rfl rfl (fQ rfl rfl (Ht rfl) (fun h=>dY U_26 (fG rfl h) aB)) (fJ rfl rfl (fQ rfl rfl (Ht rfl) (fun h=>cZ (Ht rfl))) (fJ rfl rfl (fQ rfl rfl (Ht rfl) (fun h=>dY U_25 (fG rfl h) aB)) (fJ rfl rfl (fQ rfl rfl (Ht rfl) (fun h=>jR (fG rfl h) (fG rfl h))) ?_)))))))
 refine ro rfl (kQ (Ht rfl) (fun h=>(fG rfl h))) (eW (dX (Ht rfl) (fun hb=>?_) (fun hb=>?_)))
 ·have he := Nd hb
  refine ts (ro rfl (aM.imp (kY ) lC) (gJ Z_28 (Ht rfl) (Ht rfl) rfl (i:=1) rfl (aK rfl) rfl rfl (ro rfl (cX (cV 4)) (eW (bN rfl (fV (gQ A_28 Z_28 rfl (i:=1) rfl rfl) ?_) (fV (fX rfl) ?_))))))
  ·exact (Kc he (by decide))
  ·exact (aR he.symm)
 ·refine cY (cU (ts (ro rfl (dW A_26 Z_26 (Ht rfl)) (ro rfl (dY U_26 (Ht rfl) aB) (ro rfl (cZ (cV 0)) (eW (eY ?_)))))))
  refine cP (fun (k : Nat) => k ≤ s.length ∧ ∀ (i : Nat) (r : List Qi), i < k → s[i]? = some r → r.length = z.length) (fun (k : Nat) => s.length - k) (fun (k : Nat) => [(0, bC z), (3, PT (dF s)), (4, cC B4 0), (25, dF s), (26, NT .i64 s.length), (27, NT .i64 k)]) (fun (k : Nat) => [SA.emp, box B4 28 [Is (.slice none 0 0), Is (.slice none 0 0)]]) 0 ⟨Nat.zero_le _, fun i r h => by omega⟩
   (zS rfl) (dI.refl _) (fun k ⟨hk,hr⟩=>?_)
  refine ts (ro rfl (gV (Ht rfl) (Ht rfl)) (eW (cU (dX (Ht rfl) (fun hc=>?_) (fun hc=>?_)))))
  ·simp only [decide_eq_true_eq] at hc
   refine cY (cU (eY (ts (ro rfl (dJ U_26 Z_25 (Ht rfl) (Ht rfl) rfl (eZ (tY hc))) (ro rfl (dW A_25 Z_25 (Ht rfl)) (ra rfl (eW (ts (rm rfl (ro rfl (dY U_25 (Ht rfl) aB) (rm rfl (ro rfl (dY U_25 (Ht rfl) aB) (ro rfl (jR (Ht rfl) (Ht rfl)) (eW (dX (Ht rfl) (fun hd=>?_) (fun hd=>?_))))))))))))))))
   ·have hd2 : ¬ (s[k]).length = z.length := by simpa using hd
    have he:=Rb (tY hc) hd2
    refine ts (ro rfl (aM.imp (kY ) lC) (gJ Z_28 (Ht rfl) (Ht rfl) rfl (i:=1) rfl (aK rfl) rfl rfl (ro rfl (cX (cV 4)) (eW (bN rfl (fV (gQ A_28 Z_28 rfl (i:=1) rfl rfl) ?_) (fV (fX rfl) ?_))))))
    ·exact (Kc he (by decide))
    ·exact (aR he.symm)
   ·have hd2 : (s[k]).length = z.length := by simpa using hd
    refine cY (bM (dQ (ro rfl (dK (Ht rfl) (cV 1) z6) (rm rfl (eW ?_)))))
    refine gX (k + 1) ⟨hc, fun i r h1 h2 => by
      by_cases e:i = k
      ·subst e; rw [tY hc] at h2; obtain rfl:=Option.some.inj h2; exact hd2
      ·exact hr i r zo h2⟩ zo (zS rfl) (dI.refl _)
  ·simp only [decide_eq_false_iff_not] at hc
   have hall:∀ (i:Nat) (r:List Qi),s[i]? = some r → r.length = z.length:=fun i r h=>hr i r (by have:=(List.getElem?_eq_some_iff.1 h).1; omega) h
   have hpos:=Ra hb hall
   refine gK rfl (cU (ts (rm rfl (ro rfl (cJ Tryz.call129 (Ba hz h zo) ⟨(Ht rfl),trivial⟩) (ra rfl (eW (ts (rm rfl (ro rfl (iM (Ht rfl) cW) (eW (dX (Ht rfl) (fun hd=>?_) (fun hd=>?_))))))))))))
   ·have hd2 : ¬ (if z.all eA = true then (0 : Int) else 1) = 0 := by simpa using hd
    refine ts (ro rfl (aM.imp (kY ) lC) (rm rfl (gJ Z_28 (Ht rfl) (Ht rfl) rfl (i:=1) rfl (aK rfl) rfl rfl (ra rfl (eW (bN rfl (fV (gQ A_28 Z_28 rfl (i:=1) rfl rfl) ?_) (fV (fX rfl) ?_)))))))
    ·exact (Kc hpos hd2)
    ·exact (aR hpos.symm)
   ·have hd2 : (if z.all eA = true then (0 : Int) else 1) = 0 := by simpa using hd
    have he:=hpos.trans hd2
    obtain ⟨h1,h2,hsh,_⟩:=sQ he
    refine cY (ts (rm rfl (ro rfl (cJ Tryz.call109 (Iv zo) ⟨(Ht rfl),trivial⟩) (rm rfl (ro rfl (dY U_25 (Ht rfl) aB) (ro rfl (lO (γ:=Fin z.length × Fin z.length) (Ts:=fun x=>[NT .i64 x.1.1,NT .i64 x.2.1]) (U:=fun x=>aI (gm s x.1.1 x.2.1)) Tryz.call192 (fun x=>a5P hsh x.1.2 x.2.2) ⟨(Ht rfl),trivial⟩) (ro rfl (cJ K_110 (eJ (uE (n:=z.length) (f:=gm s) zo) (kH (by rw [← vK hsh]))) ⟨(Ht rfl),(Ht rfl),trivial⟩) ?_)))))))
    refine ro rfl (oK (Ht rfl) (Ht rfl)) (gJ Z_28 (Ht rfl) (Ht rfl) rfl (i:=1) rfl (aK rfl) rfl rfl (ro rfl (cX (cV 0)) (eW (bN rfl (fV (gQ A_28 Z_28 rfl (i:=1) rfl rfl) ?_) (fV (fX rfl) ?_)))))
    ·exact (a1l he)
    ·exact (aR he.symm)
theorem nL {z:List Qi} {s:List (List Qi)}:bB Tryz.prog 31 [cO z s] (NT .i64 z.length):=by
 refine bB.intro Tryz.func31 rfl Tryz.ntmps31 rfl (fun cx=>(ts (rn rfl (fY (Ht rfl)) fun B1=>(ro rfl (cX (cV 0)) (eW (ts (ro rfl (eG eP (Ht rfl) rfl) (ro rfl (fZ A_25 Z_25 (Ht rfl) (i:=0) rfl rfl) (ro rfl (dY U_25 (Ht rfl) aB) (ra rfl (eW ?_)))))))))))
 exact fU rfl (fX rfl)
theorem Gx {z:List Qi} {s:List (List Qi)} {i:Int}:bB Tryz.prog 138 [cO z s,aL .i64 i] (aH (decide (1 ≤ i ∧ i ≤ z.length))):=by
 refine bB.intro Tryz.func138 rfl Tryz.ntmps138 rfl (fun cx=>(ts (rn rfl (fY (Ht rfl)) fun B2=>(ro rfl (cX cW) (eW (ts (rm rfl (ro rfl (nY (Ht rfl) cW) (rm rfl (fJ rfl rfl (fQ rfl rfl (Ht rfl) (fun h=>cZ (Ht rfl))) (fJ rfl rfl (fQ rfl rfl (Ht rfl) (fun h=>eG eP (Ht rfl) rfl)) (fJ rfl rfl (fQ rfl rfl (Ht rfl) (fun h=>fZ A_25 Z_25 (fG rfl h) (i:=0) rfl rfl)) (fJ rfl rfl (fQ rfl rfl (Ht rfl) (fun h=>dY U_25 (fG rfl h) aB)) (fJ rfl rfl (fQ rfl rfl (Ht rfl) (fun h=>a1A (fG rfl h) (fG rfl h))) ?_))))))))))))))
 refine ro rfl (fC (Ht rfl) (fun h=>(fG rfl h))) (ra rfl (eW (fU rfl (fV (fX rfl) ?_))))
 exact (fA (by rw [Bool.eq_iff_iff]; simp))
end
section
open Go Go.RowKit
theorem eD (a:Addr) (w:World):(Instr.fieldAt 28 (.pointer (some a)) 1).run Tryz.prog w = .ok (.pointer (some (a.add 1))) w:=by
 simp [Instr.fieldAt,Instr.sureAddr,fieldPlace,Sem.run_bind,Result.andThen,U_28,Z_26]
end
section
open Go Go.RowKit
theorem a7H {z:List Qi} {s:List (List Qi)} {i:Int} (hl:z.length ≤ 1000):bB Tryz.prog 67 [cO z s,aL .i64 i] (eH [aI (pkv z i),aL .i64 (if 1 ≤ i ∧ i ≤ z.length then 0 else 1)]):=by
 refine bB.intro Tryz.func67 rfl Tryz.ntmps67 rfl (fun cx=>(ts (rn rfl (fY (Ht rfl)) fun B2=>(rn rfl (eU (Ts:=[Is (.bool false),Is (.slice none 0 0),Is (.bool false),Is (.slice none 0 0),Is (.slice none 0 0)]) O_60 rfl (fun V=>aW zd (aW zd (aW zd (aW zd (aW zd (aG))))))) fun B4=>(ro rfl (cX (cV 0)) (eW (cU (ts (ro rfl (eK A_28 Z_28 (Ht rfl) (i:=0) rfl rfl rfl) (rm rfl (ro rfl (cJ K_138 Gx ⟨(Ht rfl),(Ht rfl),trivial⟩) ?_)))))))))))
 refine ro rfl (eS (Ht rfl)) (eW (dX (Ht rfl) (fun hb=>?_) (fun hb=>?_)))
 ·have hn : ¬ (1 ≤ i ∧ i ≤ (z.length : Int)) := by simpa only [Bool.not_eq_true', decide_eq_false_iff_not] using hb
  refine ts (ro rfl (aM.imp (uZ ) qV) (gJ Z_60 (Ht rfl) (Ht rfl) rfl (i:=1) rfl (aK rfl) rfl rfl (ro rfl (cX (cV 1)) (eW (bN rfl (fV (gQ A_60 Z_60 rfl (i:=1) rfl rfl) ?_) (fV (fX rfl) ?_))))))
  ·exact (jA (by rw [pkv,if_neg hn]))
  ·exact (aR (by rw [if_neg hn]; rfl))
 ·have hp : 1 ≤ i ∧ i ≤ (z.length : Int) := by simpa only [Bool.not_eq_false', decide_eq_true_eq] using hb
  have hq:(i - 1).toNat < z.length:=by omega
  refine cY (ts (ro rfl (eG eP (Ht rfl) rfl) (ro rfl (fZ A_25 Z_25 (Ht rfl) (i:=0) rfl rfl) (rm rfl (ro rfl (iN (Ht rfl) cW (xK zo)) (ro rfl (dJ U_25 Z_60 (Ht rfl) (Ht rfl) (by omega:i - 1 = (((i - 1).toNat:Nat):Int)) (eZ (eX (d:=Qi.zero) hq))) (ro rfl (dW A_60 Z_60 (Ht rfl)) (gJ Z_60 (Ht rfl) (Ht rfl) rfl (i:=1) rfl (aK rfl) rfl rfl (ro rfl (cX (cV 0)) (eW (bN rfl (fV (gQ A_60 Z_60 rfl (i:=1) rfl rfl) ?_) (fV (fX rfl) ?_))))))))))))
  ·exact (jA (by rw [pkv,if_pos hp]))
  ·exact (aR (by rw [if_pos hp]; rfl))
theorem a5M {z:List Qi} {s:List (List Qi)} {i j:Int} (hs:cB s z.length z.length) (hl:z.length ≤ 1000):bB Tryz.prog 39 [cO z s,aL .i64 i,aL .i64 j] (eH [aI (pkm z.length s i j),aL .i64 (if (1 ≤ i ∧ i ≤ z.length) ∧ 1 ≤ j ∧ j ≤ z.length then 0 else 1)]):=by
 have hs1:=hs.1
 refine bB.intro Tryz.func39 rfl Tryz.ntmps39 rfl (fun cx=>(ts (rn rfl (fY (Ht rfl)) fun B3=>(rn rfl (eU (Ts:=[Is (.bool false),Is (.slice none 0 0),Is (.bool false),Is (.slice none 0 0),Is (.slice none 0 0)]) O_60 rfl (fun V=>aW zd (aW zd (aW zd (aW zd (aW zd (aG))))))) fun B6=>(ro rfl (cX (cV 0)) (eW (cU (ts (ro rfl (eK A_28 Z_28 (Ht rfl) (i:=0) rfl rfl rfl) (rm rfl (ro rfl (cJ K_138 Gx ⟨(Ht rfl),(Ht rfl),trivial⟩) ?_)))))))))))
 refine ro rfl (eS (Ht rfl)) (rm rfl (fJ rfl rfl (fQ rfl rfl (Ht rfl) (fun h=>eK A_28 Z_28 (Ht rfl) (i:=0) rfl rfl rfl)) (fJ rfl rfl (fQ rfl rfl (Ht rfl) (fun h=>cZ (Ht rfl))) (fJ rfl rfl (fQ rfl rfl (Ht rfl) (fun h=>cJ K_138 Gx ⟨(fG rfl h),(fG rfl h),trivial⟩)) (fJ rfl rfl (fQ rfl rfl (Ht rfl) (fun h=>eS (fG rfl h))) (ro rfl (kQ (Ht rfl) (fun h=>(fG rfl h))) (eW (dX (Ht rfl) (fun hb=>?_) (fun hb=>?_)))))))))
 ·have hn : ¬ ((1 ≤ i ∧ i ≤ (z.length : Int)) ∧ 1 ≤ j ∧ j ≤ (z.length : Int)) := by simp only [Bool.or_eq_true, Bool.not_eq_true', decide_eq_false_iff_not] at hb; exact fun k => hb.elim (fun h => h k.1) (fun h => h k.2)
  refine ts (rn rfl (eU (Ts:=[Is (.bool false),Is (.slice none 0 0),Is (.bool false),Is (.slice none 0 0),Is (.slice none 0 0)]) O_60 rfl (fun V=>aW zd (aW zd (aW zd (aW zd (aW zd (aG))))))) fun B8=>(eW (ts (ro rfl (eK A_60 Z_60 (Ht rfl) (i:=2) rfl rfl rfl) (gJ Z_60 (Ht rfl) (Ht rfl) rfl (i:=1) rfl (aK rfl) rfl rfl (ro rfl (cX (cV 1)) (eW (bN rfl (fV (gQ A_60 Z_60 rfl (i:=1) rfl rfl) ?_) (fV (fX rfl) ?_)))))))))
  ·exact (fun v V k=>by rw [pkm,if_neg hn]; exact qV v V k)
  ·exact (aR (by rw [if_neg hn]; rfl))
 ·have hp : (1 ≤ i ∧ i ≤ (z.length : Int)) ∧ 1 ≤ j ∧ j ≤ (z.length : Int) := by simpa only [Bool.or_eq_false_iff, Bool.not_eq_false', decide_eq_true_eq] using hb
  have hq:(i - 1).toNat < s.length:=by omega
  have hq2:(j - 1).toNat < (s.getD (i - 1).toNat []).length:=by rw [hs.row zo]; omega
  refine cY (ts (ro rfl (eG eD (Ht rfl) rfl) (ro rfl (fZ A_26 Z_26 (Ht rfl) (i:=0) rfl rfl) (rm rfl (ro rfl (iN (Ht rfl) cW (xK zo)) (ro rfl (dJ U_26 Z_25 (Ht rfl) (Ht rfl) (by omega:i - 1 = (((i - 1).toNat:Nat):Int)) (eZ (eX (d:=[]) hq))) (ro rfl (dW A_25 Z_25 (Ht rfl)) (rm rfl (ro rfl (iN (Ht rfl) cW (xK zo)) (ro rfl (dJ U_25 Z_60 (Ht rfl) (Ht rfl) (by omega:j - 1 = (((j - 1).toNat:Nat):Int)) (eZ (eX (d:=Qi.zero) hq2))) ?_))))))))))
  refine ro rfl (dW A_60 Z_60 (Ht rfl)) (gJ Z_60 (Ht rfl) (Ht rfl) rfl (i:=1) rfl (aK rfl) rfl rfl (ro rfl (cX (cV 0)) (eW (bN rfl (fV (gQ A_60 Z_60 rfl (i:=1) rfl rfl) ?_) (fV (fX rfl) ?_)))))
  ·exact (jA (by rw [pkm,if_pos hp]))
  ·exact (aR (by rw [if_pos hp]; rfl))
end
section
open Go Go.RowKit
theorem a0X:Tryz.prog.info? 130 = some Tryz.t130:=by kernel_rfl
theorem a3y:Tryz.prog.info? 29 = some Tryz.t29:=by kernel_rfl
theorem a7p:Tryz.prog.underlying 26 = some (.slice 25):=by kernel_rfl
theorem a7q:Tryz.prog.underlying 29 = some (.slice 130):=by kernel_rfl
theorem a7r:Tryz.prog.underlying 30 = some (.slice 29):=by kernel_rfl
end
section
open Go Go.RowKit
theorem Gy {m:List (List Rt)} (hm:m.length ≤ 1000) (hr:∀ r,r ∈ m → r.length ≤ 1000):bB Tryz.prog 94 [Zk m] (dF (rq m)):=by
 refine bB.intro Tryz.func94 rfl Tryz.ntmps94 rfl (fun cx=>(ts (ro rfl (cX cW) (eW (ts (rm rfl (ro rfl (dY U_75 (Ht rfl) aB) (rn rfl (iU (T:=bC []) (i:=Tryz.t25) a7p yC rfl rfl (Ht rfl) rfl Nk El.one (by show 24 * _ ≤ _; omega) zo) fun B8=>(ra rfl (eW (cU (ts (rm rfl (ro rfl (dY U_75 (Ht rfl) aB) (ro rfl (cZ (cV 0)) (eW (eY ?_)))))))))))))))))
 refine fP (fun (k : Nat) (out : List (List Qi)) => pH (fun i => (m.getD i default).map Rt.q) m.length out k) (fun (k : Nat) (out : List (List Qi)) => m.length - k) (fun (k : Nat) (out : List (List Qi)) => [(3, Is B8), (9, Zk m), (10, NT .i64 m.length), (11, NT .i64 k)]) (fun (k : Nat) (out : List (List Qi)) => [bP 25 1 B8 (out.map bC)]) 0 (List.replicate m.length []) (pH.start _ _ _)
  (zS rfl) (aU (bD (uS bC _ _)) aY) (fun k out hS=>?_)
 refine ts (ro rfl (gV (Ht rfl) (Ht rfl)) (eW (cU (dX (Ht rfl) (fun hk=>?_) (fun hk=>?_)))))
 ·simp only [decide_eq_true_eq] at hk
  have hlen:=hS.len
  have hrk : (m.getD k default).length ≤ 1000 := by
   have e:m.getD k default = m[k]:=by simp [List.getD,hk]
   rw [e]; exact hr _ (List.getElem_mem hk)
  refine cY (cU (eY (ts (rm rfl (ro rfl (dJ U_75 Z_22 (Ht rfl) (Ht rfl) rfl (eZ (eX (d:=default) hk))) (ro rfl (dW A_22 Z_22 (Ht rfl)) (ra rfl (ra rfl (eW (dQ (rm rfl (rm rfl (rm rfl (ro rfl (cJ Tryz.call48 (zW zo) ⟨(Ht rfl),trivial⟩) (ro rfl (dB U_26 Z_25 (Ht rfl) (Ht rfl) rfl (i:=0) rfl (by first | omega | (simp; omega)) rfl) (mP Z_25 (Ht rfl) (Ht rfl) El.one (i:=0) rfl rfl (by first | omega | (simp; omega)) rfl (eW (bM ?_))))))))))))))))))
  refine dQ (ro rfl (dK (Ht rfl) (cV 1) z6) (rm rfl (eW (gX (k + 1,_) (hS.next hk rfl) (by dsimp only; omega) (zS rfl) (aU (bD (iR bC _ _ _)) aY)))))
 ·simp only [decide_eq_false_iff_not] at hk
  obtain rfl:k = m.length:=Nat.le_antisymm hS.kle zo
  have hfin:=hS.fin
  rw [uX m (fun r=>r.map Rt.q)] at hfin
  refine gK rfl (gG (i:=0) (tt:=3) rfl rfl fR (ts (rm rfl (ra rfl (eW (fU rfl (fV (fX rfl) ?_)))))))
  exact (kH (by rw [hfin]))
end
section
open Go Go.RowKit
theorem Sm {n : Nat} {E : cT} {H : Hp} {d : Option Tmp} {t : TypeId} {pos : String} {af : Array Edge} {g : Option (Nat × Bool)}  :
  aM Tryz.prog n E H ⟨d,.build 32 #[],t,pos,af,g⟩ (eT [Is (.slice none 0 0),Is (.slice none 0 0)]) :=
 iQ (parts := []) fun a V w hs => by
  refine ⟨.agg #[(.slice none 0 0),(.slice none 0 0)],?_,[(.slice none 0 0),(.slice none 0 0)],rfl,aW (⟨rfl,trivial⟩) (aW (⟨rfl,trivial⟩) (aG))⟩
  simp [Instr.build,Instr.fill,Sem.run_bind,Result.andThen,gI,O_32,U_32,Z_29,Tryz.sizeOf30]
theorem Po {n : Nat} {E : cT} {H : Hp} {d : Option Tmp} {t : TypeId} {pos : String} {af : Array Edge} {g : Option (Nat × Bool)} {x0 x1 : Operand} {T0 T1 : Ty} [s0 : dD T0 1 false] (h0 : bH E x0 T0) [s1 : dD T1 1 false] (h1 : bH E x1 T1) :
  aM Tryz.prog n E H ⟨d,.build 32 #[(0,x0),(1,x1)],t,pos,af,g⟩ (eT [T0,T1]) :=
 iQ (parts := [(0, x0), (1, x1)]) fun a V w hs => by
  have p0:=h0 n V a hs
  generalize e0:a.eval x0 = v0 at p0
  have q0:=(s0.ok v0 V p0).2.2 rfl
  have p1:=h1 n V a hs
  generalize e1:a.eval x1 = v1 at p1
  have q1:=(s1.ok v1 V p1).2.2 rfl
  refine ⟨.agg #[v0,v1],?_,[v0,v1],rfl,aW (⟨p0,q0⟩) (aW (⟨p1,q1⟩) (aG))⟩
  simp [e0,e1,Instr.build,Instr.fill,Sem.run_bind,Result.andThen,gI,q0.cells,q1.cells,O_32,U_32,Z_29,Tryz.sizeOf30]
theorem Uc (a:Addr) (w:World):(Instr.fieldAt 32 (.pointer (some a)) 0).run Tryz.prog w = .ok (.pointer (some (a.add 0))) w:=by
 simp [Instr.fieldAt,Instr.sureAddr,fieldPlace,Sem.run_bind,Result.andThen,U_32,Z_29]
end
section
open Go Go.RowKit
theorem Lu {x:Qi} {L:Nat} [hx:aF x L] (h:L ≤ 17592186044415):bB Tryz.prog 248 [QT x] (aH (eA x)):=by
 refine bB.intro Tryz.func248 rfl Tryz.ntmps248 rfl (fun cx=>(ts (rn rfl (fY (Ht rfl)) fun B1=>(ro rfl (cX cW) (eW (ts (ro rfl (eK A_130 Z_130 (Ht rfl) (i:=0) rfl rfl rfl) (ro rfl (cJ Tryz.call242 (a37 zo) ⟨(Ht rfl),trivial⟩) (ro rfl (lY (Ht rfl) cW) (rm rfl (fJ rfl rfl (fQ rfl rfl (Ht rfl) (fun h=>eK A_130 Z_130 (Ht rfl) (i:=0) rfl rfl rfl)) (fJ rfl rfl (fQ rfl rfl (Ht rfl) (fun h=>cJ Tryz.call209 Ta ⟨(fG rfl h),trivial⟩)) (fJ rfl rfl (fQ rfl rfl (Ht rfl) (fun h=>Rj (fG rfl h) cW)) ?_)))))))))))))
 refine ro rfl (fC (Ht rfl) (fun h=>(fG rfl h))) (ra rfl (eW (fU rfl (fV (fX rfl) ?_))))
 exact (fA (a4D x))
theorem a0k {z:List Qi} {s:List (List Qi)} (hz:z.length ≤ 100000) (hs:s.length ≤ 100000):bB Tryz.prog 193 [Le z,QM s] (aH (Fq z s)):=by
 refine bB.intro Tryz.func193 rfl Tryz.ntmps193 rfl (fun cx=>(ts (ro rfl (cX cW) (eW (cU (ts (rm rfl (ro rfl (dY U_29 (Ht rfl) aB) (ro rfl (gV (Ht rfl) (cV 1)) (rm rfl (fJ rfl rfl (fQ rfl rfl (Ht rfl) (fun h=>cZ (Ht rfl))) (fJ rfl rfl (fQ rfl rfl (Ht rfl) (fun h=>dY U_29 (fG rfl h) aB)) (fJ rfl rfl (fQ rfl rfl (Ht rfl) (fun h=>fM (fG rfl h) (cV 8))) (ro rfl (kQ (Ht rfl) (fun h=>(fG rfl h))) (rm rfl (fJ rfl rfl (fQ rfl rfl (Ht rfl) (fun h=>cZ (Ht rfl))) ?_))))))))))))))))
 refine fJ rfl rfl (fQ rfl rfl (Ht rfl) (fun h=>dY U_30 (fG rfl h) aB)) (fJ rfl rfl (fQ rfl rfl (Ht rfl) (fun h=>cZ (Ht rfl))) (fJ rfl rfl (fQ rfl rfl (Ht rfl) (fun h=>dY U_29 (fG rfl h) aB)) (fJ rfl rfl (fQ rfl rfl (Ht rfl) (fun h=>jR (fG rfl h) (fG rfl h))) (ro rfl (kQ (Ht rfl) (fun h=>(fG rfl h))) (eW (dX (Ht rfl) (fun hb=>?_) (fun hb=>?_)))))))
 ·refine ts (ro rfl (cX cW) (eW (fU rfl (fV (fX rfl) ?_))))
  exact (fA (by rw [Fq,hb]; rfl))
 ·refine cY (cU (ts (ro rfl (cX (cV 0)) (eW (eY ?_)))))
  refine cP (fun (k : Nat) => k ≤ s.length ∧ ∀ (i : Nat) (r : List Qi), i < k → s[i]? = some r → r.length = z.length) (fun (k : Nat) => s.length - k) (fun (k : Nat) => [(0, Le z), (1, QM s), (5, NT .i64 k)]) (fun (k : Nat) => []) 0 ⟨Nat.zero_le _, fun i r h => by omega⟩
   (zS rfl) aY (fun k ⟨hk,hr⟩=>?_)
  refine cU (ts (rm rfl (rm rfl (ro rfl (dY U_30 (Ht rfl) aB) (ro rfl (gV (Ht rfl) (Ht rfl)) (eW (dX (Ht rfl) (fun hc=>?_) (fun hc=>?_))))))))
  ·simp only [decide_eq_true_eq] at hc
   refine cY (cU (eY (ts (rm rfl (rm rfl (ro rfl (dJ U_30 Z_29 (Ht rfl) (Ht rfl) rfl (eZ (tY hc))) (ro rfl (dW Tryz.isAgg29 Z_29 (Ht rfl)) (ro rfl (dY U_29 (Ht rfl) aB) (rm rfl (ro rfl (dY U_29 (Ht rfl) aB) (ro rfl (jR (Ht rfl) (Ht rfl)) (eW (dX (Ht rfl) (fun hd=>?_) (fun hd=>?_))))))))))))))
   ·have hd2 : ¬ (s[k]).length = z.length := by simpa using hd
    refine ts (ro rfl (cX cW) (eW (fU rfl (fV (fX rfl) ?_))))
    exact (fA (by rw [Fq,a2F (tY hc) hd2,Bool.or_true]; rfl))
   ·have hd2 : (s[k]).length = z.length := by simpa using hd
    refine cY (bM (dQ (rm rfl (ro rfl (dK (Ht rfl) (cV 1) z6) (ra rfl (eW ?_))))))
    refine gX (k + 1) ⟨hc, fun i r h1 h2 => by
     by_cases e:i = k
     ·subst e; rw [tY hc] at h2; obtain rfl:=Option.some.inj h2; exact hd2
     ·exact hr i r zo h2⟩ zo (zS rfl) aY
  ·simp only [decide_eq_false_iff_not] at hc
   have hall:∀ (i:Nat) (r:List Qi),s[i]? = some r → r.length = z.length:=fun i r h=>hr i r (by have:=(List.getElem?_eq_some_iff.1 h).1; omega) h
   refine gK rfl (ts (ro rfl (cX cW) (eW (fU rfl (fV (fX rfl) ?_)))))
   exact (fA (by rw [Fq,Zt hall,hb]; rfl))
theorem Gl {z:List Qi} {L:Nat} (hz:bI z L) (h:L ≤ 17592186044415) (hl:z.length ≤ 100000):bB Tryz.prog 194 [Le z] (aH (z.all eA)):=by
 refine bB.intro Tryz.func194 rfl Tryz.ntmps194 rfl (fun cx=>(ts (ro rfl (cX cW) (eW (cU (ts (ro rfl (cX (cV 0)) (eW (eY ?_)))))))))
 refine cP (fun (k : Nat) => k ≤ z.length ∧ ∀ (i : Nat) (r : Qi), i < k → z[i]? = some r → eA r = true) (fun (k : Nat) => z.length - k) (fun (k : Nat) => [(0, Le z), (3, NT .i64 k)]) (fun (k : Nat) => []) 0 ⟨Nat.zero_le _, fun i r h => by omega⟩
  (zS rfl) aY (fun k ⟨hk,hr⟩=>?_)
 refine cU (ts (rm rfl (rm rfl (ro rfl (dY U_29 (Ht rfl) aB) (ro rfl (gV (Ht rfl) (Ht rfl)) (eW (dX (Ht rfl) (fun hc=>?_) (fun hc=>?_))))))))
 ·simp only [decide_eq_true_eq] at hc
  haveI hf:aF z[k] L:=hz _ (List.getElem_mem hc)
  refine cY (cU (eY (ts (rm rfl (rm rfl (ro rfl (dJ U_29 Z_130 (Ht rfl) (Ht rfl) rfl (eZ (tY hc))) (ro rfl (dW A_130 Z_130 (Ht rfl)) (ro rfl (cJ Tryz.call248 (Lu (L:=L) h) ⟨(Ht rfl),trivial⟩) (ro rfl (eS (Ht rfl)) (eW (dX (Ht rfl) (fun hd=>?_) (fun hd=>?_))))))))))))
  ·have hd2 : eA z[k] = false := by simpa using hd
   refine ts (ro rfl (cX cW) (eW (fU rfl (fV (fX rfl) ?_))))
   exact (fA (a5K (tY hc) hd2).symm)
  ·have hd2 : eA z[k] = true := by simpa using hd
   refine cY (bM (dQ (rm rfl (ro rfl (dK (Ht rfl) (cV 1) z6) (ra rfl (eW ?_))))))
   refine gX (k + 1) ⟨hc, fun i r h1 h2 => by
    by_cases e:i = k
    ·subst e; rw [tY hc] at h2; obtain rfl:=Option.some.inj h2; exact hd2
    ·exact hr i r zo h2⟩ zo (zS rfl) aY
 ·simp only [decide_eq_false_iff_not] at hc
  have hall:∀ (i:Nat) (r:Qi),z[i]? = some r → eA r = true:=fun i r h=>hr i r (by have:=(List.getElem?_eq_some_iff.1 h).1; omega) h
  refine gK rfl (ts (ro rfl (cX cW) (eW (fU rfl (fV (fX rfl) ?_)))))
  exact (fA (a2A hall).symm)
theorem Xa {z:List Qi} {s:List (List Qi)} {L:Nat} (hz:bI z L) (h:L ≤ 17592186044415) (hl:z.length ≤ 1000) (hl2:s.length ≤ 1000):bB Tryz.prog 95 [Le z,QM s] (eH [wE (iD (dM z s) z) (iD (dM z s) s),aL .i64 (dM z s)]):=by
 refine bB.intro Tryz.func95 rfl Tryz.ntmps95 rfl (fun cx=>(ts (rn rfl (eU (Ts:=[Is (.slice none 0 0),Is (.slice none 0 0)]) O_32 rfl (fun V=>aW zd (aW zd (aG)))) fun B4=>(ro rfl (cX (cV 0)) (eW (cU (ts (rm rfl (rm rfl (ro rfl (cJ Tryz.call193 (a0k zo zo) ⟨(Ht rfl),(Ht rfl),trivial⟩) (ro rfl (eS (Ht rfl)) (eW (dX (Ht rfl) (fun hb=>?_) (fun hb=>?_))))))))))))))
 ·have hb2 : ¬ Fq z s = true := by simpa using hb
  have he:dM z s = 4:=by rw [Am,if_neg hb2]
  refine ts (ro rfl (aM.imp (Sm ) Nz) (gJ Z_32 (Ht rfl) (Ht rfl) rfl (i:=0) rfl (aK rfl) rfl rfl (ro rfl (cX (cV 4)) (eW (bN rfl (fV (gQ A_32 Z_32 rfl (i:=0) rfl rfl) ?_) (fV (fX rfl) ?_))))))
  ·exact (Ny he (by decide))
  ·exact (aR he.symm)
 ·have hb2 : Fq z s = true := by simpa using hb
  refine cY (cU (ts (rm rfl (ro rfl (cJ Tryz.call194 (Gl (by assumption) (by assumption) zo) ⟨(Ht rfl),trivial⟩) ?_))))
  refine ro rfl (eS (Ht rfl)) (eW (dX (Ht rfl) (fun hc=>?_) (fun hc=>?_)))
  ·have hc2 : ¬ z.all eA = true := by simp only [Bool.not_eq_true'] at hc; rw [hc]; exact Bool.noConfusion
   have he:dM z s = 1:=by rw [Am,if_pos hb2,if_neg hc2]
   refine ts (ro rfl (aM.imp (Sm ) Nz) (gJ Z_32 (Ht rfl) (Ht rfl) rfl (i:=0) rfl (aK rfl) rfl rfl (ro rfl (cX (cV 1)) (eW (bN rfl (fV (gQ A_32 Z_32 rfl (i:=0) rfl rfl) ?_) (fV (fX rfl) ?_))))))
   ·exact (Ny he (by decide))
   ·exact (aR he.symm)
  ·have hc2 : z.all eA = true := by simp only [Bool.not_eq_false'] at hc; exact hc
   have he:dM z s = 0:=by rw [Am,if_pos hb2,if_pos hc2]
   refine cY (ts (rm rfl (rm rfl (ro rfl (Po (Ht rfl) (Ht rfl)) (gJ Z_32 (Ht rfl) (Ht rfl) rfl (i:=0) rfl (aK rfl) rfl rfl (ro rfl (cX (cV 0)) (eW (bN rfl (fV (gQ A_32 Z_32 rfl (i:=0) rfl rfl) ?_) (fV (fX rfl) ?_)))))))))
   ·exact (Yp he)
   ·exact (aR he.symm)
end
section
open Go Go.RowKit
theorem a3p (a:Addr) (w:World):(Instr.fieldAt 32 (.pointer (some a)) 1).run Tryz.prog w = .ok (.pointer (some (a.add 1))) w:=by
 simp [Instr.fieldAt,Instr.sureAddr,fieldPlace,Sem.run_bind,Result.andThen,U_32,Tryz.sizeOf30]
end
section
open Go Go.RowKit
theorem qT (v : Value) (w : World) : (method (Tryz.prog.types.size + Made.depth) 60 v "Of").run Tryz.prog w = .ok (304, v) w := by kernel_rfl
theorem cD (v:Value) (w:World):(Instr.makeInterface 60 v).run Tryz.prog w = .ok (.iface 60 v) w:=by
 simp [Instr.makeInterface,Sem.run_bind,Result.andThen,U_60]
end
section
open Go Go.RowKit
theorem Lo {y:Qi}:bB Tryz.prog 304 [eT [Is (.bool false),Is (.slice none 0 0),Is (.bool false),Is (.slice none 0 0),Is (.slice none 0 0)],aI y] (aI y):=by
 refine bB.intro Tryz.func304 rfl Tryz.ntmps304 rfl (fun cx=>(ts (rn rfl (fY (Ht rfl)) fun B2=>(rn rfl (fY (Ht rfl)) fun B3=>(rn rfl (eU (Ts:=[Is (.bool false),Is (.slice none 0 0),Is (.bool false),Is (.slice none 0 0),Is (.slice none 0 0)]) O_60 rfl (fun V=>aW zd (aW zd (aW zd (aW zd (aW zd (aG))))))) fun B4=>(eW (ts (ro rfl (eK A_60 Z_60 (Ht rfl) (i:=1) rfl rfl rfl) (gJ Z_60 (Ht rfl) (Ht rfl) rfl (i:=2) rfl (aK rfl) rfl rfl ?_)))))))))
 refine eW ?_
 exact fU rfl (gQ A_60 Z_60 rfl (i:=2) rfl rfl)
theorem Pv {r:List Qi} {k:Nat}:bB Tryz.prog 261 [bC r,PT (NT .i64 k)] (aH (!decide (r.length = k))):=by
 refine bB.intro Tryz.func261 rfl Tryz.ntmps261 rfl (fun cx=>(ts (ro rfl (cX cW) (eW (ts (rm rfl (ro rfl (dY U_25 (Ht rfl) aB) (ro rfl (dW A_3 Z_3 (Ht rfl)) (ro rfl (jR (Ht rfl) (Ht rfl)) (ra rfl (eW ?_)))))))))))
 exact fU rfl (fX rfl)
theorem Ds  : bB Tryz.prog 226 [dF []] (eH [NT .i64 0,aH true]):=by
 refine bB.intro Tryz.func226 rfl Tryz.ntmps226 rfl (fun cx=>(ts (ro rfl (cX (cV 0)) (ro rfl (cX cW) (eW (cU (ts (rm rfl (ro rfl (dY U_26 (Ht rfl) aB) (ro rfl (cL (Ht rfl) (cV 0)) (eW (rH (Ht rfl) (by rfl) ?_))))))))))))
 refine ts (ro rfl (cX (cV 0)) (ro rfl (cX cW) (eW ?_)))
 exact bN rfl (fX rfl) (fX rfl)
theorem Gu {a:List (List Qi)} {n k:Nat} (h:cB a n k) (h1:1 ≤ n) (hn:n ≤ 32) (hk:k ≤ 32):bB Tryz.prog 226 [dF a] (eH [NT .i64 k,aH true]):=by
 obtain ⟨rfl,h2⟩:=h
 have hr0:(a.getD 0 []).length = k:=cB.row ⟨rfl,h2⟩ zo
 refine bB.intro Tryz.func226 rfl Tryz.ntmps226 rfl (fun cx=>(ts (ro rfl (cX (cV 0)) (ro rfl (cX cW) (eW (cU (ts (rm rfl (ro rfl (dY U_26 (Ht rfl) aB) (ro rfl (cL (Ht rfl) (cV 0)) (eW (dX (Ht rfl) (fun hb=>?_) (fun hb=>?_)))))))))))))
 ·simp only [decide_eq_true_eq] at hb
  omega
 ·refine cY (ts (rm rfl (ro rfl (dJ U_26 Z_25 (Ht rfl) (cV 0) rfl (eZ (eX (d := []) zo))) (ro rfl (dW A_25 Z_25 (Ht rfl)) (ro rfl (dY U_25 (Ht rfl) aB) (rn rfl (eU (Ts := [Is (.int .i64 0)]) O_3 rfl (fun V => aW zd (aG))) fun B4 => (lP Z_3 (Ht rfl) (Ht rfl) (i := 0) rfl (aK rfl) rfl (eW (cU (gG (i := 0) (tt := 4) rfl rfl jE (fW (m := 15) (dp 4 rfl (dW A_3 Z_3 (Ht rfl)) ?_))))))))))))
  refine dp 0 rfl (cZ (Ht rfl)) (dq 13 1 rfl (dY U_26 (Ht rfl) aB) (dq 14 2 rfl (Co (Ht rfl) (cV 32)) (dq 15 3 rfl (cZ (Ht rfl)) (C.D_step (Ei:=[(4,_),(16,_)]) rfl rfl (bV (bK rfl rfl) (bV (bG 4 rfl rfl) bW)) (fQ rfl rfl (Ht rfl) (fun h=>dW A_3 Z_3 (Ht rfl))) (C.D_step (Ei:=[(17,_),(16,_)]) rfl rfl (bV (bG 5 rfl rfl) (bV (bG 4 rfl rfl) bW)) (fQ rfl rfl (Ht rfl) (fun h=>Co (fG rfl h) (cV 32))) (dE 16 4 18 6 rfl (fC (Ht rfl) (fun h=>(fG rfl h))) ?_))))))
  refine dq 19 7 rfl (cZ (Ht rfl)) (C.D_step (Ei:=[(0,_),(20,_)]) rfl rfl (bV (bK rfl rfl) (bV (bG 8 rfl rfl) bW)) (fQ rfl rfl (Ht rfl) (fun h=>cZ (Ht rfl))) (C.D_step (Ei:=[(4,_),(20,_)]) rfl rfl (bV (bK rfl rfl) (bV (bG 8 rfl rfl) bW)) (fQ rfl rfl (Ht rfl) (fun h=>lO (γ:=List Qi) (Ts:=fun r=>[bC r]) (U:=fun r=>aH (!decide (r.length = (a.getD 0 []).length))) Tryz.call261 (fun r=>Pv) ⟨(Ht rfl),trivial⟩)) (C.D_step (Ei:=[(21,_),(22,_),(20,_)]) rfl rfl (bV (bG 9 rfl rfl) (bV (bG 10 rfl rfl) (bV (bG 8 rfl rfl) bW))) (fQ rfl rfl (Ht rfl) (fun h=>cJ Tryz.call227 (Gk (l:=a) (T:=bC) (p:=fun r=>!decide (r.length = (a.getD 0 []).length)) zo) ⟨(fG rfl h),(fG rfl h),trivial⟩)) ?_)))
  refine C.D_step (Ei:=[(23,_),(20,_)]) rfl rfl (bV (bG 11 rfl rfl) (bV (bG 8 rfl rfl) bW)) (fQ rfl rfl (Ht rfl) (fun h=>eS (fG rfl h))) (dE 20 8 24 12 rfl (fC (Ht rfl) (fun h=>(fG rfl h))) (dq 12 0 rfl (cX (Ht rfl)) (fK aS rfl (by kernel_rfl) (zF (zF (zF (aJ (aJ (aJ (aV (ra rfl (eW (bN rfl (fV (fX rfl) ?_) (fV (fX rfl) ?_))))))))))))))
  ·exact (mK hr0)
  ·exact (fA (by rw [hr0,a3e ⟨rfl,h2⟩]; simp; omega))
theorem Dt {a:List (List Qi)} {n k:Nat} (h:cB a n k) (h1:1 ≤ n ∨ k = 0) (hn:n ≤ 32) (hk:k ≤ 32):bB Tryz.prog 226 [dF a] (eH [NT .i64 k,aH true]):=by
 by_cases e:n = 0
 ·subst e
  obtain rfl:=List.length_eq_zero_iff.1 h.1
  rw [show k = 0 by omega]; exact Ds
 ·exact Gu h zo hn hk
end
section
open Go Go.RowKit
theorem lU (v : Value) (w : World) : (method (Tryz.prog.types.size + Made.depth) 60 v "Add").run Tryz.prog w = .ok (71, v) w := by kernel_rfl
theorem eM (v : Value) (w : World) : (method (Tryz.prog.types.size + Made.depth) 60 v "Mul").run Tryz.prog w = .ok (70, v) w := by kernel_rfl
end
section
open Go Go.RowKit
theorem a0a {a b:List (List Qi)} {n k m L M:Nat} (ha:cB a n k) (hb:cB b k m) (hfa:bE a L) (hfb:bE b M) (hL1:1 ≤ L) (hM1:1 ≤ M) (hL:L ≤ 900000000000) (hM:M ≤ 900000000000) (hn1:1 ≤ n ∨ k = 0) (hk1:1 ≤ k ∨ m = 0) (hn:n ≤ 8) (hk:k ≤ 8) (hm:m ≤ 8):jM Tryz.prog 141 [dF a,dF b] [] (Nat) (fun B=>eH [Is (.slice (some ⟨B,0,none⟩) n n),aL .i64 0]) (fun B=>[qC B 25 60 5 (dO aI (oF a b n k m))]) (fun _=>True):=by
 have hal:=ha.1
 have hbl:=hb.1
 refine jM.intro Tryz.func141 rfl Tryz.ntmps141 rfl (fun cx Z=>(ts (ro rfl (cX cW) (ro rfl (cX (cV 0)) (eW (ts (rm rfl (ro rfl (cJ Tryz.call226 (Dt ha hn1 zo zo) ⟨(Ht rfl),trivial⟩) (rm rfl (ro rfl (eQ (Ht rfl) rfl) (ro rfl (eQ (Ht rfl) rfl) (ra rfl (ra rfl (eW (ts (rm rfl (ro rfl (cJ Tryz.call226 (Dt hb hk1 zo zo) ⟨(Ht rfl),trivial⟩) (rm rfl (ro rfl (eQ (Ht rfl) rfl) (ro rfl (eQ (Ht rfl) rfl) (ra rfl (ra rfl (eW (cU (ts (rm rfl (ro rfl (eS (Ht rfl)) ?_)))))))))))))))))))))))))))
 refine rm rfl (fJ rfl rfl (fQ rfl rfl (Ht rfl) (fun h=>cZ (Ht rfl))) (fJ rfl rfl (fQ rfl rfl (Ht rfl) (fun h=>eS (fG rfl h))) (ro rfl (kQ (Ht rfl) (fun h=>(fG rfl h))) (rm rfl (fJ rfl rfl (fQ rfl rfl (Ht rfl) (fun h=>cZ (Ht rfl))) (fJ rfl rfl (fQ rfl rfl (Ht rfl) (fun h=>cZ (Ht rfl))) (fJ rfl rfl (fQ rfl rfl (Ht rfl) (fun h=>dY U_26 (fG rfl h) aB)) (fJ rfl rfl (fQ rfl rfl (Ht rfl) (fun h=>jR (fG rfl h) (fG rfl h))) (ro rfl (kQ (Ht rfl) (fun h=>(fG rfl h))) ?_)))))))))
 refine eW (dX (Ht rfl) (fun h0=>?_) (fun h0=>?_))
 ·exact absurd h0 (by simp [hbl])
 ·refine cY (ts (rm rfl (ro rfl (dY U_26 (Ht rfl) aB) (rn rfl (iI (T := Is (.slice none 0 0)) (i := Tryz.t25) V_26 yC rfl rfl (Ht rfl) rfl (fun _ => rfl) trivial (by show 24 * _ ≤ _; omega) zo) fun B39 => (ra rfl (eW (cU (ts (rm rfl (ro rfl (iV U_26 (Ht rfl)) (ro rfl (cZ (cV 0)) (eW (eY (tC 1 rfl (Ck (e := 60) (s := 5)) ?_))))))))))))))
  refine cP (fun (i : Nat) => i ≤ n) (fun (i : Nat) => n - i) (fun (i : Nat) => [(0, dF a), (1, dF b), (6, NT .i64 k), (8, NT .i64 m), (10, Is (.slice (some ⟨B39, 0, none⟩) n n)), (41, NT .i64 n), (42, NT .i64 i)]) (fun (i : Nat) => [Z, qC B39 25 60 5 (dO aI (nA (fun i => tab m fun c => Gm a b k i c) [] n i))]) 0 (Nat.zero_le _)
   (aQ rfl (aQ rfl (aQ rfl (aQ rfl (aZ rfl (fun v V h=>by rw [← hal]; exact h) (aZ rfl (mK hal) (zS rfl))))))) (aU (fun _ _ _ h=>h) (aU (fT (by rw [← kF,wA,hal]; exact zH aI n)) aY)) (fun i hi=>?_)
  refine ts (ro rfl (gV (Ht rfl) (Ht rfl)) (eW (cU (dX (Ht rfl) (fun hd=>?_) (fun hd=>?_)))))
  ·simp only [decide_eq_true_eq] at hd
   have har:=ha.row hd
   refine tD 1 (i) rfl (Ek hd) (fun v=>(cY (cU (eY (ts (rm rfl (ra rfl (eW (ts (rm rfl (ro rfl (cZ (cV 0)) (eW (eY ?_)))))))))))))
   refine fP (fun (c : Nat) (v : Value) => c ≤ m) (fun (c : Nat) (v : Value) => m - c) (fun (c : Nat) (v : Value) => [(0, dF a), (1, dF b), (6, NT .i64 k), (8, NT .i64 m), (10, Is (.slice (some ⟨B39, 0, none⟩) n n)), (11, NT .i64 i), (41, NT .i64 n), (42, NT .i64 i), (45, NT .i64 m), (46, NT .i64 c)]) (fun (c : Nat) (v : Value) => [Z, Xy B39 25 60 5 (dO aI (nA (fun i => tab m fun c => Gm a b k i c) [] n i)) i v, bP 60 5 v ((tab c fun c => Gm a b k i c).map aI)]) 0 v (Nat.zero_le _)
    (zS rfl) (dI.refl _) (fun c v hc=>?_)
   refine ts (ro rfl (gV (Ht rfl) (Ht rfl)) (eW (cU (dX (Ht rfl) (fun he=>?_) (fun he=>?_)))))
   ·simp only [decide_eq_true_eq] at he
    have hk1:1 ≤ k:=by omega
    have hb0:=hb.row (i:=0) zo
    haveI f1:aF (gm a i 0) L:=hfa.get hL1 i 0
    haveI f2:aF (gm b 0 c) M:=hfb.get hM1 0 c
    refine cY (cU (eY (ts (rm rfl (ra rfl (eW (cU (fW (m:=15) (dp 0 rfl (cZ (Ht rfl)) (dp 11 rfl (cZ (Ht rfl)) (dE 49 0 50 1 rfl (dJ U_26 Z_25 (Ht rfl) (Ht rfl) rfl (eZ (eX (d:=[]) zo))) (dq 51 2 rfl (dW A_25 Z_25 (Ht rfl)) (dq 52 3 rfl (dJ U_25 Z_60 (Ht rfl) (cV 0) rfl (eZ (eX (d:=Qi.zero) (by rw [har]; omega)))) ?_)))))))))))))
    refine dq 53 4 rfl (dW A_60 Z_60 (Ht rfl)) (dq 54 5 rfl (bT cD (Ht rfl)) (dp 1 rfl (cZ (Ht rfl)) (dq 56 7 rfl (dJ U_26 Z_25 (Ht rfl) (cV 0) rfl (eZ (eX (d:=[]) zo))) (dq 57 8 rfl (dW A_25 Z_25 (Ht rfl)) (dp 12 rfl (cZ (Ht rfl)) (dE 58 9 59 10 rfl (dJ U_25 Z_60 (Ht rfl) (Ht rfl) rfl (eZ (eX (d:=Qi.zero) (by rw [hb0]; omega)))) ?_))))))
    refine dq 60 11 rfl (dW A_60 Z_60 (Ht rfl)) (dE 55 6 61 12 rfl (bF eM K_70 (lS zo) (Ht rfl) ⟨(Ht rfl),trivial⟩) (C.D_new (Ei:=[]) rfl rfl rfl bW (eU (Ts:=[Is (.bool false),Is (.slice none 0 0),Is (.bool false),Is (.slice none 0 0),Is (.slice none 0 0)]) O_60 rfl (fun V=>aW zd (aW zd (aW zd (aW zd (aW zd (aG))))))) (fK aS rfl (by kernel_rfl) (zF (zF (zF (aJ (aJ (C.F_new (fun B13=>aV ?_))))))))))
    refine gJ Z_60 (Ht rfl) (Ht rfl) rfl (i:=3) rfl (aK rfl) rfl rfl (eW (cU (ts (ro rfl (cX (cV 1)) (eW (eY ?_))))))
    refine cP (fun (j : Nat) => 1 ≤ j ∧ j ≤ k) (fun (j : Nat) => k - j) (fun (j : Nat) => [(0, dF a), (1, dF b), (6, NT .i64 k), (8, NT .i64 m), (10, Is (.slice (some ⟨B39, 0, none⟩) n n)), (11, NT .i64 i), (12, NT .i64 c), (13, cC B13 0), (14, NT .i64 j), (41, NT .i64 n), (42, NT .i64 i), (45, NT .i64 m), (46, NT .i64 c)]) (fun (j : Nat) => [Z, Xy B39 25 60 5 (dO aI (nA (fun i => tab m fun c => Gm a b k i c) [] n i)) i v, bP 60 5 v ((tab c fun c => Gm a b k i c).map aI), box B13 60 [aH (decide ((aC j fun j => gm a i j * gm b j c).a < 0)), aN (aC j fun j => gm a i j * gm b j c).a.natAbs, aH (decide ((aC j fun j => gm a i j * gm b j c).b < 0)), aN (aC j fun j => gm a i j * gm b j c).b.natAbs, aN (du (aC j fun j => gm a i j * gm b j c))]]) 1 ⟨Nat.le_refl _, hk1⟩
     (zS rfl) (aU (fun _ _ _ h=>h) (aU (fun _ _ _ h=>h) (aU (fun _ _ _ h=>h) (aU (aD (by rw [Ft]; rfl)) aY)))) (fun j ⟨hj1,hj⟩=>?_)
    refine cU (ts (rm rfl (rm rfl (ro rfl (gV (Ht rfl) (Ht rfl)) (eW (dX (Ht rfl) (fun hf=>?_) (fun hf=>?_)))))))
    ·simp only [decide_eq_true_eq] at hf
     haveI f3:aF (gm a i j) L:=hfa.get hL1 i j
     haveI f4:aF (gm b j c) M:=hfb.get hM1 j c
     haveI f5:aF (aC j fun j=>gm a i j * gm b j c) (8 * (L + M) + 17):=Tu hfa hfb hL1 hM1 zo i c
     have hbj:=hb.row (i:=j) zo
     refine cY (cU (eY (fW (m:=18) (dp 13 rfl (eK A_60 Z_60 (Ht rfl) (i:=3) rfl rfl rfl) (dq 68 0 rfl (bT cD (Ht rfl)) (dp 0 rfl (cZ (Ht rfl)) (dp 11 rfl (cZ (Ht rfl)) (dE 70 2 71 3 rfl (dJ U_26 Z_25 (Ht rfl) (Ht rfl) rfl (eZ (eX (d:=[]) zo))) (dq 72 4 rfl (dW A_25 Z_25 (Ht rfl)) (dp 14 rfl (cZ (Ht rfl)) (dE 73 5 74 6 rfl (dJ U_25 Z_60 (Ht rfl) (Ht rfl) rfl (eZ (eX (d:=Qi.zero) (by rw [har]; omega)))) ?_)))))))))))
     refine dq 75 7 rfl (dW A_60 Z_60 (Ht rfl)) (dq 76 8 rfl (bT cD (Ht rfl)) (dp 1 rfl (cZ (Ht rfl)) (dp 14 rfl (cZ (Ht rfl)) (dE 78 10 79 11 rfl (dJ U_26 Z_25 (Ht rfl) (Ht rfl) rfl (eZ (eX (d:=[]) zo))) (dq 80 12 rfl (dW A_25 Z_25 (Ht rfl)) (dp 12 rfl (cZ (Ht rfl)) (dE 81 13 82 14 rfl (dJ U_25 Z_60 (Ht rfl) (Ht rfl) rfl (eZ (eX (d:=Qi.zero) (by rw [hbj]; omega)))) ?_)))))))
     refine dq 83 15 rfl (dW A_60 Z_60 (Ht rfl)) (dE 77 9 84 16 rfl (bF eM K_70 (lS zo) (Ht rfl) ⟨(Ht rfl),trivial⟩) (fK aS rfl (by kernel_rfl) (zF (zF (zF (zF (aJ (aJ (aV (ro rfl (bF lU K_71 (tW zo) (Ht rfl) ⟨(Ht rfl),trivial⟩) (gJ Z_60 (Ht rfl) (Ht rfl) rfl (i:=3) rfl (aK rfl) rfl rfl (eW (bM ?_)))))))))))))
     refine dQ (rm rfl (ro rfl (dK (Ht rfl) (cV 1) z6) (ra rfl (eW (gX (j + 1) ⟨by omega,hf⟩ zo (zS rfl) (aU (fun _ _ _ h=>h) (aU (fun _ _ _ h=>h) (aU (fun _ _ _ h=>h) (aU (aD rfl) aY)))))))))
    ·simp only [decide_eq_false_iff_not] at hf
     obtain rfl:k = j:=Nat.le_antisymm zo hj
     refine gK rfl (Y.D_startA (m:=9) [] 8 2 rfl rfl (cQ (Ei:=[(10,_)]) rfl rfl (bQ (bJ rfl rfl) bX) rfl rfl (dZ rfl (cZ (Ht rfl))) (cQ (Ei:=[(11,_)]) rfl rfl (bQ (bJ rfl rfl) bX) rfl rfl (dZ rfl (cZ (Ht rfl))) (cQ (Ei:=[(10,_)]) rfl rfl (bQ (bJ rfl rfl) bX) rfl rfl (dZ rfl (cZ (Ht rfl))) (cQ (Ei:=[(11,_)]) rfl rfl (bQ (bJ rfl rfl) bX) rfl rfl (dZ rfl (cZ (Ht rfl))) (cQ (Ei:=[(89,_),(90,_)]) rfl rfl (bQ (bZ 2 rfl rfl) (bQ (bZ 3 rfl rfl) bX)) rfl rfl (dZ rfl (gZ U_26 Z_25 (Ht rfl) (Ht rfl) rfl zo (by rw [Nat.mul_one,Nat.zero_add]))) ?_))))))
     refine cQ (Ei:=[(91,_)]) rfl rfl (bQ (bZ 4 rfl rfl) bX) rfl rfl (dZ rfl (pR A_25 Z_25 (Ht rfl) (j:=1) rfl)) (cQ (Ei:=[(13,_)]) rfl rfl (bQ (bJ rfl rfl) bX) rfl rfl (dZ rfl (eK A_60 Z_60 (Ht rfl) (i:=3) rfl rfl rfl)) (cQ (Ei:=[(93,_)]) rfl rfl (bQ (bZ 6 rfl rfl) bX) rfl rfl (dZ rfl (eB (xs:=[.tmp 93]) U_25 Z_60 O_60 (cG (Ht rfl) cK) rfl rfl rfl)) (Y.D_app (Ei:=[(92,_),(94,_)]) rfl rfl rfl rfl (bQ (bZ 5 rfl rfl) (bQ (bZ 7 rfl rfl) bX)) rfl (De (inf:=Tryz.t60) lE jH rfl rfl rfl (Ht rfl) (Ht rfl) (by simp) (fun T hT=>by simp at hT; subst hT; exact El.ag rfl) (by show _ * 88 ≤ _; simp only [List.length_map,aE,List.length_cons,List.length_nil]; omega) (by simp only [List.length_map,aE,List.length_cons,List.length_nil]; omega)) ?_)))
     refine Y.D_done aS rfl (by kernel_rfl) rfl (by simp [Y.okP]) rfl rfl (bU (bU (bU (bU (bU (bU (bU (bU (Y.F_app (fun v2=>Y.F_nil ?_))))))))))
     refine ro rfl (gZ U_26 Z_25 (Ht rfl) (Ht rfl) rfl zo (by rw [Nat.mul_one,Nat.zero_add])) ?_
     refine Gt Z_25 (Ht rfl) (Ht rfl) (by simp only [dO,List.length_map,eR]; omega) (j:=1) (l:=4) rfl rfl rfl ?_
     refine eW (bM (dQ (ro rfl (dK (Ht rfl) (cV 1) z6) (rm rfl (eW (cM [0,1,4] rfl (by decide) (gX (c + 1,v2) he (by dsimp only; omega) (zS rfl) (aU (fun _ _ _ h=>h) (aU (fun _ _ _ h=>h) (aU (bD ((Ll aI _ (Gm a b k i c)).trans (congrArg _ (mD c (fun c=>Gm a b k i c)).symm))) aY))))))))))
   ·simp only [decide_eq_false_iff_not] at he
    obtain rfl:m = c:=Nat.le_antisymm zo hc
    refine gK rfl (bM (nB 1 2 rfl rfl (by decide) (by simp only [dO,List.length_map,eR]; omega) ?_))
    refine dQ (ro rfl (dK (Ht rfl) (cV 1) z6) (rm rfl (eW (cM [0,1] rfl (by decide) (gX (i + 1) hd zo (zS rfl) (aU (fun _ _ _ h=>h) (aU (fT (by rw [oA,← lN (f:=(fun i=>tab m fun c=>Gm a b k i c))])) aY)))))))
  ·simp only [decide_eq_false_iff_not] at hd
   obtain rfl:n = i:=Nat.le_antisymm zo hi
   refine gK rfl (ts (rm rfl (ra rfl (ro rfl (cX (cV 0)) (eW ?_)))))
   exact lJ B39 trivial [0,1] ⟨⟨_,rfl,fun _ _ _ h=>h⟩,⟨_,rfl,(fT (by rw [lM]; rfl))⟩,trivial⟩ (by decide) (a4F rfl (fX rfl) (fX rfl))
theorem a2Q {a b:List (List Qi)} {n k m L M:Nat} (ha:cB a n k) (hb:cB b k m) (hfa:bE a L) (hfb:bE b M) (hL1:1 ≤ L) (hM1:1 ≤ M) (hL:L ≤ 900000000000) (hM:M ≤ 900000000000) (hn1:1 ≤ n ∨ k = 0) (hk1:1 ≤ k ∨ m = 0) (hn:n ≤ 8) (hk:k ≤ 8) (hm:m ≤ 8):bB Tryz.prog 141 [dF a,dF b] (eH [dF (oF a b n k m),aL .i64 0]):=(a0a ha hb hfa hfb hL1 hM1 hL hM hn1 hk1 hn hk hm).fun fun B _ v S V h1 h2=>a8M h1 fun u hu=>xY (s:=5) (M:=oF a b n k m) (aE _ _).symm u S V hu h2
end
section
open Go Go.RowKit
theorem lV (v : Value) (w : World) : (method (Tryz.prog.types.size + Made.depth) 60 v "Div").run Tryz.prog w = .ok (64, v) w := by kernel_rfl
theorem lW (v : Value) (w : World) : (method (Tryz.prog.types.size + Made.depth) 60 v "Sub").run Tryz.prog w = .ok (69, v) w := by kernel_rfl
end
section
open Go Go.RowKit
theorem a2O {n:Nat} (h:n < 4294967296):bB Tryz.prog 282 [NT .u64 1,NT .u64 n] (eH [NT .u64 0,NT .u64 n]):=by
 refine bB.intro Tryz.func282 rfl Tryz.ntmps282 rfl (fun cx=>(ts (ro rfl (cX (cV 0)) (ro rfl (cX (cV 0)) (eW (ts (rm rfl (ro rfl (aM.nat (vN rfl (Ht rfl) (cV 4294967295) z7 z7) (show (1:Nat) &&& 4294967295 = 1 by decide)) (ra rfl (eW (ts (rm rfl (ro rfl (aM.nat (gE (Ht rfl) (cV 32) (by decide)) (show (1:Nat) / 2 ^ 32 = 0 by decide)) (ra rfl (eW (ts (rm rfl (ro rfl (aM.nat (vN rfl (Ht rfl) (cV 4294967295) z7 z7) (show n &&& 4294967295 = n from (Nat.and_two_pow_sub_one_eq_mod n 32).trans (Nat.mod_eq_of_lt h))) ?_))))))))))))))))))
 refine ra rfl (eW (ts (rm rfl (ro rfl (aM.nat (gE (Ht rfl) (cV 32) (by decide)) (show n / 2 ^ 32 = 0 from Nat.div_eq_of_lt h)) (ra rfl (eW (ts (rm rfl (rm rfl (ro rfl (aM.nat (mI (Ht rfl) (Ht rfl) z7) (Nat.one_mul n)) (ra rfl (eW (ts (rm rfl (rm rfl (ro rfl (aM.nat (mI (Ht rfl) (Ht rfl) z7) (Nat.zero_mul n)) (rm rfl (ro rfl (aM.nat (gE (Ht rfl) (cV 32) (by decide)) (show n / 2 ^ 32 = 0 from Nat.div_eq_of_lt h)) ?_))))))))))))))))))
 refine ro rfl (dK (Ht rfl) (Ht rfl) z7) (ra rfl (eW (ts (rm rfl (ro rfl (aM.nat (vN rfl (Ht rfl) (cV 4294967295) z7 z7) (show (0 + 0:Nat) &&& 4294967295 = 0 by decide)) (ra rfl (eW (ts (rm rfl (ro rfl (aM.nat (gE (Ht rfl) (cV 32) (by decide)) (show (0 + 0:Nat) / 2 ^ 32 = 0 by decide)) (ra rfl (eW (ts (rm rfl (rm rfl (rm rfl ?_))))))))))))))))
 refine ro rfl (aM.nat (mI (Ht rfl) (Ht rfl) z7) (show (1 * 0:Nat) = 0 by decide)) (ro rfl (dK (Ht rfl) (Ht rfl) z7) (ra rfl (eW (ts (rm rfl (rm rfl (ro rfl (aM.nat (mI (Ht rfl) (Ht rfl) z7) (show (0 * 0:Nat) = 0 by decide)) (rm rfl (ro rfl (dK (Ht rfl) (Ht rfl) z7) ?_)))))))))
 refine rm rfl (ro rfl (aM.nat (gE (Ht rfl) (cV 32) (by decide)) (show (0 + 0:Nat) / 2 ^ 32 = 0 by decide)) (ro rfl (dK (Ht rfl) (Ht rfl) z7) (ra rfl (eW (ts (rm rfl (rm rfl (ro rfl (aM.nat (mI (Ht rfl) (Ht rfl) z7) (Nat.one_mul n)) (ra rfl (eW (bN rfl (fV (fX rfl) ?_) (fX rfl))))))))))))
 exact (mK (by decide))
theorem a5R {n:Nat} (h:n < 4294967296):bB Tryz.prog 263 [NT .u64 1,NT .u64 n] (eH [NT .u64 0,NT .u64 n]):=by
 refine bB.intro Tryz.func263 rfl Tryz.ntmps263 rfl (fun cx=>(ts (ro rfl (cX (cV 0)) (ro rfl (cX (cV 0)) (eW (cU (dX cW (fun hf=>?_) (fun hf=>?_))))))))
 ·exact absurd hf (by decide)
 ·refine cY (ts (rm rfl (rm rfl (ro rfl (cJ Tryz.call282 (a2O h) ⟨(Ht rfl), (Ht rfl), trivial⟩) (rm rfl (ro rfl (eQ (Ht rfl) rfl) (ro rfl (eQ (Ht rfl) rfl) (ra rfl (ra rfl (eW (ts (rm rfl (rm rfl (ra rfl (ra rfl (eW ?_))))))))))))))))
  exact bN rfl (fX rfl) (fX rfl)
theorem a5Q {m:Nat} (h1:1 ≤ m) (hm:m ≤ 1000):jM Tryz.prog 229 [bC [Qi.zero],NT .i64 m] [] ({v:Value // Ag v}) (fun v=>Is v.1) (fun v=>[bP 60 5 v.1 ((tab m fun _=>Qi.zero).map aI)]) (fun _=>True):=by
 refine jM.intro Tryz.func229 rfl Tryz.ntmps229 rfl (fun cx Z=>(ts (ro rfl (cX cW) (eW (cU (ts (rm rfl (ro rfl (gV (Ht rfl) (cV 0)) (eW (dX (Ht rfl) (fun h0=>?_) (fun h0=>?_)))))))))))
 ·simp only [decide_eq_true_eq] at h0
  omega
 ·refine cY (ts (rm rfl (ro rfl (dY U_25 (Ht rfl) (show (([Qi.zero].map aI).length : Int) = ((1 : Nat) : Int) from rfl)) (ro rfl (gW U_3 U_264 (Ht rfl) z7) (rm rfl (ro rfl (gW U_3 U_264 (Ht rfl) z7) (ro rfl (cJ Tryz.call263 (a5R zo) ⟨(Ht rfl), (Ht rfl), trivial⟩) (rm rfl (ro rfl (eQ (Ht rfl) rfl) (ro rfl (eQ (Ht rfl) rfl) ?_))))))))))
  refine ra rfl (ra rfl (eW (cU (ts (rm rfl (ro rfl (fM (Ht rfl) (cV 0)) (rm rfl (fJ rfl rfl (fQ rfl rfl (Ht rfl) (fun h=>cZ (Ht rfl))) (fJ rfl rfl (fQ rfl rfl (Ht rfl) (fun h=>fM (fG rfl h) (cV 9223372036854775807))) (ro rfl (kQ (Ht rfl) (fun h=>(fG rfl h))) (eW (dX (Ht rfl) (fun h2=>?_) (fun h2=>?_)))))))))))))
  ·simp only [Bool.or_eq_true, decide_eq_true_eq] at h2
   omega
  ·refine cY (ts (rm rfl (ro rfl (gW U_264 U_3 (Ht rfl) z6) (a2v (T := aI Qi.zero) (i := Tryz.t60) lE jH rfl rfl (Ht rfl) rfl jB (El.ag rfl) (by show 88 * _ ≤ _; omega) zo rfl (fun B30 hB30 => (ra rfl (eW (ts (rm rfl (rm rfl (ro rfl (a1w (q := 1) (T := aI Qi.zero) U_25 Z_60 (i := 1) rfl (Ht rfl) (Ht rfl) (by decide) (El.ag rfl) zo) (ra rfl (eW (cU (eY ?_)))))))))))))))
   refine cP (fun (k : Nat) => 1 ≤ k ∧ k ≤ m) (fun (k : Nat) => m - k) (fun (k : Nat) => [(7, Is B30), (8, NT .i64 k)]) (fun (k : Nat) => [Z, bP 60 5 B30 (List.replicate m (aI Qi.zero))]) (Nat.min 1 m) ⟨by show 1 ≤ min 1 m; omega, by show min 1 m ≤ m; omega⟩
    (zS rfl) (dI.refl _) (fun k ⟨hk1,hk⟩=>?_)
   refine cU (ts (rm rfl (rm rfl (ro rfl (oX U_25 (Ht rfl) (i:=1) rfl (show ((List.replicate m (aI Qi.zero)).length:Int) = ((m:Nat):Int) by simp)) (ro rfl (gV (Ht rfl) (Ht rfl)) (eW (dX (Ht rfl) (fun hd=>?_) (fun hd=>?_))))))))
   ·simp only [decide_eq_true_eq] at hd
    have hlen:(List.replicate m (aI Qi.zero)).length = m:=by simp
    have h5:Nat.min k ((List.replicate m (aI Qi.zero)).length - k) = min k (m - k):=by rw [hlen]
    refine cY (eY (fW (m:=8) (dp 8 rfl (cZ (Ht rfl)) (dp 7 rfl (cZ (Ht rfl)) (dp 8 rfl (cZ (Ht rfl)) (dE 39 1 40 2 rfl (a1C U_25 Z_60 (Ht rfl) (Ht rfl) rfl (i:=1) rfl (by rw [hlen]; exact hd)) ?_))))))
    refine dp 7 rfl (cZ (Ht rfl)) (dp 8 rfl (cZ (Ht rfl)) (dE 42 4 43 5 rfl (a1B U_25 Z_60 (Ht rfl) (Ht rfl) rfl (i:=1) rfl (by rw [hlen]; omega) (by rw [hlen]; omega)) ?_))
    refine dE 41 3 44 6 rfl (Rh (T:=aI Qi.zero) U_25 Z_60 (i:=1) rfl (Ht rfl) (Ht rfl)) (fK aS rfl (by kernel_rfl) (zF (zF (aV (ro rfl (dK (Ht rfl) (Ht rfl) (by show _ < 9223372036854775808; omega)) (ra rfl (eW (bM (gX (k + Nat.min k ((List.replicate m (aI Qi.zero)).length - k)) ⟨by omega,by omega⟩ zo (zS rfl) (dI.refl _))))))))))
   ·refine gK rfl (ts (rm rfl (ra rfl (eW ?_))))
    exact lJ ⟨B30,hB30⟩ trivial [0,1] ⟨⟨_,rfl,fun _ _ _ h=>h⟩,⟨_,rfl,(bD (by rw [wA,uS]))⟩,trivial⟩ (by decide) (zJ rfl (fX rfl))
end
section
open Go Go.RowKit
theorem a2J {n : Nat} {E : cT} {H : Hp} {d : Option Tmp} {t : TypeId} {pos : String} {af : Array Edge} {g : Option (Nat × Bool)}  :
  aM Tryz.prog n E H ⟨d,.build 48 #[],t,pos,af,g⟩ (eT [Is (.int .i64 0),Is (.int .i64 0),Is (.int .i64 0)]) :=
 iQ (parts := []) fun a V w hs => by
  refine ⟨.agg #[(.int .i64 0),(.int .i64 0),(.int .i64 0)],?_,[(.int .i64 0),(.int .i64 0),(.int .i64 0)],rfl,aW (⟨rfl,trivial⟩) (aW (⟨rfl,trivial⟩) (aW (⟨rfl,trivial⟩) (aG)))⟩
  simp [Instr.build,Instr.fill,Sem.run_bind,Result.andThen,gI,O_48,U_48,Z_2]
theorem Do {n : Nat} {E : cT} {H : Hp} {d : Option Tmp} {t : TypeId} {pos : String} {af : Array Edge} {g : Option (Nat × Bool)} {x0 : Operand} {T0 : Ty} [s0 : dD T0 1 false] (h0 : bH E x0 T0) :
  aM Tryz.prog n E H ⟨d,.build 48 #[(0,x0)],t,pos,af,g⟩ (eT [T0,Is (.int .i64 0),Is (.int .i64 0)]) :=
 iQ (parts := [(0, x0)]) fun a V w hs => by
  have p0:=h0 n V a hs
  generalize e0:a.eval x0 = v0 at p0
  have q0:=(s0.ok v0 V p0).2.2 rfl
  refine ⟨.agg #[v0,(.int .i64 0),(.int .i64 0)],?_,[v0,(.int .i64 0),(.int .i64 0)],rfl,aW (⟨p0,q0⟩) (aW (⟨rfl,trivial⟩) (aW (⟨rfl,trivial⟩) (aG)))⟩
  simp [e0,Instr.build,Instr.fill,Sem.run_bind,Result.andThen,gI,q0.cells,O_48,U_48,Z_2]
theorem Dp {n : Nat} {E : cT} {H : Hp} {d : Option Tmp} {t : TypeId} {pos : String} {af : Array Edge} {g : Option (Nat × Bool)} {x0 x2 : Operand} {T0 T2 : Ty} [s0 : dD T0 1 false] (h0 : bH E x0 T0) [s2 : dD T2 1 false] (h2 : bH E x2 T2) :
  aM Tryz.prog n E H ⟨d,.build 48 #[(0,x0),(2,x2)],t,pos,af,g⟩ (eT [T0,Is (.int .i64 0),T2]) :=
 iQ (parts := [(0, x0), (2, x2)]) fun a V w hs => by
  have p0:=h0 n V a hs
  generalize e0:a.eval x0 = v0 at p0
  have q0:=(s0.ok v0 V p0).2.2 rfl
  have p2:=h2 n V a hs
  generalize e2:a.eval x2 = v2 at p2
  have q2:=(s2.ok v2 V p2).2.2 rfl
  refine ⟨.agg #[v0,(.int .i64 0),v2],?_,[v0,(.int .i64 0),v2],rfl,aW (⟨p0,q0⟩) (aW (⟨rfl,trivial⟩) (aW (⟨p2,q2⟩) (aG)))⟩
  simp [e0,e2,Instr.build,Instr.fill,Sem.run_bind,Result.andThen,gI,q0.cells,q2.cells,O_48,U_48,Z_2]
end
section
open Go Go.RowKit
theorem a6p {z:List Qi} {i:Nat} (h:i < z.length):∀ v V,(eH [aI (pkv z ((i + 1:Nat):Int)),aL .i64 (if 1 ≤ ((i + 1:Nat):Int) ∧ ((i + 1:Nat):Int) ≤ z.length then 0 else 1)]).p v V → (eH [aI (gv z i),aL .i64 0]).p v V:=by
 rw [show pkv z ((i + 1:Nat):Int) = gv z i from a6R h,if_pos zo]; exact fun _ _ h=>h
theorem a82 {n:Nat} {s:List (List Qi)} {i j:Nat} (h:i < n) (k:j < n):∀ v V,(eH [aI (pkm n s ((i + 1:Nat):Int) ((j + 1:Nat):Int)),aL .i64 (if (1 ≤ ((i + 1:Nat):Int) ∧ ((i + 1:Nat):Int) ≤ n) ∧ 1 ≤ ((j + 1:Nat):Int) ∧ ((j + 1:Nat):Int) ≤ n then 0 else 1)]).p v V → (eH [aI (gm s i j),aL .i64 0]).p v V:=by
 rw [show pkm n s ((i + 1:Nat):Int) ((j + 1:Nat):Int) = gm s i j from a1G h k,if_pos zo]; exact fun _ _ h=>h
end
section
open Go Go.RowKit
theorem Za (n m:Nat):cB (Ij n m) n m:=cB.tab
theorem Qi.zero_div (y:Qi):Qi.zero / y = Qi.zero:=by rw [Qi.div_def,Qi.zero_mul']
theorem a6V {x:Qi} (h:eA x = true):x.im = 0 ∧ x.re ≠ 0:=by
 simp only [eA,decide_eq_true_eq] at h
 exact ⟨Qi.b_zero.1 h.1,fun e=>by have:=Qi.a_zero.2 e; omega⟩
end
section
open Go Go.RowKit
theorem a3u {α:Type} {l:List α} {d:α} {k:Nat} (h:k < l.length):l.getD k d = l[k]:=by simp [List.getD,h]
end
section
open Go Go.RowKit
namespace Qi
theorem Zp {x:Qi}:0 ≤ x.a ↔ 0 ≤ x.re:=by
 have hk:0 < x.den / x.re.den:=Nat.div_pos (Nat.le_of_dvd x.den_pos (Nat.dvd_lcm_left _ _)) x.re.den_pos
 rw [← Rat.num_nonneg]
 show 0 ≤ x.re.num * ((x.den / x.re.den:Nat):Int) ↔ _
 generalize x.den / x.re.den = k at hk
 constructor
 ·intro h
  exact Int.nonneg_of_mul_nonneg_left h zo
 ·intro h; exact Int.mul_nonneg h zo
theorem a_pos {x:Qi}:0 < x.a ↔ 0 < x.re:=by
 have h1:=@Zp x; have h2:=@a_zero x
 constructor
 ·intro h
  have h3:0 ≤ x.re:=h1.1 zo
  have h4:x.re ≠ 0:=fun e=>by have:=h2.2 e; omega
  exact Rat.lt_of_le_of_ne h3 (Ne.symm h4)
 ·intro h
  have h3:0 ≤ x.a:=h1.2 (by grind)
  have h4:x.a ≠ 0:=fun e=>by have:=h2.1 e; grind
  omega
end Qi
def kK (f : Nat → Int) : Nat → Int
 | 0=>0
 | n + 1=>if kK f n ≠ 0 then kK f n else f n
theorem vH {f:Nat → Int} {k:Nat} (h:∀ i,i < k → f i = 0) (hk:f k ≠ 0):∀ {n:Nat},k < n → kK f n = f k:=by
 have hz : kK f k = 0 := by
  clear hk
  induction k with
  | zero=>rfl
  | succ k ih=>rw [kK,ih (fun i hi=>h i zo),if_neg (by simp),h k zo]
 intro n
 induction n with
 | zero=>intro h; omega
 | succ n ih =>
  intro hn
  by_cases e:n = k
  ·rw [e,kK,hz,if_neg (by simp)]
  ·rw [kK,ih zo,if_pos hk]
theorem iB {f : Nat → Int} : ∀ {n : Nat}, (∀ i, i < n → f i = 0) → kK f n = 0
 | 0,_=>rfl
 | n + 1,h=>by rw [kK,iB (fun i hi=>h i zo),if_neg (by simp),h n zo]
theorem iC {f : Nat → Int} : ∀ {n : Nat}, kK f n = 0 → ∀ i, i < n → f i = 0
 | 0,_,i,hi=>by omega
 | n + 1, h, i, hi => by
  rw [kK] at h
  split at h
  ·rename_i c; exact absurd h c
  ·rename_i c
   by_cases e:i = n
   ·rw [e]; exact h
   ·exact iC (Decidable.not_not.1 c) i zo
abbrev eF (l:List (Qi × Qi)) (i:Nat):Qi:=(l.getD i (Qi.zero,Qi.zero)).1
abbrev eV (l:List (Qi × Qi)) (i:Nat):Qi:=(l.getD i (Qi.zero,Qi.zero)).2
structure a51 (l:List (Qi × Qi)) (f:Qi):Prop where
 real:∀ i,i < l.length → (eF l i).b = 0 ∧ (eV l i).b = 0
 up:∀ i,0 < i → i < l.length → (eF l (i - 1)).re < (eF l i).re
 fr:f.b = 0
theorem a6S {x:Qi} (h:eA x = true):x.b = 0:=by simp only [eA,decide_eq_true_eq] at h; exact h.1
theorem a51.mono {l : List (Qi × Qi)} {f : Qi} (h : a51 l f) {i : Nat} : ∀ {j : Nat}, i < j → j < l.length → (eF l i).re < (eF l j).re
 | 0,h1,_=>by omega
 | j + 1, h1, h2 => by
  have h3:=h.up (j + 1) zo h2
  rw [Nat.add_sub_cancel] at h3
  by_cases e:i = j
  ·rw [e]; exact h3
  ·have := h.mono (i := i) (j := j) zo zo
   grind
def a7v (l:List (Qi × Qi)) (L:Nat):Prop:=∀ e,e ∈ l → aF e.1 L ∧ aF e.2 L
theorem a7v.get {l:List (Qi × Qi)} {L:Nat} (h:a7v l L) (hL:1 ≤ L) (i:Nat):aF (eF l i) L ∧ aF (eV l i) L:=by
 by_cases hi:i < l.length
 ·have e : l.getD i (Qi.zero, Qi.zero) = l[i] := by simp [List.getD, hi]
  show aF (l.getD i _).1 L ∧ aF (l.getD i _).2 L
  rw [e]; exact h _ (List.getElem_mem hi)
 ·have e : l.getD i (Qi.zero, Qi.zero) = (Qi.zero, Qi.zero) := by simp [List.getD, List.getElem?_eq_none (Nat.le_of_not_lt hi)]
  show aF (l.getD i _).1 L ∧ aF (l.getD i _).2 L
  rw [e]; exact ⟨aF.zero hL,aF.zero hL⟩
end
section
open Go Go.RowKit
abbrev eC (M:List (List Qi)) (i:Nat):List Qi:=M.getD i []
def Zb (M : List (List Qi)) (c n : Nat) : Nat → Nat
 | 0=>n
 | k + 1=>if gm M (n - (k + 1)) c = Qi.zero then Zb M c n k else n - (k + 1)
def pv (M:List (List Qi)) (c n:Nat):Nat:=Zb M c n (n - c)
theorem Ns {M : List (List Qi)} {c n : Nat} : ∀ {k : Nat}, k ≤ n → (∀ r, n - k ≤ r → r < Zb M c n k → gm M r c = Qi.zero) ∧ n - k ≤ Zb M c n k ∧ Zb M c n k ≤ n ∧ (Zb M c n k < n → gm M (Zb M c n k) c ≠ Qi.zero)
 | 0,_=>⟨fun r h1 h2=>by simp [Zb] at h2; omega,by simp [Zb],by simp [Zb],fun h=>by simp [Zb] at h⟩
 | k + 1, hk => by
  obtain ⟨i1,i2,i3,i4⟩:=Ns (M:=M) (c:=c) (n:=n) (k:=k) zo
  unfold Zb
  by_cases e:gm M (n - (k + 1)) c = Qi.zero
  ·rw [if_pos e]
   refine ⟨fun r h1 h2=>?_,by omega,i3,i4⟩
   by_cases e2:r = n - (k + 1)
   ·rw [e2]; exact e
   ·exact i1 r zo h2
  ·rw [if_neg e]
   exact ⟨fun r h1 h2=>by omega,Nat.le_refl _,by omega,fun _=>e⟩
theorem pD {M:List (List Qi)} {c n:Nat} (hc:c ≤ n):(∀ r,c ≤ r → r < pv M c n → gm M r c = Qi.zero) ∧ c ≤ pv M c n ∧ pv M c n ≤ n ∧ (pv M c n < n → gm M (pv M c n) c ≠ Qi.zero):=by
 have h:=Ns (M:=M) (c:=c) (n:=n) (k:=n - c) zo
 rw [show n - (n - c) = c by omega] at h
 exact h
theorem a8g {M:List (List Qi)} {c n p:Nat} (hc:c ≤ p) (hp:p ≤ n) (h1:∀ r,c ≤ r → r < p → gm M r c = Qi.zero) (h2:p < n → gm M p c ≠ Qi.zero):pv M c n = p:=by
 obtain ⟨i1,i2,i3,i4⟩:=pD (M:=M) (n:=n) (show c ≤ n by omega)
 rcases Nat.lt_trichotomy (pv M c n) p with h | h | h
 ·exact absurd (h1 _ i2 h) (i4 zo)
 ·exact h
 ·exact absurd (i1 p hc h) (h2 zo)
def mM (rr rc:List Qi) (c k:Nat):List Qi:=tab rr.length fun j=>if c < j ∧ j < k then gv rr j - gv rr c / gv rc c * gv rc j else gv rr j
def redM (M:List (List Qi)) (c r:Nat):List (List Qi):=tab M.length fun i=>if c < i ∧ i < r then mM (eC M i) (eC M c) c (eC M i).length else eC M i
def cI (M : List (List Qi)) : Nat → List (List Qi) × Nat × Int
 | 0=>(M,0,-1)
 | c + 1 =>
  let s:=cI M c
  if 0 ≤ s.2.2 then s else
  if pv s.1 c M.length = M.length then (s.1,s.2.1,(c:Int)) else
  (redM (if pv s.1 c M.length = c then s.1 else swp [] s.1 (pv s.1 c M.length) c) c M.length,s.2.1 + (if pv s.1 c M.length = c then 0 else 1),-1)
theorem Hj {M : List (List Qi)} {c : Nat} (h : 0 ≤ (cI M c).2.2) : ∀ {d : Nat}, c ≤ d → cI M d = cI M c
 | 0,hd=>by rw [show c = 0 by omega]
 | d + 1, hd => by
  by_cases e:c = d + 1
  ·rw [e]
  ·have := Hj h (d := d) zo
   simp only [cI,this]
   rw [if_pos h]
theorem uR (M:List (List Qi)) (c r:Nat):(redM M c r).length = M.length:=aE _ _
theorem Nv {M:List (List Qi)} {n m c r:Nat} (h:cB M n m):cB (redM M c r) n m:=by
 refine ⟨(uR _ _ _).trans h.1,fun x hx=>?_⟩
 obtain ⟨i,hi,rfl⟩:=dR.1 hx
 have hr:=h.row (i:=i) (by rw [← h.1]; exact hi)
 show (if c < i ∧ i < r then mM (eC M i) (eC M c) c (eC M i).length else eC M i).length = m
 split
 ·rw [mM,aE]; exact hr
 ·exact hr
theorem Db {M:List (List Qi)} {n m p c:Nat} (h:cB M n m) (hp:p < n) (hc:c < n):cB (swp [] M p c) n m:=by
 refine ⟨(Da _ _ _ _).trans h.1,fun x hx=>?_⟩
 unfold swp at hx
 rcases List.mem_or_eq_of_mem_set hx with h1 | h1
 ·rcases List.mem_or_eq_of_mem_set h1 with h2 | h2
  ·exact h.2 x h2
  ·rw [h2]; exact h.row hc
 ·rw [h1]; exact h.row hp
theorem qP {M : List (List Qi)} {n m : Nat} (h : cB M n m) : ∀ {c : Nat}, c ≤ n → cB (cI M c).1 n m
 | 0,_=>h
 | c + 1, hc => by
  have ih:=qP h (c:=c) zo
  obtain ⟨_,_,i3,_⟩:=pD (M:=(cI M c).1) (c:=c) (n:=M.length) (by rw [h.1]; omega)
  simp only [cI]
  split
  ·exact ih
  ·split
   ·exact ih
   ·rename_i e
    apply Nv
    split
    ·exact ih
    ·exact Db ih (by rw [← h.1]; omega) zo
def lG (L : Nat) : Nat → Nat
 | 0=>L
 | c + 1=>6 * lG L c + 4
theorem qJ (L : Nat) : ∀ {c d : Nat}, c ≤ d → lG L c ≤ lG L d
 | c,0,h=>by rw [show c = 0 by omega]; exact Nat.le_refl _
 | c, d + 1, h => by
  by_cases e:c = d + 1
  ·rw [e]; exact Nat.le_refl _
  ·have := qJ L (c := c) (d := d) zo
   simp only [lG]; omega
theorem rP (L c:Nat):L ≤ lG L c:=qJ L (Nat.zero_le c)
theorem Tx {rr rc:List Qi} {L c j:Nat} (h1:bI rr L) (h2:bI rc L) (hL:1 ≤ L) (hp:gv rc c ≠ Qi.zero):aF (gv rr j - gv rr c / gv rc c * gv rc j) (6 * L + 4):=by
 haveI f1:=h1.get hL j; haveI f2:=h1.get hL c; haveI f3:=h2.get hL c; haveI f4:=h2.get hL j
 haveI g:aF (gv rr c / gv rc c) (L + 3 * L + 2):=⟨f2.fit.div f3.fit hp⟩
 have:aF (gv rr j - gv rr c / gv rc c * gv rc j) (L + (L + 3 * L + 2 + L + 1) + 1):=inferInstance
 exact this.le zo
theorem a1T {rr rc : List Qi} {L c k : Nat} (h1 : bI rr L) (h2 : bI rc L) (hL : 1 ≤ L) (hp : gv rc c ≠ Qi.zero) : bI (mM rr rc c k) (6 * L + 4) := bI.tab fun j _ => by
 split
 ·exact Tx h1 h2 hL hp
 ·exact (h1.get hL j).le zo
theorem Nu {M : List (List Qi)} {L c r : Nat} (h : bE M L) (hL : 1 ≤ L) (hp : gm M c c ≠ Qi.zero) : bE (redM M c r) (6 * L + 4) := fun x hx => by
 obtain ⟨i,hi,rfl⟩:=dR.1 hx
 show bI (if c < i ∧ i < r then mM (eC M i) (eC M c) c (eC M i).length else eC M i) _
 split
 ·exact a1T (h.row i) (h.row c) hL hp
 ·exact (h.row i).le zo
theorem Kx {M : List (List Qi)} {L p c : Nat} (h : bE M L) : bE (swp [] M p c) L := fun x hx => by
 unfold swp at hx
 rcases List.mem_or_eq_of_mem_set hx with h1 | h1
 ·rcases List.mem_or_eq_of_mem_set h1 with h2 | h2
  ·exact h x h2
  ·rw [h2]; exact h.row c
 ·rw [h1]; exact h.row p
theorem Au {M:List (List Qi)} {p c:Nat} (hc:c < M.length):eC (swp [] M p c) c = eC M p:=by
 simp [eC,swp,List.getD,hc]
theorem Ee {M : List (List Qi)} {n m L : Nat} (hs : cB M n m) (h : bE M L) (hL : 1 ≤ L) : ∀ {c : Nat}, c ≤ n → bE (cI M c).1 (lG L c)
 | 0,_=>h
 | c + 1, hc => by
  have ih:=Ee hs h hL (c:=c) zo
  have hg:1 ≤ lG L c:=Nat.le_trans hL (rP L c)
  have sh:=qP hs (c:=c) zo
  obtain ⟨_,i2,i3,i4⟩:=pD (M:=(cI M c).1) (c:=c) (n:=M.length) (by rw [hs.1]; omega)
  simp only [cI,lG]
  split
  ·exact ih.le zo
  ·split
   ·exact ih.le zo
   ·rename_i e
    split
    ·rename_i e2
     refine Nu ih hg ?_
     have:=i4 zo
     rw [e2] at this; exact this
    ·refine Nu (Kx ih) hg ?_
     show gv (eC (swp [] _ _ c) c) c ≠ _
     rw [Au (by rw [sh.1]; omega)]
     exact i4 zo
theorem Ro {rr rc:List Qi} {c:Nat}:rr = mM rr rc c (c + 1):=by
 unfold mM
 have:(tab rr.length fun j=>if c < j ∧ j < c + 1 then gv rr j - gv rr c / gv rc c * gv rc j else gv rr j) = tab rr.length (gv rr):=bR fun j _=>by rw [if_neg zo]
 rw [this]; exact My rfl
theorem zG (rr rc:List Qi) (c k:Nat):(mM rr rc c k).length = rr.length:=aE _ _
theorem Nw {rr rc:List Qi} {c k:Nat} (hk:k < rr.length) (h:c < k):gv (mM rr rc c k) k = gv rr k:=by
 rw [mM,gF hk,if_neg zo]
theorem Ym {rr rc:List Qi} {c k:Nat} (hk:k < rr.length) (h:c < k):(mM rr rc c k).set k (gv (mM rr rc c k) k - gv rr c / gv rc c * gv rc k) = mM rr rc c (k + 1):=by
 rw [Nw hk h]
 apply List.ext_getElem?
 intro j
 by_cases hj:j < rr.length
 ·by_cases e : j = k
  ·subst e
   rw [List.getElem?_set_self (by rw [zG]; exact hj),mM,cH hj,if_pos zo]
  ·rw [List.getElem?_set_ne (Ne.symm e), mM, mM, cH hj, cH hj]
   by_cases e2:c < j ∧ j < k
   ·rw [if_pos e2,if_pos zo]
   ·rw [if_neg e2,if_neg zo]
 ·rw [List.getElem?_eq_none (by rw [List.length_set,zG]; omega),List.getElem?_eq_none (by rw [zG]; omega)]
theorem Rn {M:List (List Qi)} {c:Nat}:M = redM M c (c + 1):=by
 unfold redM
 have:(tab M.length fun i=>if c < i ∧ i < c + 1 then mM (eC M i) (eC M c) c (eC M i).length else eC M i) = tab M.length (eC M):=bR fun i _=>by rw [if_neg zo]
 rw [this]; exact Ky (h:=rfl)
theorem zE {M:List (List Qi)} {c r i:Nat} (hi:i < M.length) (h:¬ (c < i ∧ i < r)):eC (redM M c r) i = eC M i:=by
 simp only [eC,redM,List.getD]
 rw [cH hi,if_neg h]; rfl
theorem Yl {M:List (List Qi)} {c r:Nat} (hr:r < M.length) (h:c < r):(redM M c r).set r (mM (eC M r) (eC M c) c (eC M r).length) = redM M c (r + 1):=by
 apply List.ext_getElem?
 intro j
 by_cases hj:j < M.length
 ·by_cases e : j = r
  ·subst e
   rw [List.getElem?_set_self (by rw [uR]; exact hj),redM,cH hj,if_pos zo]
  ·rw [List.getElem?_set_ne (Ne.symm e), redM, redM, cH hj, cH hj]
   by_cases e2:c < j ∧ j < r
   ·rw [if_pos e2,if_pos zo]
   ·rw [if_neg e2,if_neg zo]
 ·rw [List.getElem?_eq_none (by rw [List.length_set,uR]; omega),List.getElem?_eq_none (by rw [uR]; omega)]
theorem a1Z {M:List (List Qi)} {r:Nat} {x y:List Qi}:(M.set r x).set r y = M.set r y:=List.set_set ..
theorem Fl {M:List (List Qi)} {r:Nat} {x:List Qi} (h:r < M.length):eC (M.set r x) r = x:=by simp [eC,List.getD,h]
theorem vT {M:List (List Qi)} {r i:Nat} {x:List Qi} (h:r ≠ i):eC (M.set r x) i = eC M i:=by simp [eC,List.getD,List.getElem?_set_ne h]
theorem a76 {M:List (List Qi)} {r:Nat} (h:r < M.length):M.set r (eC M r) = M:=by
 apply List.ext_getElem?
 intro j
 by_cases e:j = r
 ·subst e; rw [List.getElem?_set_self h]; simp [eC,List.getD,h]
 ·rw [List.getElem?_set_ne (Ne.symm e)]
theorem a2a {X : List (List Qi)} {r c k : Nat} (hr : r < X.length) (hne : r ≠ c) (hk : k < (eC X r).length) (hck : c < k) :
  (X.set r (mM (eC X r) (eC X c) c k)).set r ((eC (X.set r (mM (eC X r) (eC X c) c k)) r).set k (gm (X.set r (mM (eC X r) (eC X c) c k)) r k - gm X r c / gm X c c * gm (X.set r (mM (eC X r) (eC X c) c k)) c k)) = X.set r (mM (eC X r) (eC X c) c (k + 1)):=by
 rw [a1Z,Fl hr]
 have e1:gm (X.set r (mM (eC X r) (eC X c) c k)) r k = gv (mM (eC X r) (eC X c) c k) k:=by show gv (eC (X.set r _) r) k = _; rw [Fl hr]
 have e2:gm (X.set r (mM (eC X r) (eC X c) c k)) c k = gv (eC X c) k:=by show gv (eC (X.set r _) c) k = _; rw [vT hne]
 rw [e1,e2]
 exact congrArg _ (Ym hk hck)
theorem a2b {D:List (List Qi)} {r c:Nat} (hr:r < D.length) (hc:c < r):(redM D c r).set r (mM (eC (redM D c r) r) (eC (redM D c r) c) c (eC D r).length) = redM D c (r + 1):=by
 rw [zE hr zo,zE zo zo]
 exact Yl hr hc
theorem a7W {X:List (List Qi)} {r c k:Nat} (hr:r < X.length) (hk:k < (eC X r).length) (hck:c < k):gm (X.set r (mM (eC X r) (eC X c) c k)) r k = gv (eC X r) k:=by
 show gv (eC (X.set r _) r) k = _; rw [Fl hr,Nw hk hck]
theorem a7V {X:List (List Qi)} {r c k:Nat} {y:List Qi} (hne:r ≠ c):gm (X.set r y) c k = gv (eC X c) k:=by show gv (eC (X.set r _) c) k = _; rw [vT hne]
theorem Xl {M A:List (List Qi)} {n c sw p:Nat} (hl:M.length = n) (h:cI M c = (A,sw,-1)) (hp:pv A c n = p) (hpn:p < n):cI M (c + 1) = (redM (if p = c then A else swp [] A p c) c n,sw + (if p = c then 0 else 1),-1):=by
 simp only [cI,h,hl,hp]
 rw [if_neg (by decide),if_neg zo]
theorem a0E {M A:List (List Qi)} {n c sw:Nat} (hl:M.length = n) (h:cI M c = (A,sw,-1)) (hp:pv A c n = n) (hc:c < n):cI M n = (A,sw,(c:Int)):=by
 have e : cI M (c + 1) = (A, sw, (c : Int)) := by
  simp only [cI,h,hl,hp]
  rw [if_neg (by decide)]; simp
 rw [Hj (c:=c + 1) (by rw [e]; show (0:Int) ≤ (c:Int); omega) hc,e]
end
section
open Go Go.RowKit
theorem Gp (v : Value) (w : World) : (method (Tryz.prog.types.size + Made.depth) 60 v "Clear").run Tryz.prog w = .ok (82, v) w := by kernel_rfl
end
end Go.Proofs.YtdlciihkiefckaaGreat
