/- What functions of the program compute, proved by walks over their code, and the plain mathematics of it; a part of the proof in the last text. -/
import Derived.Test.YteohomnhncjcnaaGreatP02
set_option linter.unusedVariables false
set_option linter.unusedSimpArgs false
set_option maxRecDepth 100000
set_option maxHeartbeats 4000000
namespace Go.Proofs.YteohomnhncjcnaaGreat
section
open Go Go.RowKit
theorem a30 {m n:Nat} (hm:(dg m).length ≤ 17592186044416) (hn:(dg n).length ≤ 17592186044416):bB Tryz.prog 215 [aH m,aH n] (aH (m + n)):=by
 refine bB.intro Tryz.func215 rfl Tryz.ntmps215 rfl (fun cx=>(ts (ro rfl (cQ cV) (eZ (cK (qM (fun (p:Nat) (q:Nat)=>p + q = m + n ∧ (dg q).length ≤ (dg p).length ∧ (dg p).length ≤ 17592186044416) (fun (p:Nat) (q:Nat)=>[(0,aH p),(1,aH q)]) (fun (p:Nat) (q:Nat)=>[]) ?_ (fun p q ⟨hpq,hle,hlp⟩=>?_)))))))
 ·refine ts (rm rfl (ro rfl (dK U_47 (Ht rfl) aA) (rm rfl (ro rfl (dK U_47 (Ht rfl) aA) (ro rfl (gV (Ht rfl) (Ht rfl)) (eZ (dQ (Ht rfl) (fun hb => ?_) (fun hb => ?_))))))))
  ·simp at hb
   refine cY (rm rfl (rm rfl (ra rfl (ra rfl (eZ (aT (n,m) ⟨Nat.add_comm _ _,Nat.le_of_lt hb,hn⟩ (zS rfl) aY))))))
  ·simp at hb
   refine cU (aT (m,n) ⟨rfl,hb,hm⟩ (zS rfl) aY)
 ·refine ts (rm rfl (ro rfl (dK U_47 (Ht rfl) aA) (ro rfl (dW (Ht rfl) (cJ 1) z6) (rn rfl (fS (T := cA 0) (i := Tryz.t189) V_47 jO rfl rfl (Ht rfl) rfl (fun _ => rfl) trivial (by show 4 * _ ≤ _; omega) zo) fun B19 => (ra rfl (eZ (ts (ro rfl (cQ (cJ 0)) (eZ (cK (ts (rm rfl (ro rfl (dK U_47 (Ht rfl) aA) (ro rfl (cX (cJ 0)) (eZ (eK ?_))))))))))))))))
  refine kP (fun (k : Nat) (out : List Nat) (c : Nat) => Eu (dg p) (dg q) out k c) (fun (k : Nat) (out : List Nat) (c : Nat) => (dg p).length - k) (fun (k : Nat) (out : List Nat) (c : Nat) => [(0, aH p), (1, aH q), (5, Is (.slice (some ⟨B19, 0, none⟩) ((dg p).length + 1) ((dg p).length + 1))), (6, cA c), (21, NT .i64 (dg p).length), (22, NT .i64 k)]) (fun (k : Nat) (out : List Nat) (c : Nat) => [box B19 189 (out.map cA)]) 0 (List.replicate ((dg p).length + 1) 0) 0 (Eu.start _ _)
   (zS rfl) (aU (aB (lS _)) aY) (fun k out c hS=>?_)
  refine ts (ro rfl (gV (Ht rfl) (Ht rfl)) (eZ (cK (dQ (Ht rfl) (fun hb=>?_) (fun hb=>?_)))))
  ·simp at hb
   have hlen:=hS.len; have hcl:=hS.cle; have hxk:=bE (bP p) k; have hyk:=bE (bP q) k
   simp only [BB] at hxk hyk
   refine cU (cK (eK (ts (rm rfl (ra rfl (eZ (ts (ro rfl (cQ (cJ 0)) (eZ (cK (jG (fun (uu:Unit)=>True) (fun (uu:Unit)=>[(0,aH p),(1,aH q),(5,Is (.slice (some ⟨B19,0,none⟩) ((dg p).length + 1) ((dg p).length + 1))),(6,cA c),(7,NT .i64 k),(8,cA ((dg q).getD k 0)),(21,NT .i64 (dg p).length),(22,NT .i64 k)]) (fun (uu:Unit)=>[box B19 189 (out.map cA)]) ?_ (fun uu _=>?_))))))))))))
   ·refine ts (rm rfl (rm rfl (ro rfl (dK U_47 (Ht rfl) aA) (ro rfl (gV (Ht rfl) (Ht rfl)) (eZ (dQ (Ht rfl) (fun hk2 => ?_) (fun hk2 => ?_)))))))
    ·simp at hk2
     refine cY (rm rfl (rm rfl (ro rfl (dZ U_47 Z_189 (Ht rfl) (Ht rfl) rfl (eQ (aI zo))) (ro rfl (dV A_189 Z_189 (Ht rfl)) (ra rfl (eZ (aT () trivial (zS rfl) (dL.refl _))))))))
    ·simp at hk2
     refine cU (aT () trivial (aQ rfl (aQ rfl (aQ rfl (aQ rfl (aQ rfl (aZ rfl (lL (by simp [List.getD,List.getElem?_eq_none hk2])) (zS rfl))))))) (dL.refl _))
   ·refine cY (rm rfl (rm rfl (rm rfl (rm rfl (ro rfl (dZ U_47 Z_189 (Ht rfl) (Ht rfl) rfl (eQ (aI zo))) (ro rfl (dV A_189 Z_189 (Ht rfl)) (rm rfl (rm rfl (ro rfl (cZ Tryz.call255 (Wy hxk hyk zo) ⟨(Ht rfl), (Ht rfl), (Ht rfl), trivial⟩) (rm rfl (ro rfl (dU (Ht rfl) rfl) (ro rfl (dU (Ht rfl) rfl) (ro rfl (gX U_47 Z_189 (Ht rfl) (Ht rfl) rfl zo (by rw [Nat.mul_one, Nat.zero_add])) ?_)))))))))))))
    refine jL Z_189 (Ht rfl) (Ht rfl) (i:=0) rfl (by first | omega | (simp; omega)) rfl (ra rfl (eZ (bH (cY (ro rfl (dW (Ht rfl) (cJ 1) z6) (rm rfl (eZ (gQ (k + 1,_,_) (hS.next (bP p) (bP q) hb) (by dsimp only; omega) (zS rfl) (aU (aB (gN _ _ _)) aY)))))))))
  ·simp at hb
   have hkl:k = (dg p).length:=Nat.le_antisymm hS.kle hb
   subst hkl
   have hlen:=hS.len; have hcl:=hS.cle
   refine gK rfl (ts (rm rfl (rm rfl (ro rfl (dK U_47 (Ht rfl) aA) (rm rfl (ro rfl (gX U_47 Z_189 (Ht rfl) (Ht rfl) rfl zo (by rw [Nat.mul_one,Nat.zero_add])) ?_))))))
   refine jL Z_189 (Ht rfl) (Ht rfl) (i:=0) rfl (by first | omega | (simp; omega)) rfl (eZ (cK ?_))
   have hfin:=hS.fin hle
   refine gG (i:=0) (tt:=5) rfl rfl (mF (gN _ _ _) (by simp [hlen]) (Nat.le_refl _)) ?_
   refine cY (rm rfl (ro rfl (cZ K_221 (qQ _ (kH hS.dig (by simp only [BB]; omega)) (by simp [hlen]; omega)) ⟨(Ht rfl),trivial⟩) ?_))
   refine ra rfl (eZ (fK rfl (fJ (eY rfl) ?_)))
   exact (dB (by rw [hfin,cT,cT]; exact hpq))
theorem a0E {m n:Nat} (hm:(dg m).length ≤ 17592186044416) (hnm:n ≤ m):bB Tryz.prog 217 [aH m,aH n] (aH (m - n)):=by
 have hle:=iM hnm
 refine bB.intro Tryz.func217 rfl Tryz.ntmps217 rfl (fun cx=>(ts (ro rfl (cQ cV) (eZ (ts (rm rfl (ro rfl (dK U_47 (Ht rfl) aA) (rn rfl (fS (T:=cA 0) (i:=Tryz.t189) V_47 jO rfl rfl (Ht rfl) rfl (fun _=>rfl) trivial (by show 4 * _ ≤ _; omega) zo) fun B11=>(ra rfl (eZ (ts (ro rfl (cQ (cJ 0)) (eZ (cK (ts (rm rfl (ro rfl (dK U_47 (Ht rfl) aA) (ro rfl (cX (cJ 0)) (eZ (eK ?_))))))))))))))))))))
 refine kP (fun (k : Nat) (out : List Nat) (c : Nat) => Ev (dg m) (dg n) out k c) (fun (k : Nat) (out : List Nat) (c : Nat) => (dg m).length - k) (fun (k : Nat) (out : List Nat) (c : Nat) => [(0, aH m), (1, aH n), (5, Is (.slice (some ⟨B11, 0, none⟩) (dg m).length (dg m).length)), (6, cA c), (13, NT .i64 (dg m).length), (14, NT .i64 k)]) (fun (k : Nat) (out : List Nat) (c : Nat) => [box B11 189 (out.map cA)]) 0 (List.replicate (dg m).length 0) 0 (Ev.start _ _)
  (zS rfl) (aU (aB (lS _)) aY) (fun k out c hS=>?_)
 refine ts (ro rfl (gV (Ht rfl) (Ht rfl)) (eZ (cK (dQ (Ht rfl) (fun hb=>?_) (fun hb=>?_)))))
 ·simp at hb
  have hlen:=hS.len; have hcl:=hS.cle; have hxk:=bE (bP m) k; have hyk:=bE (bP n) k
  simp only [BB] at hxk hyk
  refine cU (cK (eK (ts (rm rfl (ra rfl (eZ (ts (ro rfl (cQ (cJ 0)) (eZ (cK (jG (fun (uu:Unit)=>True) (fun (uu:Unit)=>[(0,aH m),(1,aH n),(5,Is (.slice (some ⟨B11,0,none⟩) (dg m).length (dg m).length)),(6,cA c),(7,NT .i64 k),(8,cA ((dg n).getD k 0)),(13,NT .i64 (dg m).length),(14,NT .i64 k)]) (fun (uu:Unit)=>[box B11 189 (out.map cA)]) ?_ (fun uu _=>?_))))))))))))
  ·refine ts (rm rfl (rm rfl (ro rfl (dK U_47 (Ht rfl) aA) (ro rfl (gV (Ht rfl) (Ht rfl)) (eZ (dQ (Ht rfl) (fun hk2 => ?_) (fun hk2 => ?_)))))))
   ·simp at hk2
    refine cY (rm rfl (rm rfl (ro rfl (dZ U_47 Z_189 (Ht rfl) (Ht rfl) rfl (eQ (aI zo))) (ro rfl (dV A_189 Z_189 (Ht rfl)) (ra rfl (eZ (aT () trivial (zS rfl) (dL.refl _))))))))
   ·simp at hk2
    refine cU (aT () trivial (aQ rfl (aQ rfl (aQ rfl (aQ rfl (aQ rfl (aZ rfl (lL (by simp [List.getD,List.getElem?_eq_none hk2])) (zS rfl))))))) (dL.refl _))
  ·refine cY (rm rfl (rm rfl (rm rfl (rm rfl (ro rfl (dZ U_47 Z_189 (Ht rfl) (Ht rfl) rfl (eQ (aI zo))) (ro rfl (dV A_189 Z_189 (Ht rfl)) (rm rfl (rm rfl (ro rfl (cZ Tryz.call256 (Zb hxk hyk zo) ⟨(Ht rfl), (Ht rfl), (Ht rfl), trivial⟩) (rm rfl (ro rfl (dU (Ht rfl) rfl) (ro rfl (dU (Ht rfl) rfl) (ro rfl (gX U_47 Z_189 (Ht rfl) (Ht rfl) rfl zo (by rw [Nat.mul_one, Nat.zero_add])) ?_)))))))))))))
   refine jL Z_189 (Ht rfl) (Ht rfl) (i:=0) rfl (by first | omega | (simp; omega)) rfl (ra rfl (eZ (bH (cY (ro rfl (dW (Ht rfl) (cJ 1) z6) (rm rfl (eZ (gQ (k + 1,_,_) (hS.next (bP m) (bP n) hb) (by dsimp only; omega) (zS rfl) (aU (aB (gN _ _ _)) aY)))))))))
 ·simp at hb
  have hkl:k = (dg m).length:=Nat.le_antisymm hS.kle hb
  subst hkl
  have hlen:=hS.len
  have hfin:=hS.fin (bP m) hle (by rw [cT,cT]; exact hnm)
  rw [cT,cT] at hfin
  refine gK rfl (gG (i:=0) (tt:=5) rfl rfl (mF rfl hlen.symm (Nat.le_refl _)) (ts (rm rfl (ro rfl (cZ K_221 (qQ _ hS.dig zo) ⟨(Ht rfl),trivial⟩) (ra rfl (eZ (fK rfl (fJ (eY rfl) ?_))))))))
  exact (dB hfin)
theorem Gp {m n:Nat} (hm:(dg m).length ≤ 17592186044416) (hn:(dg n).length ≤ 17592186044416):bB Tryz.prog 138 [aH m,aH n] (aH (m * n)):=by
 refine bB.intro Tryz.func138 rfl Tryz.ntmps138 rfl (fun cx=>(ts (ro rfl (cQ cV) (eZ (cK (ts (rm rfl (ro rfl (dK U_47 (Ht rfl) aA) (ro rfl (cB (Ht rfl) (cJ 0)) (rm rfl (fX rfl rfl (eU rfl rfl (Ht rfl) (fun h=>cX (Ht rfl))) (fX rfl rfl (eU rfl rfl (Ht rfl) (fun h=>dK U_47 (fW rfl h) aA)) (fX rfl rfl (eU rfl rfl (Ht rfl) (fun h=>cB (fW rfl h) (cJ 0))) (ro rfl (kX (Ht rfl) (fun h=>(fW rfl h))) (eZ (dQ (Ht rfl) (fun hb=>?_) (fun hb=>?_)))))))))))))))))
 ·simp [aL] at hb
  have h0 : m * n = 0 := by
   rcases hb with h | h <;> simp_all [pL]
  refine ts (ro rfl (cQ cV) (eZ (fK rfl (fJ (eY rfl) ?_))))
  exact (fun v V h=>by rw [h0]; exact kI v V h)
 ·clear hb
  refine cU (ts (rm rfl (ro rfl (dK U_47 (Ht rfl) aA) (rm rfl (ro rfl (dK U_47 (Ht rfl) aA) (ro rfl (dW (Ht rfl) (Ht rfl) z6) (rn rfl (fS (T:=cA 0) (i:=Tryz.t189) V_47 jO rfl rfl (Ht rfl) rfl (fun _=>rfl) trivial (by show 4 * _ ≤ _; omega) zo) fun B24=>(ra rfl (eZ (cK (ts (rm rfl (ro rfl (dK U_47 (Ht rfl) aA) (ro rfl (cX (cJ 0)) (eZ (eK ?_))))))))))))))))
  refine fT (fun (i : Nat) (out : List Nat) => Fa (dg m) (dg n) out i) (fun (i : Nat) (out : List Nat) => (dg m).length - i) (fun (i : Nat) (out : List Nat) => [(0, aH m), (1, aH n), (5, Is (.slice (some ⟨B24, 0, none⟩) ((dg m).length + (dg n).length) ((dg m).length + (dg n).length))), (25, aH m), (26, NT .i64 (dg m).length), (27, NT .i64 i)]) (fun (i : Nat) (out : List Nat) => [box B24 189 (out.map cA)]) 0 (List.replicate ((dg m).length + (dg n).length) 0) (Fa.start _ _)
   (zS rfl) (aU (aB (lS _)) aY) (fun i out hS=>?_)
  refine ts (ro rfl (gV (Ht rfl) (Ht rfl)) (eZ (cK (dQ (Ht rfl) (fun hb=>?_) (fun hb=>?_)))))
  ·simp at hb
   have hxi:=bE (bP m) i
   simp only [BB] at hxi
   refine cU (cK (eK (ts (rm rfl (ro rfl (dZ U_47 Z_189 (Ht rfl) (Ht rfl) rfl (eQ (aI zo))) (ro rfl (dV A_189 Z_189 (Ht rfl)) (ra rfl (ra rfl (eZ (ts (ro rfl (cQ (cJ 0)) (eZ (cK (ts (rm rfl (ro rfl (dK U_47 (Ht rfl) aA) (ro rfl (cX (cJ 0)) (eZ (eK ?_)))))))))))))))))))
   refine kP (fun (k : Nat) (out2 : List Nat) (c : Nat) => Jq (dg m) (dg n) out2 i k c) (fun (k : Nat) (out2 : List Nat) (c : Nat) => (dg n).length - k) (fun (k : Nat) (out2 : List Nat) (c : Nat) => [(0, aH m), (1, aH n), (5, Is (.slice (some ⟨B24, 0, none⟩) ((dg m).length + (dg n).length) ((dg m).length + (dg n).length))), (6, NT .i64 i), (7, cA ((dg m).getD i 0)), (8, NT .u64 c), (25, aH m), (26, NT .i64 (dg m).length), (27, NT .i64 i), (32, aH n), (33, NT .i64 (dg n).length), (34, NT .i64 k)]) (fun (k : Nat) (out2 : List Nat) (c : Nat) => [box B24 189 (out2.map cA)]) 0 out 0 (hS.row hb)
    (zS rfl) (dL.refl _) (fun k out2 c hR=>?_)
   refine ts (ro rfl (gV (Ht rfl) (Ht rfl)) (eZ (cK (dQ (Ht rfl) (fun hk=>?_) (fun hk=>?_)))))
   ·simp at hk
    have hlen:=hR.len; have hcl:=hR.clt; have hyk:=bE (bP n) k; have hok:=bE hR.dig (i + k)
    have hbnd:=vT (bE (bP m) i) (bE (bP n) k) (bE hR.dig (i + k)) hR.clt
    simp only [BB] at hcl hyk hok hbnd
    refine cU (cK (eK (ts (rm rfl (ro rfl (dZ U_47 Z_189 (Ht rfl) (Ht rfl) rfl (eQ (aI zo))) (ro rfl (dV A_189 Z_189 (Ht rfl)) (ra rfl (ra rfl (eZ (ts (rm rfl (rm rfl (ro rfl (gW U_189 U_254 (Ht rfl) z7) (rm rfl (ro rfl (gW U_189 U_254 (Ht rfl) z7) (ro rfl (kQ (Ht rfl) (Ht rfl) (by show _ < 18446744073709551616; omega)) ?_))))))))))))))))
    refine rm rfl (rm rfl (rm rfl (ro rfl (dW (Ht rfl) (Ht rfl) z6) (ro rfl (gX U_47 Z_189 (Ht rfl) (Ht rfl) rfl zo (by rw [Nat.mul_one,Nat.zero_add])) ?_))))
    refine ro rfl (fQ A_189 Z_189 (Ht rfl) (i:=0) rfl (eQ (aI zo))) (ro rfl (gW U_189 U_254 (Ht rfl) z7) (ro rfl (dW (Ht rfl) (Ht rfl) z7) (ro rfl (dW (Ht rfl) (Ht rfl) z7) (ra rfl (eZ (ts (rm rfl (rm rfl (rm rfl (ro rfl (dW (Ht rfl) (Ht rfl) z6) ?_))))))))))
    refine rm rfl (ro rfl (gO rfl U_254 U_189 (Ht rfl)) (ro rfl (gX U_47 Z_189 (Ht rfl) (Ht rfl) rfl zo (by rw [Nat.mul_one,Nat.zero_add])) ?_))
    refine jL Z_189 (Ht rfl) (Ht rfl) (i:=0) rfl (by first | omega | (simp; omega)) rfl (eZ (cY (rm rfl (ro rfl (fD (Ht rfl) (cJ 32) (by decide)) (ra rfl (eZ (bH (cY (ro rfl (dW (Ht rfl) (cJ 1) z6) (rm rfl (eZ (gQ (k + 1,_,_) (hR.next (bP m) (bP n) hk rfl) (by dsimp only; omega) (zS rfl) (aU (aB (gN _ _ _)) aY)))))))))))))
   ·simp at hk
    have hkl:k = (dg n).length:=Nat.le_antisymm hR.kle hk
    subst hkl
    have hlen:=hR.len; have hcl:=hR.clt
    simp only [BB] at hcl
    refine gK rfl (cY (rm rfl (rm rfl (rm rfl (ro rfl (dK U_47 (Ht rfl) aA) (ro rfl (dW (Ht rfl) (Ht rfl) z6) (rm rfl (ro rfl (gW U_254 U_189 (Ht rfl) (by show _ < 4294967296; first | omega | (simp only [lF]; omega))) (ro rfl (gX U_47 Z_189 (Ht rfl) (Ht rfl) rfl zo (by rw [Nat.mul_one,Nat.zero_add])) ?_)))))))))
    refine jL Z_189 (Ht rfl) (Ht rfl) (i:=0) rfl (by first | omega | (simp; omega)) rfl (eZ (bH (cY (ro rfl (dW (Ht rfl) (cJ 1) z6) (rm rfl (eZ (gQ (i + 1,_) (hR.fin) (by dsimp only; omega) (zS rfl) (aU (aB (gN _ _ _)) aY))))))))
  ·simp at hb
   have hkl:i = (dg m).length:=Nat.le_antisymm hS.ile hb
   subst hkl
   have hlen:=hS.len
   have hfin:=hS.fin
   rw [cT,cT] at hfin
   refine gK rfl (gG (i:=0) (tt:=5) rfl rfl (mF rfl hlen.symm (Nat.le_refl _)) (ts (rm rfl (ro rfl (cZ K_221 (qQ _ hS.dig zo) ⟨(Ht rfl),trivial⟩) (ra rfl (eZ (fK rfl (fJ (eY rfl) ?_))))))))
   exact (dB hfin)
end
section
open Go Go.RowKit
theorem Zj {v:Nat} (hv:v < 4294967296):bB Tryz.prog 280 [cA v] (NT .i64 (bl v)):=by
 refine bB.intro Tryz.func280 rfl Tryz.ntmps280 rfl (fun cx=>(ts (ro rfl (cQ (cJ 0)) (eZ (cK (qM (fun (q:Nat) (x:Nat)=>bl v = q + bl x ∧ x < 65536 ∧ q ≤ 16) (fun (q:Nat) (x:Nat)=>[(0,cA x),(2,NT .i64 q)]) (fun (q:Nat) (x:Nat)=>[]) ?_ (fun q x ⟨hq1,hq2,hq3⟩=>?_)))))))
 ·refine ts (rm rfl (ro rfl (mP (Ht rfl) (cJ 65536)) (eZ (dQ (Ht rfl) (fun hb => ?_) (fun hb => ?_)))))
  ·simp at hb
   refine ts (rm rfl (ro rfl (fD (Ht rfl) (cJ 16) (by decide)) (ra rfl (eZ (cY (ro rfl (cQ (cJ 16)) (eZ (aT (16,v / 2 ^ 16) ⟨a3k hb,by dsimp only; omega,Nat.le_refl _⟩ (zS rfl) aY))))))))
  ·simp at hb
   refine cU (aT (0,v) ⟨(Nat.zero_add _).symm,hb,by dsimp only; omega⟩ (zS rfl) aY)
 ·refine cK (qM (fun (r : Nat) (z : Nat) => bl v = r + bl z ∧ z < 256 ∧ r ≤ 24) (fun (r : Nat) (z : Nat) => [(0, cA z), (2, NT .i64 r)]) (fun (r : Nat) (z : Nat) => []) ?_ (fun r z ⟨hr1, hr2, hr3⟩ => ?_))
  ·refine ts (rm rfl (ro rfl (mP (Ht rfl) (cJ 256)) (eZ (dQ (Ht rfl) (fun hb => ?_) (fun hb => ?_)))))
   ·simp at hb
    refine ts (rm rfl (ro rfl (fD (Ht rfl) (cJ 8) (by decide)) (ra rfl (eZ (cY (rm rfl (ro rfl (dW (Ht rfl) (cJ 8) z6) (ra rfl (eZ (aT (q + 8,x / 2 ^ 8) ⟨by have:=bl8 hb; dsimp only; omega,by dsimp only; omega,by dsimp only; omega⟩ (zS rfl) aY))))))))))
   ·simp at hb
    refine cU (aT (q,x) ⟨hq1,hb,by dsimp only; omega⟩ (zS rfl) aY)
  ·have hbl := mZ (k := 8) hr2
   refine ts (rm rfl (rm rfl (ro rfl (gW U_189 U_5 (Ht rfl) (by show _ < 256; first | omega | (simp only [lF]; omega))) (ro rfl (Zt Tryz.runUnderlying9 cV (Ht rfl) (a3e hr2 (by kernel_rfl))) (ro rfl (gW U_5 U_3 (Ht rfl) z6) (ro rfl (dW (Ht rfl) (Ht rfl) z6) (ra rfl (eZ (fK rfl (fJ (eY rfl) ?_))))))))))
   exact (lL zo)
theorem a1T {v:Nat} (hv:v < 4294967296):bB Tryz.prog 258 [cA v] (NT .i64 (32 - bl v)):=by
 refine bB.intro Tryz.func258 rfl Tryz.ntmps258 rfl (fun cx=>(ts (ro rfl (cQ (cJ 0)) (eZ (ts (rm rfl (ro rfl (cZ Tryz.call280 (Zj hv) ⟨(Ht rfl),trivial⟩) (ro rfl (dG (cJ 32) (Ht rfl) (mZ hv) z6) (ra rfl (eZ ?_))))))))))
 exact fK rfl (eY rfl)
theorem a06 {hi lo y:Nat} (hy:hi < y) (hl:lo < BB) (hyb:y < BB):bB Tryz.prog 279 [cA hi,cA lo,cA y] (dN [cA ((hi * BB + lo) / y),cA ((hi * BB + lo) % y)]):=by
 have hq:=Bb hy hl; have hm:=Nat.mod_lt (hi * BB + lo) (by omega:y > 0); have hz:hi * BB + lo < 18446744073709551616:=by simp only [BB] at *; omega
 have hsh : hi * 2 ^ 32 < 18446744073709551616 := by
  have h1:hi < BB:=by omega
  show hi * BB < _
  simp only [BB] at h1 ⊢; omega
 refine bB.intro Tryz.func279 rfl Tryz.ntmps279 rfl (fun cx=>(ts (ro rfl (cQ (cJ 0)) (ro rfl (cQ (cJ 0)) (eZ (cK (ts (rm rfl (ro rfl (iV (Ht rfl) (cJ 0)) (rm rfl (fX rfl rfl (eU rfl rfl (Ht rfl) (fun h=>cX (Ht rfl))) (fX rfl rfl (eU rfl rfl (Ht rfl) (fun h=>cX (Ht rfl))) (fX rfl rfl (eU rfl rfl (Ht rfl) (fun h=>uF (fW rfl h) (fW rfl h))) (ro rfl (eA (Ht rfl) (fun h=>(fW rfl h))) (eZ (fN (Ht rfl) (by simp; omega) ?_))))))))))))))))
 have hl2:lo < 18446744073709551616:=by simp only [BB] at hl; omega
 have hy2:y < 18446744073709551616:=by simp only [BB] at hyb; omega
 refine cU (ts (rm rfl (ro rfl (gW U_189 U_254 (Ht rfl) (by show _ < 18446744073709551616; simp only [BB] at *; omega)) (ro rfl (mM (Ht rfl) (cJ 32) (by decide) hsh) (rm rfl (ro rfl (gW U_189 U_254 (Ht rfl) (by show _ < 18446744073709551616; simp only [BB] at *; omega)) (ro rfl (aF.nat (oE rfl (Ht rfl) (Ht rfl) z7 z7) (tI hl)) (ra rfl (eZ ?_)))))))))
 refine cK (fV (m:=11) (dp 8 rfl (cX (Ht rfl)) (dp 2 rfl (cX (Ht rfl)) (dq 24 1 rfl (gW U_189 U_254 (Ht rfl) (by show _ < 18446744073709551616; simp only [BB] at *; omega)) (dS 23 0 25 2 rfl (jC (Ht rfl) (Ht rfl) zo (by show _ < 18446744073709551616; exact hz)) (dq 26 3 rfl (gW U_254 U_189 (Ht rfl) (by show _ < 4294967296; exact hq)) (dp 8 rfl (cX (Ht rfl)) (dp 2 rfl (cX (Ht rfl)) (dq 29 6 rfl (gW U_189 U_254 (Ht rfl) (by show _ < 18446744073709551616; simp only [BB] at *; omega)) ?_)))))))))
 refine dS 28 5 30 7 rfl (kN (Ht rfl) (Ht rfl) zo) (dq 31 8 rfl (gW U_254 U_189 (Ht rfl) (by show _ < 4294967296; simp only [BB] at *; omega)) (dq 27 4 rfl (cQ (Ht rfl)) (fG bF rfl (by kernel_rfl) (zF (zF (aJ (aJ (aJ (aV (ra rfl (eZ ?_)))))))))))
 exact bI rfl (eY rfl) (eY rfl)
theorem a0x {m k:Nat} (hm:(dg m).length ≤ 17592186044416) (hk:k ≤ 562949953421312):bB Tryz.prog 259 [aH m,NT .i64 k] (aH (m * 2 ^ k)):=by
 refine bB.intro Tryz.func259 rfl Tryz.ntmps259 rfl (fun cx=>(ts (ro rfl (cQ cV) (eZ (cK (ts (rm rfl (ro rfl (dK U_47 (Ht rfl) aA) (ro rfl (cB (Ht rfl) (cJ 0)) (rm rfl (fX rfl rfl (eU rfl rfl (Ht rfl) (fun h=>cX (Ht rfl))) (fX rfl rfl (eU rfl rfl (Ht rfl) (fun h=>cB (fW rfl h) (cJ 0))) (ro rfl (kX (Ht rfl) (fun h=>(fW rfl h))) (eZ (dQ (Ht rfl) (fun hb=>?_) (fun hb=>?_))))))))))))))))
 ·simp [aL] at hb
  have h0 : m * 2 ^ k = m := by
   rcases hb with h | h
   ·simp_all [pL]
   ·rw [h,Nat.pow_zero,Nat.mul_one]
  refine ts (rm rfl (ra rfl (eZ (fK rfl (fJ (eY rfl) ?_)))))
  exact (dB h0.symm)
 ·clear hb
  have hr:=Nat.mod_lt k (by decide:32 > 0)
  refine cU (ts (rm rfl (ro rfl (jC (Ht rfl) (cJ 32) zo z6) (rm rfl (ro rfl (kN (Ht rfl) (cJ 32) zo) (ro rfl (gW U_3 U_255 (Ht rfl) z7) (ra rfl (ra rfl (eZ (ts (rm rfl (ro rfl (dK U_47 (Ht rfl) aA) (rm rfl (ro rfl (dW (Ht rfl) (Ht rfl) z6) (ro rfl (dW (Ht rfl) (cJ 1) z6) ?_)))))))))))))))
  refine rn rfl (fS (T:=cA 0) (i:=Tryz.t189) V_47 jO rfl rfl (Ht rfl) rfl (fun _=>rfl) trivial (by show 4 * _ ≤ _; omega) zo) fun B29=>ra rfl (eZ (cK (ts (rm rfl (ro rfl (dK U_47 (Ht rfl) aA) (ro rfl (cX (cJ 0)) (eZ (eK ?_))))))))
  refine fT (fun (i : Nat) (out : List Nat) => Ac (dg m) (k / 32) (k % 32) out i) (fun (i : Nat) (out : List Nat) => (dg m).length - i) (fun (i : Nat) (out : List Nat) => [(5, NT .i64 (k / 32)), (6, NT .u64 (k % 32)), (7, Is (.slice (some ⟨B29, 0, none⟩) ((dg m).length + k / 32 + 1) ((dg m).length + k / 32 + 1))), (30, aH m), (31, NT .i64 (dg m).length), (32, NT .i64 i)]) (fun (i : Nat) (out : List Nat) => [box B29 189 (out.map cA)]) 0 (List.replicate ((dg m).length + k / 32 + 1) 0) (Ac.start _ _ _)
   (zS rfl) (aU (aB (lS _)) aY) (fun i out hS=>?_)
  refine ts (ro rfl (gV (Ht rfl) (Ht rfl)) (eZ (cK (dQ (Ht rfl) (fun hb=>?_) (fun hb=>?_)))))
  ·simp at hb
   have hlen:=hS.len; have hxi:=bE (bP m) i; have hok:=bE hS.dig (i + k / 32)
   have hv:=Ba hxi hr
   have hd:(dg m).getD i 0 * 2 ^ (k % 32) / 2 ^ 32 < 4294967296:=Nat.div_lt_of_lt_mul hv
   simp only [BB] at hxi hok
   refine cU (cK (eK (ts (rm rfl (ro rfl (dZ U_47 Z_189 (Ht rfl) (Ht rfl) rfl (eQ (aI zo))) (ro rfl (dV A_189 Z_189 (Ht rfl)) (ra rfl (ra rfl (eZ (ts (rm rfl (ro rfl (gW U_189 U_254 (Ht rfl) z7) (rm rfl (ro rfl (mM (Ht rfl) (Ht rfl) (by show _ ≤ _; simp [IntKind.bits]; omega) (by show _ < 18446744073709551616; exact hv)) (ra rfl (eZ (ts (rm rfl (rm rfl (rm rfl (ro rfl (dW (Ht rfl) (Ht rfl) z6) ?_)))))))))))))))))))))
   refine ro rfl (gX U_47 Z_189 (Ht rfl) (Ht rfl) rfl zo (by rw [Nat.mul_one,Nat.zero_add])) ?_
   refine ro rfl (fQ A_189 Z_189 (Ht rfl) (i:=0) rfl (eQ (aI zo))) (rm rfl (ro rfl (gO rfl U_254 U_189 (Ht rfl)) (ro rfl (oE rfl (Ht rfl) (Ht rfl) (by show _ < 4294967296; omega) (by show _ % 4294967296 < 4294967296; omega)) (ro rfl (gX U_47 Z_189 (Ht rfl) (Ht rfl) rfl zo (by rw [Nat.mul_one,Nat.zero_add])) ?_))))
   refine jL Z_189 (Ht rfl) (Ht rfl) (i:=0) rfl (by first | omega | (simp; omega)) rfl (eZ (cY (rm rfl (rm rfl (rm rfl (ro rfl (dW (Ht rfl) (Ht rfl) z6) (ro rfl (dW (Ht rfl) (cJ 1) z6) (rm rfl (ro rfl (fD (Ht rfl) (cJ 32) (by decide)) (ro rfl (gW U_254 U_189 (Ht rfl) (by show _ < 4294967296; exact hd)) (ro rfl (gX U_47 Z_189 (Ht rfl) (Ht rfl) rfl zo (by rw [Nat.mul_one,Nat.zero_add])) ?_)))))))))))
   refine jL Z_189 (Ht rfl) (Ht rfl) (i:=0) rfl (by first | omega | (simp; omega)) rfl (eZ (bH (cY (ro rfl (dW (Ht rfl) (cJ 1) z6) (rm rfl (eZ (gQ (i + 1,_) (hS.next (bP m) hr hb rfl rfl) (by dsimp only; omega) (zS rfl) (aU (aB (Hy _ _ _ _ _)) aY))))))))
  ·simp at hb
   have hkl:i = (dg m).length:=Nat.le_antisymm hS.kle hb
   subst hkl
   have hlen:=hS.len
   have hfin:=hS.fin
   rw [cT,lH] at hfin
   refine gK rfl (gG (i:=0) (tt:=7) rfl rfl (mF rfl hlen.symm (Nat.le_refl _)) (ts (rm rfl (ro rfl (cZ K_221 (qQ _ hS.dig zo) ⟨(Ht rfl),trivial⟩) (ra rfl (eZ (fK rfl (fJ (eY rfl) ?_))))))))
   exact (dB hfin)
theorem a2h {m k:Nat} (hm:(dg m).length ≤ 17592186044416) (hk:k ≤ 562949953421312):bB Tryz.prog 261 [aH m,NT .i64 k] (aH (m / 2 ^ k)):=by
 refine bB.intro Tryz.func261 rfl Tryz.ntmps261 rfl (fun cx=>?_)
 have hr:=Nat.mod_lt k (by decide:32 > 0)
 refine ts (ro rfl (cQ cV) (eZ (ts (rm rfl (ro rfl (jC (Ht rfl) (cJ 32) zo z6) (rm rfl (ro rfl (kN (Ht rfl) (cJ 32) zo) (ro rfl (gW U_3 U_255 (Ht rfl) z7) (ra rfl (ra rfl (eZ (cK (ts (rm rfl (rm rfl (ro rfl (dK U_47 (Ht rfl) aA) (ro rfl (mP (Ht rfl) (Ht rfl)) (eZ (dQ (Ht rfl) (fun hb=>?_) (fun hb=>?_))))))))))))))))))))
 ·simp at hb
  have h0:=Fj (bP m) hb (r:=k % 32)
  rw [cT,lH] at h0
  refine ts (ro rfl (cQ cV) (eZ (fK rfl (fJ (eY rfl) ?_))))
  exact (fun v V h=>dB h0.symm v V (kI v V h))
 ·simp at hb
  refine cU (ts (rm rfl (ro rfl (dK U_47 (Ht rfl) aA) (rm rfl (ro rfl (dG (Ht rfl) (Ht rfl) zo z6) (rn rfl (fS (T:=cA 0) (i:=Tryz.t189) V_47 jO rfl rfl (Ht rfl) rfl (fun _=>rfl) trivial (by show 4 * _ ≤ _; omega) zo) fun B23=>(ra rfl (eZ (cK (ts (rm rfl (ro rfl (jU U_47 (Ht rfl)) (ro rfl (cX (cJ 0)) (eZ (eK ?_)))))))))))))))
  refine fT (fun (i : Nat) (out : List Nat) => yP (dg m) (k / 32) (k % 32) out i) (fun (i : Nat) (out : List Nat) => (dg m).length - i) (fun (i : Nat) (out : List Nat) => [(0, aH m), (5, NT .i64 (k / 32)), (6, NT .u64 (k % 32)), (7, Is (.slice (some ⟨B23, 0, none⟩) ((dg m).length - k / 32) ((dg m).length - k / 32))), (25, NT .i64 ((dg m).length - k / 32 : Nat)), (26, NT .i64 i)]) (fun (i : Nat) (out : List Nat) => [box B23 189 (out.map cA)]) 0 (List.replicate ((dg m).length - k / 32) 0) (yP.start _ _ _)
   (zS rfl) (aU (aB (lS _)) aY) (fun i out hS=>?_)
  refine ts (ro rfl (gV (Ht rfl) (Ht rfl)) (eZ (cK (dQ (Ht rfl) (fun hb=>?_) (fun hb=>?_)))))
  ·simp at hb
   have hlen:=hS.len; have hx0:=bE (bP m) (i + k / 32); have hx1:=bE (bP m) (i + k / 32 + 1)
   have hio:i < out.length:=by omega
   simp only [BB] at hx0 hx1
   refine cU (cK (eK (ts (rm rfl (ra rfl (eZ (ts (rm rfl (rm rfl (rm rfl (ro rfl (dW (Ht rfl) (Ht rfl) z6) (ro rfl (dZ U_47 Z_189 (Ht rfl) (Ht rfl) rfl (eQ (aI zo))) (ro rfl (dV A_189 Z_189 (Ht rfl)) (ro rfl (gW U_189 U_254 (Ht rfl) z7) (ra rfl (eZ (cK (jG (fun (v:Nat)=>v = (dg m).getD (i + k / 32) 0 + BB * (dg m).getD (i + k / 32 + 1) 0) (fun (v:Nat)=>[(0,aH m),(5,NT .i64 (k / 32)),(6,NT .u64 (k % 32)),(7,Is (.slice (some ⟨B23,0,none⟩) ((dg m).length - k / 32) ((dg m).length - k / 32))),(8,NT .i64 i),(9,NT .u64 v),(25,NT .i64 ((dg m).length - k / 32:Nat)),(26,NT .i64 i)]) (fun (v:Nat)=>[box B23 189 (out.map cA)]) ?_ (fun v hv=>?_)))))))))))))))))))
   ·refine ts (rm rfl (rm rfl (ro rfl (dW (Ht rfl) (Ht rfl) z6) (ro rfl (dW (Ht rfl) (cJ 1) z6) (rm rfl (ro rfl (dK U_47 (Ht rfl) aA) (ro rfl (gV (Ht rfl) (Ht rfl)) (eZ (dQ (Ht rfl) (fun hk2 => ?_) (fun hk2 => ?_))))))))))
    ·simp at hk2
     refine cY (rm rfl (rm rfl (rm rfl (rm rfl (ro rfl (dW (Ht rfl) (Ht rfl) z6) (ro rfl (dW (Ht rfl) (cJ 1) z6) (ro rfl (dZ U_47 Z_189 (Ht rfl) (Ht rfl) rfl (eQ (aI zo))) (ro rfl (dV A_189 Z_189 (Ht rfl)) (ro rfl (gW U_189 U_254 (Ht rfl) z7) (ro rfl (mM (Ht rfl) (cJ 32) (by decide) (by show _ < 18446744073709551616; omega)) ?_))))))))))
     refine ro rfl (aF.nat (oE rfl (Ht rfl) (Ht rfl) z7 z7) (Mw hx0)) (ra rfl (eZ (aT ((dg m).getD (i + k / 32) 0 + BB * (dg m).getD (i + k / 32 + 1) 0) rfl (zS rfl) (dL.refl _))))
    ·simp at hk2
     refine cU (aT ((dg m).getD (i + k / 32) 0) (by simp [List.getD,List.getElem?_eq_none hk2]) (zS rfl) (dL.refl _))
   ·refine cY (rm rfl (rm rfl (rm rfl (rm rfl (ro rfl (fD (Ht rfl) (Ht rfl) (by show _ ≤ 64; omega)) (ro rfl (gO rfl U_254 U_189 (Ht rfl)) (ro rfl (gX U_47 Z_189 (Ht rfl) (Ht rfl) rfl zo (by rw [Nat.mul_one, Nat.zero_add])) ?_)))))))
    refine jL Z_189 (Ht rfl) (Ht rfl) (i:=0) rfl (by first | omega | (simp; omega)) rfl (eZ (bH (cY (ro rfl (dW (Ht rfl) (cJ 1) z6) (rm rfl (eZ (gQ (i + 1,_) (hS.next (bP m) hr hio (by rw [hv]; rfl)) (by dsimp only; omega) (zS rfl) (aU (aB (gN _ _ _)) aY))))))))
  ·simp at hb
   have hlen:=hS.len
   have hkl:i = out.length:=Nat.le_antisymm hS.kle zo
   subst hkl
   have hfin:=hS.fin (bP m) zo
   rw [cT,lH] at hfin
   refine gK rfl (gG (i:=0) (tt:=7) rfl rfl (mF rfl hlen.symm (Nat.le_refl _)) (ts (rm rfl (ro rfl (cZ K_221 (qQ _ hS.dig zo) ⟨(Ht rfl),trivial⟩) (ra rfl (eZ (fK rfl (fJ (eY rfl) ?_))))))))
   exact (dB hfin)
theorem Ln {m y:Nat} (hm:(dg m).length ≤ 17592186044416) (hy:0 < y) (hyb:y < BB):bB Tryz.prog 257 [aH m,cA y] (dN [aH (m / y),cA (m % y)]):=by
 refine bB.intro Tryz.func257 rfl Tryz.ntmps257 rfl (fun cx=>(ts (ro rfl (cQ cV) (ro rfl (cQ (cJ 0)) (eZ (ts (rm rfl (ro rfl (dK U_47 (Ht rfl) aA) (rn rfl (fS (T:=cA 0) (i:=Tryz.t189) V_47 jO rfl rfl (Ht rfl) rfl (fun _=>rfl) trivial (by show 4 * _ ≤ _; omega) zo) fun B11=>(ra rfl (eZ (ts (ro rfl (cQ (cJ 0)) (eZ (cK (ts (rm rfl (ro rfl (dK U_47 (Ht rfl) aA) (ro rfl (gM (Ht rfl) cV (tD zo)) (ra rfl (eZ (eK ?_))))))))))))))))))))))
 refine kP (fun (k : Nat) (out : List Nat) (r : Nat) => oN (dg m) y out k r) (fun (k : Nat) (out : List Nat) (r : Nat) => k) (fun (k : Nat) (out : List Nat) (r : Nat) => [(0, aH m), (1, cA y), (6, Is (.slice (some ⟨B11, 0, none⟩) (dg m).length (dg m).length)), (7, cA r), (8, aD .i64 ((k : Int) - 1))]) (fun (k : Nat) (out : List Nat) (r : Nat) => [box B11 189 (out.map cA)]) (dg m).length (List.replicate (dg m).length 0) 0 (oN.start _ hy)
  (zS rfl) (aU (aB (lS _)) aY) (fun k out r hS=>?_)
 refine cK (ts (rm rfl (ro rfl (lU (Ht rfl) cV) (eZ (dQ (Ht rfl) (fun hb=>?_) (fun hb=>?_))))))
 ·simp at hb
  have hlen:=hS.len; have hkl:=hS.kle
  refine cU (cK (eK (cY (rm rfl (rm rfl (rm rfl (rm rfl (rm rfl (ro rfl (dZ U_47 Z_189 (Ht rfl) (Ht rfl) (show ((k:Int) - 1) = ((k - 1:Nat):Int) by omega) (eQ (aI zo))) (ro rfl (dV A_189 Z_189 (Ht rfl)) (rm rfl (ro rfl (cZ Tryz.call279 (a06 hS.rlt (bE (bP m) (k - 1)) hyb) ⟨(Ht rfl),(Ht rfl),(Ht rfl),trivial⟩) (rm rfl (ro rfl (dU (Ht rfl) rfl) (ro rfl (dU (Ht rfl) rfl) (ro rfl (gX U_47 Z_189 (Ht rfl) (Ht rfl) (show ((k:Int) - 1) = ((k - 1:Nat):Int) by omega) zo (by rw [Nat.mul_one,Nat.zero_add])) ?_))))))))))))))))
  refine jL Z_189 (Ht rfl) (Ht rfl) (i:=0) rfl (by first | omega | (simp; omega)) rfl (ra rfl (eZ (bH (cY (rm rfl (ro rfl (gM (Ht rfl) cV (tD zo)) (ra rfl (eZ (gQ (k - 1,_,_) (hS.next (bP m) zo rfl) (by dsimp only; omega) (aQ rfl (aQ rfl (aQ rfl (aQ rfl (aZ rfl (aM zo) aX))))) (aU (aB (gN _ _ _)) aY))))))))))
 ·simp at hb
  have hk0:k = 0:=by omega
  subst hk0
  have hlen:=hS.len
  have hfin:=hS.fin
  rw [cT] at hfin
  refine gK rfl (gG (i:=0) (tt:=6) rfl rfl (mF rfl hlen.symm (Nat.le_refl _)) (ts (rm rfl (ro rfl (cZ K_221 (qQ _ hS.dig zo) ⟨(Ht rfl),trivial⟩) (rm rfl (ra rfl (ra rfl (eZ (bI rfl (fJ (eY rfl) ?_) (fJ (eY rfl) ?_))))))))))
  ·exact (dB hfin.1)
  ·exact (lL hfin.2)
end
section
open Go Go.RowKit
theorem a17 {us vs : List Nat} {q j B l : Nat} (hul : us.length = l) (hu : kE us) (hv : kE vs) (hq : q < BB) (hl : j + vs.length < us.length) (hL : us.length ≤ 1152921504606846976) :
    jH Tryz.prog 260 [Is (.slice (some ⟨B,0,none⟩) l l),vJ vs,NT .u64 q,NT .i64 j] [box B 189 (us.map cA)] (List Nat × Bool) (fun x=>aC x.2) (fun x=>[box B 189 (x.1.map cA)]) (fun x=>Gk us vs q j x.1 x.2):=by
 refine jH.intro Tryz.func260 rfl Tryz.ntmps260 rfl (fun cx Z=>(ts (ro rfl (cQ cV) (eZ (ts (ro rfl (cQ (cJ 0)) (ro rfl (cQ (cJ 0)) (eZ (cK (ts (rm rfl (ro rfl (dK U_47 (Ht rfl) aA) (ro rfl (cX (cJ 0)) (eZ (eK ?_)))))))))))))))
 refine uG (fun (i : Nat) (out : List Nat) (c : Nat) (b : Nat) => rL us vs q j out i c b) (fun (i : Nat) (out : List Nat) (c : Nat) (b : Nat) => vs.length - i) (fun (i : Nat) (out : List Nat) (c : Nat) (b : Nat) => [(0, Is (.slice (some ⟨B, 0, none⟩) l l)), (1, vJ vs), (2, NT .u64 q), (3, NT .i64 j), (9, NT .u64 c), (10, NT .u64 b), (16, vJ vs), (17, NT .i64 vs.length), (18, NT .i64 i)]) (fun (i : Nat) (out : List Nat) (c : Nat) (b : Nat) => [Z, box B 189 (out.map cA)]) 0 us 0 0 (rL.start hu vs q j)
  (zS rfl) (dL.refl _) (fun i out c b hS=>?_)
 refine ts (ro rfl (gV (Ht rfl) (Ht rfl)) (eZ (cK (dQ (Ht rfl) (fun hb=>?_) (fun hb=>?_)))))
 ·simp at hb
  have hlen:=hS.len; have hcl:=hS.clt; have hbl:=hS.ble; have hvi:=bE hv i; have hok:=bE hS.dig (i + j)
  have hp:=Jy hq hvi hS.clt
  simp only [BB] at hp hcl hvi hok
  obtain ⟨p,hp1⟩:∃ p,p = q * vs.getD i 0 + c:=⟨_,rfl⟩
  obtain ⟨x,hx1⟩:∃ x,x = ((out.getD (i + j) 0 + 18446744073709551616 - p % 4294967296) % 18446744073709551616 + 18446744073709551616 - b) % 18446744073709551616:=⟨_,rfl⟩
  refine cU (cK (eK (ts (rm rfl (ro rfl (dZ U_47 Z_189 (Ht rfl) (Ht rfl) rfl (eQ (aI zo))) (ro rfl (dV A_189 Z_189 (Ht rfl)) (ra rfl (ra rfl (eZ (ts (rm rfl (rm rfl (ro rfl (gW U_189 U_254 (Ht rfl) z7) (ro rfl (kQ (Ht rfl) (Ht rfl) z7) (rm rfl (ro rfl (aF.nat (dW (Ht rfl) (Ht rfl) z7) hp1.symm) ?_))))))))))))))))
  refine ra rfl (eZ (ts (rm rfl (ro rfl (fD (Ht rfl) (cJ 32) (by decide)) (ra rfl (eZ (ts (rm rfl (rm rfl (rm rfl (ro rfl (dW (Ht rfl) (Ht rfl) z6) (ro rfl (gX U_47 Z_189 (Ht rfl) (Ht rfl) rfl zo (by rw [Nat.mul_one,Nat.zero_add])) ?_))))))))))))
  refine ro rfl (fQ A_189 Z_189 (Ht rfl) (i:=1) rfl (eQ (aI zo))) (ro rfl (gW U_189 U_254 (Ht rfl) z7) (rm rfl (ro rfl (gO rfl U_254 U_189 (Ht rfl)) (ro rfl (gW U_189 U_254 (Ht rfl) z7) (ro rfl (mQ rfl (Ht rfl) (Ht rfl) (by show _ ≤ 18446744073709551616; first | omega | (simp only [lF]; omega))) ?_)))))
  refine rm rfl (ro rfl (aF.nat (mQ rfl (Ht rfl) (Ht rfl) (by show _ ≤ 18446744073709551616; first | omega | (simp only [lF]; omega))) hx1.symm) (ra rfl (eZ (ts (rm rfl (rm rfl (rm rfl (ro rfl (dW (Ht rfl) (Ht rfl) z6) (rm rfl (ro rfl (gO rfl U_254 U_189 (Ht rfl)) (ro rfl (gX U_47 Z_189 (Ht rfl) (Ht rfl) rfl zo (by rw [Nat.mul_one,Nat.zero_add])) ?_)))))))))))
  refine jL Z_189 (Ht rfl) (Ht rfl) (i:=1) rfl (by first | omega | (simp; omega)) rfl (eZ (cY (rm rfl (ro rfl (fD (Ht rfl) (cJ 63) (by decide)) (ra rfl (eZ (bH (cY (ro rfl (dW (Ht rfl) (cJ 1) z6) (rm rfl (eZ (gQ (i + 1,_,_,_) (hS.next hu hv hq hb hl hp1 (zJ hok hbl hx1) rfl) (by dsimp only; omega) (zS rfl) (aU (fun _ _ _ h=>h) (aU (aB (gN _ _ _)) aY))))))))))))))
 ·simp at hb
  have hkl:i = vs.length:=Nat.le_antisymm hS.ile hb
  subst hkl
  have hlen:=hS.len; have hcl:=hS.clt; have hbl:=hS.ble; have hok:=bE hS.dig (j + vs.length)
  obtain ⟨x,hx1⟩:∃ x,x = ((out.getD (j + vs.length) 0 + 18446744073709551616 - c) % 18446744073709551616 + 18446744073709551616 - b) % 18446744073709551616:=⟨_,rfl⟩
  have hfin:=hS.fin hl (Ah hok hcl hbl hx1) rfl
  simp only [BB] at hcl hok
  refine gK rfl (ts (rm rfl (rm rfl (rm rfl (ro rfl (dK U_47 (Ht rfl) aA) (ro rfl (dW (Ht rfl) (Ht rfl) z6) (ro rfl (gX U_47 Z_189 (Ht rfl) (Ht rfl) rfl zo (by rw [Nat.mul_one,Nat.zero_add])) ?_)))))))
  refine ro rfl (fQ A_189 Z_189 (Ht rfl) (i:=1) rfl (eQ (aI zo))) (ro rfl (gW U_189 U_254 (Ht rfl) z7) (rm rfl (ro rfl (mQ rfl (Ht rfl) (Ht rfl) (by show _ ≤ 18446744073709551616; first | omega | (simp only [lF]; omega))) (rm rfl (ro rfl (aF.nat (mQ rfl (Ht rfl) (Ht rfl) (by show _ ≤ 18446744073709551616; first | omega | (simp only [lF]; omega))) hx1.symm) (ra rfl (eZ (ts (rm rfl (rm rfl (rm rfl (ro rfl (dK U_47 (Ht rfl) aA) ?_))))))))))))
  refine ro rfl (dW (Ht rfl) (Ht rfl) z6) (rm rfl (ro rfl (gO rfl U_254 U_189 (Ht rfl)) (ro rfl (gX U_47 Z_189 (Ht rfl) (Ht rfl) rfl zo (by rw [Nat.mul_one,Nat.zero_add])) ?_)))
  refine jL Z_189 (Ht rfl) (Ht rfl) (i:=1) rfl (by first | omega | (simp; omega)) rfl (eZ (ts (rm rfl (ro rfl (fD (Ht rfl) (cJ 63) (by decide)) (ro rfl (iV (Ht rfl) (cJ 0)) (ra rfl (eZ ?_)))))))
  exact lR (_,_) hfin [0,1] ⟨⟨_,rfl,fun _ _ _ h=>h⟩,⟨_,rfl,(aB (gN _ _ _))⟩,trivial⟩ (by decide) (yO rfl (eY rfl))
theorem Lb {m n:Nat} (hm:(dg m).length ≤ 17592186044415) (hn1:(dg n).length ≤ 17592186044416) (hn:n ≠ 0):bB Tryz.prog 220 [aH m,aH n] (dN [aH (m / n),aH (m % n)]):=by
 refine bB.intro Tryz.func220 rfl Tryz.ntmps220 rfl (fun cx=>(ts (ro rfl (cQ cV) (ro rfl (cQ cV) (eZ (cK (ts (rm rfl (rm rfl (ro rfl (cZ Tryz.call216 (Vd zo zo) ⟨(Ht rfl),(Ht rfl),trivial⟩) (ro rfl (qO (Ht rfl) cV) (eZ (dQ (Ht rfl) (fun hb=>?_) (fun hb=>?_))))))))))))))
 ·simp only [decide_eq_true_eq] at hb
  have hlt : m < n := by
   unfold pC at hb
   split at hb
   ·assumption
   ·split at hb <;> simp at hb
  refine ts (rm rfl (ro rfl (cQ cV) (ra rfl (eZ (bI rfl (fJ (eY rfl) ?_) (fJ (eY rfl) ?_))))))
  ·exact (fun v V h=>dB (Nat.div_eq_of_lt hlt).symm v V (kI v V h))
  ·exact (dB (Nat.mod_eq_of_lt hlt).symm)
 ·simp only [decide_eq_false_iff_not] at hb
  have hle : n ≤ m := by
   unfold pC at hb
   split at hb
   ·simp at hb
   ·omega
  clear hb
  refine cU (cK (ts (rm rfl (ro rfl (dK U_47 (Ht rfl) aA) (ro rfl (cB (Ht rfl) (cJ 1)) (eZ (dQ (Ht rfl) (fun h1=>?_) (fun h1=>?_))))))))
  ·simp at h1
   have hy0:=Qo h1
   have hyb:=bE (bP n) 0
   have hmod:=Nat.mod_lt m (show (dg n).getD 0 0 > 0 by omega)
   simp only [BB] at hyb
   refine ts (rm rfl (rm rfl (ro rfl (dZ U_47 Z_189 (Ht rfl) (cJ 0) rfl (eQ (aI zo))) (ro rfl (dV A_189 Z_189 (Ht rfl)) (ro rfl (cZ Tryz.call257 (Ln zo zo hyb) ⟨(Ht rfl),(Ht rfl),trivial⟩) (rm rfl (ro rfl (dU (Ht rfl) rfl) (ro rfl (dU (Ht rfl) rfl) (ra rfl (ra rfl (eZ (ts (rm rfl (rm rfl (ro rfl (gW U_189 U_254 (Ht rfl) z7) (ro rfl (cZ Tryz.call241 (Eh zo) ⟨(Ht rfl),trivial⟩) ?_))))))))))))))))
   refine ra rfl (ra rfl (eZ (bI rfl (fJ (eY rfl) ?_) (fJ (eY rfl) ?_))))
   ·exact (dB (by rw [hy0]))
   ·exact (dB (by rw [hy0]))
  ·simp at h1
   have hl0:(dg n).length ≠ 0:=fun e=>hn (aL.1 e)
   have hyb:=bE (bP n) ((dg n).length - 1)
   obtain ⟨s,hs⟩:∃ s,s = 32 - bl ((dg n).getD ((dg n).length - 1) 0):=⟨_,rfl⟩
   obtain ⟨hs1,hvl,hvb⟩:=Hx hn hs
   obtain ⟨hc1,hc2,hc3,hc4⟩:=Hq (m:=m) hs1
   simp only [BB] at hyb
   have hp2:0 < 2 ^ s:=Nat.pow_pos (by decide)
   have hX0:(dg (m * 2 ^ s)).length ≠ 0:=fun e=>(Nat.ne_of_gt (Nat.mul_pos (show 0 < m by omega) hp2)) (aL.1 e)
   have hmono:=iM hle
   refine cU (ts (rm rfl (ro rfl (dK U_47 (Ht rfl) aA) (rm rfl (rm rfl (ro rfl (dK U_47 (Ht rfl) aA) (ro rfl (dG (Ht rfl) (cJ 1) zo z6) (ro rfl (dZ U_47 Z_189 (Ht rfl) (Ht rfl) rfl (eQ (aI zo))) (ro rfl (dV A_189 Z_189 (Ht rfl)) (ro rfl (aF.nat (cZ Tryz.call258 (a1T zo) ⟨(Ht rfl),trivial⟩) hs.symm) (ra rfl (ra rfl (eZ (ts (rm rfl (rm rfl (ro rfl (cZ Tryz.call259 (a0x zo zo) ⟨(Ht rfl),(Ht rfl),trivial⟩) ?_)))))))))))))))))
   refine ra rfl (eZ (ts (rm rfl (ro rfl (dK U_47 (Ht rfl) aA) (ro rfl (dW (Ht rfl) (cJ 1) z6) (rn rfl (fS (T:=cA 0) (i:=Tryz.t189) V_47 jO rfl rfl (Ht rfl) rfl (fun _=>rfl) trivial (by show 4 * _ ≤ _; omega) zo) fun B55=>(ra rfl (eZ (ts (rm rfl (rm rfl (rm rfl (ro rfl (cZ Tryz.call259 (a0x zo zo) ⟨(Ht rfl),(Ht rfl),trivial⟩) (Le U_47 Z_189 (Ht rfl) (Ht rfl) (Vh hX0) a0p (i:=0) rfl (by simp) (by simp; omega) (Gj _ _) rfl rfl ?_))))))))))))))
   refine eZ (ts (rm rfl (ro rfl (jU U_47 (Ht rfl)) (rm rfl (ro rfl (dG (Ht rfl) (Ht rfl) zo z6) (rn rfl (fS (T:=cA 0) (i:=Tryz.t189) V_47 jO rfl rfl (Ht rfl) rfl (fun _=>rfl) trivial (by show 4 * _ ≤ _; omega) zo) fun B65=>(ra rfl (eZ (cK (ts (rm rfl (ro rfl (jU U_47 (Ht rfl)) (ro rfl (gM (Ht rfl) cV (tD zo)) (ra rfl (eZ (eK ?_))))))))))))))))
   obtain ⟨vs,hvs⟩:∃ vs,vs = dg (n * 2 ^ s):=⟨_,rfl⟩
   rw [← hvs] at hvl hvb
   have hv:kE vs:=hvs ▸ bP _
   have hvv:val vs = n * 2 ^ s:=by rw [hvs,cT]
   have hV0:0 < val vs:=by rw [hvv]; exact Nat.mul_pos zo hp2
   have hnr:=Lu hv zo hvb
   have hv1:=hnr.v1lt; have hv2:=hnr.v2lt; have hbig:=hnr.big
   simp only [BB] at hv1 hv2 hbig
   refine kP (fun (k : Nat) (us : List Nat) (qs : List Nat) => nD (m * 2 ^ s) vs us qs k ∧ us.length = (dg m).length + 1) (fun (k : Nat) (us : List Nat) (qs : List Nat) => k) (fun (k : Nat) (us : List Nat) (qs : List Nat) => [(8, NT .i64 vs.length), (9, NT .i64 s), (10, vJ vs), (11, Is (.slice (some ⟨B55, 0, none⟩) ((dg m).length + 1) ((dg m).length + 1))), (12, Is (.slice (some ⟨B65, 0, none⟩) ((dg m).length + 1 - (dg n).length) ((dg m).length + 1 - (dg n).length))), (13, aD .i64 ((k : Int) - 1))]) (fun (k : Nat) (us : List Nat) (qs : List Nat) => [box B55 189 (us.map cA), box B65 189 (qs.map cA)]) ((dg m).length + 1 - (dg n).length) (zM m s) (List.replicate ((dg m).length + 1 - (dg n).length) 0) ⟨nD.start hv zo hvb hs1 (by have := iY (bP m); rwa [cT] at this) hc3 hc2 hc4 zo, hc2⟩
    (aZ rfl (lL hvl.symm) (aQ rfl (aZ rfl (fun v V h=>by rw [hvs]; exact h) (aQ rfl (aQ rfl (aZ rfl (aM zo) aX)))))) (aU (fun _ _ _ h=>h) (aU (aB (lS _)) aY)) (fun k us qs ⟨hS,hus⟩=>?_)
   refine cK (ts (rm rfl (ro rfl (lU (Ht rfl) cV) (eZ (dQ (Ht rfl) (fun hk=>?_) (fun hk=>?_))))))
   ·simp at hk
    obtain ⟨j,rfl⟩:∃ j,k = j + 1:=⟨k - 1,by omega⟩
    have htp:=hS.top hv zo (Nat.succ_pos j) rfl
    have hkq:=hS.kle; have hlq:=hS.lenq
    rw [Nat.add_sub_cancel] at htp
    have hu0:=bE hS.dig (j + vs.length); have hu1:=bE hS.dig (j + vs.length - 1); have hu2:=bE hS.dig (j + vs.length - 2)
    have ht64:=Px hu0 hu1; have hsh:=Fy hu0
    obtain ⟨top,htop⟩:∃ top,top = us.getD (j + vs.length) 0 * BB + us.getD (j + vs.length - 1) 0:=⟨_,rfl⟩
    have hor:=(tI (a:=us.getD (j + vs.length) 0) hu1).trans htop.symm
    rw [← htop] at htp ht64
    have hu2b:=hu2
    simp only [BB] at hu0 hu1 hu2
    refine yK (E':=[(8,_),(9,_),(10,_),(11,_),(12,_),(13,_),(69,_),(70,_)]) (aQ rfl (aQ rfl (aQ rfl (aQ rfl (aQ rfl (aZ rfl (aM (show ((j + 1:Nat):Int) - 1 = (j:Int) by omega)) (zS rfl))))))) (cU (cK (eK (cK (fV (m:=16) (dp 11 rfl (cX (Ht rfl)) (dp 13 rfl (cX (Ht rfl)) (dp 8 rfl (cX (Ht rfl)) (dS 74 1 75 2 rfl (dW (Ht rfl) (Ht rfl) z6) (dS 73 0 76 3 rfl (gX U_47 Z_189 (Ht rfl) (Ht rfl) rfl zo (by rw [Nat.mul_one,Nat.zero_add])) ?_))))))))))
    refine dq 77 4 rfl (fQ A_189 Z_189 (Ht rfl) (i:=0) rfl (eQ (aI zo))) (dq 78 5 rfl (gW U_189 U_254 (Ht rfl) z7) (dq 79 6 rfl (mM (Ht rfl) (cJ 32) (by decide) hsh) (dp 11 rfl (cX (Ht rfl)) (dp 13 rfl (cX (Ht rfl)) (dp 8 rfl (cX (Ht rfl)) (dS 82 9 83 10 rfl (dW (Ht rfl) (Ht rfl) z6) (dq 84 11 rfl (dG (Ht rfl) (cJ 1) zo z6) ?_)))))))
    refine dS 81 8 85 12 rfl (gX U_47 Z_189 (Ht rfl) (Ht rfl) rfl zo (by rw [Nat.mul_one,Nat.zero_add])) ?_
    refine dq 86 13 rfl (fQ A_189 Z_189 (Ht rfl) (i:=0) rfl (eQ (aI zo))) (dq 87 14 rfl (gW U_189 U_254 (Ht rfl) z7) (fG bF rfl (by kernel_rfl) (zF (zF (zF (zF (aV (ro rfl (aF.nat (oE rfl (Ht rfl) (Ht rfl) z7 z7) hor) ?_))))))))
    refine ra rfl (eZ (cK (fV (m:=17) (dp 14 rfl (cX (Ht rfl)) (dp 10 rfl (cX (Ht rfl)) (dp 8 rfl (cX (Ht rfl)) (dq 92 2 rfl (dG (Ht rfl) (cJ 1) zo z6) (dS 91 1 93 3 rfl (dZ U_47 Z_189 (Ht rfl) (Ht rfl) rfl (eQ (aI zo))) (dq 94 4 rfl (dV A_189 Z_189 (Ht rfl)) (dq 95 5 rfl (gW U_189 U_254 (Ht rfl) z7) ?_))))))))))
    refine dS 90 0 96 6 rfl (jC (Ht rfl) (Ht rfl) zo (by show _ < 18446744073709551616; exact ht64)) (dp 14 rfl (cX (Ht rfl)) (dp 10 rfl (cX (Ht rfl)) (dp 8 rfl (cX (Ht rfl)) (dq 100 10 rfl (dG (Ht rfl) (cJ 1) zo z6) (dS 99 9 101 11 rfl (dZ U_47 Z_189 (Ht rfl) (Ht rfl) rfl (eQ (aI zo))) (dq 102 12 rfl (dV A_189 Z_189 (Ht rfl)) (dq 103 13 rfl (gW U_189 U_254 (Ht rfl) z7) ?_)))))))
    refine dS 98 8 104 14 rfl (kN (Ht rfl) (Ht rfl) zo) (dq 97 7 rfl (cQ (Ht rfl)) (fG bF rfl (by kernel_rfl) (zF (zF (zF (zF (aJ (aV (ra rfl (eZ (cK (jG (fun (g:Nat)=>Kq (val (us.drop j)) (val vs) g) (fun (g:Nat)=>[(8,NT .i64 vs.length),(9,NT .i64 s),(10,vJ vs),(11,Is (.slice (some ⟨B55,0,none⟩) ((dg m).length + 1) ((dg m).length + 1))),(12,Is (.slice (some ⟨B65,0,none⟩) ((dg m).length + 1 - (dg n).length) ((dg m).length + 1 - (dg n).length))),(13,NT .i64 j),(15,NT .u64 g)]) (fun (g:Nat)=>[box B55 189 (us.map cA),box B65 189 (qs.map cA)]) ?_ (fun g hg=>?_)))))))))))))
    ·refine eK ?_
     refine fT (fun (g : Nat) (r : Nat) => lE (val (us.drop j)) (val vs) (vs.getD (vs.length - 1) 0) top g r ∧ r < 4294967296) (fun (g : Nat) (r : Nat) => g) (fun (g : Nat) (r : Nat) => [(8, NT .i64 vs.length), (9, NT .i64 s), (10, vJ vs), (11, Is (.slice (some ⟨B55, 0, none⟩) ((dg m).length + 1) ((dg m).length + 1))), (12, Is (.slice (some ⟨B65, 0, none⟩) ((dg m).length + 1 - (dg n).length) ((dg m).length + 1 - (dg n).length))), (13, NT .i64 j), (15, NT .u64 g), (16, NT .u64 r)]) (fun (g : Nat) (r : Nat) => [box B55 189 (us.map cA), box B65 189 (qs.map cA)]) (top / vs.getD (vs.length - 1) 0) (top % vs.getD (vs.length - 1) 0) ⟨lE.start hnr htp, Nat.lt_trans (Nat.mod_lt _ zo) hv1⟩
      (zS rfl) (dL.refl _) (fun g r ⟨hG,hr⟩=>?_)
     have hgl:=(hG.glt hnr htp).1
     have hrs:=Fy (a:=r) hr
     have horr:=tI (a:=r) hu2b
     simp only [BB] at hgl
     refine cK (cK (fV (m:=22) (dp 15 rfl (cX (Ht rfl)) (dq 106 0 rfl (mP (Ht rfl) (cJ 4294967296)) (dq 107 1 rfl (cX (Ht rfl)) (C.D_step (Ei:=[(15,_),(108,_)]) rfl rfl (bV (bK rfl rfl) (bV (bG 2 rfl rfl) bW)) (eU rfl rfl (Ht rfl) (fun h=>cX (Ht rfl))) (C.D_step (Ei:=[(10,_),(108,_)]) rfl rfl (bV (bK rfl rfl) (bV (bG 2 rfl rfl) bW)) (eU rfl rfl (Ht rfl) (fun h=>cX (Ht rfl))) (C.D_step (Ei:=[(8,_),(108,_)]) rfl rfl (bV (bK rfl rfl) (bV (bG 2 rfl rfl) bW)) (eU rfl rfl (Ht rfl) (fun h=>cX (Ht rfl))) ?_))))))))
     refine C.D_step (Ei:=[(111,_),(108,_)]) rfl rfl (bV (bG 5 rfl rfl) (bV (bG 2 rfl rfl) bW)) (eU rfl rfl (Ht rfl) (fun h=>dG (fW rfl h) (cJ 2) (by first | omega | (simp at h; omega)) (by show _ < 9223372036854775808; first | omega | (simp at h; omega)))) (C.D_step (Ei:=[(110,_),(112,_),(108,_)]) rfl rfl (bV (bG 4 rfl rfl) (bV (bG 6 rfl rfl) (bV (bG 2 rfl rfl) bW))) (eU rfl rfl (Ht rfl) (fun h=>dZ U_47 Z_189 (fW rfl h) (fW rfl h) rfl (eQ (aI (by first | omega | (simp at h; omega)))))) ?_)
     refine C.D_step (Ei:=[(113,_),(108,_)]) rfl rfl (bV (bG 7 rfl rfl) (bV (bG 2 rfl rfl) bW)) (eU rfl rfl (Ht rfl) (fun h=>dV A_189 Z_189 (fW rfl h))) (C.D_step (Ei:=[(114,_),(108,_)]) rfl rfl (bV (bG 8 rfl rfl) (bV (bG 2 rfl rfl) bW)) (eU rfl rfl (Ht rfl) (fun h=>gW U_189 U_254 (fW rfl h) (by show _ < 18446744073709551616; first | omega | (simp at h; omega)))) (C.D_step (Ei:=[(109,_),(115,_),(108,_)]) rfl rfl (bV (bG 3 rfl rfl) (bV (bG 9 rfl rfl) (bV (bG 2 rfl rfl) bW))) (eU rfl rfl (Ht rfl) (fun h=>kQ (fW rfl h) (fW rfl h) (by show _ < 18446744073709551616; simp at h; exact a0C h hv2))) ?_))
     refine C.D_step (Ei:=[(16,_),(108,_)]) rfl rfl (bV (bK rfl rfl) (bV (bG 2 rfl rfl) bW)) (eU rfl rfl (Ht rfl) (fun h=>cX (Ht rfl))) (C.D_step (Ei:=[(117,_),(108,_)]) rfl rfl (bV (bG 11 rfl rfl) (bV (bG 2 rfl rfl) bW)) (eU rfl rfl (Ht rfl) (fun h=>mM (fW rfl h) (cJ 32) (by decide) hrs)) (C.D_step (Ei:=[(11,_),(108,_)]) rfl rfl (bV (bK rfl rfl) (bV (bG 2 rfl rfl) bW)) (eU rfl rfl (Ht rfl) (fun h=>cX (Ht rfl))) (C.D_step (Ei:=[(13,_),(108,_)]) rfl rfl (bV (bK rfl rfl) (bV (bG 2 rfl rfl) bW)) (eU rfl rfl (Ht rfl) (fun h=>cX (Ht rfl))) ?_)))
     refine C.D_step (Ei:=[(8,_),(108,_)]) rfl rfl (bV (bK rfl rfl) (bV (bG 2 rfl rfl) bW)) (eU rfl rfl (Ht rfl) (fun h=>cX (Ht rfl))) (C.D_step (Ei:=[(120,_),(121,_),(108,_)]) rfl rfl (bV (bG 14 rfl rfl) (bV (bG 15 rfl rfl) (bV (bG 2 rfl rfl) bW))) (eU rfl rfl (Ht rfl) (fun h=>dW (fW rfl h) (fW rfl h) (by show _ < 9223372036854775808; first | omega | (simp at h; omega)))) (C.D_step (Ei:=[(122,_),(108,_)]) rfl rfl (bV (bG 16 rfl rfl) (bV (bG 2 rfl rfl) bW)) (eU rfl rfl (Ht rfl) (fun h=>dG (fW rfl h) (cJ 2) (by first | omega | (simp at h; omega)) (by show _ < 9223372036854775808; first | omega | (simp at h; omega)))) ?_))
     refine C.D_step (Ei:=[(119,_),(123,_),(108,_)]) rfl rfl (bV (bG 13 rfl rfl) (bV (bG 17 rfl rfl) (bV (bG 2 rfl rfl) bW))) (eU rfl rfl (Ht rfl) (fun h=>gX U_47 Z_189 (fW rfl h) (fW rfl h) rfl (by first | omega | (simp at h; omega)) (by rw [Nat.mul_one,Nat.zero_add]))) ?_
     refine C.D_step (Ei:=[(124,_),(108,_)]) rfl rfl (bV (bG 18 rfl rfl) (bV (bG 2 rfl rfl) bW)) (eU rfl rfl (Ht rfl) (fun h=>fQ A_189 Z_189 (fW rfl h) (i:=0) rfl (eQ (aI zo)))) (C.D_step (Ei:=[(125,_),(108,_)]) rfl rfl (bV (bG 19 rfl rfl) (bV (bG 2 rfl rfl) bW)) (eU rfl rfl (Ht rfl) (fun h=>gW U_189 U_254 (fW rfl h) (by show _ < 18446744073709551616; first | omega | (simp at h; omega)))) (C.D_step (Ei:=[(118,_),(126,_),(108,_)]) rfl rfl (bV (bG 12 rfl rfl) (bV (bG 20 rfl rfl) (bV (bG 2 rfl rfl) bW))) (eU rfl rfl (Ht rfl) (fun h=>aF.nat (oE rfl (fW rfl h) (fW rfl h) (by show _ < 18446744073709551616; first | omega | (simp at h; omega)) (by show _ < 18446744073709551616; first | omega | (simp at h; omega))) horr)) ?_))
     refine fG bF rfl (by kernel_rfl) (zF (zF (zF (zF (zF (aJ (aJ (aV (fX rfl rfl (eU rfl rfl (Ht rfl) (fun h=>eT (fW rfl h) (fW rfl h))) (ro rfl (kX (Ht rfl) (fun h=>(fW rfl h))) (eZ (dQ (Ht rfl) (fun hc=>?_) (fun hc=>?_)))))))))))))
     ·have hn2 := hG.next hnr htp (by simpa [BB] using hc)
      have hg1:=hn2.2
      refine cU (eK (ts (rm rfl (ro rfl (dG (Ht rfl) (cJ 1) zo z7) (ra rfl (eZ (ts (rm rfl (rm rfl (rm rfl (ro rfl (dG (Ht rfl) (cJ 1) zo z6) (ro rfl (dZ U_47 Z_189 (Ht rfl) (Ht rfl) rfl (eQ (aI zo))) (ro rfl (dV A_189 Z_189 (Ht rfl)) (ro rfl (gW U_189 U_254 (Ht rfl) z7) ?_))))))))))))))
      refine ro rfl (dW (Ht rfl) (Ht rfl) z7) (ra rfl (eZ (ts (rm rfl (ro rfl (mP (Ht rfl) (cJ 4294967296)) (eZ (dQ (Ht rfl) (fun hr2=>?_) (fun hr2=>?_))))))))
      ·simp at hr2
       refine gK rfl (aT (g - 1) (hn2.1.stop hnr htp hr2) (zS rfl) (dL.refl _))
      ·simp at hr2
       refine cU (bH (gQ (g - 1,_) ⟨hn2.1,hr2⟩ (by dsimp only; omega) (zS rfl) (dL.refl _)))
     ·simp at hc
      refine gK rfl (aT g (hG.done hnr htp hc.1 hc.2) (zS rfl) (dL.refl _))
    ·have hglt := hg.lt
     simp only [BB] at hglt
     refine cK (qM (fun (us2:List Nat) (g2:Nat)=>nD (m * 2 ^ s) vs us2 (qs.set j g2) j ∧ g2 < 4294967296 ∧ us2.length = (dg m).length + 1) (fun (us2:List Nat) (g2:Nat)=>[(8,NT .i64 vs.length),(9,NT .i64 s),(10,vJ vs),(11,Is (.slice (some ⟨B55,0,none⟩) ((dg m).length + 1) ((dg m).length + 1))),(12,Is (.slice (some ⟨B65,0,none⟩) ((dg m).length + 1 - (dg n).length) ((dg m).length + 1 - (dg n).length))),(13,NT .i64 j),(15,NT .u64 g2)]) (fun (us2:List Nat) (g2:Nat)=>[box B55 189 (us2.map cA),box B65 189 (qs.map cA)]) ?_ (fun us2 g2 ⟨hD,hg2,hus2⟩=>?_))
     ·refine ts (rm rfl (rm rfl (rm rfl (rm rfl (Dy Tryz.call260 (a17 hus hS.dig hv hg.lt zo zo) (i := 0) rfl ⟨(Ht rfl), (Ht rfl), (Ht rfl), (Ht rfl), trivial⟩ rfl (fun ⟨out, b⟩ hT => ?_))))))
      dsimp only at hT
      refine eZ (dQ (Ht rfl) (fun hbb=>?_) (fun hbb=>?_))
      ·have hbb : b = true := hbb
       subst hbb
       have hg0:=hS.gpos hv rfl zo hT
       have hol:=hT.len
       refine ts (rm rfl (ro rfl (dG (Ht rfl) (cJ 1) zo z7) (ra rfl (eZ (ts (ro rfl (cQ (cJ 0)) (eZ (cK (ts (rm rfl (ro rfl (dK U_47 (Ht rfl) aA) (ro rfl (cX (cJ 0)) (eZ (eK ?_))))))))))))))
       refine kP (fun (i : Nat) (out2 : List Nat) (c : Nat) => rT out vs j out2 i c) (fun (i : Nat) (out2 : List Nat) (c : Nat) => vs.length - i) (fun (i : Nat) (out2 : List Nat) (c : Nat) => [(8, NT .i64 vs.length), (9, NT .i64 s), (10, vJ vs), (11, Is (.slice (some ⟨B55, 0, none⟩) ((dg m).length + 1) ((dg m).length + 1))), (12, Is (.slice (some ⟨B65, 0, none⟩) ((dg m).length + 1 - (dg n).length) ((dg m).length + 1 - (dg n).length))), (13, NT .i64 j), (15, NT .u64 (g - 1 : Nat)), (17, NT .u64 c), (149, vJ vs), (150, NT .i64 vs.length), (151, NT .i64 i)]) (fun (i : Nat) (out2 : List Nat) (c : Nat) => [box B55 189 (out2.map cA), box B65 189 (qs.map cA)]) 0 out 0 (rT.start hT.dig vs j)
        (zS rfl) (dL.refl _) (fun i out2 c hB=>?_)
       refine ts (ro rfl (gV (Ht rfl) (Ht rfl)) (eZ (cK (dQ (Ht rfl) (fun hi=>?_) (fun hi=>?_)))))
       ·simp at hi
        have hlen:=hB.len; have hcl:=hB.cle; have hvi:=bE hv i; have hok:=bE hB.dig (i + j)
        simp only [BB] at hvi hok
        refine cU (cK (eK (ts (rm rfl (ro rfl (dZ U_47 Z_189 (Ht rfl) (Ht rfl) rfl (eQ (aI zo))) (ro rfl (dV A_189 Z_189 (Ht rfl)) (ra rfl (ra rfl (eZ (ts (rm rfl (rm rfl (rm rfl (rm rfl (ro rfl (dW (Ht rfl) (Ht rfl) z6) (ro rfl (gX U_47 Z_189 (Ht rfl) (Ht rfl) rfl zo (by rw [Nat.mul_one,Nat.zero_add])) ?_))))))))))))))))
        refine ro rfl (fQ A_189 Z_189 (Ht rfl) (i:=0) rfl (eQ (aI zo))) (ro rfl (gW U_189 U_254 (Ht rfl) z7) (rm rfl (ro rfl (gW U_189 U_254 (Ht rfl) z7) (ro rfl (dW (Ht rfl) (Ht rfl) z7) (ro rfl (dW (Ht rfl) (Ht rfl) z7) ?_)))))
        refine ra rfl (eZ (ts (rm rfl (rm rfl (rm rfl (ro rfl (dW (Ht rfl) (Ht rfl) z6) (rm rfl (ro rfl (gO rfl U_254 U_189 (Ht rfl)) (ro rfl (gX U_47 Z_189 (Ht rfl) (Ht rfl) rfl zo (by rw [Nat.mul_one,Nat.zero_add])) ?_)))))))))
        refine jL Z_189 (Ht rfl) (Ht rfl) (i:=0) rfl (by first | omega | (simp; omega)) rfl (eZ (cY (rm rfl (ro rfl (fD (Ht rfl) (cJ 32) (by decide)) (ra rfl (eZ (bH (cY (ro rfl (dW (Ht rfl) (cJ 1) z6) (rm rfl (eZ (gQ (i + 1,_,_) (hB.next hv hi zo rfl) (by dsimp only; omega) (zS rfl) (aU (aB (gN _ _ _)) (aU (fun _ _ _ h=>h) aY))))))))))))))
       ·simp at hi
        have hil:i = vs.length:=Nat.le_antisymm hB.ile hi
        subst hil
        have hlen:=hB.len; have hcl:=hB.cle; have hok:=bE hB.dig (j + vs.length)
        have hBk:=hB.fin zo rfl
        obtain ⟨_,hDn⟩:=hS.wrong hv hV0 (Nat.succ_pos j) rfl hg hT hBk
        simp only [BB] at hok
        refine gK rfl (cY (rm rfl (rm rfl (rm rfl (ro rfl (dW (Ht rfl) (Ht rfl) z6) (ro rfl (gX U_47 Z_189 (Ht rfl) (Ht rfl) rfl zo (by rw [Nat.mul_one,Nat.zero_add])) ?_))))))
        refine ro rfl (fQ A_189 Z_189 (Ht rfl) (i:=0) rfl (eQ (aI zo))) (rm rfl (ro rfl (gW U_254 U_189 (Ht rfl) (by show _ < 4294967296; first | omega | (simp only [lF]; omega))) (ro rfl (Ly rfl (Ht rfl) (Ht rfl)) (ro rfl (gX U_47 Z_189 (Ht rfl) (Ht rfl) rfl zo (by rw [Nat.mul_one,Nat.zero_add])) ?_))))
        refine jL Z_189 (Ht rfl) (Ht rfl) (i:=0) rfl (by first | omega | (simp; omega)) rfl (eZ (aT (_,g - 1) ⟨hDn,by dsimp only; omega,by simp; omega⟩ (zS rfl) (aU (aB (gN _ _ _)) (aU (fun _ _ _ h=>h) aY))))
      ·have hbb : b = false := hbb
       subst hbb
       have hol:=hT.len
       refine cU (aT (out,g) ⟨hS.right hv hV0 (Nat.succ_pos j) rfl hg hT,hglt,by dsimp only; omega⟩ (zS rfl) (dL.refl _))
     ·refine cY (rm rfl (rm rfl (rm rfl (ro rfl (gW U_254 U_189 (Ht rfl) (by show _ < 4294967296; first | omega | (simp only [lF]; omega))) (ro rfl (gX U_47 Z_189 (Ht rfl) (Ht rfl) rfl zo (by rw [Nat.mul_one, Nat.zero_add])) ?_)))))
      refine jL Z_189 (Ht rfl) (Ht rfl) (i:=1) rfl (by first | omega | (simp; omega)) rfl (eZ (bH (cY (rm rfl (ro rfl (gM (Ht rfl) cV (tD zo)) (ra rfl (eZ (gQ (j,us2,_) ⟨hD,hus2⟩ (by dsimp only; omega) (zS rfl) (aU (fun _ _ _ h=>h) (aU (aB (gN _ _ _)) aY))))))))))
   ·simp at hk
    have hk0:k = 0:=by omega
    subst hk0
    have hfin:=hS.fin hV0
    have hlq:=hS.lenq
    rw [hvv] at hfin
    have hdiv:val qs = m / n:=by rw [hfin.1]; exact Nat.mul_div_mul_right _ _ hp2
    have hsm:val us < BB ^ vs.length:=by have h1:=hS.small; rw [List.drop_zero] at h1; exact Nat.lt_trans h1 (iY hv)
    have hmod : val (us.take vs.length) / 2 ^ s = m % n := by
     rw [nQ hsm zo,hfin.2,Nat.mul_mod_mul_right,Nat.mul_div_cancel _ hp2]
    have hru : (dg (val (us.take vs.length))).length ≤ 17592186044416 := by
     refine Nat.le_trans (jV (k:=vs.length) ?_) zo
     rw [nQ hsm zo]; exact hsm
    refine gK rfl (gG (i:=1) (tt:=12) rfl rfl (mF rfl zo (Nat.le_refl _)) (gG (i:=0) (tt:=11) rfl rfl (mF rfl zo (Nat.le_refl _)) (cK (fV (m:=7) (dp 12 rfl (cX (Ht rfl)) (dq 193 0 rfl (cZ K_221 (qQ _ hS.digq zo) ⟨(Ht rfl),trivial⟩) (dp 11 rfl (cX (Ht rfl)) (dp 8 rfl (cX (Ht rfl)) (dS 195 2 196 3 rfl (aF.imp (pR U_47 Z_189 (Ht rfl) (Ht rfl) (fun m e=>by cases e) zo (by simp; omega) rfl) (Ky _ _)) ?_)))))))))
    refine dq 197 4 rfl (cZ K_221 (qQ _ (hS.dig.take' vs.length) (by simp; omega)) ⟨(Ht rfl),trivial⟩) ?_
    refine dp 9 rfl (cX (Ht rfl)) (fG bF rfl (by kernel_rfl) (zF (aJ (aJ (aJ (aV (ro rfl (cZ Tryz.call261 (a2h hru zo) ⟨(Ht rfl),(Ht rfl),trivial⟩) (ra rfl (ra rfl (eZ (bI rfl (fJ (eY rfl) ?_) (fJ (eY rfl) ?_))))))))))))
    ·exact (dB hdiv)
    ·exact (dB hmod)
end
section
open Go Go.RowKit
theorem Ug:Tryz.prog.info? 5 = some Tryz.t5:=by kernel_rfl
theorem xK:Tryz.prog.underlying 293 = some (.slice 5):=by kernel_rfl
theorem a0r:Tryz.prog.underlying 5 = some (.int .u8):=by kernel_rfl
theorem a0q:Tryz.prog.underlying 9 = some (.string):=by kernel_rfl
end
section
open Go Go.RowKit
theorem a0o {m n:Nat} (hm:(dg m).length ≤ 17592186044415) (hn:(dg n).length ≤ 17592186044415):bB Tryz.prog 218 [aH m,aH n] (aH (Nat.gcd m n)):=by
 refine bB.intro Tryz.func218 rfl Tryz.ntmps218 rfl (fun cx=>(ts (ro rfl (cQ cV) (eZ (cK (eK ?_))))))
 refine fT (fun (x : Nat) (y : Nat) => Nat.gcd x y = Nat.gcd m n ∧ (dg x).length ≤ 17592186044415 ∧ (dg y).length ≤ 17592186044415) (fun (x : Nat) (y : Nat) => y) (fun (x : Nat) (y : Nat) => [(0, aH x), (1, aH y)]) (fun (x : Nat) (y : Nat) => []) m n ⟨rfl, hm, hn⟩
  (zS rfl) aY (fun x y ⟨hg,hx,hy⟩=>?_)
 refine cK (ts (rm rfl (ro rfl (dK U_47 (Ht rfl) aA) (ro rfl (eT (Ht rfl) (cJ 0)) (eZ (dQ (Ht rfl) (fun hb=>?_) (fun hb=>?_)))))))
 ·simp at hb
  have hy0:y ≠ 0:=fun e=>by rw [e,eB] at hb; simp at hb
  have hlt:=Nat.mod_lt x (Nat.pos_of_ne_zero hy0)
  refine cU (eK (ts (rm rfl (rm rfl (ro rfl (cZ Tryz.call220 (Lb hx zo hy0) ⟨(Ht rfl),(Ht rfl),trivial⟩) (rm rfl (ro rfl (dU (Ht rfl) rfl) (ro rfl (dU (Ht rfl) rfl) (ra rfl (ra rfl (eZ (cY (rm rfl (rm rfl (ra rfl (ra rfl (eZ (bH (gQ (y,x % y) ⟨by rw [← hg,Nat.gcd_comm x y,Nat.gcd_rec y x,Nat.gcd_comm],hy,Nat.le_trans (iM (Nat.le_of_lt hlt)) hy⟩ hlt (zS rfl) aY)))))))))))))))))))
 ·simp at hb
  have hy0:y = 0:=aL.1 (by simpa using hb)
  subst hy0
  rw [Nat.gcd_zero_right] at hg
  refine gK rfl (ts (rm rfl (ra rfl (eZ (fK rfl (fJ (eY rfl) ?_))))))
  exact (dB hg)
theorem a2P {l:List Nat} {v:Value} (hl:l.length ≤ 1152921504606846976):jH Tryz.prog 276 [Is v] [bM 5 1 v (l.map xD)] Unit (fun _=>oO) (fun _=>[bM 5 1 v (l.reverse.map xD)]) (fun _=>True):=by
 refine jH.intro Tryz.func276 rfl Tryz.ntmps276 rfl (fun cx Z=>(ts (rm rfl (ro rfl (nS U_293 (Ht rfl) (i:=1) rfl aA) (ro rfl (gM (Ht rfl) cV (tD zo)) (ro rfl (cQ (cJ 0)) (ra rfl (eZ (eK ?_)))))))))
 refine fT (fun (k : Nat) (o : List Nat) => zP l o k) (fun (k : Nat) (o : List Nat) => l.length - k) (fun (k : Nat) (o : List Nat) => [(0, Is v), (2, NT .i64 k), (3, aD .i64 ((l.length : Int) - 1 - (k : Int)))]) (fun (k : Nat) (o : List Nat) => [Z, bM 5 1 v (o.map xD)]) 0 l (zP.start l)
  (aQ rfl (aQ rfl (aZ rfl (aM zo) aX))) (dL.refl _) (fun k o hS=>?_)
 refine cK (ts (rm rfl (rm rfl (ro rfl (qO (Ht rfl) (Ht rfl)) (eZ (dQ (Ht rfl) (fun hb=>?_) (fun hb=>?_)))))))
 ·simp only [decide_eq_true_eq] at hb
  have hk:2 * k + 1 < l.length:=by omega
  obtain ⟨j,hj⟩:∃ j,j = l.length - 1 - k:=⟨_,rfl⟩
  have hlen:=hS.len
  refine yK (E':=[(0,_),(2,_),(3,_),(7,_),(8,_),(9,_)]) (aQ rfl (aQ rfl (aZ rfl (aM (show (l.length:Int) - 1 - (k:Int) = (j:Int) by omega)) (zS rfl)))) (cU (cK (eK (W.D_start (m:=14) (fun b=>cond b ([Z,bM 5 1 v ((o.map xD).set k (xD (o.getD j 0)))]) _) 13 (W.D_step (Ei:=[(0,_)]) rfl rfl (W.Srcs.cons (W.Src.pre rfl rfl) W.Srcs.nil) rfl (by kernel_rfl) (dX rfl (cX (Ht rfl))) (W.D_step (Ei:=[(2,_)]) rfl rfl (W.Srcs.cons (W.Src.pre rfl rfl) W.Srcs.nil) rfl (by kernel_rfl) (dX rfl (cX (Ht rfl))) ?_))))))
  refine W.D_pure (Ei:=[(0,_)]) rfl rfl (W.Srcs.cons (W.Src.pre rfl rfl) W.Srcs.nil) rfl (fun _=>dX rfl (cX (Ht rfl))) (W.D_pure (Ei:=[(3,_)]) rfl rfl (W.Srcs.cons (W.Src.pre rfl rfl) W.Srcs.nil) rfl (fun _=>dX rfl (cX (Ht rfl))) (W.D_step (Ei:=[(0,_)]) rfl rfl (W.Srcs.cons (W.Src.pre rfl rfl) W.Srcs.nil) rfl (by kernel_rfl) (dX rfl (cX (Ht rfl))) (W.D_step (Ei:=[(3,_)]) rfl rfl (W.Srcs.cons (W.Src.pre rfl rfl) W.Srcs.nil) rfl (by kernel_rfl) (dX rfl (cX (Ht rfl))) (W.D_step (Ei:=[(18,_),(19,_)]) rfl rfl (W.Srcs.cons (W.Src.op 4 rfl rfl) (W.Srcs.cons (W.Src.op 5 rfl rfl) W.Srcs.nil)) rfl (by kernel_rfl) (dX rfl (dE U_293 Z_5 (Ht rfl) (Ht rfl) rfl (i:=1) rfl (by first | omega | (simp; omega)) rfl)) ?_))))
  refine W.D_step (Ei:=[(20,_)]) rfl rfl (W.Srcs.cons (W.Src.op 6 rfl rfl) W.Srcs.nil) rfl (by kernel_rfl) (dX rfl (tG A_5 Z_5 (Ht rfl) (i:=1) rfl rfl (eQ (aI zo)))) (W.D_step (Ei:=[(0,_)]) rfl rfl (W.Srcs.cons (W.Src.pre rfl rfl) W.Srcs.nil) rfl (by kernel_rfl) (dX rfl (cX (Ht rfl))) (W.D_step (Ei:=[(2,_)]) rfl rfl (W.Srcs.cons (W.Src.pre rfl rfl) W.Srcs.nil) rfl (by kernel_rfl) (dX rfl (cX (Ht rfl))) (W.D_step (Ei:=[(22,_),(23,_)]) rfl rfl (W.Srcs.cons (W.Src.op 8 rfl rfl) (W.Srcs.cons (W.Src.op 9 rfl rfl) W.Srcs.nil)) rfl (by kernel_rfl) (dX rfl (dE U_293 Z_5 (Ht rfl) (Ht rfl) rfl (i:=1) rfl (by first | omega | (simp; omega)) rfl)) ?_)))
  refine W.D_step (Ei:=[(24,_)]) rfl rfl (W.Srcs.cons (W.Src.op 10 rfl rfl) W.Srcs.nil) rfl (by kernel_rfl) (dX rfl (tG A_5 Z_5 (Ht rfl) (i:=1) rfl rfl (eQ (aI zo)))) (W.D_step (Ei:=[(14,_),(15,_)]) rfl rfl (W.Srcs.cons (W.Src.op 0 rfl rfl) (W.Srcs.cons (W.Src.op 1 rfl rfl) W.Srcs.nil)) rfl (by kernel_rfl) (dX rfl (dE U_293 Z_5 (Ht rfl) (Ht rfl) rfl (i:=1) rfl (by first | omega | (simp; omega)) rfl)) (W.D_put (Ei:=[(26,_),(21,_)]) rfl rfl (W.Srcs.cons (W.Src.op 12 rfl rfl) (W.Srcs.cons (W.Src.op 7 rfl rfl) W.Srcs.nil)) rfl (Bv Z_5 (Ht rfl) (Ht rfl) El.one (i:=1) rfl rfl (by first | omega | (simp; omega))) ?_))
  refine W.D_done bF rfl (by kernel_rfl) rfl (W.F_val (W.F_val (W.F_val (W.F_val (W.F_val (W.F_val (W.F_val (W.F_val (W.F_val (W.F_val (W.F_val (W.F_val (W.F_val (W.F_put (W.F_nil (ro rfl (dE U_293 Z_5 (Ht rfl) (Ht rfl) rfl (i:=1) rfl (by first | omega | (simp; omega)) rfl) (kS Z_5 (Ht rfl) (Ht rfl) El.one (i:=1) rfl rfl (by first | omega | (simp; omega)) rfl (eZ (bH (cY (rm rfl (ro rfl (dW (Ht rfl) (cJ 1) z6) (rm rfl (ro rfl (gM (Ht rfl) cV (tD zo)) ?_))))))))))))))))))))))))
  refine ra rfl (ra rfl (eZ (gQ (k + 1,_) (hS.next hk hj) (by dsimp only; omega) (aQ rfl (aQ rfl (aZ rfl (aM zo) aX))) (aU (fun _ _ _ h=>h) (aU (aR (Mf _ _ _ _ _)) aY)))))
 ·simp only [decide_eq_false_iff_not] at hb
  have hfin:=hS.fin (by have:=hS.kle; omega)
  refine gK rfl ?_
  exact a0O () trivial [0,1] ⟨⟨_,rfl,fun _ _ _ h=>h⟩,⟨_,rfl,(aR (by rw [hfin]))⟩,trivial⟩ (by decide) (a3b rfl (fun _=>trivial))
theorem Ie {m:Nat} (hm:(dg m).length ≤ 8796093022208):bB Tryz.prog 249 [aH m] (pG (sZ m)):=by
 refine bB.intro Tryz.func249 rfl Tryz.ntmps249 rfl (fun cx=>(ts (ro rfl (cQ (bC.cS (l:=[]) rfl)) (eZ (cK (ts (rm rfl (ro rfl (dK U_47 (Ht rfl) aA) (ro rfl (cB (Ht rfl) (cJ 0)) (eZ (dQ (Ht rfl) (fun hb=>?_) (fun hb=>?_))))))))))))
 ·simp at hb
  have h0:m = 0:=aL.1 (by simpa using hb)
  subst h0
  refine ts (ro rfl (cQ (bC.cS (l:=[48]) rfl)) (eZ (fK rfl (fJ (eY rfl) ?_))))
  exact (jF rfl)
 ·simp at hb
  have h0:m ≠ 0:=fun e=>hb (by rw [e,eB])
  refine cU (ts (ro rfl (cQ cV) (eZ (cK (eK (rQ 5 1 ?_))))))
  refine kP (fun (x : Nat) (out : List Nat) (v : Value) => Ai m out x ∧ x ≤ m) (fun (x : Nat) (out : List Nat) (v : Value) => x) (fun (x : Nat) (out : List Nat) (v : Value) => [(0, aH x), (3, Is v)]) (fun (x : Nat) (out : List Nat) (v : Value) => [bM 5 1 v (out.map xD)]) m [] (.slice none 0 0) ⟨Ai.start m, Nat.le_refl m⟩
   (zS rfl) (dL.refl _) (fun x out v ⟨hO,hle⟩=>?_)
  refine cK (ts (rm rfl (ro rfl (dK U_47 (Ht rfl) aA) (ro rfl (eT (Ht rfl) (cJ 0)) (eZ (dQ (Ht rfl) (fun hc=>?_) (fun hc=>?_)))))))
  ·simp at hc
   have hx0:x ≠ 0:=fun e=>by rw [e,eB] at hc; simp at hc
   have hxm:=iM hle
   refine cU (eK (ts (ro rfl (cQ (cJ 0)) (eZ (ts (rm rfl (ro rfl (cZ Tryz.call257 (Ln zo (by decide) (by decide)) ⟨(Ht rfl),(cJ 1000000000),trivial⟩) (rm rfl (ro rfl (dU (Ht rfl) rfl) (ro rfl (dU (Ht rfl) rfl) (ra rfl (ra rfl (eZ (ts (ro rfl (cQ (cJ 0)) (eZ (eK ?_)))))))))))))))))
   refine uG (fun (r : Nat) (k : Nat) (out : List Nat) (v : Value) => xH m out (x / 1000000000) r k) (fun (r : Nat) (k : Nat) (out : List Nat) (v : Value) => 9 - k) (fun (r : Nat) (k : Nat) (out : List Nat) (v : Value) => [(0, aH (x / 1000000000)), (3, Is v), (4, cA r), (5, NT .i64 k)]) (fun (r : Nat) (k : Nat) (out : List Nat) (v : Value) => [bM 5 1 v (out.map xD)]) (x % 1000000000) 0 out v (hO.inner)
    (zS rfl) (dL.refl _) (fun r k out v hI=>?_)
   refine cK (ts (rm rfl (ro rfl (gV (Ht rfl) (cJ 9)) (rm rfl (fX rfl rfl (kG rfl rfl (Ht rfl) (fun h=>cX (Ht rfl))) (fX rfl rfl (kG rfl rfl (Ht rfl) (fun h=>dK U_47 (bC.wu rfl h) aA)) (fX rfl rfl (kG rfl rfl (Ht rfl) (fun h=>eT (bC.wu rfl h) (cJ 0))) (fX rfl rfl (kG rfl rfl (Ht rfl) (fun h=>cX (bC.wu rfl h))) (fX rfl rfl (qC rfl rfl rfl (fun h h2=>cX (Ht rfl))) (fX rfl rfl (qC rfl rfl rfl (fun h h2=>eT (bC.wu rfl ⟨h,h2⟩) (cJ 0))) (fX rfl rfl (kG rfl rfl (Ht rfl) (fun h=>kX (bC.wu rfl h) (fun h2=>(bC.wu rfl ⟨h,h2⟩)))) ?_)))))))))))
   refine ro rfl (eA (Ht rfl) (fun h=>(bC.wu rfl h))) (eZ (dQ (Ht rfl) (fun hd=>?_) (fun hd=>?_)))
   ·simp at hd
    have hxr:0 < x / 1000000000 ∨ 0 < r:=hd.2.imp (fun h=>Nat.pos_of_ne_zero (fun e=>by rw [e,eB] at h; simp at h)) id
    have hln:=hI.len hxr
    have hr32:=hI.r32
    refine cU (cK (eK (ts (rm rfl (rm rfl (ro rfl (kN (Ht rfl) (cJ 10) zo) (ro rfl (dW (cJ 48) (Ht rfl) (by show _ < 4294967296; first | omega | (simp only [lF]; omega))) (ro rfl (gW U_189 U_5 (Ht rfl) (by show _ < 256; first | omega | (simp only [lF]; omega))) (ro rfl (dH (xs:=[.tmp 34]) U_293 Z_5 Tryz.zeroValue5 (cW (Ht rfl) cG) rfl rfl rfl) (mW (inf:=Tryz.t5) xK Ug rfl rfl rfl (Ht rfl) (Ht rfl) (i:=0) rfl (by simp) (fun T hT=>by simp at hT; subst hT; exact El.one) (by show _ * 1 ≤ _; simp only [List.length_map,List.length_cons,List.length_nil]; omega) (by simp only [List.length_map,List.length_cons,List.length_nil]; omega) rfl (fun v2=>?_)))))))))))
    refine ra rfl (eZ (cY (rm rfl (ro rfl (jC (Ht rfl) (cJ 10) zo (by show _ < 4294967296; first | omega | (simp only [lF]; omega))) (ra rfl (eZ (bH (cY (rm rfl (ro rfl (dW (Ht rfl) (cJ 1) z6) (ra rfl (eZ (gQ (r / 10,k + 1,_,v2) (hI.next hd.1 hxr) (by dsimp only; omega) (zS rfl) (aU (aR (Rc _ _)) aY))))))))))))))
   ·simp at hd
    have hO2 := hI.fin (fun ⟨h1, h2⟩ => by
     have h3:=hd h1
     rcases h2 with h2 | h2
     ·have:=pL.1 h3.1; omega
     ·omega)
    refine gK rfl (bH (gQ (x / 1000000000,_,_) ⟨hO2,Nat.le_trans (Nat.div_le_self _ _) hle⟩ (Nat.div_lt_self (Nat.pos_of_ne_zero hx0) (by decide)) (zS rfl) (dL.refl _)))
  ·simp at hc
   have hx0:x = 0:=aL.1 (by simpa using hc)
   subst hx0
   have hfin:=hO.fin
   have hdl:=oP m
   rw [hfin] at hdl
   refine gK rfl (ts (rm rfl (Dy Tryz.call276 (a2P zo) (i:=0) rfl ⟨(Ht rfl),trivial⟩ rfl (fun _ _=>(eZ (cK (gG (i:=0) (tt:=3) rfl rfl fP (cY (rm rfl (ro rfl (Fk xK a0r a0q (Ht rfl) (by rw [← hfin]; simpa using Lc h0) (fun b hb=>Sm (n:=m) b (by rw [sK h0,hfin]; exact hb))) ?_))))))))))
   refine ra rfl (eZ (fK rfl (fJ (eY rfl) ?_)))
   exact (jF (by rw [sK h0,hfin]))
end
section
open Go Go.RowKit
theorem tN {n : Nat} {E : cF} {H : Hp} {d : Option Tmp} {t : TypeId} {pos : String} {af : Array Edge} {g : Option (Nat × Bool)} {x0 x1 : Operand} {T0 T1 : Ty} [s0 : dC T0 1 false] (h0 : bC E x0 T0) [s1 : dC T1 1 false] (h1 : bC E x1 T1) :
  aF Tryz.prog n E H ⟨d,.build 49 #[(0,x0),(1,x1)],t,pos,af,g⟩ (eD [T0,T1]) :=
 iA (parts := [(0, x0), (1, x1)]) fun a V w hs => by
  have p0:=h0 n V a hs
  generalize e0:a.eval x0 = v0 at p0
  have q0:=(s0.ok v0 V p0).2.2 rfl
  have p1:=h1 n V a hs
  generalize e1:a.eval x1 = v1 at p1
  have q1:=(s1.ok v1 V p1).2.2 rfl
  refine ⟨.agg #[v0,v1],?_,[v0,v1],rfl,aW (⟨p0,q0⟩) (aW (⟨p1,q1⟩) (aG))⟩
  simp [e0,e1,Instr.build,Instr.fill,Sem.run_bind,Result.andThen,fI,q0.cells,q1.cells,O_49,U_49,Z_4,Z_47]
theorem kM (a:Addr) (w:World):(Instr.fieldAt 49 (.pointer (some a)) 0).run Tryz.prog w = .ok (.pointer (some (a.add 0))) w:=by
 simp [Instr.fieldAt,Instr.sureAddr,fieldPlace,Sem.run_bind,Result.andThen,U_49,Z_4]
theorem eS (a:Addr) (w:World):(Instr.fieldAt 49 (.pointer (some a)) 1).run Tryz.prog w = .ok (.pointer (some (a.add 1))) w:=by
 simp [Instr.fieldAt,Instr.sureAddr,fieldPlace,Sem.run_bind,Result.andThen,U_49,Z_47]
end
section
open Go Go.RowKit
theorem Di {n:Int} (h1:-9223372036854775808 ≤ n) (h2:n ≤ 9223372036854775807):bB Tryz.prog 177 [aD .i64 n] (gL n):=by
 refine bB.intro Tryz.func177 rfl Tryz.ntmps177 rfl (fun cx=>(ts (rn rfl (eG (Ts:=[Is (.bool false),Is (.slice none 0 0)]) O_49 rfl (fun V=>aW zd (aW zd (aG)))) fun B2=>(eZ (cK (ts (rm rfl (ro rfl (qO (Ht rfl) cV) (eZ (dQ (Ht rfl) (fun hb=>?_) (fun hb=>?_)))))))))))
 ·have hn : n < 0 := by simpa using hb
  refine ts (rm rfl (ro rfl (sA U_2 U_254 (Ht rfl) (r:=((18446744073709551616 - n.natAbs:Nat):Int)) (by rw [IntKind.wrap_u64]; omega)) ?_))
  refine ro rfl (Ey (Ht rfl) (r:=((n.natAbs:Nat):Int)) (by rw [IntKind.wrap_u64]; omega)) ?_
  refine ro rfl (cZ Tryz.call241 (Eh zo) ⟨(Ht rfl),trivial⟩) (ro rfl (tN cV (Ht rfl)) (gJ Z_49 (Ht rfl) (Ht rfl) rfl (i:=0) rfl (aK rfl) rfl rfl (eZ (fK rfl (fJ (fY A_49 Z_49 rfl (i:=0) rfl rfl) ?_)))))
  exact (qD (by rw [hb]; rfl))
 ·have hn : ¬ n < 0 := by simpa using hb
  refine cU (ts (rm rfl (ro rfl (sA U_2 U_254 (Ht rfl) (r:=((n.natAbs:Nat):Int)) (by rw [IntKind.wrap_u64]; omega)) ?_)))
  refine ro rfl (cZ Tryz.call241 (Eh zo) ⟨(Ht rfl),trivial⟩) (ro rfl (tN cV (Ht rfl)) (gJ Z_49 (Ht rfl) (Ht rfl) rfl (i:=0) rfl (aK rfl) rfl rfl (eZ (fK rfl (fJ (fY A_49 Z_49 rfl (i:=0) rfl rfl) ?_)))))
  exact (qD (by rw [hb]; rfl))
theorem nZ {b:Bool} {m:Nat}:bB Tryz.prog 214 [aC b,aH m] (gL (wX b m)):=by
 refine bB.intro Tryz.func214 rfl Tryz.ntmps214 rfl (fun cx=>(ts (rn rfl (eG (Ts:=[Is (.bool false),Is (.slice none 0 0)]) O_49 rfl (fun V=>aW zd (aW zd (aG)))) fun B4=>(eZ (ts (rm rfl (rm rfl (fX rfl rfl (eU rfl rfl (Ht rfl) (fun h=>cX (Ht rfl))) (fX rfl rfl (eU rfl rfl (Ht rfl) (fun h=>dK U_47 (fW rfl h) aA)) (fX rfl rfl (eU rfl rfl (Ht rfl) (fun h=>eT (fW rfl h) (cJ 0))) (ro rfl (eA (Ht rfl) (fun h=>(fW rfl h))) (rm rfl ?_))))))))))))
 refine ro rfl (tN (Ht rfl) (Ht rfl)) (gJ Z_49 (Ht rfl) (Ht rfl) rfl (i:=0) rfl (aK rfl) rfl rfl (eZ (fK rfl (fJ (fY A_49 Z_49 rfl (i:=0) rfl rfl) ?_))))
 exact Qr
theorem qI {x:Int}:bB Tryz.prog 135 [gL x] (gL (-x)):=by
 refine bB.intro Tryz.func135 rfl Tryz.ntmps135 rfl (fun cx=>(ts (rn rfl (fU (Ht rfl)) fun B1=>(rn rfl (eG (Ts:=[Is (.bool false),Is (.slice none 0 0)]) O_49 rfl (fun V=>aW zd (aW zd (aG)))) fun B2=>(eZ (ts (ro rfl (eJ kM (Ht rfl) rfl) (ro rfl (fQ A_4 Z_4 (Ht rfl) (i:=0) rfl rfl) (ro rfl (eH (Ht rfl)) (ro rfl (eJ eS (Ht rfl) rfl) (ro rfl (fQ A_47 Z_47 (Ht rfl) (i:=0) rfl rfl) (ro rfl (cZ K_214 nZ ⟨(Ht rfl),(Ht rfl),trivial⟩) ?_))))))))))))
 refine gJ Z_49 (Ht rfl) (Ht rfl) rfl (i:=1) rfl (aK rfl) rfl rfl (eZ (fK rfl (fJ (fY A_49 Z_49 rfl (i:=1) rfl rfl) ?_)))
 exact (oD (Bo x))
theorem vL {x y:Int} (hx:(dg x.natAbs).length ≤ 17592186044416) (hy:(dg y.natAbs).length ≤ 17592186044416):bB Tryz.prog 133 [gL x,gL y] (gL (x + y)):=by
 refine bB.intro Tryz.func133 rfl Tryz.ntmps133 rfl (fun cx=>(ts (rn rfl (fU (Ht rfl)) fun B2=>(rn rfl (fU (Ht rfl)) fun B3=>(rn rfl (eG (Ts:=[Is (.bool false),Is (.slice none 0 0)]) O_49 rfl (fun V=>aW zd (aW zd (aG)))) fun B4=>(eZ (cK (ts (ro rfl (eJ kM (Ht rfl) rfl) (ro rfl (fQ A_4 Z_4 (Ht rfl) (i:=0) rfl rfl) (ro rfl (eJ kM (Ht rfl) rfl) (ro rfl (fQ A_4 Z_4 (Ht rfl) (i:=1) rfl rfl) (ro rfl (a0P Tryz.runUnderlying4 (Ht rfl) (Ht rfl)) ?_)))))))))))))
 refine eZ (dQ (Ht rfl) (fun hb=>?_) (fun hb=>?_))
 ·have he : decide (x < 0) = decide (y < 0) := by simpa using hb
  refine cK (fV (m:=7) (dp 2 rfl (eJ kM (Ht rfl) rfl) (dq 10 0 rfl (fQ A_4 Z_4 (Ht rfl) (i:=0) rfl rfl) (dp 2 rfl (eJ eS (Ht rfl) rfl) (dq 12 2 rfl (fQ A_47 Z_47 (Ht rfl) (i:=0) rfl rfl) (dp 3 rfl (eJ eS (Ht rfl) rfl) (dq 14 4 rfl (fQ A_47 Z_47 (Ht rfl) (i:=1) rfl rfl) (dS 13 3 15 5 rfl (cZ Tryz.call215 (a30 zo zo) ⟨(Ht rfl),(Ht rfl),trivial⟩) (fG bF rfl (by kernel_rfl) (zF (aJ (aJ (aJ (aV ?_))))))))))))))
  refine ro rfl (cZ K_214 nZ ⟨(Ht rfl),(Ht rfl),trivial⟩) (gJ Z_49 (Ht rfl) (Ht rfl) rfl (i:=2) rfl (aK rfl) rfl rfl (eZ (fK rfl (fJ (fY A_49 Z_49 rfl (i:=2) rfl rfl) ?_))))
  exact (oD (Tk he))
 ·have he : decide (x < 0) ≠ decide (y < 0) := by simpa using hb
  refine cU (cK (ts (ro rfl (eJ eS (Ht rfl) rfl) (ro rfl (fQ A_47 Z_47 (Ht rfl) (i:=0) rfl rfl) (ro rfl (eJ eS (Ht rfl) rfl) (ro rfl (fQ A_47 Z_47 (Ht rfl) (i:=1) rfl rfl) (ro rfl (cZ Tryz.call216 (Vd zo zo) ⟨(Ht rfl),(Ht rfl),trivial⟩) (ro rfl (lU (Ht rfl) cV) (eZ (dQ (Ht rfl) (fun hc=>?_) (fun hc=>?_)))))))))))
  ·have hle : y.natAbs ≤ x.natAbs := Lk (by simpa using hc)
   refine cK (fV (m:=7) (dp 2 rfl (eJ kM (Ht rfl) rfl) (dq 24 0 rfl (fQ A_4 Z_4 (Ht rfl) (i:=0) rfl rfl) (dp 2 rfl (eJ eS (Ht rfl) rfl) (dq 26 2 rfl (fQ A_47 Z_47 (Ht rfl) (i:=0) rfl rfl) (dp 3 rfl (eJ eS (Ht rfl) rfl) (dq 28 4 rfl (fQ A_47 Z_47 (Ht rfl) (i:=1) rfl rfl) (dS 27 3 29 5 rfl (cZ Tryz.call217 (a0E zo zo) ⟨(Ht rfl),(Ht rfl),trivial⟩) (fG bF rfl (by kernel_rfl) (zF (aJ (aJ (aJ (aV ?_))))))))))))))
   refine ro rfl (cZ K_214 nZ ⟨(Ht rfl),(Ht rfl),trivial⟩) (gJ Z_49 (Ht rfl) (Ht rfl) rfl (i:=2) rfl (aK rfl) rfl rfl (eZ (fK rfl (fJ (fY A_49 Z_49 rfl (i:=2) rfl rfl) ?_))))
   exact (oD (Gu he hle))
  ·have hle : x.natAbs ≤ y.natAbs := Nat.le_of_lt (Nb (by simpa using hc))
   refine cU (cK (fV (m:=7) (dp 3 rfl (eJ kM (Ht rfl) rfl) (dq 32 0 rfl (fQ A_4 Z_4 (Ht rfl) (i:=1) rfl rfl) (dp 3 rfl (eJ eS (Ht rfl) rfl) (dq 34 2 rfl (fQ A_47 Z_47 (Ht rfl) (i:=1) rfl rfl) (dp 2 rfl (eJ eS (Ht rfl) rfl) (dq 36 4 rfl (fQ A_47 Z_47 (Ht rfl) (i:=0) rfl rfl) (dS 35 3 37 5 rfl (cZ Tryz.call217 (a0E zo zo) ⟨(Ht rfl),(Ht rfl),trivial⟩) (fG bF rfl (by kernel_rfl) (zF (aJ (aJ (aJ (aV ?_)))))))))))))))
   refine ro rfl (cZ K_214 nZ ⟨(Ht rfl),(Ht rfl),trivial⟩) (gJ Z_49 (Ht rfl) (Ht rfl) rfl (i:=2) rfl (aK rfl) rfl rfl (eZ (fK rfl (fJ (fY A_49 Z_49 rfl (i:=2) rfl rfl) ?_))))
   exact (oD (by rw [Gu (Ne.symm he) hle,Int.add_comm]))
theorem sN {x y:Int} (hx:(dg x.natAbs).length ≤ 17592186044416) (hy:(dg y.natAbs).length ≤ 17592186044416):bB Tryz.prog 132 [gL x,gL y] (gL (x * y)):=by
 refine bB.intro Tryz.func132 rfl Tryz.ntmps132 rfl (fun cx=>(ts (rn rfl (fU (Ht rfl)) fun B2=>(rn rfl (fU (Ht rfl)) fun B3=>(rn rfl (eG (Ts:=[Is (.bool false),Is (.slice none 0 0)]) O_49 rfl (fun V=>aW zd (aW zd (aG)))) fun B4=>(eZ (cK (fV (m:=10) (dp 2 rfl (eJ kM (Ht rfl) rfl) (dq 5 0 rfl (fQ A_4 Z_4 (Ht rfl) (i:=0) rfl rfl) (dp 3 rfl (eJ kM (Ht rfl) rfl) (dq 7 2 rfl (fQ A_4 Z_4 (Ht rfl) (i:=1) rfl rfl) (dS 6 1 8 3 rfl (a1P Tryz.runUnderlying4 (Ht rfl) (Ht rfl)) ?_)))))))))))))
 refine dp 2 rfl (eJ eS (Ht rfl) rfl) (dq 10 5 rfl (fQ A_47 Z_47 (Ht rfl) (i:=0) rfl rfl) (dp 3 rfl (eJ eS (Ht rfl) rfl) (dq 12 7 rfl (fQ A_47 Z_47 (Ht rfl) (i:=1) rfl rfl) (dS 11 6 13 8 rfl (cZ Tryz.call138 (Gp zo zo) ⟨(Ht rfl),(Ht rfl),trivial⟩) (fG bF rfl (by kernel_rfl) (zF (zF (aJ (aJ (aV (ro rfl (cZ K_214 nZ ⟨(Ht rfl),(Ht rfl),trivial⟩) (gJ Z_49 (Ht rfl) (Ht rfl) rfl (i:=2) rfl (aK rfl) rfl rfl ?_))))))))))))
 refine eZ (fK rfl (fJ (fY A_49 Z_49 rfl (i:=2) rfl rfl) ?_))
 exact (oD (Ok x y))
theorem kV {x:Int} {n:Nat} (hx:(dg x.natAbs).length ≤ 17592186044416) (hn:(dg n).length ≤ 17592186044416):bB Tryz.prog 136 [gL x,aH n] (gL (x * n)):=by
 refine bB.intro Tryz.func136 rfl Tryz.ntmps136 rfl (fun cx=>(ts (rn rfl (fU (Ht rfl)) fun B2=>(rn rfl (eG (Ts:=[Is (.bool false),Is (.slice none 0 0)]) O_49 rfl (fun V=>aW zd (aW zd (aG)))) fun B4=>(eZ (cK (fV (m:=6) (dp 2 rfl (eJ kM (Ht rfl) rfl) (dq 5 0 rfl (fQ A_4 Z_4 (Ht rfl) (i:=0) rfl rfl) (dp 2 rfl (eJ eS (Ht rfl) rfl) (dq 7 2 rfl (fQ A_47 Z_47 (Ht rfl) (i:=0) rfl rfl) (dp 1 rfl (cX (Ht rfl)) (dS 8 3 9 4 rfl (cZ Tryz.call138 (Gp zo zo) ⟨(Ht rfl),(Ht rfl),trivial⟩) ?_)))))))))))))
 refine fG bF rfl (by kernel_rfl) (zF (aJ (aJ (aV (ro rfl (cZ K_214 nZ ⟨(Ht rfl),(Ht rfl),trivial⟩) (gJ Z_49 (Ht rfl) (Ht rfl) rfl (i:=1) rfl (aK rfl) rfl rfl (eZ (fK rfl (fJ (fY A_49 Z_49 rfl (i:=1) rfl rfl) ?_)))))))))
 exact (oD (Kg x n))
theorem Ex {x y:Int} (hx:(dg x.natAbs).length ≤ 17592186044415) (hy:(dg y.natAbs).length ≤ 17592186044415):bB Tryz.prog 176 [gL x,gL y] (aD .i64 (nE x y)):=by
 have hny:=tO y
 have hs:=nY (x:=x) (y:=-y) hx zo
 refine bB.intro Tryz.func176 rfl Tryz.ntmps176 rfl (fun cx=>(ts (rn rfl (fU (Ht rfl)) fun B2=>(rn rfl (fU (Ht rfl)) fun B3=>(ro rfl (cQ (cJ 0)) (eZ (cK (fV (m:=5) (dp 2 rfl (eW A_49 Z_49 (Ht rfl) (i:=0) rfl rfl rfl) (dp 3 rfl (eW A_49 Z_49 (Ht rfl) (i:=1) rfl rfl rfl) (dq 7 1 rfl (cZ K_135 qI ⟨(Ht rfl),trivial⟩) (dS 6 0 8 2 rfl (cZ K_133 (vL zo zo) ⟨(Ht rfl),(Ht rfl),trivial⟩) (C.D_new (Ei:=[]) rfl rfl rfl bW (eG (Ts:=[Is (.bool false),Is (.slice none 0 0)]) O_49 rfl (fun V=>aW zd (aW zd (aG)))) ?_)))))))))))))
 refine fG bF rfl (by kernel_rfl) (zF (C.F_new (fun B5=>aV (gJ Z_49 (Ht rfl) (Ht rfl) rfl (i:=2) rfl (aK rfl) rfl rfl (eZ (cK (ts (ro rfl (eJ kM (Ht rfl) rfl) (ro rfl (fQ A_4 Z_4 (Ht rfl) (i:=2) rfl rfl) (eZ (dQ (Ht rfl) (fun hb=>?_) (fun hb=>?_))))))))))))
 ·have hn : x + -y < 0 := by simpa using hb
  refine ts (ro rfl (cQ cV) (eZ (fK rfl (fJ (eY rfl) ?_))))
  exact (aM (a0a hn))
 ·have hn : ¬ x + -y < 0 := by simpa using hb
  refine cU (ts (ro rfl (eJ eS (Ht rfl) rfl) (ro rfl (fQ A_47 Z_47 (Ht rfl) (i:=2) rfl rfl) (ro rfl (dK U_47 (Ht rfl) aA) (ro rfl (Lf (Ht rfl) (cJ 1)) (ra rfl (eZ (fK rfl (fJ (eY rfl) ?_)))))))))
  exact (aM (Zl hn))
end
section
open Go Go.RowKit
theorem Ul {n : Nat} {E : cF} {H : Hp} {d : Option Tmp} {t : TypeId} {pos : String} {af : Array Edge} {g : Option (Nat × Bool)} {x0 : Operand} {T0 T1 : Ty} (h0 : bC E x0 (eD [T0, T1])) :
  aF Tryz.prog n E H ⟨d,.build 51 #[(0,x0)],t,pos,af,g⟩ (eD [T0,T1,Is (.bool false),Is (.slice none 0 0),Is (.slice none 0 0)]) :=
 iA (parts := [(0, x0)]) fun a V w hs => by
  obtain ⟨v0,e0,c0⟩:=h0 n V a hs
  obtain ⟨c0_0,c0_1,rfl⟩:∃ c0_0 c0_1,v0 = [c0_0,c0_1]:=Hi (by simpa using c0.length)
  refine ⟨.agg #[c0_0,c0_1,(.bool false),(.slice none 0 0),(.slice none 0 0)],?_,[c0_0,c0_1,(.bool false),(.slice none 0 0),(.slice none 0 0)],rfl,aW (c0.at (i:=0) rfl rfl) (aW (c0.at (i:=1) rfl rfl) (aW (⟨rfl,trivial⟩) (aW (⟨rfl,trivial⟩) (aW (⟨rfl,trivial⟩) (aG)))))⟩
  simp [e0,Instr.build,Instr.fill,Sem.run_bind,Result.andThen,fI,O_51,U_51,Z_47,Z_49]
theorem uJ {n : Nat} {E : cF} {H : Hp} {d : Option Tmp} {t : TypeId} {pos : String} {af : Array Edge} {g : Option (Nat × Bool)} {x0 x1 x2 : Operand} {T0 T1 T2 T3 T4 : Ty} (h0 : bC E x0 (eD [T0, T1])) (h1 : bC E x1 (eD [T2, T3])) [s2 : dC T4 1 false] (h2 : bC E x2 T4) :
  aF Tryz.prog n E H ⟨d,.build 51 #[(0,x0),(1,x1),(2,x2)],t,pos,af,g⟩ (eD [T0,T1,T2,T3,T4]) :=
 iA (parts := [(0, x0), (1, x1), (2, x2)]) fun a V w hs => by
  obtain ⟨v0,e0,c0⟩:=h0 n V a hs
  obtain ⟨c0_0,c0_1,rfl⟩:∃ c0_0 c0_1,v0 = [c0_0,c0_1]:=Hi (by simpa using c0.length)
  obtain ⟨v1,e1,c1⟩:=h1 n V a hs
  obtain ⟨c1_0,c1_1,rfl⟩:∃ c1_0 c1_1,v1 = [c1_0,c1_1]:=Hi (by simpa using c1.length)
  have p2:=h2 n V a hs
  generalize e2:a.eval x2 = v2 at p2
  have q2:=(s2.ok v2 V p2).2.2 rfl
  refine ⟨.agg #[c0_0,c0_1,c1_0,c1_1,v2],?_,[c0_0,c0_1,c1_0,c1_1,v2],rfl,aW (c0.at (i:=0) rfl rfl) (aW (c0.at (i:=1) rfl rfl) (aW (c1.at (i:=0) rfl rfl) (aW (c1.at (i:=1) rfl rfl) (aW (⟨p2,q2⟩) (aG)))))⟩
  simp [e0,e1,e2,Instr.build,Instr.fill,Sem.run_bind,Result.andThen,fI,q2.cells,O_51,U_51,Z_47,Z_49]
theorem gT (a:Addr) (w:World):(Instr.fieldAt 51 (.pointer (some a)) 0).run Tryz.prog w = .ok (.pointer (some (a.add 0))) w:=by
 simp [Instr.fieldAt,Instr.sureAddr,fieldPlace,Sem.run_bind,Result.andThen,U_51,Z_49]
theorem iK (a:Addr) (w:World):(Instr.fieldAt 51 (.pointer (some a)) 1).run Tryz.prog w = .ok (.pointer (some (a.add 2))) w:=by
 simp [Instr.fieldAt,Instr.sureAddr,fieldPlace,Sem.run_bind,Result.andThen,U_51,Z_49]
theorem qF (a:Addr) (w:World):(Instr.fieldAt 51 (.pointer (some a)) 2).run Tryz.prog w = .ok (.pointer (some (a.add 4))) w:=by
 simp [Instr.fieldAt,Instr.sureAddr,fieldPlace,Sem.run_bind,Result.andThen,U_51,Z_47]
end
section
open Go Go.RowKit
theorem vX {A B:Int} {D:Nat} (hD:0 < D) (hA:(dg A.natAbs).length ≤ 17592186044415) (hB:(dg B.natAbs).length ≤ 17592186044415) (hD2:(dg D).length ≤ 17592186044415):bB Tryz.prog 134 [gL A,gL B,aH D] (aE (Qi.mk' A B D)):=by
 have hg1:=yS hA hB
 have hg2:=yS hg1 hD2
 have hgp:Nat.gcd (Nat.gcd A.natAbs B.natAbs) D ≠ 0:=fun e=>by have:=Nat.gcd_eq_zero_iff.1 e; omega
 refine bB.intro Tryz.func134 rfl Tryz.ntmps134 rfl (fun cx=>(ts (rn rfl (fU (Ht rfl)) fun B3=>(rn rfl (fU (Ht rfl)) fun B4=>(rn rfl (eG (Ts:=[Is (.bool false),Is (.slice none 0 0),Is (.bool false),Is (.slice none 0 0),Is (.slice none 0 0)]) O_51 rfl (fun V=>aW zd (aW zd (aW zd (aW zd (aW zd (aG))))))) fun B6=>(eZ (ts (ro rfl (eJ eS (Ht rfl) rfl) (ro rfl (fQ A_47 Z_47 (Ht rfl) (i:=0) rfl rfl) ?_)))))))))
 refine ro rfl (eJ eS (Ht rfl) rfl) (ro rfl (fQ A_47 Z_47 (Ht rfl) (i:=1) rfl rfl) (ro rfl (cZ Tryz.call218 (a0o zo zo) ⟨(Ht rfl),(Ht rfl),trivial⟩) (rm rfl (ro rfl (cZ Tryz.call218 (a0o zo zo) ⟨(Ht rfl),(Ht rfl),trivial⟩) (ra rfl (eZ (cK (jG (fun (uu:Unit)=>True) (fun (uu:Unit)=>[(2,aH (D / (Nat.gcd (Nat.gcd A.natAbs B.natAbs) D))),(3,bO B3 0),(4,bO B4 0),(6,bO B6 0)]) (fun (uu:Unit)=>[box B3 49 [aC (decide (A < 0)),aH (A.natAbs / (Nat.gcd (Nat.gcd A.natAbs B.natAbs) D))],box B4 49 [aC (decide (B < 0)),aH (B.natAbs / (Nat.gcd (Nat.gcd A.natAbs B.natAbs) D))],box B6 51 [Is (.bool false),Is (.slice none 0 0),Is (.bool false),Is (.slice none 0 0),Is (.slice none 0 0)]]) ?_ (fun uu _=>?_)))))))))
 ·refine ts (rm rfl (ro rfl (cZ Tryz.call219 a0n ⟨(Ht rfl), trivial⟩) (ro rfl (eH (Ht rfl)) (eZ (dQ (Ht rfl) (fun hb => ?_) (fun hb => ?_))))))
  ·simp at hb
   refine ts (ro rfl (eJ eS (Ht rfl) rfl) (ro rfl (fQ A_47 Z_47 (Ht rfl) (i:=0) rfl rfl) (rm rfl (ro rfl (cZ Tryz.call220 (Lb zo zo zo) ⟨(Ht rfl),(Ht rfl),trivial⟩) (rm rfl (ro rfl (dU (Ht rfl) rfl) (ro rfl (dU (Ht rfl) rfl) (ro rfl (eJ eS (Ht rfl) rfl) (jL Z_47 (Ht rfl) (Ht rfl) (i:=0) rfl (aK rfl) rfl (eZ (ts (ro rfl (eJ eS (Ht rfl) rfl) (ro rfl (fQ A_47 Z_47 (Ht rfl) (i:=1) rfl rfl) (rm rfl (ro rfl (cZ Tryz.call220 (Lb zo zo zo) ⟨(Ht rfl),(Ht rfl),trivial⟩) ?_)))))))))))))))
   refine rm rfl (ro rfl (dU (Ht rfl) rfl) (ro rfl (dU (Ht rfl) rfl) (ro rfl (eJ eS (Ht rfl) rfl) (jL Z_47 (Ht rfl) (Ht rfl) (i:=1) rfl (aK rfl) rfl (eZ (cY (rm rfl (rm rfl (ro rfl (cZ Tryz.call220 (Lb zo zo zo) ⟨(Ht rfl),(Ht rfl),trivial⟩) (rm rfl (ro rfl (dU (Ht rfl) rfl) (ro rfl (dU (Ht rfl) rfl) (ra rfl (eZ (aT () trivial (zS rfl) (aU (aB (by first | rfl | simp)) (aU (aB (by first | rfl | simp)) (aU (aB rfl) aY))))))))))))))))))
  ·simp at hb
   refine cU (aT () trivial (aZ rfl (dB (by rw [hb,Nat.div_one])) (zS rfl)) (aU (aB (by rw [hb,Nat.div_one])) (aU (aB (by rw [hb,Nat.div_one])) (aU (aB rfl) aY))))
 ·refine cK (jG (fun (uu : Unit) => True) (fun (uu : Unit) => [(2, aH (if D / (Nat.gcd (Nat.gcd A.natAbs B.natAbs) D) = 1 then 0 else D / (Nat.gcd (Nat.gcd A.natAbs B.natAbs) D))), (3, bO B3 0), (4, bO B4 0), (6, bO B6 0)]) (fun (uu : Unit) => [box B3 49 [aC (decide (A < 0)), aH (A.natAbs / (Nat.gcd (Nat.gcd A.natAbs B.natAbs) D))], box B4 49 [aC (decide (B < 0)), aH (B.natAbs / (Nat.gcd (Nat.gcd A.natAbs B.natAbs) D))], box B6 51 [Is (.bool false), Is (.slice none 0 0), Is (.bool false), Is (.slice none 0 0), Is (.slice none 0 0)]]) ?_ (fun uu _ => ?_))
  ·refine ts (rm rfl (ro rfl (cZ Tryz.call219 a0n ⟨(Ht rfl), trivial⟩) (eZ (dQ (Ht rfl) (fun hb => ?_) (fun hb => ?_)))))
   ·simp only [decide_eq_true_eq] at hb
    refine cY (ro rfl (cQ cV) (eZ (aT () trivial (aZ rfl (fun v V h=>dB (by rw [if_pos hb]) v V (kI v V h)) (zS rfl)) (dL.refl _))))
   ·simp only [decide_eq_false_iff_not] at hb
    refine cU (aT () trivial (aZ rfl (dB (by rw [if_neg hb])) (zS rfl)) (dL.refl _))
  ·refine ts (ro rfl (eW A_49 Z_49 (Ht rfl) (i := 0) rfl rfl rfl) (ro rfl (eW A_49 Z_49 (Ht rfl) (i := 1) rfl rfl rfl) (rm rfl (ro rfl (uJ (Ht rfl) (Ht rfl) (Ht rfl)) (gJ Z_51 (Ht rfl) (Ht rfl) rfl (i := 2) rfl (aK rfl) rfl rfl (eZ (fK rfl (fJ (fY A_51 Z_51 rfl (i := 2) rfl rfl) ?_))))))))
   exact (Zs hD)
theorem oV {x:Qi}:bB Tryz.prog 137 [aE x] (aH x.den):=by
 refine bB.intro Tryz.func137 rfl Tryz.ntmps137 rfl (fun cx=>(ts (rn rfl (fU (Ht rfl)) fun B1=>(ro rfl (cQ cV) (eZ (cK (ts (ro rfl (eJ qF (Ht rfl) rfl) (ro rfl (fQ A_47 Z_47 (Ht rfl) (i:=0) rfl rfl) (ro rfl (dK U_47 (Ht rfl) aA) (ro rfl (cB (Ht rfl) (cJ 0)) (eZ (dQ (Ht rfl) (fun hb=>?_) (fun hb=>?_))))))))))))))
 ·simp at hb
  have h1:x.den = 1:=xP (aL.1 (by simpa using hb))
  refine ts (ro rfl (dH (xs:=[_]) U_47 Z_189 O_189 (cW (cJ 1) cG) rfl rfl rfl) (ra rfl (eZ (fK rfl (fJ (eY rfl) ?_)))))
  exact (fun v V h=>dB h1.symm v V (Gm v V h))
 ·simp at hb
  have h1:du x = x.den:=vD (fun e=>hb (by simp [e,eB]))
  refine cU (ts (ro rfl (eJ qF (Ht rfl) rfl) (ro rfl (fQ A_47 Z_47 (Ht rfl) (i:=0) rfl rfl) (ra rfl (eZ (fK rfl (fJ (eY rfl) ?_)))))))
  exact (dB h1)
theorem Nh {n:Int} (h1:-9223372036854775808 ≤ n) (h2:n ≤ 9223372036854775807):bB Tryz.prog 77 [aD .i64 n] (aE (Qi.ofInt n)):=by
 refine bB.intro Tryz.func77 rfl Tryz.ntmps77 rfl (fun cx=>(ts (rn rfl (eG (Ts:=[Is (.bool false),Is (.slice none 0 0),Is (.bool false),Is (.slice none 0 0),Is (.slice none 0 0)]) O_51 rfl (fun V=>aW zd (aW zd (aW zd (aW zd (aW zd (aG))))))) fun B2=>(eZ (ts (rm rfl (ro rfl (cZ Tryz.call177 (Di h1 h2) ⟨(Ht rfl),trivial⟩) (ro rfl (Ul (Ht rfl)) (gJ Z_51 (Ht rfl) (Ht rfl) rfl (i:=0) rfl (aK rfl) rfl rfl ?_)))))))))
 refine eZ (fK rfl (fJ (fY A_51 Z_51 rfl (i:=0) rfl rfl) ?_))
 exact My
theorem a2y {p q d:Int} (p1:-9223372036854775808 ≤ p) (p2:p ≤ 9223372036854775807) (q1:-9223372036854775808 ≤ q) (q2:q ≤ 9223372036854775807) (d1:-9223372036854775808 ≤ d) (d2:d ≤ 9223372036854775807) (hd:d ≠ 0):bB Tryz.prog 141 [aD .i64 p,aD .i64 q,aD .i64 d] (dN [aE (Qi.frac p q d),aD .i64 0]):=by
 have lp:=Ph p1 p2; have lq:=Ph q1 q2; have ld:=Ph d1 d2; have np:=tO p; have nq:=tO q
 refine bB.intro Tryz.func141 rfl Tryz.ntmps141 rfl (fun cx=>(ts (rn rfl (eG (Ts:=[Is (.bool false),Is (.slice none 0 0),Is (.bool false),Is (.slice none 0 0),Is (.slice none 0 0)]) O_51 rfl (fun V=>aW zd (aW zd (aW zd (aW zd (aW zd (aG))))))) fun B6=>(ro rfl (cQ (cJ 0)) (eZ (cK (ts (rm rfl (ro rfl (iW (Ht rfl) cV) (eZ (fN (Ht rfl) (by simp [hd]) ?_)))))))))))
 refine cU (ts (rm rfl (ro rfl (cZ Tryz.call177 (Di p1 p2) ⟨(Ht rfl),trivial⟩) (rm rfl (ro rfl (cZ Tryz.call177 (Di q1 q2) ⟨(Ht rfl),trivial⟩) (rm rfl (ro rfl (cZ Tryz.call177 (Di d1 d2) ⟨(Ht rfl),trivial⟩) (rn rfl (eG (Ts:=[Is (.bool false),Is (.slice none 0 0)]) O_49 rfl (fun V=>aW zd (aW zd (aG)))) fun B8=>(rn rfl (eG (Ts:=[Is (.bool false),Is (.slice none 0 0)]) O_49 rfl (fun V=>aW zd (aW zd (aG)))) fun B9=>?_)))))))))
 refine rn rfl (eG (Ts:=[Is (.bool false),Is (.slice none 0 0)]) O_49 rfl (fun V=>aW zd (aW zd (aG)))) fun B10=>gJ Z_49 (Ht rfl) (Ht rfl) rfl (i:=1) rfl (aK rfl) rfl rfl (gJ Z_49 (Ht rfl) (Ht rfl) rfl (i:=2) rfl (aK rfl) rfl rfl (gJ Z_49 (Ht rfl) (Ht rfl) rfl (i:=3) rfl (aK rfl) rfl rfl (eZ (cK (qM (fun (a:Int) (b:Int)=>Qi.mk' a b d.natAbs = Qi.frac p q d ∧ (dg a.natAbs).length ≤ 2 ∧ (dg b.natAbs).length ≤ 2) (fun (a:Int) (b:Int)=>[(6,bO B6 0),(8,bO B8 0),(9,bO B9 0),(10,bO B10 0)]) (fun (a:Int) (b:Int)=>[box B6 51 [Is (.bool false),Is (.slice none 0 0),Is (.bool false),Is (.slice none 0 0),Is (.slice none 0 0)],box B8 49 [aC (decide (a < 0)),aH (a).natAbs],box B9 49 [aC (decide (b < 0)),aH (b).natAbs],box B10 49 [aC (decide (d < 0)),aH (d).natAbs]]) ?_ (fun a b ⟨hab,ha,hb⟩=>?_))))))
 ·refine ts (ro rfl (eJ kM (Ht rfl) rfl) (ro rfl (fQ A_4 Z_4 (Ht rfl) (i := 3) rfl rfl) (eZ (dQ (Ht rfl) (fun hn => ?_) (fun hn => ?_)))))
  ·simp only [decide_eq_true_eq] at hn
   refine fV (m:=3) (dp 8 rfl (eW A_49 Z_49 (Ht rfl) (i:=1) rfl rfl rfl) (dq 22 0 rfl (cZ K_135 qI ⟨(Ht rfl),trivial⟩) (dp 9 rfl (eW A_49 Z_49 (Ht rfl) (i:=2) rfl rfl rfl) (fG bF rfl (by kernel_rfl) (aJ (aJ (aJ (aV (ro rfl (cZ K_135 qI ⟨(Ht rfl),trivial⟩) (gJ Z_49 (Ht rfl) (Ht rfl) rfl (i:=1) rfl (aK rfl) rfl rfl (gJ Z_49 (Ht rfl) (Ht rfl) rfl (i:=2) rfl (aK rfl) rfl rfl (eZ (aT (-p,-q) ⟨Qi.frac_neg hn,by dsimp only; omega,by dsimp only; omega⟩ (zS rfl) (aU (aB rfl) (aU (aB rfl) (aU (aB rfl) (aU (aB rfl) aY)))))))))))))))))
  ·simp only [decide_eq_false_iff_not] at hn
   refine cU (aT (p,q) ⟨Qi.frac_pos hn hd,by omega,by omega⟩ (zS rfl) (dL.refl _))
 ·refine ts (ro rfl (eW A_49 Z_49 (Ht rfl) (i := 1) rfl rfl rfl) (ro rfl (eW A_49 Z_49 (Ht rfl) (i := 2) rfl rfl rfl) (ro rfl (eJ eS (Ht rfl) rfl) (ro rfl (fQ A_47 Z_47 (Ht rfl) (i := 3) rfl rfl) (ro rfl (cZ K_134 (vX zo zo zo zo) ⟨(Ht rfl), (Ht rfl), (Ht rfl), trivial⟩) (gJ Z_51 (Ht rfl) (Ht rfl) rfl (i := 0) rfl (aK rfl) rfl rfl (ro rfl (cQ (cJ 0)) (eZ (bI rfl (fJ (fY A_51 Z_51 rfl (i := 0) rfl rfl) ?_) (eY rfl))))))))))
  exact (gP hab)
theorem yB {x y:Qi} {L M:Nat} [hx:aN x L] [hy:aN y M] (h:L + M + 1 ≤ 17592186044415):bB Tryz.prog 46 [aE x,aE y] (aE (x + y)):=by
 have hxa:=mS hx.fit; have hxb:=nB hx.fit; have hxd:=mR hx.fit
 have hya:=mS hy.fit; have hyb:=nB hy.fit; have hyd:=mR hy.fit
 have hxp:=x.den_pos; have hyp:=y.den_pos; have hdp:=Nat.mul_pos hxp hyp
 have e1:=gU x.a y.den; have e2:=gU y.a x.den; have e3:=gU x.b y.den; have e4:=gU y.b x.den; have e5:=yR x.den y.den
 have e6:=nY (x:=x.a * y.den) (y:=y.a * x.den) (L:=L + M) zo zo; have e7:=nY (x:=x.b * y.den) (y:=y.b * x.den) (L:=L + M) zo zo
 refine bB.intro Tryz.func46 rfl Tryz.ntmps46 rfl (fun cx=>(ts (rn rfl (fU (Ht rfl)) fun B2=>(rn rfl (fU (Ht rfl)) fun B3=>(rn rfl (eG (Ts:=[Is (.bool false),Is (.slice none 0 0),Is (.bool false),Is (.slice none 0 0),Is (.slice none 0 0)]) O_51 rfl (fun V=>aW zd (aW zd (aW zd (aW zd (aW zd (aG))))))) fun B4=>(eZ (cK (fV (m:=3) (dp 2 rfl (eW A_51 Z_51 (Ht rfl) (i:=0) rfl rfl rfl) (dq 7 0 rfl (cZ K_137 oV ⟨(Ht rfl),trivial⟩) ?_))))))))))
 refine dp 3 rfl (eW A_51 Z_51 (Ht rfl) (i:=1) rfl rfl rfl) (fG bF rfl (by kernel_rfl) (aJ (aJ (aJ (aV (ro rfl (cZ K_137 oV ⟨(Ht rfl),trivial⟩) (ra rfl (ra rfl (eZ (cK (fV (m:=20) (dp 2 rfl (eJ gT (Ht rfl) rfl) (dq 11 0 rfl (eW A_49 Z_49 (Ht rfl) (i:=0) rfl rfl rfl) (dp 6 rfl (cX (Ht rfl)) (dS 12 1 13 2 rfl (cZ K_136 (kV zo zo) ⟨(Ht rfl),(Ht rfl),trivial⟩) (dp 3 rfl (eJ gT (Ht rfl) rfl) (dq 15 4 rfl (eW A_49 Z_49 (Ht rfl) (i:=1) rfl rfl rfl) ?_)))))))))))))))))
 refine dp 5 rfl (cX (Ht rfl)) (dS 16 5 17 6 rfl (cZ K_136 (kV zo zo) ⟨(Ht rfl),(Ht rfl),trivial⟩) (dS 14 3 18 7 rfl (cZ K_133 (vL zo zo) ⟨(Ht rfl),(Ht rfl),trivial⟩) (dp 2 rfl (eJ iK (Ht rfl) rfl) (dq 20 9 rfl (eW A_49 Z_49 (Ht rfl) (i:=0) rfl rfl rfl) (dp 6 rfl (cX (Ht rfl)) (dS 21 10 22 11 rfl (cZ K_136 (kV zo zo) ⟨(Ht rfl),(Ht rfl),trivial⟩) (dp 3 rfl (eJ iK (Ht rfl) rfl) (dq 24 13 rfl (eW A_49 Z_49 (Ht rfl) (i:=1) rfl rfl rfl) ?_))))))))
 refine dp 5 rfl (cX (Ht rfl)) (dS 25 14 26 15 rfl (cZ K_136 (kV zo zo) ⟨(Ht rfl),(Ht rfl),trivial⟩) (dS 23 12 27 16 rfl (cZ K_133 (vL zo zo) ⟨(Ht rfl),(Ht rfl),trivial⟩) (dp 5 rfl (cX (Ht rfl)) (dp 6 rfl (cX (Ht rfl)) (fG bF rfl (by kernel_rfl) (zF (zF (zF (zF (zF (aV (ro rfl (cZ Tryz.call138 (Gp zo zo) ⟨(Ht rfl),(Ht rfl),trivial⟩) ?_))))))))))))
 refine ro rfl (cZ K_134 (vX (by first | assumption | omega) zo zo zo) ⟨(Ht rfl),(Ht rfl),(Ht rfl),trivial⟩) (gJ Z_51 (Ht rfl) (Ht rfl) rfl (i:=2) rfl (aK rfl) rfl rfl (eZ (fK rfl (fJ (fY A_51 Z_51 rfl (i:=2) rfl rfl) ?_))))
 exact (gP (Qi.mk_add x y))
theorem a2f {x:Qi}:bB Tryz.prog 140 [aE x] (aE (-x)):=by
 refine bB.intro Tryz.func140 rfl Tryz.ntmps140 rfl (fun cx=>(ts (rn rfl (fU (Ht rfl)) fun B1=>(rn rfl (eG (Ts:=[Is (.bool false),Is (.slice none 0 0),Is (.bool false),Is (.slice none 0 0),Is (.slice none 0 0)]) O_51 rfl (fun V=>aW zd (aW zd (aW zd (aW zd (aW zd (aG))))))) fun B2=>(eZ (cK (fV (m:=8) (dp 1 rfl (eJ gT (Ht rfl) rfl) (dq 3 0 rfl (eW A_49 Z_49 (Ht rfl) (i:=0) rfl rfl rfl) (dq 4 1 rfl (cZ K_135 qI ⟨(Ht rfl),trivial⟩) ?_))))))))))
 refine dp 1 rfl (eJ iK (Ht rfl) rfl) (dq 6 3 rfl (eW A_49 Z_49 (Ht rfl) (i:=0) rfl rfl rfl) (dq 7 4 rfl (cZ K_135 qI ⟨(Ht rfl),trivial⟩) (dp 1 rfl (eJ qF (Ht rfl) rfl) (dq 9 6 rfl (fQ A_47 Z_47 (Ht rfl) (i:=0) rfl rfl) (fG bF rfl (by kernel_rfl) (zF (zF (aV (ro rfl (uJ (Ht rfl) (Ht rfl) (Ht rfl)) (gJ Z_51 (Ht rfl) (Ht rfl) rfl (i:=1) rfl (aK rfl) rfl rfl (eZ (fK rfl (fJ (fY A_51 Z_51 rfl (i:=1) rfl rfl) ?_)))))))))))))
 exact (qD (by obtain ⟨e1,e2,e3⟩:=Qi.neg_a x; rw [e1,e2,a2C e3]; rfl))
theorem uO {x y:Qi} {L M:Nat} [hx:aN x L] [hy:aN y M] (h:L + M + 1 ≤ 17592186044415):bB Tryz.prog 44 [aE x,aE y] (aE (x - y)):=by
 have hxa:=mS hx.fit; have hxb:=nB hx.fit; have hxd:=mR hx.fit
 have hya:=mS hy.fit; have hyb:=nB hy.fit; have hyd:=mR hy.fit
 have hxp:=x.den_pos; have hyp:=y.den_pos; have hdp:=Nat.mul_pos hxp hyp
 refine bB.intro Tryz.func44 rfl Tryz.ntmps44 rfl (fun cx=>(ts (rn rfl (fU (Ht rfl)) fun B2=>(rn rfl (fU (Ht rfl)) fun B3=>(rn rfl (eG (Ts:=[Is (.bool false),Is (.slice none 0 0),Is (.bool false),Is (.slice none 0 0),Is (.slice none 0 0)]) O_51 rfl (fun V=>aW zd (aW zd (aW zd (aW zd (aW zd (aG))))))) fun B4=>(eZ (cK (fV (m:=3) (dp 2 rfl (eW A_51 Z_51 (Ht rfl) (i:=0) rfl rfl rfl) (dp 3 rfl (eW A_51 Z_51 (Ht rfl) (i:=1) rfl rfl rfl) ?_))))))))))
 refine dq 6 1 rfl (cZ Tryz.call140 a2f ⟨(Ht rfl),trivial⟩) (fG bF rfl (by kernel_rfl) (aJ (aJ (aJ (aV (ro rfl (cZ K_46 (yB zo) ⟨(Ht rfl),(Ht rfl),trivial⟩) (gJ Z_51 (Ht rfl) (Ht rfl) rfl (i:=2) rfl (aK rfl) rfl rfl (eZ (fK rfl (fJ (fY A_51 Z_51 rfl (i:=2) rfl rfl) ?_))))))))))
 exact (gP (Qi.sub_def x y).symm)
theorem kW {x y:Qi} {L M:Nat} [hx:aN x L] [hy:aN y M] (h:L + M + 1 ≤ 17592186044415):bB Tryz.prog 45 [aE x,aE y] (aE (x * y)):=by
 have hxa:=mS hx.fit; have hxb:=nB hx.fit; have hxd:=mR hx.fit
 have hya:=mS hy.fit; have hyb:=nB hy.fit; have hyd:=mR hy.fit
 have hxp:=x.den_pos; have hyp:=y.den_pos; have hdp:=Nat.mul_pos hxp hyp
 have e1:=nW x.a y.a; have e2:=nW x.b y.b; have e3:=nW x.a y.b; have e4:=nW x.b y.a; have e5:=yR x.den y.den; have e8:=tO (x.b * y.b)
 have e6:=nY (x:=x.a * y.a) (y:=-(x.b * y.b)) (L:=L + M) zo zo; have e7:=nY (x:=x.a * y.b) (y:=x.b * y.a) (L:=L + M) zo zo
 refine bB.intro Tryz.func45 rfl Tryz.ntmps45 rfl (fun cx=>(ts (rn rfl (fU (Ht rfl)) fun B2=>(rn rfl (fU (Ht rfl)) fun B3=>(rn rfl (eG (Ts:=[Is (.bool false),Is (.slice none 0 0),Is (.bool false),Is (.slice none 0 0),Is (.slice none 0 0)]) O_51 rfl (fun V=>aW zd (aW zd (aW zd (aW zd (aW zd (aG))))))) fun B4=>(eZ (cK (fV (m:=13) (dp 2 rfl (eJ gT (Ht rfl) rfl) (dq 7 0 rfl (eW A_49 Z_49 (Ht rfl) (i:=0) rfl rfl rfl) ?_))))))))))
 refine dp 3 rfl (eJ gT (Ht rfl) rfl) (dq 9 2 rfl (eW A_49 Z_49 (Ht rfl) (i:=1) rfl rfl rfl) (dS 8 1 10 3 rfl (cZ K_132 (sN zo zo) ⟨(Ht rfl),(Ht rfl),trivial⟩) (dp 2 rfl (eJ iK (Ht rfl) rfl) (dq 12 5 rfl (eW A_49 Z_49 (Ht rfl) (i:=0) rfl rfl rfl) (dp 3 rfl (eJ iK (Ht rfl) rfl) (dq 14 7 rfl (eW A_49 Z_49 (Ht rfl) (i:=1) rfl rfl rfl) (dS 13 6 15 8 rfl (cZ K_132 (sN zo zo) ⟨(Ht rfl),(Ht rfl),trivial⟩) (dq 16 9 rfl (cZ K_135 qI ⟨(Ht rfl),trivial⟩) ?_))))))))
 refine dS 11 4 17 10 rfl (cZ K_133 (vL zo zo) ⟨(Ht rfl),(Ht rfl),trivial⟩) (C.D_new (Ei:=[]) rfl rfl rfl bW (eG (Ts:=[Is (.bool false),Is (.slice none 0 0)]) O_49 rfl (fun V=>aW zd (aW zd (aG)))) (fG bF rfl (by kernel_rfl) (zF (zF (zF (C.F_new (fun B5=>aV (gJ Z_49 (Ht rfl) (Ht rfl) rfl (i:=3) rfl (aK rfl) rfl rfl (eZ ?_)))))))))
 refine cK (fV (m:=12) (dp 2 rfl (eJ gT (Ht rfl) rfl) (dq 19 0 rfl (eW A_49 Z_49 (Ht rfl) (i:=0) rfl rfl rfl) (dp 3 rfl (eJ iK (Ht rfl) rfl) (dq 21 2 rfl (eW A_49 Z_49 (Ht rfl) (i:=1) rfl rfl rfl) (dS 20 1 22 3 rfl (cZ K_132 (sN zo zo) ⟨(Ht rfl),(Ht rfl),trivial⟩) (dp 2 rfl (eJ iK (Ht rfl) rfl) (dq 24 5 rfl (eW A_49 Z_49 (Ht rfl) (i:=0) rfl rfl rfl) (dp 3 rfl (eJ gT (Ht rfl) rfl) (dq 26 7 rfl (eW A_49 Z_49 (Ht rfl) (i:=1) rfl rfl rfl) ?_))))))))))
 refine dS 25 6 27 8 rfl (cZ K_132 (sN zo zo) ⟨(Ht rfl),(Ht rfl),trivial⟩) (dS 23 4 28 9 rfl (cZ K_133 (vL zo zo) ⟨(Ht rfl),(Ht rfl),trivial⟩) (C.D_new (Ei:=[]) rfl rfl rfl bW (eG (Ts:=[Is (.bool false),Is (.slice none 0 0)]) O_49 rfl (fun V=>aW zd (aW zd (aG)))) (fG bF rfl (by kernel_rfl) (zF (zF (aJ (aJ (aJ (C.F_new (fun B6=>aV (gJ Z_49 (Ht rfl) (Ht rfl) rfl (i:=4) rfl (aK rfl) rfl rfl ?_)))))))))))
 refine eZ (cK (fV (m:=7) (dp 5 rfl (eW A_49 Z_49 (Ht rfl) (i:=3) rfl rfl rfl) (dp 6 rfl (eW A_49 Z_49 (Ht rfl) (i:=4) rfl rfl rfl) (dp 2 rfl (eW A_51 Z_51 (Ht rfl) (i:=0) rfl rfl rfl) (dq 32 2 rfl (cZ K_137 oV ⟨(Ht rfl),trivial⟩) (dp 3 rfl (eW A_51 Z_51 (Ht rfl) (i:=1) rfl rfl rfl) (dq 34 4 rfl (cZ K_137 oV ⟨(Ht rfl),trivial⟩) (dS 33 3 35 5 rfl (cZ Tryz.call138 (Gp zo zo) ⟨(Ht rfl),(Ht rfl),trivial⟩) (fG bF rfl (by kernel_rfl) (zF (aJ (aJ (aJ (aV ?_)))))))))))))))
 refine ro rfl (cZ K_134 (vX (by first | assumption | omega) zo zo zo) ⟨(Ht rfl),(Ht rfl),(Ht rfl),trivial⟩) (gJ Z_51 (Ht rfl) (Ht rfl) rfl (i:=2) rfl (aK rfl) rfl rfl (eZ (fK rfl (fJ (fY A_51 Z_51 rfl (i:=2) rfl rfl) ?_))))
 exact (gP (Qi.mk_mul x y))
theorem sE {x:Qi} {L:Nat} [hx:aN x L] (h:L ≤ 17592186044415):bB Tryz.prog 27 [aE x] (aC (!decide (x = Qi.zero))):=by
 have hxa:=mS hx.fit; have hxb:=nB hx.fit; have hxd:=mR hx.fit
 refine bB.intro Tryz.func27 rfl Tryz.ntmps27 rfl (fun cx=>(ts (rn rfl (fU (Ht rfl)) fun B1=>(ro rfl (cQ cV) (eZ (ts (ro rfl (eJ gT (Ht rfl) rfl) (ro rfl (eJ eS (Ht rfl) rfl) (ro rfl (fQ A_47 Z_47 (Ht rfl) (i:=0) rfl rfl) (ro rfl (dK U_47 (Ht rfl) aA) (ro rfl (eJ iK (Ht rfl) rfl) (ro rfl (eJ eS (Ht rfl) rfl) (ro rfl (fQ A_47 Z_47 (Ht rfl) (i:=0) rfl rfl) (ro rfl (dK U_47 (Ht rfl) aA) (ro rfl (dW (Ht rfl) (Ht rfl) z6) ?_)))))))))))))))
 refine ro rfl (eT (Ht rfl) (cJ 0)) (ra rfl (eZ (fK rfl (fJ (eY rfl) ?_))))
 exact (eN (Uq x))
theorem Uy {x:Qi}:bB Tryz.prog 169 [aE x] (aC (decide (x.b = 0))):=by
 refine bB.intro Tryz.func169 rfl Tryz.ntmps169 rfl (fun cx=>(ts (rn rfl (fU (Ht rfl)) fun B1=>(ro rfl (cQ cV) (eZ (ts (ro rfl (eJ iK (Ht rfl) rfl) (ro rfl (eJ eS (Ht rfl) rfl) (ro rfl (fQ A_47 Z_47 (Ht rfl) (i:=0) rfl rfl) (ro rfl (dK U_47 (Ht rfl) aA) (ro rfl (cB (Ht rfl) (cJ 0)) (ra rfl (eZ (fK rfl (fJ (eY rfl) ?_)))))))))))))))
 exact (eN (Yy x))
theorem Du {x y:Qi} {L M:Nat} [hx:aN x L] [hy:aN y M] (h:L ≤ 17592186044415) (h2:M ≤ 17592186044415):bB Tryz.prog 139 [aE x,aE y] (aC (decide (x = y))):=by
 have hxa:=mS hx.fit; have hxb:=nB hx.fit; have hxd:=mR hx.fit
 have hya:=mS hy.fit; have hyb:=nB hy.fit; have hyd:=mR hy.fit
 have hxu:=Ss x; have hyu:=Ss y
 refine bB.intro Tryz.func139 rfl Tryz.ntmps139 rfl (fun cx=>(ts (rn rfl (fU (Ht rfl)) fun B2=>(rn rfl (fU (Ht rfl)) fun B3=>(ro rfl (cQ cV) (eZ (ts (ro rfl (eJ gT (Ht rfl) rfl) (ro rfl (eW A_49 Z_49 (Ht rfl) (i:=0) rfl rfl rfl) (ro rfl (eJ gT (Ht rfl) rfl) (ro rfl (eW A_49 Z_49 (Ht rfl) (i:=1) rfl rfl rfl) (ro rfl (cZ Tryz.call176 (Ex zo zo) ⟨(Ht rfl),(Ht rfl),trivial⟩) (ro rfl (iW (Ht rfl) cV) (rm rfl (fX rfl rfl (eU rfl rfl (Ht rfl) (fun h=>eJ iK (Ht rfl) rfl)) ?_)))))))))))))))
 refine fX rfl rfl (eU rfl rfl (Ht rfl) (fun h=>eW A_49 Z_49 (fW rfl h) (i:=0) rfl rfl rfl)) (fX rfl rfl (eU rfl rfl (Ht rfl) (fun h=>eJ iK (Ht rfl) rfl)) (fX rfl rfl (eU rfl rfl (Ht rfl) (fun h=>eW A_49 Z_49 (fW rfl h) (i:=1) rfl rfl rfl)) (fX rfl rfl (eU rfl rfl (Ht rfl) (fun h=>cZ Tryz.call176 (Ex zo zo) ⟨(fW rfl h),(fW rfl h),trivial⟩)) (fX rfl rfl (eU rfl rfl (Ht rfl) (fun h=>iW (fW rfl h) cV)) (ro rfl (eA (Ht rfl) (fun h=>(fW rfl h))) ?_)))))
 refine rm rfl (fX rfl rfl (eU rfl rfl (Ht rfl) (fun h=>eJ qF (Ht rfl) rfl)) (fX rfl rfl (eU rfl rfl (Ht rfl) (fun h=>fQ A_47 Z_47 (fW rfl h) (i:=0) rfl rfl)) (fX rfl rfl (eU rfl rfl (Ht rfl) (fun h=>eJ qF (Ht rfl) rfl)) (fX rfl rfl (eU rfl rfl (Ht rfl) (fun h=>fQ A_47 Z_47 (fW rfl h) (i:=1) rfl rfl)) (fX rfl rfl (eU rfl rfl (Ht rfl) (fun h=>cZ Tryz.call216 (Vd zo zo) ⟨(fW rfl h),(fW rfl h),trivial⟩)) (fX rfl rfl (eU rfl rfl (Ht rfl) (fun h=>iW (fW rfl h) cV)) ?_))))))
 refine ro rfl (eA (Ht rfl) (fun h=>(fW rfl h))) (ra rfl (eZ (fK rfl (fJ (eY rfl) ?_))))
 exact (eN (Vu x y))
theorem a2s {x y:Qi} {L M:Nat} [hx:aN x L] [hy:aN y M] (h:L + M ≤ 17592186044415):bB Tryz.prog 76 [aE x,aE y] (aD .i64 (Nz x y)):=by
 have hxa:=mS hx.fit; have hxb:=nB hx.fit; have hxd:=mR hx.fit
 have hya:=mS hy.fit; have hyb:=nB hy.fit; have hyd:=mR hy.fit
 have e1:=gU x.a y.den; have e2:=gU y.a x.den; have e3:=gU x.b y.den; have e4:=gU y.b x.den
 refine bB.intro Tryz.func76 rfl Tryz.ntmps76 rfl (fun cx=>(ts (rn rfl (fU (Ht rfl)) fun B2=>(rn rfl (fU (Ht rfl)) fun B3=>(ro rfl (cQ (cJ 0)) (eZ (cK (cK (fV (m:=9) (dp 2 rfl (eJ gT (Ht rfl) rfl) (dq 6 0 rfl (eW A_49 Z_49 (Ht rfl) (i:=0) rfl rfl rfl) (dp 3 rfl (eW A_51 Z_51 (Ht rfl) (i:=1) rfl rfl rfl) (dq 8 2 rfl (cZ K_137 oV ⟨(Ht rfl),trivial⟩) (dS 7 1 9 3 rfl (cZ K_136 (kV zo zo) ⟨(Ht rfl),(Ht rfl),trivial⟩) (dp 3 rfl (eJ gT (Ht rfl) rfl) ?_)))))))))))))))
 refine dq 11 5 rfl (eW A_49 Z_49 (Ht rfl) (i:=1) rfl rfl rfl) (dp 2 rfl (eW A_51 Z_51 (Ht rfl) (i:=0) rfl rfl rfl) (dq 13 7 rfl (cZ K_137 oV ⟨(Ht rfl),trivial⟩) (fG bF rfl (by kernel_rfl) (zF (zF (aJ (aV (ro rfl (cZ K_136 (kV zo zo) ⟨(Ht rfl),(Ht rfl),trivial⟩) (ro rfl (cZ Tryz.call176 (Ex zo zo) ⟨(Ht rfl),(Ht rfl),trivial⟩) (ra rfl (eZ (ts (rm rfl (ro rfl (fB (Ht rfl) cV) ?_))))))))))))))
 refine eZ (dQ (Ht rfl) (fun hb=>?_) (fun hb=>?_))
 ·simp only [Bool.not_eq_true', decide_eq_false_iff_not] at hb
  refine ts (rm rfl (ra rfl (eZ (fK rfl (fJ (eY rfl) ?_)))))
  exact (aM (by rw [Nz,if_pos hb]))
 ·simp only [Bool.not_eq_false', decide_eq_true_eq] at hb
  refine cU (cK (fV (m:=9) (dp 2 rfl (eJ iK (Ht rfl) rfl) (dq 20 0 rfl (eW A_49 Z_49 (Ht rfl) (i:=0) rfl rfl rfl) (dp 3 rfl (eW A_51 Z_51 (Ht rfl) (i:=1) rfl rfl rfl) (dq 22 2 rfl (cZ K_137 oV ⟨(Ht rfl),trivial⟩) (dS 21 1 23 3 rfl (cZ K_136 (kV zo zo) ⟨(Ht rfl),(Ht rfl),trivial⟩) (dp 3 rfl (eJ iK (Ht rfl) rfl) (dq 25 5 rfl (eW A_49 Z_49 (Ht rfl) (i:=1) rfl rfl rfl) (dp 2 rfl (eW A_51 Z_51 (Ht rfl) (i:=0) rfl rfl rfl) ?_))))))))))
  refine dq 27 7 rfl (cZ K_137 oV ⟨(Ht rfl),trivial⟩) (fG bF rfl (by kernel_rfl) (zF (zF (aJ (aV (ro rfl (cZ K_136 (kV zo zo) ⟨(Ht rfl),(Ht rfl),trivial⟩) (ro rfl (cZ Tryz.call176 (Ex zo zo) ⟨(Ht rfl),(Ht rfl),trivial⟩) (ra rfl (eZ (fK rfl (fJ (eY rfl) ?_)))))))))))
  exact (aM (by rw [Nz,if_neg (by simpa using hb)]))
end
section
open Go Go.RowKit
theorem Xf {n : Nat} {E : cF} {H : Hp} {d : Option Tmp} {t : TypeId} {pos : String} {af : Array Edge} {g : Option (Nat × Bool)}  :
  aF Tryz.prog n E H ⟨d,.build 49 #[],t,pos,af,g⟩ (eD [Is (.bool false),Is (.slice none 0 0)]) :=
 iA (parts := []) fun a V w hs => by
  refine ⟨.agg #[(.bool false),(.slice none 0 0)],?_,[(.bool false),(.slice none 0 0)],rfl,aW (⟨rfl,trivial⟩) (aW (⟨rfl,trivial⟩) (aG))⟩
  simp [Instr.build,Instr.fill,Sem.run_bind,Result.andThen,fI,O_49,U_49,Z_4,Z_47]
theorem oB (a:Addr) (w:World):(Instr.fieldAt 102 (.pointer (some a)) 0).run Tryz.prog w = .ok (.pointer (some (a.add 0))) w:=by
 simp [Instr.fieldAt,Instr.sureAddr,fieldPlace,Sem.run_bind,Result.andThen,U_102,Z_2]
theorem yY (a:Addr) (w:World):(Instr.fieldAt 102 (.pointer (some a)) 1).run Tryz.prog w = .ok (.pointer (some (a.add 1))) w:=by
 simp [Instr.fieldAt,Instr.sureAddr,fieldPlace,Sem.run_bind,Result.andThen,U_102,Z_2]
theorem mU (a:Addr) (w:World):(Instr.fieldAt 102 (.pointer (some a)) 2).run Tryz.prog w = .ok (.pointer (some (a.add 2))) w:=by
 simp [Instr.fieldAt,Instr.sureAddr,fieldPlace,Sem.run_bind,Result.andThen,U_102,Z_2]
theorem iS:Tryz.prog.info? 51 = some Tryz.t51:=by kernel_rfl
theorem kD:Tryz.prog.underlying 29 = some (.slice 51):=by kernel_rfl
end
section
open Go Go.RowKit
theorem Jb {a:Int} {d:Nat} (hd:0 < d) (ha:(dg a.natAbs).length ≤ 8796093022208) (hd2:(dg d).length ≤ 8796093022208):bB Tryz.prog 188 [gL a,aH d] (pG (rC a d)):=by
 have h1:=Gi a hd; have h2:=Ik a hd
 obtain ⟨x,hx⟩:∃ x,x = Qi.mk' a 0 d:=⟨_,rfl⟩
 rw [rC,← hx]
 rw [← hx] at h1 h2
 have h3:=qA x.a.natAbs; have h4:=qA x.den
 have h5:(dg (0:Int).natAbs).length ≤ 0:=by rw [show (0:Int).natAbs = 0 from rfl,eB]; exact Nat.le_refl _
 refine bB.intro Tryz.func188 rfl Tryz.ntmps188 rfl (fun cx=>(ts (rn rfl (fU (Ht rfl)) fun B2=>(ro rfl (cQ (bC.cS (l:=[]) rfl)) (eZ (ts (ro rfl (eW A_49 Z_49 (Ht rfl) (i:=0) rfl rfl rfl) (ro rfl (aF.imp (Xf ) Ae) (rm rfl (ro rfl (aF.imp (cZ K_134 (vX (by first | assumption | omega) zo zo zo) ⟨(Ht rfl),(Ht rfl),(Ht rfl),trivial⟩) (gP hx.symm)) (rn rfl (eG (Ts:=[Is (.bool false),Is (.slice none 0 0),Is (.bool false),Is (.slice none 0 0),Is (.slice none 0 0)]) O_51 rfl (fun V=>aW zd (aW zd (aW zd (aW zd (aW zd (aG))))))) fun B5=>?_)))))))))))
 refine gJ Z_51 (Ht rfl) (Ht rfl) rfl (i:=1) rfl (aK rfl) rfl rfl (eZ (ts (ro rfl (eJ gT (Ht rfl) rfl) (ro rfl (eJ eS (Ht rfl) rfl) (ro rfl (fQ A_47 Z_47 (Ht rfl) (i:=1) rfl rfl) (ro rfl (cZ Tryz.call249 (Ie zo) ⟨(Ht rfl),trivial⟩) (ra rfl (eZ (cK (jG (fun (uu:Unit)=>True) (fun (uu:Unit)=>[(5,bO B5 0),(6,pG (if x.a < 0 then 45 :: sZ x.a.natAbs else sZ x.a.natAbs))]) (fun (uu:Unit)=>[box B2 49 [aC (decide (a < 0)),aH (a).natAbs],box B5 51 [aC (decide ((x).a < 0)),aH (x).a.natAbs,aC (decide ((x).b < 0)),aH (x).b.natAbs,aH (du (x))]]) ?_ (fun uu _=>?_)))))))))))
 ·refine ts (ro rfl (eJ gT (Ht rfl) rfl) (ro rfl (eJ kM (Ht rfl) rfl) (ro rfl (fQ A_4 Z_4 (Ht rfl) (i := 1) rfl rfl) (eZ (dQ (Ht rfl) (fun hb => ?_) (fun hb => ?_))))))
  ·simp only [decide_eq_true_eq] at hb
   refine cY (rm rfl (ro rfl (jW (bC.cS (l:=[45]) rfl) (Ht rfl) (by first | omega | (simp; omega))) (ra rfl (eZ (aT () trivial (aQ rfl (aZ rfl (jF (by rw [if_pos hb]; rfl)) aX)) (aU (aB rfl) (aU (aB rfl) aY)))))))
  ·simp only [decide_eq_false_iff_not] at hb
   refine cU (aT () trivial (aQ rfl (aZ rfl (jF (by rw [if_neg hb])) aX)) (aU (aB rfl) (aU (aB rfl) aY)))
 ·have h6 : (if x.a < 0 then 45 :: sZ x.a.natAbs else sZ x.a.natAbs).length ≤ (sZ x.a.natAbs).length + 1 := by split <;> simp
  have h7:=Ss x
  refine cK (jG (fun (uu:Unit)=>True) (fun (uu:Unit)=>[(6,pG ((if x.a < 0 then 45 :: sZ x.a.natAbs else sZ x.a.natAbs) ++ (if x.den = 1 then [] else 47 :: sZ x.den)))]) (fun (uu:Unit)=>[box B2 49 [aC (decide (a < 0)),aH (a).natAbs],box B5 51 [aC (decide ((x).a < 0)),aH (x).a.natAbs,aC (decide ((x).b < 0)),aH (x).b.natAbs,aH (du (x))]]) ?_ (fun uu _=>?_))
  ·refine ts (ro rfl (eJ qF (Ht rfl) rfl) (ro rfl (fQ A_47 Z_47 (Ht rfl) (i := 1) rfl rfl) (ro rfl (dK U_47 (Ht rfl) aA) (ro rfl (eT (Ht rfl) (cJ 0)) (eZ (dQ (Ht rfl) (fun hb => ?_) (fun hb => ?_)))))))
   ·simp only [decide_eq_true_eq] at hb
    have h8:du x = x.den:=vD (fun e=>by rw [e,eB] at hb; simp at hb)
    have h9:x.den ≠ 1:=fun e=>by rw [du,if_pos e,eB] at hb; simp at hb
    have h10:=qA (du x)
    refine cY (rm rfl (ro rfl (eJ qF (Ht rfl) rfl) (ro rfl (fQ A_47 Z_47 (Ht rfl) (i:=1) rfl rfl) (ro rfl (cZ Tryz.call249 (Ie zo) ⟨(Ht rfl),trivial⟩) (ro rfl (jW (bC.cS (l:=[47]) rfl) (Ht rfl) (by simp only [List.length_cons,List.length_nil]; omega)) ?_)))))
    refine ro rfl (jW (Ht rfl) (Ht rfl) (by simp only [List.length_append,List.length_cons,List.length_nil]; omega)) ?_
    refine ra rfl (eZ (aT () trivial (aZ rfl (jF (by rw [if_neg h9,h8]; rfl)) aX) (dL.refl _)))
   ·simp only [decide_eq_false_iff_not] at hb
    have h9:x.den = 1:=xP (aL.1 zo)
    refine cU (aT () trivial (aZ rfl (jF (by rw [if_pos h9,List.append_nil])) aX) (dL.refl _))
  ·refine ts (rm rfl (ra rfl (eZ ?_)))
   exact fK rfl (eY rfl)
theorem Qk {x:Qi} {L:Nat} [hx:aN x L] (h:L ≤ 8796093022208):bB Tryz.prog 89 [aE x] (pG (Ps x)):=by
 have hxa:=mS hx.fit; have hxb:=nB hx.fit; have hxd:=mR hx.fit; have hdp:=x.den_pos
 have l1:=uK x.a hdp; have l2:=uK x.b hdp
 refine bB.intro Tryz.func89 rfl Tryz.ntmps89 rfl (fun cx=>(ts (rn rfl (fU (Ht rfl)) fun B1=>(ro rfl (cQ (bC.cS (l:=[]) rfl)) (eZ (cK (ts (ro rfl (eW A_51 Z_51 (Ht rfl) (i:=0) rfl rfl rfl) (ro rfl (cZ Tryz.call169 Uy ⟨(Ht rfl),trivial⟩) (eZ (dQ (Ht rfl) (fun hb=>?_) (fun hb=>?_))))))))))))
 ·simp only [decide_eq_true_eq] at hb
  refine cK (fV (m:=4) (dp 1 rfl (eJ gT (Ht rfl) rfl) (dq 6 0 rfl (eW A_49 Z_49 (Ht rfl) (i:=0) rfl rfl rfl) (dp 1 rfl (eW A_51 Z_51 (Ht rfl) (i:=0) rfl rfl rfl) (dq 8 2 rfl (cZ K_137 oV ⟨(Ht rfl),trivial⟩) (fG bF rfl (by kernel_rfl) (zF (aV (ro rfl (cZ Tryz.call188 (Jb (by assumption) zo zo) ⟨(Ht rfl),(Ht rfl),trivial⟩) ?_)))))))))
  refine ra rfl (eZ (fK rfl (fJ (eY rfl) ?_)))
  exact (jF (by rw [Ps,if_pos hb]))
 ·simp only [decide_eq_false_iff_not] at hb
  refine cU (cK (fV (m:=4) (dp 1 rfl (eJ iK (Ht rfl) rfl) (dq 11 0 rfl (eW A_49 Z_49 (Ht rfl) (i:=0) rfl rfl rfl) (dp 1 rfl (eW A_51 Z_51 (Ht rfl) (i:=0) rfl rfl rfl) (dq 13 2 rfl (cZ K_137 oV ⟨(Ht rfl),trivial⟩) (fG bF rfl (by kernel_rfl) (zF (aV (ro rfl (cZ Tryz.call188 (Jb (by assumption) zo zo) ⟨(Ht rfl),(Ht rfl),trivial⟩) ?_))))))))))
  refine ro rfl (jW (Ht rfl) (bC.cS (l:=[105]) rfl) (by simp only [List.length_append,List.length_cons,List.length_nil]; omega)) ?_
  refine ra rfl (eZ (cK (ts (ro rfl (eJ gT (Ht rfl) rfl) (ro rfl (eJ eS (Ht rfl) rfl) (ro rfl (fQ A_47 Z_47 (Ht rfl) (i:=0) rfl rfl) (ro rfl (dK U_47 (Ht rfl) aA) (ro rfl (cB (Ht rfl) (cJ 0)) (eZ (dQ (Ht rfl) (fun hc=>?_) (fun hc=>?_)))))))))))
  ·simp only [decide_eq_true_eq] at hc
   have ha:x.a = 0:=by have:=aL.1 hc; omega
   refine ts (rm rfl (ra rfl (eZ (fK rfl (fJ (eY rfl) ?_)))))
   exact (jF (by rw [Ps,if_neg hb,if_pos ha]))
  ·simp only [decide_eq_false_iff_not] at hc
   have ha:x.a ≠ 0:=fun e=>hc (by rw [e]; exact aL.2 rfl)
   refine cU (cK (jG (fun (uu:Unit)=>True) (fun (uu:Unit)=>[(1,bO B1 0),(3,pG ((if x.b < 0 then rC x.b x.den else 43 :: rC x.b x.den) ++ [105]))]) (fun (uu:Unit)=>[box B1 51 [aC (decide ((x).a < 0)),aH (x).a.natAbs,aC (decide ((x).b < 0)),aH (x).b.natAbs,aH (du (x))]]) ?_ (fun uu _=>?_)))
   ·refine ts (ro rfl (eJ iK (Ht rfl) rfl) (ro rfl (eJ kM (Ht rfl) rfl) (ro rfl (fQ A_4 Z_4 (Ht rfl) (i := 0) rfl rfl) (ro rfl (eH (Ht rfl)) (eZ (dQ (Ht rfl) (fun hd => ?_) (fun hd => ?_)))))))
    ·have hn : ¬ x.b < 0 := by simpa using hd
     refine cY (rm rfl (ro rfl (jW (bC.cS (l:=[43]) rfl) (Ht rfl) (by simp only [List.length_append,List.length_cons,List.length_nil]; omega)) ?_))
     refine ra rfl (eZ (aT () trivial (aQ rfl (aZ rfl (jF (by rw [if_neg hn]; rfl)) aX)) (aU (aB rfl) aY)))
    ·have hn : x.b < 0 := by simpa using hd
     refine cU (aT () trivial (aQ rfl (aZ rfl (jF (by rw [if_pos hn])) aX)) (aU (aB rfl) aY))
   ·have l3 : ((if x.b < 0 then rC x.b x.den else 43 :: rC x.b x.den) ++ [105]).length ≤ (rC x.b x.den).length + 2 := by split <;> simp
    refine cK (fV (m:=6) (dp 1 rfl (eJ gT (Ht rfl) rfl) (dq 29 0 rfl (eW A_49 Z_49 (Ht rfl) (i:=0) rfl rfl rfl) (dp 1 rfl (eW A_51 Z_51 (Ht rfl) (i:=0) rfl rfl rfl) (dq 31 2 rfl (cZ K_137 oV ⟨(Ht rfl),trivial⟩) (dS 30 1 32 3 rfl (cZ Tryz.call188 (Jb (by assumption) zo zo) ⟨(Ht rfl),(Ht rfl),trivial⟩) ?_))))))
    refine dp 3 rfl (cX (Ht rfl)) (fG bF rfl (by kernel_rfl) (zF (aJ (aJ (aV (ro rfl (jW (Ht rfl) (Ht rfl) zo) (ra rfl (eZ (fK rfl (fJ (eY rfl) ?_))))))))))
    exact (jF (by rw [Ps,if_neg hb,if_neg ha]))
theorem Xe {r:Rt}:bB Tryz.prog 58 [lZ r] (aE r.q):=by
 have hr1:=r.h1; have hr2:=r.h2; have hr3:=r.h3; have hr4:=r.h4; have hr5:=r.d1; have hr6:=r.d2; have hr0:=r.d0
 refine bB.intro Tryz.func58 rfl Tryz.ntmps58 rfl (fun cx=>(ts (rn rfl (fU (Ht rfl)) fun B1=>(rn rfl (eG (Ts:=[Is (.bool false),Is (.slice none 0 0),Is (.bool false),Is (.slice none 0 0),Is (.slice none 0 0)]) O_51 rfl (fun V=>aW zd (aW zd (aW zd (aW zd (aW zd (aG))))))) fun B2=>(eZ (cK (jG (fun (uu:Unit)=>True) (fun (uu:Unit)=>[(1,bO B1 0),(2,bO B2 0)]) (fun (uu:Unit)=>[box B1 102 [aD .i64 r.re,aD .i64 r.im,aD .i64 r.d],box B2 51 [Is (.bool false),Is (.slice none 0 0),Is (.bool false),Is (.slice none 0 0),Is (.slice none 0 0)]]) ?_ (fun uu _=>?_))))))))
 ·refine ts (ro rfl (eJ mU (Ht rfl) rfl) (ro rfl (fQ A_2 Z_2 (Ht rfl) (i := 0) rfl rfl) (ro rfl (iW (Ht rfl) cV) (eZ (dQ (Ht rfl) (fun hb => ?_) (fun hb => ?_))))))
  ·simp only [decide_eq_true_eq] at hb
   refine cY (ro rfl (eJ mU (Ht rfl) rfl) (jL Z_2 (Ht rfl) (cJ 1) (i:=0) rfl (aK rfl) rfl (eZ (aT () trivial (zS rfl) (aU (aB (by rw [Rt.d,if_pos hb]; rfl)) (aU (aB rfl) aY))))))
  ·simp only [decide_eq_false_iff_not] at hb
   refine cU (aT () trivial (zS rfl) (aU (aB (by rw [Rt.d,if_neg hb])) (aU (aB rfl) aY)))
 ·refine ts (ro rfl (eJ oB (Ht rfl) rfl) (ro rfl (fQ A_2 Z_2 (Ht rfl) (i := 0) rfl rfl) (ro rfl (eJ yY (Ht rfl) rfl) (ro rfl (fQ A_2 Z_2 (Ht rfl) (i := 0) rfl rfl) (ro rfl (eJ mU (Ht rfl) rfl) (ro rfl (fQ A_2 Z_2 (Ht rfl) (i := 0) rfl rfl) (ro rfl (cZ Tryz.call141 (a2y hr1 hr2 hr3 hr4 hr5 hr6 hr0) ⟨(Ht rfl), (Ht rfl), (Ht rfl), trivial⟩) (rm rfl (ro rfl (dU (Ht rfl) rfl) (ro rfl (dU (Ht rfl) rfl) (rn rfl (eG (Ts := [Is (.bool false), Is (.slice none 0 0), Is (.bool false), Is (.slice none 0 0), Is (.slice none 0 0)]) O_51 rfl (fun V => aW zd (aW zd (aW zd (aW zd (aW zd (aG))))))) fun B3 => ?_)))))))))))
  refine gJ Z_51 (Ht rfl) (Ht rfl) rfl (i:=2) rfl (aK rfl) rfl rfl (ra rfl (eZ (ts (ro rfl (eW A_51 Z_51 (Ht rfl) (i:=2) rfl rfl rfl) (gJ Z_51 (Ht rfl) (Ht rfl) rfl (i:=1) rfl (aK rfl) rfl rfl (eZ ?_))))))
  exact fK rfl (fY A_51 Z_51 rfl (i:=1) rfl rfl)
theorem wS {l:List Rt} (hl:l.length ≤ 1000000):bB Tryz.prog 48 [lV l] (bA (l.map Rt.q)):=by
 refine bB.intro Tryz.func48 rfl Tryz.ntmps48 rfl (fun cx=>(ts (ro rfl (cQ cV) (eZ (ts (rm rfl (ro rfl (dK U_22 (Ht rfl) aA) (rn rfl (gR (T:=aE Qi.zero) (i:=Tryz.t51) kD iS rfl rfl (Ht rfl) rfl gS (El.ag rfl) (by show 88 * _ ≤ _; omega) zo) fun B8=>(ra rfl (eZ (cK (ts (rm rfl (ro rfl (dK U_22 (Ht rfl) aA) (ro rfl (cX (cJ 0)) (eZ (eK ?_)))))))))))))))))
 refine fT (fun (k : Nat) (out : List Qi) => mT (fun i => (l.getD i default).q) l.length out k) (fun (k : Nat) (out : List Qi) => l.length - k) (fun (k : Nat) (out : List Qi) => [(3, Is B8), (9, lV l), (10, NT .i64 l.length), (11, NT .i64 k)]) (fun (k : Nat) (out : List Qi) => [bM 51 5 B8 (out.map aE)]) 0 (List.replicate l.length Qi.zero) (mT.start _ _ _)
  (zS rfl) (aU (aR (rR aE _ _)) aY) (fun k out hS=>?_)
 refine ts (ro rfl (gV (Ht rfl) (Ht rfl)) (eZ (cK (dQ (Ht rfl) (fun hk=>?_) (fun hk=>?_)))))
 ·simp only [decide_eq_true_eq] at hk
  have hlen:=hS.len
  refine cU (cK (eK (ts (rm rfl (ro rfl (dZ U_22 Z_102 (Ht rfl) (Ht rfl) rfl (eQ (dY (d:=default) hk))) (ro rfl (dV A_102 Z_102 (Ht rfl)) (rn rfl (eG (Ts:=[Is (.int .i64 0),Is (.int .i64 0),Is (.int .i64 0)]) O_102 rfl (fun V=>aW zd (aW zd (aW zd (aG))))) fun B5=>(ra rfl (gJ Z_102 (Ht rfl) (Ht rfl) rfl (i:=1) rfl (aK rfl) rfl rfl (eZ (cY (rm rfl (rm rfl (ro rfl (eW A_102 Z_102 (Ht rfl) (i:=1) rfl rfl rfl) ?_))))))))))))))
  refine ro rfl (cZ Tryz.call58 Xe ⟨(Ht rfl),trivial⟩) (ro rfl (dE U_29 Z_51 (Ht rfl) (Ht rfl) rfl (i:=0) rfl (by first | omega | (simp; omega)) rfl) (kS Z_51 (Ht rfl) (Ht rfl) (El.ag rfl) (i:=0) rfl rfl (by first | omega | (simp; omega)) rfl (eZ (bH (cY (ro rfl (dW (Ht rfl) (cJ 1) z6) (rm rfl (eZ (bL [0] rfl (by decide) (gQ (k + 1,_) (hS.next hk rfl) (by dsimp only; omega) (zS rfl) (aU (aR (fM aE _ _ _)) aY)))))))))))
 ·simp only [decide_eq_false_iff_not] at hk
  obtain rfl:k = l.length:=Nat.le_antisymm hS.kle zo
  have hfin:=hS.fin
  rw [rS l Rt.q] at hfin
  refine gK rfl (gG (i:=0) (tt:=3) rfl rfl fP (ts (rm rfl (ra rfl (eZ (fK rfl (fJ (eY rfl) ?_)))))))
  exact (kB (by rw [hfin]))
end
section
open Go Go.RowKit
theorem sB (ds:List Nat) (hd:kE ds) (hl:ds.length ≤ 1152921504606846976):bB Tryz.prog 267 [vJ ds] (aH (val ds)):=by
 refine bB.intro Tryz.func267 rfl Tryz.ntmps267 rfl (fun cx=>(ts (ro rfl (cQ cV) (eZ (ts (rm rfl (ro rfl (dK U_46 (Ht rfl) aA) (ra rfl (eZ (cK (eK ?_)))))))))))
 refine cM (fun (k : Nat) => k ≤ ds.length ∧ ∀ i, k ≤ i → i < ds.length → ds.getD i 0 = 0) (fun (k : Nat) => k) (fun (k : Nat) => [(0, vJ ds), (3, NT .i64 k)]) (fun (k : Nat) => []) ds.length ⟨Nat.le_refl _, fun i h1 h2 => by omega⟩
  (zS rfl) aY (fun k ⟨hk,hz⟩=>?_)
 refine cK (ts (rm rfl (ro rfl (eT (Ht rfl) (cJ 0)) (rm rfl (fX rfl rfl (eU rfl rfl (Ht rfl) (fun h=>cX (Ht rfl))) (fX rfl rfl (eU rfl rfl (Ht rfl) (fun h=>cX (Ht rfl))) (fX rfl rfl (eU rfl rfl (Ht rfl) (fun h=>dG (fW rfl h) (cJ 1) (by first | omega | (simp at h; omega)) (by show _ < 9223372036854775808; first | omega | (simp at h; omega)))) (fX rfl rfl (eU rfl rfl (Ht rfl) (fun h=>dZ U_46 Z_189 (fW rfl h) (fW rfl h) rfl (eQ (aI (by first | omega | (simp at h; omega)))))) ?_))))))))
 refine fX rfl rfl (eU rfl rfl (Ht rfl) (fun h=>dV A_189 Z_189 (fW rfl h))) (fX rfl rfl (eU rfl rfl (Ht rfl) (fun h=>cB (fW rfl h) (cJ 0))) (ro rfl (eA (Ht rfl) (fun h=>(fW rfl h))) (eZ (dQ (Ht rfl) (fun hb=>?_) (fun hb=>?_)))))
 ·simp at hb
  refine cU (eK (cY (rm rfl (ro rfl (dG (Ht rfl) (cJ 1) zo z6) (ra rfl (eZ (bH (gQ (k - 1) ⟨by omega,fun i h1 h2=>?_⟩ zo (zS rfl) aY))))))))
  by_cases e2:i = k - 1
  ·subst e2; simpa using hb.2
  ·exact hz i zo h2
 ·have hn : k = 0 ∨ ds.getD (k - 1) 0 ≠ 0 := by
   simp only [Bool.and_eq_false_iff,decide_eq_false_iff_not] at hb
   rcases hb with h1 | h1
   ·left; omega
   ·right; exact h1
  have hfin:=Mm hd hk hz hn
  refine gK rfl (ts (rm rfl (rm rfl (ro rfl (pR U_46 Z_189 (Ht rfl) (Ht rfl) (fun m e=>by cases e) zo (by simp; omega) rfl) ?_))))
  refine ra rfl (eZ (fK rfl (fJ (eY rfl) ?_)))
  exact (Fx (by rw [hfin]; simp))
theorem yT {m:Nat} (hm:m < 18446744073709551616):bB Tryz.prog 268 [NT .u64 m] (aH m):=by
 refine bB.intro Tryz.func268 rfl Tryz.ntmps268 rfl (fun cx=>(ts (ro rfl (cQ cV) (eZ (ts (rm rfl (ro rfl (gO rfl U_254 U_189 (Ht rfl)) (rm rfl (ro rfl (fD (Ht rfl) (cJ 32) (by decide)) (ro rfl (gO rfl U_254 U_189 (Ht rfl)) (ro rfl (dH (xs:=[.tmp 4,.tmp 7]) U_46 Z_189 O_189 (cW (Ht rfl) (cW (Ht rfl) cG)) rfl rfl rfl) (ro rfl (cZ K_267 (sB [m % 4294967296,m / 2 ^ 32 % 4294967296] (a2Y _ _) (by simp)) ⟨(Ht rfl),trivial⟩) ?_))))))))))))
 refine ra rfl (eZ (fK rfl (fJ (eY rfl) ?_)))
 exact (dB (Cj hm))
theorem Oo {m n:Nat} (hm:(dg m).length ≤ 1152921504606846976) (hn:(dg n).length ≤ 1152921504606846976):bB Tryz.prog 237 [aH m,aH n] (aD .i64 (pC m n)):=by
 refine bB.intro Tryz.func237 rfl Tryz.ntmps237 rfl (fun cx=>(ts (ro rfl (cQ (cJ 0)) (eZ (cK (ts (rm rfl (ro rfl (dK U_46 (Ht rfl) aA) (rm rfl (ro rfl (dK U_46 (Ht rfl) aA) (ro rfl (iV (Ht rfl) (Ht rfl)) (eZ (dQ (Ht rfl) (fun hb=>?_) (fun hb=>?_))))))))))))))
 ·simp at hb
  refine cK (ts (rm rfl (ro rfl (dK U_46 (Ht rfl) aA) (rm rfl (ro rfl (dK U_46 (Ht rfl) aA) (ro rfl (gV (Ht rfl) (Ht rfl)) (eZ (dQ (Ht rfl) (fun hb2=>?_) (fun hb2=>?_)))))))))
  ·simp at hb2
   have hlt:=Er hb2
   refine ts (ro rfl (cQ cV) (eZ (fK rfl (fJ (eY rfl) ?_))))
   exact (aM (by simp [pC,hlt]))
  ·simp at hb2
   have hlt:=Er (a:=n) (b:=m) zo
   refine cU (ts (ro rfl (cQ (cJ 1)) (eZ (fK rfl (fJ (eY rfl) ?_)))))
   exact (aM (by simp [pC,hlt,Nat.lt_asymm hlt]))
 ·simp at hb
  refine cU (cK (ts (rm rfl (ro rfl (dK U_46 (Ht rfl) aA) (ro rfl (gM (Ht rfl) cV (tD zo)) (ra rfl (eZ (eK ?_))))))))
  refine cM (fun (k : Nat) => k ≤ (dg m).length ∧ ∀ i, k ≤ i → i < (dg m).length → (dg m).getD i 0 = (dg n).getD i 0) (fun (k : Nat) => k) (fun (k : Nat) => [(0, aH m), (1, aH n), (5, aD .i64 ((k : Int) - 1))]) (fun (k : Nat) => []) (dg m).length ⟨Nat.le_refl _, fun i h1 h2 => by omega⟩
   (zS rfl) aY (fun k ⟨hk,he⟩=>?_)
  refine cK (ts (rm rfl (ro rfl (lU (Ht rfl) cV) (eZ (dQ (Ht rfl) (fun hk1=>?_) (fun hk1=>?_))))))
  ·simp at hk1
   refine cU (cK (eK (cK (fV (m:=8) (dp 0 rfl (cX (Ht rfl)) (dp 5 rfl (cX (Ht rfl)) (dS 23 0 24 1 rfl (dZ U_46 Z_189 (Ht rfl) (Ht rfl) (show ((k:Int) - 1) = ((k - 1:Nat):Int) by omega) (eQ (aI zo))) (dq 25 2 rfl (dV A_189 Z_189 (Ht rfl)) (dp 1 rfl (cX (Ht rfl)) (dp 5 rfl (cX (Ht rfl)) (dS 27 4 28 5 rfl (dZ U_46 Z_189 (Ht rfl) (Ht rfl) (show ((k:Int) - 1) = ((k - 1:Nat):Int) by omega) (eQ (aI zo))) (dq 29 6 rfl (dV A_189 Z_189 (Ht rfl)) ?_))))))))))))
   refine fG bF rfl (by kernel_rfl) (zF (zF (aV (ro rfl (iV (Ht rfl) (Ht rfl)) (eZ (dQ (Ht rfl) (fun h1=>?_) (fun h1=>?_)))))))
   ·simp only [Bool.not_eq_true', decide_eq_false_iff_not] at h1
    refine cK (cK (fV (m:=8) (dp 0 rfl (cX (Ht rfl)) (dp 5 rfl (cX (Ht rfl)) (dS 32 0 33 1 rfl (dZ U_46 Z_189 (Ht rfl) (Ht rfl) (show ((k:Int) - 1) = ((k - 1:Nat):Int) by omega) (eQ (aI zo))) (dq 34 2 rfl (dV A_189 Z_189 (Ht rfl)) (dp 1 rfl (cX (Ht rfl)) (dp 5 rfl (cX (Ht rfl)) (dS 36 4 37 5 rfl (dZ U_46 Z_189 (Ht rfl) (Ht rfl) (show ((k:Int) - 1) = ((k - 1:Nat):Int) by omega) (eQ (aI zo))) (dq 38 6 rfl (dV A_189 Z_189 (Ht rfl)) ?_))))))))))
    refine fG bF rfl (by kernel_rfl) (zF (zF (aV (ro rfl (gV (Ht rfl) (Ht rfl)) (eZ (dQ (Ht rfl) (fun h2=>?_) (fun h2=>?_)))))))
    ·simp only [decide_eq_true_eq] at h2
     have hlt:=xZ (bP m) (bP n) hb (k:=k - 1) zo (fun i h2 h3=>he i zo h3) h2
     rw [cT,cT] at hlt
     refine ts (ro rfl (cQ cV) (eZ (fK rfl (fJ (eY rfl) ?_))))
     exact (aM (by simp [pC,hlt]))
    ·simp only [decide_eq_false_iff_not] at h2
     have hlt:=xZ (bP n) (bP m) hb.symm (k:=k - 1) zo (fun i h2 h3=>(he i zo zo).symm) zo
     rw [cT,cT] at hlt
     refine cU (ts (ro rfl (cQ (cJ 1)) (eZ (fK rfl (fJ (eY rfl) ?_)))))
     exact (aM (by simp [pC,hlt,Nat.lt_asymm hlt]))
   ·simp only [Bool.not_eq_false', decide_eq_true_eq] at h1
    refine cU (bH (cY (rm rfl (ro rfl (gM (Ht rfl) cV (tD zo)) (ra rfl (eZ (gQ (k - 1) ⟨by omega,fun i h3 h4=>(by by_cases e:i = k - 1; (· subst e; omega); exact he i zo h4)⟩ zo (aQ rfl (aQ rfl (aZ rfl (aM zo) aX))) aY)))))))
  ·simp at hk1
   have hk0:k = 0:=by omega
   have heq : m = n := by
    have : dg m = dg n := by
     apply List.ext_getElem?
     intro i
     by_cases hi:i < (dg m).length
     ·have h5 := he i zo hi
      have h6:i < (dg n).length:=by omega
      simp [List.getD,hi,h6] at h5
      simp [hi,h6,h5]
     ·rw [List.getElem?_eq_none zo,List.getElem?_eq_none zo]
    rw [← cT m,this,cT]
   refine gK rfl (ts (ro rfl (cQ (cJ 0)) (eZ (fK rfl (fJ (eY rfl) ?_)))))
   exact (aM (by simp [pC,heq]))
theorem Gt {m y:Nat} (hm:(dg m).length ≤ 17592186044416) (hy:0 < y) (hyb:y < BB):bB Tryz.prog 281 [aH m,cA y] (dN [aH (m / y),cA (m % y)]):=by
 refine bB.intro Tryz.func281 rfl Tryz.ntmps281 rfl (fun cx=>?_)
 have hyb2:=hyb
 simp only [BB] at hyb2
 refine ts (ro rfl (cQ cV) (ro rfl (cQ (cJ 0)) (eZ (ts (rm rfl (ro rfl (dK U_46 (Ht rfl) aA) (rn rfl (fS (T:=cA 0) (i:=Tryz.t189) V_46 jO rfl rfl (Ht rfl) rfl (fun _=>rfl) trivial (by show 4 * _ ≤ _; omega) zo) fun B12=>(ra rfl (eZ (ts (ro rfl (cQ (cJ 0)) (eZ (cK (ts (rm rfl (ro rfl (dK U_46 (Ht rfl) aA) (ro rfl (gM (Ht rfl) cV (tD zo)) (ra rfl (eZ (eK ?_))))))))))))))))))))
 refine kP (fun (k : Nat) (out : List Nat) (r : Nat) => oN (dg m) y out k r) (fun (k : Nat) (out : List Nat) (r : Nat) => k) (fun (k : Nat) (out : List Nat) (r : Nat) => [(0, aH m), (1, cA y), (6, Is (.slice (some ⟨B12, 0, none⟩) (dg m).length (dg m).length)), (7, NT .u64 r), (8, aD .i64 ((k : Int) - 1))]) (fun (k : Nat) (out : List Nat) (r : Nat) => [box B12 189 (out.map cA)]) (dg m).length (List.replicate (dg m).length 0) 0 (oN.start _ hy)
  (zS rfl) (aU (aB (lS _)) aY) (fun k out r hS=>?_)
 refine cK (ts (rm rfl (ro rfl (lU (Ht rfl) cV) (eZ (dQ (Ht rfl) (fun hb=>?_) (fun hb=>?_))))))
 ·simp at hb
  have hlen:=hS.len; have hkl:=hS.kle; have hrl:=hS.rlt; have hxk:=bE (bP m) (k - 1)
  have hz2:=Px (Nat.lt_trans hrl hyb) hxk; have hsh:=Fy (Nat.lt_trans hrl hyb); have hq:=Bb hrl hxk; have hor:=tI (a:=r) hxk; have hmod:=Nat.mod_lt (r * BB + (dg m).getD (k - 1) 0) hy
  have hxk2:=hxk
  simp only [BB] at hxk2
  refine cU (cK (eK (ts (rm rfl (ro rfl (mM (Ht rfl) (cJ 32) (by decide) hsh) (rm rfl (rm rfl (ro rfl (dZ U_46 Z_189 (Ht rfl) (Ht rfl) (show ((k:Int) - 1) = ((k - 1:Nat):Int) by omega) (eQ (aI zo))) (ro rfl (dV A_189 Z_189 (Ht rfl)) (ro rfl (gW U_189 U_254 (Ht rfl) z7) (ro rfl (aF.nat (oE rfl (Ht rfl) (Ht rfl) z7 z7) hor) ?_)))))))))))
  refine ra rfl (eZ (ts (rm rfl (rm rfl (rm rfl (rm rfl (ro rfl (gW U_189 U_254 (Ht rfl) z7) (ro rfl (jC (Ht rfl) (Ht rfl) zo (by show _ < 18446744073709551616; exact hz2)) (ro rfl (gW U_254 U_189 (Ht rfl) (by show _ < 4294967296; exact hq)) (ro rfl (gX U_46 Z_189 (Ht rfl) (Ht rfl) (show ((k:Int) - 1) = ((k - 1:Nat):Int) by omega) zo (by rw [Nat.mul_one,Nat.zero_add])) ?_))))))))))
  refine jL Z_189 (Ht rfl) (Ht rfl) (i:=0) rfl (by first | omega | (simp; omega)) rfl (eZ (cY (rm rfl (rm rfl (ro rfl (gW U_189 U_254 (Ht rfl) z7) (ro rfl (kN (Ht rfl) (Ht rfl) zo) (ra rfl (eZ (bH (cY (rm rfl (ro rfl (gM (Ht rfl) cV (tD zo)) (ra rfl (eZ (gQ (k - 1,_,_) (hS.next (bP m) zo rfl) (by dsimp only; omega) (aQ rfl (aQ rfl (aQ rfl (aQ rfl (aZ rfl (aM zo) aX))))) (aU (aB (gN _ _ _)) aY))))))))))))))))
 ·simp at hb
  have hk0:k = 0:=by omega
  subst hk0
  have hlen:=hS.len; have hrl:=hS.rlt
  have hfin:=hS.fin
  rw [cT] at hfin
  refine gK rfl (gG (i:=0) (tt:=6) rfl rfl (mF rfl hlen.symm (Nat.le_refl _)) (ts (rm rfl (ro rfl (cZ K_267 (sB _ hS.dig zo) ⟨(Ht rfl),trivial⟩) (rm rfl (ro rfl (gW U_254 U_189 (Ht rfl) (by show _ < 4294967296; first | omega | (simp only [lF]; omega))) (ra rfl (ra rfl (eZ (bI rfl (fJ (eY rfl) ?_) (fJ (eY rfl) ?_)))))))))))
  ·exact (dB hfin.1)
  ·exact (lL hfin.2)
end
section
open Go Go.RowKit
theorem a07 {m:Nat} (hm:(dg m).length ≤ 17592186044416) (h0:m ≠ 0):bB Tryz.prog 282 [aH m] (NT .i64 (32 * ((dg m).length - 1) + bl ((dg m).getD ((dg m).length - 1) 0))):=by
 have hl:(dg m).length ≠ 0:=fun e=>h0 (aL.1 e)
 have htl:=bE (bP m) ((dg m).length - 1)
 obtain ⟨v,hv⟩:∃ v,v = (dg m).getD ((dg m).length - 1) 0:=⟨_,rfl⟩
 rw [← hv] at htl ⊢
 simp only [BB] at htl
 have hb32:=mZ (k:=32) htl
 refine bB.intro Tryz.func282 rfl Tryz.ntmps282 rfl (fun cx=>(ts (ro rfl (cQ (cJ 0)) (eZ (cK (ts (rm rfl (ro rfl (dK U_46 (Ht rfl) aA) (ro rfl (cB (Ht rfl) (cJ 0)) (eZ (fN (Ht rfl) (by simpa using hl) ?_)))))))))))
 refine cU (ts (ro rfl (cQ (cJ 0)) (eZ (cK (ts (rm rfl (rm rfl (ro rfl (dK U_46 (Ht rfl) aA) (ro rfl (dG (Ht rfl) (cJ 1) zo z6) (ro rfl (dZ U_46 Z_189 (Ht rfl) (Ht rfl) rfl (eQ (aI zo))) (ro rfl (dV A_189 Z_189 (Ht rfl)) (ra rfl (eZ (eK ?_))))))))))))))
 refine fT (fun (x : Nat) (q : Nat) => bl v = q + bl x ∧ x < 4294967296) (fun (x : Nat) (q : Nat) => x) (fun (x : Nat) (q : Nat) => [(0, aH m), (3, NT .i64 q), (4, cA x)]) (fun (x : Nat) (q : Nat) => []) v 0 ⟨(Nat.zero_add _).symm, htl⟩
  (aQ rfl (aQ rfl (aZ rfl (lL hv.symm) aX))) aY (fun x q ⟨hq,hx⟩=>?_)
 refine cK (ts (rm rfl (ro rfl (eT (Ht rfl) (cJ 0)) (eZ (dQ (Ht rfl) (fun hb=>?_) (fun hb=>?_))))))
 ·simp at hb
  have hsh:=Xo (v:=x) zo
  refine cU (cK (eK (cY (rm rfl (ro rfl (dW (Ht rfl) (cJ 1) z6) (ra rfl (eZ (bH (cY (rm rfl (ro rfl (fD (Ht rfl) (cJ 1) (by decide)) (ra rfl (eZ (gQ (x / 2 ^ 1,q + 1) ⟨by dsimp only; omega,by dsimp only; omega⟩ (by dsimp only; omega) (zS rfl) aY))))))))))))))
 ·simp at hb
  subst hb
  rw [Yl] at hq
  refine gK rfl (ts (rm rfl (ro rfl (dK U_46 (Ht rfl) aA) (ro rfl (dG (Ht rfl) (cJ 1) zo z6) (ro rfl (kQ (cJ 32) (Ht rfl) z6) (rm rfl (ro rfl (dW (Ht rfl) (Ht rfl) z6) (ra rfl (eZ (fK rfl (fJ (eY rfl) ?_)))))))))))
  exact (lL zo)
theorem Uk {m k:Nat} (hm:(dg m).length ≤ 17592186044416) (hk:k ≤ 562949953421312):bB Tryz.prog 283 [aH m,NT .i64 k] (aH (m * 2 ^ k)):=by
 refine bB.intro Tryz.func283 rfl Tryz.ntmps283 rfl (fun cx=>(ts (ro rfl (cQ cV) (eZ (cK (ts (rm rfl (ro rfl (dK U_46 (Ht rfl) aA) (ro rfl (cB (Ht rfl) (cJ 0)) (eZ (dQ (Ht rfl) (fun hb=>?_) (fun hb=>?_))))))))))))
 ·simp [aL] at hb
  have h0:m * 2 ^ k = 0:=by simp_all [pL]
  refine ts (ro rfl (cQ cV) (eZ (fK rfl (fJ (eY rfl) ?_))))
  exact (fun v V h=>by rw [h0]; exact kI v V h)
 ·clear hb
  have hr:=Nat.mod_lt k (by decide:32 > 0)
  refine cU (ts (rm rfl (ro rfl (dK U_46 (Ht rfl) aA) (rm rfl (ro rfl (jC (Ht rfl) (cJ 32) zo z6) (ro rfl (dW (Ht rfl) (Ht rfl) z6) (ro rfl (dW (Ht rfl) (cJ 1) z6) (rn rfl (fS (T:=cA 0) (i:=Tryz.t189) V_46 jO rfl rfl (Ht rfl) rfl (fun _=>rfl) trivial (by show 4 * _ ≤ _; omega) zo) fun B17=>?_))))))))
  refine ra rfl (eZ (cK (ts (ro rfl (cQ (cJ 0)) (eZ (eK ?_))))))
  refine fT (fun (i : Nat) (out : List Nat) => Ac (dg m) (k / 32) (k % 32) out i) (fun (i : Nat) (out : List Nat) => (dg m).length - i) (fun (i : Nat) (out : List Nat) => [(0, aH m), (1, NT .i64 k), (5, Is (.slice (some ⟨B17, 0, none⟩) ((dg m).length + k / 32 + 1) ((dg m).length + k / 32 + 1))), (6, NT .i64 i)]) (fun (i : Nat) (out : List Nat) => [box B17 189 (out.map cA)]) 0 (List.replicate ((dg m).length + k / 32 + 1) 0) (Ac.start _ _ _)
   (zS rfl) (aU (aB (lS _)) aY) (fun i out hS=>?_)
  refine cK (ts (rm rfl (rm rfl (ro rfl (dK U_46 (Ht rfl) aA) (ro rfl (gV (Ht rfl) (Ht rfl)) (eZ (dQ (Ht rfl) (fun hb=>?_) (fun hb=>?_))))))))
  ·simp at hb
   have hlen:=hS.len; have hxi:=bE (bP m) i; have hok:=bE hS.dig (i + k / 32)
   have hv:=Ba hxi hr
   have hd:(dg m).getD i 0 * 2 ^ (k % 32) / 2 ^ 32 < 4294967296:=Nat.div_lt_of_lt_mul hv
   simp only [BB] at hxi hok
   refine cU (cK (eK (ts (rm rfl (rm rfl (ro rfl (dZ U_46 Z_189 (Ht rfl) (Ht rfl) rfl (eQ (aI zo))) (ro rfl (dV A_189 Z_189 (Ht rfl)) (ro rfl (gW U_189 U_254 (Ht rfl) z7) (rm rfl (ro rfl (kN (Ht rfl) (cJ 32) zo) (ro rfl (gW U_3 U_255 (Ht rfl) z7) (ro rfl (mM (Ht rfl) (Ht rfl) (by show _ ≤ _; simp [IntKind.bits]; omega) (by show _ < 18446744073709551616; exact hv)) ?_))))))))))))
   refine ra rfl (eZ (ts (rm rfl (rm rfl (rm rfl (ro rfl (jC (Ht rfl) (cJ 32) zo z6) (ro rfl (dW (Ht rfl) (Ht rfl) z6) (rm rfl (rm rfl (rm rfl (ro rfl (jC (Ht rfl) (cJ 32) zo z6) (ro rfl (dW (Ht rfl) (Ht rfl) z6) (ro rfl (gX U_46 Z_189 (Ht rfl) (Ht rfl) rfl zo (by rw [Nat.mul_one,Nat.zero_add])) ?_)))))))))))))
   refine ro rfl (fQ A_189 Z_189 (Ht rfl) (i:=0) rfl (eQ (aI zo))) (rm rfl (ro rfl (gO rfl U_254 U_189 (Ht rfl)) (ro rfl (oE rfl (Ht rfl) (Ht rfl) (by show _ < 4294967296; omega) (by show _ % 4294967296 < 4294967296; omega)) (ro rfl (gX U_46 Z_189 (Ht rfl) (Ht rfl) rfl zo (by rw [Nat.mul_one,Nat.zero_add])) ?_))))
   refine jL Z_189 (Ht rfl) (Ht rfl) (i:=0) rfl (by first | omega | (simp; omega)) rfl (eZ (cY (rm rfl (rm rfl (rm rfl (ro rfl (jC (Ht rfl) (cJ 32) zo z6) (ro rfl (dW (Ht rfl) (Ht rfl) z6) (ro rfl (dW (Ht rfl) (cJ 1) z6) (rm rfl (ro rfl (fD (Ht rfl) (cJ 32) (by decide)) (ro rfl (gW U_254 U_189 (Ht rfl) (by show _ < 4294967296; exact hd)) ?_)))))))))))
   refine ro rfl (gX U_46 Z_189 (Ht rfl) (Ht rfl) rfl zo (by rw [Nat.mul_one,Nat.zero_add])) ?_
   refine jL Z_189 (Ht rfl) (Ht rfl) (i:=0) rfl (by first | omega | (simp; omega)) rfl (eZ (bH (cY (rm rfl (ro rfl (dW (Ht rfl) (cJ 1) z6) (ra rfl (eZ (gQ (i + 1,_) (hS.next (bP m) hr hb rfl rfl) (by dsimp only; omega) (zS rfl) (aU (aB (Hy _ _ _ _ _)) aY)))))))))
  ·simp at hb
   have hkl:i = (dg m).length:=Nat.le_antisymm hS.kle hb
   subst hkl
   have hlen:=hS.len
   have hfin:=hS.fin
   rw [cT,lH] at hfin
   refine gK rfl (gG (i:=0) (tt:=5) rfl rfl (mF rfl hlen.symm (Nat.le_refl _)) (ts (rm rfl (ro rfl (cZ K_267 (sB _ hS.dig zo) ⟨(Ht rfl),trivial⟩) (ra rfl (eZ (fK rfl (fJ (eY rfl) ?_))))))))
   exact (dB hfin)
theorem a20 {m k:Nat} (hm:(dg m).length ≤ 17592186044416) (hk:k ≤ 562949953421312):bB Tryz.prog 284 [aH m,NT .i64 k] (aH (m / 2 ^ k)):=by
 refine bB.intro Tryz.func284 rfl Tryz.ntmps284 rfl (fun cx=>?_)
 have hr:=Nat.mod_lt k (by decide:32 > 0)
 refine ts (ro rfl (cQ cV) (eZ (cK (ts (rm rfl (ro rfl (jC (Ht rfl) (cJ 32) zo z6) (rm rfl (ro rfl (dK U_46 (Ht rfl) aA) (ro rfl (mP (Ht rfl) (Ht rfl)) (eZ (dQ (Ht rfl) (fun hb=>?_) (fun hb=>?_))))))))))))
 ·simp at hb
  have h0:=Fj (bP m) hb (r:=k % 32)
  rw [cT,lH] at h0
  refine ts (ro rfl (cQ cV) (eZ (fK rfl (fJ (eY rfl) ?_))))
  exact (fun v V h=>dB h0.symm v V (kI v V h))
 ·simp at hb
  refine cU (ts (rm rfl (ro rfl (dK U_46 (Ht rfl) aA) (rm rfl (ro rfl (jC (Ht rfl) (cJ 32) zo z6) (ro rfl (dG (Ht rfl) (Ht rfl) zo z6) (rn rfl (fS (T:=cA 0) (i:=Tryz.t189) V_46 jO rfl rfl (Ht rfl) rfl (fun _=>rfl) trivial (by show 4 * _ ≤ _; omega) zo) fun B18=>(ra rfl (eZ (cK (ts (ro rfl (cQ (cJ 0)) (eZ (eK ?_))))))))))))))
  refine fT (fun (i : Nat) (out : List Nat) => yP (dg m) (k / 32) (k % 32) out i) (fun (i : Nat) (out : List Nat) => (dg m).length - i) (fun (i : Nat) (out : List Nat) => [(0, aH m), (1, NT .i64 k), (5, Is (.slice (some ⟨B18, 0, none⟩) ((dg m).length - k / 32) ((dg m).length - k / 32))), (6, NT .i64 i)]) (fun (i : Nat) (out : List Nat) => [box B18 189 (out.map cA)]) 0 (List.replicate ((dg m).length - k / 32) 0) (yP.start _ _ _)
   (zS rfl) (aU (aB (lS _)) aY) (fun i out hS=>?_)
  refine cK (ts (rm rfl (rm rfl (ro rfl (jU U_46 (Ht rfl)) (ro rfl (gV (Ht rfl) (Ht rfl)) (eZ (dQ (Ht rfl) (fun hb=>?_) (fun hb=>?_))))))))
  ·simp at hb
   have hlen:=hS.len; have hx0:=bE (bP m) (i + k / 32); have hx1:=bE (bP m) (i + k / 32 + 1)
   have hio:i < out.length:=by omega
   simp only [BB] at hx0 hx1
   refine cU (cK (eK (ts (rm rfl (rm rfl (rm rfl (ro rfl (jC (Ht rfl) (cJ 32) zo z6) (ro rfl (dW (Ht rfl) (Ht rfl) z6) (ro rfl (dZ U_46 Z_189 (Ht rfl) (Ht rfl) rfl (eQ (aI zo))) (ro rfl (dV A_189 Z_189 (Ht rfl)) (ro rfl (gW U_189 U_254 (Ht rfl) z7) ?_)))))))))))
   refine ra rfl (eZ (cK (jG (fun (v:Nat)=>v = (dg m).getD (i + k / 32) 0 + BB * (dg m).getD (i + k / 32 + 1) 0) (fun (v:Nat)=>[(0,aH m),(1,NT .i64 k),(5,Is (.slice (some ⟨B18,0,none⟩) ((dg m).length - k / 32) ((dg m).length - k / 32))),(6,NT .i64 i),(7,NT .u64 v)]) (fun (v:Nat)=>[box B18 189 (out.map cA)]) ?_ (fun v hv=>?_))))
   ·refine ts (rm rfl (rm rfl (ro rfl (jC (Ht rfl) (cJ 32) zo z6) (ro rfl (dW (Ht rfl) (Ht rfl) z6) (ro rfl (dW (Ht rfl) (cJ 1) z6) (rm rfl (ro rfl (dK U_46 (Ht rfl) aA) (ro rfl (gV (Ht rfl) (Ht rfl)) (eZ (dQ (Ht rfl) (fun hk2 => ?_) (fun hk2 => ?_)))))))))))
    ·simp at hk2
     refine cY (rm rfl (rm rfl (rm rfl (rm rfl (ro rfl (jC (Ht rfl) (cJ 32) zo z6) (ro rfl (dW (Ht rfl) (Ht rfl) z6) (ro rfl (dW (Ht rfl) (cJ 1) z6) (ro rfl (dZ U_46 Z_189 (Ht rfl) (Ht rfl) rfl (eQ (aI zo))) (ro rfl (dV A_189 Z_189 (Ht rfl)) (ro rfl (gW U_189 U_254 (Ht rfl) z7) ?_))))))))))
     refine ro rfl (mM (Ht rfl) (cJ 32) (by decide) (by show _ < 18446744073709551616; omega)) (ro rfl (aF.nat (oE rfl (Ht rfl) (Ht rfl) z7 z7) (Mw hx0)) (ra rfl (eZ (aT ((dg m).getD (i + k / 32) 0 + BB * (dg m).getD (i + k / 32 + 1) 0) rfl (zS rfl) (dL.refl _)))))
    ·simp at hk2
     refine cU (aT ((dg m).getD (i + k / 32) 0) (by simp [List.getD,List.getElem?_eq_none hk2]) (zS rfl) (dL.refl _))
   ·refine cY (rm rfl (rm rfl (rm rfl (rm rfl (ro rfl (kN (Ht rfl) (cJ 32) zo) (ro rfl (gW U_3 U_255 (Ht rfl) z7) (ro rfl (fD (Ht rfl) (Ht rfl) (by show _ ≤ 64; omega)) (ro rfl (gO rfl U_254 U_189 (Ht rfl)) (ro rfl (gX U_46 Z_189 (Ht rfl) (Ht rfl) rfl zo (by rw [Nat.mul_one, Nat.zero_add])) ?_)))))))))
    refine jL Z_189 (Ht rfl) (Ht rfl) (i:=0) rfl (by first | omega | (simp; omega)) rfl (eZ (bH (cY (rm rfl (ro rfl (dW (Ht rfl) (cJ 1) z6) (ra rfl (eZ (gQ (i + 1,_) (hS.next (bP m) hr hio (by rw [hv]; rfl)) (by dsimp only; omega) (zS rfl) (aU (aB (gN _ _ _)) aY)))))))))
  ·simp at hb
   have hlen:=hS.len
   have hkl:i = out.length:=Nat.le_antisymm hS.kle zo
   subst hkl
   have hfin:=hS.fin (bP m) zo
   rw [cT,lH] at hfin
   refine gK rfl (gG (i:=0) (tt:=5) rfl rfl (mF rfl hlen.symm (Nat.le_refl _)) (ts (rm rfl (ro rfl (cZ K_267 (sB _ hS.dig zo) ⟨(Ht rfl),trivial⟩) (ra rfl (eZ (fK rfl (fJ (eY rfl) ?_))))))))
   exact (dB hfin)
theorem wO {m n:Nat} (hm:(dg m).length ≤ 17592186044415) (hn1:(dg n).length ≤ 17592186044416) (hn:n ≠ 0):bB Tryz.prog 265 [aH m,aH n] (dN [aH (m / n),aH (m % n)]):=by
 refine bB.intro Tryz.func265 rfl Tryz.ntmps265 rfl (fun cx=>(ts (ro rfl (cQ cV) (ro rfl (cQ cV) (eZ (cK (ts (rm rfl (rm rfl (ro rfl (cZ Tryz.call237 (Oo zo zo) ⟨(Ht rfl),(Ht rfl),trivial⟩) (ro rfl (qO (Ht rfl) cV) (eZ (dQ (Ht rfl) (fun hb=>?_) (fun hb=>?_))))))))))))))
 ·simp only [decide_eq_true_eq] at hb
  have hlt:m < n:=Nb hb
  refine ts (rm rfl (ro rfl (cQ cV) (ra rfl (eZ (bI rfl (fJ (eY rfl) ?_) (fJ (eY rfl) ?_))))))
  ·exact (fun v V h=>dB (Nat.div_eq_of_lt hlt).symm v V (kI v V h))
  ·exact (dB (Nat.mod_eq_of_lt hlt).symm)
 ·simp only [decide_eq_false_iff_not] at hb
  have hle:n ≤ m:=Lk zo
  clear hb
  refine cU (cK (ts (rm rfl (ro rfl (dK U_46 (Ht rfl) aA) (ro rfl (cB (Ht rfl) (cJ 1)) (eZ (dQ (Ht rfl) (fun h1=>?_) (fun h1=>?_))))))))
  ·simp at h1
   have hy0:=Qo h1
   have hyb:=bE (bP n) 0
   have hmod:=Nat.mod_lt m (show (dg n).getD 0 0 > 0 by omega)
   have hyb2:=hyb
   simp only [BB] at hyb
   refine ts (rm rfl (rm rfl (ro rfl (dZ U_46 Z_189 (Ht rfl) (cJ 0) rfl (eQ (aI zo))) (ro rfl (dV A_189 Z_189 (Ht rfl)) (ro rfl (cZ Tryz.call281 (Gt zo zo hyb2) ⟨(Ht rfl),(Ht rfl),trivial⟩) (rm rfl (ro rfl (dU (Ht rfl) rfl) (ro rfl (dU (Ht rfl) rfl) (ra rfl (ra rfl (eZ (ts (rm rfl (rm rfl (ro rfl (gW U_189 U_254 (Ht rfl) z7) (ro rfl (cZ Tryz.call268 (yT zo) ⟨(Ht rfl),trivial⟩) ?_))))))))))))))))
   refine ra rfl (ra rfl (eZ (bI rfl (fJ (eY rfl) ?_) (fJ (eY rfl) ?_))))
   ·exact (dB (by rw [hy0]))
   ·exact (dB (by rw [hy0]))
  ·simp at h1
   have hl0:(dg n).length ≠ 0:=fun e=>hn (aL.1 e)
   have hyb:=bE (bP n) ((dg n).length - 1)
   obtain ⟨s,hs⟩:∃ s,s = 32 - bl ((dg n).getD ((dg n).length - 1) 0):=⟨_,rfl⟩
   obtain ⟨hs1,hvl,hvb⟩:=Hx hn hs
   obtain ⟨hc1,hc2,hc3,hc4⟩:=Hq (m:=m) hs1
   have hbl:=mZ (k:=32) hyb
   simp only [BB] at hyb
   have hp2:0 < 2 ^ s:=Nat.pow_pos (by decide)
   have hX0:(dg (m * 2 ^ s)).length ≠ 0:=fun e=>(Nat.ne_of_gt (Nat.mul_pos (show 0 < m by omega) hp2)) (aL.1 e)
   have hmono:=iM hle
   refine cU (ts (rm rfl (ro rfl (dK U_46 (Ht rfl) aA) (ro rfl (kQ (cJ 32) (Ht rfl) z6) (rm rfl (ro rfl (cZ Tryz.call282 (a07 zo hn) ⟨(Ht rfl),trivial⟩) (ro rfl (aF.nat (dG (Ht rfl) (Ht rfl) zo z6) (show 32 * (dg n).length - (32 * ((dg n).length - 1) + bl ((dg n).getD ((dg n).length - 1) 0)) = s by omega)) (ra rfl (eZ (ts (rm rfl (rm rfl (ro rfl (cZ Tryz.call283 (Uk zo zo) ⟨(Ht rfl),(Ht rfl),trivial⟩) ?_)))))))))))))
   refine ra rfl (eZ (ts (rm rfl (ro rfl (dK U_46 (Ht rfl) aA) (ro rfl (dW (Ht rfl) (cJ 1) z6) (rn rfl (fS (T:=cA 0) (i:=Tryz.t189) V_46 jO rfl rfl (Ht rfl) rfl (fun _=>rfl) trivial (by show 4 * _ ≤ _; omega) zo) fun B57=>(ra rfl (eZ (ts (rm rfl (rm rfl (rm rfl (ro rfl (cZ Tryz.call283 (Uk zo zo) ⟨(Ht rfl),(Ht rfl),trivial⟩) (Le U_46 Z_189 (Ht rfl) (Ht rfl) (Vh hX0) a0p (i:=0) rfl (by simp) (by simp; omega) (Gj _ _) rfl rfl ?_))))))))))))))
   refine eZ (cK ?_)
   obtain ⟨vs,hvs⟩:∃ vs,vs = dg (n * 2 ^ s):=⟨_,rfl⟩
   rw [← hvs] at hvl hvb
   have hv:kE vs:=hvs ▸ bP _
   have hvv:val vs = n * 2 ^ s:=by rw [hvs,cT]
   have hV0:0 < val vs:=by rw [hvv]; exact Nat.mul_pos zo hp2
   have hnr:=Lu hv zo hvb
   have hv1:=hnr.v1lt; have hv2:=hnr.v2lt; have hbig:=hnr.big
   simp only [BB] at hv1 hv2 hbig
   refine yK (E':=[(8,_),(9,_),(10,_)]) (aQ rfl (aZ rfl (a1y hvs.symm) (zS rfl))) (cY (rm rfl (ro rfl (dK U_46 (Ht rfl) aA) (ra rfl (eZ (ts (rm rfl (ro rfl (jU U_46 (Ht rfl)) (rm rfl (ro rfl (dG (Ht rfl) (Ht rfl) zo z6) (rn rfl (fS (T:=cA 0) (i:=Tryz.t189) V_46 jO rfl rfl (Ht rfl) rfl (fun _=>rfl) trivial (by show 4 * _ ≤ _; omega) zo) fun B69=>(ra rfl (eZ (cK ?_))))))))))))))
   refine ts (rm rfl (ro rfl (jU U_46 (Ht rfl)) (ro rfl (gM (Ht rfl) cV (tD zo)) (ra rfl (eZ (eK ?_))))))
   refine kP (fun (k : Nat) (us : List Nat) (qs : List Nat) => nD (m * 2 ^ s) vs us qs k ∧ us.length = (dg m).length + 1) (fun (k : Nat) (us : List Nat) (qs : List Nat) => k) (fun (k : Nat) (us : List Nat) (qs : List Nat) => [(8, NT .i64 s), (9, vJ vs), (10, Is (.slice (some ⟨B57, 0, none⟩) ((dg m).length + 1) ((dg m).length + 1))), (11, NT .i64 vs.length), (12, Is (.slice (some ⟨B69, 0, none⟩) ((dg m).length + 1 - vs.length) ((dg m).length + 1 - vs.length))), (13, aD .i64 ((k : Int) - 1))]) (fun (k : Nat) (us : List Nat) (qs : List Nat) => [box B57 189 (us.map cA), box B69 189 (qs.map cA)]) ((dg m).length + 1 - vs.length) (zM m s) (List.replicate ((dg m).length + 1 - vs.length) 0) ⟨nD.start hv zo hvb hs1 (by have := iY (bP m); rwa [cT] at this) hc3 hc2 hc4 zo, hc2⟩
    (aQ rfl (aQ rfl (aQ rfl (aQ rfl (aQ rfl (aZ rfl (aM zo) aX)))))) (aU (fun _ _ _ h=>h) (aU (aB (lS _)) aY)) (fun k us qs ⟨hS,hus⟩=>?_)
   refine cK (ts (rm rfl (ro rfl (lU (Ht rfl) cV) (eZ (dQ (Ht rfl) (fun hk=>?_) (fun hk=>?_))))))
   ·simp at hk
    obtain ⟨j,rfl⟩:∃ j,k = j + 1:=⟨k - 1,by omega⟩
    have htp:=hS.top hv zo (Nat.succ_pos j) rfl
    have hkq:=hS.kle; have hlq:=hS.lenq
    rw [Nat.add_sub_cancel] at htp
    have hu0:=bE hS.dig (j + vs.length); have hu1:=bE hS.dig (j + vs.length - 1); have hu2:=bE hS.dig (j + vs.length - 2)
    have ht64:=Px hu0 hu1; have hsh:=Fy hu0
    obtain ⟨top,htop⟩:∃ top,top = us.getD (j + vs.length) 0 * BB + us.getD (j + vs.length - 1) 0:=⟨_,rfl⟩
    have hor:=(tI (a:=us.getD (j + vs.length) 0) hu1).trans htop.symm
    rw [← htop] at htp ht64
    have hu2b:=hu2
    simp only [BB] at hu0 hu1 hu2
    refine yK (E':=[(8,_),(9,_),(10,_),(11,_),(12,_),(13,_),(73,_),(74,_)]) (aQ rfl (aQ rfl (aQ rfl (aQ rfl (aQ rfl (aZ rfl (aM (show ((j + 1:Nat):Int) - 1 = (j:Int) by omega)) (zS rfl))))))) (cU (cK (eK (cK (fV (m:=16) (dp 10 rfl (cX (Ht rfl)) (dp 13 rfl (cX (Ht rfl)) (dp 11 rfl (cX (Ht rfl)) (dS 78 1 79 2 rfl (dW (Ht rfl) (Ht rfl) z6) (dS 77 0 80 3 rfl (gX U_46 Z_189 (Ht rfl) (Ht rfl) rfl zo (by rw [Nat.mul_one,Nat.zero_add])) ?_))))))))))
    refine dq 81 4 rfl (fQ A_189 Z_189 (Ht rfl) (i:=0) rfl (eQ (aI zo))) (dq 82 5 rfl (gW U_189 U_254 (Ht rfl) z7) (dq 83 6 rfl (mM (Ht rfl) (cJ 32) (by decide) hsh) (dp 10 rfl (cX (Ht rfl)) (dp 13 rfl (cX (Ht rfl)) (dp 11 rfl (cX (Ht rfl)) (dS 86 9 87 10 rfl (dW (Ht rfl) (Ht rfl) z6) (dq 88 11 rfl (dG (Ht rfl) (cJ 1) zo z6) ?_)))))))
    refine dS 85 8 89 12 rfl (gX U_46 Z_189 (Ht rfl) (Ht rfl) rfl zo (by rw [Nat.mul_one,Nat.zero_add])) ?_
    refine dq 90 13 rfl (fQ A_189 Z_189 (Ht rfl) (i:=0) rfl (eQ (aI zo))) (dq 91 14 rfl (gW U_189 U_254 (Ht rfl) z7) (fG bF rfl (by kernel_rfl) (zF (zF (zF (zF (aV (ro rfl (aF.nat (oE rfl (Ht rfl) (Ht rfl) z7 z7) hor) ?_))))))))
    refine ra rfl (eZ (ts (rm rfl (rm rfl (rm rfl (ro rfl (dG (Ht rfl) (cJ 1) zo z6) (ro rfl (dZ U_46 Z_189 (Ht rfl) (Ht rfl) rfl (eQ (aI zo))) (ro rfl (dV A_189 Z_189 (Ht rfl)) (ro rfl (gW U_189 U_254 (Ht rfl) z7) (ro rfl (jC (Ht rfl) (Ht rfl) zo (by show _ < 18446744073709551616; exact ht64)) (ra rfl (eZ ?_))))))))))))
    refine ts (rm rfl (rm rfl (rm rfl (ro rfl (dG (Ht rfl) (cJ 1) zo z6) (ro rfl (dZ U_46 Z_189 (Ht rfl) (Ht rfl) rfl (eQ (aI zo))) (ro rfl (dV A_189 Z_189 (Ht rfl)) (ro rfl (gW U_189 U_254 (Ht rfl) z7) (ro rfl (kN (Ht rfl) (Ht rfl) zo) (ra rfl (eZ (cK (jG (fun (g:Nat)=>Kq (val (us.drop j)) (val vs) g) (fun (g:Nat)=>[(8,NT .i64 s),(9,vJ vs),(10,Is (.slice (some ⟨B57,0,none⟩) ((dg m).length + 1) ((dg m).length + 1))),(11,NT .i64 vs.length),(12,Is (.slice (some ⟨B69,0,none⟩) ((dg m).length + 1 - vs.length) ((dg m).length + 1 - vs.length))),(13,NT .i64 j),(15,NT .u64 g)]) (fun (g:Nat)=>[box B57 189 (us.map cA),box B69 189 (qs.map cA)]) ?_ (fun g hg=>?_)))))))))))))
    ·refine eK ?_
     refine fT (fun (g : Nat) (r : Nat) => lE (val (us.drop j)) (val vs) (vs.getD (vs.length - 1) 0) top g r ∧ r < 4294967296) (fun (g : Nat) (r : Nat) => g) (fun (g : Nat) (r : Nat) => [(8, NT .i64 s), (9, vJ vs), (10, Is (.slice (some ⟨B57, 0, none⟩) ((dg m).length + 1) ((dg m).length + 1))), (11, NT .i64 vs.length), (12, Is (.slice (some ⟨B69, 0, none⟩) ((dg m).length + 1 - vs.length) ((dg m).length + 1 - vs.length))), (13, NT .i64 j), (15, NT .u64 g), (16, NT .u64 r)]) (fun (g : Nat) (r : Nat) => [box B57 189 (us.map cA), box B69 189 (qs.map cA)]) (top / vs.getD (vs.length - 1) 0) (top % vs.getD (vs.length - 1) 0) ⟨lE.start hnr htp, Nat.lt_trans (Nat.mod_lt _ zo) hv1⟩
      (zS rfl) (dL.refl _) (fun g r ⟨hG,hr⟩=>?_)
     have hgl:=(hG.glt hnr htp).1
     have hrs:=Fy (a:=r) hr
     have horr:=tI (a:=r) hu2b
     simp only [BB] at hgl
     refine cK (cK (fV (m:=22) (dp 15 rfl (cX (Ht rfl)) (dq 110 0 rfl (mP (Ht rfl) (cJ 4294967296)) (dq 111 1 rfl (cX (Ht rfl)) (C.D_step (Ei:=[(15,_),(112,_)]) rfl rfl (bV (bK rfl rfl) (bV (bG 2 rfl rfl) bW)) (eU rfl rfl (Ht rfl) (fun h=>cX (Ht rfl))) (C.D_step (Ei:=[(9,_),(112,_)]) rfl rfl (bV (bK rfl rfl) (bV (bG 2 rfl rfl) bW)) (eU rfl rfl (Ht rfl) (fun h=>cX (Ht rfl))) (C.D_step (Ei:=[(11,_),(112,_)]) rfl rfl (bV (bK rfl rfl) (bV (bG 2 rfl rfl) bW)) (eU rfl rfl (Ht rfl) (fun h=>cX (Ht rfl))) ?_))))))))
     refine C.D_step (Ei:=[(115,_),(112,_)]) rfl rfl (bV (bG 5 rfl rfl) (bV (bG 2 rfl rfl) bW)) (eU rfl rfl (Ht rfl) (fun h=>dG (fW rfl h) (cJ 2) (by first | omega | (simp at h; omega)) (by show _ < 9223372036854775808; first | omega | (simp at h; omega)))) (C.D_step (Ei:=[(114,_),(116,_),(112,_)]) rfl rfl (bV (bG 4 rfl rfl) (bV (bG 6 rfl rfl) (bV (bG 2 rfl rfl) bW))) (eU rfl rfl (Ht rfl) (fun h=>dZ U_46 Z_189 (fW rfl h) (fW rfl h) rfl (eQ (aI (by first | omega | (simp at h; omega)))))) ?_)
     refine C.D_step (Ei:=[(117,_),(112,_)]) rfl rfl (bV (bG 7 rfl rfl) (bV (bG 2 rfl rfl) bW)) (eU rfl rfl (Ht rfl) (fun h=>dV A_189 Z_189 (fW rfl h))) (C.D_step (Ei:=[(118,_),(112,_)]) rfl rfl (bV (bG 8 rfl rfl) (bV (bG 2 rfl rfl) bW)) (eU rfl rfl (Ht rfl) (fun h=>gW U_189 U_254 (fW rfl h) (by show _ < 18446744073709551616; first | omega | (simp at h; omega)))) (C.D_step (Ei:=[(113,_),(119,_),(112,_)]) rfl rfl (bV (bG 3 rfl rfl) (bV (bG 9 rfl rfl) (bV (bG 2 rfl rfl) bW))) (eU rfl rfl (Ht rfl) (fun h=>kQ (fW rfl h) (fW rfl h) (by show _ < 18446744073709551616; simp at h; exact a0C h hv2))) ?_))
     refine C.D_step (Ei:=[(16,_),(112,_)]) rfl rfl (bV (bK rfl rfl) (bV (bG 2 rfl rfl) bW)) (eU rfl rfl (Ht rfl) (fun h=>cX (Ht rfl))) (C.D_step (Ei:=[(121,_),(112,_)]) rfl rfl (bV (bG 11 rfl rfl) (bV (bG 2 rfl rfl) bW)) (eU rfl rfl (Ht rfl) (fun h=>mM (fW rfl h) (cJ 32) (by decide) hrs)) (C.D_step (Ei:=[(10,_),(112,_)]) rfl rfl (bV (bK rfl rfl) (bV (bG 2 rfl rfl) bW)) (eU rfl rfl (Ht rfl) (fun h=>cX (Ht rfl))) (C.D_step (Ei:=[(13,_),(112,_)]) rfl rfl (bV (bK rfl rfl) (bV (bG 2 rfl rfl) bW)) (eU rfl rfl (Ht rfl) (fun h=>cX (Ht rfl))) ?_)))
     refine C.D_step (Ei:=[(11,_),(112,_)]) rfl rfl (bV (bK rfl rfl) (bV (bG 2 rfl rfl) bW)) (eU rfl rfl (Ht rfl) (fun h=>cX (Ht rfl))) (C.D_step (Ei:=[(124,_),(125,_),(112,_)]) rfl rfl (bV (bG 14 rfl rfl) (bV (bG 15 rfl rfl) (bV (bG 2 rfl rfl) bW))) (eU rfl rfl (Ht rfl) (fun h=>dW (fW rfl h) (fW rfl h) (by show _ < 9223372036854775808; first | omega | (simp at h; omega)))) (C.D_step (Ei:=[(126,_),(112,_)]) rfl rfl (bV (bG 16 rfl rfl) (bV (bG 2 rfl rfl) bW)) (eU rfl rfl (Ht rfl) (fun h=>dG (fW rfl h) (cJ 2) (by first | omega | (simp at h; omega)) (by show _ < 9223372036854775808; first | omega | (simp at h; omega)))) ?_))
     refine C.D_step (Ei:=[(123,_),(127,_),(112,_)]) rfl rfl (bV (bG 13 rfl rfl) (bV (bG 17 rfl rfl) (bV (bG 2 rfl rfl) bW))) (eU rfl rfl (Ht rfl) (fun h=>gX U_46 Z_189 (fW rfl h) (fW rfl h) rfl (by first | omega | (simp at h; omega)) (by rw [Nat.mul_one,Nat.zero_add]))) ?_
     refine C.D_step (Ei:=[(128,_),(112,_)]) rfl rfl (bV (bG 18 rfl rfl) (bV (bG 2 rfl rfl) bW)) (eU rfl rfl (Ht rfl) (fun h=>fQ A_189 Z_189 (fW rfl h) (i:=0) rfl (eQ (aI zo)))) (C.D_step (Ei:=[(129,_),(112,_)]) rfl rfl (bV (bG 19 rfl rfl) (bV (bG 2 rfl rfl) bW)) (eU rfl rfl (Ht rfl) (fun h=>gW U_189 U_254 (fW rfl h) (by show _ < 18446744073709551616; first | omega | (simp at h; omega)))) (C.D_step (Ei:=[(122,_),(130,_),(112,_)]) rfl rfl (bV (bG 12 rfl rfl) (bV (bG 20 rfl rfl) (bV (bG 2 rfl rfl) bW))) (eU rfl rfl (Ht rfl) (fun h=>aF.nat (oE rfl (fW rfl h) (fW rfl h) (by show _ < 18446744073709551616; first | omega | (simp at h; omega)) (by show _ < 18446744073709551616; first | omega | (simp at h; omega))) horr)) ?_))
     refine fG bF rfl (by kernel_rfl) (zF (zF (zF (zF (zF (aJ (aJ (aV (fX rfl rfl (eU rfl rfl (Ht rfl) (fun h=>eT (fW rfl h) (fW rfl h))) (ro rfl (kX (Ht rfl) (fun h=>(fW rfl h))) (eZ (dQ (Ht rfl) (fun hc=>?_) (fun hc=>?_)))))))))))))
     ·have hn2 := hG.next hnr htp (by simpa [BB] using hc)
      have hg1:=hn2.2
      refine cU (eK (ts (rm rfl (ro rfl (dG (Ht rfl) (cJ 1) zo z7) (ra rfl (eZ (ts (rm rfl (rm rfl (rm rfl (ro rfl (dG (Ht rfl) (cJ 1) zo z6) (ro rfl (dZ U_46 Z_189 (Ht rfl) (Ht rfl) rfl (eQ (aI zo))) (ro rfl (dV A_189 Z_189 (Ht rfl)) (ro rfl (gW U_189 U_254 (Ht rfl) z7) ?_))))))))))))))
      refine ro rfl (dW (Ht rfl) (Ht rfl) z7) (ra rfl (eZ (ts (rm rfl (ro rfl (mP (Ht rfl) (cJ 4294967296)) (eZ (dQ (Ht rfl) (fun hr2=>?_) (fun hr2=>?_))))))))
      ·simp at hr2
       refine gK rfl (aT (g - 1) (hn2.1.stop hnr htp hr2) (zS rfl) (dL.refl _))
      ·simp at hr2
       refine cU (bH (gQ (g - 1,_) ⟨hn2.1,hr2⟩ (by dsimp only; omega) (zS rfl) (dL.refl _)))
     ·simp at hc
      refine gK rfl (aT g (hG.done hnr htp hc.1 hc.2) (zS rfl) (dL.refl _))
    ·have hglt := hg.lt
     have hglt2:=hg.lt
     simp only [BB] at hglt
     have hjl:j + vs.length < us.length:=by omega
     refine ts (ro rfl (cQ (cJ 0)) (eZ (ts (ro rfl (cQ (cJ 0)) (eZ (cK (ts (ro rfl (cQ (cJ 0)) (eZ (eK ?_))))))))))
     refine uG (fun (i : Nat) (out : List Nat) (c : Nat) (b : Nat) => rL us vs g j out i c b) (fun (i : Nat) (out : List Nat) (c : Nat) (b : Nat) => vs.length - i) (fun (i : Nat) (out : List Nat) (c : Nat) (b : Nat) => [(8, NT .i64 s), (9, vJ vs), (10, Is (.slice (some ⟨B57, 0, none⟩) ((dg m).length + 1) ((dg m).length + 1))), (11, NT .i64 vs.length), (12, Is (.slice (some ⟨B69, 0, none⟩) ((dg m).length + 1 - vs.length) ((dg m).length + 1 - vs.length))), (13, NT .i64 j), (15, NT .u64 g), (17, NT .u64 b), (18, NT .u64 c), (19, NT .i64 i)]) (fun (i : Nat) (out : List Nat) (c : Nat) (b : Nat) => [box B57 189 (out.map cA), box B69 189 (qs.map cA)]) 0 us 0 0 (rL.start hS.dig vs g j)
      (zS rfl) (dL.refl _) (fun i out c b hT=>?_)
     refine cK (ts (rm rfl (rm rfl (ro rfl (gV (Ht rfl) (Ht rfl)) (eZ (dQ (Ht rfl) (fun hi=>?_) (fun hi=>?_)))))))
     ·simp at hi
      have hlen:=hT.len; have hcl:=hT.clt; have hbl:=hT.ble; have hvi:=bE hv i; have hok:=bE hT.dig (i + j)
      have hp:=Jy hglt2 hvi hT.clt
      simp only [BB] at hp hcl hvi hok
      obtain ⟨p,hp1⟩:∃ p,p = g * vs.getD i 0 + c:=⟨_,rfl⟩
      obtain ⟨x,hx1⟩:∃ x,x = ((out.getD (i + j) 0 + 18446744073709551616 - p % 4294967296) % 18446744073709551616 + 18446744073709551616 - b) % 18446744073709551616:=⟨_,rfl⟩
      refine cU (cK (eK (ts (rm rfl (rm rfl (rm rfl (ro rfl (dZ U_46 Z_189 (Ht rfl) (Ht rfl) rfl (eQ (aI zo))) (ro rfl (dV A_189 Z_189 (Ht rfl)) (ro rfl (gW U_189 U_254 (Ht rfl) z7) (ro rfl (kQ (Ht rfl) (Ht rfl) z7) (rm rfl (ro rfl (aF.nat (dW (Ht rfl) (Ht rfl) z7) hp1.symm) ?_))))))))))))
      refine ra rfl (eZ (ts (rm rfl (ro rfl (fD (Ht rfl) (cJ 32) (by decide)) (ra rfl (eZ (ts (rm rfl (rm rfl (rm rfl (ro rfl (dW (Ht rfl) (Ht rfl) z6) (ro rfl (gX U_46 Z_189 (Ht rfl) (Ht rfl) rfl zo (by rw [Nat.mul_one,Nat.zero_add])) ?_))))))))))))
      refine ro rfl (fQ A_189 Z_189 (Ht rfl) (i:=0) rfl (eQ (aI zo))) (ro rfl (gW U_189 U_254 (Ht rfl) z7) (rm rfl (ro rfl (aF.nat (rY rfl (Ht rfl) (cJ 4294967295) z7 z7) (a2d p)) (ro rfl (mQ rfl (Ht rfl) (Ht rfl) (by show _ ≤ 18446744073709551616; first | omega | (simp only [lF]; omega))) ?_))))
      refine rm rfl (ro rfl (aF.nat (mQ rfl (Ht rfl) (Ht rfl) (by show _ ≤ 18446744073709551616; first | omega | (simp only [lF]; omega))) hx1.symm) (ra rfl (eZ (ts (rm rfl (rm rfl (rm rfl (ro rfl (dW (Ht rfl) (Ht rfl) z6) (rm rfl (ro rfl (gO rfl U_254 U_189 (Ht rfl)) (ro rfl (gX U_46 Z_189 (Ht rfl) (Ht rfl) rfl zo (by rw [Nat.mul_one,Nat.zero_add])) ?_)))))))))))
      refine jL Z_189 (Ht rfl) (Ht rfl) (i:=0) rfl (by first | omega | (simp; omega)) rfl (eZ (cY (rm rfl (ro rfl (fD (Ht rfl) (cJ 63) (by decide)) (ra rfl (eZ (bH (cY (rm rfl (ro rfl (dW (Ht rfl) (cJ 1) z6) (ra rfl (eZ (gQ (i + 1,_,_,_) (hT.next hS.dig hv hglt2 hi hjl hp1 (zJ hok hbl hx1) rfl) (by dsimp only; omega) (zS rfl) (aU (aB (gN _ _ _)) (aU (fun _ _ _ h=>h) aY)))))))))))))))
     ·simp at hi
      have hkl:i = vs.length:=Nat.le_antisymm hT.ile hi
      subst hkl
      have hlen:=hT.len; have hcl:=hT.clt; have hbl:=hT.ble; have hok:=bE hT.dig (j + vs.length)
      obtain ⟨x,hx1⟩:∃ x,x = ((out.getD (j + vs.length) 0 + 18446744073709551616 - c) % 18446744073709551616 + 18446744073709551616 - b) % 18446744073709551616:=⟨_,rfl⟩
      have htd:=Ah hok hcl hbl hx1
      have hTk:=hT.fin hjl htd rfl
      have hx2:=htd.2
      simp only [BB] at hcl hok
      refine gK rfl (ts (rm rfl (rm rfl (rm rfl (ro rfl (dW (Ht rfl) (Ht rfl) z6) (ro rfl (gX U_46 Z_189 (Ht rfl) (Ht rfl) rfl zo (by rw [Nat.mul_one,Nat.zero_add])) ?_))))))
      refine ro rfl (fQ A_189 Z_189 (Ht rfl) (i:=0) rfl (eQ (aI zo))) (ro rfl (gW U_189 U_254 (Ht rfl) z7) (rm rfl (ro rfl (mQ rfl (Ht rfl) (Ht rfl) (by show _ ≤ 18446744073709551616; first | omega | (simp only [lF]; omega))) (rm rfl (ro rfl (aF.nat (mQ rfl (Ht rfl) (Ht rfl) (by show _ ≤ 18446744073709551616; first | omega | (simp only [lF]; omega))) hx1.symm) (ra rfl (eZ (ts (rm rfl (rm rfl (rm rfl (ro rfl (dW (Ht rfl) (Ht rfl) z6) ?_))))))))))))
      refine rm rfl (ro rfl (gO rfl U_254 U_189 (Ht rfl)) (ro rfl (gX U_46 Z_189 (Ht rfl) (Ht rfl) rfl zo (by rw [Nat.mul_one,Nat.zero_add])) ?_))
      refine jL Z_189 (Ht rfl) (Ht rfl) (i:=0) rfl (by first | omega | (simp; omega)) rfl (eZ (cK (qM (fun (us2:List Nat) (g2:Nat)=>nD (m * 2 ^ s) vs us2 (qs.set j g2) j ∧ g2 < 4294967296 ∧ us2.length = (dg m).length + 1) (fun (us2:List Nat) (g2:Nat)=>[(8,NT .i64 s),(9,vJ vs),(10,Is (.slice (some ⟨B57,0,none⟩) ((dg m).length + 1) ((dg m).length + 1))),(11,NT .i64 vs.length),(12,Is (.slice (some ⟨B69,0,none⟩) ((dg m).length + 1 - vs.length) ((dg m).length + 1 - vs.length))),(13,NT .i64 j),(15,NT .u64 g2)]) (fun (us2:List Nat) (g2:Nat)=>[box B57 189 (us2.map cA),box B69 189 (qs.map cA)]) ?_ (fun us2 g2 ⟨hD,hg2,hus2⟩=>?_))))
      ·refine ts (rm rfl (ro rfl (fD (Ht rfl) (cJ 63) (by decide)) (ro rfl (cB (Ht rfl) (cJ 1)) (eZ (dQ (Ht rfl) (fun hbb => ?_) (fun hbb => ?_))))))
       ·simp only [decide_eq_true_eq] at hbb
        have hdec:(!decide (x / 2 ^ 63 = 0)) = true:=by rw [hbb]; rfl
        rw [hdec] at hTk
        obtain ⟨o1,ho1⟩:∃ o1,o1 = out.set (j + vs.length) (x % BB):=⟨_,rfl⟩
        rw [← ho1] at hTk
        have hg0:=hS.gpos hv rfl zo hTk
        have hol:=hTk.len
        refine ts (rm rfl (ro rfl (dG (Ht rfl) (cJ 1) zo z7) (ra rfl (eZ (ts (ro rfl (cQ (cJ 0)) (eZ (cK (ts (ro rfl (cQ (cJ 0)) (eZ (eK ?_))))))))))))
        refine kP (fun (i : Nat) (out2 : List Nat) (c : Nat) => rT o1 vs j out2 i c) (fun (i : Nat) (out2 : List Nat) (c : Nat) => vs.length - i) (fun (i : Nat) (out2 : List Nat) (c : Nat) => [(8, NT .i64 s), (9, vJ vs), (10, Is (.slice (some ⟨B57, 0, none⟩) ((dg m).length + 1) ((dg m).length + 1))), (11, NT .i64 vs.length), (12, Is (.slice (some ⟨B69, 0, none⟩) ((dg m).length + 1 - vs.length) ((dg m).length + 1 - vs.length))), (13, NT .i64 j), (15, NT .u64 (g - 1 : Nat)), (18, NT .u64 c), (23, NT .i64 i)]) (fun (i : Nat) (out2 : List Nat) (c : Nat) => [box B57 189 (out2.map cA), box B69 189 (qs.map cA)]) 0 o1 0 (rT.start hTk.dig vs j)
         (zS rfl) (aU (aB (by rw [ho1]; exact gN _ _ _)) (aU (fun _ _ _ h=>h) aY)) (fun i out2 c hB=>?_)
        refine cK (ts (rm rfl (rm rfl (ro rfl (gV (Ht rfl) (Ht rfl)) (eZ (dQ (Ht rfl) (fun hi=>?_) (fun hi=>?_)))))))
        ·simp at hi
         have hlen:=hB.len; have hcl:=hB.cle; have hvi:=bE hv i; have hok:=bE hB.dig (i + j)
         simp only [BB] at hvi hok
         refine cU (cK (eK (cK (fV (m:=14) (dp 10 rfl (cX (Ht rfl)) (dp 23 rfl (cX (Ht rfl)) (dp 13 rfl (cX (Ht rfl)) (dS 212 1 213 2 rfl (dW (Ht rfl) (Ht rfl) z6) (dS 211 0 214 3 rfl (gX U_46 Z_189 (Ht rfl) (Ht rfl) rfl zo (by rw [Nat.mul_one,Nat.zero_add])) ?_)))))))))
         refine dq 215 4 rfl (fQ A_189 Z_189 (Ht rfl) (i:=0) rfl (eQ (aI zo))) (dq 216 5 rfl (gW U_189 U_254 (Ht rfl) z7) (dp 9 rfl (cX (Ht rfl)) (dp 23 rfl (cX (Ht rfl)) (dS 218 7 219 8 rfl (dZ U_46 Z_189 (Ht rfl) (Ht rfl) rfl (eQ (aI zo))) (dq 220 9 rfl (dV A_189 Z_189 (Ht rfl)) (dq 221 10 rfl (gW U_189 U_254 (Ht rfl) z7) ?_))))))
         refine dS 217 6 222 11 rfl (dW (Ht rfl) (Ht rfl) z7) (dp 18 rfl (cX (Ht rfl)) (fG bF rfl (by kernel_rfl) (zF (zF (zF (aJ (aJ (aV (ro rfl (dW (Ht rfl) (Ht rfl) z7) (ra rfl (eZ (ts (rm rfl (rm rfl (rm rfl (ro rfl (dW (Ht rfl) (Ht rfl) z6) ?_))))))))))))))))
         refine rm rfl (ro rfl (gO rfl U_254 U_189 (Ht rfl)) (ro rfl (gX U_46 Z_189 (Ht rfl) (Ht rfl) rfl zo (by rw [Nat.mul_one,Nat.zero_add])) ?_))
         refine jL Z_189 (Ht rfl) (Ht rfl) (i:=0) rfl (by first | omega | (simp; omega)) rfl (eZ (cY (rm rfl (ro rfl (fD (Ht rfl) (cJ 32) (by decide)) (ra rfl (eZ (bH (cY (rm rfl (ro rfl (dW (Ht rfl) (cJ 1) z6) (ra rfl (eZ (gQ (i + 1,_,_) (hB.next hv hi zo (Nat.add_comm _ _)) (by dsimp only; omega) (zS rfl) (aU (aB (gN _ _ _)) (aU (fun _ _ _ h=>h) aY)))))))))))))))
        ·simp at hi
         have hil:i = vs.length:=Nat.le_antisymm hB.ile hi
         subst hil
         have hlen:=hB.len; have hcl:=hB.cle; have hok:=bE hB.dig (j + vs.length)
         have hBk:=hB.fin zo rfl
         obtain ⟨_,hDn⟩:=hS.wrong hv hV0 (Nat.succ_pos j) rfl hg hTk hBk
         simp only [BB] at hok
         refine gK rfl (cY (rm rfl (rm rfl (rm rfl (ro rfl (dW (Ht rfl) (Ht rfl) z6) (rm rfl (rm rfl (rm rfl (ro rfl (dW (Ht rfl) (Ht rfl) z6) (ro rfl (gX U_46 Z_189 (Ht rfl) (Ht rfl) rfl zo (by rw [Nat.mul_one,Nat.zero_add])) ?_))))))))))
         refine ro rfl (fQ A_189 Z_189 (Ht rfl) (i:=0) rfl (eQ (aI zo))) (rm rfl (ro rfl (gW U_254 U_189 (Ht rfl) (by show _ < 4294967296; first | omega | (simp only [lF]; omega))) (ro rfl (Ly rfl (Ht rfl) (Ht rfl)) (ro rfl (gX U_46 Z_189 (Ht rfl) (Ht rfl) rfl zo (by rw [Nat.mul_one,Nat.zero_add])) ?_))))
         refine jL Z_189 (Ht rfl) (Ht rfl) (i:=0) rfl (by first | omega | (simp; omega)) rfl (eZ (aT (_,g - 1) ⟨hDn,by dsimp only; omega,by simp; omega⟩ (zS rfl) (aU (aB (gN _ _ _)) (aU (fun _ _ _ h=>h) aY))))
       ·simp only [decide_eq_false_iff_not] at hbb
        have hdec:(!decide (x / 2 ^ 63 = 0)) = false:=by rw [show x / 2 ^ 63 = 0 by omega]; rfl
        rw [hdec] at hTk
        have hol:=hTk.len
        refine cU (aT (_,g) ⟨hS.right hv hV0 (Nat.succ_pos j) rfl hg hTk,hglt,by dsimp only; omega⟩ (zS rfl) (aU (aB (gN _ _ _)) (aU (fun _ _ _ h=>h) aY)))
      ·refine cY (rm rfl (rm rfl (rm rfl (ro rfl (gW U_254 U_189 (Ht rfl) (by show _ < 4294967296; first | omega | (simp only [lF]; omega))) (ro rfl (gX U_46 Z_189 (Ht rfl) (Ht rfl) rfl zo (by rw [Nat.mul_one, Nat.zero_add])) ?_)))))
       refine jL Z_189 (Ht rfl) (Ht rfl) (i:=1) rfl (by first | omega | (simp; omega)) rfl (eZ (bH (cY (rm rfl (ro rfl (gM (Ht rfl) cV (tD zo)) (ra rfl (eZ (gQ (j,us2,_) ⟨hD,hus2⟩ (by dsimp only; omega) (zS rfl) (aU (fun _ _ _ h=>h) (aU (aB (gN _ _ _)) aY))))))))))
   ·simp at hk
    have hk0:k = 0:=by omega
    subst hk0
    have hfin:=hS.fin hV0
    have hlq:=hS.lenq
    rw [hvv] at hfin
    have hdiv:val qs = m / n:=by rw [hfin.1]; exact Nat.mul_div_mul_right _ _ hp2
    have hsm:val us < BB ^ vs.length:=by have h1:=hS.small; rw [List.drop_zero] at h1; exact Nat.lt_trans h1 (iY hv)
    have hmod : val (us.take vs.length) / 2 ^ s = m % n := by
     rw [nQ hsm zo,hfin.2,Nat.mul_mod_mul_right,Nat.mul_div_cancel _ hp2]
    have hru : (dg (val (us.take vs.length))).length ≤ 17592186044416 := by
     refine Nat.le_trans (jV (k:=vs.length) ?_) zo
     rw [nQ hsm zo]; exact hsm
    refine gK rfl (gG (i:=1) (tt:=12) rfl rfl (mF rfl zo (Nat.le_refl _)) (gG (i:=0) (tt:=10) rfl rfl (mF rfl zo (Nat.le_refl _)) (cK (fV (m:=7) (dp 12 rfl (cX (Ht rfl)) (dq 254 0 rfl (cZ K_267 (sB _ hS.digq zo) ⟨(Ht rfl),trivial⟩) (dp 10 rfl (cX (Ht rfl)) (dp 11 rfl (cX (Ht rfl)) (dS 256 2 257 3 rfl (aF.imp (pR U_46 Z_189 (Ht rfl) (Ht rfl) (fun m e=>by cases e) zo (by simp; omega) rfl) (Ky _ _)) ?_)))))))))
    refine dq 258 4 rfl (cZ K_267 (sB _ (hS.dig.take' vs.length) (by simp; omega)) ⟨(Ht rfl),trivial⟩) ?_
    refine dp 8 rfl (cX (Ht rfl)) (fG bF rfl (by kernel_rfl) (zF (aJ (aJ (aJ (aV (ro rfl (cZ Tryz.call284 (a20 hru zo) ⟨(Ht rfl),(Ht rfl),trivial⟩) (ra rfl (ra rfl (eZ (bI rfl (fJ (eY rfl) ?_) (fJ (eY rfl) ?_))))))))))))
    ·exact (dB hdiv)
    ·exact (dB hmod)
theorem Jj {m n:Nat} (hm:(dg m).length ≤ 17592186044415) (hn:(dg n).length ≤ 17592186044415):bB Tryz.prog 264 [aH m,aH n] (aH (Nat.gcd m n)):=by
 refine bB.intro Tryz.func264 rfl Tryz.ntmps264 rfl (fun cx=>(ts (ro rfl (cQ cV) (eZ (cK (eK ?_))))))
 refine fT (fun (x : Nat) (y : Nat) => Nat.gcd x y = Nat.gcd m n ∧ (dg x).length ≤ 17592186044415 ∧ (dg y).length ≤ 17592186044415) (fun (x : Nat) (y : Nat) => y) (fun (x : Nat) (y : Nat) => [(0, aH x), (1, aH y)]) (fun (x : Nat) (y : Nat) => []) m n ⟨rfl, hm, hn⟩
  (zS rfl) aY (fun x y ⟨hg,hx,hy⟩=>?_)
 refine cK (ts (rm rfl (ro rfl (dK U_46 (Ht rfl) aA) (ro rfl (eT (Ht rfl) (cJ 0)) (eZ (dQ (Ht rfl) (fun hb=>?_) (fun hb=>?_)))))))
 ·simp at hb
  have hy0:y ≠ 0:=fun e=>by rw [e,eB] at hb; simp at hb
  have hlt:=Nat.mod_lt x (Nat.pos_of_ne_zero hy0)
  refine cU (eK (ts (rm rfl (rm rfl (ro rfl (cZ K_265 (wO hx zo hy0) ⟨(Ht rfl),(Ht rfl),trivial⟩) (rm rfl (ro rfl (dU (Ht rfl) rfl) (ro rfl (dU (Ht rfl) rfl) (ra rfl (ra rfl (eZ (cY (rm rfl (rm rfl (ra rfl (ra rfl (eZ (bH (gQ (y,x % y) ⟨by rw [← hg,Nat.gcd_comm x y,Nat.gcd_rec y x,Nat.gcd_comm],hy,Nat.le_trans (iM (Nat.le_of_lt hlt)) hy⟩ hlt (zS rfl) aY)))))))))))))))))))
 ·simp at hb
  have hy0:y = 0:=aL.1 (by simpa using hb)
  subst hy0
  rw [Nat.gcd_zero_right] at hg
  refine gK rfl (ts (rm rfl (ra rfl (eZ (fK rfl (fJ (eY rfl) ?_))))))
  exact (dB hg)
theorem La {m:Nat} (hm:(dg m).length ≤ 8796093022208):bB Tryz.prog 275 [aH m] (pG (sZ m)):=by
 refine bB.intro Tryz.func275 rfl Tryz.ntmps275 rfl (fun cx=>(ts (ro rfl (cQ (bC.cS (l:=[]) rfl)) (eZ (cK (ts (rm rfl (ro rfl (dK U_46 (Ht rfl) aA) (ro rfl (cB (Ht rfl) (cJ 0)) (eZ (dQ (Ht rfl) (fun hb=>?_) (fun hb=>?_))))))))))))
 ·simp at hb
  have h0:m = 0:=aL.1 (by simpa using hb)
  subst h0
  refine ts (ro rfl (cQ (bC.cS (l:=[48]) rfl)) (eZ (fK rfl (fJ (eY rfl) ?_))))
  exact (jF rfl)
 ·simp at hb
  have h0:m ≠ 0:=fun e=>hb (by rw [e,eB])
  refine cU (ts (ro rfl (cQ cV) (eZ (cK (eK (rQ 5 1 ?_))))))
  refine kP (fun (x : Nat) (out : List Nat) (v : Value) => Ai m out x ∧ x ≤ m) (fun (x : Nat) (out : List Nat) (v : Value) => x) (fun (x : Nat) (out : List Nat) (v : Value) => [(0, aH x), (3, Is v)]) (fun (x : Nat) (out : List Nat) (v : Value) => [bM 5 1 v (out.map xD)]) m [] (.slice none 0 0) ⟨Ai.start m, Nat.le_refl m⟩
   (zS rfl) (dL.refl _) (fun x out v ⟨hO,hle⟩=>?_)
  refine cK (ts (rm rfl (ro rfl (dK U_46 (Ht rfl) aA) (ro rfl (eT (Ht rfl) (cJ 0)) (eZ (dQ (Ht rfl) (fun hc=>?_) (fun hc=>?_)))))))
  ·simp at hc
   have hx0:x ≠ 0:=fun e=>by rw [e,eB] at hc; simp at hc
   have hxm:=iM hle
   refine cU (eK (ts (rm rfl (ro rfl (cZ Tryz.call281 (Gt zo (by decide) (by decide)) ⟨(Ht rfl),(cJ 1000000000),trivial⟩) (rm rfl (ro rfl (dU (Ht rfl) rfl) (ro rfl (dU (Ht rfl) rfl) (ra rfl (ra rfl (eZ (cK (ts (ro rfl (cQ (cJ 0)) (eZ (eK ?_)))))))))))))))
   refine uG (fun (r : Nat) (k : Nat) (out : List Nat) (v : Value) => xH m out (x / 1000000000) r k) (fun (r : Nat) (k : Nat) (out : List Nat) (v : Value) => 9 - k) (fun (r : Nat) (k : Nat) (out : List Nat) (v : Value) => [(3, Is v), (4, aH (x / 1000000000)), (5, cA r), (6, NT .i64 k)]) (fun (r : Nat) (k : Nat) (out : List Nat) (v : Value) => [bM 5 1 v (out.map xD)]) (x % 1000000000) 0 out v (hO.inner)
    (zS rfl) (dL.refl _) (fun r k out v hI=>?_)
   refine cK (ts (rm rfl (ro rfl (gV (Ht rfl) (cJ 9)) (rm rfl (fX rfl rfl (kG rfl rfl (Ht rfl) (fun h=>cX (Ht rfl))) (fX rfl rfl (kG rfl rfl (Ht rfl) (fun h=>eT (bC.wu rfl h) (cJ 0))) (fX rfl rfl (kG rfl rfl (Ht rfl) (fun h=>cX (bC.wu rfl h))) (fX rfl rfl (qC rfl rfl rfl (fun h h2=>cX (Ht rfl))) (fX rfl rfl (qC rfl rfl rfl (fun h h2=>dK U_46 (bC.wu rfl ⟨h,h2⟩) aA)) (fX rfl rfl (qC rfl rfl rfl (fun h h2=>eT (bC.wu rfl ⟨h,h2⟩) (cJ 0))) (fX rfl rfl (kG rfl rfl (Ht rfl) (fun h=>kX (bC.wu rfl h) (fun h2=>(bC.wu rfl ⟨h,h2⟩)))) ?_)))))))))))
   refine ro rfl (eA (Ht rfl) (fun h=>(bC.wu rfl h))) (eZ (dQ (Ht rfl) (fun hd=>?_) (fun hd=>?_)))
   ·simp at hd
    have hxr:0 < x / 1000000000 ∨ 0 < r:=hd.2.elim (fun h=>.inr h) (fun h=>.inl (Nat.pos_of_ne_zero (fun e=>by rw [e,eB] at h; simp at h)))
    have hln:=hI.len hxr
    have hr32:=hI.r32
    refine cU (cK (eK (ts (rm rfl (rm rfl (ro rfl (kN (Ht rfl) (cJ 10) zo) (ro rfl (dW (cJ 48) (Ht rfl) (by show _ < 4294967296; first | omega | (simp only [lF]; omega))) (ro rfl (gW U_189 U_5 (Ht rfl) (by show _ < 256; first | omega | (simp only [lF]; omega))) (ro rfl (dH (xs:=[.tmp 37]) U_293 Z_5 Tryz.zeroValue5 (cW (Ht rfl) cG) rfl rfl rfl) (mW (inf:=Tryz.t5) xK Ug rfl rfl rfl (Ht rfl) (Ht rfl) (i:=0) rfl (by simp) (fun T hT=>by simp at hT; subst hT; exact El.one) (by show _ * 1 ≤ _; simp only [List.length_map,List.length_cons,List.length_nil]; omega) (by simp only [List.length_map,List.length_cons,List.length_nil]; omega) rfl (fun v2=>?_)))))))))))
    refine ra rfl (eZ (cY (rm rfl (ro rfl (jC (Ht rfl) (cJ 10) zo (by show _ < 4294967296; first | omega | (simp only [lF]; omega))) (ra rfl (eZ (bH (cY (rm rfl (ro rfl (dW (Ht rfl) (cJ 1) z6) (ra rfl (eZ (gQ (r / 10,k + 1,_,v2) (hI.next hd.1 hxr) (by dsimp only; omega) (zS rfl) (aU (aR (Rc _ _)) aY))))))))))))))
   ·simp at hd
    have hO2 := hI.fin (fun ⟨h1, h2⟩ => by
     have h3:=hd h1
     rcases h2 with h2 | h2
     ·have:=pL.1 h3.2; omega
     ·omega)
    refine gK rfl (cY (rm rfl (ra rfl (eZ (bH (gQ (x / 1000000000,_,_) ⟨hO2,Nat.le_trans (Nat.div_le_self _ _) hle⟩ (Nat.div_lt_self (Nat.pos_of_ne_zero hx0) (by decide)) (zS rfl) (dL.refl _)))))))
  ·simp at hc
   have hx0:x = 0:=aL.1 (by simpa using hc)
   subst hx0
   have hfin:=hO.fin
   have hdl:=oP m
   rw [hfin] at hdl
   refine gK rfl (cK (ts (rm rfl (ro rfl (nS U_293 (Ht rfl) (i:=0) rfl aA) (ro rfl (gM (Ht rfl) cV (tD zo)) (ro rfl (cQ (cJ 0)) (ra rfl (eZ (eK ?_)))))))))
   refine fT (fun (k : Nat) (o : List Nat) => zP out o k) (fun (k : Nat) (o : List Nat) => out.length - k) (fun (k : Nat) (o : List Nat) => [(3, Is v), (7, NT .i64 k), (8, aD .i64 ((out.length : Int) - 1 - (k : Int)))]) (fun (k : Nat) (o : List Nat) => [bM 5 1 v (o.map xD)]) 0 out (zP.start out)
    (aQ rfl (aQ rfl (aZ rfl (aM zo) aX))) (dL.refl _) (fun k o hR=>?_)
   refine cK (ts (rm rfl (rm rfl (ro rfl (qO (Ht rfl) (Ht rfl)) (eZ (dQ (Ht rfl) (fun hk=>?_) (fun hk=>?_)))))))
   ·simp only [decide_eq_true_eq] at hk
    have hk2:2 * k + 1 < out.length:=by omega
    obtain ⟨j,hj⟩:∃ j,j = out.length - 1 - k:=⟨_,rfl⟩
    have hlen:=hR.len
    refine yK (E':=[(3,_),(7,_),(8,_),(46,_),(47,_),(48,_)]) (aQ rfl (aQ rfl (aZ rfl (aM (show (out.length:Int) - 1 - (k:Int) = (j:Int) by omega)) (zS rfl)))) (cU (cK (eK (W.D_start (m:=14) (fun b=>cond b ([bM 5 1 v ((o.map xD).set k (xD (o.getD j 0)))]) _) 13 (W.D_step (Ei:=[(3,_)]) rfl rfl (W.Srcs.cons (W.Src.pre rfl rfl) W.Srcs.nil) rfl (by kernel_rfl) (dX rfl (cX (Ht rfl))) (W.D_step (Ei:=[(7,_)]) rfl rfl (W.Srcs.cons (W.Src.pre rfl rfl) W.Srcs.nil) rfl (by kernel_rfl) (dX rfl (cX (Ht rfl))) ?_))))))
    refine W.D_pure (Ei:=[(3,_)]) rfl rfl (W.Srcs.cons (W.Src.pre rfl rfl) W.Srcs.nil) rfl (fun _=>dX rfl (cX (Ht rfl))) (W.D_pure (Ei:=[(8,_)]) rfl rfl (W.Srcs.cons (W.Src.pre rfl rfl) W.Srcs.nil) rfl (fun _=>dX rfl (cX (Ht rfl))) (W.D_step (Ei:=[(3,_)]) rfl rfl (W.Srcs.cons (W.Src.pre rfl rfl) W.Srcs.nil) rfl (by kernel_rfl) (dX rfl (cX (Ht rfl))) (W.D_step (Ei:=[(8,_)]) rfl rfl (W.Srcs.cons (W.Src.pre rfl rfl) W.Srcs.nil) rfl (by kernel_rfl) (dX rfl (cX (Ht rfl))) (W.D_step (Ei:=[(57,_),(58,_)]) rfl rfl (W.Srcs.cons (W.Src.op 4 rfl rfl) (W.Srcs.cons (W.Src.op 5 rfl rfl) W.Srcs.nil)) rfl (by kernel_rfl) (dX rfl (dE U_293 Z_5 (Ht rfl) (Ht rfl) rfl (i:=0) rfl (by first | omega | (simp; omega)) rfl)) ?_))))
    refine W.D_step (Ei:=[(59,_)]) rfl rfl (W.Srcs.cons (W.Src.op 6 rfl rfl) W.Srcs.nil) rfl (by kernel_rfl) (dX rfl (tG A_5 Z_5 (Ht rfl) (i:=0) rfl rfl (eQ (aI zo)))) (W.D_step (Ei:=[(3,_)]) rfl rfl (W.Srcs.cons (W.Src.pre rfl rfl) W.Srcs.nil) rfl (by kernel_rfl) (dX rfl (cX (Ht rfl))) (W.D_step (Ei:=[(7,_)]) rfl rfl (W.Srcs.cons (W.Src.pre rfl rfl) W.Srcs.nil) rfl (by kernel_rfl) (dX rfl (cX (Ht rfl))) (W.D_step (Ei:=[(61,_),(62,_)]) rfl rfl (W.Srcs.cons (W.Src.op 8 rfl rfl) (W.Srcs.cons (W.Src.op 9 rfl rfl) W.Srcs.nil)) rfl (by kernel_rfl) (dX rfl (dE U_293 Z_5 (Ht rfl) (Ht rfl) rfl (i:=0) rfl (by first | omega | (simp; omega)) rfl)) ?_)))
    refine W.D_step (Ei:=[(63,_)]) rfl rfl (W.Srcs.cons (W.Src.op 10 rfl rfl) W.Srcs.nil) rfl (by kernel_rfl) (dX rfl (tG A_5 Z_5 (Ht rfl) (i:=0) rfl rfl (eQ (aI zo)))) (W.D_step (Ei:=[(53,_),(54,_)]) rfl rfl (W.Srcs.cons (W.Src.op 0 rfl rfl) (W.Srcs.cons (W.Src.op 1 rfl rfl) W.Srcs.nil)) rfl (by kernel_rfl) (dX rfl (dE U_293 Z_5 (Ht rfl) (Ht rfl) rfl (i:=0) rfl (by first | omega | (simp; omega)) rfl)) (W.D_put (Ei:=[(65,_),(60,_)]) rfl rfl (W.Srcs.cons (W.Src.op 12 rfl rfl) (W.Srcs.cons (W.Src.op 7 rfl rfl) W.Srcs.nil)) rfl (Bv Z_5 (Ht rfl) (Ht rfl) El.one (i:=0) rfl rfl (by first | omega | (simp; omega))) ?_))
    refine W.D_done bF rfl (by kernel_rfl) rfl (W.F_val (W.F_val (W.F_val (W.F_val (W.F_val (W.F_val (W.F_val (W.F_val (W.F_val (W.F_val (W.F_val (W.F_val (W.F_val (W.F_put (W.F_nil (ro rfl (dE U_293 Z_5 (Ht rfl) (Ht rfl) rfl (i:=0) rfl (by first | omega | (simp; omega)) rfl) (kS Z_5 (Ht rfl) (Ht rfl) El.one (i:=0) rfl rfl (by first | omega | (simp; omega)) rfl (eZ (bH (cY (rm rfl (ro rfl (dW (Ht rfl) (cJ 1) z6) (rm rfl (ro rfl (gM (Ht rfl) cV (tD zo)) ?_))))))))))))))))))))))))
    refine ra rfl (ra rfl (eZ (gQ (k + 1,_) (hR.next hk2 hj) (by dsimp only; omega) (aQ rfl (aQ rfl (aZ rfl (aM zo) aX))) (aU (aR (Mf _ _ _ _ _)) aY))))
   ·simp only [decide_eq_false_iff_not] at hk
    have hrev:=hR.fin zo
    subst hrev
    refine gK rfl (gG (i:=0) (tt:=3) rfl rfl fP (ts (rm rfl (ro rfl (Fk xK a0r a0q (Ht rfl) (by rw [← hfin]; simpa using Lc h0) (fun b hb=>Sm (n:=m) b (by rw [sK h0,hfin]; exact hb))) ?_))))
    refine ra rfl (eZ (fK rfl (fJ (eY rfl) ?_)))
    exact (jF (by rw [sK h0,hfin]))
end
section
open Go Go.RowKit
theorem Sf {n : Nat} {E : cF} {H : Hp} {d : Option Tmp} {t : TypeId} {pos : String} {af : Array Edge} {g : Option (Nat × Bool)}  :
  aF Tryz.prog n E H ⟨d,.build 129 #[],t,pos,af,g⟩ (eD [Is (.bool false),Is (.slice none 0 0)]) :=
 iA (parts := []) fun a V w hs => by
  refine ⟨.agg #[(.bool false),(.slice none 0 0)],?_,[(.bool false),(.slice none 0 0)],rfl,aW (⟨rfl,trivial⟩) (aW (⟨rfl,trivial⟩) (aG))⟩
  simp [Instr.build,Instr.fill,Sem.run_bind,Result.andThen,fI,O_129,U_129,Z_4,Z_46]
theorem rX {n : Nat} {E : cF} {H : Hp} {d : Option Tmp} {t : TypeId} {pos : String} {af : Array Edge} {g : Option (Nat × Bool)} {x0 x1 : Operand} {T0 T1 : Ty} [s0 : dC T0 1 false] (h0 : bC E x0 T0) [s1 : dC T1 1 false] (h1 : bC E x1 T1) :
  aF Tryz.prog n E H ⟨d,.build 129 #[(0,x0),(1,x1)],t,pos,af,g⟩ (eD [T0,T1]) :=
 iA (parts := [(0, x0), (1, x1)]) fun a V w hs => by
  have p0:=h0 n V a hs
  generalize e0:a.eval x0 = v0 at p0
  have q0:=(s0.ok v0 V p0).2.2 rfl
  have p1:=h1 n V a hs
  generalize e1:a.eval x1 = v1 at p1
  have q1:=(s1.ok v1 V p1).2.2 rfl
  refine ⟨.agg #[v0,v1],?_,[v0,v1],rfl,aW (⟨p0,q0⟩) (aW (⟨p1,q1⟩) (aG))⟩
  simp [e0,e1,Instr.build,Instr.fill,Sem.run_bind,Result.andThen,fI,q0.cells,q1.cells,O_129,U_129,Z_4,Z_46]
theorem sW {n : Nat} {E : cF} {H : Hp} {d : Option Tmp} {t : TypeId} {pos : String} {af : Array Edge} {g : Option (Nat × Bool)} {x0 x1 x2 : Operand} {T0 T1 T2 T3 T4 : Ty} (h0 : bC E x0 (eD [T0, T1])) (h1 : bC E x1 (eD [T2, T3])) [s2 : dC T4 1 false] (h2 : bC E x2 T4) :
  aF Tryz.prog n E H ⟨d,.build 131 #[(0,x0),(1,x1),(2,x2)],t,pos,af,g⟩ (eD [T0,T1,T2,T3,T4]) :=
 iA (parts := [(0, x0), (1, x1), (2, x2)]) fun a V w hs => by
  obtain ⟨v0,e0,c0⟩:=h0 n V a hs
  obtain ⟨c0_0,c0_1,rfl⟩:∃ c0_0 c0_1,v0 = [c0_0,c0_1]:=Hi (by simpa using c0.length)
  obtain ⟨v1,e1,c1⟩:=h1 n V a hs
  obtain ⟨c1_0,c1_1,rfl⟩:∃ c1_0 c1_1,v1 = [c1_0,c1_1]:=Hi (by simpa using c1.length)
  have p2:=h2 n V a hs
  generalize e2:a.eval x2 = v2 at p2
  have q2:=(s2.ok v2 V p2).2.2 rfl
  refine ⟨.agg #[c0_0,c0_1,c1_0,c1_1,v2],?_,[c0_0,c0_1,c1_0,c1_1,v2],rfl,aW (c0.at (i:=0) rfl rfl) (aW (c0.at (i:=1) rfl rfl) (aW (c1.at (i:=0) rfl rfl) (aW (c1.at (i:=1) rfl rfl) (aW (⟨p2,q2⟩) (aG)))))⟩
  simp [e0,e1,e2,Instr.build,Instr.fill,Sem.run_bind,Result.andThen,fI,q2.cells,O_131,U_131,Z_46,Z_129]
theorem Dk {n : Nat} {E : cF} {H : Hp} {d : Option Tmp} {t : TypeId} {pos : String} {af : Array Edge} {g : Option (Nat × Bool)}  :
  aF Tryz.prog n E H ⟨d,.build 51 #[],t,pos,af,g⟩ (eD [Is (.bool false),Is (.slice none 0 0),Is (.bool false),Is (.slice none 0 0),Is (.slice none 0 0)]) :=
 iA (parts := []) fun a V w hs => by
  refine ⟨.agg #[(.bool false),(.slice none 0 0),(.bool false),(.slice none 0 0),(.slice none 0 0)],?_,[(.bool false),(.slice none 0 0),(.bool false),(.slice none 0 0),(.slice none 0 0)],rfl,aW (⟨rfl,trivial⟩) (aW (⟨rfl,trivial⟩) (aW (⟨rfl,trivial⟩) (aW (⟨rfl,trivial⟩) (aW (⟨rfl,trivial⟩) (aG)))))⟩
  simp [Instr.build,Instr.fill,Sem.run_bind,Result.andThen,fI,O_51,U_51,Z_47,Z_49]
theorem oI (a:Addr) (w:World):(Instr.fieldAt 129 (.pointer (some a)) 0).run Tryz.prog w = .ok (.pointer (some (a.add 0))) w:=by
 simp [Instr.fieldAt,Instr.sureAddr,fieldPlace,Sem.run_bind,Result.andThen,U_129,Z_4]
theorem kJ (a:Addr) (w:World):(Instr.fieldAt 129 (.pointer (some a)) 1).run Tryz.prog w = .ok (.pointer (some (a.add 1))) w:=by
 simp [Instr.fieldAt,Instr.sureAddr,fieldPlace,Sem.run_bind,Result.andThen,U_129,Z_46]
theorem pS (a:Addr) (w:World):(Instr.fieldAt 131 (.pointer (some a)) 0).run Tryz.prog w = .ok (.pointer (some (a.add 0))) w:=by
 simp [Instr.fieldAt,Instr.sureAddr,fieldPlace,Sem.run_bind,Result.andThen,U_131,Z_129]
theorem pN (a:Addr) (w:World):(Instr.fieldAt 131 (.pointer (some a)) 1).run Tryz.prog w = .ok (.pointer (some (a.add 2))) w:=by
 simp [Instr.fieldAt,Instr.sureAddr,fieldPlace,Sem.run_bind,Result.andThen,U_131,Z_129]
theorem oK (a:Addr) (w:World):(Instr.fieldAt 131 (.pointer (some a)) 2).run Tryz.prog w = .ok (.pointer (some (a.add 4))) w:=by
 simp [Instr.fieldAt,Instr.sureAddr,fieldPlace,Sem.run_bind,Result.andThen,U_131,Z_46]
end
section
open Go Go.RowKit
theorem vP {b:Bool} {m:Nat}:bB Tryz.prog 266 [aC b,aH m] (gL (wX b m)):=by
 refine bB.intro Tryz.func266 rfl Tryz.ntmps266 rfl (fun cx=>(ts (rn rfl (eG (Ts:=[Is (.bool false),Is (.slice none 0 0)]) O_129 rfl (fun V=>aW zd (aW zd (aG)))) fun B4=>(eZ (ts (rm rfl (rm rfl (fX rfl rfl (eU rfl rfl (Ht rfl) (fun h=>cX (Ht rfl))) (fX rfl rfl (eU rfl rfl (Ht rfl) (fun h=>dK U_46 (fW rfl h) aA)) (fX rfl rfl (eU rfl rfl (Ht rfl) (fun h=>eT (fW rfl h) (cJ 0))) (ro rfl (eA (Ht rfl) (fun h=>(fW rfl h))) (rm rfl ?_))))))))))))
 refine ro rfl (rX (Ht rfl) (Ht rfl)) (gJ Z_129 (Ht rfl) (Ht rfl) rfl (i:=0) rfl (aK rfl) rfl rfl (eZ (fK rfl (fJ (fY A_129 Z_129 rfl (i:=0) rfl rfl) ?_))))
 exact Qr
theorem zN {n:Int} (h1:-9223372036854775808 ≤ n) (h2:n ≤ 9223372036854775807):bB Tryz.prog 227 [aD .i64 n] (gL n):=by
 refine bB.intro Tryz.func227 rfl Tryz.ntmps227 rfl (fun cx=>(ts (rn rfl (eG (Ts:=[Is (.bool false),Is (.slice none 0 0)]) O_129 rfl (fun V=>aW zd (aW zd (aG)))) fun B2=>(eZ (cK (ts (rm rfl (ro rfl (qO (Ht rfl) cV) (eZ (dQ (Ht rfl) (fun hb=>?_) (fun hb=>?_)))))))))))
 ·have hn : n < 0 := by simpa using hb
  refine ts (rm rfl (ro rfl (Ey (Ht rfl) (r:=IntKind.i64.wrap (-n)) rfl) ?_))
  refine ro rfl (sA U_2 U_254 (Ht rfl) (r:=((n.natAbs:Nat):Int)) (by rw [IntKind.wrap_u64,IntKind.wrap_i64]; omega)) ?_
  refine ro rfl (cZ Tryz.call268 (yT zo) ⟨(Ht rfl),trivial⟩) (ro rfl (rX cV (Ht rfl)) (gJ Z_129 (Ht rfl) (Ht rfl) rfl (i:=0) rfl (aK rfl) rfl rfl (eZ (fK rfl (fJ (fY A_129 Z_129 rfl (i:=0) rfl rfl) ?_)))))
  exact (qD (by rw [hb]; rfl))
 ·have hn : ¬ n < 0 := by simpa using hb
  refine cU (ts (rm rfl (ro rfl (sA U_2 U_254 (Ht rfl) (r:=((n.natAbs:Nat):Int)) (by rw [IntKind.wrap_u64]; omega)) ?_)))
  refine ro rfl (cZ Tryz.call268 (yT zo) ⟨(Ht rfl),trivial⟩) (ro rfl (rX cV (Ht rfl)) (gJ Z_129 (Ht rfl) (Ht rfl) rfl (i:=0) rfl (aK rfl) rfl rfl (eZ (fK rfl (fJ (fY A_129 Z_129 rfl (i:=0) rfl rfl) ?_)))))
  exact (qD (by rw [hb]; rfl))
theorem Bp {x:Int}:bB Tryz.prog 228 [gL x] (gL (-x)):=by
 refine bB.intro Tryz.func228 rfl Tryz.ntmps228 rfl (fun cx=>(ts (rn rfl (fU (Ht rfl)) fun B1=>(rn rfl (eG (Ts:=[Is (.bool false),Is (.slice none 0 0)]) O_129 rfl (fun V=>aW zd (aW zd (aG)))) fun B2=>(eZ (ts (ro rfl (eJ oI (Ht rfl) rfl) (ro rfl (fQ A_4 Z_4 (Ht rfl) (i:=0) rfl rfl) (ro rfl (eH (Ht rfl)) (ro rfl (eJ kJ (Ht rfl) rfl) (ro rfl (fQ A_46 Z_46 (Ht rfl) (i:=0) rfl rfl) (ro rfl (cZ Tryz.call266 vP ⟨(Ht rfl),(Ht rfl),trivial⟩) ?_))))))))))))
 refine gJ Z_129 (Ht rfl) (Ht rfl) rfl (i:=1) rfl (aK rfl) rfl rfl (eZ (fK rfl (fJ (fY A_129 Z_129 rfl (i:=1) rfl rfl) ?_)))
 exact (oD (Bo x))
theorem Lw {A B:Int} {D:Nat} (hD:0 < D) (hA:(dg A.natAbs).length ≤ 17592186044415) (hB:(dg B.natAbs).length ≤ 17592186044415) (hD2:(dg D).length ≤ 17592186044415):bB Tryz.prog 224 [gL A,gL B,aH D] (QT (Qi.mk' A B D)):=by
 have hg1:=yS hA hB
 have hg2:=yS hg1 hD2
 have hgp:Nat.gcd (Nat.gcd A.natAbs B.natAbs) D ≠ 0:=fun e=>by have:=Nat.gcd_eq_zero_iff.1 e; omega
 refine bB.intro Tryz.func224 rfl Tryz.ntmps224 rfl (fun cx=>(ts (rn rfl (fU (Ht rfl)) fun B3=>(rn rfl (fU (Ht rfl)) fun B4=>(rn rfl (eG (Ts:=[Is (.bool false),Is (.slice none 0 0),Is (.bool false),Is (.slice none 0 0),Is (.slice none 0 0)]) O_131 rfl (fun V=>aW zd (aW zd (aW zd (aW zd (aW zd (aG))))))) fun B6=>(eZ (ts (ro rfl (eJ kJ (Ht rfl) rfl) (ro rfl (fQ A_46 Z_46 (Ht rfl) (i:=0) rfl rfl) ?_)))))))))
 refine ro rfl (eJ kJ (Ht rfl) rfl) (ro rfl (fQ A_46 Z_46 (Ht rfl) (i:=1) rfl rfl) (ro rfl (cZ Tryz.call264 (Jj zo zo) ⟨(Ht rfl),(Ht rfl),trivial⟩) (rm rfl (ro rfl (cZ Tryz.call264 (Jj zo zo) ⟨(Ht rfl),(Ht rfl),trivial⟩) (ra rfl (eZ (cK (ts (rm rfl (ro rfl (dK U_46 (Ht rfl) aA) (ro rfl (cB (Ht rfl) (cJ 1)) (rm rfl (fX rfl rfl (eU rfl rfl (Ht rfl) (fun h=>cX (Ht rfl))) (fX rfl rfl (eU rfl rfl (Ht rfl) (fun h=>dZ U_46 Z_189 (fW rfl h) (cJ 0) rfl (eQ (aI (by first | omega | (simp at h; omega)))))) ?_))))))))))))))
 refine fX rfl rfl (eU rfl rfl (Ht rfl) (fun h=>dV A_189 Z_189 (fW rfl h))) (fX rfl rfl (eU rfl rfl (Ht rfl) (fun h=>cB (fW rfl h) (cJ 1))) (ro rfl (eA (Ht rfl) (fun h=>(fW rfl h))) (eZ (dQ (Ht rfl) (fun hb=>?_) (fun hb=>?_)))))
 ·rw [Cp] at hb
  have hg:Qi.g3 A B D = 1:=by simpa [Qi.g3] using hb
  refine ts (ro rfl (eW A_129 Z_129 (Ht rfl) (i:=0) rfl rfl rfl) (ro rfl (eW A_129 Z_129 (Ht rfl) (i:=1) rfl rfl rfl) (rm rfl (ro rfl (sW (Ht rfl) (Ht rfl) (Ht rfl)) (gJ Z_131 (Ht rfl) (Ht rfl) rfl (i:=2) rfl (aK rfl) rfl rfl (eZ (fK rfl (fJ (fY A_131 Z_131 rfl (i:=2) rfl rfl) ?_))))))))
  exact (Ue hD hg)
 ·refine cU (ts (ro rfl (eJ kJ (Ht rfl) rfl) (ro rfl (fQ A_46 Z_46 (Ht rfl) (i := 0) rfl rfl) (rm rfl (ro rfl (cZ K_265 (wO zo zo zo) ⟨(Ht rfl), (Ht rfl), trivial⟩) (rm rfl (ro rfl (dU (Ht rfl) rfl) (ro rfl (dU (Ht rfl) rfl) (ra rfl (ra rfl (eZ (ts (ro rfl (eJ kJ (Ht rfl) rfl) (ro rfl (fQ A_46 Z_46 (Ht rfl) (i := 1) rfl rfl) (rm rfl (ro rfl (cZ K_265 (wO zo zo zo) ⟨(Ht rfl), (Ht rfl), trivial⟩) (rm rfl (ro rfl (dU (Ht rfl) rfl) ?_))))))))))))))))))
  refine ro rfl (dU (Ht rfl) rfl) (ra rfl (ra rfl (eZ (ts (rm rfl (rm rfl (ro rfl (cZ K_265 (wO zo zo zo) ⟨(Ht rfl),(Ht rfl),trivial⟩) (rm rfl (ro rfl (dU (Ht rfl) rfl) (ro rfl (dU (Ht rfl) rfl) (ra rfl (ra rfl (eZ (cK (fV (m:=9) (dp 3 rfl (eJ oI (Ht rfl) rfl) (dq 54 0 rfl (fQ A_4 Z_4 (Ht rfl) (i:=0) rfl rfl) (dp 8 rfl (cX (Ht rfl)) (dS 55 1 56 2 rfl (cZ Tryz.call266 vP ⟨(Ht rfl),(Ht rfl),trivial⟩) (dp 4 rfl (eJ oI (Ht rfl) rfl) ?_))))))))))))))))))))
  refine dq 58 4 rfl (fQ A_4 Z_4 (Ht rfl) (i:=1) rfl rfl) (dp 10 rfl (cX (Ht rfl)) (dS 59 5 60 6 rfl (cZ Tryz.call266 vP ⟨(Ht rfl),(Ht rfl),trivial⟩) (dp 12 rfl (cX (Ht rfl)) (fG bF rfl (by kernel_rfl) (zF (zF (aJ (aV (ro rfl (sW (Ht rfl) (Ht rfl) (Ht rfl)) (gJ Z_131 (Ht rfl) (Ht rfl) rfl (i:=2) rfl (aK rfl) rfl rfl (eZ (fK rfl (fJ (fY A_131 Z_131 rfl (i:=2) rfl rfl) ?_)))))))))))))
  exact (Tz hD rfl)
theorem a13 {p q d:Int} (p1:-9223372036854775808 ≤ p) (p2:p ≤ 9223372036854775807) (q1:-9223372036854775808 ≤ q) (q2:q ≤ 9223372036854775807) (d1:-9223372036854775808 ≤ d) (d2:d ≤ 9223372036854775807) (hd:d ≠ 0):bB Tryz.prog 145 [aD .i64 p,aD .i64 q,aD .i64 d] (dN [QT (Qi.frac p q d),aD .i64 0]):=by
 have lp:=Ph p1 p2; have lq:=Ph q1 q2; have ld:=Ph d1 d2; have np:=tO p; have nq:=tO q
 refine bB.intro Tryz.func145 rfl Tryz.ntmps145 rfl (fun cx=>(ts (rn rfl (eG (Ts:=[Is (.bool false),Is (.slice none 0 0),Is (.bool false),Is (.slice none 0 0),Is (.slice none 0 0)]) O_131 rfl (fun V=>aW zd (aW zd (aW zd (aW zd (aW zd (aG))))))) fun B6=>(ro rfl (cQ (cJ 0)) (eZ (cK (ts (rm rfl (ro rfl (iW (Ht rfl) cV) (eZ (fN (Ht rfl) (by simp [hd]) ?_)))))))))))
 refine cU (ts (rm rfl (ro rfl (cZ Tryz.call227 (zN d1 d2) ⟨(Ht rfl),trivial⟩) (rn rfl (eG (Ts:=[Is (.bool false),Is (.slice none 0 0)]) O_129 rfl (fun V=>aW zd (aW zd (aG)))) fun B8=>(gJ Z_129 (Ht rfl) (Ht rfl) rfl (i:=1) rfl (aK rfl) rfl rfl (eZ (ts (rm rfl (ro rfl (cZ Tryz.call227 (zN p1 p2) ⟨(Ht rfl),trivial⟩) (rm rfl (ro rfl (cZ Tryz.call227 (zN q1 q2) ⟨(Ht rfl),trivial⟩) (rn rfl (eG (Ts:=[Is (.bool false),Is (.slice none 0 0)]) O_129 rfl (fun V=>aW zd (aW zd (aG)))) fun B9=>?_))))))))))))
 refine rn rfl (eG (Ts:=[Is (.bool false),Is (.slice none 0 0)]) O_129 rfl (fun V=>aW zd (aW zd (aG)))) fun B10=>gJ Z_129 (Ht rfl) (Ht rfl) rfl (i:=2) rfl (aK rfl) rfl rfl (gJ Z_129 (Ht rfl) (Ht rfl) rfl (i:=3) rfl (aK rfl) rfl rfl (eZ (cK (qM (fun (a:Int) (b:Int)=>Qi.mk' a b d.natAbs = Qi.frac p q d ∧ (dg a.natAbs).length ≤ 2 ∧ (dg b.natAbs).length ≤ 2) (fun (a:Int) (b:Int)=>[(6,bO B6 0),(8,bO B8 0),(9,bO B9 0),(10,bO B10 0)]) (fun (a:Int) (b:Int)=>[box B6 131 [Is (.bool false),Is (.slice none 0 0),Is (.bool false),Is (.slice none 0 0),Is (.slice none 0 0)],box B8 129 [aC (decide (d < 0)),aH (d).natAbs],box B9 129 [aC (decide (a < 0)),aH (a).natAbs],box B10 129 [aC (decide (b < 0)),aH (b).natAbs]]) ?_ (fun a b ⟨hab,ha,hb⟩=>?_)))))
 ·refine ts (ro rfl (eJ oI (Ht rfl) rfl) (ro rfl (fQ A_4 Z_4 (Ht rfl) (i := 1) rfl rfl) (eZ (dQ (Ht rfl) (fun hn => ?_) (fun hn => ?_)))))
  ·simp only [decide_eq_true_eq] at hn
   refine fV (m:=3) (dp 9 rfl (eW A_129 Z_129 (Ht rfl) (i:=2) rfl rfl rfl) (dq 22 0 rfl (cZ Tryz.call228 Bp ⟨(Ht rfl),trivial⟩) (dp 10 rfl (eW A_129 Z_129 (Ht rfl) (i:=3) rfl rfl rfl) (fG bF rfl (by kernel_rfl) (aJ (aJ (aJ (aV (ro rfl (cZ Tryz.call228 Bp ⟨(Ht rfl),trivial⟩) (gJ Z_129 (Ht rfl) (Ht rfl) rfl (i:=2) rfl (aK rfl) rfl rfl (gJ Z_129 (Ht rfl) (Ht rfl) rfl (i:=3) rfl (aK rfl) rfl rfl (eZ (aT (-p,-q) ⟨Qi.frac_neg hn,by dsimp only; omega,by dsimp only; omega⟩ (zS rfl) (aU (aB rfl) (aU (aB rfl) (aU (aB rfl) (aU (aB rfl) aY)))))))))))))))))
  ·simp only [decide_eq_false_iff_not] at hn
   refine cU (aT (p,q) ⟨Qi.frac_pos hn hd,by omega,by omega⟩ (zS rfl) (dL.refl _))
 ·refine ts (ro rfl (eW A_129 Z_129 (Ht rfl) (i := 2) rfl rfl rfl) (ro rfl (eW A_129 Z_129 (Ht rfl) (i := 3) rfl rfl rfl) (ro rfl (eJ kJ (Ht rfl) rfl) (ro rfl (fQ A_46 Z_46 (Ht rfl) (i := 1) rfl rfl) (ro rfl (cZ Tryz.call224 (Lw zo zo zo zo) ⟨(Ht rfl), (Ht rfl), (Ht rfl), trivial⟩) (gJ Z_131 (Ht rfl) (Ht rfl) rfl (i := 0) rfl (aK rfl) rfl rfl (ro rfl (cQ (cJ 0)) (eZ (bI rfl (fJ (fY A_131 Z_131 rfl (i := 0) rfl rfl) ?_) (eY rfl))))))))))
  exact (a36 hab)
theorem a2q {r:Rt}:bB Tryz.prog 151 [lZ r] (QT r.q):=by
 have hr1:=r.h1; have hr2:=r.h2; have hr3:=r.h3; have hr4:=r.h4; have hr5:=r.d1; have hr6:=r.d2; have hr0:=r.d0
 refine bB.intro Tryz.func151 rfl Tryz.ntmps151 rfl (fun cx=>(ts (rn rfl (fU (Ht rfl)) fun B1=>(rn rfl (eG (Ts:=[Is (.bool false),Is (.slice none 0 0),Is (.bool false),Is (.slice none 0 0),Is (.slice none 0 0)]) O_131 rfl (fun V=>aW zd (aW zd (aW zd (aW zd (aW zd (aG))))))) fun B2=>(eZ (cK (jG (fun (uu:Unit)=>True) (fun (uu:Unit)=>[(1,bO B1 0),(2,bO B2 0)]) (fun (uu:Unit)=>[box B1 102 [aD .i64 r.re,aD .i64 r.im,aD .i64 r.d],box B2 131 [Is (.bool false),Is (.slice none 0 0),Is (.bool false),Is (.slice none 0 0),Is (.slice none 0 0)]]) ?_ (fun uu _=>?_))))))))
 ·refine ts (ro rfl (eJ mU (Ht rfl) rfl) (ro rfl (fQ A_2 Z_2 (Ht rfl) (i := 0) rfl rfl) (ro rfl (iW (Ht rfl) cV) (eZ (dQ (Ht rfl) (fun hb => ?_) (fun hb => ?_))))))
  ·simp only [decide_eq_true_eq] at hb
   refine cY (ro rfl (eJ mU (Ht rfl) rfl) (jL Z_2 (Ht rfl) (cJ 1) (i:=0) rfl (aK rfl) rfl (eZ (aT () trivial (zS rfl) (aU (aB (by rw [Rt.d,if_pos hb]; rfl)) (aU (aB rfl) aY))))))
  ·simp only [decide_eq_false_iff_not] at hb
   refine cU (aT () trivial (zS rfl) (aU (aB (by rw [Rt.d,if_neg hb])) (aU (aB rfl) aY)))
 ·refine ts (ro rfl (eJ oB (Ht rfl) rfl) (ro rfl (fQ A_2 Z_2 (Ht rfl) (i := 0) rfl rfl) (ro rfl (eJ yY (Ht rfl) rfl) (ro rfl (fQ A_2 Z_2 (Ht rfl) (i := 0) rfl rfl) (ro rfl (eJ mU (Ht rfl) rfl) (ro rfl (fQ A_2 Z_2 (Ht rfl) (i := 0) rfl rfl) (ro rfl (cZ Tryz.call145 (a13 hr1 hr2 hr3 hr4 hr5 hr6 hr0) ⟨(Ht rfl), (Ht rfl), (Ht rfl), trivial⟩) (rm rfl (ro rfl (dU (Ht rfl) rfl) (ro rfl (dU (Ht rfl) rfl) (rn rfl (eG (Ts := [Is (.bool false), Is (.slice none 0 0), Is (.bool false), Is (.slice none 0 0), Is (.slice none 0 0)]) O_131 rfl (fun V => aW zd (aW zd (aW zd (aW zd (aW zd (aG))))))) fun B3 => ?_)))))))))))
  refine gJ Z_131 (Ht rfl) (Ht rfl) rfl (i:=2) rfl (aK rfl) rfl rfl (ra rfl (eZ (ts (ro rfl (eW A_131 Z_131 (Ht rfl) (i:=2) rfl rfl rfl) (gJ Z_131 (Ht rfl) (Ht rfl) rfl (i:=1) rfl (aK rfl) rfl rfl (eZ ?_))))))
  exact fK rfl (fY A_131 Z_131 rfl (i:=1) rfl rfl)
theorem a2W {x:Qi} {L:Nat} [hx:aN x L] (h:L ≤ 17592186044415):bB Tryz.prog 274 [QT x] (QT x.imp):=by
 have hxa:=mS hx.fit; have hxb:=nB hx.fit; have hxd:=mR hx.fit
 have hxp:=x.den_pos
 have h5:(dg (0:Int).natAbs).length ≤ 0:=by rw [show (0:Int).natAbs = 0 from rfl,eB]; exact Nat.le_refl _
 refine bB.intro Tryz.func274 rfl Tryz.ntmps274 rfl (fun cx=>(ts (rn rfl (fU (Ht rfl)) fun B1=>(rn rfl (eG (Ts:=[Is (.bool false),Is (.slice none 0 0),Is (.bool false),Is (.slice none 0 0),Is (.slice none 0 0)]) O_131 rfl (fun V=>aW zd (aW zd (aW zd (aW zd (aW zd (aG))))))) fun B2=>(eZ (ts (ro rfl (eJ pN (Ht rfl) rfl) (ro rfl (eW A_129 Z_129 (Ht rfl) (i:=0) rfl rfl rfl) (ro rfl (aF.imp (Sf ) Ae) ?_)))))))))
 refine ro rfl (eJ oK (Ht rfl) rfl) (ro rfl (fQ A_46 Z_46 (Ht rfl) (i:=0) rfl rfl) (ro rfl (cZ Tryz.call224 (Lw (by first | assumption | omega) zo zo zo) ⟨(Ht rfl),(Ht rfl),(Ht rfl),trivial⟩) (gJ Z_131 (Ht rfl) (Ht rfl) rfl (i:=1) rfl (aK rfl) rfl rfl (eZ (fK rfl (fJ (fY A_131 Z_131 rfl (i:=1) rfl rfl) ?_))))))
 exact (a36 (Qi.mk_im0 x))
theorem Mc {x:Qi}:bB Tryz.prog 239 [QT x] (aD .i64 (nE x.a 0)):=by
 refine bB.intro Tryz.func239 rfl Tryz.ntmps239 rfl (fun cx=>(ts (rn rfl (fU (Ht rfl)) fun B1=>(ro rfl (cQ (cJ 0)) (eZ (cK (ts (ro rfl (eJ pS (Ht rfl) rfl) (ro rfl (eJ oI (Ht rfl) rfl) (ro rfl (fQ A_4 Z_4 (Ht rfl) (i:=0) rfl rfl) (eZ (dQ (Ht rfl) (fun hb=>?_) (fun hb=>?_)))))))))))))
 ·simp only [decide_eq_true_eq] at hb
  refine ts (ro rfl (cQ cV) (eZ (fK rfl (fJ (eY rfl) ?_))))
  exact (aM (by rw [nE,if_pos hb]))
 ·simp only [decide_eq_false_iff_not] at hb
  refine cU (cK (ts (ro rfl (eJ pS (Ht rfl) rfl) (ro rfl (eJ kJ (Ht rfl) rfl) (ro rfl (fQ A_46 Z_46 (Ht rfl) (i:=0) rfl rfl) (ro rfl (dK U_46 (Ht rfl) aA) (ro rfl (eT (Ht rfl) (cJ 0)) (eZ (dQ (Ht rfl) (fun hc=>?_) (fun hc=>?_))))))))))
  ·simp only [decide_eq_true_eq] at hc
   have h0:x.a ≠ 0:=fun e=>by rw [e] at hc; simp [eB] at hc
   refine ts (ro rfl (cQ (cJ 1)) (eZ (fK rfl (fJ (eY rfl) ?_))))
   exact (aM (by rw [nE,if_neg hb,if_pos zo]; rfl))
  ·simp only [decide_eq_false_iff_not] at hc
   have h0:x.a = 0:=by have:=aL.1 (Nat.eq_zero_of_not_pos hc); omega
   refine cU (ts (ro rfl (cQ (cJ 0)) (eZ (fK rfl (fJ (eY rfl) ?_)))))
   exact (aM (by rw [nE,if_neg hb,if_neg zo]; rfl))
theorem Zd {x:Qi} {L:Nat} [hx:aN x L] (h:L ≤ 17592186044415):bB Tryz.prog 242 [QT x] (aD .i64 (nE x.b 0)):=by
 refine bB.intro Tryz.func242 rfl Tryz.ntmps242 rfl (fun cx=>(ts (rn rfl (fU (Ht rfl)) fun B1=>(ro rfl (cQ (cJ 0)) (eZ (ts (ro rfl (eW A_131 Z_131 (Ht rfl) (i:=0) rfl rfl rfl) (ro rfl (cZ Tryz.call274 (a2W zo) ⟨(Ht rfl),trivial⟩) (ro rfl (cZ Tryz.call239 Mc ⟨(Ht rfl),trivial⟩) (ra rfl (eZ (fK rfl (fJ (eY rfl) ?_)))))))))))))
 exact (aM (Yw x))
theorem xE {x y:Qi} {L M:Nat} [hx:aN x L] [hy:aN y M] (h:L + 3 * M + 2 ≤ 17592186044415):bB Tryz.prog 40 [aE x,aE y] (dN [aE (x / y),aD .i64 (if y = Qi.zero then 3 else 0)]):=by
 have hxa:=mS hx.fit; have hxb:=nB hx.fit; have hxd:=mR hx.fit
 have hya:=mS hy.fit; have hyb:=nB hy.fit; have hyd:=mR hy.fit
 have hxp:=x.den_pos; have hyp:=y.den_pos; have hMp:=hy.pos
 refine bB.intro Tryz.func40 rfl Tryz.ntmps40 rfl (fun cx=>(ts (rn rfl (fU (Ht rfl)) fun B2=>(rn rfl (fU (Ht rfl)) fun B3=>(rn rfl (eG (Ts:=[Is (.bool false),Is (.slice none 0 0),Is (.bool false),Is (.slice none 0 0),Is (.slice none 0 0)]) O_51 rfl (fun V=>aW zd (aW zd (aW zd (aW zd (aW zd (aG))))))) fun B4=>(ro rfl (cQ (cJ 0)) (eZ (cK (ts (ro rfl (eW A_51 Z_51 (Ht rfl) (i:=1) rfl rfl rfl) ?_))))))))))
 refine ro rfl (cZ K_27 (sE zo) ⟨(Ht rfl),trivial⟩) (ro rfl (eH (Ht rfl)) (eZ (dQ (Ht rfl) (fun hb=>?_) (fun hb=>?_))))
 ·have h0 : y = Qi.zero := by simpa using hb
  refine ts (ro rfl (aF.imp (Dk ) uI) (gJ Z_51 (Ht rfl) (Ht rfl) rfl (i:=2) rfl (aK rfl) rfl rfl (ro rfl (cQ (cJ 3)) (eZ (bI rfl (fJ (fY A_51 Z_51 rfl (i:=2) rfl rfl) ?_) (fJ (eY rfl) ?_))))))
  ·exact (gP (by rw [h0,Qi.div_zero]))
  ·exact (aM (by rw [if_pos h0]; rfl))
 ·have h0 : y ≠ Qi.zero := by simpa using hb
  have g1:=nW y.a y.a; have g2:=nW y.b y.b; have g3:=tO y.b
  have g4:=nY (x:=y.a * y.a) (y:=y.b * y.b) (L:=M + M) zo zo
  obtain ⟨c,hc⟩:∃ c,c = Qi.mk' y.a (-y.b) 1:=⟨_,rfl⟩
  obtain ⟨z,hz⟩:∃ z,z = x * c:=⟨_,rfl⟩
  have l1:(dg 1).length ≤ 1:=by rw [Uf (by decide) (by decide)]; exact Nat.le_refl _
  haveI fc:aN c M:=hc ▸ ⟨Qi.Fit.mk (by decide) hy.fit.1 (by rw [Int.natAbs_neg]; exact hy.fit.2.1) (Qi.one_lt hMp)⟩
  haveI fz:aN z (L + M + 1):=hz ▸ fitMul
  have hza:=mS fz.fit; have hzb:=nB fz.fit; have hzd:=mR fz.fit
  have hnp:=Qi.nrm_int_pos h0
  have hm:(((y.a * y.a + y.b * y.b).natAbs:Nat):Int) = y.a * y.a + y.b * y.b:=Int.natAbs_of_nonneg zo
  have hdp2:=Nat.mul_pos z.den_pos (show 0 < (y.a * y.a + y.b * y.b).natAbs by omega)
  have e1:=gU z.a y.den; have e2:=gU z.b y.den; have e3:=yR z.den (y.a * y.a + y.b * y.b).natAbs
  refine cU (cK (fV (m:=12) (dp 3 rfl (eJ gT (Ht rfl) rfl) (dq 12 0 rfl (eW A_49 Z_49 (Ht rfl) (i:=1) rfl rfl rfl) (dp 3 rfl (eJ gT (Ht rfl) rfl) (dq 14 2 rfl (eW A_49 Z_49 (Ht rfl) (i:=1) rfl rfl rfl) (dS 13 1 15 3 rfl (cZ K_132 (sN zo zo) ⟨(Ht rfl),(Ht rfl),trivial⟩) (dp 3 rfl (eJ iK (Ht rfl) rfl) (dq 17 5 rfl (eW A_49 Z_49 (Ht rfl) (i:=1) rfl rfl rfl) (dp 3 rfl (eJ iK (Ht rfl) rfl) (dq 19 7 rfl (eW A_49 Z_49 (Ht rfl) (i:=1) rfl rfl rfl) ?_)))))))))))
  refine dS 18 6 20 8 rfl (cZ K_132 (sN zo zo) ⟨(Ht rfl),(Ht rfl),trivial⟩) (dS 16 4 21 9 rfl (cZ K_133 (vL zo zo) ⟨(Ht rfl),(Ht rfl),trivial⟩) (C.D_new (Ei:=[]) rfl rfl rfl bW (eG (Ts:=[Is (.bool false),Is (.slice none 0 0)]) O_49 rfl (fun V=>aW zd (aW zd (aG)))) (fG bF rfl (by kernel_rfl) (zF (zF (aJ (aJ (aJ (C.F_new (fun B6=>aV (gJ Z_49 (Ht rfl) (Ht rfl) rfl (i:=3) rfl (aK rfl) rfl rfl ?_)))))))))))
  refine eZ (cK (fV (m:=10) (dp 2 rfl (eW A_51 Z_51 (Ht rfl) (i:=0) rfl rfl rfl) (dp 3 rfl (eJ gT (Ht rfl) rfl) (dq 24 1 rfl (eW A_49 Z_49 (Ht rfl) (i:=1) rfl rfl rfl) (dp 3 rfl (eJ iK (Ht rfl) rfl) (dq 26 3 rfl (eW A_49 Z_49 (Ht rfl) (i:=1) rfl rfl rfl) (dq 27 4 rfl (cZ K_135 qI ⟨(Ht rfl),trivial⟩) (d0 rfl (aF.imp (dH (xs:=[_]) U_47 Z_189 O_189 (cW (cJ 1) cG) rfl rfl rfl) Gm) (C.D_step (Ei:=[(25,_),(28,_),(29,_)]) rfl rfl (bV (bG 2 rfl rfl) (bV (bG 5 rfl rfl) (bV (bG 6 rfl rfl) bW))) (dX rfl (aF.imp (cZ K_134 (vX (by first | assumption | omega) zo zo zo) ⟨(Ht rfl),(Ht rfl),(Ht rfl),trivial⟩) (gP hc.symm))) ?_))))))))))
  refine dS 23 0 30 7 rfl (aF.imp (cZ K_45 (kW zo) ⟨(Ht rfl),(Ht rfl),trivial⟩) (gP hz.symm)) (C.D_new (Ei:=[]) rfl rfl rfl bW (eG (Ts:=[Is (.bool false),Is (.slice none 0 0),Is (.bool false),Is (.slice none 0 0),Is (.slice none 0 0)]) O_51 rfl (fun V=>aW zd (aW zd (aW zd (aW zd (aW zd (aG))))))) (fG bF rfl (by kernel_rfl) (zF (zF (aJ (C.F_new (fun B7=>aV ?_)))))))
  refine gJ Z_51 (Ht rfl) (Ht rfl) rfl (i:=4) rfl (aK rfl) rfl rfl (eZ (cK (fV (m:=14) (dp 7 rfl (eJ gT (Ht rfl) rfl) (dq 32 0 rfl (eW A_49 Z_49 (Ht rfl) (i:=4) rfl rfl rfl) (dp 3 rfl (eW A_51 Z_51 (Ht rfl) (i:=1) rfl rfl rfl) (dq 34 2 rfl (cZ K_137 oV ⟨(Ht rfl),trivial⟩) (dS 33 1 35 3 rfl (cZ K_136 (kV zo zo) ⟨(Ht rfl),(Ht rfl),trivial⟩) (dp 7 rfl (eJ iK (Ht rfl) rfl) (dq 37 5 rfl (eW A_49 Z_49 (Ht rfl) (i:=4) rfl rfl rfl) ?_))))))))))
  refine dp 3 rfl (eW A_51 Z_51 (Ht rfl) (i:=1) rfl rfl rfl) (dq 39 7 rfl (cZ K_137 oV ⟨(Ht rfl),trivial⟩) (dS 38 6 40 8 rfl (cZ K_136 (kV zo zo) ⟨(Ht rfl),(Ht rfl),trivial⟩) (dp 7 rfl (eW A_51 Z_51 (Ht rfl) (i:=4) rfl rfl rfl) (dq 42 10 rfl (cZ K_137 oV ⟨(Ht rfl),trivial⟩) (dp 6 rfl (eJ eS (Ht rfl) rfl) (dq 44 12 rfl (fQ A_47 Z_47 (Ht rfl) (i:=3) rfl rfl) (fG bF rfl (by kernel_rfl) (zF (zF (zF (aJ (aJ (aV ?_)))))))))))))
  refine ro rfl (cZ Tryz.call138 (Gp zo zo) ⟨(Ht rfl),(Ht rfl),trivial⟩) (ro rfl (cZ K_134 (vX (by first | assumption | omega) zo zo zo) ⟨(Ht rfl),(Ht rfl),(Ht rfl),trivial⟩) (gJ Z_51 (Ht rfl) (Ht rfl) rfl (i:=2) rfl (aK rfl) rfl rfl (ro rfl (cQ (cJ 0)) (eZ (bI rfl (fJ (fY A_51 Z_51 rfl (i:=2) rfl rfl) ?_) (fJ (eY rfl) ?_))))))
  ·exact (gP (Qi.mk_divP x h0 (hc ▸ hz) hm))
  ·exact (aM (by rw [if_neg h0]; rfl))
theorem sP {a:Int} {d:Nat} (hd:0 < d) (ha:(dg a.natAbs).length ≤ 8796093022208) (hd2:(dg d).length ≤ 8796093022208):bB Tryz.prog 243 [gL a,aH d] (pG (rC a d)):=by
 have hg:=yS ha hd2
 have hg0:Nat.gcd a.natAbs d ≠ 0:=fun e=>by have:=Nat.gcd_eq_zero_iff.1 e; omega
 have h1:=Ds a.natAbs (Nat.gcd a.natAbs d); have h2:=Ds d (Nat.gcd a.natAbs d)
 rw [Xp a hd]
 obtain ⟨u,hu⟩:∃ u,u = a.natAbs / Nat.gcd a.natAbs d:=⟨_,rfl⟩
 obtain ⟨v,hv⟩:∃ v,v = d / Nat.gcd a.natAbs d:=⟨_,rfl⟩
 rw [← hu,← hv]
 rw [← hu] at h1
 rw [← hv] at h2
 have h3:=qA u; have h4:=qA v
 refine bB.intro Tryz.func243 rfl Tryz.ntmps243 rfl (fun cx=>(ts (rn rfl (fU (Ht rfl)) fun B2=>(ro rfl (cQ (bC.cS (l:=[]) rfl)) (eZ (ts (ro rfl (eJ kJ (Ht rfl) rfl) (ro rfl (fQ A_46 Z_46 (Ht rfl) (i:=0) rfl rfl) (rm rfl (ro rfl (cZ Tryz.call264 (Jj zo zo) ⟨(Ht rfl),(Ht rfl),trivial⟩) (ra rfl (eZ (ts (ro rfl (eJ kJ (Ht rfl) rfl) (ro rfl (fQ A_46 Z_46 (Ht rfl) (i:=0) rfl rfl) (rm rfl (ro rfl (cZ K_265 (wO zo zo zo) ⟨(Ht rfl),(Ht rfl),trivial⟩) ?_)))))))))))))))))
 refine rm rfl (ro rfl (aF.imp (dU (Ht rfl) rfl) (dB hu.symm)) (ro rfl (dU (Ht rfl) rfl) (ra rfl (ra rfl (eZ (ts (rm rfl (rm rfl (ro rfl (cZ K_265 (wO zo zo zo) ⟨(Ht rfl),(Ht rfl),trivial⟩) (rm rfl (ro rfl (aF.imp (dU (Ht rfl) rfl) (dB hv.symm)) (ro rfl (dU (Ht rfl) rfl) (ra rfl (ra rfl (eZ (ts (rm rfl (ro rfl (cZ Tryz.call275 (La zo) ⟨(Ht rfl),trivial⟩) (ra rfl (eZ (cK (jG (fun (uu:Unit)=>True) (fun (uu:Unit)=>[(8,aH v),(10,pG (if a < 0 then 45 :: sZ u else sZ u))]) (fun (uu:Unit)=>[box B2 129 [aC (decide (a < 0)),aH (a).natAbs]]) ?_ (fun uu _=>?_)))))))))))))))))))))))
 ·refine ts (ro rfl (eJ oI (Ht rfl) rfl) (ro rfl (fQ A_4 Z_4 (Ht rfl) (i := 0) rfl rfl) (eZ (dQ (Ht rfl) (fun hb => ?_) (fun hb => ?_)))))
  ·simp only [decide_eq_true_eq] at hb
   refine cY (rm rfl (ro rfl (jW (bC.cS (l:=[45]) rfl) (Ht rfl) (by first | omega | (simp; omega))) (ra rfl (eZ (aT () trivial (aQ rfl (aZ rfl (jF (by rw [if_pos hb]; rfl)) aX)) (dL.refl _))))))
  ·simp only [decide_eq_false_iff_not] at hb
   refine cU (aT () trivial (aQ rfl (aZ rfl (jF (by rw [if_neg hb])) aX)) (dL.refl _))
 ·have h6 : (if a < 0 then 45 :: sZ u else sZ u).length ≤ (sZ u).length + 1 := by split <;> simp
  refine cK (ts (rm rfl (ro rfl (dK U_46 (Ht rfl) aA) (ro rfl (cB (Ht rfl) (cJ 1)) (rm rfl (fX rfl rfl (eU rfl rfl (Ht rfl) (fun h=>cX (Ht rfl))) (fX rfl rfl (eU rfl rfl (Ht rfl) (fun h=>dZ U_46 Z_189 (fW rfl h) (cJ 0) rfl (eQ (aI (by first | omega | (simp at h; omega)))))) (fX rfl rfl (eU rfl rfl (Ht rfl) (fun h=>dV A_189 Z_189 (fW rfl h))) (fX rfl rfl (eU rfl rfl (Ht rfl) (fun h=>cB (fW rfl h) (cJ 1))) (ro rfl (eA (Ht rfl) (fun h=>(fW rfl h))) ?_))))))))))
  refine eZ (dQ (Ht rfl) (fun hc=>?_) (fun hc=>?_))
  ·rw [Cp] at hc
   have hv1:v = 1:=by simpa using hc
   refine ts (rm rfl (ra rfl (eZ (fK rfl (fJ (eY rfl) ?_)))))
   exact (jF (by rw [if_pos hv1,List.append_nil]))
  ·rw [Cp] at hc
   have hv1:v ≠ 1:=by simpa using hc
   refine cU (ts (rm rfl (ro rfl (jW (Ht rfl) (bC.cS (l:=[47]) rfl) (by simp only [List.length_cons,List.length_nil]; omega)) ?_)))
   refine rm rfl (ro rfl (cZ Tryz.call275 (La zo) ⟨(Ht rfl),trivial⟩) (ro rfl (jW (Ht rfl) (Ht rfl) (by simp only [List.length_append,List.length_cons,List.length_nil]; omega)) ?_))
   refine ra rfl (eZ (fK rfl (fJ (eY rfl) ?_)))
   exact (jF (by rw [if_neg hv1,List.append_assoc]; rfl))
theorem a0J {x:Qi} {L:Nat} [hx:aN x L] (h:L ≤ 8796093022208):bB Tryz.prog 181 [QT x] (pG (Ps x)):=by
 have hxa:=mS hx.fit; have hxb:=nB hx.fit; have hxd:=mR hx.fit
 have hdp:=x.den_pos
 have l1:=uK x.a hdp; have l2:=uK x.b hdp
 refine bB.intro Tryz.func181 rfl Tryz.ntmps181 rfl (fun cx=>(ts (rn rfl (fU (Ht rfl)) fun B1=>(ro rfl (cQ (bC.cS (l:=[]) rfl)) (eZ (cK (ts (ro rfl (eJ pN (Ht rfl) rfl) (ro rfl (eJ kJ (Ht rfl) rfl) (ro rfl (fQ A_46 Z_46 (Ht rfl) (i:=0) rfl rfl) (ro rfl (dK U_46 (Ht rfl) aA) (ro rfl (cB (Ht rfl) (cJ 0)) (eZ (dQ (Ht rfl) (fun hb=>?_) (fun hb=>?_)))))))))))))))
 ·simp only [decide_eq_true_eq] at hb
  have h0:x.b = 0:=by have:=aL.1 hb; omega
  refine ts (ro rfl (eJ pS (Ht rfl) rfl) (ro rfl (eW A_129 Z_129 (Ht rfl) (i:=0) rfl rfl rfl) (ro rfl (eJ oK (Ht rfl) rfl) (ro rfl (fQ A_46 Z_46 (Ht rfl) (i:=0) rfl rfl) (ro rfl (cZ K_243 (sP (by assumption) zo zo) ⟨(Ht rfl),(Ht rfl),trivial⟩) ?_)))))
  refine ra rfl (eZ (fK rfl (fJ (eY rfl) ?_)))
  exact (jF (by rw [Ps,if_pos h0]))
 ·simp only [decide_eq_false_iff_not] at hb
  have h0:x.b ≠ 0:=fun e=>hb (by rw [e]; exact aL.2 rfl)
  refine cU (cK (ts (ro rfl (eJ pS (Ht rfl) rfl) (ro rfl (eJ kJ (Ht rfl) rfl) (ro rfl (fQ A_46 Z_46 (Ht rfl) (i:=0) rfl rfl) (ro rfl (dK U_46 (Ht rfl) aA) (ro rfl (cB (Ht rfl) (cJ 0)) (eZ (dQ (Ht rfl) (fun hc=>?_) (fun hc=>?_))))))))))
  ·simp only [decide_eq_true_eq] at hc
   have h1:x.a = 0:=by have:=aL.1 hc; omega
   refine ts (ro rfl (eJ pN (Ht rfl) rfl) (ro rfl (eW A_129 Z_129 (Ht rfl) (i:=0) rfl rfl rfl) (ro rfl (eJ oK (Ht rfl) rfl) (ro rfl (fQ A_46 Z_46 (Ht rfl) (i:=0) rfl rfl) (ro rfl (cZ K_243 (sP (by assumption) zo zo) ⟨(Ht rfl),(Ht rfl),trivial⟩) ?_)))))
   refine ro rfl (jW (Ht rfl) (bC.cS (l:=[105]) rfl) (by first | omega | (simp only [List.length_append,List.length_cons,List.length_nil]; omega))) (ra rfl (eZ (fK rfl (fJ (eY rfl) ?_))))
   exact (jF (by rw [Ps,if_neg h0,if_pos h1]))
  ·simp only [decide_eq_false_iff_not] at hc
   have h1:x.a ≠ 0:=fun e=>hc (by rw [e]; exact aL.2 rfl)
   refine cU (cK (ts (ro rfl (eJ pN (Ht rfl) rfl) (ro rfl (eJ oI (Ht rfl) rfl) (ro rfl (fQ A_4 Z_4 (Ht rfl) (i:=0) rfl rfl) (eZ (dQ (Ht rfl) (fun hd=>?_) (fun hd=>?_))))))))
   ·simp only [decide_eq_true_eq] at hd
    refine cK (fV (m:=9) (dp 1 rfl (eJ pS (Ht rfl) rfl) (dq 27 0 rfl (eW A_129 Z_129 (Ht rfl) (i:=0) rfl rfl rfl) (dp 1 rfl (eJ oK (Ht rfl) rfl) (dq 29 2 rfl (fQ A_46 Z_46 (Ht rfl) (i:=0) rfl rfl) (dS 28 1 30 3 rfl (cZ K_243 (sP (by assumption) zo zo) ⟨(Ht rfl),(Ht rfl),trivial⟩) ?_))))))
    refine dp 1 rfl (eJ pN (Ht rfl) rfl) (dq 32 5 rfl (eW A_129 Z_129 (Ht rfl) (i:=0) rfl rfl rfl) (dp 1 rfl (eJ oK (Ht rfl) rfl) (dq 34 7 rfl (fQ A_46 Z_46 (Ht rfl) (i:=0) rfl rfl) (fG bF rfl (by kernel_rfl) (zF (zF (aJ (aV (ro rfl (cZ K_243 (sP (by assumption) zo zo) ⟨(Ht rfl),(Ht rfl),trivial⟩) ?_)))))))))
    refine ro rfl (jW (Ht rfl) (Ht rfl) (by first | omega | (simp only [List.length_append,List.length_cons,List.length_nil]; omega))) (ro rfl (jW (Ht rfl) (bC.cS (l:=[105]) rfl) (by first | omega | (simp only [List.length_append,List.length_cons,List.length_nil]; omega))) (ra rfl (eZ (fK rfl (fJ (eY rfl) ?_)))))
    exact (jF (by rw [Ps,if_neg h0,if_neg h1,if_pos hd,List.append_assoc]))
   ·simp only [decide_eq_false_iff_not] at hd
    refine cU (cK (fV (m:=11) (dp 1 rfl (eJ pS (Ht rfl) rfl) (dq 39 0 rfl (eW A_129 Z_129 (Ht rfl) (i:=0) rfl rfl rfl) (dp 1 rfl (eJ oK (Ht rfl) rfl) (dq 41 2 rfl (fQ A_46 Z_46 (Ht rfl) (i:=0) rfl rfl) (dS 40 1 42 3 rfl (cZ K_243 (sP (by assumption) zo zo) ⟨(Ht rfl),(Ht rfl),trivial⟩) ?_)))))))
    refine dq 43 4 rfl (jW (Ht rfl) (bC.cS (l:=[43]) rfl) (by first | omega | (simp only [List.length_append,List.length_cons,List.length_nil]; omega))) (dp 1 rfl (eJ pN (Ht rfl) rfl) (dq 45 6 rfl (eW A_129 Z_129 (Ht rfl) (i:=0) rfl rfl rfl) (dp 1 rfl (eJ oK (Ht rfl) rfl) (dq 47 8 rfl (fQ A_46 Z_46 (Ht rfl) (i:=0) rfl rfl) (dS 46 7 48 9 rfl (cZ K_243 (sP (by assumption) zo zo) ⟨(Ht rfl),(Ht rfl),trivial⟩) ?_)))))
    refine fG bF rfl (by kernel_rfl) (zF (zF (aJ (aJ (aJ (aV (ro rfl (jW (Ht rfl) (Ht rfl) (by first | omega | (simp only [List.length_append,List.length_cons,List.length_nil]; omega))) (ro rfl (jW (Ht rfl) (bC.cS (l:=[105]) rfl) (by first | omega | (simp only [List.length_append,List.length_cons,List.length_nil]; omega))) (ra rfl (eZ (fK rfl (fJ (eY rfl) ?_))))))))))))
    exact (jF (by rw [Ps,if_neg h0,if_neg h1,if_neg hd,List.append_assoc,List.append_assoc]; rfl))
theorem Ls {x y:Qi} {L M:Nat} [hx:aN x L] [hy:aN y M] (h:L ≤ 8796093022208) (h2:M ≤ 8796093022208):bB Tryz.prog 80 [aE x,QT y] (aC (decide (Ps x = Ps y))):=by
 refine bB.intro Tryz.func80 rfl Tryz.ntmps80 rfl (fun cx=>(ts (rn rfl (fU (Ht rfl)) fun B2=>(rn rfl (fU (Ht rfl)) fun B3=>(ro rfl (cQ cV) (eZ (cK (fV (m:=3) (dp 2 rfl (eW A_51 Z_51 (Ht rfl) (i:=0) rfl rfl rfl) (dq 5 0 rfl (cZ Tryz.call89 (Qk zo) ⟨(Ht rfl),trivial⟩) (dp 3 rfl (eW A_131 Z_131 (Ht rfl) (i:=1) rfl rfl rfl) (fG bF rfl (by kernel_rfl) (aJ (aJ (aJ (aV (ro rfl (cZ Tryz.call181 (a0J zo) ⟨(Ht rfl),trivial⟩) (ro rfl (Rb (Ht rfl) (Ht rfl)) ?_))))))))))))))))))
 refine ra rfl (eZ ?_)
 exact fK rfl (eY rfl)
end
section
open Go Go.RowKit
theorem sC:Tryz.prog.info? 29 = some Tryz.t29:=by kernel_rfl
end
section
open Go Go.RowKit
theorem Kk {γ:Type} {l:List γ} {T:γ → Ty} {p:γ → Bool} [sh:∀ x,dC (T x) 5 true] (hl:l.length ≤ 1000000):bB Tryz.prog 233 [jS 5 (l.map T),xJ Tryz.prog γ (fun x=>[T x]) (fun x=>aC (p x))] (aD .i64 (Dv p l)):=by
 refine bB.intro Tryz.func233 rfl Tryz.ntmps233 rfl (fun cx=>(ts (ro rfl (cQ (cJ 0)) (eZ (cK (ts (rm rfl (ro rfl (dK U_29 (Ht rfl) aA) (ro rfl (cX (cJ 0)) (eZ (eK ?_)))))))))))
 refine cM (fun (k : Nat) => k ≤ l.length ∧ ∀ (i : Nat) (x : γ), i < k → l[i]? = some x → p x = false) (fun (k : Nat) => l.length - k) (fun (k : Nat) => [(0, jS 5 (l.map T)), (1, xJ Tryz.prog γ (fun x => [T x]) (fun x => aC (p x))), (7, NT .i64 l.length), (8, NT .i64 k)]) (fun (k : Nat) => []) 0 ⟨Nat.zero_le _, fun i x h => by omega⟩
  (zS rfl) aY (fun k ⟨hk,hn⟩=>?_)
 refine ts (ro rfl (gV (Ht rfl) (Ht rfl)) (eZ (cK (dQ (Ht rfl) (fun hb=>?_) (fun hb=>?_)))))
 ·simp only [decide_eq_true_eq] at hb
  refine cU (cK (eK (ts (rm rfl (ra rfl (eZ (ts (rm rfl (rm rfl (rm rfl (ro rfl (dZ U_29 Z_51 (Ht rfl) (Ht rfl) rfl (eQ (qV hb))) (ro rfl (dV A_51 Z_51 (Ht rfl)) (ro rfl (oC (l[k]) (Ht rfl) ⟨(Ht rfl),trivial⟩) (eZ (dQ (Ht rfl) (fun hc=>?_) (fun hc=>?_))))))))))))))))
  ·have hp : p l[k] = true := hc
   refine ts (rm rfl (ra rfl (eZ (fK rfl (fJ (eY rfl) ?_)))))
   exact (aM (Em (qV hb) hp hn).symm)
  ·have hp : p l[k] = false := hc
   refine cU (bH (cY (ro rfl (dW (Ht rfl) (cJ 1) z6) (rm rfl (eZ ?_)))))
   refine gQ (k + 1) ⟨hb, fun i x h1 h2 => by
    by_cases e:i = k
    ·subst e; rw [qV hb] at h2; obtain rfl:=Option.some.inj h2; exact hp
    ·exact hn i x zo h2⟩ zo (zS rfl) aY
 ·simp only [decide_eq_false_iff_not] at hb
  refine gK rfl (ts (ro rfl (cQ cV) (eZ (fK rfl (fJ (eY rfl) ?_)))))
  exact (aM (wT (fun i x h=>hn i x (by have:=(List.getElem?_eq_some_iff.1 h).1; omega) h)).symm)
theorem At {γ:Type} {l:List γ} {T:γ → Ty} {p:γ → Bool} [sh:∀ x,dC (T x) 5 true] (hl:l.length ≤ 1000000):bB Tryz.prog 162 [jS 5 (l.map T),xJ Tryz.prog γ (fun x=>[T x]) (fun x=>aC (p x))] (aC (l.any p)):=by
 refine bB.intro Tryz.func162 rfl Tryz.ntmps162 rfl (fun cx=>(ts (ro rfl (cQ cV) (eZ (ts (rm rfl (rm rfl (ro rfl (cZ Tryz.call233 (Kk zo) ⟨(Ht rfl),(Ht rfl),trivial⟩) (ro rfl (lU (Ht rfl) cV) (ra rfl (eZ (fK rfl (fJ (eY rfl) ?_)))))))))))))
 exact (eN (Ag p l))
theorem Jk {γ:Type} {l:List γ} {T:γ → Ty} {p:γ → Bool} [sh:∀ x,dC (T x) 1 false] (hl:l.length ≤ 1000000):bB Tryz.prog 231 [jS 1 (l.map T),xJ Tryz.prog γ (fun x=>[T x]) (fun x=>aC (p x))] (aD .i64 (Dv p l)):=by
 refine bB.intro Tryz.func231 rfl Tryz.ntmps231 rfl (fun cx=>(ts (ro rfl (cQ (cJ 0)) (eZ (cK (ts (rm rfl (ro rfl (dK U_30 (Ht rfl) aA) (ro rfl (cX (cJ 0)) (eZ (eK ?_)))))))))))
 refine cM (fun (k : Nat) => k ≤ l.length ∧ ∀ (i : Nat) (x : γ), i < k → l[i]? = some x → p x = false) (fun (k : Nat) => l.length - k) (fun (k : Nat) => [(0, jS 1 (l.map T)), (1, xJ Tryz.prog γ (fun x => [T x]) (fun x => aC (p x))), (7, NT .i64 l.length), (8, NT .i64 k)]) (fun (k : Nat) => []) 0 ⟨Nat.zero_le _, fun i x h => by omega⟩
  (zS rfl) aY (fun k ⟨hk,hn⟩=>?_)
 refine ts (ro rfl (gV (Ht rfl) (Ht rfl)) (eZ (cK (dQ (Ht rfl) (fun hb=>?_) (fun hb=>?_)))))
 ·simp only [decide_eq_true_eq] at hb
  refine cU (cK (eK (ts (rm rfl (ra rfl (eZ (ts (rm rfl (rm rfl (rm rfl (ro rfl (dZ U_30 Z_29 (Ht rfl) (Ht rfl) rfl (eQ (qV hb))) (ro rfl (dV A_29 Z_29 (Ht rfl)) (ro rfl (oC (l[k]) (Ht rfl) ⟨(Ht rfl),trivial⟩) (eZ (dQ (Ht rfl) (fun hc=>?_) (fun hc=>?_))))))))))))))))
  ·have hp : p l[k] = true := hc
   refine ts (rm rfl (ra rfl (eZ (fK rfl (fJ (eY rfl) ?_)))))
   exact (aM (Em (qV hb) hp hn).symm)
  ·have hp : p l[k] = false := hc
   refine cU (bH (cY (ro rfl (dW (Ht rfl) (cJ 1) z6) (rm rfl (eZ ?_)))))
   refine gQ (k + 1) ⟨hb, fun i x h1 h2 => by
    by_cases e:i = k
    ·subst e; rw [qV hb] at h2; obtain rfl:=Option.some.inj h2; exact hp
    ·exact hn i x zo h2⟩ zo (zS rfl) aY
 ·simp only [decide_eq_false_iff_not] at hb
  refine gK rfl (ts (ro rfl (cQ cV) (eZ (fK rfl (fJ (eY rfl) ?_)))))
  exact (aM (wT (fun i x h=>hn i x (by have:=(List.getElem?_eq_some_iff.1 h).1; omega) h)).symm)
theorem Ao {γ:Type} {l:List γ} {T:γ → Ty} {p:γ → Bool} [sh:∀ x,dC (T x) 1 false] (hl:l.length ≤ 1000000):bB Tryz.prog 156 [jS 1 (l.map T),xJ Tryz.prog γ (fun x=>[T x]) (fun x=>aC (p x))] (aC (l.any p)):=by
 refine bB.intro Tryz.func156 rfl Tryz.ntmps156 rfl (fun cx=>(ts (ro rfl (cQ cV) (eZ (ts (rm rfl (rm rfl (ro rfl (cZ Tryz.call231 (Jk zo) ⟨(Ht rfl),(Ht rfl),trivial⟩) (ro rfl (lU (Ht rfl) cV) (ra rfl (eZ (fK rfl (fJ (eY rfl) ?_)))))))))))))
 exact (eN (Ag p l))
theorem Jm {x:Qi} {L:Nat} [hx:aN x L] (h:L ≤ 8796093022208):bB Tryz.prog 247 [aE x] (aC (kA x)):=by
 haveI hz:aN Qi.zero 1:=aN.zero (Nat.le_refl 1)
 refine bB.intro Tryz.func247 rfl Tryz.ntmps247 rfl (fun cx=>(ts (rn rfl (fU (Ht rfl)) fun B1=>(ro rfl (cQ cV) (eZ (ts (ro rfl (eW A_51 Z_51 (Ht rfl) (i:=0) rfl rfl rfl) (ro rfl (cZ Tryz.call169 Uy ⟨(Ht rfl),trivial⟩) (rm rfl (fX rfl rfl (eU rfl rfl (Ht rfl) (fun h=>eW A_51 Z_51 (Ht rfl) (i:=0) rfl rfl rfl)) (fX rfl rfl (eU rfl rfl (Ht rfl) (fun h=>aF.imp (Dk ) uI)) (fX rfl rfl (eU rfl rfl (Ht rfl) (fun h=>cZ Tryz.call76 (a2s zo) ⟨(fW rfl h),(fW rfl h),trivial⟩)) ?_))))))))))))
 refine fX rfl rfl (eU rfl rfl (Ht rfl) (fun h=>Jz (fW rfl h) cV)) (ro rfl (eA (Ht rfl) (fun h=>(fW rfl h))) (ra rfl (eZ (fK rfl (fJ (eY rfl) ?_)))))
 exact (eN (a1U x))
theorem Cy {x:Qi} {L:Nat} [hx:aN x L] (h:L ≤ 8796093022208):bB Tryz.prog 246 [aE x] (aC (!kA x)):=by
 refine bB.intro Tryz.func246 rfl Tryz.ntmps246 rfl (fun cx=>(ts (rn rfl (fU (Ht rfl)) fun B1=>(ro rfl (cQ cV) (eZ (ts (ro rfl (eW A_51 Z_51 (Ht rfl) (i:=0) rfl rfl rfl) (ro rfl (cZ Tryz.call247 (Jm zo) ⟨(Ht rfl),trivial⟩) (ro rfl (eH (Ht rfl)) (ra rfl (eZ ?_)))))))))))
 exact fK rfl (eY rfl)
theorem Ii {z:List Qi} {L:Nat} (hz:cC z L) (h:L ≤ 8796093022208) (hl:z.length ≤ 1000):bB Tryz.prog 183 [bA z] (aD .i64 (if z.all kA then 0 else 1)):=by
 obtain ⟨l,hzl⟩:∃ l:List {x:Qi // aN x L},z = l.map Subtype.val:=⟨z.attach.map fun x=>⟨x.1,hz x.1 x.2⟩,by simp⟩
 subst hzl
 have hll:l.length ≤ 1000:=by simpa using hl
 refine bB.intro Tryz.func183 rfl Tryz.ntmps183 rfl (fun cx=>(yK (E':=[(0,_)]) (aZ rfl (kB (Us:=l.map fun x=>aE x.1) (by simp [List.map_map,Function.comp_def])) aX) ?_))
 refine ts (ro rfl (cQ (cJ 0)) (eZ (cK (ts (rm rfl (ro rfl (cZ Tryz.call162 (At (l:=l) (T:=fun x=>aE x.1) (p:=fun x=>!kA x.1) zo) ⟨(Ht rfl),(bC.fn Tryz.call246 (γ:={x:Qi // aN x L}) (Ts:=fun x=>[aE x.1]) (U:=fun x=>aC (!kA x.1)) (fun x=>haveI:=x.2; Cy h)),trivial⟩) (eZ (dQ (Ht rfl) (fun hb=>?_) (fun hb=>?_)))))))))
 ·have hn : ¬ (l.map Subtype.val).all kA = true := by simp at hb ⊢; exact hb
  refine ts (ro rfl (cQ (cJ 1)) (eZ (fK rfl (fJ (eY rfl) ?_))))
  exact (aM (by rw [if_neg hn]; rfl))
 ·have hn : (l.map Subtype.val).all kA = true := by simp at hb ⊢; exact hb
  refine cU (ts (ro rfl (cQ (cJ 0)) (eZ (fK rfl (fJ (eY rfl) ?_)))))
  exact (aM (by rw [if_pos hn]; rfl))
theorem Gd {l:List Qi} (hl:l.length ≤ 1000):jH Tryz.prog 158 [bA l] [] (Value) (fun v=>Is v) (fun v=>[bM 51 5 v (l.map aE)]) (fun _=>True):=by
 refine jH.intro Tryz.func158 rfl Tryz.ntmps158 rfl (fun cx Z=>(ts (ro rfl (cQ cV) (eZ (cK (ts (rm rfl (ro rfl (Tn U_29 (Ht rfl)) (eZ (Zy (Ht rfl) (fun hb=>?_) (fun hb=>?_)))))))))))
 ·have hT : l.map aE = [] := hb rfl
  refine ts (ro rfl (cQ cV) (eZ (rQ 51 5 ?_)))
  exact lR (.slice none 0 0) trivial [0,1] ⟨⟨_,rfl,fun _ _ _ h=>h⟩,⟨_,rfl,(aR hT.symm)⟩,trivial⟩ (by decide) (yO rfl (eY rfl))
 ·refine cU (ts (rn rfl (Ic U_29 Z_51 O_51) fun B5 => (rm rfl (Az (inf := Tryz.t51) kD iS rfl rfl rfl (Ht rfl) (Ht rfl) (i := 1) rfl (fun T hT => by obtain ⟨x, _, rfl⟩ := List.mem_map.1 hT; exact El.ag rfl) (by show _ * 88 ≤ _; simp only [List.length_map, List.length_nil]; omega) (by simp only [List.length_map, List.length_nil]; omega) rfl (fun v2 => ?_)))))
  refine ra rfl (eZ ?_)
  exact lR v2 trivial [0,1] ⟨⟨_,rfl,fun _ _ _ h=>h⟩,⟨_,rfl,fun _ _ _ h=>h⟩,trivial⟩ (by decide) (yO rfl (eY rfl))
theorem Vy {l:List Qi} (hl:l.length ≤ 1000):bB Tryz.prog 158 [bA l] (bA l):=(Gd hl).fun fun v _=>fP
theorem En {n:Nat} {f:Nat → Nat → Qi} (hn:n ≤ 1000):jH Tryz.prog 114 [NT .i64 n,xJ Tryz.prog (Fin n × Fin n) (fun x=>[NT .i64 x.1.1,NT .i64 x.2.1]) (fun x=>aE (f x.1.1 x.2.1))] [] (Nat) (fun B=>Is (.slice (some ⟨B,0,none⟩) n n)) (fun B=>[nJ B 29 51 5 (dO aE (tab n fun i=>tab n (f i)))]) (fun _=>True):=by
 refine jH.intro Tryz.func114 rfl Tryz.ntmps114 rfl (fun cx Z=>(ts (ro rfl (cQ cV) (eZ (ts (rm rfl (rn rfl (fS (T:=Is (.slice none 0 0)) (i:=Tryz.t29) V_30 sC rfl rfl (Ht rfl) rfl (fun _=>rfl) trivial (by show 24 * _ ≤ _; omega) zo) fun B9=>(ra rfl (eZ (cK (ts (rm rfl (ro rfl (jU U_30 (Ht rfl)) (ro rfl (cX (cJ 0)) (eZ (eK (lT 1 rfl (uL (e:=51) (s:=5)) ?_)))))))))))))))))
 refine fT (fun (k : Nat) (m : List (List Qi)) => mT (fun i => tab n (f i)) n m k) (fun (k : Nat) (m : List (List Qi)) => n - k) (fun (k : Nat) (m : List (List Qi)) => [(0, NT .i64 n), (1, xJ Tryz.prog (Fin n × Fin n) (fun x => [NT .i64 x.1.1, NT .i64 x.2.1]) (fun x => aE (f x.1.1 x.2.1))), (5, Is (.slice (some ⟨B9, 0, none⟩) n n)), (11, NT .i64 n), (12, NT .i64 k)]) (fun (k : Nat) (m : List (List Qi)) => [Z, nJ B9 29 51 5 (dO aE m)]) 0 (List.replicate n []) (mT.start _ _ _)
  (zS rfl) (aU (fun _ _ _ h=>h) (aU (fA (rH aE n)) aY)) (fun k m hS=>?_)
 refine ts (ro rfl (gV (Ht rfl) (Ht rfl)) (eZ (cK (dQ (Ht rfl) (fun hk=>?_) (fun hk=>?_)))))
 ·simp only [decide_eq_true_eq] at hk
  have hlen:=hS.len
  refine oS 1 (k) rfl (mY (m:=m) (i:=k) zo) (fun v=>(cU (cK (eK (ts (rm rfl (ra rfl (eZ (ts (rm rfl (rm rfl (rm rfl (rn rfl (gR (T:=aE Qi.zero) (i:=Tryz.t51) kD iS rfl rfl (Ht rfl) rfl gS (El.ag rfl) (by show 88 * _ ≤ _; omega) zo) fun B18=>(ro rfl (gX U_30 Z_29 (Ht rfl) (Ht rfl) rfl zo (by rw [Nat.mul_one,Nat.zero_add])) ?_))))))))))))))
  refine yX Z_29 (Ht rfl) (Ht rfl) (by simp; omega) (j:=1) (l:=3) rfl rfl rfl ?_
  refine eZ (cK (bL [0,1,3] rfl (by decide) (cY (rm rfl (rm rfl (ro rfl (gX U_30 Z_29 (Ht rfl) (Ht rfl) rfl zo (by rw [Nat.mul_one,Nat.zero_add])) ?_))))))
  refine ro rfl (mH A_29 Z_29 (Ht rfl) (j:=1) rfl) (ro rfl (nS U_29 (Ht rfl) (i:=2) rfl (show ((List.replicate n (aE Qi.zero)).length:Int) = ((n:Nat):Int) by simp)) (ro rfl (cX (cJ 0)) (eZ (eK ?_))))
  refine fT (fun (j : Nat) (out : List Qi) => mT (f k) n out j) (fun (j : Nat) (out : List Qi) => n - j) (fun (j : Nat) (out : List Qi) => [(0, NT .i64 n), (1, xJ Tryz.prog (Fin n × Fin n) (fun x => [NT .i64 x.1.1, NT .i64 x.2.1]) (fun x => aE (f x.1.1 x.2.1))), (5, Is (.slice (some ⟨B9, 0, none⟩) n n)), (6, NT .i64 k), (11, NT .i64 n), (12, NT .i64 k), (24, NT .i64 n), (25, NT .i64 j)]) (fun (j : Nat) (out : List Qi) => [Z, Gx B9 29 51 5 (dO aE m) k B18, bM 51 5 B18 (out.map aE)]) 0 (List.replicate n Qi.zero) (mT.start _ _ _)
   (zS rfl) (aU (fun _ _ _ h=>h) (aU (fun _ _ _ h=>h) (aU (aR (rR aE _ _)) aY))) (fun j out hT=>?_)
  refine ts (ro rfl (gV (Ht rfl) (Ht rfl)) (eZ (cK (dQ (Ht rfl) (fun hj=>?_) (fun hj=>?_)))))
  ·simp only [decide_eq_true_eq] at hj
   have hlen2:=hT.len
   refine cU (cK (eK (ts (rm rfl (ra rfl (eZ (fV (m:=9) (dp 5 rfl (cX (Ht rfl)) (dp 6 rfl (cX (Ht rfl)) (dS 28 0 29 1 rfl (gX U_30 Z_29 (Ht rfl) (Ht rfl) rfl zo (by rw [Nat.mul_one,Nat.zero_add])) ?_))))))))))
   refine dq 30 2 rfl (mH A_29 Z_29 (Ht rfl) (j:=1) rfl) (dp 7 rfl (cX (Ht rfl)) (dp 1 rfl (cX (Ht rfl)) (dp 6 rfl (cX (Ht rfl)) (dp 7 rfl (cX (Ht rfl)) (C.D_step (Ei:=[(33,_),(34,_),(35,_)]) rfl rfl (bV (bG 5 rfl rfl) (bV (bG 6 rfl rfl) (bV (bG 7 rfl rfl) bW))) (dX rfl (oC ((⟨k,hk⟩,⟨j,hj⟩):Fin n × Fin n) (Ht rfl) ⟨(Ht rfl),(Ht rfl),trivial⟩)) (fG bF rfl (by kernel_rfl) (zF (zF (aJ (aV ?_))))))))))
   refine ro rfl (dE U_29 Z_51 (Ht rfl) (Ht rfl) rfl (i:=2) rfl (by first | omega | (simp; omega)) rfl) (kS Z_51 (Ht rfl) (Ht rfl) (El.ag rfl) (i:=2) rfl rfl (by first | omega | (simp; omega)) rfl (eZ (bH (cY (ro rfl (dW (Ht rfl) (cJ 1) z6) (rm rfl (eZ (gQ (j + 1,_) (hT.next hj rfl) (by dsimp only; omega) (zS rfl) (aU (fun _ _ _ h=>h) (aU (fun _ _ _ h=>h) (aU (aR (fM aE _ _ _)) aY)))))))))))
  ·simp only [decide_eq_false_iff_not] at hj
   obtain rfl:j = n:=Nat.le_antisymm hT.kle zo
   have hfin:=hT.fin
   refine gK rfl (bH (kR 1 2 rfl rfl (by decide) (by simp; omega) ?_))
   refine cY (ro rfl (dW (Ht rfl) (cJ 1) z6) (rm rfl (eZ (bL [0,1] rfl (by decide) (gQ (k + 1,_) (hS.next hk hfin) (by dsimp only; omega) (zS rfl) (aU (fun _ _ _ h=>h) (aU (fA (kZ aE _ _ _)) aY)))))))
 ·simp only [decide_eq_false_iff_not] at hk
  obtain rfl:k = n:=Nat.le_antisymm hS.kle zo
  have hfin:=hS.fin
  refine gK rfl (ts (rm rfl (ra rfl (eZ ?_))))
  exact lR B9 trivial [0,1] ⟨⟨_,rfl,fun _ _ _ h=>h⟩,⟨_,rfl,(fA (by rw [hfin]))⟩,trivial⟩ (by decide) (yO rfl (eY rfl))
theorem Ad {n:Nat} {f:Nat → Nat → Qi} (hn:n ≤ 1000):bB Tryz.prog 114 [NT .i64 n,xJ Tryz.prog (Fin n × Fin n) (fun x=>[NT .i64 x.1.1,NT .i64 x.2.1]) (fun x=>aE (f x.1.1 x.2.1))] (dM (tab n fun i=>tab n (f i))):=(En hn).fun fun B _ v S V h1 h2=>kB (by simp [dO,List.map_map,Function.comp_def]) v V (Df (by simp [dO,aO]) (Nat.le_refl _) v S V h1 h2)
end
section
open Go Go.RowKit
theorem iU {n : Nat} {E : cF} {H : Hp} {d : Option Tmp} {t : TypeId} {pos : String} {af : Array Edge} {g : Option (Nat × Bool)}  :
  aF Tryz.prog n E H ⟨d,.build 32 #[],t,pos,af,g⟩ (eD [Is (.slice none 0 0),Is (.slice none 0 0)]) :=
 iA (parts := []) fun a V w hs => by
  refine ⟨.agg #[(.slice none 0 0),(.slice none 0 0)],?_,[(.slice none 0 0),(.slice none 0 0)],rfl,aW (⟨rfl,trivial⟩) (aW (⟨rfl,trivial⟩) (aG))⟩
  simp [Instr.build,Instr.fill,Sem.run_bind,Result.andThen,fI,O_32,U_32,Z_29,Z_30]
theorem qP {n : Nat} {E : cF} {H : Hp} {d : Option Tmp} {t : TypeId} {pos : String} {af : Array Edge} {g : Option (Nat × Bool)} {x0 x1 : Operand} {T0 T1 : Ty} [s0 : dC T0 1 false] (h0 : bC E x0 T0) [s1 : dC T1 1 false] (h1 : bC E x1 T1) :
  aF Tryz.prog n E H ⟨d,.build 32 #[(0,x0),(1,x1)],t,pos,af,g⟩ (eD [T0,T1]) :=
 iA (parts := [(0, x0), (1, x1)]) fun a V w hs => by
  have p0:=h0 n V a hs
  generalize e0:a.eval x0 = v0 at p0
  have q0:=(s0.ok v0 V p0).2.2 rfl
  have p1:=h1 n V a hs
  generalize e1:a.eval x1 = v1 at p1
  have q1:=(s1.ok v1 V p1).2.2 rfl
  refine ⟨.agg #[v0,v1],?_,[v0,v1],rfl,aW (⟨p0,q0⟩) (aW (⟨p1,q1⟩) (aG))⟩
  simp [e0,e1,Instr.build,Instr.fill,Sem.run_bind,Result.andThen,fI,q0.cells,q1.cells,O_32,U_32,Z_29,Z_30]
theorem eO (a:Addr) (w:World):(Instr.fieldAt 32 (.pointer (some a)) 0).run Tryz.prog w = .ok (.pointer (some (a.add 0))) w:=by
 simp [Instr.fieldAt,Instr.sureAddr,fieldPlace,Sem.run_bind,Result.andThen,U_32,Z_29]
end
section
open Go Go.RowKit
theorem a1s {s:List (List Qi)} {n i j:Nat} (hs:eR s n n) (hi:i < n) (hj:j < n):bB Tryz.prog 187 [NT .i64 i,NT .i64 j,PT (dM s)] (aE (gm s i j)):=by
 have h1:=hs.1; have h2:=hs.row hi
 refine bB.intro Tryz.func187 rfl Tryz.ntmps187 rfl (fun cx=>(ts (rn rfl (eG (Ts:=[Is (.bool false),Is (.slice none 0 0),Is (.bool false),Is (.slice none 0 0),Is (.slice none 0 0)]) O_51 rfl (fun V=>aW zd (aW zd (aW zd (aW zd (aW zd (aG))))))) fun B5=>(eZ (ts (ro rfl (dV A_30 Z_30 (Ht rfl)) (rm rfl (ro rfl (dZ U_30 Z_29 (Ht rfl) (Ht rfl) rfl (eQ (dY (d:=[]) zo))) (ro rfl (dV A_29 Z_29 (Ht rfl)) ?_)))))))))
 refine rm rfl (ro rfl (dZ U_29 Z_51 (Ht rfl) (Ht rfl) rfl (eQ (dY (d:=Qi.zero) zo))) (ro rfl (dV A_51 Z_51 (Ht rfl)) (gJ Z_51 (Ht rfl) (Ht rfl) rfl (i:=0) rfl (aK rfl) rfl rfl (eZ ?_))))
 exact fK rfl (fY A_51 Z_51 rfl (i:=0) rfl rfl)
theorem vF {z:List Qi} {s:List (List Qi)} {L:Nat} (hz:cC z L) (h:L ≤ 8796093022208) (hl:z.length ≤ 1000) (hl2:s.length ≤ 1000):bB Tryz.prog 85 [bA z,dM s] (dN [bR (iI (cD z s) z) (iI (cD z s) s),aD .i64 (cD z s)]):=by
 refine bB.intro Tryz.func85 rfl Tryz.ntmps85 rfl (fun cx=>(ts (rn rfl (pM (Ht rfl)) fun B3=>(rn rfl (eG (Ts:=[Is (.slice none 0 0),Is (.slice none 0 0)]) O_32 rfl (fun V=>aW zd (aW zd (aG)))) fun B4=>(ro rfl (cQ (cJ 0)) (eZ (cK (cK (gG (i:=0) (tt:=3) rfl rfl gY (cY (rm rfl (ro rfl (dK U_29 (Ht rfl) aA) (ro rfl (gV (Ht rfl) (cJ 1)) (rm rfl (fX rfl rfl (eU rfl rfl (Ht rfl) (fun h=>cX (Ht rfl))) (fX rfl rfl (eU rfl rfl (Ht rfl) (fun h=>dK U_29 (fW rfl h) aA)) ?_))))))))))))))))
 refine fX rfl rfl (eU rfl rfl (Ht rfl) (fun h=>eT (fW rfl h) (cJ 8))) (ro rfl (kX (Ht rfl) (fun h=>(fW rfl h))) (rm rfl (fX rfl rfl (eU rfl rfl (Ht rfl) (fun h=>dV A_30 Z_30 (Ht rfl))) (fX rfl rfl (eU rfl rfl (Ht rfl) (fun h=>dK U_30 (fW rfl h) aA)) (fX rfl rfl (eU rfl rfl (Ht rfl) (fun h=>cX (Ht rfl))) (fX rfl rfl (eU rfl rfl (Ht rfl) (fun h=>dK U_29 (fW rfl h) aA)) (fX rfl rfl (eU rfl rfl (Ht rfl) (fun h=>iV (fW rfl h) (fW rfl h))) ?_)))))))
 refine ro rfl (kX (Ht rfl) (fun h=>(fW rfl h))) (eZ (dQ (Ht rfl) (fun hb=>?_) (fun hb=>?_)))
 ·have he := Hc hb
  refine ts (ro rfl (aF.imp (iU ) iR) (gJ Z_32 (Ht rfl) (Ht rfl) rfl (i:=1) rfl (aK rfl) rfl rfl (ro rfl (cQ (cJ 4)) (eZ (bI rfl (fJ (fY A_32 Z_32 rfl (i:=1) rfl rfl) ?_) (fJ (eY rfl) ?_))))))
  ·exact (Cr he (by decide))
  ·exact (aM he.symm)
 ·refine cU (cK (ts (ro rfl (dV A_30 Z_30 (Ht rfl)) (ro rfl (dK U_30 (Ht rfl) aA) (ro rfl (cX (cJ 0)) (eZ (eK ?_)))))))
  refine cM (fun (k : Nat) => k ≤ s.length ∧ ∀ (i : Nat) (r : List Qi), i < k → s[i]? = some r → r.length = z.length) (fun (k : Nat) => s.length - k) (fun (k : Nat) => [(0, bA z), (3, PT (dM s)), (4, bO B4 0), (25, dM s), (26, NT .i64 s.length), (27, NT .i64 k)]) (fun (k : Nat) => [SA.emp, box B4 32 [Is (.slice none 0 0), Is (.slice none 0 0)]]) 0 ⟨Nat.zero_le _, fun i r h => by omega⟩
   (zS rfl) (dL.refl _) (fun k ⟨hk,hr⟩=>?_)
  refine ts (ro rfl (gV (Ht rfl) (Ht rfl)) (eZ (cK (dQ (Ht rfl) (fun hc=>?_) (fun hc=>?_)))))
  ·simp only [decide_eq_true_eq] at hc
   refine cU (cK (eK (ts (ro rfl (dZ U_30 Z_29 (Ht rfl) (Ht rfl) rfl (eQ (qV hc))) (ro rfl (dV A_29 Z_29 (Ht rfl)) (ra rfl (eZ (ts (rm rfl (ro rfl (dK U_29 (Ht rfl) aA) (rm rfl (ro rfl (dK U_29 (Ht rfl) aA) (ro rfl (iV (Ht rfl) (Ht rfl)) (eZ (dQ (Ht rfl) (fun hd=>?_) (fun hd=>?_))))))))))))))))
   ·have hd2 : ¬ (s[k]).length = z.length := by simpa using hd
    have he:=Ju (qV hc) hd2
    refine ts (ro rfl (aF.imp (iU ) iR) (gJ Z_32 (Ht rfl) (Ht rfl) rfl (i:=1) rfl (aK rfl) rfl rfl (ro rfl (cQ (cJ 4)) (eZ (bI rfl (fJ (fY A_32 Z_32 rfl (i:=1) rfl rfl) ?_) (fJ (eY rfl) ?_))))))
    ·exact (Cr he (by decide))
    ·exact (aM he.symm)
   ·have hd2 : (s[k]).length = z.length := by simpa using hd
    refine cU (bH (cY (ro rfl (dW (Ht rfl) (cJ 1) z6) (rm rfl (eZ ?_)))))
    refine gQ (k + 1) ⟨hc, fun i r h1 h2 => by
      by_cases e:i = k
      ·subst e; rw [qV hc] at h2; obtain rfl:=Option.some.inj h2; exact hd2
      ·exact hr i r zo h2⟩ zo (zS rfl) (dL.refl _)
  ·simp only [decide_eq_false_iff_not] at hc
   have hall:∀ (i:Nat) (r:List Qi),s[i]? = some r → r.length = z.length:=fun i r h=>hr i r (by have:=(List.getElem?_eq_some_iff.1 h).1; omega) h
   have hpos:=Kj hb hall
   refine gK rfl (cK (ts (rm rfl (ro rfl (cZ Tryz.call183 (Ii hz h zo) ⟨(Ht rfl),trivial⟩) (ra rfl (eZ (ts (rm rfl (ro rfl (fB (Ht rfl) cV) (eZ (dQ (Ht rfl) (fun hd=>?_) (fun hd=>?_))))))))))))
   ·have hd2 : ¬ (if z.all kA = true then (0 : Int) else 1) = 0 := by simpa using hd
    refine ts (ro rfl (aF.imp (iU ) iR) (rm rfl (gJ Z_32 (Ht rfl) (Ht rfl) rfl (i:=1) rfl (aK rfl) rfl rfl (ra rfl (eZ (bI rfl (fJ (fY A_32 Z_32 rfl (i:=1) rfl rfl) ?_) (fJ (eY rfl) ?_)))))))
    ·exact (Cr hpos hd2)
    ·exact (aM hpos.symm)
   ·have hd2 : (if z.all kA = true then (0 : Int) else 1) = 0 := by simpa using hd
    have he:=hpos.trans hd2
    obtain ⟨h1,h2,hsh,_⟩:=mK he
    refine cU (ts (rm rfl (ro rfl (cZ Tryz.call158 (Vy zo) ⟨(Ht rfl),trivial⟩) (rm rfl (ro rfl (dK U_29 (Ht rfl) aA) (ro rfl (lW (γ:=Fin z.length × Fin z.length) (Ts:=fun x=>[NT .i64 x.1.1,NT .i64 x.2.1]) (U:=fun x=>aE (gm s x.1.1 x.2.1)) Tryz.call187 (fun x=>a1s hsh x.1.2 x.2.2) ⟨(Ht rfl),trivial⟩) (ro rfl (cZ K_114 (eX (Ad (n:=z.length) (f:=gm s) zo) (kB (by rw [← qN hsh]))) ⟨(Ht rfl),(Ht rfl),trivial⟩) ?_)))))))
    refine ro rfl (qP (Ht rfl) (Ht rfl)) (gJ Z_32 (Ht rfl) (Ht rfl) rfl (i:=1) rfl (aK rfl) rfl rfl (ro rfl (cQ (cJ 0)) (eZ (bI rfl (fJ (fY A_32 Z_32 rfl (i:=1) rfl rfl) ?_) (fJ (eY rfl) ?_)))))
    ·exact (Tc he)
    ·exact (aM he.symm)
theorem qJ {z:List Qi} {s:List (List Qi)}:bB Tryz.prog 22 [bR z s] (NT .i64 z.length):=by
 refine bB.intro Tryz.func22 rfl Tryz.ntmps22 rfl (fun cx=>(ts (rn rfl (fU (Ht rfl)) fun B1=>(ro rfl (cQ (cJ 0)) (eZ (ts (ro rfl (eJ eO (Ht rfl) rfl) (ro rfl (fQ A_29 Z_29 (Ht rfl) (i:=0) rfl rfl) (ro rfl (dK U_29 (Ht rfl) aA) (ra rfl (eZ ?_)))))))))))
 exact fK rfl (eY rfl)
theorem Ch {z:List Qi} {s:List (List Qi)} {i:Int}:bB Tryz.prog 106 [bR z s,aD .i64 i] (aC (decide (1 ≤ i ∧ i ≤ z.length))):=by
 refine bB.intro Tryz.func106 rfl Tryz.ntmps106 rfl (fun cx=>(ts (rn rfl (fU (Ht rfl)) fun B2=>(ro rfl (cQ cV) (eZ (ts (rm rfl (ro rfl (lU (Ht rfl) cV) (rm rfl (fX rfl rfl (eU rfl rfl (Ht rfl) (fun h=>cX (Ht rfl))) (fX rfl rfl (eU rfl rfl (Ht rfl) (fun h=>eJ eO (Ht rfl) rfl)) (fX rfl rfl (eU rfl rfl (Ht rfl) (fun h=>fQ A_29 Z_29 (fW rfl h) (i:=0) rfl rfl)) (fX rfl rfl (eU rfl rfl (Ht rfl) (fun h=>dK U_29 (fW rfl h) aA)) (fX rfl rfl (eU rfl rfl (Ht rfl) (fun h=>Qc (fW rfl h) (fW rfl h))) ?_))))))))))))))
 refine ro rfl (eA (Ht rfl) (fun h=>(fW rfl h))) (ra rfl (eZ (fK rfl (fJ (eY rfl) ?_))))
 exact (eN (by rw [Bool.eq_iff_iff]; simp))
end
section
open Go Go.RowKit
theorem dI (a:Addr) (w:World):(Instr.fieldAt 32 (.pointer (some a)) 1).run Tryz.prog w = .ok (.pointer (some (a.add 1))) w:=by
 simp [Instr.fieldAt,Instr.sureAddr,fieldPlace,Sem.run_bind,Result.andThen,U_32,Z_30]
end
section
open Go Go.RowKit
theorem Mh {z:List Qi} {s:List (List Qi)} {i:Int} (hl:z.length ≤ 1000):bB Tryz.prog 23 [bR z s,aD .i64 i] (dN [aE (Vt z i),aD .i64 (if 1 ≤ i ∧ i ≤ z.length then 0 else 1)]):=by
 refine bB.intro Tryz.func23 rfl Tryz.ntmps23 rfl (fun cx=>(ts (rn rfl (fU (Ht rfl)) fun B2=>(rn rfl (eG (Ts:=[Is (.bool false),Is (.slice none 0 0),Is (.bool false),Is (.slice none 0 0),Is (.slice none 0 0)]) O_51 rfl (fun V=>aW zd (aW zd (aW zd (aW zd (aW zd (aG))))))) fun B4=>(ro rfl (cQ (cJ 0)) (eZ (cK (ts (ro rfl (eW A_32 Z_32 (Ht rfl) (i:=0) rfl rfl rfl) (rm rfl (ro rfl (cZ K_106 Ch ⟨(Ht rfl),(Ht rfl),trivial⟩) ?_)))))))))))
 refine ro rfl (eH (Ht rfl)) (eZ (dQ (Ht rfl) (fun hb=>?_) (fun hb=>?_)))
 ·have hn : ¬ (1 ≤ i ∧ i ≤ (z.length : Int)) := by simpa only [Bool.not_eq_true', decide_eq_false_iff_not] using hb
  refine ts (ro rfl (aF.imp (Dk ) uI) (gJ Z_51 (Ht rfl) (Ht rfl) rfl (i:=1) rfl (aK rfl) rfl rfl (ro rfl (cQ (cJ 1)) (eZ (bI rfl (fJ (fY A_51 Z_51 rfl (i:=1) rfl rfl) ?_) (fJ (eY rfl) ?_))))))
  ·exact (gP (by rw [Vt,if_neg hn]))
  ·exact (aM (by rw [if_neg hn]; rfl))
 ·have hp : 1 ≤ i ∧ i ≤ (z.length : Int) := by simpa only [Bool.not_eq_false', decide_eq_true_eq] using hb
  have hq:(i - 1).toNat < z.length:=by omega
  refine cU (ts (ro rfl (eJ eO (Ht rfl) rfl) (ro rfl (fQ A_29 Z_29 (Ht rfl) (i:=0) rfl rfl) (rm rfl (ro rfl (gM (Ht rfl) cV (tD zo)) (ro rfl (dZ U_29 Z_51 (Ht rfl) (Ht rfl) (by omega:i - 1 = (((i - 1).toNat:Nat):Int)) (eQ (dY (d:=Qi.zero) hq))) (ro rfl (dV A_51 Z_51 (Ht rfl)) (gJ Z_51 (Ht rfl) (Ht rfl) rfl (i:=1) rfl (aK rfl) rfl rfl (ro rfl (cQ (cJ 0)) (eZ (bI rfl (fJ (fY A_51 Z_51 rfl (i:=1) rfl rfl) ?_) (fJ (eY rfl) ?_))))))))))))
  ·exact (gP (by rw [Vt,if_pos hp]))
  ·exact (aM (by rw [if_pos hp]; rfl))
theorem Ol {z:List Qi} {s:List (List Qi)} {i j:Int} (hs:eR s z.length z.length) (hl:z.length ≤ 1000):bB Tryz.prog 25 [bR z s,aD .i64 i,aD .i64 j] (dN [aE (Ot z.length s i j),aD .i64 (if (1 ≤ i ∧ i ≤ z.length) ∧ 1 ≤ j ∧ j ≤ z.length then 0 else 1)]):=by
 have hs1:=hs.1
 refine bB.intro Tryz.func25 rfl Tryz.ntmps25 rfl (fun cx=>(ts (rn rfl (fU (Ht rfl)) fun B3=>(rn rfl (eG (Ts:=[Is (.bool false),Is (.slice none 0 0),Is (.bool false),Is (.slice none 0 0),Is (.slice none 0 0)]) O_51 rfl (fun V=>aW zd (aW zd (aW zd (aW zd (aW zd (aG))))))) fun B6=>(ro rfl (cQ (cJ 0)) (eZ (cK (ts (ro rfl (eW A_32 Z_32 (Ht rfl) (i:=0) rfl rfl rfl) (rm rfl (ro rfl (cZ K_106 Ch ⟨(Ht rfl),(Ht rfl),trivial⟩) ?_)))))))))))
 refine ro rfl (eH (Ht rfl)) (rm rfl (fX rfl rfl (eU rfl rfl (Ht rfl) (fun h=>eW A_32 Z_32 (Ht rfl) (i:=0) rfl rfl rfl)) (fX rfl rfl (eU rfl rfl (Ht rfl) (fun h=>cX (Ht rfl))) (fX rfl rfl (eU rfl rfl (Ht rfl) (fun h=>cZ K_106 Ch ⟨(fW rfl h),(fW rfl h),trivial⟩)) (fX rfl rfl (eU rfl rfl (Ht rfl) (fun h=>eH (fW rfl h))) (ro rfl (kX (Ht rfl) (fun h=>(fW rfl h))) (eZ (dQ (Ht rfl) (fun hb=>?_) (fun hb=>?_)))))))))
 ·have hn : ¬ ((1 ≤ i ∧ i ≤ (z.length : Int)) ∧ 1 ≤ j ∧ j ≤ (z.length : Int)) := by simp only [Bool.or_eq_true, Bool.not_eq_true', decide_eq_false_iff_not] at hb; exact fun k => hb.elim (fun h => h k.1) (fun h => h k.2)
  refine ts (rn rfl (eG (Ts:=[Is (.bool false),Is (.slice none 0 0),Is (.bool false),Is (.slice none 0 0),Is (.slice none 0 0)]) O_51 rfl (fun V=>aW zd (aW zd (aW zd (aW zd (aW zd (aG))))))) fun B8=>(eZ (ts (ro rfl (eW A_51 Z_51 (Ht rfl) (i:=2) rfl rfl rfl) (gJ Z_51 (Ht rfl) (Ht rfl) rfl (i:=1) rfl (aK rfl) rfl rfl (ro rfl (cQ (cJ 1)) (eZ (bI rfl (fJ (fY A_51 Z_51 rfl (i:=1) rfl rfl) ?_) (fJ (eY rfl) ?_)))))))))
  ·exact (fun v V k=>by rw [Ot,if_neg hn]; exact uI v V k)
  ·exact (aM (by rw [if_neg hn]; rfl))
 ·have hp : (1 ≤ i ∧ i ≤ (z.length : Int)) ∧ 1 ≤ j ∧ j ≤ (z.length : Int) := by simpa only [Bool.or_eq_false_iff, Bool.not_eq_false', decide_eq_true_eq] using hb
  have hq:(i - 1).toNat < s.length:=by omega
  have hq2:(j - 1).toNat < (s.getD (i - 1).toNat []).length:=by rw [hs.row zo]; omega
  refine cU (ts (ro rfl (eJ dI (Ht rfl) rfl) (ro rfl (fQ A_30 Z_30 (Ht rfl) (i:=0) rfl rfl) (rm rfl (ro rfl (gM (Ht rfl) cV (tD zo)) (ro rfl (dZ U_30 Z_29 (Ht rfl) (Ht rfl) (by omega:i - 1 = (((i - 1).toNat:Nat):Int)) (eQ (dY (d:=[]) hq))) (ro rfl (dV A_29 Z_29 (Ht rfl)) (rm rfl (ro rfl (gM (Ht rfl) cV (tD zo)) (ro rfl (dZ U_29 Z_51 (Ht rfl) (Ht rfl) (by omega:j - 1 = (((j - 1).toNat:Nat):Int)) (eQ (dY (d:=Qi.zero) hq2))) ?_))))))))))
  refine ro rfl (dV A_51 Z_51 (Ht rfl)) (gJ Z_51 (Ht rfl) (Ht rfl) rfl (i:=1) rfl (aK rfl) rfl rfl (ro rfl (cQ (cJ 0)) (eZ (bI rfl (fJ (fY A_51 Z_51 rfl (i:=1) rfl rfl) ?_) (fJ (eY rfl) ?_)))))
  ·exact (gP (by rw [Ot,if_pos hp]))
  ·exact (aM (by rw [if_pos hp]; rfl))
end
section
open Go Go.RowKit
theorem Qm:Tryz.prog.info? 131 = some Tryz.t131:=by kernel_rfl
theorem Ya:Tryz.prog.info? 35 = some Tryz.t35:=by kernel_rfl
theorem a1D:Tryz.prog.underlying 30 = some (.slice 29):=by kernel_rfl
theorem a23:Tryz.prog.underlying 35 = some (.slice 131):=by kernel_rfl
theorem a10:Tryz.prog.underlying 36 = some (.slice 35):=by kernel_rfl
end
section
open Go Go.RowKit
theorem Bh {m:List (List Rt)} (hm:m.length ≤ 1000) (hr:∀ r,r ∈ m → r.length ≤ 1000):bB Tryz.prog 86 [Pv m] (dM (rq m)):=by
 refine bB.intro Tryz.func86 rfl Tryz.ntmps86 rfl (fun cx=>(ts (ro rfl (cQ cV) (eZ (ts (rm rfl (ro rfl (dK U_23 (Ht rfl) aA) (rn rfl (gR (T:=bA []) (i:=Tryz.t29) a1D sC rfl rfl (Ht rfl) rfl Gy El.one (by show 24 * _ ≤ _; omega) zo) fun B8=>(ra rfl (eZ (cK (ts (rm rfl (ro rfl (dK U_23 (Ht rfl) aA) (ro rfl (cX (cJ 0)) (eZ (eK ?_)))))))))))))))))
 refine fT (fun (k : Nat) (out : List (List Qi)) => mT (fun i => (m.getD i default).map Rt.q) m.length out k) (fun (k : Nat) (out : List (List Qi)) => m.length - k) (fun (k : Nat) (out : List (List Qi)) => [(3, Is B8), (9, Pv m), (10, NT .i64 m.length), (11, NT .i64 k)]) (fun (k : Nat) (out : List (List Qi)) => [bM 29 1 B8 (out.map bA)]) 0 (List.replicate m.length []) (mT.start _ _ _)
  (zS rfl) (aU (aR (rR bA _ _)) aY) (fun k out hS=>?_)
 refine ts (ro rfl (gV (Ht rfl) (Ht rfl)) (eZ (cK (dQ (Ht rfl) (fun hk=>?_) (fun hk=>?_)))))
 ·simp only [decide_eq_true_eq] at hk
  have hlen:=hS.len
  have hrk : (m.getD k default).length ≤ 1000 := by
   have e:m.getD k default = m[k]:=by simp [List.getD,hk]
   rw [e]; exact hr _ (List.getElem_mem hk)
  refine cU (cK (eK (ts (rm rfl (ro rfl (dZ U_23 Z_22 (Ht rfl) (Ht rfl) rfl (eQ (dY (d:=default) hk))) (ro rfl (dV A_22 Z_22 (Ht rfl)) (ra rfl (ra rfl (eZ (cY (rm rfl (rm rfl (rm rfl (ro rfl (cZ Tryz.call48 (wS zo) ⟨(Ht rfl),trivial⟩) (ro rfl (dE U_30 Z_29 (Ht rfl) (Ht rfl) rfl (i:=0) rfl (by first | omega | (simp; omega)) rfl) (kS Z_29 (Ht rfl) (Ht rfl) El.one (i:=0) rfl rfl (by first | omega | (simp; omega)) rfl (eZ (bH ?_))))))))))))))))))
  refine cY (ro rfl (dW (Ht rfl) (cJ 1) z6) (rm rfl (eZ (gQ (k + 1,_) (hS.next hk rfl) (by dsimp only; omega) (zS rfl) (aU (aR (fM bA _ _ _)) aY)))))
 ·simp only [decide_eq_false_iff_not] at hk
  obtain rfl:k = m.length:=Nat.le_antisymm hS.kle zo
  have hfin:=hS.fin
  rw [rS m (fun r=>r.map Rt.q)] at hfin
  refine gK rfl (gG (i:=0) (tt:=3) rfl rfl fP (ts (rm rfl (ra rfl (eZ (fK rfl (fJ (eY rfl) ?_)))))))
  exact (kB (by rw [hfin]))
end
section
open Go Go.RowKit
theorem Nf {n : Nat} {E : cF} {H : Hp} {d : Option Tmp} {t : TypeId} {pos : String} {af : Array Edge} {g : Option (Nat × Bool)}  :
  aF Tryz.prog n E H ⟨d,.build 38 #[],t,pos,af,g⟩ (eD [Is (.slice none 0 0),Is (.slice none 0 0)]) :=
 iA (parts := []) fun a V w hs => by
  refine ⟨.agg #[(.slice none 0 0),(.slice none 0 0)],?_,[(.slice none 0 0),(.slice none 0 0)],rfl,aW (⟨rfl,trivial⟩) (aW (⟨rfl,trivial⟩) (aG))⟩
  simp [Instr.build,Instr.fill,Sem.run_bind,Result.andThen,fI,O_38,U_38,Z_35,Tryz.sizeOf36]
theorem Ki {n : Nat} {E : cF} {H : Hp} {d : Option Tmp} {t : TypeId} {pos : String} {af : Array Edge} {g : Option (Nat × Bool)} {x0 x1 : Operand} {T0 T1 : Ty} [s0 : dC T0 1 false] (h0 : bC E x0 T0) [s1 : dC T1 1 false] (h1 : bC E x1 T1) :
  aF Tryz.prog n E H ⟨d,.build 38 #[(0,x0),(1,x1)],t,pos,af,g⟩ (eD [T0,T1]) :=
 iA (parts := [(0, x0), (1, x1)]) fun a V w hs => by
  have p0:=h0 n V a hs
  generalize e0:a.eval x0 = v0 at p0
  have q0:=(s0.ok v0 V p0).2.2 rfl
  have p1:=h1 n V a hs
  generalize e1:a.eval x1 = v1 at p1
  have q1:=(s1.ok v1 V p1).2.2 rfl
  refine ⟨.agg #[v0,v1],?_,[v0,v1],rfl,aW (⟨p0,q0⟩) (aW (⟨p1,q1⟩) (aG))⟩
  simp [e0,e1,Instr.build,Instr.fill,Sem.run_bind,Result.andThen,fI,q0.cells,q1.cells,O_38,U_38,Z_35,Tryz.sizeOf36]
theorem Kw (a:Addr) (w:World):(Instr.fieldAt 38 (.pointer (some a)) 0).run Tryz.prog w = .ok (.pointer (some (a.add 0))) w:=by
 simp [Instr.fieldAt,Instr.sureAddr,fieldPlace,Sem.run_bind,Result.andThen,U_38,Z_35]
end
section
open Go Go.RowKit
theorem Hm {x:Qi} {L:Nat} [hx:aN x L] (h:L ≤ 17592186044415):bB Tryz.prog 250 [QT x] (aC (kA x)):=by
 refine bB.intro Tryz.func250 rfl Tryz.ntmps250 rfl (fun cx=>(ts (rn rfl (fU (Ht rfl)) fun B1=>(ro rfl (cQ cV) (eZ (ts (ro rfl (eW A_131 Z_131 (Ht rfl) (i:=0) rfl rfl rfl) (ro rfl (cZ Tryz.call242 (Zd zo) ⟨(Ht rfl),trivial⟩) (ro rfl (iW (Ht rfl) cV) (rm rfl (fX rfl rfl (eU rfl rfl (Ht rfl) (fun h=>eW A_131 Z_131 (Ht rfl) (i:=0) rfl rfl rfl)) (fX rfl rfl (eU rfl rfl (Ht rfl) (fun h=>cZ Tryz.call239 Mc ⟨(fW rfl h),trivial⟩)) (fX rfl rfl (eU rfl rfl (Ht rfl) (fun h=>Jz (fW rfl h) cV)) ?_)))))))))))))
 refine ro rfl (eA (Ht rfl) (fun h=>(fW rfl h))) (ra rfl (eZ (fK rfl (fJ (eY rfl) ?_))))
 exact (eN (Wq x))
theorem Ri {z:List Qi} {s:List (List Qi)} (hz:z.length ≤ 100000) (hs:s.length ≤ 100000):bB Tryz.prog 189 [Ff z,QM s] (aC (zA z s)):=by
 refine bB.intro Tryz.func189 rfl Tryz.ntmps189 rfl (fun cx=>(ts (ro rfl (cQ cV) (eZ (cK (ts (rm rfl (ro rfl (dK U_35 (Ht rfl) aA) (ro rfl (gV (Ht rfl) (cJ 1)) (rm rfl (fX rfl rfl (eU rfl rfl (Ht rfl) (fun h=>cX (Ht rfl))) (fX rfl rfl (eU rfl rfl (Ht rfl) (fun h=>dK U_35 (fW rfl h) aA)) (fX rfl rfl (eU rfl rfl (Ht rfl) (fun h=>eT (fW rfl h) (cJ 8))) (ro rfl (kX (Ht rfl) (fun h=>(fW rfl h))) (rm rfl (fX rfl rfl (eU rfl rfl (Ht rfl) (fun h=>cX (Ht rfl))) ?_))))))))))))))))
 refine fX rfl rfl (eU rfl rfl (Ht rfl) (fun h=>dK U_36 (fW rfl h) aA)) (fX rfl rfl (eU rfl rfl (Ht rfl) (fun h=>cX (Ht rfl))) (fX rfl rfl (eU rfl rfl (Ht rfl) (fun h=>dK U_35 (fW rfl h) aA)) (fX rfl rfl (eU rfl rfl (Ht rfl) (fun h=>iV (fW rfl h) (fW rfl h))) (ro rfl (kX (Ht rfl) (fun h=>(fW rfl h))) (eZ (dQ (Ht rfl) (fun hb=>?_) (fun hb=>?_)))))))
 ·refine ts (ro rfl (cQ cV) (eZ (fK rfl (fJ (eY rfl) ?_))))
  exact (eN (by rw [zA,hb]; rfl))
 ·refine cU (cK (ts (ro rfl (cQ (cJ 0)) (eZ (eK ?_)))))
  refine cM (fun (k : Nat) => k ≤ s.length ∧ ∀ (i : Nat) (r : List Qi), i < k → s[i]? = some r → r.length = z.length) (fun (k : Nat) => s.length - k) (fun (k : Nat) => [(0, Ff z), (1, QM s), (5, NT .i64 k)]) (fun (k : Nat) => []) 0 ⟨Nat.zero_le _, fun i r h => by omega⟩
   (zS rfl) aY (fun k ⟨hk,hr⟩=>?_)
  refine cK (ts (rm rfl (rm rfl (ro rfl (dK U_36 (Ht rfl) aA) (ro rfl (gV (Ht rfl) (Ht rfl)) (eZ (dQ (Ht rfl) (fun hc=>?_) (fun hc=>?_))))))))
  ·simp only [decide_eq_true_eq] at hc
   refine cU (cK (eK (ts (rm rfl (rm rfl (ro rfl (dZ U_36 Z_35 (Ht rfl) (Ht rfl) rfl (eQ (qV hc))) (ro rfl (dV Tryz.isAgg35 Z_35 (Ht rfl)) (ro rfl (dK U_35 (Ht rfl) aA) (rm rfl (ro rfl (dK U_35 (Ht rfl) aA) (ro rfl (iV (Ht rfl) (Ht rfl)) (eZ (dQ (Ht rfl) (fun hd=>?_) (fun hd=>?_))))))))))))))
   ·have hd2 : ¬ (s[k]).length = z.length := by simpa using hd
    refine ts (ro rfl (cQ cV) (eZ (fK rfl (fJ (eY rfl) ?_))))
    exact (eN (by rw [zA,Xl (qV hc) hd2,Bool.or_true]; rfl))
   ·have hd2 : (s[k]).length = z.length := by simpa using hd
    refine cU (bH (cY (rm rfl (ro rfl (dW (Ht rfl) (cJ 1) z6) (ra rfl (eZ ?_))))))
    refine gQ (k + 1) ⟨hc, fun i r h1 h2 => by
     by_cases e:i = k
     ·subst e; rw [qV hc] at h2; obtain rfl:=Option.some.inj h2; exact hd2
     ·exact hr i r zo h2⟩ zo (zS rfl) aY
  ·simp only [decide_eq_false_iff_not] at hc
   have hall:∀ (i:Nat) (r:List Qi),s[i]? = some r → r.length = z.length:=fun i r h=>hr i r (by have:=(List.getElem?_eq_some_iff.1 h).1; omega) h
   refine gK rfl (ts (ro rfl (cQ cV) (eZ (fK rfl (fJ (eY rfl) ?_)))))
   exact (eN (by rw [zA,Ut hall,hb]; rfl))
theorem Aw {z:List Qi} {L:Nat} (hz:cC z L) (h:L ≤ 17592186044415) (hl:z.length ≤ 100000):bB Tryz.prog 190 [Ff z] (aC (z.all kA)):=by
 refine bB.intro Tryz.func190 rfl Tryz.ntmps190 rfl (fun cx=>(ts (ro rfl (cQ cV) (eZ (cK (ts (ro rfl (cQ (cJ 0)) (eZ (eK ?_)))))))))
 refine cM (fun (k : Nat) => k ≤ z.length ∧ ∀ (i : Nat) (r : Qi), i < k → z[i]? = some r → kA r = true) (fun (k : Nat) => z.length - k) (fun (k : Nat) => [(0, Ff z), (3, NT .i64 k)]) (fun (k : Nat) => []) 0 ⟨Nat.zero_le _, fun i r h => by omega⟩
  (zS rfl) aY (fun k ⟨hk,hr⟩=>?_)
 refine cK (ts (rm rfl (rm rfl (ro rfl (dK U_35 (Ht rfl) aA) (ro rfl (gV (Ht rfl) (Ht rfl)) (eZ (dQ (Ht rfl) (fun hc=>?_) (fun hc=>?_))))))))
 ·simp only [decide_eq_true_eq] at hc
  haveI hf:aN z[k] L:=hz _ (List.getElem_mem hc)
  refine cU (cK (eK (ts (rm rfl (rm rfl (ro rfl (dZ U_35 Z_131 (Ht rfl) (Ht rfl) rfl (eQ (qV hc))) (ro rfl (dV A_131 Z_131 (Ht rfl)) (ro rfl (cZ Tryz.call250 (Hm (L:=L) h) ⟨(Ht rfl),trivial⟩) (ro rfl (eH (Ht rfl)) (eZ (dQ (Ht rfl) (fun hd=>?_) (fun hd=>?_))))))))))))
  ·have hd2 : kA z[k] = false := by simpa using hd
   refine ts (ro rfl (cQ cV) (eZ (fK rfl (fJ (eY rfl) ?_))))
   exact (eN (a1Q (qV hc) hd2).symm)
  ·have hd2 : kA z[k] = true := by simpa using hd
   refine cU (bH (cY (rm rfl (ro rfl (dW (Ht rfl) (cJ 1) z6) (ra rfl (eZ ?_))))))
   refine gQ (k + 1) ⟨hc, fun i r h1 h2 => by
    by_cases e:i = k
    ·subst e; rw [qV hc] at h2; obtain rfl:=Option.some.inj h2; exact hd2
    ·exact hr i r zo h2⟩ zo (zS rfl) aY
 ·simp only [decide_eq_false_iff_not] at hc
  have hall:∀ (i:Nat) (r:Qi),z[i]? = some r → kA r = true:=fun i r h=>hr i r (by have:=(List.getElem?_eq_some_iff.1 h).1; omega) h
  refine gK rfl (ts (ro rfl (cQ cV) (eZ (fK rfl (fJ (eY rfl) ?_)))))
  exact (eN (Xn hall).symm)
theorem Nm {z:List Qi} {s:List (List Qi)} {L:Nat} (hz:cC z L) (h:L ≤ 17592186044415) (hl:z.length ≤ 1000) (hl2:s.length ≤ 1000):bB Tryz.prog 90 [Ff z,QM s] (dN [sY (iI (cD z s) z) (iI (cD z s) s),aD .i64 (cD z s)]):=by
 refine bB.intro Tryz.func90 rfl Tryz.ntmps90 rfl (fun cx=>(ts (rn rfl (eG (Ts:=[Is (.slice none 0 0),Is (.slice none 0 0)]) O_38 rfl (fun V=>aW zd (aW zd (aG)))) fun B4=>(ro rfl (cQ (cJ 0)) (eZ (cK (ts (rm rfl (rm rfl (ro rfl (cZ Tryz.call189 (Ri zo zo) ⟨(Ht rfl),(Ht rfl),trivial⟩) (ro rfl (eH (Ht rfl)) (eZ (dQ (Ht rfl) (fun hb=>?_) (fun hb=>?_))))))))))))))
 ·have hb2 : ¬ zA z s = true := by simpa using hb
  have he:cD z s = 4:=by rw [wR,if_neg hb2]
  refine ts (ro rfl (aF.imp (Nf ) Fz) (gJ Z_38 (Ht rfl) (Ht rfl) rfl (i:=0) rfl (aK rfl) rfl rfl (ro rfl (cQ (cJ 4)) (eZ (bI rfl (fJ (fY A_38 Z_38 rfl (i:=0) rfl rfl) ?_) (fJ (eY rfl) ?_))))))
  ·exact (Ia he (by decide))
  ·exact (aM he.symm)
 ·have hb2 : zA z s = true := by simpa using hb
  refine cU (cK (ts (rm rfl (ro rfl (cZ Tryz.call190 (Aw (by assumption) (by assumption) zo) ⟨(Ht rfl),trivial⟩) ?_))))
  refine ro rfl (eH (Ht rfl)) (eZ (dQ (Ht rfl) (fun hc=>?_) (fun hc=>?_)))
  ·have hc2 : ¬ z.all kA = true := by simp only [Bool.not_eq_true'] at hc; rw [hc]; exact Bool.noConfusion
   have he:cD z s = 1:=by rw [wR,if_pos hb2,if_neg hc2]
   refine ts (ro rfl (aF.imp (Nf ) Fz) (gJ Z_38 (Ht rfl) (Ht rfl) rfl (i:=0) rfl (aK rfl) rfl rfl (ro rfl (cQ (cJ 1)) (eZ (bI rfl (fJ (fY A_38 Z_38 rfl (i:=0) rfl rfl) ?_) (fJ (eY rfl) ?_))))))
   ·exact (Ia he (by decide))
   ·exact (aM he.symm)
  ·have hc2 : z.all kA = true := by simp only [Bool.not_eq_false'] at hc; exact hc
   have he:cD z s = 0:=by rw [wR,if_pos hb2,if_pos hc2]
   refine cU (ts (rm rfl (rm rfl (ro rfl (Ki (Ht rfl) (Ht rfl)) (gJ Z_38 (Ht rfl) (Ht rfl) rfl (i:=0) rfl (aK rfl) rfl rfl (ro rfl (cQ (cJ 0)) (eZ (bI rfl (fJ (fY A_38 Z_38 rfl (i:=0) rfl rfl) ?_) (fJ (eY rfl) ?_)))))))))
   ·exact (Np he)
   ·exact (aM he.symm)
end
section
open Go Go.RowKit
theorem Vv (a:Addr) (w:World):(Instr.fieldAt 38 (.pointer (some a)) 1).run Tryz.prog w = .ok (.pointer (some (a.add 1))) w:=by
 simp [Instr.fieldAt,Instr.sureAddr,fieldPlace,Sem.run_bind,Result.andThen,U_38,Tryz.sizeOf36]
end
section
open Go Go.RowKit
theorem tF (v : Value) (w : World) : (method (Tryz.prog.types.size + Made.depth) 51 v "Of").run Tryz.prog w = .ok (302, v) w := by kernel_rfl
theorem bN (v:Value) (w:World):(Instr.makeInterface 51 v).run Tryz.prog w = .ok (.iface 51 v) w:=by
 simp [Instr.makeInterface,Sem.run_bind,Result.andThen,U_51]
end
section
open Go Go.RowKit
theorem Tl {y:Qi}:bB Tryz.prog 302 [eD [Is (.bool false),Is (.slice none 0 0),Is (.bool false),Is (.slice none 0 0),Is (.slice none 0 0)],aE y] (aE y):=by
 refine bB.intro Tryz.func302 rfl Tryz.ntmps302 rfl (fun cx=>(ts (rn rfl (fU (Ht rfl)) fun B2=>(rn rfl (fU (Ht rfl)) fun B3=>(rn rfl (eG (Ts:=[Is (.bool false),Is (.slice none 0 0),Is (.bool false),Is (.slice none 0 0),Is (.slice none 0 0)]) O_51 rfl (fun V=>aW zd (aW zd (aW zd (aW zd (aW zd (aG))))))) fun B4=>(eZ (ts (ro rfl (eW A_51 Z_51 (Ht rfl) (i:=1) rfl rfl rfl) (gJ Z_51 (Ht rfl) (Ht rfl) rfl (i:=2) rfl (aK rfl) rfl rfl ?_)))))))))
 refine eZ ?_
 exact fK rfl (fY A_51 Z_51 rfl (i:=2) rfl rfl)
theorem Ji {r:List Qi} {k:Nat}:bB Tryz.prog 273 [bA r,PT (NT .i64 k)] (aC (!decide (r.length = k))):=by
 refine bB.intro Tryz.func273 rfl Tryz.ntmps273 rfl (fun cx=>(ts (ro rfl (cQ cV) (eZ (ts (rm rfl (ro rfl (dK U_29 (Ht rfl) aA) (ro rfl (dV A_3 Z_3 (Ht rfl)) (ro rfl (iV (Ht rfl) (Ht rfl)) (ra rfl (eZ ?_)))))))))))
 exact fK rfl (eY rfl)
theorem Nt {a:List (List Qi)} {n k:Nat} (h:eR a n k) (h1:1 ≤ n) (hn:n ≤ 32) (hk:k ≤ 32):bB Tryz.prog 240 [dM a] (dN [NT .i64 k,aC true]):=by
 obtain ⟨rfl,h2⟩:=h
 have hr0:(a.getD 0 []).length = k:=eR.row ⟨rfl,h2⟩ zo
 refine bB.intro Tryz.func240 rfl Tryz.ntmps240 rfl (fun cx=>(ts (ro rfl (cQ (cJ 0)) (ro rfl (cQ cV) (eZ (cK (ts (rm rfl (ro rfl (dK U_30 (Ht rfl) aA) (ro rfl (cB (Ht rfl) (cJ 0)) (eZ (dQ (Ht rfl) (fun hb=>?_) (fun hb=>?_)))))))))))))
 ·simp only [decide_eq_true_eq] at hb
  omega
 ·refine cU (ts (rm rfl (ro rfl (dZ U_30 Z_29 (Ht rfl) (cJ 0) rfl (eQ (dY (d := []) zo))) (ro rfl (dV A_29 Z_29 (Ht rfl)) (ro rfl (dK U_29 (Ht rfl) aA) (rn rfl (eG (Ts := [Is (.int .i64 0)]) O_3 rfl (fun V => aW zd (aG))) fun B4 => (jL Z_3 (Ht rfl) (Ht rfl) (i := 0) rfl (aK rfl) rfl (eZ (cK (gG (i := 0) (tt := 4) rfl rfl gY (fV (m := 15) (dp 4 rfl (dV A_3 Z_3 (Ht rfl)) ?_))))))))))))
  refine dp 0 rfl (cX (Ht rfl)) (dq 13 1 rfl (dK U_30 (Ht rfl) aA) (dq 14 2 rfl (uF (Ht rfl) (cJ 32)) (dq 15 3 rfl (cX (Ht rfl)) (C.D_step (Ei:=[(4,_),(16,_)]) rfl rfl (bV (bK rfl rfl) (bV (bG 4 rfl rfl) bW)) (eU rfl rfl (Ht rfl) (fun h=>dV A_3 Z_3 (Ht rfl))) (C.D_step (Ei:=[(17,_),(16,_)]) rfl rfl (bV (bG 5 rfl rfl) (bV (bG 4 rfl rfl) bW)) (eU rfl rfl (Ht rfl) (fun h=>uF (fW rfl h) (cJ 32))) (dS 16 4 18 6 rfl (eA (Ht rfl) (fun h=>(fW rfl h))) ?_))))))
  refine dq 19 7 rfl (cX (Ht rfl)) (C.D_step (Ei:=[(0,_),(20,_)]) rfl rfl (bV (bK rfl rfl) (bV (bG 8 rfl rfl) bW)) (eU rfl rfl (Ht rfl) (fun h=>cX (Ht rfl))) (C.D_step (Ei:=[(4,_),(20,_)]) rfl rfl (bV (bK rfl rfl) (bV (bG 8 rfl rfl) bW)) (eU rfl rfl (Ht rfl) (fun h=>lW (γ:=List Qi) (Ts:=fun r=>[bA r]) (U:=fun r=>aC (!decide (r.length = (a.getD 0 []).length))) Tryz.call273 (fun r=>Ji) ⟨(Ht rfl),trivial⟩)) (C.D_step (Ei:=[(21,_),(22,_),(20,_)]) rfl rfl (bV (bG 9 rfl rfl) (bV (bG 10 rfl rfl) (bV (bG 8 rfl rfl) bW))) (eU rfl rfl (Ht rfl) (fun h=>cZ Tryz.call156 (Ao (l:=a) (T:=bA) (p:=fun r=>!decide (r.length = (a.getD 0 []).length)) zo) ⟨(fW rfl h),(fW rfl h),trivial⟩)) ?_)))
  refine C.D_step (Ei:=[(23,_),(20,_)]) rfl rfl (bV (bG 11 rfl rfl) (bV (bG 8 rfl rfl) bW)) (eU rfl rfl (Ht rfl) (fun h=>eH (fW rfl h))) (dS 20 8 24 12 rfl (eA (Ht rfl) (fun h=>(fW rfl h))) (dq 12 0 rfl (cQ (Ht rfl)) (fG bF rfl (by kernel_rfl) (zF (zF (zF (aJ (aJ (aJ (aV (ra rfl (eZ (bI rfl (fJ (eY rfl) ?_) (fJ (eY rfl) ?_))))))))))))))
  ·exact (lL hr0)
  ·exact (eN (by rw [hr0,Wn ⟨rfl,h2⟩]; simp; omega))
end
section
open Go Go.RowKit
theorem lG (v : Value) (w : World) : (method (Tryz.prog.types.size + Made.depth) 51 v "Add").run Tryz.prog w = .ok (46, v) w := by kernel_rfl
theorem cI (v : Value) (w : World) : (method (Tryz.prog.types.size + Made.depth) 51 v "Mul").run Tryz.prog w = .ok (45, v) w := by kernel_rfl
end
section
open Go Go.RowKit
theorem jT (v : Value) (w : World) : (method (Tryz.prog.types.size + Made.depth) 51 v "Div").run Tryz.prog w = .ok (40, v) w := by kernel_rfl
theorem jE (v : Value) (w : World) : (method (Tryz.prog.types.size + Made.depth) 51 v "Sub").run Tryz.prog w = .ok (44, v) w := by kernel_rfl
end
section
open Go Go.RowKit
theorem Xi {n:Nat} (h:n < 4294967296):bB Tryz.prog 278 [NT .u64 1,NT .u64 n] (dN [NT .u64 0,NT .u64 n]):=by
 refine bB.intro Tryz.func278 rfl Tryz.ntmps278 rfl (fun cx=>(ts (ro rfl (cQ (cJ 0)) (ro rfl (cQ (cJ 0)) (eZ (ts (rm rfl (ro rfl (aF.nat (rY rfl (Ht rfl) (cJ 4294967295) z7 z7) (show (1:Nat) &&& 4294967295 = 1 by decide)) (ra rfl (eZ (ts (rm rfl (ro rfl (aF.nat (fD (Ht rfl) (cJ 32) (by decide)) (show (1:Nat) / 2 ^ 32 = 0 by decide)) (ra rfl (eZ (ts (rm rfl (ro rfl (aF.nat (rY rfl (Ht rfl) (cJ 4294967295) z7 z7) (show n &&& 4294967295 = n from (Nat.and_two_pow_sub_one_eq_mod n 32).trans (Nat.mod_eq_of_lt h))) ?_))))))))))))))))))
 refine ra rfl (eZ (ts (rm rfl (ro rfl (aF.nat (fD (Ht rfl) (cJ 32) (by decide)) (show n / 2 ^ 32 = 0 from Nat.div_eq_of_lt h)) (ra rfl (eZ (ts (rm rfl (rm rfl (ro rfl (aF.nat (kQ (Ht rfl) (Ht rfl) z7) (Nat.one_mul n)) (ra rfl (eZ (ts (rm rfl (rm rfl (ro rfl (aF.nat (kQ (Ht rfl) (Ht rfl) z7) (Nat.zero_mul n)) (rm rfl (ro rfl (aF.nat (fD (Ht rfl) (cJ 32) (by decide)) (show n / 2 ^ 32 = 0 from Nat.div_eq_of_lt h)) ?_))))))))))))))))))
 refine ro rfl (dW (Ht rfl) (Ht rfl) z7) (ra rfl (eZ (ts (rm rfl (ro rfl (aF.nat (rY rfl (Ht rfl) (cJ 4294967295) z7 z7) (show (0 + 0:Nat) &&& 4294967295 = 0 by decide)) (ra rfl (eZ (ts (rm rfl (ro rfl (aF.nat (fD (Ht rfl) (cJ 32) (by decide)) (show (0 + 0:Nat) / 2 ^ 32 = 0 by decide)) (ra rfl (eZ (ts (rm rfl (rm rfl (rm rfl ?_))))))))))))))))
 refine ro rfl (aF.nat (kQ (Ht rfl) (Ht rfl) z7) (show (1 * 0:Nat) = 0 by decide)) (ro rfl (dW (Ht rfl) (Ht rfl) z7) (ra rfl (eZ (ts (rm rfl (rm rfl (ro rfl (aF.nat (kQ (Ht rfl) (Ht rfl) z7) (show (0 * 0:Nat) = 0 by decide)) (rm rfl (ro rfl (dW (Ht rfl) (Ht rfl) z7) ?_)))))))))
 refine rm rfl (ro rfl (aF.nat (fD (Ht rfl) (cJ 32) (by decide)) (show (0 + 0:Nat) / 2 ^ 32 = 0 by decide)) (ro rfl (dW (Ht rfl) (Ht rfl) z7) (ra rfl (eZ (ts (rm rfl (rm rfl (ro rfl (aF.nat (kQ (Ht rfl) (Ht rfl) z7) (Nat.one_mul n)) (ra rfl (eZ (bI rfl (fJ (eY rfl) ?_) (eY rfl))))))))))))
 exact (lL (by decide))
theorem a1w {n:Nat} (h:n < 4294967296):bB Tryz.prog 251 [NT .u64 1,NT .u64 n] (dN [NT .u64 0,NT .u64 n]):=by
 refine bB.intro Tryz.func251 rfl Tryz.ntmps251 rfl (fun cx=>(ts (ro rfl (cQ (cJ 0)) (ro rfl (cQ (cJ 0)) (eZ (cK (dQ cV (fun hf=>?_) (fun hf=>?_))))))))
 ·exact absurd hf (by decide)
 ·refine cU (ts (rm rfl (rm rfl (ro rfl (cZ Tryz.call278 (Xi h) ⟨(Ht rfl), (Ht rfl), trivial⟩) (rm rfl (ro rfl (dU (Ht rfl) rfl) (ro rfl (dU (Ht rfl) rfl) (ra rfl (ra rfl (eZ (ts (rm rfl (rm rfl (ra rfl (ra rfl (eZ ?_))))))))))))))))
  exact bI rfl (eY rfl) (eY rfl)
theorem a1d {m:Nat} (h1:1 ≤ m) (hm:m ≤ 1000):jH Tryz.prog 191 [bA [Qi.zero],NT .i64 m] [] ({v:Value // vM v}) (fun v=>Is v.1) (fun v=>[bM 51 5 v.1 ((tab m fun _=>Qi.zero).map aE)]) (fun _=>True):=by
 refine jH.intro Tryz.func191 rfl Tryz.ntmps191 rfl (fun cx Z=>(ts (ro rfl (cQ cV) (eZ (cK (ts (rm rfl (ro rfl (gV (Ht rfl) (cJ 0)) (eZ (dQ (Ht rfl) (fun h0=>?_) (fun h0=>?_)))))))))))
 ·simp only [decide_eq_true_eq] at h0
  omega
 ·refine cU (ts (rm rfl (ro rfl (dK U_29 (Ht rfl) (show (([Qi.zero].map aE).length : Int) = ((1 : Nat) : Int) from rfl)) (ro rfl (gW U_3 U_255 (Ht rfl) z7) (rm rfl (ro rfl (gW U_3 U_255 (Ht rfl) z7) (ro rfl (cZ Tryz.call251 (a1w zo) ⟨(Ht rfl), (Ht rfl), trivial⟩) (rm rfl (ro rfl (dU (Ht rfl) rfl) (ro rfl (dU (Ht rfl) rfl) ?_))))))))))
  refine ra rfl (ra rfl (eZ (cK (ts (rm rfl (ro rfl (eT (Ht rfl) (cJ 0)) (rm rfl (fX rfl rfl (eU rfl rfl (Ht rfl) (fun h=>cX (Ht rfl))) (fX rfl rfl (eU rfl rfl (Ht rfl) (fun h=>eT (fW rfl h) (cJ 9223372036854775807))) (ro rfl (kX (Ht rfl) (fun h=>(fW rfl h))) (eZ (dQ (Ht rfl) (fun h2=>?_) (fun h2=>?_)))))))))))))
  ·simp only [Bool.or_eq_true, decide_eq_true_eq] at h2
   omega
  ·refine cU (ts (rm rfl (ro rfl (gW U_255 U_3 (Ht rfl) z6) (Zr (T := aE Qi.zero) (i := Tryz.t51) kD iS rfl rfl (Ht rfl) rfl gS (El.ag rfl) (by show 88 * _ ≤ _; omega) zo rfl (fun B30 hB30 => (ra rfl (eZ (ts (rm rfl (rm rfl (ro rfl (Tj (q := 1) (T := aE Qi.zero) U_29 Z_51 (i := 1) rfl (Ht rfl) (Ht rfl) (by decide) (El.ag rfl) zo) (ra rfl (eZ (cK (eK ?_)))))))))))))))
   refine cM (fun (k : Nat) => 1 ≤ k ∧ k ≤ m) (fun (k : Nat) => m - k) (fun (k : Nat) => [(7, Is B30), (8, NT .i64 k)]) (fun (k : Nat) => [Z, bM 51 5 B30 (List.replicate m (aE Qi.zero))]) (Nat.min 1 m) ⟨by show 1 ≤ min 1 m; omega, by show min 1 m ≤ m; omega⟩
    (zS rfl) (dL.refl _) (fun k ⟨hk1,hk⟩=>?_)
   refine cK (ts (rm rfl (rm rfl (ro rfl (nS U_29 (Ht rfl) (i:=1) rfl (show ((List.replicate m (aE Qi.zero)).length:Int) = ((m:Nat):Int) by simp)) (ro rfl (gV (Ht rfl) (Ht rfl)) (eZ (dQ (Ht rfl) (fun hd=>?_) (fun hd=>?_))))))))
   ·simp only [decide_eq_true_eq] at hd
    have hlen:(List.replicate m (aE Qi.zero)).length = m:=by simp
    have h5:Nat.min k ((List.replicate m (aE Qi.zero)).length - k) = min k (m - k):=by rw [hlen]
    refine cU (eK (fV (m:=8) (dp 8 rfl (cX (Ht rfl)) (dp 7 rfl (cX (Ht rfl)) (dp 8 rfl (cX (Ht rfl)) (dS 39 1 40 2 rfl (Sq U_29 Z_51 (Ht rfl) (Ht rfl) rfl (i:=1) rfl (by rw [hlen]; exact hd)) ?_))))))
    refine dp 7 rfl (cX (Ht rfl)) (dp 8 rfl (cX (Ht rfl)) (dS 42 4 43 5 rfl (Pu U_29 Z_51 (Ht rfl) (Ht rfl) rfl (i:=1) rfl (by rw [hlen]; omega) (by rw [hlen]; omega)) ?_))
    refine dS 41 3 44 6 rfl (Jh (T:=aE Qi.zero) U_29 Z_51 (i:=1) rfl (Ht rfl) (Ht rfl)) (fG bF rfl (by kernel_rfl) (zF (zF (aV (ro rfl (dW (Ht rfl) (Ht rfl) (by show _ < 9223372036854775808; omega)) (ra rfl (eZ (bH (gQ (k + Nat.min k ((List.replicate m (aE Qi.zero)).length - k)) ⟨by omega,by omega⟩ zo (zS rfl) (dL.refl _))))))))))
   ·refine gK rfl (ts (rm rfl (ra rfl (eZ ?_))))
    exact lR ⟨B30,hB30⟩ trivial [0,1] ⟨⟨_,rfl,fun _ _ _ h=>h⟩,⟨_,rfl,(aR (by rw [pO,rR]))⟩,trivial⟩ (by decide) (yO rfl (eY rfl))
end
section
open Go Go.RowKit
theorem Ua {n : Nat} {E : cF} {H : Hp} {d : Option Tmp} {t : TypeId} {pos : String} {af : Array Edge} {g : Option (Nat × Bool)}  :
  aF Tryz.prog n E H ⟨d,.build 102 #[],t,pos,af,g⟩ (eD [Is (.int .i64 0),Is (.int .i64 0),Is (.int .i64 0)]) :=
 iA (parts := []) fun a V w hs => by
  refine ⟨.agg #[(.int .i64 0),(.int .i64 0),(.int .i64 0)],?_,[(.int .i64 0),(.int .i64 0),(.int .i64 0)],rfl,aW (⟨rfl,trivial⟩) (aW (⟨rfl,trivial⟩) (aW (⟨rfl,trivial⟩) (aG)))⟩
  simp [Instr.build,Instr.fill,Sem.run_bind,Result.andThen,fI,O_102,U_102,Z_2]
theorem Bj {n : Nat} {E : cF} {H : Hp} {d : Option Tmp} {t : TypeId} {pos : String} {af : Array Edge} {g : Option (Nat × Bool)} {x0 : Operand} {T0 : Ty} [s0 : dC T0 1 false] (h0 : bC E x0 T0) :
  aF Tryz.prog n E H ⟨d,.build 102 #[(0,x0)],t,pos,af,g⟩ (eD [T0,Is (.int .i64 0),Is (.int .i64 0)]) :=
 iA (parts := [(0, x0)]) fun a V w hs => by
  have p0:=h0 n V a hs
  generalize e0:a.eval x0 = v0 at p0
  have q0:=(s0.ok v0 V p0).2.2 rfl
  refine ⟨.agg #[v0,(.int .i64 0),(.int .i64 0)],?_,[v0,(.int .i64 0),(.int .i64 0)],rfl,aW (⟨p0,q0⟩) (aW (⟨rfl,trivial⟩) (aW (⟨rfl,trivial⟩) (aG)))⟩
  simp [e0,Instr.build,Instr.fill,Sem.run_bind,Result.andThen,fI,q0.cells,O_102,U_102,Z_2]
theorem wU {n : Nat} {E : cF} {H : Hp} {d : Option Tmp} {t : TypeId} {pos : String} {af : Array Edge} {g : Option (Nat × Bool)} {x0 x2 : Operand} {T0 T2 : Ty} [s0 : dC T0 1 false] (h0 : bC E x0 T0) [s2 : dC T2 1 false] (h2 : bC E x2 T2) :
  aF Tryz.prog n E H ⟨d,.build 102 #[(0,x0),(2,x2)],t,pos,af,g⟩ (eD [T0,Is (.int .i64 0),T2]) :=
 iA (parts := [(0, x0), (2, x2)]) fun a V w hs => by
  have p0:=h0 n V a hs
  generalize e0:a.eval x0 = v0 at p0
  have q0:=(s0.ok v0 V p0).2.2 rfl
  have p2:=h2 n V a hs
  generalize e2:a.eval x2 = v2 at p2
  have q2:=(s2.ok v2 V p2).2.2 rfl
  refine ⟨.agg #[v0,(.int .i64 0),v2],?_,[v0,(.int .i64 0),v2],rfl,aW (⟨p0,q0⟩) (aW (⟨rfl,trivial⟩) (aW (⟨p2,q2⟩) (aG)))⟩
  simp [e0,e2,Instr.build,Instr.fill,Sem.run_bind,Result.andThen,fI,q0.cells,q2.cells,O_102,U_102,Z_2]
end
section
open Go Go.RowKit
theorem a1r {z:List Qi} {i:Nat} (h:i < z.length):∀ v V,(dN [aE (Vt z ((i + 1:Nat):Int)),aD .i64 (if 1 ≤ ((i + 1:Nat):Int) ∧ ((i + 1:Nat):Int) ≤ z.length then 0 else 1)]).p v V → (dN [aE (gv z i),aD .i64 0]).p v V:=by
 rw [show Vt z ((i + 1:Nat):Int) = gv z i from Ej h,if_pos zo]; exact fun _ _ h=>h
theorem a2u {n:Nat} {s:List (List Qi)} {i j:Nat} (h:i < n) (k:j < n):∀ v V,(dN [aE (Ot n s ((i + 1:Nat):Int) ((j + 1:Nat):Int)),aD .i64 (if (1 ≤ ((i + 1:Nat):Int) ∧ ((i + 1:Nat):Int) ≤ n) ∧ 1 ≤ ((j + 1:Nat):Int) ∧ ((j + 1:Nat):Int) ≤ n then 0 else 1)]).p v V → (dN [aE (gm s i j),aD .i64 0]).p v V:=by
 rw [show Ot n s ((i + 1:Nat):Int) ((j + 1:Nat):Int) = gm s i j from yC h k,if_pos zo]; exact fun _ _ h=>h
end
section
open Go Go.RowKit
theorem Qi.zero_div (y:Qi):Qi.zero / y = Qi.zero:=by rw [Qi.div_def,Qi.zero_mul']
end
section
open Go Go.RowKit
theorem Eg {α:Type} {l:List α} {d:α} {k:Nat} (h:k < l.length):l.getD k d = l[k]:=by simp [List.getD,h]
theorem a2T {l m:List Qi} (h:l.length = m.length) (k:∀ i,i < l.length → gv l i = gv m i):l = m:=by
 apply List.ext_getElem h
 intro i h1 h2
 have:=k i h1
 simpa [gv,List.getD,h1,h2] using this
theorem Wg {l m:List (List Qi)} (h:l.length = m.length) (k:∀ i,i < l.length → l.getD i [] = m.getD i []):l = m:=by
 apply List.ext_getElem h
 intro i h1 h2
 have:=k i h1
 simpa [List.getD,h1,h2] using this
theorem a2E {l m:List Qi} {i:Nat} (h:gv l i ≠ gv m i):l ≠ m:=fun e=>h (by rw [e])
theorem Xh {l m:List (List Qi)} {i:Nat} (h:l.getD i [] ≠ m.getD i []):l ≠ m:=fun e=>h (by rw [e])
def Kx (z z':List Qi) (s s':List (List Qi)):Bool:=decide (z = z') && decide (s = s')
theorem zE (z:List Qi) (s:List (List Qi)):Kx z z s s = true:=by simp [Kx]
end
section
open Go Go.RowKit
theorem Ez (v : Value) (w : World) : (method (Tryz.prog.types.size + Made.depth) 51 v "Same").run Tryz.prog w = .ok (139, v) w := by kernel_rfl
end
section
open Go Go.RowKit
theorem Ks {l m:List Qi} {L:Nat} (hl:cC l L) (hm:cC m L) (hL:1 ≤ L) (h1:l.length ≤ 1000) (h2:m.length ≤ 1000):bB Tryz.prog 155 [bA l,bA m,xJ Tryz.prog {x:Qi × Qi // aN x.1 L ∧ aN x.2 L} (fun x=>[aE x.1.1,aE x.1.2]) (fun x=>aC (decide (x.1.1 = x.1.2)))] (aC (decide (l = m))):=by
 refine bB.intro Tryz.func155 rfl Tryz.ntmps155 rfl (fun cx=>(ts (ro rfl (cQ cV) (eZ (cK (ts (rm rfl (ro rfl (dK U_29 (Ht rfl) aA) (rm rfl (ro rfl (dK U_29 (Ht rfl) aA) (ro rfl (iV (Ht rfl) (Ht rfl)) (eZ (dQ (Ht rfl) (fun hb=>?_) (fun hb=>?_))))))))))))))
 ·have hn : ¬ l = m := fun e => by rw [e] at hb; simp at hb
  refine ts (ro rfl (cQ cV) (eZ (fK rfl (fJ (eY rfl) ?_))))
  exact (eN (decide_eq_false hn).symm)
 ·have he : l.length = m.length := by simpa using hb
  refine cU (cK (ts (rm rfl (ro rfl (dK U_29 (Ht rfl) aA) (ro rfl (cX (cJ 0)) (eZ (eK ?_)))))))
  refine cM (fun (k : Nat) => k ≤ l.length ∧ ∀ i, i < k → gv l i = gv m i) (fun (k : Nat) => l.length - k) (fun (k : Nat) => [(0, bA l), (1, bA m), (2, xJ Tryz.prog {x : Qi × Qi // aN x.1 L ∧ aN x.2 L} (fun x => [aE x.1.1, aE x.1.2]) (fun x => aC (decide (x.1.1 = x.1.2)))), (15, bA l), (16, NT .i64 l.length), (17, NT .i64 k)]) (fun (k : Nat) => []) 0 ⟨Nat.zero_le _, fun i h => by omega⟩
   (zS rfl) aY (fun k ⟨hk,hr⟩=>?_)
  refine ts (ro rfl (gV (Ht rfl) (Ht rfl)) (eZ (cK (dQ (Ht rfl) (fun hc=>?_) (fun hc=>?_)))))
  ·simp only [decide_eq_true_eq] at hc
   refine cU (cK (eK (ts (rm rfl (ro rfl (dZ U_29 Z_51 (Ht rfl) (Ht rfl) rfl (eQ (dY (d:=Qi.zero) zo))) (ro rfl (dV A_51 Z_51 (Ht rfl)) (rn rfl (eG (Ts:=[Is (.bool false),Is (.slice none 0 0),Is (.bool false),Is (.slice none 0 0),Is (.slice none 0 0)]) O_51 rfl (fun V=>aW zd (aW zd (aW zd (aW zd (aW zd (aG))))))) fun B8=>(ra rfl (gJ Z_51 (Ht rfl) (Ht rfl) rfl (i:=0) rfl (aK rfl) rfl rfl ?_)))))))))
   refine eZ (ts (rm rfl (rm rfl (ro rfl (dZ U_29 Z_51 (Ht rfl) (Ht rfl) rfl (eQ (dY (d:=Qi.zero) zo))) (ro rfl (dV A_51 Z_51 (Ht rfl)) (rn rfl (eG (Ts:=[Is (.bool false),Is (.slice none 0 0),Is (.bool false),Is (.slice none 0 0),Is (.slice none 0 0)]) O_51 rfl (fun V=>aW zd (aW zd (aW zd (aW zd (aW zd (aG))))))) fun B9=>(gJ Z_51 (Ht rfl) (Ht rfl) rfl (i:=1) rfl (aK rfl) rfl rfl ?_)))))))
   refine eZ (ts (rm rfl (ro rfl (eW A_51 Z_51 (Ht rfl) (i:=0) rfl rfl rfl) (ro rfl (eW A_51 Z_51 (Ht rfl) (i:=1) rfl rfl rfl) (ro rfl (oC (⟨(gv l k,gv m k),hl.get hL k,hm.get hL k⟩:{x:Qi × Qi // aN x.1 L ∧ aN x.2 L}) (Ht rfl) ⟨(Ht rfl),(Ht rfl),trivial⟩) (ro rfl (eH (Ht rfl)) (eZ (dQ (Ht rfl) (fun hd=>?_) (fun hd=>?_)))))))))
   ·have hn : ¬ l = m := a2E (i := k) (by simpa using hd)
    refine ts (ro rfl (cQ cV) (eZ (fK rfl (fJ (eY rfl) ?_))))
    exact (eN (decide_eq_false hn).symm)
   ·have hq : gv l k = gv m k := by simpa using hd
    refine cU (bH (cY (ro rfl (dW (Ht rfl) (cJ 1) z6) (rm rfl (eZ (bL [] rfl (by decide) ?_))))))
    refine gQ (k + 1) ⟨hc, fun i h => by
     by_cases e:i = k
     ·rw [e]; exact hq
     ·exact hr i zo⟩ zo (zS rfl) aY
  ·simp only [decide_eq_false_iff_not] at hc
   refine gK rfl (ts (ro rfl (cQ cV) (eZ (fK rfl (fJ (eY rfl) ?_)))))
   exact (eN (decide_eq_true (a2T he (fun i h=>hr i zo))).symm)
theorem Xr {l m:List (List Qi)} {L:Nat} (hl:bT l L) (hm:bT m L) (h3:∀ r,r ∈ l → r.length ≤ 1000) (h4:∀ r,r ∈ m → r.length ≤ 1000) (h1:l.length ≤ 1000) (h2:m.length ≤ 1000):bB Tryz.prog 153 [dM l,dM m,xJ Tryz.prog {x:List Qi × List Qi // (cC x.1 L ∧ x.1.length ≤ 1000) ∧ cC x.2 L ∧ x.2.length ≤ 1000} (fun x=>[bA x.1.1,bA x.1.2]) (fun x=>aC (decide (x.1.1 = x.1.2)))] (aC (decide (l = m))):=by
 refine bB.intro Tryz.func153 rfl Tryz.ntmps153 rfl (fun cx=>(ts (ro rfl (cQ cV) (eZ (cK (ts (rm rfl (ro rfl (dK U_30 (Ht rfl) aA) (rm rfl (ro rfl (dK U_30 (Ht rfl) aA) (ro rfl (iV (Ht rfl) (Ht rfl)) (eZ (dQ (Ht rfl) (fun hb=>?_) (fun hb=>?_))))))))))))))
 ·have hn : ¬ l = m := fun e => by rw [e] at hb; simp at hb
  refine ts (ro rfl (cQ cV) (eZ (fK rfl (fJ (eY rfl) ?_))))
  exact (eN (decide_eq_false hn).symm)
 ·have he : l.length = m.length := by simpa using hb
  refine cU (cK (ts (rm rfl (ro rfl (dK U_30 (Ht rfl) aA) (ro rfl (cX (cJ 0)) (eZ (eK ?_)))))))
  refine cM (fun (k : Nat) => k ≤ l.length ∧ ∀ i, i < k → l.getD i [] = m.getD i []) (fun (k : Nat) => l.length - k) (fun (k : Nat) => [(0, dM l), (1, dM m), (2, xJ Tryz.prog {x : List Qi × List Qi // (cC x.1 L ∧ x.1.length ≤ 1000) ∧ cC x.2 L ∧ x.2.length ≤ 1000} (fun x => [bA x.1.1, bA x.1.2]) (fun x => aC (decide (x.1.1 = x.1.2)))), (15, dM l), (16, NT .i64 l.length), (17, NT .i64 k)]) (fun (k : Nat) => []) 0 ⟨Nat.zero_le _, fun i h => by omega⟩
   (zS rfl) aY (fun k ⟨hk,hr⟩=>?_)
  refine ts (ro rfl (gV (Ht rfl) (Ht rfl)) (eZ (cK (dQ (Ht rfl) (fun hc=>?_) (fun hc=>?_)))))
  ·simp only [decide_eq_true_eq] at hc
   refine cU (cK (eK (ts (rm rfl (ro rfl (dZ U_30 Z_29 (Ht rfl) (Ht rfl) rfl (eQ (dY (d:=[]) hc))) (ro rfl (dV A_29 Z_29 (Ht rfl)) (ra rfl (ra rfl (eZ (ts (rm rfl (rm rfl (ro rfl (dZ U_30 Z_29 (Ht rfl) (Ht rfl) rfl (eQ (dY (d:=[]) zo))) (ro rfl (dV A_29 Z_29 (Ht rfl)) (ra rfl (eZ (ts (rm rfl (rm rfl (rm rfl (ro rfl (oC (⟨(l.getD k [],m.getD k []),⟨hl.row k,by rw [Eg hc]; exact h3 _ (List.getElem_mem hc)⟩,hm.row k,by rw [Eg (by omega:k < m.length)]; exact h4 _ (List.getElem_mem _)⟩:{x:List Qi × List Qi // (cC x.1 L ∧ x.1.length ≤ 1000) ∧ cC x.2 L ∧ x.2.length ≤ 1000}) (Ht rfl) ⟨(Ht rfl),(Ht rfl),trivial⟩) ?_)))))))))))))))))))))
   refine ro rfl (eH (Ht rfl)) (eZ (dQ (Ht rfl) (fun hd=>?_) (fun hd=>?_)))
   ·have hn : ¬ l = m := Xh (i := k) (by simpa using hd)
    refine ts (ro rfl (cQ cV) (eZ (fK rfl (fJ (eY rfl) ?_))))
    exact (eN (decide_eq_false hn).symm)
   ·have hq : l.getD k [] = m.getD k [] := by simpa using hd
    refine cU (bH (cY (ro rfl (dW (Ht rfl) (cJ 1) z6) (rm rfl (eZ ?_)))))
    refine gQ (k + 1) ⟨hc, fun i h => by
     by_cases e:i = k
     ·rw [e]; exact hq
     ·exact hr i zo⟩ zo (zS rfl) aY
  ·simp only [decide_eq_false_iff_not] at hc
   refine gK rfl (ts (ro rfl (cQ cV) (eZ (fK rfl (fJ (eY rfl) ?_)))))
   exact (eN (decide_eq_true (Wg he (fun i h=>hr i zo))).symm)
theorem Tf {x y:Qi} {L:Nat} [hx:aN x L] [hy:aN y L] (h:L ≤ 8796093022208):bB Tryz.prog 203 [aE x,aE y] (aC (decide (x = y))):=by
 refine bB.intro Tryz.func203 rfl Tryz.ntmps203 rfl (fun cx=>(ts (rn rfl (fU (Ht rfl)) fun B2=>(rn rfl (fU (Ht rfl)) fun B3=>(ro rfl (cQ cV) (eZ (ts (ro rfl (eW A_51 Z_51 (Ht rfl) (i:=0) rfl rfl rfl) (ro rfl (bD bN (Ht rfl)) (ro rfl (eW A_51 Z_51 (Ht rfl) (i:=1) rfl rfl rfl) (ro rfl (aP Ez Tryz.call139 (Du zo zo) (Ht rfl) ⟨(Ht rfl),trivial⟩) (ra rfl (eZ ?_)))))))))))))
 exact fK rfl (eY rfl)
theorem Vf {l m:List Qi} {L:Nat} (hl:cC l L) (hm:cC m L) (hL:1 ≤ L) (h1:l.length ≤ 1000) (h2:m.length ≤ 1000):bB Tryz.prog 204 [bA l,bA m,PT (xJ Tryz.prog {x:Qi × Qi // aN x.1 L ∧ aN x.2 L} (fun x=>[aE x.1.1,aE x.1.2]) (fun x=>aC (decide (x.1.1 = x.1.2))))] (aC (decide (l = m))):=by
 refine bB.intro Tryz.func204 rfl Tryz.ntmps204 rfl (fun cx=>(ts (ro rfl (cQ cV) (eZ (ts (rm rfl (rm rfl (ro rfl (dV Tryz.isAgg205 Tryz.sizeOf205 (Ht rfl)) (ro rfl (cZ Tryz.call155 (Ks hl hm hL h1 h2) ⟨(Ht rfl),(Ht rfl),(Ht rfl),trivial⟩) (ra rfl (eZ ?_)))))))))))
 exact fK rfl (eY rfl)
theorem Iu {z z':List Qi} {s s':List (List Qi)} {L:Nat} (hz:cC z L) (hz2:cC z' L) (hs:bT s L) (hs2:bT s' L) (hL:1 ≤ L) (h:L ≤ 8796093022208) (hsh:eR s z.length z.length) (hsh2:eR s' z'.length z'.length) (hl:z.length ≤ 1000) (hl2:z'.length ≤ 1000):bB Tryz.prog 113 [bR z s,bR z' s'] (aC (Kx z z' s s')):=by
 have e1:∀ r,r ∈ s → r.length ≤ 1000:=fun r hr=>by rw [hsh.2 r hr]; exact hl
 have e2:∀ r,r ∈ s' → r.length ≤ 1000:=fun r hr=>by rw [hsh2.2 r hr]; exact hl2
 have e3:s.length ≤ 1000:=by rw [hsh.1]; exact hl
 have e4:s'.length ≤ 1000:=by rw [hsh2.1]; exact hl2
 refine bB.intro Tryz.func113 rfl Tryz.ntmps113 rfl (fun cx=>(ts (rn rfl (fU (Ht rfl)) fun B2=>(rn rfl (fU (Ht rfl)) fun B3=>(ro rfl (cQ cV) (eZ (ts (rn rfl (eG (Ts:=[Is (.nilFunc)]) Tryz.zeroValue205 rfl (fun V=>aW zd (aG))) fun B5=>(jL Tryz.sizeOf205 (Ht rfl) (bC.fn Tryz.call203 (γ:={x:Qi × Qi // aN x.1 L ∧ aN x.2 L}) (Ts:=fun x=>[aE x.1.1,aE x.1.2]) (U:=fun x=>aC (decide (x.1.1 = x.1.2))) (fun x=>haveI:=x.2.1; haveI:=x.2.2; Tf (L:=L) h)) (i:=2) rfl (aK rfl) rfl ?_)))))))))
 refine eZ (cK (gG (i:=2) (tt:=5) rfl rfl gY (cY (ro rfl (lW (γ:={x:List Qi × List Qi // (cC x.1 L ∧ x.1.length ≤ 1000) ∧ cC x.2 L ∧ x.2.length ≤ 1000}) (Ts:=fun x=>[bA x.1.1,bA x.1.2]) (U:=fun x=>aC (decide (x.1.1 = x.1.2))) Tryz.call204 (fun x=>Vf x.2.1.1 x.2.2.1 hL x.2.1.2 x.2.2.2) ⟨(Ht rfl),trivial⟩) (ra rfl (eZ (ts (ro rfl (eJ eO (Ht rfl) rfl) (ro rfl (fQ A_29 Z_29 (Ht rfl) (i:=0) rfl rfl) (ro rfl (eJ eO (Ht rfl) rfl) (ro rfl (fQ A_29 Z_29 (Ht rfl) (i:=1) rfl rfl) ?_)))))))))))
 refine ro rfl (cZ Tryz.call155 (Ks hz hz2 hL hl hl2) ⟨(Ht rfl),(Ht rfl),(bC.fn Tryz.call139 (γ:={x:Qi × Qi // aN x.1 L ∧ aN x.2 L}) (Ts:=fun x=>[aE x.1.1,aE x.1.2]) (U:=fun x=>aC (decide (x.1.1 = x.1.2))) (fun x=>haveI:=x.2.1; haveI:=x.2.2; Du (L:=L) (M:=L) zo zo)),trivial⟩) (rm rfl (fX rfl rfl (eU rfl rfl (Ht rfl) (fun h=>eJ dI (Ht rfl) rfl)) (fX rfl rfl (eU rfl rfl (Ht rfl) (fun h=>fQ A_30 Z_30 (fW rfl h) (i:=0) rfl rfl)) (fX rfl rfl (eU rfl rfl (Ht rfl) (fun h=>eJ dI (Ht rfl) rfl)) ?_))))
 refine fX rfl rfl (eU rfl rfl (Ht rfl) (fun h=>fQ A_30 Z_30 (fW rfl h) (i:=1) rfl rfl)) (fX rfl rfl (eU rfl rfl (Ht rfl) (fun h=>cX (Ht rfl))) (fX rfl rfl (eU rfl rfl (Ht rfl) (fun h=>cZ Tryz.call153 (Xr hs hs2 e1 e2 e3 e4) ⟨(fW rfl h),(fW rfl h),(fW rfl h),trivial⟩)) (ro rfl (eA (Ht rfl) (fun h=>(fW rfl h))) (ra rfl (eZ (fK rfl (fJ (eY rfl) ?_)))))))
 exact (eN rfl)
end
section
open Go Go.RowKit
namespace Qi
theorem Rx {x:Qi}:0 ≤ x.a ↔ 0 ≤ x.re:=by
 have hk:0 < x.den / x.re.den:=Nat.div_pos (Nat.le_of_dvd x.den_pos (Nat.dvd_lcm_left _ _)) x.re.den_pos
 rw [← Rat.num_nonneg]
 show 0 ≤ x.re.num * ((x.den / x.re.den:Nat):Int) ↔ _
 generalize x.den / x.re.den = k at hk
 constructor
 ·intro h
  exact Int.nonneg_of_mul_nonneg_left h zo
 ·intro h; exact Int.mul_nonneg h zo
theorem a_pos {x:Qi}:0 < x.a ↔ 0 < x.re:=by
 have h1:=@Rx x; have h2:=@Js x
 constructor
 ·intro h
  have h3:0 ≤ x.re:=h1.1 zo
  have h4:x.re ≠ 0:=fun e=>by have:=h2.2 e; omega
  exact Rat.lt_of_le_of_ne h3 (Ne.symm h4)
 ·intro h
  have h3:0 ≤ x.a:=h1.2 (by grind)
  have h4:x.a ≠ 0:=fun e=>by have:=h2.1 e; grind
  omega
end Qi
def jM (f : Nat → Int) : Nat → Int
 | 0=>0
 | n + 1=>if jM f n ≠ 0 then jM f n else f n
theorem pW {f:Nat → Int} {k:Nat} (h:∀ i,i < k → f i = 0) (hk:f k ≠ 0):∀ {n:Nat},k < n → jM f n = f k:=by
 have hz : jM f k = 0 := by
  clear hk
  induction k with
  | zero=>rfl
  | succ k ih=>rw [jM,ih (fun i hi=>h i zo),if_neg (by simp),h k zo]
 intro n
 induction n with
 | zero=>intro h; omega
 | succ n ih =>
  intro hn
  by_cases e:n = k
  ·rw [e,jM,hz,if_neg (by simp)]
  ·rw [jM,ih zo,if_pos hk]
theorem iP {f : Nat → Int} : ∀ {n : Nat}, (∀ i, i < n → f i = 0) → jM f n = 0
 | 0,_=>rfl
 | n + 1,h=>by rw [jM,iP (fun i hi=>h i zo),if_neg (by simp),h n zo]
theorem jD {f : Nat → Int} : ∀ {n : Nat}, jM f n = 0 → ∀ i, i < n → f i = 0
 | 0,_,i,hi=>by omega
 | n + 1, h, i, hi => by
  rw [jM] at h
  split at h
  ·rename_i c; exact absurd h c
  ·rename_i c
   by_cases e:i = n
   ·rw [e]; exact h
   ·exact jD (Decidable.not_not.1 c) i zo
abbrev eF (l:List (Qi × Qi)) (i:Nat):Qi:=(l.getD i (Qi.zero,Qi.zero)).1
abbrev eV (l:List (Qi × Qi)) (i:Nat):Qi:=(l.getD i (Qi.zero,Qi.zero)).2
structure a0i (l:List (Qi × Qi)) (f:Qi):Prop where
 real:∀ i,i < l.length → (eF l i).b = 0 ∧ (eV l i).b = 0
 up:∀ i,0 < i → i < l.length → (eF l (i - 1)).re < (eF l i).re
 fr:f.b = 0
theorem a0i.mono {l : List (Qi × Qi)} {f : Qi} (h : a0i l f) {i : Nat} : ∀ {j : Nat}, i < j → j < l.length → (eF l i).re < (eF l j).re
 | 0,h1,_=>by omega
 | j + 1, h1, h2 => by
  have h3:=h.up (j + 1) zo h2
  rw [Nat.add_sub_cancel] at h3
  by_cases e:i = j
  ·rw [e]; exact h3
  ·have := h.mono (i := i) (j := j) zo zo
   grind
def a2x (l:List (Qi × Qi)) (L:Nat):Prop:=∀ e,e ∈ l → aN e.1 L ∧ aN e.2 L
theorem a2x.get {l:List (Qi × Qi)} {L:Nat} (h:a2x l L) (hL:1 ≤ L) (i:Nat):aN (eF l i) L ∧ aN (eV l i) L:=by
 by_cases hi:i < l.length
 ·have e : l.getD i (Qi.zero, Qi.zero) = l[i] := by simp [List.getD, hi]
  show aN (l.getD i _).1 L ∧ aN (l.getD i _).2 L
  rw [e]; exact h _ (List.getElem_mem hi)
 ·have e : l.getD i (Qi.zero, Qi.zero) = (Qi.zero, Qi.zero) := by simp [List.getD, List.getElem?_eq_none (Nat.le_of_not_lt hi)]
  show aN (l.getD i _).1 L ∧ aN (l.getD i _).2 L
  rw [e]; exact ⟨aN.zero hL,aN.zero hL⟩
end
section
open Go Go.RowKit
abbrev fH (M:List (List Qi)) (i:Nat):List Qi:=M.getD i []
def Pq (M : List (List Qi)) (c n : Nat) : Nat → Nat
 | 0=>n
 | k + 1=>if gm M (n - (k + 1)) c = Qi.zero then Pq M c n k else n - (k + 1)
def pv (M:List (List Qi)) (c n:Nat):Nat:=Pq M c n (n - c)
theorem Fg {M : List (List Qi)} {c n : Nat} : ∀ {k : Nat}, k ≤ n → (∀ r, n - k ≤ r → r < Pq M c n k → gm M r c = Qi.zero) ∧ n - k ≤ Pq M c n k ∧ Pq M c n k ≤ n ∧ (Pq M c n k < n → gm M (Pq M c n k) c ≠ Qi.zero)
 | 0,_=>⟨fun r h1 h2=>by simp [Pq] at h2; omega,by simp [Pq],by simp [Pq],fun h=>by simp [Pq] at h⟩
 | k + 1, hk => by
  obtain ⟨i1,i2,i3,i4⟩:=Fg (M:=M) (c:=c) (n:=n) (k:=k) zo
  unfold Pq
  by_cases e:gm M (n - (k + 1)) c = Qi.zero
  ·rw [if_pos e]
   refine ⟨fun r h1 h2=>?_,by omega,i3,i4⟩
   by_cases e2:r = n - (k + 1)
   ·rw [e2]; exact e
   ·exact i1 r zo h2
  ·rw [if_neg e]
   exact ⟨fun r h1 h2=>by omega,Nat.le_refl _,by omega,fun _=>e⟩
theorem qL {M:List (List Qi)} {c n:Nat} (hc:c ≤ n):(∀ r,c ≤ r → r < pv M c n → gm M r c = Qi.zero) ∧ c ≤ pv M c n ∧ pv M c n ≤ n ∧ (pv M c n < n → gm M (pv M c n) c ≠ Qi.zero):=by
 have h:=Fg (M:=M) (c:=c) (n:=n) (k:=n - c) zo
 rw [show n - (n - c) = c by omega] at h
 exact h
theorem a2m {M:List (List Qi)} {c n p:Nat} (hc:c ≤ p) (hp:p ≤ n) (h1:∀ r,c ≤ r → r < p → gm M r c = Qi.zero) (h2:p < n → gm M p c ≠ Qi.zero):pv M c n = p:=by
 obtain ⟨i1,i2,i3,i4⟩:=qL (M:=M) (n:=n) (show c ≤ n by omega)
 rcases Nat.lt_trichotomy (pv M c n) p with h | h | h
 ·exact absurd (h1 _ i2 h) (i4 zo)
 ·exact h
 ·exact absurd (i1 p hc h) (h2 zo)
def kY (rr rc:List Qi) (c k:Nat):List Qi:=tab rr.length fun j=>if c < j ∧ j < k then gv rr j - gv rr c / gv rc c * gv rc j else gv rr j
def mC (M:List (List Qi)) (c r:Nat):List (List Qi):=tab M.length fun i=>if c < i ∧ i < r then kY (fH M i) (fH M c) c (fH M i).length else fH M i
def cH (M : List (List Qi)) : Nat → List (List Qi) × Nat × Int
 | 0=>(M,0,-1)
 | c + 1 =>
  let s:=cH M c
  if 0 ≤ s.2.2 then s else
  if pv s.1 c M.length = M.length then (s.1,s.2.1,(c:Int)) else
  (mC (if pv s.1 c M.length = c then s.1 else swp [] s.1 (pv s.1 c M.length) c) c M.length,s.2.1 + (if pv s.1 c M.length = c then 0 else 1),-1)
theorem Cd {M : List (List Qi)} {c : Nat} (h : 0 ≤ (cH M c).2.2) : ∀ {d : Nat}, c ≤ d → cH M d = cH M c
 | 0,hd=>by rw [show c = 0 by omega]
 | d + 1, hd => by
  by_cases e:c = d + 1
  ·rw [e]
  ·have := Cd h (d := d) zo
   simp only [cH,this]
   rw [if_pos h]
theorem rW (M:List (List Qi)) (c r:Nat):(mC M c r).length = M.length:=aO _ _
theorem Fn {M:List (List Qi)} {n m c r:Nat} (h:eR M n m):eR (mC M c r) n m:=by
 refine ⟨(rW _ _ _).trans h.1,fun x hx=>?_⟩
 obtain ⟨i,hi,rfl⟩:=jB.1 hx
 have hr:=h.row (i:=i) (by rw [← h.1]; exact hi)
 show (if c < i ∧ i < r then kY (fH M i) (fH M c) c (fH M i).length else fH M i).length = m
 split
 ·rw [kY,aO]; exact hr
 ·exact hr
theorem xR {M:List (List Qi)} {n m p c:Nat} (h:eR M n m) (hp:p < n) (hc:c < n):eR (swp [] M p c) n m:=by
 refine ⟨(Ea _ _ _ _).trans h.1,fun x hx=>?_⟩
 unfold swp at hx
 rcases List.mem_or_eq_of_mem_set hx with h1 | h1
 ·rcases List.mem_or_eq_of_mem_set h1 with h2 | h2
  ·exact h.2 x h2
  ·rw [h2]; exact h.row hc
 ·rw [h1]; exact h.row hp
theorem pJ {M : List (List Qi)} {n m : Nat} (h : eR M n m) : ∀ {c : Nat}, c ≤ n → eR (cH M c).1 n m
 | 0,_=>h
 | c + 1, hc => by
  have ih:=pJ h (c:=c) zo
  obtain ⟨_,_,i3,_⟩:=qL (M:=(cH M c).1) (c:=c) (n:=M.length) (by rw [h.1]; omega)
  simp only [cH]
  split
  ·exact ih
  ·split
   ·exact ih
   ·rename_i e
    apply Fn
    split
    ·exact ih
    ·exact xR ih (by rw [← h.1]; omega) zo
def dD (L : Nat) : Nat → Nat
 | 0=>L
 | c + 1=>6 * dD L c + 4
theorem pQ (L : Nat) : ∀ {c d : Nat}, c ≤ d → dD L c ≤ dD L d
 | c,0,h=>by rw [show c = 0 by omega]; exact Nat.le_refl _
 | c, d + 1, h => by
  by_cases e:c = d + 1
  ·rw [e]; exact Nat.le_refl _
  ·have := pQ L (c := c) (d := d) zo
   simp only [dD]; omega
theorem sL (L c:Nat):L ≤ dD L c:=pQ L (Nat.zero_le c)
theorem Yo {rr rc:List Qi} {L c j:Nat} (h1:cC rr L) (h2:cC rc L) (hL:1 ≤ L) (hp:gv rc c ≠ Qi.zero):aN (gv rr j - gv rr c / gv rc c * gv rc j) (6 * L + 4):=by
 haveI f1:=h1.get hL j; haveI f2:=h1.get hL c; haveI f3:=h2.get hL c; haveI f4:=h2.get hL j
 haveI g:aN (gv rr c / gv rc c) (L + 3 * L + 2):=⟨f2.fit.div f3.fit hp⟩
 have:aN (gv rr j - gv rr c / gv rc c * gv rc j) (L + (L + 3 * L + 2 + L + 1) + 1):=inferInstance
 exact this.le zo
theorem Rp {rr rc : List Qi} {L c k : Nat} (h1 : cC rr L) (h2 : cC rc L) (hL : 1 ≤ L) (hp : gv rc c ≠ Qi.zero) : cC (kY rr rc c k) (6 * L + 4) := cC.tab fun j _ => by
 split
 ·exact Yo h1 h2 hL hp
 ·exact (h1.get hL j).le zo
theorem In {M : List (List Qi)} {L c r : Nat} (h : bT M L) (hL : 1 ≤ L) (hp : gm M c c ≠ Qi.zero) : bT (mC M c r) (6 * L + 4) := fun x hx => by
 obtain ⟨i,hi,rfl⟩:=jB.1 hx
 show cC (if c < i ∧ i < r then kY (fH M i) (fH M c) c (fH M i).length else fH M i) _
 split
 ·exact Rp (h.row i) (h.row c) hL hp
 ·exact (h.row i).le zo
theorem Lx {M : List (List Qi)} {L p c : Nat} (h : bT M L) : bT (swp [] M p c) L := fun x hx => by
 unfold swp at hx
 rcases List.mem_or_eq_of_mem_set hx with h1 | h1
 ·rcases List.mem_or_eq_of_mem_set h1 with h2 | h2
  ·exact h x h2
  ·rw [h2]; exact h.row c
 ·rw [h1]; exact h.row p
theorem Dn {M:List (List Qi)} {p c:Nat} (hc:c < M.length):fH (swp [] M p c) c = fH M p:=by
 simp [fH,swp,List.getD,hc]
theorem zC {M : List (List Qi)} {n m L : Nat} (hs : eR M n m) (h : bT M L) (hL : 1 ≤ L) : ∀ {c : Nat}, c ≤ n → bT (cH M c).1 (dD L c)
 | 0,_=>h
 | c + 1, hc => by
  have ih:=zC hs h hL (c:=c) zo
  have hg:1 ≤ dD L c:=Nat.le_trans hL (sL L c)
  have sh:=pJ hs (c:=c) zo
  obtain ⟨_,i2,i3,i4⟩:=qL (M:=(cH M c).1) (c:=c) (n:=M.length) (by rw [hs.1]; omega)
  simp only [cH,dD]
  split
  ·exact ih.le zo
  ·split
   ·exact ih.le zo
   ·rename_i e
    split
    ·rename_i e2
     refine In ih hg ?_
     have:=i4 zo
     rw [e2] at this; exact this
    ·refine In (Lx ih) hg ?_
     show gv (fH (swp [] _ _ c) c) c ≠ _
     rw [Dn (by rw [sh.1]; omega)]
     exact i4 zo
theorem Iv {rr rc:List Qi} {c:Nat}:rr = kY rr rc c (c + 1):=by
 unfold kY
 have:(tab rr.length fun j=>if c < j ∧ j < c + 1 then gv rr j - gv rr c / gv rc c * gv rc j else gv rr j) = tab rr.length (gv rr):=cP fun j _=>by rw [if_neg zo]
 rw [this]; exact Ib rfl
theorem uD (rr rc:List Qi) (c k:Nat):(kY rr rc c k).length = rr.length:=aO _ _
theorem Hn {rr rc:List Qi} {c k:Nat} (hk:k < rr.length) (h:c < k):gv (kY rr rc c k) k = gv rr k:=by
 rw [kY,pD hk,if_neg zo]
theorem Pf {rr rc:List Qi} {c k:Nat} (hk:k < rr.length) (h:c < k):(kY rr rc c k).set k (gv (kY rr rc c k) k - gv rr c / gv rc c * gv rc k) = kY rr rc c (k + 1):=by
 rw [Hn hk h]
 apply List.ext_getElem?
 intro j
 by_cases hj:j < rr.length
 ·by_cases e : j = k
  ·subst e
   rw [List.getElem?_set_self (by rw [uD]; exact hj),kY,cE hj,if_pos zo]
  ·rw [List.getElem?_set_ne (Ne.symm e), kY, kY, cE hj, cE hj]
   by_cases e2:c < j ∧ j < k
   ·rw [if_pos e2,if_pos zo]
   ·rw [if_neg e2,if_neg zo]
 ·rw [List.getElem?_eq_none (by rw [List.length_set,uD]; omega),List.getElem?_eq_none (by rw [uD]; omega)]
theorem Kf {M:List (List Qi)} {c:Nat}:M = mC M c (c + 1):=by
 unfold mC
 have:(tab M.length fun i=>if c < i ∧ i < c + 1 then kY (fH M i) (fH M c) c (fH M i).length else fH M i) = tab M.length (fH M):=cP fun i _=>by rw [if_neg zo]
 rw [this]; exact yQ (h:=rfl)
theorem uU {M:List (List Qi)} {c r i:Nat} (hi:i < M.length) (h:¬ (c < i ∧ i < r)):fH (mC M c r) i = fH M i:=by
 simp only [fH,mC,List.getD]
 rw [cE hi,if_neg h]; rfl
theorem Pj {M:List (List Qi)} {c r:Nat} (hr:r < M.length) (h:c < r):(mC M c r).set r (kY (fH M r) (fH M c) c (fH M r).length) = mC M c (r + 1):=by
 apply List.ext_getElem?
 intro j
 by_cases hj:j < M.length
 ·by_cases e : j = r
  ·subst e
   rw [List.getElem?_set_self (by rw [rW]; exact hj),mC,cE hj,if_pos zo]
  ·rw [List.getElem?_set_ne (Ne.symm e), mC, mC, cE hj, cE hj]
   by_cases e2:c < j ∧ j < r
   ·rw [if_pos e2,if_pos zo]
   ·rw [if_neg e2,if_neg zo]
 ·rw [List.getElem?_eq_none (by rw [List.length_set,rW]; omega),List.getElem?_eq_none (by rw [rW]; omega)]
theorem Sh {M:List (List Qi)} {r:Nat} {x y:List Qi}:(M.set r x).set r y = M.set r y:=List.set_set ..
theorem Dp {M:List (List Qi)} {r:Nat} {x:List Qi} (h:r < M.length):fH (M.set r x) r = x:=by simp [fH,List.getD,h]
theorem wQ {M:List (List Qi)} {r i:Nat} {x:List Qi} (h:r ≠ i):fH (M.set r x) i = fH M i:=by simp [fH,List.getD,List.getElem?_set_ne h]
theorem a1k {M:List (List Qi)} {r:Nat} (h:r < M.length):M.set r (fH M r) = M:=by
 apply List.ext_getElem?
 intro j
 by_cases e:j = r
 ·subst e; rw [List.getElem?_set_self h]; simp [fH,List.getD,h]
 ·rw [List.getElem?_set_ne (Ne.symm e)]
theorem Uz {X : List (List Qi)} {r c k : Nat} (hr : r < X.length) (hne : r ≠ c) (hk : k < (fH X r).length) (hck : c < k) :
  (X.set r (kY (fH X r) (fH X c) c k)).set r ((fH (X.set r (kY (fH X r) (fH X c) c k)) r).set k (gm (X.set r (kY (fH X r) (fH X c) c k)) r k - gm X r c / gm X c c * gm (X.set r (kY (fH X r) (fH X c) c k)) c k)) = X.set r (kY (fH X r) (fH X c) c (k + 1)):=by
 rw [Sh,Dp hr]
 have e1:gm (X.set r (kY (fH X r) (fH X c) c k)) r k = gv (kY (fH X r) (fH X c) c k) k:=by show gv (fH (X.set r _) r) k = _; rw [Dp hr]
 have e2:gm (X.set r (kY (fH X r) (fH X c) c k)) c k = gv (fH X c) k:=by show gv (fH (X.set r _) c) k = _; rw [wQ hne]
 rw [e1,e2]
 exact congrArg _ (Pf hk hck)
theorem Ra {D:List (List Qi)} {r c:Nat} (hr:r < D.length) (hc:c < r):(mC D c r).set r (kY (fH (mC D c r) r) (fH (mC D c r) c) c (fH D r).length) = mC D c (r + 1):=by
 rw [uU hr zo,uU zo zo]
 exact Pj hr hc
theorem a2K {X:List (List Qi)} {r c k:Nat} (hr:r < X.length) (hk:k < (fH X r).length) (hck:c < k):gm (X.set r (kY (fH X r) (fH X c) c k)) r k = gv (fH X r) k:=by
 show gv (fH (X.set r _) r) k = _; rw [Dp hr,Hn hk hck]
theorem a2a {X:List (List Qi)} {r c k:Nat} {y:List Qi} (hne:r ≠ c):gm (X.set r y) c k = gv (fH X c) k:=by show gv (fH (X.set r _) c) k = _; rw [wQ hne]
theorem Pn {M A:List (List Qi)} {n c sw p:Nat} (hl:M.length = n) (h:cH M c = (A,sw,-1)) (hp:pv A c n = p) (hpn:p < n):cH M (c + 1) = (mC (if p = c then A else swp [] A p c) c n,sw + (if p = c then 0 else 1),-1):=by
 simp only [cH,h,hl,hp]
 rw [if_neg (by decide),if_neg zo]
theorem Rw {M A:List (List Qi)} {n c sw:Nat} (hl:M.length = n) (h:cH M c = (A,sw,-1)) (hp:pv A c n = n) (hc:c < n):cH M n = (A,sw,(c:Int)):=by
 have e : cH M (c + 1) = (A, sw, (c : Int)) := by
  simp only [cH,h,hl,hp]
  rw [if_neg (by decide)]; simp
 rw [Cd (c:=c + 1) (by rw [e]; show (0:Int) ≤ (c:Int); omega) hc,e]
end
section
open Go Go.RowKit
theorem oY (v : Value) (w : World) : (method (Tryz.prog.types.size + Made.depth) 51 v "Clear").run Tryz.prog w = .ok (27, v) w := by kernel_rfl
end
end Go.Proofs.YteohomnhncjcnaaGreat
