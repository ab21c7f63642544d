/- What functions of the program compute, proved by walks over their code, and the plain mathematics of it; a part of the proof in the last text. -/
import Derived.Test.YtdlciihkiefckaaGreatP02
set_option linter.unusedVariables false
set_option linter.unusedSimpArgs false
set_option maxRecDepth 100000
set_option maxHeartbeats 4000000
namespace Go.Proofs.YtdlciihkiefckaaGreat
section
open Go Go.RowKit
theorem oV (ds:List Nat) (hd:jG ds) (hl:ds.length ≤ 1152921504606846976):bB Tryz.prog 237 [rM ds] (aL (val ds)):=by
 refine bB.intro Tryz.func237 rfl Tryz.ntmps237 rfl (fun cx=>(ts (ro rfl (cQ cV) (eX (ts (rm rfl (ro rfl (dG U_56 (Ht rfl) aA) (ra rfl (eX (cK (eK ?_)))))))))))
 refine dB (fun (k : Nat) => k ≤ ds.length ∧ ∀ i, k ≤ i → i < ds.length → ds.getD i 0 = 0) (fun (k : Nat) => k) (fun (k : Nat) => [(0, rM ds), (3, NT .i64 k)]) (fun (k : Nat) => []) ds.length ⟨Nat.le_refl _, fun i h1 h2 => by omega⟩
  (zS rfl) aY (fun k ⟨hk,hz⟩=>?_)
 refine cK (ts (rm rfl (ro rfl (eO (Ht rfl) (cJ 0)) (rm rfl (fJ rfl rfl (eU rfl rfl (Ht rfl) (fun h=>cX (Ht rfl))) (fJ rfl rfl (eU rfl rfl (Ht rfl) (fun h=>cX (Ht rfl))) (fJ rfl rfl (eU rfl rfl (Ht rfl) (fun h=>dW (fG rfl h) (cJ 1) (by first | omega | (simp at h; omega)) (by show _ < 9223372036854775808; first | omega | (simp at h; omega)))) (fJ rfl rfl (eU rfl rfl (Ht rfl) (fun h=>dZ U_56 Z_218 (fG rfl h) (fG rfl h) rfl (dY (aH (by first | omega | (simp at h; omega)))))) ?_))))))))
 refine fJ rfl rfl (eU rfl rfl (Ht rfl) (fun h=>dJ A_218 Z_218 (fG rfl h))) (fJ rfl rfl (eU rfl rfl (Ht rfl) (fun h=>cB (fG rfl h) (cJ 0))) (ro rfl (eC (Ht rfl) (fun h=>(fG rfl h))) (eX (dQ (Ht rfl) (fun hb=>?_) (fun hb=>?_)))))
 ·simp at hb
  refine cU (eK (cY (rm rfl (ro rfl (dW (Ht rfl) (cJ 1) zo z6) (ra rfl (eX (bI (gZ (k - 1) ⟨by omega,fun i h1 h2=>?_⟩ zo (zS rfl) aY))))))))
  by_cases e2:i = k - 1
  ·subst e2; simpa using hb.2
  ·exact hz i zo h2
 ·have hn : k = 0 ∨ ds.getD (k - 1) 0 ≠ 0 := by
   simp only [Bool.and_eq_false_iff,decide_eq_false_iff_not] at hb
   rcases hb with h1 | h1
   ·left; omega
   ·right; exact h1
  have hfin:=In hd hk hz hn
  refine gU rfl (ts (rm rfl (rm rfl (rm rfl (ro rfl (oO U_56 Z_218 (Ht rfl) (Ht rfl) (fun m e=>by cases e; exact (Ht rfl)) zo (by simp; omega) rfl) ?_)))))
  refine ra rfl (eX (fU rfl (fV (eY rfl) ?_)))
  exact (Dl (by rw [hfin]; simp))
theorem Aw {m:Nat} (hm:m < 18446744073709551616):bB Tryz.prog 238 [NT .u64 m] (aL m):=by
 refine bB.intro Tryz.func238 rfl Tryz.ntmps238 rfl (fun cx=>(ts (ro rfl (cQ cV) (eX (ts (rm rfl (ro rfl (fN rfl U_263 U_218 (Ht rfl)) (rm rfl (ro rfl (eH (Ht rfl) (cJ 32) (by decide)) (ro rfl (fN rfl U_263 U_218 (Ht rfl)) (ro rfl (eM (xs:=[.tmp 4,.tmp 7]) U_56 Z_218 O_218 (cW (Ht rfl) (cW (Ht rfl) cG)) rfl rfl rfl) (ro rfl (cZ K_237 (oV [m % 4294967296,m / 2 ^ 32 % 4294967296] (a0q _ _) (by simp)) ⟨(Ht rfl),trivial⟩) ?_))))))))))))
 refine ra rfl (eX (fU rfl (fV (eY rfl) ?_)))
 exact (cL (zV hm))
theorem Wi {m:Nat}:bB Tryz.prog 232 [aL m] (aC (decide (m = 1))):=by
 refine bB.intro Tryz.func232 rfl Tryz.ntmps232 rfl (fun cx=>(ts (ro rfl (cQ cV) (eX (ts (rm rfl (ro rfl (dG U_56 (Ht rfl) aA) (ro rfl (cB (Ht rfl) (cJ 1)) (rm rfl (fJ rfl rfl (eU rfl rfl (Ht rfl) (fun h=>cX (Ht rfl))) (fJ rfl rfl (eU rfl rfl (Ht rfl) (fun h=>dZ U_56 Z_218 (fG rfl h) (cJ 0) rfl (dY (aH (by first | omega | (simp at h; omega)))))) (fJ rfl rfl (eU rfl rfl (Ht rfl) (fun h=>dJ A_218 Z_218 (fG rfl h))) (fJ rfl rfl (eU rfl rfl (Ht rfl) (fun h=>cB (fG rfl h) (cJ 1))) ?_)))))))))))))
 refine ro rfl (eC (Ht rfl) (fun h=>(fG rfl h))) (ra rfl (eX (fU rfl (fV (eY rfl) ?_))))
 exact (fT (Br m))
theorem Se {a b c:Nat} (ha:a < 4294967296) (hb:b < 4294967296) (hc:c < 4294967296):bB Tryz.prog 269 [bM a,bM b,bM c] (dM [bM ((a + b + c) % 4294967296),bM ((a + b + c) / 4294967296)]):=by
 refine bB.intro Tryz.func269 rfl Tryz.ntmps269 rfl (fun cx=>(ts (ro rfl (cQ (cJ 0)) (ro rfl (cQ (cJ 0)) (eX (ts (rm rfl (ro rfl (gG U_218 U_263 (Ht rfl) z7) (rm rfl (ro rfl (gG U_218 U_263 (Ht rfl) z7) (ro rfl (dV (Ht rfl) (Ht rfl) z7) (rm rfl (ro rfl (gG U_218 U_263 (Ht rfl) z7) ?_)))))))))))))
 refine ro rfl (dV (Ht rfl) (Ht rfl) z7) (ra rfl (eX (ts (rm rfl (ro rfl (fN rfl U_263 U_218 (Ht rfl)) (ra rfl (eX (ts (rm rfl (ro rfl (eH (Ht rfl) (cJ 32) (by decide)) (ro rfl (fN rfl U_263 U_218 (Ht rfl)) (ra rfl (eX (bN rfl (eY rfl) (fV (eY rfl) ?_)))))))))))))))
 exact (kT (by simp only [kP]; omega))
theorem Sr {a b c:Nat} (ha:a < 4294967296) (hb:b < 4294967296) (hc:c ≤ 1):bB Tryz.prog 270 [bM a,bM b,bM c] (dM [bM ((a + 8589934592 - b - c) % 4294967296),bM (if a < b + c then 1 else 0)]):=by
 refine bB.intro Tryz.func270 rfl Tryz.ntmps270 rfl (fun cx=>(ts (ro rfl (cQ (cJ 0)) (ro rfl (cQ (cJ 0)) (eX (ts (rm rfl (rm rfl (ro rfl (lQ rfl (Ht rfl) (Ht rfl) (by show _ ≤ 4294967296; first | omega | (simp only [kP]; omega))) (rm rfl (ro rfl (lQ rfl (Ht rfl) (Ht rfl) (by show _ ≤ 4294967296; first | omega | (simp only [kP]; omega))) (ra rfl (eX (ts (rm rfl (ro rfl (Jj rfl (Ht rfl) (by show _ < 4294967296; first | omega | (simp only [kP]; omega))) (rm rfl (ro rfl (qX rfl (Ht rfl) (Ht rfl) (by show _ < 4294967296; simp only [kP]; omega) (by show _ < 4294967296; omega)) ?_))))))))))))))))))
 refine rm rfl (rm rfl (ro rfl (Ut rfl (Ht rfl) (Ht rfl) (by show _ < 4294967296; omega) (by show _ < 4294967296; omega)) (ro rfl (Jj rfl (Ht rfl) (Nat.xor_lt_two_pow (n:=32) ha hb)) (rm rfl (ro rfl (qX rfl (Ht rfl) (Ht rfl) (by show _ < 4294967296; simp only [kP]; omega) (by show _ < 4294967296; simp only [kP]; omega)) (ro rfl (nE rfl (Ht rfl) (Ht rfl) (Nat.and_lt_two_pow (n:=32) _ hb) (Nat.and_lt_two_pow (n:=32) _ (by simp only [kP]; omega))) (ro rfl (eH (Ht rfl) (cJ 31) (by decide)) (ra rfl (eX (bN rfl (fV (eY rfl) ?_) (fV (eY rfl) ?_)))))))))))
 ·exact (kT (by simp only [kP]; omega))
 ·exact (kT (Ca ha hb hc (by simp only [kP]; omega)))
theorem Nk {m n:Nat} (hm:(dg m).length ≤ 1152921504606846976) (hn:(dg n).length ≤ 1152921504606846976):bB Tryz.prog 199 [aL m,aL n] (aF .i64 (nV m n)):=by
 refine bB.intro Tryz.func199 rfl Tryz.ntmps199 rfl (fun cx=>(ts (ro rfl (cQ (cJ 0)) (eX (cK (ts (rm rfl (ro rfl (dG U_56 (Ht rfl) aA) (rm rfl (ro rfl (dG U_56 (Ht rfl) aA) (ro rfl (gD (Ht rfl) (Ht rfl)) (eX (dQ (Ht rfl) (fun hb=>?_) (fun hb=>?_))))))))))))))
 ·simp at hb
  refine cK (ts (rm rfl (ro rfl (dG U_56 (Ht rfl) aA) (rm rfl (ro rfl (dG U_56 (Ht rfl) aA) (ro rfl (gW (Ht rfl) (Ht rfl)) (eX (dQ (Ht rfl) (fun hb2=>?_) (fun hb2=>?_)))))))))
  ·simp at hb2
   have hlt:=Bc hb2
   refine ts (ro rfl (cQ cV) (eX (fU rfl (fV (eY rfl) ?_))))
   exact (aT (by simp [nV,hlt]))
  ·simp at hb2
   have hlt:=Bc (a:=n) (b:=m) zo
   refine cU (ts (ro rfl (cQ (cJ 1)) (eX (fU rfl (fV (eY rfl) ?_)))))
   exact (aT (by simp [nV,hlt,Nat.lt_asymm hlt]))
 ·simp at hb
  refine cU (cK (ts (rm rfl (ro rfl (dG U_56 (Ht rfl) aA) (ro rfl (gI (Ht rfl) cV (tB zo)) (ra rfl (eX (eK ?_))))))))
  refine dB (fun (k : Nat) => k ≤ (dg m).length ∧ ∀ i, k ≤ i → i < (dg m).length → (dg m).getD i 0 = (dg n).getD i 0) (fun (k : Nat) => k) (fun (k : Nat) => [(0, aL m), (1, aL n), (5, aF .i64 ((k : Int) - 1))]) (fun (k : Nat) => []) (dg m).length ⟨Nat.le_refl _, fun i h1 h2 => by omega⟩
   (zS rfl) aY (fun k ⟨hk,he⟩=>?_)
  refine cK (ts (rm rfl (ro rfl (lB (Ht rfl) cV) (eX (dQ (Ht rfl) (fun hk1=>?_) (fun hk1=>?_))))))
  ·simp at hk1
   refine cU (cK (eK (cK (cK (fW (m:=8) (dp 0 rfl (cX (Ht rfl)) (dp 5 rfl (cX (Ht rfl)) (dP 23 0 24 1 rfl (dZ U_56 Z_218 (Ht rfl) (Ht rfl) (show ((k:Int) - 1) = ((k - 1:Nat):Int) by omega) (dY (aH zo))) (dq 25 2 rfl (dJ A_218 Z_218 (Ht rfl)) (dp 1 rfl (cX (Ht rfl)) (dp 5 rfl (cX (Ht rfl)) (dP 27 4 28 5 rfl (dZ U_56 Z_218 (Ht rfl) (Ht rfl) (show ((k:Int) - 1) = ((k - 1:Nat):Int) by omega) (dY (aH zo))) (dq 29 6 rfl (dJ A_218 Z_218 (Ht rfl)) ?_)))))))))))))
   refine fK bC rfl (by kernel_rfl) (zF (zF (aV (ro rfl (gW (Ht rfl) (Ht rfl)) (eX (dQ (Ht rfl) (fun h1=>?_) (fun h1=>?_)))))))
   ·simp only [decide_eq_true_eq] at h1
    have hlt:=vK (bF m) (bF n) hb (k:=k - 1) zo (fun i h2 h3=>he i zo h3) h1
    rw [cM,cM] at hlt
    refine ts (ro rfl (cQ cV) (eX (fU rfl (fV (eY rfl) ?_))))
    exact (aT (by simp [nV,hlt]))
   ·simp only [decide_eq_false_iff_not] at h1
    refine cU (cK (fW (m:=8) (dp 0 rfl (cX (Ht rfl)) (dp 5 rfl (cX (Ht rfl)) (dP 32 0 33 1 rfl (dZ U_56 Z_218 (Ht rfl) (Ht rfl) (show ((k:Int) - 1) = ((k - 1:Nat):Int) by omega) (dY (aH zo))) (dq 34 2 rfl (dJ A_218 Z_218 (Ht rfl)) (dp 1 rfl (cX (Ht rfl)) (dp 5 rfl (cX (Ht rfl)) (dP 36 4 37 5 rfl (dZ U_56 Z_218 (Ht rfl) (Ht rfl) (show ((k:Int) - 1) = ((k - 1:Nat):Int) by omega) (dY (aH zo))) (dq 38 6 rfl (dJ A_218 Z_218 (Ht rfl)) ?_))))))))))
    refine fK bC rfl (by kernel_rfl) (zF (zF (aV (ro rfl (eO (Ht rfl) (Ht rfl)) (eX (dQ (Ht rfl) (fun h2=>?_) (fun h2=>?_)))))))
    ·simp only [decide_eq_true_eq] at h2
     have hlt:=vK (bF n) (bF m) hb.symm (k:=k - 1) zo (fun i h2 h3=>(he i zo zo).symm) h2
     rw [cM,cM] at hlt
     refine ts (ro rfl (cQ (cJ 1)) (eX (fU rfl (fV (eY rfl) ?_))))
     exact (aT (by simp [nV,hlt,Nat.lt_asymm hlt]))
    ·simp only [decide_eq_false_iff_not] at h2
     refine cU (bI (cY (rm rfl (ro rfl (gI (Ht rfl) cV (tB zo)) (ra rfl (eX (gZ (k - 1) ⟨by omega,fun i h3 h4=>(by by_cases e:i = k - 1; (· subst e; omega); exact he i zo h4)⟩ zo (aQ rfl (aQ rfl (aZ rfl (aT zo) aX))) aY)))))))
  ·simp at hk1
   have hk0:k = 0:=by omega
   have heq : m = n := by
    have : dg m = dg n := by
     apply List.ext_getElem?
     intro i
     by_cases hi:i < (dg m).length
     ·have h5 := he i zo hi
      have h6:i < (dg n).length:=by omega
      simp [List.getD,hi,h6] at h5
      simp [hi,h6,h5]
     ·rw [List.getElem?_eq_none zo,List.getElem?_eq_none zo]
    rw [← cM m,this,cM]
   refine gU rfl (ts (ro rfl (cQ (cJ 0)) (eX (fU rfl (fV (eY rfl) ?_)))))
   exact (aT (by simp [nV,heq]))
end
section
open Go Go.RowKit
theorem iW:Tryz.prog.info? 218 = some Tryz.t218:=by kernel_rfl
end
section
open Go Go.RowKit
theorem a0j {m n:Nat} (hm:(dg m).length ≤ 17592186044416) (hn:(dg n).length ≤ 17592186044416):bB Tryz.prog 235 [aL m,aL n] (aL (m + n)):=by
 refine bB.intro Tryz.func235 rfl Tryz.ntmps235 rfl (fun cx=>(ts (ro rfl (cQ cV) (eX (cK (oS (fun (p:Nat) (q:Nat)=>p + q = m + n ∧ (dg q).length ≤ (dg p).length ∧ (dg p).length ≤ 17592186044416) (fun (p:Nat) (q:Nat)=>[(0,aL p),(1,aL q)]) (fun (p:Nat) (q:Nat)=>[]) ?_ (fun p q ⟨hpq,hle,hlp⟩=>?_)))))))
 ·refine ts (rm rfl (ro rfl (dG U_56 (Ht rfl) aA) (rm rfl (ro rfl (dG U_56 (Ht rfl) aA) (ro rfl (gW (Ht rfl) (Ht rfl)) (eX (dQ (Ht rfl) (fun hb => ?_) (fun hb => ?_))))))))
  ·simp at hb
   refine cY (rm rfl (rm rfl (ra rfl (ra rfl (eX (aP (n,m) ⟨Nat.add_comm _ _,Nat.le_of_lt hb,hn⟩ (zS rfl) aY))))))
  ·simp at hb
   refine cU (aP (m,n) ⟨rfl,hb,hm⟩ (zS rfl) aY)
 ·refine ts (rm rfl (ro rfl (dG U_56 (Ht rfl) aA) (ro rfl (dV (Ht rfl) (cJ 1) z6) (rn rfl (fM (T := bM 0) (i := Tryz.t218) V_56 iW rfl rfl (Ht rfl) rfl (fun _ => rfl) trivial (by show 4 * _ ≤ _; omega) zo) fun B19 => (ra rfl (eX (ts (ro rfl (cQ (cJ 0)) (eX (cK (ts (rm rfl (ro rfl (dG U_56 (Ht rfl) aA) (ro rfl (cX (cJ 0)) (eX (eK ?_))))))))))))))))
  refine jS (fun (k : Nat) (out : List Nat) (c : Nat) => Ah (dg p) (dg q) out k c) (fun (k : Nat) (out : List Nat) (c : Nat) => (dg p).length - k) (fun (k : Nat) (out : List Nat) (c : Nat) => [(0, aL p), (1, aL q), (5, Is (.slice (some ⟨B19, 0, none⟩) ((dg p).length + 1) ((dg p).length + 1))), (6, bM c), (21, NT .i64 (dg p).length), (22, NT .i64 k)]) (fun (k : Nat) (out : List Nat) (c : Nat) => [box B19 218 (out.map bM)]) 0 (List.replicate ((dg p).length + 1) 0) 0 (Ah.start _ _)
   (zS rfl) (aU (aB (lD _)) aY) (fun k out c hS=>?_)
  refine ts (ro rfl (gW (Ht rfl) (Ht rfl)) (eX (cK (dQ (Ht rfl) (fun hb=>?_) (fun hb=>?_)))))
  ·simp at hb
   have hlen:=hS.len; have hcl:=hS.cle; have hxk:=aS (bF p) k; have hyk:=aS (bF q) k
   simp only [BB] at hxk hyk
   refine cU (cK (eK (ts (rm rfl (ra rfl (eX (ts (ro rfl (cQ (cJ 0)) (eX (cK (iT (fun (uu:Unit)=>True) (fun (uu:Unit)=>[(0,aL p),(1,aL q),(5,Is (.slice (some ⟨B19,0,none⟩) ((dg p).length + 1) ((dg p).length + 1))),(6,bM c),(7,NT .i64 k),(8,bM ((dg q).getD k 0)),(21,NT .i64 (dg p).length),(22,NT .i64 k)]) (fun (uu:Unit)=>[box B19 218 (out.map bM)]) ?_ (fun uu _=>?_))))))))))))
   ·refine ts (rm rfl (rm rfl (ro rfl (dG U_56 (Ht rfl) aA) (ro rfl (gW (Ht rfl) (Ht rfl)) (eX (dQ (Ht rfl) (fun hk2 => ?_) (fun hk2 => ?_)))))))
    ·simp at hk2
     refine cY (rm rfl (rm rfl (ro rfl (dZ U_56 Z_218 (Ht rfl) (Ht rfl) rfl (dY (aH zo))) (ro rfl (dJ A_218 Z_218 (Ht rfl)) (ra rfl (eX (aP () trivial (zS rfl) (cT.refl _))))))))
    ·simp at hk2
     refine cU (aP () trivial (aQ rfl (aQ rfl (aQ rfl (aQ rfl (aQ rfl (aZ rfl (kT (by simp [List.getD,List.getElem?_eq_none hk2])) (zS rfl))))))) (cT.refl _))
   ·refine cY (rm rfl (rm rfl (rm rfl (rm rfl (ro rfl (dZ U_56 Z_218 (Ht rfl) (Ht rfl) rfl (dY (aH zo))) (ro rfl (dJ A_218 Z_218 (Ht rfl)) (rm rfl (rm rfl (ro rfl (cZ Tryz.call269 (Se hxk hyk zo) ⟨(Ht rfl), (Ht rfl), (Ht rfl), trivial⟩) (rm rfl (ro rfl (dK (Ht rfl) rfl) (ro rfl (dK (Ht rfl) rfl) (ro rfl (gJ U_56 Z_218 (Ht rfl) (Ht rfl) rfl zo (by rw [Nat.mul_one, Nat.zero_add])) ?_)))))))))))))
    refine kE Z_218 (Ht rfl) (Ht rfl) (i:=0) rfl (by first | omega | (simp; omega)) rfl (ra rfl (eX (bI (cY (ro rfl (dV (Ht rfl) (cJ 1) z6) (rm rfl (eX (gZ (k + 1,_,_) (hS.next (bF p) (bF q) hb) (by dsimp only; omega) (zS rfl) (aU (aB (fL _ _ _)) aY)))))))))
  ·simp at hb
   have hkl:k = (dg p).length:=Nat.le_antisymm hS.kle hb
   subst hkl
   have hlen:=hS.len; have hcl:=hS.cle
   refine gU rfl (ts (rm rfl (rm rfl (ro rfl (dG U_56 (Ht rfl) aA) (rm rfl (ro rfl (gJ U_56 Z_218 (Ht rfl) (Ht rfl) rfl zo (by rw [Nat.mul_one,Nat.zero_add])) ?_))))))
   refine kE Z_218 (Ht rfl) (Ht rfl) (i:=0) rfl (by first | omega | (simp; omega)) rfl (eX (cK ?_))
   have hfin:=hS.fin hle
   refine gK (i:=0) (tt:=5) rfl rfl (lK (fL _ _ _) (by simp [hlen]) (Nat.le_refl _)) ?_
   refine cY (rm rfl (ro rfl (cZ K_237 (oV _ (jH hS.dig (by simp only [BB]; omega)) (by simp [hlen]; omega)) ⟨(Ht rfl),trivial⟩) ?_))
   refine ra rfl (eX (fU rfl (fV (eY rfl) ?_)))
   exact (cL (by rw [hfin,cM,cM]; exact hpq))
theorem Wk {m n:Nat} (hm:(dg m).length ≤ 17592186044416) (hnm:n ≤ m):bB Tryz.prog 236 [aL m,aL n] (aL (m - n)):=by
 have hle:=iA hnm
 refine bB.intro Tryz.func236 rfl Tryz.ntmps236 rfl (fun cx=>(ts (ro rfl (cQ cV) (eX (ts (rm rfl (ro rfl (dG U_56 (Ht rfl) aA) (rn rfl (fM (T:=bM 0) (i:=Tryz.t218) V_56 iW rfl rfl (Ht rfl) rfl (fun _=>rfl) trivial (by show 4 * _ ≤ _; omega) zo) fun B11=>(ra rfl (eX (ts (ro rfl (cQ (cJ 0)) (eX (cK (ts (rm rfl (ro rfl (dG U_56 (Ht rfl) aA) (ro rfl (cX (cJ 0)) (eX (eK ?_))))))))))))))))))))
 refine jS (fun (k : Nat) (out : List Nat) (c : Nat) => Al (dg m) (dg n) out k c) (fun (k : Nat) (out : List Nat) (c : Nat) => (dg m).length - k) (fun (k : Nat) (out : List Nat) (c : Nat) => [(0, aL m), (1, aL n), (5, Is (.slice (some ⟨B11, 0, none⟩) (dg m).length (dg m).length)), (6, bM c), (13, NT .i64 (dg m).length), (14, NT .i64 k)]) (fun (k : Nat) (out : List Nat) (c : Nat) => [box B11 218 (out.map bM)]) 0 (List.replicate (dg m).length 0) 0 (Al.start _ _)
  (zS rfl) (aU (aB (lD _)) aY) (fun k out c hS=>?_)
 refine ts (ro rfl (gW (Ht rfl) (Ht rfl)) (eX (cK (dQ (Ht rfl) (fun hb=>?_) (fun hb=>?_)))))
 ·simp at hb
  have hlen:=hS.len; have hcl:=hS.cle; have hxk:=aS (bF m) k; have hyk:=aS (bF n) k
  simp only [BB] at hxk hyk
  refine cU (cK (eK (ts (rm rfl (ra rfl (eX (ts (ro rfl (cQ (cJ 0)) (eX (cK (iT (fun (uu:Unit)=>True) (fun (uu:Unit)=>[(0,aL m),(1,aL n),(5,Is (.slice (some ⟨B11,0,none⟩) (dg m).length (dg m).length)),(6,bM c),(7,NT .i64 k),(8,bM ((dg n).getD k 0)),(13,NT .i64 (dg m).length),(14,NT .i64 k)]) (fun (uu:Unit)=>[box B11 218 (out.map bM)]) ?_ (fun uu _=>?_))))))))))))
  ·refine ts (rm rfl (rm rfl (ro rfl (dG U_56 (Ht rfl) aA) (ro rfl (gW (Ht rfl) (Ht rfl)) (eX (dQ (Ht rfl) (fun hk2 => ?_) (fun hk2 => ?_)))))))
   ·simp at hk2
    refine cY (rm rfl (rm rfl (ro rfl (dZ U_56 Z_218 (Ht rfl) (Ht rfl) rfl (dY (aH zo))) (ro rfl (dJ A_218 Z_218 (Ht rfl)) (ra rfl (eX (aP () trivial (zS rfl) (cT.refl _))))))))
   ·simp at hk2
    refine cU (aP () trivial (aQ rfl (aQ rfl (aQ rfl (aQ rfl (aQ rfl (aZ rfl (kT (by simp [List.getD,List.getElem?_eq_none hk2])) (zS rfl))))))) (cT.refl _))
  ·refine cY (rm rfl (rm rfl (rm rfl (rm rfl (ro rfl (dZ U_56 Z_218 (Ht rfl) (Ht rfl) rfl (dY (aH zo))) (ro rfl (dJ A_218 Z_218 (Ht rfl)) (rm rfl (rm rfl (ro rfl (cZ Tryz.call270 (Sr hxk hyk zo) ⟨(Ht rfl), (Ht rfl), (Ht rfl), trivial⟩) (rm rfl (ro rfl (dK (Ht rfl) rfl) (ro rfl (dK (Ht rfl) rfl) (ro rfl (gJ U_56 Z_218 (Ht rfl) (Ht rfl) rfl zo (by rw [Nat.mul_one, Nat.zero_add])) ?_)))))))))))))
   refine kE Z_218 (Ht rfl) (Ht rfl) (i:=0) rfl (by first | omega | (simp; omega)) rfl (ra rfl (eX (bI (cY (ro rfl (dV (Ht rfl) (cJ 1) z6) (rm rfl (eX (gZ (k + 1,_,_) (hS.next (bF m) (bF n) hb) (by dsimp only; omega) (zS rfl) (aU (aB (fL _ _ _)) aY)))))))))
 ·simp at hb
  have hkl:k = (dg m).length:=Nat.le_antisymm hS.kle hb
  subst hkl
  have hlen:=hS.len
  have hfin:=hS.fin (bF m) hle (by rw [cM,cM]; exact hnm)
  rw [cM,cM] at hfin
  refine gU rfl (gK (i:=0) (tt:=5) rfl rfl (lK rfl hlen.symm (Nat.le_refl _)) (ts (rm rfl (ro rfl (cZ K_237 (oV _ hS.dig zo) ⟨(Ht rfl),trivial⟩) (ra rfl (eX (fU rfl (fV (eY rfl) ?_))))))))
  exact (cL hfin)
theorem Cv {m n:Nat} (hm:(dg m).length ≤ 17592186044416) (hn:(dg n).length ≤ 17592186044416):bB Tryz.prog 154 [aL m,aL n] (aL (m * n)):=by
 refine bB.intro Tryz.func154 rfl Tryz.ntmps154 rfl (fun cx=>(ts (ro rfl (cQ cV) (eX (cK (ts (rm rfl (ro rfl (dG U_56 (Ht rfl) aA) (ro rfl (cB (Ht rfl) (cJ 0)) (rm rfl (fJ rfl rfl (eU rfl rfl (Ht rfl) (fun h=>cX (Ht rfl))) (fJ rfl rfl (eU rfl rfl (Ht rfl) (fun h=>dG U_56 (fG rfl h) aA)) (fJ rfl rfl (eU rfl rfl (Ht rfl) (fun h=>cB (fG rfl h) (cJ 0))) (ro rfl (kH (Ht rfl) (fun h=>(fG rfl h))) (eX (dQ (Ht rfl) (fun hb=>?_) (fun hb=>?_)))))))))))))))))
 ·simp [aI] at hb
  have h0 : m * n = 0 := by
   rcases hb with h | h <;> simp_all [oG]
  refine ts (ro rfl (cQ cV) (eX (fU rfl (fV (eY rfl) ?_))))
  exact (fun v V h=>by rw [h0]; exact jO v V h)
 ·clear hb
  refine cU (ts (rm rfl (ro rfl (dG U_56 (Ht rfl) aA) (rm rfl (ro rfl (dG U_56 (Ht rfl) aA) (ro rfl (dV (Ht rfl) (Ht rfl) z6) (rn rfl (fM (T:=bM 0) (i:=Tryz.t218) V_56 iW rfl rfl (Ht rfl) rfl (fun _=>rfl) trivial (by show 4 * _ ≤ _; omega) zo) fun B24=>(ra rfl (eX (cK (ts (rm rfl (ro rfl (dG U_56 (Ht rfl) aA) (ro rfl (cX (cJ 0)) (eX (eK ?_))))))))))))))))
  refine gR (fun (i : Nat) (out : List Nat) => Ai (dg m) (dg n) out i) (fun (i : Nat) (out : List Nat) => (dg m).length - i) (fun (i : Nat) (out : List Nat) => [(0, aL m), (1, aL n), (5, Is (.slice (some ⟨B24, 0, none⟩) ((dg m).length + (dg n).length) ((dg m).length + (dg n).length))), (25, aL m), (26, NT .i64 (dg m).length), (27, NT .i64 i)]) (fun (i : Nat) (out : List Nat) => [box B24 218 (out.map bM)]) 0 (List.replicate ((dg m).length + (dg n).length) 0) (Ai.start _ _)
   (zS rfl) (aU (aB (lD _)) aY) (fun i out hS=>?_)
  refine ts (ro rfl (gW (Ht rfl) (Ht rfl)) (eX (cK (dQ (Ht rfl) (fun hb=>?_) (fun hb=>?_)))))
  ·simp at hb
   have hxi:=aS (bF m) i
   simp only [BB] at hxi
   refine cU (cK (eK (ts (rm rfl (ro rfl (dZ U_56 Z_218 (Ht rfl) (Ht rfl) rfl (dY (aH zo))) (ro rfl (dJ A_218 Z_218 (Ht rfl)) (ra rfl (ra rfl (eX (ts (ro rfl (cQ (cJ 0)) (eX (cK (ts (rm rfl (ro rfl (dG U_56 (Ht rfl) aA) (ro rfl (cX (cJ 0)) (eX (eK ?_)))))))))))))))))))
   refine jS (fun (k : Nat) (out2 : List Nat) (c : Nat) => Fn (dg m) (dg n) out2 i k c) (fun (k : Nat) (out2 : List Nat) (c : Nat) => (dg n).length - k) (fun (k : Nat) (out2 : List Nat) (c : Nat) => [(0, aL m), (1, aL n), (5, Is (.slice (some ⟨B24, 0, none⟩) ((dg m).length + (dg n).length) ((dg m).length + (dg n).length))), (6, NT .i64 i), (7, bM ((dg m).getD i 0)), (8, NT .u64 c), (25, aL m), (26, NT .i64 (dg m).length), (27, NT .i64 i), (32, aL n), (33, NT .i64 (dg n).length), (34, NT .i64 k)]) (fun (k : Nat) (out2 : List Nat) (c : Nat) => [box B24 218 (out2.map bM)]) 0 out 0 (hS.row hb)
    (zS rfl) (cT.refl _) (fun k out2 c hR=>?_)
   refine ts (ro rfl (gW (Ht rfl) (Ht rfl)) (eX (cK (dQ (Ht rfl) (fun hk=>?_) (fun hk=>?_)))))
   ·simp at hk
    have hlen:=hR.len; have hcl:=hR.clt; have hyk:=aS (bF n) k; have hok:=aS hR.dig (i + k)
    have hbnd:=tS (aS (bF m) i) (aS (bF n) k) (aS hR.dig (i + k)) hR.clt
    simp only [BB] at hcl hyk hok hbnd
    refine cU (cK (eK (ts (rm rfl (ro rfl (dZ U_56 Z_218 (Ht rfl) (Ht rfl) rfl (dY (aH zo))) (ro rfl (dJ A_218 Z_218 (Ht rfl)) (ra rfl (ra rfl (eX (ts (rm rfl (rm rfl (ro rfl (gG U_218 U_263 (Ht rfl) z7) (rm rfl (ro rfl (gG U_218 U_263 (Ht rfl) z7) (ro rfl (jV (Ht rfl) (Ht rfl) (by show _ < 18446744073709551616; omega)) ?_))))))))))))))))
    refine rm rfl (rm rfl (rm rfl (ro rfl (dV (Ht rfl) (Ht rfl) z6) (ro rfl (gJ U_56 Z_218 (Ht rfl) (Ht rfl) rfl zo (by rw [Nat.mul_one,Nat.zero_add])) ?_))))
    refine ro rfl (fQ A_218 Z_218 (Ht rfl) (i:=0) rfl (dY (aH zo))) (ro rfl (gG U_218 U_263 (Ht rfl) z7) (ro rfl (dV (Ht rfl) (Ht rfl) z7) (ro rfl (dV (Ht rfl) (Ht rfl) z7) (ra rfl (eX (ts (rm rfl (rm rfl (rm rfl (ro rfl (dV (Ht rfl) (Ht rfl) z6) ?_))))))))))
    refine rm rfl (ro rfl (fN rfl U_263 U_218 (Ht rfl)) (ro rfl (gJ U_56 Z_218 (Ht rfl) (Ht rfl) rfl zo (by rw [Nat.mul_one,Nat.zero_add])) ?_))
    refine kE Z_218 (Ht rfl) (Ht rfl) (i:=0) rfl (by first | omega | (simp; omega)) rfl (eX (cY (rm rfl (ro rfl (eH (Ht rfl) (cJ 32) (by decide)) (ra rfl (eX (bI (cY (ro rfl (dV (Ht rfl) (cJ 1) z6) (rm rfl (eX (gZ (k + 1,_,_) (hR.next (bF m) (bF n) hk rfl) (by dsimp only; omega) (zS rfl) (aU (aB (fL _ _ _)) aY)))))))))))))
   ·simp at hk
    have hkl:k = (dg n).length:=Nat.le_antisymm hR.kle hk
    subst hkl
    have hlen:=hR.len; have hcl:=hR.clt
    simp only [BB] at hcl
    refine gU rfl (cY (rm rfl (rm rfl (rm rfl (ro rfl (dG U_56 (Ht rfl) aA) (ro rfl (dV (Ht rfl) (Ht rfl) z6) (rm rfl (ro rfl (gG U_263 U_218 (Ht rfl) (by show _ < 4294967296; first | omega | (simp only [kP]; omega))) (ro rfl (gJ U_56 Z_218 (Ht rfl) (Ht rfl) rfl zo (by rw [Nat.mul_one,Nat.zero_add])) ?_)))))))))
    refine kE Z_218 (Ht rfl) (Ht rfl) (i:=0) rfl (by first | omega | (simp; omega)) rfl (eX (bI (cY (ro rfl (dV (Ht rfl) (cJ 1) z6) (rm rfl (eX (gZ (i + 1,_) (hR.fin) (by dsimp only; omega) (zS rfl) (aU (aB (fL _ _ _)) aY))))))))
  ·simp at hb
   have hkl:i = (dg m).length:=Nat.le_antisymm hS.ile hb
   subst hkl
   have hlen:=hS.len
   have hfin:=hS.fin
   rw [cM,cM] at hfin
   refine gU rfl (gK (i:=0) (tt:=5) rfl rfl (lK rfl hlen.symm (Nat.le_refl _)) (ts (rm rfl (ro rfl (cZ K_237 (oV _ hS.dig zo) ⟨(Ht rfl),trivial⟩) (ra rfl (eX (fU rfl (fV (eY rfl) ?_))))))))
   exact (cL hfin)
end
section
open Go Go.RowKit
theorem Sj {v:Nat} (hv:v < 4294967296):bB Tryz.prog 284 [bM v] (NT .i64 (bl v)):=by
 refine bB.intro Tryz.func284 rfl Tryz.ntmps284 rfl (fun cx=>(ts (ro rfl (cQ (cJ 0)) (eX (cK (oS (fun (q:Nat) (x:Nat)=>bl v = q + bl x ∧ x < 65536 ∧ q ≤ 16) (fun (q:Nat) (x:Nat)=>[(0,bM x),(2,NT .i64 q)]) (fun (q:Nat) (x:Nat)=>[]) ?_ (fun q x ⟨hq1,hq2,hq3⟩=>?_)))))))
 ·refine ts (rm rfl (ro rfl (nS (Ht rfl) (cJ 65536)) (eX (dQ (Ht rfl) (fun hb => ?_) (fun hb => ?_)))))
  ·simp at hb
   refine ts (rm rfl (ro rfl (eH (Ht rfl) (cJ 16) (by decide)) (ra rfl (eX (cY (ro rfl (cQ (cJ 16)) (eX (aP (16,v / 2 ^ 16) ⟨a0J hb,by dsimp only; omega,Nat.le_refl _⟩ (zS rfl) aY))))))))
  ·simp at hb
   refine cU (aP (0,v) ⟨(Nat.zero_add _).symm,hb,by dsimp only; omega⟩ (zS rfl) aY)
 ·refine cK (oS (fun (r : Nat) (z : Nat) => bl v = r + bl z ∧ z < 256 ∧ r ≤ 24) (fun (r : Nat) (z : Nat) => [(0, bM z), (2, NT .i64 r)]) (fun (r : Nat) (z : Nat) => []) ?_ (fun r z ⟨hr1, hr2, hr3⟩ => ?_))
  ·refine ts (rm rfl (ro rfl (nS (Ht rfl) (cJ 256)) (eX (dQ (Ht rfl) (fun hb => ?_) (fun hb => ?_)))))
   ·simp at hb
    refine ts (rm rfl (ro rfl (eH (Ht rfl) (cJ 8) (by decide)) (ra rfl (eX (cY (rm rfl (ro rfl (dV (Ht rfl) (cJ 8) z6) (ra rfl (eX (aP (q + 8,x / 2 ^ 8) ⟨by have:=bl8 hb; dsimp only; omega,by dsimp only; omega,by dsimp only; omega⟩ (zS rfl) aY))))))))))
   ·simp at hb
    refine cU (aP (q,x) ⟨hq1,hb,by dsimp only; omega⟩ (zS rfl) aY)
  ·have hbl := lW (k := 8) hr2
   refine ts (rm rfl (rm rfl (ro rfl (gG U_218 U_5 (Ht rfl) (by show _ < 256; first | omega | (simp only [kP]; omega))) (ro rfl (Uq Tryz.runUnderlying9 cV (Ht rfl) (a0Q hr2 (by kernel_rfl))) (ro rfl (gG U_5 U_3 (Ht rfl) z6) (ro rfl (dV (Ht rfl) (Ht rfl) z6) (ra rfl (eX (fU rfl (fV (eY rfl) ?_))))))))))
   exact (kT zo)
theorem Xy {v:Nat} (hv:v < 4294967296):bB Tryz.prog 265 [bM v] (NT .i64 (32 - bl v)):=by
 refine bB.intro Tryz.func265 rfl Tryz.ntmps265 rfl (fun cx=>(ts (ro rfl (cQ (cJ 0)) (eX (ts (rm rfl (ro rfl (cZ Tryz.call284 (Sj hv) ⟨(Ht rfl),trivial⟩) (ro rfl (dW (cJ 32) (Ht rfl) (lW hv) z6) (ra rfl (eX ?_))))))))))
 exact fU rfl (eY rfl)
theorem Sf {hi lo y:Nat} (hy:hi < y) (hl:lo < BB) (hyb:y < BB):bB Tryz.prog 283 [bM hi,bM lo,bM y] (dM [bM ((hi * BB + lo) / y),bM ((hi * BB + lo) % y)]):=by
 have hq:=Ae hy hl; have hm:=Nat.mod_lt (hi * BB + lo) (by omega:y > 0); have hz:hi * BB + lo < 18446744073709551616:=by simp only [BB] at *; omega
 have hsh : hi * 2 ^ 32 < 18446744073709551616 := by
  have h1:hi < BB:=by omega
  show hi * BB < _
  simp only [BB] at h1 ⊢; omega
 refine bB.intro Tryz.func283 rfl Tryz.ntmps283 rfl (fun cx=>(ts (ro rfl (cQ (cJ 0)) (ro rfl (cQ (cJ 0)) (eX (cK (ts (rm rfl (ro rfl (gD (Ht rfl) (cJ 0)) (rm rfl (fJ rfl rfl (eU rfl rfl (Ht rfl) (fun h=>cX (Ht rfl))) (fJ rfl rfl (eU rfl rfl (Ht rfl) (fun h=>cX (Ht rfl))) (fJ rfl rfl (eU rfl rfl (Ht rfl) (fun h=>wC (fG rfl h) (fG rfl h))) (ro rfl (eC (Ht rfl) (fun h=>(fG rfl h))) (eX (fR (Ht rfl) (by simp; omega) ?_))))))))))))))))
 have hl2:lo < 18446744073709551616:=by simp only [BB] at hl; omega
 have hy2:y < 18446744073709551616:=by simp only [BB] at hyb; omega
 refine cU (ts (rm rfl (ro rfl (gG U_218 U_263 (Ht rfl) (by show _ < 18446744073709551616; simp only [BB] at *; omega)) (ro rfl (lP (Ht rfl) (cJ 32) (by decide) hsh) (rm rfl (ro rfl (gG U_218 U_263 (Ht rfl) (by show _ < 18446744073709551616; simp only [BB] at *; omega)) (ro rfl (aE.nat (nE rfl (Ht rfl) (Ht rfl) z7 z7) (rW hl)) (ra rfl (eX ?_)))))))))
 refine cK (fW (m:=11) (dp 8 rfl (cX (Ht rfl)) (dp 2 rfl (cX (Ht rfl)) (dq 24 1 rfl (gG U_218 U_263 (Ht rfl) (by show _ < 18446744073709551616; simp only [BB] at *; omega)) (dP 23 0 25 2 rfl (iP (Ht rfl) (Ht rfl) zo (by show _ < 18446744073709551616; exact hz)) (dq 26 3 rfl (gG U_263 U_218 (Ht rfl) (by show _ < 4294967296; exact hq)) (dp 8 rfl (cX (Ht rfl)) (dp 2 rfl (cX (Ht rfl)) (dq 29 6 rfl (gG U_218 U_263 (Ht rfl) (by show _ < 18446744073709551616; simp only [BB] at *; omega)) ?_)))))))))
 refine dP 28 5 30 7 rfl (jW (Ht rfl) (Ht rfl) zo) (dq 31 8 rfl (gG U_263 U_218 (Ht rfl) (by show _ < 4294967296; simp only [BB] at *; omega)) (dq 27 4 rfl (cQ (Ht rfl)) (fK bC rfl (by kernel_rfl) (zF (zF (aJ (aJ (aJ (aV (ra rfl (eX ?_)))))))))))
 exact bN rfl (eY rfl) (eY rfl)
theorem Wj {m k:Nat} (hm:(dg m).length ≤ 17592186044416) (hk:k ≤ 562949953421312):bB Tryz.prog 266 [aL m,NT .i64 k] (aL (m * 2 ^ k)):=by
 refine bB.intro Tryz.func266 rfl Tryz.ntmps266 rfl (fun cx=>(ts (ro rfl (cQ cV) (eX (cK (ts (rm rfl (ro rfl (dG U_56 (Ht rfl) aA) (ro rfl (cB (Ht rfl) (cJ 0)) (rm rfl (fJ rfl rfl (eU rfl rfl (Ht rfl) (fun h=>cX (Ht rfl))) (fJ rfl rfl (eU rfl rfl (Ht rfl) (fun h=>cB (fG rfl h) (cJ 0))) (ro rfl (kH (Ht rfl) (fun h=>(fG rfl h))) (eX (dQ (Ht rfl) (fun hb=>?_) (fun hb=>?_))))))))))))))))
 ·simp [aI] at hb
  have h0 : m * 2 ^ k = m := by
   rcases hb with h | h
   ·simp_all [oG]
   ·rw [h,Nat.pow_zero,Nat.mul_one]
  refine ts (rm rfl (ra rfl (eX (fU rfl (fV (eY rfl) ?_)))))
  exact (cL h0.symm)
 ·clear hb
  have hr:=Nat.mod_lt k (by decide:32 > 0)
  refine cU (ts (rm rfl (ro rfl (iP (Ht rfl) (cJ 32) zo z6) (rm rfl (ro rfl (jW (Ht rfl) (cJ 32) zo) (ro rfl (gG U_3 U_264 (Ht rfl) z7) (ra rfl (ra rfl (eX (ts (rm rfl (ro rfl (dG U_56 (Ht rfl) aA) (rm rfl (ro rfl (dV (Ht rfl) (Ht rfl) z6) (ro rfl (dV (Ht rfl) (cJ 1) z6) ?_)))))))))))))))
  refine rn rfl (fM (T:=bM 0) (i:=Tryz.t218) V_56 iW rfl rfl (Ht rfl) rfl (fun _=>rfl) trivial (by show 4 * _ ≤ _; omega) zo) fun B29=>ra rfl (eX (cK (ts (rm rfl (ro rfl (dG U_56 (Ht rfl) aA) (ro rfl (cX (cJ 0)) (eX (eK ?_))))))))
  refine gR (fun (i : Nat) (out : List Nat) => wR (dg m) (k / 32) (k % 32) out i) (fun (i : Nat) (out : List Nat) => (dg m).length - i) (fun (i : Nat) (out : List Nat) => [(5, NT .i64 (k / 32)), (6, NT .u64 (k % 32)), (7, Is (.slice (some ⟨B29, 0, none⟩) ((dg m).length + k / 32 + 1) ((dg m).length + k / 32 + 1))), (30, aL m), (31, NT .i64 (dg m).length), (32, NT .i64 i)]) (fun (i : Nat) (out : List Nat) => [box B29 218 (out.map bM)]) 0 (List.replicate ((dg m).length + k / 32 + 1) 0) (wR.start _ _ _)
   (zS rfl) (aU (aB (lD _)) aY) (fun i out hS=>?_)
  refine ts (ro rfl (gW (Ht rfl) (Ht rfl)) (eX (cK (dQ (Ht rfl) (fun hb=>?_) (fun hb=>?_)))))
  ·simp at hb
   have hlen:=hS.len; have hxi:=aS (bF m) i; have hok:=aS hS.dig (i + k / 32)
   have hv:=Ad hxi hr
   have hd:(dg m).getD i 0 * 2 ^ (k % 32) / 2 ^ 32 < 4294967296:=Nat.div_lt_of_lt_mul hv
   simp only [BB] at hxi hok
   refine cU (cK (eK (ts (rm rfl (ro rfl (dZ U_56 Z_218 (Ht rfl) (Ht rfl) rfl (dY (aH zo))) (ro rfl (dJ A_218 Z_218 (Ht rfl)) (ra rfl (ra rfl (eX (ts (rm rfl (ro rfl (gG U_218 U_263 (Ht rfl) z7) (rm rfl (ro rfl (lP (Ht rfl) (Ht rfl) (by show _ ≤ _; simp [IntKind.bits]; omega) (by show _ < 18446744073709551616; exact hv)) (ra rfl (eX (ts (rm rfl (rm rfl (rm rfl (ro rfl (dV (Ht rfl) (Ht rfl) z6) ?_)))))))))))))))))))))
   refine ro rfl (gJ U_56 Z_218 (Ht rfl) (Ht rfl) rfl zo (by rw [Nat.mul_one,Nat.zero_add])) ?_
   refine ro rfl (fQ A_218 Z_218 (Ht rfl) (i:=0) rfl (dY (aH zo))) (rm rfl (ro rfl (fN rfl U_263 U_218 (Ht rfl)) (ro rfl (nE rfl (Ht rfl) (Ht rfl) (by show _ < 4294967296; omega) (by show _ % 4294967296 < 4294967296; omega)) (ro rfl (gJ U_56 Z_218 (Ht rfl) (Ht rfl) rfl zo (by rw [Nat.mul_one,Nat.zero_add])) ?_))))
   refine kE Z_218 (Ht rfl) (Ht rfl) (i:=0) rfl (by first | omega | (simp; omega)) rfl (eX (cY (rm rfl (rm rfl (rm rfl (ro rfl (dV (Ht rfl) (Ht rfl) z6) (ro rfl (dV (Ht rfl) (cJ 1) z6) (rm rfl (ro rfl (eH (Ht rfl) (cJ 32) (by decide)) (ro rfl (gG U_263 U_218 (Ht rfl) (by show _ < 4294967296; exact hd)) (ro rfl (gJ U_56 Z_218 (Ht rfl) (Ht rfl) rfl zo (by rw [Nat.mul_one,Nat.zero_add])) ?_)))))))))))
   refine kE Z_218 (Ht rfl) (Ht rfl) (i:=0) rfl (by first | omega | (simp; omega)) rfl (eX (bI (cY (ro rfl (dV (Ht rfl) (cJ 1) z6) (rm rfl (eX (gZ (i + 1,_) (hS.next (bF m) hr hb rfl rfl) (by dsimp only; omega) (zS rfl) (aU (aB (Eu _ _ _ _ _)) aY))))))))
  ·simp at hb
   have hkl:i = (dg m).length:=Nat.le_antisymm hS.kle hb
   subst hkl
   have hlen:=hS.len
   have hfin:=hS.fin
   rw [cM,kV] at hfin
   refine gU rfl (gK (i:=0) (tt:=7) rfl rfl (lK rfl hlen.symm (Nat.le_refl _)) (ts (rm rfl (ro rfl (cZ K_237 (oV _ hS.dig zo) ⟨(Ht rfl),trivial⟩) (ra rfl (eX (fU rfl (fV (eY rfl) ?_))))))))
   exact (cL hfin)
theorem a0o {m k:Nat} (hm:(dg m).length ≤ 17592186044416) (hk:k ≤ 562949953421312):bB Tryz.prog 268 [aL m,NT .i64 k] (aL (m / 2 ^ k)):=by
 refine bB.intro Tryz.func268 rfl Tryz.ntmps268 rfl (fun cx=>?_)
 have hr:=Nat.mod_lt k (by decide:32 > 0)
 refine ts (ro rfl (cQ cV) (eX (ts (rm rfl (ro rfl (iP (Ht rfl) (cJ 32) zo z6) (rm rfl (ro rfl (jW (Ht rfl) (cJ 32) zo) (ro rfl (gG U_3 U_264 (Ht rfl) z7) (ra rfl (ra rfl (eX (cK (ts (rm rfl (rm rfl (ro rfl (dG U_56 (Ht rfl) aA) (ro rfl (nS (Ht rfl) (Ht rfl)) (eX (dQ (Ht rfl) (fun hb=>?_) (fun hb=>?_))))))))))))))))))))
 ·simp at hb
  have h0:=Ey (bF m) hb (r:=k % 32)
  rw [cM,kV] at h0
  refine ts (ro rfl (cQ cV) (eX (fU rfl (fV (eY rfl) ?_))))
  exact (fun v V h=>cL h0.symm v V (jO v V h))
 ·simp at hb
  refine cU (ts (rm rfl (ro rfl (dG U_56 (Ht rfl) aA) (rm rfl (ro rfl (dW (Ht rfl) (Ht rfl) zo z6) (rn rfl (fM (T:=bM 0) (i:=Tryz.t218) V_56 iW rfl rfl (Ht rfl) rfl (fun _=>rfl) trivial (by show 4 * _ ≤ _; omega) zo) fun B23=>(ra rfl (eX (cK (ts (rm rfl (ro rfl (jU U_56 (Ht rfl)) (ro rfl (cX (cJ 0)) (eX (eK ?_)))))))))))))))
  refine gR (fun (i : Nat) (out : List Nat) => wS (dg m) (k / 32) (k % 32) out i) (fun (i : Nat) (out : List Nat) => (dg m).length - i) (fun (i : Nat) (out : List Nat) => [(0, aL m), (5, NT .i64 (k / 32)), (6, NT .u64 (k % 32)), (7, Is (.slice (some ⟨B23, 0, none⟩) ((dg m).length - k / 32) ((dg m).length - k / 32))), (25, NT .i64 ((dg m).length - k / 32 : Nat)), (26, NT .i64 i)]) (fun (i : Nat) (out : List Nat) => [box B23 218 (out.map bM)]) 0 (List.replicate ((dg m).length - k / 32) 0) (wS.start _ _ _)
   (zS rfl) (aU (aB (lD _)) aY) (fun i out hS=>?_)
  refine ts (ro rfl (gW (Ht rfl) (Ht rfl)) (eX (cK (dQ (Ht rfl) (fun hb=>?_) (fun hb=>?_)))))
  ·simp at hb
   have hlen:=hS.len; have hx0:=aS (bF m) (i + k / 32); have hx1:=aS (bF m) (i + k / 32 + 1)
   have hio:i < out.length:=by omega
   simp only [BB] at hx0 hx1
   refine cU (cK (eK (ts (rm rfl (ra rfl (eX (ts (rm rfl (rm rfl (rm rfl (ro rfl (dV (Ht rfl) (Ht rfl) z6) (ro rfl (dZ U_56 Z_218 (Ht rfl) (Ht rfl) rfl (dY (aH zo))) (ro rfl (dJ A_218 Z_218 (Ht rfl)) (ro rfl (gG U_218 U_263 (Ht rfl) z7) (ra rfl (eX (cK (iT (fun (v:Nat)=>v = (dg m).getD (i + k / 32) 0 + BB * (dg m).getD (i + k / 32 + 1) 0) (fun (v:Nat)=>[(0,aL m),(5,NT .i64 (k / 32)),(6,NT .u64 (k % 32)),(7,Is (.slice (some ⟨B23,0,none⟩) ((dg m).length - k / 32) ((dg m).length - k / 32))),(8,NT .i64 i),(9,NT .u64 v),(25,NT .i64 ((dg m).length - k / 32:Nat)),(26,NT .i64 i)]) (fun (v:Nat)=>[box B23 218 (out.map bM)]) ?_ (fun v hv=>?_)))))))))))))))))))
   ·refine ts (rm rfl (rm rfl (ro rfl (dV (Ht rfl) (Ht rfl) z6) (ro rfl (dV (Ht rfl) (cJ 1) z6) (rm rfl (ro rfl (dG U_56 (Ht rfl) aA) (ro rfl (gW (Ht rfl) (Ht rfl)) (eX (dQ (Ht rfl) (fun hk2 => ?_) (fun hk2 => ?_))))))))))
    ·simp at hk2
     refine cY (rm rfl (rm rfl (rm rfl (rm rfl (ro rfl (dV (Ht rfl) (Ht rfl) z6) (ro rfl (dV (Ht rfl) (cJ 1) z6) (ro rfl (dZ U_56 Z_218 (Ht rfl) (Ht rfl) rfl (dY (aH zo))) (ro rfl (dJ A_218 Z_218 (Ht rfl)) (ro rfl (gG U_218 U_263 (Ht rfl) z7) (ro rfl (lP (Ht rfl) (cJ 32) (by decide) (by show _ < 18446744073709551616; omega)) ?_))))))))))
     refine ro rfl (aE.nat (nE rfl (Ht rfl) (Ht rfl) z7 z7) (Jp hx0)) (ra rfl (eX (aP ((dg m).getD (i + k / 32) 0 + BB * (dg m).getD (i + k / 32 + 1) 0) rfl (zS rfl) (cT.refl _))))
    ·simp at hk2
     refine cU (aP ((dg m).getD (i + k / 32) 0) (by simp [List.getD,List.getElem?_eq_none hk2]) (zS rfl) (cT.refl _))
   ·refine cY (rm rfl (rm rfl (rm rfl (rm rfl (ro rfl (eH (Ht rfl) (Ht rfl) (by show _ ≤ 64; omega)) (ro rfl (fN rfl U_263 U_218 (Ht rfl)) (ro rfl (gJ U_56 Z_218 (Ht rfl) (Ht rfl) rfl zo (by rw [Nat.mul_one, Nat.zero_add])) ?_)))))))
    refine kE Z_218 (Ht rfl) (Ht rfl) (i:=0) rfl (by first | omega | (simp; omega)) rfl (eX (bI (cY (ro rfl (dV (Ht rfl) (cJ 1) z6) (rm rfl (eX (gZ (i + 1,_) (hS.next (bF m) hr hio (by rw [hv]; rfl)) (by dsimp only; omega) (zS rfl) (aU (aB (fL _ _ _)) aY))))))))
  ·simp at hb
   have hlen:=hS.len
   have hkl:i = out.length:=Nat.le_antisymm hS.kle zo
   subst hkl
   have hfin:=hS.fin (bF m) zo
   rw [cM,kV] at hfin
   refine gU rfl (gK (i:=0) (tt:=7) rfl rfl (lK rfl hlen.symm (Nat.le_refl _)) (ts (rm rfl (ro rfl (cZ K_237 (oV _ hS.dig zo) ⟨(Ht rfl),trivial⟩) (ra rfl (eX (fU rfl (fV (eY rfl) ?_))))))))
   exact (cL hfin)
theorem Ij {m y:Nat} (hm:(dg m).length ≤ 17592186044416) (hy:0 < y) (hyb:y < BB):bB Tryz.prog 264 [aL m,bM y] (dM [aL (m / y),bM (m % y)]):=by
 refine bB.intro Tryz.func264 rfl Tryz.ntmps264 rfl (fun cx=>(ts (ro rfl (cQ cV) (ro rfl (cQ (cJ 0)) (eX (ts (rm rfl (ro rfl (dG U_56 (Ht rfl) aA) (rn rfl (fM (T:=bM 0) (i:=Tryz.t218) V_56 iW rfl rfl (Ht rfl) rfl (fun _=>rfl) trivial (by show 4 * _ ≤ _; omega) zo) fun B11=>(ra rfl (eX (ts (ro rfl (cQ (cJ 0)) (eX (cK (ts (rm rfl (ro rfl (dG U_56 (Ht rfl) aA) (ro rfl (gI (Ht rfl) cV (tB zo)) (ra rfl (eX (eK ?_))))))))))))))))))))))
 refine jS (fun (k : Nat) (out : List Nat) (r : Nat) => mX (dg m) y out k r) (fun (k : Nat) (out : List Nat) (r : Nat) => k) (fun (k : Nat) (out : List Nat) (r : Nat) => [(0, aL m), (1, bM y), (6, Is (.slice (some ⟨B11, 0, none⟩) (dg m).length (dg m).length)), (7, bM r), (8, aF .i64 ((k : Int) - 1))]) (fun (k : Nat) (out : List Nat) (r : Nat) => [box B11 218 (out.map bM)]) (dg m).length (List.replicate (dg m).length 0) 0 (mX.start _ hy)
  (zS rfl) (aU (aB (lD _)) aY) (fun k out r hS=>?_)
 refine cK (ts (rm rfl (ro rfl (lB (Ht rfl) cV) (eX (dQ (Ht rfl) (fun hb=>?_) (fun hb=>?_))))))
 ·simp at hb
  have hlen:=hS.len; have hkl:=hS.kle
  refine cU (cK (eK (cY (rm rfl (rm rfl (rm rfl (rm rfl (rm rfl (ro rfl (dZ U_56 Z_218 (Ht rfl) (Ht rfl) (show ((k:Int) - 1) = ((k - 1:Nat):Int) by omega) (dY (aH zo))) (ro rfl (dJ A_218 Z_218 (Ht rfl)) (rm rfl (ro rfl (cZ Tryz.call283 (Sf hS.rlt (aS (bF m) (k - 1)) hyb) ⟨(Ht rfl),(Ht rfl),(Ht rfl),trivial⟩) (rm rfl (ro rfl (dK (Ht rfl) rfl) (ro rfl (dK (Ht rfl) rfl) (ro rfl (gJ U_56 Z_218 (Ht rfl) (Ht rfl) (show ((k:Int) - 1) = ((k - 1:Nat):Int) by omega) zo (by rw [Nat.mul_one,Nat.zero_add])) ?_))))))))))))))))
  refine kE Z_218 (Ht rfl) (Ht rfl) (i:=0) rfl (by first | omega | (simp; omega)) rfl (ra rfl (eX (bI (cY (rm rfl (ro rfl (gI (Ht rfl) cV (tB zo)) (ra rfl (eX (gZ (k - 1,_,_) (hS.next (bF m) zo rfl) (by dsimp only; omega) (aQ rfl (aQ rfl (aQ rfl (aQ rfl (aZ rfl (aT zo) aX))))) (aU (aB (fL _ _ _)) aY))))))))))
 ·simp at hb
  have hk0:k = 0:=by omega
  subst hk0
  have hlen:=hS.len
  have hfin:=hS.fin
  rw [cM] at hfin
  refine gU rfl (gK (i:=0) (tt:=6) rfl rfl (lK rfl hlen.symm (Nat.le_refl _)) (ts (rm rfl (ro rfl (cZ K_237 (oV _ hS.dig zo) ⟨(Ht rfl),trivial⟩) (rm rfl (ra rfl (ra rfl (eX (bN rfl (fV (eY rfl) ?_) (fV (eY rfl) ?_))))))))))
  ·exact (cL hfin.1)
  ·exact (kT hfin.2)
end
section
open Go Go.RowKit
theorem Yd {us vs : List Nat} {q j B l : Nat} (hul : us.length = l) (hu : jG us) (hv : jG vs) (hq : q < BB) (hl : j + vs.length < us.length) (hL : us.length ≤ 1152921504606846976) :
    gP Tryz.prog 267 [Is (.slice (some ⟨B,0,none⟩) l l),rM vs,NT .u64 q,NT .i64 j] [box B 218 (us.map bM)] (List Nat × Bool) (fun x=>aC x.2) (fun x=>[box B 218 (x.1.map bM)]) (fun x=>Co us vs q j x.1 x.2):=by
 refine gP.intro Tryz.func267 rfl Tryz.ntmps267 rfl (fun cx Z=>(ts (ro rfl (cQ cV) (eX (ts (ro rfl (cQ (cJ 0)) (ro rfl (cQ (cJ 0)) (eX (cK (ts (rm rfl (ro rfl (dG U_56 (Ht rfl) aA) (ro rfl (cX (cJ 0)) (eX (eK ?_)))))))))))))))
 refine sA (fun (i : Nat) (out : List Nat) (c : Nat) (b : Nat) => pQ us vs q j out i c b) (fun (i : Nat) (out : List Nat) (c : Nat) (b : Nat) => vs.length - i) (fun (i : Nat) (out : List Nat) (c : Nat) (b : Nat) => [(0, Is (.slice (some ⟨B, 0, none⟩) l l)), (1, rM vs), (2, NT .u64 q), (3, NT .i64 j), (9, NT .u64 c), (10, NT .u64 b), (16, rM vs), (17, NT .i64 vs.length), (18, NT .i64 i)]) (fun (i : Nat) (out : List Nat) (c : Nat) (b : Nat) => [Z, box B 218 (out.map bM)]) 0 us 0 0 (pQ.start hu vs q j)
  (zS rfl) (cT.refl _) (fun i out c b hS=>?_)
 refine ts (ro rfl (gW (Ht rfl) (Ht rfl)) (eX (cK (dQ (Ht rfl) (fun hb=>?_) (fun hb=>?_)))))
 ·simp at hb
  have hlen:=hS.len; have hcl:=hS.clt; have hbl:=hS.ble; have hvi:=aS hv i; have hok:=aS hS.dig (i + j)
  have hp:=He hq hvi hS.clt
  simp only [BB] at hp hcl hvi hok
  obtain ⟨p,hp1⟩:∃ p,p = q * vs.getD i 0 + c:=⟨_,rfl⟩
  obtain ⟨x,hx1⟩:∃ x,x = ((out.getD (i + j) 0 + 18446744073709551616 - p % 4294967296) % 18446744073709551616 + 18446744073709551616 - b) % 18446744073709551616:=⟨_,rfl⟩
  refine cU (cK (eK (ts (rm rfl (ro rfl (dZ U_56 Z_218 (Ht rfl) (Ht rfl) rfl (dY (aH zo))) (ro rfl (dJ A_218 Z_218 (Ht rfl)) (ra rfl (ra rfl (eX (ts (rm rfl (rm rfl (ro rfl (gG U_218 U_263 (Ht rfl) z7) (ro rfl (jV (Ht rfl) (Ht rfl) z7) (rm rfl (ro rfl (aE.nat (dV (Ht rfl) (Ht rfl) z7) hp1.symm) ?_))))))))))))))))
  refine ra rfl (eX (ts (rm rfl (ro rfl (eH (Ht rfl) (cJ 32) (by decide)) (ra rfl (eX (ts (rm rfl (rm rfl (rm rfl (ro rfl (dV (Ht rfl) (Ht rfl) z6) (ro rfl (gJ U_56 Z_218 (Ht rfl) (Ht rfl) rfl zo (by rw [Nat.mul_one,Nat.zero_add])) ?_))))))))))))
  refine ro rfl (fQ A_218 Z_218 (Ht rfl) (i:=1) rfl (dY (aH zo))) (ro rfl (gG U_218 U_263 (Ht rfl) z7) (rm rfl (ro rfl (fN rfl U_263 U_218 (Ht rfl)) (ro rfl (gG U_218 U_263 (Ht rfl) z7) (ro rfl (lQ rfl (Ht rfl) (Ht rfl) (by show _ ≤ 18446744073709551616; first | omega | (simp only [kP]; omega))) ?_)))))
  refine rm rfl (ro rfl (aE.nat (lQ rfl (Ht rfl) (Ht rfl) (by show _ ≤ 18446744073709551616; first | omega | (simp only [kP]; omega))) hx1.symm) (ra rfl (eX (ts (rm rfl (rm rfl (rm rfl (ro rfl (dV (Ht rfl) (Ht rfl) z6) (rm rfl (ro rfl (fN rfl U_263 U_218 (Ht rfl)) (ro rfl (gJ U_56 Z_218 (Ht rfl) (Ht rfl) rfl zo (by rw [Nat.mul_one,Nat.zero_add])) ?_)))))))))))
  refine kE Z_218 (Ht rfl) (Ht rfl) (i:=1) rfl (by first | omega | (simp; omega)) rfl (eX (cY (rm rfl (ro rfl (eH (Ht rfl) (cJ 63) (by decide)) (ra rfl (eX (bI (cY (ro rfl (dV (Ht rfl) (cJ 1) z6) (rm rfl (eX (gZ (i + 1,_,_,_) (hS.next hu hv hq hb hl hp1 (yL hok hbl hx1) rfl) (by dsimp only; omega) (zS rfl) (aU (fun _ _ _ h=>h) (aU (aB (fL _ _ _)) aY))))))))))))))
 ·simp at hb
  have hkl:i = vs.length:=Nat.le_antisymm hS.ile hb
  subst hkl
  have hlen:=hS.len; have hcl:=hS.clt; have hbl:=hS.ble; have hok:=aS hS.dig (j + vs.length)
  obtain ⟨x,hx1⟩:∃ x,x = ((out.getD (j + vs.length) 0 + 18446744073709551616 - c) % 18446744073709551616 + 18446744073709551616 - b) % 18446744073709551616:=⟨_,rfl⟩
  have hfin:=hS.fin hl (yM hok hcl hbl hx1) rfl
  simp only [BB] at hcl hok
  refine gU rfl (ts (rm rfl (rm rfl (rm rfl (ro rfl (dG U_56 (Ht rfl) aA) (ro rfl (dV (Ht rfl) (Ht rfl) z6) (ro rfl (gJ U_56 Z_218 (Ht rfl) (Ht rfl) rfl zo (by rw [Nat.mul_one,Nat.zero_add])) ?_)))))))
  refine ro rfl (fQ A_218 Z_218 (Ht rfl) (i:=1) rfl (dY (aH zo))) (ro rfl (gG U_218 U_263 (Ht rfl) z7) (rm rfl (ro rfl (lQ rfl (Ht rfl) (Ht rfl) (by show _ ≤ 18446744073709551616; first | omega | (simp only [kP]; omega))) (rm rfl (ro rfl (aE.nat (lQ rfl (Ht rfl) (Ht rfl) (by show _ ≤ 18446744073709551616; first | omega | (simp only [kP]; omega))) hx1.symm) (ra rfl (eX (ts (rm rfl (rm rfl (rm rfl (ro rfl (dG U_56 (Ht rfl) aA) ?_))))))))))))
  refine ro rfl (dV (Ht rfl) (Ht rfl) z6) (rm rfl (ro rfl (fN rfl U_263 U_218 (Ht rfl)) (ro rfl (gJ U_56 Z_218 (Ht rfl) (Ht rfl) rfl zo (by rw [Nat.mul_one,Nat.zero_add])) ?_)))
  refine kE Z_218 (Ht rfl) (Ht rfl) (i:=1) rfl (by first | omega | (simp; omega)) rfl (eX (ts (rm rfl (ro rfl (eH (Ht rfl) (cJ 63) (by decide)) (ro rfl (gD (Ht rfl) (cJ 0)) (ra rfl (eX ?_)))))))
  exact kO (_,_) hfin [0,1] ⟨⟨_,rfl,fun _ _ _ h=>h⟩,⟨_,rfl,(aB (fL _ _ _))⟩,trivial⟩ (by decide) (yB rfl (eY rfl))
theorem Ia {m n:Nat} (hm:(dg m).length ≤ 17592186044415) (hn1:(dg n).length ≤ 17592186044416) (hn:n ≠ 0):bB Tryz.prog 233 [aL m,aL n] (dM [aL (m / n),aL (m % n)]):=by
 refine bB.intro Tryz.func233 rfl Tryz.ntmps233 rfl (fun cx=>(ts (ro rfl (cQ cV) (ro rfl (cQ cV) (eX (cK (ts (rm rfl (rm rfl (ro rfl (cZ Tryz.call199 (Nk zo zo) ⟨(Ht rfl),(Ht rfl),trivial⟩) (ro rfl (pG (Ht rfl) cV) (eX (dQ (Ht rfl) (fun hb=>?_) (fun hb=>?_))))))))))))))
 ·simp only [decide_eq_true_eq] at hb
  have hlt : m < n := by
   unfold nV at hb
   split at hb
   ·assumption
   ·split at hb <;> simp at hb
  refine ts (rm rfl (ro rfl (cQ cV) (ra rfl (eX (bN rfl (fV (eY rfl) ?_) (fV (eY rfl) ?_))))))
  ·exact (fun v V h=>cL (Nat.div_eq_of_lt hlt).symm v V (jO v V h))
  ·exact (cL (Nat.mod_eq_of_lt hlt).symm)
 ·simp only [decide_eq_false_iff_not] at hb
  have hle : n ≤ m := by
   unfold nV at hb
   split at hb
   ·simp at hb
   ·omega
  clear hb
  refine cU (cK (ts (rm rfl (ro rfl (dG U_56 (Ht rfl) aA) (ro rfl (cB (Ht rfl) (cJ 1)) (eX (dQ (Ht rfl) (fun h1=>?_) (fun h1=>?_))))))))
  ·simp at h1
   have hy0:=Nt h1
   have hyb:=aS (bF n) 0
   have hmod:=Nat.mod_lt m (show (dg n).getD 0 0 > 0 by omega)
   simp only [BB] at hyb
   refine ts (rm rfl (rm rfl (ro rfl (dZ U_56 Z_218 (Ht rfl) (cJ 0) rfl (dY (aH zo))) (ro rfl (dJ A_218 Z_218 (Ht rfl)) (ro rfl (cZ Tryz.call264 (Ij zo zo hyb) ⟨(Ht rfl),(Ht rfl),trivial⟩) (rm rfl (ro rfl (dK (Ht rfl) rfl) (ro rfl (dK (Ht rfl) rfl) (ra rfl (ra rfl (eX (ts (rm rfl (rm rfl (ro rfl (gG U_218 U_263 (Ht rfl) z7) (ro rfl (cZ Tryz.call238 (Aw zo) ⟨(Ht rfl),trivial⟩) ?_))))))))))))))))
   refine ra rfl (ra rfl (eX (bN rfl (fV (eY rfl) ?_) (fV (eY rfl) ?_))))
   ·exact (cL (by rw [hy0]))
   ·exact (cL (by rw [hy0]))
  ·simp at h1
   have hl0:(dg n).length ≠ 0:=fun e=>hn (aI.1 e)
   have hyb:=aS (bF n) ((dg n).length - 1)
   obtain ⟨s,hs⟩:∃ s,s = 32 - bl ((dg n).getD ((dg n).length - 1) 0):=⟨_,rfl⟩
   obtain ⟨hs1,hvl,hvb⟩:=Di hn hs
   obtain ⟨hc1,hc2,hc3,hc4⟩:=Dd (m:=m) hs1
   simp only [BB] at hyb
   have hp2:0 < 2 ^ s:=Nat.pow_pos (by decide)
   have hX0:(dg (m * 2 ^ s)).length ≠ 0:=fun e=>(Nat.ne_of_gt (Nat.mul_pos (show 0 < m by omega) hp2)) (aI.1 e)
   have hmono:=iA hle
   refine cU (ts (rm rfl (ro rfl (dG U_56 (Ht rfl) aA) (rm rfl (rm rfl (ro rfl (dG U_56 (Ht rfl) aA) (ro rfl (dW (Ht rfl) (cJ 1) zo z6) (ro rfl (dZ U_56 Z_218 (Ht rfl) (Ht rfl) rfl (dY (aH zo))) (ro rfl (dJ A_218 Z_218 (Ht rfl)) (ro rfl (aE.nat (cZ Tryz.call265 (Xy zo) ⟨(Ht rfl),trivial⟩) hs.symm) (ra rfl (ra rfl (eX (ts (rm rfl (rm rfl (ro rfl (cZ Tryz.call266 (Wj zo zo) ⟨(Ht rfl),(Ht rfl),trivial⟩) ?_)))))))))))))))))
   refine ra rfl (eX (ts (rm rfl (ro rfl (dG U_56 (Ht rfl) aA) (ro rfl (dV (Ht rfl) (cJ 1) z6) (rn rfl (fM (T:=bM 0) (i:=Tryz.t218) V_56 iW rfl rfl (Ht rfl) rfl (fun _=>rfl) trivial (by show 4 * _ ≤ _; omega) zo) fun B55=>(ra rfl (eX (ts (rm rfl (rm rfl (rm rfl (ro rfl (cZ Tryz.call266 (Wj zo zo) ⟨(Ht rfl),(Ht rfl),trivial⟩) (Hl U_56 Z_218 (Ht rfl) (Ht rfl) (Pf hX0) Wx (i:=0) rfl (by simp) (by simp; omega) (De _ _) rfl rfl ?_))))))))))))))
   refine eX (ts (rm rfl (ro rfl (jU U_56 (Ht rfl)) (rm rfl (ro rfl (dW (Ht rfl) (Ht rfl) zo z6) (rn rfl (fM (T:=bM 0) (i:=Tryz.t218) V_56 iW rfl rfl (Ht rfl) rfl (fun _=>rfl) trivial (by show 4 * _ ≤ _; omega) zo) fun B65=>(ra rfl (eX (cK (ts (rm rfl (ro rfl (jU U_56 (Ht rfl)) (ro rfl (gI (Ht rfl) cV (tB zo)) (ra rfl (eX (eK ?_))))))))))))))))
   obtain ⟨vs,hvs⟩:∃ vs,vs = dg (n * 2 ^ s):=⟨_,rfl⟩
   rw [← hvs] at hvl hvb
   have hv:jG vs:=hvs ▸ bF _
   have hvv:val vs = n * 2 ^ s:=by rw [hvs,cM]
   have hV0:0 < val vs:=by rw [hvv]; exact Nat.mul_pos zo hp2
   have hnr:=Jg hv zo hvb
   have hv1:=hnr.v1lt; have hv2:=hnr.v2lt; have hbig:=hnr.big
   simp only [BB] at hv1 hv2 hbig
   refine jS (fun (k : Nat) (us : List Nat) (qs : List Nat) => mE (m * 2 ^ s) vs us qs k ∧ us.length = (dg m).length + 1) (fun (k : Nat) (us : List Nat) (qs : List Nat) => k) (fun (k : Nat) (us : List Nat) (qs : List Nat) => [(8, NT .i64 vs.length), (9, NT .i64 s), (10, rM vs), (11, Is (.slice (some ⟨B55, 0, none⟩) ((dg m).length + 1) ((dg m).length + 1))), (12, Is (.slice (some ⟨B65, 0, none⟩) ((dg m).length + 1 - (dg n).length) ((dg m).length + 1 - (dg n).length))), (13, aF .i64 ((k : Int) - 1))]) (fun (k : Nat) (us : List Nat) (qs : List Nat) => [box B55 218 (us.map bM), box B65 218 (qs.map bM)]) ((dg m).length + 1 - (dg n).length) (xG m s) (List.replicate ((dg m).length + 1 - (dg n).length) 0) ⟨mE.start hv zo hvb hs1 (by have := iH (bF m); rwa [cM] at this) hc3 hc2 hc4 zo, hc2⟩
    (aZ rfl (kT hvl.symm) (aQ rfl (aZ rfl (fun v V h=>by rw [hvs]; exact h) (aQ rfl (aQ rfl (aZ rfl (aT zo) aX)))))) (aU (fun _ _ _ h=>h) (aU (aB (lD _)) aY)) (fun k us qs ⟨hS,hus⟩=>?_)
   refine cK (ts (rm rfl (ro rfl (lB (Ht rfl) cV) (eX (dQ (Ht rfl) (fun hk=>?_) (fun hk=>?_))))))
   ·simp at hk
    obtain ⟨j,rfl⟩:∃ j,k = j + 1:=⟨k - 1,by omega⟩
    have htp:=hS.top hv zo (Nat.succ_pos j) rfl
    have hkq:=hS.kle; have hlq:=hS.lenq
    rw [Nat.add_sub_cancel] at htp
    have hu0:=aS hS.dig (j + vs.length); have hu1:=aS hS.dig (j + vs.length - 1); have hu2:=aS hS.dig (j + vs.length - 2)
    have ht64:=Qu hu0 hu1; have hsh:=Ew hu0
    obtain ⟨top,htop⟩:∃ top,top = us.getD (j + vs.length) 0 * BB + us.getD (j + vs.length - 1) 0:=⟨_,rfl⟩
    have hor:=(rW (a:=us.getD (j + vs.length) 0) hu1).trans htop.symm
    rw [← htop] at htp ht64
    have hu2b:=hu2
    simp only [BB] at hu0 hu1 hu2
    refine wT (E':=[(8,_),(9,_),(10,_),(11,_),(12,_),(13,_),(69,_),(70,_)]) (aQ rfl (aQ rfl (aQ rfl (aQ rfl (aQ rfl (aZ rfl (aT (show ((j + 1:Nat):Int) - 1 = (j:Int) by omega)) (zS rfl))))))) (cU (cK (eK (cK (fW (m:=16) (dp 11 rfl (cX (Ht rfl)) (dp 13 rfl (cX (Ht rfl)) (dp 8 rfl (cX (Ht rfl)) (dP 74 1 75 2 rfl (dV (Ht rfl) (Ht rfl) z6) (dP 73 0 76 3 rfl (gJ U_56 Z_218 (Ht rfl) (Ht rfl) rfl zo (by rw [Nat.mul_one,Nat.zero_add])) ?_))))))))))
    refine dq 77 4 rfl (fQ A_218 Z_218 (Ht rfl) (i:=0) rfl (dY (aH zo))) (dq 78 5 rfl (gG U_218 U_263 (Ht rfl) z7) (dq 79 6 rfl (lP (Ht rfl) (cJ 32) (by decide) hsh) (dp 11 rfl (cX (Ht rfl)) (dp 13 rfl (cX (Ht rfl)) (dp 8 rfl (cX (Ht rfl)) (dP 82 9 83 10 rfl (dV (Ht rfl) (Ht rfl) z6) (dq 84 11 rfl (dW (Ht rfl) (cJ 1) zo z6) ?_)))))))
    refine dP 81 8 85 12 rfl (gJ U_56 Z_218 (Ht rfl) (Ht rfl) rfl zo (by rw [Nat.mul_one,Nat.zero_add])) ?_
    refine dq 86 13 rfl (fQ A_218 Z_218 (Ht rfl) (i:=0) rfl (dY (aH zo))) (dq 87 14 rfl (gG U_218 U_263 (Ht rfl) z7) (fK bC rfl (by kernel_rfl) (zF (zF (zF (zF (aV (ro rfl (aE.nat (nE rfl (Ht rfl) (Ht rfl) z7 z7) hor) ?_))))))))
    refine ra rfl (eX (cK (fW (m:=17) (dp 14 rfl (cX (Ht rfl)) (dp 10 rfl (cX (Ht rfl)) (dp 8 rfl (cX (Ht rfl)) (dq 92 2 rfl (dW (Ht rfl) (cJ 1) zo z6) (dP 91 1 93 3 rfl (dZ U_56 Z_218 (Ht rfl) (Ht rfl) rfl (dY (aH zo))) (dq 94 4 rfl (dJ A_218 Z_218 (Ht rfl)) (dq 95 5 rfl (gG U_218 U_263 (Ht rfl) z7) ?_))))))))))
    refine dP 90 0 96 6 rfl (iP (Ht rfl) (Ht rfl) zo (by show _ < 18446744073709551616; exact ht64)) (dp 14 rfl (cX (Ht rfl)) (dp 10 rfl (cX (Ht rfl)) (dp 8 rfl (cX (Ht rfl)) (dq 100 10 rfl (dW (Ht rfl) (cJ 1) zo z6) (dP 99 9 101 11 rfl (dZ U_56 Z_218 (Ht rfl) (Ht rfl) rfl (dY (aH zo))) (dq 102 12 rfl (dJ A_218 Z_218 (Ht rfl)) (dq 103 13 rfl (gG U_218 U_263 (Ht rfl) z7) ?_)))))))
    refine dP 98 8 104 14 rfl (jW (Ht rfl) (Ht rfl) zo) (dq 97 7 rfl (cQ (Ht rfl)) (fK bC rfl (by kernel_rfl) (zF (zF (zF (zF (aJ (aV (ra rfl (eX (cK (iT (fun (g:Nat)=>Fo (val (us.drop j)) (val vs) g) (fun (g:Nat)=>[(8,NT .i64 vs.length),(9,NT .i64 s),(10,rM vs),(11,Is (.slice (some ⟨B55,0,none⟩) ((dg m).length + 1) ((dg m).length + 1))),(12,Is (.slice (some ⟨B65,0,none⟩) ((dg m).length + 1 - (dg n).length) ((dg m).length + 1 - (dg n).length))),(13,NT .i64 j),(15,NT .u64 g)]) (fun (g:Nat)=>[box B55 218 (us.map bM),box B65 218 (qs.map bM)]) ?_ (fun g hg=>?_)))))))))))))
    ·refine eK ?_
     refine gR (fun (g : Nat) (r : Nat) => kN (val (us.drop j)) (val vs) (vs.getD (vs.length - 1) 0) top g r ∧ r < 4294967296) (fun (g : Nat) (r : Nat) => g) (fun (g : Nat) (r : Nat) => [(8, NT .i64 vs.length), (9, NT .i64 s), (10, rM vs), (11, Is (.slice (some ⟨B55, 0, none⟩) ((dg m).length + 1) ((dg m).length + 1))), (12, Is (.slice (some ⟨B65, 0, none⟩) ((dg m).length + 1 - (dg n).length) ((dg m).length + 1 - (dg n).length))), (13, NT .i64 j), (15, NT .u64 g), (16, NT .u64 r)]) (fun (g : Nat) (r : Nat) => [box B55 218 (us.map bM), box B65 218 (qs.map bM)]) (top / vs.getD (vs.length - 1) 0) (top % vs.getD (vs.length - 1) 0) ⟨kN.start hnr htp, Nat.lt_trans (Nat.mod_lt _ zo) hv1⟩
      (zS rfl) (cT.refl _) (fun g r ⟨hG,hr⟩=>?_)
     have hgl:=(hG.glt hnr htp).1
     have hrs:=Ew (a:=r) hr
     have horr:=rW (a:=r) hu2b
     simp only [BB] at hgl
     refine cK (cK (fW (m:=22) (dp 15 rfl (cX (Ht rfl)) (dq 106 0 rfl (nS (Ht rfl) (cJ 4294967296)) (dq 107 1 rfl (cX (Ht rfl)) (C.D_step (Ei:=[(15,_),(108,_)]) rfl rfl (bV (bK rfl rfl) (bV (bG 2 rfl rfl) bW)) (eU rfl rfl (Ht rfl) (fun h=>cX (Ht rfl))) (C.D_step (Ei:=[(10,_),(108,_)]) rfl rfl (bV (bK rfl rfl) (bV (bG 2 rfl rfl) bW)) (eU rfl rfl (Ht rfl) (fun h=>cX (Ht rfl))) (C.D_step (Ei:=[(8,_),(108,_)]) rfl rfl (bV (bK rfl rfl) (bV (bG 2 rfl rfl) bW)) (eU rfl rfl (Ht rfl) (fun h=>cX (Ht rfl))) ?_))))))))
     refine C.D_step (Ei:=[(111,_),(108,_)]) rfl rfl (bV (bG 5 rfl rfl) (bV (bG 2 rfl rfl) bW)) (eU rfl rfl (Ht rfl) (fun h=>dW (fG rfl h) (cJ 2) (by first | omega | (simp at h; omega)) (by show _ < 9223372036854775808; first | omega | (simp at h; omega)))) (C.D_step (Ei:=[(110,_),(112,_),(108,_)]) rfl rfl (bV (bG 4 rfl rfl) (bV (bG 6 rfl rfl) (bV (bG 2 rfl rfl) bW))) (eU rfl rfl (Ht rfl) (fun h=>dZ U_56 Z_218 (fG rfl h) (fG rfl h) rfl (dY (aH (by first | omega | (simp at h; omega)))))) ?_)
     refine C.D_step (Ei:=[(113,_),(108,_)]) rfl rfl (bV (bG 7 rfl rfl) (bV (bG 2 rfl rfl) bW)) (eU rfl rfl (Ht rfl) (fun h=>dJ A_218 Z_218 (fG rfl h))) (C.D_step (Ei:=[(114,_),(108,_)]) rfl rfl (bV (bG 8 rfl rfl) (bV (bG 2 rfl rfl) bW)) (eU rfl rfl (Ht rfl) (fun h=>gG U_218 U_263 (fG rfl h) (by show _ < 18446744073709551616; first | omega | (simp at h; omega)))) (C.D_step (Ei:=[(109,_),(115,_),(108,_)]) rfl rfl (bV (bG 3 rfl rfl) (bV (bG 9 rfl rfl) (bV (bG 2 rfl rfl) bW))) (eU rfl rfl (Ht rfl) (fun h=>jV (fG rfl h) (fG rfl h) (by show _ < 18446744073709551616; simp at h; exact Wv h hv2))) ?_))
     refine C.D_step (Ei:=[(16,_),(108,_)]) rfl rfl (bV (bK rfl rfl) (bV (bG 2 rfl rfl) bW)) (eU rfl rfl (Ht rfl) (fun h=>cX (Ht rfl))) (C.D_step (Ei:=[(117,_),(108,_)]) rfl rfl (bV (bG 11 rfl rfl) (bV (bG 2 rfl rfl) bW)) (eU rfl rfl (Ht rfl) (fun h=>lP (fG rfl h) (cJ 32) (by decide) hrs)) (C.D_step (Ei:=[(11,_),(108,_)]) rfl rfl (bV (bK rfl rfl) (bV (bG 2 rfl rfl) bW)) (eU rfl rfl (Ht rfl) (fun h=>cX (Ht rfl))) (C.D_step (Ei:=[(13,_),(108,_)]) rfl rfl (bV (bK rfl rfl) (bV (bG 2 rfl rfl) bW)) (eU rfl rfl (Ht rfl) (fun h=>cX (Ht rfl))) ?_)))
     refine C.D_step (Ei:=[(8,_),(108,_)]) rfl rfl (bV (bK rfl rfl) (bV (bG 2 rfl rfl) bW)) (eU rfl rfl (Ht rfl) (fun h=>cX (Ht rfl))) (C.D_step (Ei:=[(120,_),(121,_),(108,_)]) rfl rfl (bV (bG 14 rfl rfl) (bV (bG 15 rfl rfl) (bV (bG 2 rfl rfl) bW))) (eU rfl rfl (Ht rfl) (fun h=>dV (fG rfl h) (fG rfl h) (by show _ < 9223372036854775808; first | omega | (simp at h; omega)))) (C.D_step (Ei:=[(122,_),(108,_)]) rfl rfl (bV (bG 16 rfl rfl) (bV (bG 2 rfl rfl) bW)) (eU rfl rfl (Ht rfl) (fun h=>dW (fG rfl h) (cJ 2) (by first | omega | (simp at h; omega)) (by show _ < 9223372036854775808; first | omega | (simp at h; omega)))) ?_))
     refine C.D_step (Ei:=[(119,_),(123,_),(108,_)]) rfl rfl (bV (bG 13 rfl rfl) (bV (bG 17 rfl rfl) (bV (bG 2 rfl rfl) bW))) (eU rfl rfl (Ht rfl) (fun h=>gJ U_56 Z_218 (fG rfl h) (fG rfl h) rfl (by first | omega | (simp at h; omega)) (by rw [Nat.mul_one,Nat.zero_add]))) ?_
     refine C.D_step (Ei:=[(124,_),(108,_)]) rfl rfl (bV (bG 18 rfl rfl) (bV (bG 2 rfl rfl) bW)) (eU rfl rfl (Ht rfl) (fun h=>fQ A_218 Z_218 (fG rfl h) (i:=0) rfl (dY (aH zo)))) (C.D_step (Ei:=[(125,_),(108,_)]) rfl rfl (bV (bG 19 rfl rfl) (bV (bG 2 rfl rfl) bW)) (eU rfl rfl (Ht rfl) (fun h=>gG U_218 U_263 (fG rfl h) (by show _ < 18446744073709551616; first | omega | (simp at h; omega)))) (C.D_step (Ei:=[(118,_),(126,_),(108,_)]) rfl rfl (bV (bG 12 rfl rfl) (bV (bG 20 rfl rfl) (bV (bG 2 rfl rfl) bW))) (eU rfl rfl (Ht rfl) (fun h=>aE.nat (nE rfl (fG rfl h) (fG rfl h) (by show _ < 18446744073709551616; first | omega | (simp at h; omega)) (by show _ < 18446744073709551616; first | omega | (simp at h; omega))) horr)) ?_))
     refine fK bC rfl (by kernel_rfl) (zF (zF (zF (zF (zF (aJ (aJ (aV (fJ rfl rfl (eU rfl rfl (Ht rfl) (fun h=>eO (fG rfl h) (fG rfl h))) (ro rfl (kH (Ht rfl) (fun h=>(fG rfl h))) (eX (dQ (Ht rfl) (fun hc=>?_) (fun hc=>?_)))))))))))))
     ·have hn2 := hG.next hnr htp (by simpa [BB] using hc)
      have hg1:=hn2.2
      refine cU (eK (ts (rm rfl (ro rfl (dW (Ht rfl) (cJ 1) zo z7) (ra rfl (eX (ts (rm rfl (rm rfl (rm rfl (ro rfl (dW (Ht rfl) (cJ 1) zo z6) (ro rfl (dZ U_56 Z_218 (Ht rfl) (Ht rfl) rfl (dY (aH zo))) (ro rfl (dJ A_218 Z_218 (Ht rfl)) (ro rfl (gG U_218 U_263 (Ht rfl) z7) ?_))))))))))))))
      refine ro rfl (dV (Ht rfl) (Ht rfl) z7) (ra rfl (eX (ts (rm rfl (ro rfl (nS (Ht rfl) (cJ 4294967296)) (eX (dQ (Ht rfl) (fun hr2=>?_) (fun hr2=>?_))))))))
      ·simp at hr2
       refine gU rfl (aP (g - 1) (hn2.1.stop hnr htp hr2) (zS rfl) (cT.refl _))
      ·simp at hr2
       refine cU (bI (gZ (g - 1,_) ⟨hn2.1,hr2⟩ (by dsimp only; omega) (zS rfl) (cT.refl _)))
     ·simp at hc
      refine gU rfl (aP g (hG.done hnr htp hc.1 hc.2) (zS rfl) (cT.refl _))
    ·have hglt := hg.lt
     simp only [BB] at hglt
     refine cK (oS (fun (us2:List Nat) (g2:Nat)=>mE (m * 2 ^ s) vs us2 (qs.set j g2) j ∧ g2 < 4294967296 ∧ us2.length = (dg m).length + 1) (fun (us2:List Nat) (g2:Nat)=>[(8,NT .i64 vs.length),(9,NT .i64 s),(10,rM vs),(11,Is (.slice (some ⟨B55,0,none⟩) ((dg m).length + 1) ((dg m).length + 1))),(12,Is (.slice (some ⟨B65,0,none⟩) ((dg m).length + 1 - (dg n).length) ((dg m).length + 1 - (dg n).length))),(13,NT .i64 j),(15,NT .u64 g2)]) (fun (us2:List Nat) (g2:Nat)=>[box B55 218 (us2.map bM),box B65 218 (qs.map bM)]) ?_ (fun us2 g2 ⟨hD,hg2,hus2⟩=>?_))
     ·refine ts (rm rfl (rm rfl (rm rfl (rm rfl (Aj Tryz.call267 (Yd hus hS.dig hv hg.lt zo zo) (i := 0) rfl ⟨(Ht rfl), (Ht rfl), (Ht rfl), (Ht rfl), trivial⟩ rfl (fun ⟨out, b⟩ hT => ?_))))))
      dsimp only at hT
      refine eX (dQ (Ht rfl) (fun hbb=>?_) (fun hbb=>?_))
      ·have hbb : b = true := hbb
       subst hbb
       have hg0:=hS.gpos hv rfl zo hT
       have hol:=hT.len
       refine ts (rm rfl (ro rfl (dW (Ht rfl) (cJ 1) zo z7) (ra rfl (eX (ts (ro rfl (cQ (cJ 0)) (eX (cK (ts (rm rfl (ro rfl (dG U_56 (Ht rfl) aA) (ro rfl (cX (cJ 0)) (eX (eK ?_))))))))))))))
       refine jS (fun (i : Nat) (out2 : List Nat) (c : Nat) => pO out vs j out2 i c) (fun (i : Nat) (out2 : List Nat) (c : Nat) => vs.length - i) (fun (i : Nat) (out2 : List Nat) (c : Nat) => [(8, NT .i64 vs.length), (9, NT .i64 s), (10, rM vs), (11, Is (.slice (some ⟨B55, 0, none⟩) ((dg m).length + 1) ((dg m).length + 1))), (12, Is (.slice (some ⟨B65, 0, none⟩) ((dg m).length + 1 - (dg n).length) ((dg m).length + 1 - (dg n).length))), (13, NT .i64 j), (15, NT .u64 (g - 1 : Nat)), (17, NT .u64 c), (149, rM vs), (150, NT .i64 vs.length), (151, NT .i64 i)]) (fun (i : Nat) (out2 : List Nat) (c : Nat) => [box B55 218 (out2.map bM), box B65 218 (qs.map bM)]) 0 out 0 (pO.start hT.dig vs j)
        (zS rfl) (cT.refl _) (fun i out2 c hB=>?_)
       refine ts (ro rfl (gW (Ht rfl) (Ht rfl)) (eX (cK (dQ (Ht rfl) (fun hi=>?_) (fun hi=>?_)))))
       ·simp at hi
        have hlen:=hB.len; have hcl:=hB.cle; have hvi:=aS hv i; have hok:=aS hB.dig (i + j)
        simp only [BB] at hvi hok
        refine cU (cK (eK (ts (rm rfl (ro rfl (dZ U_56 Z_218 (Ht rfl) (Ht rfl) rfl (dY (aH zo))) (ro rfl (dJ A_218 Z_218 (Ht rfl)) (ra rfl (ra rfl (eX (ts (rm rfl (rm rfl (rm rfl (rm rfl (ro rfl (dV (Ht rfl) (Ht rfl) z6) (ro rfl (gJ U_56 Z_218 (Ht rfl) (Ht rfl) rfl zo (by rw [Nat.mul_one,Nat.zero_add])) ?_))))))))))))))))
        refine ro rfl (fQ A_218 Z_218 (Ht rfl) (i:=0) rfl (dY (aH zo))) (ro rfl (gG U_218 U_263 (Ht rfl) z7) (rm rfl (ro rfl (gG U_218 U_263 (Ht rfl) z7) (ro rfl (dV (Ht rfl) (Ht rfl) z7) (ro rfl (dV (Ht rfl) (Ht rfl) z7) ?_)))))
        refine ra rfl (eX (ts (rm rfl (rm rfl (rm rfl (ro rfl (dV (Ht rfl) (Ht rfl) z6) (rm rfl (ro rfl (fN rfl U_263 U_218 (Ht rfl)) (ro rfl (gJ U_56 Z_218 (Ht rfl) (Ht rfl) rfl zo (by rw [Nat.mul_one,Nat.zero_add])) ?_)))))))))
        refine kE Z_218 (Ht rfl) (Ht rfl) (i:=0) rfl (by first | omega | (simp; omega)) rfl (eX (cY (rm rfl (ro rfl (eH (Ht rfl) (cJ 32) (by decide)) (ra rfl (eX (bI (cY (ro rfl (dV (Ht rfl) (cJ 1) z6) (rm rfl (eX (gZ (i + 1,_,_) (hB.next hv hi zo rfl) (by dsimp only; omega) (zS rfl) (aU (aB (fL _ _ _)) (aU (fun _ _ _ h=>h) aY))))))))))))))
       ·simp at hi
        have hil:i = vs.length:=Nat.le_antisymm hB.ile hi
        subst hil
        have hlen:=hB.len; have hcl:=hB.cle; have hok:=aS hB.dig (j + vs.length)
        have hBk:=hB.fin zo rfl
        obtain ⟨_,hDn⟩:=hS.wrong hv hV0 (Nat.succ_pos j) rfl hg hT hBk
        simp only [BB] at hok
        refine gU rfl (cY (rm rfl (rm rfl (rm rfl (ro rfl (dV (Ht rfl) (Ht rfl) z6) (ro rfl (gJ U_56 Z_218 (Ht rfl) (Ht rfl) rfl zo (by rw [Nat.mul_one,Nat.zero_add])) ?_))))))
        refine ro rfl (fQ A_218 Z_218 (Ht rfl) (i:=0) rfl (dY (aH zo))) (rm rfl (ro rfl (gG U_263 U_218 (Ht rfl) (by show _ < 4294967296; first | omega | (simp only [kP]; omega))) (ro rfl (Ji rfl (Ht rfl) (Ht rfl)) (ro rfl (gJ U_56 Z_218 (Ht rfl) (Ht rfl) rfl zo (by rw [Nat.mul_one,Nat.zero_add])) ?_))))
        refine kE Z_218 (Ht rfl) (Ht rfl) (i:=0) rfl (by first | omega | (simp; omega)) rfl (eX (aP (_,g - 1) ⟨hDn,by dsimp only; omega,by simp; omega⟩ (zS rfl) (aU (aB (fL _ _ _)) (aU (fun _ _ _ h=>h) aY))))
      ·have hbb : b = false := hbb
       subst hbb
       have hol:=hT.len
       refine cU (aP (out,g) ⟨hS.right hv hV0 (Nat.succ_pos j) rfl hg hT,hglt,by dsimp only; omega⟩ (zS rfl) (cT.refl _))
     ·refine cY (rm rfl (rm rfl (rm rfl (ro rfl (gG U_263 U_218 (Ht rfl) (by show _ < 4294967296; first | omega | (simp only [kP]; omega))) (ro rfl (gJ U_56 Z_218 (Ht rfl) (Ht rfl) rfl zo (by rw [Nat.mul_one, Nat.zero_add])) ?_)))))
      refine kE Z_218 (Ht rfl) (Ht rfl) (i:=1) rfl (by first | omega | (simp; omega)) rfl (eX (bI (cY (rm rfl (ro rfl (gI (Ht rfl) cV (tB zo)) (ra rfl (eX (gZ (j,us2,_) ⟨hD,hus2⟩ (by dsimp only; omega) (zS rfl) (aU (fun _ _ _ h=>h) (aU (aB (fL _ _ _)) aY))))))))))
   ·simp at hk
    have hk0:k = 0:=by omega
    subst hk0
    have hfin:=hS.fin hV0
    have hlq:=hS.lenq
    rw [hvv] at hfin
    have hdiv:val qs = m / n:=by rw [hfin.1]; exact Nat.mul_div_mul_right _ _ hp2
    have hsm:val us < BB ^ vs.length:=by have h1:=hS.small; rw [List.drop_zero] at h1; exact Nat.lt_trans h1 (iH hv)
    have hmod : val (us.take vs.length) / 2 ^ s = m % n := by
     rw [mP hsm zo,hfin.2,Nat.mul_mod_mul_right,Nat.mul_div_cancel _ hp2]
    have hru : (dg (val (us.take vs.length))).length ≤ 17592186044416 := by
     refine Nat.le_trans (jA (k:=vs.length) ?_) zo
     rw [mP hsm zo]; exact hsm
    refine gU rfl (gK (i:=1) (tt:=12) rfl rfl (lK rfl zo (Nat.le_refl _)) (gK (i:=0) (tt:=11) rfl rfl (lK rfl zo (Nat.le_refl _)) (cK (fW (m:=7) (dp 12 rfl (cX (Ht rfl)) (dq 193 0 rfl (cZ K_237 (oV _ hS.digq zo) ⟨(Ht rfl),trivial⟩) (dp 11 rfl (cX (Ht rfl)) (dp 8 rfl (cX (Ht rfl)) (dP 195 2 196 3 rfl (aE.imp (oO U_56 Z_218 (Ht rfl) (Ht rfl) (fun m e=>by cases e) zo (by simp; omega) rfl) (Ip _ _)) ?_)))))))))
    refine dq 197 4 rfl (cZ K_237 (oV _ (hS.dig.take' vs.length) (by simp; omega)) ⟨(Ht rfl),trivial⟩) ?_
    refine dp 9 rfl (cX (Ht rfl)) (fK bC rfl (by kernel_rfl) (zF (aJ (aJ (aJ (aV (ro rfl (cZ Tryz.call268 (a0o hru zo) ⟨(Ht rfl),(Ht rfl),trivial⟩) (ra rfl (ra rfl (eX (bN rfl (fV (eY rfl) ?_) (fV (eY rfl) ?_))))))))))))
    ·exact (cL hdiv)
    ·exact (cL hmod)
end
section
open Go Go.RowKit
theorem Ov:Tryz.prog.info? 5 = some Tryz.t5:=by kernel_rfl
theorem wJ:Tryz.prog.underlying 296 = some (.slice 5):=by kernel_rfl
theorem Wz:Tryz.prog.underlying 5 = some (.int .u8):=by kernel_rfl
theorem Xa:Tryz.prog.underlying 9 = some (.string):=by kernel_rfl
end
section
open Go Go.RowKit
theorem Wh {m n:Nat} (hm:(dg m).length ≤ 17592186044415) (hn:(dg n).length ≤ 17592186044415):bB Tryz.prog 231 [aL m,aL n] (aL (Nat.gcd m n)):=by
 refine bB.intro Tryz.func231 rfl Tryz.ntmps231 rfl (fun cx=>(ts (ro rfl (cQ cV) (eX (cK (eK ?_))))))
 refine gR (fun (x : Nat) (y : Nat) => Nat.gcd x y = Nat.gcd m n ∧ (dg x).length ≤ 17592186044415 ∧ (dg y).length ≤ 17592186044415) (fun (x : Nat) (y : Nat) => y) (fun (x : Nat) (y : Nat) => [(0, aL x), (1, aL y)]) (fun (x : Nat) (y : Nat) => []) m n ⟨rfl, hm, hn⟩
  (zS rfl) aY (fun x y ⟨hg,hx,hy⟩=>?_)
 refine cK (ts (rm rfl (ro rfl (dG U_56 (Ht rfl) aA) (ro rfl (eO (Ht rfl) (cJ 0)) (eX (dQ (Ht rfl) (fun hb=>?_) (fun hb=>?_)))))))
 ·simp at hb
  have hy0:y ≠ 0:=fun e=>by rw [e,dD] at hb; simp at hb
  have hlt:=Nat.mod_lt x (Nat.pos_of_ne_zero hy0)
  refine cU (eK (ts (rm rfl (rm rfl (ro rfl (cZ Tryz.call233 (Ia hx zo hy0) ⟨(Ht rfl),(Ht rfl),trivial⟩) (rm rfl (ro rfl (dK (Ht rfl) rfl) (ro rfl (dK (Ht rfl) rfl) (ra rfl (ra rfl (eX (cY (rm rfl (rm rfl (ra rfl (ra rfl (eX (bI (gZ (y,x % y) ⟨by rw [← hg,Nat.gcd_comm x y,Nat.gcd_rec y x,Nat.gcd_comm],hy,Nat.le_trans (iA (Nat.le_of_lt hlt)) hy⟩ hlt (zS rfl) aY)))))))))))))))))))
 ·simp at hb
  have hy0:y = 0:=aI.1 (by simpa using hb)
  subst hy0
  rw [Nat.gcd_zero_right] at hg
  refine gU rfl (ts (rm rfl (ra rfl (eX (fU rfl (fV (eY rfl) ?_))))))
  exact (cL hg)
theorem a0n {l:List Nat} {v:Value} (hl:l.length ≤ 1152921504606846976):gP Tryz.prog 280 [Is v] [bE 5 1 v (l.map uE)] Unit (fun _=>nK) (fun _=>[bE 5 1 v (l.reverse.map uE)]) (fun _=>True):=by
 refine gP.intro Tryz.func280 rfl Tryz.ntmps280 rfl (fun cx Z=>(ts (rm rfl (ro rfl (kL U_296 (Ht rfl) (i:=1) rfl aA) (ro rfl (gI (Ht rfl) cV (tB zo)) (ro rfl (cQ (cJ 0)) (ra rfl (eX (eK ?_)))))))))
 refine gR (fun (k : Nat) (o : List Nat) => wQ l o k) (fun (k : Nat) (o : List Nat) => l.length - k) (fun (k : Nat) (o : List Nat) => [(0, Is v), (2, NT .i64 k), (3, aF .i64 ((l.length : Int) - 1 - (k : Int)))]) (fun (k : Nat) (o : List Nat) => [Z, bE 5 1 v (o.map uE)]) 0 l (wQ.start l)
  (aQ rfl (aQ rfl (aZ rfl (aT zo) aX))) (cT.refl _) (fun k o hS=>?_)
 refine cK (ts (rm rfl (rm rfl (ro rfl (pG (Ht rfl) (Ht rfl)) (eX (dQ (Ht rfl) (fun hb=>?_) (fun hb=>?_)))))))
 ·simp only [decide_eq_true_eq] at hb
  have hk:2 * k + 1 < l.length:=by omega
  obtain ⟨j,hj⟩:∃ j,j = l.length - 1 - k:=⟨_,rfl⟩
  have hlen:=hS.len
  refine wT (E':=[(0,_),(2,_),(3,_),(7,_),(8,_),(9,_)]) (aQ rfl (aQ rfl (aZ rfl (aT (show (l.length:Int) - 1 - (k:Int) = (j:Int) by omega)) (zS rfl)))) (cU (cK (eK (W.D_start (m:=14) (fun b=>cond b ([Z,bE 5 1 v ((o.map uE).set k (uE (o.getD j 0)))]) _) 13 (W.D_step (Ei:=[(0,_)]) rfl rfl (W.Srcs.cons (W.Src.pre rfl rfl) W.Srcs.nil) rfl (by kernel_rfl) (dX rfl (cX (Ht rfl))) (W.D_step (Ei:=[(2,_)]) rfl rfl (W.Srcs.cons (W.Src.pre rfl rfl) W.Srcs.nil) rfl (by kernel_rfl) (dX rfl (cX (Ht rfl))) ?_))))))
  refine W.D_pure (Ei:=[(0,_)]) rfl rfl (W.Srcs.cons (W.Src.pre rfl rfl) W.Srcs.nil) rfl (fun _=>dX rfl (cX (Ht rfl))) (W.D_pure (Ei:=[(3,_)]) rfl rfl (W.Srcs.cons (W.Src.pre rfl rfl) W.Srcs.nil) rfl (fun _=>dX rfl (cX (Ht rfl))) (W.D_step (Ei:=[(0,_)]) rfl rfl (W.Srcs.cons (W.Src.pre rfl rfl) W.Srcs.nil) rfl (by kernel_rfl) (dX rfl (cX (Ht rfl))) (W.D_step (Ei:=[(3,_)]) rfl rfl (W.Srcs.cons (W.Src.pre rfl rfl) W.Srcs.nil) rfl (by kernel_rfl) (dX rfl (cX (Ht rfl))) (W.D_step (Ei:=[(18,_),(19,_)]) rfl rfl (W.Srcs.cons (W.Src.op 4 rfl rfl) (W.Srcs.cons (W.Src.op 5 rfl rfl) W.Srcs.nil)) rfl (by kernel_rfl) (dX rfl (cC U_296 Z_5 (Ht rfl) (Ht rfl) rfl (i:=1) rfl (by first | omega | (simp; omega)) rfl)) ?_))))
  refine W.D_step (Ei:=[(20,_)]) rfl rfl (W.Srcs.cons (W.Src.op 6 rfl rfl) W.Srcs.nil) rfl (by kernel_rfl) (dX rfl (nD A_5 Z_5 (Ht rfl) (i:=1) rfl rfl (dY (aH zo)))) (W.D_step (Ei:=[(0,_)]) rfl rfl (W.Srcs.cons (W.Src.pre rfl rfl) W.Srcs.nil) rfl (by kernel_rfl) (dX rfl (cX (Ht rfl))) (W.D_step (Ei:=[(2,_)]) rfl rfl (W.Srcs.cons (W.Src.pre rfl rfl) W.Srcs.nil) rfl (by kernel_rfl) (dX rfl (cX (Ht rfl))) (W.D_step (Ei:=[(22,_),(23,_)]) rfl rfl (W.Srcs.cons (W.Src.op 8 rfl rfl) (W.Srcs.cons (W.Src.op 9 rfl rfl) W.Srcs.nil)) rfl (by kernel_rfl) (dX rfl (cC U_296 Z_5 (Ht rfl) (Ht rfl) rfl (i:=1) rfl (by first | omega | (simp; omega)) rfl)) ?_)))
  refine W.D_step (Ei:=[(24,_)]) rfl rfl (W.Srcs.cons (W.Src.op 10 rfl rfl) W.Srcs.nil) rfl (by kernel_rfl) (dX rfl (nD A_5 Z_5 (Ht rfl) (i:=1) rfl rfl (dY (aH zo)))) (W.D_step (Ei:=[(14,_),(15,_)]) rfl rfl (W.Srcs.cons (W.Src.op 0 rfl rfl) (W.Srcs.cons (W.Src.op 1 rfl rfl) W.Srcs.nil)) rfl (by kernel_rfl) (dX rfl (cC U_296 Z_5 (Ht rfl) (Ht rfl) rfl (i:=1) rfl (by first | omega | (simp; omega)) rfl)) (W.D_put (Ei:=[(26,_),(21,_)]) rfl rfl (W.Srcs.cons (W.Src.op 12 rfl rfl) (W.Srcs.cons (W.Src.op 7 rfl rfl) W.Srcs.nil)) rfl (Cm Z_5 (Ht rfl) (Ht rfl) El.one (i:=1) rfl rfl (by first | omega | (simp; omega))) ?_))
  refine W.D_done bC rfl (by kernel_rfl) rfl (W.F_val (W.F_val (W.F_val (W.F_val (W.F_val (W.F_val (W.F_val (W.F_val (W.F_val (W.F_val (W.F_val (W.F_val (W.F_val (W.F_put (W.F_nil (ro rfl (cC U_296 Z_5 (Ht rfl) (Ht rfl) rfl (i:=1) rfl (by first | omega | (simp; omega)) rfl) (jY Z_5 (Ht rfl) (Ht rfl) El.one (i:=1) rfl rfl (by first | omega | (simp; omega)) rfl (eX (bI (cY (rm rfl (ro rfl (dV (Ht rfl) (cJ 1) z6) (rm rfl (ro rfl (gI (Ht rfl) cV (tB zo)) ?_))))))))))))))))))))))))
  refine ra rfl (ra rfl (eX (gZ (k + 1,_) (hS.next hk hj) (by dsimp only; omega) (aQ rfl (aQ rfl (aZ rfl (aT zo) aX))) (aU (fun _ _ _ h=>h) (aU (bA (Jv _ _ _ _ _)) aY)))))
 ·simp only [decide_eq_false_iff_not] at hb
  have hfin:=hS.fin (by have:=hS.kle; omega)
  refine gU rfl ?_
  exact Xk () trivial [0,1] ⟨⟨_,rfl,fun _ _ _ h=>h⟩,⟨_,rfl,(bA (by rw [hfin]))⟩,trivial⟩ (by decide) (a0T rfl (fun _=>trivial))
theorem Ct {m:Nat} (hm:(dg m).length ≤ 8796093022208):bB Tryz.prog 260 [aL m] (oC (rI m)):=by
 refine bB.intro Tryz.func260 rfl Tryz.ntmps260 rfl (fun cx=>(ts (ro rfl (cQ (aR.cS (l:=[]) rfl)) (eX (cK (ts (rm rfl (ro rfl (dG U_56 (Ht rfl) aA) (ro rfl (cB (Ht rfl) (cJ 0)) (eX (dQ (Ht rfl) (fun hb=>?_) (fun hb=>?_))))))))))))
 ·simp at hb
  have h0:m = 0:=aI.1 (by simpa using hb)
  subst h0
  refine ts (ro rfl (cQ (aR.cS (l:=[48]) rfl)) (eX (fU rfl (fV (eY rfl) ?_))))
  exact (iR rfl)
 ·simp at hb
  have h0:m ≠ 0:=fun e=>hb (by rw [e,dD])
  refine cU (ts (ro rfl (cQ cV) (eX (cK (eK (uD 5 1 ?_))))))
  refine jS (fun (x : Nat) (out : List Nat) (v : Value) => wO m out x ∧ x ≤ m) (fun (x : Nat) (out : List Nat) (v : Value) => x) (fun (x : Nat) (out : List Nat) (v : Value) => [(0, aL x), (3, Is v)]) (fun (x : Nat) (out : List Nat) (v : Value) => [bE 5 1 v (out.map uE)]) m [] (.slice none 0 0) ⟨wO.start m, Nat.le_refl m⟩
   (zS rfl) (cT.refl _) (fun x out v ⟨hO,hle⟩=>?_)
  refine cK (ts (rm rfl (ro rfl (dG U_56 (Ht rfl) aA) (ro rfl (eO (Ht rfl) (cJ 0)) (eX (dQ (Ht rfl) (fun hc=>?_) (fun hc=>?_)))))))
  ·simp at hc
   have hx0:x ≠ 0:=fun e=>by rw [e,dD] at hc; simp at hc
   have hxm:=iA hle
   refine cU (eK (ts (ro rfl (cQ (cJ 0)) (eX (ts (rm rfl (ro rfl (cZ Tryz.call264 (Ij zo (by decide) (by decide)) ⟨(Ht rfl),(cJ 1000000000),trivial⟩) (rm rfl (ro rfl (dK (Ht rfl) rfl) (ro rfl (dK (Ht rfl) rfl) (ra rfl (ra rfl (eX (ts (ro rfl (cQ (cJ 0)) (eX (eK ?_)))))))))))))))))
   refine sA (fun (r : Nat) (k : Nat) (out : List Nat) (v : Value) => uR m out (x / 1000000000) r k) (fun (r : Nat) (k : Nat) (out : List Nat) (v : Value) => 9 - k) (fun (r : Nat) (k : Nat) (out : List Nat) (v : Value) => [(0, aL (x / 1000000000)), (3, Is v), (4, bM r), (5, NT .i64 k)]) (fun (r : Nat) (k : Nat) (out : List Nat) (v : Value) => [bE 5 1 v (out.map uE)]) (x % 1000000000) 0 out v (hO.inner)
    (zS rfl) (cT.refl _) (fun r k out v hI=>?_)
   refine cK (ts (rm rfl (ro rfl (gW (Ht rfl) (cJ 9)) (rm rfl (fJ rfl rfl (iZ rfl rfl (Ht rfl) (fun h=>cX (Ht rfl))) (fJ rfl rfl (iZ rfl rfl (Ht rfl) (fun h=>dG U_56 (aR.wu rfl h) aA)) (fJ rfl rfl (iZ rfl rfl (Ht rfl) (fun h=>eO (aR.wu rfl h) (cJ 0))) (fJ rfl rfl (iZ rfl rfl (Ht rfl) (fun h=>cX (aR.wu rfl h))) (fJ rfl rfl (jR rfl rfl rfl (fun h h2=>cX (Ht rfl))) (fJ rfl rfl (jR rfl rfl rfl (fun h h2=>eO (aR.wu rfl ⟨h,h2⟩) (cJ 0))) (fJ rfl rfl (iZ rfl rfl (Ht rfl) (fun h=>kH (aR.wu rfl h) (fun h2=>(aR.wu rfl ⟨h,h2⟩)))) ?_)))))))))))
   refine ro rfl (eC (Ht rfl) (fun h=>(aR.wu rfl h))) (eX (dQ (Ht rfl) (fun hd=>?_) (fun hd=>?_)))
   ·simp at hd
    have hxr:0 < x / 1000000000 ∨ 0 < r:=hd.2.imp (fun h=>Nat.pos_of_ne_zero (fun e=>by rw [e,dD] at h; simp at h)) id
    have hln:=hI.len hxr
    have hr32:=hI.r32
    refine cU (cK (eK (ts (rm rfl (rm rfl (ro rfl (jW (Ht rfl) (cJ 10) zo) (ro rfl (dV (cJ 48) (Ht rfl) (by show _ < 4294967296; first | omega | (simp only [kP]; omega))) (ro rfl (gG U_218 U_5 (Ht rfl) (by show _ < 256; first | omega | (simp only [kP]; omega))) (ro rfl (eM (xs:=[.tmp 34]) U_296 Z_5 Tryz.zeroValue5 (cW (Ht rfl) cG) rfl rfl rfl) (rZ (inf:=Tryz.t5) wJ Ov rfl rfl rfl (Ht rfl) (Ht rfl) (i:=0) rfl (by simp) (fun T hT=>by simp at hT; subst hT; exact El.one) (by show _ * 1 ≤ _; simp only [List.length_map,List.length_cons,List.length_nil]; omega) (by simp only [List.length_map,List.length_cons,List.length_nil]; omega) rfl (fun v2=>?_)))))))))))
    refine ra rfl (eX (cY (rm rfl (ro rfl (iP (Ht rfl) (cJ 10) zo (by show _ < 4294967296; first | omega | (simp only [kP]; omega))) (ra rfl (eX (bI (cY (rm rfl (ro rfl (dV (Ht rfl) (cJ 1) z6) (ra rfl (eX (gZ (r / 10,k + 1,_,v2) (hI.next hd.1 hxr) (by dsimp only; omega) (zS rfl) (aU (bA (Ra _ _)) aY))))))))))))))
   ·simp at hd
    have hO2 := hI.fin (fun ⟨h1, h2⟩ => by
     have h3:=hd h1
     rcases h2 with h2 | h2
     ·have:=oG.1 h3.1; omega
     ·omega)
    refine gU rfl (bI (gZ (x / 1000000000,_,_) ⟨hO2,Nat.le_trans (Nat.div_le_self _ _) hle⟩ (Nat.div_lt_self (Nat.pos_of_ne_zero hx0) (by decide)) (zS rfl) (cT.refl _)))
  ·simp at hc
   have hx0:x = 0:=aI.1 (by simpa using hc)
   subst hx0
   have hfin:=hO.fin
   have hdl:=nO m
   rw [hfin] at hdl
   refine gU rfl (ts (rm rfl (Aj Tryz.call280 (a0n zo) (i:=0) rfl ⟨(Ht rfl),trivial⟩ rfl (fun _ _=>(eX (cK (gK (i:=0) (tt:=3) rfl rfl eN (cY (rm rfl (ro rfl (Eg wJ Wz Xa (Ht rfl) (by rw [← hfin]; simpa using Io h0) (fun b hb=>Nr (n:=m) b (by rw [qS h0,hfin]; exact hb))) ?_))))))))))
   refine ra rfl (eX (fU rfl (fV (eY rfl) ?_)))
   exact (iR (by rw [qS h0,hfin]))
end
section
open Go Go.RowKit
theorem rP {n : Nat} {E : bT} {H : Hp} {d : Option Tmp} {t : TypeId} {pos : String} {af : Array Edge} {g : Option (Nat × Bool)} {x0 x1 : Operand} {T0 T1 : Ty} [s0 : cP T0 1 false] (h0 : aR E x0 T0) [s1 : cP T1 1 false] (h1 : aR E x1 T1) :
  aE Tryz.prog n E H ⟨d,.build 58 #[(0,x0),(1,x1)],t,pos,af,g⟩ (dR [T0,T1]) :=
 gO (parts := [(0, x0), (1, x1)]) fun a V w hs => by
  have p0:=h0 n V a hs
  generalize e0:a.eval x0 = v0 at p0
  have q0:=(s0.ok v0 V p0).2.2 rfl
  have p1:=h1 n V a hs
  generalize e1:a.eval x1 = v1 at p1
  have q1:=(s1.ok v1 V p1).2.2 rfl
  refine ⟨.agg #[v0,v1],?_,[v0,v1],rfl,aW (⟨p0,q0⟩) (aW (⟨p1,q1⟩) (aG))⟩
  simp [e0,e1,Instr.build,Instr.fill,Sem.run_bind,Result.andThen,fD,q0.cells,q1.cells,O_58,U_58,Z_4,Z_56]
theorem jT (a:Addr) (w:World):(Instr.fieldAt 58 (.pointer (some a)) 0).run Tryz.prog w = .ok (.pointer (some (a.add 0))) w:=by
 simp [Instr.fieldAt,Instr.sureAddr,fieldPlace,Sem.run_bind,Result.andThen,U_58,Z_4]
theorem eA (a:Addr) (w:World):(Instr.fieldAt 58 (.pointer (some a)) 1).run Tryz.prog w = .ok (.pointer (some (a.add 1))) w:=by
 simp [Instr.fieldAt,Instr.sureAddr,fieldPlace,Sem.run_bind,Result.andThen,U_58,Z_56]
end
section
open Go Go.RowKit
theorem Ax {n:Int} (h1:-9223372036854775808 ≤ n) (h2:n ≤ 9223372036854775807):bB Tryz.prog 157 [aF .i64 n] (fH n):=by
 refine bB.intro Tryz.func157 rfl Tryz.ntmps157 rfl (fun cx=>(ts (rn rfl (eG (Ts:=[Is (.bool false),Is (.slice none 0 0)]) O_58 rfl (fun V=>aW zd (aW zd (aG)))) fun B2=>(eX (cK (ts (rm rfl (ro rfl (pG (Ht rfl) cV) (eX (dQ (Ht rfl) (fun hb=>?_) (fun hb=>?_)))))))))))
 ·have hn : n < 0 := by simpa using hb
  refine ts (rm rfl (ro rfl (qZ U_2 U_263 (Ht rfl) (r:=((18446744073709551616 - n.natAbs:Nat):Int)) (by rw [IntKind.wrap_u64]; omega)) ?_))
  refine ro rfl (Bt (Ht rfl) (r:=((n.natAbs:Nat):Int)) (by rw [IntKind.wrap_u64]; omega)) ?_
  refine ro rfl (cZ Tryz.call238 (Aw zo) ⟨(Ht rfl),trivial⟩) (ro rfl (rP cV (Ht rfl)) (gV Z_58 (Ht rfl) (Ht rfl) rfl (i:=0) rfl (aK rfl) rfl rfl (eX (fU rfl (fV (gX A_58 Z_58 rfl (i:=0) rfl rfl) ?_)))))
  exact (oT (by rw [hb]; rfl))
 ·have hn : ¬ n < 0 := by simpa using hb
  refine cU (ts (rm rfl (ro rfl (qZ U_2 U_263 (Ht rfl) (r:=((n.natAbs:Nat):Int)) (by rw [IntKind.wrap_u64]; omega)) ?_)))
  refine ro rfl (cZ Tryz.call238 (Aw zo) ⟨(Ht rfl),trivial⟩) (ro rfl (rP cV (Ht rfl)) (gV Z_58 (Ht rfl) (Ht rfl) rfl (i:=0) rfl (aK rfl) rfl rfl (eX (fU rfl (fV (gX A_58 Z_58 rfl (i:=0) rfl rfl) ?_)))))
  exact (oT (by rw [hb]; rfl))
theorem mQ {b:Bool} {m:Nat}:bB Tryz.prog 234 [aC b,aL m] (fH (uO b m)):=by
 refine bB.intro Tryz.func234 rfl Tryz.ntmps234 rfl (fun cx=>(ts (rn rfl (eG (Ts:=[Is (.bool false),Is (.slice none 0 0)]) O_58 rfl (fun V=>aW zd (aW zd (aG)))) fun B4=>(eX (ts (rm rfl (rm rfl (fJ rfl rfl (eU rfl rfl (Ht rfl) (fun h=>cX (Ht rfl))) (fJ rfl rfl (eU rfl rfl (Ht rfl) (fun h=>dG U_56 (fG rfl h) aA)) (fJ rfl rfl (eU rfl rfl (Ht rfl) (fun h=>eO (fG rfl h) (cJ 0))) (ro rfl (eC (Ht rfl) (fun h=>(fG rfl h))) (rm rfl ?_))))))))))))
 refine ro rfl (rP (Ht rfl) (Ht rfl)) (gV Z_58 (Ht rfl) (Ht rfl) rfl (i:=0) rfl (aK rfl) rfl rfl (eX (fU rfl (fV (gX A_58 Z_58 rfl (i:=0) rfl rfl) ?_))))
 exact Qf
theorem oU {x:Int}:bB Tryz.prog 167 [fH x] (fH (-x)):=by
 refine bB.intro Tryz.func167 rfl Tryz.ntmps167 rfl (fun cx=>(ts (rn rfl (gQ (Ht rfl)) fun B1=>(rn rfl (eG (Ts:=[Is (.bool false),Is (.slice none 0 0)]) O_58 rfl (fun V=>aW zd (aW zd (aG)))) fun B2=>(eX (ts (ro rfl (eJ jT (Ht rfl) rfl) (ro rfl (fQ A_4 Z_4 (Ht rfl) (i:=0) rfl rfl) (ro rfl (fO (Ht rfl)) (ro rfl (eJ eA (Ht rfl) rfl) (ro rfl (fQ A_56 Z_56 (Ht rfl) (i:=0) rfl rfl) (ro rfl (cZ K_234 mQ ⟨(Ht rfl),(Ht rfl),trivial⟩) ?_))))))))))))
 refine gV Z_58 (Ht rfl) (Ht rfl) rfl (i:=1) rfl (aK rfl) rfl rfl (eX (fU rfl (fV (gX A_58 Z_58 rfl (i:=1) rfl rfl) ?_)))
 exact (nJ (Ac x))
theorem tI {x y:Int} (hx:(dg x.natAbs).length ≤ 17592186044416) (hy:(dg y.natAbs).length ≤ 17592186044416):bB Tryz.prog 152 [fH x,fH y] (fH (x + y)):=by
 refine bB.intro Tryz.func152 rfl Tryz.ntmps152 rfl (fun cx=>(ts (rn rfl (gQ (Ht rfl)) fun B2=>(rn rfl (gQ (Ht rfl)) fun B3=>(rn rfl (eG (Ts:=[Is (.bool false),Is (.slice none 0 0)]) O_58 rfl (fun V=>aW zd (aW zd (aG)))) fun B4=>(eX (cK (ts (ro rfl (eJ jT (Ht rfl) rfl) (ro rfl (fQ A_4 Z_4 (Ht rfl) (i:=0) rfl rfl) (ro rfl (eJ jT (Ht rfl) rfl) (ro rfl (fQ A_4 Z_4 (Ht rfl) (i:=1) rfl rfl) (ro rfl (Zb Tryz.runUnderlying4 (Ht rfl) (Ht rfl)) ?_)))))))))))))
 refine eX (dQ (Ht rfl) (fun hb=>?_) (fun hb=>?_))
 ·have he : decide (x < 0) = decide (y < 0) := by simpa using hb
  refine cK (fW (m:=7) (dp 2 rfl (eJ jT (Ht rfl) rfl) (dq 10 0 rfl (fQ A_4 Z_4 (Ht rfl) (i:=0) rfl rfl) (dp 2 rfl (eJ eA (Ht rfl) rfl) (dq 12 2 rfl (fQ A_56 Z_56 (Ht rfl) (i:=0) rfl rfl) (dp 3 rfl (eJ eA (Ht rfl) rfl) (dq 14 4 rfl (fQ A_56 Z_56 (Ht rfl) (i:=1) rfl rfl) (dP 13 3 15 5 rfl (cZ Tryz.call235 (a0j zo zo) ⟨(Ht rfl),(Ht rfl),trivial⟩) (fK bC rfl (by kernel_rfl) (zF (aJ (aJ (aJ (aV ?_))))))))))))))
  refine ro rfl (cZ K_234 mQ ⟨(Ht rfl),(Ht rfl),trivial⟩) (gV Z_58 (Ht rfl) (Ht rfl) rfl (i:=2) rfl (aK rfl) rfl rfl (eX (fU rfl (fV (gX A_58 Z_58 rfl (i:=2) rfl rfl) ?_))))
  exact (nJ (Qg he))
 ·have he : decide (x < 0) ≠ decide (y < 0) := by simpa using hb
  refine cU (cK (ts (ro rfl (eJ eA (Ht rfl) rfl) (ro rfl (fQ A_56 Z_56 (Ht rfl) (i:=0) rfl rfl) (ro rfl (eJ eA (Ht rfl) rfl) (ro rfl (fQ A_56 Z_56 (Ht rfl) (i:=1) rfl rfl) (ro rfl (cZ Tryz.call199 (Nk zo zo) ⟨(Ht rfl),(Ht rfl),trivial⟩) (ro rfl (lB (Ht rfl) cV) (eX (dQ (Ht rfl) (fun hc=>?_) (fun hc=>?_)))))))))))
  ·have hle : y.natAbs ≤ x.natAbs := Ik (by simpa using hc)
   refine cK (fW (m:=7) (dp 2 rfl (eJ jT (Ht rfl) rfl) (dq 24 0 rfl (fQ A_4 Z_4 (Ht rfl) (i:=0) rfl rfl) (dp 2 rfl (eJ eA (Ht rfl) rfl) (dq 26 2 rfl (fQ A_56 Z_56 (Ht rfl) (i:=0) rfl rfl) (dp 3 rfl (eJ eA (Ht rfl) rfl) (dq 28 4 rfl (fQ A_56 Z_56 (Ht rfl) (i:=1) rfl rfl) (dP 27 3 29 5 rfl (cZ Tryz.call236 (Wk zo zo) ⟨(Ht rfl),(Ht rfl),trivial⟩) (fK bC rfl (by kernel_rfl) (zF (aJ (aJ (aJ (aV ?_))))))))))))))
   refine ro rfl (cZ K_234 mQ ⟨(Ht rfl),(Ht rfl),trivial⟩) (gV Z_58 (Ht rfl) (Ht rfl) rfl (i:=2) rfl (aK rfl) rfl rfl (eX (fU rfl (fV (gX A_58 Z_58 rfl (i:=2) rfl rfl) ?_))))
   exact (nJ (Ev he hle))
  ·have hle : x.natAbs ≤ y.natAbs := Nat.le_of_lt (Il (by simpa using hc))
   refine cU (cK (fW (m:=7) (dp 3 rfl (eJ jT (Ht rfl) rfl) (dq 32 0 rfl (fQ A_4 Z_4 (Ht rfl) (i:=1) rfl rfl) (dp 3 rfl (eJ eA (Ht rfl) rfl) (dq 34 2 rfl (fQ A_56 Z_56 (Ht rfl) (i:=1) rfl rfl) (dp 2 rfl (eJ eA (Ht rfl) rfl) (dq 36 4 rfl (fQ A_56 Z_56 (Ht rfl) (i:=0) rfl rfl) (dP 35 3 37 5 rfl (cZ Tryz.call236 (Wk zo zo) ⟨(Ht rfl),(Ht rfl),trivial⟩) (fK bC rfl (by kernel_rfl) (zF (aJ (aJ (aJ (aV ?_)))))))))))))))
   refine ro rfl (cZ K_234 mQ ⟨(Ht rfl),(Ht rfl),trivial⟩) (gV Z_58 (Ht rfl) (Ht rfl) rfl (i:=2) rfl (aK rfl) rfl rfl (eX (fU rfl (fV (gX A_58 Z_58 rfl (i:=2) rfl rfl) ?_))))
   exact (nJ (by rw [Ev (Ne.symm he) hle,Int.add_comm]))
theorem qR {x y:Int} (hx:(dg x.natAbs).length ≤ 17592186044416) (hy:(dg y.natAbs).length ≤ 17592186044416):bB Tryz.prog 151 [fH x,fH y] (fH (x * y)):=by
 refine bB.intro Tryz.func151 rfl Tryz.ntmps151 rfl (fun cx=>(ts (rn rfl (gQ (Ht rfl)) fun B2=>(rn rfl (gQ (Ht rfl)) fun B3=>(rn rfl (eG (Ts:=[Is (.bool false),Is (.slice none 0 0)]) O_58 rfl (fun V=>aW zd (aW zd (aG)))) fun B4=>(eX (cK (fW (m:=10) (dp 2 rfl (eJ jT (Ht rfl) rfl) (dq 5 0 rfl (fQ A_4 Z_4 (Ht rfl) (i:=0) rfl rfl) (dp 3 rfl (eJ jT (Ht rfl) rfl) (dq 7 2 rfl (fQ A_4 Z_4 (Ht rfl) (i:=1) rfl rfl) (dP 6 1 8 3 rfl (Zc Tryz.runUnderlying4 (Ht rfl) (Ht rfl)) ?_)))))))))))))
 refine dp 2 rfl (eJ eA (Ht rfl) rfl) (dq 10 5 rfl (fQ A_56 Z_56 (Ht rfl) (i:=0) rfl rfl) (dp 3 rfl (eJ eA (Ht rfl) rfl) (dq 12 7 rfl (fQ A_56 Z_56 (Ht rfl) (i:=1) rfl rfl) (dP 11 6 13 8 rfl (cZ Tryz.call154 (Cv zo zo) ⟨(Ht rfl),(Ht rfl),trivial⟩) (fK bC rfl (by kernel_rfl) (zF (zF (aJ (aJ (aV (ro rfl (cZ K_234 mQ ⟨(Ht rfl),(Ht rfl),trivial⟩) (gV Z_58 (Ht rfl) (Ht rfl) rfl (i:=2) rfl (aK rfl) rfl rfl ?_))))))))))))
 refine eX (fU rfl (fV (gX A_58 Z_58 rfl (i:=2) rfl rfl) ?_))
 exact (nJ (Lr x y))
theorem kF {x:Int} {n:Nat} (hx:(dg x.natAbs).length ≤ 17592186044416) (hn:(dg n).length ≤ 17592186044416):bB Tryz.prog 155 [fH x,aL n] (fH (x * n)):=by
 refine bB.intro Tryz.func155 rfl Tryz.ntmps155 rfl (fun cx=>(ts (rn rfl (gQ (Ht rfl)) fun B2=>(rn rfl (eG (Ts:=[Is (.bool false),Is (.slice none 0 0)]) O_58 rfl (fun V=>aW zd (aW zd (aG)))) fun B4=>(eX (cK (fW (m:=6) (dp 2 rfl (eJ jT (Ht rfl) rfl) (dq 5 0 rfl (fQ A_4 Z_4 (Ht rfl) (i:=0) rfl rfl) (dp 2 rfl (eJ eA (Ht rfl) rfl) (dq 7 2 rfl (fQ A_56 Z_56 (Ht rfl) (i:=0) rfl rfl) (dp 1 rfl (cX (Ht rfl)) (dP 8 3 9 4 rfl (cZ Tryz.call154 (Cv zo zo) ⟨(Ht rfl),(Ht rfl),trivial⟩) ?_)))))))))))))
 refine fK bC rfl (by kernel_rfl) (zF (aJ (aJ (aV (ro rfl (cZ K_234 mQ ⟨(Ht rfl),(Ht rfl),trivial⟩) (gV Z_58 (Ht rfl) (Ht rfl) rfl (i:=1) rfl (aK rfl) rfl rfl (eX (fU rfl (fV (gX A_58 Z_58 rfl (i:=1) rfl rfl) ?_)))))))))
 exact (nJ (Hc x n))
theorem Ba {x y:Int} (hx:(dg x.natAbs).length ≤ 17592186044415) (hy:(dg y.natAbs).length ≤ 17592186044415):bB Tryz.prog 156 [fH x,fH y] (aF .i64 (mF x y)):=by
 have hny:=rR y
 have hs:=mR (x:=x) (y:=-y) hx zo
 refine bB.intro Tryz.func156 rfl Tryz.ntmps156 rfl (fun cx=>(ts (rn rfl (gQ (Ht rfl)) fun B2=>(rn rfl (gQ (Ht rfl)) fun B3=>(ro rfl (cQ (cJ 0)) (eX (cK (fW (m:=5) (dp 2 rfl (eW A_58 Z_58 (Ht rfl) (i:=0) rfl rfl rfl) (dp 3 rfl (eW A_58 Z_58 (Ht rfl) (i:=1) rfl rfl rfl) (dq 7 1 rfl (cZ K_167 oU ⟨(Ht rfl),trivial⟩) (dP 6 0 8 2 rfl (cZ K_152 (tI zo zo) ⟨(Ht rfl),(Ht rfl),trivial⟩) (C.D_new (Ei:=[]) rfl rfl rfl bW (eG (Ts:=[Is (.bool false),Is (.slice none 0 0)]) O_58 rfl (fun V=>aW zd (aW zd (aG)))) ?_)))))))))))))
 refine fK bC rfl (by kernel_rfl) (zF (C.F_new (fun B5=>aV (gV Z_58 (Ht rfl) (Ht rfl) rfl (i:=2) rfl (aK rfl) rfl rfl (eX (cK (ts (ro rfl (eJ jT (Ht rfl) rfl) (ro rfl (fQ A_4 Z_4 (Ht rfl) (i:=2) rfl rfl) (eX (dQ (Ht rfl) (fun hb=>?_) (fun hb=>?_))))))))))))
 ·have hn : x + -y < 0 := by simpa using hb
  refine ts (ro rfl (cQ cV) (eX (fU rfl (fV (eY rfl) ?_))))
  exact (aT (Sv hn))
 ·have hn : ¬ x + -y < 0 := by simpa using hb
  refine cU (ts (ro rfl (eJ eA (Ht rfl) rfl) (ro rfl (fQ A_56 Z_56 (Ht rfl) (i:=2) rfl rfl) (ro rfl (dG U_56 (Ht rfl) aA) (ro rfl (Jk (Ht rfl) (cJ 1)) (ra rfl (eX (fU rfl (fV (eY rfl) ?_)))))))))
  exact (aT (Su hn))
end
section
open Go Go.RowKit
theorem Mv {n : Nat} {E : bT} {H : Hp} {d : Option Tmp} {t : TypeId} {pos : String} {af : Array Edge} {g : Option (Nat × Bool)} {x0 : Operand} {T0 T1 : Ty} (h0 : aR E x0 (dR [T0, T1])) :
  aE Tryz.prog n E H ⟨d,.build 60 #[(0,x0)],t,pos,af,g⟩ (dR [T0,T1,Is (.bool false),Is (.slice none 0 0),Is (.slice none 0 0)]) :=
 gO (parts := [(0, x0)]) fun a V w hs => by
  obtain ⟨v0,e0,c0⟩:=h0 n V a hs
  obtain ⟨c0_0,c0_1,rfl⟩:∃ c0_0 c0_1,v0 = [c0_0,c0_1]:=Du (by simpa using c0.length)
  refine ⟨.agg #[c0_0,c0_1,(.bool false),(.slice none 0 0),(.slice none 0 0)],?_,[c0_0,c0_1,(.bool false),(.slice none 0 0),(.slice none 0 0)],rfl,aW (c0.at (i:=0) rfl rfl) (aW (c0.at (i:=1) rfl rfl) (aW (⟨rfl,trivial⟩) (aW (⟨rfl,trivial⟩) (aW (⟨rfl,trivial⟩) (aG)))))⟩
  simp [e0,Instr.build,Instr.fill,Sem.run_bind,Result.andThen,fD,O_60,U_60,Z_56,Z_58]
theorem sB {n : Nat} {E : bT} {H : Hp} {d : Option Tmp} {t : TypeId} {pos : String} {af : Array Edge} {g : Option (Nat × Bool)} {x0 x1 x2 : Operand} {T0 T1 T2 T3 T4 : Ty} (h0 : aR E x0 (dR [T0, T1])) (h1 : aR E x1 (dR [T2, T3])) [s2 : cP T4 1 false] (h2 : aR E x2 T4) :
  aE Tryz.prog n E H ⟨d,.build 60 #[(0,x0),(1,x1),(2,x2)],t,pos,af,g⟩ (dR [T0,T1,T2,T3,T4]) :=
 gO (parts := [(0, x0), (1, x1), (2, x2)]) fun a V w hs => by
  obtain ⟨v0,e0,c0⟩:=h0 n V a hs
  obtain ⟨c0_0,c0_1,rfl⟩:∃ c0_0 c0_1,v0 = [c0_0,c0_1]:=Du (by simpa using c0.length)
  obtain ⟨v1,e1,c1⟩:=h1 n V a hs
  obtain ⟨c1_0,c1_1,rfl⟩:∃ c1_0 c1_1,v1 = [c1_0,c1_1]:=Du (by simpa using c1.length)
  have p2:=h2 n V a hs
  generalize e2:a.eval x2 = v2 at p2
  have q2:=(s2.ok v2 V p2).2.2 rfl
  refine ⟨.agg #[c0_0,c0_1,c1_0,c1_1,v2],?_,[c0_0,c0_1,c1_0,c1_1,v2],rfl,aW (c0.at (i:=0) rfl rfl) (aW (c0.at (i:=1) rfl rfl) (aW (c1.at (i:=0) rfl rfl) (aW (c1.at (i:=1) rfl rfl) (aW (⟨p2,q2⟩) (aG)))))⟩
  simp [e0,e1,e2,Instr.build,Instr.fill,Sem.run_bind,Result.andThen,fD,q2.cells,O_60,U_60,Z_56,Z_58]
theorem gB (a:Addr) (w:World):(Instr.fieldAt 60 (.pointer (some a)) 0).run Tryz.prog w = .ok (.pointer (some (a.add 0))) w:=by
 simp [Instr.fieldAt,Instr.sureAddr,fieldPlace,Sem.run_bind,Result.andThen,U_60,Z_58]
theorem gS (a:Addr) (w:World):(Instr.fieldAt 60 (.pointer (some a)) 1).run Tryz.prog w = .ok (.pointer (some (a.add 2))) w:=by
 simp [Instr.fieldAt,Instr.sureAddr,fieldPlace,Sem.run_bind,Result.andThen,U_60,Z_58]
theorem oZ (a:Addr) (w:World):(Instr.fieldAt 60 (.pointer (some a)) 2).run Tryz.prog w = .ok (.pointer (some (a.add 4))) w:=by
 simp [Instr.fieldAt,Instr.sureAddr,fieldPlace,Sem.run_bind,Result.andThen,U_60,Z_56]
end
section
open Go Go.RowKit
theorem tH {A B:Int} {D:Nat} (hD:0 < D) (hA:(dg A.natAbs).length ≤ 17592186044415) (hB:(dg B.natAbs).length ≤ 17592186044415) (hD2:(dg D).length ≤ 17592186044415):bB Tryz.prog 150 [fH A,fH B,aL D] (aD (Qi.mk' A B D)):=by
 have hg1:=xH hA hB
 have hg2:=xH hg1 hD2
 have hgp:Nat.gcd (Nat.gcd A.natAbs B.natAbs) D ≠ 0:=fun e=>by have:=Nat.gcd_eq_zero_iff.1 e; omega
 refine bB.intro Tryz.func150 rfl Tryz.ntmps150 rfl (fun cx=>(ts (rn rfl (gQ (Ht rfl)) fun B3=>(rn rfl (gQ (Ht rfl)) fun B4=>(rn rfl (eG (Ts:=[Is (.bool false),Is (.slice none 0 0),Is (.bool false),Is (.slice none 0 0),Is (.slice none 0 0)]) O_60 rfl (fun V=>aW zd (aW zd (aW zd (aW zd (aW zd (aG))))))) fun B6=>(eX (ts (ro rfl (eJ eA (Ht rfl) rfl) (ro rfl (fQ A_56 Z_56 (Ht rfl) (i:=0) rfl rfl) ?_)))))))))
 refine ro rfl (eJ eA (Ht rfl) rfl) (ro rfl (fQ A_56 Z_56 (Ht rfl) (i:=1) rfl rfl) (ro rfl (cZ Tryz.call231 (Wh zo zo) ⟨(Ht rfl),(Ht rfl),trivial⟩) (rm rfl (ro rfl (cZ Tryz.call231 (Wh zo zo) ⟨(Ht rfl),(Ht rfl),trivial⟩) (ra rfl (eX (cK (iT (fun (uu:Unit)=>True) (fun (uu:Unit)=>[(2,aL (D / (Nat.gcd (Nat.gcd A.natAbs B.natAbs) D))),(3,cE B3 0),(4,cE B4 0),(6,cE B6 0)]) (fun (uu:Unit)=>[box B3 58 [aC (decide (A < 0)),aL (A.natAbs / (Nat.gcd (Nat.gcd A.natAbs B.natAbs) D))],box B4 58 [aC (decide (B < 0)),aL (B.natAbs / (Nat.gcd (Nat.gcd A.natAbs B.natAbs) D))],box B6 60 [Is (.bool false),Is (.slice none 0 0),Is (.bool false),Is (.slice none 0 0),Is (.slice none 0 0)]]) ?_ (fun uu _=>?_)))))))))
 ·refine ts (rm rfl (ro rfl (cZ Tryz.call232 Wi ⟨(Ht rfl), trivial⟩) (ro rfl (fO (Ht rfl)) (eX (dQ (Ht rfl) (fun hb => ?_) (fun hb => ?_))))))
  ·simp at hb
   refine ts (ro rfl (eJ eA (Ht rfl) rfl) (ro rfl (fQ A_56 Z_56 (Ht rfl) (i:=0) rfl rfl) (rm rfl (ro rfl (cZ Tryz.call233 (Ia zo zo zo) ⟨(Ht rfl),(Ht rfl),trivial⟩) (rm rfl (ro rfl (dK (Ht rfl) rfl) (ro rfl (dK (Ht rfl) rfl) (ro rfl (eJ eA (Ht rfl) rfl) (kE Z_56 (Ht rfl) (Ht rfl) (i:=0) rfl (aK rfl) rfl (eX (ts (ro rfl (eJ eA (Ht rfl) rfl) (ro rfl (fQ A_56 Z_56 (Ht rfl) (i:=1) rfl rfl) (rm rfl (ro rfl (cZ Tryz.call233 (Ia zo zo zo) ⟨(Ht rfl),(Ht rfl),trivial⟩) ?_)))))))))))))))
   refine rm rfl (ro rfl (dK (Ht rfl) rfl) (ro rfl (dK (Ht rfl) rfl) (ro rfl (eJ eA (Ht rfl) rfl) (kE Z_56 (Ht rfl) (Ht rfl) (i:=1) rfl (aK rfl) rfl (eX (cY (rm rfl (rm rfl (ro rfl (cZ Tryz.call233 (Ia zo zo zo) ⟨(Ht rfl),(Ht rfl),trivial⟩) (rm rfl (ro rfl (dK (Ht rfl) rfl) (ro rfl (dK (Ht rfl) rfl) (ra rfl (eX (aP () trivial (zS rfl) (aU (aB (by first | rfl | simp)) (aU (aB (by first | rfl | simp)) (aU (aB rfl) aY))))))))))))))))))
  ·simp at hb
   refine cU (aP () trivial (aZ rfl (cL (by rw [hb,Nat.div_one])) (zS rfl)) (aU (aB (by rw [hb,Nat.div_one])) (aU (aB (by rw [hb,Nat.div_one])) (aU (aB rfl) aY))))
 ·refine cK (iT (fun (uu : Unit) => True) (fun (uu : Unit) => [(2, aL (if D / (Nat.gcd (Nat.gcd A.natAbs B.natAbs) D) = 1 then 0 else D / (Nat.gcd (Nat.gcd A.natAbs B.natAbs) D))), (3, cE B3 0), (4, cE B4 0), (6, cE B6 0)]) (fun (uu : Unit) => [box B3 58 [aC (decide (A < 0)), aL (A.natAbs / (Nat.gcd (Nat.gcd A.natAbs B.natAbs) D))], box B4 58 [aC (decide (B < 0)), aL (B.natAbs / (Nat.gcd (Nat.gcd A.natAbs B.natAbs) D))], box B6 60 [Is (.bool false), Is (.slice none 0 0), Is (.bool false), Is (.slice none 0 0), Is (.slice none 0 0)]]) ?_ (fun uu _ => ?_))
  ·refine ts (rm rfl (ro rfl (cZ Tryz.call232 Wi ⟨(Ht rfl), trivial⟩) (eX (dQ (Ht rfl) (fun hb => ?_) (fun hb => ?_)))))
   ·simp only [decide_eq_true_eq] at hb
    refine cY (ro rfl (cQ cV) (eX (aP () trivial (aZ rfl (fun v V h=>cL (by rw [if_pos hb]) v V (jO v V h)) (zS rfl)) (cT.refl _))))
   ·simp only [decide_eq_false_iff_not] at hb
    refine cU (aP () trivial (aZ rfl (cL (by rw [if_neg hb])) (zS rfl)) (cT.refl _))
  ·refine ts (ro rfl (eW A_58 Z_58 (Ht rfl) (i := 0) rfl rfl rfl) (ro rfl (eW A_58 Z_58 (Ht rfl) (i := 1) rfl rfl rfl) (rm rfl (ro rfl (sB (Ht rfl) (Ht rfl) (Ht rfl)) (gV Z_60 (Ht rfl) (Ht rfl) rfl (i := 2) rfl (aK rfl) rfl rfl (eX (fU rfl (fV (gX A_60 Z_60 rfl (i := 2) rfl rfl) ?_))))))))
   exact (Uw hD)
theorem nN {x:Qi}:bB Tryz.prog 153 [aD x] (aL x.den):=by
 refine bB.intro Tryz.func153 rfl Tryz.ntmps153 rfl (fun cx=>(ts (rn rfl (gQ (Ht rfl)) fun B1=>(ro rfl (cQ cV) (eX (cK (ts (ro rfl (eJ oZ (Ht rfl) rfl) (ro rfl (fQ A_56 Z_56 (Ht rfl) (i:=0) rfl rfl) (ro rfl (dG U_56 (Ht rfl) aA) (ro rfl (cB (Ht rfl) (cJ 0)) (eX (dQ (Ht rfl) (fun hb=>?_) (fun hb=>?_))))))))))))))
 ·simp at hb
  have h1:x.den = 1:=vO (aI.1 (by simpa using hb))
  refine ts (ro rfl (eM (xs:=[_]) U_56 Z_218 O_218 (cW (cJ 1) cG) rfl rfl rfl) (ra rfl (eX (fU rfl (fV (eY rfl) ?_)))))
  exact (fun v V h=>cL h1.symm v V (Ef v V h))
 ·simp at hb
  have h1:du x = x.den:=sH (fun e=>hb (by simp [e,dD]))
  refine cU (ts (ro rfl (eJ oZ (Ht rfl) rfl) (ro rfl (fQ A_56 Z_56 (Ht rfl) (i:=0) rfl rfl) (ra rfl (eX (fU rfl (fV (eY rfl) ?_)))))))
  exact (cL h1)
theorem Hz {n:Int} (h1:-9223372036854775808 ≤ n) (h2:n ≤ 9223372036854775807):bB Tryz.prog 52 [aF .i64 n] (aD (Qi.ofInt n)):=by
 refine bB.intro Tryz.func52 rfl Tryz.ntmps52 rfl (fun cx=>(ts (rn rfl (eG (Ts:=[Is (.bool false),Is (.slice none 0 0),Is (.bool false),Is (.slice none 0 0),Is (.slice none 0 0)]) O_60 rfl (fun V=>aW zd (aW zd (aW zd (aW zd (aW zd (aG))))))) fun B2=>(eX (ts (rm rfl (ro rfl (cZ Tryz.call157 (Ax h1 h2) ⟨(Ht rfl),trivial⟩) (ro rfl (Mv (Ht rfl)) (gV Z_60 (Ht rfl) (Ht rfl) rfl (i:=0) rfl (aK rfl) rfl rfl ?_)))))))))
 refine eX (fU rfl (fV (gX A_60 Z_60 rfl (i:=0) rfl rfl) ?_))
 exact Jh
theorem a0i {p q d:Int} (p1:-9223372036854775808 ≤ p) (p2:p ≤ 9223372036854775807) (q1:-9223372036854775808 ≤ q) (q2:q ≤ 9223372036854775807) (d1:-9223372036854775808 ≤ d) (d2:d ≤ 9223372036854775807) (hd:d ≠ 0):bB Tryz.prog 108 [aF .i64 p,aF .i64 q,aF .i64 d] (dM [aD (Qi.frac p q d),aF .i64 0]):=by
 have lp:=Kr p1 p2; have lq:=Kr q1 q2; have ld:=Kr d1 d2; have np:=rR p; have nq:=rR q
 refine bB.intro Tryz.func108 rfl Tryz.ntmps108 rfl (fun cx=>(ts (rn rfl (eG (Ts:=[Is (.bool false),Is (.slice none 0 0),Is (.bool false),Is (.slice none 0 0),Is (.slice none 0 0)]) O_60 rfl (fun V=>aW zd (aW zd (aW zd (aW zd (aW zd (aG))))))) fun B6=>(ro rfl (cQ (cJ 0)) (eX (cK (ts (rm rfl (ro rfl (iY (Ht rfl) cV) (eX (fR (Ht rfl) (by simp [hd]) ?_)))))))))))
 refine cU (ts (rm rfl (ro rfl (cZ Tryz.call157 (Ax p1 p2) ⟨(Ht rfl),trivial⟩) (rm rfl (ro rfl (cZ Tryz.call157 (Ax q1 q2) ⟨(Ht rfl),trivial⟩) (rm rfl (ro rfl (cZ Tryz.call157 (Ax d1 d2) ⟨(Ht rfl),trivial⟩) (rn rfl (eG (Ts:=[Is (.bool false),Is (.slice none 0 0)]) O_58 rfl (fun V=>aW zd (aW zd (aG)))) fun B8=>(rn rfl (eG (Ts:=[Is (.bool false),Is (.slice none 0 0)]) O_58 rfl (fun V=>aW zd (aW zd (aG)))) fun B9=>?_)))))))))
 refine rn rfl (eG (Ts:=[Is (.bool false),Is (.slice none 0 0)]) O_58 rfl (fun V=>aW zd (aW zd (aG)))) fun B10=>gV Z_58 (Ht rfl) (Ht rfl) rfl (i:=1) rfl (aK rfl) rfl rfl (gV Z_58 (Ht rfl) (Ht rfl) rfl (i:=2) rfl (aK rfl) rfl rfl (gV Z_58 (Ht rfl) (Ht rfl) rfl (i:=3) rfl (aK rfl) rfl rfl (eX (cK (oS (fun (a:Int) (b:Int)=>Qi.mk' a b d.natAbs = Qi.frac p q d ∧ (dg a.natAbs).length ≤ 2 ∧ (dg b.natAbs).length ≤ 2) (fun (a:Int) (b:Int)=>[(6,cE B6 0),(8,cE B8 0),(9,cE B9 0),(10,cE B10 0)]) (fun (a:Int) (b:Int)=>[box B6 60 [Is (.bool false),Is (.slice none 0 0),Is (.bool false),Is (.slice none 0 0),Is (.slice none 0 0)],box B8 58 [aC (decide (a < 0)),aL (a).natAbs],box B9 58 [aC (decide (b < 0)),aL (b).natAbs],box B10 58 [aC (decide (d < 0)),aL (d).natAbs]]) ?_ (fun a b ⟨hab,ha,hb⟩=>?_))))))
 ·refine ts (ro rfl (eJ jT (Ht rfl) rfl) (ro rfl (fQ A_4 Z_4 (Ht rfl) (i := 3) rfl rfl) (eX (dQ (Ht rfl) (fun hn => ?_) (fun hn => ?_)))))
  ·simp only [decide_eq_true_eq] at hn
   refine fW (m:=3) (dp 8 rfl (eW A_58 Z_58 (Ht rfl) (i:=1) rfl rfl rfl) (dq 22 0 rfl (cZ K_167 oU ⟨(Ht rfl),trivial⟩) (dp 9 rfl (eW A_58 Z_58 (Ht rfl) (i:=2) rfl rfl rfl) (fK bC rfl (by kernel_rfl) (aJ (aJ (aJ (aV (ro rfl (cZ K_167 oU ⟨(Ht rfl),trivial⟩) (gV Z_58 (Ht rfl) (Ht rfl) rfl (i:=1) rfl (aK rfl) rfl rfl (gV Z_58 (Ht rfl) (Ht rfl) rfl (i:=2) rfl (aK rfl) rfl rfl (eX (aP (-p,-q) ⟨Qi.frac_neg hn,by dsimp only; omega,by dsimp only; omega⟩ (zS rfl) (aU (aB rfl) (aU (aB rfl) (aU (aB rfl) (aU (aB rfl) aY)))))))))))))))))
  ·simp only [decide_eq_false_iff_not] at hn
   refine cU (aP (p,q) ⟨Qi.frac_pos hn hd,by omega,by omega⟩ (zS rfl) (cT.refl _))
 ·refine ts (ro rfl (eW A_58 Z_58 (Ht rfl) (i := 1) rfl rfl rfl) (ro rfl (eW A_58 Z_58 (Ht rfl) (i := 2) rfl rfl rfl) (ro rfl (eJ eA (Ht rfl) rfl) (ro rfl (fQ A_56 Z_56 (Ht rfl) (i := 3) rfl rfl) (ro rfl (cZ K_150 (tH zo zo zo zo) ⟨(Ht rfl), (Ht rfl), (Ht rfl), trivial⟩) (gV Z_60 (Ht rfl) (Ht rfl) rfl (i := 0) rfl (aK rfl) rfl rfl (ro rfl (cQ (cJ 0)) (eX (bN rfl (fV (gX A_60 Z_60 rfl (i := 0) rfl rfl) ?_) (eY rfl))))))))))
  exact (iX hab)
theorem wW {x y:Qi} {L M:Nat} [hx:aM x L] [hy:aM y M] (h:L + M + 1 ≤ 17592186044415):bB Tryz.prog 71 [aD x,aD y] (aD (x + y)):=by
 have hxa:=lT hx.fit; have hxb:=lU hx.fit; have hxd:=lV hx.fit
 have hya:=lT hy.fit; have hyb:=lU hy.fit; have hyd:=lV hy.fit
 have hxp:=x.den_pos; have hyp:=y.den_pos; have hdp:=Nat.mul_pos hxp hyp
 have e1:=gA x.a y.den; have e2:=gA y.a x.den; have e3:=gA x.b y.den; have e4:=gA y.b x.den; have e5:=xI x.den y.den
 have e6:=mR (x:=x.a * y.den) (y:=y.a * x.den) (L:=L + M) zo zo; have e7:=mR (x:=x.b * y.den) (y:=y.b * x.den) (L:=L + M) zo zo
 refine bB.intro Tryz.func71 rfl Tryz.ntmps71 rfl (fun cx=>(ts (rn rfl (gQ (Ht rfl)) fun B2=>(rn rfl (gQ (Ht rfl)) fun B3=>(rn rfl (eG (Ts:=[Is (.bool false),Is (.slice none 0 0),Is (.bool false),Is (.slice none 0 0),Is (.slice none 0 0)]) O_60 rfl (fun V=>aW zd (aW zd (aW zd (aW zd (aW zd (aG))))))) fun B4=>(eX (cK (fW (m:=3) (dp 2 rfl (eW A_60 Z_60 (Ht rfl) (i:=0) rfl rfl rfl) (dq 7 0 rfl (cZ K_153 nN ⟨(Ht rfl),trivial⟩) ?_))))))))))
 refine dp 3 rfl (eW A_60 Z_60 (Ht rfl) (i:=1) rfl rfl rfl) (fK bC rfl (by kernel_rfl) (aJ (aJ (aJ (aV (ro rfl (cZ K_153 nN ⟨(Ht rfl),trivial⟩) (ra rfl (ra rfl (eX (cK (fW (m:=20) (dp 2 rfl (eJ gB (Ht rfl) rfl) (dq 11 0 rfl (eW A_58 Z_58 (Ht rfl) (i:=0) rfl rfl rfl) (dp 6 rfl (cX (Ht rfl)) (dP 12 1 13 2 rfl (cZ K_155 (kF zo zo) ⟨(Ht rfl),(Ht rfl),trivial⟩) (dp 3 rfl (eJ gB (Ht rfl) rfl) (dq 15 4 rfl (eW A_58 Z_58 (Ht rfl) (i:=1) rfl rfl rfl) ?_)))))))))))))))))
 refine dp 5 rfl (cX (Ht rfl)) (dP 16 5 17 6 rfl (cZ K_155 (kF zo zo) ⟨(Ht rfl),(Ht rfl),trivial⟩) (dP 14 3 18 7 rfl (cZ K_152 (tI zo zo) ⟨(Ht rfl),(Ht rfl),trivial⟩) (dp 2 rfl (eJ gS (Ht rfl) rfl) (dq 20 9 rfl (eW A_58 Z_58 (Ht rfl) (i:=0) rfl rfl rfl) (dp 6 rfl (cX (Ht rfl)) (dP 21 10 22 11 rfl (cZ K_155 (kF zo zo) ⟨(Ht rfl),(Ht rfl),trivial⟩) (dp 3 rfl (eJ gS (Ht rfl) rfl) (dq 24 13 rfl (eW A_58 Z_58 (Ht rfl) (i:=1) rfl rfl rfl) ?_))))))))
 refine dp 5 rfl (cX (Ht rfl)) (dP 25 14 26 15 rfl (cZ K_155 (kF zo zo) ⟨(Ht rfl),(Ht rfl),trivial⟩) (dP 23 12 27 16 rfl (cZ K_152 (tI zo zo) ⟨(Ht rfl),(Ht rfl),trivial⟩) (dp 5 rfl (cX (Ht rfl)) (dp 6 rfl (cX (Ht rfl)) (fK bC rfl (by kernel_rfl) (zF (zF (zF (zF (zF (aV (ro rfl (cZ Tryz.call154 (Cv zo zo) ⟨(Ht rfl),(Ht rfl),trivial⟩) ?_))))))))))))
 refine ro rfl (cZ K_150 (tH (by first | assumption | omega) zo zo zo) ⟨(Ht rfl),(Ht rfl),(Ht rfl),trivial⟩) (gV Z_60 (Ht rfl) (Ht rfl) rfl (i:=2) rfl (aK rfl) rfl rfl (eX (fU rfl (fV (gX A_60 Z_60 rfl (i:=2) rfl rfl) ?_))))
 exact (iX (Qi.mk_add x y))
theorem a0h {x:Qi}:bB Tryz.prog 168 [aD x] (aD (-x)):=by
 refine bB.intro Tryz.func168 rfl Tryz.ntmps168 rfl (fun cx=>(ts (rn rfl (gQ (Ht rfl)) fun B1=>(rn rfl (eG (Ts:=[Is (.bool false),Is (.slice none 0 0),Is (.bool false),Is (.slice none 0 0),Is (.slice none 0 0)]) O_60 rfl (fun V=>aW zd (aW zd (aW zd (aW zd (aW zd (aG))))))) fun B2=>(eX (cK (fW (m:=8) (dp 1 rfl (eJ gB (Ht rfl) rfl) (dq 3 0 rfl (eW A_58 Z_58 (Ht rfl) (i:=0) rfl rfl rfl) (dq 4 1 rfl (cZ K_167 oU ⟨(Ht rfl),trivial⟩) ?_))))))))))
 refine dp 1 rfl (eJ gS (Ht rfl) rfl) (dq 6 3 rfl (eW A_58 Z_58 (Ht rfl) (i:=0) rfl rfl rfl) (dq 7 4 rfl (cZ K_167 oU ⟨(Ht rfl),trivial⟩) (dp 1 rfl (eJ oZ (Ht rfl) rfl) (dq 9 6 rfl (fQ A_56 Z_56 (Ht rfl) (i:=0) rfl rfl) (fK bC rfl (by kernel_rfl) (zF (zF (aV (ro rfl (sB (Ht rfl) (Ht rfl) (Ht rfl)) (gV Z_60 (Ht rfl) (Ht rfl) rfl (i:=1) rfl (aK rfl) rfl rfl (eX (fU rfl (fV (gX A_60 Z_60 rfl (i:=1) rfl rfl) ?_)))))))))))))
 exact (oT (by obtain ⟨e1,e2,e3⟩:=Qi.neg_a x; rw [e1,e2,a0r e3]; rfl))
theorem wY {x y:Qi} {L M:Nat} [hx:aM x L] [hy:aM y M] (h:L + M + 1 ≤ 17592186044415):bB Tryz.prog 69 [aD x,aD y] (aD (x - y)):=by
 have hxa:=lT hx.fit; have hxb:=lU hx.fit; have hxd:=lV hx.fit
 have hya:=lT hy.fit; have hyb:=lU hy.fit; have hyd:=lV hy.fit
 have hxp:=x.den_pos; have hyp:=y.den_pos; have hdp:=Nat.mul_pos hxp hyp
 refine bB.intro Tryz.func69 rfl Tryz.ntmps69 rfl (fun cx=>(ts (rn rfl (gQ (Ht rfl)) fun B2=>(rn rfl (gQ (Ht rfl)) fun B3=>(rn rfl (eG (Ts:=[Is (.bool false),Is (.slice none 0 0),Is (.bool false),Is (.slice none 0 0),Is (.slice none 0 0)]) O_60 rfl (fun V=>aW zd (aW zd (aW zd (aW zd (aW zd (aG))))))) fun B4=>(eX (cK (fW (m:=3) (dp 2 rfl (eW A_60 Z_60 (Ht rfl) (i:=0) rfl rfl rfl) (dp 3 rfl (eW A_60 Z_60 (Ht rfl) (i:=1) rfl rfl rfl) ?_))))))))))
 refine dq 6 1 rfl (cZ Tryz.call168 a0h ⟨(Ht rfl),trivial⟩) (fK bC rfl (by kernel_rfl) (aJ (aJ (aJ (aV (ro rfl (cZ K_71 (wW zo) ⟨(Ht rfl),(Ht rfl),trivial⟩) (gV Z_60 (Ht rfl) (Ht rfl) rfl (i:=2) rfl (aK rfl) rfl rfl (eX (fU rfl (fV (gX A_60 Z_60 rfl (i:=2) rfl rfl) ?_))))))))))
 exact (iX (Qi.sub_def x y).symm)
theorem kQ {x y:Qi} {L M:Nat} [hx:aM x L] [hy:aM y M] (h:L + M + 1 ≤ 17592186044415):bB Tryz.prog 70 [aD x,aD y] (aD (x * y)):=by
 have hxa:=lT hx.fit; have hxb:=lU hx.fit; have hxd:=lV hx.fit
 have hya:=lT hy.fit; have hyb:=lU hy.fit; have hyd:=lV hy.fit
 have hxp:=x.den_pos; have hyp:=y.den_pos; have hdp:=Nat.mul_pos hxp hyp
 have e1:=mS x.a y.a; have e2:=mS x.b y.b; have e3:=mS x.a y.b; have e4:=mS x.b y.a; have e5:=xI x.den y.den; have e8:=rR (x.b * y.b)
 have e6:=mR (x:=x.a * y.a) (y:=-(x.b * y.b)) (L:=L + M) zo zo; have e7:=mR (x:=x.a * y.b) (y:=x.b * y.a) (L:=L + M) zo zo
 refine bB.intro Tryz.func70 rfl Tryz.ntmps70 rfl (fun cx=>(ts (rn rfl (gQ (Ht rfl)) fun B2=>(rn rfl (gQ (Ht rfl)) fun B3=>(rn rfl (eG (Ts:=[Is (.bool false),Is (.slice none 0 0),Is (.bool false),Is (.slice none 0 0),Is (.slice none 0 0)]) O_60 rfl (fun V=>aW zd (aW zd (aW zd (aW zd (aW zd (aG))))))) fun B4=>(eX (cK (fW (m:=13) (dp 2 rfl (eJ gB (Ht rfl) rfl) (dq 7 0 rfl (eW A_58 Z_58 (Ht rfl) (i:=0) rfl rfl rfl) ?_))))))))))
 refine dp 3 rfl (eJ gB (Ht rfl) rfl) (dq 9 2 rfl (eW A_58 Z_58 (Ht rfl) (i:=1) rfl rfl rfl) (dP 8 1 10 3 rfl (cZ K_151 (qR zo zo) ⟨(Ht rfl),(Ht rfl),trivial⟩) (dp 2 rfl (eJ gS (Ht rfl) rfl) (dq 12 5 rfl (eW A_58 Z_58 (Ht rfl) (i:=0) rfl rfl rfl) (dp 3 rfl (eJ gS (Ht rfl) rfl) (dq 14 7 rfl (eW A_58 Z_58 (Ht rfl) (i:=1) rfl rfl rfl) (dP 13 6 15 8 rfl (cZ K_151 (qR zo zo) ⟨(Ht rfl),(Ht rfl),trivial⟩) (dq 16 9 rfl (cZ K_167 oU ⟨(Ht rfl),trivial⟩) ?_))))))))
 refine dP 11 4 17 10 rfl (cZ K_152 (tI zo zo) ⟨(Ht rfl),(Ht rfl),trivial⟩) (C.D_new (Ei:=[]) rfl rfl rfl bW (eG (Ts:=[Is (.bool false),Is (.slice none 0 0)]) O_58 rfl (fun V=>aW zd (aW zd (aG)))) (fK bC rfl (by kernel_rfl) (zF (zF (zF (C.F_new (fun B5=>aV (gV Z_58 (Ht rfl) (Ht rfl) rfl (i:=3) rfl (aK rfl) rfl rfl (eX ?_)))))))))
 refine cK (fW (m:=12) (dp 2 rfl (eJ gB (Ht rfl) rfl) (dq 19 0 rfl (eW A_58 Z_58 (Ht rfl) (i:=0) rfl rfl rfl) (dp 3 rfl (eJ gS (Ht rfl) rfl) (dq 21 2 rfl (eW A_58 Z_58 (Ht rfl) (i:=1) rfl rfl rfl) (dP 20 1 22 3 rfl (cZ K_151 (qR zo zo) ⟨(Ht rfl),(Ht rfl),trivial⟩) (dp 2 rfl (eJ gS (Ht rfl) rfl) (dq 24 5 rfl (eW A_58 Z_58 (Ht rfl) (i:=0) rfl rfl rfl) (dp 3 rfl (eJ gB (Ht rfl) rfl) (dq 26 7 rfl (eW A_58 Z_58 (Ht rfl) (i:=1) rfl rfl rfl) ?_))))))))))
 refine dP 25 6 27 8 rfl (cZ K_151 (qR zo zo) ⟨(Ht rfl),(Ht rfl),trivial⟩) (dP 23 4 28 9 rfl (cZ K_152 (tI zo zo) ⟨(Ht rfl),(Ht rfl),trivial⟩) (C.D_new (Ei:=[]) rfl rfl rfl bW (eG (Ts:=[Is (.bool false),Is (.slice none 0 0)]) O_58 rfl (fun V=>aW zd (aW zd (aG)))) (fK bC rfl (by kernel_rfl) (zF (zF (aJ (aJ (aJ (C.F_new (fun B6=>aV (gV Z_58 (Ht rfl) (Ht rfl) rfl (i:=4) rfl (aK rfl) rfl rfl ?_)))))))))))
 refine eX (cK (fW (m:=7) (dp 5 rfl (eW A_58 Z_58 (Ht rfl) (i:=3) rfl rfl rfl) (dp 6 rfl (eW A_58 Z_58 (Ht rfl) (i:=4) rfl rfl rfl) (dp 2 rfl (eW A_60 Z_60 (Ht rfl) (i:=0) rfl rfl rfl) (dq 32 2 rfl (cZ K_153 nN ⟨(Ht rfl),trivial⟩) (dp 3 rfl (eW A_60 Z_60 (Ht rfl) (i:=1) rfl rfl rfl) (dq 34 4 rfl (cZ K_153 nN ⟨(Ht rfl),trivial⟩) (dP 33 3 35 5 rfl (cZ Tryz.call154 (Cv zo zo) ⟨(Ht rfl),(Ht rfl),trivial⟩) (fK bC rfl (by kernel_rfl) (zF (aJ (aJ (aJ (aV ?_)))))))))))))))
 refine ro rfl (cZ K_150 (tH (by first | assumption | omega) zo zo zo) ⟨(Ht rfl),(Ht rfl),(Ht rfl),trivial⟩) (gV Z_60 (Ht rfl) (Ht rfl) rfl (i:=2) rfl (aK rfl) rfl rfl (eX (fU rfl (fV (gX A_60 Z_60 rfl (i:=2) rfl rfl) ?_))))
 exact (iX (Qi.mk_mul x y))
theorem Hx {x:Qi} {L:Nat} [hx:aM x L] (h:L ≤ 17592186044415):bB Tryz.prog 82 [aD x] (aC (!decide (x = Qi.zero))):=by
 have hxa:=lT hx.fit; have hxb:=lU hx.fit; have hxd:=lV hx.fit
 refine bB.intro Tryz.func82 rfl Tryz.ntmps82 rfl (fun cx=>(ts (rn rfl (gQ (Ht rfl)) fun B1=>(ro rfl (cQ cV) (eX (ts (ro rfl (eJ gB (Ht rfl) rfl) (ro rfl (eJ eA (Ht rfl) rfl) (ro rfl (fQ A_56 Z_56 (Ht rfl) (i:=0) rfl rfl) (ro rfl (dG U_56 (Ht rfl) aA) (ro rfl (eJ gS (Ht rfl) rfl) (ro rfl (eJ eA (Ht rfl) rfl) (ro rfl (fQ A_56 Z_56 (Ht rfl) (i:=0) rfl rfl) (ro rfl (dG U_56 (Ht rfl) aA) (ro rfl (dV (Ht rfl) (Ht rfl) z6) ?_)))))))))))))))
 refine ro rfl (eO (Ht rfl) (cJ 0)) (ra rfl (eX (fU rfl (fV (eY rfl) ?_))))
 exact (fT (Nq x))
theorem Nc {x:Qi}:bB Tryz.prog 55 [aD x] (aC (decide (x.b = 0))):=by
 refine bB.intro Tryz.func55 rfl Tryz.ntmps55 rfl (fun cx=>(ts (rn rfl (gQ (Ht rfl)) fun B1=>(ro rfl (cQ cV) (eX (ts (ro rfl (eJ gS (Ht rfl) rfl) (ro rfl (eJ eA (Ht rfl) rfl) (ro rfl (fQ A_56 Z_56 (Ht rfl) (i:=0) rfl rfl) (ro rfl (dG U_56 (Ht rfl) aA) (ro rfl (cB (Ht rfl) (cJ 0)) (ra rfl (eX (fU rfl (fV (eY rfl) ?_)))))))))))))))
 exact (fT (Vb x))
theorem Nf {x y:Qi} {L M:Nat} [hx:aM x L] [hy:aM y M] (h:L ≤ 17592186044415) (h2:M ≤ 17592186044415):bB Tryz.prog 100 [aD x,aD y] (aC (decide (x = y))):=by
 have hxa:=lT hx.fit; have hxb:=lU hx.fit; have hxd:=lV hx.fit
 have hya:=lT hy.fit; have hyb:=lU hy.fit; have hyd:=lV hy.fit
 have hxu:=Nx x; have hyu:=Nx y
 refine bB.intro Tryz.func100 rfl Tryz.ntmps100 rfl (fun cx=>(ts (rn rfl (gQ (Ht rfl)) fun B2=>(rn rfl (gQ (Ht rfl)) fun B3=>(ro rfl (cQ cV) (eX (ts (ro rfl (eJ gB (Ht rfl) rfl) (ro rfl (eW A_58 Z_58 (Ht rfl) (i:=0) rfl rfl rfl) (ro rfl (eJ gB (Ht rfl) rfl) (ro rfl (eW A_58 Z_58 (Ht rfl) (i:=1) rfl rfl rfl) (ro rfl (cZ Tryz.call156 (Ba zo zo) ⟨(Ht rfl),(Ht rfl),trivial⟩) (ro rfl (iY (Ht rfl) cV) (rm rfl (fJ rfl rfl (eU rfl rfl (Ht rfl) (fun h=>eJ gS (Ht rfl) rfl)) ?_)))))))))))))))
 refine fJ rfl rfl (eU rfl rfl (Ht rfl) (fun h=>eW A_58 Z_58 (fG rfl h) (i:=0) rfl rfl rfl)) (fJ rfl rfl (eU rfl rfl (Ht rfl) (fun h=>eJ gS (Ht rfl) rfl)) (fJ rfl rfl (eU rfl rfl (Ht rfl) (fun h=>eW A_58 Z_58 (fG rfl h) (i:=1) rfl rfl rfl)) (fJ rfl rfl (eU rfl rfl (Ht rfl) (fun h=>cZ Tryz.call156 (Ba zo zo) ⟨(fG rfl h),(fG rfl h),trivial⟩)) (fJ rfl rfl (eU rfl rfl (Ht rfl) (fun h=>iY (fG rfl h) cV)) (ro rfl (eC (Ht rfl) (fun h=>(fG rfl h))) ?_)))))
 refine rm rfl (fJ rfl rfl (eU rfl rfl (Ht rfl) (fun h=>eJ oZ (Ht rfl) rfl)) (fJ rfl rfl (eU rfl rfl (Ht rfl) (fun h=>fQ A_56 Z_56 (fG rfl h) (i:=0) rfl rfl)) (fJ rfl rfl (eU rfl rfl (Ht rfl) (fun h=>eJ oZ (Ht rfl) rfl)) (fJ rfl rfl (eU rfl rfl (Ht rfl) (fun h=>fQ A_56 Z_56 (fG rfl h) (i:=1) rfl rfl)) (fJ rfl rfl (eU rfl rfl (Ht rfl) (fun h=>cZ Tryz.call199 (Nk zo zo) ⟨(fG rfl h),(fG rfl h),trivial⟩)) (fJ rfl rfl (eU rfl rfl (Ht rfl) (fun h=>iY (fG rfl h) cV)) ?_))))))
 refine ro rfl (eC (Ht rfl) (fun h=>(fG rfl h))) (ra rfl (eX (fU rfl (fV (eY rfl) ?_))))
 exact (fT (Vg x y))
theorem a0d {x y:Qi} {L M:Nat} [hx:aM x L] [hy:aM y M] (h:L + M ≤ 17592186044415):bB Tryz.prog 51 [aD x,aD y] (aF .i64 (Km x y)):=by
 have hxa:=lT hx.fit; have hxb:=lU hx.fit; have hxd:=lV hx.fit
 have hya:=lT hy.fit; have hyb:=lU hy.fit; have hyd:=lV hy.fit
 have e1:=gA x.a y.den; have e2:=gA y.a x.den; have e3:=gA x.b y.den; have e4:=gA y.b x.den
 refine bB.intro Tryz.func51 rfl Tryz.ntmps51 rfl (fun cx=>(ts (rn rfl (gQ (Ht rfl)) fun B2=>(rn rfl (gQ (Ht rfl)) fun B3=>(ro rfl (cQ (cJ 0)) (eX (cK (cK (fW (m:=9) (dp 2 rfl (eJ gB (Ht rfl) rfl) (dq 6 0 rfl (eW A_58 Z_58 (Ht rfl) (i:=0) rfl rfl rfl) (dp 3 rfl (eW A_60 Z_60 (Ht rfl) (i:=1) rfl rfl rfl) (dq 8 2 rfl (cZ K_153 nN ⟨(Ht rfl),trivial⟩) (dP 7 1 9 3 rfl (cZ K_155 (kF zo zo) ⟨(Ht rfl),(Ht rfl),trivial⟩) (dp 3 rfl (eJ gB (Ht rfl) rfl) ?_)))))))))))))))
 refine dq 11 5 rfl (eW A_58 Z_58 (Ht rfl) (i:=1) rfl rfl rfl) (dp 2 rfl (eW A_60 Z_60 (Ht rfl) (i:=0) rfl rfl rfl) (dq 13 7 rfl (cZ K_153 nN ⟨(Ht rfl),trivial⟩) (fK bC rfl (by kernel_rfl) (zF (zF (aJ (aV (ro rfl (cZ K_155 (kF zo zo) ⟨(Ht rfl),(Ht rfl),trivial⟩) (ro rfl (cZ Tryz.call156 (Ba zo zo) ⟨(Ht rfl),(Ht rfl),trivial⟩) (ra rfl (eX (ts (rm rfl (ro rfl (gY (Ht rfl) cV) ?_))))))))))))))
 refine eX (dQ (Ht rfl) (fun hb=>?_) (fun hb=>?_))
 ·simp only [Bool.not_eq_true', decide_eq_false_iff_not] at hb
  refine ts (rm rfl (ra rfl (eX (fU rfl (fV (eY rfl) ?_)))))
  exact (aT (by rw [Km,if_pos hb]))
 ·simp only [Bool.not_eq_false', decide_eq_true_eq] at hb
  refine cU (cK (fW (m:=9) (dp 2 rfl (eJ gS (Ht rfl) rfl) (dq 20 0 rfl (eW A_58 Z_58 (Ht rfl) (i:=0) rfl rfl rfl) (dp 3 rfl (eW A_60 Z_60 (Ht rfl) (i:=1) rfl rfl rfl) (dq 22 2 rfl (cZ K_153 nN ⟨(Ht rfl),trivial⟩) (dP 21 1 23 3 rfl (cZ K_155 (kF zo zo) ⟨(Ht rfl),(Ht rfl),trivial⟩) (dp 3 rfl (eJ gS (Ht rfl) rfl) (dq 25 5 rfl (eW A_58 Z_58 (Ht rfl) (i:=1) rfl rfl rfl) (dp 2 rfl (eW A_60 Z_60 (Ht rfl) (i:=0) rfl rfl rfl) ?_))))))))))
  refine dq 27 7 rfl (cZ K_153 nN ⟨(Ht rfl),trivial⟩) (fK bC rfl (by kernel_rfl) (zF (zF (aJ (aV (ro rfl (cZ K_155 (kF zo zo) ⟨(Ht rfl),(Ht rfl),trivial⟩) (ro rfl (cZ Tryz.call156 (Ba zo zo) ⟨(Ht rfl),(Ht rfl),trivial⟩) (ra rfl (eX (fU rfl (fV (eY rfl) ?_)))))))))))
  exact (aT (by rw [Km,if_neg (by simpa using hb)]))
end
section
open Go Go.RowKit
theorem Ry {n : Nat} {E : bT} {H : Hp} {d : Option Tmp} {t : TypeId} {pos : String} {af : Array Edge} {g : Option (Nat × Bool)}  :
  aE Tryz.prog n E H ⟨d,.build 58 #[],t,pos,af,g⟩ (dR [Is (.bool false),Is (.slice none 0 0)]) :=
 gO (parts := []) fun a V w hs => by
  refine ⟨.agg #[(.bool false),(.slice none 0 0)],?_,[(.bool false),(.slice none 0 0)],rfl,aW (⟨rfl,trivial⟩) (aW (⟨rfl,trivial⟩) (aG))⟩
  simp [Instr.build,Instr.fill,Sem.run_bind,Result.andThen,fD,O_58,U_58,Z_4,Z_56]
theorem oY (a:Addr) (w:World):(Instr.fieldAt 48 (.pointer (some a)) 0).run Tryz.prog w = .ok (.pointer (some (a.add 0))) w:=by
 simp [Instr.fieldAt,Instr.sureAddr,fieldPlace,Sem.run_bind,Result.andThen,U_48,Z_2]
theorem Bf (a:Addr) (w:World):(Instr.fieldAt 48 (.pointer (some a)) 1).run Tryz.prog w = .ok (.pointer (some (a.add 1))) w:=by
 simp [Instr.fieldAt,Instr.sureAddr,fieldPlace,Sem.run_bind,Result.andThen,U_48,Z_2]
theorem nP (a:Addr) (w:World):(Instr.fieldAt 48 (.pointer (some a)) 2).run Tryz.prog w = .ok (.pointer (some (a.add 2))) w:=by
 simp [Instr.fieldAt,Instr.sureAddr,fieldPlace,Sem.run_bind,Result.andThen,U_48,Z_2]
theorem iM:Tryz.prog.info? 60 = some Tryz.t60:=by kernel_rfl
theorem jP:Tryz.prog.underlying 25 = some (.slice 60):=by kernel_rfl
end
section
open Go Go.RowKit
theorem Gh {a:Int} {d:Nat} (hd:0 < d) (ha:(dg a.natAbs).length ≤ 8796093022208) (hd2:(dg d).length ≤ 8796093022208):bB Tryz.prog 216 [fH a,aL d] (oC (qF a d)):=by
 have h1:=Eb a hd; have h2:=Ec a hd
 obtain ⟨x,hx⟩:∃ x,x = Qi.mk' a 0 d:=⟨_,rfl⟩
 rw [qF,← hx]
 rw [← hx] at h1 h2
 have h3:=oW x.a.natAbs; have h4:=oW x.den
 have h5:(dg (0:Int).natAbs).length ≤ 0:=by rw [show (0:Int).natAbs = 0 from rfl,dD]; exact Nat.le_refl _
 refine bB.intro Tryz.func216 rfl Tryz.ntmps216 rfl (fun cx=>(ts (rn rfl (gQ (Ht rfl)) fun B2=>(ro rfl (cQ (aR.cS (l:=[]) rfl)) (eX (ts (ro rfl (eW A_58 Z_58 (Ht rfl) (i:=0) rfl rfl rfl) (ro rfl (aE.imp (Ry ) yR) (rm rfl (ro rfl (aE.imp (cZ K_150 (tH (by first | assumption | omega) zo zo zo) ⟨(Ht rfl),(Ht rfl),(Ht rfl),trivial⟩) (iX hx.symm)) (rn rfl (eG (Ts:=[Is (.bool false),Is (.slice none 0 0),Is (.bool false),Is (.slice none 0 0),Is (.slice none 0 0)]) O_60 rfl (fun V=>aW zd (aW zd (aW zd (aW zd (aW zd (aG))))))) fun B5=>?_)))))))))))
 refine gV Z_60 (Ht rfl) (Ht rfl) rfl (i:=1) rfl (aK rfl) rfl rfl (eX (ts (ro rfl (eJ gB (Ht rfl) rfl) (ro rfl (eJ eA (Ht rfl) rfl) (ro rfl (fQ A_56 Z_56 (Ht rfl) (i:=1) rfl rfl) (ro rfl (cZ Tryz.call260 (Ct zo) ⟨(Ht rfl),trivial⟩) (ra rfl (eX (cK (iT (fun (uu:Unit)=>True) (fun (uu:Unit)=>[(5,cE B5 0),(6,oC (if x.a < 0 then 45 :: rI x.a.natAbs else rI x.a.natAbs))]) (fun (uu:Unit)=>[box B2 58 [aC (decide (a < 0)),aL (a).natAbs],box B5 60 [aC (decide ((x).a < 0)),aL (x).a.natAbs,aC (decide ((x).b < 0)),aL (x).b.natAbs,aL (du (x))]]) ?_ (fun uu _=>?_)))))))))))
 ·refine ts (ro rfl (eJ gB (Ht rfl) rfl) (ro rfl (eJ jT (Ht rfl) rfl) (ro rfl (fQ A_4 Z_4 (Ht rfl) (i := 1) rfl rfl) (eX (dQ (Ht rfl) (fun hb => ?_) (fun hb => ?_))))))
  ·simp only [decide_eq_true_eq] at hb
   refine cY (rm rfl (ro rfl (jB (aR.cS (l:=[45]) rfl) (Ht rfl) (by first | omega | (simp; omega))) (ra rfl (eX (aP () trivial (aQ rfl (aZ rfl (iR (by rw [if_pos hb]; rfl)) aX)) (aU (aB rfl) (aU (aB rfl) aY)))))))
  ·simp only [decide_eq_false_iff_not] at hb
   refine cU (aP () trivial (aQ rfl (aZ rfl (iR (by rw [if_neg hb])) aX)) (aU (aB rfl) (aU (aB rfl) aY)))
 ·have h6 : (if x.a < 0 then 45 :: rI x.a.natAbs else rI x.a.natAbs).length ≤ (rI x.a.natAbs).length + 1 := by split <;> simp
  have h7:=Nx x
  refine cK (iT (fun (uu:Unit)=>True) (fun (uu:Unit)=>[(6,oC ((if x.a < 0 then 45 :: rI x.a.natAbs else rI x.a.natAbs) ++ (if x.den = 1 then [] else 47 :: rI x.den)))]) (fun (uu:Unit)=>[box B2 58 [aC (decide (a < 0)),aL (a).natAbs],box B5 60 [aC (decide ((x).a < 0)),aL (x).a.natAbs,aC (decide ((x).b < 0)),aL (x).b.natAbs,aL (du (x))]]) ?_ (fun uu _=>?_))
  ·refine ts (ro rfl (eJ oZ (Ht rfl) rfl) (ro rfl (fQ A_56 Z_56 (Ht rfl) (i := 1) rfl rfl) (ro rfl (dG U_56 (Ht rfl) aA) (ro rfl (eO (Ht rfl) (cJ 0)) (eX (dQ (Ht rfl) (fun hb => ?_) (fun hb => ?_)))))))
   ·simp only [decide_eq_true_eq] at hb
    have h8:du x = x.den:=sH (fun e=>by rw [e,dD] at hb; simp at hb)
    have h9:x.den ≠ 1:=fun e=>by rw [du,if_pos e,dD] at hb; simp at hb
    have h10:=oW (du x)
    refine cY (rm rfl (ro rfl (eJ oZ (Ht rfl) rfl) (ro rfl (fQ A_56 Z_56 (Ht rfl) (i:=1) rfl rfl) (ro rfl (cZ Tryz.call260 (Ct zo) ⟨(Ht rfl),trivial⟩) (ro rfl (jB (aR.cS (l:=[47]) rfl) (Ht rfl) (by simp only [List.length_cons,List.length_nil]; omega)) ?_)))))
    refine ro rfl (jB (Ht rfl) (Ht rfl) (by simp only [List.length_append,List.length_cons,List.length_nil]; omega)) ?_
    refine ra rfl (eX (aP () trivial (aZ rfl (iR (by rw [if_neg h9,h8]; rfl)) aX) (cT.refl _)))
   ·simp only [decide_eq_false_iff_not] at hb
    have h9:x.den = 1:=vO (aI.1 zo)
    refine cU (aP () trivial (aZ rfl (iR (by rw [if_pos h9,List.append_nil])) aX) (cT.refl _))
  ·refine ts (rm rfl (ra rfl (eX ?_)))
   exact fU rfl (eY rfl)
theorem Ni {x:Qi} {L:Nat} [hx:aM x L] (h:L ≤ 8796093022208):bB Tryz.prog 115 [aD x] (oC (Mc x)):=by
 have hxa:=lT hx.fit; have hxb:=lU hx.fit; have hxd:=lV hx.fit; have hdp:=x.den_pos
 have l1:=sS x.a hdp; have l2:=sS x.b hdp
 refine bB.intro Tryz.func115 rfl Tryz.ntmps115 rfl (fun cx=>(ts (rn rfl (gQ (Ht rfl)) fun B1=>(ro rfl (cQ (aR.cS (l:=[]) rfl)) (eX (cK (ts (ro rfl (eW A_60 Z_60 (Ht rfl) (i:=0) rfl rfl rfl) (ro rfl (cZ Tryz.call55 Nc ⟨(Ht rfl),trivial⟩) (eX (dQ (Ht rfl) (fun hb=>?_) (fun hb=>?_))))))))))))
 ·simp only [decide_eq_true_eq] at hb
  refine cK (fW (m:=4) (dp 1 rfl (eJ gB (Ht rfl) rfl) (dq 6 0 rfl (eW A_58 Z_58 (Ht rfl) (i:=0) rfl rfl rfl) (dp 1 rfl (eW A_60 Z_60 (Ht rfl) (i:=0) rfl rfl rfl) (dq 8 2 rfl (cZ K_153 nN ⟨(Ht rfl),trivial⟩) (fK bC rfl (by kernel_rfl) (zF (aV (ro rfl (cZ Tryz.call216 (Gh (by assumption) zo zo) ⟨(Ht rfl),(Ht rfl),trivial⟩) ?_)))))))))
  refine ra rfl (eX (fU rfl (fV (eY rfl) ?_)))
  exact (iR (by rw [Mc,if_pos hb]))
 ·simp only [decide_eq_false_iff_not] at hb
  refine cU (cK (fW (m:=4) (dp 1 rfl (eJ gS (Ht rfl) rfl) (dq 11 0 rfl (eW A_58 Z_58 (Ht rfl) (i:=0) rfl rfl rfl) (dp 1 rfl (eW A_60 Z_60 (Ht rfl) (i:=0) rfl rfl rfl) (dq 13 2 rfl (cZ K_153 nN ⟨(Ht rfl),trivial⟩) (fK bC rfl (by kernel_rfl) (zF (aV (ro rfl (cZ Tryz.call216 (Gh (by assumption) zo zo) ⟨(Ht rfl),(Ht rfl),trivial⟩) ?_))))))))))
  refine ro rfl (jB (Ht rfl) (aR.cS (l:=[105]) rfl) (by simp only [List.length_append,List.length_cons,List.length_nil]; omega)) ?_
  refine ra rfl (eX (cK (ts (ro rfl (eJ gB (Ht rfl) rfl) (ro rfl (eJ eA (Ht rfl) rfl) (ro rfl (fQ A_56 Z_56 (Ht rfl) (i:=0) rfl rfl) (ro rfl (dG U_56 (Ht rfl) aA) (ro rfl (cB (Ht rfl) (cJ 0)) (eX (dQ (Ht rfl) (fun hc=>?_) (fun hc=>?_)))))))))))
  ·simp only [decide_eq_true_eq] at hc
   have ha:x.a = 0:=by have:=aI.1 hc; omega
   refine ts (rm rfl (ra rfl (eX (fU rfl (fV (eY rfl) ?_)))))
   exact (iR (by rw [Mc,if_neg hb,if_pos ha]))
  ·simp only [decide_eq_false_iff_not] at hc
   have ha:x.a ≠ 0:=fun e=>hc (by rw [e]; exact aI.2 rfl)
   refine cU (cK (iT (fun (uu:Unit)=>True) (fun (uu:Unit)=>[(1,cE B1 0),(3,oC ((if x.b < 0 then qF x.b x.den else 43 :: qF x.b x.den) ++ [105]))]) (fun (uu:Unit)=>[box B1 60 [aC (decide ((x).a < 0)),aL (x).a.natAbs,aC (decide ((x).b < 0)),aL (x).b.natAbs,aL (du (x))]]) ?_ (fun uu _=>?_)))
   ·refine ts (ro rfl (eJ gS (Ht rfl) rfl) (ro rfl (eJ jT (Ht rfl) rfl) (ro rfl (fQ A_4 Z_4 (Ht rfl) (i := 0) rfl rfl) (ro rfl (fO (Ht rfl)) (eX (dQ (Ht rfl) (fun hd => ?_) (fun hd => ?_)))))))
    ·have hn : ¬ x.b < 0 := by simpa using hd
     refine cY (rm rfl (ro rfl (jB (aR.cS (l:=[43]) rfl) (Ht rfl) (by simp only [List.length_append,List.length_cons,List.length_nil]; omega)) ?_))
     refine ra rfl (eX (aP () trivial (aQ rfl (aZ rfl (iR (by rw [if_neg hn]; rfl)) aX)) (aU (aB rfl) aY)))
    ·have hn : x.b < 0 := by simpa using hd
     refine cU (aP () trivial (aQ rfl (aZ rfl (iR (by rw [if_pos hn])) aX)) (aU (aB rfl) aY))
   ·have l3 : ((if x.b < 0 then qF x.b x.den else 43 :: qF x.b x.den) ++ [105]).length ≤ (qF x.b x.den).length + 2 := by split <;> simp
    refine cK (fW (m:=6) (dp 1 rfl (eJ gB (Ht rfl) rfl) (dq 29 0 rfl (eW A_58 Z_58 (Ht rfl) (i:=0) rfl rfl rfl) (dp 1 rfl (eW A_60 Z_60 (Ht rfl) (i:=0) rfl rfl rfl) (dq 31 2 rfl (cZ K_153 nN ⟨(Ht rfl),trivial⟩) (dP 30 1 32 3 rfl (cZ Tryz.call216 (Gh (by assumption) zo zo) ⟨(Ht rfl),(Ht rfl),trivial⟩) ?_))))))
    refine dp 3 rfl (cX (Ht rfl)) (fK bC rfl (by kernel_rfl) (zF (aJ (aJ (aV (ro rfl (jB (Ht rfl) (Ht rfl) zo) (ra rfl (eX (fU rfl (fV (eY rfl) ?_))))))))))
    exact (iR (by rw [Mc,if_neg hb,if_neg ha]))
theorem Ic {r:Rt}:bB Tryz.prog 33 [lG r] (aD r.q):=by
 have hr1:=r.h1; have hr2:=r.h2; have hr3:=r.h3; have hr4:=r.h4; have hr5:=r.d1; have hr6:=r.d2; have hr0:=r.d0
 refine bB.intro Tryz.func33 rfl Tryz.ntmps33 rfl (fun cx=>(ts (rn rfl (gQ (Ht rfl)) fun B1=>(rn rfl (eG (Ts:=[Is (.bool false),Is (.slice none 0 0),Is (.bool false),Is (.slice none 0 0),Is (.slice none 0 0)]) O_60 rfl (fun V=>aW zd (aW zd (aW zd (aW zd (aW zd (aG))))))) fun B2=>(eX (cK (iT (fun (uu:Unit)=>True) (fun (uu:Unit)=>[(1,cE B1 0),(2,cE B2 0)]) (fun (uu:Unit)=>[box B1 48 [aF .i64 r.re,aF .i64 r.im,aF .i64 r.d],box B2 60 [Is (.bool false),Is (.slice none 0 0),Is (.bool false),Is (.slice none 0 0),Is (.slice none 0 0)]]) ?_ (fun uu _=>?_))))))))
 ·refine ts (ro rfl (eJ nP (Ht rfl) rfl) (ro rfl (fQ A_2 Z_2 (Ht rfl) (i := 0) rfl rfl) (ro rfl (iY (Ht rfl) cV) (eX (dQ (Ht rfl) (fun hb => ?_) (fun hb => ?_))))))
  ·simp only [decide_eq_true_eq] at hb
   refine cY (ro rfl (eJ nP (Ht rfl) rfl) (kE Z_2 (Ht rfl) (cJ 1) (i:=0) rfl (aK rfl) rfl (eX (aP () trivial (zS rfl) (aU (aB (by rw [Rt.d,if_pos hb]; rfl)) (aU (aB rfl) aY))))))
  ·simp only [decide_eq_false_iff_not] at hb
   refine cU (aP () trivial (zS rfl) (aU (aB (by rw [Rt.d,if_neg hb])) (aU (aB rfl) aY)))
 ·refine ts (ro rfl (eJ oY (Ht rfl) rfl) (ro rfl (fQ A_2 Z_2 (Ht rfl) (i := 0) rfl rfl) (ro rfl (eJ Bf (Ht rfl) rfl) (ro rfl (fQ A_2 Z_2 (Ht rfl) (i := 0) rfl rfl) (ro rfl (eJ nP (Ht rfl) rfl) (ro rfl (fQ A_2 Z_2 (Ht rfl) (i := 0) rfl rfl) (ro rfl (cZ Tryz.call108 (a0i hr1 hr2 hr3 hr4 hr5 hr6 hr0) ⟨(Ht rfl), (Ht rfl), (Ht rfl), trivial⟩) (rm rfl (ro rfl (dK (Ht rfl) rfl) (ro rfl (dK (Ht rfl) rfl) (rn rfl (eG (Ts := [Is (.bool false), Is (.slice none 0 0), Is (.bool false), Is (.slice none 0 0), Is (.slice none 0 0)]) O_60 rfl (fun V => aW zd (aW zd (aW zd (aW zd (aW zd (aG))))))) fun B3 => ?_)))))))))))
  refine gV Z_60 (Ht rfl) (Ht rfl) rfl (i:=2) rfl (aK rfl) rfl rfl (ra rfl (eX (ts (ro rfl (eW A_60 Z_60 (Ht rfl) (i:=2) rfl rfl rfl) (gV Z_60 (Ht rfl) (Ht rfl) rfl (i:=1) rfl (aK rfl) rfl rfl (eX ?_))))))
  exact fU rfl (gX A_60 Z_60 rfl (i:=1) rfl rfl)
theorem tG {l:List Rt} (hl:l.length ≤ 1000000):bB Tryz.prog 48 [jD l] (bL (l.map Rt.q)):=by
 refine bB.intro Tryz.func48 rfl Tryz.ntmps48 rfl (fun cx=>(ts (ro rfl (cQ cV) (eX (ts (rm rfl (ro rfl (dG U_22 (Ht rfl) aA) (rn rfl (iJ (T:=aD Qi.zero) (i:=Tryz.t60) jP iM rfl rfl (Ht rfl) rfl gH (El.ag rfl) (by show 88 * _ ≤ _; omega) zo) fun B8=>(ra rfl (eX (cK (ts (rm rfl (ro rfl (dG U_22 (Ht rfl) aA) (ro rfl (cX (cJ 0)) (eX (eK ?_)))))))))))))))))
 refine gR (fun (k : Nat) (out : List Qi) => lS (fun i => (l.getD i default).q) l.length out k) (fun (k : Nat) (out : List Qi) => l.length - k) (fun (k : Nat) (out : List Qi) => [(3, Is B8), (9, jD l), (10, NT .i64 l.length), (11, NT .i64 k)]) (fun (k : Nat) (out : List Qi) => [bE 60 5 B8 (out.map aD)]) 0 (List.replicate l.length Qi.zero) (lS.start _ _ _)
  (zS rfl) (aU (bA (qH aD _ _)) aY) (fun k out hS=>?_)
 refine ts (ro rfl (gW (Ht rfl) (Ht rfl)) (eX (cK (dQ (Ht rfl) (fun hk=>?_) (fun hk=>?_)))))
 ·simp only [decide_eq_true_eq] at hk
  have hlen:=hS.len
  refine cU (cK (eK (ts (rm rfl (ro rfl (dZ U_22 Z_48 (Ht rfl) (Ht rfl) rfl (dY (dU (d:=default) hk))) (ro rfl (dJ A_48 Z_48 (Ht rfl)) (rn rfl (eG (Ts:=[Is (.int .i64 0),Is (.int .i64 0),Is (.int .i64 0)]) O_48 rfl (fun V=>aW zd (aW zd (aW zd (aG))))) fun B5=>(ra rfl (gV Z_48 (Ht rfl) (Ht rfl) rfl (i:=1) rfl (aK rfl) rfl rfl (eX (cY (rm rfl (rm rfl (ro rfl (eW A_48 Z_48 (Ht rfl) (i:=1) rfl rfl rfl) ?_))))))))))))))
  refine ro rfl (cZ Tryz.call33 Ic ⟨(Ht rfl),trivial⟩) (ro rfl (cC U_25 Z_60 (Ht rfl) (Ht rfl) rfl (i:=0) rfl (by first | omega | (simp; omega)) rfl) (jY Z_60 (Ht rfl) (Ht rfl) (El.ag rfl) (i:=0) rfl rfl (by first | omega | (simp; omega)) rfl (eX (bI (cY (ro rfl (dV (Ht rfl) (cJ 1) z6) (rm rfl (eX (bO [0] rfl (by decide) (gZ (k + 1,_) (hS.next hk rfl) (by dsimp only; omega) (zS rfl) (aU (bA (fB aD _ _ _)) aY)))))))))))
 ·simp only [decide_eq_false_iff_not] at hk
  obtain rfl:k = l.length:=Nat.le_antisymm hS.kle zo
  have hfin:=hS.fin
  rw [qM l Rt.q] at hfin
  refine gU rfl (gK (i:=0) (tt:=3) rfl rfl eN (ts (rm rfl (ra rfl (eX (fU rfl (fV (eY rfl) ?_)))))))
  exact (iQ (by rw [hfin]))
end
section
open Go Go.RowKit
theorem qQ (ds:List Nat) (hd:jG ds) (hl:ds.length ≤ 1152921504606846976):bB Tryz.prog 254 [rM ds] (aL (val ds)):=by
 refine bB.intro Tryz.func254 rfl Tryz.ntmps254 rfl (fun cx=>(ts (ro rfl (cQ cV) (eX (ts (rm rfl (ro rfl (dG U_55 (Ht rfl) aA) (ra rfl (eX (cK (eK ?_)))))))))))
 refine dB (fun (k : Nat) => k ≤ ds.length ∧ ∀ i, k ≤ i → i < ds.length → ds.getD i 0 = 0) (fun (k : Nat) => k) (fun (k : Nat) => [(0, rM ds), (3, NT .i64 k)]) (fun (k : Nat) => []) ds.length ⟨Nat.le_refl _, fun i h1 h2 => by omega⟩
  (zS rfl) aY (fun k ⟨hk,hz⟩=>?_)
 refine cK (ts (rm rfl (ro rfl (eO (Ht rfl) (cJ 0)) (rm rfl (fJ rfl rfl (eU rfl rfl (Ht rfl) (fun h=>cX (Ht rfl))) (fJ rfl rfl (eU rfl rfl (Ht rfl) (fun h=>cX (Ht rfl))) (fJ rfl rfl (eU rfl rfl (Ht rfl) (fun h=>dW (fG rfl h) (cJ 1) (by first | omega | (simp at h; omega)) (by show _ < 9223372036854775808; first | omega | (simp at h; omega)))) (fJ rfl rfl (eU rfl rfl (Ht rfl) (fun h=>dZ U_55 Z_218 (fG rfl h) (fG rfl h) rfl (dY (aH (by first | omega | (simp at h; omega)))))) ?_))))))))
 refine fJ rfl rfl (eU rfl rfl (Ht rfl) (fun h=>dJ A_218 Z_218 (fG rfl h))) (fJ rfl rfl (eU rfl rfl (Ht rfl) (fun h=>cB (fG rfl h) (cJ 0))) (ro rfl (eC (Ht rfl) (fun h=>(fG rfl h))) (eX (dQ (Ht rfl) (fun hb=>?_) (fun hb=>?_)))))
 ·simp at hb
  refine cU (eK (cY (rm rfl (ro rfl (dW (Ht rfl) (cJ 1) zo z6) (ra rfl (eX (bI (gZ (k - 1) ⟨by omega,fun i h1 h2=>?_⟩ zo (zS rfl) aY))))))))
  by_cases e2:i = k - 1
  ·subst e2; simpa using hb.2
  ·exact hz i zo h2
 ·have hn : k = 0 ∨ ds.getD (k - 1) 0 ≠ 0 := by
   simp only [Bool.and_eq_false_iff,decide_eq_false_iff_not] at hb
   rcases hb with h1 | h1
   ·left; omega
   ·right; exact h1
  have hfin:=In hd hk hz hn
  refine gU rfl (ts (rm rfl (rm rfl (ro rfl (oO U_55 Z_218 (Ht rfl) (Ht rfl) (fun m e=>by cases e) zo (by simp; omega) rfl) ?_))))
  refine ra rfl (eX (fU rfl (fV (eY rfl) ?_)))
  exact (Dl (by rw [hfin]; simp))
theorem xC {m:Nat} (hm:m < 18446744073709551616):bB Tryz.prog 257 [NT .u64 m] (aL m):=by
 refine bB.intro Tryz.func257 rfl Tryz.ntmps257 rfl (fun cx=>(ts (ro rfl (cQ cV) (eX (ts (rm rfl (ro rfl (fN rfl U_263 U_218 (Ht rfl)) (rm rfl (ro rfl (eH (Ht rfl) (cJ 32) (by decide)) (ro rfl (fN rfl U_263 U_218 (Ht rfl)) (ro rfl (eM (xs:=[.tmp 4,.tmp 7]) U_55 Z_218 O_218 (cW (Ht rfl) (cW (Ht rfl) cG)) rfl rfl rfl) (ro rfl (cZ K_254 (qQ [m % 4294967296,m / 2 ^ 32 % 4294967296] (a0q _ _) (by simp)) ⟨(Ht rfl),trivial⟩) ?_))))))))))))
 refine ra rfl (eX (fU rfl (fV (eY rfl) ?_)))
 exact (cL (zV hm))
theorem Kg {m n:Nat} (hm:(dg m).length ≤ 1152921504606846976) (hn:(dg n).length ≤ 1152921504606846976):bB Tryz.prog 201 [aL m,aL n] (aF .i64 (nV m n)):=by
 refine bB.intro Tryz.func201 rfl Tryz.ntmps201 rfl (fun cx=>(ts (ro rfl (cQ (cJ 0)) (eX (cK (ts (rm rfl (ro rfl (dG U_55 (Ht rfl) aA) (rm rfl (ro rfl (dG U_55 (Ht rfl) aA) (ro rfl (gD (Ht rfl) (Ht rfl)) (eX (dQ (Ht rfl) (fun hb=>?_) (fun hb=>?_))))))))))))))
 ·simp at hb
  refine cK (ts (rm rfl (ro rfl (dG U_55 (Ht rfl) aA) (rm rfl (ro rfl (dG U_55 (Ht rfl) aA) (ro rfl (gW (Ht rfl) (Ht rfl)) (eX (dQ (Ht rfl) (fun hb2=>?_) (fun hb2=>?_)))))))))
  ·simp at hb2
   have hlt:=Bc hb2
   refine ts (ro rfl (cQ cV) (eX (fU rfl (fV (eY rfl) ?_))))
   exact (aT (by simp [nV,hlt]))
  ·simp at hb2
   have hlt:=Bc (a:=n) (b:=m) zo
   refine cU (ts (ro rfl (cQ (cJ 1)) (eX (fU rfl (fV (eY rfl) ?_)))))
   exact (aT (by simp [nV,hlt,Nat.lt_asymm hlt]))
 ·simp at hb
  refine cU (cK (ts (rm rfl (ro rfl (dG U_55 (Ht rfl) aA) (ro rfl (gI (Ht rfl) cV (tB zo)) (ra rfl (eX (eK ?_))))))))
  refine dB (fun (k : Nat) => k ≤ (dg m).length ∧ ∀ i, k ≤ i → i < (dg m).length → (dg m).getD i 0 = (dg n).getD i 0) (fun (k : Nat) => k) (fun (k : Nat) => [(0, aL m), (1, aL n), (5, aF .i64 ((k : Int) - 1))]) (fun (k : Nat) => []) (dg m).length ⟨Nat.le_refl _, fun i h1 h2 => by omega⟩
   (zS rfl) aY (fun k ⟨hk,he⟩=>?_)
  refine cK (ts (rm rfl (ro rfl (lB (Ht rfl) cV) (eX (dQ (Ht rfl) (fun hk1=>?_) (fun hk1=>?_))))))
  ·simp at hk1
   refine cU (cK (eK (cK (fW (m:=8) (dp 0 rfl (cX (Ht rfl)) (dp 5 rfl (cX (Ht rfl)) (dP 23 0 24 1 rfl (dZ U_55 Z_218 (Ht rfl) (Ht rfl) (show ((k:Int) - 1) = ((k - 1:Nat):Int) by omega) (dY (aH zo))) (dq 25 2 rfl (dJ A_218 Z_218 (Ht rfl)) (dp 1 rfl (cX (Ht rfl)) (dp 5 rfl (cX (Ht rfl)) (dP 27 4 28 5 rfl (dZ U_55 Z_218 (Ht rfl) (Ht rfl) (show ((k:Int) - 1) = ((k - 1:Nat):Int) by omega) (dY (aH zo))) (dq 29 6 rfl (dJ A_218 Z_218 (Ht rfl)) ?_))))))))))))
   refine fK bC rfl (by kernel_rfl) (zF (zF (aV (ro rfl (gD (Ht rfl) (Ht rfl)) (eX (dQ (Ht rfl) (fun h1=>?_) (fun h1=>?_)))))))
   ·simp only [Bool.not_eq_true', decide_eq_false_iff_not] at h1
    refine cK (cK (fW (m:=8) (dp 0 rfl (cX (Ht rfl)) (dp 5 rfl (cX (Ht rfl)) (dP 32 0 33 1 rfl (dZ U_55 Z_218 (Ht rfl) (Ht rfl) (show ((k:Int) - 1) = ((k - 1:Nat):Int) by omega) (dY (aH zo))) (dq 34 2 rfl (dJ A_218 Z_218 (Ht rfl)) (dp 1 rfl (cX (Ht rfl)) (dp 5 rfl (cX (Ht rfl)) (dP 36 4 37 5 rfl (dZ U_55 Z_218 (Ht rfl) (Ht rfl) (show ((k:Int) - 1) = ((k - 1:Nat):Int) by omega) (dY (aH zo))) (dq 38 6 rfl (dJ A_218 Z_218 (Ht rfl)) ?_))))))))))
    refine fK bC rfl (by kernel_rfl) (zF (zF (aV (ro rfl (gW (Ht rfl) (Ht rfl)) (eX (dQ (Ht rfl) (fun h2=>?_) (fun h2=>?_)))))))
    ·simp only [decide_eq_true_eq] at h2
     have hlt:=vK (bF m) (bF n) hb (k:=k - 1) zo (fun i h2 h3=>he i zo h3) h2
     rw [cM,cM] at hlt
     refine ts (ro rfl (cQ cV) (eX (fU rfl (fV (eY rfl) ?_))))
     exact (aT (by simp [nV,hlt]))
    ·simp only [decide_eq_false_iff_not] at h2
     have hlt:=vK (bF n) (bF m) hb.symm (k:=k - 1) zo (fun i h2 h3=>(he i zo zo).symm) zo
     rw [cM,cM] at hlt
     refine cU (ts (ro rfl (cQ (cJ 1)) (eX (fU rfl (fV (eY rfl) ?_)))))
     exact (aT (by simp [nV,hlt,Nat.lt_asymm hlt]))
   ·simp only [Bool.not_eq_false', decide_eq_true_eq] at h1
    refine cU (bI (cY (rm rfl (ro rfl (gI (Ht rfl) cV (tB zo)) (ra rfl (eX (gZ (k - 1) ⟨by omega,fun i h3 h4=>(by by_cases e:i = k - 1; (· subst e; omega); exact he i zo h4)⟩ zo (aQ rfl (aQ rfl (aZ rfl (aT zo) aX))) aY)))))))
  ·simp at hk1
   have hk0:k = 0:=by omega
   have heq : m = n := by
    have : dg m = dg n := by
     apply List.ext_getElem?
     intro i
     by_cases hi:i < (dg m).length
     ·have h5 := he i zo hi
      have h6:i < (dg n).length:=by omega
      simp [List.getD,hi,h6] at h5
      simp [hi,h6,h5]
     ·rw [List.getElem?_eq_none zo,List.getElem?_eq_none zo]
    rw [← cM m,this,cM]
   refine gU rfl (ts (ro rfl (cQ (cJ 0)) (eX (fU rfl (fV (eY rfl) ?_)))))
   exact (aT (by simp [nV,heq]))
theorem Cy {m y:Nat} (hm:(dg m).length ≤ 17592186044416) (hy:0 < y) (hyb:y < BB):bB Tryz.prog 276 [aL m,bM y] (dM [aL (m / y),bM (m % y)]):=by
 refine bB.intro Tryz.func276 rfl Tryz.ntmps276 rfl (fun cx=>?_)
 have hyb2:=hyb
 simp only [BB] at hyb2
 refine ts (ro rfl (cQ cV) (ro rfl (cQ (cJ 0)) (eX (ts (rm rfl (ro rfl (dG U_55 (Ht rfl) aA) (rn rfl (fM (T:=bM 0) (i:=Tryz.t218) V_55 iW rfl rfl (Ht rfl) rfl (fun _=>rfl) trivial (by show 4 * _ ≤ _; omega) zo) fun B12=>(ra rfl (eX (ts (ro rfl (cQ (cJ 0)) (eX (cK (ts (rm rfl (ro rfl (dG U_55 (Ht rfl) aA) (ro rfl (gI (Ht rfl) cV (tB zo)) (ra rfl (eX (eK ?_))))))))))))))))))))
 refine jS (fun (k : Nat) (out : List Nat) (r : Nat) => mX (dg m) y out k r) (fun (k : Nat) (out : List Nat) (r : Nat) => k) (fun (k : Nat) (out : List Nat) (r : Nat) => [(0, aL m), (1, bM y), (6, Is (.slice (some ⟨B12, 0, none⟩) (dg m).length (dg m).length)), (7, NT .u64 r), (8, aF .i64 ((k : Int) - 1))]) (fun (k : Nat) (out : List Nat) (r : Nat) => [box B12 218 (out.map bM)]) (dg m).length (List.replicate (dg m).length 0) 0 (mX.start _ hy)
  (zS rfl) (aU (aB (lD _)) aY) (fun k out r hS=>?_)
 refine cK (ts (rm rfl (ro rfl (lB (Ht rfl) cV) (eX (dQ (Ht rfl) (fun hb=>?_) (fun hb=>?_))))))
 ·simp at hb
  have hlen:=hS.len; have hkl:=hS.kle; have hrl:=hS.rlt; have hxk:=aS (bF m) (k - 1)
  have hz2:=Qu (Nat.lt_trans hrl hyb) hxk; have hsh:=Ew (Nat.lt_trans hrl hyb); have hq:=Ae hrl hxk; have hor:=rW (a:=r) hxk; have hmod:=Nat.mod_lt (r * BB + (dg m).getD (k - 1) 0) hy
  have hxk2:=hxk
  simp only [BB] at hxk2
  refine cU (cK (eK (ts (rm rfl (ro rfl (lP (Ht rfl) (cJ 32) (by decide) hsh) (rm rfl (rm rfl (ro rfl (dZ U_55 Z_218 (Ht rfl) (Ht rfl) (show ((k:Int) - 1) = ((k - 1:Nat):Int) by omega) (dY (aH zo))) (ro rfl (dJ A_218 Z_218 (Ht rfl)) (ro rfl (gG U_218 U_263 (Ht rfl) z7) (ro rfl (aE.nat (nE rfl (Ht rfl) (Ht rfl) z7 z7) hor) ?_)))))))))))
  refine ra rfl (eX (ts (rm rfl (rm rfl (rm rfl (rm rfl (ro rfl (gG U_218 U_263 (Ht rfl) z7) (ro rfl (iP (Ht rfl) (Ht rfl) zo (by show _ < 18446744073709551616; exact hz2)) (ro rfl (gG U_263 U_218 (Ht rfl) (by show _ < 4294967296; exact hq)) (ro rfl (gJ U_55 Z_218 (Ht rfl) (Ht rfl) (show ((k:Int) - 1) = ((k - 1:Nat):Int) by omega) zo (by rw [Nat.mul_one,Nat.zero_add])) ?_))))))))))
  refine kE Z_218 (Ht rfl) (Ht rfl) (i:=0) rfl (by first | omega | (simp; omega)) rfl (eX (cY (rm rfl (rm rfl (ro rfl (gG U_218 U_263 (Ht rfl) z7) (ro rfl (jW (Ht rfl) (Ht rfl) zo) (ra rfl (eX (bI (cY (rm rfl (ro rfl (gI (Ht rfl) cV (tB zo)) (ra rfl (eX (gZ (k - 1,_,_) (hS.next (bF m) zo rfl) (by dsimp only; omega) (aQ rfl (aQ rfl (aQ rfl (aQ rfl (aZ rfl (aT zo) aX))))) (aU (aB (fL _ _ _)) aY))))))))))))))))
 ·simp at hb
  have hk0:k = 0:=by omega
  subst hk0
  have hlen:=hS.len; have hrl:=hS.rlt
  have hfin:=hS.fin
  rw [cM] at hfin
  refine gU rfl (gK (i:=0) (tt:=6) rfl rfl (lK rfl hlen.symm (Nat.le_refl _)) (ts (rm rfl (ro rfl (cZ K_254 (qQ _ hS.dig zo) ⟨(Ht rfl),trivial⟩) (rm rfl (ro rfl (gG U_263 U_218 (Ht rfl) (by show _ < 4294967296; first | omega | (simp only [kP]; omega))) (ra rfl (ra rfl (eX (bN rfl (fV (eY rfl) ?_) (fV (eY rfl) ?_)))))))))))
  ·exact (cL hfin.1)
  ·exact (kT hfin.2)
end
section
open Go Go.RowKit
theorem So {m:Nat} (hm:(dg m).length ≤ 17592186044416) (h0:m ≠ 0):bB Tryz.prog 277 [aL m] (NT .i64 (32 * ((dg m).length - 1) + bl ((dg m).getD ((dg m).length - 1) 0))):=by
 have hl:(dg m).length ≠ 0:=fun e=>h0 (aI.1 e)
 have htl:=aS (bF m) ((dg m).length - 1)
 obtain ⟨v,hv⟩:∃ v,v = (dg m).getD ((dg m).length - 1) 0:=⟨_,rfl⟩
 rw [← hv] at htl ⊢
 simp only [BB] at htl
 have hb32:=lW (k:=32) htl
 refine bB.intro Tryz.func277 rfl Tryz.ntmps277 rfl (fun cx=>(ts (ro rfl (cQ (cJ 0)) (eX (cK (ts (rm rfl (ro rfl (dG U_55 (Ht rfl) aA) (ro rfl (cB (Ht rfl) (cJ 0)) (eX (fR (Ht rfl) (by simpa using hl) ?_)))))))))))
 refine cU (ts (ro rfl (cQ (cJ 0)) (eX (cK (ts (rm rfl (rm rfl (ro rfl (dG U_55 (Ht rfl) aA) (ro rfl (dW (Ht rfl) (cJ 1) zo z6) (ro rfl (dZ U_55 Z_218 (Ht rfl) (Ht rfl) rfl (dY (aH zo))) (ro rfl (dJ A_218 Z_218 (Ht rfl)) (ra rfl (eX (eK ?_))))))))))))))
 refine gR (fun (x : Nat) (q : Nat) => bl v = q + bl x ∧ x < 4294967296) (fun (x : Nat) (q : Nat) => x) (fun (x : Nat) (q : Nat) => [(0, aL m), (3, NT .i64 q), (4, bM x)]) (fun (x : Nat) (q : Nat) => []) v 0 ⟨(Nat.zero_add _).symm, htl⟩
  (aQ rfl (aQ rfl (aZ rfl (kT hv.symm) aX))) aY (fun x q ⟨hq,hx⟩=>?_)
 refine cK (ts (rm rfl (ro rfl (eO (Ht rfl) (cJ 0)) (eX (dQ (Ht rfl) (fun hb=>?_) (fun hb=>?_))))))
 ·simp at hb
  have hsh:=Rv (v:=x) zo
  refine cU (cK (eK (cY (rm rfl (ro rfl (dV (Ht rfl) (cJ 1) z6) (ra rfl (eX (bI (cY (rm rfl (ro rfl (eH (Ht rfl) (cJ 1) (by decide)) (ra rfl (eX (gZ (x / 2 ^ 1,q + 1) ⟨by dsimp only; omega,by dsimp only; omega⟩ (by dsimp only; omega) (zS rfl) aY))))))))))))))
 ·simp at hb
  subst hb
  rw [Rw] at hq
  refine gU rfl (ts (rm rfl (ro rfl (dG U_55 (Ht rfl) aA) (ro rfl (dW (Ht rfl) (cJ 1) zo z6) (ro rfl (jV (cJ 32) (Ht rfl) z6) (rm rfl (ro rfl (dV (Ht rfl) (Ht rfl) z6) (ra rfl (eX (fU rfl (fV (eY rfl) ?_)))))))))))
  exact (kT zo)
theorem Nm {m k:Nat} (hm:(dg m).length ≤ 17592186044416) (hk:k ≤ 562949953421312):bB Tryz.prog 278 [aL m,NT .i64 k] (aL (m * 2 ^ k)):=by
 refine bB.intro Tryz.func278 rfl Tryz.ntmps278 rfl (fun cx=>(ts (ro rfl (cQ cV) (eX (cK (ts (rm rfl (ro rfl (dG U_55 (Ht rfl) aA) (ro rfl (cB (Ht rfl) (cJ 0)) (eX (dQ (Ht rfl) (fun hb=>?_) (fun hb=>?_))))))))))))
 ·simp [aI] at hb
  have h0:m * 2 ^ k = 0:=by simp_all [oG]
  refine ts (ro rfl (cQ cV) (eX (fU rfl (fV (eY rfl) ?_))))
  exact (fun v V h=>by rw [h0]; exact jO v V h)
 ·clear hb
  have hr:=Nat.mod_lt k (by decide:32 > 0)
  refine cU (ts (rm rfl (ro rfl (dG U_55 (Ht rfl) aA) (rm rfl (ro rfl (iP (Ht rfl) (cJ 32) zo z6) (ro rfl (dV (Ht rfl) (Ht rfl) z6) (ro rfl (dV (Ht rfl) (cJ 1) z6) (rn rfl (fM (T:=bM 0) (i:=Tryz.t218) V_55 iW rfl rfl (Ht rfl) rfl (fun _=>rfl) trivial (by show 4 * _ ≤ _; omega) zo) fun B17=>?_))))))))
  refine ra rfl (eX (cK (ts (ro rfl (cQ (cJ 0)) (eX (eK ?_))))))
  refine gR (fun (i : Nat) (out : List Nat) => wR (dg m) (k / 32) (k % 32) out i) (fun (i : Nat) (out : List Nat) => (dg m).length - i) (fun (i : Nat) (out : List Nat) => [(0, aL m), (1, NT .i64 k), (5, Is (.slice (some ⟨B17, 0, none⟩) ((dg m).length + k / 32 + 1) ((dg m).length + k / 32 + 1))), (6, NT .i64 i)]) (fun (i : Nat) (out : List Nat) => [box B17 218 (out.map bM)]) 0 (List.replicate ((dg m).length + k / 32 + 1) 0) (wR.start _ _ _)
   (zS rfl) (aU (aB (lD _)) aY) (fun i out hS=>?_)
  refine cK (ts (rm rfl (rm rfl (ro rfl (dG U_55 (Ht rfl) aA) (ro rfl (gW (Ht rfl) (Ht rfl)) (eX (dQ (Ht rfl) (fun hb=>?_) (fun hb=>?_))))))))
  ·simp at hb
   have hlen:=hS.len; have hxi:=aS (bF m) i; have hok:=aS hS.dig (i + k / 32)
   have hv:=Ad hxi hr
   have hd:(dg m).getD i 0 * 2 ^ (k % 32) / 2 ^ 32 < 4294967296:=Nat.div_lt_of_lt_mul hv
   simp only [BB] at hxi hok
   refine cU (cK (eK (ts (rm rfl (rm rfl (ro rfl (dZ U_55 Z_218 (Ht rfl) (Ht rfl) rfl (dY (aH zo))) (ro rfl (dJ A_218 Z_218 (Ht rfl)) (ro rfl (gG U_218 U_263 (Ht rfl) z7) (rm rfl (ro rfl (jW (Ht rfl) (cJ 32) zo) (ro rfl (gG U_3 U_264 (Ht rfl) z7) (ro rfl (lP (Ht rfl) (Ht rfl) (by show _ ≤ _; simp [IntKind.bits]; omega) (by show _ < 18446744073709551616; exact hv)) ?_))))))))))))
   refine ra rfl (eX (ts (rm rfl (rm rfl (rm rfl (ro rfl (iP (Ht rfl) (cJ 32) zo z6) (ro rfl (dV (Ht rfl) (Ht rfl) z6) (rm rfl (rm rfl (rm rfl (ro rfl (iP (Ht rfl) (cJ 32) zo z6) (ro rfl (dV (Ht rfl) (Ht rfl) z6) (ro rfl (gJ U_55 Z_218 (Ht rfl) (Ht rfl) rfl zo (by rw [Nat.mul_one,Nat.zero_add])) ?_)))))))))))))
   refine ro rfl (fQ A_218 Z_218 (Ht rfl) (i:=0) rfl (dY (aH zo))) (rm rfl (ro rfl (fN rfl U_263 U_218 (Ht rfl)) (ro rfl (nE rfl (Ht rfl) (Ht rfl) (by show _ < 4294967296; omega) (by show _ % 4294967296 < 4294967296; omega)) (ro rfl (gJ U_55 Z_218 (Ht rfl) (Ht rfl) rfl zo (by rw [Nat.mul_one,Nat.zero_add])) ?_))))
   refine kE Z_218 (Ht rfl) (Ht rfl) (i:=0) rfl (by first | omega | (simp; omega)) rfl (eX (cY (rm rfl (rm rfl (rm rfl (ro rfl (iP (Ht rfl) (cJ 32) zo z6) (ro rfl (dV (Ht rfl) (Ht rfl) z6) (ro rfl (dV (Ht rfl) (cJ 1) z6) (rm rfl (ro rfl (eH (Ht rfl) (cJ 32) (by decide)) (ro rfl (gG U_263 U_218 (Ht rfl) (by show _ < 4294967296; exact hd)) ?_)))))))))))
   refine ro rfl (gJ U_55 Z_218 (Ht rfl) (Ht rfl) rfl zo (by rw [Nat.mul_one,Nat.zero_add])) ?_
   refine kE Z_218 (Ht rfl) (Ht rfl) (i:=0) rfl (by first | omega | (simp; omega)) rfl (eX (bI (cY (rm rfl (ro rfl (dV (Ht rfl) (cJ 1) z6) (ra rfl (eX (gZ (i + 1,_) (hS.next (bF m) hr hb rfl rfl) (by dsimp only; omega) (zS rfl) (aU (aB (Eu _ _ _ _ _)) aY)))))))))
  ·simp at hb
   have hkl:i = (dg m).length:=Nat.le_antisymm hS.kle hb
   subst hkl
   have hlen:=hS.len
   have hfin:=hS.fin
   rw [cM,kV] at hfin
   refine gU rfl (gK (i:=0) (tt:=5) rfl rfl (lK rfl hlen.symm (Nat.le_refl _)) (ts (rm rfl (ro rfl (cZ K_254 (qQ _ hS.dig zo) ⟨(Ht rfl),trivial⟩) (ra rfl (eX (fU rfl (fV (eY rfl) ?_))))))))
   exact (cL hfin)
theorem Ya {m k:Nat} (hm:(dg m).length ≤ 17592186044416) (hk:k ≤ 562949953421312):bB Tryz.prog 279 [aL m,NT .i64 k] (aL (m / 2 ^ k)):=by
 refine bB.intro Tryz.func279 rfl Tryz.ntmps279 rfl (fun cx=>?_)
 have hr:=Nat.mod_lt k (by decide:32 > 0)
 refine ts (ro rfl (cQ cV) (eX (cK (ts (rm rfl (ro rfl (iP (Ht rfl) (cJ 32) zo z6) (rm rfl (ro rfl (dG U_55 (Ht rfl) aA) (ro rfl (nS (Ht rfl) (Ht rfl)) (eX (dQ (Ht rfl) (fun hb=>?_) (fun hb=>?_))))))))))))
 ·simp at hb
  have h0:=Ey (bF m) hb (r:=k % 32)
  rw [cM,kV] at h0
  refine ts (ro rfl (cQ cV) (eX (fU rfl (fV (eY rfl) ?_))))
  exact (fun v V h=>cL h0.symm v V (jO v V h))
 ·simp at hb
  refine cU (ts (rm rfl (ro rfl (dG U_55 (Ht rfl) aA) (rm rfl (ro rfl (iP (Ht rfl) (cJ 32) zo z6) (ro rfl (dW (Ht rfl) (Ht rfl) zo z6) (rn rfl (fM (T:=bM 0) (i:=Tryz.t218) V_55 iW rfl rfl (Ht rfl) rfl (fun _=>rfl) trivial (by show 4 * _ ≤ _; omega) zo) fun B18=>(ra rfl (eX (cK (ts (ro rfl (cQ (cJ 0)) (eX (eK ?_))))))))))))))
  refine gR (fun (i : Nat) (out : List Nat) => wS (dg m) (k / 32) (k % 32) out i) (fun (i : Nat) (out : List Nat) => (dg m).length - i) (fun (i : Nat) (out : List Nat) => [(0, aL m), (1, NT .i64 k), (5, Is (.slice (some ⟨B18, 0, none⟩) ((dg m).length - k / 32) ((dg m).length - k / 32))), (6, NT .i64 i)]) (fun (i : Nat) (out : List Nat) => [box B18 218 (out.map bM)]) 0 (List.replicate ((dg m).length - k / 32) 0) (wS.start _ _ _)
   (zS rfl) (aU (aB (lD _)) aY) (fun i out hS=>?_)
  refine cK (ts (rm rfl (rm rfl (ro rfl (jU U_55 (Ht rfl)) (ro rfl (gW (Ht rfl) (Ht rfl)) (eX (dQ (Ht rfl) (fun hb=>?_) (fun hb=>?_))))))))
  ·simp at hb
   have hlen:=hS.len; have hx0:=aS (bF m) (i + k / 32); have hx1:=aS (bF m) (i + k / 32 + 1)
   have hio:i < out.length:=by omega
   simp only [BB] at hx0 hx1
   refine cU (cK (eK (ts (rm rfl (rm rfl (rm rfl (ro rfl (iP (Ht rfl) (cJ 32) zo z6) (ro rfl (dV (Ht rfl) (Ht rfl) z6) (ro rfl (dZ U_55 Z_218 (Ht rfl) (Ht rfl) rfl (dY (aH zo))) (ro rfl (dJ A_218 Z_218 (Ht rfl)) (ro rfl (gG U_218 U_263 (Ht rfl) z7) ?_)))))))))))
   refine ra rfl (eX (cK (iT (fun (v:Nat)=>v = (dg m).getD (i + k / 32) 0 + BB * (dg m).getD (i + k / 32 + 1) 0) (fun (v:Nat)=>[(0,aL m),(1,NT .i64 k),(5,Is (.slice (some ⟨B18,0,none⟩) ((dg m).length - k / 32) ((dg m).length - k / 32))),(6,NT .i64 i),(7,NT .u64 v)]) (fun (v:Nat)=>[box B18 218 (out.map bM)]) ?_ (fun v hv=>?_))))
   ·refine ts (rm rfl (rm rfl (ro rfl (iP (Ht rfl) (cJ 32) zo z6) (ro rfl (dV (Ht rfl) (Ht rfl) z6) (ro rfl (dV (Ht rfl) (cJ 1) z6) (rm rfl (ro rfl (dG U_55 (Ht rfl) aA) (ro rfl (gW (Ht rfl) (Ht rfl)) (eX (dQ (Ht rfl) (fun hk2 => ?_) (fun hk2 => ?_)))))))))))
    ·simp at hk2
     refine cY (rm rfl (rm rfl (rm rfl (rm rfl (ro rfl (iP (Ht rfl) (cJ 32) zo z6) (ro rfl (dV (Ht rfl) (Ht rfl) z6) (ro rfl (dV (Ht rfl) (cJ 1) z6) (ro rfl (dZ U_55 Z_218 (Ht rfl) (Ht rfl) rfl (dY (aH zo))) (ro rfl (dJ A_218 Z_218 (Ht rfl)) (ro rfl (gG U_218 U_263 (Ht rfl) z7) ?_))))))))))
     refine ro rfl (lP (Ht rfl) (cJ 32) (by decide) (by show _ < 18446744073709551616; omega)) (ro rfl (aE.nat (nE rfl (Ht rfl) (Ht rfl) z7 z7) (Jp hx0)) (ra rfl (eX (aP ((dg m).getD (i + k / 32) 0 + BB * (dg m).getD (i + k / 32 + 1) 0) rfl (zS rfl) (cT.refl _)))))
    ·simp at hk2
     refine cU (aP ((dg m).getD (i + k / 32) 0) (by simp [List.getD,List.getElem?_eq_none hk2]) (zS rfl) (cT.refl _))
   ·refine cY (rm rfl (rm rfl (rm rfl (rm rfl (ro rfl (jW (Ht rfl) (cJ 32) zo) (ro rfl (gG U_3 U_264 (Ht rfl) z7) (ro rfl (eH (Ht rfl) (Ht rfl) (by show _ ≤ 64; omega)) (ro rfl (fN rfl U_263 U_218 (Ht rfl)) (ro rfl (gJ U_55 Z_218 (Ht rfl) (Ht rfl) rfl zo (by rw [Nat.mul_one, Nat.zero_add])) ?_)))))))))
    refine kE Z_218 (Ht rfl) (Ht rfl) (i:=0) rfl (by first | omega | (simp; omega)) rfl (eX (bI (cY (rm rfl (ro rfl (dV (Ht rfl) (cJ 1) z6) (ra rfl (eX (gZ (i + 1,_) (hS.next (bF m) hr hio (by rw [hv]; rfl)) (by dsimp only; omega) (zS rfl) (aU (aB (fL _ _ _)) aY)))))))))
  ·simp at hb
   have hlen:=hS.len
   have hkl:i = out.length:=Nat.le_antisymm hS.kle zo
   subst hkl
   have hfin:=hS.fin (bF m) zo
   rw [cM,kV] at hfin
   refine gU rfl (gK (i:=0) (tt:=5) rfl rfl (lK rfl hlen.symm (Nat.le_refl _)) (ts (rm rfl (ro rfl (cZ K_254 (qQ _ hS.dig zo) ⟨(Ht rfl),trivial⟩) (ra rfl (eX (fU rfl (fV (eY rfl) ?_))))))))
   exact (cL hfin)
theorem tJ {m n:Nat} (hm:(dg m).length ≤ 17592186044415) (hn1:(dg n).length ≤ 17592186044416) (hn:n ≠ 0):bB Tryz.prog 250 [aL m,aL n] (dM [aL (m / n),aL (m % n)]):=by
 refine bB.intro Tryz.func250 rfl Tryz.ntmps250 rfl (fun cx=>(ts (ro rfl (cQ cV) (ro rfl (cQ cV) (eX (cK (ts (rm rfl (rm rfl (ro rfl (cZ Tryz.call201 (Kg zo zo) ⟨(Ht rfl),(Ht rfl),trivial⟩) (ro rfl (pG (Ht rfl) cV) (eX (dQ (Ht rfl) (fun hb=>?_) (fun hb=>?_))))))))))))))
 ·simp only [decide_eq_true_eq] at hb
  have hlt:m < n:=Il hb
  refine ts (rm rfl (ro rfl (cQ cV) (ra rfl (eX (bN rfl (fV (eY rfl) ?_) (fV (eY rfl) ?_))))))
  ·exact (fun v V h=>cL (Nat.div_eq_of_lt hlt).symm v V (jO v V h))
  ·exact (cL (Nat.mod_eq_of_lt hlt).symm)
 ·simp only [decide_eq_false_iff_not] at hb
  have hle:n ≤ m:=Ik zo
  clear hb
  refine cU (cK (ts (rm rfl (ro rfl (dG U_55 (Ht rfl) aA) (ro rfl (cB (Ht rfl) (cJ 1)) (eX (dQ (Ht rfl) (fun h1=>?_) (fun h1=>?_))))))))
  ·simp at h1
   have hy0:=Nt h1
   have hyb:=aS (bF n) 0
   have hmod:=Nat.mod_lt m (show (dg n).getD 0 0 > 0 by omega)
   have hyb2:=hyb
   simp only [BB] at hyb
   refine ts (rm rfl (rm rfl (ro rfl (dZ U_55 Z_218 (Ht rfl) (cJ 0) rfl (dY (aH zo))) (ro rfl (dJ A_218 Z_218 (Ht rfl)) (ro rfl (cZ Tryz.call276 (Cy zo zo hyb2) ⟨(Ht rfl),(Ht rfl),trivial⟩) (rm rfl (ro rfl (dK (Ht rfl) rfl) (ro rfl (dK (Ht rfl) rfl) (ra rfl (ra rfl (eX (ts (rm rfl (rm rfl (ro rfl (gG U_218 U_263 (Ht rfl) z7) (ro rfl (cZ Tryz.call257 (xC zo) ⟨(Ht rfl),trivial⟩) ?_))))))))))))))))
   refine ra rfl (ra rfl (eX (bN rfl (fV (eY rfl) ?_) (fV (eY rfl) ?_))))
   ·exact (cL (by rw [hy0]))
   ·exact (cL (by rw [hy0]))
  ·simp at h1
   have hl0:(dg n).length ≠ 0:=fun e=>hn (aI.1 e)
   have hyb:=aS (bF n) ((dg n).length - 1)
   obtain ⟨s,hs⟩:∃ s,s = 32 - bl ((dg n).getD ((dg n).length - 1) 0):=⟨_,rfl⟩
   obtain ⟨hs1,hvl,hvb⟩:=Di hn hs
   obtain ⟨hc1,hc2,hc3,hc4⟩:=Dd (m:=m) hs1
   have hbl:=lW (k:=32) hyb
   simp only [BB] at hyb
   have hp2:0 < 2 ^ s:=Nat.pow_pos (by decide)
   have hX0:(dg (m * 2 ^ s)).length ≠ 0:=fun e=>(Nat.ne_of_gt (Nat.mul_pos (show 0 < m by omega) hp2)) (aI.1 e)
   have hmono:=iA hle
   refine cU (ts (rm rfl (ro rfl (dG U_55 (Ht rfl) aA) (ro rfl (jV (cJ 32) (Ht rfl) z6) (rm rfl (ro rfl (cZ Tryz.call277 (So zo hn) ⟨(Ht rfl),trivial⟩) (ro rfl (aE.nat (dW (Ht rfl) (Ht rfl) zo z6) (show 32 * (dg n).length - (32 * ((dg n).length - 1) + bl ((dg n).getD ((dg n).length - 1) 0)) = s by omega)) (ra rfl (eX (ts (rm rfl (rm rfl (ro rfl (cZ Tryz.call278 (Nm zo zo) ⟨(Ht rfl),(Ht rfl),trivial⟩) ?_)))))))))))))
   refine ra rfl (eX (ts (rm rfl (ro rfl (dG U_55 (Ht rfl) aA) (ro rfl (dV (Ht rfl) (cJ 1) z6) (rn rfl (fM (T:=bM 0) (i:=Tryz.t218) V_55 iW rfl rfl (Ht rfl) rfl (fun _=>rfl) trivial (by show 4 * _ ≤ _; omega) zo) fun B57=>(ra rfl (eX (ts (rm rfl (rm rfl (rm rfl (ro rfl (cZ Tryz.call278 (Nm zo zo) ⟨(Ht rfl),(Ht rfl),trivial⟩) (Hl U_55 Z_218 (Ht rfl) (Ht rfl) (Pf hX0) Wx (i:=0) rfl (by simp) (by simp; omega) (De _ _) rfl rfl ?_))))))))))))))
   refine eX (cK ?_)
   obtain ⟨vs,hvs⟩:∃ vs,vs = dg (n * 2 ^ s):=⟨_,rfl⟩
   rw [← hvs] at hvl hvb
   have hv:jG vs:=hvs ▸ bF _
   have hvv:val vs = n * 2 ^ s:=by rw [hvs,cM]
   have hV0:0 < val vs:=by rw [hvv]; exact Nat.mul_pos zo hp2
   have hnr:=Jg hv zo hvb
   have hv1:=hnr.v1lt; have hv2:=hnr.v2lt; have hbig:=hnr.big
   simp only [BB] at hv1 hv2 hbig
   refine wT (E':=[(8,_),(9,_),(10,_)]) (aQ rfl (aZ rfl (Yi hvs.symm) (zS rfl))) (cY (rm rfl (ro rfl (dG U_55 (Ht rfl) aA) (ra rfl (eX (ts (rm rfl (ro rfl (jU U_55 (Ht rfl)) (rm rfl (ro rfl (dW (Ht rfl) (Ht rfl) zo z6) (rn rfl (fM (T:=bM 0) (i:=Tryz.t218) V_55 iW rfl rfl (Ht rfl) rfl (fun _=>rfl) trivial (by show 4 * _ ≤ _; omega) zo) fun B69=>(ra rfl (eX (cK ?_))))))))))))))
   refine ts (rm rfl (ro rfl (jU U_55 (Ht rfl)) (ro rfl (gI (Ht rfl) cV (tB zo)) (ra rfl (eX (eK ?_))))))
   refine jS (fun (k : Nat) (us : List Nat) (qs : List Nat) => mE (m * 2 ^ s) vs us qs k ∧ us.length = (dg m).length + 1) (fun (k : Nat) (us : List Nat) (qs : List Nat) => k) (fun (k : Nat) (us : List Nat) (qs : List Nat) => [(8, NT .i64 s), (9, rM vs), (10, Is (.slice (some ⟨B57, 0, none⟩) ((dg m).length + 1) ((dg m).length + 1))), (11, NT .i64 vs.length), (12, Is (.slice (some ⟨B69, 0, none⟩) ((dg m).length + 1 - vs.length) ((dg m).length + 1 - vs.length))), (13, aF .i64 ((k : Int) - 1))]) (fun (k : Nat) (us : List Nat) (qs : List Nat) => [box B57 218 (us.map bM), box B69 218 (qs.map bM)]) ((dg m).length + 1 - vs.length) (xG m s) (List.replicate ((dg m).length + 1 - vs.length) 0) ⟨mE.start hv zo hvb hs1 (by have := iH (bF m); rwa [cM] at this) hc3 hc2 hc4 zo, hc2⟩
    (aQ rfl (aQ rfl (aQ rfl (aQ rfl (aQ rfl (aZ rfl (aT zo) aX)))))) (aU (fun _ _ _ h=>h) (aU (aB (lD _)) aY)) (fun k us qs ⟨hS,hus⟩=>?_)
   refine cK (ts (rm rfl (ro rfl (lB (Ht rfl) cV) (eX (dQ (Ht rfl) (fun hk=>?_) (fun hk=>?_))))))
   ·simp at hk
    obtain ⟨j,rfl⟩:∃ j,k = j + 1:=⟨k - 1,by omega⟩
    have htp:=hS.top hv zo (Nat.succ_pos j) rfl
    have hkq:=hS.kle; have hlq:=hS.lenq
    rw [Nat.add_sub_cancel] at htp
    have hu0:=aS hS.dig (j + vs.length); have hu1:=aS hS.dig (j + vs.length - 1); have hu2:=aS hS.dig (j + vs.length - 2)
    have ht64:=Qu hu0 hu1; have hsh:=Ew hu0
    obtain ⟨top,htop⟩:∃ top,top = us.getD (j + vs.length) 0 * BB + us.getD (j + vs.length - 1) 0:=⟨_,rfl⟩
    have hor:=(rW (a:=us.getD (j + vs.length) 0) hu1).trans htop.symm
    rw [← htop] at htp ht64
    have hu2b:=hu2
    simp only [BB] at hu0 hu1 hu2
    refine wT (E':=[(8,_),(9,_),(10,_),(11,_),(12,_),(13,_),(73,_),(74,_)]) (aQ rfl (aQ rfl (aQ rfl (aQ rfl (aQ rfl (aZ rfl (aT (show ((j + 1:Nat):Int) - 1 = (j:Int) by omega)) (zS rfl))))))) (cU (cK (eK (cK (fW (m:=16) (dp 10 rfl (cX (Ht rfl)) (dp 13 rfl (cX (Ht rfl)) (dp 11 rfl (cX (Ht rfl)) (dP 78 1 79 2 rfl (dV (Ht rfl) (Ht rfl) z6) (dP 77 0 80 3 rfl (gJ U_55 Z_218 (Ht rfl) (Ht rfl) rfl zo (by rw [Nat.mul_one,Nat.zero_add])) ?_))))))))))
    refine dq 81 4 rfl (fQ A_218 Z_218 (Ht rfl) (i:=0) rfl (dY (aH zo))) (dq 82 5 rfl (gG U_218 U_263 (Ht rfl) z7) (dq 83 6 rfl (lP (Ht rfl) (cJ 32) (by decide) hsh) (dp 10 rfl (cX (Ht rfl)) (dp 13 rfl (cX (Ht rfl)) (dp 11 rfl (cX (Ht rfl)) (dP 86 9 87 10 rfl (dV (Ht rfl) (Ht rfl) z6) (dq 88 11 rfl (dW (Ht rfl) (cJ 1) zo z6) ?_)))))))
    refine dP 85 8 89 12 rfl (gJ U_55 Z_218 (Ht rfl) (Ht rfl) rfl zo (by rw [Nat.mul_one,Nat.zero_add])) ?_
    refine dq 90 13 rfl (fQ A_218 Z_218 (Ht rfl) (i:=0) rfl (dY (aH zo))) (dq 91 14 rfl (gG U_218 U_263 (Ht rfl) z7) (fK bC rfl (by kernel_rfl) (zF (zF (zF (zF (aV (ro rfl (aE.nat (nE rfl (Ht rfl) (Ht rfl) z7 z7) hor) ?_))))))))
    refine ra rfl (eX (ts (rm rfl (rm rfl (rm rfl (ro rfl (dW (Ht rfl) (cJ 1) zo z6) (ro rfl (dZ U_55 Z_218 (Ht rfl) (Ht rfl) rfl (dY (aH zo))) (ro rfl (dJ A_218 Z_218 (Ht rfl)) (ro rfl (gG U_218 U_263 (Ht rfl) z7) (ro rfl (iP (Ht rfl) (Ht rfl) zo (by show _ < 18446744073709551616; exact ht64)) (ra rfl (eX ?_))))))))))))
    refine ts (rm rfl (rm rfl (rm rfl (ro rfl (dW (Ht rfl) (cJ 1) zo z6) (ro rfl (dZ U_55 Z_218 (Ht rfl) (Ht rfl) rfl (dY (aH zo))) (ro rfl (dJ A_218 Z_218 (Ht rfl)) (ro rfl (gG U_218 U_263 (Ht rfl) z7) (ro rfl (jW (Ht rfl) (Ht rfl) zo) (ra rfl (eX (cK (iT (fun (g:Nat)=>Fo (val (us.drop j)) (val vs) g) (fun (g:Nat)=>[(8,NT .i64 s),(9,rM vs),(10,Is (.slice (some ⟨B57,0,none⟩) ((dg m).length + 1) ((dg m).length + 1))),(11,NT .i64 vs.length),(12,Is (.slice (some ⟨B69,0,none⟩) ((dg m).length + 1 - vs.length) ((dg m).length + 1 - vs.length))),(13,NT .i64 j),(15,NT .u64 g)]) (fun (g:Nat)=>[box B57 218 (us.map bM),box B69 218 (qs.map bM)]) ?_ (fun g hg=>?_)))))))))))))
    ·refine eK ?_
     refine gR (fun (g : Nat) (r : Nat) => kN (val (us.drop j)) (val vs) (vs.getD (vs.length - 1) 0) top g r ∧ r < 4294967296) (fun (g : Nat) (r : Nat) => g) (fun (g : Nat) (r : Nat) => [(8, NT .i64 s), (9, rM vs), (10, Is (.slice (some ⟨B57, 0, none⟩) ((dg m).length + 1) ((dg m).length + 1))), (11, NT .i64 vs.length), (12, Is (.slice (some ⟨B69, 0, none⟩) ((dg m).length + 1 - vs.length) ((dg m).length + 1 - vs.length))), (13, NT .i64 j), (15, NT .u64 g), (16, NT .u64 r)]) (fun (g : Nat) (r : Nat) => [box B57 218 (us.map bM), box B69 218 (qs.map bM)]) (top / vs.getD (vs.length - 1) 0) (top % vs.getD (vs.length - 1) 0) ⟨kN.start hnr htp, Nat.lt_trans (Nat.mod_lt _ zo) hv1⟩
      (zS rfl) (cT.refl _) (fun g r ⟨hG,hr⟩=>?_)
     have hgl:=(hG.glt hnr htp).1
     have hrs:=Ew (a:=r) hr
     have horr:=rW (a:=r) hu2b
     simp only [BB] at hgl
     refine cK (cK (fW (m:=22) (dp 15 rfl (cX (Ht rfl)) (dq 110 0 rfl (nS (Ht rfl) (cJ 4294967296)) (dq 111 1 rfl (cX (Ht rfl)) (C.D_step (Ei:=[(15,_),(112,_)]) rfl rfl (bV (bK rfl rfl) (bV (bG 2 rfl rfl) bW)) (eU rfl rfl (Ht rfl) (fun h=>cX (Ht rfl))) (C.D_step (Ei:=[(9,_),(112,_)]) rfl rfl (bV (bK rfl rfl) (bV (bG 2 rfl rfl) bW)) (eU rfl rfl (Ht rfl) (fun h=>cX (Ht rfl))) (C.D_step (Ei:=[(11,_),(112,_)]) rfl rfl (bV (bK rfl rfl) (bV (bG 2 rfl rfl) bW)) (eU rfl rfl (Ht rfl) (fun h=>cX (Ht rfl))) ?_))))))))
     refine C.D_step (Ei:=[(115,_),(112,_)]) rfl rfl (bV (bG 5 rfl rfl) (bV (bG 2 rfl rfl) bW)) (eU rfl rfl (Ht rfl) (fun h=>dW (fG rfl h) (cJ 2) (by first | omega | (simp at h; omega)) (by show _ < 9223372036854775808; first | omega | (simp at h; omega)))) (C.D_step (Ei:=[(114,_),(116,_),(112,_)]) rfl rfl (bV (bG 4 rfl rfl) (bV (bG 6 rfl rfl) (bV (bG 2 rfl rfl) bW))) (eU rfl rfl (Ht rfl) (fun h=>dZ U_55 Z_218 (fG rfl h) (fG rfl h) rfl (dY (aH (by first | omega | (simp at h; omega)))))) ?_)
     refine C.D_step (Ei:=[(117,_),(112,_)]) rfl rfl (bV (bG 7 rfl rfl) (bV (bG 2 rfl rfl) bW)) (eU rfl rfl (Ht rfl) (fun h=>dJ A_218 Z_218 (fG rfl h))) (C.D_step (Ei:=[(118,_),(112,_)]) rfl rfl (bV (bG 8 rfl rfl) (bV (bG 2 rfl rfl) bW)) (eU rfl rfl (Ht rfl) (fun h=>gG U_218 U_263 (fG rfl h) (by show _ < 18446744073709551616; first | omega | (simp at h; omega)))) (C.D_step (Ei:=[(113,_),(119,_),(112,_)]) rfl rfl (bV (bG 3 rfl rfl) (bV (bG 9 rfl rfl) (bV (bG 2 rfl rfl) bW))) (eU rfl rfl (Ht rfl) (fun h=>jV (fG rfl h) (fG rfl h) (by show _ < 18446744073709551616; simp at h; exact Wv h hv2))) ?_))
     refine C.D_step (Ei:=[(16,_),(112,_)]) rfl rfl (bV (bK rfl rfl) (bV (bG 2 rfl rfl) bW)) (eU rfl rfl (Ht rfl) (fun h=>cX (Ht rfl))) (C.D_step (Ei:=[(121,_),(112,_)]) rfl rfl (bV (bG 11 rfl rfl) (bV (bG 2 rfl rfl) bW)) (eU rfl rfl (Ht rfl) (fun h=>lP (fG rfl h) (cJ 32) (by decide) hrs)) (C.D_step (Ei:=[(10,_),(112,_)]) rfl rfl (bV (bK rfl rfl) (bV (bG 2 rfl rfl) bW)) (eU rfl rfl (Ht rfl) (fun h=>cX (Ht rfl))) (C.D_step (Ei:=[(13,_),(112,_)]) rfl rfl (bV (bK rfl rfl) (bV (bG 2 rfl rfl) bW)) (eU rfl rfl (Ht rfl) (fun h=>cX (Ht rfl))) ?_)))
     refine C.D_step (Ei:=[(11,_),(112,_)]) rfl rfl (bV (bK rfl rfl) (bV (bG 2 rfl rfl) bW)) (eU rfl rfl (Ht rfl) (fun h=>cX (Ht rfl))) (C.D_step (Ei:=[(124,_),(125,_),(112,_)]) rfl rfl (bV (bG 14 rfl rfl) (bV (bG 15 rfl rfl) (bV (bG 2 rfl rfl) bW))) (eU rfl rfl (Ht rfl) (fun h=>dV (fG rfl h) (fG rfl h) (by show _ < 9223372036854775808; first | omega | (simp at h; omega)))) (C.D_step (Ei:=[(126,_),(112,_)]) rfl rfl (bV (bG 16 rfl rfl) (bV (bG 2 rfl rfl) bW)) (eU rfl rfl (Ht rfl) (fun h=>dW (fG rfl h) (cJ 2) (by first | omega | (simp at h; omega)) (by show _ < 9223372036854775808; first | omega | (simp at h; omega)))) ?_))
     refine C.D_step (Ei:=[(123,_),(127,_),(112,_)]) rfl rfl (bV (bG 13 rfl rfl) (bV (bG 17 rfl rfl) (bV (bG 2 rfl rfl) bW))) (eU rfl rfl (Ht rfl) (fun h=>gJ U_55 Z_218 (fG rfl h) (fG rfl h) rfl (by first | omega | (simp at h; omega)) (by rw [Nat.mul_one,Nat.zero_add]))) ?_
     refine C.D_step (Ei:=[(128,_),(112,_)]) rfl rfl (bV (bG 18 rfl rfl) (bV (bG 2 rfl rfl) bW)) (eU rfl rfl (Ht rfl) (fun h=>fQ A_218 Z_218 (fG rfl h) (i:=0) rfl (dY (aH zo)))) (C.D_step (Ei:=[(129,_),(112,_)]) rfl rfl (bV (bG 19 rfl rfl) (bV (bG 2 rfl rfl) bW)) (eU rfl rfl (Ht rfl) (fun h=>gG U_218 U_263 (fG rfl h) (by show _ < 18446744073709551616; first | omega | (simp at h; omega)))) (C.D_step (Ei:=[(122,_),(130,_),(112,_)]) rfl rfl (bV (bG 12 rfl rfl) (bV (bG 20 rfl rfl) (bV (bG 2 rfl rfl) bW))) (eU rfl rfl (Ht rfl) (fun h=>aE.nat (nE rfl (fG rfl h) (fG rfl h) (by show _ < 18446744073709551616; first | omega | (simp at h; omega)) (by show _ < 18446744073709551616; first | omega | (simp at h; omega))) horr)) ?_))
     refine fK bC rfl (by kernel_rfl) (zF (zF (zF (zF (zF (aJ (aJ (aV (fJ rfl rfl (eU rfl rfl (Ht rfl) (fun h=>eO (fG rfl h) (fG rfl h))) (ro rfl (kH (Ht rfl) (fun h=>(fG rfl h))) (eX (dQ (Ht rfl) (fun hc=>?_) (fun hc=>?_)))))))))))))
     ·have hn2 := hG.next hnr htp (by simpa [BB] using hc)
      have hg1:=hn2.2
      refine cU (eK (ts (rm rfl (ro rfl (dW (Ht rfl) (cJ 1) zo z7) (ra rfl (eX (ts (rm rfl (rm rfl (rm rfl (ro rfl (dW (Ht rfl) (cJ 1) zo z6) (ro rfl (dZ U_55 Z_218 (Ht rfl) (Ht rfl) rfl (dY (aH zo))) (ro rfl (dJ A_218 Z_218 (Ht rfl)) (ro rfl (gG U_218 U_263 (Ht rfl) z7) ?_))))))))))))))
      refine ro rfl (dV (Ht rfl) (Ht rfl) z7) (ra rfl (eX (ts (rm rfl (ro rfl (nS (Ht rfl) (cJ 4294967296)) (eX (dQ (Ht rfl) (fun hr2=>?_) (fun hr2=>?_))))))))
      ·simp at hr2
       refine gU rfl (aP (g - 1) (hn2.1.stop hnr htp hr2) (zS rfl) (cT.refl _))
      ·simp at hr2
       refine cU (bI (gZ (g - 1,_) ⟨hn2.1,hr2⟩ (by dsimp only; omega) (zS rfl) (cT.refl _)))
     ·simp at hc
      refine gU rfl (aP g (hG.done hnr htp hc.1 hc.2) (zS rfl) (cT.refl _))
    ·have hglt := hg.lt
     have hglt2:=hg.lt
     simp only [BB] at hglt
     have hjl:j + vs.length < us.length:=by omega
     refine ts (ro rfl (cQ (cJ 0)) (eX (ts (ro rfl (cQ (cJ 0)) (eX (cK (ts (ro rfl (cQ (cJ 0)) (eX (eK ?_))))))))))
     refine sA (fun (i : Nat) (out : List Nat) (c : Nat) (b : Nat) => pQ us vs g j out i c b) (fun (i : Nat) (out : List Nat) (c : Nat) (b : Nat) => vs.length - i) (fun (i : Nat) (out : List Nat) (c : Nat) (b : Nat) => [(8, NT .i64 s), (9, rM vs), (10, Is (.slice (some ⟨B57, 0, none⟩) ((dg m).length + 1) ((dg m).length + 1))), (11, NT .i64 vs.length), (12, Is (.slice (some ⟨B69, 0, none⟩) ((dg m).length + 1 - vs.length) ((dg m).length + 1 - vs.length))), (13, NT .i64 j), (15, NT .u64 g), (17, NT .u64 b), (18, NT .u64 c), (19, NT .i64 i)]) (fun (i : Nat) (out : List Nat) (c : Nat) (b : Nat) => [box B57 218 (out.map bM), box B69 218 (qs.map bM)]) 0 us 0 0 (pQ.start hS.dig vs g j)
      (zS rfl) (cT.refl _) (fun i out c b hT=>?_)
     refine cK (ts (rm rfl (rm rfl (ro rfl (gW (Ht rfl) (Ht rfl)) (eX (dQ (Ht rfl) (fun hi=>?_) (fun hi=>?_)))))))
     ·simp at hi
      have hlen:=hT.len; have hcl:=hT.clt; have hbl:=hT.ble; have hvi:=aS hv i; have hok:=aS hT.dig (i + j)
      have hp:=He hglt2 hvi hT.clt
      simp only [BB] at hp hcl hvi hok
      obtain ⟨p,hp1⟩:∃ p,p = g * vs.getD i 0 + c:=⟨_,rfl⟩
      obtain ⟨x,hx1⟩:∃ x,x = ((out.getD (i + j) 0 + 18446744073709551616 - p % 4294967296) % 18446744073709551616 + 18446744073709551616 - b) % 18446744073709551616:=⟨_,rfl⟩
      refine cU (cK (eK (ts (rm rfl (rm rfl (rm rfl (ro rfl (dZ U_55 Z_218 (Ht rfl) (Ht rfl) rfl (dY (aH zo))) (ro rfl (dJ A_218 Z_218 (Ht rfl)) (ro rfl (gG U_218 U_263 (Ht rfl) z7) (ro rfl (jV (Ht rfl) (Ht rfl) z7) (rm rfl (ro rfl (aE.nat (dV (Ht rfl) (Ht rfl) z7) hp1.symm) ?_))))))))))))
      refine ra rfl (eX (ts (rm rfl (ro rfl (eH (Ht rfl) (cJ 32) (by decide)) (ra rfl (eX (ts (rm rfl (rm rfl (rm rfl (ro rfl (dV (Ht rfl) (Ht rfl) z6) (ro rfl (gJ U_55 Z_218 (Ht rfl) (Ht rfl) rfl zo (by rw [Nat.mul_one,Nat.zero_add])) ?_))))))))))))
      refine ro rfl (fQ A_218 Z_218 (Ht rfl) (i:=0) rfl (dY (aH zo))) (ro rfl (gG U_218 U_263 (Ht rfl) z7) (rm rfl (ro rfl (aE.nat (qX rfl (Ht rfl) (cJ 4294967295) z7 z7) (a0a p)) (ro rfl (lQ rfl (Ht rfl) (Ht rfl) (by show _ ≤ 18446744073709551616; first | omega | (simp only [kP]; omega))) ?_))))
      refine rm rfl (ro rfl (aE.nat (lQ rfl (Ht rfl) (Ht rfl) (by show _ ≤ 18446744073709551616; first | omega | (simp only [kP]; omega))) hx1.symm) (ra rfl (eX (ts (rm rfl (rm rfl (rm rfl (ro rfl (dV (Ht rfl) (Ht rfl) z6) (rm rfl (ro rfl (fN rfl U_263 U_218 (Ht rfl)) (ro rfl (gJ U_55 Z_218 (Ht rfl) (Ht rfl) rfl zo (by rw [Nat.mul_one,Nat.zero_add])) ?_)))))))))))
      refine kE Z_218 (Ht rfl) (Ht rfl) (i:=0) rfl (by first | omega | (simp; omega)) rfl (eX (cY (rm rfl (ro rfl (eH (Ht rfl) (cJ 63) (by decide)) (ra rfl (eX (bI (cY (rm rfl (ro rfl (dV (Ht rfl) (cJ 1) z6) (ra rfl (eX (gZ (i + 1,_,_,_) (hT.next hS.dig hv hglt2 hi hjl hp1 (yL hok hbl hx1) rfl) (by dsimp only; omega) (zS rfl) (aU (aB (fL _ _ _)) (aU (fun _ _ _ h=>h) aY)))))))))))))))
     ·simp at hi
      have hkl:i = vs.length:=Nat.le_antisymm hT.ile hi
      subst hkl
      have hlen:=hT.len; have hcl:=hT.clt; have hbl:=hT.ble; have hok:=aS hT.dig (j + vs.length)
      obtain ⟨x,hx1⟩:∃ x,x = ((out.getD (j + vs.length) 0 + 18446744073709551616 - c) % 18446744073709551616 + 18446744073709551616 - b) % 18446744073709551616:=⟨_,rfl⟩
      have htd:=yM hok hcl hbl hx1
      have hTk:=hT.fin hjl htd rfl
      have hx2:=htd.2
      simp only [BB] at hcl hok
      refine gU rfl (ts (rm rfl (rm rfl (rm rfl (ro rfl (dV (Ht rfl) (Ht rfl) z6) (ro rfl (gJ U_55 Z_218 (Ht rfl) (Ht rfl) rfl zo (by rw [Nat.mul_one,Nat.zero_add])) ?_))))))
      refine ro rfl (fQ A_218 Z_218 (Ht rfl) (i:=0) rfl (dY (aH zo))) (ro rfl (gG U_218 U_263 (Ht rfl) z7) (rm rfl (ro rfl (lQ rfl (Ht rfl) (Ht rfl) (by show _ ≤ 18446744073709551616; first | omega | (simp only [kP]; omega))) (rm rfl (ro rfl (aE.nat (lQ rfl (Ht rfl) (Ht rfl) (by show _ ≤ 18446744073709551616; first | omega | (simp only [kP]; omega))) hx1.symm) (ra rfl (eX (ts (rm rfl (rm rfl (rm rfl (ro rfl (dV (Ht rfl) (Ht rfl) z6) ?_))))))))))))
      refine rm rfl (ro rfl (fN rfl U_263 U_218 (Ht rfl)) (ro rfl (gJ U_55 Z_218 (Ht rfl) (Ht rfl) rfl zo (by rw [Nat.mul_one,Nat.zero_add])) ?_))
      refine kE Z_218 (Ht rfl) (Ht rfl) (i:=0) rfl (by first | omega | (simp; omega)) rfl (eX (cK (oS (fun (us2:List Nat) (g2:Nat)=>mE (m * 2 ^ s) vs us2 (qs.set j g2) j ∧ g2 < 4294967296 ∧ us2.length = (dg m).length + 1) (fun (us2:List Nat) (g2:Nat)=>[(8,NT .i64 s),(9,rM vs),(10,Is (.slice (some ⟨B57,0,none⟩) ((dg m).length + 1) ((dg m).length + 1))),(11,NT .i64 vs.length),(12,Is (.slice (some ⟨B69,0,none⟩) ((dg m).length + 1 - vs.length) ((dg m).length + 1 - vs.length))),(13,NT .i64 j),(15,NT .u64 g2)]) (fun (us2:List Nat) (g2:Nat)=>[box B57 218 (us2.map bM),box B69 218 (qs.map bM)]) ?_ (fun us2 g2 ⟨hD,hg2,hus2⟩=>?_))))
      ·refine ts (rm rfl (ro rfl (eH (Ht rfl) (cJ 63) (by decide)) (ro rfl (cB (Ht rfl) (cJ 1)) (eX (dQ (Ht rfl) (fun hbb => ?_) (fun hbb => ?_))))))
       ·simp only [decide_eq_true_eq] at hbb
        have hdec:(!decide (x / 2 ^ 63 = 0)) = true:=by rw [hbb]; rfl
        rw [hdec] at hTk
        obtain ⟨o1,ho1⟩:∃ o1,o1 = out.set (j + vs.length) (x % BB):=⟨_,rfl⟩
        rw [← ho1] at hTk
        have hg0:=hS.gpos hv rfl zo hTk
        have hol:=hTk.len
        refine ts (rm rfl (ro rfl (dW (Ht rfl) (cJ 1) zo z7) (ra rfl (eX (ts (ro rfl (cQ (cJ 0)) (eX (cK (ts (ro rfl (cQ (cJ 0)) (eX (eK ?_))))))))))))
        refine jS (fun (i : Nat) (out2 : List Nat) (c : Nat) => pO o1 vs j out2 i c) (fun (i : Nat) (out2 : List Nat) (c : Nat) => vs.length - i) (fun (i : Nat) (out2 : List Nat) (c : Nat) => [(8, NT .i64 s), (9, rM vs), (10, Is (.slice (some ⟨B57, 0, none⟩) ((dg m).length + 1) ((dg m).length + 1))), (11, NT .i64 vs.length), (12, Is (.slice (some ⟨B69, 0, none⟩) ((dg m).length + 1 - vs.length) ((dg m).length + 1 - vs.length))), (13, NT .i64 j), (15, NT .u64 (g - 1 : Nat)), (18, NT .u64 c), (23, NT .i64 i)]) (fun (i : Nat) (out2 : List Nat) (c : Nat) => [box B57 218 (out2.map bM), box B69 218 (qs.map bM)]) 0 o1 0 (pO.start hTk.dig vs j)
         (zS rfl) (aU (aB (by rw [ho1]; exact fL _ _ _)) (aU (fun _ _ _ h=>h) aY)) (fun i out2 c hB=>?_)
        refine cK (ts (rm rfl (rm rfl (ro rfl (gW (Ht rfl) (Ht rfl)) (eX (dQ (Ht rfl) (fun hi=>?_) (fun hi=>?_)))))))
        ·simp at hi
         have hlen:=hB.len; have hcl:=hB.cle; have hvi:=aS hv i; have hok:=aS hB.dig (i + j)
         simp only [BB] at hvi hok
         refine cU (cK (eK (cK (fW (m:=14) (dp 10 rfl (cX (Ht rfl)) (dp 23 rfl (cX (Ht rfl)) (dp 13 rfl (cX (Ht rfl)) (dP 212 1 213 2 rfl (dV (Ht rfl) (Ht rfl) z6) (dP 211 0 214 3 rfl (gJ U_55 Z_218 (Ht rfl) (Ht rfl) rfl zo (by rw [Nat.mul_one,Nat.zero_add])) ?_)))))))))
         refine dq 215 4 rfl (fQ A_218 Z_218 (Ht rfl) (i:=0) rfl (dY (aH zo))) (dq 216 5 rfl (gG U_218 U_263 (Ht rfl) z7) (dp 9 rfl (cX (Ht rfl)) (dp 23 rfl (cX (Ht rfl)) (dP 218 7 219 8 rfl (dZ U_55 Z_218 (Ht rfl) (Ht rfl) rfl (dY (aH zo))) (dq 220 9 rfl (dJ A_218 Z_218 (Ht rfl)) (dq 221 10 rfl (gG U_218 U_263 (Ht rfl) z7) ?_))))))
         refine dP 217 6 222 11 rfl (dV (Ht rfl) (Ht rfl) z7) (dp 18 rfl (cX (Ht rfl)) (fK bC rfl (by kernel_rfl) (zF (zF (zF (aJ (aJ (aV (ro rfl (dV (Ht rfl) (Ht rfl) z7) (ra rfl (eX (ts (rm rfl (rm rfl (rm rfl (ro rfl (dV (Ht rfl) (Ht rfl) z6) ?_))))))))))))))))
         refine rm rfl (ro rfl (fN rfl U_263 U_218 (Ht rfl)) (ro rfl (gJ U_55 Z_218 (Ht rfl) (Ht rfl) rfl zo (by rw [Nat.mul_one,Nat.zero_add])) ?_))
         refine kE Z_218 (Ht rfl) (Ht rfl) (i:=0) rfl (by first | omega | (simp; omega)) rfl (eX (cY (rm rfl (ro rfl (eH (Ht rfl) (cJ 32) (by decide)) (ra rfl (eX (bI (cY (rm rfl (ro rfl (dV (Ht rfl) (cJ 1) z6) (ra rfl (eX (gZ (i + 1,_,_) (hB.next hv hi zo (Nat.add_comm _ _)) (by dsimp only; omega) (zS rfl) (aU (aB (fL _ _ _)) (aU (fun _ _ _ h=>h) aY)))))))))))))))
        ·simp at hi
         have hil:i = vs.length:=Nat.le_antisymm hB.ile hi
         subst hil
         have hlen:=hB.len; have hcl:=hB.cle; have hok:=aS hB.dig (j + vs.length)
         have hBk:=hB.fin zo rfl
         obtain ⟨_,hDn⟩:=hS.wrong hv hV0 (Nat.succ_pos j) rfl hg hTk hBk
         simp only [BB] at hok
         refine gU rfl (cY (rm rfl (rm rfl (rm rfl (ro rfl (dV (Ht rfl) (Ht rfl) z6) (rm rfl (rm rfl (rm rfl (ro rfl (dV (Ht rfl) (Ht rfl) z6) (ro rfl (gJ U_55 Z_218 (Ht rfl) (Ht rfl) rfl zo (by rw [Nat.mul_one,Nat.zero_add])) ?_))))))))))
         refine ro rfl (fQ A_218 Z_218 (Ht rfl) (i:=0) rfl (dY (aH zo))) (rm rfl (ro rfl (gG U_263 U_218 (Ht rfl) (by show _ < 4294967296; first | omega | (simp only [kP]; omega))) (ro rfl (Ji rfl (Ht rfl) (Ht rfl)) (ro rfl (gJ U_55 Z_218 (Ht rfl) (Ht rfl) rfl zo (by rw [Nat.mul_one,Nat.zero_add])) ?_))))
         refine kE Z_218 (Ht rfl) (Ht rfl) (i:=0) rfl (by first | omega | (simp; omega)) rfl (eX (aP (_,g - 1) ⟨hDn,by dsimp only; omega,by simp; omega⟩ (zS rfl) (aU (aB (fL _ _ _)) (aU (fun _ _ _ h=>h) aY))))
       ·simp only [decide_eq_false_iff_not] at hbb
        have hdec:(!decide (x / 2 ^ 63 = 0)) = false:=by rw [show x / 2 ^ 63 = 0 by omega]; rfl
        rw [hdec] at hTk
        have hol:=hTk.len
        refine cU (aP (_,g) ⟨hS.right hv hV0 (Nat.succ_pos j) rfl hg hTk,hglt,by dsimp only; omega⟩ (zS rfl) (aU (aB (fL _ _ _)) (aU (fun _ _ _ h=>h) aY)))
      ·refine cY (rm rfl (rm rfl (rm rfl (ro rfl (gG U_263 U_218 (Ht rfl) (by show _ < 4294967296; first | omega | (simp only [kP]; omega))) (ro rfl (gJ U_55 Z_218 (Ht rfl) (Ht rfl) rfl zo (by rw [Nat.mul_one, Nat.zero_add])) ?_)))))
       refine kE Z_218 (Ht rfl) (Ht rfl) (i:=1) rfl (by first | omega | (simp; omega)) rfl (eX (bI (cY (rm rfl (ro rfl (gI (Ht rfl) cV (tB zo)) (ra rfl (eX (gZ (j,us2,_) ⟨hD,hus2⟩ (by dsimp only; omega) (zS rfl) (aU (fun _ _ _ h=>h) (aU (aB (fL _ _ _)) aY))))))))))
   ·simp at hk
    have hk0:k = 0:=by omega
    subst hk0
    have hfin:=hS.fin hV0
    have hlq:=hS.lenq
    rw [hvv] at hfin
    have hdiv:val qs = m / n:=by rw [hfin.1]; exact Nat.mul_div_mul_right _ _ hp2
    have hsm:val us < BB ^ vs.length:=by have h1:=hS.small; rw [List.drop_zero] at h1; exact Nat.lt_trans h1 (iH hv)
    have hmod : val (us.take vs.length) / 2 ^ s = m % n := by
     rw [mP hsm zo,hfin.2,Nat.mul_mod_mul_right,Nat.mul_div_cancel _ hp2]
    have hru : (dg (val (us.take vs.length))).length ≤ 17592186044416 := by
     refine Nat.le_trans (jA (k:=vs.length) ?_) zo
     rw [mP hsm zo]; exact hsm
    refine gU rfl (gK (i:=1) (tt:=12) rfl rfl (lK rfl zo (Nat.le_refl _)) (gK (i:=0) (tt:=10) rfl rfl (lK rfl zo (Nat.le_refl _)) (cK (fW (m:=7) (dp 12 rfl (cX (Ht rfl)) (dq 254 0 rfl (cZ K_254 (qQ _ hS.digq zo) ⟨(Ht rfl),trivial⟩) (dp 10 rfl (cX (Ht rfl)) (dp 11 rfl (cX (Ht rfl)) (dP 256 2 257 3 rfl (aE.imp (oO U_55 Z_218 (Ht rfl) (Ht rfl) (fun m e=>by cases e) zo (by simp; omega) rfl) (Ip _ _)) ?_)))))))))
    refine dq 258 4 rfl (cZ K_254 (qQ _ (hS.dig.take' vs.length) (by simp; omega)) ⟨(Ht rfl),trivial⟩) ?_
    refine dp 8 rfl (cX (Ht rfl)) (fK bC rfl (by kernel_rfl) (zF (aJ (aJ (aJ (aV (ro rfl (cZ Tryz.call279 (Ya hru zo) ⟨(Ht rfl),(Ht rfl),trivial⟩) (ra rfl (ra rfl (eX (bN rfl (fV (eY rfl) ?_) (fV (eY rfl) ?_))))))))))))
    ·exact (cL hdiv)
    ·exact (cL hmod)
theorem Gk {m n:Nat} (hm:(dg m).length ≤ 17592186044415) (hn:(dg n).length ≤ 17592186044415):bB Tryz.prog 249 [aL m,aL n] (aL (Nat.gcd m n)):=by
 refine bB.intro Tryz.func249 rfl Tryz.ntmps249 rfl (fun cx=>(ts (ro rfl (cQ cV) (eX (cK (eK ?_))))))
 refine gR (fun (x : Nat) (y : Nat) => Nat.gcd x y = Nat.gcd m n ∧ (dg x).length ≤ 17592186044415 ∧ (dg y).length ≤ 17592186044415) (fun (x : Nat) (y : Nat) => y) (fun (x : Nat) (y : Nat) => [(0, aL x), (1, aL y)]) (fun (x : Nat) (y : Nat) => []) m n ⟨rfl, hm, hn⟩
  (zS rfl) aY (fun x y ⟨hg,hx,hy⟩=>?_)
 refine cK (ts (rm rfl (ro rfl (dG U_55 (Ht rfl) aA) (ro rfl (eO (Ht rfl) (cJ 0)) (eX (dQ (Ht rfl) (fun hb=>?_) (fun hb=>?_)))))))
 ·simp at hb
  have hy0:y ≠ 0:=fun e=>by rw [e,dD] at hb; simp at hb
  have hlt:=Nat.mod_lt x (Nat.pos_of_ne_zero hy0)
  refine cU (eK (ts (rm rfl (rm rfl (ro rfl (cZ K_250 (tJ hx zo hy0) ⟨(Ht rfl),(Ht rfl),trivial⟩) (rm rfl (ro rfl (dK (Ht rfl) rfl) (ro rfl (dK (Ht rfl) rfl) (ra rfl (ra rfl (eX (cY (rm rfl (rm rfl (ra rfl (ra rfl (eX (bI (gZ (y,x % y) ⟨by rw [← hg,Nat.gcd_comm x y,Nat.gcd_rec y x,Nat.gcd_comm],hy,Nat.le_trans (iA (Nat.le_of_lt hlt)) hy⟩ hlt (zS rfl) aY)))))))))))))))))))
 ·simp at hb
  have hy0:y = 0:=aI.1 (by simpa using hb)
  subst hy0
  rw [Nat.gcd_zero_right] at hg
  refine gU rfl (ts (rm rfl (ra rfl (eX (fU rfl (fV (eY rfl) ?_))))))
  exact (cL hg)
theorem Ii {m:Nat} (hm:(dg m).length ≤ 8796093022208):bB Tryz.prog 272 [aL m] (oC (rI m)):=by
 refine bB.intro Tryz.func272 rfl Tryz.ntmps272 rfl (fun cx=>(ts (ro rfl (cQ (aR.cS (l:=[]) rfl)) (eX (cK (ts (rm rfl (ro rfl (dG U_55 (Ht rfl) aA) (ro rfl (cB (Ht rfl) (cJ 0)) (eX (dQ (Ht rfl) (fun hb=>?_) (fun hb=>?_))))))))))))
 ·simp at hb
  have h0:m = 0:=aI.1 (by simpa using hb)
  subst h0
  refine ts (ro rfl (cQ (aR.cS (l:=[48]) rfl)) (eX (fU rfl (fV (eY rfl) ?_))))
  exact (iR rfl)
 ·simp at hb
  have h0:m ≠ 0:=fun e=>hb (by rw [e,dD])
  refine cU (ts (ro rfl (cQ cV) (eX (cK (eK (uD 5 1 ?_))))))
  refine jS (fun (x : Nat) (out : List Nat) (v : Value) => wO m out x ∧ x ≤ m) (fun (x : Nat) (out : List Nat) (v : Value) => x) (fun (x : Nat) (out : List Nat) (v : Value) => [(0, aL x), (3, Is v)]) (fun (x : Nat) (out : List Nat) (v : Value) => [bE 5 1 v (out.map uE)]) m [] (.slice none 0 0) ⟨wO.start m, Nat.le_refl m⟩
   (zS rfl) (cT.refl _) (fun x out v ⟨hO,hle⟩=>?_)
  refine cK (ts (rm rfl (ro rfl (dG U_55 (Ht rfl) aA) (ro rfl (eO (Ht rfl) (cJ 0)) (eX (dQ (Ht rfl) (fun hc=>?_) (fun hc=>?_)))))))
  ·simp at hc
   have hx0:x ≠ 0:=fun e=>by rw [e,dD] at hc; simp at hc
   have hxm:=iA hle
   refine cU (eK (ts (rm rfl (ro rfl (cZ Tryz.call276 (Cy zo (by decide) (by decide)) ⟨(Ht rfl),(cJ 1000000000),trivial⟩) (rm rfl (ro rfl (dK (Ht rfl) rfl) (ro rfl (dK (Ht rfl) rfl) (ra rfl (ra rfl (eX (cK (ts (ro rfl (cQ (cJ 0)) (eX (eK ?_)))))))))))))))
   refine sA (fun (r : Nat) (k : Nat) (out : List Nat) (v : Value) => uR m out (x / 1000000000) r k) (fun (r : Nat) (k : Nat) (out : List Nat) (v : Value) => 9 - k) (fun (r : Nat) (k : Nat) (out : List Nat) (v : Value) => [(3, Is v), (4, aL (x / 1000000000)), (5, bM r), (6, NT .i64 k)]) (fun (r : Nat) (k : Nat) (out : List Nat) (v : Value) => [bE 5 1 v (out.map uE)]) (x % 1000000000) 0 out v (hO.inner)
    (zS rfl) (cT.refl _) (fun r k out v hI=>?_)
   refine cK (ts (rm rfl (ro rfl (gW (Ht rfl) (cJ 9)) (rm rfl (fJ rfl rfl (iZ rfl rfl (Ht rfl) (fun h=>cX (Ht rfl))) (fJ rfl rfl (iZ rfl rfl (Ht rfl) (fun h=>eO (aR.wu rfl h) (cJ 0))) (fJ rfl rfl (iZ rfl rfl (Ht rfl) (fun h=>cX (aR.wu rfl h))) (fJ rfl rfl (jR rfl rfl rfl (fun h h2=>cX (Ht rfl))) (fJ rfl rfl (jR rfl rfl rfl (fun h h2=>dG U_55 (aR.wu rfl ⟨h,h2⟩) aA)) (fJ rfl rfl (jR rfl rfl rfl (fun h h2=>eO (aR.wu rfl ⟨h,h2⟩) (cJ 0))) (fJ rfl rfl (iZ rfl rfl (Ht rfl) (fun h=>kH (aR.wu rfl h) (fun h2=>(aR.wu rfl ⟨h,h2⟩)))) ?_)))))))))))
   refine ro rfl (eC (Ht rfl) (fun h=>(aR.wu rfl h))) (eX (dQ (Ht rfl) (fun hd=>?_) (fun hd=>?_)))
   ·simp at hd
    have hxr:0 < x / 1000000000 ∨ 0 < r:=hd.2.elim (fun h=>.inr h) (fun h=>.inl (Nat.pos_of_ne_zero (fun e=>by rw [e,dD] at h; simp at h)))
    have hln:=hI.len hxr
    have hr32:=hI.r32
    refine cU (cK (eK (ts (rm rfl (rm rfl (ro rfl (jW (Ht rfl) (cJ 10) zo) (ro rfl (dV (cJ 48) (Ht rfl) (by show _ < 4294967296; first | omega | (simp only [kP]; omega))) (ro rfl (gG U_218 U_5 (Ht rfl) (by show _ < 256; first | omega | (simp only [kP]; omega))) (ro rfl (eM (xs:=[.tmp 37]) U_296 Z_5 Tryz.zeroValue5 (cW (Ht rfl) cG) rfl rfl rfl) (rZ (inf:=Tryz.t5) wJ Ov rfl rfl rfl (Ht rfl) (Ht rfl) (i:=0) rfl (by simp) (fun T hT=>by simp at hT; subst hT; exact El.one) (by show _ * 1 ≤ _; simp only [List.length_map,List.length_cons,List.length_nil]; omega) (by simp only [List.length_map,List.length_cons,List.length_nil]; omega) rfl (fun v2=>?_)))))))))))
    refine ra rfl (eX (cY (rm rfl (ro rfl (iP (Ht rfl) (cJ 10) zo (by show _ < 4294967296; first | omega | (simp only [kP]; omega))) (ra rfl (eX (bI (cY (rm rfl (ro rfl (dV (Ht rfl) (cJ 1) z6) (ra rfl (eX (gZ (r / 10,k + 1,_,v2) (hI.next hd.1 hxr) (by dsimp only; omega) (zS rfl) (aU (bA (Ra _ _)) aY))))))))))))))
   ·simp at hd
    have hO2 := hI.fin (fun ⟨h1, h2⟩ => by
     have h3:=hd h1
     rcases h2 with h2 | h2
     ·have:=oG.1 h3.2; omega
     ·omega)
    refine gU rfl (cY (rm rfl (ra rfl (eX (bI (gZ (x / 1000000000,_,_) ⟨hO2,Nat.le_trans (Nat.div_le_self _ _) hle⟩ (Nat.div_lt_self (Nat.pos_of_ne_zero hx0) (by decide)) (zS rfl) (cT.refl _)))))))
  ·simp at hc
   have hx0:x = 0:=aI.1 (by simpa using hc)
   subst hx0
   have hfin:=hO.fin
   have hdl:=nO m
   rw [hfin] at hdl
   refine gU rfl (cK (ts (rm rfl (ro rfl (kL U_296 (Ht rfl) (i:=0) rfl aA) (ro rfl (gI (Ht rfl) cV (tB zo)) (ro rfl (cQ (cJ 0)) (ra rfl (eX (eK ?_)))))))))
   refine gR (fun (k : Nat) (o : List Nat) => wQ out o k) (fun (k : Nat) (o : List Nat) => out.length - k) (fun (k : Nat) (o : List Nat) => [(3, Is v), (7, NT .i64 k), (8, aF .i64 ((out.length : Int) - 1 - (k : Int)))]) (fun (k : Nat) (o : List Nat) => [bE 5 1 v (o.map uE)]) 0 out (wQ.start out)
    (aQ rfl (aQ rfl (aZ rfl (aT zo) aX))) (cT.refl _) (fun k o hR=>?_)
   refine cK (ts (rm rfl (rm rfl (ro rfl (pG (Ht rfl) (Ht rfl)) (eX (dQ (Ht rfl) (fun hk=>?_) (fun hk=>?_)))))))
   ·simp only [decide_eq_true_eq] at hk
    have hk2:2 * k + 1 < out.length:=by omega
    obtain ⟨j,hj⟩:∃ j,j = out.length - 1 - k:=⟨_,rfl⟩
    have hlen:=hR.len
    refine wT (E':=[(3,_),(7,_),(8,_),(46,_),(47,_),(48,_)]) (aQ rfl (aQ rfl (aZ rfl (aT (show (out.length:Int) - 1 - (k:Int) = (j:Int) by omega)) (zS rfl)))) (cU (cK (eK (W.D_start (m:=14) (fun b=>cond b ([bE 5 1 v ((o.map uE).set k (uE (o.getD j 0)))]) _) 13 (W.D_step (Ei:=[(3,_)]) rfl rfl (W.Srcs.cons (W.Src.pre rfl rfl) W.Srcs.nil) rfl (by kernel_rfl) (dX rfl (cX (Ht rfl))) (W.D_step (Ei:=[(7,_)]) rfl rfl (W.Srcs.cons (W.Src.pre rfl rfl) W.Srcs.nil) rfl (by kernel_rfl) (dX rfl (cX (Ht rfl))) ?_))))))
    refine W.D_pure (Ei:=[(3,_)]) rfl rfl (W.Srcs.cons (W.Src.pre rfl rfl) W.Srcs.nil) rfl (fun _=>dX rfl (cX (Ht rfl))) (W.D_pure (Ei:=[(8,_)]) rfl rfl (W.Srcs.cons (W.Src.pre rfl rfl) W.Srcs.nil) rfl (fun _=>dX rfl (cX (Ht rfl))) (W.D_step (Ei:=[(3,_)]) rfl rfl (W.Srcs.cons (W.Src.pre rfl rfl) W.Srcs.nil) rfl (by kernel_rfl) (dX rfl (cX (Ht rfl))) (W.D_step (Ei:=[(8,_)]) rfl rfl (W.Srcs.cons (W.Src.pre rfl rfl) W.Srcs.nil) rfl (by kernel_rfl) (dX rfl (cX (Ht rfl))) (W.D_step (Ei:=[(57,_),(58,_)]) rfl rfl (W.Srcs.cons (W.Src.op 4 rfl rfl) (W.Srcs.cons (W.Src.op 5 rfl rfl) W.Srcs.nil)) rfl (by kernel_rfl) (dX rfl (cC U_296 Z_5 (Ht rfl) (Ht rfl) rfl (i:=0) rfl (by first | omega | (simp; omega)) rfl)) ?_))))
    refine W.D_step (Ei:=[(59,_)]) rfl rfl (W.Srcs.cons (W.Src.op 6 rfl rfl) W.Srcs.nil) rfl (by kernel_rfl) (dX rfl (nD A_5 Z_5 (Ht rfl) (i:=0) rfl rfl (dY (aH zo)))) (W.D_step (Ei:=[(3,_)]) rfl rfl (W.Srcs.cons (W.Src.pre rfl rfl) W.Srcs.nil) rfl (by kernel_rfl) (dX rfl (cX (Ht rfl))) (W.D_step (Ei:=[(7,_)]) rfl rfl (W.Srcs.cons (W.Src.pre rfl rfl) W.Srcs.nil) rfl (by kernel_rfl) (dX rfl (cX (Ht rfl))) (W.D_step (Ei:=[(61,_),(62,_)]) rfl rfl (W.Srcs.cons (W.Src.op 8 rfl rfl) (W.Srcs.cons (W.Src.op 9 rfl rfl) W.Srcs.nil)) rfl (by kernel_rfl) (dX rfl (cC U_296 Z_5 (Ht rfl) (Ht rfl) rfl (i:=0) rfl (by first | omega | (simp; omega)) rfl)) ?_)))
    refine W.D_step (Ei:=[(63,_)]) rfl rfl (W.Srcs.cons (W.Src.op 10 rfl rfl) W.Srcs.nil) rfl (by kernel_rfl) (dX rfl (nD A_5 Z_5 (Ht rfl) (i:=0) rfl rfl (dY (aH zo)))) (W.D_step (Ei:=[(53,_),(54,_)]) rfl rfl (W.Srcs.cons (W.Src.op 0 rfl rfl) (W.Srcs.cons (W.Src.op 1 rfl rfl) W.Srcs.nil)) rfl (by kernel_rfl) (dX rfl (cC U_296 Z_5 (Ht rfl) (Ht rfl) rfl (i:=0) rfl (by first | omega | (simp; omega)) rfl)) (W.D_put (Ei:=[(65,_),(60,_)]) rfl rfl (W.Srcs.cons (W.Src.op 12 rfl rfl) (W.Srcs.cons (W.Src.op 7 rfl rfl) W.Srcs.nil)) rfl (Cm Z_5 (Ht rfl) (Ht rfl) El.one (i:=0) rfl rfl (by first | omega | (simp; omega))) ?_))
    refine W.D_done bC rfl (by kernel_rfl) rfl (W.F_val (W.F_val (W.F_val (W.F_val (W.F_val (W.F_val (W.F_val (W.F_val (W.F_val (W.F_val (W.F_val (W.F_val (W.F_val (W.F_put (W.F_nil (ro rfl (cC U_296 Z_5 (Ht rfl) (Ht rfl) rfl (i:=0) rfl (by first | omega | (simp; omega)) rfl) (jY Z_5 (Ht rfl) (Ht rfl) El.one (i:=0) rfl rfl (by first | omega | (simp; omega)) rfl (eX (bI (cY (rm rfl (ro rfl (dV (Ht rfl) (cJ 1) z6) (rm rfl (ro rfl (gI (Ht rfl) cV (tB zo)) ?_))))))))))))))))))))))))
    refine ra rfl (ra rfl (eX (gZ (k + 1,_) (hR.next hk2 hj) (by dsimp only; omega) (aQ rfl (aQ rfl (aZ rfl (aT zo) aX))) (aU (bA (Jv _ _ _ _ _)) aY))))
   ·simp only [decide_eq_false_iff_not] at hk
    have hrev:=hR.fin zo
    subst hrev
    refine gU rfl (gK (i:=0) (tt:=3) rfl rfl eN (ts (rm rfl (ro rfl (Eg wJ Wz Xa (Ht rfl) (by rw [← hfin]; simpa using Io h0) (fun b hb=>Nr (n:=m) b (by rw [qS h0,hfin]; exact hb))) ?_))))
    refine ra rfl (eX (fU rfl (fV (eY rfl) ?_)))
    exact (iR (by rw [qS h0,hfin]))
end
section
open Go Go.RowKit
theorem Mu {n : Nat} {E : bT} {H : Hp} {d : Option Tmp} {t : TypeId} {pos : String} {af : Array Edge} {g : Option (Nat × Bool)}  :
  aE Tryz.prog n E H ⟨d,.build 128 #[],t,pos,af,g⟩ (dR [Is (.bool false),Is (.slice none 0 0)]) :=
 gO (parts := []) fun a V w hs => by
  refine ⟨.agg #[(.bool false),(.slice none 0 0)],?_,[(.bool false),(.slice none 0 0)],rfl,aW (⟨rfl,trivial⟩) (aW (⟨rfl,trivial⟩) (aG))⟩
  simp [Instr.build,Instr.fill,Sem.run_bind,Result.andThen,fD,O_128,U_128,Z_4,Z_55]
theorem pS {n : Nat} {E : bT} {H : Hp} {d : Option Tmp} {t : TypeId} {pos : String} {af : Array Edge} {g : Option (Nat × Bool)} {x0 x1 : Operand} {T0 T1 : Ty} [s0 : cP T0 1 false] (h0 : aR E x0 T0) [s1 : cP T1 1 false] (h1 : aR E x1 T1) :
  aE Tryz.prog n E H ⟨d,.build 128 #[(0,x0),(1,x1)],t,pos,af,g⟩ (dR [T0,T1]) :=
 gO (parts := [(0, x0), (1, x1)]) fun a V w hs => by
  have p0:=h0 n V a hs
  generalize e0:a.eval x0 = v0 at p0
  have q0:=(s0.ok v0 V p0).2.2 rfl
  have p1:=h1 n V a hs
  generalize e1:a.eval x1 = v1 at p1
  have q1:=(s1.ok v1 V p1).2.2 rfl
  refine ⟨.agg #[v0,v1],?_,[v0,v1],rfl,aW (⟨p0,q0⟩) (aW (⟨p1,q1⟩) (aG))⟩
  simp [e0,e1,Instr.build,Instr.fill,Sem.run_bind,Result.andThen,fD,q0.cells,q1.cells,O_128,U_128,Z_4,Z_55]
theorem rH {n : Nat} {E : bT} {H : Hp} {d : Option Tmp} {t : TypeId} {pos : String} {af : Array Edge} {g : Option (Nat × Bool)} {x0 x1 x2 : Operand} {T0 T1 T2 T3 T4 : Ty} (h0 : aR E x0 (dR [T0, T1])) (h1 : aR E x1 (dR [T2, T3])) [s2 : cP T4 1 false] (h2 : aR E x2 T4) :
  aE Tryz.prog n E H ⟨d,.build 130 #[(0,x0),(1,x1),(2,x2)],t,pos,af,g⟩ (dR [T0,T1,T2,T3,T4]) :=
 gO (parts := [(0, x0), (1, x1), (2, x2)]) fun a V w hs => by
  obtain ⟨v0,e0,c0⟩:=h0 n V a hs
  obtain ⟨c0_0,c0_1,rfl⟩:∃ c0_0 c0_1,v0 = [c0_0,c0_1]:=Du (by simpa using c0.length)
  obtain ⟨v1,e1,c1⟩:=h1 n V a hs
  obtain ⟨c1_0,c1_1,rfl⟩:∃ c1_0 c1_1,v1 = [c1_0,c1_1]:=Du (by simpa using c1.length)
  have p2:=h2 n V a hs
  generalize e2:a.eval x2 = v2 at p2
  have q2:=(s2.ok v2 V p2).2.2 rfl
  refine ⟨.agg #[c0_0,c0_1,c1_0,c1_1,v2],?_,[c0_0,c0_1,c1_0,c1_1,v2],rfl,aW (c0.at (i:=0) rfl rfl) (aW (c0.at (i:=1) rfl rfl) (aW (c1.at (i:=0) rfl rfl) (aW (c1.at (i:=1) rfl rfl) (aW (⟨p2,q2⟩) (aG)))))⟩
  simp [e0,e1,e2,Instr.build,Instr.fill,Sem.run_bind,Result.andThen,fD,q2.cells,O_130,U_130,Z_55,Z_128]
theorem At {n : Nat} {E : bT} {H : Hp} {d : Option Tmp} {t : TypeId} {pos : String} {af : Array Edge} {g : Option (Nat × Bool)}  :
  aE Tryz.prog n E H ⟨d,.build 60 #[],t,pos,af,g⟩ (dR [Is (.bool false),Is (.slice none 0 0),Is (.bool false),Is (.slice none 0 0),Is (.slice none 0 0)]) :=
 gO (parts := []) fun a V w hs => by
  refine ⟨.agg #[(.bool false),(.slice none 0 0),(.bool false),(.slice none 0 0),(.slice none 0 0)],?_,[(.bool false),(.slice none 0 0),(.bool false),(.slice none 0 0),(.slice none 0 0)],rfl,aW (⟨rfl,trivial⟩) (aW (⟨rfl,trivial⟩) (aW (⟨rfl,trivial⟩) (aW (⟨rfl,trivial⟩) (aW (⟨rfl,trivial⟩) (aG)))))⟩
  simp [Instr.build,Instr.fill,Sem.run_bind,Result.andThen,fD,O_60,U_60,Z_56,Z_58]
theorem mZ (a:Addr) (w:World):(Instr.fieldAt 128 (.pointer (some a)) 0).run Tryz.prog w = .ok (.pointer (some (a.add 0))) w:=by
 simp [Instr.fieldAt,Instr.sureAddr,fieldPlace,Sem.run_bind,Result.andThen,U_128,Z_4]
theorem jM (a:Addr) (w:World):(Instr.fieldAt 128 (.pointer (some a)) 1).run Tryz.prog w = .ok (.pointer (some (a.add 1))) w:=by
 simp [Instr.fieldAt,Instr.sureAddr,fieldPlace,Sem.run_bind,Result.andThen,U_128,Z_55]
theorem oI (a:Addr) (w:World):(Instr.fieldAt 130 (.pointer (some a)) 0).run Tryz.prog w = .ok (.pointer (some (a.add 0))) w:=by
 simp [Instr.fieldAt,Instr.sureAddr,fieldPlace,Sem.run_bind,Result.andThen,U_130,Z_128]
theorem oJ (a:Addr) (w:World):(Instr.fieldAt 130 (.pointer (some a)) 1).run Tryz.prog w = .ok (.pointer (some (a.add 2))) w:=by
 simp [Instr.fieldAt,Instr.sureAddr,fieldPlace,Sem.run_bind,Result.andThen,U_130,Z_128]
theorem nA (a:Addr) (w:World):(Instr.fieldAt 130 (.pointer (some a)) 2).run Tryz.prog w = .ok (.pointer (some (a.add 4))) w:=by
 simp [Instr.fieldAt,Instr.sureAddr,fieldPlace,Sem.run_bind,Result.andThen,U_130,Z_55]
end
section
open Go Go.RowKit
theorem tK {b:Bool} {m:Nat}:bB Tryz.prog 251 [aC b,aL m] (fH (uO b m)):=by
 refine bB.intro Tryz.func251 rfl Tryz.ntmps251 rfl (fun cx=>(ts (rn rfl (eG (Ts:=[Is (.bool false),Is (.slice none 0 0)]) O_128 rfl (fun V=>aW zd (aW zd (aG)))) fun B4=>(eX (ts (rm rfl (rm rfl (fJ rfl rfl (eU rfl rfl (Ht rfl) (fun h=>cX (Ht rfl))) (fJ rfl rfl (eU rfl rfl (Ht rfl) (fun h=>dG U_55 (fG rfl h) aA)) (fJ rfl rfl (eU rfl rfl (Ht rfl) (fun h=>eO (fG rfl h) (cJ 0))) (ro rfl (eC (Ht rfl) (fun h=>(fG rfl h))) (rm rfl ?_))))))))))))
 refine ro rfl (pS (Ht rfl) (Ht rfl)) (gV Z_128 (Ht rfl) (Ht rfl) rfl (i:=0) rfl (aK rfl) rfl rfl (eX (fU rfl (fV (gX A_128 Z_128 rfl (i:=0) rfl rfl) ?_))))
 exact Qf
theorem xB {n:Int} (h1:-9223372036854775808 ≤ n) (h2:n ≤ 9223372036854775807):bB Tryz.prog 210 [aF .i64 n] (fH n):=by
 refine bB.intro Tryz.func210 rfl Tryz.ntmps210 rfl (fun cx=>(ts (rn rfl (eG (Ts:=[Is (.bool false),Is (.slice none 0 0)]) O_128 rfl (fun V=>aW zd (aW zd (aG)))) fun B2=>(eX (cK (ts (rm rfl (ro rfl (pG (Ht rfl) cV) (eX (dQ (Ht rfl) (fun hb=>?_) (fun hb=>?_)))))))))))
 ·have hn : n < 0 := by simpa using hb
  refine ts (rm rfl (ro rfl (Bt (Ht rfl) (r:=IntKind.i64.wrap (-n)) rfl) ?_))
  refine ro rfl (qZ U_2 U_263 (Ht rfl) (r:=((n.natAbs:Nat):Int)) (by rw [IntKind.wrap_u64,IntKind.wrap_i64]; omega)) ?_
  refine ro rfl (cZ Tryz.call257 (xC zo) ⟨(Ht rfl),trivial⟩) (ro rfl (pS cV (Ht rfl)) (gV Z_128 (Ht rfl) (Ht rfl) rfl (i:=0) rfl (aK rfl) rfl rfl (eX (fU rfl (fV (gX A_128 Z_128 rfl (i:=0) rfl rfl) ?_)))))
  exact (oT (by rw [hb]; rfl))
 ·have hn : ¬ n < 0 := by simpa using hb
  refine cU (ts (rm rfl (ro rfl (qZ U_2 U_263 (Ht rfl) (r:=((n.natAbs:Nat):Int)) (by rw [IntKind.wrap_u64]; omega)) ?_)))
  refine ro rfl (cZ Tryz.call257 (xC zo) ⟨(Ht rfl),trivial⟩) (ro rfl (pS cV (Ht rfl)) (gV Z_128 (Ht rfl) (Ht rfl) rfl (i:=0) rfl (aK rfl) rfl rfl (eX (fU rfl (fV (gX A_128 Z_128 rfl (i:=0) rfl rfl) ?_)))))
  exact (oT (by rw [hb]; rfl))
theorem zK {x:Int}:bB Tryz.prog 211 [fH x] (fH (-x)):=by
 refine bB.intro Tryz.func211 rfl Tryz.ntmps211 rfl (fun cx=>(ts (rn rfl (gQ (Ht rfl)) fun B1=>(rn rfl (eG (Ts:=[Is (.bool false),Is (.slice none 0 0)]) O_128 rfl (fun V=>aW zd (aW zd (aG)))) fun B2=>(eX (ts (ro rfl (eJ mZ (Ht rfl) rfl) (ro rfl (fQ A_4 Z_4 (Ht rfl) (i:=0) rfl rfl) (ro rfl (fO (Ht rfl)) (ro rfl (eJ jM (Ht rfl) rfl) (ro rfl (fQ A_55 Z_55 (Ht rfl) (i:=0) rfl rfl) (ro rfl (cZ Tryz.call251 tK ⟨(Ht rfl),(Ht rfl),trivial⟩) ?_))))))))))))
 refine gV Z_128 (Ht rfl) (Ht rfl) rfl (i:=1) rfl (aK rfl) rfl rfl (eX (fU rfl (fV (gX A_128 Z_128 rfl (i:=1) rfl rfl) ?_)))
 exact (nJ (Ac x))
theorem Ig {A B:Int} {D:Nat} (hD:0 < D) (hA:(dg A.natAbs).length ≤ 17592186044415) (hB:(dg B.natAbs).length ≤ 17592186044415) (hD2:(dg D).length ≤ 17592186044415):bB Tryz.prog 202 [fH A,fH B,aL D] (QT (Qi.mk' A B D)):=by
 have hg1:=xH hA hB
 have hg2:=xH hg1 hD2
 have hgp:Nat.gcd (Nat.gcd A.natAbs B.natAbs) D ≠ 0:=fun e=>by have:=Nat.gcd_eq_zero_iff.1 e; omega
 refine bB.intro Tryz.func202 rfl Tryz.ntmps202 rfl (fun cx=>(ts (rn rfl (gQ (Ht rfl)) fun B3=>(rn rfl (gQ (Ht rfl)) fun B4=>(rn rfl (eG (Ts:=[Is (.bool false),Is (.slice none 0 0),Is (.bool false),Is (.slice none 0 0),Is (.slice none 0 0)]) O_130 rfl (fun V=>aW zd (aW zd (aW zd (aW zd (aW zd (aG))))))) fun B6=>(eX (ts (ro rfl (eJ jM (Ht rfl) rfl) (ro rfl (fQ A_55 Z_55 (Ht rfl) (i:=0) rfl rfl) ?_)))))))))
 refine ro rfl (eJ jM (Ht rfl) rfl) (ro rfl (fQ A_55 Z_55 (Ht rfl) (i:=1) rfl rfl) (ro rfl (cZ Tryz.call249 (Gk zo zo) ⟨(Ht rfl),(Ht rfl),trivial⟩) (rm rfl (ro rfl (cZ Tryz.call249 (Gk zo zo) ⟨(Ht rfl),(Ht rfl),trivial⟩) (ra rfl (eX (cK (ts (rm rfl (ro rfl (dG U_55 (Ht rfl) aA) (ro rfl (cB (Ht rfl) (cJ 1)) (rm rfl (fJ rfl rfl (eU rfl rfl (Ht rfl) (fun h=>cX (Ht rfl))) (fJ rfl rfl (eU rfl rfl (Ht rfl) (fun h=>dZ U_55 Z_218 (fG rfl h) (cJ 0) rfl (dY (aH (by first | omega | (simp at h; omega)))))) ?_))))))))))))))
 refine fJ rfl rfl (eU rfl rfl (Ht rfl) (fun h=>dJ A_218 Z_218 (fG rfl h))) (fJ rfl rfl (eU rfl rfl (Ht rfl) (fun h=>cB (fG rfl h) (cJ 1))) (ro rfl (eC (Ht rfl) (fun h=>(fG rfl h))) (eX (dQ (Ht rfl) (fun hb=>?_) (fun hb=>?_)))))
 ·rw [Br] at hb
  have hg:Qi.g3 A B D = 1:=by simpa [Qi.g3] using hb
  refine ts (ro rfl (eW A_128 Z_128 (Ht rfl) (i:=0) rfl rfl rfl) (ro rfl (eW A_128 Z_128 (Ht rfl) (i:=1) rfl rfl rfl) (rm rfl (ro rfl (rH (Ht rfl) (Ht rfl) (Ht rfl)) (gV Z_130 (Ht rfl) (Ht rfl) rfl (i:=2) rfl (aK rfl) rfl rfl (eX (fU rfl (fV (gX A_130 Z_130 rfl (i:=2) rfl rfl) ?_))))))))
  exact (Pd hD hg)
 ·refine cU (ts (ro rfl (eJ jM (Ht rfl) rfl) (ro rfl (fQ A_55 Z_55 (Ht rfl) (i := 0) rfl rfl) (rm rfl (ro rfl (cZ K_250 (tJ zo zo zo) ⟨(Ht rfl), (Ht rfl), trivial⟩) (rm rfl (ro rfl (dK (Ht rfl) rfl) (ro rfl (dK (Ht rfl) rfl) (ra rfl (ra rfl (eX (ts (ro rfl (eJ jM (Ht rfl) rfl) (ro rfl (fQ A_55 Z_55 (Ht rfl) (i := 1) rfl rfl) (rm rfl (ro rfl (cZ K_250 (tJ zo zo zo) ⟨(Ht rfl), (Ht rfl), trivial⟩) (rm rfl (ro rfl (dK (Ht rfl) rfl) ?_))))))))))))))))))
  refine ro rfl (dK (Ht rfl) rfl) (ra rfl (ra rfl (eX (ts (rm rfl (rm rfl (ro rfl (cZ K_250 (tJ zo zo zo) ⟨(Ht rfl),(Ht rfl),trivial⟩) (rm rfl (ro rfl (dK (Ht rfl) rfl) (ro rfl (dK (Ht rfl) rfl) (ra rfl (ra rfl (eX (cK (fW (m:=9) (dp 3 rfl (eJ mZ (Ht rfl) rfl) (dq 54 0 rfl (fQ A_4 Z_4 (Ht rfl) (i:=0) rfl rfl) (dp 8 rfl (cX (Ht rfl)) (dP 55 1 56 2 rfl (cZ Tryz.call251 tK ⟨(Ht rfl),(Ht rfl),trivial⟩) (dp 4 rfl (eJ mZ (Ht rfl) rfl) ?_))))))))))))))))))))
  refine dq 58 4 rfl (fQ A_4 Z_4 (Ht rfl) (i:=1) rfl rfl) (dp 10 rfl (cX (Ht rfl)) (dP 59 5 60 6 rfl (cZ Tryz.call251 tK ⟨(Ht rfl),(Ht rfl),trivial⟩) (dp 12 rfl (cX (Ht rfl)) (fK bC rfl (by kernel_rfl) (zF (zF (aJ (aV (ro rfl (rH (Ht rfl) (Ht rfl) (Ht rfl)) (gV Z_130 (Ht rfl) (Ht rfl) rfl (i:=2) rfl (aK rfl) rfl rfl (eX (fU rfl (fV (gX A_130 Z_130 rfl (i:=2) rfl rfl) ?_)))))))))))))
  exact (Pe hD rfl)
theorem Xz {p q d:Int} (p1:-9223372036854775808 ≤ p) (p2:p ≤ 9223372036854775807) (q1:-9223372036854775808 ≤ q) (q2:q ≤ 9223372036854775807) (d1:-9223372036854775808 ≤ d) (d2:d ≤ 9223372036854775807) (hd:d ≠ 0):bB Tryz.prog 112 [aF .i64 p,aF .i64 q,aF .i64 d] (dM [QT (Qi.frac p q d),aF .i64 0]):=by
 have lp:=Kr p1 p2; have lq:=Kr q1 q2; have ld:=Kr d1 d2; have np:=rR p; have nq:=rR q
 refine bB.intro Tryz.func112 rfl Tryz.ntmps112 rfl (fun cx=>(ts (rn rfl (eG (Ts:=[Is (.bool false),Is (.slice none 0 0),Is (.bool false),Is (.slice none 0 0),Is (.slice none 0 0)]) O_130 rfl (fun V=>aW zd (aW zd (aW zd (aW zd (aW zd (aG))))))) fun B6=>(ro rfl (cQ (cJ 0)) (eX (cK (ts (rm rfl (ro rfl (iY (Ht rfl) cV) (eX (fR (Ht rfl) (by simp [hd]) ?_)))))))))))
 refine cU (ts (rm rfl (ro rfl (cZ Tryz.call210 (xB d1 d2) ⟨(Ht rfl),trivial⟩) (rn rfl (eG (Ts:=[Is (.bool false),Is (.slice none 0 0)]) O_128 rfl (fun V=>aW zd (aW zd (aG)))) fun B8=>(gV Z_128 (Ht rfl) (Ht rfl) rfl (i:=1) rfl (aK rfl) rfl rfl (eX (ts (rm rfl (ro rfl (cZ Tryz.call210 (xB p1 p2) ⟨(Ht rfl),trivial⟩) (rm rfl (ro rfl (cZ Tryz.call210 (xB q1 q2) ⟨(Ht rfl),trivial⟩) (rn rfl (eG (Ts:=[Is (.bool false),Is (.slice none 0 0)]) O_128 rfl (fun V=>aW zd (aW zd (aG)))) fun B9=>?_))))))))))))
 refine rn rfl (eG (Ts:=[Is (.bool false),Is (.slice none 0 0)]) O_128 rfl (fun V=>aW zd (aW zd (aG)))) fun B10=>gV Z_128 (Ht rfl) (Ht rfl) rfl (i:=2) rfl (aK rfl) rfl rfl (gV Z_128 (Ht rfl) (Ht rfl) rfl (i:=3) rfl (aK rfl) rfl rfl (eX (cK (oS (fun (a:Int) (b:Int)=>Qi.mk' a b d.natAbs = Qi.frac p q d ∧ (dg a.natAbs).length ≤ 2 ∧ (dg b.natAbs).length ≤ 2) (fun (a:Int) (b:Int)=>[(6,cE B6 0),(8,cE B8 0),(9,cE B9 0),(10,cE B10 0)]) (fun (a:Int) (b:Int)=>[box B6 130 [Is (.bool false),Is (.slice none 0 0),Is (.bool false),Is (.slice none 0 0),Is (.slice none 0 0)],box B8 128 [aC (decide (d < 0)),aL (d).natAbs],box B9 128 [aC (decide (a < 0)),aL (a).natAbs],box B10 128 [aC (decide (b < 0)),aL (b).natAbs]]) ?_ (fun a b ⟨hab,ha,hb⟩=>?_)))))
 ·refine ts (ro rfl (eJ mZ (Ht rfl) rfl) (ro rfl (fQ A_4 Z_4 (Ht rfl) (i := 1) rfl rfl) (eX (dQ (Ht rfl) (fun hn => ?_) (fun hn => ?_)))))
  ·simp only [decide_eq_true_eq] at hn
   refine fW (m:=3) (dp 9 rfl (eW A_128 Z_128 (Ht rfl) (i:=2) rfl rfl rfl) (dq 22 0 rfl (cZ Tryz.call211 zK ⟨(Ht rfl),trivial⟩) (dp 10 rfl (eW A_128 Z_128 (Ht rfl) (i:=3) rfl rfl rfl) (fK bC rfl (by kernel_rfl) (aJ (aJ (aJ (aV (ro rfl (cZ Tryz.call211 zK ⟨(Ht rfl),trivial⟩) (gV Z_128 (Ht rfl) (Ht rfl) rfl (i:=2) rfl (aK rfl) rfl rfl (gV Z_128 (Ht rfl) (Ht rfl) rfl (i:=3) rfl (aK rfl) rfl rfl (eX (aP (-p,-q) ⟨Qi.frac_neg hn,by dsimp only; omega,by dsimp only; omega⟩ (zS rfl) (aU (aB rfl) (aU (aB rfl) (aU (aB rfl) (aU (aB rfl) aY)))))))))))))))))
  ·simp only [decide_eq_false_iff_not] at hn
   refine cU (aP (p,q) ⟨Qi.frac_pos hn hd,by omega,by omega⟩ (zS rfl) (cT.refl _))
 ·refine ts (ro rfl (eW A_128 Z_128 (Ht rfl) (i := 2) rfl rfl rfl) (ro rfl (eW A_128 Z_128 (Ht rfl) (i := 3) rfl rfl rfl) (ro rfl (eJ jM (Ht rfl) rfl) (ro rfl (fQ A_55 Z_55 (Ht rfl) (i := 1) rfl rfl) (ro rfl (cZ Tryz.call202 (Ig zo zo zo zo) ⟨(Ht rfl), (Ht rfl), (Ht rfl), trivial⟩) (gV Z_130 (Ht rfl) (Ht rfl) rfl (i := 0) rfl (aK rfl) rfl rfl (ro rfl (cQ (cJ 0)) (eX (bN rfl (fV (gX A_130 Z_130 rfl (i := 0) rfl rfl) ?_) (eY rfl))))))))))
  exact (a0F hab)
theorem a0m {r:Rt}:bB Tryz.prog 191 [lG r] (QT r.q):=by
 have hr1:=r.h1; have hr2:=r.h2; have hr3:=r.h3; have hr4:=r.h4; have hr5:=r.d1; have hr6:=r.d2; have hr0:=r.d0
 refine bB.intro Tryz.func191 rfl Tryz.ntmps191 rfl (fun cx=>(ts (rn rfl (gQ (Ht rfl)) fun B1=>(rn rfl (eG (Ts:=[Is (.bool false),Is (.slice none 0 0),Is (.bool false),Is (.slice none 0 0),Is (.slice none 0 0)]) O_130 rfl (fun V=>aW zd (aW zd (aW zd (aW zd (aW zd (aG))))))) fun B2=>(eX (cK (iT (fun (uu:Unit)=>True) (fun (uu:Unit)=>[(1,cE B1 0),(2,cE B2 0)]) (fun (uu:Unit)=>[box B1 48 [aF .i64 r.re,aF .i64 r.im,aF .i64 r.d],box B2 130 [Is (.bool false),Is (.slice none 0 0),Is (.bool false),Is (.slice none 0 0),Is (.slice none 0 0)]]) ?_ (fun uu _=>?_))))))))
 ·refine ts (ro rfl (eJ nP (Ht rfl) rfl) (ro rfl (fQ A_2 Z_2 (Ht rfl) (i := 0) rfl rfl) (ro rfl (iY (Ht rfl) cV) (eX (dQ (Ht rfl) (fun hb => ?_) (fun hb => ?_))))))
  ·simp only [decide_eq_true_eq] at hb
   refine cY (ro rfl (eJ nP (Ht rfl) rfl) (kE Z_2 (Ht rfl) (cJ 1) (i:=0) rfl (aK rfl) rfl (eX (aP () trivial (zS rfl) (aU (aB (by rw [Rt.d,if_pos hb]; rfl)) (aU (aB rfl) aY))))))
  ·simp only [decide_eq_false_iff_not] at hb
   refine cU (aP () trivial (zS rfl) (aU (aB (by rw [Rt.d,if_neg hb])) (aU (aB rfl) aY)))
 ·refine ts (ro rfl (eJ oY (Ht rfl) rfl) (ro rfl (fQ A_2 Z_2 (Ht rfl) (i := 0) rfl rfl) (ro rfl (eJ Bf (Ht rfl) rfl) (ro rfl (fQ A_2 Z_2 (Ht rfl) (i := 0) rfl rfl) (ro rfl (eJ nP (Ht rfl) rfl) (ro rfl (fQ A_2 Z_2 (Ht rfl) (i := 0) rfl rfl) (ro rfl (cZ Tryz.call112 (Xz hr1 hr2 hr3 hr4 hr5 hr6 hr0) ⟨(Ht rfl), (Ht rfl), (Ht rfl), trivial⟩) (rm rfl (ro rfl (dK (Ht rfl) rfl) (ro rfl (dK (Ht rfl) rfl) (rn rfl (eG (Ts := [Is (.bool false), Is (.slice none 0 0), Is (.bool false), Is (.slice none 0 0), Is (.slice none 0 0)]) O_130 rfl (fun V => aW zd (aW zd (aW zd (aW zd (aW zd (aG))))))) fun B3 => ?_)))))))))))
  refine gV Z_130 (Ht rfl) (Ht rfl) rfl (i:=2) rfl (aK rfl) rfl rfl (ra rfl (eX (ts (ro rfl (eW A_130 Z_130 (Ht rfl) (i:=2) rfl rfl rfl) (gV Z_130 (Ht rfl) (Ht rfl) rfl (i:=1) rfl (aK rfl) rfl rfl (eX ?_))))))
  exact fU rfl (gX A_130 Z_130 rfl (i:=1) rfl rfl)
theorem a0l {x:Qi} {L:Nat} [hx:aM x L] (h:L ≤ 17592186044415):bB Tryz.prog 271 [QT x] (QT x.imp):=by
 have hxa:=lT hx.fit; have hxb:=lU hx.fit; have hxd:=lV hx.fit
 have hxp:=x.den_pos
 have h5:(dg (0:Int).natAbs).length ≤ 0:=by rw [show (0:Int).natAbs = 0 from rfl,dD]; exact Nat.le_refl _
 refine bB.intro Tryz.func271 rfl Tryz.ntmps271 rfl (fun cx=>(ts (rn rfl (gQ (Ht rfl)) fun B1=>(rn rfl (eG (Ts:=[Is (.bool false),Is (.slice none 0 0),Is (.bool false),Is (.slice none 0 0),Is (.slice none 0 0)]) O_130 rfl (fun V=>aW zd (aW zd (aW zd (aW zd (aW zd (aG))))))) fun B2=>(eX (ts (ro rfl (eJ oJ (Ht rfl) rfl) (ro rfl (eW A_128 Z_128 (Ht rfl) (i:=0) rfl rfl rfl) (ro rfl (aE.imp (Mu ) yR) ?_)))))))))
 refine ro rfl (eJ nA (Ht rfl) rfl) (ro rfl (fQ A_55 Z_55 (Ht rfl) (i:=0) rfl rfl) (ro rfl (cZ Tryz.call202 (Ig (by first | assumption | omega) zo zo zo) ⟨(Ht rfl),(Ht rfl),(Ht rfl),trivial⟩) (gV Z_130 (Ht rfl) (Ht rfl) rfl (i:=1) rfl (aK rfl) rfl rfl (eX (fU rfl (fV (gX A_130 Z_130 rfl (i:=1) rfl rfl) ?_))))))
 exact (a0F (Qi.mk_im0 x))
theorem Ih {x:Qi}:bB Tryz.prog 209 [QT x] (aF .i64 (mF x.a 0)):=by
 refine bB.intro Tryz.func209 rfl Tryz.ntmps209 rfl (fun cx=>(ts (rn rfl (gQ (Ht rfl)) fun B1=>(ro rfl (cQ (cJ 0)) (eX (cK (ts (ro rfl (eJ oI (Ht rfl) rfl) (ro rfl (eJ mZ (Ht rfl) rfl) (ro rfl (fQ A_4 Z_4 (Ht rfl) (i:=0) rfl rfl) (eX (dQ (Ht rfl) (fun hb=>?_) (fun hb=>?_)))))))))))))
 ·simp only [decide_eq_true_eq] at hb
  refine ts (ro rfl (cQ cV) (eX (fU rfl (fV (eY rfl) ?_))))
  exact (aT (by rw [mF,if_pos hb]))
 ·simp only [decide_eq_false_iff_not] at hb
  refine cU (cK (ts (ro rfl (eJ oI (Ht rfl) rfl) (ro rfl (eJ jM (Ht rfl) rfl) (ro rfl (fQ A_55 Z_55 (Ht rfl) (i:=0) rfl rfl) (ro rfl (dG U_55 (Ht rfl) aA) (ro rfl (eO (Ht rfl) (cJ 0)) (eX (dQ (Ht rfl) (fun hc=>?_) (fun hc=>?_))))))))))
  ·simp only [decide_eq_true_eq] at hc
   have h0:x.a ≠ 0:=fun e=>by rw [e] at hc; simp [dD] at hc
   refine ts (ro rfl (cQ (cJ 1)) (eX (fU rfl (fV (eY rfl) ?_))))
   exact (aT (by rw [mF,if_neg hb,if_pos zo]; rfl))
  ·simp only [decide_eq_false_iff_not] at hc
   have h0:x.a = 0:=by have:=aI.1 (Nat.eq_zero_of_not_pos hc); omega
   refine cU (ts (ro rfl (cQ (cJ 0)) (eX (fU rfl (fV (eY rfl) ?_)))))
   exact (aT (by rw [mF,if_neg hb,if_neg zo]; rfl))
theorem Sq {x:Qi} {L:Nat} [hx:aM x L] (h:L ≤ 17592186044415):bB Tryz.prog 242 [QT x] (aF .i64 (mF x.b 0)):=by
 refine bB.intro Tryz.func242 rfl Tryz.ntmps242 rfl (fun cx=>(ts (rn rfl (gQ (Ht rfl)) fun B1=>(ro rfl (cQ (cJ 0)) (eX (ts (ro rfl (eW A_130 Z_130 (Ht rfl) (i:=0) rfl rfl rfl) (ro rfl (cZ Tryz.call271 (a0l zo) ⟨(Ht rfl),trivial⟩) (ro rfl (cZ Tryz.call209 Ih ⟨(Ht rfl),trivial⟩) (ra rfl (eX (fU rfl (fV (eY rfl) ?_)))))))))))))
 exact (aT (Vi x))
theorem sC {x y:Qi} {L M:Nat} [hx:aM x L] [hy:aM y M] (h:L + 3 * M + 2 ≤ 17592186044415):bB Tryz.prog 64 [aD x,aD y] (dM [aD (x / y),aF .i64 (if y = Qi.zero then 3 else 0)]):=by
 have hxa:=lT hx.fit; have hxb:=lU hx.fit; have hxd:=lV hx.fit
 have hya:=lT hy.fit; have hyb:=lU hy.fit; have hyd:=lV hy.fit
 have hxp:=x.den_pos; have hyp:=y.den_pos; have hMp:=hy.pos
 refine bB.intro Tryz.func64 rfl Tryz.ntmps64 rfl (fun cx=>(ts (rn rfl (gQ (Ht rfl)) fun B2=>(rn rfl (gQ (Ht rfl)) fun B3=>(rn rfl (eG (Ts:=[Is (.bool false),Is (.slice none 0 0),Is (.bool false),Is (.slice none 0 0),Is (.slice none 0 0)]) O_60 rfl (fun V=>aW zd (aW zd (aW zd (aW zd (aW zd (aG))))))) fun B4=>(ro rfl (cQ (cJ 0)) (eX (cK (ts (ro rfl (eW A_60 Z_60 (Ht rfl) (i:=1) rfl rfl rfl) ?_))))))))))
 refine ro rfl (cZ Tryz.call82 (Hx zo) ⟨(Ht rfl),trivial⟩) (ro rfl (fO (Ht rfl)) (eX (dQ (Ht rfl) (fun hb=>?_) (fun hb=>?_))))
 ·have h0 : y = Qi.zero := by simpa using hb
  refine ts (ro rfl (aE.imp (At ) sQ) (gV Z_60 (Ht rfl) (Ht rfl) rfl (i:=2) rfl (aK rfl) rfl rfl (ro rfl (cQ (cJ 3)) (eX (bN rfl (fV (gX A_60 Z_60 rfl (i:=2) rfl rfl) ?_) (fV (eY rfl) ?_))))))
  ·exact (iX (by rw [h0,Qi.div_zero]))
  ·exact (aT (by rw [if_pos h0]; rfl))
 ·have h0 : y ≠ Qi.zero := by simpa using hb
  have g1:=mS y.a y.a; have g2:=mS y.b y.b; have g3:=rR y.b
  have g4:=mR (x:=y.a * y.a) (y:=y.b * y.b) (L:=M + M) zo zo
  obtain ⟨c,hc⟩:∃ c,c = Qi.mk' y.a (-y.b) 1:=⟨_,rfl⟩
  obtain ⟨z,hz⟩:∃ z,z = x * c:=⟨_,rfl⟩
  have l1:(dg 1).length ≤ 1:=by rw [Ns (by decide) (by decide)]; exact Nat.le_refl _
  haveI fc:aM c M:=hc ▸ ⟨Qi.Fit.mk (by decide) hy.fit.1 (by rw [Int.natAbs_neg]; exact hy.fit.2.1) (Qi.one_lt hMp)⟩
  haveI fz:aM z (L + M + 1):=hz ▸ fitMul
  have hza:=lT fz.fit; have hzb:=lU fz.fit; have hzd:=lV fz.fit
  have hnp:=Qi.nrm_int_pos h0
  have hm:(((y.a * y.a + y.b * y.b).natAbs:Nat):Int) = y.a * y.a + y.b * y.b:=Int.natAbs_of_nonneg zo
  have hdp2:=Nat.mul_pos z.den_pos (show 0 < (y.a * y.a + y.b * y.b).natAbs by omega)
  have e1:=gA z.a y.den; have e2:=gA z.b y.den; have e3:=xI z.den (y.a * y.a + y.b * y.b).natAbs
  refine cU (cK (fW (m:=12) (dp 3 rfl (eJ gB (Ht rfl) rfl) (dq 12 0 rfl (eW A_58 Z_58 (Ht rfl) (i:=1) rfl rfl rfl) (dp 3 rfl (eJ gB (Ht rfl) rfl) (dq 14 2 rfl (eW A_58 Z_58 (Ht rfl) (i:=1) rfl rfl rfl) (dP 13 1 15 3 rfl (cZ K_151 (qR zo zo) ⟨(Ht rfl),(Ht rfl),trivial⟩) (dp 3 rfl (eJ gS (Ht rfl) rfl) (dq 17 5 rfl (eW A_58 Z_58 (Ht rfl) (i:=1) rfl rfl rfl) (dp 3 rfl (eJ gS (Ht rfl) rfl) (dq 19 7 rfl (eW A_58 Z_58 (Ht rfl) (i:=1) rfl rfl rfl) ?_)))))))))))
  refine dP 18 6 20 8 rfl (cZ K_151 (qR zo zo) ⟨(Ht rfl),(Ht rfl),trivial⟩) (dP 16 4 21 9 rfl (cZ K_152 (tI zo zo) ⟨(Ht rfl),(Ht rfl),trivial⟩) (C.D_new (Ei:=[]) rfl rfl rfl bW (eG (Ts:=[Is (.bool false),Is (.slice none 0 0)]) O_58 rfl (fun V=>aW zd (aW zd (aG)))) (fK bC rfl (by kernel_rfl) (zF (zF (aJ (aJ (aJ (C.F_new (fun B6=>aV (gV Z_58 (Ht rfl) (Ht rfl) rfl (i:=3) rfl (aK rfl) rfl rfl ?_)))))))))))
  refine eX (cK (fW (m:=10) (dp 2 rfl (eW A_60 Z_60 (Ht rfl) (i:=0) rfl rfl rfl) (dp 3 rfl (eJ gB (Ht rfl) rfl) (dq 24 1 rfl (eW A_58 Z_58 (Ht rfl) (i:=1) rfl rfl rfl) (dp 3 rfl (eJ gS (Ht rfl) rfl) (dq 26 3 rfl (eW A_58 Z_58 (Ht rfl) (i:=1) rfl rfl rfl) (dq 27 4 rfl (cZ K_167 oU ⟨(Ht rfl),trivial⟩) (d0 rfl (aE.imp (eM (xs:=[_]) U_56 Z_218 O_218 (cW (cJ 1) cG) rfl rfl rfl) Ef) (C.D_step (Ei:=[(25,_),(28,_),(29,_)]) rfl rfl (bV (bG 2 rfl rfl) (bV (bG 5 rfl rfl) (bV (bG 6 rfl rfl) bW))) (dX rfl (aE.imp (cZ K_150 (tH (by first | assumption | omega) zo zo zo) ⟨(Ht rfl),(Ht rfl),(Ht rfl),trivial⟩) (iX hc.symm))) ?_))))))))))
  refine dP 23 0 30 7 rfl (aE.imp (cZ K_70 (kQ zo) ⟨(Ht rfl),(Ht rfl),trivial⟩) (iX hz.symm)) (C.D_new (Ei:=[]) rfl rfl rfl bW (eG (Ts:=[Is (.bool false),Is (.slice none 0 0),Is (.bool false),Is (.slice none 0 0),Is (.slice none 0 0)]) O_60 rfl (fun V=>aW zd (aW zd (aW zd (aW zd (aW zd (aG))))))) (fK bC rfl (by kernel_rfl) (zF (zF (aJ (C.F_new (fun B7=>aV ?_)))))))
  refine gV Z_60 (Ht rfl) (Ht rfl) rfl (i:=4) rfl (aK rfl) rfl rfl (eX (cK (fW (m:=14) (dp 7 rfl (eJ gB (Ht rfl) rfl) (dq 32 0 rfl (eW A_58 Z_58 (Ht rfl) (i:=4) rfl rfl rfl) (dp 3 rfl (eW A_60 Z_60 (Ht rfl) (i:=1) rfl rfl rfl) (dq 34 2 rfl (cZ K_153 nN ⟨(Ht rfl),trivial⟩) (dP 33 1 35 3 rfl (cZ K_155 (kF zo zo) ⟨(Ht rfl),(Ht rfl),trivial⟩) (dp 7 rfl (eJ gS (Ht rfl) rfl) (dq 37 5 rfl (eW A_58 Z_58 (Ht rfl) (i:=4) rfl rfl rfl) ?_))))))))))
  refine dp 3 rfl (eW A_60 Z_60 (Ht rfl) (i:=1) rfl rfl rfl) (dq 39 7 rfl (cZ K_153 nN ⟨(Ht rfl),trivial⟩) (dP 38 6 40 8 rfl (cZ K_155 (kF zo zo) ⟨(Ht rfl),(Ht rfl),trivial⟩) (dp 7 rfl (eW A_60 Z_60 (Ht rfl) (i:=4) rfl rfl rfl) (dq 42 10 rfl (cZ K_153 nN ⟨(Ht rfl),trivial⟩) (dp 6 rfl (eJ eA (Ht rfl) rfl) (dq 44 12 rfl (fQ A_56 Z_56 (Ht rfl) (i:=3) rfl rfl) (fK bC rfl (by kernel_rfl) (zF (zF (zF (aJ (aJ (aV ?_)))))))))))))
  refine ro rfl (cZ Tryz.call154 (Cv zo zo) ⟨(Ht rfl),(Ht rfl),trivial⟩) (ro rfl (cZ K_150 (tH (by first | assumption | omega) zo zo zo) ⟨(Ht rfl),(Ht rfl),(Ht rfl),trivial⟩) (gV Z_60 (Ht rfl) (Ht rfl) rfl (i:=2) rfl (aK rfl) rfl rfl (ro rfl (cQ (cJ 0)) (eX (bN rfl (fV (gX A_60 Z_60 rfl (i:=2) rfl rfl) ?_) (fV (eY rfl) ?_))))))
  ·exact (iX (Qi.mk_divP x h0 (hc ▸ hz) hm))
  ·exact (aT (by rw [if_neg h0]; rfl))
theorem qP {a:Int} {d:Nat} (hd:0 < d) (ha:(dg a.natAbs).length ≤ 8796093022208) (hd2:(dg d).length ≤ 8796093022208):bB Tryz.prog 243 [fH a,aL d] (oC (qF a d)):=by
 have hg:=xH ha hd2
 have hg0:Nat.gcd a.natAbs d ≠ 0:=fun e=>by have:=Nat.gcd_eq_zero_iff.1 e; omega
 have h1:=Bd a.natAbs (Nat.gcd a.natAbs d); have h2:=Bd d (Nat.gcd a.natAbs d)
 rw [Va a hd]
 obtain ⟨u,hu⟩:∃ u,u = a.natAbs / Nat.gcd a.natAbs d:=⟨_,rfl⟩
 obtain ⟨v,hv⟩:∃ v,v = d / Nat.gcd a.natAbs d:=⟨_,rfl⟩
 rw [← hu,← hv]
 rw [← hu] at h1
 rw [← hv] at h2
 have h3:=oW u; have h4:=oW v
 refine bB.intro Tryz.func243 rfl Tryz.ntmps243 rfl (fun cx=>(ts (rn rfl (gQ (Ht rfl)) fun B2=>(ro rfl (cQ (aR.cS (l:=[]) rfl)) (eX (ts (ro rfl (eJ jM (Ht rfl) rfl) (ro rfl (fQ A_55 Z_55 (Ht rfl) (i:=0) rfl rfl) (rm rfl (ro rfl (cZ Tryz.call249 (Gk zo zo) ⟨(Ht rfl),(Ht rfl),trivial⟩) (ra rfl (eX (ts (ro rfl (eJ jM (Ht rfl) rfl) (ro rfl (fQ A_55 Z_55 (Ht rfl) (i:=0) rfl rfl) (rm rfl (ro rfl (cZ K_250 (tJ zo zo zo) ⟨(Ht rfl),(Ht rfl),trivial⟩) ?_)))))))))))))))))
 refine rm rfl (ro rfl (aE.imp (dK (Ht rfl) rfl) (cL hu.symm)) (ro rfl (dK (Ht rfl) rfl) (ra rfl (ra rfl (eX (ts (rm rfl (rm rfl (ro rfl (cZ K_250 (tJ zo zo zo) ⟨(Ht rfl),(Ht rfl),trivial⟩) (rm rfl (ro rfl (aE.imp (dK (Ht rfl) rfl) (cL hv.symm)) (ro rfl (dK (Ht rfl) rfl) (ra rfl (ra rfl (eX (ts (rm rfl (ro rfl (cZ Tryz.call272 (Ii zo) ⟨(Ht rfl),trivial⟩) (ra rfl (eX (cK (iT (fun (uu:Unit)=>True) (fun (uu:Unit)=>[(8,aL v),(10,oC (if a < 0 then 45 :: rI u else rI u))]) (fun (uu:Unit)=>[box B2 128 [aC (decide (a < 0)),aL (a).natAbs]]) ?_ (fun uu _=>?_)))))))))))))))))))))))
 ·refine ts (ro rfl (eJ mZ (Ht rfl) rfl) (ro rfl (fQ A_4 Z_4 (Ht rfl) (i := 0) rfl rfl) (eX (dQ (Ht rfl) (fun hb => ?_) (fun hb => ?_)))))
  ·simp only [decide_eq_true_eq] at hb
   refine cY (rm rfl (ro rfl (jB (aR.cS (l:=[45]) rfl) (Ht rfl) (by first | omega | (simp; omega))) (ra rfl (eX (aP () trivial (aQ rfl (aZ rfl (iR (by rw [if_pos hb]; rfl)) aX)) (cT.refl _))))))
  ·simp only [decide_eq_false_iff_not] at hb
   refine cU (aP () trivial (aQ rfl (aZ rfl (iR (by rw [if_neg hb])) aX)) (cT.refl _))
 ·have h6 : (if a < 0 then 45 :: rI u else rI u).length ≤ (rI u).length + 1 := by split <;> simp
  refine cK (ts (rm rfl (ro rfl (dG U_55 (Ht rfl) aA) (ro rfl (cB (Ht rfl) (cJ 1)) (rm rfl (fJ rfl rfl (eU rfl rfl (Ht rfl) (fun h=>cX (Ht rfl))) (fJ rfl rfl (eU rfl rfl (Ht rfl) (fun h=>dZ U_55 Z_218 (fG rfl h) (cJ 0) rfl (dY (aH (by first | omega | (simp at h; omega)))))) (fJ rfl rfl (eU rfl rfl (Ht rfl) (fun h=>dJ A_218 Z_218 (fG rfl h))) (fJ rfl rfl (eU rfl rfl (Ht rfl) (fun h=>cB (fG rfl h) (cJ 1))) (ro rfl (eC (Ht rfl) (fun h=>(fG rfl h))) ?_))))))))))
  refine eX (dQ (Ht rfl) (fun hc=>?_) (fun hc=>?_))
  ·rw [Br] at hc
   have hv1:v = 1:=by simpa using hc
   refine ts (rm rfl (ra rfl (eX (fU rfl (fV (eY rfl) ?_)))))
   exact (iR (by rw [if_pos hv1,List.append_nil]))
  ·rw [Br] at hc
   have hv1:v ≠ 1:=by simpa using hc
   refine cU (ts (rm rfl (ro rfl (jB (Ht rfl) (aR.cS (l:=[47]) rfl) (by simp only [List.length_cons,List.length_nil]; omega)) ?_)))
   refine rm rfl (ro rfl (cZ Tryz.call272 (Ii zo) ⟨(Ht rfl),trivial⟩) (ro rfl (jB (Ht rfl) (Ht rfl) (by simp only [List.length_append,List.length_cons,List.length_nil]; omega)) ?_))
   refine ra rfl (eX (fU rfl (fV (eY rfl) ?_)))
   exact (iR (by rw [if_neg hv1,List.append_assoc]; rfl))
theorem Yb {x:Qi} {L:Nat} [hx:aM x L] (h:L ≤ 8796093022208):bB Tryz.prog 179 [QT x] (oC (Mc x)):=by
 have hxa:=lT hx.fit; have hxb:=lU hx.fit; have hxd:=lV hx.fit
 have hdp:=x.den_pos
 have l1:=sS x.a hdp; have l2:=sS x.b hdp
 refine bB.intro Tryz.func179 rfl Tryz.ntmps179 rfl (fun cx=>(ts (rn rfl (gQ (Ht rfl)) fun B1=>(ro rfl (cQ (aR.cS (l:=[]) rfl)) (eX (cK (ts (ro rfl (eJ oJ (Ht rfl) rfl) (ro rfl (eJ jM (Ht rfl) rfl) (ro rfl (fQ A_55 Z_55 (Ht rfl) (i:=0) rfl rfl) (ro rfl (dG U_55 (Ht rfl) aA) (ro rfl (cB (Ht rfl) (cJ 0)) (eX (dQ (Ht rfl) (fun hb=>?_) (fun hb=>?_)))))))))))))))
 ·simp only [decide_eq_true_eq] at hb
  have h0:x.b = 0:=by have:=aI.1 hb; omega
  refine ts (ro rfl (eJ oI (Ht rfl) rfl) (ro rfl (eW A_128 Z_128 (Ht rfl) (i:=0) rfl rfl rfl) (ro rfl (eJ nA (Ht rfl) rfl) (ro rfl (fQ A_55 Z_55 (Ht rfl) (i:=0) rfl rfl) (ro rfl (cZ K_243 (qP (by assumption) zo zo) ⟨(Ht rfl),(Ht rfl),trivial⟩) ?_)))))
  refine ra rfl (eX (fU rfl (fV (eY rfl) ?_)))
  exact (iR (by rw [Mc,if_pos h0]))
 ·simp only [decide_eq_false_iff_not] at hb
  have h0:x.b ≠ 0:=fun e=>hb (by rw [e]; exact aI.2 rfl)
  refine cU (cK (ts (ro rfl (eJ oI (Ht rfl) rfl) (ro rfl (eJ jM (Ht rfl) rfl) (ro rfl (fQ A_55 Z_55 (Ht rfl) (i:=0) rfl rfl) (ro rfl (dG U_55 (Ht rfl) aA) (ro rfl (cB (Ht rfl) (cJ 0)) (eX (dQ (Ht rfl) (fun hc=>?_) (fun hc=>?_))))))))))
  ·simp only [decide_eq_true_eq] at hc
   have h1:x.a = 0:=by have:=aI.1 hc; omega
   refine ts (ro rfl (eJ oJ (Ht rfl) rfl) (ro rfl (eW A_128 Z_128 (Ht rfl) (i:=0) rfl rfl rfl) (ro rfl (eJ nA (Ht rfl) rfl) (ro rfl (fQ A_55 Z_55 (Ht rfl) (i:=0) rfl rfl) (ro rfl (cZ K_243 (qP (by assumption) zo zo) ⟨(Ht rfl),(Ht rfl),trivial⟩) ?_)))))
   refine ro rfl (jB (Ht rfl) (aR.cS (l:=[105]) rfl) (by first | omega | (simp only [List.length_append,List.length_cons,List.length_nil]; omega))) (ra rfl (eX (fU rfl (fV (eY rfl) ?_))))
   exact (iR (by rw [Mc,if_neg h0,if_pos h1]))
  ·simp only [decide_eq_false_iff_not] at hc
   have h1:x.a ≠ 0:=fun e=>hc (by rw [e]; exact aI.2 rfl)
   refine cU (cK (ts (ro rfl (eJ oJ (Ht rfl) rfl) (ro rfl (eJ mZ (Ht rfl) rfl) (ro rfl (fQ A_4 Z_4 (Ht rfl) (i:=0) rfl rfl) (eX (dQ (Ht rfl) (fun hd=>?_) (fun hd=>?_))))))))
   ·simp only [decide_eq_true_eq] at hd
    refine cK (fW (m:=9) (dp 1 rfl (eJ oI (Ht rfl) rfl) (dq 27 0 rfl (eW A_128 Z_128 (Ht rfl) (i:=0) rfl rfl rfl) (dp 1 rfl (eJ nA (Ht rfl) rfl) (dq 29 2 rfl (fQ A_55 Z_55 (Ht rfl) (i:=0) rfl rfl) (dP 28 1 30 3 rfl (cZ K_243 (qP (by assumption) zo zo) ⟨(Ht rfl),(Ht rfl),trivial⟩) ?_))))))
    refine dp 1 rfl (eJ oJ (Ht rfl) rfl) (dq 32 5 rfl (eW A_128 Z_128 (Ht rfl) (i:=0) rfl rfl rfl) (dp 1 rfl (eJ nA (Ht rfl) rfl) (dq 34 7 rfl (fQ A_55 Z_55 (Ht rfl) (i:=0) rfl rfl) (fK bC rfl (by kernel_rfl) (zF (zF (aJ (aV (ro rfl (cZ K_243 (qP (by assumption) zo zo) ⟨(Ht rfl),(Ht rfl),trivial⟩) ?_)))))))))
    refine ro rfl (jB (Ht rfl) (Ht rfl) (by first | omega | (simp only [List.length_append,List.length_cons,List.length_nil]; omega))) (ro rfl (jB (Ht rfl) (aR.cS (l:=[105]) rfl) (by first | omega | (simp only [List.length_append,List.length_cons,List.length_nil]; omega))) (ra rfl (eX (fU rfl (fV (eY rfl) ?_)))))
    exact (iR (by rw [Mc,if_neg h0,if_neg h1,if_pos hd,List.append_assoc]))
   ·simp only [decide_eq_false_iff_not] at hd
    refine cU (cK (fW (m:=11) (dp 1 rfl (eJ oI (Ht rfl) rfl) (dq 39 0 rfl (eW A_128 Z_128 (Ht rfl) (i:=0) rfl rfl rfl) (dp 1 rfl (eJ nA (Ht rfl) rfl) (dq 41 2 rfl (fQ A_55 Z_55 (Ht rfl) (i:=0) rfl rfl) (dP 40 1 42 3 rfl (cZ K_243 (qP (by assumption) zo zo) ⟨(Ht rfl),(Ht rfl),trivial⟩) ?_)))))))
    refine dq 43 4 rfl (jB (Ht rfl) (aR.cS (l:=[43]) rfl) (by first | omega | (simp only [List.length_append,List.length_cons,List.length_nil]; omega))) (dp 1 rfl (eJ oJ (Ht rfl) rfl) (dq 45 6 rfl (eW A_128 Z_128 (Ht rfl) (i:=0) rfl rfl rfl) (dp 1 rfl (eJ nA (Ht rfl) rfl) (dq 47 8 rfl (fQ A_55 Z_55 (Ht rfl) (i:=0) rfl rfl) (dP 46 7 48 9 rfl (cZ K_243 (qP (by assumption) zo zo) ⟨(Ht rfl),(Ht rfl),trivial⟩) ?_)))))
    refine fK bC rfl (by kernel_rfl) (zF (zF (aJ (aJ (aJ (aV (ro rfl (jB (Ht rfl) (Ht rfl) (by first | omega | (simp only [List.length_append,List.length_cons,List.length_nil]; omega))) (ro rfl (jB (Ht rfl) (aR.cS (l:=[105]) rfl) (by first | omega | (simp only [List.length_append,List.length_cons,List.length_nil]; omega))) (ra rfl (eX (fU rfl (fV (eY rfl) ?_))))))))))))
    exact (iR (by rw [Mc,if_neg h0,if_neg h1,if_neg hd,List.append_assoc,List.append_assoc]; rfl))
theorem Ib {x y:Qi} {L M:Nat} [hx:aM x L] [hy:aM y M] (h:L ≤ 8796093022208) (h2:M ≤ 8796093022208):bB Tryz.prog 79 [aD x,QT y] (aC (decide (Mc x = Mc y))):=by
 refine bB.intro Tryz.func79 rfl Tryz.ntmps79 rfl (fun cx=>(ts (rn rfl (gQ (Ht rfl)) fun B2=>(rn rfl (gQ (Ht rfl)) fun B3=>(ro rfl (cQ cV) (eX (cK (fW (m:=3) (dp 2 rfl (eW A_60 Z_60 (Ht rfl) (i:=0) rfl rfl rfl) (dq 5 0 rfl (cZ Tryz.call115 (Ni zo) ⟨(Ht rfl),trivial⟩) (dp 3 rfl (eW A_130 Z_130 (Ht rfl) (i:=1) rfl rfl rfl) (fK bC rfl (by kernel_rfl) (aJ (aJ (aJ (aV (ro rfl (cZ Tryz.call179 (Yb zo) ⟨(Ht rfl),trivial⟩) (ro rfl (Pq (Ht rfl) (Ht rfl)) ?_))))))))))))))))))
 refine ra rfl (eX ?_)
 exact fU rfl (eY rfl)
end
section
open Go Go.RowKit
theorem sN:Tryz.prog.info? 25 = some Tryz.t25:=by kernel_rfl
end
section
open Go Go.RowKit
theorem Fz {γ:Type} {l:List γ} {T:γ → Ty} {p:γ → Bool} [sh:∀ x,cP (T x) 5 true] (hl:l.length ≤ 1000000):bB Tryz.prog 207 [jK 5 (l.map T),Fk Tryz.prog γ (fun x=>[T x]) (fun x=>aC (p x))] (aF .i64 (Bj p l)):=by
 refine bB.intro Tryz.func207 rfl Tryz.ntmps207 rfl (fun cx=>(ts (ro rfl (cQ (cJ 0)) (eX (cK (ts (rm rfl (ro rfl (dG U_25 (Ht rfl) aA) (ro rfl (cX (cJ 0)) (eX (eK ?_)))))))))))
 refine dB (fun (k : Nat) => k ≤ l.length ∧ ∀ (i : Nat) (x : γ), i < k → l[i]? = some x → p x = false) (fun (k : Nat) => l.length - k) (fun (k : Nat) => [(0, jK 5 (l.map T)), (1, Fk Tryz.prog γ (fun x => [T x]) (fun x => aC (p x))), (7, NT .i64 l.length), (8, NT .i64 k)]) (fun (k : Nat) => []) 0 ⟨Nat.zero_le _, fun i x h => by omega⟩
  (zS rfl) aY (fun k ⟨hk,hn⟩=>?_)
 refine ts (ro rfl (gW (Ht rfl) (Ht rfl)) (eX (cK (dQ (Ht rfl) (fun hb=>?_) (fun hb=>?_)))))
 ·simp only [decide_eq_true_eq] at hb
  refine cU (cK (eK (ts (rm rfl (ra rfl (eX (ts (rm rfl (rm rfl (rm rfl (ro rfl (dZ U_25 Z_60 (Ht rfl) (Ht rfl) rfl (dY (pK hb))) (ro rfl (dJ A_60 Z_60 (Ht rfl)) (ro rfl (xW (l[k]) (Ht rfl) ⟨(Ht rfl),trivial⟩) (eX (dQ (Ht rfl) (fun hc=>?_) (fun hc=>?_))))))))))))))))
  ·have hp : p l[k] = true := hc
   refine ts (rm rfl (ra rfl (eX (fU rfl (fV (eY rfl) ?_)))))
   exact (aT (Bk (pK hb) hp hn).symm)
  ·have hp : p l[k] = false := hc
   refine cU (bI (cY (ro rfl (dV (Ht rfl) (cJ 1) z6) (rm rfl (eX ?_)))))
   refine gZ (k + 1) ⟨hb, fun i x h1 h2 => by
    by_cases e:i = k
    ·subst e; rw [pK hb] at h2; obtain rfl:=Option.some.inj h2; exact hp
    ·exact hn i x zo h2⟩ zo (zS rfl) aY
 ·simp only [decide_eq_false_iff_not] at hb
  refine gU rfl (ts (ro rfl (cQ cV) (eX (fU rfl (fV (eY rfl) ?_)))))
  exact (aT (tR (fun i x h=>hn i x (by have:=(List.getElem?_eq_some_iff.1 h).1; omega) h)).symm)
theorem yW {γ:Type} {l:List γ} {T:γ → Ty} {p:γ → Bool} [sh:∀ x,cP (T x) 5 true] (hl:l.length ≤ 1000000):bB Tryz.prog 103 [jK 5 (l.map T),Fk Tryz.prog γ (fun x=>[T x]) (fun x=>aC (p x))] (aC (l.any p)):=by
 refine bB.intro Tryz.func103 rfl Tryz.ntmps103 rfl (fun cx=>(ts (ro rfl (cQ cV) (eX (ts (rm rfl (rm rfl (ro rfl (cZ Tryz.call207 (Fz zo) ⟨(Ht rfl),(Ht rfl),trivial⟩) (ro rfl (lB (Ht rfl) cV) (ra rfl (eX (fU rfl (fV (eY rfl) ?_)))))))))))))
 exact (fT (xQ p l))
theorem Ga {γ:Type} {l:List γ} {T:γ → Ty} {p:γ → Bool} [sh:∀ x,cP (T x) 1 false] (hl:l.length ≤ 1000000):bB Tryz.prog 262 [jK 1 (l.map T),Fk Tryz.prog γ (fun x=>[T x]) (fun x=>aC (p x))] (aF .i64 (Bj p l)):=by
 refine bB.intro Tryz.func262 rfl Tryz.ntmps262 rfl (fun cx=>(ts (ro rfl (cQ (cJ 0)) (eX (cK (ts (rm rfl (ro rfl (dG U_26 (Ht rfl) aA) (ro rfl (cX (cJ 0)) (eX (eK ?_)))))))))))
 refine dB (fun (k : Nat) => k ≤ l.length ∧ ∀ (i : Nat) (x : γ), i < k → l[i]? = some x → p x = false) (fun (k : Nat) => l.length - k) (fun (k : Nat) => [(0, jK 1 (l.map T)), (1, Fk Tryz.prog γ (fun x => [T x]) (fun x => aC (p x))), (7, NT .i64 l.length), (8, NT .i64 k)]) (fun (k : Nat) => []) 0 ⟨Nat.zero_le _, fun i x h => by omega⟩
  (zS rfl) aY (fun k ⟨hk,hn⟩=>?_)
 refine ts (ro rfl (gW (Ht rfl) (Ht rfl)) (eX (cK (dQ (Ht rfl) (fun hb=>?_) (fun hb=>?_)))))
 ·simp only [decide_eq_true_eq] at hb
  refine cU (cK (eK (ts (rm rfl (ra rfl (eX (ts (rm rfl (rm rfl (rm rfl (ro rfl (dZ U_26 Z_25 (Ht rfl) (Ht rfl) rfl (dY (pK hb))) (ro rfl (dJ A_25 Z_25 (Ht rfl)) (ro rfl (xW (l[k]) (Ht rfl) ⟨(Ht rfl),trivial⟩) (eX (dQ (Ht rfl) (fun hc=>?_) (fun hc=>?_))))))))))))))))
  ·have hp : p l[k] = true := hc
   refine ts (rm rfl (ra rfl (eX (fU rfl (fV (eY rfl) ?_)))))
   exact (aT (Bk (pK hb) hp hn).symm)
  ·have hp : p l[k] = false := hc
   refine cU (bI (cY (ro rfl (dV (Ht rfl) (cJ 1) z6) (rm rfl (eX ?_)))))
   refine gZ (k + 1) ⟨hb, fun i x h1 h2 => by
    by_cases e:i = k
    ·subst e; rw [pK hb] at h2; obtain rfl:=Option.some.inj h2; exact hp
    ·exact hn i x zo h2⟩ zo (zS rfl) aY
 ·simp only [decide_eq_false_iff_not] at hb
  refine gU rfl (ts (ro rfl (cQ cV) (eX (fU rfl (fV (eY rfl) ?_)))))
  exact (aT (tR (fun i x h=>hn i x (by have:=(List.getElem?_eq_some_iff.1 h).1; omega) h)).symm)
theorem yX {γ:Type} {l:List γ} {T:γ → Ty} {p:γ → Bool} [sh:∀ x,cP (T x) 1 false] (hl:l.length ≤ 1000000):bB Tryz.prog 227 [jK 1 (l.map T),Fk Tryz.prog γ (fun x=>[T x]) (fun x=>aC (p x))] (aC (l.any p)):=by
 refine bB.intro Tryz.func227 rfl Tryz.ntmps227 rfl (fun cx=>(ts (ro rfl (cQ cV) (eX (ts (rm rfl (rm rfl (ro rfl (cZ Tryz.call262 (Ga zo) ⟨(Ht rfl),(Ht rfl),trivial⟩) (ro rfl (lB (Ht rfl) cV) (ra rfl (eX (fU rfl (fV (eY rfl) ?_)))))))))))))
 exact (fT (xQ p l))
theorem Gj {x:Qi} {L:Nat} [hx:aM x L] (h:L ≤ 8796093022208):bB Tryz.prog 223 [aD x] (aC (kC x)):=by
 haveI hz:aM Qi.zero 1:=aM.zero (Nat.le_refl 1)
 refine bB.intro Tryz.func223 rfl Tryz.ntmps223 rfl (fun cx=>(ts (rn rfl (gQ (Ht rfl)) fun B1=>(ro rfl (cQ cV) (eX (ts (ro rfl (eW A_60 Z_60 (Ht rfl) (i:=0) rfl rfl rfl) (ro rfl (cZ Tryz.call55 Nc ⟨(Ht rfl),trivial⟩) (rm rfl (fJ rfl rfl (eU rfl rfl (Ht rfl) (fun h=>eW A_60 Z_60 (Ht rfl) (i:=0) rfl rfl rfl)) (fJ rfl rfl (eU rfl rfl (Ht rfl) (fun h=>aE.imp (At ) sQ)) (fJ rfl rfl (eU rfl rfl (Ht rfl) (fun h=>cZ Tryz.call51 (a0d zo) ⟨(fG rfl h),(fG rfl h),trivial⟩)) ?_))))))))))))
 refine fJ rfl rfl (eU rfl rfl (Ht rfl) (fun h=>Gx (fG rfl h) cV)) (ro rfl (eC (Ht rfl) (fun h=>(fG rfl h))) (ra rfl (eX (fU rfl (fV (eY rfl) ?_)))))
 exact (fT (Zl x))
theorem Ay {x:Qi} {L:Nat} [hx:aM x L] (h:L ≤ 8796093022208):bB Tryz.prog 222 [aD x] (aC (!kC x)):=by
 refine bB.intro Tryz.func222 rfl Tryz.ntmps222 rfl (fun cx=>(ts (rn rfl (gQ (Ht rfl)) fun B1=>(ro rfl (cQ cV) (eX (ts (ro rfl (eW A_60 Z_60 (Ht rfl) (i:=0) rfl rfl rfl) (ro rfl (cZ Tryz.call223 (Gj zo) ⟨(Ht rfl),trivial⟩) (ro rfl (fO (Ht rfl)) (ra rfl (eX ?_)))))))))))
 exact fU rfl (eY rfl)
theorem Cw {z:List Qi} {L:Nat} (hz:cH z L) (h:L ≤ 8796093022208) (hl:z.length ≤ 1000):bB Tryz.prog 129 [bL z] (aF .i64 (if z.all kC then 0 else 1)):=by
 obtain ⟨l,hzl⟩:∃ l:List {x:Qi // aM x L},z = l.map Subtype.val:=⟨z.attach.map fun x=>⟨x.1,hz x.1 x.2⟩,by simp⟩
 subst hzl
 have hll:l.length ≤ 1000:=by simpa using hl
 refine bB.intro Tryz.func129 rfl Tryz.ntmps129 rfl (fun cx=>(wT (E':=[(0,_)]) (aZ rfl (iQ (Us:=l.map fun x=>aD x.1) (by simp [List.map_map,Function.comp_def])) aX) ?_))
 refine ts (ro rfl (cQ (cJ 0)) (eX (cK (ts (rm rfl (ro rfl (cZ Tryz.call103 (yW (l:=l) (T:=fun x=>aD x.1) (p:=fun x=>!kC x.1) zo) ⟨(Ht rfl),(aR.fn Tryz.call222 (γ:={x:Qi // aM x L}) (Ts:=fun x=>[aD x.1]) (U:=fun x=>aC (!kC x.1)) (fun x=>haveI:=x.2; Ay h)),trivial⟩) (eX (dQ (Ht rfl) (fun hb=>?_) (fun hb=>?_)))))))))
 ·have hn : ¬ (l.map Subtype.val).all kC = true := by simp at hb ⊢; exact hb
  refine ts (ro rfl (cQ (cJ 1)) (eX (fU rfl (fV (eY rfl) ?_))))
  exact (aT (by rw [if_neg hn]; rfl))
 ·have hn : (l.map Subtype.val).all kC = true := by simp at hb ⊢; exact hb
  refine cU (ts (ro rfl (cQ (cJ 0)) (eX (fU rfl (fV (eY rfl) ?_)))))
  exact (aT (by rw [if_pos hn]; rfl))
theorem Cr {l:List Qi} (hl:l.length ≤ 1000):gP Tryz.prog 109 [bL l] [] (Value) (fun v=>Is v) (fun v=>[bE 60 5 v (l.map aD)]) (fun _=>True):=by
 refine gP.intro Tryz.func109 rfl Tryz.ntmps109 rfl (fun cx Z=>(ts (ro rfl (cQ cV) (eX (cK (ts (rm rfl (ro rfl (Pr U_25 (Ht rfl)) (eX (Ro (Ht rfl) (fun hb=>?_) (fun hb=>?_)))))))))))
 ·have hT : l.map aD = [] := hb rfl
  refine ts (ro rfl (cQ cV) (eX (uD 60 5 ?_)))
  exact kO (.slice none 0 0) trivial [0,1] ⟨⟨_,rfl,fun _ _ _ h=>h⟩,⟨_,rfl,(bA hT.symm)⟩,trivial⟩ (by decide) (yB rfl (eY rfl))
 ·refine cU (ts (rn rfl (uJ U_25 Z_60 O_60) fun B5 => (rm rfl (tC (inf := Tryz.t60) jP iM rfl rfl rfl (Ht rfl) (Ht rfl) (i := 1) rfl (fun T hT => by obtain ⟨x, _, rfl⟩ := List.mem_map.1 hT; exact El.ag rfl) (by show _ * 88 ≤ _; simp only [List.length_map, List.length_nil]; omega) (by simp only [List.length_map, List.length_nil]; omega) rfl (fun v2 => ?_)))))
  refine ra rfl (eX ?_)
  exact kO v2 trivial [0,1] ⟨⟨_,rfl,fun _ _ _ h=>h⟩,⟨_,rfl,fun _ _ _ h=>h⟩,trivial⟩ (by decide) (yB rfl (eY rfl))
theorem Sa {l:List Qi} (hl:l.length ≤ 1000):bB Tryz.prog 109 [bL l] (bL l):=(Cr hl).fun fun v _=>eN
theorem Av {n:Nat} {f:Nat → Nat → Qi} (hn:n ≤ 1000):gP Tryz.prog 110 [NT .i64 n,Fk Tryz.prog (Fin n × Fin n) (fun x=>[NT .i64 x.1.1,NT .i64 x.2.1]) (fun x=>aD (f x.1.1 x.2.1))] [] (Nat) (fun B=>Is (.slice (some ⟨B,0,none⟩) n n)) (fun B=>[pD B 25 60 5 (dN aD (tab n fun i=>tab n (f i)))]) (fun _=>True):=by
 refine gP.intro Tryz.func110 rfl Tryz.ntmps110 rfl (fun cx Z=>(ts (ro rfl (cQ cV) (eX (ts (rm rfl (rn rfl (fM (T:=Is (.slice none 0 0)) (i:=Tryz.t25) V_26 sN rfl rfl (Ht rfl) rfl (fun _=>rfl) trivial (by show 24 * _ ≤ _; omega) zo) fun B9=>(ra rfl (eX (cK (ts (rm rfl (ro rfl (jU U_26 (Ht rfl)) (ro rfl (cX (cJ 0)) (eX (eK (lI 1 rfl (vW (e:=60) (s:=5)) ?_)))))))))))))))))
 refine gR (fun (k : Nat) (m : List (List Qi)) => lS (fun i => tab n (f i)) n m k) (fun (k : Nat) (m : List (List Qi)) => n - k) (fun (k : Nat) (m : List (List Qi)) => [(0, NT .i64 n), (1, Fk Tryz.prog (Fin n × Fin n) (fun x => [NT .i64 x.1.1, NT .i64 x.2.1]) (fun x => aD (f x.1.1 x.2.1))), (5, Is (.slice (some ⟨B9, 0, none⟩) n n)), (11, NT .i64 n), (12, NT .i64 k)]) (fun (k : Nat) (m : List (List Qi)) => [Z, pD B9 25 60 5 (dN aD m)]) 0 (List.replicate n []) (lS.start _ _ _)
  (zS rfl) (aU (fun _ _ _ h=>h) (aU (gC (sW aD n)) aY)) (fun k m hS=>?_)
 refine ts (ro rfl (gW (Ht rfl) (Ht rfl)) (eX (cK (dQ (Ht rfl) (fun hk=>?_) (fun hk=>?_)))))
 ·simp only [decide_eq_true_eq] at hk
  have hlen:=hS.len
  refine qO 1 (k) rfl (lZ (m:=m) (i:=k) zo) (fun v=>(cU (cK (eK (ts (rm rfl (ra rfl (eX (ts (rm rfl (rm rfl (rm rfl (rn rfl (iJ (T:=aD Qi.zero) (i:=Tryz.t60) jP iM rfl rfl (Ht rfl) rfl gH (El.ag rfl) (by show 88 * _ ≤ _; omega) zo) fun B18=>(ro rfl (gJ U_26 Z_25 (Ht rfl) (Ht rfl) rfl zo (by rw [Nat.mul_one,Nat.zero_add])) ?_))))))))))))))
  refine zG Z_25 (Ht rfl) (Ht rfl) (by simp; omega) (j:=1) (l:=3) rfl rfl rfl ?_
  refine eX (cK (bO [0,1,3] rfl (by decide) (cY (rm rfl (rm rfl (ro rfl (gJ U_26 Z_25 (Ht rfl) (Ht rfl) rfl zo (by rw [Nat.mul_one,Nat.zero_add])) ?_))))))
  refine ro rfl (nY A_25 Z_25 (Ht rfl) (j:=1) rfl) (ro rfl (kL U_25 (Ht rfl) (i:=2) rfl (show ((List.replicate n (aD Qi.zero)).length:Int) = ((n:Nat):Int) by simp)) (ro rfl (cX (cJ 0)) (eX (eK ?_))))
  refine gR (fun (j : Nat) (out : List Qi) => lS (f k) n out j) (fun (j : Nat) (out : List Qi) => n - j) (fun (j : Nat) (out : List Qi) => [(0, NT .i64 n), (1, Fk Tryz.prog (Fin n × Fin n) (fun x => [NT .i64 x.1.1, NT .i64 x.2.1]) (fun x => aD (f x.1.1 x.2.1))), (5, Is (.slice (some ⟨B9, 0, none⟩) n n)), (6, NT .i64 k), (11, NT .i64 n), (12, NT .i64 k), (24, NT .i64 n), (25, NT .i64 j)]) (fun (j : Nat) (out : List Qi) => [Z, Le B9 25 60 5 (dN aD m) k B18, bE 60 5 B18 (out.map aD)]) 0 (List.replicate n Qi.zero) (lS.start _ _ _)
   (zS rfl) (aU (fun _ _ _ h=>h) (aU (fun _ _ _ h=>h) (aU (bA (qH aD _ _)) aY))) (fun j out hT=>?_)
  refine ts (ro rfl (gW (Ht rfl) (Ht rfl)) (eX (cK (dQ (Ht rfl) (fun hj=>?_) (fun hj=>?_)))))
  ·simp only [decide_eq_true_eq] at hj
   have hlen2:=hT.len
   refine cU (cK (eK (ts (rm rfl (ra rfl (eX (fW (m:=9) (dp 5 rfl (cX (Ht rfl)) (dp 6 rfl (cX (Ht rfl)) (dP 28 0 29 1 rfl (gJ U_26 Z_25 (Ht rfl) (Ht rfl) rfl zo (by rw [Nat.mul_one,Nat.zero_add])) ?_))))))))))
   refine dq 30 2 rfl (nY A_25 Z_25 (Ht rfl) (j:=1) rfl) (dp 7 rfl (cX (Ht rfl)) (dp 1 rfl (cX (Ht rfl)) (dp 6 rfl (cX (Ht rfl)) (dp 7 rfl (cX (Ht rfl)) (C.D_step (Ei:=[(33,_),(34,_),(35,_)]) rfl rfl (bV (bG 5 rfl rfl) (bV (bG 6 rfl rfl) (bV (bG 7 rfl rfl) bW))) (dX rfl (xW ((⟨k,hk⟩,⟨j,hj⟩):Fin n × Fin n) (Ht rfl) ⟨(Ht rfl),(Ht rfl),trivial⟩)) (fK bC rfl (by kernel_rfl) (zF (zF (aJ (aV ?_))))))))))
   refine ro rfl (cC U_25 Z_60 (Ht rfl) (Ht rfl) rfl (i:=2) rfl (by first | omega | (simp; omega)) rfl) (jY Z_60 (Ht rfl) (Ht rfl) (El.ag rfl) (i:=2) rfl rfl (by first | omega | (simp; omega)) rfl (eX (bI (cY (ro rfl (dV (Ht rfl) (cJ 1) z6) (rm rfl (eX (gZ (j + 1,_) (hT.next hj rfl) (by dsimp only; omega) (zS rfl) (aU (fun _ _ _ h=>h) (aU (fun _ _ _ h=>h) (aU (bA (fB aD _ _ _)) aY)))))))))))
  ·simp only [decide_eq_false_iff_not] at hj
   obtain rfl:j = n:=Nat.le_antisymm hT.kle zo
   have hfin:=hT.fin
   refine gU rfl (bI (lJ 1 2 rfl rfl (by decide) (by simp; omega) ?_))
   refine cY (ro rfl (dV (Ht rfl) (cJ 1) z6) (rm rfl (eX (bO [0,1] rfl (by decide) (gZ (k + 1,_) (hS.next hk hfin) (by dsimp only; omega) (zS rfl) (aU (fun _ _ _ h=>h) (aU (gC (mD aD _ _ _)) aY)))))))
 ·simp only [decide_eq_false_iff_not] at hk
  obtain rfl:k = n:=Nat.le_antisymm hS.kle zo
  have hfin:=hS.fin
  refine gU rfl (ts (rm rfl (ra rfl (eX ?_))))
  exact kO B9 trivial [0,1] ⟨⟨_,rfl,fun _ _ _ h=>h⟩,⟨_,rfl,(gC (by rw [hfin]))⟩,trivial⟩ (by decide) (yB rfl (eY rfl))
theorem Ge {n:Nat} {f:Nat → Nat → Qi} (hn:n ≤ 1000):bB Tryz.prog 110 [NT .i64 n,Fk Tryz.prog (Fin n × Fin n) (fun x=>[NT .i64 x.1.1,NT .i64 x.2.1]) (fun x=>aD (f x.1.1 x.2.1))] (eE (tab n fun i=>tab n (f i))):=(Av hn).fun fun B _ v S V h1 h2=>iQ (by simp [dN,List.map_map,Function.comp_def]) v V (Bh (by simp [dN,aO]) (Nat.le_refl _) v S V h1 h2)
end
section
open Go Go.RowKit
theorem mJ {n : Nat} {E : bT} {H : Hp} {d : Option Tmp} {t : TypeId} {pos : String} {af : Array Edge} {g : Option (Nat × Bool)}  :
  aE Tryz.prog n E H ⟨d,.build 28 #[],t,pos,af,g⟩ (dR [Is (.slice none 0 0),Is (.slice none 0 0)]) :=
 gO (parts := []) fun a V w hs => by
  refine ⟨.agg #[(.slice none 0 0),(.slice none 0 0)],?_,[(.slice none 0 0),(.slice none 0 0)],rfl,aW (⟨rfl,trivial⟩) (aW (⟨rfl,trivial⟩) (aG))⟩
  simp [Instr.build,Instr.fill,Sem.run_bind,Result.andThen,fD,O_28,U_28,Z_25,Z_26]
theorem rO {n : Nat} {E : bT} {H : Hp} {d : Option Tmp} {t : TypeId} {pos : String} {af : Array Edge} {g : Option (Nat × Bool)} {x0 x1 : Operand} {T0 T1 : Ty} [s0 : cP T0 1 false] (h0 : aR E x0 T0) [s1 : cP T1 1 false] (h1 : aR E x1 T1) :
  aE Tryz.prog n E H ⟨d,.build 28 #[(0,x0),(1,x1)],t,pos,af,g⟩ (dR [T0,T1]) :=
 gO (parts := [(0, x0), (1, x1)]) fun a V w hs => by
  have p0:=h0 n V a hs
  generalize e0:a.eval x0 = v0 at p0
  have q0:=(s0.ok v0 V p0).2.2 rfl
  have p1:=h1 n V a hs
  generalize e1:a.eval x1 = v1 at p1
  have q1:=(s1.ok v1 V p1).2.2 rfl
  refine ⟨.agg #[v0,v1],?_,[v0,v1],rfl,aW (⟨p0,q0⟩) (aW (⟨p1,q1⟩) (aG))⟩
  simp [e0,e1,Instr.build,Instr.fill,Sem.run_bind,Result.andThen,fD,q0.cells,q1.cells,O_28,U_28,Z_25,Z_26]
theorem iG (a:Addr) (w:World):(Instr.fieldAt 28 (.pointer (some a)) 0).run Tryz.prog w = .ok (.pointer (some (a.add 0))) w:=by
 simp [Instr.fieldAt,Instr.sureAddr,fieldPlace,Sem.run_bind,Result.andThen,U_28,Z_25]
end
section
open Go Go.RowKit
theorem Xu {s:List (List Qi)} {n i j:Nat} (hs:iF s n n) (hi:i < n) (hj:j < n):bB Tryz.prog 192 [NT .i64 i,NT .i64 j,PT (eE s)] (aD (gm s i j)):=by
 have h1:=hs.1; have h2:=hs.row hi
 refine bB.intro Tryz.func192 rfl Tryz.ntmps192 rfl (fun cx=>(ts (rn rfl (eG (Ts:=[Is (.bool false),Is (.slice none 0 0),Is (.bool false),Is (.slice none 0 0),Is (.slice none 0 0)]) O_60 rfl (fun V=>aW zd (aW zd (aW zd (aW zd (aW zd (aG))))))) fun B5=>(eX (ts (ro rfl (dJ A_26 Z_26 (Ht rfl)) (rm rfl (ro rfl (dZ U_26 Z_25 (Ht rfl) (Ht rfl) rfl (dY (dU (d:=[]) zo))) (ro rfl (dJ A_25 Z_25 (Ht rfl)) ?_)))))))))
 refine rm rfl (ro rfl (dZ U_25 Z_60 (Ht rfl) (Ht rfl) rfl (dY (dU (d:=Qi.zero) zo))) (ro rfl (dJ A_60 Z_60 (Ht rfl)) (gV Z_60 (Ht rfl) (Ht rfl) rfl (i:=0) rfl (aK rfl) rfl rfl (eX ?_))))
 exact fU rfl (gX A_60 Z_60 rfl (i:=0) rfl rfl)
theorem xA {z:List Qi} {s:List (List Qi)} {L:Nat} (hz:cH z L) (h:L ≤ 8796093022208) (hl:z.length ≤ 1000) (hl2:s.length ≤ 1000):bB Tryz.prog 93 [bL z,eE s] (dM [dT (kX (cA z s) z) (kX (cA z s) s),aF .i64 (cA z s)]):=by
 refine bB.intro Tryz.func93 rfl Tryz.ntmps93 rfl (fun cx=>(ts (rn rfl (oN (Ht rfl)) fun B3=>(rn rfl (eG (Ts:=[Is (.slice none 0 0),Is (.slice none 0 0)]) O_28 rfl (fun V=>aW zd (aW zd (aG)))) fun B4=>(ro rfl (cQ (cJ 0)) (eX (cK (cK (gK (i:=0) (tt:=3) rfl rfl kG (cY (rm rfl (ro rfl (dG U_25 (Ht rfl) aA) (ro rfl (gW (Ht rfl) (cJ 1)) (rm rfl (fJ rfl rfl (eU rfl rfl (Ht rfl) (fun h=>cX (Ht rfl))) (fJ rfl rfl (eU rfl rfl (Ht rfl) (fun h=>dG U_25 (fG rfl h) aA)) ?_))))))))))))))))
 refine fJ rfl rfl (eU rfl rfl (Ht rfl) (fun h=>eO (fG rfl h) (cJ 8))) (ro rfl (kH (Ht rfl) (fun h=>(fG rfl h))) (rm rfl (fJ rfl rfl (eU rfl rfl (Ht rfl) (fun h=>dJ A_26 Z_26 (Ht rfl))) (fJ rfl rfl (eU rfl rfl (Ht rfl) (fun h=>dG U_26 (fG rfl h) aA)) (fJ rfl rfl (eU rfl rfl (Ht rfl) (fun h=>cX (Ht rfl))) (fJ rfl rfl (eU rfl rfl (Ht rfl) (fun h=>dG U_25 (fG rfl h) aA)) (fJ rfl rfl (eU rfl rfl (Ht rfl) (fun h=>gD (fG rfl h) (fG rfl h))) ?_)))))))
 refine ro rfl (kH (Ht rfl) (fun h=>(fG rfl h))) (eX (dQ (Ht rfl) (fun hb=>?_) (fun hb=>?_)))
 ·have he := Ed hb
  refine ts (ro rfl (aE.imp (mJ ) mM) (gV Z_28 (Ht rfl) (Ht rfl) rfl (i:=1) rfl (aK rfl) rfl rfl (ro rfl (cQ (cJ 4)) (eX (bN rfl (fV (gX A_28 Z_28 rfl (i:=1) rfl rfl) ?_) (fV (eY rfl) ?_))))))
  ·exact (Bp he (by decide))
  ·exact (aT he.symm)
 ·refine cU (cK (ts (ro rfl (dJ A_26 Z_26 (Ht rfl)) (ro rfl (dG U_26 (Ht rfl) aA) (ro rfl (cX (cJ 0)) (eX (eK ?_)))))))
  refine dB (fun (k : Nat) => k ≤ s.length ∧ ∀ (i : Nat) (r : List Qi), i < k → s[i]? = some r → r.length = z.length) (fun (k : Nat) => s.length - k) (fun (k : Nat) => [(0, bL z), (3, PT (eE s)), (4, cE B4 0), (25, eE s), (26, NT .i64 s.length), (27, NT .i64 k)]) (fun (k : Nat) => [SA.emp, box B4 28 [Is (.slice none 0 0), Is (.slice none 0 0)]]) 0 ⟨Nat.zero_le _, fun i r h => by omega⟩
   (zS rfl) (cT.refl _) (fun k ⟨hk,hr⟩=>?_)
  refine ts (ro rfl (gW (Ht rfl) (Ht rfl)) (eX (cK (dQ (Ht rfl) (fun hc=>?_) (fun hc=>?_)))))
  ·simp only [decide_eq_true_eq] at hc
   refine cU (cK (eK (ts (ro rfl (dZ U_26 Z_25 (Ht rfl) (Ht rfl) rfl (dY (pK hc))) (ro rfl (dJ A_25 Z_25 (Ht rfl)) (ra rfl (eX (ts (rm rfl (ro rfl (dG U_25 (Ht rfl) aA) (rm rfl (ro rfl (dG U_25 (Ht rfl) aA) (ro rfl (gD (Ht rfl) (Ht rfl)) (eX (dQ (Ht rfl) (fun hd=>?_) (fun hd=>?_))))))))))))))))
   ·have hd2 : ¬ (s[k]).length = z.length := by simpa using hd
    have he:=Gt (pK hc) hd2
    refine ts (ro rfl (aE.imp (mJ ) mM) (gV Z_28 (Ht rfl) (Ht rfl) rfl (i:=1) rfl (aK rfl) rfl rfl (ro rfl (cQ (cJ 4)) (eX (bN rfl (fV (gX A_28 Z_28 rfl (i:=1) rfl rfl) ?_) (fV (eY rfl) ?_))))))
    ·exact (Bp he (by decide))
    ·exact (aT he.symm)
   ·have hd2 : (s[k]).length = z.length := by simpa using hd
    refine cU (bI (cY (ro rfl (dV (Ht rfl) (cJ 1) z6) (rm rfl (eX ?_)))))
    refine gZ (k + 1) ⟨hc, fun i r h1 h2 => by
      by_cases e:i = k
      ·subst e; rw [pK hc] at h2; obtain rfl:=Option.some.inj h2; exact hd2
      ·exact hr i r zo h2⟩ zo (zS rfl) (cT.refl _)
  ·simp only [decide_eq_false_iff_not] at hc
   have hall:∀ (i:Nat) (r:List Qi),s[i]? = some r → r.length = z.length:=fun i r h=>hr i r (by have:=(List.getElem?_eq_some_iff.1 h).1; omega) h
   have hpos:=Gs hb hall
   refine gU rfl (cK (ts (rm rfl (ro rfl (cZ Tryz.call129 (Cw hz h zo) ⟨(Ht rfl),trivial⟩) (ra rfl (eX (ts (rm rfl (ro rfl (gY (Ht rfl) cV) (eX (dQ (Ht rfl) (fun hd=>?_) (fun hd=>?_))))))))))))
   ·have hd2 : ¬ (if z.all kC = true then (0 : Int) else 1) = 0 := by simpa using hd
    refine ts (ro rfl (aE.imp (mJ ) mM) (rm rfl (gV Z_28 (Ht rfl) (Ht rfl) rfl (i:=1) rfl (aK rfl) rfl rfl (ra rfl (eX (bN rfl (fV (gX A_28 Z_28 rfl (i:=1) rfl rfl) ?_) (fV (eY rfl) ?_)))))))
    ·exact (Bp hpos hd2)
    ·exact (aT hpos.symm)
   ·have hd2 : (if z.all kC = true then (0 : Int) else 1) = 0 := by simpa using hd
    have he:=hpos.trans hd2
    obtain ⟨h1,h2,hsh,_⟩:=mT he
    refine cU (ts (rm rfl (ro rfl (cZ Tryz.call109 (Sa zo) ⟨(Ht rfl),trivial⟩) (rm rfl (ro rfl (dG U_25 (Ht rfl) aA) (ro rfl (qY (γ:=Fin z.length × Fin z.length) (Ts:=fun x=>[NT .i64 x.1.1,NT .i64 x.2.1]) (U:=fun x=>aD (gm s x.1.1 x.2.1)) Tryz.call192 (fun x=>Xu hsh x.1.2 x.2.2) ⟨(Ht rfl),trivial⟩) (ro rfl (cZ Tryz.call110 (eQ (Ge (n:=z.length) (f:=gm s) zo) (iQ (by rw [← Bn hsh]))) ⟨(Ht rfl),(Ht rfl),trivial⟩) ?_)))))))
    refine ro rfl (rO (Ht rfl) (Ht rfl)) (gV Z_28 (Ht rfl) (Ht rfl) rfl (i:=1) rfl (aK rfl) rfl rfl (ro rfl (cQ (cJ 0)) (eX (bN rfl (fV (gX A_28 Z_28 rfl (i:=1) rfl rfl) ?_) (fV (eY rfl) ?_)))))
    ·exact (Pj he)
    ·exact (aT he.symm)
theorem Au {z:List Qi} {s:List (List Qi)}:bB Tryz.prog 31 [dT z s] (NT .i64 z.length):=by
 refine bB.intro Tryz.func31 rfl Tryz.ntmps31 rfl (fun cx=>(ts (rn rfl (gQ (Ht rfl)) fun B1=>(ro rfl (cQ (cJ 0)) (eX (ts (ro rfl (eJ iG (Ht rfl) rfl) (ro rfl (fQ A_25 Z_25 (Ht rfl) (i:=0) rfl rfl) (ro rfl (dG U_25 (Ht rfl) aA) (ra rfl (eX ?_)))))))))))
 exact fU rfl (eY rfl)
theorem Cu {z:List Qi} {s:List (List Qi)} {i:Int}:bB Tryz.prog 138 [dT z s,aF .i64 i] (aC (decide (1 ≤ i ∧ i ≤ z.length))):=by
 refine bB.intro Tryz.func138 rfl Tryz.ntmps138 rfl (fun cx=>(ts (rn rfl (gQ (Ht rfl)) fun B2=>(ro rfl (cQ cV) (eX (ts (rm rfl (ro rfl (lB (Ht rfl) cV) (rm rfl (fJ rfl rfl (eU rfl rfl (Ht rfl) (fun h=>cX (Ht rfl))) (fJ rfl rfl (eU rfl rfl (Ht rfl) (fun h=>eJ iG (Ht rfl) rfl)) (fJ rfl rfl (eU rfl rfl (Ht rfl) (fun h=>fQ A_25 Z_25 (fG rfl h) (i:=0) rfl rfl)) (fJ rfl rfl (eU rfl rfl (Ht rfl) (fun h=>dG U_25 (fG rfl h) aA)) (fJ rfl rfl (eU rfl rfl (Ht rfl) (fun h=>Ps (fG rfl h) (fG rfl h))) ?_))))))))))))))
 refine ro rfl (eC (Ht rfl) (fun h=>(fG rfl h))) (ra rfl (eX (fU rfl (fV (eY rfl) ?_))))
 exact (fT (by rw [Bool.eq_iff_iff]; simp))
end
section
open Go Go.RowKit
theorem eT (a:Addr) (w:World):(Instr.fieldAt 28 (.pointer (some a)) 1).run Tryz.prog w = .ok (.pointer (some (a.add 1))) w:=by
 simp [Instr.fieldAt,Instr.sureAddr,fieldPlace,Sem.run_bind,Result.andThen,U_28,Z_26]
end
section
open Go Go.RowKit
theorem Nd {z:List Qi} {s:List (List Qi)} {i:Int} (hl:z.length ≤ 1000):bB Tryz.prog 67 [dT z s,aF .i64 i] (dM [aD (Ux z i),aF .i64 (if 1 ≤ i ∧ i ≤ z.length then 0 else 1)]):=by
 refine bB.intro Tryz.func67 rfl Tryz.ntmps67 rfl (fun cx=>(ts (rn rfl (gQ (Ht rfl)) fun B2=>(rn rfl (eG (Ts:=[Is (.bool false),Is (.slice none 0 0),Is (.bool false),Is (.slice none 0 0),Is (.slice none 0 0)]) O_60 rfl (fun V=>aW zd (aW zd (aW zd (aW zd (aW zd (aG))))))) fun B4=>(ro rfl (cQ (cJ 0)) (eX (cK (ts (ro rfl (eW A_28 Z_28 (Ht rfl) (i:=0) rfl rfl rfl) (rm rfl (ro rfl (cZ Tryz.call138 Cu ⟨(Ht rfl),(Ht rfl),trivial⟩) ?_)))))))))))
 refine ro rfl (fO (Ht rfl)) (eX (dQ (Ht rfl) (fun hb=>?_) (fun hb=>?_)))
 ·have hn : ¬ (1 ≤ i ∧ i ≤ (z.length : Int)) := by simpa only [Bool.not_eq_true', decide_eq_false_iff_not] using hb
  refine ts (ro rfl (aE.imp (At ) sQ) (gV Z_60 (Ht rfl) (Ht rfl) rfl (i:=1) rfl (aK rfl) rfl rfl (ro rfl (cQ (cJ 1)) (eX (bN rfl (fV (gX A_60 Z_60 rfl (i:=1) rfl rfl) ?_) (fV (eY rfl) ?_))))))
  ·exact (iX (by rw [Ux,if_neg hn]))
  ·exact (aT (by rw [if_neg hn]; rfl))
 ·have hp : 1 ≤ i ∧ i ≤ (z.length : Int) := by simpa only [Bool.not_eq_false', decide_eq_true_eq] using hb
  have hq:(i - 1).toNat < z.length:=by omega
  refine cU (ts (ro rfl (eJ iG (Ht rfl) rfl) (ro rfl (fQ A_25 Z_25 (Ht rfl) (i:=0) rfl rfl) (rm rfl (ro rfl (gI (Ht rfl) cV (tB zo)) (ro rfl (dZ U_25 Z_60 (Ht rfl) (Ht rfl) (by omega:i - 1 = (((i - 1).toNat:Nat):Int)) (dY (dU (d:=Qi.zero) hq))) (ro rfl (dJ A_60 Z_60 (Ht rfl)) (gV Z_60 (Ht rfl) (Ht rfl) rfl (i:=1) rfl (aK rfl) rfl rfl (ro rfl (cQ (cJ 0)) (eX (bN rfl (fV (gX A_60 Z_60 rfl (i:=1) rfl rfl) ?_) (fV (eY rfl) ?_))))))))))))
  ·exact (iX (by rw [Ux,if_pos hp]))
  ·exact (aT (by rw [if_pos hp]; rfl))
theorem Rz {z:List Qi} {s:List (List Qi)} {i j:Int} (hs:iF s z.length z.length) (hl:z.length ≤ 1000):bB Tryz.prog 39 [dT z s,aF .i64 i,aF .i64 j] (dM [aD (Pw z.length s i j),aF .i64 (if (1 ≤ i ∧ i ≤ z.length) ∧ 1 ≤ j ∧ j ≤ z.length then 0 else 1)]):=by
 have hs1:=hs.1
 refine bB.intro Tryz.func39 rfl Tryz.ntmps39 rfl (fun cx=>(ts (rn rfl (gQ (Ht rfl)) fun B3=>(rn rfl (eG (Ts:=[Is (.bool false),Is (.slice none 0 0),Is (.bool false),Is (.slice none 0 0),Is (.slice none 0 0)]) O_60 rfl (fun V=>aW zd (aW zd (aW zd (aW zd (aW zd (aG))))))) fun B6=>(ro rfl (cQ (cJ 0)) (eX (cK (ts (ro rfl (eW A_28 Z_28 (Ht rfl) (i:=0) rfl rfl rfl) (rm rfl (ro rfl (cZ Tryz.call138 Cu ⟨(Ht rfl),(Ht rfl),trivial⟩) ?_)))))))))))
 refine ro rfl (fO (Ht rfl)) (rm rfl (fJ rfl rfl (eU rfl rfl (Ht rfl) (fun h=>eW A_28 Z_28 (Ht rfl) (i:=0) rfl rfl rfl)) (fJ rfl rfl (eU rfl rfl (Ht rfl) (fun h=>cX (Ht rfl))) (fJ rfl rfl (eU rfl rfl (Ht rfl) (fun h=>cZ Tryz.call138 Cu ⟨(fG rfl h),(fG rfl h),trivial⟩)) (fJ rfl rfl (eU rfl rfl (Ht rfl) (fun h=>fO (fG rfl h))) (ro rfl (kH (Ht rfl) (fun h=>(fG rfl h))) (eX (dQ (Ht rfl) (fun hb=>?_) (fun hb=>?_)))))))))
 ·have hn : ¬ ((1 ≤ i ∧ i ≤ (z.length : Int)) ∧ 1 ≤ j ∧ j ≤ (z.length : Int)) := by simp only [Bool.or_eq_true, Bool.not_eq_true', decide_eq_false_iff_not] at hb; exact fun k => hb.elim (fun h => h k.1) (fun h => h k.2)
  refine ts (rn rfl (eG (Ts:=[Is (.bool false),Is (.slice none 0 0),Is (.bool false),Is (.slice none 0 0),Is (.slice none 0 0)]) O_60 rfl (fun V=>aW zd (aW zd (aW zd (aW zd (aW zd (aG))))))) fun B8=>(eX (ts (ro rfl (eW A_60 Z_60 (Ht rfl) (i:=2) rfl rfl rfl) (gV Z_60 (Ht rfl) (Ht rfl) rfl (i:=1) rfl (aK rfl) rfl rfl (ro rfl (cQ (cJ 1)) (eX (bN rfl (fV (gX A_60 Z_60 rfl (i:=1) rfl rfl) ?_) (fV (eY rfl) ?_)))))))))
  ·exact (fun v V k=>by rw [Pw,if_neg hn]; exact sQ v V k)
  ·exact (aT (by rw [if_neg hn]; rfl))
 ·have hp : (1 ≤ i ∧ i ≤ (z.length : Int)) ∧ 1 ≤ j ∧ j ≤ (z.length : Int) := by simpa only [Bool.or_eq_false_iff, Bool.not_eq_false', decide_eq_true_eq] using hb
  have hq:(i - 1).toNat < s.length:=by omega
  have hq2:(j - 1).toNat < (s.getD (i - 1).toNat []).length:=by rw [hs.row zo]; omega
  refine cU (ts (ro rfl (eJ eT (Ht rfl) rfl) (ro rfl (fQ A_26 Z_26 (Ht rfl) (i:=0) rfl rfl) (rm rfl (ro rfl (gI (Ht rfl) cV (tB zo)) (ro rfl (dZ U_26 Z_25 (Ht rfl) (Ht rfl) (by omega:i - 1 = (((i - 1).toNat:Nat):Int)) (dY (dU (d:=[]) hq))) (ro rfl (dJ A_25 Z_25 (Ht rfl)) (rm rfl (ro rfl (gI (Ht rfl) cV (tB zo)) (ro rfl (dZ U_25 Z_60 (Ht rfl) (Ht rfl) (by omega:j - 1 = (((j - 1).toNat:Nat):Int)) (dY (dU (d:=Qi.zero) hq2))) ?_))))))))))
  refine ro rfl (dJ A_60 Z_60 (Ht rfl)) (gV Z_60 (Ht rfl) (Ht rfl) rfl (i:=1) rfl (aK rfl) rfl rfl (ro rfl (cQ (cJ 0)) (eX (bN rfl (fV (gX A_60 Z_60 rfl (i:=1) rfl rfl) ?_) (fV (eY rfl) ?_)))))
  ·exact (iX (by rw [Pw,if_pos hp]))
  ·exact (aT (by rw [if_pos hp]; rfl))
end
section
open Go Go.RowKit
theorem Ou:Tryz.prog.info? 130 = some Tryz.t130:=by kernel_rfl
theorem Tm:Tryz.prog.info? 29 = some Tryz.t29:=by kernel_rfl
theorem Zw:Tryz.prog.underlying 26 = some (.slice 25):=by kernel_rfl
theorem Zx:Tryz.prog.underlying 29 = some (.slice 130):=by kernel_rfl
theorem Zy:Tryz.prog.underlying 30 = some (.slice 29):=by kernel_rfl
end
section
open Go Go.RowKit
theorem zJ {m:List (List Rt)} (hm:m.length ≤ 1000) (hr:∀ r,r ∈ m → r.length ≤ 1000):bB Tryz.prog 94 [Mi m] (eE (rq m)):=by
 refine bB.intro Tryz.func94 rfl Tryz.ntmps94 rfl (fun cx=>(ts (ro rfl (cQ cV) (eX (ts (rm rfl (ro rfl (dG U_75 (Ht rfl) aA) (rn rfl (iJ (T:=bL []) (i:=Tryz.t25) Zw sN rfl rfl (Ht rfl) rfl Ee El.one (by show 24 * _ ≤ _; omega) zo) fun B8=>(ra rfl (eX (cK (ts (rm rfl (ro rfl (dG U_75 (Ht rfl) aA) (ro rfl (cX (cJ 0)) (eX (eK ?_)))))))))))))))))
 refine gR (fun (k : Nat) (out : List (List Qi)) => lS (fun i => (m.getD i default).map Rt.q) m.length out k) (fun (k : Nat) (out : List (List Qi)) => m.length - k) (fun (k : Nat) (out : List (List Qi)) => [(3, Is B8), (9, Mi m), (10, NT .i64 m.length), (11, NT .i64 k)]) (fun (k : Nat) (out : List (List Qi)) => [bE 25 1 B8 (out.map bL)]) 0 (List.replicate m.length []) (lS.start _ _ _)
  (zS rfl) (aU (bA (qH bL _ _)) aY) (fun k out hS=>?_)
 refine ts (ro rfl (gW (Ht rfl) (Ht rfl)) (eX (cK (dQ (Ht rfl) (fun hk=>?_) (fun hk=>?_)))))
 ·simp only [decide_eq_true_eq] at hk
  have hlen:=hS.len
  have hrk : (m.getD k default).length ≤ 1000 := by
   have e:m.getD k default = m[k]:=by simp [List.getD,hk]
   rw [e]; exact hr _ (List.getElem_mem hk)
  refine cU (cK (eK (ts (rm rfl (ro rfl (dZ U_75 Z_22 (Ht rfl) (Ht rfl) rfl (dY (dU (d:=default) hk))) (ro rfl (dJ A_22 Z_22 (Ht rfl)) (ra rfl (ra rfl (eX (cY (rm rfl (rm rfl (rm rfl (ro rfl (cZ Tryz.call48 (tG zo) ⟨(Ht rfl),trivial⟩) (ro rfl (cC U_26 Z_25 (Ht rfl) (Ht rfl) rfl (i:=0) rfl (by first | omega | (simp; omega)) rfl) (jY Z_25 (Ht rfl) (Ht rfl) El.one (i:=0) rfl rfl (by first | omega | (simp; omega)) rfl (eX (bI ?_))))))))))))))))))
  refine cY (ro rfl (dV (Ht rfl) (cJ 1) z6) (rm rfl (eX (gZ (k + 1,_) (hS.next hk rfl) (by dsimp only; omega) (zS rfl) (aU (bA (fB bL _ _ _)) aY)))))
 ·simp only [decide_eq_false_iff_not] at hk
  obtain rfl:k = m.length:=Nat.le_antisymm hS.kle zo
  have hfin:=hS.fin
  rw [qM m (fun r=>r.map Rt.q)] at hfin
  refine gU rfl (gK (i:=0) (tt:=3) rfl rfl eN (ts (rm rfl (ra rfl (eX (fU rfl (fV (eY rfl) ?_)))))))
  exact (iQ (by rw [hfin]))
end
section
open Go Go.RowKit
theorem Hv {n : Nat} {E : bT} {H : Hp} {d : Option Tmp} {t : TypeId} {pos : String} {af : Array Edge} {g : Option (Nat × Bool)}  :
  aE Tryz.prog n E H ⟨d,.build 32 #[],t,pos,af,g⟩ (dR [Is (.slice none 0 0),Is (.slice none 0 0)]) :=
 gO (parts := []) fun a V w hs => by
  refine ⟨.agg #[(.slice none 0 0),(.slice none 0 0)],?_,[(.slice none 0 0),(.slice none 0 0)],rfl,aW (⟨rfl,trivial⟩) (aW (⟨rfl,trivial⟩) (aG))⟩
  simp [Instr.build,Instr.fill,Sem.run_bind,Result.andThen,fD,O_32,U_32,Z_29,Tryz.sizeOf30]
theorem Fw {n : Nat} {E : bT} {H : Hp} {d : Option Tmp} {t : TypeId} {pos : String} {af : Array Edge} {g : Option (Nat × Bool)} {x0 x1 : Operand} {T0 T1 : Ty} [s0 : cP T0 1 false] (h0 : aR E x0 T0) [s1 : cP T1 1 false] (h1 : aR E x1 T1) :
  aE Tryz.prog n E H ⟨d,.build 32 #[(0,x0),(1,x1)],t,pos,af,g⟩ (dR [T0,T1]) :=
 gO (parts := [(0, x0), (1, x1)]) fun a V w hs => by
  have p0:=h0 n V a hs
  generalize e0:a.eval x0 = v0 at p0
  have q0:=(s0.ok v0 V p0).2.2 rfl
  have p1:=h1 n V a hs
  generalize e1:a.eval x1 = v1 at p1
  have q1:=(s1.ok v1 V p1).2.2 rfl
  refine ⟨.agg #[v0,v1],?_,[v0,v1],rfl,aW (⟨p0,q0⟩) (aW (⟨p1,q1⟩) (aG))⟩
  simp [e0,e1,Instr.build,Instr.fill,Sem.run_bind,Result.andThen,fD,q0.cells,q1.cells,O_32,U_32,Z_29,Tryz.sizeOf30]
theorem Iu (a:Addr) (w:World):(Instr.fieldAt 32 (.pointer (some a)) 0).run Tryz.prog w = .ok (.pointer (some (a.add 0))) w:=by
 simp [Instr.fieldAt,Instr.sureAddr,fieldPlace,Sem.run_bind,Result.andThen,U_32,Z_29]
end
section
open Go Go.RowKit
theorem Cz {x:Qi} {L:Nat} [hx:aM x L] (h:L ≤ 17592186044415):bB Tryz.prog 248 [QT x] (aC (kC x)):=by
 refine bB.intro Tryz.func248 rfl Tryz.ntmps248 rfl (fun cx=>(ts (rn rfl (gQ (Ht rfl)) fun B1=>(ro rfl (cQ cV) (eX (ts (ro rfl (eW A_130 Z_130 (Ht rfl) (i:=0) rfl rfl rfl) (ro rfl (cZ Tryz.call242 (Sq zo) ⟨(Ht rfl),trivial⟩) (ro rfl (iY (Ht rfl) cV) (rm rfl (fJ rfl rfl (eU rfl rfl (Ht rfl) (fun h=>eW A_130 Z_130 (Ht rfl) (i:=0) rfl rfl rfl)) (fJ rfl rfl (eU rfl rfl (Ht rfl) (fun h=>cZ Tryz.call209 Ih ⟨(fG rfl h),trivial⟩)) (fJ rfl rfl (eU rfl rfl (Ht rfl) (fun h=>Gx (fG rfl h) cV)) ?_)))))))))))))
 refine ro rfl (eC (Ht rfl) (fun h=>(fG rfl h))) (ra rfl (eX (fU rfl (fV (eY rfl) ?_))))
 exact (fT (Vd x))
theorem Nn {z:List Qi} {s:List (List Qi)} (hz:z.length ≤ 100000) (hs:s.length ≤ 100000):bB Tryz.prog 193 [Ci z,QM s] (aC (yD z s)):=by
 refine bB.intro Tryz.func193 rfl Tryz.ntmps193 rfl (fun cx=>(ts (ro rfl (cQ cV) (eX (cK (ts (rm rfl (ro rfl (dG U_29 (Ht rfl) aA) (ro rfl (gW (Ht rfl) (cJ 1)) (rm rfl (fJ rfl rfl (eU rfl rfl (Ht rfl) (fun h=>cX (Ht rfl))) (fJ rfl rfl (eU rfl rfl (Ht rfl) (fun h=>dG U_29 (fG rfl h) aA)) (fJ rfl rfl (eU rfl rfl (Ht rfl) (fun h=>eO (fG rfl h) (cJ 8))) (ro rfl (kH (Ht rfl) (fun h=>(fG rfl h))) (rm rfl (fJ rfl rfl (eU rfl rfl (Ht rfl) (fun h=>cX (Ht rfl))) ?_))))))))))))))))
 refine fJ rfl rfl (eU rfl rfl (Ht rfl) (fun h=>dG U_30 (fG rfl h) aA)) (fJ rfl rfl (eU rfl rfl (Ht rfl) (fun h=>cX (Ht rfl))) (fJ rfl rfl (eU rfl rfl (Ht rfl) (fun h=>dG U_29 (fG rfl h) aA)) (fJ rfl rfl (eU rfl rfl (Ht rfl) (fun h=>gD (fG rfl h) (fG rfl h))) (ro rfl (kH (Ht rfl) (fun h=>(fG rfl h))) (eX (dQ (Ht rfl) (fun hb=>?_) (fun hb=>?_)))))))
 ·refine ts (ro rfl (cQ cV) (eX (fU rfl (fV (eY rfl) ?_))))
  exact (fT (by rw [yD,hb]; rfl))
 ·refine cU (cK (ts (ro rfl (cQ (cJ 0)) (eX (eK ?_)))))
  refine dB (fun (k : Nat) => k ≤ s.length ∧ ∀ (i : Nat) (r : List Qi), i < k → s[i]? = some r → r.length = z.length) (fun (k : Nat) => s.length - k) (fun (k : Nat) => [(0, Ci z), (1, QM s), (5, NT .i64 k)]) (fun (k : Nat) => []) 0 ⟨Nat.zero_le _, fun i r h => by omega⟩
   (zS rfl) aY (fun k ⟨hk,hr⟩=>?_)
  refine cK (ts (rm rfl (rm rfl (ro rfl (dG U_30 (Ht rfl) aA) (ro rfl (gW (Ht rfl) (Ht rfl)) (eX (dQ (Ht rfl) (fun hc=>?_) (fun hc=>?_))))))))
  ·simp only [decide_eq_true_eq] at hc
   refine cU (cK (eK (ts (rm rfl (rm rfl (ro rfl (dZ U_30 Z_29 (Ht rfl) (Ht rfl) rfl (dY (pK hc))) (ro rfl (dJ Tryz.isAgg29 Z_29 (Ht rfl)) (ro rfl (dG U_29 (Ht rfl) aA) (rm rfl (ro rfl (dG U_29 (Ht rfl) aA) (ro rfl (gD (Ht rfl) (Ht rfl)) (eX (dQ (Ht rfl) (fun hd=>?_) (fun hd=>?_))))))))))))))
   ·have hd2 : ¬ (s[k]).length = z.length := by simpa using hd
    refine ts (ro rfl (cQ cV) (eX (fU rfl (fV (eY rfl) ?_))))
    exact (fT (by rw [yD,Ru (pK hc) hd2,Bool.or_true]; rfl))
   ·have hd2 : (s[k]).length = z.length := by simpa using hd
    refine cU (bI (cY (rm rfl (ro rfl (dV (Ht rfl) (cJ 1) z6) (ra rfl (eX ?_))))))
    refine gZ (k + 1) ⟨hc, fun i r h1 h2 => by
     by_cases e:i = k
     ·subst e; rw [pK hc] at h2; obtain rfl:=Option.some.inj h2; exact hd2
     ·exact hr i r zo h2⟩ zo (zS rfl) aY
  ·simp only [decide_eq_false_iff_not] at hc
   have hall:∀ (i:Nat) (r:List Qi),s[i]? = some r → r.length = z.length:=fun i r h=>hr i r (by have:=(List.getElem?_eq_some_iff.1 h).1; omega) h
   refine gU rfl (ts (ro rfl (cQ cV) (eX (fU rfl (fV (eY rfl) ?_)))))
   exact (fT (by rw [yD,Mq hall,hb]; rfl))
theorem yY {z:List Qi} {L:Nat} (hz:cH z L) (h:L ≤ 17592186044415) (hl:z.length ≤ 100000):bB Tryz.prog 194 [Ci z] (aC (z.all kC)):=by
 refine bB.intro Tryz.func194 rfl Tryz.ntmps194 rfl (fun cx=>(ts (ro rfl (cQ cV) (eX (cK (ts (ro rfl (cQ (cJ 0)) (eX (eK ?_)))))))))
 refine dB (fun (k : Nat) => k ≤ z.length ∧ ∀ (i : Nat) (r : Qi), i < k → z[i]? = some r → kC r = true) (fun (k : Nat) => z.length - k) (fun (k : Nat) => [(0, Ci z), (3, NT .i64 k)]) (fun (k : Nat) => []) 0 ⟨Nat.zero_le _, fun i r h => by omega⟩
  (zS rfl) aY (fun k ⟨hk,hr⟩=>?_)
 refine cK (ts (rm rfl (rm rfl (ro rfl (dG U_29 (Ht rfl) aA) (ro rfl (gW (Ht rfl) (Ht rfl)) (eX (dQ (Ht rfl) (fun hc=>?_) (fun hc=>?_))))))))
 ·simp only [decide_eq_true_eq] at hc
  haveI hf:aM z[k] L:=hz _ (List.getElem_mem hc)
  refine cU (cK (eK (ts (rm rfl (rm rfl (ro rfl (dZ U_29 Z_130 (Ht rfl) (Ht rfl) rfl (dY (pK hc))) (ro rfl (dJ A_130 Z_130 (Ht rfl)) (ro rfl (cZ Tryz.call248 (Cz (L:=L) h) ⟨(Ht rfl),trivial⟩) (ro rfl (fO (Ht rfl)) (eX (dQ (Ht rfl) (fun hd=>?_) (fun hd=>?_))))))))))))
  ·have hd2 : kC z[k] = false := by simpa using hd
   refine ts (ro rfl (cQ cV) (eX (fU rfl (fV (eY rfl) ?_))))
   exact (fT (Xq (pK hc) hd2).symm)
  ·have hd2 : kC z[k] = true := by simpa using hd
   refine cU (bI (cY (rm rfl (ro rfl (dV (Ht rfl) (cJ 1) z6) (ra rfl (eX ?_))))))
   refine gZ (k + 1) ⟨hc, fun i r h1 h2 => by
    by_cases e:i = k
    ·subst e; rw [pK hc] at h2; obtain rfl:=Option.some.inj h2; exact hd2
    ·exact hr i r zo h2⟩ zo (zS rfl) aY
 ·simp only [decide_eq_false_iff_not] at hc
  have hall:∀ (i:Nat) (r:Qi),z[i]? = some r → kC r = true:=fun i r h=>hr i r (by have:=(List.getElem?_eq_some_iff.1 h).1; omega) h
  refine gU rfl (ts (ro rfl (cQ cV) (eX (fU rfl (fV (eY rfl) ?_)))))
  exact (fT (Rq hall).symm)
theorem Kj {z:List Qi} {s:List (List Qi)} {L:Nat} (hz:cH z L) (h:L ≤ 17592186044415) (hl:z.length ≤ 1000) (hl2:s.length ≤ 1000):bB Tryz.prog 95 [Ci z,QM s] (dM [rG (kX (cA z s) z) (kX (cA z s) s),aF .i64 (cA z s)]):=by
 refine bB.intro Tryz.func95 rfl Tryz.ntmps95 rfl (fun cx=>(ts (rn rfl (eG (Ts:=[Is (.slice none 0 0),Is (.slice none 0 0)]) O_32 rfl (fun V=>aW zd (aW zd (aG)))) fun B4=>(ro rfl (cQ (cJ 0)) (eX (cK (ts (rm rfl (rm rfl (ro rfl (cZ Tryz.call193 (Nn zo zo) ⟨(Ht rfl),(Ht rfl),trivial⟩) (ro rfl (fO (Ht rfl)) (eX (dQ (Ht rfl) (fun hb=>?_) (fun hb=>?_))))))))))))))
 ·have hb2 : ¬ yD z s = true := by simpa using hb
  have he:cA z s = 4:=by rw [tT,if_neg hb2]
  refine ts (ro rfl (aE.imp (Hv ) Er) (gV Z_32 (Ht rfl) (Ht rfl) rfl (i:=0) rfl (aK rfl) rfl rfl (ro rfl (cQ (cJ 4)) (eX (bN rfl (fV (gX A_32 Z_32 rfl (i:=0) rfl rfl) ?_) (fV (eY rfl) ?_))))))
  ·exact (Ep he (by decide))
  ·exact (aT he.symm)
 ·have hb2 : yD z s = true := by simpa using hb
  refine cU (cK (ts (rm rfl (ro rfl (cZ Tryz.call194 (yY (by assumption) (by assumption) zo) ⟨(Ht rfl),trivial⟩) ?_))))
  refine ro rfl (fO (Ht rfl)) (eX (dQ (Ht rfl) (fun hc=>?_) (fun hc=>?_)))
  ·have hc2 : ¬ z.all kC = true := by simp only [Bool.not_eq_true'] at hc; rw [hc]; exact Bool.noConfusion
   have he:cA z s = 1:=by rw [tT,if_pos hb2,if_neg hc2]
   refine ts (ro rfl (aE.imp (Hv ) Er) (gV Z_32 (Ht rfl) (Ht rfl) rfl (i:=0) rfl (aK rfl) rfl rfl (ro rfl (cQ (cJ 1)) (eX (bN rfl (fV (gX A_32 Z_32 rfl (i:=0) rfl rfl) ?_) (fV (eY rfl) ?_))))))
   ·exact (Ep he (by decide))
   ·exact (aT he.symm)
  ·have hc2 : z.all kC = true := by simp only [Bool.not_eq_false'] at hc; exact hc
   have he:cA z s = 0:=by rw [tT,if_pos hb2,if_pos hc2]
   refine cU (ts (rm rfl (rm rfl (ro rfl (Fw (Ht rfl) (Ht rfl)) (gV Z_32 (Ht rfl) (Ht rfl) rfl (i:=0) rfl (aK rfl) rfl rfl (ro rfl (cQ (cJ 0)) (eX (bN rfl (fV (gX A_32 Z_32 rfl (i:=0) rfl rfl) ?_) (fV (eY rfl) ?_)))))))))
   ·exact (Lp he)
   ·exact (aT he.symm)
end
section
open Go Go.RowKit
theorem Tc (a:Addr) (w:World):(Instr.fieldAt 32 (.pointer (some a)) 1).run Tryz.prog w = .ok (.pointer (some (a.add 1))) w:=by
 simp [Instr.fieldAt,Instr.sureAddr,fieldPlace,Sem.run_bind,Result.andThen,U_32,Tryz.sizeOf30]
end
section
open Go Go.RowKit
theorem rV (v : Value) (w : World) : (method (Tryz.prog.types.size + Made.depth) 60 v "Of").run Tryz.prog w = .ok (304, v) w := by kernel_rfl
theorem bR (v:Value) (w:World):(Instr.makeInterface 60 v).run Tryz.prog w = .ok (.iface 60 v) w:=by
 simp [Instr.makeInterface,Sem.run_bind,Result.andThen,U_60]
end
section
open Go Go.RowKit
theorem Na {y:Qi}:bB Tryz.prog 304 [dR [Is (.bool false),Is (.slice none 0 0),Is (.bool false),Is (.slice none 0 0),Is (.slice none 0 0)],aD y] (aD y):=by
 refine bB.intro Tryz.func304 rfl Tryz.ntmps304 rfl (fun cx=>(ts (rn rfl (gQ (Ht rfl)) fun B2=>(rn rfl (gQ (Ht rfl)) fun B3=>(rn rfl (eG (Ts:=[Is (.bool false),Is (.slice none 0 0),Is (.bool false),Is (.slice none 0 0),Is (.slice none 0 0)]) O_60 rfl (fun V=>aW zd (aW zd (aW zd (aW zd (aW zd (aG))))))) fun B4=>(eX (ts (ro rfl (eW A_60 Z_60 (Ht rfl) (i:=1) rfl rfl rfl) (gV Z_60 (Ht rfl) (Ht rfl) rfl (i:=2) rfl (aK rfl) rfl rfl ?_)))))))))
 refine eX ?_
 exact fU rfl (gX A_60 Z_60 rfl (i:=2) rfl rfl)
theorem Gd {r:List Qi} {k:Nat}:bB Tryz.prog 261 [bL r,PT (NT .i64 k)] (aC (!decide (r.length = k))):=by
 refine bB.intro Tryz.func261 rfl Tryz.ntmps261 rfl (fun cx=>(ts (ro rfl (cQ cV) (eX (ts (rm rfl (ro rfl (dG U_25 (Ht rfl) aA) (ro rfl (dJ A_3 Z_3 (Ht rfl)) (ro rfl (gD (Ht rfl) (Ht rfl)) (ra rfl (eX ?_)))))))))))
 exact fU rfl (eY rfl)
theorem Gc  : bB Tryz.prog 226 [eE []] (dM [NT .i64 0,aC true]):=by
 refine bB.intro Tryz.func226 rfl Tryz.ntmps226 rfl (fun cx=>(ts (ro rfl (cQ (cJ 0)) (ro rfl (cQ cV) (eX (cK (ts (rm rfl (ro rfl (dG U_26 (Ht rfl) aA) (ro rfl (cB (Ht rfl) (cJ 0)) (eX (mI (Ht rfl) (by rfl) ?_))))))))))))
 refine ts (ro rfl (cQ (cJ 0)) (ro rfl (cQ cV) (eX ?_)))
 exact bN rfl (eY rfl) (eY rfl)
theorem Ke {a:List (List Qi)} {n k:Nat} (h:iF a n k) (h1:1 ≤ n) (hn:n ≤ 32) (hk:k ≤ 32):bB Tryz.prog 226 [eE a] (dM [NT .i64 k,aC true]):=by
 obtain ⟨rfl,h2⟩:=h
 have hr0:(a.getD 0 []).length = k:=iF.row ⟨rfl,h2⟩ zo
 refine bB.intro Tryz.func226 rfl Tryz.ntmps226 rfl (fun cx=>(ts (ro rfl (cQ (cJ 0)) (ro rfl (cQ cV) (eX (cK (ts (rm rfl (ro rfl (dG U_26 (Ht rfl) aA) (ro rfl (cB (Ht rfl) (cJ 0)) (eX (dQ (Ht rfl) (fun hb=>?_) (fun hb=>?_)))))))))))))
 ·simp only [decide_eq_true_eq] at hb
  omega
 ·refine cU (ts (rm rfl (ro rfl (dZ U_26 Z_25 (Ht rfl) (cJ 0) rfl (dY (dU (d := []) zo))) (ro rfl (dJ A_25 Z_25 (Ht rfl)) (ro rfl (dG U_25 (Ht rfl) aA) (rn rfl (eG (Ts := [Is (.int .i64 0)]) O_3 rfl (fun V => aW zd (aG))) fun B4 => (kE Z_3 (Ht rfl) (Ht rfl) (i := 0) rfl (aK rfl) rfl (eX (cK (gK (i := 0) (tt := 4) rfl rfl kG (fW (m := 15) (dp 4 rfl (dJ A_3 Z_3 (Ht rfl)) ?_))))))))))))
  refine dp 0 rfl (cX (Ht rfl)) (dq 13 1 rfl (dG U_26 (Ht rfl) aA) (dq 14 2 rfl (wC (Ht rfl) (cJ 32)) (dq 15 3 rfl (cX (Ht rfl)) (C.D_step (Ei:=[(4,_),(16,_)]) rfl rfl (bV (bK rfl rfl) (bV (bG 4 rfl rfl) bW)) (eU rfl rfl (Ht rfl) (fun h=>dJ A_3 Z_3 (Ht rfl))) (C.D_step (Ei:=[(17,_),(16,_)]) rfl rfl (bV (bG 5 rfl rfl) (bV (bG 4 rfl rfl) bW)) (eU rfl rfl (Ht rfl) (fun h=>wC (fG rfl h) (cJ 32))) (dP 16 4 18 6 rfl (eC (Ht rfl) (fun h=>(fG rfl h))) ?_))))))
  refine dq 19 7 rfl (cX (Ht rfl)) (C.D_step (Ei:=[(0,_),(20,_)]) rfl rfl (bV (bK rfl rfl) (bV (bG 8 rfl rfl) bW)) (eU rfl rfl (Ht rfl) (fun h=>cX (Ht rfl))) (C.D_step (Ei:=[(4,_),(20,_)]) rfl rfl (bV (bK rfl rfl) (bV (bG 8 rfl rfl) bW)) (eU rfl rfl (Ht rfl) (fun h=>qY (γ:=List Qi) (Ts:=fun r=>[bL r]) (U:=fun r=>aC (!decide (r.length = (a.getD 0 []).length))) Tryz.call261 (fun r=>Gd) ⟨(Ht rfl),trivial⟩)) (C.D_step (Ei:=[(21,_),(22,_),(20,_)]) rfl rfl (bV (bG 9 rfl rfl) (bV (bG 10 rfl rfl) (bV (bG 8 rfl rfl) bW))) (eU rfl rfl (Ht rfl) (fun h=>cZ Tryz.call227 (yX (l:=a) (T:=bL) (p:=fun r=>!decide (r.length = (a.getD 0 []).length)) zo) ⟨(fG rfl h),(fG rfl h),trivial⟩)) ?_)))
  refine C.D_step (Ei:=[(23,_),(20,_)]) rfl rfl (bV (bG 11 rfl rfl) (bV (bG 8 rfl rfl) bW)) (eU rfl rfl (Ht rfl) (fun h=>fO (fG rfl h))) (dP 20 8 24 12 rfl (eC (Ht rfl) (fun h=>(fG rfl h))) (dq 12 0 rfl (cQ (Ht rfl)) (fK bC rfl (by kernel_rfl) (zF (zF (zF (aJ (aJ (aJ (aV (ra rfl (eX (bN rfl (fV (eY rfl) ?_) (fV (eY rfl) ?_))))))))))))))
  ·exact (kT hr0)
  ·exact (fT (by rw [hr0,Sy ⟨rfl,h2⟩]; simp; omega))
end
section
open Go Go.RowKit
theorem mA (v : Value) (w : World) : (method (Tryz.prog.types.size + Made.depth) 60 v "Add").run Tryz.prog w = .ok (71, v) w := by kernel_rfl
theorem dC (v : Value) (w : World) : (method (Tryz.prog.types.size + Made.depth) 60 v "Mul").run Tryz.prog w = .ok (70, v) w := by kernel_rfl
end
section
open Go Go.RowKit
theorem jN (v : Value) (w : World) : (method (Tryz.prog.types.size + Made.depth) 60 v "Div").run Tryz.prog w = .ok (64, v) w := by kernel_rfl
theorem kS (v : Value) (w : World) : (method (Tryz.prog.types.size + Made.depth) 60 v "Sub").run Tryz.prog w = .ok (69, v) w := by kernel_rfl
end
section
open Go Go.RowKit
theorem Sc {n:Nat} (h:n < 4294967296):bB Tryz.prog 282 [NT .u64 1,NT .u64 n] (dM [NT .u64 0,NT .u64 n]):=by
 refine bB.intro Tryz.func282 rfl Tryz.ntmps282 rfl (fun cx=>(ts (ro rfl (cQ (cJ 0)) (ro rfl (cQ (cJ 0)) (eX (ts (rm rfl (ro rfl (aE.nat (qX rfl (Ht rfl) (cJ 4294967295) z7 z7) (show (1:Nat) &&& 4294967295 = 1 by decide)) (ra rfl (eX (ts (rm rfl (ro rfl (aE.nat (eH (Ht rfl) (cJ 32) (by decide)) (show (1:Nat) / 2 ^ 32 = 0 by decide)) (ra rfl (eX (ts (rm rfl (ro rfl (aE.nat (qX rfl (Ht rfl) (cJ 4294967295) z7 z7) (show n &&& 4294967295 = n from (Nat.and_two_pow_sub_one_eq_mod n 32).trans (Nat.mod_eq_of_lt h))) ?_))))))))))))))))))
 refine ra rfl (eX (ts (rm rfl (ro rfl (aE.nat (eH (Ht rfl) (cJ 32) (by decide)) (show n / 2 ^ 32 = 0 from Nat.div_eq_of_lt h)) (ra rfl (eX (ts (rm rfl (rm rfl (ro rfl (aE.nat (jV (Ht rfl) (Ht rfl) z7) (Nat.one_mul n)) (ra rfl (eX (ts (rm rfl (rm rfl (ro rfl (aE.nat (jV (Ht rfl) (Ht rfl) z7) (Nat.zero_mul n)) (rm rfl (ro rfl (aE.nat (eH (Ht rfl) (cJ 32) (by decide)) (show n / 2 ^ 32 = 0 from Nat.div_eq_of_lt h)) ?_))))))))))))))))))
 refine ro rfl (dV (Ht rfl) (Ht rfl) z7) (ra rfl (eX (ts (rm rfl (ro rfl (aE.nat (qX rfl (Ht rfl) (cJ 4294967295) z7 z7) (show (0 + 0:Nat) &&& 4294967295 = 0 by decide)) (ra rfl (eX (ts (rm rfl (ro rfl (aE.nat (eH (Ht rfl) (cJ 32) (by decide)) (show (0 + 0:Nat) / 2 ^ 32 = 0 by decide)) (ra rfl (eX (ts (rm rfl (rm rfl (rm rfl ?_))))))))))))))))
 refine ro rfl (aE.nat (jV (Ht rfl) (Ht rfl) z7) (show (1 * 0:Nat) = 0 by decide)) (ro rfl (dV (Ht rfl) (Ht rfl) z7) (ra rfl (eX (ts (rm rfl (rm rfl (ro rfl (aE.nat (jV (Ht rfl) (Ht rfl) z7) (show (0 * 0:Nat) = 0 by decide)) (rm rfl (ro rfl (dV (Ht rfl) (Ht rfl) z7) ?_)))))))))
 refine rm rfl (ro rfl (aE.nat (eH (Ht rfl) (cJ 32) (by decide)) (show (0 + 0:Nat) / 2 ^ 32 = 0 by decide)) (ro rfl (dV (Ht rfl) (Ht rfl) z7) (ra rfl (eX (ts (rm rfl (rm rfl (ro rfl (aE.nat (jV (Ht rfl) (Ht rfl) z7) (Nat.one_mul n)) (ra rfl (eX (bN rfl (fV (eY rfl) ?_) (eY rfl))))))))))))
 exact (kT (by decide))
theorem Xw {n:Nat} (h:n < 4294967296):bB Tryz.prog 263 [NT .u64 1,NT .u64 n] (dM [NT .u64 0,NT .u64 n]):=by
 refine bB.intro Tryz.func263 rfl Tryz.ntmps263 rfl (fun cx=>(ts (ro rfl (cQ (cJ 0)) (ro rfl (cQ (cJ 0)) (eX (cK (dQ cV (fun hf=>?_) (fun hf=>?_))))))))
 ·exact absurd hf (by decide)
 ·refine cU (ts (rm rfl (rm rfl (ro rfl (cZ Tryz.call282 (Sc h) ⟨(Ht rfl), (Ht rfl), trivial⟩) (rm rfl (ro rfl (dK (Ht rfl) rfl) (ro rfl (dK (Ht rfl) rfl) (ra rfl (ra rfl (eX (ts (rm rfl (rm rfl (ra rfl (ra rfl (eX ?_))))))))))))))))
  exact bN rfl (eY rfl) (eY rfl)
theorem Xv {m:Nat} (h1:1 ≤ m) (hm:m ≤ 1000):gP Tryz.prog 229 [bL [Qi.zero],NT .i64 m] [] ({v:Value // oX v}) (fun v=>Is v.1) (fun v=>[bE 60 5 v.1 ((tab m fun _=>Qi.zero).map aD)]) (fun _=>True):=by
 refine gP.intro Tryz.func229 rfl Tryz.ntmps229 rfl (fun cx Z=>(ts (ro rfl (cQ cV) (eX (cK (ts (rm rfl (ro rfl (gW (Ht rfl) (cJ 0)) (eX (dQ (Ht rfl) (fun h0=>?_) (fun h0=>?_)))))))))))
 ·simp only [decide_eq_true_eq] at h0
  omega
 ·refine cU (ts (rm rfl (ro rfl (dG U_25 (Ht rfl) (show (([Qi.zero].map aD).length : Int) = ((1 : Nat) : Int) from rfl)) (ro rfl (gG U_3 U_264 (Ht rfl) z7) (rm rfl (ro rfl (gG U_3 U_264 (Ht rfl) z7) (ro rfl (cZ Tryz.call263 (Xw zo) ⟨(Ht rfl), (Ht rfl), trivial⟩) (rm rfl (ro rfl (dK (Ht rfl) rfl) (ro rfl (dK (Ht rfl) rfl) ?_))))))))))
  refine ra rfl (ra rfl (eX (cK (ts (rm rfl (ro rfl (eO (Ht rfl) (cJ 0)) (rm rfl (fJ rfl rfl (eU rfl rfl (Ht rfl) (fun h=>cX (Ht rfl))) (fJ rfl rfl (eU rfl rfl (Ht rfl) (fun h=>eO (fG rfl h) (cJ 9223372036854775807))) (ro rfl (kH (Ht rfl) (fun h=>(fG rfl h))) (eX (dQ (Ht rfl) (fun h2=>?_) (fun h2=>?_)))))))))))))
  ·simp only [Bool.or_eq_true, decide_eq_true_eq] at h2
   omega
  ·refine cU (ts (rm rfl (ro rfl (gG U_264 U_3 (Ht rfl) z6) (Ak (T := aD Qi.zero) (i := Tryz.t60) jP iM rfl rfl (Ht rfl) rfl gH (El.ag rfl) (by show 88 * _ ≤ _; omega) zo rfl (fun B30 hB30 => (ra rfl (eX (ts (rm rfl (rm rfl (ro rfl (Pp (q := 1) (T := aD Qi.zero) U_25 Z_60 (i := 1) rfl (Ht rfl) (Ht rfl) (by decide) (El.ag rfl) zo) (ra rfl (eX (cK (eK ?_)))))))))))))))
   refine dB (fun (k : Nat) => 1 ≤ k ∧ k ≤ m) (fun (k : Nat) => m - k) (fun (k : Nat) => [(7, Is B30), (8, NT .i64 k)]) (fun (k : Nat) => [Z, bE 60 5 B30 (List.replicate m (aD Qi.zero))]) (Nat.min 1 m) ⟨by show 1 ≤ min 1 m; omega, by show min 1 m ≤ m; omega⟩
    (zS rfl) (cT.refl _) (fun k ⟨hk1,hk⟩=>?_)
   refine cK (ts (rm rfl (rm rfl (ro rfl (kL U_25 (Ht rfl) (i:=1) rfl (show ((List.replicate m (aD Qi.zero)).length:Int) = ((m:Nat):Int) by simp)) (ro rfl (gW (Ht rfl) (Ht rfl)) (eX (dQ (Ht rfl) (fun hd=>?_) (fun hd=>?_))))))))
   ·simp only [decide_eq_true_eq] at hd
    have hlen:(List.replicate m (aD Qi.zero)).length = m:=by simp
    have h5:Nat.min k ((List.replicate m (aD Qi.zero)).length - k) = min k (m - k):=by rw [hlen]
    refine cU (eK (fW (m:=8) (dp 8 rfl (cX (Ht rfl)) (dp 7 rfl (cX (Ht rfl)) (dp 8 rfl (cX (Ht rfl)) (dP 39 1 40 2 rfl (Pu U_25 Z_60 (Ht rfl) (Ht rfl) rfl (i:=1) rfl (by rw [hlen]; exact hd)) ?_))))))
    refine dp 7 rfl (cX (Ht rfl)) (dp 8 rfl (cX (Ht rfl)) (dP 42 4 43 5 rfl (Pt U_25 Z_60 (Ht rfl) (Ht rfl) rfl (i:=1) rfl (by rw [hlen]; omega) (by rw [hlen]; omega)) ?_))
    refine dP 41 3 44 6 rfl (Gv (T:=aD Qi.zero) U_25 Z_60 (i:=1) rfl (Ht rfl) (Ht rfl)) (fK bC rfl (by kernel_rfl) (zF (zF (aV (ro rfl (dV (Ht rfl) (Ht rfl) (by show _ < 9223372036854775808; omega)) (ra rfl (eX (bI (gZ (k + Nat.min k ((List.replicate m (aD Qi.zero)).length - k)) ⟨by omega,by omega⟩ zo (zS rfl) (cT.refl _))))))))))
   ·refine gU rfl (ts (rm rfl (ra rfl (eX ?_))))
    exact kO ⟨B30,hB30⟩ trivial [0,1] ⟨⟨_,rfl,fun _ _ _ h=>h⟩,⟨_,rfl,(bA (by rw [rC,qH]))⟩,trivial⟩ (by decide) (yB rfl (eY rfl))
end
section
open Go Go.RowKit
theorem Rx {n : Nat} {E : bT} {H : Hp} {d : Option Tmp} {t : TypeId} {pos : String} {af : Array Edge} {g : Option (Nat × Bool)}  :
  aE Tryz.prog n E H ⟨d,.build 48 #[],t,pos,af,g⟩ (dR [Is (.int .i64 0),Is (.int .i64 0),Is (.int .i64 0)]) :=
 gO (parts := []) fun a V w hs => by
  refine ⟨.agg #[(.int .i64 0),(.int .i64 0),(.int .i64 0)],?_,[(.int .i64 0),(.int .i64 0),(.int .i64 0)],rfl,aW (⟨rfl,trivial⟩) (aW (⟨rfl,trivial⟩) (aW (⟨rfl,trivial⟩) (aG)))⟩
  simp [Instr.build,Instr.fill,Sem.run_bind,Result.andThen,fD,O_48,U_48,Z_2]
theorem Cq {n : Nat} {E : bT} {H : Hp} {d : Option Tmp} {t : TypeId} {pos : String} {af : Array Edge} {g : Option (Nat × Bool)} {x0 : Operand} {T0 : Ty} [s0 : cP T0 1 false] (h0 : aR E x0 T0) :
  aE Tryz.prog n E H ⟨d,.build 48 #[(0,x0)],t,pos,af,g⟩ (dR [T0,Is (.int .i64 0),Is (.int .i64 0)]) :=
 gO (parts := [(0, x0)]) fun a V w hs => by
  have p0:=h0 n V a hs
  generalize e0:a.eval x0 = v0 at p0
  have q0:=(s0.ok v0 V p0).2.2 rfl
  refine ⟨.agg #[v0,(.int .i64 0),(.int .i64 0)],?_,[v0,(.int .i64 0),(.int .i64 0)],rfl,aW (⟨p0,q0⟩) (aW (⟨rfl,trivial⟩) (aW (⟨rfl,trivial⟩) (aG)))⟩
  simp [e0,Instr.build,Instr.fill,Sem.run_bind,Result.andThen,fD,q0.cells,O_48,U_48,Z_2]
theorem wV {n : Nat} {E : bT} {H : Hp} {d : Option Tmp} {t : TypeId} {pos : String} {af : Array Edge} {g : Option (Nat × Bool)} {x0 x2 : Operand} {T0 T2 : Ty} [s0 : cP T0 1 false] (h0 : aR E x0 T0) [s2 : cP T2 1 false] (h2 : aR E x2 T2) :
  aE Tryz.prog n E H ⟨d,.build 48 #[(0,x0),(2,x2)],t,pos,af,g⟩ (dR [T0,Is (.int .i64 0),T2]) :=
 gO (parts := [(0, x0), (2, x2)]) fun a V w hs => by
  have p0:=h0 n V a hs
  generalize e0:a.eval x0 = v0 at p0
  have q0:=(s0.ok v0 V p0).2.2 rfl
  have p2:=h2 n V a hs
  generalize e2:a.eval x2 = v2 at p2
  have q2:=(s2.ok v2 V p2).2.2 rfl
  refine ⟨.agg #[v0,(.int .i64 0),v2],?_,[v0,(.int .i64 0),v2],rfl,aW (⟨p0,q0⟩) (aW (⟨rfl,trivial⟩) (aW (⟨p2,q2⟩) (aG)))⟩
  simp [e0,e2,Instr.build,Instr.fill,Sem.run_bind,Result.andThen,fD,q0.cells,q2.cells,O_48,U_48,Z_2]
end
section
open Go Go.RowKit
theorem Yw {z:List Qi} {i:Nat} (h:i < z.length):∀ v V,(dM [aD (Ux z ((i + 1:Nat):Int)),aF .i64 (if 1 ≤ ((i + 1:Nat):Int) ∧ ((i + 1:Nat):Int) ≤ z.length then 0 else 1)]).p v V → (dM [aD (gv z i),aF .i64 0]).p v V:=by
 rw [show Ux z ((i + 1:Nat):Int) = gv z i from Gz h,if_pos zo]; exact fun _ _ h=>h
theorem a0x {n:Nat} {s:List (List Qi)} {i j:Nat} (h:i < n) (k:j < n):∀ v V,(dM [aD (Pw n s ((i + 1:Nat):Int) ((j + 1:Nat):Int)),aF .i64 (if (1 ≤ ((i + 1:Nat):Int) ∧ ((i + 1:Nat):Int) ≤ n) ∧ 1 ≤ ((j + 1:Nat):Int) ∧ ((j + 1:Nat):Int) ≤ n then 0 else 1)]).p v V → (dM [aD (gm s i j),aF .i64 0]).p v V:=by
 rw [show Pw n s ((i + 1:Nat):Int) ((j + 1:Nat):Int) = gm s i j from Gy h k,if_pos zo]; exact fun _ _ h=>h
end
section
open Go Go.RowKit
theorem Qi.zero_div (y:Qi):Qi.zero / y = Qi.zero:=by rw [Qi.div_def,Qi.zero_mul']
end
section
open Go Go.RowKit
theorem Tj {α:Type} {l:List α} {d:α} {k:Nat} (h:k < l.length):l.getD k d = l[k]:=by simp [List.getD,h]
end
section
open Go Go.RowKit
namespace Qi
theorem Mm {x:Qi}:0 ≤ x.a ↔ 0 ≤ x.re:=by
 have hk:0 < x.den / x.re.den:=Nat.div_pos (Nat.le_of_dvd x.den_pos (Nat.dvd_lcm_left _ _)) x.re.den_pos
 rw [← Rat.num_nonneg]
 show 0 ≤ x.re.num * ((x.den / x.re.den:Nat):Int) ↔ _
 generalize x.den / x.re.den = k at hk
 constructor
 ·intro h
  exact Int.nonneg_of_mul_nonneg_left h zo
 ·intro h; exact Int.mul_nonneg h zo
theorem a_pos {x:Qi}:0 < x.a ↔ 0 < x.re:=by
 have h1:=@Mm x; have h2:=@Fu x
 constructor
 ·intro h
  have h3:0 ≤ x.re:=h1.1 zo
  have h4:x.re ≠ 0:=fun e=>by have:=h2.2 e; omega
  exact Rat.lt_of_le_of_ne h3 (Ne.symm h4)
 ·intro h
  have h3:0 ≤ x.a:=h1.2 (by grind)
  have h4:x.a ≠ 0:=fun e=>by have:=h2.1 e; grind
  omega
end Qi
def nX (f : Nat → Int) : Nat → Int
 | 0=>0
 | n + 1=>if nX f n ≠ 0 then nX f n else f n
theorem Ku {f:Nat → Int} {k:Nat} (h:∀ i,i < k → f i = 0) (hk:f k ≠ 0):∀ {n:Nat},k < n → nX f n = f k:=by
 have hz : nX f k = 0 := by
  clear hk
  induction k with
  | zero=>rfl
  | succ k ih=>rw [nX,ih (fun i hi=>h i zo),if_neg (by simp),h k zo]
 intro n
 induction n with
 | zero=>intro h; omega
 | succ n ih =>
  intro hn
  by_cases e:n = k
  ·rw [e,nX,hz,if_neg (by simp)]
  ·rw [nX,ih zo,if_pos hk]
theorem uH {f : Nat → Int} : ∀ {n : Nat}, (∀ i, i < n → f i = 0) → nX f n = 0
 | 0,_=>rfl
 | n + 1,h=>by rw [nX,uH (fun i hi=>h i zo),if_neg (by simp),h n zo]
abbrev eF (l:List (Qi × Qi)) (i:Nat):Qi:=(l.getD i (Qi.zero,Qi.zero)).1
abbrev eV (l:List (Qi × Qi)) (i:Nat):Qi:=(l.getD i (Qi.zero,Qi.zero)).2
structure Wc (l:List (Qi × Qi)) (f:Qi):Prop where
 real:∀ i,i < l.length → (eF l i).b = 0 ∧ (eV l i).b = 0
 up:∀ i,0 < i → i < l.length → (eF l (i - 1)).re < (eF l i).re
 fr:f.b = 0
theorem Wc.mono {l : List (Qi × Qi)} {f : Qi} (h : Wc l f) {i : Nat} : ∀ {j : Nat}, i < j → j < l.length → (eF l i).re < (eF l j).re
 | 0,h1,_=>by omega
 | j + 1, h1, h2 => by
  have h3:=h.up (j + 1) zo h2
  rw [Nat.add_sub_cancel] at h3
  by_cases e:i = j
  ·rw [e]; exact h3
  ·have := h.mono (i := i) (j := j) zo zo
   grind
def a03 (l:List (Qi × Qi)) (L:Nat):Prop:=∀ e,e ∈ l → aM e.1 L ∧ aM e.2 L
theorem a03.get {l:List (Qi × Qi)} {L:Nat} (h:a03 l L) (hL:1 ≤ L) (i:Nat):aM (eF l i) L ∧ aM (eV l i) L:=by
 by_cases hi:i < l.length
 ·have e : l.getD i (Qi.zero, Qi.zero) = l[i] := by simp [List.getD, hi]
  show aM (l.getD i _).1 L ∧ aM (l.getD i _).2 L
  rw [e]; exact h _ (List.getElem_mem hi)
 ·have e : l.getD i (Qi.zero, Qi.zero) = (Qi.zero, Qi.zero) := by simp [List.getD, List.getElem?_eq_none (Nat.le_of_not_lt hi)]
  show aM (l.getD i _).1 L ∧ aM (l.getD i _).2 L
  rw [e]; exact ⟨aM.zero hL,aM.zero hL⟩
end
section
open Go Go.RowKit
abbrev dS (M:List (List Qi)) (i:Nat):List Qi:=M.getD i []
def Mb (M : List (List Qi)) (c n : Nat) : Nat → Nat
 | 0=>n
 | k + 1=>if gm M (n - (k + 1)) c = Qi.zero then Mb M c n k else n - (k + 1)
def pv (M:List (List Qi)) (c n:Nat):Nat:=Mb M c n (n - c)
theorem Ek {M : List (List Qi)} {c n : Nat} : ∀ {k : Nat}, k ≤ n → (∀ r, n - k ≤ r → r < Mb M c n k → gm M r c = Qi.zero) ∧ n - k ≤ Mb M c n k ∧ Mb M c n k ≤ n ∧ (Mb M c n k < n → gm M (Mb M c n k) c ≠ Qi.zero)
 | 0,_=>⟨fun r h1 h2=>by simp [Mb] at h2; omega,by simp [Mb],by simp [Mb],fun h=>by simp [Mb] at h⟩
 | k + 1, hk => by
  obtain ⟨i1,i2,i3,i4⟩:=Ek (M:=M) (c:=c) (n:=n) (k:=k) zo
  unfold Mb
  by_cases e:gm M (n - (k + 1)) c = Qi.zero
  ·rw [if_pos e]
   refine ⟨fun r h1 h2=>?_,by omega,i3,i4⟩
   by_cases e2:r = n - (k + 1)
   ·rw [e2]; exact e
   ·exact i1 r zo h2
  ·rw [if_neg e]
   exact ⟨fun r h1 h2=>by omega,Nat.le_refl _,by omega,fun _=>e⟩
theorem pH {M:List (List Qi)} {c n:Nat} (hc:c ≤ n):(∀ r,c ≤ r → r < pv M c n → gm M r c = Qi.zero) ∧ c ≤ pv M c n ∧ pv M c n ≤ n ∧ (pv M c n < n → gm M (pv M c n) c ≠ Qi.zero):=by
 have h:=Ek (M:=M) (c:=c) (n:=n) (k:=n - c) zo
 rw [show n - (n - c) = c by omega] at h
 exact h
theorem a0E {M:List (List Qi)} {c n p:Nat} (hc:c ≤ p) (hp:p ≤ n) (h1:∀ r,c ≤ r → r < p → gm M r c = Qi.zero) (h2:p < n → gm M p c ≠ Qi.zero):pv M c n = p:=by
 obtain ⟨i1,i2,i3,i4⟩:=pH (M:=M) (n:=n) (show c ≤ n by omega)
 rcases Nat.lt_trichotomy (pv M c n) p with h | h | h
 ·exact absurd (h1 _ i2 h) (i4 zo)
 ·exact h
 ·exact absurd (i1 p hc h) (h2 zo)
def kD (rr rc:List Qi) (c k:Nat):List Qi:=tab rr.length fun j=>if c < j ∧ j < k then gv rr j - gv rr c / gv rc c * gv rc j else gv rr j
def redM (M:List (List Qi)) (c r:Nat):List (List Qi):=tab M.length fun i=>if c < i ∧ i < r then kD (dS M i) (dS M c) c (dS M i).length else dS M i
def dH (M : List (List Qi)) : Nat → List (List Qi) × Nat × Int
 | 0=>(M,0,-1)
 | c + 1 =>
  let s:=dH M c
  if 0 ≤ s.2.2 then s else
  if pv s.1 c M.length = M.length then (s.1,s.2.1,(c:Int)) else
  (redM (if pv s.1 c M.length = c then s.1 else swp [] s.1 (pv s.1 c M.length) c) c M.length,s.2.1 + (if pv s.1 c M.length = c then 0 else 1),-1)
theorem zO {M : List (List Qi)} {c : Nat} (h : 0 ≤ (dH M c).2.2) : ∀ {d : Nat}, c ≤ d → dH M d = dH M c
 | 0,hd=>by rw [show c = 0 by omega]
 | d + 1, hd => by
  by_cases e:c = d + 1
  ·rw [e]
  ·have := zO h (d := d) zo
   simp only [dH,this]
   rw [if_pos h]
theorem qG (M:List (List Qi)) (c r:Nat):(redM M c r).length = M.length:=aO _ _
theorem En {M:List (List Qi)} {n m c r:Nat} (h:iF M n m):iF (redM M c r) n m:=by
 refine ⟨(qG _ _ _).trans h.1,fun x hx=>?_⟩
 obtain ⟨i,hi,rfl⟩:=hJ.1 hx
 have hr:=h.row (i:=i) (by rw [← h.1]; exact hi)
 show (if c < i ∧ i < r then kD (dS M i) (dS M c) c (dS M i).length else dS M i).length = m
 split
 ·rw [kD,aO]; exact hr
 ·exact hr
theorem wI {M:List (List Qi)} {n m p c:Nat} (h:iF M n m) (hp:p < n) (hc:c < n):iF (swp [] M p c) n m:=by
 refine ⟨(Ce _ _ _ _).trans h.1,fun x hx=>?_⟩
 unfold swp at hx
 rcases List.mem_or_eq_of_mem_set hx with h1 | h1
 ·rcases List.mem_or_eq_of_mem_set h1 with h2 | h2
  ·exact h.2 x h2
  ·rw [h2]; exact h.row hc
 ·rw [h1]; exact h.row hp
theorem oH {M : List (List Qi)} {n m : Nat} (h : iF M n m) : ∀ {c : Nat}, c ≤ n → iF (dH M c).1 n m
 | 0,_=>h
 | c + 1, hc => by
  have ih:=oH h (c:=c) zo
  obtain ⟨_,_,i3,_⟩:=pH (M:=(dH M c).1) (c:=c) (n:=M.length) (by rw [h.1]; omega)
  simp only [dH]
  split
  ·exact ih
  ·split
   ·exact ih
   ·rename_i e
    apply En
    split
    ·exact ih
    ·exact wI ih (by rw [← h.1]; omega) zo
def nB (L : Nat) : Nat → Nat
 | 0=>L
 | c + 1=>6 * nB L c + 4
theorem qW (L : Nat) : ∀ {c d : Nat}, c ≤ d → nB L c ≤ nB L d
 | c,0,h=>by rw [show c = 0 by omega]; exact Nat.le_refl _
 | c, d + 1, h => by
  by_cases e:c = d + 1
  ·rw [e]; exact Nat.le_refl _
  ·have := qW L (c := c) (d := d) zo
   simp only [nB]; omega
theorem sL (L c:Nat):L ≤ nB L c:=qW L (Nat.zero_le c)
theorem Iq {rr rc:List Qi} {L c j:Nat} (h1:cH rr L) (h2:cH rc L) (hL:1 ≤ L) (hp:gv rc c ≠ Qi.zero):aM (gv rr j - gv rr c / gv rc c * gv rc j) (6 * L + 4):=by
 haveI f1:=h1.get hL j; haveI f2:=h1.get hL c; haveI f3:=h2.get hL c; haveI f4:=h2.get hL j
 haveI g:aM (gv rr c / gv rc c) (L + 3 * L + 2):=⟨f2.fit.div f3.fit hp⟩
 have:aM (gv rr j - gv rr c / gv rc c * gv rc j) (L + (L + 3 * L + 2 + L + 1) + 1):=inferInstance
 exact this.le zo
theorem Qd {rr rc : List Qi} {L c k : Nat} (h1 : cH rr L) (h2 : cH rc L) (hL : 1 ≤ L) (hp : gv rc c ≠ Qi.zero) : cH (kD rr rc c k) (6 * L + 4) := cH.tab fun j _ => by
 split
 ·exact Iq h1 h2 hL hp
 ·exact (h1.get hL j).le zo
theorem Em {M : List (List Qi)} {L c r : Nat} (h : cF M L) (hL : 1 ≤ L) (hp : gm M c c ≠ Qi.zero) : cF (redM M c r) (6 * L + 4) := fun x hx => by
 obtain ⟨i,hi,rfl⟩:=hJ.1 hx
 show cH (if c < i ∧ i < r then kD (dS M i) (dS M c) c (dS M i).length else dS M i) _
 split
 ·exact Qd (h.row i) (h.row c) hL hp
 ·exact (h.row i).le zo
theorem Cd {M : List (List Qi)} {L p c : Nat} (h : cF M L) : cF (swp [] M p c) L := fun x hx => by
 unfold swp at hx
 rcases List.mem_or_eq_of_mem_set hx with h1 | h1
 ·rcases List.mem_or_eq_of_mem_set h1 with h2 | h2
  ·exact h x h2
  ·rw [h2]; exact h.row c
 ·rw [h1]; exact h.row p
theorem yI {M:List (List Qi)} {p c:Nat} (hc:c < M.length):dS (swp [] M p c) c = dS M p:=by
 simp [dS,swp,List.getD,hc]
theorem xJ {M : List (List Qi)} {n m L : Nat} (hs : iF M n m) (h : cF M L) (hL : 1 ≤ L) : ∀ {c : Nat}, c ≤ n → cF (dH M c).1 (nB L c)
 | 0,_=>h
 | c + 1, hc => by
  have ih:=xJ hs h hL (c:=c) zo
  have hg:1 ≤ nB L c:=Nat.le_trans hL (sL L c)
  have sh:=oH hs (c:=c) zo
  obtain ⟨_,i2,i3,i4⟩:=pH (M:=(dH M c).1) (c:=c) (n:=M.length) (by rw [hs.1]; omega)
  simp only [dH,nB]
  split
  ·exact ih.le zo
  ·split
   ·exact ih.le zo
   ·rename_i e
    split
    ·rename_i e2
     refine Em ih hg ?_
     have:=i4 zo
     rw [e2] at this; exact this
    ·refine Em (Cd ih) hg ?_
     show gv (dS (swp [] _ _ c) c) c ≠ _
     rw [yI (by rw [sh.1]; omega)]
     exact i4 zo
theorem Hb {rr rc:List Qi} {c:Nat}:rr = kD rr rc c (c + 1):=by
 unfold kD
 have:(tab rr.length fun j=>if c < j ∧ j < c + 1 then gv rr j - gv rr c / gv rc c * gv rc j else gv rr j) = tab rr.length (gv rr):=eB fun j _=>by rw [if_neg zo]
 rw [this]; exact Dv rfl
theorem sV (rr rc:List Qi) (c k:Nat):(kD rr rc c k).length = rr.length:=aO _ _
theorem Eo {rr rc:List Qi} {c k:Nat} (hk:k < rr.length) (h:c < k):gv (kD rr rc c k) k = gv rr k:=by
 rw [kD,rU hk,if_neg zo]
theorem Ln {rr rc:List Qi} {c k:Nat} (hk:k < rr.length) (h:c < k):(kD rr rc c k).set k (gv (kD rr rc c k) k - gv rr c / gv rc c * gv rc k) = kD rr rc c (k + 1):=by
 rw [Eo hk h]
 apply List.ext_getElem?
 intro j
 by_cases hj:j < rr.length
 ·by_cases e : j = k
  ·subst e
   rw [List.getElem?_set_self (by rw [sV]; exact hj),kD,cD hj,if_pos zo]
  ·rw [List.getElem?_set_ne (Ne.symm e), kD, kD, cD hj, cD hj]
   by_cases e2:c < j ∧ j < k
   ·rw [if_pos e2,if_pos zo]
   ·rw [if_neg e2,if_neg zo]
 ·rw [List.getElem?_eq_none (by rw [List.length_set,sV]; omega),List.getElem?_eq_none (by rw [sV]; omega)]
theorem Ha {M:List (List Qi)} {c:Nat}:M = redM M c (c + 1):=by
 unfold redM
 have:(tab M.length fun i=>if c < i ∧ i < c + 1 then kD (dS M i) (dS M c) c (dS M i).length else dS M i) = tab M.length (dS M):=eB fun i _=>by rw [if_neg zo]
 rw [this]; exact Cf (h:=rfl)
theorem sU {M:List (List Qi)} {c r i:Nat} (hi:i < M.length) (h:¬ (c < i ∧ i < r)):dS (redM M c r) i = dS M i:=by
 simp only [dS,redM,List.getD]
 rw [cD hi,if_neg h]; rfl
theorem Lm {M:List (List Qi)} {c r:Nat} (hr:r < M.length) (h:c < r):(redM M c r).set r (kD (dS M r) (dS M c) c (dS M r).length) = redM M c (r + 1):=by
 apply List.ext_getElem?
 intro j
 by_cases hj:j < M.length
 ·by_cases e : j = r
  ·subst e
   rw [List.getElem?_set_self (by rw [qG]; exact hj),redM,cD hj,if_pos zo]
  ·rw [List.getElem?_set_ne (Ne.symm e), redM, redM, cD hj, cD hj]
   by_cases e2:c < j ∧ j < r
   ·rw [if_pos e2,if_pos zo]
   ·rw [if_neg e2,if_neg zo]
 ·rw [List.getElem?_eq_none (by rw [List.length_set,qG]; omega),List.getElem?_eq_none (by rw [qG]; omega)]
theorem Qe {M:List (List Qi)} {r:Nat} {x y:List Qi}:(M.set r x).set r y = M.set r y:=List.set_set ..
theorem Bx {M:List (List Qi)} {r:Nat} {x:List Qi} (h:r < M.length):dS (M.set r x) r = x:=by simp [dS,List.getD,h]
theorem tX {M:List (List Qi)} {r i:Nat} {x:List Qi} (h:r ≠ i):dS (M.set r x) i = dS M i:=by simp [dS,List.getD,List.getElem?_set_ne h]
theorem Zn {M:List (List Qi)} {r:Nat} (h:r < M.length):M.set r (dS M r) = M:=by
 apply List.ext_getElem?
 intro j
 by_cases e:j = r
 ·subst e; rw [List.getElem?_set_self h]; simp [dS,List.getD,h]
 ·rw [List.getElem?_set_ne (Ne.symm e)]
theorem Ql {X : List (List Qi)} {r c k : Nat} (hr : r < X.length) (hne : r ≠ c) (hk : k < (dS X r).length) (hck : c < k) :
  (X.set r (kD (dS X r) (dS X c) c k)).set r ((dS (X.set r (kD (dS X r) (dS X c) c k)) r).set k (gm (X.set r (kD (dS X r) (dS X c) c k)) r k - gm X r c / gm X c c * gm (X.set r (kD (dS X r) (dS X c) c k)) c k)) = X.set r (kD (dS X r) (dS X c) c (k + 1)):=by
 rw [Qe,Bx hr]
 have e1:gm (X.set r (kD (dS X r) (dS X c) c k)) r k = gv (kD (dS X r) (dS X c) c k) k:=by show gv (dS (X.set r _) r) k = _; rw [Bx hr]
 have e2:gm (X.set r (kD (dS X r) (dS X c) c k)) c k = gv (dS X c) k:=by show gv (dS (X.set r _) c) k = _; rw [tX hne]
 rw [e1,e2]
 exact congrArg _ (Ln hk hck)
theorem Qm {D:List (List Qi)} {r c:Nat} (hr:r < D.length) (hc:c < r):(redM D c r).set r (kD (dS (redM D c r) r) (dS (redM D c r) c) c (dS D r).length) = redM D c (r + 1):=by
 rw [sU hr zo,sU zo zo]
 exact Lm hr hc
theorem a0t {X:List (List Qi)} {r c k:Nat} (hr:r < X.length) (hk:k < (dS X r).length) (hck:c < k):gm (X.set r (kD (dS X r) (dS X c) c k)) r k = gv (dS X r) k:=by
 show gv (dS (X.set r _) r) k = _; rw [Bx hr,Eo hk hck]
theorem a0s {X:List (List Qi)} {r c k:Nat} {y:List Qi} (hne:r ≠ c):gm (X.set r y) c k = gv (dS X c) k:=by show gv (dS (X.set r _) c) k = _; rw [tX hne]
theorem Kt {M A:List (List Qi)} {n c sw p:Nat} (hl:M.length = n) (h:dH M c = (A,sw,-1)) (hp:pv A c n = p) (hpn:p < n):dH M (c + 1) = (redM (if p = c then A else swp [] A p c) c n,sw + (if p = c then 0 else 1),-1):=by
 simp only [dH,h,hl,hp]
 rw [if_neg (by decide),if_neg zo]
theorem Nz {M A:List (List Qi)} {n c sw:Nat} (hl:M.length = n) (h:dH M c = (A,sw,-1)) (hp:pv A c n = n) (hc:c < n):dH M n = (A,sw,(c:Int)):=by
 have e : dH M (c + 1) = (A, sw, (c : Int)) := by
  simp only [dH,h,hl,hp]
  rw [if_neg (by decide)]; simp
 rw [zO (c:=c + 1) (by rw [e]; show (0:Int) ≤ (c:Int); omega) hc,e]
end
section
open Go Go.RowKit
theorem zB (v : Value) (w : World) : (method (Tryz.prog.types.size + Made.depth) 60 v "Clear").run Tryz.prog w = .ok (82, v) w := by kernel_rfl
end
end Go.Proofs.YtdlciihkiefckaaGreat
