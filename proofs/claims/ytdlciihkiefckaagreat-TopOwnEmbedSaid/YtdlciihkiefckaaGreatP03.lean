/- What functions of the program compute, proved by walks over their code, and the plain mathematics of it; a part of the proof in the last text. -/
import Derived.Test.YtdlciihkiefckaaGreatP02
set_option linter.unusedVariables false
set_option linter.unusedSimpArgs false
set_option maxRecDepth 100000
set_option maxHeartbeats 4000000
namespace Go.Proofs.YtdlciihkiefckaaGreat
section
open Go Go.RowKit
theorem rU (ds:List Nat) (hd:lD ds) (hl:ds.length ≤ 1152921504606846976):bI Tryz.prog 237 [Eg ds] (bB (val ds)):=by
 refine bI.intro Tryz.func237 rfl Tryz.ntmps237 rfl (fun cx=>(ts (ro rfl (cQ cV) (eJ (ts (rm rfl (ro rfl (dU U_56 (Ht rfl) aD) (ra rfl (eJ (cK (eU ?_)))))))))))
 refine cB (fun (k : Nat) => k ≤ ds.length ∧ ∀ i, k ≤ i → i < ds.length → ds.getD i 0 = 0) (fun (k : Nat) => k) (fun (k : Nat) => [(0, Eg ds), (3, NT .i64 k)]) (fun (k : Nat) => []) ds.length ⟨Nat.le_refl _, fun i h1 h2 => by omega⟩
  (zS rfl) aY (fun k ⟨hk,hz⟩=>?_)
 refine cK (ts (rm rfl (ro rfl (jU (Ht rfl) (cJ 0)) (rm rfl (fZ rfl rfl (eY rfl rfl (Ht rfl) (fun h=>cX (Ht rfl))) (fZ rfl rfl (eY rfl rfl (Ht rfl) (fun h=>cX (Ht rfl))) (fZ rfl rfl (eY rfl rfl (Ht rfl) (fun h=>dK (fW rfl h) (cJ 1) (by first | omega | (simp at h; omega)) (by show _ < 9223372036854775808; first | omega | (simp at h; omega)))) (fZ rfl rfl (eY rfl rfl (Ht rfl) (fun h=>dZ U_56 Z_218 (fW rfl h) (fW rfl h) rfl (eX (cM (by first | omega | (simp at h; omega)))))) ?_))))))))
 refine fZ rfl rfl (eY rfl rfl (Ht rfl) (fun h=>dJ A_218 Z_218 (fW rfl h))) (fZ rfl rfl (eY rfl rfl (Ht rfl) (fun h=>eH (fW rfl h) (cJ 0))) (ro rfl (iU (Ht rfl) (fun h=>(fW rfl h))) (eJ (dQ (Ht rfl) (fun hb=>?_) (fun hb=>?_)))))
 ·simp at hb
  refine cU (eU (cY (rm rfl (ro rfl (dK (Ht rfl) (cJ 1) zo z6) (ra rfl (eJ (bD (gQ (k - 1) ⟨by omega,fun i h1 h2=>?_⟩ zo (zS rfl) aY))))))))
  by_cases e2:i = k - 1
  ·subst e2; simpa using hb.2
  ·exact hz i zo h2
 ·have hn : k = 0 ∨ ds.getD (k - 1) 0 ≠ 0 := by
   simp only [Bool.and_eq_false_iff,decide_eq_false_iff_not] at hb
   rcases hb with h1 | h1
   ·left; omega
   ·right; exact h1
  have hfin:=a1O hd hk hz hn
  refine gG rfl (ts (rm rfl (rm rfl (rm rfl (ro rfl (yS U_56 Z_218 (Ht rfl) (Ht rfl) (fun m e=>by cases e; exact (Ht rfl)) zo (by simp; omega) rfl) ?_)))))
  refine ra rfl (eJ (fK rfl (fJ (fQ rfl) ?_)))
  exact (Ym (by rw [hfin]; simp))
theorem Gs {m:Nat} (hm:m < 18446744073709551616):bI Tryz.prog 238 [NT .u64 m] (bB m):=by
 refine bI.intro Tryz.func238 rfl Tryz.ntmps238 rfl (fun cx=>(ts (ro rfl (cQ cV) (eJ (ts (rm rfl (ro rfl (lJ rfl U_263 U_218 (Ht rfl)) (rm rfl (ro rfl (jV (Ht rfl) (cJ 32) (by decide)) (ro rfl (lJ rfl U_263 U_218 (Ht rfl)) (ro rfl (cI (xs:=[.tmp 4,.tmp 7]) U_56 Z_218 Tryz.zeroValue218 (cW (Ht rfl) (cW (Ht rfl) cG)) rfl rfl rfl) (ro rfl (cZ K_237 (rU [m % 4294967296,m / 2 ^ 32 % 4294967296] (a6z _ _) (by simp)) ⟨(Ht rfl),trivial⟩) ?_))))))))))))
 refine ra rfl (eJ (fK rfl (fJ (fQ rfl) ?_)))
 exact (iJ (Ui hm))
theorem a3y {m:Nat}:bI Tryz.prog 232 [bB m] (aI (decide (m = 1))):=by
 refine bI.intro Tryz.func232 rfl Tryz.ntmps232 rfl (fun cx=>(ts (ro rfl (cQ cV) (eJ (ts (rm rfl (ro rfl (dU U_56 (Ht rfl) aD) (ro rfl (eH (Ht rfl) (cJ 1)) (rm rfl (fZ rfl rfl (eY rfl rfl (Ht rfl) (fun h=>cX (Ht rfl))) (fZ rfl rfl (eY rfl rfl (Ht rfl) (fun h=>dZ U_56 Z_218 (fW rfl h) (cJ 0) rfl (eX (cM (by first | omega | (simp at h; omega)))))) (fZ rfl rfl (eY rfl rfl (Ht rfl) (fun h=>dJ A_218 Z_218 (fW rfl h))) (fZ rfl rfl (eY rfl rfl (Ht rfl) (fun h=>eH (fW rfl h) (cJ 1))) ?_)))))))))))))
 refine ro rfl (iU (Ht rfl) (fun h=>(fW rfl h))) (ra rfl (eJ (fK rfl (fJ (fQ rfl) ?_))))
 exact (eD (a4X m))
theorem a1k {a b c:Nat} (ha:a < 4294967296) (hb:b < 4294967296) (hc:c < 4294967296):bI Tryz.prog 269 [dL a,dL b,dL c] (fE [dL ((a + b + c) % 4294967296),dL ((a + b + c) / 4294967296)]):=by
 refine bI.intro Tryz.func269 rfl Tryz.ntmps269 rfl (fun cx=>(ts (ro rfl (cQ (cJ 0)) (ro rfl (cQ (cJ 0)) (eJ (ts (rm rfl (ro rfl (gV U_218 U_263 (Ht rfl) z7) (rm rfl (ro rfl (gV U_218 U_263 (Ht rfl) z7) (ro rfl (dW (Ht rfl) (Ht rfl) z7) (rm rfl (ro rfl (gV U_218 U_263 (Ht rfl) z7) ?_)))))))))))))
 refine ro rfl (dW (Ht rfl) (Ht rfl) z7) (ra rfl (eJ (ts (rm rfl (ro rfl (lJ rfl U_263 U_218 (Ht rfl)) (ra rfl (eJ (ts (rm rfl (ro rfl (jV (Ht rfl) (cJ 32) (by decide)) (ro rfl (lJ rfl U_263 U_218 (Ht rfl)) (ra rfl (eJ (bM rfl (fQ rfl) (fJ (fQ rfl) ?_)))))))))))))))
 exact (nQ (by simp only [oG]; omega))
theorem a1w {a b c:Nat} (ha:a < 4294967296) (hb:b < 4294967296) (hc:c ≤ 1):bI Tryz.prog 270 [dL a,dL b,dL c] (fE [dL ((a + 8589934592 - b - c) % 4294967296),dL (if a < b + c then 1 else 0)]):=by
 refine bI.intro Tryz.func270 rfl Tryz.ntmps270 rfl (fun cx=>(ts (ro rfl (cQ (cJ 0)) (ro rfl (cQ (cJ 0)) (eJ (ts (rm rfl (rm rfl (ro rfl (uL rfl (Ht rfl) (Ht rfl) (by show _ ≤ 4294967296; first | omega | (simp only [oG]; omega))) (rm rfl (ro rfl (uL rfl (Ht rfl) (Ht rfl) (by show _ ≤ 4294967296; first | omega | (simp only [oG]; omega))) (ra rfl (eJ (ts (rm rfl (ro rfl (Rv rfl (Ht rfl) (by show _ < 4294967296; first | omega | (simp only [oG]; omega))) (rm rfl (ro rfl (xE rfl (Ht rfl) (Ht rfl) (by show _ < 4294967296; simp only [oG]; omega) (by show _ < 4294967296; omega)) ?_))))))))))))))))))
 refine rm rfl (rm rfl (ro rfl (a2F rfl (Ht rfl) (Ht rfl) (by show _ < 4294967296; omega) (by show _ < 4294967296; omega)) (ro rfl (Rv rfl (Ht rfl) (Nat.xor_lt_two_pow (n:=32) ha hb)) (rm rfl (ro rfl (xE rfl (Ht rfl) (Ht rfl) (by show _ < 4294967296; simp only [oG]; omega) (by show _ < 4294967296; simp only [oG]; omega)) (ro rfl (yR rfl (Ht rfl) (Ht rfl) (Nat.and_lt_two_pow (n:=32) _ hb) (Nat.and_lt_two_pow (n:=32) _ (by simp only [oG]; omega))) (ro rfl (jV (Ht rfl) (cJ 31) (by decide)) (ra rfl (eJ (bM rfl (fJ (fQ rfl) ?_) (fJ (fQ rfl) ?_)))))))))))
 ·exact (nQ (by simp only [oG]; omega))
 ·exact (nQ (Iy ha hb hc (by simp only [oG]; omega)))
theorem Xb {m n:Nat} (hm:(dg m).length ≤ 1152921504606846976) (hn:(dg n).length ≤ 1152921504606846976):bI Tryz.prog 199 [bB m,bB n] (aN .i64 (vN m n)):=by
 refine bI.intro Tryz.func199 rfl Tryz.ntmps199 rfl (fun cx=>(ts (ro rfl (cQ (cJ 0)) (eJ (cK (ts (rm rfl (ro rfl (dU U_56 (Ht rfl) aD) (rm rfl (ro rfl (dU U_56 (Ht rfl) aD) (ro rfl (kM (Ht rfl) (Ht rfl)) (eJ (dQ (Ht rfl) (fun hb=>?_) (fun hb=>?_))))))))))))))
 ·simp at hb
  refine cK (ts (rm rfl (ro rfl (dU U_56 (Ht rfl) aD) (rm rfl (ro rfl (dU U_56 (Ht rfl) aD) (ro rfl (gJ (Ht rfl) (Ht rfl)) (eJ (dQ (Ht rfl) (fun hb2=>?_) (fun hb2=>?_)))))))))
  ·simp at hb2
   have hlt:=Xv hb2
   refine ts (ro rfl (cQ cV) (eJ (fK rfl (fJ (fQ rfl) ?_))))
   exact (bE (by simp [vN,hlt]))
  ·simp at hb2
   have hlt:=Xv (a:=n) (b:=m) zo
   refine cU (ts (ro rfl (cQ (cJ 1)) (eJ (fK rfl (fJ (fQ rfl) ?_)))))
   exact (bE (by simp [vN,hlt,Nat.lt_asymm hlt]))
 ·simp at hb
  refine cU (cK (ts (rm rfl (ro rfl (dU U_56 (Ht rfl) aD) (ro rfl (jJ (Ht rfl) cV (Ew zo)) (ra rfl (eJ (eU ?_))))))))
  refine cB (fun (k : Nat) => k ≤ (dg m).length ∧ ∀ i, k ≤ i → i < (dg m).length → (dg m).getD i 0 = (dg n).getD i 0) (fun (k : Nat) => k) (fun (k : Nat) => [(0, bB m), (1, bB n), (5, aN .i64 ((k : Int) - 1))]) (fun (k : Nat) => []) (dg m).length ⟨Nat.le_refl _, fun i h1 h2 => by omega⟩
   (zS rfl) aY (fun k ⟨hk,he⟩=>?_)
  refine cK (ts (rm rfl (ro rfl (oQ (Ht rfl) cV) (eJ (dQ (Ht rfl) (fun hk1=>?_) (fun hk1=>?_))))))
  ·simp at hk1
   refine cU (cK (eU (cK (cK (fV (m:=8) (dp 0 rfl (cX (Ht rfl)) (dp 5 rfl (cX (Ht rfl)) (dP 23 0 24 1 rfl (dZ U_56 Z_218 (Ht rfl) (Ht rfl) (show ((k:Int) - 1) = ((k - 1:Nat):Int) by omega) (eX (cM zo))) (dq 25 2 rfl (dJ A_218 Z_218 (Ht rfl)) (dp 1 rfl (cX (Ht rfl)) (dp 5 rfl (cX (Ht rfl)) (dP 27 4 28 5 rfl (dZ U_56 Z_218 (Ht rfl) (Ht rfl) (show ((k:Int) - 1) = ((k - 1:Nat):Int) by omega) (eX (cM zo))) (dq 29 6 rfl (dJ A_218 Z_218 (Ht rfl)) ?_)))))))))))))
   refine fG aT rfl (by kernel_rfl) (zF (zF (aV (ro rfl (gJ (Ht rfl) (Ht rfl)) (eJ (dQ (Ht rfl) (fun h1=>?_) (fun h1=>?_)))))))
   ·simp only [decide_eq_true_eq] at h1
    have hlt:=Qe (dI m) (dI n) hb (k:=k - 1) zo (fun i h2 h3=>he i zo h3) h1
    rw [fM,fM] at hlt
    refine ts (ro rfl (cQ cV) (eJ (fK rfl (fJ (fQ rfl) ?_))))
    exact (bE (by simp [vN,hlt]))
   ·simp only [decide_eq_false_iff_not] at h1
    refine cU (cK (fV (m:=8) (dp 0 rfl (cX (Ht rfl)) (dp 5 rfl (cX (Ht rfl)) (dP 32 0 33 1 rfl (dZ U_56 Z_218 (Ht rfl) (Ht rfl) (show ((k:Int) - 1) = ((k - 1:Nat):Int) by omega) (eX (cM zo))) (dq 34 2 rfl (dJ A_218 Z_218 (Ht rfl)) (dp 1 rfl (cX (Ht rfl)) (dp 5 rfl (cX (Ht rfl)) (dP 36 4 37 5 rfl (dZ U_56 Z_218 (Ht rfl) (Ht rfl) (show ((k:Int) - 1) = ((k - 1:Nat):Int) by omega) (eX (cM zo))) (dq 38 6 rfl (dJ A_218 Z_218 (Ht rfl)) ?_))))))))))
    refine fG aT rfl (by kernel_rfl) (zF (zF (aV (ro rfl (jU (Ht rfl) (Ht rfl)) (eJ (dQ (Ht rfl) (fun h2=>?_) (fun h2=>?_)))))))
    ·simp only [decide_eq_true_eq] at h2
     have hlt:=Qe (dI n) (dI m) hb.symm (k:=k - 1) zo (fun i h2 h3=>(he i zo zo).symm) h2
     rw [fM,fM] at hlt
     refine ts (ro rfl (cQ (cJ 1)) (eJ (fK rfl (fJ (fQ rfl) ?_))))
     exact (bE (by simp [vN,hlt,Nat.lt_asymm hlt]))
    ·simp only [decide_eq_false_iff_not] at h2
     refine cU (bD (cY (rm rfl (ro rfl (jJ (Ht rfl) cV (Ew zo)) (ra rfl (eJ (gQ (k - 1) ⟨by omega,fun i h3 h4=>(by by_cases e:i = k - 1; (· subst e; omega); exact he i zo h4)⟩ zo (aQ rfl (aQ rfl (aZ rfl (bE zo) aX))) aY)))))))
  ·simp at hk1
   have hk0:k = 0:=by omega
   have heq : m = n := by
    have : dg m = dg n := by
     apply List.ext_getElem?
     intro i
     by_cases hi:i < (dg m).length
     ·have h5 := he i zo hi
      have h6:i < (dg n).length:=by omega
      simp [List.getD,hi,h6] at h5
      simp [hi,h6,h5]
     ·rw [List.getElem?_eq_none zo,List.getElem?_eq_none zo]
    rw [← fM m,this,fM]
   refine gG rfl (ts (ro rfl (cQ (cJ 0)) (eJ (fK rfl (fJ (fQ rfl) ?_)))))
   exact (bE (by simp [vN,heq]))
end
section
open Go Go.RowKit
theorem oE:Tryz.prog.info? 218 = some Tryz.t218:=by kernel_rfl
end
section
open Go Go.RowKit
theorem a5M {m n:Nat} (hm:(dg m).length ≤ 17592186044416) (hn:(dg n).length ≤ 17592186044416):bI Tryz.prog 235 [bB m,bB n] (bB (m + n)):=by
 refine bI.intro Tryz.func235 rfl Tryz.ntmps235 rfl (fun cx=>(ts (ro rfl (cQ cV) (eJ (cK (wG (fun (p:Nat) (q:Nat)=>p + q = m + n ∧ (dg q).length ≤ (dg p).length ∧ (dg p).length ≤ 17592186044416) (fun (p:Nat) (q:Nat)=>[(0,bB p),(1,bB q)]) (fun (p:Nat) (q:Nat)=>[]) ?_ (fun p q ⟨hpq,hle,hlp⟩=>?_)))))))
 ·refine ts (rm rfl (ro rfl (dU U_56 (Ht rfl) aD) (rm rfl (ro rfl (dU U_56 (Ht rfl) aD) (ro rfl (gJ (Ht rfl) (Ht rfl)) (eJ (dQ (Ht rfl) (fun hb => ?_) (fun hb => ?_))))))))
  ·simp at hb
   refine cY (rm rfl (rm rfl (ra rfl (ra rfl (eJ (cD (n,m) ⟨Nat.add_comm _ _,Nat.le_of_lt hb,hn⟩ (zS rfl) aY))))))
  ·simp at hb
   refine cU (cD (m,n) ⟨rfl,hb,hm⟩ (zS rfl) aY)
 ·refine ts (rm rfl (ro rfl (dU U_56 (Ht rfl) aD) (ro rfl (dW (Ht rfl) (cJ 1) z6) (rn rfl (iF (T := dL 0) (i := Tryz.t218) V_56 oE rfl rfl (Ht rfl) rfl (fun _ => rfl) trivial (by show 4 * _ ≤ _; omega) zo) fun B19 => (ra rfl (eJ (ts (ro rfl (cQ (cJ 0)) (eJ (cK (ts (rm rfl (ro rfl (dU U_56 (Ht rfl) aD) (ro rfl (cX (cJ 0)) (eJ (eU ?_))))))))))))))))
  refine nY (fun (k : Nat) (out : List Nat) (c : Nat) => Fz (dg p) (dg q) out k c) (fun (k : Nat) (out : List Nat) (c : Nat) => (dg p).length - k) (fun (k : Nat) (out : List Nat) (c : Nat) => [(0, bB p), (1, bB q), (5, Is (.slice (some ⟨B19, 0, none⟩) ((dg p).length + 1) ((dg p).length + 1))), (6, dL c), (21, NT .i64 (dg p).length), (22, NT .i64 k)]) (fun (k : Nat) (out : List Nat) (c : Nat) => [box B19 218 (out.map dL)]) 0 (List.replicate ((dg p).length + 1) 0) 0 (Fz.start _ _)
   (zS rfl) (aU (aB (sJ _)) aY) (fun k out c hS=>?_)
  refine ts (ro rfl (gJ (Ht rfl) (Ht rfl)) (eJ (cK (dQ (Ht rfl) (fun hb=>?_) (fun hb=>?_)))))
  ·simp at hb
   have hlen:=hS.len; have hcl:=hS.cle; have hxk:=cH (dI p) k; have hyk:=cH (dI q) k
   simp only [BB] at hxk hyk
   refine cU (cK (eU (ts (rm rfl (ra rfl (eJ (ts (ro rfl (cQ (cJ 0)) (eJ (cK (mI (fun (uu:Unit)=>True) (fun (uu:Unit)=>[(0,bB p),(1,bB q),(5,Is (.slice (some ⟨B19,0,none⟩) ((dg p).length + 1) ((dg p).length + 1))),(6,dL c),(7,NT .i64 k),(8,dL ((dg q).getD k 0)),(21,NT .i64 (dg p).length),(22,NT .i64 k)]) (fun (uu:Unit)=>[box B19 218 (out.map dL)]) ?_ (fun uu _=>?_))))))))))))
   ·refine ts (rm rfl (rm rfl (ro rfl (dU U_56 (Ht rfl) aD) (ro rfl (gJ (Ht rfl) (Ht rfl)) (eJ (dQ (Ht rfl) (fun hk2 => ?_) (fun hk2 => ?_)))))))
    ·simp at hk2
     refine cY (rm rfl (rm rfl (ro rfl (dZ U_56 Z_218 (Ht rfl) (Ht rfl) rfl (eX (cM zo))) (ro rfl (dJ A_218 Z_218 (Ht rfl)) (ra rfl (eJ (cD () trivial (zS rfl) (eO.refl _))))))))
    ·simp at hk2
     refine cU (cD () trivial (aQ rfl (aQ rfl (aQ rfl (aQ rfl (aQ rfl (aZ rfl (nQ (by simp [List.getD,List.getElem?_eq_none hk2])) (zS rfl))))))) (eO.refl _))
   ·refine cY (rm rfl (rm rfl (rm rfl (rm rfl (ro rfl (dZ U_56 Z_218 (Ht rfl) (Ht rfl) rfl (eX (cM zo))) (ro rfl (dJ A_218 Z_218 (Ht rfl)) (rm rfl (rm rfl (ro rfl (cZ Tryz.call269 (a1k hxk hyk zo) ⟨(Ht rfl), (Ht rfl), (Ht rfl), trivial⟩) (rm rfl (ro rfl (dY (Ht rfl) rfl) (ro rfl (dY (Ht rfl) rfl) (ro rfl (gX U_56 Z_218 (Ht rfl) (Ht rfl) rfl zo (by rw [Nat.mul_one, Nat.zero_add])) ?_)))))))))))))
    refine oZ Z_218 (Ht rfl) (Ht rfl) (i:=0) rfl (by first | omega | (simp; omega)) rfl (ra rfl (eJ (bD (cY (ro rfl (dW (Ht rfl) (cJ 1) z6) (rm rfl (eJ (gQ (k + 1,_,_) (hS.next (dI p) (dI q) hb) (by dsimp only; omega) (zS rfl) (aU (aB (lC _ _ _)) aY)))))))))
  ·simp at hb
   have hkl:k = (dg p).length:=Nat.le_antisymm hS.kle hb
   subst hkl
   have hlen:=hS.len; have hcl:=hS.cle
   refine gG rfl (ts (rm rfl (rm rfl (ro rfl (dU U_56 (Ht rfl) aD) (rm rfl (ro rfl (gX U_56 Z_218 (Ht rfl) (Ht rfl) rfl zo (by rw [Nat.mul_one,Nat.zero_add])) ?_))))))
   refine oZ Z_218 (Ht rfl) (Ht rfl) (i:=0) rfl (by first | omega | (simp; omega)) rfl (eJ (cK ?_))
   have hfin:=hS.fin hle
   refine gW (i:=0) (tt:=5) rfl rfl (tM (lC _ _ _) (by simp [hlen]) (Nat.le_refl _)) ?_
   refine cY (rm rfl (ro rfl (cZ K_237 (rU _ (lA hS.dig (by simp only [BB]; omega)) (by simp [hlen]; omega)) ⟨(Ht rfl),trivial⟩) ?_))
   refine ra rfl (eJ (fK rfl (fJ (fQ rfl) ?_)))
   exact (iJ (by rw [hfin,fM,fM]; exact hpq))
theorem a3A {m n:Nat} (hm:(dg m).length ≤ 17592186044416) (hnm:n ≤ m):bI Tryz.prog 236 [bB m,bB n] (bB (m - n)):=by
 have hle:=lR hnm
 refine bI.intro Tryz.func236 rfl Tryz.ntmps236 rfl (fun cx=>(ts (ro rfl (cQ cV) (eJ (ts (rm rfl (ro rfl (dU U_56 (Ht rfl) aD) (rn rfl (iF (T:=dL 0) (i:=Tryz.t218) V_56 oE rfl rfl (Ht rfl) rfl (fun _=>rfl) trivial (by show 4 * _ ≤ _; omega) zo) fun B11=>(ra rfl (eJ (ts (ro rfl (cQ (cJ 0)) (eJ (cK (ts (rm rfl (ro rfl (dU U_56 (Ht rfl) aD) (ro rfl (cX (cJ 0)) (eJ (eU ?_))))))))))))))))))))
 refine nY (fun (k : Nat) (out : List Nat) (c : Nat) => Gh (dg m) (dg n) out k c) (fun (k : Nat) (out : List Nat) (c : Nat) => (dg m).length - k) (fun (k : Nat) (out : List Nat) (c : Nat) => [(0, bB m), (1, bB n), (5, Is (.slice (some ⟨B11, 0, none⟩) (dg m).length (dg m).length)), (6, dL c), (13, NT .i64 (dg m).length), (14, NT .i64 k)]) (fun (k : Nat) (out : List Nat) (c : Nat) => [box B11 218 (out.map dL)]) 0 (List.replicate (dg m).length 0) 0 (Gh.start _ _)
  (zS rfl) (aU (aB (sJ _)) aY) (fun k out c hS=>?_)
 refine ts (ro rfl (gJ (Ht rfl) (Ht rfl)) (eJ (cK (dQ (Ht rfl) (fun hb=>?_) (fun hb=>?_)))))
 ·simp at hb
  have hlen:=hS.len; have hcl:=hS.cle; have hxk:=cH (dI m) k; have hyk:=cH (dI n) k
  simp only [BB] at hxk hyk
  refine cU (cK (eU (ts (rm rfl (ra rfl (eJ (ts (ro rfl (cQ (cJ 0)) (eJ (cK (mI (fun (uu:Unit)=>True) (fun (uu:Unit)=>[(0,bB m),(1,bB n),(5,Is (.slice (some ⟨B11,0,none⟩) (dg m).length (dg m).length)),(6,dL c),(7,NT .i64 k),(8,dL ((dg n).getD k 0)),(13,NT .i64 (dg m).length),(14,NT .i64 k)]) (fun (uu:Unit)=>[box B11 218 (out.map dL)]) ?_ (fun uu _=>?_))))))))))))
  ·refine ts (rm rfl (rm rfl (ro rfl (dU U_56 (Ht rfl) aD) (ro rfl (gJ (Ht rfl) (Ht rfl)) (eJ (dQ (Ht rfl) (fun hk2 => ?_) (fun hk2 => ?_)))))))
   ·simp at hk2
    refine cY (rm rfl (rm rfl (ro rfl (dZ U_56 Z_218 (Ht rfl) (Ht rfl) rfl (eX (cM zo))) (ro rfl (dJ A_218 Z_218 (Ht rfl)) (ra rfl (eJ (cD () trivial (zS rfl) (eO.refl _))))))))
   ·simp at hk2
    refine cU (cD () trivial (aQ rfl (aQ rfl (aQ rfl (aQ rfl (aQ rfl (aZ rfl (nQ (by simp [List.getD,List.getElem?_eq_none hk2])) (zS rfl))))))) (eO.refl _))
  ·refine cY (rm rfl (rm rfl (rm rfl (rm rfl (ro rfl (dZ U_56 Z_218 (Ht rfl) (Ht rfl) rfl (eX (cM zo))) (ro rfl (dJ A_218 Z_218 (Ht rfl)) (rm rfl (rm rfl (ro rfl (cZ Tryz.call270 (a1w hxk hyk zo) ⟨(Ht rfl), (Ht rfl), (Ht rfl), trivial⟩) (rm rfl (ro rfl (dY (Ht rfl) rfl) (ro rfl (dY (Ht rfl) rfl) (ro rfl (gX U_56 Z_218 (Ht rfl) (Ht rfl) rfl zo (by rw [Nat.mul_one, Nat.zero_add])) ?_)))))))))))))
   refine oZ Z_218 (Ht rfl) (Ht rfl) (i:=0) rfl (by first | omega | (simp; omega)) rfl (ra rfl (eJ (bD (cY (ro rfl (dW (Ht rfl) (cJ 1) z6) (rm rfl (eJ (gQ (k + 1,_,_) (hS.next (dI m) (dI n) hb) (by dsimp only; omega) (zS rfl) (aU (aB (lC _ _ _)) aY)))))))))
 ·simp at hb
  have hkl:k = (dg m).length:=Nat.le_antisymm hS.kle hb
  subst hkl
  have hlen:=hS.len
  have hfin:=hS.fin (dI m) hle (by rw [fM,fM]; exact hnm)
  rw [fM,fM] at hfin
  refine gG rfl (gW (i:=0) (tt:=5) rfl rfl (tM rfl hlen.symm (Nat.le_refl _)) (ts (rm rfl (ro rfl (cZ K_237 (rU _ hS.dig zo) ⟨(Ht rfl),trivial⟩) (ra rfl (eJ (fK rfl (fJ (fQ rfl) ?_))))))))
  exact (iJ hfin)
theorem Fa {m n:Nat} (hm:(dg m).length ≤ 17592186044416) (hn:(dg n).length ≤ 17592186044416):bI Tryz.prog 154 [bB m,bB n] (bB (m * n)):=by
 refine bI.intro Tryz.func154 rfl Tryz.ntmps154 rfl (fun cx=>(ts (ro rfl (cQ cV) (eJ (cK (ts (rm rfl (ro rfl (dU U_56 (Ht rfl) aD) (ro rfl (eH (Ht rfl) (cJ 0)) (rm rfl (fZ rfl rfl (eY rfl rfl (Ht rfl) (fun h=>cX (Ht rfl))) (fZ rfl rfl (eY rfl rfl (Ht rfl) (fun h=>dU U_56 (fW rfl h) aD)) (fZ rfl rfl (eY rfl rfl (Ht rfl) (fun h=>eH (fW rfl h) (cJ 0))) (ro rfl (lZ (Ht rfl) (fun h=>(fW rfl h))) (eJ (dQ (Ht rfl) (fun hb=>?_) (fun hb=>?_)))))))))))))))))
 ·simp [cC] at hb
  have h0 : m * n = 0 := by
   rcases hb with h | h <;> simp_all [yH]
  refine ts (ro rfl (cQ cV) (eJ (fK rfl (fJ (fQ rfl) ?_))))
  exact (fun v V h=>by rw [h0]; exact oL v V h)
 ·clear hb
  refine cU (ts (rm rfl (ro rfl (dU U_56 (Ht rfl) aD) (rm rfl (ro rfl (dU U_56 (Ht rfl) aD) (ro rfl (dW (Ht rfl) (Ht rfl) z6) (rn rfl (iF (T:=dL 0) (i:=Tryz.t218) V_56 oE rfl rfl (Ht rfl) rfl (fun _=>rfl) trivial (by show 4 * _ ≤ _; omega) zo) fun B24=>(ra rfl (eJ (cK (ts (rm rfl (ro rfl (dU U_56 (Ht rfl) aD) (ro rfl (cX (cJ 0)) (eJ (eU ?_))))))))))))))))
  refine gN (fun (i : Nat) (out : List Nat) => Gc (dg m) (dg n) out i) (fun (i : Nat) (out : List Nat) => (dg m).length - i) (fun (i : Nat) (out : List Nat) => [(0, bB m), (1, bB n), (5, Is (.slice (some ⟨B24, 0, none⟩) ((dg m).length + (dg n).length) ((dg m).length + (dg n).length))), (25, bB m), (26, NT .i64 (dg m).length), (27, NT .i64 i)]) (fun (i : Nat) (out : List Nat) => [box B24 218 (out.map dL)]) 0 (List.replicate ((dg m).length + (dg n).length) 0) (Gc.start _ _)
   (zS rfl) (aU (aB (sJ _)) aY) (fun i out hS=>?_)
  refine ts (ro rfl (gJ (Ht rfl) (Ht rfl)) (eJ (cK (dQ (Ht rfl) (fun hb=>?_) (fun hb=>?_)))))
  ·simp at hb
   have hxi:=cH (dI m) i
   simp only [BB] at hxi
   refine cU (cK (eU (ts (rm rfl (ro rfl (dZ U_56 Z_218 (Ht rfl) (Ht rfl) rfl (eX (cM zo))) (ro rfl (dJ A_218 Z_218 (Ht rfl)) (ra rfl (ra rfl (eJ (ts (ro rfl (cQ (cJ 0)) (eJ (cK (ts (rm rfl (ro rfl (dU U_56 (Ht rfl) aD) (ro rfl (cX (cJ 0)) (eJ (eU ?_)))))))))))))))))))
   refine nY (fun (k : Nat) (out2 : List Nat) (c : Nat) => Mp (dg m) (dg n) out2 i k c) (fun (k : Nat) (out2 : List Nat) (c : Nat) => (dg n).length - k) (fun (k : Nat) (out2 : List Nat) (c : Nat) => [(0, bB m), (1, bB n), (5, Is (.slice (some ⟨B24, 0, none⟩) ((dg m).length + (dg n).length) ((dg m).length + (dg n).length))), (6, NT .i64 i), (7, dL ((dg m).getD i 0)), (8, NT .u64 c), (25, bB m), (26, NT .i64 (dg m).length), (27, NT .i64 i), (32, bB n), (33, NT .i64 (dg n).length), (34, NT .i64 k)]) (fun (k : Nat) (out2 : List Nat) (c : Nat) => [box B24 218 (out2.map dL)]) 0 out 0 (hS.row hb)
    (zS rfl) (eO.refl _) (fun k out2 c hR=>?_)
   refine ts (ro rfl (gJ (Ht rfl) (Ht rfl)) (eJ (cK (dQ (Ht rfl) (fun hk=>?_) (fun hk=>?_)))))
   ·simp at hk
    have hlen:=hR.len; have hcl:=hR.clt; have hyk:=cH (dI n) k; have hok:=cH hR.dig (i + k)
    have hbnd:=yP (cH (dI m) i) (cH (dI n) k) (cH hR.dig (i + k)) hR.clt
    simp only [BB] at hcl hyk hok hbnd
    refine cU (cK (eU (ts (rm rfl (ro rfl (dZ U_56 Z_218 (Ht rfl) (Ht rfl) rfl (eX (cM zo))) (ro rfl (dJ A_218 Z_218 (Ht rfl)) (ra rfl (ra rfl (eJ (ts (rm rfl (rm rfl (ro rfl (gV U_218 U_263 (Ht rfl) z7) (rm rfl (ro rfl (gV U_218 U_263 (Ht rfl) z7) (ro rfl (pK (Ht rfl) (Ht rfl) (by show _ < 18446744073709551616; omega)) ?_))))))))))))))))
    refine rm rfl (rm rfl (rm rfl (ro rfl (dW (Ht rfl) (Ht rfl) z6) (ro rfl (gX U_56 Z_218 (Ht rfl) (Ht rfl) rfl zo (by rw [Nat.mul_one,Nat.zero_add])) ?_))))
    refine ro rfl (fX A_218 Z_218 (Ht rfl) (i:=0) rfl (eX (cM zo))) (ro rfl (gV U_218 U_263 (Ht rfl) z7) (ro rfl (dW (Ht rfl) (Ht rfl) z7) (ro rfl (dW (Ht rfl) (Ht rfl) z7) (ra rfl (eJ (ts (rm rfl (rm rfl (rm rfl (ro rfl (dW (Ht rfl) (Ht rfl) z6) ?_))))))))))
    refine rm rfl (ro rfl (lJ rfl U_263 U_218 (Ht rfl)) (ro rfl (gX U_56 Z_218 (Ht rfl) (Ht rfl) rfl zo (by rw [Nat.mul_one,Nat.zero_add])) ?_))
    refine oZ Z_218 (Ht rfl) (Ht rfl) (i:=0) rfl (by first | omega | (simp; omega)) rfl (eJ (cY (rm rfl (ro rfl (jV (Ht rfl) (cJ 32) (by decide)) (ra rfl (eJ (bD (cY (ro rfl (dW (Ht rfl) (cJ 1) z6) (rm rfl (eJ (gQ (k + 1,_,_) (hR.next (dI m) (dI n) hk rfl) (by dsimp only; omega) (zS rfl) (aU (aB (lC _ _ _)) aY)))))))))))))
   ·simp at hk
    have hkl:k = (dg n).length:=Nat.le_antisymm hR.kle hk
    subst hkl
    have hlen:=hR.len; have hcl:=hR.clt
    simp only [BB] at hcl
    refine gG rfl (cY (rm rfl (rm rfl (rm rfl (ro rfl (dU U_56 (Ht rfl) aD) (ro rfl (dW (Ht rfl) (Ht rfl) z6) (rm rfl (ro rfl (gV U_263 U_218 (Ht rfl) (by show _ < 4294967296; first | omega | (simp only [oG]; omega))) (ro rfl (gX U_56 Z_218 (Ht rfl) (Ht rfl) rfl zo (by rw [Nat.mul_one,Nat.zero_add])) ?_)))))))))
    refine oZ Z_218 (Ht rfl) (Ht rfl) (i:=0) rfl (by first | omega | (simp; omega)) rfl (eJ (bD (cY (ro rfl (dW (Ht rfl) (cJ 1) z6) (rm rfl (eJ (gQ (i + 1,_) (hR.fin) (by dsimp only; omega) (zS rfl) (aU (aB (lC _ _ _)) aY))))))))
  ·simp at hb
   have hkl:i = (dg m).length:=Nat.le_antisymm hS.ile hb
   subst hkl
   have hlen:=hS.len
   have hfin:=hS.fin
   rw [fM,fM] at hfin
   refine gG rfl (gW (i:=0) (tt:=5) rfl rfl (tM rfl hlen.symm (Nat.le_refl _)) (ts (rm rfl (ro rfl (cZ K_237 (rU _ hS.dig zo) ⟨(Ht rfl),trivial⟩) (ra rfl (eJ (fK rfl (fJ (fQ rfl) ?_))))))))
   exact (iJ hfin)
end
section
open Go Go.RowKit
theorem a1r {v:Nat} (hv:v < 4294967296):bI Tryz.prog 284 [dL v] (NT .i64 (bl v)):=by
 refine bI.intro Tryz.func284 rfl Tryz.ntmps284 rfl (fun cx=>(ts (ro rfl (cQ (cJ 0)) (eJ (cK (wG (fun (q:Nat) (x:Nat)=>bl v = q + bl x ∧ x < 65536 ∧ q ≤ 16) (fun (q:Nat) (x:Nat)=>[(0,dL x),(2,NT .i64 q)]) (fun (q:Nat) (x:Nat)=>[]) ?_ (fun q x ⟨hq1,hq2,hq3⟩=>?_)))))))
 ·refine ts (rm rfl (ro rfl (sH (Ht rfl) (cJ 65536)) (eJ (dQ (Ht rfl) (fun hb => ?_) (fun hb => ?_)))))
  ·simp at hb
   refine ts (rm rfl (ro rfl (jV (Ht rfl) (cJ 16) (by decide)) (ra rfl (eJ (cY (ro rfl (cQ (cJ 16)) (eJ (cD (16,v / 2 ^ 16) ⟨a6w hb,by dsimp only; omega,Nat.le_refl _⟩ (zS rfl) aY))))))))
  ·simp at hb
   refine cU (cD (0,v) ⟨(Nat.zero_add _).symm,hb,by dsimp only; omega⟩ (zS rfl) aY)
 ·refine cK (wG (fun (r : Nat) (z : Nat) => bl v = r + bl z ∧ z < 256 ∧ r ≤ 24) (fun (r : Nat) (z : Nat) => [(0, dL z), (2, NT .i64 r)]) (fun (r : Nat) (z : Nat) => []) ?_ (fun r z ⟨hr1, hr2, hr3⟩ => ?_))
  ·refine ts (rm rfl (ro rfl (sH (Ht rfl) (cJ 256)) (eJ (dQ (Ht rfl) (fun hb => ?_) (fun hb => ?_)))))
   ·simp at hb
    refine ts (rm rfl (ro rfl (jV (Ht rfl) (cJ 8) (by decide)) (ra rfl (eJ (cY (rm rfl (ro rfl (dW (Ht rfl) (cJ 8) z6) (ra rfl (eJ (cD (q + 8,x / 2 ^ 8) ⟨by have:=bl8 hb; dsimp only; omega,by dsimp only; omega,by dsimp only; omega⟩ (zS rfl) aY))))))))))
   ·simp at hb
    refine cU (cD (q,x) ⟨hq1,hb,by dsimp only; omega⟩ (zS rfl) aY)
  ·have hbl := sZ (k := 8) hr2
   refine ts (rm rfl (rm rfl (ro rfl (gV U_218 U_5 (Ht rfl) (by show _ < 256; first | omega | (simp only [oG]; omega))) (ro rfl (a2D Tryz.runUnderlying9 cV (Ht rfl) (a6E hr2 (by kernel_rfl))) (ro rfl (gV U_5 U_3 (Ht rfl) z6) (ro rfl (dW (Ht rfl) (Ht rfl) z6) (ra rfl (eJ (fK rfl (fJ (fQ rfl) ?_))))))))))
   exact (nQ zo)
theorem a4e {v:Nat} (hv:v < 4294967296):bI Tryz.prog 265 [dL v] (NT .i64 (32 - bl v)):=by
 refine bI.intro Tryz.func265 rfl Tryz.ntmps265 rfl (fun cx=>(ts (ro rfl (cQ (cJ 0)) (eJ (ts (rm rfl (ro rfl (cZ Tryz.call284 (a1r hv) ⟨(Ht rfl),trivial⟩) (ro rfl (dK (cJ 32) (Ht rfl) (sZ hv) z6) (ra rfl (eJ ?_))))))))))
 exact fK rfl (fQ rfl)
theorem a1l {hi lo y:Nat} (hy:hi < y) (hl:lo < BB) (hyb:y < BB):bI Tryz.prog 283 [dL hi,dL lo,dL y] (fE [dL ((hi * BB + lo) / y),dL ((hi * BB + lo) % y)]):=by
 have hq:=Ve hy hl; have hm:=Nat.mod_lt (hi * BB + lo) (by omega:y > 0); have hz:hi * BB + lo < 18446744073709551616:=by simp only [BB] at *; omega
 have hsh : hi * 2 ^ 32 < 18446744073709551616 := by
  have h1:hi < BB:=by omega
  show hi * BB < _
  simp only [BB] at h1 ⊢; omega
 refine bI.intro Tryz.func283 rfl Tryz.ntmps283 rfl (fun cx=>(ts (ro rfl (cQ (cJ 0)) (ro rfl (cQ (cJ 0)) (eJ (cK (ts (rm rfl (ro rfl (kM (Ht rfl) (cJ 0)) (rm rfl (fZ rfl rfl (eY rfl rfl (Ht rfl) (fun h=>cX (Ht rfl))) (fZ rfl rfl (eY rfl rfl (Ht rfl) (fun h=>cX (Ht rfl))) (fZ rfl rfl (eY rfl rfl (Ht rfl) (fun h=>uJ (fW rfl h) (fW rfl h))) (ro rfl (iU (Ht rfl) (fun h=>(fW rfl h))) (eJ (kA (Ht rfl) (by simp; omega) ?_))))))))))))))))
 have hl2:lo < 18446744073709551616:=by simp only [BB] at hl; omega
 have hy2:y < 18446744073709551616:=by simp only [BB] at hyb; omega
 refine cU (ts (rm rfl (ro rfl (gV U_218 U_263 (Ht rfl) (by show _ < 18446744073709551616; simp only [BB] at *; omega)) (ro rfl (xF (Ht rfl) (cJ 32) (by decide) hsh) (rm rfl (ro rfl (gV U_218 U_263 (Ht rfl) (by show _ < 18446744073709551616; simp only [BB] at *; omega)) (ro rfl (aM.nat (yR rfl (Ht rfl) (Ht rfl) z7 z7) (Il hl)) (ra rfl (eJ ?_)))))))))
 refine cK (fV (m:=11) (dp 8 rfl (cX (Ht rfl)) (dp 2 rfl (cX (Ht rfl)) (dq 24 1 rfl (gV U_218 U_263 (Ht rfl) (by show _ < 18446744073709551616; simp only [BB] at *; omega)) (dP 23 0 25 2 rfl (uK (Ht rfl) (Ht rfl) zo (by show _ < 18446744073709551616; exact hz)) (dq 26 3 rfl (gV U_263 U_218 (Ht rfl) (by show _ < 4294967296; exact hq)) (dp 8 rfl (cX (Ht rfl)) (dp 2 rfl (cX (Ht rfl)) (dq 29 6 rfl (gV U_218 U_263 (Ht rfl) (by show _ < 18446744073709551616; simp only [BB] at *; omega)) ?_)))))))))
 refine dP 28 5 30 7 rfl (qT (Ht rfl) (Ht rfl) zo) (dq 31 8 rfl (gV U_263 U_218 (Ht rfl) (by show _ < 4294967296; simp only [BB] at *; omega)) (dq 27 4 rfl (cQ (Ht rfl)) (fG aT rfl (by kernel_rfl) (zF (zF (aJ (aJ (aJ (aV (ra rfl (eJ ?_)))))))))))
 exact bM rfl (fQ rfl) (fQ rfl)
theorem a3z {m k:Nat} (hm:(dg m).length ≤ 17592186044416) (hk:k ≤ 562949953421312):bI Tryz.prog 266 [bB m,NT .i64 k] (bB (m * 2 ^ k)):=by
 refine bI.intro Tryz.func266 rfl Tryz.ntmps266 rfl (fun cx=>(ts (ro rfl (cQ cV) (eJ (cK (ts (rm rfl (ro rfl (dU U_56 (Ht rfl) aD) (ro rfl (eH (Ht rfl) (cJ 0)) (rm rfl (fZ rfl rfl (eY rfl rfl (Ht rfl) (fun h=>cX (Ht rfl))) (fZ rfl rfl (eY rfl rfl (Ht rfl) (fun h=>eH (fW rfl h) (cJ 0))) (ro rfl (lZ (Ht rfl) (fun h=>(fW rfl h))) (eJ (dQ (Ht rfl) (fun hb=>?_) (fun hb=>?_))))))))))))))))
 ·simp [cC] at hb
  have h0 : m * 2 ^ k = m := by
   rcases hb with h | h
   ·simp_all [yH]
   ·rw [h,Nat.pow_zero,Nat.mul_one]
  refine ts (rm rfl (ra rfl (eJ (fK rfl (fJ (fQ rfl) ?_)))))
  exact (iJ h0.symm)
 ·clear hb
  have hr:=Nat.mod_lt k (by decide:32 > 0)
  refine cU (ts (rm rfl (ro rfl (uK (Ht rfl) (cJ 32) zo z6) (rm rfl (ro rfl (qT (Ht rfl) (cJ 32) zo) (ro rfl (gV U_3 U_264 (Ht rfl) z7) (ra rfl (ra rfl (eJ (ts (rm rfl (ro rfl (dU U_56 (Ht rfl) aD) (rm rfl (ro rfl (dW (Ht rfl) (Ht rfl) z6) (ro rfl (dW (Ht rfl) (cJ 1) z6) ?_)))))))))))))))
  refine rn rfl (iF (T:=dL 0) (i:=Tryz.t218) V_56 oE rfl rfl (Ht rfl) rfl (fun _=>rfl) trivial (by show 4 * _ ≤ _; omega) zo) fun B29=>ra rfl (eJ (cK (ts (rm rfl (ro rfl (dU U_56 (Ht rfl) aD) (ro rfl (cX (cJ 0)) (eJ (eU ?_))))))))
  refine gN (fun (i : Nat) (out : List Nat) => Gf (dg m) (k / 32) (k % 32) out i) (fun (i : Nat) (out : List Nat) => (dg m).length - i) (fun (i : Nat) (out : List Nat) => [(5, NT .i64 (k / 32)), (6, NT .u64 (k % 32)), (7, Is (.slice (some ⟨B29, 0, none⟩) ((dg m).length + k / 32 + 1) ((dg m).length + k / 32 + 1))), (30, bB m), (31, NT .i64 (dg m).length), (32, NT .i64 i)]) (fun (i : Nat) (out : List Nat) => [box B29 218 (out.map dL)]) 0 (List.replicate ((dg m).length + k / 32 + 1) 0) (Gf.start _ _ _)
   (zS rfl) (aU (aB (sJ _)) aY) (fun i out hS=>?_)
  refine ts (ro rfl (gJ (Ht rfl) (Ht rfl)) (eJ (cK (dQ (Ht rfl) (fun hb=>?_) (fun hb=>?_)))))
  ·simp at hb
   have hlen:=hS.len; have hxi:=cH (dI m) i; have hok:=cH hS.dig (i + k / 32)
   have hv:=Vd hxi hr
   have hd:(dg m).getD i 0 * 2 ^ (k % 32) / 2 ^ 32 < 4294967296:=Nat.div_lt_of_lt_mul hv
   simp only [BB] at hxi hok
   refine cU (cK (eU (ts (rm rfl (ro rfl (dZ U_56 Z_218 (Ht rfl) (Ht rfl) rfl (eX (cM zo))) (ro rfl (dJ A_218 Z_218 (Ht rfl)) (ra rfl (ra rfl (eJ (ts (rm rfl (ro rfl (gV U_218 U_263 (Ht rfl) z7) (rm rfl (ro rfl (xF (Ht rfl) (Ht rfl) (by show _ ≤ _; simp [IntKind.bits]; omega) (by show _ < 18446744073709551616; exact hv)) (ra rfl (eJ (ts (rm rfl (rm rfl (rm rfl (ro rfl (dW (Ht rfl) (Ht rfl) z6) ?_)))))))))))))))))))))
   refine ro rfl (gX U_56 Z_218 (Ht rfl) (Ht rfl) rfl zo (by rw [Nat.mul_one,Nat.zero_add])) ?_
   refine ro rfl (fX A_218 Z_218 (Ht rfl) (i:=0) rfl (eX (cM zo))) (rm rfl (ro rfl (lJ rfl U_263 U_218 (Ht rfl)) (ro rfl (yR rfl (Ht rfl) (Ht rfl) (by show _ < 4294967296; omega) (by show _ % 4294967296 < 4294967296; omega)) (ro rfl (gX U_56 Z_218 (Ht rfl) (Ht rfl) rfl zo (by rw [Nat.mul_one,Nat.zero_add])) ?_))))
   refine oZ Z_218 (Ht rfl) (Ht rfl) (i:=0) rfl (by first | omega | (simp; omega)) rfl (eJ (cY (rm rfl (rm rfl (rm rfl (ro rfl (dW (Ht rfl) (Ht rfl) z6) (ro rfl (dW (Ht rfl) (cJ 1) z6) (rm rfl (ro rfl (jV (Ht rfl) (cJ 32) (by decide)) (ro rfl (gV U_263 U_218 (Ht rfl) (by show _ < 4294967296; exact hd)) (ro rfl (gX U_56 Z_218 (Ht rfl) (Ht rfl) rfl zo (by rw [Nat.mul_one,Nat.zero_add])) ?_)))))))))))
   refine oZ Z_218 (Ht rfl) (Ht rfl) (i:=0) rfl (by first | omega | (simp; omega)) rfl (eJ (bD (cY (ro rfl (dW (Ht rfl) (cJ 1) z6) (rm rfl (eJ (gQ (i + 1,_) (hS.next (dI m) hr hb rfl rfl) (by dsimp only; omega) (zS rfl) (aU (aB (a0D _ _ _ _ _)) aY))))))))
  ·simp at hb
   have hkl:i = (dg m).length:=Nat.le_antisymm hS.kle hb
   subst hkl
   have hlen:=hS.len
   have hfin:=hS.fin
   rw [fM,tW] at hfin
   refine gG rfl (gW (i:=0) (tt:=7) rfl rfl (tM rfl hlen.symm (Nat.le_refl _)) (ts (rm rfl (ro rfl (cZ K_237 (rU _ hS.dig zo) ⟨(Ht rfl),trivial⟩) (ra rfl (eJ (fK rfl (fJ (fQ rfl) ?_))))))))
   exact (iJ hfin)
theorem a5P {m k:Nat} (hm:(dg m).length ≤ 17592186044416) (hk:k ≤ 562949953421312):bI Tryz.prog 268 [bB m,NT .i64 k] (bB (m / 2 ^ k)):=by
 refine bI.intro Tryz.func268 rfl Tryz.ntmps268 rfl (fun cx=>?_)
 have hr:=Nat.mod_lt k (by decide:32 > 0)
 refine ts (ro rfl (cQ cV) (eJ (ts (rm rfl (ro rfl (uK (Ht rfl) (cJ 32) zo z6) (rm rfl (ro rfl (qT (Ht rfl) (cJ 32) zo) (ro rfl (gV U_3 U_264 (Ht rfl) z7) (ra rfl (ra rfl (eJ (cK (ts (rm rfl (rm rfl (ro rfl (dU U_56 (Ht rfl) aD) (ro rfl (sH (Ht rfl) (Ht rfl)) (eJ (dQ (Ht rfl) (fun hb=>?_) (fun hb=>?_))))))))))))))))))))
 ·simp at hb
  have h0:=a0G (dI m) hb (r:=k % 32)
  rw [fM,tW] at h0
  refine ts (ro rfl (cQ cV) (eJ (fK rfl (fJ (fQ rfl) ?_))))
  exact (fun v V h=>iJ h0.symm v V (oL v V h))
 ·simp at hb
  refine cU (ts (rm rfl (ro rfl (dU U_56 (Ht rfl) aD) (rm rfl (ro rfl (dK (Ht rfl) (Ht rfl) zo z6) (rn rfl (iF (T:=dL 0) (i:=Tryz.t218) V_56 oE rfl rfl (Ht rfl) rfl (fun _=>rfl) trivial (by show 4 * _ ≤ _; omega) zo) fun B23=>(ra rfl (eJ (cK (ts (rm rfl (ro rfl (gI U_56 (Ht rfl)) (ro rfl (cX (cJ 0)) (eJ (eU ?_)))))))))))))))
  refine gN (fun (i : Nat) (out : List Nat) => Gg (dg m) (k / 32) (k % 32) out i) (fun (i : Nat) (out : List Nat) => (dg m).length - i) (fun (i : Nat) (out : List Nat) => [(0, bB m), (5, NT .i64 (k / 32)), (6, NT .u64 (k % 32)), (7, Is (.slice (some ⟨B23, 0, none⟩) ((dg m).length - k / 32) ((dg m).length - k / 32))), (25, NT .i64 ((dg m).length - k / 32 : Nat)), (26, NT .i64 i)]) (fun (i : Nat) (out : List Nat) => [box B23 218 (out.map dL)]) 0 (List.replicate ((dg m).length - k / 32) 0) (Gg.start _ _ _)
   (zS rfl) (aU (aB (sJ _)) aY) (fun i out hS=>?_)
  refine ts (ro rfl (gJ (Ht rfl) (Ht rfl)) (eJ (cK (dQ (Ht rfl) (fun hb=>?_) (fun hb=>?_)))))
  ·simp at hb
   have hlen:=hS.len; have hx0:=cH (dI m) (i + k / 32); have hx1:=cH (dI m) (i + k / 32 + 1)
   have hio:i < out.length:=by omega
   simp only [BB] at hx0 hx1
   refine cU (cK (eU (ts (rm rfl (ra rfl (eJ (ts (rm rfl (rm rfl (rm rfl (ro rfl (dW (Ht rfl) (Ht rfl) z6) (ro rfl (dZ U_56 Z_218 (Ht rfl) (Ht rfl) rfl (eX (cM zo))) (ro rfl (dJ A_218 Z_218 (Ht rfl)) (ro rfl (gV U_218 U_263 (Ht rfl) z7) (ra rfl (eJ (cK (mI (fun (v:Nat)=>v = (dg m).getD (i + k / 32) 0 + BB * (dg m).getD (i + k / 32 + 1) 0) (fun (v:Nat)=>[(0,bB m),(5,NT .i64 (k / 32)),(6,NT .u64 (k % 32)),(7,Is (.slice (some ⟨B23,0,none⟩) ((dg m).length - k / 32) ((dg m).length - k / 32))),(8,NT .i64 i),(9,NT .u64 v),(25,NT .i64 ((dg m).length - k / 32:Nat)),(26,NT .i64 i)]) (fun (v:Nat)=>[box B23 218 (out.map dL)]) ?_ (fun v hv=>?_)))))))))))))))))))
   ·refine ts (rm rfl (rm rfl (ro rfl (dW (Ht rfl) (Ht rfl) z6) (ro rfl (dW (Ht rfl) (cJ 1) z6) (rm rfl (ro rfl (dU U_56 (Ht rfl) aD) (ro rfl (gJ (Ht rfl) (Ht rfl)) (eJ (dQ (Ht rfl) (fun hk2 => ?_) (fun hk2 => ?_))))))))))
    ·simp at hk2
     refine cY (rm rfl (rm rfl (rm rfl (rm rfl (ro rfl (dW (Ht rfl) (Ht rfl) z6) (ro rfl (dW (Ht rfl) (cJ 1) z6) (ro rfl (dZ U_56 Z_218 (Ht rfl) (Ht rfl) rfl (eX (cM zo))) (ro rfl (dJ A_218 Z_218 (Ht rfl)) (ro rfl (gV U_218 U_263 (Ht rfl) z7) (ro rfl (xF (Ht rfl) (cJ 32) (by decide) (by show _ < 18446744073709551616; omega)) ?_))))))))))
     refine ro rfl (aM.nat (yR rfl (Ht rfl) (Ht rfl) z7 z7) (a2I hx0)) (ra rfl (eJ (cD ((dg m).getD (i + k / 32) 0 + BB * (dg m).getD (i + k / 32 + 1) 0) rfl (zS rfl) (eO.refl _))))
    ·simp at hk2
     refine cU (cD ((dg m).getD (i + k / 32) 0) (by simp [List.getD,List.getElem?_eq_none hk2]) (zS rfl) (eO.refl _))
   ·refine cY (rm rfl (rm rfl (rm rfl (rm rfl (ro rfl (jV (Ht rfl) (Ht rfl) (by show _ ≤ 64; omega)) (ro rfl (lJ rfl U_263 U_218 (Ht rfl)) (ro rfl (gX U_56 Z_218 (Ht rfl) (Ht rfl) rfl zo (by rw [Nat.mul_one, Nat.zero_add])) ?_)))))))
    refine oZ Z_218 (Ht rfl) (Ht rfl) (i:=0) rfl (by first | omega | (simp; omega)) rfl (eJ (bD (cY (ro rfl (dW (Ht rfl) (cJ 1) z6) (rm rfl (eJ (gQ (i + 1,_) (hS.next (dI m) hr hio (by rw [hv]; rfl)) (by dsimp only; omega) (zS rfl) (aU (aB (lC _ _ _)) aY))))))))
  ·simp at hb
   have hlen:=hS.len
   have hkl:i = out.length:=Nat.le_antisymm hS.kle zo
   subst hkl
   have hfin:=hS.fin (dI m) zo
   rw [fM,tW] at hfin
   refine gG rfl (gW (i:=0) (tt:=7) rfl rfl (tM rfl hlen.symm (Nat.le_refl _)) (ts (rm rfl (ro rfl (cZ K_237 (rU _ hS.dig zo) ⟨(Ht rfl),trivial⟩) (ra rfl (eJ (fK rfl (fJ (fQ rfl) ?_))))))))
   exact (iJ hfin)
theorem Qb {m y:Nat} (hm:(dg m).length ≤ 17592186044416) (hy:0 < y) (hyb:y < BB):bI Tryz.prog 264 [bB m,dL y] (fE [bB (m / y),dL (m % y)]):=by
 refine bI.intro Tryz.func264 rfl Tryz.ntmps264 rfl (fun cx=>(ts (ro rfl (cQ cV) (ro rfl (cQ (cJ 0)) (eJ (ts (rm rfl (ro rfl (dU U_56 (Ht rfl) aD) (rn rfl (iF (T:=dL 0) (i:=Tryz.t218) V_56 oE rfl rfl (Ht rfl) rfl (fun _=>rfl) trivial (by show 4 * _ ≤ _; omega) zo) fun B11=>(ra rfl (eJ (ts (ro rfl (cQ (cJ 0)) (eJ (cK (ts (rm rfl (ro rfl (dU U_56 (Ht rfl) aD) (ro rfl (jJ (Ht rfl) cV (Ew zo)) (ra rfl (eJ (eU ?_))))))))))))))))))))))
 refine nY (fun (k : Nat) (out : List Nat) (r : Nat) => rR (dg m) y out k r) (fun (k : Nat) (out : List Nat) (r : Nat) => k) (fun (k : Nat) (out : List Nat) (r : Nat) => [(0, bB m), (1, dL y), (6, Is (.slice (some ⟨B11, 0, none⟩) (dg m).length (dg m).length)), (7, dL r), (8, aN .i64 ((k : Int) - 1))]) (fun (k : Nat) (out : List Nat) (r : Nat) => [box B11 218 (out.map dL)]) (dg m).length (List.replicate (dg m).length 0) 0 (rR.start _ hy)
  (zS rfl) (aU (aB (sJ _)) aY) (fun k out r hS=>?_)
 refine cK (ts (rm rfl (ro rfl (oQ (Ht rfl) cV) (eJ (dQ (Ht rfl) (fun hb=>?_) (fun hb=>?_))))))
 ·simp at hb
  have hlen:=hS.len; have hkl:=hS.kle
  refine cU (cK (eU (cY (rm rfl (rm rfl (rm rfl (rm rfl (rm rfl (ro rfl (dZ U_56 Z_218 (Ht rfl) (Ht rfl) (show ((k:Int) - 1) = ((k - 1:Nat):Int) by omega) (eX (cM zo))) (ro rfl (dJ A_218 Z_218 (Ht rfl)) (rm rfl (ro rfl (cZ Tryz.call283 (a1l hS.rlt (cH (dI m) (k - 1)) hyb) ⟨(Ht rfl),(Ht rfl),(Ht rfl),trivial⟩) (rm rfl (ro rfl (dY (Ht rfl) rfl) (ro rfl (dY (Ht rfl) rfl) (ro rfl (gX U_56 Z_218 (Ht rfl) (Ht rfl) (show ((k:Int) - 1) = ((k - 1:Nat):Int) by omega) zo (by rw [Nat.mul_one,Nat.zero_add])) ?_))))))))))))))))
  refine oZ Z_218 (Ht rfl) (Ht rfl) (i:=0) rfl (by first | omega | (simp; omega)) rfl (ra rfl (eJ (bD (cY (rm rfl (ro rfl (jJ (Ht rfl) cV (Ew zo)) (ra rfl (eJ (gQ (k - 1,_,_) (hS.next (dI m) zo rfl) (by dsimp only; omega) (aQ rfl (aQ rfl (aQ rfl (aQ rfl (aZ rfl (bE zo) aX))))) (aU (aB (lC _ _ _)) aY))))))))))
 ·simp at hb
  have hk0:k = 0:=by omega
  subst hk0
  have hlen:=hS.len
  have hfin:=hS.fin
  rw [fM] at hfin
  refine gG rfl (gW (i:=0) (tt:=6) rfl rfl (tM rfl hlen.symm (Nat.le_refl _)) (ts (rm rfl (ro rfl (cZ K_237 (rU _ hS.dig zo) ⟨(Ht rfl),trivial⟩) (rm rfl (ra rfl (ra rfl (eJ (bM rfl (fJ (fQ rfl) ?_) (fJ (fQ rfl) ?_))))))))))
  ·exact (iJ hfin.1)
  ·exact (nQ hfin.2)
end
section
open Go Go.RowKit
theorem a4j {us vs : List Nat} {q j B l : Nat} (hul : us.length = l) (hu : lD us) (hv : lD vs) (hq : q < BB) (hl : j + vs.length < us.length) (hL : us.length ≤ 1152921504606846976) :
    gM Tryz.prog 267 [Is (.slice (some ⟨B,0,none⟩) l l),Eg vs,NT .u64 q,NT .i64 j] [box B 218 (us.map dL)] (List Nat × Bool) (fun x=>aI x.2) (fun x=>[box B 218 (x.1.map dL)]) (fun x=>Jj us vs q j x.1 x.2):=by
 refine gM.intro Tryz.func267 rfl Tryz.ntmps267 rfl (fun cx Z=>(ts (ro rfl (cQ cV) (eJ (ts (ro rfl (cQ (cJ 0)) (ro rfl (cQ (cJ 0)) (eJ (cK (ts (rm rfl (ro rfl (dU U_56 (Ht rfl) aD) (ro rfl (cX (cJ 0)) (eJ (eU ?_)))))))))))))))
 refine Gi (fun (i : Nat) (out : List Nat) (c : Nat) (b : Nat) => wH us vs q j out i c b) (fun (i : Nat) (out : List Nat) (c : Nat) (b : Nat) => vs.length - i) (fun (i : Nat) (out : List Nat) (c : Nat) (b : Nat) => [(0, Is (.slice (some ⟨B, 0, none⟩) l l)), (1, Eg vs), (2, NT .u64 q), (3, NT .i64 j), (9, NT .u64 c), (10, NT .u64 b), (16, Eg vs), (17, NT .i64 vs.length), (18, NT .i64 i)]) (fun (i : Nat) (out : List Nat) (c : Nat) (b : Nat) => [Z, box B 218 (out.map dL)]) 0 us 0 0 (wH.start hu vs q j)
  (zS rfl) (eO.refl _) (fun i out c b hS=>?_)
 refine ts (ro rfl (gJ (Ht rfl) (Ht rfl)) (eJ (cK (dQ (Ht rfl) (fun hb=>?_) (fun hb=>?_)))))
 ·simp at hb
  have hlen:=hS.len; have hcl:=hS.clt; have hbl:=hS.ble; have hvi:=cH hv i; have hok:=cH hS.dig (i + j)
  have hp:=a0S hq hvi hS.clt
  simp only [BB] at hp hcl hvi hok
  obtain ⟨p,hp1⟩:∃ p,p = q * vs.getD i 0 + c:=⟨_,rfl⟩
  obtain ⟨x,hx1⟩:∃ x,x = ((out.getD (i + j) 0 + 18446744073709551616 - p % 4294967296) % 18446744073709551616 + 18446744073709551616 - b) % 18446744073709551616:=⟨_,rfl⟩
  refine cU (cK (eU (ts (rm rfl (ro rfl (dZ U_56 Z_218 (Ht rfl) (Ht rfl) rfl (eX (cM zo))) (ro rfl (dJ A_218 Z_218 (Ht rfl)) (ra rfl (ra rfl (eJ (ts (rm rfl (rm rfl (ro rfl (gV U_218 U_263 (Ht rfl) z7) (ro rfl (pK (Ht rfl) (Ht rfl) z7) (rm rfl (ro rfl (aM.nat (dW (Ht rfl) (Ht rfl) z7) hp1.symm) ?_))))))))))))))))
  refine ra rfl (eJ (ts (rm rfl (ro rfl (jV (Ht rfl) (cJ 32) (by decide)) (ra rfl (eJ (ts (rm rfl (rm rfl (rm rfl (ro rfl (dW (Ht rfl) (Ht rfl) z6) (ro rfl (gX U_56 Z_218 (Ht rfl) (Ht rfl) rfl zo (by rw [Nat.mul_one,Nat.zero_add])) ?_))))))))))))
  refine ro rfl (fX A_218 Z_218 (Ht rfl) (i:=1) rfl (eX (cM zo))) (ro rfl (gV U_218 U_263 (Ht rfl) z7) (rm rfl (ro rfl (lJ rfl U_263 U_218 (Ht rfl)) (ro rfl (gV U_218 U_263 (Ht rfl) z7) (ro rfl (uL rfl (Ht rfl) (Ht rfl) (by show _ ≤ 18446744073709551616; first | omega | (simp only [oG]; omega))) ?_)))))
  refine rm rfl (ro rfl (aM.nat (uL rfl (Ht rfl) (Ht rfl) (by show _ ≤ 18446744073709551616; first | omega | (simp only [oG]; omega))) hx1.symm) (ra rfl (eJ (ts (rm rfl (rm rfl (rm rfl (ro rfl (dW (Ht rfl) (Ht rfl) z6) (rm rfl (ro rfl (lJ rfl U_263 U_218 (Ht rfl)) (ro rfl (gX U_56 Z_218 (Ht rfl) (Ht rfl) rfl zo (by rw [Nat.mul_one,Nat.zero_add])) ?_)))))))))))
  refine oZ Z_218 (Ht rfl) (Ht rfl) (i:=1) rfl (by first | omega | (simp; omega)) rfl (eJ (cY (rm rfl (ro rfl (jV (Ht rfl) (cJ 63) (by decide)) (ra rfl (eJ (bD (cY (ro rfl (dW (Ht rfl) (cJ 1) z6) (rm rfl (eJ (gQ (i + 1,_,_,_) (hS.next hu hv hq hb hl hp1 (Pb hok hbl hx1) rfl) (by dsimp only; omega) (zS rfl) (aU (fun _ _ _ h=>h) (aU (aB (lC _ _ _)) aY))))))))))))))
 ·simp at hb
  have hkl:i = vs.length:=Nat.le_antisymm hS.ile hb
  subst hkl
  have hlen:=hS.len; have hcl:=hS.clt; have hbl:=hS.ble; have hok:=cH hS.dig (j + vs.length)
  obtain ⟨x,hx1⟩:∃ x,x = ((out.getD (j + vs.length) 0 + 18446744073709551616 - c) % 18446744073709551616 + 18446744073709551616 - b) % 18446744073709551616:=⟨_,rfl⟩
  have hfin:=hS.fin hl (Pc hok hcl hbl hx1) rfl
  simp only [BB] at hcl hok
  refine gG rfl (ts (rm rfl (rm rfl (rm rfl (ro rfl (dU U_56 (Ht rfl) aD) (ro rfl (dW (Ht rfl) (Ht rfl) z6) (ro rfl (gX U_56 Z_218 (Ht rfl) (Ht rfl) rfl zo (by rw [Nat.mul_one,Nat.zero_add])) ?_)))))))
  refine ro rfl (fX A_218 Z_218 (Ht rfl) (i:=1) rfl (eX (cM zo))) (ro rfl (gV U_218 U_263 (Ht rfl) z7) (rm rfl (ro rfl (uL rfl (Ht rfl) (Ht rfl) (by show _ ≤ 18446744073709551616; first | omega | (simp only [oG]; omega))) (rm rfl (ro rfl (aM.nat (uL rfl (Ht rfl) (Ht rfl) (by show _ ≤ 18446744073709551616; first | omega | (simp only [oG]; omega))) hx1.symm) (ra rfl (eJ (ts (rm rfl (rm rfl (rm rfl (ro rfl (dU U_56 (Ht rfl) aD) ?_))))))))))))
  refine ro rfl (dW (Ht rfl) (Ht rfl) z6) (rm rfl (ro rfl (lJ rfl U_263 U_218 (Ht rfl)) (ro rfl (gX U_56 Z_218 (Ht rfl) (Ht rfl) rfl zo (by rw [Nat.mul_one,Nat.zero_add])) ?_)))
  refine oZ Z_218 (Ht rfl) (Ht rfl) (i:=1) rfl (by first | omega | (simp; omega)) rfl (eJ (ts (rm rfl (ro rfl (jV (Ht rfl) (cJ 63) (by decide)) (ro rfl (kM (Ht rfl) (cJ 0)) (ra rfl (eJ ?_)))))))
  exact jC (_,_) hfin [0,1] ⟨⟨_,rfl,fun _ _ _ h=>h⟩,⟨_,rfl,(aB (lC _ _ _))⟩,trivial⟩ (by decide) (sK rfl (fQ rfl))
theorem Pv {m n:Nat} (hm:(dg m).length ≤ 17592186044415) (hn1:(dg n).length ≤ 17592186044416) (hn:n ≠ 0):bI Tryz.prog 233 [bB m,bB n] (fE [bB (m / n),bB (m % n)]):=by
 refine bI.intro Tryz.func233 rfl Tryz.ntmps233 rfl (fun cx=>(ts (ro rfl (cQ cV) (ro rfl (cQ cV) (eJ (cK (ts (rm rfl (rm rfl (ro rfl (cZ Tryz.call199 (Xb zo zo) ⟨(Ht rfl),(Ht rfl),trivial⟩) (ro rfl (sI (Ht rfl) cV) (eJ (dQ (Ht rfl) (fun hb=>?_) (fun hb=>?_))))))))))))))
 ·simp only [decide_eq_true_eq] at hb
  have hlt : m < n := by
   unfold vN at hb
   split at hb
   ·assumption
   ·split at hb <;> simp at hb
  refine ts (rm rfl (ro rfl (cQ cV) (ra rfl (eJ (bM rfl (fJ (fQ rfl) ?_) (fJ (fQ rfl) ?_))))))
  ·exact (fun v V h=>iJ (Nat.div_eq_of_lt hlt).symm v V (oL v V h))
  ·exact (iJ (Nat.mod_eq_of_lt hlt).symm)
 ·simp only [decide_eq_false_iff_not] at hb
  have hle : n ≤ m := by
   unfold vN at hb
   split at hb
   ·simp at hb
   ·omega
  clear hb
  refine cU (cK (ts (rm rfl (ro rfl (dU U_56 (Ht rfl) aD) (ro rfl (eH (Ht rfl) (cJ 1)) (eJ (dQ (Ht rfl) (fun h1=>?_) (fun h1=>?_))))))))
  ·simp at h1
   have hy0:=a4t h1
   have hyb:=cH (dI n) 0
   have hmod:=Nat.mod_lt m (show (dg n).getD 0 0 > 0 by omega)
   simp only [BB] at hyb
   refine ts (rm rfl (rm rfl (ro rfl (dZ U_56 Z_218 (Ht rfl) (cJ 0) rfl (eX (cM zo))) (ro rfl (dJ A_218 Z_218 (Ht rfl)) (ro rfl (cZ Tryz.call264 (Qb zo zo hyb) ⟨(Ht rfl),(Ht rfl),trivial⟩) (rm rfl (ro rfl (dY (Ht rfl) rfl) (ro rfl (dY (Ht rfl) rfl) (ra rfl (ra rfl (eJ (ts (rm rfl (rm rfl (ro rfl (gV U_218 U_263 (Ht rfl) z7) (ro rfl (cZ Tryz.call238 (Gs zo) ⟨(Ht rfl),trivial⟩) ?_))))))))))))))))
   refine ra rfl (ra rfl (eJ (bM rfl (fJ (fQ rfl) ?_) (fJ (fQ rfl) ?_))))
   ·exact (iJ (by rw [hy0]))
   ·exact (iJ (by rw [hy0]))
  ·simp at h1
   have hl0:(dg n).length ≠ 0:=fun e=>hn (cC.1 e)
   have hyb:=cH (dI n) ((dg n).length - 1)
   obtain ⟨s,hs⟩:∃ s,s = 32 - bl ((dg n).getD ((dg n).length - 1) 0):=⟨_,rfl⟩
   obtain ⟨hs1,hvl,hvb⟩:=Yh hn hs
   obtain ⟨hc1,hc2,hc3,hc4⟩:=Xw (m:=m) hs1
   simp only [BB] at hyb
   have hp2:0 < 2 ^ s:=Nat.pow_pos (by decide)
   have hX0:(dg (m * 2 ^ s)).length ≠ 0:=fun e=>(Nat.ne_of_gt (Nat.mul_pos (show 0 < m by omega) hp2)) (cC.1 e)
   have hmono:=lR hle
   refine cU (ts (rm rfl (ro rfl (dU U_56 (Ht rfl) aD) (rm rfl (rm rfl (ro rfl (dU U_56 (Ht rfl) aD) (ro rfl (dK (Ht rfl) (cJ 1) zo z6) (ro rfl (dZ U_56 Z_218 (Ht rfl) (Ht rfl) rfl (eX (cM zo))) (ro rfl (dJ A_218 Z_218 (Ht rfl)) (ro rfl (aM.nat (cZ Tryz.call265 (a4e zo) ⟨(Ht rfl),trivial⟩) hs.symm) (ra rfl (ra rfl (eJ (ts (rm rfl (rm rfl (ro rfl (cZ Tryz.call266 (a3z zo zo) ⟨(Ht rfl),(Ht rfl),trivial⟩) ?_)))))))))))))))))
   refine ra rfl (eJ (ts (rm rfl (ro rfl (dU U_56 (Ht rfl) aD) (ro rfl (dW (Ht rfl) (cJ 1) z6) (rn rfl (iF (T:=dL 0) (i:=Tryz.t218) V_56 oE rfl rfl (Ht rfl) rfl (fun _=>rfl) trivial (by show 4 * _ ≤ _; omega) zo) fun B55=>(ra rfl (eJ (ts (rm rfl (rm rfl (rm rfl (ro rfl (cZ Tryz.call266 (a3z zo zo) ⟨(Ht rfl),(Ht rfl),trivial⟩) (a11 U_56 Z_218 (Ht rfl) (Ht rfl) (a4N hX0) a6n (i:=0) rfl (by simp) (by simp; omega) (Xx _ _) rfl rfl ?_))))))))))))))
   refine eJ (ts (rm rfl (ro rfl (gI U_56 (Ht rfl)) (rm rfl (ro rfl (dK (Ht rfl) (Ht rfl) zo z6) (rn rfl (iF (T:=dL 0) (i:=Tryz.t218) V_56 oE rfl rfl (Ht rfl) rfl (fun _=>rfl) trivial (by show 4 * _ ≤ _; omega) zo) fun B65=>(ra rfl (eJ (cK (ts (rm rfl (ro rfl (gI U_56 (Ht rfl)) (ro rfl (jJ (Ht rfl) cV (Ew zo)) (ra rfl (eJ (eU ?_))))))))))))))))
   obtain ⟨vs,hvs⟩:∃ vs,vs = dg (n * 2 ^ s):=⟨_,rfl⟩
   rw [← hvs] at hvl hvb
   have hv:lD vs:=hvs ▸ dI _
   have hvv:val vs = n * 2 ^ s:=by rw [hvs,fM]
   have hV0:0 < val vs:=by rw [hvv]; exact Nat.mul_pos zo hp2
   have hnr:=a2p hv zo hvb
   have hv1:=hnr.v1lt; have hv2:=hnr.v2lt; have hbig:=hnr.big
   simp only [BB] at hv1 hv2 hbig
   refine nY (fun (k : Nat) (us : List Nat) (qs : List Nat) => qH (m * 2 ^ s) vs us qs k ∧ us.length = (dg m).length + 1) (fun (k : Nat) (us : List Nat) (qs : List Nat) => k) (fun (k : Nat) (us : List Nat) (qs : List Nat) => [(8, NT .i64 vs.length), (9, NT .i64 s), (10, Eg vs), (11, Is (.slice (some ⟨B55, 0, none⟩) ((dg m).length + 1) ((dg m).length + 1))), (12, Is (.slice (some ⟨B65, 0, none⟩) ((dg m).length + 1 - (dg n).length) ((dg m).length + 1 - (dg n).length))), (13, aN .i64 ((k : Int) - 1))]) (fun (k : Nat) (us : List Nat) (qs : List Nat) => [box B55 218 (us.map dL), box B65 218 (qs.map dL)]) ((dg m).length + 1 - (dg n).length) (Fd m s) (List.replicate ((dg m).length + 1 - (dg n).length) 0) ⟨qH.start hv zo hvb hs1 (by have := kI (dI m); rwa [fM] at this) hc3 hc2 hc4 zo, hc2⟩
    (aZ rfl (nQ hvl.symm) (aQ rfl (aZ rfl (fun v V h=>by rw [hvs]; exact h) (aQ rfl (aQ rfl (aZ rfl (bE zo) aX)))))) (aU (fun _ _ _ h=>h) (aU (aB (sJ _)) aY)) (fun k us qs ⟨hS,hus⟩=>?_)
   refine cK (ts (rm rfl (ro rfl (oQ (Ht rfl) cV) (eJ (dQ (Ht rfl) (fun hk=>?_) (fun hk=>?_))))))
   ·simp at hk
    obtain ⟨j,rfl⟩:∃ j,k = j + 1:=⟨k - 1,by omega⟩
    have htp:=hS.top hv zo (Nat.succ_pos j) rfl
    have hkq:=hS.kle; have hlq:=hS.lenq
    rw [Nat.add_sub_cancel] at htp
    have hu0:=cH hS.dig (j + vs.length); have hu1:=cH hS.dig (j + vs.length - 1); have hu2:=cH hS.dig (j + vs.length - 2)
    have ht64:=a6q hu0 hu1; have hsh:=a3K hu0
    obtain ⟨top,htop⟩:∃ top,top = us.getD (j + vs.length) 0 * BB + us.getD (j + vs.length - 1) 0:=⟨_,rfl⟩
    have hor:=(Il (a:=us.getD (j + vs.length) 0) hu1).trans htop.symm
    rw [← htop] at htp ht64
    have hu2b:=hu2
    simp only [BB] at hu0 hu1 hu2
    refine uY (E':=[(8,_),(9,_),(10,_),(11,_),(12,_),(13,_),(69,_),(70,_)]) (aQ rfl (aQ rfl (aQ rfl (aQ rfl (aQ rfl (aZ rfl (bE (show ((j + 1:Nat):Int) - 1 = (j:Int) by omega)) (zS rfl))))))) (cU (cK (eU (cK (fV (m:=16) (dp 11 rfl (cX (Ht rfl)) (dp 13 rfl (cX (Ht rfl)) (dp 8 rfl (cX (Ht rfl)) (dP 74 1 75 2 rfl (dW (Ht rfl) (Ht rfl) z6) (dP 73 0 76 3 rfl (gX U_56 Z_218 (Ht rfl) (Ht rfl) rfl zo (by rw [Nat.mul_one,Nat.zero_add])) ?_))))))))))
    refine dq 77 4 rfl (fX A_218 Z_218 (Ht rfl) (i:=0) rfl (eX (cM zo))) (dq 78 5 rfl (gV U_218 U_263 (Ht rfl) z7) (dq 79 6 rfl (xF (Ht rfl) (cJ 32) (by decide) hsh) (dp 11 rfl (cX (Ht rfl)) (dp 13 rfl (cX (Ht rfl)) (dp 8 rfl (cX (Ht rfl)) (dP 82 9 83 10 rfl (dW (Ht rfl) (Ht rfl) z6) (dq 84 11 rfl (dK (Ht rfl) (cJ 1) zo z6) ?_)))))))
    refine dP 81 8 85 12 rfl (gX U_56 Z_218 (Ht rfl) (Ht rfl) rfl zo (by rw [Nat.mul_one,Nat.zero_add])) ?_
    refine dq 86 13 rfl (fX A_218 Z_218 (Ht rfl) (i:=0) rfl (eX (cM zo))) (dq 87 14 rfl (gV U_218 U_263 (Ht rfl) z7) (fG aT rfl (by kernel_rfl) (zF (zF (zF (zF (aV (ro rfl (aM.nat (yR rfl (Ht rfl) (Ht rfl) z7 z7) hor) ?_))))))))
    refine ra rfl (eJ (cK (fV (m:=17) (dp 14 rfl (cX (Ht rfl)) (dp 10 rfl (cX (Ht rfl)) (dp 8 rfl (cX (Ht rfl)) (dq 92 2 rfl (dK (Ht rfl) (cJ 1) zo z6) (dP 91 1 93 3 rfl (dZ U_56 Z_218 (Ht rfl) (Ht rfl) rfl (eX (cM zo))) (dq 94 4 rfl (dJ A_218 Z_218 (Ht rfl)) (dq 95 5 rfl (gV U_218 U_263 (Ht rfl) z7) ?_))))))))))
    refine dP 90 0 96 6 rfl (uK (Ht rfl) (Ht rfl) zo (by show _ < 18446744073709551616; exact ht64)) (dp 14 rfl (cX (Ht rfl)) (dp 10 rfl (cX (Ht rfl)) (dp 8 rfl (cX (Ht rfl)) (dq 100 10 rfl (dK (Ht rfl) (cJ 1) zo z6) (dP 99 9 101 11 rfl (dZ U_56 Z_218 (Ht rfl) (Ht rfl) rfl (eX (cM zo))) (dq 102 12 rfl (dJ A_218 Z_218 (Ht rfl)) (dq 103 13 rfl (gV U_218 U_263 (Ht rfl) z7) ?_)))))))
    refine dP 98 8 104 14 rfl (qT (Ht rfl) (Ht rfl) zo) (dq 97 7 rfl (cQ (Ht rfl)) (fG aT rfl (by kernel_rfl) (zF (zF (zF (zF (aJ (aV (ra rfl (eJ (cK (mI (fun (g:Nat)=>Tb (val (us.drop j)) (val vs) g) (fun (g:Nat)=>[(8,NT .i64 vs.length),(9,NT .i64 s),(10,Eg vs),(11,Is (.slice (some ⟨B55,0,none⟩) ((dg m).length + 1) ((dg m).length + 1))),(12,Is (.slice (some ⟨B65,0,none⟩) ((dg m).length + 1 - (dg n).length) ((dg m).length + 1 - (dg n).length))),(13,NT .i64 j),(15,NT .u64 g)]) (fun (g:Nat)=>[box B55 218 (us.map dL),box B65 218 (qs.map dL)]) ?_ (fun g hg=>?_)))))))))))))
    ·refine eU ?_
     refine gN (fun (g : Nat) (r : Nat) => nS (val (us.drop j)) (val vs) (vs.getD (vs.length - 1) 0) top g r ∧ r < 4294967296) (fun (g : Nat) (r : Nat) => g) (fun (g : Nat) (r : Nat) => [(8, NT .i64 vs.length), (9, NT .i64 s), (10, Eg vs), (11, Is (.slice (some ⟨B55, 0, none⟩) ((dg m).length + 1) ((dg m).length + 1))), (12, Is (.slice (some ⟨B65, 0, none⟩) ((dg m).length + 1 - (dg n).length) ((dg m).length + 1 - (dg n).length))), (13, NT .i64 j), (15, NT .u64 g), (16, NT .u64 r)]) (fun (g : Nat) (r : Nat) => [box B55 218 (us.map dL), box B65 218 (qs.map dL)]) (top / vs.getD (vs.length - 1) 0) (top % vs.getD (vs.length - 1) 0) ⟨nS.start hnr htp, Nat.lt_trans (Nat.mod_lt _ zo) hv1⟩
      (zS rfl) (eO.refl _) (fun g r ⟨hG,hr⟩=>?_)
     have hgl:=(hG.glt hnr htp).1
     have hrs:=a3K (a:=r) hr
     have horr:=Il (a:=r) hu2b
     simp only [BB] at hgl
     refine cK (cK (fV (m:=22) (dp 15 rfl (cX (Ht rfl)) (dq 106 0 rfl (sH (Ht rfl) (cJ 4294967296)) (dq 107 1 rfl (cX (Ht rfl)) (C.D_step (Ei:=[(15,_),(108,_)]) rfl rfl (bV (bK rfl rfl) (bV (bG 2 rfl rfl) bW)) (eY rfl rfl (Ht rfl) (fun h=>cX (Ht rfl))) (C.D_step (Ei:=[(10,_),(108,_)]) rfl rfl (bV (bK rfl rfl) (bV (bG 2 rfl rfl) bW)) (eY rfl rfl (Ht rfl) (fun h=>cX (Ht rfl))) (C.D_step (Ei:=[(8,_),(108,_)]) rfl rfl (bV (bK rfl rfl) (bV (bG 2 rfl rfl) bW)) (eY rfl rfl (Ht rfl) (fun h=>cX (Ht rfl))) ?_))))))))
     refine C.D_step (Ei:=[(111,_),(108,_)]) rfl rfl (bV (bG 5 rfl rfl) (bV (bG 2 rfl rfl) bW)) (eY rfl rfl (Ht rfl) (fun h=>dK (fW rfl h) (cJ 2) (by first | omega | (simp at h; omega)) (by show _ < 9223372036854775808; first | omega | (simp at h; omega)))) (C.D_step (Ei:=[(110,_),(112,_),(108,_)]) rfl rfl (bV (bG 4 rfl rfl) (bV (bG 6 rfl rfl) (bV (bG 2 rfl rfl) bW))) (eY rfl rfl (Ht rfl) (fun h=>dZ U_56 Z_218 (fW rfl h) (fW rfl h) rfl (eX (cM (by first | omega | (simp at h; omega)))))) ?_)
     refine C.D_step (Ei:=[(113,_),(108,_)]) rfl rfl (bV (bG 7 rfl rfl) (bV (bG 2 rfl rfl) bW)) (eY rfl rfl (Ht rfl) (fun h=>dJ A_218 Z_218 (fW rfl h))) (C.D_step (Ei:=[(114,_),(108,_)]) rfl rfl (bV (bG 8 rfl rfl) (bV (bG 2 rfl rfl) bW)) (eY rfl rfl (Ht rfl) (fun h=>gV U_218 U_263 (fW rfl h) (by show _ < 18446744073709551616; first | omega | (simp at h; omega)))) (C.D_step (Ei:=[(109,_),(115,_),(108,_)]) rfl rfl (bV (bG 3 rfl rfl) (bV (bG 9 rfl rfl) (bV (bG 2 rfl rfl) bW))) (eY rfl rfl (Ht rfl) (fun h=>pK (fW rfl h) (fW rfl h) (by show _ < 18446744073709551616; simp at h; exact a6b h hv2))) ?_))
     refine C.D_step (Ei:=[(16,_),(108,_)]) rfl rfl (bV (bK rfl rfl) (bV (bG 2 rfl rfl) bW)) (eY rfl rfl (Ht rfl) (fun h=>cX (Ht rfl))) (C.D_step (Ei:=[(117,_),(108,_)]) rfl rfl (bV (bG 11 rfl rfl) (bV (bG 2 rfl rfl) bW)) (eY rfl rfl (Ht rfl) (fun h=>xF (fW rfl h) (cJ 32) (by decide) hrs)) (C.D_step (Ei:=[(11,_),(108,_)]) rfl rfl (bV (bK rfl rfl) (bV (bG 2 rfl rfl) bW)) (eY rfl rfl (Ht rfl) (fun h=>cX (Ht rfl))) (C.D_step (Ei:=[(13,_),(108,_)]) rfl rfl (bV (bK rfl rfl) (bV (bG 2 rfl rfl) bW)) (eY rfl rfl (Ht rfl) (fun h=>cX (Ht rfl))) ?_)))
     refine C.D_step (Ei:=[(8,_),(108,_)]) rfl rfl (bV (bK rfl rfl) (bV (bG 2 rfl rfl) bW)) (eY rfl rfl (Ht rfl) (fun h=>cX (Ht rfl))) (C.D_step (Ei:=[(120,_),(121,_),(108,_)]) rfl rfl (bV (bG 14 rfl rfl) (bV (bG 15 rfl rfl) (bV (bG 2 rfl rfl) bW))) (eY rfl rfl (Ht rfl) (fun h=>dW (fW rfl h) (fW rfl h) (by show _ < 9223372036854775808; first | omega | (simp at h; omega)))) (C.D_step (Ei:=[(122,_),(108,_)]) rfl rfl (bV (bG 16 rfl rfl) (bV (bG 2 rfl rfl) bW)) (eY rfl rfl (Ht rfl) (fun h=>dK (fW rfl h) (cJ 2) (by first | omega | (simp at h; omega)) (by show _ < 9223372036854775808; first | omega | (simp at h; omega)))) ?_))
     refine C.D_step (Ei:=[(119,_),(123,_),(108,_)]) rfl rfl (bV (bG 13 rfl rfl) (bV (bG 17 rfl rfl) (bV (bG 2 rfl rfl) bW))) (eY rfl rfl (Ht rfl) (fun h=>gX U_56 Z_218 (fW rfl h) (fW rfl h) rfl (by first | omega | (simp at h; omega)) (by rw [Nat.mul_one,Nat.zero_add]))) ?_
     refine C.D_step (Ei:=[(124,_),(108,_)]) rfl rfl (bV (bG 18 rfl rfl) (bV (bG 2 rfl rfl) bW)) (eY rfl rfl (Ht rfl) (fun h=>fX A_218 Z_218 (fW rfl h) (i:=0) rfl (eX (cM zo)))) (C.D_step (Ei:=[(125,_),(108,_)]) rfl rfl (bV (bG 19 rfl rfl) (bV (bG 2 rfl rfl) bW)) (eY rfl rfl (Ht rfl) (fun h=>gV U_218 U_263 (fW rfl h) (by show _ < 18446744073709551616; first | omega | (simp at h; omega)))) (C.D_step (Ei:=[(118,_),(126,_),(108,_)]) rfl rfl (bV (bG 12 rfl rfl) (bV (bG 20 rfl rfl) (bV (bG 2 rfl rfl) bW))) (eY rfl rfl (Ht rfl) (fun h=>aM.nat (yR rfl (fW rfl h) (fW rfl h) (by show _ < 18446744073709551616; first | omega | (simp at h; omega)) (by show _ < 18446744073709551616; first | omega | (simp at h; omega))) horr)) ?_))
     refine fG aT rfl (by kernel_rfl) (zF (zF (zF (zF (zF (aJ (aJ (aV (fZ rfl rfl (eY rfl rfl (Ht rfl) (fun h=>jU (fW rfl h) (fW rfl h))) (ro rfl (lZ (Ht rfl) (fun h=>(fW rfl h))) (eJ (dQ (Ht rfl) (fun hc=>?_) (fun hc=>?_)))))))))))))
     ·have hn2 := hG.next hnr htp (by simpa [BB] using hc)
      have hg1:=hn2.2
      refine cU (eU (ts (rm rfl (ro rfl (dK (Ht rfl) (cJ 1) zo z7) (ra rfl (eJ (ts (rm rfl (rm rfl (rm rfl (ro rfl (dK (Ht rfl) (cJ 1) zo z6) (ro rfl (dZ U_56 Z_218 (Ht rfl) (Ht rfl) rfl (eX (cM zo))) (ro rfl (dJ A_218 Z_218 (Ht rfl)) (ro rfl (gV U_218 U_263 (Ht rfl) z7) ?_))))))))))))))
      refine ro rfl (dW (Ht rfl) (Ht rfl) z7) (ra rfl (eJ (ts (rm rfl (ro rfl (sH (Ht rfl) (cJ 4294967296)) (eJ (dQ (Ht rfl) (fun hr2=>?_) (fun hr2=>?_))))))))
      ·simp at hr2
       refine gG rfl (cD (g - 1) (hn2.1.stop hnr htp hr2) (zS rfl) (eO.refl _))
      ·simp at hr2
       refine cU (bD (gQ (g - 1,_) ⟨hn2.1,hr2⟩ (by dsimp only; omega) (zS rfl) (eO.refl _)))
     ·simp at hc
      refine gG rfl (cD g (hG.done hnr htp hc.1 hc.2) (zS rfl) (eO.refl _))
    ·have hglt := hg.lt
     simp only [BB] at hglt
     refine cK (wG (fun (us2:List Nat) (g2:Nat)=>qH (m * 2 ^ s) vs us2 (qs.set j g2) j ∧ g2 < 4294967296 ∧ us2.length = (dg m).length + 1) (fun (us2:List Nat) (g2:Nat)=>[(8,NT .i64 vs.length),(9,NT .i64 s),(10,Eg vs),(11,Is (.slice (some ⟨B55,0,none⟩) ((dg m).length + 1) ((dg m).length + 1))),(12,Is (.slice (some ⟨B65,0,none⟩) ((dg m).length + 1 - (dg n).length) ((dg m).length + 1 - (dg n).length))),(13,NT .i64 j),(15,NT .u64 g2)]) (fun (us2:List Nat) (g2:Nat)=>[box B55 218 (us2.map dL),box B65 218 (qs.map dL)]) ?_ (fun us2 g2 ⟨hD,hg2,hus2⟩=>?_))
     ·refine ts (rm rfl (rm rfl (rm rfl (rm rfl (Gd Tryz.call267 (a4j hus hS.dig hv hg.lt zo zo) (i := 0) rfl ⟨(Ht rfl), (Ht rfl), (Ht rfl), (Ht rfl), trivial⟩ rfl (fun ⟨out, b⟩ hT => ?_))))))
      dsimp only at hT
      refine eJ (dQ (Ht rfl) (fun hbb=>?_) (fun hbb=>?_))
      ·have hbb : b = true := hbb
       subst hbb
       have hg0:=hS.gpos hv rfl zo hT
       have hol:=hT.len
       refine ts (rm rfl (ro rfl (dK (Ht rfl) (cJ 1) zo z7) (ra rfl (eJ (ts (ro rfl (cQ (cJ 0)) (eJ (cK (ts (rm rfl (ro rfl (dU U_56 (Ht rfl) aD) (ro rfl (cX (cJ 0)) (eJ (eU ?_))))))))))))))
       refine nY (fun (i : Nat) (out2 : List Nat) (c : Nat) => wD out vs j out2 i c) (fun (i : Nat) (out2 : List Nat) (c : Nat) => vs.length - i) (fun (i : Nat) (out2 : List Nat) (c : Nat) => [(8, NT .i64 vs.length), (9, NT .i64 s), (10, Eg vs), (11, Is (.slice (some ⟨B55, 0, none⟩) ((dg m).length + 1) ((dg m).length + 1))), (12, Is (.slice (some ⟨B65, 0, none⟩) ((dg m).length + 1 - (dg n).length) ((dg m).length + 1 - (dg n).length))), (13, NT .i64 j), (15, NT .u64 (g - 1 : Nat)), (17, NT .u64 c), (149, Eg vs), (150, NT .i64 vs.length), (151, NT .i64 i)]) (fun (i : Nat) (out2 : List Nat) (c : Nat) => [box B55 218 (out2.map dL), box B65 218 (qs.map dL)]) 0 out 0 (wD.start hT.dig vs j)
        (zS rfl) (eO.refl _) (fun i out2 c hB=>?_)
       refine ts (ro rfl (gJ (Ht rfl) (Ht rfl)) (eJ (cK (dQ (Ht rfl) (fun hi=>?_) (fun hi=>?_)))))
       ·simp at hi
        have hlen:=hB.len; have hcl:=hB.cle; have hvi:=cH hv i; have hok:=cH hB.dig (i + j)
        simp only [BB] at hvi hok
        refine cU (cK (eU (ts (rm rfl (ro rfl (dZ U_56 Z_218 (Ht rfl) (Ht rfl) rfl (eX (cM zo))) (ro rfl (dJ A_218 Z_218 (Ht rfl)) (ra rfl (ra rfl (eJ (ts (rm rfl (rm rfl (rm rfl (rm rfl (ro rfl (dW (Ht rfl) (Ht rfl) z6) (ro rfl (gX U_56 Z_218 (Ht rfl) (Ht rfl) rfl zo (by rw [Nat.mul_one,Nat.zero_add])) ?_))))))))))))))))
        refine ro rfl (fX A_218 Z_218 (Ht rfl) (i:=0) rfl (eX (cM zo))) (ro rfl (gV U_218 U_263 (Ht rfl) z7) (rm rfl (ro rfl (gV U_218 U_263 (Ht rfl) z7) (ro rfl (dW (Ht rfl) (Ht rfl) z7) (ro rfl (dW (Ht rfl) (Ht rfl) z7) ?_)))))
        refine ra rfl (eJ (ts (rm rfl (rm rfl (rm rfl (ro rfl (dW (Ht rfl) (Ht rfl) z6) (rm rfl (ro rfl (lJ rfl U_263 U_218 (Ht rfl)) (ro rfl (gX U_56 Z_218 (Ht rfl) (Ht rfl) rfl zo (by rw [Nat.mul_one,Nat.zero_add])) ?_)))))))))
        refine oZ Z_218 (Ht rfl) (Ht rfl) (i:=0) rfl (by first | omega | (simp; omega)) rfl (eJ (cY (rm rfl (ro rfl (jV (Ht rfl) (cJ 32) (by decide)) (ra rfl (eJ (bD (cY (ro rfl (dW (Ht rfl) (cJ 1) z6) (rm rfl (eJ (gQ (i + 1,_,_) (hB.next hv hi zo rfl) (by dsimp only; omega) (zS rfl) (aU (aB (lC _ _ _)) (aU (fun _ _ _ h=>h) aY))))))))))))))
       ·simp at hi
        have hil:i = vs.length:=Nat.le_antisymm hB.ile hi
        subst hil
        have hlen:=hB.len; have hcl:=hB.cle; have hok:=cH hB.dig (j + vs.length)
        have hBk:=hB.fin zo rfl
        obtain ⟨_,hDn⟩:=hS.wrong hv hV0 (Nat.succ_pos j) rfl hg hT hBk
        simp only [BB] at hok
        refine gG rfl (cY (rm rfl (rm rfl (rm rfl (ro rfl (dW (Ht rfl) (Ht rfl) z6) (ro rfl (gX U_56 Z_218 (Ht rfl) (Ht rfl) rfl zo (by rw [Nat.mul_one,Nat.zero_add])) ?_))))))
        refine ro rfl (fX A_218 Z_218 (Ht rfl) (i:=0) rfl (eX (cM zo))) (rm rfl (ro rfl (gV U_263 U_218 (Ht rfl) (by show _ < 4294967296; first | omega | (simp only [oG]; omega))) (ro rfl (a2r rfl (Ht rfl) (Ht rfl)) (ro rfl (gX U_56 Z_218 (Ht rfl) (Ht rfl) rfl zo (by rw [Nat.mul_one,Nat.zero_add])) ?_))))
        refine oZ Z_218 (Ht rfl) (Ht rfl) (i:=0) rfl (by first | omega | (simp; omega)) rfl (eJ (cD (_,g - 1) ⟨hDn,by dsimp only; omega,by simp; omega⟩ (zS rfl) (aU (aB (lC _ _ _)) (aU (fun _ _ _ h=>h) aY))))
      ·have hbb : b = false := hbb
       subst hbb
       have hol:=hT.len
       refine cU (cD (out,g) ⟨hS.right hv hV0 (Nat.succ_pos j) rfl hg hT,hglt,by dsimp only; omega⟩ (zS rfl) (eO.refl _))
     ·refine cY (rm rfl (rm rfl (rm rfl (ro rfl (gV U_263 U_218 (Ht rfl) (by show _ < 4294967296; first | omega | (simp only [oG]; omega))) (ro rfl (gX U_56 Z_218 (Ht rfl) (Ht rfl) rfl zo (by rw [Nat.mul_one, Nat.zero_add])) ?_)))))
      refine oZ Z_218 (Ht rfl) (Ht rfl) (i:=1) rfl (by first | omega | (simp; omega)) rfl (eJ (bD (cY (rm rfl (ro rfl (jJ (Ht rfl) cV (Ew zo)) (ra rfl (eJ (gQ (j,us2,_) ⟨hD,hus2⟩ (by dsimp only; omega) (zS rfl) (aU (fun _ _ _ h=>h) (aU (aB (lC _ _ _)) aY))))))))))
   ·simp at hk
    have hk0:k = 0:=by omega
    subst hk0
    have hfin:=hS.fin hV0
    have hlq:=hS.lenq
    rw [hvv] at hfin
    have hdiv:val qs = m / n:=by rw [hfin.1]; exact Nat.mul_div_mul_right _ _ hp2
    have hsm:val us < BB ^ vs.length:=by have h1:=hS.small; rw [List.drop_zero] at h1; exact Nat.lt_trans h1 (kI hv)
    have hmod : val (us.take vs.length) / 2 ^ s = m % n := by
     rw [xR hsm zo,hfin.2,Nat.mul_mod_mul_right,Nat.mul_div_cancel _ hp2]
    have hru : (dg (val (us.take vs.length))).length ≤ 17592186044416 := by
     refine Nat.le_trans (lM (k:=vs.length) ?_) zo
     rw [xR hsm zo]; exact hsm
    refine gG rfl (gW (i:=1) (tt:=12) rfl rfl (tM rfl zo (Nat.le_refl _)) (gW (i:=0) (tt:=11) rfl rfl (tM rfl zo (Nat.le_refl _)) (cK (fV (m:=7) (dp 12 rfl (cX (Ht rfl)) (dq 193 0 rfl (cZ K_237 (rU _ hS.digq zo) ⟨(Ht rfl),trivial⟩) (dp 11 rfl (cX (Ht rfl)) (dp 8 rfl (cX (Ht rfl)) (dP 195 2 196 3 rfl (aM.imp (yS U_56 Z_218 (Ht rfl) (Ht rfl) (fun m e=>by cases e) zo (by simp; omega) rfl) (a1Q _ _)) ?_)))))))))
    refine dq 197 4 rfl (cZ K_237 (rU _ (hS.dig.take' vs.length) (by simp; omega)) ⟨(Ht rfl),trivial⟩) ?_
    refine dp 9 rfl (cX (Ht rfl)) (fG aT rfl (by kernel_rfl) (zF (aJ (aJ (aJ (aV (ro rfl (cZ Tryz.call268 (a5P hru zo) ⟨(Ht rfl),(Ht rfl),trivial⟩) (ra rfl (ra rfl (eJ (bM rfl (fJ (fQ rfl) ?_) (fJ (fQ rfl) ?_))))))))))))
    ·exact (iJ hdiv)
    ·exact (iJ hmod)
end
section
open Go Go.RowKit
theorem a4C:Tryz.prog.info? 5 = some Tryz.t5:=by kernel_rfl
theorem Sy:Tryz.prog.underlying 296 = some (.slice 5):=by kernel_rfl
theorem a6t:Tryz.prog.underlying 5 = some (.int .u8):=by kernel_rfl
theorem a6u:Tryz.prog.underlying 9 = some (.string):=by kernel_rfl
end
section
open Go Go.RowKit
theorem a3x {m n:Nat} (hm:(dg m).length ≤ 17592186044415) (hn:(dg n).length ≤ 17592186044415):bI Tryz.prog 231 [bB m,bB n] (bB (Nat.gcd m n)):=by
 refine bI.intro Tryz.func231 rfl Tryz.ntmps231 rfl (fun cx=>(ts (ro rfl (cQ cV) (eJ (cK (eU ?_))))))
 refine gN (fun (x : Nat) (y : Nat) => Nat.gcd x y = Nat.gcd m n ∧ (dg x).length ≤ 17592186044415 ∧ (dg y).length ≤ 17592186044415) (fun (x : Nat) (y : Nat) => y) (fun (x : Nat) (y : Nat) => [(0, bB x), (1, bB y)]) (fun (x : Nat) (y : Nat) => []) m n ⟨rfl, hm, hn⟩
  (zS rfl) aY (fun x y ⟨hg,hx,hy⟩=>?_)
 refine cK (ts (rm rfl (ro rfl (dU U_56 (Ht rfl) aD) (ro rfl (jU (Ht rfl) (cJ 0)) (eJ (dQ (Ht rfl) (fun hb=>?_) (fun hb=>?_)))))))
 ·simp at hb
  have hy0:y ≠ 0:=fun e=>by rw [e,gE] at hb; simp at hb
  have hlt:=Nat.mod_lt x (Nat.pos_of_ne_zero hy0)
  refine cU (eU (ts (rm rfl (rm rfl (ro rfl (cZ Tryz.call233 (Pv hx zo hy0) ⟨(Ht rfl),(Ht rfl),trivial⟩) (rm rfl (ro rfl (dY (Ht rfl) rfl) (ro rfl (dY (Ht rfl) rfl) (ra rfl (ra rfl (eJ (cY (rm rfl (rm rfl (ra rfl (ra rfl (eJ (bD (gQ (y,x % y) ⟨by rw [← hg,Nat.gcd_comm x y,Nat.gcd_rec y x,Nat.gcd_comm],hy,Nat.le_trans (lR (Nat.le_of_lt hlt)) hy⟩ hlt (zS rfl) aY)))))))))))))))))))
 ·simp at hb
  have hy0:y = 0:=cC.1 (by simpa using hb)
  subst hy0
  rw [Nat.gcd_zero_right] at hg
  refine gG rfl (ts (rm rfl (ra rfl (eJ (fK rfl (fJ (fQ rfl) ?_))))))
  exact (iJ hg)
theorem a5O {l:List Nat} {v:Value} (hl:l.length ≤ 1152921504606846976):gM Tryz.prog 280 [Is v] [bF 5 1 v (l.map Em)] Unit (fun _=>qG) (fun _=>[bF 5 1 v (l.reverse.map Em)]) (fun _=>True):=by
 refine gM.intro Tryz.func280 rfl Tryz.ntmps280 rfl (fun cx Z=>(ts (rm rfl (ro rfl (oA U_296 (Ht rfl) (i:=1) rfl aD) (ro rfl (jJ (Ht rfl) cV (Ew zo)) (ro rfl (cQ (cJ 0)) (ra rfl (eJ (eU ?_)))))))))
 refine gN (fun (k : Nat) (o : List Nat) => Ge l o k) (fun (k : Nat) (o : List Nat) => l.length - k) (fun (k : Nat) (o : List Nat) => [(0, Is v), (2, NT .i64 k), (3, aN .i64 ((l.length : Int) - 1 - (k : Int)))]) (fun (k : Nat) (o : List Nat) => [Z, bF 5 1 v (o.map Em)]) 0 l (Ge.start l)
  (aQ rfl (aQ rfl (aZ rfl (bE zo) aX))) (eO.refl _) (fun k o hS=>?_)
 refine cK (ts (rm rfl (rm rfl (ro rfl (sI (Ht rfl) (Ht rfl)) (eJ (dQ (Ht rfl) (fun hb=>?_) (fun hb=>?_)))))))
 ·simp only [decide_eq_true_eq] at hb
  have hk:2 * k + 1 < l.length:=by omega
  obtain ⟨j,hj⟩:∃ j,j = l.length - 1 - k:=⟨_,rfl⟩
  have hlen:=hS.len
  refine uY (E':=[(0,_),(2,_),(3,_),(7,_),(8,_),(9,_)]) (aQ rfl (aQ rfl (aZ rfl (bE (show (l.length:Int) - 1 - (k:Int) = (j:Int) by omega)) (zS rfl)))) (cU (cK (eU (W.D_start (m:=14) (fun b=>cond b ([Z,bF 5 1 v ((o.map Em).set k (Em (o.getD j 0)))]) _) 13 (W.D_step (Ei:=[(0,_)]) rfl rfl (W.Srcs.cons (W.Src.pre rfl rfl) W.Srcs.nil) rfl (by kernel_rfl) (dX rfl (cX (Ht rfl))) (W.D_step (Ei:=[(2,_)]) rfl rfl (W.Srcs.cons (W.Src.pre rfl rfl) W.Srcs.nil) rfl (by kernel_rfl) (dX rfl (cX (Ht rfl))) ?_))))))
  refine W.D_pure (Ei:=[(0,_)]) rfl rfl (W.Srcs.cons (W.Src.pre rfl rfl) W.Srcs.nil) rfl (fun _=>dX rfl (cX (Ht rfl))) (W.D_pure (Ei:=[(3,_)]) rfl rfl (W.Srcs.cons (W.Src.pre rfl rfl) W.Srcs.nil) rfl (fun _=>dX rfl (cX (Ht rfl))) (W.D_step (Ei:=[(0,_)]) rfl rfl (W.Srcs.cons (W.Src.pre rfl rfl) W.Srcs.nil) rfl (by kernel_rfl) (dX rfl (cX (Ht rfl))) (W.D_step (Ei:=[(3,_)]) rfl rfl (W.Srcs.cons (W.Src.pre rfl rfl) W.Srcs.nil) rfl (by kernel_rfl) (dX rfl (cX (Ht rfl))) (W.D_step (Ei:=[(18,_),(19,_)]) rfl rfl (W.Srcs.cons (W.Src.op 4 rfl rfl) (W.Srcs.cons (W.Src.op 5 rfl rfl) W.Srcs.nil)) rfl (by kernel_rfl) (dX rfl (dM U_296 Z_5 (Ht rfl) (Ht rfl) rfl (i:=1) rfl (by first | omega | (simp; omega)) rfl)) ?_))))
  refine W.D_step (Ei:=[(20,_)]) rfl rfl (W.Srcs.cons (W.Src.op 6 rfl rfl) W.Srcs.nil) rfl (by kernel_rfl) (dX rfl (oR Tryz.isAgg5 Z_5 (Ht rfl) (i:=1) rfl rfl (eX (cM zo)))) (W.D_step (Ei:=[(0,_)]) rfl rfl (W.Srcs.cons (W.Src.pre rfl rfl) W.Srcs.nil) rfl (by kernel_rfl) (dX rfl (cX (Ht rfl))) (W.D_step (Ei:=[(2,_)]) rfl rfl (W.Srcs.cons (W.Src.pre rfl rfl) W.Srcs.nil) rfl (by kernel_rfl) (dX rfl (cX (Ht rfl))) (W.D_step (Ei:=[(22,_),(23,_)]) rfl rfl (W.Srcs.cons (W.Src.op 8 rfl rfl) (W.Srcs.cons (W.Src.op 9 rfl rfl) W.Srcs.nil)) rfl (by kernel_rfl) (dX rfl (dM U_296 Z_5 (Ht rfl) (Ht rfl) rfl (i:=1) rfl (by first | omega | (simp; omega)) rfl)) ?_)))
  refine W.D_step (Ei:=[(24,_)]) rfl rfl (W.Srcs.cons (W.Src.op 10 rfl rfl) W.Srcs.nil) rfl (by kernel_rfl) (dX rfl (oR Tryz.isAgg5 Z_5 (Ht rfl) (i:=1) rfl rfl (eX (cM zo)))) (W.D_step (Ei:=[(14,_),(15,_)]) rfl rfl (W.Srcs.cons (W.Src.op 0 rfl rfl) (W.Srcs.cons (W.Src.op 1 rfl rfl) W.Srcs.nil)) rfl (by kernel_rfl) (dX rfl (dM U_296 Z_5 (Ht rfl) (Ht rfl) rfl (i:=1) rfl (by first | omega | (simp; omega)) rfl)) (W.D_put (Ei:=[(26,_),(21,_)]) rfl rfl (W.Srcs.cons (W.Src.op 12 rfl rfl) (W.Srcs.cons (W.Src.op 7 rfl rfl) W.Srcs.nil)) rfl (Vy Z_5 (Ht rfl) (Ht rfl) El.one (i:=1) rfl rfl (by first | omega | (simp; omega))) ?_))
  refine W.D_done aT rfl (by kernel_rfl) rfl (W.F_val (W.F_val (W.F_val (W.F_val (W.F_val (W.F_val (W.F_val (W.F_val (W.F_val (W.F_val (W.F_val (W.F_val (W.F_val (W.F_put (W.F_nil (ro rfl (dM U_296 Z_5 (Ht rfl) (Ht rfl) rfl (i:=1) rfl (by first | omega | (simp; omega)) rfl) (mY Z_5 (Ht rfl) (Ht rfl) El.one (i:=1) rfl rfl (by first | omega | (simp; omega)) rfl (eJ (bD (cY (rm rfl (ro rfl (dW (Ht rfl) (cJ 1) z6) (rm rfl (ro rfl (jJ (Ht rfl) cV (Ew zo)) ?_))))))))))))))))))))))))
  refine ra rfl (ra rfl (eJ (gQ (k + 1,_) (hS.next hk hj) (by dsimp only; omega) (aQ rfl (aQ rfl (aZ rfl (bE zo) aX))) (aU (fun _ _ _ h=>h) (aU (aO (a3g _ _ _ _ _)) aY)))))
 ·simp only [decide_eq_false_iff_not] at hb
  have hfin:=hS.fin (by have:=hS.kle; omega)
  refine gG rfl ?_
  exact a3Y () trivial [0,1] ⟨⟨_,rfl,fun _ _ _ h=>h⟩,⟨_,rfl,(aO (by rw [hfin]))⟩,trivial⟩ (by decide) (a6H rfl (fun _=>trivial))
theorem Jp {m:Nat} (hm:(dg m).length ≤ 8796093022208):bI Tryz.prog 260 [bB m] (uS (Bq m)):=by
 refine bI.intro Tryz.func260 rfl Tryz.ntmps260 rfl (fun cx=>(ts (ro rfl (cQ (bH.cS (l:=[]) rfl)) (eJ (cK (ts (rm rfl (ro rfl (dU U_56 (Ht rfl) aD) (ro rfl (eH (Ht rfl) (cJ 0)) (eJ (dQ (Ht rfl) (fun hb=>?_) (fun hb=>?_))))))))))))
 ·simp at hb
  have h0:m = 0:=cC.1 (by simpa using hb)
  subst h0
  refine ts (ro rfl (cQ (bH.cS (l:=[48]) rfl)) (eJ (fK rfl (fJ (fQ rfl) ?_))))
  exact (qD rfl)
 ·simp at hb
  have h0:m ≠ 0:=fun e=>hb (by rw [e,gE])
  refine cU (ts (ro rfl (cQ cV) (eJ (cK (eU (pU 5 1 ?_))))))
  refine nY (fun (x : Nat) (out : List Nat) (v : Value) => Ga m out x ∧ x ≤ m) (fun (x : Nat) (out : List Nat) (v : Value) => x) (fun (x : Nat) (out : List Nat) (v : Value) => [(0, bB x), (3, Is v)]) (fun (x : Nat) (out : List Nat) (v : Value) => [bF 5 1 v (out.map Em)]) m [] (.slice none 0 0) ⟨Ga.start m, Nat.le_refl m⟩
   (zS rfl) (eO.refl _) (fun x out v ⟨hO,hle⟩=>?_)
  refine cK (ts (rm rfl (ro rfl (dU U_56 (Ht rfl) aD) (ro rfl (jU (Ht rfl) (cJ 0)) (eJ (dQ (Ht rfl) (fun hc=>?_) (fun hc=>?_)))))))
  ·simp at hc
   have hx0:x ≠ 0:=fun e=>by rw [e,gE] at hc; simp at hc
   have hxm:=lR hle
   refine cU (eU (ts (ro rfl (cQ (cJ 0)) (eJ (ts (rm rfl (ro rfl (cZ Tryz.call264 (Qb zo (by decide) (by decide)) ⟨(Ht rfl),(cJ 1000000000),trivial⟩) (rm rfl (ro rfl (dY (Ht rfl) rfl) (ro rfl (dY (Ht rfl) rfl) (ra rfl (ra rfl (eJ (ts (ro rfl (cQ (cJ 0)) (eJ (eU ?_)))))))))))))))))
   refine Gi (fun (r : Nat) (k : Nat) (out : List Nat) (v : Value) => Ba m out (x / 1000000000) r k) (fun (r : Nat) (k : Nat) (out : List Nat) (v : Value) => 9 - k) (fun (r : Nat) (k : Nat) (out : List Nat) (v : Value) => [(0, bB (x / 1000000000)), (3, Is v), (4, dL r), (5, NT .i64 k)]) (fun (r : Nat) (k : Nat) (out : List Nat) (v : Value) => [bF 5 1 v (out.map Em)]) (x % 1000000000) 0 out v (hO.inner)
    (zS rfl) (eO.refl _) (fun r k out v hI=>?_)
   refine cK (ts (rm rfl (ro rfl (gJ (Ht rfl) (cJ 9)) (rm rfl (fZ rfl rfl (wF rfl rfl (Ht rfl) (fun h=>cX (Ht rfl))) (fZ rfl rfl (wF rfl rfl (Ht rfl) (fun h=>dU U_56 (bH.wu rfl h) aD)) (fZ rfl rfl (wF rfl rfl (Ht rfl) (fun h=>jU (bH.wu rfl h) (cJ 0))) (fZ rfl rfl (wF rfl rfl (Ht rfl) (fun h=>cX (bH.wu rfl h))) (fZ rfl rfl (Ph rfl rfl rfl (fun h h2=>cX (Ht rfl))) (fZ rfl rfl (Ph rfl rfl rfl (fun h h2=>jU (bH.wu rfl ⟨h,h2⟩) (cJ 0))) (fZ rfl rfl (wF rfl rfl (Ht rfl) (fun h=>lZ (bH.wu rfl h) (fun h2=>(bH.wu rfl ⟨h,h2⟩)))) ?_)))))))))))
   refine ro rfl (iU (Ht rfl) (fun h=>(bH.wu rfl h))) (eJ (dQ (Ht rfl) (fun hd=>?_) (fun hd=>?_)))
   ·simp at hd
    have hxr:0 < x / 1000000000 ∨ 0 < r:=hd.2.imp (fun h=>Nat.pos_of_ne_zero (fun e=>by rw [e,gE] at h; simp at h)) id
    have hln:=hI.len hxr
    have hr32:=hI.r32
    refine cU (cK (eU (ts (rm rfl (rm rfl (ro rfl (qT (Ht rfl) (cJ 10) zo) (ro rfl (dW (cJ 48) (Ht rfl) (by show _ < 4294967296; first | omega | (simp only [oG]; omega))) (ro rfl (gV U_218 U_5 (Ht rfl) (by show _ < 256; first | omega | (simp only [oG]; omega))) (ro rfl (cI (xs:=[.tmp 34]) U_296 Z_5 Tryz.zeroValue5 (cW (Ht rfl) cG) rfl rfl rfl) (lE (inf:=Tryz.t5) Sy a4C rfl rfl rfl (Ht rfl) (Ht rfl) (i:=0) rfl (by simp) (fun T hT=>by simp at hT; subst hT; exact El.one) (by show _ * 1 ≤ _; simp only [List.length_map,List.length_cons,List.length_nil]; omega) (by simp only [List.length_map,List.length_cons,List.length_nil]; omega) rfl (fun v2=>?_)))))))))))
    refine ra rfl (eJ (cY (rm rfl (ro rfl (uK (Ht rfl) (cJ 10) zo (by show _ < 4294967296; first | omega | (simp only [oG]; omega))) (ra rfl (eJ (bD (cY (rm rfl (ro rfl (dW (Ht rfl) (cJ 1) z6) (ra rfl (eJ (gQ (r / 10,k + 1,_,v2) (hI.next hd.1 hxr) (by dsimp only; omega) (zS rfl) (aU (aO (a5v _ _)) aY))))))))))))))
   ·simp at hd
    have hO2 := hI.fin (fun ⟨h1, h2⟩ => by
     have h3:=hd h1
     rcases h2 with h2 | h2
     ·have:=yH.1 h3.1; omega
     ·omega)
    refine gG rfl (bD (gQ (x / 1000000000,_,_) ⟨hO2,Nat.le_trans (Nat.div_le_self _ _) hle⟩ (Nat.div_lt_self (Nat.pos_of_ne_zero hx0) (by decide)) (zS rfl) (eO.refl _)))
  ·simp at hc
   have hx0:x = 0:=cC.1 (by simpa using hc)
   subst hx0
   have hfin:=hO.fin
   have hdl:=tI m
   rw [hfin] at hdl
   refine gG rfl (ts (rm rfl (Gd Tryz.call280 (a5O zo) (i:=0) rfl ⟨(Ht rfl),trivial⟩ rfl (fun _ _=>(eJ (cK (gW (i:=0) (tt:=3) rfl rfl gH (cY (rm rfl (ro rfl (a07 Sy a6t a6u (Ht rfl) (by rw [← hfin]; simpa using a1P h0) (fun b hb=>a4r (n:=m) b (by rw [zY h0,hfin]; exact hb))) ?_))))))))))
   refine ra rfl (eJ (fK rfl (fJ (fQ rfl) ?_)))
   exact (qD (by rw [zY h0,hfin]))
end
section
open Go Go.RowKit
theorem vJ {n : Nat} {E : dC} {H : Hp} {d : Option Tmp} {t : TypeId} {pos : String} {af : Array Edge} {g : Option (Nat × Bool)} {x0 x1 : Operand} {T0 T1 : Ty} [s0 : eA T0 1 false] (h0 : bH E x0 T0) [s1 : eA T1 1 false] (h1 : bH E x1 T1) :
  aM Tryz.prog n E H ⟨d,.build 58 #[(0,x0),(1,x1)],t,pos,af,g⟩ (fO [T0,T1]) :=
 kS (parts := [(0, x0), (1, x1)]) fun a V w hs => by
  have p0:=h0 n V a hs
  generalize e0:a.eval x0 = v0 at p0
  have q0:=(s0.ok v0 V p0).2.2 rfl
  have p1:=h1 n V a hs
  generalize e1:a.eval x1 = v1 at p1
  have q1:=(s1.ok v1 V p1).2.2 rfl
  refine ⟨.agg #[v0,v1],?_,[v0,v1],rfl,aW (⟨p0,q0⟩) (aW (⟨p1,q1⟩) (aG))⟩
  simp [e0,e1,Instr.build,Instr.fill,Sem.run_bind,Result.andThen,jM,q0.cells,q1.cells,O_58,U_58,Z_4,Z_56]
theorem lN (a:Addr) (w:World):(Instr.fieldAt 58 (.pointer (some a)) 0).run Tryz.prog w = .ok (.pointer (some (a.add 0))) w:=by
 simp [Instr.fieldAt,Instr.sureAddr,fieldPlace,Sem.run_bind,Result.andThen,U_58,Z_4]
theorem fD (a:Addr) (w:World):(Instr.fieldAt 58 (.pointer (some a)) 1).run Tryz.prog w = .ok (.pointer (some (a.add 1))) w:=by
 simp [Instr.fieldAt,Instr.sureAddr,fieldPlace,Sem.run_bind,Result.andThen,U_58,Z_56]
end
section
open Go Go.RowKit
theorem Gt {n:Int} (h1:-9223372036854775808 ≤ n) (h2:n ≤ 9223372036854775807):bI Tryz.prog 157 [aN .i64 n] (jX n):=by
 refine bI.intro Tryz.func157 rfl Tryz.ntmps157 rfl (fun cx=>(ts (rn rfl (eK (Ts:=[Is (.bool false),Is (.slice none 0 0)]) O_58 rfl (fun V=>aW zd (aW zd (aG)))) fun B2=>(eJ (cK (ts (rm rfl (ro rfl (sI (Ht rfl) cV) (eJ (dQ (Ht rfl) (fun hb=>?_) (fun hb=>?_)))))))))))
 ·have hn : n < 0 := by simpa using hb
  refine ts (rm rfl (ro rfl (Al U_2 U_263 (Ht rfl) (r:=((18446744073709551616 - n.natAbs:Nat):Int)) (by rw [IntKind.wrap_u64]; omega)) ?_))
  refine ro rfl (a56 (Ht rfl) (r:=((n.natAbs:Nat):Int)) (by rw [IntKind.wrap_u64]; omega)) ?_
  refine ro rfl (cZ Tryz.call238 (Gs zo) ⟨(Ht rfl),trivial⟩) (ro rfl (vJ cV (Ht rfl)) (gZ Z_58 (Ht rfl) (Ht rfl) rfl (i:=0) rfl (aK rfl) rfl rfl (eJ (fK rfl (fJ (fY A_58 Z_58 rfl (i:=0) rfl rfl) ?_)))))
  exact (xZ (by rw [hb]; rfl))
 ·have hn : ¬ n < 0 := by simpa using hb
  refine cU (ts (rm rfl (ro rfl (Al U_2 U_263 (Ht rfl) (r:=((n.natAbs:Nat):Int)) (by rw [IntKind.wrap_u64]; omega)) ?_)))
  refine ro rfl (cZ Tryz.call238 (Gs zo) ⟨(Ht rfl),trivial⟩) (ro rfl (vJ cV (Ht rfl)) (gZ Z_58 (Ht rfl) (Ht rfl) rfl (i:=0) rfl (aK rfl) rfl rfl (eJ (fK rfl (fJ (fY A_58 Z_58 rfl (i:=0) rfl rfl) ?_)))))
  exact (xZ (by rw [hb]; rfl))
theorem pM {b:Bool} {m:Nat}:bI Tryz.prog 234 [aI b,bB m] (jX (Iw b m)):=by
 refine bI.intro Tryz.func234 rfl Tryz.ntmps234 rfl (fun cx=>(ts (rn rfl (eK (Ts:=[Is (.bool false),Is (.slice none 0 0)]) O_58 rfl (fun V=>aW zd (aW zd (aG)))) fun B4=>(eJ (ts (rm rfl (rm rfl (fZ rfl rfl (eY rfl rfl (Ht rfl) (fun h=>cX (Ht rfl))) (fZ rfl rfl (eY rfl rfl (Ht rfl) (fun h=>dU U_56 (fW rfl h) aD)) (fZ rfl rfl (eY rfl rfl (Ht rfl) (fun h=>jU (fW rfl h) (cJ 0))) (ro rfl (iU (Ht rfl) (fun h=>(fW rfl h))) (rm rfl ?_))))))))))))
 refine ro rfl (vJ (Ht rfl) (Ht rfl)) (gZ Z_58 (Ht rfl) (Ht rfl) rfl (i:=0) rfl (aK rfl) rfl rfl (eJ (fK rfl (fJ (fY A_58 Z_58 rfl (i:=0) rfl rfl) ?_))))
 exact a5k
theorem qL {x:Int}:bI Tryz.prog 167 [jX x] (jX (-x)):=by
 refine bI.intro Tryz.func167 rfl Tryz.ntmps167 rfl (fun cx=>(ts (rn rfl (fU (Ht rfl)) fun B1=>(rn rfl (eK (Ts:=[Is (.bool false),Is (.slice none 0 0)]) O_58 rfl (fun V=>aW zd (aW zd (aG)))) fun B2=>(eJ (ts (ro rfl (eW lN (Ht rfl) rfl) (ro rfl (fX A_4 Z_4 (Ht rfl) (i:=0) rfl rfl) (ro rfl (fH (Ht rfl)) (ro rfl (eW fD (Ht rfl) rfl) (ro rfl (fX A_56 Z_56 (Ht rfl) (i:=0) rfl rfl) (ro rfl (cZ K_234 pM ⟨(Ht rfl),(Ht rfl),trivial⟩) ?_))))))))))))
 refine gZ Z_58 (Ht rfl) (Ht rfl) rfl (i:=1) rfl (aK rfl) rfl rfl (eJ (fK rfl (fJ (fY A_58 Z_58 rfl (i:=1) rfl rfl) ?_)))
 exact (rO (Vb x))
theorem vM {x y:Int} (hx:(dg x.natAbs).length ≤ 17592186044416) (hy:(dg y.natAbs).length ≤ 17592186044416):bI Tryz.prog 152 [jX x,jX y] (jX (x + y)):=by
 refine bI.intro Tryz.func152 rfl Tryz.ntmps152 rfl (fun cx=>(ts (rn rfl (fU (Ht rfl)) fun B2=>(rn rfl (fU (Ht rfl)) fun B3=>(rn rfl (eK (Ts:=[Is (.bool false),Is (.slice none 0 0)]) O_58 rfl (fun V=>aW zd (aW zd (aG)))) fun B4=>(eJ (cK (ts (ro rfl (eW lN (Ht rfl) rfl) (ro rfl (fX A_4 Z_4 (Ht rfl) (i:=0) rfl rfl) (ro rfl (eW lN (Ht rfl) rfl) (ro rfl (fX A_4 Z_4 (Ht rfl) (i:=1) rfl rfl) (ro rfl (a4Y Tryz.runUnderlying4 (Ht rfl) (Ht rfl)) ?_)))))))))))))
 refine eJ (dQ (Ht rfl) (fun hb=>?_) (fun hb=>?_))
 ·have he : decide (x < 0) = decide (y < 0) := by simpa using hb
  refine cK (fV (m:=7) (dp 2 rfl (eW lN (Ht rfl) rfl) (dq 10 0 rfl (fX A_4 Z_4 (Ht rfl) (i:=0) rfl rfl) (dp 2 rfl (eW fD (Ht rfl) rfl) (dq 12 2 rfl (fX A_56 Z_56 (Ht rfl) (i:=0) rfl rfl) (dp 3 rfl (eW fD (Ht rfl) rfl) (dq 14 4 rfl (fX A_56 Z_56 (Ht rfl) (i:=1) rfl rfl) (dP 13 3 15 5 rfl (cZ Tryz.call235 (a5M zo zo) ⟨(Ht rfl),(Ht rfl),trivial⟩) (fG aT rfl (by kernel_rfl) (zF (aJ (aJ (aJ (aV ?_))))))))))))))
  refine ro rfl (cZ K_234 pM ⟨(Ht rfl),(Ht rfl),trivial⟩) (gZ Z_58 (Ht rfl) (Ht rfl) rfl (i:=2) rfl (aK rfl) rfl rfl (eJ (fK rfl (fJ (fY A_58 Z_58 rfl (i:=2) rfl rfl) ?_))))
  exact (rO (a0F he))
 ·have he : decide (x < 0) ≠ decide (y < 0) := by simpa using hb
  refine cU (cK (ts (ro rfl (eW fD (Ht rfl) rfl) (ro rfl (fX A_56 Z_56 (Ht rfl) (i:=0) rfl rfl) (ro rfl (eW fD (Ht rfl) rfl) (ro rfl (fX A_56 Z_56 (Ht rfl) (i:=1) rfl rfl) (ro rfl (cZ Tryz.call199 (Xb zo zo) ⟨(Ht rfl),(Ht rfl),trivial⟩) (ro rfl (oQ (Ht rfl) cV) (eJ (dQ (Ht rfl) (fun hc=>?_) (fun hc=>?_)))))))))))
  ·have hle : y.natAbs ≤ x.natAbs := a1C (by simpa using hc)
   refine cK (fV (m:=7) (dp 2 rfl (eW lN (Ht rfl) rfl) (dq 24 0 rfl (fX A_4 Z_4 (Ht rfl) (i:=0) rfl rfl) (dp 2 rfl (eW fD (Ht rfl) rfl) (dq 26 2 rfl (fX A_56 Z_56 (Ht rfl) (i:=0) rfl rfl) (dp 3 rfl (eW fD (Ht rfl) rfl) (dq 28 4 rfl (fX A_56 Z_56 (Ht rfl) (i:=1) rfl rfl) (dP 27 3 29 5 rfl (cZ Tryz.call236 (a3A zo zo) ⟨(Ht rfl),(Ht rfl),trivial⟩) (fG aT rfl (by kernel_rfl) (zF (aJ (aJ (aJ (aV ?_))))))))))))))
   refine ro rfl (cZ K_234 pM ⟨(Ht rfl),(Ht rfl),trivial⟩) (gZ Z_58 (Ht rfl) (Ht rfl) rfl (i:=2) rfl (aK rfl) rfl rfl (eJ (fK rfl (fJ (fY A_58 Z_58 rfl (i:=2) rfl rfl) ?_))))
   exact (rO (Lw he hle))
  ·have hle : x.natAbs ≤ y.natAbs := Nat.le_of_lt (a1D (by simpa using hc))
   refine cU (cK (fV (m:=7) (dp 3 rfl (eW lN (Ht rfl) rfl) (dq 32 0 rfl (fX A_4 Z_4 (Ht rfl) (i:=1) rfl rfl) (dp 3 rfl (eW fD (Ht rfl) rfl) (dq 34 2 rfl (fX A_56 Z_56 (Ht rfl) (i:=1) rfl rfl) (dp 2 rfl (eW fD (Ht rfl) rfl) (dq 36 4 rfl (fX A_56 Z_56 (Ht rfl) (i:=0) rfl rfl) (dP 35 3 37 5 rfl (cZ Tryz.call236 (a3A zo zo) ⟨(Ht rfl),(Ht rfl),trivial⟩) (fG aT rfl (by kernel_rfl) (zF (aJ (aJ (aJ (aV ?_)))))))))))))))
   refine ro rfl (cZ K_234 pM ⟨(Ht rfl),(Ht rfl),trivial⟩) (gZ Z_58 (Ht rfl) (Ht rfl) rfl (i:=2) rfl (aK rfl) rfl rfl (eJ (fK rfl (fJ (fY A_58 Z_58 rfl (i:=2) rfl rfl) ?_))))
   exact (rO (by rw [Lw (Ne.symm he) hle,Int.add_comm]))
theorem qM {x y:Int} (hx:(dg x.natAbs).length ≤ 17592186044416) (hy:(dg y.natAbs).length ≤ 17592186044416):bI Tryz.prog 151 [jX x,jX y] (jX (x * y)):=by
 refine bI.intro Tryz.func151 rfl Tryz.ntmps151 rfl (fun cx=>(ts (rn rfl (fU (Ht rfl)) fun B2=>(rn rfl (fU (Ht rfl)) fun B3=>(rn rfl (eK (Ts:=[Is (.bool false),Is (.slice none 0 0)]) O_58 rfl (fun V=>aW zd (aW zd (aG)))) fun B4=>(eJ (cK (fV (m:=10) (dp 2 rfl (eW lN (Ht rfl) rfl) (dq 5 0 rfl (fX A_4 Z_4 (Ht rfl) (i:=0) rfl rfl) (dp 3 rfl (eW lN (Ht rfl) rfl) (dq 7 2 rfl (fX A_4 Z_4 (Ht rfl) (i:=1) rfl rfl) (dP 6 1 8 3 rfl (a4Z Tryz.runUnderlying4 (Ht rfl) (Ht rfl)) ?_)))))))))))))
 refine dp 2 rfl (eW fD (Ht rfl) rfl) (dq 10 5 rfl (fX A_56 Z_56 (Ht rfl) (i:=0) rfl rfl) (dp 3 rfl (eW fD (Ht rfl) rfl) (dq 12 7 rfl (fX A_56 Z_56 (Ht rfl) (i:=1) rfl rfl) (dP 11 6 13 8 rfl (cZ K_154 (Fa zo zo) ⟨(Ht rfl),(Ht rfl),trivial⟩) (fG aT rfl (by kernel_rfl) (zF (zF (aJ (aJ (aV (ro rfl (cZ K_234 pM ⟨(Ht rfl),(Ht rfl),trivial⟩) (gZ Z_58 (Ht rfl) (Ht rfl) rfl (i:=2) rfl (aK rfl) rfl rfl ?_))))))))))))
 refine eJ (fK rfl (fJ (fY A_58 Z_58 rfl (i:=2) rfl rfl) ?_))
 exact (rO (Vc x y))
theorem lW {x:Int} {n:Nat} (hx:(dg x.natAbs).length ≤ 17592186044416) (hn:(dg n).length ≤ 17592186044416):bI Tryz.prog 155 [jX x,bB n] (jX (x * n)):=by
 refine bI.intro Tryz.func155 rfl Tryz.ntmps155 rfl (fun cx=>(ts (rn rfl (fU (Ht rfl)) fun B2=>(rn rfl (eK (Ts:=[Is (.bool false),Is (.slice none 0 0)]) O_58 rfl (fun V=>aW zd (aW zd (aG)))) fun B4=>(eJ (cK (fV (m:=6) (dp 2 rfl (eW lN (Ht rfl) rfl) (dq 5 0 rfl (fX A_4 Z_4 (Ht rfl) (i:=0) rfl rfl) (dp 2 rfl (eW fD (Ht rfl) rfl) (dq 7 2 rfl (fX A_56 Z_56 (Ht rfl) (i:=0) rfl rfl) (dp 1 rfl (cX (Ht rfl)) (dP 8 3 9 4 rfl (cZ K_154 (Fa zo zo) ⟨(Ht rfl),(Ht rfl),trivial⟩) ?_)))))))))))))
 refine fG aT rfl (by kernel_rfl) (zF (aJ (aJ (aV (ro rfl (cZ K_234 pM ⟨(Ht rfl),(Ht rfl),trivial⟩) (gZ Z_58 (Ht rfl) (Ht rfl) rfl (i:=1) rfl (aK rfl) rfl rfl (eJ (fK rfl (fJ (fY A_58 Z_58 rfl (i:=1) rfl rfl) ?_)))))))))
 exact (rO (Ow x n))
theorem Gw {x y:Int} (hx:(dg x.natAbs).length ≤ 17592186044415) (hy:(dg y.natAbs).length ≤ 17592186044415):bI Tryz.prog 156 [jX x,jX y] (aN .i64 (qW x y)):=by
 have hny:=Bu y
 have hs:=nT (x:=x) (y:=-y) hx zo
 refine bI.intro Tryz.func156 rfl Tryz.ntmps156 rfl (fun cx=>(ts (rn rfl (fU (Ht rfl)) fun B2=>(rn rfl (fU (Ht rfl)) fun B3=>(ro rfl (cQ (cJ 0)) (eJ (cK (fV (m:=5) (dp 2 rfl (eG A_58 Z_58 (Ht rfl) (i:=0) rfl rfl rfl) (dp 3 rfl (eG A_58 Z_58 (Ht rfl) (i:=1) rfl rfl rfl) (dq 7 1 rfl (cZ K_167 qL ⟨(Ht rfl),trivial⟩) (dP 6 0 8 2 rfl (cZ K_152 (vM zo zo) ⟨(Ht rfl),(Ht rfl),trivial⟩) (C.D_new (Ei:=[]) rfl rfl rfl bW (eK (Ts:=[Is (.bool false),Is (.slice none 0 0)]) O_58 rfl (fun V=>aW zd (aW zd (aG)))) ?_)))))))))))))
 refine fG aT rfl (by kernel_rfl) (zF (C.F_new (fun B5=>aV (gZ Z_58 (Ht rfl) (Ht rfl) rfl (i:=2) rfl (aK rfl) rfl rfl (eJ (cK (ts (ro rfl (eW lN (Ht rfl) rfl) (ro rfl (fX A_4 Z_4 (Ht rfl) (i:=2) rfl rfl) (eJ (dQ (Ht rfl) (fun hb=>?_) (fun hb=>?_))))))))))))
 ·have hn : x + -y < 0 := by simpa using hb
  refine ts (ro rfl (cQ cV) (eJ (fK rfl (fJ (fQ rfl) ?_))))
  exact (bE (a1A hn))
 ·have hn : ¬ x + -y < 0 := by simpa using hb
  refine cU (ts (ro rfl (eW fD (Ht rfl) rfl) (ro rfl (fX A_56 Z_56 (Ht rfl) (i:=2) rfl rfl) (ro rfl (dU U_56 (Ht rfl) aD) (ro rfl (Ry (Ht rfl) (cJ 1)) (ra rfl (eJ (fK rfl (fJ (fQ rfl) ?_)))))))))
  exact (bE (a1z hn))
end
section
open Go Go.RowKit
theorem Wm {n : Nat} {E : dC} {H : Hp} {d : Option Tmp} {t : TypeId} {pos : String} {af : Array Edge} {g : Option (Nat × Bool)} {x0 : Operand} {T0 T1 : Ty} (h0 : bH E x0 (fO [T0, T1])) :
  aM Tryz.prog n E H ⟨d,.build 60 #[(0,x0)],t,pos,af,g⟩ (fO [T0,T1,Is (.bool false),Is (.slice none 0 0),Is (.slice none 0 0)]) :=
 kS (parts := [(0, x0)]) fun a V w hs => by
  obtain ⟨v0,e0,c0⟩:=h0 n V a hs
  obtain ⟨c0_0,c0_1,rfl⟩:∃ c0_0 c0_1,v0 = [c0_0,c0_1]:=Rk (by simpa using c0.length)
  refine ⟨.agg #[c0_0,c0_1,(.bool false),(.slice none 0 0),(.slice none 0 0)],?_,[c0_0,c0_1,(.bool false),(.slice none 0 0),(.slice none 0 0)],rfl,aW (c0.at (i:=0) rfl rfl) (aW (c0.at (i:=1) rfl rfl) (aW (⟨rfl,trivial⟩) (aW (⟨rfl,trivial⟩) (aW (⟨rfl,trivial⟩) (aG)))))⟩
  simp [e0,Instr.build,Instr.fill,Sem.run_bind,Result.andThen,jM,O_60,U_60,Z_56,Z_58]
theorem rT {n : Nat} {E : dC} {H : Hp} {d : Option Tmp} {t : TypeId} {pos : String} {af : Array Edge} {g : Option (Nat × Bool)} {x0 x1 x2 : Operand} {T0 T1 T2 T3 T4 : Ty} (h0 : bH E x0 (fO [T0, T1])) (h1 : bH E x1 (fO [T2, T3])) [s2 : eA T4 1 false] (h2 : bH E x2 T4) :
  aM Tryz.prog n E H ⟨d,.build 60 #[(0,x0),(1,x1),(2,x2)],t,pos,af,g⟩ (fO [T0,T1,T2,T3,T4]) :=
 kS (parts := [(0, x0), (1, x1), (2, x2)]) fun a V w hs => by
  obtain ⟨v0,e0,c0⟩:=h0 n V a hs
  obtain ⟨c0_0,c0_1,rfl⟩:∃ c0_0 c0_1,v0 = [c0_0,c0_1]:=Rk (by simpa using c0.length)
  obtain ⟨v1,e1,c1⟩:=h1 n V a hs
  obtain ⟨c1_0,c1_1,rfl⟩:∃ c1_0 c1_1,v1 = [c1_0,c1_1]:=Rk (by simpa using c1.length)
  have p2:=h2 n V a hs
  generalize e2:a.eval x2 = v2 at p2
  have q2:=(s2.ok v2 V p2).2.2 rfl
  refine ⟨.agg #[c0_0,c0_1,c1_0,c1_1,v2],?_,[c0_0,c0_1,c1_0,c1_1,v2],rfl,aW (c0.at (i:=0) rfl rfl) (aW (c0.at (i:=1) rfl rfl) (aW (c1.at (i:=0) rfl rfl) (aW (c1.at (i:=1) rfl rfl) (aW (⟨p2,q2⟩) (aG)))))⟩
  simp [e0,e1,e2,Instr.build,Instr.fill,Sem.run_bind,Result.andThen,jM,q2.cells,O_60,U_60,Z_56,Z_58]
theorem gF (a:Addr) (w:World):(Instr.fieldAt 60 (.pointer (some a)) 0).run Tryz.prog w = .ok (.pointer (some (a.add 0))) w:=by
 simp [Instr.fieldAt,Instr.sureAddr,fieldPlace,Sem.run_bind,Result.andThen,U_60,Z_58]
theorem iA (a:Addr) (w:World):(Instr.fieldAt 60 (.pointer (some a)) 1).run Tryz.prog w = .ok (.pointer (some (a.add 2))) w:=by
 simp [Instr.fieldAt,Instr.sureAddr,fieldPlace,Sem.run_bind,Result.andThen,U_60,Z_58]
theorem qO (a:Addr) (w:World):(Instr.fieldAt 60 (.pointer (some a)) 2).run Tryz.prog w = .ok (.pointer (some (a.add 4))) w:=by
 simp [Instr.fieldAt,Instr.sureAddr,fieldPlace,Sem.run_bind,Result.andThen,U_60,Z_56]
end
section
open Go Go.RowKit
theorem vK {A B:Int} {D:Nat} (hD:0 < D) (hA:(dg A.natAbs).length ≤ 17592186044415) (hB:(dg B.natAbs).length ≤ 17592186044415) (hD2:(dg D).length ≤ 17592186044415):bI Tryz.prog 150 [jX A,jX B,bB D] (aE (Qi.mk' A B D)):=by
 have hg1:=Yl hA hB
 have hg2:=Yl hg1 hD2
 have hgp:Nat.gcd (Nat.gcd A.natAbs B.natAbs) D ≠ 0:=fun e=>by have:=Nat.gcd_eq_zero_iff.1 e; omega
 refine bI.intro Tryz.func150 rfl Tryz.ntmps150 rfl (fun cx=>(ts (rn rfl (fU (Ht rfl)) fun B3=>(rn rfl (fU (Ht rfl)) fun B4=>(rn rfl (eK (Ts:=[Is (.bool false),Is (.slice none 0 0),Is (.bool false),Is (.slice none 0 0),Is (.slice none 0 0)]) O_60 rfl (fun V=>aW zd (aW zd (aW zd (aW zd (aW zd (aG))))))) fun B6=>(eJ (ts (ro rfl (eW fD (Ht rfl) rfl) (ro rfl (fX A_56 Z_56 (Ht rfl) (i:=0) rfl rfl) ?_)))))))))
 refine ro rfl (eW fD (Ht rfl) rfl) (ro rfl (fX A_56 Z_56 (Ht rfl) (i:=1) rfl rfl) (ro rfl (cZ Tryz.call231 (a3x zo zo) ⟨(Ht rfl),(Ht rfl),trivial⟩) (rm rfl (ro rfl (cZ Tryz.call231 (a3x zo zo) ⟨(Ht rfl),(Ht rfl),trivial⟩) (ra rfl (eJ (cK (mI (fun (uu:Unit)=>True) (fun (uu:Unit)=>[(2,bB (D / (Nat.gcd (Nat.gcd A.natAbs B.natAbs) D))),(3,bO B3 0),(4,bO B4 0),(6,bO B6 0)]) (fun (uu:Unit)=>[box B3 58 [aI (decide (A < 0)),bB (A.natAbs / (Nat.gcd (Nat.gcd A.natAbs B.natAbs) D))],box B4 58 [aI (decide (B < 0)),bB (B.natAbs / (Nat.gcd (Nat.gcd A.natAbs B.natAbs) D))],box B6 60 [Is (.bool false),Is (.slice none 0 0),Is (.bool false),Is (.slice none 0 0),Is (.slice none 0 0)]]) ?_ (fun uu _=>?_)))))))))
 ·refine ts (rm rfl (ro rfl (cZ Tryz.call232 a3y ⟨(Ht rfl), trivial⟩) (ro rfl (fH (Ht rfl)) (eJ (dQ (Ht rfl) (fun hb => ?_) (fun hb => ?_))))))
  ·simp at hb
   refine ts (ro rfl (eW fD (Ht rfl) rfl) (ro rfl (fX A_56 Z_56 (Ht rfl) (i:=0) rfl rfl) (rm rfl (ro rfl (cZ Tryz.call233 (Pv zo zo zo) ⟨(Ht rfl),(Ht rfl),trivial⟩) (rm rfl (ro rfl (dY (Ht rfl) rfl) (ro rfl (dY (Ht rfl) rfl) (ro rfl (eW fD (Ht rfl) rfl) (oZ Z_56 (Ht rfl) (Ht rfl) (i:=0) rfl (aK rfl) rfl (eJ (ts (ro rfl (eW fD (Ht rfl) rfl) (ro rfl (fX A_56 Z_56 (Ht rfl) (i:=1) rfl rfl) (rm rfl (ro rfl (cZ Tryz.call233 (Pv zo zo zo) ⟨(Ht rfl),(Ht rfl),trivial⟩) ?_)))))))))))))))
   refine rm rfl (ro rfl (dY (Ht rfl) rfl) (ro rfl (dY (Ht rfl) rfl) (ro rfl (eW fD (Ht rfl) rfl) (oZ Z_56 (Ht rfl) (Ht rfl) (i:=1) rfl (aK rfl) rfl (eJ (cY (rm rfl (rm rfl (ro rfl (cZ Tryz.call233 (Pv zo zo zo) ⟨(Ht rfl),(Ht rfl),trivial⟩) (rm rfl (ro rfl (dY (Ht rfl) rfl) (ro rfl (dY (Ht rfl) rfl) (ra rfl (eJ (cD () trivial (zS rfl) (aU (aB (by first | rfl | simp)) (aU (aB (by first | rfl | simp)) (aU (aB rfl) aY))))))))))))))))))
  ·simp at hb
   refine cU (cD () trivial (aZ rfl (iJ (by rw [hb,Nat.div_one])) (zS rfl)) (aU (aB (by rw [hb,Nat.div_one])) (aU (aB (by rw [hb,Nat.div_one])) (aU (aB rfl) aY))))
 ·refine cK (mI (fun (uu : Unit) => True) (fun (uu : Unit) => [(2, bB (if D / (Nat.gcd (Nat.gcd A.natAbs B.natAbs) D) = 1 then 0 else D / (Nat.gcd (Nat.gcd A.natAbs B.natAbs) D))), (3, bO B3 0), (4, bO B4 0), (6, bO B6 0)]) (fun (uu : Unit) => [box B3 58 [aI (decide (A < 0)), bB (A.natAbs / (Nat.gcd (Nat.gcd A.natAbs B.natAbs) D))], box B4 58 [aI (decide (B < 0)), bB (B.natAbs / (Nat.gcd (Nat.gcd A.natAbs B.natAbs) D))], box B6 60 [Is (.bool false), Is (.slice none 0 0), Is (.bool false), Is (.slice none 0 0), Is (.slice none 0 0)]]) ?_ (fun uu _ => ?_))
  ·refine ts (rm rfl (ro rfl (cZ Tryz.call232 a3y ⟨(Ht rfl), trivial⟩) (eJ (dQ (Ht rfl) (fun hb => ?_) (fun hb => ?_)))))
   ·simp only [decide_eq_true_eq] at hb
    refine cY (ro rfl (cQ cV) (eJ (cD () trivial (aZ rfl (fun v V h=>iJ (by rw [if_pos hb]) v V (oL v V h)) (zS rfl)) (eO.refl _))))
   ·simp only [decide_eq_false_iff_not] at hb
    refine cU (cD () trivial (aZ rfl (iJ (by rw [if_neg hb])) (zS rfl)) (eO.refl _))
  ·refine ts (ro rfl (eG A_58 Z_58 (Ht rfl) (i := 0) rfl rfl rfl) (ro rfl (eG A_58 Z_58 (Ht rfl) (i := 1) rfl rfl rfl) (rm rfl (ro rfl (rT (Ht rfl) (Ht rfl) (Ht rfl)) (gZ Z_60 (Ht rfl) (Ht rfl) rfl (i := 2) rfl (aK rfl) rfl rfl (eJ (fK rfl (fJ (fY A_60 Z_60 rfl (i := 2) rfl rfl) ?_))))))))
   exact (a2J hD)
theorem oX {x:Qi}:bI Tryz.prog 153 [aE x] (bB x.den):=by
 refine bI.intro Tryz.func153 rfl Tryz.ntmps153 rfl (fun cx=>(ts (rn rfl (fU (Ht rfl)) fun B1=>(ro rfl (cQ cV) (eJ (cK (ts (ro rfl (eW qO (Ht rfl) rfl) (ro rfl (fX A_56 Z_56 (Ht rfl) (i:=0) rfl rfl) (ro rfl (dU U_56 (Ht rfl) aD) (ro rfl (eH (Ht rfl) (cJ 0)) (eJ (dQ (Ht rfl) (fun hb=>?_) (fun hb=>?_))))))))))))))
 ·simp at hb
  have h1:x.den = 1:=Ab (cC.1 (by simpa using hb))
  refine ts (ro rfl (cI (xs:=[_]) U_56 Z_218 Tryz.zeroValue218 (cW (cJ 1) cG) rfl rfl rfl) (ra rfl (eJ (fK rfl (fJ (fQ rfl) ?_)))))
  exact (fun v V h=>iJ h1.symm v V (Lf v V h))
 ·simp at hb
  have h1:du x = x.den:=wS (fun e=>hb (by simp [e,gE]))
  refine cU (ts (ro rfl (eW qO (Ht rfl) rfl) (ro rfl (fX A_56 Z_56 (Ht rfl) (i:=0) rfl rfl) (ra rfl (eJ (fK rfl (fJ (fQ rfl) ?_)))))))
  exact (iJ h1)
theorem oW {n:Int} (h1:-9223372036854775808 ≤ n) (h2:n ≤ 9223372036854775807):bI Tryz.prog 52 [aN .i64 n] (aE (Qi.ofInt n)):=by
 refine bI.intro Tryz.func52 rfl Tryz.ntmps52 rfl (fun cx=>(ts (rn rfl (eK (Ts:=[Is (.bool false),Is (.slice none 0 0),Is (.bool false),Is (.slice none 0 0),Is (.slice none 0 0)]) O_60 rfl (fun V=>aW zd (aW zd (aW zd (aW zd (aW zd (aG))))))) fun B2=>(eJ (ts (rm rfl (ro rfl (cZ Tryz.call157 (Gt h1 h2) ⟨(Ht rfl),trivial⟩) (ro rfl (Wm (Ht rfl)) (gZ Z_60 (Ht rfl) (Ht rfl) rfl (i:=0) rfl (aK rfl) rfl rfl ?_)))))))))
 refine eJ (fK rfl (fJ (fY A_60 Z_60 rfl (i:=0) rfl rfl) ?_))
 exact Rq
theorem a3u {p q d:Int} (p1:-9223372036854775808 ≤ p) (p2:p ≤ 9223372036854775807) (q1:-9223372036854775808 ≤ q) (q2:q ≤ 9223372036854775807) (d1:-9223372036854775808 ≤ d) (d2:d ≤ 9223372036854775807) (hd:d ≠ 0):bI Tryz.prog 108 [aN .i64 p,aN .i64 q,aN .i64 d] (fE [aE (Qi.frac p q d),aN .i64 0]):=by
 have lp:=a4v p1 p2; have lq:=a4v q1 q2; have ld:=a4v d1 d2; have np:=Bu p; have nq:=Bu q
 refine bI.intro Tryz.func108 rfl Tryz.ntmps108 rfl (fun cx=>(ts (rn rfl (eK (Ts:=[Is (.bool false),Is (.slice none 0 0),Is (.bool false),Is (.slice none 0 0),Is (.slice none 0 0)]) O_60 rfl (fun V=>aW zd (aW zd (aW zd (aW zd (aW zd (aG))))))) fun B6=>(ro rfl (cQ (cJ 0)) (eJ (cK (ts (rm rfl (ro rfl (qZ (Ht rfl) cV) (eJ (kA (Ht rfl) (by simp [hd]) ?_)))))))))))
 refine cU (ts (rm rfl (ro rfl (cZ Tryz.call157 (Gt p1 p2) ⟨(Ht rfl),trivial⟩) (rm rfl (ro rfl (cZ Tryz.call157 (Gt q1 q2) ⟨(Ht rfl),trivial⟩) (rm rfl (ro rfl (cZ Tryz.call157 (Gt d1 d2) ⟨(Ht rfl),trivial⟩) (rn rfl (eK (Ts:=[Is (.bool false),Is (.slice none 0 0)]) O_58 rfl (fun V=>aW zd (aW zd (aG)))) fun B8=>(rn rfl (eK (Ts:=[Is (.bool false),Is (.slice none 0 0)]) O_58 rfl (fun V=>aW zd (aW zd (aG)))) fun B9=>?_)))))))))
 refine rn rfl (eK (Ts:=[Is (.bool false),Is (.slice none 0 0)]) O_58 rfl (fun V=>aW zd (aW zd (aG)))) fun B10=>gZ Z_58 (Ht rfl) (Ht rfl) rfl (i:=1) rfl (aK rfl) rfl rfl (gZ Z_58 (Ht rfl) (Ht rfl) rfl (i:=2) rfl (aK rfl) rfl rfl (gZ Z_58 (Ht rfl) (Ht rfl) rfl (i:=3) rfl (aK rfl) rfl rfl (eJ (cK (wG (fun (a:Int) (b:Int)=>Qi.mk' a b d.natAbs = Qi.frac p q d ∧ (dg a.natAbs).length ≤ 2 ∧ (dg b.natAbs).length ≤ 2) (fun (a:Int) (b:Int)=>[(6,bO B6 0),(8,bO B8 0),(9,bO B9 0),(10,bO B10 0)]) (fun (a:Int) (b:Int)=>[box B6 60 [Is (.bool false),Is (.slice none 0 0),Is (.bool false),Is (.slice none 0 0),Is (.slice none 0 0)],box B8 58 [aI (decide (a < 0)),bB (a).natAbs],box B9 58 [aI (decide (b < 0)),bB (b).natAbs],box B10 58 [aI (decide (d < 0)),bB (d).natAbs]]) ?_ (fun a b ⟨hab,ha,hb⟩=>?_))))))
 ·refine ts (ro rfl (eW lN (Ht rfl) rfl) (ro rfl (fX A_4 Z_4 (Ht rfl) (i := 3) rfl rfl) (eJ (dQ (Ht rfl) (fun hn => ?_) (fun hn => ?_)))))
  ·simp only [decide_eq_true_eq] at hn
   refine fV (m:=3) (dp 8 rfl (eG A_58 Z_58 (Ht rfl) (i:=1) rfl rfl rfl) (dq 22 0 rfl (cZ K_167 qL ⟨(Ht rfl),trivial⟩) (dp 9 rfl (eG A_58 Z_58 (Ht rfl) (i:=2) rfl rfl rfl) (fG aT rfl (by kernel_rfl) (aJ (aJ (aJ (aV (ro rfl (cZ K_167 qL ⟨(Ht rfl),trivial⟩) (gZ Z_58 (Ht rfl) (Ht rfl) rfl (i:=1) rfl (aK rfl) rfl rfl (gZ Z_58 (Ht rfl) (Ht rfl) rfl (i:=2) rfl (aK rfl) rfl rfl (eJ (cD (-p,-q) ⟨Qi.frac_neg hn,by dsimp only; omega,by dsimp only; omega⟩ (zS rfl) (aU (aB rfl) (aU (aB rfl) (aU (aB rfl) (aU (aB rfl) aY)))))))))))))))))
  ·simp only [decide_eq_false_iff_not] at hn
   refine cU (cD (p,q) ⟨Qi.frac_pos hn hd,by omega,by omega⟩ (zS rfl) (eO.refl _))
 ·refine ts (ro rfl (eG A_58 Z_58 (Ht rfl) (i := 1) rfl rfl rfl) (ro rfl (eG A_58 Z_58 (Ht rfl) (i := 2) rfl rfl rfl) (ro rfl (eW fD (Ht rfl) rfl) (ro rfl (fX A_56 Z_56 (Ht rfl) (i := 3) rfl rfl) (ro rfl (cZ K_150 (vK zo zo zo zo) ⟨(Ht rfl), (Ht rfl), (Ht rfl), trivial⟩) (gZ Z_60 (Ht rfl) (Ht rfl) rfl (i := 0) rfl (aK rfl) rfl rfl (ro rfl (cQ (cJ 0)) (eJ (bM rfl (fJ (fY A_60 Z_60 rfl (i := 0) rfl rfl) ?_) (fQ rfl))))))))))
  exact (jE hab)
theorem wJ {x y:Qi} {L M:Nat} [hx:aH x L] [hy:aH y M] (h:L + M + 1 ≤ 17592186044415):bI Tryz.prog 71 [aE x,aE y] (aE (x + y)):=by
 have hxa:=oT hx.fit; have hxb:=oU hx.fit; have hxd:=oV hx.fit
 have hya:=oT hy.fit; have hyb:=oU hy.fit; have hyd:=oV hy.fit
 have hxp:=x.den_pos; have hyp:=y.den_pos; have hdp:=Nat.mul_pos hxp hyp
 have e1:=iI x.a y.den; have e2:=iI y.a x.den; have e3:=iI x.b y.den; have e4:=iI y.b x.den; have e5:=yI x.den y.den
 have e6:=nT (x:=x.a * y.den) (y:=y.a * x.den) (L:=L + M) zo zo; have e7:=nT (x:=x.b * y.den) (y:=y.b * x.den) (L:=L + M) zo zo
 refine bI.intro Tryz.func71 rfl Tryz.ntmps71 rfl (fun cx=>(ts (rn rfl (fU (Ht rfl)) fun B2=>(rn rfl (fU (Ht rfl)) fun B3=>(rn rfl (eK (Ts:=[Is (.bool false),Is (.slice none 0 0),Is (.bool false),Is (.slice none 0 0),Is (.slice none 0 0)]) O_60 rfl (fun V=>aW zd (aW zd (aW zd (aW zd (aW zd (aG))))))) fun B4=>(eJ (cK (fV (m:=3) (dp 2 rfl (eG A_60 Z_60 (Ht rfl) (i:=0) rfl rfl rfl) (dq 7 0 rfl (cZ K_153 oX ⟨(Ht rfl),trivial⟩) ?_))))))))))
 refine dp 3 rfl (eG A_60 Z_60 (Ht rfl) (i:=1) rfl rfl rfl) (fG aT rfl (by kernel_rfl) (aJ (aJ (aJ (aV (ro rfl (cZ K_153 oX ⟨(Ht rfl),trivial⟩) (ra rfl (ra rfl (eJ (cK (fV (m:=20) (dp 2 rfl (eW gF (Ht rfl) rfl) (dq 11 0 rfl (eG A_58 Z_58 (Ht rfl) (i:=0) rfl rfl rfl) (dp 6 rfl (cX (Ht rfl)) (dP 12 1 13 2 rfl (cZ K_155 (lW zo zo) ⟨(Ht rfl),(Ht rfl),trivial⟩) (dp 3 rfl (eW gF (Ht rfl) rfl) (dq 15 4 rfl (eG A_58 Z_58 (Ht rfl) (i:=1) rfl rfl rfl) ?_)))))))))))))))))
 refine dp 5 rfl (cX (Ht rfl)) (dP 16 5 17 6 rfl (cZ K_155 (lW zo zo) ⟨(Ht rfl),(Ht rfl),trivial⟩) (dP 14 3 18 7 rfl (cZ K_152 (vM zo zo) ⟨(Ht rfl),(Ht rfl),trivial⟩) (dp 2 rfl (eW iA (Ht rfl) rfl) (dq 20 9 rfl (eG A_58 Z_58 (Ht rfl) (i:=0) rfl rfl rfl) (dp 6 rfl (cX (Ht rfl)) (dP 21 10 22 11 rfl (cZ K_155 (lW zo zo) ⟨(Ht rfl),(Ht rfl),trivial⟩) (dp 3 rfl (eW iA (Ht rfl) rfl) (dq 24 13 rfl (eG A_58 Z_58 (Ht rfl) (i:=1) rfl rfl rfl) ?_))))))))
 refine dp 5 rfl (cX (Ht rfl)) (dP 25 14 26 15 rfl (cZ K_155 (lW zo zo) ⟨(Ht rfl),(Ht rfl),trivial⟩) (dP 23 12 27 16 rfl (cZ K_152 (vM zo zo) ⟨(Ht rfl),(Ht rfl),trivial⟩) (dp 5 rfl (cX (Ht rfl)) (dp 6 rfl (cX (Ht rfl)) (fG aT rfl (by kernel_rfl) (zF (zF (zF (zF (zF (aV (ro rfl (cZ K_154 (Fa zo zo) ⟨(Ht rfl),(Ht rfl),trivial⟩) ?_))))))))))))
 refine ro rfl (cZ K_150 (vK (by first | assumption | omega) zo zo zo) ⟨(Ht rfl),(Ht rfl),(Ht rfl),trivial⟩) (gZ Z_60 (Ht rfl) (Ht rfl) rfl (i:=2) rfl (aK rfl) rfl rfl (eJ (fK rfl (fJ (fY A_60 Z_60 rfl (i:=2) rfl rfl) ?_))))
 exact (jE (Qi.mk_add x y))
theorem Pr {x:Qi}:bI Tryz.prog 168 [aE x] (aE (-x)):=by
 refine bI.intro Tryz.func168 rfl Tryz.ntmps168 rfl (fun cx=>(ts (rn rfl (fU (Ht rfl)) fun B1=>(rn rfl (eK (Ts:=[Is (.bool false),Is (.slice none 0 0),Is (.bool false),Is (.slice none 0 0),Is (.slice none 0 0)]) O_60 rfl (fun V=>aW zd (aW zd (aW zd (aW zd (aW zd (aG))))))) fun B2=>(eJ (cK (fV (m:=8) (dp 1 rfl (eW gF (Ht rfl) rfl) (dq 3 0 rfl (eG A_58 Z_58 (Ht rfl) (i:=0) rfl rfl rfl) (dq 4 1 rfl (cZ K_167 qL ⟨(Ht rfl),trivial⟩) ?_))))))))))
 refine dp 1 rfl (eW iA (Ht rfl) rfl) (dq 6 3 rfl (eG A_58 Z_58 (Ht rfl) (i:=0) rfl rfl rfl) (dq 7 4 rfl (cZ K_167 qL ⟨(Ht rfl),trivial⟩) (dp 1 rfl (eW qO (Ht rfl) rfl) (dq 9 6 rfl (fX A_56 Z_56 (Ht rfl) (i:=0) rfl rfl) (fG aT rfl (by kernel_rfl) (zF (zF (aV (ro rfl (rT (Ht rfl) (Ht rfl) (Ht rfl)) (gZ Z_60 (Ht rfl) (Ht rfl) rfl (i:=1) rfl (aK rfl) rfl rfl (eJ (fK rfl (fJ (fY A_60 Z_60 rfl (i:=1) rfl rfl) ?_)))))))))))))
 exact (xZ (by obtain ⟨e1,e2,e3⟩:=Qi.neg_a x; rw [e1,e2,a3D e3]; rfl))
theorem Be {x:Qi}:bI Tryz.prog 173 [aE x] (aE x.conj):=by
 refine bI.intro Tryz.func173 rfl Tryz.ntmps173 rfl (fun cx=>(ts (rn rfl (fU (Ht rfl)) fun B1=>(rn rfl (eK (Ts:=[Is (.bool false),Is (.slice none 0 0),Is (.bool false),Is (.slice none 0 0),Is (.slice none 0 0)]) O_60 rfl (fun V=>aW zd (aW zd (aW zd (aW zd (aW zd (aG))))))) fun B2=>(eJ (cK (fV (m:=7) (dp 1 rfl (eW gF (Ht rfl) rfl) (dq 3 0 rfl (eG A_58 Z_58 (Ht rfl) (i:=0) rfl rfl rfl) (dp 1 rfl (eW iA (Ht rfl) rfl) ?_))))))))))
 refine dq 5 2 rfl (eG A_58 Z_58 (Ht rfl) (i:=0) rfl rfl rfl) (dq 6 3 rfl (cZ K_167 qL ⟨(Ht rfl),trivial⟩) (dp 1 rfl (eW qO (Ht rfl) rfl) (dq 8 5 rfl (fX A_56 Z_56 (Ht rfl) (i:=0) rfl rfl) (fG aT rfl (by kernel_rfl) (zF (aJ (aJ (aJ (aV (ro rfl (rT (Ht rfl) (Ht rfl) (Ht rfl)) (gZ Z_60 (Ht rfl) (Ht rfl) rfl (i:=1) rfl (aK rfl) rfl rfl (eJ (fK rfl (fJ (fY A_60 Z_60 rfl (i:=1) rfl rfl) ?_))))))))))))))
 exact (xZ (by obtain ⟨e1,e2,e3⟩:=Qi.conj_a x; rw [e1,e2,a3D e3]; rfl))
theorem tB {x y:Qi} {L M:Nat} [hx:aH x L] [hy:aH y M] (h:L + M + 1 ≤ 17592186044415):bI Tryz.prog 69 [aE x,aE y] (aE (x - y)):=by
 have hxa:=oT hx.fit; have hxb:=oU hx.fit; have hxd:=oV hx.fit
 have hya:=oT hy.fit; have hyb:=oU hy.fit; have hyd:=oV hy.fit
 have hxp:=x.den_pos; have hyp:=y.den_pos; have hdp:=Nat.mul_pos hxp hyp
 refine bI.intro Tryz.func69 rfl Tryz.ntmps69 rfl (fun cx=>(ts (rn rfl (fU (Ht rfl)) fun B2=>(rn rfl (fU (Ht rfl)) fun B3=>(rn rfl (eK (Ts:=[Is (.bool false),Is (.slice none 0 0),Is (.bool false),Is (.slice none 0 0),Is (.slice none 0 0)]) O_60 rfl (fun V=>aW zd (aW zd (aW zd (aW zd (aW zd (aG))))))) fun B4=>(eJ (cK (fV (m:=3) (dp 2 rfl (eG A_60 Z_60 (Ht rfl) (i:=0) rfl rfl rfl) (dp 3 rfl (eG A_60 Z_60 (Ht rfl) (i:=1) rfl rfl rfl) ?_))))))))))
 refine dq 6 1 rfl (cZ Tryz.call168 Pr ⟨(Ht rfl),trivial⟩) (fG aT rfl (by kernel_rfl) (aJ (aJ (aJ (aV (ro rfl (cZ K_71 (wJ zo) ⟨(Ht rfl),(Ht rfl),trivial⟩) (gZ Z_60 (Ht rfl) (Ht rfl) rfl (i:=2) rfl (aK rfl) rfl rfl (eJ (fK rfl (fJ (fY A_60 Z_60 rfl (i:=2) rfl rfl) ?_))))))))))
 exact (jE (Qi.sub_def x y).symm)
theorem kD {x y:Qi} {L M:Nat} [hx:aH x L] [hy:aH y M] (h:L + M + 1 ≤ 17592186044415):bI Tryz.prog 70 [aE x,aE y] (aE (x * y)):=by
 have hxa:=oT hx.fit; have hxb:=oU hx.fit; have hxd:=oV hx.fit
 have hya:=oT hy.fit; have hyb:=oU hy.fit; have hyd:=oV hy.fit
 have hxp:=x.den_pos; have hyp:=y.den_pos; have hdp:=Nat.mul_pos hxp hyp
 have e1:=mQ x.a y.a; have e2:=mQ x.b y.b; have e3:=mQ x.a y.b; have e4:=mQ x.b y.a; have e5:=yI x.den y.den; have e8:=Bu (x.b * y.b)
 have e6:=nT (x:=x.a * y.a) (y:=-(x.b * y.b)) (L:=L + M) zo zo; have e7:=nT (x:=x.a * y.b) (y:=x.b * y.a) (L:=L + M) zo zo
 refine bI.intro Tryz.func70 rfl Tryz.ntmps70 rfl (fun cx=>(ts (rn rfl (fU (Ht rfl)) fun B2=>(rn rfl (fU (Ht rfl)) fun B3=>(rn rfl (eK (Ts:=[Is (.bool false),Is (.slice none 0 0),Is (.bool false),Is (.slice none 0 0),Is (.slice none 0 0)]) O_60 rfl (fun V=>aW zd (aW zd (aW zd (aW zd (aW zd (aG))))))) fun B4=>(eJ (cK (fV (m:=13) (dp 2 rfl (eW gF (Ht rfl) rfl) (dq 7 0 rfl (eG A_58 Z_58 (Ht rfl) (i:=0) rfl rfl rfl) ?_))))))))))
 refine dp 3 rfl (eW gF (Ht rfl) rfl) (dq 9 2 rfl (eG A_58 Z_58 (Ht rfl) (i:=1) rfl rfl rfl) (dP 8 1 10 3 rfl (cZ K_151 (qM zo zo) ⟨(Ht rfl),(Ht rfl),trivial⟩) (dp 2 rfl (eW iA (Ht rfl) rfl) (dq 12 5 rfl (eG A_58 Z_58 (Ht rfl) (i:=0) rfl rfl rfl) (dp 3 rfl (eW iA (Ht rfl) rfl) (dq 14 7 rfl (eG A_58 Z_58 (Ht rfl) (i:=1) rfl rfl rfl) (dP 13 6 15 8 rfl (cZ K_151 (qM zo zo) ⟨(Ht rfl),(Ht rfl),trivial⟩) (dq 16 9 rfl (cZ K_167 qL ⟨(Ht rfl),trivial⟩) ?_))))))))
 refine dP 11 4 17 10 rfl (cZ K_152 (vM zo zo) ⟨(Ht rfl),(Ht rfl),trivial⟩) (C.D_new (Ei:=[]) rfl rfl rfl bW (eK (Ts:=[Is (.bool false),Is (.slice none 0 0)]) O_58 rfl (fun V=>aW zd (aW zd (aG)))) (fG aT rfl (by kernel_rfl) (zF (zF (zF (C.F_new (fun B5=>aV (gZ Z_58 (Ht rfl) (Ht rfl) rfl (i:=3) rfl (aK rfl) rfl rfl (eJ ?_)))))))))
 refine cK (fV (m:=12) (dp 2 rfl (eW gF (Ht rfl) rfl) (dq 19 0 rfl (eG A_58 Z_58 (Ht rfl) (i:=0) rfl rfl rfl) (dp 3 rfl (eW iA (Ht rfl) rfl) (dq 21 2 rfl (eG A_58 Z_58 (Ht rfl) (i:=1) rfl rfl rfl) (dP 20 1 22 3 rfl (cZ K_151 (qM zo zo) ⟨(Ht rfl),(Ht rfl),trivial⟩) (dp 2 rfl (eW iA (Ht rfl) rfl) (dq 24 5 rfl (eG A_58 Z_58 (Ht rfl) (i:=0) rfl rfl rfl) (dp 3 rfl (eW gF (Ht rfl) rfl) (dq 26 7 rfl (eG A_58 Z_58 (Ht rfl) (i:=1) rfl rfl rfl) ?_))))))))))
 refine dP 25 6 27 8 rfl (cZ K_151 (qM zo zo) ⟨(Ht rfl),(Ht rfl),trivial⟩) (dP 23 4 28 9 rfl (cZ K_152 (vM zo zo) ⟨(Ht rfl),(Ht rfl),trivial⟩) (C.D_new (Ei:=[]) rfl rfl rfl bW (eK (Ts:=[Is (.bool false),Is (.slice none 0 0)]) O_58 rfl (fun V=>aW zd (aW zd (aG)))) (fG aT rfl (by kernel_rfl) (zF (zF (aJ (aJ (aJ (C.F_new (fun B6=>aV (gZ Z_58 (Ht rfl) (Ht rfl) rfl (i:=4) rfl (aK rfl) rfl rfl ?_)))))))))))
 refine eJ (cK (fV (m:=7) (dp 5 rfl (eG A_58 Z_58 (Ht rfl) (i:=3) rfl rfl rfl) (dp 6 rfl (eG A_58 Z_58 (Ht rfl) (i:=4) rfl rfl rfl) (dp 2 rfl (eG A_60 Z_60 (Ht rfl) (i:=0) rfl rfl rfl) (dq 32 2 rfl (cZ K_153 oX ⟨(Ht rfl),trivial⟩) (dp 3 rfl (eG A_60 Z_60 (Ht rfl) (i:=1) rfl rfl rfl) (dq 34 4 rfl (cZ K_153 oX ⟨(Ht rfl),trivial⟩) (dP 33 3 35 5 rfl (cZ K_154 (Fa zo zo) ⟨(Ht rfl),(Ht rfl),trivial⟩) (fG aT rfl (by kernel_rfl) (zF (aJ (aJ (aJ (aV ?_)))))))))))))))
 refine ro rfl (cZ K_150 (vK (by first | assumption | omega) zo zo zo) ⟨(Ht rfl),(Ht rfl),(Ht rfl),trivial⟩) (gZ Z_60 (Ht rfl) (Ht rfl) rfl (i:=2) rfl (aK rfl) rfl rfl (eJ (fK rfl (fJ (fY A_60 Z_60 rfl (i:=2) rfl rfl) ?_))))
 exact (jE (Qi.mk_mul x y))
theorem wK {x:Qi} {L:Nat} [hx:aH x L] (h:L ≤ 17592186044415):bI Tryz.prog 82 [aE x] (aI (!decide (x = Qi.zero))):=by
 have hxa:=oT hx.fit; have hxb:=oU hx.fit; have hxd:=oV hx.fit
 refine bI.intro Tryz.func82 rfl Tryz.ntmps82 rfl (fun cx=>(ts (rn rfl (fU (Ht rfl)) fun B1=>(ro rfl (cQ cV) (eJ (ts (ro rfl (eW gF (Ht rfl) rfl) (ro rfl (eW fD (Ht rfl) rfl) (ro rfl (fX A_56 Z_56 (Ht rfl) (i:=0) rfl rfl) (ro rfl (dU U_56 (Ht rfl) aD) (ro rfl (eW iA (Ht rfl) rfl) (ro rfl (eW fD (Ht rfl) rfl) (ro rfl (fX A_56 Z_56 (Ht rfl) (i:=0) rfl rfl) (ro rfl (dU U_56 (Ht rfl) aD) (ro rfl (dW (Ht rfl) (Ht rfl) z6) ?_)))))))))))))))
 refine ro rfl (jU (Ht rfl) (cJ 0)) (ra rfl (eJ (fK rfl (fJ (fQ rfl) ?_))))
 exact (eD (Xt x))
theorem Gq {x:Qi}:bI Tryz.prog 55 [aE x] (aI (decide (x.b = 0))):=by
 refine bI.intro Tryz.func55 rfl Tryz.ntmps55 rfl (fun cx=>(ts (rn rfl (fU (Ht rfl)) fun B1=>(ro rfl (cQ cV) (eJ (ts (ro rfl (eW iA (Ht rfl) rfl) (ro rfl (eW fD (Ht rfl) rfl) (ro rfl (fX A_56 Z_56 (Ht rfl) (i:=0) rfl rfl) (ro rfl (dU U_56 (Ht rfl) aD) (ro rfl (eH (Ht rfl) (cJ 0)) (ra rfl (eJ (fK rfl (fJ (fQ rfl) ?_)))))))))))))))
 exact (eD (a2U x))
theorem yA {x y:Qi} {L M:Nat} [hx:aH x L] [hy:aH y M] (h:L ≤ 17592186044415) (h2:M ≤ 17592186044415):bI Tryz.prog 100 [aE x,aE y] (aI (decide (x = y))):=by
 have hxa:=oT hx.fit; have hxb:=oU hx.fit; have hxd:=oV hx.fit
 have hya:=oT hy.fit; have hyb:=oU hy.fit; have hyd:=oV hy.fit
 have hxu:=Yj x; have hyu:=Yj y
 refine bI.intro Tryz.func100 rfl Tryz.ntmps100 rfl (fun cx=>(ts (rn rfl (fU (Ht rfl)) fun B2=>(rn rfl (fU (Ht rfl)) fun B3=>(ro rfl (cQ cV) (eJ (ts (ro rfl (eW gF (Ht rfl) rfl) (ro rfl (eG A_58 Z_58 (Ht rfl) (i:=0) rfl rfl rfl) (ro rfl (eW gF (Ht rfl) rfl) (ro rfl (eG A_58 Z_58 (Ht rfl) (i:=1) rfl rfl rfl) (ro rfl (cZ Tryz.call156 (Gw zo zo) ⟨(Ht rfl),(Ht rfl),trivial⟩) (ro rfl (qZ (Ht rfl) cV) (rm rfl (fZ rfl rfl (eY rfl rfl (Ht rfl) (fun h=>eW iA (Ht rfl) rfl)) ?_)))))))))))))))
 refine fZ rfl rfl (eY rfl rfl (Ht rfl) (fun h=>eG A_58 Z_58 (fW rfl h) (i:=0) rfl rfl rfl)) (fZ rfl rfl (eY rfl rfl (Ht rfl) (fun h=>eW iA (Ht rfl) rfl)) (fZ rfl rfl (eY rfl rfl (Ht rfl) (fun h=>eG A_58 Z_58 (fW rfl h) (i:=1) rfl rfl rfl)) (fZ rfl rfl (eY rfl rfl (Ht rfl) (fun h=>cZ Tryz.call156 (Gw zo zo) ⟨(fW rfl h),(fW rfl h),trivial⟩)) (fZ rfl rfl (eY rfl rfl (Ht rfl) (fun h=>qZ (fW rfl h) cV)) (ro rfl (iU (Ht rfl) (fun h=>(fW rfl h))) ?_)))))
 refine rm rfl (fZ rfl rfl (eY rfl rfl (Ht rfl) (fun h=>eW qO (Ht rfl) rfl)) (fZ rfl rfl (eY rfl rfl (Ht rfl) (fun h=>fX A_56 Z_56 (fW rfl h) (i:=0) rfl rfl)) (fZ rfl rfl (eY rfl rfl (Ht rfl) (fun h=>eW qO (Ht rfl) rfl)) (fZ rfl rfl (eY rfl rfl (Ht rfl) (fun h=>fX A_56 Z_56 (fW rfl h) (i:=1) rfl rfl)) (fZ rfl rfl (eY rfl rfl (Ht rfl) (fun h=>cZ Tryz.call199 (Xb zo zo) ⟨(fW rfl h),(fW rfl h),trivial⟩)) (fZ rfl rfl (eY rfl rfl (Ht rfl) (fun h=>qZ (fW rfl h) cV)) ?_))))))
 refine ro rfl (iU (Ht rfl) (fun h=>(fW rfl h))) (ra rfl (eJ (fK rfl (fJ (fQ rfl) ?_))))
 exact (eD (a31 x y))
theorem Jo {x y:Qi} {L M:Nat} [hx:aH x L] [hy:aH y M] (h:L + M ≤ 17592186044415):bI Tryz.prog 51 [aE x,aE y] (aN .i64 (Bl x y)):=by
 have hxa:=oT hx.fit; have hxb:=oU hx.fit; have hxd:=oV hx.fit
 have hya:=oT hy.fit; have hyb:=oU hy.fit; have hyd:=oV hy.fit
 have e1:=iI x.a y.den; have e2:=iI y.a x.den; have e3:=iI x.b y.den; have e4:=iI y.b x.den
 refine bI.intro Tryz.func51 rfl Tryz.ntmps51 rfl (fun cx=>(ts (rn rfl (fU (Ht rfl)) fun B2=>(rn rfl (fU (Ht rfl)) fun B3=>(ro rfl (cQ (cJ 0)) (eJ (cK (cK (fV (m:=9) (dp 2 rfl (eW gF (Ht rfl) rfl) (dq 6 0 rfl (eG A_58 Z_58 (Ht rfl) (i:=0) rfl rfl rfl) (dp 3 rfl (eG A_60 Z_60 (Ht rfl) (i:=1) rfl rfl rfl) (dq 8 2 rfl (cZ K_153 oX ⟨(Ht rfl),trivial⟩) (dP 7 1 9 3 rfl (cZ K_155 (lW zo zo) ⟨(Ht rfl),(Ht rfl),trivial⟩) (dp 3 rfl (eW gF (Ht rfl) rfl) ?_)))))))))))))))
 refine dq 11 5 rfl (eG A_58 Z_58 (Ht rfl) (i:=1) rfl rfl rfl) (dp 2 rfl (eG A_60 Z_60 (Ht rfl) (i:=0) rfl rfl rfl) (dq 13 7 rfl (cZ K_153 oX ⟨(Ht rfl),trivial⟩) (fG aT rfl (by kernel_rfl) (zF (zF (aJ (aV (ro rfl (cZ K_155 (lW zo zo) ⟨(Ht rfl),(Ht rfl),trivial⟩) (ro rfl (cZ Tryz.call156 (Gw zo zo) ⟨(Ht rfl),(Ht rfl),trivial⟩) (ra rfl (eJ (ts (rm rfl (ro rfl (iH (Ht rfl) cV) ?_))))))))))))))
 refine eJ (dQ (Ht rfl) (fun hb=>?_) (fun hb=>?_))
 ·simp only [Bool.not_eq_true', decide_eq_false_iff_not] at hb
  refine ts (rm rfl (ra rfl (eJ (fK rfl (fJ (fQ rfl) ?_)))))
  exact (bE (by rw [Bl,if_pos hb]))
 ·simp only [Bool.not_eq_false', decide_eq_true_eq] at hb
  refine cU (cK (fV (m:=9) (dp 2 rfl (eW iA (Ht rfl) rfl) (dq 20 0 rfl (eG A_58 Z_58 (Ht rfl) (i:=0) rfl rfl rfl) (dp 3 rfl (eG A_60 Z_60 (Ht rfl) (i:=1) rfl rfl rfl) (dq 22 2 rfl (cZ K_153 oX ⟨(Ht rfl),trivial⟩) (dP 21 1 23 3 rfl (cZ K_155 (lW zo zo) ⟨(Ht rfl),(Ht rfl),trivial⟩) (dp 3 rfl (eW iA (Ht rfl) rfl) (dq 25 5 rfl (eG A_58 Z_58 (Ht rfl) (i:=1) rfl rfl rfl) (dp 2 rfl (eG A_60 Z_60 (Ht rfl) (i:=0) rfl rfl rfl) ?_))))))))))
  refine dq 27 7 rfl (cZ K_153 oX ⟨(Ht rfl),trivial⟩) (fG aT rfl (by kernel_rfl) (zF (zF (aJ (aV (ro rfl (cZ K_155 (lW zo zo) ⟨(Ht rfl),(Ht rfl),trivial⟩) (ro rfl (cZ Tryz.call156 (Gw zo zo) ⟨(Ht rfl),(Ht rfl),trivial⟩) (ra rfl (eJ (fK rfl (fJ (fQ rfl) ?_)))))))))))
  exact (bE (by rw [Bl,if_neg (by simpa using hb)]))
end
section
open Go Go.RowKit
theorem Po {n : Nat} {E : dC} {H : Hp} {d : Option Tmp} {t : TypeId} {pos : String} {af : Array Edge} {g : Option (Nat × Bool)}  :
  aM Tryz.prog n E H ⟨d,.build 58 #[],t,pos,af,g⟩ (fO [Is (.bool false),Is (.slice none 0 0)]) :=
 kS (parts := []) fun a V w hs => by
  refine ⟨.agg #[(.bool false),(.slice none 0 0)],?_,[(.bool false),(.slice none 0 0)],rfl,aW (⟨rfl,trivial⟩) (aW (⟨rfl,trivial⟩) (aG))⟩
  simp [Instr.build,Instr.fill,Sem.run_bind,Result.andThen,jM,O_58,U_58,Z_4,Z_56]
theorem Hg (a:Addr) (w:World):(Instr.fieldAt 48 (.pointer (some a)) 0).run Tryz.prog w = .ok (.pointer (some (a.add 0))) w:=by
 simp [Instr.fieldAt,Instr.sureAddr,fieldPlace,Sem.run_bind,Result.andThen,U_48,Z_2]
theorem Hh (a:Addr) (w:World):(Instr.fieldAt 48 (.pointer (some a)) 1).run Tryz.prog w = .ok (.pointer (some (a.add 1))) w:=by
 simp [Instr.fieldAt,Instr.sureAddr,fieldPlace,Sem.run_bind,Result.andThen,U_48,Z_2]
theorem wT (a:Addr) (w:World):(Instr.fieldAt 48 (.pointer (some a)) 2).run Tryz.prog w = .ok (.pointer (some (a.add 2))) w:=by
 simp [Instr.fieldAt,Instr.sureAddr,fieldPlace,Sem.run_bind,Result.andThen,U_48,Z_2]
theorem iB:Tryz.prog.info? 60 = some Tryz.t60:=by kernel_rfl
theorem jK:Tryz.prog.underlying 25 = some (.slice 60):=by kernel_rfl
end
section
open Go Go.RowKit
theorem Nj {a:Int} {d:Nat} (hd:0 < d) (ha:(dg a.natAbs).length ≤ 8796093022208) (hd2:(dg d).length ≤ 8796093022208):bI Tryz.prog 216 [jX a,bB d] (uS (xG a d)):=by
 have h1:=Kz a hd; have h2:=La a hd
 obtain ⟨x,hx⟩:∃ x,x = Qi.mk' a 0 d:=⟨_,rfl⟩
 rw [xG,← hx]
 rw [← hx] at h1 h2
 have h3:=wM x.a.natAbs; have h4:=wM x.den
 have h5:(dg (0:Int).natAbs).length ≤ 0:=by rw [show (0:Int).natAbs = 0 from rfl,gE]; exact Nat.le_refl _
 refine bI.intro Tryz.func216 rfl Tryz.ntmps216 rfl (fun cx=>(ts (rn rfl (fU (Ht rfl)) fun B2=>(ro rfl (cQ (bH.cS (l:=[]) rfl)) (eJ (ts (ro rfl (eG A_58 Z_58 (Ht rfl) (i:=0) rfl rfl rfl) (ro rfl (aM.imp (Po ) Ee) (rm rfl (ro rfl (aM.imp (cZ K_150 (vK (by first | assumption | omega) zo zo zo) ⟨(Ht rfl),(Ht rfl),(Ht rfl),trivial⟩) (jE hx.symm)) (rn rfl (eK (Ts:=[Is (.bool false),Is (.slice none 0 0),Is (.bool false),Is (.slice none 0 0),Is (.slice none 0 0)]) O_60 rfl (fun V=>aW zd (aW zd (aW zd (aW zd (aW zd (aG))))))) fun B5=>?_)))))))))))
 refine gZ Z_60 (Ht rfl) (Ht rfl) rfl (i:=1) rfl (aK rfl) rfl rfl (eJ (ts (ro rfl (eW gF (Ht rfl) rfl) (ro rfl (eW fD (Ht rfl) rfl) (ro rfl (fX A_56 Z_56 (Ht rfl) (i:=1) rfl rfl) (ro rfl (cZ Tryz.call260 (Jp zo) ⟨(Ht rfl),trivial⟩) (ra rfl (eJ (cK (mI (fun (uu:Unit)=>True) (fun (uu:Unit)=>[(5,bO B5 0),(6,uS (if x.a < 0 then 45 :: Bq x.a.natAbs else Bq x.a.natAbs))]) (fun (uu:Unit)=>[box B2 58 [aI (decide (a < 0)),bB (a).natAbs],box B5 60 [aI (decide ((x).a < 0)),bB (x).a.natAbs,aI (decide ((x).b < 0)),bB (x).b.natAbs,bB (du (x))]]) ?_ (fun uu _=>?_)))))))))))
 ·refine ts (ro rfl (eW gF (Ht rfl) rfl) (ro rfl (eW lN (Ht rfl) rfl) (ro rfl (fX A_4 Z_4 (Ht rfl) (i := 1) rfl rfl) (eJ (dQ (Ht rfl) (fun hb => ?_) (fun hb => ?_))))))
  ·simp only [decide_eq_true_eq] at hb
   refine cY (rm rfl (ro rfl (uI (bH.cS (l:=[45]) rfl) (Ht rfl) (by first | omega | (simp; omega))) (ra rfl (eJ (cD () trivial (aQ rfl (aZ rfl (qD (by rw [if_pos hb]; rfl)) aX)) (aU (aB rfl) (aU (aB rfl) aY)))))))
  ·simp only [decide_eq_false_iff_not] at hb
   refine cU (cD () trivial (aQ rfl (aZ rfl (qD (by rw [if_neg hb])) aX)) (aU (aB rfl) (aU (aB rfl) aY)))
 ·have h6 : (if x.a < 0 then 45 :: Bq x.a.natAbs else Bq x.a.natAbs).length ≤ (Bq x.a.natAbs).length + 1 := by split <;> simp
  have h7:=Yj x
  refine cK (mI (fun (uu:Unit)=>True) (fun (uu:Unit)=>[(6,uS ((if x.a < 0 then 45 :: Bq x.a.natAbs else Bq x.a.natAbs) ++ (if x.den = 1 then [] else 47 :: Bq x.den)))]) (fun (uu:Unit)=>[box B2 58 [aI (decide (a < 0)),bB (a).natAbs],box B5 60 [aI (decide ((x).a < 0)),bB (x).a.natAbs,aI (decide ((x).b < 0)),bB (x).b.natAbs,bB (du (x))]]) ?_ (fun uu _=>?_))
  ·refine ts (ro rfl (eW qO (Ht rfl) rfl) (ro rfl (fX A_56 Z_56 (Ht rfl) (i := 1) rfl rfl) (ro rfl (dU U_56 (Ht rfl) aD) (ro rfl (jU (Ht rfl) (cJ 0)) (eJ (dQ (Ht rfl) (fun hb => ?_) (fun hb => ?_)))))))
   ·simp only [decide_eq_true_eq] at hb
    have h8:du x = x.den:=wS (fun e=>by rw [e,gE] at hb; simp at hb)
    have h9:x.den ≠ 1:=fun e=>by rw [du,if_pos e,gE] at hb; simp at hb
    have h10:=wM (du x)
    refine cY (rm rfl (ro rfl (eW qO (Ht rfl) rfl) (ro rfl (fX A_56 Z_56 (Ht rfl) (i:=1) rfl rfl) (ro rfl (cZ Tryz.call260 (Jp zo) ⟨(Ht rfl),trivial⟩) (ro rfl (uI (bH.cS (l:=[47]) rfl) (Ht rfl) (by simp only [List.length_cons,List.length_nil]; omega)) ?_)))))
    refine ro rfl (uI (Ht rfl) (Ht rfl) (by simp only [List.length_append,List.length_cons,List.length_nil]; omega)) ?_
    refine ra rfl (eJ (cD () trivial (aZ rfl (qD (by rw [if_neg h9,h8]; rfl)) aX) (eO.refl _)))
   ·simp only [decide_eq_false_iff_not] at hb
    have h9:x.den = 1:=Ab (cC.1 zo)
    refine cU (cD () trivial (aZ rfl (qD (by rw [if_pos h9,List.append_nil])) aX) (eO.refl _))
  ·refine ts (rm rfl (ra rfl (eJ ?_)))
   exact fK rfl (fQ rfl)
theorem a4b {x:Qi} {L:Nat} [hx:aH x L] (h:L ≤ 8796093022208):bI Tryz.prog 115 [aE x] (uS (txt x)):=by
 have hxa:=oT hx.fit; have hxb:=oU hx.fit; have hxd:=oV hx.fit; have hdp:=x.den_pos
 have l1:=Lm x.a hdp; have l2:=Lm x.b hdp
 refine bI.intro Tryz.func115 rfl Tryz.ntmps115 rfl (fun cx=>(ts (rn rfl (fU (Ht rfl)) fun B1=>(ro rfl (cQ (bH.cS (l:=[]) rfl)) (eJ (cK (ts (ro rfl (eG A_60 Z_60 (Ht rfl) (i:=0) rfl rfl rfl) (ro rfl (cZ Tryz.call55 Gq ⟨(Ht rfl),trivial⟩) (eJ (dQ (Ht rfl) (fun hb=>?_) (fun hb=>?_))))))))))))
 ·simp only [decide_eq_true_eq] at hb
  refine cK (fV (m:=4) (dp 1 rfl (eW gF (Ht rfl) rfl) (dq 6 0 rfl (eG A_58 Z_58 (Ht rfl) (i:=0) rfl rfl rfl) (dp 1 rfl (eG A_60 Z_60 (Ht rfl) (i:=0) rfl rfl rfl) (dq 8 2 rfl (cZ K_153 oX ⟨(Ht rfl),trivial⟩) (fG aT rfl (by kernel_rfl) (zF (aV (ro rfl (cZ Tryz.call216 (Nj (by assumption) zo zo) ⟨(Ht rfl),(Ht rfl),trivial⟩) ?_)))))))))
  refine ra rfl (eJ (fK rfl (fJ (fQ rfl) ?_)))
  exact (qD (by rw [txt,if_pos hb]))
 ·simp only [decide_eq_false_iff_not] at hb
  refine cU (cK (fV (m:=4) (dp 1 rfl (eW iA (Ht rfl) rfl) (dq 11 0 rfl (eG A_58 Z_58 (Ht rfl) (i:=0) rfl rfl rfl) (dp 1 rfl (eG A_60 Z_60 (Ht rfl) (i:=0) rfl rfl rfl) (dq 13 2 rfl (cZ K_153 oX ⟨(Ht rfl),trivial⟩) (fG aT rfl (by kernel_rfl) (zF (aV (ro rfl (cZ Tryz.call216 (Nj (by assumption) zo zo) ⟨(Ht rfl),(Ht rfl),trivial⟩) ?_))))))))))
  refine ro rfl (uI (Ht rfl) (bH.cS (l:=[105]) rfl) (by simp only [List.length_append,List.length_cons,List.length_nil]; omega)) ?_
  refine ra rfl (eJ (cK (ts (ro rfl (eW gF (Ht rfl) rfl) (ro rfl (eW fD (Ht rfl) rfl) (ro rfl (fX A_56 Z_56 (Ht rfl) (i:=0) rfl rfl) (ro rfl (dU U_56 (Ht rfl) aD) (ro rfl (eH (Ht rfl) (cJ 0)) (eJ (dQ (Ht rfl) (fun hc=>?_) (fun hc=>?_)))))))))))
  ·simp only [decide_eq_true_eq] at hc
   have ha:x.a = 0:=by have:=cC.1 hc; omega
   refine ts (rm rfl (ra rfl (eJ (fK rfl (fJ (fQ rfl) ?_)))))
   exact (qD (by rw [txt,if_neg hb,if_pos ha]))
  ·simp only [decide_eq_false_iff_not] at hc
   have ha:x.a ≠ 0:=fun e=>hc (by rw [e]; exact cC.2 rfl)
   refine cU (cK (mI (fun (uu:Unit)=>True) (fun (uu:Unit)=>[(1,bO B1 0),(3,uS ((if x.b < 0 then xG x.b x.den else 43 :: xG x.b x.den) ++ [105]))]) (fun (uu:Unit)=>[box B1 60 [aI (decide ((x).a < 0)),bB (x).a.natAbs,aI (decide ((x).b < 0)),bB (x).b.natAbs,bB (du (x))]]) ?_ (fun uu _=>?_)))
   ·refine ts (ro rfl (eW iA (Ht rfl) rfl) (ro rfl (eW lN (Ht rfl) rfl) (ro rfl (fX A_4 Z_4 (Ht rfl) (i := 0) rfl rfl) (ro rfl (fH (Ht rfl)) (eJ (dQ (Ht rfl) (fun hd => ?_) (fun hd => ?_)))))))
    ·have hn : ¬ x.b < 0 := by simpa using hd
     refine cY (rm rfl (ro rfl (uI (bH.cS (l:=[43]) rfl) (Ht rfl) (by simp only [List.length_append,List.length_cons,List.length_nil]; omega)) ?_))
     refine ra rfl (eJ (cD () trivial (aQ rfl (aZ rfl (qD (by rw [if_neg hn]; rfl)) aX)) (aU (aB rfl) aY)))
    ·have hn : x.b < 0 := by simpa using hd
     refine cU (cD () trivial (aQ rfl (aZ rfl (qD (by rw [if_pos hn])) aX)) (aU (aB rfl) aY))
   ·have l3 : ((if x.b < 0 then xG x.b x.den else 43 :: xG x.b x.den) ++ [105]).length ≤ (xG x.b x.den).length + 2 := by split <;> simp
    refine cK (fV (m:=6) (dp 1 rfl (eW gF (Ht rfl) rfl) (dq 29 0 rfl (eG A_58 Z_58 (Ht rfl) (i:=0) rfl rfl rfl) (dp 1 rfl (eG A_60 Z_60 (Ht rfl) (i:=0) rfl rfl rfl) (dq 31 2 rfl (cZ K_153 oX ⟨(Ht rfl),trivial⟩) (dP 30 1 32 3 rfl (cZ Tryz.call216 (Nj (by assumption) zo zo) ⟨(Ht rfl),(Ht rfl),trivial⟩) ?_))))))
    refine dp 3 rfl (cX (Ht rfl)) (fG aT rfl (by kernel_rfl) (zF (aJ (aJ (aV (ro rfl (uI (Ht rfl) (Ht rfl) zo) (ra rfl (eJ (fK rfl (fJ (fQ rfl) ?_))))))))))
    exact (qD (by rw [txt,if_neg hb,if_neg ha]))
theorem a1p {r:Rt}:bI Tryz.prog 33 [a16 r] (aE r.q):=by
 have hr1:=r.h1; have hr2:=r.h2; have hr3:=r.h3; have hr4:=r.h4; have hr5:=r.d1; have hr6:=r.d2; have hr0:=r.d0
 refine bI.intro Tryz.func33 rfl Tryz.ntmps33 rfl (fun cx=>(ts (rn rfl (fU (Ht rfl)) fun B1=>(rn rfl (eK (Ts:=[Is (.bool false),Is (.slice none 0 0),Is (.bool false),Is (.slice none 0 0),Is (.slice none 0 0)]) O_60 rfl (fun V=>aW zd (aW zd (aW zd (aW zd (aW zd (aG))))))) fun B2=>(eJ (cK (mI (fun (uu:Unit)=>True) (fun (uu:Unit)=>[(1,bO B1 0),(2,bO B2 0)]) (fun (uu:Unit)=>[box B1 48 [aN .i64 r.re,aN .i64 r.im,aN .i64 r.d],box B2 60 [Is (.bool false),Is (.slice none 0 0),Is (.bool false),Is (.slice none 0 0),Is (.slice none 0 0)]]) ?_ (fun uu _=>?_))))))))
 ·refine ts (ro rfl (eW wT (Ht rfl) rfl) (ro rfl (fX A_2 Z_2 (Ht rfl) (i := 0) rfl rfl) (ro rfl (qZ (Ht rfl) cV) (eJ (dQ (Ht rfl) (fun hb => ?_) (fun hb => ?_))))))
  ·simp only [decide_eq_true_eq] at hb
   refine cY (ro rfl (eW wT (Ht rfl) rfl) (oZ Z_2 (Ht rfl) (cJ 1) (i:=0) rfl (aK rfl) rfl (eJ (cD () trivial (zS rfl) (aU (aB (by rw [Rt.d,if_pos hb]; rfl)) (aU (aB rfl) aY))))))
  ·simp only [decide_eq_false_iff_not] at hb
   refine cU (cD () trivial (zS rfl) (aU (aB (by rw [Rt.d,if_neg hb])) (aU (aB rfl) aY)))
 ·refine ts (ro rfl (eW Hg (Ht rfl) rfl) (ro rfl (fX A_2 Z_2 (Ht rfl) (i := 0) rfl rfl) (ro rfl (eW Hh (Ht rfl) rfl) (ro rfl (fX A_2 Z_2 (Ht rfl) (i := 0) rfl rfl) (ro rfl (eW wT (Ht rfl) rfl) (ro rfl (fX A_2 Z_2 (Ht rfl) (i := 0) rfl rfl) (ro rfl (cZ Tryz.call108 (a3u hr1 hr2 hr3 hr4 hr5 hr6 hr0) ⟨(Ht rfl), (Ht rfl), (Ht rfl), trivial⟩) (rm rfl (ro rfl (dY (Ht rfl) rfl) (ro rfl (dY (Ht rfl) rfl) (rn rfl (eK (Ts := [Is (.bool false), Is (.slice none 0 0), Is (.bool false), Is (.slice none 0 0), Is (.slice none 0 0)]) O_60 rfl (fun V => aW zd (aW zd (aW zd (aW zd (aW zd (aG))))))) fun B3 => ?_)))))))))))
  refine gZ Z_60 (Ht rfl) (Ht rfl) rfl (i:=2) rfl (aK rfl) rfl rfl (ra rfl (eJ (ts (ro rfl (eG A_60 Z_60 (Ht rfl) (i:=2) rfl rfl rfl) (gZ Z_60 (Ht rfl) (Ht rfl) rfl (i:=1) rfl (aK rfl) rfl rfl (eJ ?_))))))
  exact fK rfl (fY A_60 Z_60 rfl (i:=1) rfl rfl)
end
section
open Go Go.RowKit
theorem tX {n : Nat} {E : dC} {H : Hp} {d : Option Tmp} {t : TypeId} {pos : String} {af : Array Edge} {g : Option (Nat × Bool)}  :
  aM Tryz.prog n E H ⟨d,.build 60 #[],t,pos,af,g⟩ (fO [Is (.bool false),Is (.slice none 0 0),Is (.bool false),Is (.slice none 0 0),Is (.slice none 0 0)]) :=
 kS (parts := []) fun a V w hs => by
  refine ⟨.agg #[(.bool false),(.slice none 0 0),(.bool false),(.slice none 0 0),(.slice none 0 0)],?_,[(.bool false),(.slice none 0 0),(.bool false),(.slice none 0 0),(.slice none 0 0)],rfl,aW (⟨rfl,trivial⟩) (aW (⟨rfl,trivial⟩) (aW (⟨rfl,trivial⟩) (aW (⟨rfl,trivial⟩) (aW (⟨rfl,trivial⟩) (aG)))))⟩
  simp [Instr.build,Instr.fill,Sem.run_bind,Result.andThen,jM,O_60,U_60,Z_56,Z_58]
end
section
open Go Go.RowKit
theorem tA {x y:Qi} {L M:Nat} [hx:aH x L] [hy:aH y M] (h:L + 3 * M + 2 ≤ 17592186044415):bI Tryz.prog 64 [aE x,aE y] (fE [aE (x / y),aN .i64 (if y = Qi.zero then 3 else 0)]):=by
 have hxa:=oT hx.fit; have hxb:=oU hx.fit; have hxd:=oV hx.fit
 have hya:=oT hy.fit; have hyb:=oU hy.fit; have hyd:=oV hy.fit
 have hxp:=x.den_pos; have hyp:=y.den_pos; have hMp:=hy.pos
 refine bI.intro Tryz.func64 rfl Tryz.ntmps64 rfl (fun cx=>(ts (rn rfl (fU (Ht rfl)) fun B2=>(rn rfl (fU (Ht rfl)) fun B3=>(rn rfl (eK (Ts:=[Is (.bool false),Is (.slice none 0 0),Is (.bool false),Is (.slice none 0 0),Is (.slice none 0 0)]) O_60 rfl (fun V=>aW zd (aW zd (aW zd (aW zd (aW zd (aG))))))) fun B4=>(ro rfl (cQ (cJ 0)) (eJ (cK (ts (ro rfl (eG A_60 Z_60 (Ht rfl) (i:=1) rfl rfl rfl) ?_))))))))))
 refine ro rfl (cZ Tryz.call82 (wK zo) ⟨(Ht rfl),trivial⟩) (ro rfl (fH (Ht rfl)) (eJ (dQ (Ht rfl) (fun hb=>?_) (fun hb=>?_))))
 ·have h0 : y = Qi.zero := by simpa using hb
  refine ts (ro rfl (aM.imp (tX ) lY) (gZ Z_60 (Ht rfl) (Ht rfl) rfl (i:=2) rfl (aK rfl) rfl rfl (ro rfl (cQ (cJ 3)) (eJ (bM rfl (fJ (fY A_60 Z_60 rfl (i:=2) rfl rfl) ?_) (fJ (fQ rfl) ?_))))))
  ·exact (jE (by rw [h0,Qi.div_zero]))
  ·exact (bE (by rw [if_pos h0]; rfl))
 ·have h0 : y ≠ Qi.zero := by simpa using hb
  have g1:=mQ y.a y.a; have g2:=mQ y.b y.b; have g3:=Bu y.b
  have g4:=nT (x:=y.a * y.a) (y:=y.b * y.b) (L:=M + M) zo zo
  obtain ⟨c,hc⟩:∃ c,c = Qi.mk' y.a (-y.b) 1:=⟨_,rfl⟩
  obtain ⟨z,hz⟩:∃ z,z = x * c:=⟨_,rfl⟩
  have l1:(dg 1).length ≤ 1:=by rw [Yd (by decide) (by decide)]; exact Nat.le_refl _
  haveI fc:aH c M:=hc ▸ ⟨Qi.Fit.mk (by decide) hy.fit.1 (by rw [Int.natAbs_neg]; exact hy.fit.2.1) (Qi.one_lt hMp)⟩
  haveI fz:aH z (L + M + 1):=hz ▸ fitMul
  have hza:=oT fz.fit; have hzb:=oU fz.fit; have hzd:=oV fz.fit
  have hnp:=Qi.nrm_int_pos h0
  have hm:(((y.a * y.a + y.b * y.b).natAbs:Nat):Int) = y.a * y.a + y.b * y.b:=Int.natAbs_of_nonneg zo
  have hdp2:=Nat.mul_pos z.den_pos (show 0 < (y.a * y.a + y.b * y.b).natAbs by omega)
  have e1:=iI z.a y.den; have e2:=iI z.b y.den; have e3:=yI z.den (y.a * y.a + y.b * y.b).natAbs
  refine cU (cK (fV (m:=12) (dp 3 rfl (eW gF (Ht rfl) rfl) (dq 12 0 rfl (eG A_58 Z_58 (Ht rfl) (i:=1) rfl rfl rfl) (dp 3 rfl (eW gF (Ht rfl) rfl) (dq 14 2 rfl (eG A_58 Z_58 (Ht rfl) (i:=1) rfl rfl rfl) (dP 13 1 15 3 rfl (cZ K_151 (qM zo zo) ⟨(Ht rfl),(Ht rfl),trivial⟩) (dp 3 rfl (eW iA (Ht rfl) rfl) (dq 17 5 rfl (eG A_58 Z_58 (Ht rfl) (i:=1) rfl rfl rfl) (dp 3 rfl (eW iA (Ht rfl) rfl) (dq 19 7 rfl (eG A_58 Z_58 (Ht rfl) (i:=1) rfl rfl rfl) ?_)))))))))))
  refine dP 18 6 20 8 rfl (cZ K_151 (qM zo zo) ⟨(Ht rfl),(Ht rfl),trivial⟩) (dP 16 4 21 9 rfl (cZ K_152 (vM zo zo) ⟨(Ht rfl),(Ht rfl),trivial⟩) (C.D_new (Ei:=[]) rfl rfl rfl bW (eK (Ts:=[Is (.bool false),Is (.slice none 0 0)]) O_58 rfl (fun V=>aW zd (aW zd (aG)))) (fG aT rfl (by kernel_rfl) (zF (zF (aJ (aJ (aJ (C.F_new (fun B6=>aV (gZ Z_58 (Ht rfl) (Ht rfl) rfl (i:=3) rfl (aK rfl) rfl rfl ?_)))))))))))
  refine eJ (cK (fV (m:=10) (dp 2 rfl (eG A_60 Z_60 (Ht rfl) (i:=0) rfl rfl rfl) (dp 3 rfl (eW gF (Ht rfl) rfl) (dq 24 1 rfl (eG A_58 Z_58 (Ht rfl) (i:=1) rfl rfl rfl) (dp 3 rfl (eW iA (Ht rfl) rfl) (dq 26 3 rfl (eG A_58 Z_58 (Ht rfl) (i:=1) rfl rfl rfl) (dq 27 4 rfl (cZ K_167 qL ⟨(Ht rfl),trivial⟩) (d0 rfl (aM.imp (cI (xs:=[_]) U_56 Z_218 Tryz.zeroValue218 (cW (cJ 1) cG) rfl rfl rfl) Lf) (C.D_step (Ei:=[(25,_),(28,_),(29,_)]) rfl rfl (bV (bG 2 rfl rfl) (bV (bG 5 rfl rfl) (bV (bG 6 rfl rfl) bW))) (dX rfl (aM.imp (cZ K_150 (vK (by first | assumption | omega) zo zo zo) ⟨(Ht rfl),(Ht rfl),(Ht rfl),trivial⟩) (jE hc.symm))) ?_))))))))))
  refine dP 23 0 30 7 rfl (aM.imp (cZ K_70 (kD zo) ⟨(Ht rfl),(Ht rfl),trivial⟩) (jE hz.symm)) (C.D_new (Ei:=[]) rfl rfl rfl bW (eK (Ts:=[Is (.bool false),Is (.slice none 0 0),Is (.bool false),Is (.slice none 0 0),Is (.slice none 0 0)]) O_60 rfl (fun V=>aW zd (aW zd (aW zd (aW zd (aW zd (aG))))))) (fG aT rfl (by kernel_rfl) (zF (zF (aJ (C.F_new (fun B7=>aV ?_)))))))
  refine gZ Z_60 (Ht rfl) (Ht rfl) rfl (i:=4) rfl (aK rfl) rfl rfl (eJ (cK (fV (m:=14) (dp 7 rfl (eW gF (Ht rfl) rfl) (dq 32 0 rfl (eG A_58 Z_58 (Ht rfl) (i:=4) rfl rfl rfl) (dp 3 rfl (eG A_60 Z_60 (Ht rfl) (i:=1) rfl rfl rfl) (dq 34 2 rfl (cZ K_153 oX ⟨(Ht rfl),trivial⟩) (dP 33 1 35 3 rfl (cZ K_155 (lW zo zo) ⟨(Ht rfl),(Ht rfl),trivial⟩) (dp 7 rfl (eW iA (Ht rfl) rfl) (dq 37 5 rfl (eG A_58 Z_58 (Ht rfl) (i:=4) rfl rfl rfl) ?_))))))))))
  refine dp 3 rfl (eG A_60 Z_60 (Ht rfl) (i:=1) rfl rfl rfl) (dq 39 7 rfl (cZ K_153 oX ⟨(Ht rfl),trivial⟩) (dP 38 6 40 8 rfl (cZ K_155 (lW zo zo) ⟨(Ht rfl),(Ht rfl),trivial⟩) (dp 7 rfl (eG A_60 Z_60 (Ht rfl) (i:=4) rfl rfl rfl) (dq 42 10 rfl (cZ K_153 oX ⟨(Ht rfl),trivial⟩) (dp 6 rfl (eW fD (Ht rfl) rfl) (dq 44 12 rfl (fX A_56 Z_56 (Ht rfl) (i:=3) rfl rfl) (fG aT rfl (by kernel_rfl) (zF (zF (zF (aJ (aJ (aV ?_)))))))))))))
  refine ro rfl (cZ K_154 (Fa zo zo) ⟨(Ht rfl),(Ht rfl),trivial⟩) (ro rfl (cZ K_150 (vK (by first | assumption | omega) zo zo zo) ⟨(Ht rfl),(Ht rfl),(Ht rfl),trivial⟩) (gZ Z_60 (Ht rfl) (Ht rfl) rfl (i:=2) rfl (aK rfl) rfl rfl (ro rfl (cQ (cJ 0)) (eJ (bM rfl (fJ (fY A_60 Z_60 rfl (i:=2) rfl rfl) ?_) (fJ (fQ rfl) ?_))))))
  ·exact (jE (Qi.mk_divP x h0 (hc ▸ hz) hm))
  ·exact (bE (by rw [if_neg h0]; rfl))
end
section
open Go Go.RowKit
theorem nD:Tryz.prog.info? 25 = some Tryz.t25:=by kernel_rfl
end
section
open Go Go.RowKit
theorem Mx {γ:Type} {l:List γ} {T:γ → Ty} {p:γ → Bool} [sh:∀ x,eA (T x) 5 true] (hl:l.length ≤ 1000000):bI Tryz.prog 207 [kB 5 (l.map T),xV Tryz.prog γ (fun x=>[T x]) (fun x=>aI (p x))] (aN .i64 (Hr p l)):=by
 refine bI.intro Tryz.func207 rfl Tryz.ntmps207 rfl (fun cx=>(ts (ro rfl (cQ (cJ 0)) (eJ (cK (ts (rm rfl (ro rfl (dU U_25 (Ht rfl) aD) (ro rfl (cX (cJ 0)) (eJ (eU ?_)))))))))))
 refine cB (fun (k : Nat) => k ≤ l.length ∧ ∀ (i : Nat) (x : γ), i < k → l[i]? = some x → p x = false) (fun (k : Nat) => l.length - k) (fun (k : Nat) => [(0, kB 5 (l.map T)), (1, xV Tryz.prog γ (fun x => [T x]) (fun x => aI (p x))), (7, NT .i64 l.length), (8, NT .i64 k)]) (fun (k : Nat) => []) 0 ⟨Nat.zero_le _, fun i x h => by omega⟩
  (zS rfl) aY (fun k ⟨hk,hn⟩=>?_)
 refine ts (ro rfl (gJ (Ht rfl) (Ht rfl)) (eJ (cK (dQ (Ht rfl) (fun hb=>?_) (fun hb=>?_)))))
 ·simp only [decide_eq_true_eq] at hb
  refine cU (cK (eU (ts (rm rfl (ra rfl (eJ (ts (rm rfl (rm rfl (rm rfl (ro rfl (dZ U_25 Z_60 (Ht rfl) (Ht rfl) rfl (eX (zQ hb))) (ro rfl (dJ A_60 Z_60 (Ht rfl)) (ro rfl (nI (l[k]) (Ht rfl) ⟨(Ht rfl),trivial⟩) (eJ (dQ (Ht rfl) (fun hc=>?_) (fun hc=>?_))))))))))))))))
  ·have hp : p l[k] = true := hc
   refine ts (rm rfl (ra rfl (eJ (fK rfl (fJ (fQ rfl) ?_)))))
   exact (bE (Hu (zQ hb) hp hn).symm)
  ·have hp : p l[k] = false := hc
   refine cU (bD (cY (ro rfl (dW (Ht rfl) (cJ 1) z6) (rm rfl (eJ ?_)))))
   refine gQ (k + 1) ⟨hb, fun i x h1 h2 => by
    by_cases e:i = k
    ·subst e; rw [zQ hb] at h2; obtain rfl:=Option.some.inj h2; exact hp
    ·exact hn i x zo h2⟩ zo (zS rfl) aY
 ·simp only [decide_eq_false_iff_not] at hb
  refine gG rfl (ts (ro rfl (cQ cV) (eJ (fK rfl (fJ (fQ rfl) ?_)))))
  exact (bE (yN (fun i x h=>hn i x (by have:=(List.getElem?_eq_some_iff.1 h).1; omega) h)).symm)
theorem En {γ:Type} {l:List γ} {T:γ → Ty} {p:γ → Bool} [sh:∀ x,eA (T x) 5 true] (hl:l.length ≤ 1000000):bI Tryz.prog 103 [kB 5 (l.map T),xV Tryz.prog γ (fun x=>[T x]) (fun x=>aI (p x))] (aI (l.any p)):=by
 refine bI.intro Tryz.func103 rfl Tryz.ntmps103 rfl (fun cx=>(ts (ro rfl (cQ cV) (eJ (ts (rm rfl (rm rfl (ro rfl (cZ Tryz.call207 (Mx zo) ⟨(Ht rfl),(Ht rfl),trivial⟩) (ro rfl (oQ (Ht rfl) cV) (ra rfl (eJ (fK rfl (fJ (fQ rfl) ?_)))))))))))))
 exact (eD (Cb p l))
theorem My {γ:Type} {l:List γ} {T:γ → Ty} {p:γ → Bool} [sh:∀ x,eA (T x) 1 false] (hl:l.length ≤ 1000000):bI Tryz.prog 262 [kB 1 (l.map T),xV Tryz.prog γ (fun x=>[T x]) (fun x=>aI (p x))] (aN .i64 (Hr p l)):=by
 refine bI.intro Tryz.func262 rfl Tryz.ntmps262 rfl (fun cx=>(ts (ro rfl (cQ (cJ 0)) (eJ (cK (ts (rm rfl (ro rfl (dU U_26 (Ht rfl) aD) (ro rfl (cX (cJ 0)) (eJ (eU ?_)))))))))))
 refine cB (fun (k : Nat) => k ≤ l.length ∧ ∀ (i : Nat) (x : γ), i < k → l[i]? = some x → p x = false) (fun (k : Nat) => l.length - k) (fun (k : Nat) => [(0, kB 1 (l.map T)), (1, xV Tryz.prog γ (fun x => [T x]) (fun x => aI (p x))), (7, NT .i64 l.length), (8, NT .i64 k)]) (fun (k : Nat) => []) 0 ⟨Nat.zero_le _, fun i x h => by omega⟩
  (zS rfl) aY (fun k ⟨hk,hn⟩=>?_)
 refine ts (ro rfl (gJ (Ht rfl) (Ht rfl)) (eJ (cK (dQ (Ht rfl) (fun hb=>?_) (fun hb=>?_)))))
 ·simp only [decide_eq_true_eq] at hb
  refine cU (cK (eU (ts (rm rfl (ra rfl (eJ (ts (rm rfl (rm rfl (rm rfl (ro rfl (dZ U_26 Z_25 (Ht rfl) (Ht rfl) rfl (eX (zQ hb))) (ro rfl (dJ A_25 Z_25 (Ht rfl)) (ro rfl (nI (l[k]) (Ht rfl) ⟨(Ht rfl),trivial⟩) (eJ (dQ (Ht rfl) (fun hc=>?_) (fun hc=>?_))))))))))))))))
  ·have hp : p l[k] = true := hc
   refine ts (rm rfl (ra rfl (eJ (fK rfl (fJ (fQ rfl) ?_)))))
   exact (bE (Hu (zQ hb) hp hn).symm)
  ·have hp : p l[k] = false := hc
   refine cU (bD (cY (ro rfl (dW (Ht rfl) (cJ 1) z6) (rm rfl (eJ ?_)))))
   refine gQ (k + 1) ⟨hb, fun i x h1 h2 => by
    by_cases e:i = k
    ·subst e; rw [zQ hb] at h2; obtain rfl:=Option.some.inj h2; exact hp
    ·exact hn i x zo h2⟩ zo (zS rfl) aY
 ·simp only [decide_eq_false_iff_not] at hb
  refine gG rfl (ts (ro rfl (cQ cV) (eJ (fK rfl (fJ (fQ rfl) ?_)))))
  exact (bE (yN (fun i x h=>hn i x (by have:=(List.getElem?_eq_some_iff.1 h).1; omega) h)).symm)
theorem Eo {γ:Type} {l:List γ} {T:γ → Ty} {p:γ → Bool} [sh:∀ x,eA (T x) 1 false] (hl:l.length ≤ 1000000):bI Tryz.prog 227 [kB 1 (l.map T),xV Tryz.prog γ (fun x=>[T x]) (fun x=>aI (p x))] (aI (l.any p)):=by
 refine bI.intro Tryz.func227 rfl Tryz.ntmps227 rfl (fun cx=>(ts (ro rfl (cQ cV) (eJ (ts (rm rfl (rm rfl (ro rfl (cZ Tryz.call262 (My zo) ⟨(Ht rfl),(Ht rfl),trivial⟩) (ro rfl (oQ (Ht rfl) cV) (ra rfl (eJ (fK rfl (fJ (fQ rfl) ?_)))))))))))))
 exact (eD (Cb p l))
theorem Nk {x:Qi} {L:Nat} [hx:aH x L] (h:L ≤ 8796093022208):bI Tryz.prog 223 [aE x] (aI (jG x)):=by
 haveI hz:aH Qi.zero 1:=aH.zero (Nat.le_refl 1)
 refine bI.intro Tryz.func223 rfl Tryz.ntmps223 rfl (fun cx=>(ts (rn rfl (fU (Ht rfl)) fun B1=>(ro rfl (cQ cV) (eJ (ts (ro rfl (eG A_60 Z_60 (Ht rfl) (i:=0) rfl rfl rfl) (ro rfl (cZ Tryz.call55 Gq ⟨(Ht rfl),trivial⟩) (rm rfl (fZ rfl rfl (eY rfl rfl (Ht rfl) (fun h=>eG A_60 Z_60 (Ht rfl) (i:=0) rfl rfl rfl)) (fZ rfl rfl (eY rfl rfl (Ht rfl) (fun h=>aM.imp (tX ) lY)) (fZ rfl rfl (eY rfl rfl (Ht rfl) (fun h=>cZ Tryz.call51 (Jo zo) ⟨(fW rfl h),(fW rfl h),trivial⟩)) ?_))))))))))))
 refine fZ rfl rfl (eY rfl rfl (Ht rfl) (fun h=>Cq (fW rfl h) cV)) (ro rfl (iU (Ht rfl) (fun h=>(fW rfl h))) (ra rfl (eJ (fK rfl (fJ (fQ rfl) ?_)))))
 exact (eD (a0l x))
theorem Gu {x:Qi} {L:Nat} [hx:aH x L] (h:L ≤ 8796093022208):bI Tryz.prog 222 [aE x] (aI (!jG x)):=by
 refine bI.intro Tryz.func222 rfl Tryz.ntmps222 rfl (fun cx=>(ts (rn rfl (fU (Ht rfl)) fun B1=>(ro rfl (cQ cV) (eJ (ts (ro rfl (eG A_60 Z_60 (Ht rfl) (i:=0) rfl rfl rfl) (ro rfl (cZ Tryz.call223 (Nk zo) ⟨(Ht rfl),trivial⟩) (ro rfl (fH (Ht rfl)) (ra rfl (eJ ?_)))))))))))
 exact fK rfl (fQ rfl)
theorem Jr {z:List Qi} {L:Nat} (hz:bR z L) (h:L ≤ 8796093022208) (hl:z.length ≤ 1000):bI Tryz.prog 129 [aL z] (aN .i64 (if z.all jG then 0 else 1)):=by
 obtain ⟨l,hzl⟩:∃ l:List {x:Qi // aH x L},z = l.map Subtype.val:=⟨z.attach.map fun x=>⟨x.1,hz x.1 x.2⟩,by simp⟩
 subst hzl
 have hll:l.length ≤ 1000:=by simpa using hl
 refine bI.intro Tryz.func129 rfl Tryz.ntmps129 rfl (fun cx=>(uY (E':=[(0,_)]) (aZ rfl (mM (Us:=l.map fun x=>aE x.1) (by simp [List.map_map,Function.comp_def])) aX) ?_))
 refine ts (ro rfl (cQ (cJ 0)) (eJ (cK (ts (rm rfl (ro rfl (cZ Tryz.call103 (En (l:=l) (T:=fun x=>aE x.1) (p:=fun x=>!jG x.1) zo) ⟨(Ht rfl),(bH.fn Tryz.call222 (γ:={x:Qi // aH x L}) (Ts:=fun x=>[aE x.1]) (U:=fun x=>aI (!jG x.1)) (fun x=>haveI:=x.2; Gu h)),trivial⟩) (eJ (dQ (Ht rfl) (fun hb=>?_) (fun hb=>?_)))))))))
 ·have hn : ¬ (l.map Subtype.val).all jG = true := by simp at hb ⊢; exact hb
  refine ts (ro rfl (cQ (cJ 1)) (eJ (fK rfl (fJ (fQ rfl) ?_))))
  exact (bE (by rw [if_neg hn]; rfl))
 ·have hn : (l.map Subtype.val).all jG = true := by simp at hb ⊢; exact hb
  refine cU (ts (ro rfl (cQ (cJ 0)) (eJ (fK rfl (fJ (fQ rfl) ?_)))))
  exact (bE (by rw [if_pos hn]; rfl))
theorem Jm {l:List Qi} (hl:l.length ≤ 1000):gM Tryz.prog 109 [aL l] [] (Value) (fun v=>Is v) (fun v=>[bF 60 5 v (l.map aE)]) (fun _=>True):=by
 refine gM.intro Tryz.func109 rfl Tryz.ntmps109 rfl (fun cx Z=>(ts (ro rfl (cQ cV) (eJ (cK (ts (rm rfl (ro rfl (a09 U_25 (Ht rfl)) (eJ (a1a (Ht rfl) (fun hb=>?_) (fun hb=>?_)))))))))))
 ·have hT : l.map aE = [] := hb rfl
  refine ts (ro rfl (cQ cV) (eJ (pU 60 5 ?_)))
  exact jC (.slice none 0 0) trivial [0,1] ⟨⟨_,rfl,fun _ _ _ h=>h⟩,⟨_,rfl,(aO hT.symm)⟩,trivial⟩ (by decide) (sK rfl (fQ rfl))
 ·refine cU (ts (rn rfl (Lc U_25 Z_60 O_60) fun B5 => (rm rfl (Ex (inf := Tryz.t60) jK iB rfl rfl rfl (Ht rfl) (Ht rfl) (i := 1) rfl (fun T hT => by obtain ⟨x, _, rfl⟩ := List.mem_map.1 hT; exact El.ag rfl) (by show _ * 88 ≤ _; simp only [List.length_map, List.length_nil]; omega) (by simp only [List.length_map, List.length_nil]; omega) rfl (fun v2 => ?_)))))
  refine ra rfl (eJ ?_)
  exact jC v2 trivial [0,1] ⟨⟨_,rfl,fun _ _ _ h=>h⟩,⟨_,rfl,fun _ _ _ h=>h⟩,trivial⟩ (by decide) (sK rfl (fQ rfl))
theorem Pp {l:List Qi} (hl:l.length ≤ 1000):bI Tryz.prog 109 [aL l] (aL l):=(Jm hl).fun fun v _=>gH
theorem Gr {n:Nat} {f:Nat → Nat → Qi} (hn:n ≤ 1000):gM Tryz.prog 110 [NT .i64 n,xV Tryz.prog (Fin n × Fin n) (fun x=>[NT .i64 x.1.1,NT .i64 x.2.1]) (fun x=>aE (f x.1.1 x.2.1))] [] (Nat) (fun B=>Is (.slice (some ⟨B,0,none⟩) n n)) (fun B=>[oH B 25 60 5 (bN aE (tab n fun i=>tab n (f i)))]) (fun _=>True):=by
 refine gM.intro Tryz.func110 rfl Tryz.ntmps110 rfl (fun cx Z=>(ts (ro rfl (cQ cV) (eJ (ts (rm rfl (rn rfl (iF (T:=Is (.slice none 0 0)) (i:=Tryz.t25) V_26 nD rfl rfl (Ht rfl) rfl (fun _=>rfl) trivial (by show 24 * _ ≤ _; omega) zo) fun B9=>(ra rfl (eJ (cK (ts (rm rfl (ro rfl (gI U_26 (Ht rfl)) (ro rfl (cX (cJ 0)) (eJ (eU (mH 1 rfl (sB (e:=60) (s:=5)) ?_)))))))))))))))))
 refine gN (fun (k : Nat) (m : List (List Qi)) => rC (fun i => tab n (f i)) n m k) (fun (k : Nat) (m : List (List Qi)) => n - k) (fun (k : Nat) (m : List (List Qi)) => [(0, NT .i64 n), (1, xV Tryz.prog (Fin n × Fin n) (fun x => [NT .i64 x.1.1, NT .i64 x.2.1]) (fun x => aE (f x.1.1 x.2.1))), (5, Is (.slice (some ⟨B9, 0, none⟩) n n)), (11, NT .i64 n), (12, NT .i64 k)]) (fun (k : Nat) (m : List (List Qi)) => [Z, oH B9 25 60 5 (bN aE m)]) 0 (List.replicate n []) (rC.start _ _ _)
  (zS rfl) (aU (fun _ _ _ h=>h) (aU (cA (mB aE n)) aY)) (fun k m hS=>?_)
 refine ts (ro rfl (gJ (Ht rfl) (Ht rfl)) (eJ (cK (dQ (Ht rfl) (fun hk=>?_) (fun hk=>?_)))))
 ·simp only [decide_eq_true_eq] at hk
  have hlen:=hS.len
  refine qJ 1 (k) rfl (pZ (m:=m) (i:=k) zo) (fun v=>(cU (cK (eU (ts (rm rfl (ra rfl (eJ (ts (rm rfl (rm rfl (rm rfl (rn rfl (mT (T:=aE Qi.zero) (i:=Tryz.t60) jK iB rfl rfl (Ht rfl) rfl jF (El.ag rfl) (by show 88 * _ ≤ _; omega) zo) fun B18=>(ro rfl (gX U_26 Z_25 (Ht rfl) (Ht rfl) rfl zo (by rw [Nat.mul_one,Nat.zero_add])) ?_))))))))))))))
  refine sX Z_25 (Ht rfl) (Ht rfl) (by simp; omega) (j:=1) (l:=3) rfl rfl rfl ?_
  refine eJ (cK (bL [0,1,3] rfl (by decide) (cY (rm rfl (rm rfl (ro rfl (gX U_26 Z_25 (Ht rfl) (Ht rfl) rfl zo (by rw [Nat.mul_one,Nat.zero_add])) ?_))))))
  refine ro rfl (jY A_25 Z_25 (Ht rfl) (j:=1) rfl) (ro rfl (oA U_25 (Ht rfl) (i:=2) rfl (show ((List.replicate n (aE Qi.zero)).length:Int) = ((n:Nat):Int) by simp)) (ro rfl (cX (cJ 0)) (eJ (eU ?_))))
  refine gN (fun (j : Nat) (out : List Qi) => rC (f k) n out j) (fun (j : Nat) (out : List Qi) => n - j) (fun (j : Nat) (out : List Qi) => [(0, NT .i64 n), (1, xV Tryz.prog (Fin n × Fin n) (fun x => [NT .i64 x.1.1, NT .i64 x.2.1]) (fun x => aE (f x.1.1 x.2.1))), (5, Is (.slice (some ⟨B9, 0, none⟩) n n)), (6, NT .i64 k), (11, NT .i64 n), (12, NT .i64 k), (24, NT .i64 n), (25, NT .i64 j)]) (fun (j : Nat) (out : List Qi) => [Z, Ky B9 25 60 5 (bN aE m) k B18, bF 60 5 B18 (out.map aE)]) 0 (List.replicate n Qi.zero) (rC.start _ _ _)
   (zS rfl) (aU (fun _ _ _ h=>h) (aU (fun _ _ _ h=>h) (aU (aO (Cz aE _ _)) aY))) (fun j out hT=>?_)
  refine ts (ro rfl (gJ (Ht rfl) (Ht rfl)) (eJ (cK (dQ (Ht rfl) (fun hj=>?_) (fun hj=>?_)))))
  ·simp only [decide_eq_true_eq] at hj
   have hlen2:=hT.len
   refine cU (cK (eU (ts (rm rfl (ra rfl (eJ (fV (m:=9) (dp 5 rfl (cX (Ht rfl)) (dp 6 rfl (cX (Ht rfl)) (dP 28 0 29 1 rfl (gX U_26 Z_25 (Ht rfl) (Ht rfl) rfl zo (by rw [Nat.mul_one,Nat.zero_add])) ?_))))))))))
   refine dq 30 2 rfl (jY A_25 Z_25 (Ht rfl) (j:=1) rfl) (dp 7 rfl (cX (Ht rfl)) (dp 1 rfl (cX (Ht rfl)) (dp 6 rfl (cX (Ht rfl)) (dp 7 rfl (cX (Ht rfl)) (C.D_step (Ei:=[(33,_),(34,_),(35,_)]) rfl rfl (bV (bG 5 rfl rfl) (bV (bG 6 rfl rfl) (bV (bG 7 rfl rfl) bW))) (dX rfl (nI ((⟨k,hk⟩,⟨j,hj⟩):Fin n × Fin n) (Ht rfl) ⟨(Ht rfl),(Ht rfl),trivial⟩)) (fG aT rfl (by kernel_rfl) (zF (zF (aJ (aV ?_))))))))))
   refine ro rfl (dM U_25 Z_60 (Ht rfl) (Ht rfl) rfl (i:=2) rfl (by first | omega | (simp; omega)) rfl) (mY Z_60 (Ht rfl) (Ht rfl) (El.ag rfl) (i:=2) rfl rfl (by first | omega | (simp; omega)) rfl (eJ (bD (cY (ro rfl (dW (Ht rfl) (cJ 1) z6) (rm rfl (eJ (gQ (j + 1,_) (hT.next hj rfl) (by dsimp only; omega) (zS rfl) (aU (fun _ _ _ h=>h) (aU (fun _ _ _ h=>h) (aU (aO (iG aE _ _ _)) aY)))))))))))
  ·simp only [decide_eq_false_iff_not] at hj
   obtain rfl:j = n:=Nat.le_antisymm hT.kle zo
   have hfin:=hT.fin
   refine gG rfl (bD (fR 1 2 rfl rfl (by decide) (by simp; omega) ?_))
   refine cY (ro rfl (dW (Ht rfl) (cJ 1) z6) (rm rfl (eJ (bL [0,1] rfl (by decide) (gQ (k + 1,_) (hS.next hk hfin) (by dsimp only; omega) (zS rfl) (aU (fun _ _ _ h=>h) (aU (cA (gS aE _ _ _)) aY)))))))
 ·simp only [decide_eq_false_iff_not] at hk
  obtain rfl:k = n:=Nat.le_antisymm hS.kle zo
  have hfin:=hS.fin
  refine gG rfl (ts (rm rfl (ra rfl (eJ ?_))))
  exact jC B9 trivial [0,1] ⟨⟨_,rfl,fun _ _ _ h=>h⟩,⟨_,rfl,(cA (by rw [hfin]))⟩,trivial⟩ (by decide) (sK rfl (fQ rfl))
theorem yC {n:Nat} {f:Nat → Nat → Qi} (hn:n ≤ 1000):bI Tryz.prog 110 [NT .i64 n,xV Tryz.prog (Fin n × Fin n) (fun x=>[NT .i64 x.1.1,NT .i64 x.2.1]) (fun x=>aE (f x.1.1 x.2.1))] (bC (tab n fun i=>tab n (f i))):=(Gr hn).fun fun B _ v S V h1 h2=>mM (by simp [bN,List.map_map,Function.comp_def]) v V (Qs (by simp [bN,aC]) (Nat.le_refl _) v S V h1 h2)
end
section
open Go Go.RowKit
theorem nA {n : Nat} {E : dC} {H : Hp} {d : Option Tmp} {t : TypeId} {pos : String} {af : Array Edge} {g : Option (Nat × Bool)}  :
  aM Tryz.prog n E H ⟨d,.build 28 #[],t,pos,af,g⟩ (fO [Is (.slice none 0 0),Is (.slice none 0 0)]) :=
 kS (parts := []) fun a V w hs => by
  refine ⟨.agg #[(.slice none 0 0),(.slice none 0 0)],?_,[(.slice none 0 0),(.slice none 0 0)],rfl,aW (⟨rfl,trivial⟩) (aW (⟨rfl,trivial⟩) (aG))⟩
  simp [Instr.build,Instr.fill,Sem.run_bind,Result.andThen,jM,O_28,U_28,Z_25,Z_26]
theorem pV {n : Nat} {E : dC} {H : Hp} {d : Option Tmp} {t : TypeId} {pos : String} {af : Array Edge} {g : Option (Nat × Bool)} {x0 x1 : Operand} {T0 T1 : Ty} [s0 : eA T0 1 false] (h0 : bH E x0 T0) [s1 : eA T1 1 false] (h1 : bH E x1 T1) :
  aM Tryz.prog n E H ⟨d,.build 28 #[(0,x0),(1,x1)],t,pos,af,g⟩ (fO [T0,T1]) :=
 kS (parts := [(0, x0), (1, x1)]) fun a V w hs => by
  have p0:=h0 n V a hs
  generalize e0:a.eval x0 = v0 at p0
  have q0:=(s0.ok v0 V p0).2.2 rfl
  have p1:=h1 n V a hs
  generalize e1:a.eval x1 = v1 at p1
  have q1:=(s1.ok v1 V p1).2.2 rfl
  refine ⟨.agg #[v0,v1],?_,[v0,v1],rfl,aW (⟨p0,q0⟩) (aW (⟨p1,q1⟩) (aG))⟩
  simp [e0,e1,Instr.build,Instr.fill,Sem.run_bind,Result.andThen,jM,q0.cells,q1.cells,O_28,U_28,Z_25,Z_26]
theorem eE (a:Addr) (w:World):(Instr.fieldAt 28 (.pointer (some a)) 0).run Tryz.prog w = .ok (.pointer (some (a.add 0))) w:=by
 simp [Instr.fieldAt,Instr.sureAddr,fieldPlace,Sem.run_bind,Result.andThen,U_28,Z_25]
end
section
open Go Go.RowKit
theorem a48 {s:List (List Qi)} {n i j:Nat} (hs:bT s n n) (hi:i < n) (hj:j < n):bI Tryz.prog 192 [NT .i64 i,NT .i64 j,PT (bC s)] (aE (gm s i j)):=by
 have h1:=hs.1; have h2:=hs.row hi
 refine bI.intro Tryz.func192 rfl Tryz.ntmps192 rfl (fun cx=>(ts (rn rfl (eK (Ts:=[Is (.bool false),Is (.slice none 0 0),Is (.bool false),Is (.slice none 0 0),Is (.slice none 0 0)]) O_60 rfl (fun V=>aW zd (aW zd (aW zd (aW zd (aW zd (aG))))))) fun B5=>(eJ (ts (ro rfl (dJ A_26 Z_26 (Ht rfl)) (rm rfl (ro rfl (dZ U_26 Z_25 (Ht rfl) (Ht rfl) rfl (eX (eQ (d:=[]) zo))) (ro rfl (dJ A_25 Z_25 (Ht rfl)) ?_)))))))))
 refine rm rfl (ro rfl (dZ U_25 Z_60 (Ht rfl) (Ht rfl) rfl (eX (eQ (d:=Qi.zero) zo))) (ro rfl (dJ A_60 Z_60 (Ht rfl)) (gZ Z_60 (Ht rfl) (Ht rfl) rfl (i:=0) rfl (aK rfl) rfl rfl (eJ ?_))))
 exact fK rfl (fY A_60 Z_60 rfl (i:=0) rfl rfl)
theorem Xh {z:List Qi} {s:List (List Qi)} {L:Nat} (hz:bR z L) (h:L ≤ 8796093022208) (hl:z.length ≤ 1000) (hl2:s.length ≤ 1000):bI Tryz.prog 93 [aL z,bC s] (fE [dO (fF (kL z s) z) (fF (kL z s) s),aN .i64 (kL z s)]):=by
 refine bI.intro Tryz.func93 rfl Tryz.ntmps93 rfl (fun cx=>(ts (rn rfl (Cn (Ht rfl)) fun B3=>(rn rfl (eK (Ts:=[Is (.slice none 0 0),Is (.slice none 0 0)]) O_28 rfl (fun V=>aW zd (aW zd (aG)))) fun B4=>(ro rfl (cQ (cJ 0)) (eJ (cK (cK (gW (i:=0) (tt:=3) rfl rfl kQ (cY (rm rfl (ro rfl (dU U_25 (Ht rfl) aD) (ro rfl (gJ (Ht rfl) (cJ 1)) (rm rfl (fZ rfl rfl (eY rfl rfl (Ht rfl) (fun h=>cX (Ht rfl))) (fZ rfl rfl (eY rfl rfl (Ht rfl) (fun h=>dU U_25 (fW rfl h) aD)) ?_))))))))))))))))
 refine fZ rfl rfl (eY rfl rfl (Ht rfl) (fun h=>jU (fW rfl h) (cJ 8))) (ro rfl (lZ (Ht rfl) (fun h=>(fW rfl h))) (rm rfl (fZ rfl rfl (eY rfl rfl (Ht rfl) (fun h=>dJ A_26 Z_26 (Ht rfl))) (fZ rfl rfl (eY rfl rfl (Ht rfl) (fun h=>dU U_26 (fW rfl h) aD)) (fZ rfl rfl (eY rfl rfl (Ht rfl) (fun h=>cX (Ht rfl))) (fZ rfl rfl (eY rfl rfl (Ht rfl) (fun h=>dU U_25 (fW rfl h) aD)) (fZ rfl rfl (eY rfl rfl (Ht rfl) (fun h=>kM (fW rfl h) (fW rfl h))) ?_)))))))
 refine ro rfl (lZ (Ht rfl) (fun h=>(fW rfl h))) (eJ (dQ (Ht rfl) (fun hb=>?_) (fun hb=>?_)))
 ·have he := Lb hb
  refine ts (ro rfl (aM.imp (nA ) nG) (gZ Z_28 (Ht rfl) (Ht rfl) rfl (i:=1) rfl (aK rfl) rfl rfl (ro rfl (cQ (cJ 4)) (eJ (bM rfl (fJ (fY A_28 Z_28 rfl (i:=1) rfl rfl) ?_) (fJ (fQ rfl) ?_))))))
  ·exact (If he (by decide))
  ·exact (bE he.symm)
 ·refine cU (cK (ts (ro rfl (dJ A_26 Z_26 (Ht rfl)) (ro rfl (dU U_26 (Ht rfl) aD) (ro rfl (cX (cJ 0)) (eJ (eU ?_)))))))
  refine cB (fun (k : Nat) => k ≤ s.length ∧ ∀ (i : Nat) (r : List Qi), i < k → s[i]? = some r → r.length = z.length) (fun (k : Nat) => s.length - k) (fun (k : Nat) => [(0, aL z), (3, PT (bC s)), (4, bO B4 0), (25, bC s), (26, NT .i64 s.length), (27, NT .i64 k)]) (fun (k : Nat) => [SA.emp, box B4 28 [Is (.slice none 0 0), Is (.slice none 0 0)]]) 0 ⟨Nat.zero_le _, fun i r h => by omega⟩
   (zS rfl) (eO.refl _) (fun k ⟨hk,hr⟩=>?_)
  refine ts (ro rfl (gJ (Ht rfl) (Ht rfl)) (eJ (cK (dQ (Ht rfl) (fun hc=>?_) (fun hc=>?_)))))
  ·simp only [decide_eq_true_eq] at hc
   refine cU (cK (eU (ts (ro rfl (dZ U_26 Z_25 (Ht rfl) (Ht rfl) rfl (eX (zQ hc))) (ro rfl (dJ A_25 Z_25 (Ht rfl)) (ra rfl (eJ (ts (rm rfl (ro rfl (dU U_25 (Ht rfl) aD) (rm rfl (ro rfl (dU U_25 (Ht rfl) aD) (ro rfl (kM (Ht rfl) (Ht rfl)) (eJ (dQ (Ht rfl) (fun hd=>?_) (fun hd=>?_))))))))))))))))
   ·have hd2 : ¬ (s[k]).length = z.length := by simpa using hd
    have he:=Od (zQ hc) hd2
    refine ts (ro rfl (aM.imp (nA ) nG) (gZ Z_28 (Ht rfl) (Ht rfl) rfl (i:=1) rfl (aK rfl) rfl rfl (ro rfl (cQ (cJ 4)) (eJ (bM rfl (fJ (fY A_28 Z_28 rfl (i:=1) rfl rfl) ?_) (fJ (fQ rfl) ?_))))))
    ·exact (If he (by decide))
    ·exact (bE he.symm)
   ·have hd2 : (s[k]).length = z.length := by simpa using hd
    refine cU (bD (cY (ro rfl (dW (Ht rfl) (cJ 1) z6) (rm rfl (eJ ?_)))))
    refine gQ (k + 1) ⟨hc, fun i r h1 h2 => by
      by_cases e:i = k
      ·subst e; rw [zQ hc] at h2; obtain rfl:=Option.some.inj h2; exact hd2
      ·exact hr i r zo h2⟩ zo (zS rfl) (eO.refl _)
  ·simp only [decide_eq_false_iff_not] at hc
   have hall:∀ (i:Nat) (r:List Qi),s[i]? = some r → r.length = z.length:=fun i r h=>hr i r (by have:=(List.getElem?_eq_some_iff.1 h).1; omega) h
   have hpos:=Oc hb hall
   refine gG rfl (cK (ts (rm rfl (ro rfl (cZ Tryz.call129 (Jr hz h zo) ⟨(Ht rfl),trivial⟩) (ra rfl (eJ (ts (rm rfl (ro rfl (iH (Ht rfl) cV) (eJ (dQ (Ht rfl) (fun hd=>?_) (fun hd=>?_))))))))))))
   ·have hd2 : ¬ (if z.all jG = true then (0 : Int) else 1) = 0 := by simpa using hd
    refine ts (ro rfl (aM.imp (nA ) nG) (rm rfl (gZ Z_28 (Ht rfl) (Ht rfl) rfl (i:=1) rfl (aK rfl) rfl rfl (ra rfl (eJ (bM rfl (fJ (fY A_28 Z_28 rfl (i:=1) rfl rfl) ?_) (fJ (fQ rfl) ?_)))))))
    ·exact (If hpos hd2)
    ·exact (bE hpos.symm)
   ·have hd2 : (if z.all jG = true then (0 : Int) else 1) = 0 := by simpa using hd
    have he:=hpos.trans hd2
    obtain ⟨h1,h2,hsh,_⟩:=Uj he
    refine cU (ts (rm rfl (ro rfl (cZ Tryz.call109 (Pp zo) ⟨(Ht rfl),trivial⟩) (rm rfl (ro rfl (dU U_25 (Ht rfl) aD) (ro rfl (lO (γ:=Fin z.length × Fin z.length) (Ts:=fun x=>[NT .i64 x.1.1,NT .i64 x.2.1]) (U:=fun x=>aE (gm s x.1.1 x.2.1)) Tryz.call192 (fun x=>a48 hsh x.1.2 x.2.2) ⟨(Ht rfl),trivial⟩) (ro rfl (cZ K_110 (eZ (yC (n:=z.length) (f:=gm s) zo) (mM (by rw [← qQ hsh]))) ⟨(Ht rfl),(Ht rfl),trivial⟩) ?_)))))))
    refine ro rfl (pV (Ht rfl) (Ht rfl)) (gZ Z_28 (Ht rfl) (Ht rfl) rfl (i:=1) rfl (aK rfl) rfl rfl (ro rfl (cQ (cJ 0)) (eJ (bM rfl (fJ (fY A_28 Z_28 rfl (i:=1) rfl rfl) ?_) (fJ (fQ rfl) ?_)))))
    ·exact (a01 he)
    ·exact (bE he.symm)
theorem qK {z:List Qi} {s:List (List Qi)}:bI Tryz.prog 31 [dO z s] (NT .i64 z.length):=by
 refine bI.intro Tryz.func31 rfl Tryz.ntmps31 rfl (fun cx=>(ts (rn rfl (fU (Ht rfl)) fun B1=>(ro rfl (cQ (cJ 0)) (eJ (ts (ro rfl (eW eE (Ht rfl) rfl) (ro rfl (fX A_25 Z_25 (Ht rfl) (i:=0) rfl rfl) (ro rfl (dU U_25 (Ht rfl) aD) (ra rfl (eJ ?_)))))))))))
 exact fK rfl (fQ rfl)
theorem Jq {z:List Qi} {s:List (List Qi)} {i:Int}:bI Tryz.prog 138 [dO z s,aN .i64 i] (aI (decide (1 ≤ i ∧ i ≤ z.length))):=by
 refine bI.intro Tryz.func138 rfl Tryz.ntmps138 rfl (fun cx=>(ts (rn rfl (fU (Ht rfl)) fun B2=>(ro rfl (cQ cV) (eJ (ts (rm rfl (ro rfl (oQ (Ht rfl) cV) (rm rfl (fZ rfl rfl (eY rfl rfl (Ht rfl) (fun h=>cX (Ht rfl))) (fZ rfl rfl (eY rfl rfl (Ht rfl) (fun h=>eW eE (Ht rfl) rfl)) (fZ rfl rfl (eY rfl rfl (Ht rfl) (fun h=>fX A_25 Z_25 (fW rfl h) (i:=0) rfl rfl)) (fZ rfl rfl (eY rfl rfl (Ht rfl) (fun h=>dU U_25 (fW rfl h) aD)) (fZ rfl rfl (eY rfl rfl (Ht rfl) (fun h=>Ok (fW rfl h) (fW rfl h))) ?_))))))))))))))
 refine ro rfl (iU (Ht rfl) (fun h=>(fW rfl h))) (ra rfl (eJ (fK rfl (fJ (fQ rfl) ?_))))
 exact (eD (by rw [Bool.eq_iff_iff]; simp))
end
section
open Go Go.RowKit
theorem fC (a:Addr) (w:World):(Instr.fieldAt 28 (.pointer (some a)) 1).run Tryz.prog w = .ok (.pointer (some (a.add 1))) w:=by
 simp [Instr.fieldAt,Instr.sureAddr,fieldPlace,Sem.run_bind,Result.andThen,U_28,Z_26]
theorem pD (a:Addr) (w:World):(Instr.fieldAt 80 (.pointer (some a)) 0).run Tryz.prog w = .ok (.pointer (some (a.add 0))) w:=by
 simp [Instr.fieldAt,Instr.sureAddr,fieldPlace,Sem.run_bind,Result.andThen,U_80,Z_28]
theorem nC (a:Addr) (w:World):(Instr.fieldAt 80 (.pointer (some a)) 1).run Tryz.prog w = .ok (.pointer (some (a.add 2))) w:=by
 simp [Instr.fieldAt,Instr.sureAddr,fieldPlace,Sem.run_bind,Result.andThen,U_80,Z_26]
end
section
open Go Go.RowKit
theorem a3v {z:List Qi} {s:List (List Qi)} {i:Int} (hl:z.length ≤ 1000):bI Tryz.prog 67 [dO z s,aN .i64 i] (fE [aE (pkv z i),aN .i64 (if 1 ≤ i ∧ i ≤ z.length then 0 else 1)]):=by
 refine bI.intro Tryz.func67 rfl Tryz.ntmps67 rfl (fun cx=>(ts (rn rfl (fU (Ht rfl)) fun B2=>(rn rfl (eK (Ts:=[Is (.bool false),Is (.slice none 0 0),Is (.bool false),Is (.slice none 0 0),Is (.slice none 0 0)]) O_60 rfl (fun V=>aW zd (aW zd (aW zd (aW zd (aW zd (aG))))))) fun B4=>(ro rfl (cQ (cJ 0)) (eJ (cK (ts (ro rfl (eG A_28 Z_28 (Ht rfl) (i:=0) rfl rfl rfl) (rm rfl (ro rfl (cZ Tryz.call138 Jq ⟨(Ht rfl),(Ht rfl),trivial⟩) ?_)))))))))))
 refine ro rfl (fH (Ht rfl)) (eJ (dQ (Ht rfl) (fun hb=>?_) (fun hb=>?_)))
 ·have hn : ¬ (1 ≤ i ∧ i ≤ (z.length : Int)) := by simpa only [Bool.not_eq_true', decide_eq_false_iff_not] using hb
  refine ts (ro rfl (aM.imp (tX ) lY) (gZ Z_60 (Ht rfl) (Ht rfl) rfl (i:=1) rfl (aK rfl) rfl rfl (ro rfl (cQ (cJ 1)) (eJ (bM rfl (fJ (fY A_60 Z_60 rfl (i:=1) rfl rfl) ?_) (fJ (fQ rfl) ?_))))))
  ·exact (jE (by rw [pkv,if_neg hn]))
  ·exact (bE (by rw [if_neg hn]; rfl))
 ·have hp : 1 ≤ i ∧ i ≤ (z.length : Int) := by simpa only [Bool.not_eq_false', decide_eq_true_eq] using hb
  have hq:(i - 1).toNat < z.length:=by omega
  refine cU (ts (ro rfl (eW eE (Ht rfl) rfl) (ro rfl (fX A_25 Z_25 (Ht rfl) (i:=0) rfl rfl) (rm rfl (ro rfl (jJ (Ht rfl) cV (Ew zo)) (ro rfl (dZ U_25 Z_60 (Ht rfl) (Ht rfl) (by omega:i - 1 = (((i - 1).toNat:Nat):Int)) (eX (eQ (d:=Qi.zero) hq))) (ro rfl (dJ A_60 Z_60 (Ht rfl)) (gZ Z_60 (Ht rfl) (Ht rfl) rfl (i:=1) rfl (aK rfl) rfl rfl (ro rfl (cQ (cJ 0)) (eJ (bM rfl (fJ (fY A_60 Z_60 rfl (i:=1) rfl rfl) ?_) (fJ (fQ rfl) ?_))))))))))))
  ·exact (jE (by rw [pkv,if_pos hp]))
  ·exact (bE (by rw [if_pos hp]; rfl))
theorem a6x {z:List Qi} {s:List (List Qi)} {i j:Int} (hs:bT s z.length z.length) (hl:z.length ≤ 1000):bI Tryz.prog 39 [dO z s,aN .i64 i,aN .i64 j] (fE [aE (pkm z.length s i j),aN .i64 (if (1 ≤ i ∧ i ≤ z.length) ∧ 1 ≤ j ∧ j ≤ z.length then 0 else 1)]):=by
 have hs1:=hs.1
 refine bI.intro Tryz.func39 rfl Tryz.ntmps39 rfl (fun cx=>(ts (rn rfl (fU (Ht rfl)) fun B3=>(rn rfl (eK (Ts:=[Is (.bool false),Is (.slice none 0 0),Is (.bool false),Is (.slice none 0 0),Is (.slice none 0 0)]) O_60 rfl (fun V=>aW zd (aW zd (aW zd (aW zd (aW zd (aG))))))) fun B6=>(ro rfl (cQ (cJ 0)) (eJ (cK (ts (ro rfl (eG A_28 Z_28 (Ht rfl) (i:=0) rfl rfl rfl) (rm rfl (ro rfl (cZ Tryz.call138 Jq ⟨(Ht rfl),(Ht rfl),trivial⟩) ?_)))))))))))
 refine ro rfl (fH (Ht rfl)) (rm rfl (fZ rfl rfl (eY rfl rfl (Ht rfl) (fun h=>eG A_28 Z_28 (Ht rfl) (i:=0) rfl rfl rfl)) (fZ rfl rfl (eY rfl rfl (Ht rfl) (fun h=>cX (Ht rfl))) (fZ rfl rfl (eY rfl rfl (Ht rfl) (fun h=>cZ Tryz.call138 Jq ⟨(fW rfl h),(fW rfl h),trivial⟩)) (fZ rfl rfl (eY rfl rfl (Ht rfl) (fun h=>fH (fW rfl h))) (ro rfl (lZ (Ht rfl) (fun h=>(fW rfl h))) (eJ (dQ (Ht rfl) (fun hb=>?_) (fun hb=>?_)))))))))
 ·have hn : ¬ ((1 ≤ i ∧ i ≤ (z.length : Int)) ∧ 1 ≤ j ∧ j ≤ (z.length : Int)) := by simp only [Bool.or_eq_true, Bool.not_eq_true', decide_eq_false_iff_not] at hb; exact fun k => hb.elim (fun h => h k.1) (fun h => h k.2)
  refine ts (rn rfl (eK (Ts:=[Is (.bool false),Is (.slice none 0 0),Is (.bool false),Is (.slice none 0 0),Is (.slice none 0 0)]) O_60 rfl (fun V=>aW zd (aW zd (aW zd (aW zd (aW zd (aG))))))) fun B8=>(eJ (ts (ro rfl (eG A_60 Z_60 (Ht rfl) (i:=2) rfl rfl rfl) (gZ Z_60 (Ht rfl) (Ht rfl) rfl (i:=1) rfl (aK rfl) rfl rfl (ro rfl (cQ (cJ 1)) (eJ (bM rfl (fJ (fY A_60 Z_60 rfl (i:=1) rfl rfl) ?_) (fJ (fQ rfl) ?_)))))))))
  ·exact (fun v V k=>by rw [pkm,if_neg hn]; exact lY v V k)
  ·exact (bE (by rw [if_neg hn]; rfl))
 ·have hp : (1 ≤ i ∧ i ≤ (z.length : Int)) ∧ 1 ≤ j ∧ j ≤ (z.length : Int) := by simpa only [Bool.or_eq_false_iff, Bool.not_eq_false', decide_eq_true_eq] using hb
  have hq:(i - 1).toNat < s.length:=by omega
  have hq2:(j - 1).toNat < (s.getD (i - 1).toNat []).length:=by rw [hs.row zo]; omega
  refine cU (ts (ro rfl (eW fC (Ht rfl) rfl) (ro rfl (fX A_26 Z_26 (Ht rfl) (i:=0) rfl rfl) (rm rfl (ro rfl (jJ (Ht rfl) cV (Ew zo)) (ro rfl (dZ U_26 Z_25 (Ht rfl) (Ht rfl) (by omega:i - 1 = (((i - 1).toNat:Nat):Int)) (eX (eQ (d:=[]) hq))) (ro rfl (dJ A_25 Z_25 (Ht rfl)) (rm rfl (ro rfl (jJ (Ht rfl) cV (Ew zo)) (ro rfl (dZ U_25 Z_60 (Ht rfl) (Ht rfl) (by omega:j - 1 = (((j - 1).toNat:Nat):Int)) (eX (eQ (d:=Qi.zero) hq2))) ?_))))))))))
  refine ro rfl (dJ A_60 Z_60 (Ht rfl)) (gZ Z_60 (Ht rfl) (Ht rfl) rfl (i:=1) rfl (aK rfl) rfl rfl (ro rfl (cQ (cJ 0)) (eJ (bM rfl (fJ (fY A_60 Z_60 rfl (i:=1) rfl rfl) ?_) (fJ (fQ rfl) ?_)))))
  ·exact (jE (by rw [pkm,if_pos hp]))
  ·exact (bE (by rw [if_pos hp]; rfl))
end
section
open Go Go.RowKit
theorem a5w:Tryz.prog.underlying 26 = some (.slice 25):=by kernel_rfl
end
section
open Go Go.RowKit
theorem wI {n : Nat} {E : dC} {H : Hp} {d : Option Tmp} {t : TypeId} {pos : String} {af : Array Edge} {g : Option (Nat × Bool)}  :
  aM Tryz.prog n E H ⟨d,.build 80 #[],t,pos,af,g⟩ (fO [Is (.slice none 0 0),Is (.slice none 0 0),Is (.slice none 0 0)]) :=
 kS (parts := []) fun a V w hs => by
  refine ⟨.agg #[(.slice none 0 0),(.slice none 0 0),(.slice none 0 0)],?_,[(.slice none 0 0),(.slice none 0 0),(.slice none 0 0)],rfl,aW (⟨rfl,trivial⟩) (aW (⟨rfl,trivial⟩) (aW (⟨rfl,trivial⟩) (aG)))⟩
  simp [Instr.build,Instr.fill,Sem.run_bind,Result.andThen,jM,O_80,U_80,Z_26,Z_28]
end
section
open Go Go.RowKit
theorem sD (v : Value) (w : World) : (method (Tryz.prog.types.size + Made.depth) 60 v "Of").run Tryz.prog w = .ok (304, v) w := by kernel_rfl
theorem bP (v:Value) (w:World):(Instr.makeInterface 60 v).run Tryz.prog w = .ok (.iface 60 v) w:=by
 simp [Instr.makeInterface,Sem.run_bind,Result.andThen,U_60]
end
section
open Go Go.RowKit
theorem Xn {x:Qi} {L:Nat} [hx:aH x L] (h:L ≤ 8796093022208):bI Tryz.prog 158 [aE x] (aI (Fx x)):=by
 haveI hz:aH Qi.zero 1:=aH.zero (Nat.le_refl 1)
 rw [← a3j]
 refine bI.intro Tryz.func158 rfl Tryz.ntmps158 rfl (fun cx=>(ts (rn rfl (fU (Ht rfl)) fun B1=>(ro rfl (cQ cV) (eJ (cK (fV (m:=5) (dp 1 rfl (eG A_60 Z_60 (Ht rfl) (i:=0) rfl rfl rfl) (dq 3 0 rfl (cZ Tryz.call55 Gq ⟨(Ht rfl),trivial⟩) (dq 4 1 rfl (cX (Ht rfl)) (C.D_step (Ei:=[(1,_),(5,_)]) rfl rfl (bV (bK rfl rfl) (bV (bG 2 rfl rfl) bW)) (eY rfl rfl (Ht rfl) (fun h=>eG A_60 Z_60 (Ht rfl) (i:=0) rfl rfl rfl)) (C.D_step (Ei:=[(5,_)]) rfl rfl (bV (bG 2 rfl rfl) bW) (eY rfl rfl (Ht rfl) (fun h=>cZ K_52 (oW (n:=0) (by decide) (by decide)) ⟨(cJ 0),trivial⟩)) ?_))))))))))))
 refine fG aT rfl (by kernel_rfl) (zF (aJ (aV (fZ rfl rfl (eY rfl rfl (Ht rfl) (fun h=>cZ Tryz.call51 (Jo (x:=x) (y:=Qi.zero) (M:=1) zo) ⟨(fW rfl h),(fW rfl h),trivial⟩)) (fZ rfl rfl (eY rfl rfl (Ht rfl) (fun h=>oQ (fW rfl h) cV)) (ro rfl (iU (Ht rfl) (fun h=>(fW rfl h))) (ra rfl (eJ ?_))))))))
 exact fK rfl (fQ rfl)
theorem Ps {y:Qi}:bI Tryz.prog 304 [fO [Is (.bool false),Is (.slice none 0 0),Is (.bool false),Is (.slice none 0 0),Is (.slice none 0 0)],aE y] (aE y):=by
 refine bI.intro Tryz.func304 rfl Tryz.ntmps304 rfl (fun cx=>(ts (rn rfl (fU (Ht rfl)) fun B2=>(rn rfl (fU (Ht rfl)) fun B3=>(rn rfl (eK (Ts:=[Is (.bool false),Is (.slice none 0 0),Is (.bool false),Is (.slice none 0 0),Is (.slice none 0 0)]) O_60 rfl (fun V=>aW zd (aW zd (aW zd (aW zd (aW zd (aG))))))) fun B4=>(eJ (ts (ro rfl (eG A_60 Z_60 (Ht rfl) (i:=1) rfl rfl rfl) (gZ Z_60 (Ht rfl) (Ht rfl) rfl (i:=2) rfl (aK rfl) rfl rfl ?_)))))))))
 refine eJ ?_
 exact fK rfl (fY A_60 Z_60 rfl (i:=2) rfl rfl)
theorem Ni {x:Qi}:bI Tryz.prog 147 [aE x] (aE x):=by
 refine bI.intro Tryz.func147 rfl Tryz.ntmps147 rfl (fun cx=>(ts (rn rfl (fU (Ht rfl)) fun B1=>(rn rfl (eK (Ts:=[Is (.bool false),Is (.slice none 0 0),Is (.bool false),Is (.slice none 0 0),Is (.slice none 0 0)]) O_60 rfl (fun V=>aW zd (aW zd (aW zd (aW zd (aW zd (aG))))))) fun B2=>(eJ (ts (rn rfl (eK (Ts:=[Is (.bool false),Is (.slice none 0 0),Is (.bool false),Is (.slice none 0 0),Is (.slice none 0 0)]) O_60 rfl (fun V=>aW zd (aW zd (aW zd (aW zd (aW zd (aG))))))) fun B3=>?_)))))))
 refine eJ (ts (ro rfl (eG A_60 Z_60 (Ht rfl) (i:=2) rfl rfl rfl) (ro rfl (bA bP (Ht rfl)) (ro rfl (eG A_60 Z_60 (Ht rfl) (i:=0) rfl rfl rfl) (ro rfl (aP sD Tryz.call304 Ps (Ht rfl) ⟨(Ht rfl),trivial⟩) (gZ Z_60 (Ht rfl) (Ht rfl) rfl (i:=1) rfl (aK rfl) rfl rfl (eJ ?_)))))))
 exact fK rfl (fY A_60 Z_60 rfl (i:=1) rfl rfl)
theorem Nb {r:List Qi} {k:Nat}:bI Tryz.prog 261 [aL r,PT (NT .i64 k)] (aI (!decide (r.length = k))):=by
 refine bI.intro Tryz.func261 rfl Tryz.ntmps261 rfl (fun cx=>(ts (ro rfl (cQ cV) (eJ (ts (rm rfl (ro rfl (dU U_25 (Ht rfl) aD) (ro rfl (dJ A_3 Z_3 (Ht rfl)) (ro rfl (kM (Ht rfl) (Ht rfl)) (ra rfl (eJ ?_)))))))))))
 exact fK rfl (fQ rfl)
theorem Bh  : bI Tryz.prog 226 [bC []] (fE [NT .i64 0,aI true]):=by
 refine bI.intro Tryz.func226 rfl Tryz.ntmps226 rfl (fun cx=>(ts (ro rfl (cQ (cJ 0)) (ro rfl (cQ cV) (eJ (cK (ts (rm rfl (ro rfl (dU U_26 (Ht rfl) aD) (ro rfl (eH (Ht rfl) (cJ 0)) (eJ (rS (Ht rfl) (by rfl) ?_))))))))))))
 refine ts (ro rfl (cQ (cJ 0)) (ro rfl (cQ cV) (eJ ?_)))
 exact bM rfl (fQ rfl) (fQ rfl)
theorem yB {a:List (List Qi)} {n k:Nat} (h:bT a n k) (h1:1 ≤ n) (hn:n ≤ 32) (hk:k ≤ 32):bI Tryz.prog 226 [bC a] (fE [NT .i64 k,aI true]):=by
 obtain ⟨rfl,h2⟩:=h
 have hr0:(a.getD 0 []).length = k:=bT.row ⟨rfl,h2⟩ zo
 refine bI.intro Tryz.func226 rfl Tryz.ntmps226 rfl (fun cx=>(ts (ro rfl (cQ (cJ 0)) (ro rfl (cQ cV) (eJ (cK (ts (rm rfl (ro rfl (dU U_26 (Ht rfl) aD) (ro rfl (eH (Ht rfl) (cJ 0)) (eJ (dQ (Ht rfl) (fun hb=>?_) (fun hb=>?_)))))))))))))
 ·simp only [decide_eq_true_eq] at hb
  omega
 ·refine cU (ts (rm rfl (ro rfl (dZ U_26 Z_25 (Ht rfl) (cJ 0) rfl (eX (eQ (d := []) zo))) (ro rfl (dJ A_25 Z_25 (Ht rfl)) (ro rfl (dU U_25 (Ht rfl) aD) (rn rfl (eK (Ts := [Is (.int .i64 0)]) O_3 rfl (fun V => aW zd (aG))) fun B4 => (oZ Z_3 (Ht rfl) (Ht rfl) (i := 0) rfl (aK rfl) rfl (eJ (cK (gW (i := 0) (tt := 4) rfl rfl kQ (fV (m := 15) (dp 4 rfl (dJ A_3 Z_3 (Ht rfl)) ?_))))))))))))
  refine dp 0 rfl (cX (Ht rfl)) (dq 13 1 rfl (dU U_26 (Ht rfl) aD) (dq 14 2 rfl (uJ (Ht rfl) (cJ 32)) (dq 15 3 rfl (cX (Ht rfl)) (C.D_step (Ei:=[(4,_),(16,_)]) rfl rfl (bV (bK rfl rfl) (bV (bG 4 rfl rfl) bW)) (eY rfl rfl (Ht rfl) (fun h=>dJ A_3 Z_3 (Ht rfl))) (C.D_step (Ei:=[(17,_),(16,_)]) rfl rfl (bV (bG 5 rfl rfl) (bV (bG 4 rfl rfl) bW)) (eY rfl rfl (Ht rfl) (fun h=>uJ (fW rfl h) (cJ 32))) (dP 16 4 18 6 rfl (iU (Ht rfl) (fun h=>(fW rfl h))) ?_))))))
  refine dq 19 7 rfl (cX (Ht rfl)) (C.D_step (Ei:=[(0,_),(20,_)]) rfl rfl (bV (bK rfl rfl) (bV (bG 8 rfl rfl) bW)) (eY rfl rfl (Ht rfl) (fun h=>cX (Ht rfl))) (C.D_step (Ei:=[(4,_),(20,_)]) rfl rfl (bV (bK rfl rfl) (bV (bG 8 rfl rfl) bW)) (eY rfl rfl (Ht rfl) (fun h=>lO (γ:=List Qi) (Ts:=fun r=>[aL r]) (U:=fun r=>aI (!decide (r.length = (a.getD 0 []).length))) Tryz.call261 (fun r=>Nb) ⟨(Ht rfl),trivial⟩)) (C.D_step (Ei:=[(21,_),(22,_),(20,_)]) rfl rfl (bV (bG 9 rfl rfl) (bV (bG 10 rfl rfl) (bV (bG 8 rfl rfl) bW))) (eY rfl rfl (Ht rfl) (fun h=>cZ Tryz.call227 (Eo (l:=a) (T:=aL) (p:=fun r=>!decide (r.length = (a.getD 0 []).length)) zo) ⟨(fW rfl h),(fW rfl h),trivial⟩)) ?_)))
  refine C.D_step (Ei:=[(23,_),(20,_)]) rfl rfl (bV (bG 11 rfl rfl) (bV (bG 8 rfl rfl) bW)) (eY rfl rfl (Ht rfl) (fun h=>fH (fW rfl h))) (dP 20 8 24 12 rfl (iU (Ht rfl) (fun h=>(fW rfl h))) (dq 12 0 rfl (cQ (Ht rfl)) (fG aT rfl (by kernel_rfl) (zF (zF (zF (aJ (aJ (aJ (aV (ra rfl (eJ (bM rfl (fJ (fQ rfl) ?_) (fJ (fQ rfl) ?_))))))))))))))
  ·exact (nQ hr0)
  ·exact (eD (by rw [hr0,a1G ⟨rfl,h2⟩]; simp; omega))
theorem Bi {a:List (List Qi)} {n k:Nat} (h:bT a n k) (h1:1 ≤ n ∨ k = 0) (hn:n ≤ 32) (hk:k ≤ 32):bI Tryz.prog 226 [bC a] (fE [NT .i64 k,aI true]):=by
 by_cases e:n = 0
 ·subst e
  obtain rfl:=List.length_eq_zero_iff.1 h.1
  rw [show k = 0 by omega]; exact Bh
 ·exact yB h zo hn hk
end
section
open Go Go.RowKit
theorem oI (v : Value) (w : World) : (method (Tryz.prog.types.size + Made.depth) 60 v "Add").run Tryz.prog w = .ok (71, v) w := by kernel_rfl
theorem sC (v : Value) (w : World) : (method (Tryz.prog.types.size + Made.depth) 60 v "Conj").run Tryz.prog w = .ok (173, v) w := by kernel_rfl
theorem dH (v : Value) (w : World) : (method (Tryz.prog.types.size + Made.depth) 60 v "Mul").run Tryz.prog w = .ok (70, v) w := by kernel_rfl
end
section
open Go Go.RowKit
theorem Ww {a b:List (List Qi)} {n k m L M:Nat} (ha:bT a n k) (hb:bT b k m) (hfa:aS a L) (hfb:aS b M) (hL1:1 ≤ L) (hM1:1 ≤ M) (hL:L ≤ 900000000000) (hM:M ≤ 900000000000) (hn1:1 ≤ n ∨ k = 0) (hk1:1 ≤ k ∨ m = 0) (hn:n ≤ 8) (hk:k ≤ 8) (hm:m ≤ 8):gM Tryz.prog 141 [bC a,bC b] [] (Nat) (fun B=>fE [Is (.slice (some ⟨B,0,none⟩) n n),aN .i64 0]) (fun B=>[oH B 25 60 5 (bN aE (mJ a b n k m))]) (fun _=>True):=by
 have hal:=ha.1
 have hbl:=hb.1
 refine gM.intro Tryz.func141 rfl Tryz.ntmps141 rfl (fun cx Z=>(ts (ro rfl (cQ cV) (ro rfl (cQ (cJ 0)) (eJ (ts (rm rfl (ro rfl (cZ Tryz.call226 (Bi ha hn1 zo zo) ⟨(Ht rfl),trivial⟩) (rm rfl (ro rfl (dY (Ht rfl) rfl) (ro rfl (dY (Ht rfl) rfl) (ra rfl (ra rfl (eJ (ts (rm rfl (ro rfl (cZ Tryz.call226 (Bi hb hk1 zo zo) ⟨(Ht rfl),trivial⟩) (rm rfl (ro rfl (dY (Ht rfl) rfl) (ro rfl (dY (Ht rfl) rfl) (ra rfl (ra rfl (eJ (cK (ts (rm rfl (ro rfl (fH (Ht rfl)) ?_)))))))))))))))))))))))))))
 refine rm rfl (fZ rfl rfl (eY rfl rfl (Ht rfl) (fun h=>cX (Ht rfl))) (fZ rfl rfl (eY rfl rfl (Ht rfl) (fun h=>fH (fW rfl h))) (ro rfl (lZ (Ht rfl) (fun h=>(fW rfl h))) (rm rfl (fZ rfl rfl (eY rfl rfl (Ht rfl) (fun h=>cX (Ht rfl))) (fZ rfl rfl (eY rfl rfl (Ht rfl) (fun h=>cX (Ht rfl))) (fZ rfl rfl (eY rfl rfl (Ht rfl) (fun h=>dU U_26 (fW rfl h) aD)) (fZ rfl rfl (eY rfl rfl (Ht rfl) (fun h=>kM (fW rfl h) (fW rfl h))) (ro rfl (lZ (Ht rfl) (fun h=>(fW rfl h))) ?_)))))))))
 refine eJ (dQ (Ht rfl) (fun h0=>?_) (fun h0=>?_))
 ·exact absurd h0 (by simp [hbl])
 ·refine cU (ts (rm rfl (ro rfl (dU U_26 (Ht rfl) aD) (rn rfl (iF (T := Is (.slice none 0 0)) (i := Tryz.t25) V_26 nD rfl rfl (Ht rfl) rfl (fun _ => rfl) trivial (by show 24 * _ ≤ _; omega) zo) fun B39 => (ra rfl (eJ (cK (ts (rm rfl (ro rfl (gI U_26 (Ht rfl)) (ro rfl (cX (cJ 0)) (eJ (eU (mH 1 rfl (sB (e := 60) (s := 5)) ?_))))))))))))))
  refine cB (fun (i : Nat) => i ≤ n) (fun (i : Nat) => n - i) (fun (i : Nat) => [(0, bC a), (1, bC b), (6, NT .i64 k), (8, NT .i64 m), (10, Is (.slice (some ⟨B39, 0, none⟩) n n)), (41, NT .i64 n), (42, NT .i64 i)]) (fun (i : Nat) => [Z, oH B39 25 60 5 (bN aE (kR (fun i => tab m fun c => zO a b k i c) [] n i))]) 0 (Nat.zero_le _)
   (aQ rfl (aQ rfl (aQ rfl (aQ rfl (aZ rfl (fun v V h=>by rw [← hal]; exact h) (aZ rfl (nQ hal) (zS rfl))))))) (aU (fun _ _ _ h=>h) (aU (cA (by rw [← iO,kX,hal]; exact mB aE n)) aY)) (fun i hi=>?_)
  refine ts (ro rfl (gJ (Ht rfl) (Ht rfl)) (eJ (cK (dQ (Ht rfl) (fun hd=>?_) (fun hd=>?_)))))
  ·simp only [decide_eq_true_eq] at hd
   have har:=ha.row hd
   refine qJ 1 (i) rfl (kP hd) (fun v=>(cU (cK (eU (ts (rm rfl (ra rfl (eJ (ts (rm rfl (ro rfl (cX (cJ 0)) (eJ (eU ?_)))))))))))))
   refine gN (fun (c : Nat) (v : Value) => c ≤ m) (fun (c : Nat) (v : Value) => m - c) (fun (c : Nat) (v : Value) => [(0, bC a), (1, bC b), (6, NT .i64 k), (8, NT .i64 m), (10, Is (.slice (some ⟨B39, 0, none⟩) n n)), (11, NT .i64 i), (41, NT .i64 n), (42, NT .i64 i), (45, NT .i64 m), (46, NT .i64 c)]) (fun (c : Nat) (v : Value) => [Z, Ky B39 25 60 5 (bN aE (kR (fun i => tab m fun c => zO a b k i c) [] n i)) i v, bF 60 5 v ((tab c fun c => zO a b k i c).map aE)]) 0 v (Nat.zero_le _)
    (zS rfl) (eO.refl _) (fun c v hc=>?_)
   refine ts (ro rfl (gJ (Ht rfl) (Ht rfl)) (eJ (cK (dQ (Ht rfl) (fun he=>?_) (fun he=>?_)))))
   ·simp only [decide_eq_true_eq] at he
    have hk1:1 ≤ k:=by omega
    have hb0:=hb.row (i:=0) zo
    haveI f1:aH (gm a i 0) L:=hfa.get hL1 i 0
    haveI f2:aH (gm b 0 c) M:=hfb.get hM1 0 c
    refine cU (cK (eU (ts (rm rfl (ra rfl (eJ (cK (fV (m:=15) (dp 0 rfl (cX (Ht rfl)) (dp 11 rfl (cX (Ht rfl)) (dP 49 0 50 1 rfl (dZ U_26 Z_25 (Ht rfl) (Ht rfl) rfl (eX (eQ (d:=[]) zo))) (dq 51 2 rfl (dJ A_25 Z_25 (Ht rfl)) (dq 52 3 rfl (dZ U_25 Z_60 (Ht rfl) (cJ 0) rfl (eX (eQ (d:=Qi.zero) (by rw [har]; omega)))) ?_)))))))))))))
    refine dq 53 4 rfl (dJ A_60 Z_60 (Ht rfl)) (dq 54 5 rfl (bA bP (Ht rfl)) (dp 1 rfl (cX (Ht rfl)) (dq 56 7 rfl (dZ U_26 Z_25 (Ht rfl) (cJ 0) rfl (eX (eQ (d:=[]) zo))) (dq 57 8 rfl (dJ A_25 Z_25 (Ht rfl)) (dp 12 rfl (cX (Ht rfl)) (dP 58 9 59 10 rfl (dZ U_25 Z_60 (Ht rfl) (Ht rfl) rfl (eX (eQ (d:=Qi.zero) (by rw [hb0]; omega)))) ?_))))))
    refine dq 60 11 rfl (dJ A_60 Z_60 (Ht rfl)) (dP 55 6 61 12 rfl (aP dH K_70 (kD zo) (Ht rfl) ⟨(Ht rfl),trivial⟩) (C.D_new (Ei:=[]) rfl rfl rfl bW (eK (Ts:=[Is (.bool false),Is (.slice none 0 0),Is (.bool false),Is (.slice none 0 0),Is (.slice none 0 0)]) O_60 rfl (fun V=>aW zd (aW zd (aW zd (aW zd (aW zd (aG))))))) (fG aT rfl (by kernel_rfl) (zF (zF (zF (aJ (aJ (C.F_new (fun B13=>aV ?_))))))))))
    refine gZ Z_60 (Ht rfl) (Ht rfl) rfl (i:=3) rfl (aK rfl) rfl rfl (eJ (cK (ts (ro rfl (cQ (cJ 1)) (eJ (eU ?_))))))
    refine cB (fun (j : Nat) => 1 ≤ j ∧ j ≤ k) (fun (j : Nat) => k - j) (fun (j : Nat) => [(0, bC a), (1, bC b), (6, NT .i64 k), (8, NT .i64 m), (10, Is (.slice (some ⟨B39, 0, none⟩) n n)), (11, NT .i64 i), (12, NT .i64 c), (13, bO B13 0), (14, NT .i64 j), (41, NT .i64 n), (42, NT .i64 i), (45, NT .i64 m), (46, NT .i64 c)]) (fun (j : Nat) => [Z, Ky B39 25 60 5 (bN aE (kR (fun i => tab m fun c => zO a b k i c) [] n i)) i v, bF 60 5 v ((tab c fun c => zO a b k i c).map aE), box B13 60 [aI (decide ((aF j fun j => gm a i j * gm b j c).a < 0)), bB (aF j fun j => gm a i j * gm b j c).a.natAbs, aI (decide ((aF j fun j => gm a i j * gm b j c).b < 0)), bB (aF j fun j => gm a i j * gm b j c).b.natAbs, bB (du (aF j fun j => gm a i j * gm b j c))]]) 1 ⟨Nat.le_refl _, hk1⟩
     (zS rfl) (aU (fun _ _ _ h=>h) (aU (fun _ _ _ h=>h) (aU (fun _ _ _ h=>h) (aU (aB (by rw [Di]; rfl)) aY)))) (fun j ⟨hj1,hj⟩=>?_)
    refine cK (ts (rm rfl (rm rfl (ro rfl (gJ (Ht rfl) (Ht rfl)) (eJ (dQ (Ht rfl) (fun hf=>?_) (fun hf=>?_)))))))
    ·simp only [decide_eq_true_eq] at hf
     haveI f3:aH (gm a i j) L:=hfa.get hL1 i j
     haveI f4:aH (gm b j c) M:=hfb.get hM1 j c
     haveI f5:aH (aF j fun j=>gm a i j * gm b j c) (8 * (L + M) + 17):=Qn hfa hfb hL1 hM1 zo i c
     have hbj:=hb.row (i:=j) zo
     refine cU (cK (eU (fV (m:=18) (dp 13 rfl (eG A_60 Z_60 (Ht rfl) (i:=3) rfl rfl rfl) (dq 68 0 rfl (bA bP (Ht rfl)) (dp 0 rfl (cX (Ht rfl)) (dp 11 rfl (cX (Ht rfl)) (dP 70 2 71 3 rfl (dZ U_26 Z_25 (Ht rfl) (Ht rfl) rfl (eX (eQ (d:=[]) zo))) (dq 72 4 rfl (dJ A_25 Z_25 (Ht rfl)) (dp 14 rfl (cX (Ht rfl)) (dP 73 5 74 6 rfl (dZ U_25 Z_60 (Ht rfl) (Ht rfl) rfl (eX (eQ (d:=Qi.zero) (by rw [har]; omega)))) ?_)))))))))))
     refine dq 75 7 rfl (dJ A_60 Z_60 (Ht rfl)) (dq 76 8 rfl (bA bP (Ht rfl)) (dp 1 rfl (cX (Ht rfl)) (dp 14 rfl (cX (Ht rfl)) (dP 78 10 79 11 rfl (dZ U_26 Z_25 (Ht rfl) (Ht rfl) rfl (eX (eQ (d:=[]) zo))) (dq 80 12 rfl (dJ A_25 Z_25 (Ht rfl)) (dp 12 rfl (cX (Ht rfl)) (dP 81 13 82 14 rfl (dZ U_25 Z_60 (Ht rfl) (Ht rfl) rfl (eX (eQ (d:=Qi.zero) (by rw [hbj]; omega)))) ?_)))))))
     refine dq 83 15 rfl (dJ A_60 Z_60 (Ht rfl)) (dP 77 9 84 16 rfl (aP dH K_70 (kD zo) (Ht rfl) ⟨(Ht rfl),trivial⟩) (fG aT rfl (by kernel_rfl) (zF (zF (zF (zF (aJ (aJ (aV (ro rfl (aP oI K_71 (wJ zo) (Ht rfl) ⟨(Ht rfl),trivial⟩) (gZ Z_60 (Ht rfl) (Ht rfl) rfl (i:=3) rfl (aK rfl) rfl rfl (eJ (bD ?_)))))))))))))
     refine cY (rm rfl (ro rfl (dW (Ht rfl) (cJ 1) z6) (ra rfl (eJ (gQ (j + 1) ⟨by omega,hf⟩ zo (zS rfl) (aU (fun _ _ _ h=>h) (aU (fun _ _ _ h=>h) (aU (fun _ _ _ h=>h) (aU (aB rfl) aY)))))))))
    ·simp only [decide_eq_false_iff_not] at hf
     obtain rfl:k = j:=Nat.le_antisymm zo hj
     refine gG rfl (Y.D_startA (m:=9) [] 8 2 rfl rfl (bY (Ei:=[(10,_)]) rfl rfl (bQ (bJ rfl rfl) bX) rfl rfl (dX rfl (cX (Ht rfl))) (bY (Ei:=[(11,_)]) rfl rfl (bQ (bJ rfl rfl) bX) rfl rfl (dX rfl (cX (Ht rfl))) (bY (Ei:=[(10,_)]) rfl rfl (bQ (bJ rfl rfl) bX) rfl rfl (dX rfl (cX (Ht rfl))) (bY (Ei:=[(11,_)]) rfl rfl (bQ (bJ rfl rfl) bX) rfl rfl (dX rfl (cX (Ht rfl))) (bY (Ei:=[(89,_),(90,_)]) rfl rfl (bQ (bZ 2 rfl rfl) (bQ (bZ 3 rfl rfl) bX)) rfl rfl (dX rfl (gX U_26 Z_25 (Ht rfl) (Ht rfl) rfl zo (by rw [Nat.mul_one,Nat.zero_add]))) ?_))))))
     refine bY (Ei:=[(91,_)]) rfl rfl (bQ (bZ 4 rfl rfl) bX) rfl rfl (dX rfl (jY A_25 Z_25 (Ht rfl) (j:=1) rfl)) (bY (Ei:=[(13,_)]) rfl rfl (bQ (bJ rfl rfl) bX) rfl rfl (dX rfl (eG A_60 Z_60 (Ht rfl) (i:=3) rfl rfl rfl)) (bY (Ei:=[(93,_)]) rfl rfl (bQ (bZ 6 rfl rfl) bX) rfl rfl (dX rfl (cI (xs:=[.tmp 93]) U_25 Z_60 O_60 (cW (Ht rfl) cG) rfl rfl rfl)) (Y.D_app (Ei:=[(92,_),(94,_)]) rfl rfl rfl rfl (bQ (bZ 5 rfl rfl) (bQ (bZ 7 rfl rfl) bX)) rfl (pS (inf:=Tryz.t60) jK iB rfl rfl rfl (Ht rfl) (Ht rfl) (by simp) (fun T hT=>by simp at hT; subst hT; exact El.ag rfl) (by show _ * 88 ≤ _; simp only [List.length_map,aC,List.length_cons,List.length_nil]; omega) (by simp only [List.length_map,aC,List.length_cons,List.length_nil]; omega)) ?_)))
     refine Y.D_done aT rfl (by kernel_rfl) rfl (by simp [Y.okP]) rfl rfl (bU (bU (bU (bU (bU (bU (bU (bU (Y.F_app (fun v2=>Y.F_nil ?_))))))))))
     refine ro rfl (gX U_26 Z_25 (Ht rfl) (Ht rfl) rfl zo (by rw [Nat.mul_one,Nat.zero_add])) ?_
     refine sX Z_25 (Ht rfl) (Ht rfl) (by simp only [bN,List.length_map,dD]; omega) (j:=1) (l:=4) rfl rfl rfl ?_
     refine eJ (bD (cY (ro rfl (dW (Ht rfl) (cJ 1) z6) (rm rfl (eJ (bL [0,1,4] rfl (by decide) (gQ (c + 1,v2) he (by dsimp only; omega) (zS rfl) (aU (fun _ _ _ h=>h) (aU (fun _ _ _ h=>h) (aU (aO ((Bc aE _ (zO a b k i c)).trans (congrArg _ (gD c (fun c=>zO a b k i c)).symm))) aY))))))))))
   ·simp only [decide_eq_false_iff_not] at he
    obtain rfl:m = c:=Nat.le_antisymm zo hc
    refine gG rfl (bD (fR 1 2 rfl rfl (by decide) (by simp only [bN,List.length_map,dD]; omega) ?_))
    refine cY (ro rfl (dW (Ht rfl) (cJ 1) z6) (rm rfl (eJ (bL [0,1] rfl (by decide) (gQ (i + 1) hd zo (zS rfl) (aU (fun _ _ _ h=>h) (aU (cA (by rw [gS,← jI (f:=(fun i=>tab m fun c=>zO a b k i c))])) aY)))))))
  ·simp only [decide_eq_false_iff_not] at hd
   obtain rfl:n = i:=Nat.le_antisymm zo hi
   refine gG rfl (ts (rm rfl (ra rfl (ro rfl (cQ (cJ 0)) (eJ ?_)))))
   exact jC B39 trivial [0,1] ⟨⟨_,rfl,fun _ _ _ h=>h⟩,⟨_,rfl,(cA (by rw [jR]; rfl))⟩,trivial⟩ (by decide) (a30 rfl (fQ rfl) (fQ rfl))
theorem Pt {a b:List (List Qi)} {n k m L M:Nat} (ha:bT a n k) (hb:bT b k m) (hfa:aS a L) (hfb:aS b M) (hL1:1 ≤ L) (hM1:1 ≤ M) (hL:L ≤ 900000000000) (hM:M ≤ 900000000000) (hn1:1 ≤ n) (hk1:1 ≤ k) (hn:n ≤ 8) (hk:k ≤ 8) (hm:m ≤ 8):gM Tryz.prog 141 [bC a,bC b] [] Nat (fun B=>fE [Is (.slice (some ⟨B,0,none⟩) n n),aN .i64 0]) (fun B=>[oH B 25 60 5 (bN aE (mJ a b n k m))]) (fun _=>True):=Ww ha hb hfa hfb hL1 hM1 hL hM (.inl hn1) (.inl hk1) hn hk hm
theorem a4a {a b:List (List Qi)} {n k m L M:Nat} (ha:bT a n k) (hb:bT b k m) (hfa:aS a L) (hfb:aS b M) (hL1:1 ≤ L) (hM1:1 ≤ M) (hL:L ≤ 900000000000) (hM:M ≤ 900000000000) (hn1:1 ≤ n) (hk1:1 ≤ k) (hn:n ≤ 8) (hk:k ≤ 8) (hm:m ≤ 8):bI Tryz.prog 141 [bC a,bC b] (fE [bC (mJ a b n k m),aN .i64 0]):=(Pt ha hb hfa hfb hL1 hM1 hL hM hn1 hk1 hn hk hm).fun fun B _ v S V h1 h2=>a6r h1 fun u hu=>kG (s:=5) (M:=mJ a b n k m) (aC _ _).symm u S V hu h2
theorem a46 {a:List (List Qi)} {n m:Nat} (ha:bT a n m) (hn1:1 ≤ n) (hn:n ≤ 8) (hm:m ≤ 8):gM Tryz.prog 140 [bC a] [] (Nat) (fun B=>fE [Is (.slice (some ⟨B,0,none⟩) m m),aN .i64 0]) (fun B=>[oH B 25 60 5 (bN aE (Gk a n m))]) (fun _=>True):=by
 have hal:=ha.1
 refine gM.intro Tryz.func140 rfl Tryz.ntmps140 rfl (fun cx Z=>(ts (ro rfl (cQ cV) (ro rfl (cQ (cJ 0)) (eJ (ts (rm rfl (ro rfl (cZ Tryz.call226 (yB ha hn1 zo zo) ⟨(Ht rfl),trivial⟩) (rm rfl (ro rfl (dY (Ht rfl) rfl) (ro rfl (dY (Ht rfl) rfl) (ra rfl (ra rfl (eJ (cK (ts (rm rfl (ro rfl (fH (Ht rfl)) (eJ (dQ (Ht rfl) (fun h0=>?_) (fun h0=>?_)))))))))))))))))))))
 ·exact absurd h0 (by simp)
 ·refine cU (ts (rm rfl (rn rfl (iF (T := Is (.slice none 0 0)) (i := Tryz.t25) V_26 nD rfl rfl (Ht rfl) rfl (fun _ => rfl) trivial (by show 24 * _ ≤ _; omega) zo) fun B17 => (ra rfl (eJ (cK (ts (rm rfl (ro rfl (gI U_26 (Ht rfl)) (ro rfl (cX (cJ 0)) (eJ (eU (mH 1 rfl (sB (e := 60) (s := 5)) ?_)))))))))))))
  refine cB (fun (k : Nat) => k ≤ m) (fun (k : Nat) => m - k) (fun (k : Nat) => [(0, bC a), (6, Is (.slice (some ⟨B17, 0, none⟩) m m)), (19, NT .i64 m), (20, NT .i64 k)]) (fun (k : Nat) => [Z, oH B17 25 60 5 (bN aE (kR (fun k => tab n fun i => (gm a i k).conj) [] m k))]) 0 (Nat.zero_le _)
   (zS rfl) (aU (fun _ _ _ h=>h) (aU (cA (by rw [← iO,kX]; exact mB aE m)) aY)) (fun k hk=>?_)
  refine ts (ro rfl (gJ (Ht rfl) (Ht rfl)) (eJ (cK (dQ (Ht rfl) (fun hd=>?_) (fun hd=>?_)))))
  ·simp only [decide_eq_true_eq] at hd
   refine qJ 1 (k) rfl (kP hd) (fun v=>(cU (cK (eU (ts (rm rfl (ra rfl (eJ (ts (rm rfl (ro rfl (dU U_26 (Ht rfl) aD) (ro rfl (cX (cJ 0)) (eJ (eU ?_))))))))))))))
   refine gN (fun (i : Nat) (v : Value) => i ≤ n) (fun (i : Nat) (v : Value) => n - i) (fun (i : Nat) (v : Value) => [(0, bC a), (6, Is (.slice (some ⟨B17, 0, none⟩) m m)), (7, NT .i64 k), (19, NT .i64 m), (20, NT .i64 k), (24, NT .i64 n), (25, NT .i64 i)]) (fun (i : Nat) (v : Value) => [Z, Ky B17 25 60 5 (bN aE (kR (fun k => tab n fun i => (gm a i k).conj) [] m k)) k v, bF 60 5 v ((tab i fun i => (gm a i k).conj).map aE)]) 0 v (Nat.zero_le _)
    (aQ rfl (aQ rfl (aQ rfl (aQ rfl (aQ rfl (aZ rfl (nQ hal) (zS rfl))))))) (eO.refl _) (fun i v hi=>?_)
   refine ts (ro rfl (gJ (Ht rfl) (Ht rfl)) (eJ (cK (dQ (Ht rfl) (fun he=>?_) (fun he=>?_)))))
   ·simp only [decide_eq_true_eq] at he
    have har:=ha.row he
    refine cU (cK (eU (ts (rm rfl (ra rfl (eJ (Y.D_startA (m:=17) [] 16 2 rfl rfl (bY (Ei:=[(6,_)]) rfl rfl (bQ (bJ rfl rfl) bX) rfl rfl (dX rfl (cX (Ht rfl))) (bY (Ei:=[(7,_)]) rfl rfl (bQ (bJ rfl rfl) bX) rfl rfl (dX rfl (cX (Ht rfl))) (bY (Ei:=[(6,_)]) rfl rfl (bQ (bJ rfl rfl) bX) rfl rfl (dX rfl (cX (Ht rfl))) (bY (Ei:=[(7,_)]) rfl rfl (bQ (bJ rfl rfl) bX) rfl rfl (dX rfl (cX (Ht rfl))) (bY (Ei:=[(30,_),(31,_)]) rfl rfl (bQ (bZ 2 rfl rfl) (bQ (bZ 3 rfl rfl) bX)) rfl rfl (dX rfl (gX U_26 Z_25 (Ht rfl) (Ht rfl) rfl zo (by rw [Nat.mul_one,Nat.zero_add]))) ?_))))))))))))
    refine bY (Ei:=[(32,_)]) rfl rfl (bQ (bZ 4 rfl rfl) bX) rfl rfl (dX rfl (jY A_25 Z_25 (Ht rfl) (j:=1) rfl)) (bY (Ei:=[(0,_)]) rfl rfl (bQ (bJ rfl rfl) bX) rfl rfl (dX rfl (cX (Ht rfl))) (bY (Ei:=[(8,_)]) rfl rfl (bQ (bJ rfl rfl) bX) rfl rfl (dX rfl (cX (Ht rfl))) (bY (Ei:=[(34,_),(35,_)]) rfl rfl (bQ (bZ 6 rfl rfl) (bQ (bZ 7 rfl rfl) bX)) rfl rfl (dX rfl (dZ U_26 Z_25 (Ht rfl) (Ht rfl) rfl (eX (eQ (d:=[]) zo)))) ?_)))
    refine bY (Ei:=[(36,_)]) rfl rfl (bQ (bZ 8 rfl rfl) bX) rfl rfl (dX rfl (dJ A_25 Z_25 (Ht rfl))) (bY (Ei:=[(7,_)]) rfl rfl (bQ (bJ rfl rfl) bX) rfl rfl (dX rfl (cX (Ht rfl))) (bY (Ei:=[(37,_),(38,_)]) rfl rfl (bQ (bZ 9 rfl rfl) (bQ (bZ 10 rfl rfl) bX)) rfl rfl (dX rfl (dZ U_25 Z_60 (Ht rfl) (Ht rfl) rfl (eX (eQ (d:=Qi.zero) (by rw [har]; omega))))) ?_))
    refine bY (Ei:=[(39,_)]) rfl rfl (bQ (bZ 11 rfl rfl) bX) rfl rfl (dX rfl (dJ A_60 Z_60 (Ht rfl))) (bY (Ei:=[(40,_)]) rfl rfl (bQ (bZ 12 rfl rfl) bX) rfl rfl (dX rfl (bA bP (Ht rfl))) (bY (Ei:=[(41,_)]) rfl rfl (bQ (bZ 13 rfl rfl) bX) rfl rfl (dX rfl (aP sC Tryz.call173 Be (Ht rfl) trivial)) (bY (Ei:=[(42,_)]) rfl rfl (bQ (bZ 14 rfl rfl) bX) rfl rfl (dX rfl (cI (xs:=[.tmp 42]) U_25 Z_60 O_60 (cW (Ht rfl) cG) rfl rfl rfl)) ?_)))
    refine Y.D_app (Ei:=[(33,_),(43,_)]) rfl rfl rfl rfl (bQ (bZ 5 rfl rfl) (bQ (bZ 15 rfl rfl) bX)) rfl (pS (inf:=Tryz.t60) jK iB rfl rfl rfl (Ht rfl) (Ht rfl) (by simp) (fun T hT=>by simp at hT; subst hT; exact El.ag rfl) (by show _ * 88 ≤ _; simp only [List.length_map,aC,List.length_cons,List.length_nil]; omega) (by simp only [List.length_map,aC,List.length_cons,List.length_nil]; omega)) ?_
    refine Y.D_done aT rfl (by kernel_rfl) rfl (by simp [Y.okP]) rfl rfl (bU (bU (bU (bU (bU (bU (bU (bU (bU (bU (bU (bU (bU (bU (bU (bU (Y.F_app (fun v2=>Y.F_nil ?_))))))))))))))))))
    refine ro rfl (gX U_26 Z_25 (Ht rfl) (Ht rfl) rfl zo (by rw [Nat.mul_one,Nat.zero_add])) ?_
    refine sX Z_25 (Ht rfl) (Ht rfl) (by simp only [bN,List.length_map,dD]; omega) (j:=1) (l:=3) rfl rfl rfl ?_
    refine eJ (bD (cY (ro rfl (dW (Ht rfl) (cJ 1) z6) (rm rfl (eJ (bL [0,1,3] rfl (by decide) (gQ (i + 1,v2) he (by dsimp only; omega) (zS rfl) (aU (fun _ _ _ h=>h) (aU (fun _ _ _ h=>h) (aU (aO ((Bc aE _ (gm a i k).conj).trans (congrArg _ (gD i (fun i=>(gm a i k).conj)).symm))) aY))))))))))
   ·simp only [decide_eq_false_iff_not] at he
    obtain rfl:n = i:=Nat.le_antisymm zo hi
    refine gG rfl (bD (fR 1 2 rfl rfl (by decide) (by simp only [bN,List.length_map,dD]; omega) ?_))
    refine cY (ro rfl (dW (Ht rfl) (cJ 1) z6) (rm rfl (eJ (bL [0,1] rfl (by decide) (gQ (k + 1) hd zo (zS rfl) (aU (fun _ _ _ h=>h) (aU (cA (by rw [gS,← jI (f:=(fun k=>tab n fun i=>(gm a i k).conj))])) aY)))))))
  ·simp only [decide_eq_false_iff_not] at hd
   obtain rfl:m = k:=Nat.le_antisymm zo hk
   refine gG rfl (ts (rm rfl (ra rfl (ro rfl (cQ (cJ 0)) (eJ ?_)))))
   exact jC B17 trivial [0,1] ⟨⟨_,rfl,fun _ _ _ h=>h⟩,⟨_,rfl,(cA (by rw [jR]; rfl))⟩,trivial⟩ (by decide) (a30 rfl (fQ rfl) (fQ rfl))
theorem a5K {a:List (List Qi)} {n m:Nat} (ha:bT a n m) (hn1:1 ≤ n) (hn:n ≤ 8) (hm:m ≤ 8):bI Tryz.prog 140 [bC a] (fE [bC (Gk a n m),aN .i64 0]):=(a46 ha hn1 hn hm).fun fun B _ v S V h1 h2=>a6r h1 fun u hu=>kG (s:=5) (M:=Gk a n m) (aC _ _).symm u S V hu h2
theorem a1u {z:List Qi} {s:List (List Qi)} (hsh:bT s z.length z.length) (hl:z.length ≤ 8):gM Tryz.prog 143 [dO z s] [] (Nat) (fun B=>Is (.slice (some ⟨B,0,none⟩) z.length z.length)) (fun B=>[oH B 25 60 5 (bN aE (tab z.length fun i=>tab z.length fun k=>gm s i k))]) (fun _=>True):=by
 refine gM.intro Tryz.func143 rfl Tryz.ntmps143 rfl (fun cx Z=>(ts (rn rfl (fU (Ht rfl)) fun B1=>(ro rfl (cQ cV) (eJ (ts (ro rfl (eG A_28 Z_28 (Ht rfl) (i:=1) rfl rfl rfl) (ro rfl (cZ K_31 qK ⟨(Ht rfl),trivial⟩) (rn rfl (iF (T:=Is (.slice none 0 0)) (i:=Tryz.t25) V_26 nD rfl rfl (Ht rfl) rfl (fun _=>rfl) trivial (by show 24 * _ ≤ _; omega) zo) fun B10=>(ra rfl (eJ (cK (ts (rm rfl (ro rfl (gI U_26 (Ht rfl)) (ro rfl (cX (cJ 0)) (eJ (eU ?_))))))))))))))))))
 refine mH 2 rfl (sB (e:=60) (s:=5)) ?_
 refine cB (fun (i : Nat) => i ≤ z.length) (fun (i : Nat) => z.length - i) (fun (i : Nat) => [(1, bO B1 0), (3, Is (.slice (some ⟨B10, 0, none⟩) z.length z.length)), (12, NT .i64 z.length), (13, NT .i64 i)]) (fun (i : Nat) => [Z, box B1 28 [aL z, bC s], oH B10 25 60 5 (bN aE (kR (fun i => tab z.length fun k => gm s i k) [] z.length i))]) 0 (Nat.zero_le _)
  (zS rfl) (aU (fun _ _ _ h=>h) (aU (fun _ _ _ h=>h) (aU (cA (by rw [← iO,kX]; exact mB aE z.length)) aY))) (fun i hi=>?_)
 refine ts (ro rfl (gJ (Ht rfl) (Ht rfl)) (eJ (cK (dQ (Ht rfl) (fun hd=>?_) (fun hd=>?_)))))
 ·simp only [decide_eq_true_eq] at hd
  refine qJ 2 (i) rfl (kP hd) (fun v=>(cU (cK (eU (ts (rm rfl (ra rfl (eJ (ts (rm rfl (ro rfl (gI U_26 (Ht rfl)) (ro rfl (cX (cJ 0)) (eJ (eU ?_))))))))))))))
  refine gN (fun (k : Nat) (v : Value) => k ≤ z.length) (fun (k : Nat) (v : Value) => z.length - k) (fun (k : Nat) (v : Value) => [(1, bO B1 0), (3, Is (.slice (some ⟨B10, 0, none⟩) z.length z.length)), (4, NT .i64 i), (12, NT .i64 z.length), (13, NT .i64 i), (17, NT .i64 z.length), (18, NT .i64 k)]) (fun (k : Nat) (v : Value) => [Z, box B1 28 [aL z, bC s], Ky B10 25 60 5 (bN aE (kR (fun i => tab z.length fun k => gm s i k) [] z.length i)) i v, bF 60 5 v ((tab k fun k => gm s i k).map aE)]) 0 v (Nat.zero_le _)
   (zS rfl) (eO.refl _) (fun k v hk=>?_)
  refine ts (ro rfl (gJ (Ht rfl) (Ht rfl)) (eJ (cK (dQ (Ht rfl) (fun he=>?_) (fun he=>?_)))))
  ·simp only [decide_eq_true_eq] at he
   refine cU (cK (eU (ts (rm rfl (ra rfl (eJ (ts (ro rfl (eG A_28 Z_28 (Ht rfl) (i:=1) rfl rfl rfl) (rm rfl (ro rfl (dW (Ht rfl) (cJ 1) z6) (rm rfl (ro rfl (dW (Ht rfl) (cJ 1) z6) (ro rfl (cZ Tryz.call39 (a6x (i:=(i:Int) + 1) (j:=(k:Int) + 1) hsh zo) ⟨(Ht rfl),(Ht rfl),(Ht rfl),trivial⟩) (rm rfl (ro rfl (dY (Ht rfl) rfl) (ro rfl (dY (Ht rfl) rfl) ?_))))))))))))))))
   refine rn rfl (eK (Ts:=[Is (.bool false),Is (.slice none 0 0),Is (.bool false),Is (.slice none 0 0),Is (.slice none 0 0)]) O_60 rfl (fun V=>aW zd (aW zd (aW zd (aW zd (aW zd (aG))))))) fun B6=>gZ Z_60 (Ht rfl) (Ht rfl) rfl (i:=4) rfl (aK rfl) rfl rfl (ra rfl (eJ (Y.D_startA (m:=9) [] 8 3 rfl rfl (bY (Ei:=[(3,_)]) rfl rfl (bQ (bJ rfl rfl) bX) rfl rfl (dX rfl (cX (Ht rfl))) ?_))))
   refine bY (Ei:=[(4,_)]) rfl rfl (bQ (bJ rfl rfl) bX) rfl rfl (dX rfl (cX (Ht rfl))) (bY (Ei:=[(3,_)]) rfl rfl (bQ (bJ rfl rfl) bX) rfl rfl (dX rfl (cX (Ht rfl))) (bY (Ei:=[(4,_)]) rfl rfl (bQ (bJ rfl rfl) bX) rfl rfl (dX rfl (cX (Ht rfl))) (bY (Ei:=[(32,_),(33,_)]) rfl rfl (bQ (bZ 2 rfl rfl) (bQ (bZ 3 rfl rfl) bX)) rfl rfl (dX rfl (gX U_26 Z_25 (Ht rfl) (Ht rfl) rfl zo (by rw [Nat.mul_one,Nat.zero_add]))) ?_)))
   refine bY (Ei:=[(34,_)]) rfl rfl (bQ (bZ 4 rfl rfl) bX) rfl rfl (dX rfl (jY A_25 Z_25 (Ht rfl) (j:=2) rfl)) (bY (Ei:=[(6,_)]) rfl rfl (bQ (bJ rfl rfl) bX) rfl rfl (dX rfl (eG A_60 Z_60 (Ht rfl) (i:=4) rfl rfl rfl)) (bY (Ei:=[(36,_)]) rfl rfl (bQ (bZ 6 rfl rfl) bX) rfl rfl (dX rfl (cI (xs:=[.tmp 36]) U_25 Z_60 O_60 (cW (Ht rfl) cG) rfl rfl rfl)) (Y.D_app (Ei:=[(35,_),(37,_)]) rfl rfl rfl rfl (bQ (bZ 5 rfl rfl) (bQ (bZ 7 rfl rfl) bX)) rfl (pS (inf:=Tryz.t60) jK iB rfl rfl rfl (Ht rfl) (Ht rfl) (by simp) (fun T hT=>by simp at hT; subst hT; exact El.ag rfl) (by show _ * 88 ≤ _; simp only [List.length_map,aC,List.length_cons,List.length_nil]; omega) (by simp only [List.length_map,aC,List.length_cons,List.length_nil]; omega)) ?_)))
   refine Y.D_done aT rfl (by kernel_rfl) rfl (by simp [Y.okP]) rfl rfl (bU (bU (bU (bU (bU (bU (bU (bU (Y.F_app (fun v2=>Y.F_nil ?_))))))))))
   refine ro rfl (gX U_26 Z_25 (Ht rfl) (Ht rfl) rfl zo (by rw [Nat.mul_one,Nat.zero_add])) ?_
   refine sX Z_25 (Ht rfl) (Ht rfl) (by simp only [bN,List.length_map,dD]; omega) (j:=2) (l:=5) rfl rfl rfl ?_
   refine eJ (bD (cY (ro rfl (dW (Ht rfl) (cJ 1) z6) (rm rfl (eJ (bL [0,1,2,5] rfl (by decide) (gQ (k + 1,v2) he (by dsimp only; omega) (zS rfl) (aU (fun _ _ _ h=>h) (aU (fun _ _ _ h=>h) (aU (fun _ _ _ h=>h) (aU (aO (by rw [gD,List.map_append,a5b hd he]; rfl)) aY)))))))))))
  ·simp only [decide_eq_false_iff_not] at he
   obtain rfl:k = z.length:=Nat.le_antisymm hk zo
   refine gG rfl (bD (fR 2 3 rfl rfl (by decide) (by simp only [bN,List.length_map,dD]; omega) ?_))
   refine cY (ro rfl (dW (Ht rfl) (cJ 1) z6) (rm rfl (eJ (bL [0,1,2] rfl (by decide) (gQ (i + 1) hd zo (zS rfl) (aU (fun _ _ _ h=>h) (aU (fun _ _ _ h=>h) (aU (cA (by rw [gS,← jI (f:=(fun i=>tab z.length fun k=>gm s i k))])) aY))))))))
 ·simp only [decide_eq_false_iff_not] at hd
  obtain rfl:i = z.length:=Nat.le_antisymm hi zo
  refine gG rfl (ts (rm rfl (ra rfl (eJ ?_))))
  exact jC B10 trivial [0,2] ⟨⟨_,rfl,fun _ _ _ h=>h⟩,⟨_,rfl,(cA (by rw [jR]))⟩,trivial⟩ (by decide) (sK rfl (fQ rfl))
theorem Gv {z : List Qi} {s : List (List Qi)} (hsh : bT s z.length z.length) (hl : z.length ≤ 8) : bI Tryz.prog 143 [dO z s] (bC s) := (a1u hsh hl).fun fun B _ v S V h1 h2 => by
 have h3:=kG (s:=5) (M:=tab z.length fun i=>tab z.length fun k=>gm s i k) (aC _ _).symm v S V h1 h2
 rw [← qQ hsh] at h3; exact h3
theorem Xk {z:List Qi} {s:List (List Qi)} (hl:z.length ≤ 8):bI Tryz.prog 149 [dO z s] (aL z):=by
 refine bI.intro Tryz.func149 rfl Tryz.ntmps149 rfl (fun cx=>(ts (rn rfl (fU (Ht rfl)) fun B1=>(ro rfl (cQ cV) (eJ (ts (ro rfl (eG A_28 Z_28 (Ht rfl) (i:=0) rfl rfl rfl) (ro rfl (cZ K_31 qK ⟨(Ht rfl),trivial⟩) (rn rfl (mT (T:=aE Qi.zero) (i:=Tryz.t60) jK iB rfl rfl (Ht rfl) rfl jF (El.ag rfl) (by show 88 * _ ≤ _; omega) zo) fun B7=>(ra rfl (eJ (cK (ts (rm rfl (ro rfl (oA U_25 (Ht rfl) (i:=1) rfl (show ((List.replicate z.length (aE Qi.zero)).length:Int) = ((z.length:Nat):Int) by simp)) ?_)))))))))))))))
 refine ro rfl (cX (cJ 0)) (eJ (eU ?_))
 refine gN (fun (k : Nat) (out : List Qi) => rC (fun i => gv z i) z.length out k) (fun (k : Nat) (out : List Qi) => z.length - k) (fun (k : Nat) (out : List Qi) => [(1, bO B1 0), (3, Is B7), (9, NT .i64 z.length), (10, NT .i64 k)]) (fun (k : Nat) (out : List Qi) => [box B1 28 [aL z, bC s], bF 60 5 B7 (out.map aE)]) 0 (List.replicate z.length Qi.zero) (rC.start _ _ _)
  (zS rfl) (aU (fun _ _ _ h=>h) (aU (aO (Cz aE _ _)) aY)) (fun k out hS=>?_)
 refine ts (ro rfl (gJ (Ht rfl) (Ht rfl)) (eJ (cK (dQ (Ht rfl) (fun hk=>?_) (fun hk=>?_)))))
 ·simp only [decide_eq_true_eq] at hk
  have hlen:=hS.len
  refine cU (cK (eU (ts (rm rfl (ra rfl (eJ (cY (rm rfl (rm rfl (ro rfl (eG A_28 Z_28 (Ht rfl) (i:=0) rfl rfl rfl) (rm rfl (ro rfl (dW (Ht rfl) (cJ 1) z6) (ro rfl (cZ Tryz.call67 (a3v (i:=(k:Int) + 1) zo) ⟨(Ht rfl),(Ht rfl),trivial⟩) (rm rfl (ro rfl (dY (Ht rfl) rfl) (ro rfl (dY (Ht rfl) rfl) (ro rfl (dM U_25 Z_60 (Ht rfl) (Ht rfl) rfl (i:=1) rfl (by first | omega | (simp; omega)) rfl) ?_)))))))))))))))))
  refine mY Z_60 (Ht rfl) (Ht rfl) (El.ag rfl) (i:=1) rfl rfl (by first | omega | (simp; omega)) rfl (eJ (bD (cY (ro rfl (dW (Ht rfl) (cJ 1) z6) (rm rfl (eJ (gQ (k + 1,_) (hS.next hk (a0j hk)) (by dsimp only; omega) (zS rfl) (aU (fun _ _ _ h=>h) (aU (aO (iG aE _ _ _)) aY)))))))))
 ·simp only [decide_eq_false_iff_not] at hk
  obtain rfl:k = z.length:=Nat.le_antisymm hS.kle zo
  have hfin:=hS.fin.trans (Ci (l:=z) rfl).symm
  refine gG rfl (gW (i:=1) (tt:=3) rfl rfl gH (ts (rm rfl (ra rfl (eJ (fK rfl (fJ (fQ rfl) ?_)))))))
  exact (mM (by rw [hfin]))
end
section
open Go Go.RowKit
theorem lH (v : Value) (w : World) : (method (Tryz.prog.types.size + Made.depth) 60 v "Div").run Tryz.prog w = .ok (64, v) w := by kernel_rfl
theorem jQ (v : Value) (w : World) : (method (Tryz.prog.types.size + Made.depth) 60 v "Sub").run Tryz.prog w = .ok (69, v) w := by kernel_rfl
end
section
open Go Go.RowKit
theorem Xa {p c:List (List Qi)} {n m L:Nat} (hp:bT p n m) (hc:bT c m m) (hfp:aS p L) (hfc:aS c L) (hL1:1 ≤ L) (hL:L ≤ 1000000000) (hn1:1 ≤ n) (hm1:1 ≤ m) (hn:n ≤ 8) (hm:m ≤ 8):gM Tryz.prog 148 [bC p,bC c] [] (Nat) (fun B=>Is (.slice (some ⟨B,0,none⟩) n n)) (fun B=>[oH B 25 60 5 (bN aE (lG p c))]) (fun _=>True):=by
 have hpl:=hp.1
 have hf1:=Zw (n:=n) (m:=m) hfp hfc hL1 hL1 hm
 have hf2:=We (n:=n) (m:=m) hfp hL1
 have hs1:bT (mJ p c n m m) n m:=qB
 have hs2:bT (Gk p n m) m n:=Wf
 refine gM.intro Tryz.func148 rfl Tryz.ntmps148 rfl (fun cx Z=>(ts (ro rfl (cQ cV) (eJ (cK (ts (rm rfl (ro rfl (dU U_26 (Ht rfl) aD) (ro rfl (eH (Ht rfl) (cJ 0)) (eJ (dQ (Ht rfl) (fun h0=>?_) (fun h0=>?_))))))))))))
 ·simp only [decide_eq_true_eq] at h0
  omega
 ·refine cU (ts (rm rfl (rm rfl (ro rfl (cZ Tryz.call141 (a4a hp hc hfp hfc hL1 hL1 zo zo hn1 hm1 hn hm hm) ⟨(Ht rfl), (Ht rfl), trivial⟩) (rm rfl (ro rfl (dY (Ht rfl) rfl) (ro rfl (dY (Ht rfl) rfl) (ra rfl (ra rfl (eJ (ts (rm rfl (ro rfl (cZ Tryz.call140 (a5K hp hn1 hn hm) ⟨(Ht rfl), trivial⟩) (rm rfl (ro rfl (dY (Ht rfl) rfl) (ro rfl (dY (Ht rfl) rfl) (ra rfl (ra rfl (eJ (ts (rm rfl (rm rfl (jZ Tryz.call141 (Pt (a := mJ p c n m m) (b := Gk p n m) hs1 hs2 hf1 hf2 zo hL1 zo zo hn1 hm1 hn hm hn) ⟨(Ht rfl), (Ht rfl), trivial⟩ rfl (fun B28 _ => ?_))))))))))))))))))))))))
  refine rm rfl (ro rfl (dY (Ht rfl) rfl) (ro rfl (dY (Ht rfl) rfl) (ra rfl (ra rfl (eJ (ts (rm rfl (ra rfl (eJ ?_)))))))))
  exact jC B28 trivial [0,1] ⟨⟨_,rfl,fun _ _ _ h=>h⟩,⟨_,rfl,(cA (by rw [a4n hp hc]))⟩,trivial⟩ (by decide) (sK rfl (fQ rfl))
theorem a3w {p c:List (List Qi)} {n m L:Nat} (hp:bT p n m) (hc:bT c m m) (hfp:aS p L) (hfc:aS c L) (hL1:1 ≤ L) (hL:L ≤ 1000000000) (hn1:1 ≤ n) (hm1:1 ≤ m) (hn:n ≤ 8) (hm:m ≤ 8):bI Tryz.prog 148 [bC p,bC c] (bC (lG p c)):=(Xa hp hc hfp hfc hL1 hL hn1 hm1 hn hm).fun fun B _ v S V h1 h2=>kG (s:=5) (M:=lG p c) (by rw [pX.1,hp.1]) v S V h1 h2
theorem Wr {z:List Qi} {s c:List (List Qi)} {g t0:Qi} {L:Nat} (hz:bR z L) (hs:aS s L) (hc:aS c L) (hg:aH g L) (ht:aH t0 L) (hL1:1 ≤ L) (hL:L ≤ 4000) (hsh:bT s z.length z.length) (hch:bT c z.length z.length) (hl:z.length ≤ 8):bI Tryz.prog 54 [gK z s c,aE g,aE t0] (fE [aE (zP z s c g t0).1,aN .i64 (zP z s c g t0).2]):=by
 haveI:=hg; haveI:=ht
 haveI hz0:aH Qi.zero 1:=aH.zero (Nat.le_refl 1)
 have d1:(dg (((1:Nat):Int)).natAbs).length = 1:=by decide
 have d2:(dg (Int.natAbs 1)).length = 1:=by decide
 have hcl:=hch.1
 refine bI.intro Tryz.func54 rfl Tryz.ntmps54 rfl (fun cx=>(ts (rn rfl (fU (Ht rfl)) fun B3=>(rn rfl (fU (Ht rfl)) fun B4=>(rn rfl (fU (Ht rfl)) fun B5=>(rn rfl (eK (Ts:=[Is (.bool false),Is (.slice none 0 0),Is (.bool false),Is (.slice none 0 0),Is (.slice none 0 0)]) O_60 rfl (fun V=>aW zd (aW zd (aW zd (aW zd (aW zd (aG))))))) fun B6=>(ro rfl (cQ (cJ 0)) (eJ (ts (rn rfl (eK (Ts:=[Is (.bool false),Is (.slice none 0 0),Is (.bool false),Is (.slice none 0 0),Is (.slice none 0 0)]) O_60 rfl (fun V=>aW zd (aW zd (aW zd (aW zd (aW zd (aG))))))) fun B8=>?_))))))))))
 refine eJ (cK (cK (fV (m:=6) (dp 5 rfl (eG A_60 Z_60 (Ht rfl) (i:=2) rfl rfl rfl) (dq 18 0 rfl (cZ Tryz.call55 Gq ⟨(Ht rfl),trivial⟩) (dq 19 1 rfl (fH (Ht rfl)) (dq 20 2 rfl (cX (Ht rfl)) (C.D_step (Ei:=[(5,_),(21,_)]) rfl rfl (bV (bK rfl rfl) (bV (bG 3 rfl rfl) bW)) (eY rfl rfl (Ht rfl) (fun h=>eG A_60 Z_60 (Ht rfl) (i:=2) rfl rfl rfl)) (C.D_step (Ei:=[(21,_)]) rfl rfl (bV (bG 3 rfl rfl) bW) (eY rfl rfl (Ht rfl) (fun h=>cZ K_52 (oW (n:=0) (by decide) (by decide)) ⟨(cJ 0),trivial⟩)) ?_)))))))))
 refine fG aT rfl (by kernel_rfl) (zF (aJ (aJ (aV (fZ rfl rfl (eY rfl rfl (Ht rfl) (fun h=>cZ Tryz.call51 (Jo (x:=t0) (y:=Qi.zero) (M:=1) zo) ⟨(fW rfl h),(fW rfl h),trivial⟩)) (fZ rfl rfl (eY rfl rfl (Ht rfl) (fun h=>Ok (fW rfl h) cV)) (ro rfl (lZ (Ht rfl) (fun h=>(fW rfl h))) (eJ (dQ (Ht rfl) (fun hb=>?_) (fun hb=>?_))))))))))
 ·rw [Rp] at hb
  simp only [Bool.not_eq_true'] at hb
  have he:zP z s c g t0 = (Qi.zero,1):=by rw [zP,if_pos hb]
  refine ts (ro rfl (eG A_60 Z_60 (Ht rfl) (i:=4) rfl rfl rfl) (gZ Z_60 (Ht rfl) (Ht rfl) rfl (i:=3) rfl (aK rfl) rfl rfl (ro rfl (cQ (cJ 1)) (eJ (bM rfl (fJ (fY A_60 Z_60 rfl (i:=3) rfl rfl) ?_) (fJ (fQ rfl) ?_))))))
  ·exact (fun v V k=>by rw [he]; exact lY v V k)
  ·exact (fun v V k=>by rw [he]; exact k)
 ·rw [Rp] at hb
  simp only [Bool.not_eq_false'] at hb
  have hb2:¬ jG t0 = false:=by rw [hb]; decide
  refine cU (cK (ts (ro rfl (eW nC (Ht rfl) rfl) (ro rfl (fX A_26 Z_26 (Ht rfl) (i:=0) rfl rfl) (ro rfl (dU U_26 (Ht rfl) aD) (ro rfl (kM (Ht rfl) (cJ 2)) (eJ (dQ (Ht rfl) (fun hd=>?_) (fun hd=>?_)))))))))
  ·have hd2 : z.length ≠ 2 := by rw [← hcl]; simpa using hd
   have he:zP z s c g t0 = (Qi.zero,4):=by rw [zP,if_neg hb2,if_pos hd2]
   refine ts (ro rfl (eG A_60 Z_60 (Ht rfl) (i:=4) rfl rfl rfl) (gZ Z_60 (Ht rfl) (Ht rfl) rfl (i:=3) rfl (aK rfl) rfl rfl (ro rfl (cQ (cJ 4)) (eJ (bM rfl (fJ (fY A_60 Z_60 rfl (i:=3) rfl rfl) ?_) (fJ (fQ rfl) ?_))))))
   ·exact (fun v V k=>by rw [he]; exact lY v V k)
   ·exact (fun v V k=>by rw [he]; exact k)
  ·have hd2 : z.length = 2 := by rw [← hcl]; simpa using hd
   have hd3:¬ z.length ≠ 2:=fun h=>h hd2
   have hsh2:=hsh
   rw [hd2] at hsh hch
   have hs1:=hsh.1
   have hc1:=hch.1
   have hr0:=hsh.row (i:=0) (by decide)
   have hr1:=hsh.row (i:=1) (by decide)
   have hWf:=Kg hs hg hL1
   have hW:bT (Yv s g) 1 2:=⟨rfl,fun r hr=>by have:=List.mem_singleton.1 hr; subst this; rfl⟩
   have hXs:bT (lG (Yv s g) c) 1 1:=pX
   have hX0:=hXs.row (i:=0) (by decide)
   have hp1:=pk1 (z:=z) zo
   haveI f1:aH (gm s 1 0) L:=hs.get hL1 1 0
   haveI f2:aH (gm s 0 0) L:=hs.get hL1 0 0
   haveI f3:aH (pkv z ((1:Nat):Int)) L:=by rw [hp1]; exact hz.get hL1 0
   haveI f4:=Yx hs hc hg hL1 zo
   have hpd:gm s 1 0 * (gm s 1 0).conj * (t0 * pkv z ((1:Nat):Int)) * (Ij - g * g.conj) = Kf z s g t0:=by rw [hp1,Qi.mul_conj_norm,Qi.mul_conj_norm,Kf,Qi.mul_assoc']
   refine cU (ts (ro rfl (eW pD (Ht rfl) rfl) (ro rfl (eG A_28 Z_28 (Ht rfl) (i:=0) rfl rfl rfl) (ro rfl (cZ Tryz.call143 (Gv hsh2 zo) ⟨(Ht rfl),trivial⟩) (ro rfl (cZ K_52 (oW (n:=1) (by decide) (by decide)) ⟨(cJ 1),trivial⟩) (ro rfl (cZ K_147 Ni ⟨(Ht rfl),trivial⟩) (rn rfl (eK (Ts:=[Is (.bool false),Is (.slice none 0 0),Is (.bool false),Is (.slice none 0 0),Is (.slice none 0 0)]) O_60 rfl (fun V=>aW zd (aW zd (aW zd (aW zd (aW zd (aG))))))) fun B10=>?_)))))))
   refine ra rfl (gZ Z_60 (Ht rfl) (Ht rfl) rfl (i:=5) rfl (aK rfl) rfl rfl (eJ (ts (ro rfl (eW pD (Ht rfl) rfl) (ro rfl (eG A_28 Z_28 (Ht rfl) (i:=0) rfl rfl rfl) (ro rfl (cZ Tryz.call67 (a3v (i:=((1:Nat):Int)) zo) ⟨(Ht rfl),(cJ 1),trivial⟩) (rm rfl (ro rfl (dY (Ht rfl) rfl) (ro rfl (dY (Ht rfl) rfl) (rn rfl (eK (Ts:=[Is (.bool false),Is (.slice none 0 0),Is (.bool false),Is (.slice none 0 0),Is (.slice none 0 0)]) O_60 rfl (fun V=>aW zd (aW zd (aW zd (aW zd (aW zd (aG))))))) fun B11=>?_))))))))))
   refine gZ Z_60 (Ht rfl) (Ht rfl) rfl (i:=6) rfl (aK rfl) rfl rfl (ra rfl (eJ (cK (uY (E':=[(3,_),(4,_),(5,_),(6,_),(7,_),(8,_),(9,_),(10,_),(11,_)]) (zS rfl) (fV (m:=18) (dp 9 rfl (cX (Ht rfl)) (dq 44 0 rfl (dZ U_26 Z_25 (Ht rfl) (cJ 1) rfl (eX (eQ (d:=[]) zo))) (dq 45 1 rfl (dJ A_25 Z_25 (Ht rfl)) (dq 46 2 rfl (dZ U_25 Z_60 (Ht rfl) (cJ 0) rfl (eX (eQ (d:=Qi.zero) (by rw [hr1]; decide)))) ?_)))))))))
   refine dq 47 3 rfl (dJ A_60 Z_60 (Ht rfl)) (dq 48 4 rfl (bA bP (Ht rfl)) (dp 4 rfl (eG A_60 Z_60 (Ht rfl) (i:=1) rfl rfl rfl) (dP 49 5 50 6 rfl (aP dH K_70 (kD zo) (Ht rfl) ⟨(Ht rfl),trivial⟩) (dp 10 rfl (eG A_60 Z_60 (Ht rfl) (i:=5) rfl rfl rfl) (dq 52 8 rfl (bA bP (Ht rfl)) (dp 4 rfl (eG A_60 Z_60 (Ht rfl) (i:=1) rfl rfl rfl) (dq 54 10 rfl (bA bP (Ht rfl)) (dp 9 rfl (cX (Ht rfl)) (dq 56 12 rfl (dZ U_26 Z_25 (Ht rfl) (cJ 0) rfl (eX (eQ (d:=[]) zo))) ?_)))))))))
   refine dq 57 13 rfl (dJ A_25 Z_25 (Ht rfl)) (dq 58 14 rfl (dZ U_25 Z_60 (Ht rfl) (cJ 0) rfl (eX (eQ (d:=Qi.zero) (by rw [hr0]; decide)))) ?_)
   refine dq 59 15 rfl (dJ A_60 Z_60 (Ht rfl)) (dP 55 11 60 16 rfl (aP dH K_70 (kD zo) (Ht rfl) ⟨(Ht rfl),trivial⟩) (fG aT rfl (by kernel_rfl) (zF (zF (zF (zF (aJ (aJ (aV (ro rfl (aP jQ K_69 (tB zo) (Ht rfl) ⟨(Ht rfl),trivial⟩) (ro rfl (cI (xs:=[.tmp 51,.tmp 62]) U_25 Z_60 O_60 (cW (Ht rfl) (cW (Ht rfl) cG)) rfl rfl rfl) ?_)))))))))))
   refine ro rfl (cI (xs:=[.tmp 63]) U_26 Z_25 O_25 (cW (Ht rfl) cG) rfl rfl rfl) (ra rfl (eJ (cK (uY (E':=[(3,_),(4,_),(5,_),(6,_),(7,_),(8,_),(9,_),(10,_),(11,_),(13,_)]) (zS rfl) (cY (rm rfl (ro rfl (eW nC (Ht rfl) rfl) (ro rfl (fX A_26 Z_26 (Ht rfl) (i:=0) rfl rfl) (ro rfl (cZ Tryz.call148 (a3w (p:=Yv s g) (c:=c) (n:=1) (m:=2) (L:=2 * L + 4) hW hch hWf (hc.le zo) zo zo (by decide) (by decide) (by decide) (by decide)) ⟨(Ht rfl),(Ht rfl),trivial⟩) ?_)))))))))
   refine ro rfl (dZ U_26 Z_25 (Ht rfl) (cJ 0) rfl (eX (eQ (d:=[]) (by rw [hXs.1]; decide)))) ?_
   refine ro rfl (dJ A_25 Z_25 (Ht rfl)) (ro rfl (dZ U_25 Z_60 (Ht rfl) (cJ 0) rfl (eX (eQ (d:=Qi.zero) (by rw [hX0]; decide)))) ?_)
   refine ro rfl (dJ A_60 Z_60 (Ht rfl)) (rn rfl (eK (Ts:=[Is (.bool false),Is (.slice none 0 0),Is (.bool false),Is (.slice none 0 0),Is (.slice none 0 0)]) O_60 rfl (fun V=>aW zd (aW zd (aW zd (aW zd (aW zd (aG))))))) fun B14=>(gZ Z_60 (Ht rfl) (Ht rfl) rfl (i:=7) rfl (aK rfl) rfl rfl (eJ (cK (uY (E':=[(3,_),(4,_),(5,_),(6,_),(7,_),(8,_),(9,_),(10,_),(11,_),(14,_)]) (zS rfl) ?_)))))
   refine fV (m:=32) (dp 9 rfl (cX (Ht rfl)) (dq 73 0 rfl (dZ U_26 Z_25 (Ht rfl) (cJ 1) rfl (eX (eQ (d:=[]) zo))) (dq 74 1 rfl (dJ A_25 Z_25 (Ht rfl)) (dq 75 2 rfl (dZ U_25 Z_60 (Ht rfl) (cJ 0) rfl (eX (eQ (d:=Qi.zero) (by rw [hr1]; decide)))) ?_))))
   refine dq 76 3 rfl (dJ A_60 Z_60 (Ht rfl)) (dq 77 4 rfl (bA bP (Ht rfl)) (dp 9 rfl (cX (Ht rfl)) (dq 79 6 rfl (dZ U_26 Z_25 (Ht rfl) (cJ 1) rfl (eX (eQ (d:=[]) zo))) (dq 80 7 rfl (dJ A_25 Z_25 (Ht rfl)) (dq 81 8 rfl (dZ U_25 Z_60 (Ht rfl) (cJ 0) rfl (eX (eQ (d:=Qi.zero) (by rw [hr1]; decide)))) ?_)))))
   refine dq 82 9 rfl (dJ A_60 Z_60 (Ht rfl)) (dq 83 10 rfl (bA bP (Ht rfl)) (dq 84 11 rfl (aP sC Tryz.call173 Be (Ht rfl) trivial) (dP 78 5 85 12 rfl (aP dH K_70 (kD zo) (Ht rfl) ⟨(Ht rfl),trivial⟩) (dq 86 13 rfl (bA bP (Ht rfl)) (dp 5 rfl (eG A_60 Z_60 (Ht rfl) (i:=2) rfl rfl rfl) (dp 11 rfl (eG A_60 Z_60 (Ht rfl) (i:=6) rfl rfl rfl) (dP 88 15 89 16 rfl (cZ K_70 (kD zo) ⟨(Ht rfl),(Ht rfl),trivial⟩) (dq 90 17 rfl (cZ K_147 Ni ⟨(Ht rfl),trivial⟩) ?_))))))))
   refine dP 87 14 91 18 rfl (aP dH K_70 (kD zo) (Ht rfl) ⟨(Ht rfl),trivial⟩) (dq 92 19 rfl (bA bP (Ht rfl)) (dp 10 rfl (eG A_60 Z_60 (Ht rfl) (i:=5) rfl rfl rfl) (dq 94 21 rfl (bA bP (Ht rfl)) (dp 4 rfl (eG A_60 Z_60 (Ht rfl) (i:=1) rfl rfl rfl) (dq 96 23 rfl (bA bP (Ht rfl)) (dp 4 rfl (eG A_60 Z_60 (Ht rfl) (i:=1) rfl rfl rfl) (dq 98 25 rfl (bA bP (Ht rfl)) (dq 99 26 rfl (aP sC Tryz.call173 Be (Ht rfl) trivial) (dP 97 24 100 27 rfl (aP dH K_70 (kD zo) (Ht rfl) ⟨(Ht rfl),trivial⟩) ?_)))))))))
   refine dP 95 22 101 28 rfl (aP jQ K_69 (tB zo) (Ht rfl) ⟨(Ht rfl),trivial⟩) (dP 93 20 102 29 rfl (aP dH K_70 (kD zo) (Ht rfl) ⟨(Ht rfl),trivial⟩) (C.D_new (Ei:=[]) rfl rfl rfl bW (eK (Ts:=[Is (.bool false),Is (.slice none 0 0),Is (.bool false),Is (.slice none 0 0),Is (.slice none 0 0)]) O_60 rfl (fun V=>aW zd (aW zd (aW zd (aW zd (aW zd (aG))))))) (fG aT rfl (by kernel_rfl) (zF (zF (zF (zF (zF (zF (zF (aJ (aJ (aJ (C.F_new (fun B15=>aV ?_)))))))))))))))
   refine gZ Z_60 (Ht rfl) (Ht rfl) rfl (i:=8) rfl (aK rfl) rfl rfl (eJ (cK (uY (E':=[(6,_),(7,_),(8,_),(10,_),(14,_),(15,_)]) (zS rfl) (cY (ro rfl (eG A_60 Z_60 (Ht rfl) (i:=7) rfl rfl rfl) (ro rfl (bA bP (Ht rfl)) (ro rfl (eG A_60 Z_60 (Ht rfl) (i:=8) rfl rfl rfl) (ro rfl (aP lH K_64 (tA (x:=Yw s c g) (y:=gm s 1 0 * (gm s 1 0).conj * (t0 * pkv z ((1:Nat):Int)) * (Ij - g * g.conj)) zo) (Ht rfl) ⟨(Ht rfl),trivial⟩) ?_))))))))
   refine rm rfl (ro rfl (dY (Ht rfl) rfl) (ro rfl (dY (Ht rfl) rfl) (rn rfl (eK (Ts:=[Is (.bool false),Is (.slice none 0 0),Is (.bool false),Is (.slice none 0 0),Is (.slice none 0 0)]) O_60 rfl (fun V=>aW zd (aW zd (aW zd (aW zd (aW zd (aG))))))) fun B16=>(gZ Z_60 (Ht rfl) (Ht rfl) rfl (i:=9) rfl (aK rfl) rfl rfl (ra rfl (eJ (cK (cK (uY (E':=[(6,_),(7,_),(8,_),(10,_),(16,_),(17,_)]) (zS rfl) ?_)))))))))
   refine cY (rm rfl (ro rfl (iH (Ht rfl) cV) (eJ (dQ (Ht rfl) (fun hk=>?_) (fun hk=>?_)))))
   ·rw [hpd] at hk
    have hk2 : Kf z s g t0 = Qi.zero := by
     by_cases h:Kf z s g t0 = Qi.zero
     ·exact h
     ·rw [if_neg h] at hk; exact absurd hk (by decide)
    have he:zP z s c g t0 = (Qi.zero,3):=by rw [zP,if_neg hb2,if_neg hd3,if_pos hk2]
    refine ts (ro rfl (eG A_60 Z_60 (Ht rfl) (i:=4) rfl rfl rfl) (gZ Z_60 (Ht rfl) (Ht rfl) rfl (i:=3) rfl (aK rfl) rfl rfl (ro rfl (cQ (cJ 3)) (eJ (bM rfl (fJ (fY A_60 Z_60 rfl (i:=3) rfl rfl) ?_) (fJ (fQ rfl) ?_))))))
    ·exact (fun v V k=>by rw [he]; exact lY v V k)
    ·exact (fun v V k=>by rw [he]; exact k)
   ·have hk2 : ¬ Kf z s g t0 = Qi.zero := fun h => by rw [hpd, if_pos h] at hk; exact absurd hk (by decide)
    have he:zP z s c g t0 = (Ij + Yw s c g / Kf z s g t0,0):=by rw [zP,if_neg hb2,if_neg hd3,if_neg hk2]
    have hv:Ij + Yw s c g / (gm s 1 0 * (gm s 1 0).conj * (t0 * pkv z ((1:Nat):Int)) * (Ij - g * g.conj)) = (zP z s c g t0).1:=by rw [he,hpd]
    refine cU (ts (ro rfl (eG A_60 Z_60 (Ht rfl) (i:=5) rfl rfl rfl) (ro rfl (bA bP (Ht rfl)) (ro rfl (eG A_60 Z_60 (Ht rfl) (i:=9) rfl rfl rfl) (ro rfl (aP oI K_71 (wJ zo) (Ht rfl) ⟨(Ht rfl),trivial⟩) (gZ Z_60 (Ht rfl) (Ht rfl) rfl (i:=3) rfl (aK rfl) rfl rfl (ro rfl (cQ (cJ 0)) (eJ (bM rfl (fJ (fY A_60 Z_60 rfl (i:=3) rfl rfl) ?_) (fJ (fQ rfl) ?_))))))))))
    ·exact (jE hv)
    ·exact (fun v V k=>by rw [he]; exact k)
end
section
open Go Go.RowKit
theorem a1h {n:Nat} (h:n < 4294967296):bI Tryz.prog 282 [NT .u64 1,NT .u64 n] (fE [NT .u64 0,NT .u64 n]):=by
 refine bI.intro Tryz.func282 rfl Tryz.ntmps282 rfl (fun cx=>(ts (ro rfl (cQ (cJ 0)) (ro rfl (cQ (cJ 0)) (eJ (ts (rm rfl (ro rfl (aM.nat (xE rfl (Ht rfl) (cJ 4294967295) z7 z7) (show (1:Nat) &&& 4294967295 = 1 by decide)) (ra rfl (eJ (ts (rm rfl (ro rfl (aM.nat (jV (Ht rfl) (cJ 32) (by decide)) (show (1:Nat) / 2 ^ 32 = 0 by decide)) (ra rfl (eJ (ts (rm rfl (ro rfl (aM.nat (xE rfl (Ht rfl) (cJ 4294967295) z7 z7) (show n &&& 4294967295 = n from (Nat.and_two_pow_sub_one_eq_mod n 32).trans (Nat.mod_eq_of_lt h))) ?_))))))))))))))))))
 refine ra rfl (eJ (ts (rm rfl (ro rfl (aM.nat (jV (Ht rfl) (cJ 32) (by decide)) (show n / 2 ^ 32 = 0 from Nat.div_eq_of_lt h)) (ra rfl (eJ (ts (rm rfl (rm rfl (ro rfl (aM.nat (pK (Ht rfl) (Ht rfl) z7) (Nat.one_mul n)) (ra rfl (eJ (ts (rm rfl (rm rfl (ro rfl (aM.nat (pK (Ht rfl) (Ht rfl) z7) (Nat.zero_mul n)) (rm rfl (ro rfl (aM.nat (jV (Ht rfl) (cJ 32) (by decide)) (show n / 2 ^ 32 = 0 from Nat.div_eq_of_lt h)) ?_))))))))))))))))))
 refine ro rfl (dW (Ht rfl) (Ht rfl) z7) (ra rfl (eJ (ts (rm rfl (ro rfl (aM.nat (xE rfl (Ht rfl) (cJ 4294967295) z7 z7) (show (0 + 0:Nat) &&& 4294967295 = 0 by decide)) (ra rfl (eJ (ts (rm rfl (ro rfl (aM.nat (jV (Ht rfl) (cJ 32) (by decide)) (show (0 + 0:Nat) / 2 ^ 32 = 0 by decide)) (ra rfl (eJ (ts (rm rfl (rm rfl (rm rfl ?_))))))))))))))))
 refine ro rfl (aM.nat (pK (Ht rfl) (Ht rfl) z7) (show (1 * 0:Nat) = 0 by decide)) (ro rfl (dW (Ht rfl) (Ht rfl) z7) (ra rfl (eJ (ts (rm rfl (rm rfl (ro rfl (aM.nat (pK (Ht rfl) (Ht rfl) z7) (show (0 * 0:Nat) = 0 by decide)) (rm rfl (ro rfl (dW (Ht rfl) (Ht rfl) z7) ?_)))))))))
 refine rm rfl (ro rfl (aM.nat (jV (Ht rfl) (cJ 32) (by decide)) (show (0 + 0:Nat) / 2 ^ 32 = 0 by decide)) (ro rfl (dW (Ht rfl) (Ht rfl) z7) (ra rfl (eJ (ts (rm rfl (rm rfl (ro rfl (aM.nat (pK (Ht rfl) (Ht rfl) z7) (Nat.one_mul n)) (ra rfl (eJ (bM rfl (fJ (fQ rfl) ?_) (fQ rfl))))))))))))
 exact (nQ (by decide))
theorem a4c {n:Nat} (h:n < 4294967296):bI Tryz.prog 263 [NT .u64 1,NT .u64 n] (fE [NT .u64 0,NT .u64 n]):=by
 refine bI.intro Tryz.func263 rfl Tryz.ntmps263 rfl (fun cx=>(ts (ro rfl (cQ (cJ 0)) (ro rfl (cQ (cJ 0)) (eJ (cK (dQ cV (fun hf=>?_) (fun hf=>?_))))))))
 ·exact absurd hf (by decide)
 ·refine cU (ts (rm rfl (rm rfl (ro rfl (cZ Tryz.call282 (a1h h) ⟨(Ht rfl), (Ht rfl), trivial⟩) (rm rfl (ro rfl (dY (Ht rfl) rfl) (ro rfl (dY (Ht rfl) rfl) (ra rfl (ra rfl (eJ (ts (rm rfl (rm rfl (ra rfl (ra rfl (eJ ?_))))))))))))))))
  exact bM rfl (fQ rfl) (fQ rfl)
theorem Na {m:Nat} (h1:1 ≤ m) (hm:m ≤ 1000):gM Tryz.prog 229 [aL [Qi.zero],NT .i64 m] [] ({v:Value // jD v}) (fun v=>Is v.1) (fun v=>[bF 60 5 v.1 ((tab m fun _=>Qi.zero).map aE)]) (fun _=>True):=by
 refine gM.intro Tryz.func229 rfl Tryz.ntmps229 rfl (fun cx Z=>(ts (ro rfl (cQ cV) (eJ (cK (ts (rm rfl (ro rfl (gJ (Ht rfl) (cJ 0)) (eJ (dQ (Ht rfl) (fun h0=>?_) (fun h0=>?_)))))))))))
 ·simp only [decide_eq_true_eq] at h0
  omega
 ·refine cU (ts (rm rfl (ro rfl (dU U_25 (Ht rfl) (show (([Qi.zero].map aE).length : Int) = ((1 : Nat) : Int) from rfl)) (ro rfl (gV U_3 U_264 (Ht rfl) z7) (rm rfl (ro rfl (gV U_3 U_264 (Ht rfl) z7) (ro rfl (cZ Tryz.call263 (a4c zo) ⟨(Ht rfl), (Ht rfl), trivial⟩) (rm rfl (ro rfl (dY (Ht rfl) rfl) (ro rfl (dY (Ht rfl) rfl) ?_))))))))))
  refine ra rfl (ra rfl (eJ (cK (ts (rm rfl (ro rfl (jU (Ht rfl) (cJ 0)) (rm rfl (fZ rfl rfl (eY rfl rfl (Ht rfl) (fun h=>cX (Ht rfl))) (fZ rfl rfl (eY rfl rfl (Ht rfl) (fun h=>jU (fW rfl h) (cJ 9223372036854775807))) (ro rfl (lZ (Ht rfl) (fun h=>(fW rfl h))) (eJ (dQ (Ht rfl) (fun h2=>?_) (fun h2=>?_)))))))))))))
  ·simp only [Bool.or_eq_true, decide_eq_true_eq] at h2
   omega
  ·refine cU (ts (rm rfl (ro rfl (gV U_264 U_3 (Ht rfl) z6) (a15 (T := aE Qi.zero) (i := Tryz.t60) jK iB rfl rfl (Ht rfl) rfl jF (El.ag rfl) (by show 88 * _ ≤ _; omega) zo rfl (fun B30 hB30 => (ra rfl (eJ (ts (rm rfl (rm rfl (ro rfl (a08 (q := 1) (T := aE Qi.zero) U_25 Z_60 (i := 1) rfl (Ht rfl) (Ht rfl) (by decide) (El.ag rfl) zo) (ra rfl (eJ (cK (eU ?_)))))))))))))))
   refine cB (fun (k : Nat) => 1 ≤ k ∧ k ≤ m) (fun (k : Nat) => m - k) (fun (k : Nat) => [(7, Is B30), (8, NT .i64 k)]) (fun (k : Nat) => [Z, bF 60 5 B30 (List.replicate m (aE Qi.zero))]) (Nat.min 1 m) ⟨by show 1 ≤ min 1 m; omega, by show min 1 m ≤ m; omega⟩
    (zS rfl) (eO.refl _) (fun k ⟨hk1,hk⟩=>?_)
   refine cK (ts (rm rfl (rm rfl (ro rfl (oA U_25 (Ht rfl) (i:=1) rfl (show ((List.replicate m (aE Qi.zero)).length:Int) = ((m:Nat):Int) by simp)) (ro rfl (gJ (Ht rfl) (Ht rfl)) (eJ (dQ (Ht rfl) (fun hd=>?_) (fun hd=>?_))))))))
   ·simp only [decide_eq_true_eq] at hd
    have hlen:(List.replicate m (aE Qi.zero)).length = m:=by simp
    have h5:Nat.min k ((List.replicate m (aE Qi.zero)).length - k) = min k (m - k):=by rw [hlen]
    refine cU (eU (fV (m:=8) (dp 8 rfl (cX (Ht rfl)) (dp 7 rfl (cX (Ht rfl)) (dp 8 rfl (cX (Ht rfl)) (dP 39 1 40 2 rfl (Lg U_25 Z_60 (Ht rfl) (Ht rfl) rfl (i:=1) rfl (by rw [hlen]; exact hd)) ?_))))))
    refine dp 7 rfl (cX (Ht rfl)) (dp 8 rfl (cX (Ht rfl)) (dP 42 4 43 5 rfl (a0b U_25 Z_60 (Ht rfl) (Ht rfl) rfl (i:=1) rfl (by rw [hlen]; omega) (by rw [hlen]; omega)) ?_))
    refine dP 41 3 44 6 rfl (Oi (T:=aE Qi.zero) U_25 Z_60 (i:=1) rfl (Ht rfl) (Ht rfl)) (fG aT rfl (by kernel_rfl) (zF (zF (aV (ro rfl (dW (Ht rfl) (Ht rfl) (by show _ < 9223372036854775808; omega)) (ra rfl (eJ (bD (gQ (k + Nat.min k ((List.replicate m (aE Qi.zero)).length - k)) ⟨by omega,by omega⟩ zo (zS rfl) (eO.refl _))))))))))
   ·refine gG rfl (ts (rm rfl (ra rfl (eJ ?_))))
    exact jC ⟨B30,hB30⟩ trivial [0,1] ⟨⟨_,rfl,fun _ _ _ h=>h⟩,⟨_,rfl,(aO (by rw [kX,Cz]))⟩,trivial⟩ (by decide) (sK rfl (fQ rfl))
end
section
open Go Go.RowKit
theorem pW {n : Nat} {E : dC} {H : Hp} {d : Option Tmp} {t : TypeId} {pos : String} {af : Array Edge} {g : Option (Nat × Bool)} {x0 x1 : Operand} {T0 T1 T2 : Ty} (h0 : bH E x0 (fO [T0, T1])) [s1 : eA T2 1 false] (h1 : bH E x1 T2) :
  aM Tryz.prog n E H ⟨d,.build 80 #[(0,x0),(1,x1)],t,pos,af,g⟩ (fO [T0,T1,T2]) :=
 kS (parts := [(0, x0), (1, x1)]) fun a V w hs => by
  obtain ⟨v0,e0,c0⟩:=h0 n V a hs
  obtain ⟨c0_0,c0_1,rfl⟩:∃ c0_0 c0_1,v0 = [c0_0,c0_1]:=Rk (by simpa using c0.length)
  have p1:=h1 n V a hs
  generalize e1:a.eval x1 = v1 at p1
  have q1:=(s1.ok v1 V p1).2.2 rfl
  refine ⟨.agg #[c0_0,c0_1,v1],?_,[c0_0,c0_1,v1],rfl,aW (c0.at (i:=0) rfl rfl) (aW (c0.at (i:=1) rfl rfl) (aW (⟨p1,q1⟩) (aG)))⟩
  simp [e0,e1,Instr.build,Instr.fill,Sem.run_bind,Result.andThen,jM,q1.cells,O_80,U_80,Z_26,Z_28]
end
section
open Go Go.RowKit
theorem Bj {n:Nat} (hn:n ≤ 1000):gM Tryz.prog 146 [NT .i64 n,NT .i64 n] [] (Nat) (fun B=>Is (.slice (some ⟨B,0,none⟩) n n)) (fun B=>[lT jD B 25 60 5 (bN aE (Ml n n))]) (fun _=>True):=by
 refine gM.intro Tryz.func146 rfl Tryz.ntmps146 rfl (fun cx Z=>(ts (ro rfl (cQ cV) (eJ (ts (rm rfl (rn rfl (iF (T:=Is (.slice none 0 0)) (i:=Tryz.t25) V_26 nD rfl rfl (Ht rfl) rfl (fun _=>rfl) trivial (by show 24 * _ ≤ _; omega) zo) fun B8=>(ra rfl (eJ (cK (ts (rm rfl (ro rfl (gI U_26 (Ht rfl)) (ro rfl (cX (cJ 0)) (eJ (eU (mH 1 rfl (wZ jD ⟨none,0,rfl⟩ (e:=60) (s:=5)) ?_)))))))))))))))))
 refine cB (fun (k : Nat) => k ≤ n) (fun (k : Nat) => n - k) (fun (k : Nat) => [(1, NT .i64 n), (5, Is (.slice (some ⟨B8, 0, none⟩) n n)), (10, NT .i64 n), (11, NT .i64 k)]) (fun (k : Nat) => [Z, lT jD B8 25 60 5 (bN aE (kR (fun _ => (tab n fun _ => Qi.zero)) [] n k))]) 0 (Nat.zero_le _)
  (zS rfl) (aU (fun _ _ _ h=>h) (aU (cA (by rw [← iO,kX]; exact mB aE n)) aY)) (fun k hk=>?_)
 refine ts (ro rfl (gJ (Ht rfl) (Ht rfl)) (eJ (cK (dQ (Ht rfl) (fun hd=>?_) (fun hd=>?_)))))
 ·simp only [decide_eq_true_eq] at hd
  refine mZ 1 (k) rfl (kP hd) (fun v hv=>(cU (cK (eU (ts (rm rfl (ra rfl (eJ (cY (rm rfl (rm rfl (ro rfl (cZ K_52 (oW (n:=0) (by decide) (by decide)) ⟨(cJ 0),trivial⟩) (ro rfl (cZ K_147 Ni ⟨(Ht rfl),trivial⟩) (ro rfl (cI (xs:=[.tmp 17]) U_25 Z_60 O_60 (cW (Ht rfl) cG) rfl rfl rfl) (rm rfl (jZ Tryz.call229 (Na (m:=n) zo hn) ⟨(Ht rfl),(Ht rfl),trivial⟩ rfl (fun B20 _=>?_)))))))))))))))))
  have hB20:=B20.2
  refine ro rfl (gX U_26 Z_25 (Ht rfl) (Ht rfl) rfl zo (by rw [Nat.mul_one,Nat.zero_add])) ?_
  refine sX Z_25 (Ht rfl) (Ht rfl) (by simp only [bN,List.length_map,dD]; omega) (j:=1) (l:=3) rfl rfl rfl ?_
  refine eJ (bD (fR 1 3 rfl rfl (by decide) (by simp only [bN,List.length_map,dD]; omega) ?_))
  refine cY (ro rfl (dW (Ht rfl) (cJ 1) z6) (rm rfl (eJ (bL [0,1] rfl (by decide) (gQ (k + 1) hd zo (zS rfl) (aU (fun _ _ _ h=>h) (aU (cA (by rw [gS,← jI (f:=fun _=>(tab n fun _=>Qi.zero))])) aY)))))))
 ·simp only [decide_eq_false_iff_not] at hd
  obtain rfl:n = k:=Nat.le_antisymm zo hk
  refine gG rfl (ts (rm rfl (ra rfl (eJ ?_))))
  exact jC B8 trivial [0,1] ⟨⟨_,rfl,fun _ _ _ h=>h⟩,⟨_,rfl,(cA (by rw [jR]; rfl))⟩,trivial⟩ (by decide) (sK rfl (fQ rfl))
theorem Xm {z:List Qi} {s:List (List Qi)} {L:Nat} (hz:bR z L) (hs:aS s L) (hL1:1 ≤ L) (hL:L ≤ 10000000) (hsh:bT s z.length z.length) (hl1:1 ≤ z.length) (hl:z.length ≤ 8):gM Tryz.prog 160 [dO z s] [] (Nat) (fun B=>Is (.slice (some ⟨B,0,none⟩) z.length z.length)) (fun B=>[lT jD B 25 60 5 (bN aE (dB z s))]) (fun _=>True):=by
 have hs1:=hs.le (Nat.le_refl L)
 have hsl:=hsh.1
 have hD:=Bs z
 have hDf:=Br hz hL1
 have hXf:=Bk hs hDf hL1 (by rw [hD.1]; exact hl)
 have hX:bT (lG s (iL z)) s.length s.length:=pX
 refine gM.intro Tryz.func160 rfl Tryz.ntmps160 rfl (fun cx Z=>(ts (rn rfl (fU (Ht rfl)) fun B1=>(ro rfl (cQ cV) (eJ (cK (fV (m:=3) (dp 1 rfl (eG A_28 Z_28 (Ht rfl) (i:=1) rfl rfl rfl) (dq 10 0 rfl (cZ K_31 qK ⟨(Ht rfl),trivial⟩) (dp 1 rfl (eG A_28 Z_28 (Ht rfl) (i:=1) rfl rfl rfl) (fG aT rfl (by kernel_rfl) (aJ (aJ (aJ (aV (ro rfl (cZ K_31 qK ⟨(Ht rfl),trivial⟩) (jZ Tryz.call146 (Bj (n:=z.length) zo) ⟨(Ht rfl),(Ht rfl),trivial⟩ rfl (fun B14 _=>?_))))))))))))))))))
 refine ra rfl (eJ (cK (ts (ro rfl (eG A_28 Z_28 (Ht rfl) (i:=1) rfl rfl rfl) (ro rfl (cZ Tryz.call149 (Xk zo) ⟨(Ht rfl),trivial⟩) (ro rfl (dU U_25 (Ht rfl) aD) (ro rfl (cX (cJ 0)) (eJ (eU ?_)))))))))
 refine cB (fun (i : Nat) => i ≤ z.length) (fun (i : Nat) => z.length - i) (fun (i : Nat) => [(1, bO B1 0), (3, Is (.slice (some ⟨B14, 0, none⟩) z.length z.length)), (16, aL z), (17, NT .i64 z.length), (18, NT .i64 i)]) (fun (i : Nat) => [Z, box B1 28 [aL z, bC s], lT jD B14 25 60 5 (bN aE (kR (fun i => (tab z.length fun _ => Qi.zero).set i (gv z i)) (tab z.length fun _ => Qi.zero) z.length i))]) 0 (Nat.zero_le _)
  (zS rfl) (aU (fun _ _ _ h=>h) (aU (fun _ _ _ h=>h) (aU (cA (by rw [Ml,iO])) aY))) (fun i hi=>?_)
 refine ts (ro rfl (gJ (Ht rfl) (Ht rfl)) (eJ (cK (dQ (Ht rfl) (fun hd=>?_) (fun hd=>?_)))))
 ·simp only [decide_eq_true_eq] at hd
  have hzl:=aC z.length fun _=>Qi.zero
  refine mZ 2 (i) rfl (kP hd) (fun v hv=>(cU (cK (eU (ts (rm rfl (ro rfl (dZ U_25 Z_60 (Ht rfl) (Ht rfl) rfl (eX (eQ (d:=Qi.zero) hd))) (ro rfl (dJ A_60 Z_60 (Ht rfl)) (rn rfl (eK (Ts:=[Is (.bool false),Is (.slice none 0 0),Is (.bool false),Is (.slice none 0 0),Is (.slice none 0 0)]) O_60 rfl (fun V=>aW zd (aW zd (aW zd (aW zd (aW zd (aG))))))) fun B5=>(ra rfl ?_))))))))))
  refine gZ Z_60 (Ht rfl) (Ht rfl) rfl (i:=4) rfl (aK rfl) rfl rfl (eJ (fV (m:=7) (dp 3 rfl (cX (Ht rfl)) (dp 4 rfl (cX (Ht rfl)) (dP 23 0 24 1 rfl (gX U_26 Z_25 (Ht rfl) (Ht rfl) rfl zo (by rw [Nat.mul_one,Nat.zero_add])) ?_)))))
  refine dq 25 2 rfl (jY A_25 Z_25 (Ht rfl) (j:=2) rfl) (dp 4 rfl (cX (Ht rfl)) (dp 5 rfl (eG A_60 Z_60 (Ht rfl) (i:=4) rfl rfl rfl) (dq 28 5 rfl (cZ K_147 Ni ⟨(Ht rfl),trivial⟩) (fG aT rfl (by kernel_rfl) (zF (aJ (aJ (aJ (aV (ro rfl (dM U_25 Z_60 (Ht rfl) (Ht rfl) rfl (i:=3) rfl (by simp only [List.length_map,aC]; omega) rfl) ?_))))))))))
  refine mY Z_60 (Ht rfl) (Ht rfl) (El.ag rfl) (i:=3) rfl rfl (by simp only [List.length_map,aC]; omega) rfl ?_
  refine eJ (bD (fR 2 3 rfl rfl (by decide) (by simp only [bN,List.length_map,dD]; omega) ?_))
  refine cY (ro rfl (dW (Ht rfl) (cJ 1) z6) (rm rfl (eJ (bL [0,1,2] rfl (by decide) (gQ (i + 1) hd zo (zS rfl) (aU (fun _ _ _ h=>h) (aU (fun _ _ _ h=>h) (aU (cA (by rw [← jI (f:=(fun i=>(tab z.length fun _=>Qi.zero).set i (gv z i))),← gS,← iG])) aY))))))))
 ·simp only [decide_eq_false_iff_not] at hd
  obtain rfl:i = z.length:=Nat.le_antisymm hi zo
  rw [jR]
  refine gG rfl (ts (ro rfl (eG A_28 Z_28 (Ht rfl) (i:=1) rfl rfl rfl) (ro rfl (cZ Tryz.call143 (Gv hsh hl) ⟨(Ht rfl),trivial⟩) (rm rfl (a3T Tryz.call148 (Xa (p:=s) (c:=iL z) (n:=z.length) (m:=z.length) (L:=L) hsh hD hs hDf hL1 zo hl1 hl1 hl hl) (j:=2) (tt:=34) rfl rfl (kG (s:=5) (M:=iL z) hD.1.symm) a4U (fun _=>inferInstance) (fun _ B hB=>by simp only [List.mem_singleton] at hB; subst hB; exact a0H) ⟨(Ht rfl),(Ht rfl),trivial⟩ rfl (fun B35 _=>(ra rfl (eJ (cK (cK (gW (i:=3) (tt:=6) rfl rfl (kG (s:=5) (M:=lG s (iL z)) (hX.1.trans hsl).symm) ?_)))))))))))
  refine cY (rm rfl (ro rfl (dU U_26 (Ht rfl) aD) (ro rfl (cX (cJ 0)) (eJ (eU (bL [0,2] rfl (by decide) ?_))))))
  refine cB (fun (i : Nat) => i ≤ z.length) (fun (i : Nat) => z.length - i) (fun (i : Nat) => [(3, Is (.slice (some ⟨B14, 0, none⟩) z.length z.length)), (36, bC (lG s (iL z))), (37, NT .i64 z.length), (38, NT .i64 i)]) (fun (i : Nat) => [Z, lT jD B14 25 60 5 (bN aE (lX (fun i => tab z.length fun j => gm (iL z) i j - gm (lG s (iL z)) i j) (fun i => tab z.length fun j => gm (iL z) i j) z.length i))]) 0 (Nat.zero_le _)
   (aQ rfl (aQ rfl (aZ rfl (nQ (hX.1.trans hsl)) (zS rfl)))) (aU (fun _ _ _ h=>h) (aU (cA (by rw [← mS]; exact congrArg _ (qQ hD))) aY)) (fun i hi=>?_)
  refine ts (ro rfl (gJ (Ht rfl) (Ht rfl)) (eJ (cK (dQ (Ht rfl) (fun he=>?_) (fun he=>?_)))))
  ·simp only [decide_eq_true_eq] at he
   have hxr:=hX.row (i:=i) zo
   refine mZ 1 (i) rfl (uA he) (fun v hv=>(cU (cK (eU (ts (rm rfl (ro rfl (dZ U_26 Z_25 (Ht rfl) (Ht rfl) rfl (eX (eQ (d:=[]) (by rw [hX.1]; omega)))) ?_)))))))
   refine ro rfl (dJ A_25 Z_25 (Ht rfl)) (ra rfl (ra rfl (eJ (ts (rm rfl (ro rfl (dU U_25 (Ht rfl) aD) (ro rfl (cX (cJ 0)) (eJ (eU ?_)))))))))
   refine cB (fun (j : Nat) => j ≤ z.length) (fun (j : Nat) => z.length - j) (fun (j : Nat) => [(3, Is (.slice (some ⟨B14, 0, none⟩) z.length z.length)), (7, NT .i64 i), (8, aL ((lG s (iL z)).getD i [])), (36, bC (lG s (iL z))), (37, NT .i64 z.length), (38, NT .i64 i), (44, NT .i64 z.length), (45, NT .i64 j)]) (fun (j : Nat) => [Z, uU jD B14 25 60 5 (bN aE (lX (fun i => tab z.length fun j => gm (iL z) i j - gm (lG s (iL z)) i j) (fun i => tab z.length fun j => gm (iL z) i j) z.length i)) i v, bF 60 5 v ((lX (fun j => gm (iL z) i j - gm (lG s (iL z)) i j) (fun j => gm (iL z) i j) z.length j).map aE)]) 0 (Nat.zero_le _)
    (aQ rfl (aQ rfl (aQ rfl (aQ rfl (aQ rfl (aQ rfl (aZ rfl (nQ (hxr.trans hsl)) (zS rfl)))))))) (aU (fun _ _ _ h=>h) (aU (fun _ _ _ h=>h) (aU (aO (by rw [← mS])) aY))) (fun j hj=>?_)
   refine ts (ro rfl (gJ (Ht rfl) (Ht rfl)) (eJ (cK (dQ (Ht rfl) (fun hf=>?_) (fun hf=>?_)))))
   ·simp only [decide_eq_true_eq] at hf
    have hrl:=lI (fun j=>gm (iL z) i j - gm (lG s (iL z)) i j) (fun j=>gm (iL z) i j) z.length j
    haveI f1:aH (gm (iL z) i j) L:=hDf.get hL1 i j
    haveI f2:aH (gm (lG s (iL z)) i j) (200 * L + 300):=hXf.get zo i j
    refine cU (cK (eU (ts (rm rfl (ra rfl (eJ (fV (m:=18) (dp 3 rfl (cX (Ht rfl)) (dp 7 rfl (cX (Ht rfl)) (dP 48 0 49 1 rfl (gX U_26 Z_25 (Ht rfl) (Ht rfl) rfl zo (by rw [Nat.mul_one,Nat.zero_add])) ?_))))))))))
    refine dq 50 2 rfl (jY A_25 Z_25 (Ht rfl) (j:=1) rfl) (dp 9 rfl (cX (Ht rfl)) (dp 3 rfl (cX (Ht rfl)) (dp 7 rfl (cX (Ht rfl)) (dP 53 5 54 6 rfl (gX U_26 Z_25 (Ht rfl) (Ht rfl) rfl zo (by rw [Nat.mul_one,Nat.zero_add])) ?_))))
    refine dq 55 7 rfl (jY A_25 Z_25 (Ht rfl) (j:=1) rfl) (dp 9 rfl (cX (Ht rfl)) (dP 56 8 57 9 rfl (dM U_25 Z_60 (Ht rfl) (Ht rfl) rfl (i:=2) rfl (by simp only [List.length_map,hrl]; omega) rfl) ?_))
    refine dq 58 10 rfl (oR A_60 Z_60 (Ht rfl) (i:=2) rfl rfl (eX (tQ hf))) (dq 59 11 rfl (bA bP (Ht rfl)) (dp 8 rfl (cX (Ht rfl)) (dp 9 rfl (cX (Ht rfl)) (dP 61 13 62 14 rfl (dZ U_25 Z_60 (Ht rfl) (Ht rfl) rfl (eX (eQ (d:=Qi.zero) (by rw [hxr]; omega)))) ?_))))
    refine dq 63 15 rfl (dJ A_60 Z_60 (Ht rfl)) (dP 60 12 64 16 rfl (aP jQ K_69 (tB zo) (Ht rfl) ⟨(Ht rfl),trivial⟩) (fG aT rfl (by kernel_rfl) (zF (zF (zF (zF (aJ (aJ (aV (ro rfl (dM U_25 Z_60 (Ht rfl) (Ht rfl) rfl (i:=2) rfl (by simp only [List.length_map,hrl]; omega) rfl) ?_))))))))))
    refine mY Z_60 (Ht rfl) (Ht rfl) (El.ag rfl) (i:=2) rfl rfl (by simp only [List.length_map,hrl]; omega) rfl ?_
    refine eJ (bD (cY (ro rfl (dW (Ht rfl) (cJ 1) z6) (rm rfl (eJ (gQ (j + 1) hf zo (zS rfl) (aU (fun _ _ _ h=>h) (aU (fun _ _ _ h=>h) (aU (aO (by rw [iG,← oK (f:=fun j=>gm (iL z) i j - gm (lG s (iL z)) i j)])) aY)))))))))
   ·simp only [decide_eq_false_iff_not] at hf
    obtain rfl:j = z.length:=Nat.le_antisymm hj zo
    refine gG rfl (bD (fR 1 2 rfl rfl (by decide) (by simp only [bN,List.length_map,lI]; omega) ?_))
    refine cY (ro rfl (dW (Ht rfl) (cJ 1) z6) (rm rfl (eJ (bL [0,1] rfl (by decide) (gQ (i + 1) he zo (zS rfl) (aU (fun _ _ _ h=>h) (aU (cA (by rw [gS,oJ,← oK (f:=(fun i=>tab z.length fun j=>gm (iL z) i j - gm (lG s (iL z)) i j))])) aY)))))))
  ·simp only [decide_eq_false_iff_not] at he
   obtain rfl:i = z.length:=Nat.le_antisymm hi zo
   refine gG rfl (ts (rm rfl (ra rfl (eJ ?_))))
   exact jC B14 trivial [0,1] ⟨⟨_,rfl,fun _ _ _ h=>h⟩,⟨_,rfl,(cA (by rw [oJ]; rfl))⟩,trivial⟩ (by decide) (sK rfl (fQ rfl))
theorem a5L {z:List Qi} {s:List (List Qi)} {t:Qi} {L:Nat} (hz:bR z L) (hs:aS s L) (ht:aH t L) (hL1:1 ≤ L) (hL:L ≤ 10000000) (hsh:bT s z.length z.length) (hl1:1 ≤ z.length) (hl:z.length ≤ 8):bI Tryz.prog 59 [dO z s,aE t] (fE [gK (fF (oO t) z) (fF (oO t) s) (fF (oO t) (fI t (dB z s) z.length)),aN .i64 (oO t)]):=by
 haveI:=ht
 have hOs:=qC z s
 have hOf:=Cr hz hs hL1 hl
 refine bI.intro Tryz.func59 rfl Tryz.ntmps59 rfl (fun cx=>(ts (rn rfl (fU (Ht rfl)) fun B2=>(rn rfl (fU (Ht rfl)) fun B3=>(rn rfl (eK (Ts:=[Is (.slice none 0 0),Is (.slice none 0 0),Is (.slice none 0 0)]) O_80 rfl (fun V=>aW zd (aW zd (aW zd (aG))))) fun B4=>(ro rfl (cQ (cJ 0)) (eJ (cK (ts (ro rfl (eG A_60 Z_60 (Ht rfl) (i:=1) rfl rfl rfl) (ro rfl (cZ Tryz.call158 (Xn zo) ⟨(Ht rfl),trivial⟩) (ro rfl (fH (Ht rfl)) ?_))))))))))))
 refine eJ (dQ (Ht rfl) (fun hb=>?_) (fun hb=>?_))
 ·have he : oO t ≠ 0 := by simp only [Bool.not_eq_true'] at hb; rw [oO, hb]; decide
  have he1:oO t = 1:=by simp only [Bool.not_eq_true'] at hb; rw [oO,hb]; rfl
  refine ts (ro rfl (aM.imp (wI ) rK) (gZ Z_80 (Ht rfl) (Ht rfl) rfl (i:=2) rfl (aK rfl) rfl rfl (ro rfl (cQ (cJ 1)) (eJ (bM rfl (fJ (fY A_80 Z_80 rfl (i:=2) rfl rfl) ?_) (fJ (fQ rfl) ?_))))))
  ·exact (a2K he)
  ·exact (bE he1.symm)
 ·have he : oO t = 0 := by simp only [Bool.not_eq_false'] at hb; rw [oO, hb]; rfl
  refine cU (ts (ro rfl (eG A_28 Z_28 (Ht rfl) (i:=0) rfl rfl rfl) (jZ Tryz.call160 (Xm hz hs hL1 hL hsh hl1 hl) ⟨(Ht rfl),trivial⟩ rfl (fun B15 _=>(ra rfl (eJ (cK (ts (rm rfl (ro rfl (gI U_26 (Ht rfl)) (ro rfl (cX (cJ 0)) (eJ (eU ?_)))))))))))))
  refine cB (fun (i : Nat) => i ≤ z.length) (fun (i : Nat) => z.length - i) (fun (i : Nat) => [(2, bO B2 0), (3, bO B3 0), (4, bO B4 0), (6, Is (.slice (some ⟨B15, 0, none⟩) z.length z.length)), (16, Is (.slice (some ⟨B15, 0, none⟩) z.length z.length)), (17, NT .i64 z.length), (18, NT .i64 i)]) (fun (i : Nat) => [box B2 28 [aL z, bC s], box B3 60 [aI (decide (t.a < 0)), bB t.a.natAbs, aI (decide (t.b < 0)), bB t.b.natAbs, bB (du t)], box B4 80 [Is (.slice none 0 0), Is (.slice none 0 0), Is (.slice none 0 0)], lT jD B15 25 60 5 (bN aE (lX (fun i => tab z.length fun j => t * gm (dB z s) i j) (fun i => tab z.length fun j => gm (dB z s) i j) z.length i))]) 0 (Nat.zero_le _)
   (zS rfl) (aU (fun _ _ _ h=>h) (aU (fun _ _ _ h=>h) (aU (fun _ _ _ h=>h) (aU (cA (by rw [← mS]; exact congrArg _ (qQ hOs))) aY)))) (fun i hi=>?_)
  refine ts (ro rfl (gJ (Ht rfl) (Ht rfl)) (eJ (cK (dQ (Ht rfl) (fun he2=>?_) (fun he2=>?_)))))
  ·simp only [decide_eq_true_eq] at he2
   refine mZ 3 (i) rfl (uA he2) (fun v hv=>(cU (cK (eU (ts (ro rfl (gX U_26 Z_25 (Ht rfl) (Ht rfl) rfl zo (by rw [Nat.mul_one,Nat.zero_add])) ?_))))))
   refine ro rfl (jY A_25 Z_25 (Ht rfl) (j:=3) rfl) (ra rfl (eJ (ts (rm rfl (ro rfl (oA U_25 (Ht rfl) (i:=4) rfl (show (((tab z.length fun j=>gm (dB z s) i j).map aE).length:Int) = ((z.length:Nat):Int) by rw [List.length_map,aC])) (ro rfl (cX (cJ 0)) (eJ (eU ?_))))))))
   refine cB (fun (j : Nat) => j ≤ z.length) (fun (j : Nat) => z.length - j) (fun (j : Nat) => [(2, bO B2 0), (3, bO B3 0), (4, bO B4 0), (6, Is (.slice (some ⟨B15, 0, none⟩) z.length z.length)), (8, Is v), (16, Is (.slice (some ⟨B15, 0, none⟩) z.length z.length)), (17, NT .i64 z.length), (18, NT .i64 i), (23, NT .i64 z.length), (24, NT .i64 j)]) (fun (j : Nat) => [box B2 28 [aL z, bC s], box B3 60 [aI (decide (t.a < 0)), bB t.a.natAbs, aI (decide (t.b < 0)), bB t.b.natAbs, bB (du t)], box B4 80 [Is (.slice none 0 0), Is (.slice none 0 0), Is (.slice none 0 0)], uU jD B15 25 60 5 (bN aE (lX (fun i => tab z.length fun j => t * gm (dB z s) i j) (fun i => tab z.length fun j => gm (dB z s) i j) z.length i)) i v, bF 60 5 v ((lX (fun j => t * gm (dB z s) i j) (fun j => gm (dB z s) i j) z.length j).map aE)]) 0 (Nat.zero_le _)
    (zS rfl) (aU (fun _ _ _ h=>h) (aU (fun _ _ _ h=>h) (aU (fun _ _ _ h=>h) (aU (fun _ _ _ h=>h) (aU (aO (by rw [← mS])) aY))))) (fun j hj=>?_)
   refine ts (ro rfl (gJ (Ht rfl) (Ht rfl)) (eJ (cK (dQ (Ht rfl) (fun hf=>?_) (fun hf=>?_)))))
   ·simp only [decide_eq_true_eq] at hf
    have hrl:=lI (fun j=>t * gm (dB z s) i j) (fun j=>gm (dB z s) i j) z.length j
    haveI f1:aH (gm (dB z s) i j) (201 * L + 301):=hOf.get zo i j
    refine cU (cK (eU (ts (rm rfl (ra rfl (eJ (fV (m:=10) (dp 8 rfl (cX (Ht rfl)) (dp 9 rfl (cX (Ht rfl)) (dp 3 rfl (eG A_60 Z_60 (Ht rfl) (i:=1) rfl rfl rfl) (dq 29 2 rfl (cZ K_147 Ni ⟨(Ht rfl),trivial⟩) (dq 30 3 rfl (bA bP (Ht rfl)) (dp 8 rfl (cX (Ht rfl)) (dp 9 rfl (cX (Ht rfl)) (dP 32 5 33 6 rfl (dM U_25 Z_60 (Ht rfl) (Ht rfl) rfl (i:=4) rfl (by simp only [List.length_map,hrl]; omega) rfl) ?_)))))))))))))))
    refine dq 34 7 rfl (oR A_60 Z_60 (Ht rfl) (i:=4) rfl rfl (eX (tQ hf))) (dP 31 4 35 8 rfl (aP dH K_70 (kD zo) (Ht rfl) ⟨(Ht rfl),trivial⟩) (fG aT rfl (by kernel_rfl) (zF (zF (aJ (aJ (aV (ro rfl (dM U_25 Z_60 (Ht rfl) (Ht rfl) rfl (i:=4) rfl (by simp only [List.length_map,hrl]; omega) rfl) ?_))))))))
    refine mY Z_60 (Ht rfl) (Ht rfl) (El.ag rfl) (i:=4) rfl rfl (by simp only [List.length_map,hrl]; omega) rfl ?_
    refine eJ (bD (cY (ro rfl (dW (Ht rfl) (cJ 1) z6) (rm rfl (eJ (gQ (j + 1) hf zo (zS rfl) (aU (fun _ _ _ h=>h) (aU (fun _ _ _ h=>h) (aU (fun _ _ _ h=>h) (aU (fun _ _ _ h=>h) (aU (aO (by rw [iG,← oK (f:=fun j=>t * gm (dB z s) i j)])) aY)))))))))))
   ·simp only [decide_eq_false_iff_not] at hf
    obtain rfl:j = z.length:=Nat.le_antisymm hj zo
    refine gG rfl (bD (fR 3 4 rfl rfl (by decide) (by simp only [bN,List.length_map,lI]; omega) ?_))
    refine cY (ro rfl (dW (Ht rfl) (cJ 1) z6) (rm rfl (eJ (bL [0,1,2,3] rfl (by decide) (gQ (i + 1) he2 zo (zS rfl) (aU (fun _ _ _ h=>h) (aU (fun _ _ _ h=>h) (aU (fun _ _ _ h=>h) (aU (cA (by rw [gS,oJ,← oK (f:=(fun i=>tab z.length fun j=>t * gm (dB z s) i j))])) aY)))))))))
  ·simp only [decide_eq_false_iff_not] at he2
   obtain rfl:i = z.length:=Nat.le_antisymm hi zo
   rw [oJ]
   refine gG rfl (cK (gW (i:=3) (tt:=6) rfl rfl (kG (s:=5) (M:=(fI t (dB z s) z.length)) kT.1.symm) (cY (ro rfl (eG A_28 Z_28 (Ht rfl) (i:=0) rfl rfl rfl) (rm rfl (ro rfl (pW (Ht rfl) (Ht rfl)) (gZ Z_80 (Ht rfl) (Ht rfl) rfl (i:=2) rfl (aK rfl) rfl rfl (ro rfl (cQ (cJ 0)) (eJ (bM rfl (fJ (fY A_80 Z_80 rfl (i:=2) rfl rfl) ?_) (fJ (fQ rfl) ?_)))))))))))
   ·exact (a0f he)
   ·exact (bE he.symm)
end
section
open Go Go.RowKit
theorem Pn {n : Nat} {E : dC} {H : Hp} {d : Option Tmp} {t : TypeId} {pos : String} {af : Array Edge} {g : Option (Nat × Bool)}  :
  aM Tryz.prog n E H ⟨d,.build 48 #[],t,pos,af,g⟩ (fO [Is (.int .i64 0),Is (.int .i64 0),Is (.int .i64 0)]) :=
 kS (parts := []) fun a V w hs => by
  refine ⟨.agg #[(.int .i64 0),(.int .i64 0),(.int .i64 0)],?_,[(.int .i64 0),(.int .i64 0),(.int .i64 0)],rfl,aW (⟨rfl,trivial⟩) (aW (⟨rfl,trivial⟩) (aW (⟨rfl,trivial⟩) (aG)))⟩
  simp [Instr.build,Instr.fill,Sem.run_bind,Result.andThen,jM,O_48,U_48,Z_2]
theorem Bd {n : Nat} {E : dC} {H : Hp} {d : Option Tmp} {t : TypeId} {pos : String} {af : Array Edge} {g : Option (Nat × Bool)} {x0 x2 : Operand} {T0 T2 : Ty} [s0 : eA T0 1 false] (h0 : bH E x0 T0) [s2 : eA T2 1 false] (h2 : bH E x2 T2) :
  aM Tryz.prog n E H ⟨d,.build 48 #[(0,x0),(2,x2)],t,pos,af,g⟩ (fO [T0,Is (.int .i64 0),T2]) :=
 kS (parts := [(0, x0), (2, x2)]) fun a V w hs => by
  have p0:=h0 n V a hs
  generalize e0:a.eval x0 = v0 at p0
  have q0:=(s0.ok v0 V p0).2.2 rfl
  have p2:=h2 n V a hs
  generalize e2:a.eval x2 = v2 at p2
  have q2:=(s2.ok v2 V p2).2.2 rfl
  refine ⟨.agg #[v0,(.int .i64 0),v2],?_,[v0,(.int .i64 0),v2],rfl,aW (⟨p0,q0⟩) (aW (⟨rfl,trivial⟩) (aW (⟨p2,q2⟩) (aG)))⟩
  simp [e0,e2,Instr.build,Instr.fill,Sem.run_bind,Result.andThen,jM,q0.cells,q2.cells,O_48,U_48,Z_2]
end
section
open Go Go.RowKit
theorem Xo:bI Tryz.prog 146 [NT .i64 ([]:List Qi).length,NT .i64 ([]:List Qi).length] (bC []):=(Bj (n:=0) (by decide)).fun fun B _ v S V h1 h2=>kG (s:=5) (M:=[]) rfl v S V h1 h2
theorem a4d {c:List (List Qi)}:bI Tryz.prog 148 [bC [],bC c] (bC []):=by
 refine bI.intro Tryz.func148 rfl Tryz.ntmps148 rfl (fun cx=>(ts (ro rfl (cQ cV) (eJ (cK (ts (rm rfl (ro rfl (dU U_26 (Ht rfl) aD) (ro rfl (eH (Ht rfl) (cJ 0)) (eJ (rS (Ht rfl) (by rfl) ?_)))))))))))
 refine ts (ro rfl (cQ cV) (eJ (fK rfl (fJ (fQ rfl) ?_))))
 exact (fun v V h=>jT _ _ h)
theorem Xl  : bI Tryz.prog 160 [dO [] []] (bC []):=by
 refine bI.intro Tryz.func160 rfl Tryz.ntmps160 rfl (fun cx=>(ts (rn rfl (fU (Ht rfl)) fun B1=>(ro rfl (cQ cV) (eJ (cK (fV (m:=3) (dp 1 rfl (eG A_28 Z_28 (Ht rfl) (i:=0) rfl rfl rfl) (dq 10 0 rfl (cZ K_31 qK ⟨(Ht rfl),trivial⟩) (dp 1 rfl (eG A_28 Z_28 (Ht rfl) (i:=0) rfl rfl rfl) (fG aT rfl (by kernel_rfl) (aJ (aJ (aJ (aV (ro rfl (cZ K_31 qK ⟨(Ht rfl),trivial⟩) (ro rfl (cZ Tryz.call146 Xo ⟨(Ht rfl),(Ht rfl),trivial⟩) ?_)))))))))))))))))
 refine ra rfl (eJ (cK (ts (ro rfl (eG A_28 Z_28 (Ht rfl) (i:=0) rfl rfl rfl) (ro rfl (cZ Tryz.call149 (Xk (z:=[]) (s:=[]) (by decide)) ⟨(Ht rfl),trivial⟩) (ro rfl (dU U_25 (Ht rfl) aD) (ro rfl (cX (cJ 0)) (eJ (eU ?_)))))))))
 refine cB (fun (i : Nat) => i ≤ 0) (fun (i : Nat) => 0 - i) (fun (i : Nat) => [(1, bO B1 0), (3, bC []), (17, NT .i64 0), (18, NT .i64 i)]) (fun (i : Nat) => [box B1 28 [aL [], bC []]]) 0 (Nat.zero_le _)
  (zS rfl) (eO.refl _) (fun i hi=>?_)
 refine ts (ro rfl (gJ (Ht rfl) (Ht rfl)) (eJ (cK (dQ (Ht rfl) (fun hd=>?_) (fun hd=>?_)))))
 ·simp only [decide_eq_true_eq] at hd
  omega
 ·refine gG rfl (ts (ro rfl (eG A_28 Z_28 (Ht rfl) (i := 0) rfl rfl rfl) (ro rfl (cZ Tryz.call143 (Gv (z := []) (s := []) ⟨rfl, fun r hr => by cases hr⟩ (by decide)) ⟨(Ht rfl), trivial⟩) (rm rfl (ro rfl (cZ Tryz.call148 (a4d (c := [])) ⟨(Ht rfl), (Ht rfl), trivial⟩) (ra rfl (eJ (cK (ts (rm rfl (ro rfl (dU U_26 (Ht rfl) aD) (ro rfl (cX (cJ 0)) (eJ (eU ?_))))))))))))))
  refine cB (fun (i : Nat) => i ≤ 0) (fun (i : Nat) => 0 - i) (fun (i : Nat) => [(1, bO B1 0), (3, bC []), (37, NT .i64 0), (38, NT .i64 i)]) (fun (i : Nat) => [box B1 28 [aL [], bC []]]) 0 (Nat.zero_le _)
   (zS rfl) (eO.refl _) (fun i hi=>?_)
  refine ts (ro rfl (gJ (Ht rfl) (Ht rfl)) (eJ (cK (dQ (Ht rfl) (fun hd=>?_) (fun hd=>?_)))))
  ·simp only [decide_eq_true_eq] at hd
   omega
  ·refine gG rfl (ts (rm rfl (ra rfl (eJ ?_))))
   exact fK rfl (fQ rfl)
theorem a49 {t:Qi} {L:Nat} (ht:aH t L) (hL:L ≤ 10000000):bI Tryz.prog 59 [dO [] [],aE t] (fE [gK [] [] [],aN .i64 (oO t)]):=by
 haveI:=ht
 refine bI.intro Tryz.func59 rfl Tryz.ntmps59 rfl (fun cx=>(ts (rn rfl (fU (Ht rfl)) fun B2=>(rn rfl (fU (Ht rfl)) fun B3=>(rn rfl (eK (Ts:=[Is (.slice none 0 0),Is (.slice none 0 0),Is (.slice none 0 0)]) O_80 rfl (fun V=>aW zd (aW zd (aW zd (aG))))) fun B4=>(ro rfl (cQ (cJ 0)) (eJ (cK (ts (ro rfl (eG A_60 Z_60 (Ht rfl) (i:=1) rfl rfl rfl) (ro rfl (cZ Tryz.call158 (Xn zo) ⟨(Ht rfl),trivial⟩) (ro rfl (fH (Ht rfl)) ?_))))))))))))
 refine eJ (dQ (Ht rfl) (fun hb=>?_) (fun hb=>?_))
 ·have he : oO t ≠ 0 := by simp only [Bool.not_eq_true'] at hb; rw [oO, hb]; decide
  have he1:oO t = 1:=by simp only [Bool.not_eq_true'] at hb; rw [oO,hb]; rfl
  refine ts (ro rfl (aM.imp (wI ) rK) (gZ Z_80 (Ht rfl) (Ht rfl) rfl (i:=2) rfl (aK rfl) rfl rfl (ro rfl (cQ (cJ 1)) (eJ (bM rfl (fY A_80 Z_80 rfl (i:=2) rfl rfl) (fJ (fQ rfl) ?_))))))
  exact (bE he1.symm)
 ·have he : oO t = 0 := by simp only [Bool.not_eq_false'] at hb; rw [oO, hb]; rfl
  refine cU (ts (ro rfl (eG A_28 Z_28 (Ht rfl) (i:=0) rfl rfl rfl) (ro rfl (cZ Tryz.call160 Xl ⟨(Ht rfl),trivial⟩) (ra rfl (eJ (cK (ts (rm rfl (ro rfl (dU U_26 (Ht rfl) aD) (ro rfl (cX (cJ 0)) (eJ (eU ?_))))))))))))
  refine cB (fun (i : Nat) => i ≤ 0) (fun (i : Nat) => 0 - i) (fun (i : Nat) => [(2, bO B2 0), (3, bO B3 0), (4, bO B4 0), (6, bC []), (17, NT .i64 0), (18, NT .i64 i)]) (fun (i : Nat) => [box B2 28 [aL [], bC []], box B3 60 [aI (decide (t.a < 0)), bB t.a.natAbs, aI (decide (t.b < 0)), bB t.b.natAbs, bB (du t)], box B4 80 [Is (.slice none 0 0), Is (.slice none 0 0), Is (.slice none 0 0)]]) 0 (Nat.zero_le _)
   (zS rfl) (eO.refl _) (fun i hi=>?_)
  refine ts (ro rfl (gJ (Ht rfl) (Ht rfl)) (eJ (cK (dQ (Ht rfl) (fun hd=>?_) (fun hd=>?_)))))
  ·simp only [decide_eq_true_eq] at hd
   omega
  ·refine gG rfl (ts (ro rfl (eG A_28 Z_28 (Ht rfl) (i := 0) rfl rfl rfl) (rm rfl (ro rfl (pW (Ht rfl) (Ht rfl)) (gZ Z_80 (Ht rfl) (Ht rfl) rfl (i := 2) rfl (aK rfl) rfl rfl (ro rfl (cQ (cJ 0)) (eJ (bM rfl (fY A_80 Z_80 rfl (i := 2) rfl rfl) (fJ (fQ rfl) ?_)))))))))
   exact (bE he.symm)
end
section
open Go Go.RowKit
theorem Ii {α:Type} (e:Int):fF e ([]:List α) = []:=by unfold fF; split <;> rfl
theorem a0B {t : Qi} {c : List (List Qi)} {n L M : Nat} (ht : aH t L) (hc : aS c M) (hM : 1 ≤ M) : aS (fI t c n) (L + M + 1) := aS.tab fun i j _ _ => by
 haveI:=ht; haveI:=hc.get hM i j
 infer_instance
theorem Wv {z:List Qi} {s:List (List Qi)} {t:Qi} {L:Nat} (hz:bR z L) (hs:aS s L) (ht:aH t L) (hL1:1 ≤ L) (hL:L ≤ 10000000) (hsh:bT s z.length z.length) (hl:z.length ≤ 8):bI Tryz.prog 59 [dO z s,aE t] (fE [gK (fF (oO t) z) (fF (oO t) s) (fF (oO t) (fI t (dB z s) z.length)),aN .i64 (oO t)]):=by
 cases z with
 | nil =>
  have e:s = []:=List.length_eq_zero_iff.1 hsh.1
  subst e
  rw [Ii,Ii,show fI t (dB [] []) ([]:List Qi).length = [] from rfl,Ii]
  exact a49 ht hL
 | cons x z=>exact a5L hz hs ht hL1 hL hsh (by simp) hl
end
section
open Go Go.RowKit
theorem Qi.zero_div (y:Qi):Qi.zero / y = Qi.zero:=by rw [Qi.div_def,Qi.zero_mul']
theorem a5e {x:Qi} (h:jG x = true):x.im = 0 ∧ x.re ≠ 0:=by
 simp only [jG,decide_eq_true_eq] at h
 exact ⟨Qi.b_zero.1 h.1,fun e=>by have:=Qi.a_zero.2 e; omega⟩
end
section
open Go Go.RowKit
theorem Hj {α:Type} {l:List α} {d:α} {k:Nat} (h:k < l.length):l.getD k d = l[k]:=by simp [List.getD,h]
theorem a5X {l m:List Qi} (h:l.length = m.length) (k:∀ i,i < l.length → gv l i = gv m i):l = m:=by
 apply List.ext_getElem h
 intro i h1 h2
 have:=k i h1
 simpa [gv,List.getD,h1,h2] using this
theorem a1S {l m:List (List Qi)} (h:l.length = m.length) (k:∀ i,i < l.length → l.getD i [] = m.getD i []):l = m:=by
 apply List.ext_getElem h
 intro i h1 h2
 have:=k i h1
 simpa [List.getD,h1,h2] using this
theorem a6c {l m:List Qi} {i:Nat} (h:gv l i ≠ gv m i):l ≠ m:=fun e=>h (by rw [e])
theorem a2j {l m:List (List Qi)} {i:Nat} (h:l.getD i [] ≠ m.getD i []):l ≠ m:=fun e=>h (by rw [e])
def Rm (z z':List Qi) (s s':List (List Qi)):Bool:=decide (z = z') && decide (s = s')
theorem Oa (z:List Qi) (s:List (List Qi)):Rm z z s s = true:=by simp [Rm]
end
section
open Go Go.RowKit
theorem xA (v : Value) (w : World) : (method (Tryz.prog.types.size + Made.depth) 60 v "Same").run Tryz.prog w = .ok (100, v) w := by kernel_rfl
end
section
open Go Go.RowKit
theorem Gp {l m:List Qi} {L:Nat} (hl:bR l L) (hm:bR m L) (hL:1 ≤ L) (h1:l.length ≤ 1000) (h2:m.length ≤ 1000):bI Tryz.prog 165 [aL l,aL m,xV Tryz.prog {x:Qi × Qi // aH x.1 L ∧ aH x.2 L} (fun x=>[aE x.1.1,aE x.1.2]) (fun x=>aI (decide (x.1.1 = x.1.2)))] (aI (decide (l = m))):=by
 refine bI.intro Tryz.func165 rfl Tryz.ntmps165 rfl (fun cx=>(ts (ro rfl (cQ cV) (eJ (cK (ts (rm rfl (ro rfl (dU U_25 (Ht rfl) aD) (rm rfl (ro rfl (dU U_25 (Ht rfl) aD) (ro rfl (kM (Ht rfl) (Ht rfl)) (eJ (dQ (Ht rfl) (fun hb=>?_) (fun hb=>?_))))))))))))))
 ·have hn : ¬ l = m := fun e => by rw [e] at hb; simp at hb
  refine ts (ro rfl (cQ cV) (eJ (fK rfl (fJ (fQ rfl) ?_))))
  exact (eD (decide_eq_false hn).symm)
 ·have he : l.length = m.length := by simpa using hb
  refine cU (cK (ts (rm rfl (ro rfl (dU U_25 (Ht rfl) aD) (ro rfl (cX (cJ 0)) (eJ (eU ?_)))))))
  refine cB (fun (k : Nat) => k ≤ l.length ∧ ∀ i, i < k → gv l i = gv m i) (fun (k : Nat) => l.length - k) (fun (k : Nat) => [(0, aL l), (1, aL m), (2, xV Tryz.prog {x : Qi × Qi // aH x.1 L ∧ aH x.2 L} (fun x => [aE x.1.1, aE x.1.2]) (fun x => aI (decide (x.1.1 = x.1.2)))), (15, aL l), (16, NT .i64 l.length), (17, NT .i64 k)]) (fun (k : Nat) => []) 0 ⟨Nat.zero_le _, fun i h => by omega⟩
   (zS rfl) aY (fun k ⟨hk,hr⟩=>?_)
  refine ts (ro rfl (gJ (Ht rfl) (Ht rfl)) (eJ (cK (dQ (Ht rfl) (fun hc=>?_) (fun hc=>?_)))))
  ·simp only [decide_eq_true_eq] at hc
   refine cU (cK (eU (ts (rm rfl (ro rfl (dZ U_25 Z_60 (Ht rfl) (Ht rfl) rfl (eX (eQ (d:=Qi.zero) zo))) (ro rfl (dJ A_60 Z_60 (Ht rfl)) (rn rfl (eK (Ts:=[Is (.bool false),Is (.slice none 0 0),Is (.bool false),Is (.slice none 0 0),Is (.slice none 0 0)]) O_60 rfl (fun V=>aW zd (aW zd (aW zd (aW zd (aW zd (aG))))))) fun B8=>(ra rfl (gZ Z_60 (Ht rfl) (Ht rfl) rfl (i:=0) rfl (aK rfl) rfl rfl ?_)))))))))
   refine eJ (ts (rm rfl (rm rfl (ro rfl (dZ U_25 Z_60 (Ht rfl) (Ht rfl) rfl (eX (eQ (d:=Qi.zero) zo))) (ro rfl (dJ A_60 Z_60 (Ht rfl)) (rn rfl (eK (Ts:=[Is (.bool false),Is (.slice none 0 0),Is (.bool false),Is (.slice none 0 0),Is (.slice none 0 0)]) O_60 rfl (fun V=>aW zd (aW zd (aW zd (aW zd (aW zd (aG))))))) fun B9=>(gZ Z_60 (Ht rfl) (Ht rfl) rfl (i:=1) rfl (aK rfl) rfl rfl ?_)))))))
   refine eJ (ts (rm rfl (ro rfl (eG A_60 Z_60 (Ht rfl) (i:=0) rfl rfl rfl) (ro rfl (eG A_60 Z_60 (Ht rfl) (i:=1) rfl rfl rfl) (ro rfl (nI (⟨(gv l k,gv m k),hl.get hL k,hm.get hL k⟩:{x:Qi × Qi // aH x.1 L ∧ aH x.2 L}) (Ht rfl) ⟨(Ht rfl),(Ht rfl),trivial⟩) (ro rfl (fH (Ht rfl)) (eJ (dQ (Ht rfl) (fun hd=>?_) (fun hd=>?_)))))))))
   ·have hn : ¬ l = m := a6c (i := k) (by simpa using hd)
    refine ts (ro rfl (cQ cV) (eJ (fK rfl (fJ (fQ rfl) ?_))))
    exact (eD (decide_eq_false hn).symm)
   ·have hq : gv l k = gv m k := by simpa using hd
    refine cU (bD (cY (ro rfl (dW (Ht rfl) (cJ 1) z6) (rm rfl (eJ (bL [] rfl (by decide) ?_))))))
    refine gQ (k + 1) ⟨hc, fun i h => by
     by_cases e:i = k
     ·rw [e]; exact hq
     ·exact hr i zo⟩ zo (zS rfl) aY
  ·simp only [decide_eq_false_iff_not] at hc
   refine gG rfl (ts (ro rfl (cQ cV) (eJ (fK rfl (fJ (fQ rfl) ?_)))))
   exact (eD (decide_eq_true (a5X he (fun i h=>hr i zo))).symm)
theorem Pq {l m:List (List Qi)} {L:Nat} (hl:aS l L) (hm:aS m L) (h3:∀ r,r ∈ l → r.length ≤ 1000) (h4:∀ r,r ∈ m → r.length ≤ 1000) (h1:l.length ≤ 1000) (h2:m.length ≤ 1000):bI Tryz.prog 163 [bC l,bC m,xV Tryz.prog {x:List Qi × List Qi // (bR x.1 L ∧ x.1.length ≤ 1000) ∧ bR x.2 L ∧ x.2.length ≤ 1000} (fun x=>[aL x.1.1,aL x.1.2]) (fun x=>aI (decide (x.1.1 = x.1.2)))] (aI (decide (l = m))):=by
 refine bI.intro Tryz.func163 rfl Tryz.ntmps163 rfl (fun cx=>(ts (ro rfl (cQ cV) (eJ (cK (ts (rm rfl (ro rfl (dU U_26 (Ht rfl) aD) (rm rfl (ro rfl (dU U_26 (Ht rfl) aD) (ro rfl (kM (Ht rfl) (Ht rfl)) (eJ (dQ (Ht rfl) (fun hb=>?_) (fun hb=>?_))))))))))))))
 ·have hn : ¬ l = m := fun e => by rw [e] at hb; simp at hb
  refine ts (ro rfl (cQ cV) (eJ (fK rfl (fJ (fQ rfl) ?_))))
  exact (eD (decide_eq_false hn).symm)
 ·have he : l.length = m.length := by simpa using hb
  refine cU (cK (ts (rm rfl (ro rfl (dU U_26 (Ht rfl) aD) (ro rfl (cX (cJ 0)) (eJ (eU ?_)))))))
  refine cB (fun (k : Nat) => k ≤ l.length ∧ ∀ i, i < k → l.getD i [] = m.getD i []) (fun (k : Nat) => l.length - k) (fun (k : Nat) => [(0, bC l), (1, bC m), (2, xV Tryz.prog {x : List Qi × List Qi // (bR x.1 L ∧ x.1.length ≤ 1000) ∧ bR x.2 L ∧ x.2.length ≤ 1000} (fun x => [aL x.1.1, aL x.1.2]) (fun x => aI (decide (x.1.1 = x.1.2)))), (15, bC l), (16, NT .i64 l.length), (17, NT .i64 k)]) (fun (k : Nat) => []) 0 ⟨Nat.zero_le _, fun i h => by omega⟩
   (zS rfl) aY (fun k ⟨hk,hr⟩=>?_)
  refine ts (ro rfl (gJ (Ht rfl) (Ht rfl)) (eJ (cK (dQ (Ht rfl) (fun hc=>?_) (fun hc=>?_)))))
  ·simp only [decide_eq_true_eq] at hc
   refine cU (cK (eU (ts (rm rfl (ro rfl (dZ U_26 Z_25 (Ht rfl) (Ht rfl) rfl (eX (eQ (d:=[]) hc))) (ro rfl (dJ A_25 Z_25 (Ht rfl)) (ra rfl (ra rfl (eJ (ts (rm rfl (rm rfl (ro rfl (dZ U_26 Z_25 (Ht rfl) (Ht rfl) rfl (eX (eQ (d:=[]) zo))) (ro rfl (dJ A_25 Z_25 (Ht rfl)) (ra rfl (eJ (ts (rm rfl (rm rfl (rm rfl (ro rfl (nI (⟨(l.getD k [],m.getD k []),⟨hl.row k,by rw [Hj hc]; exact h3 _ (List.getElem_mem hc)⟩,hm.row k,by rw [Hj (by omega:k < m.length)]; exact h4 _ (List.getElem_mem _)⟩:{x:List Qi × List Qi // (bR x.1 L ∧ x.1.length ≤ 1000) ∧ bR x.2 L ∧ x.2.length ≤ 1000}) (Ht rfl) ⟨(Ht rfl),(Ht rfl),trivial⟩) ?_)))))))))))))))))))))
   refine ro rfl (fH (Ht rfl)) (eJ (dQ (Ht rfl) (fun hd=>?_) (fun hd=>?_)))
   ·have hn : ¬ l = m := a2j (i := k) (by simpa using hd)
    refine ts (ro rfl (cQ cV) (eJ (fK rfl (fJ (fQ rfl) ?_))))
    exact (eD (decide_eq_false hn).symm)
   ·have hq : l.getD k [] = m.getD k [] := by simpa using hd
    refine cU (bD (cY (ro rfl (dW (Ht rfl) (cJ 1) z6) (rm rfl (eJ ?_)))))
    refine gQ (k + 1) ⟨hc, fun i h => by
     by_cases e:i = k
     ·rw [e]; exact hq
     ·exact hr i zo⟩ zo (zS rfl) aY
  ·simp only [decide_eq_false_iff_not] at hc
   refine gG rfl (ts (ro rfl (cQ cV) (eJ (fK rfl (fJ (fQ rfl) ?_)))))
   exact (eD (decide_eq_true (a1S he (fun i h=>hr i zo))).symm)
theorem Xf {x y:Qi} {L:Nat} [hx:aH x L] [hy:aH y L] (h:L ≤ 8796093022208):bI Tryz.prog 239 [aE x,aE y] (aI (decide (x = y))):=by
 refine bI.intro Tryz.func239 rfl Tryz.ntmps239 rfl (fun cx=>(ts (rn rfl (fU (Ht rfl)) fun B2=>(rn rfl (fU (Ht rfl)) fun B3=>(ro rfl (cQ cV) (eJ (ts (ro rfl (eG A_60 Z_60 (Ht rfl) (i:=0) rfl rfl rfl) (ro rfl (bA bP (Ht rfl)) (ro rfl (eG A_60 Z_60 (Ht rfl) (i:=1) rfl rfl rfl) (ro rfl (aP xA K_100 (yA zo zo) (Ht rfl) ⟨(Ht rfl),trivial⟩) (ra rfl (eJ ?_)))))))))))))
 exact fK rfl (fQ rfl)
theorem Xg {l m:List Qi} {L:Nat} (hl:bR l L) (hm:bR m L) (hL:1 ≤ L) (h1:l.length ≤ 1000) (h2:m.length ≤ 1000):bI Tryz.prog 240 [aL l,aL m,PT (xV Tryz.prog {x:Qi × Qi // aH x.1 L ∧ aH x.2 L} (fun x=>[aE x.1.1,aE x.1.2]) (fun x=>aI (decide (x.1.1 = x.1.2))))] (aI (decide (l = m))):=by
 refine bI.intro Tryz.func240 rfl Tryz.ntmps240 rfl (fun cx=>(ts (ro rfl (cQ cV) (eJ (ts (rm rfl (rm rfl (ro rfl (dJ Tryz.isAgg212 Tryz.sizeOf212 (Ht rfl)) (ro rfl (cZ Tryz.call165 (Gp hl hm hL h1 h2) ⟨(Ht rfl),(Ht rfl),(Ht rfl),trivial⟩) (ra rfl (eJ ?_)))))))))))
 exact fK rfl (fQ rfl)
theorem Xi {x y:Qi} {L:Nat} [hx:aH x L] [hy:aH y L] (h:L ≤ 8796093022208):bI Tryz.prog 161 [aE x,aE y] (aI (decide (x = y))):=by
 refine bI.intro Tryz.func161 rfl Tryz.ntmps161 rfl (fun cx=>(ts (rn rfl (fU (Ht rfl)) fun B2=>(rn rfl (fU (Ht rfl)) fun B3=>(ro rfl (cQ cV) (eJ (ts (ro rfl (eG A_60 Z_60 (Ht rfl) (i:=0) rfl rfl rfl) (ro rfl (bA bP (Ht rfl)) (ro rfl (eG A_60 Z_60 (Ht rfl) (i:=1) rfl rfl rfl) (ro rfl (aP xA K_100 (yA zo zo) (Ht rfl) ⟨(Ht rfl),trivial⟩) (ra rfl (eJ ?_)))))))))))))
 exact fK rfl (fQ rfl)
theorem Xj {l m:List Qi} {L:Nat} (hl:bR l L) (hm:bR m L) (hL:1 ≤ L) (h1:l.length ≤ 1000) (h2:m.length ≤ 1000):bI Tryz.prog 164 [aL l,aL m,PT (xV Tryz.prog {x:Qi × Qi // aH x.1 L ∧ aH x.2 L} (fun x=>[aE x.1.1,aE x.1.2]) (fun x=>aI (decide (x.1.1 = x.1.2))))] (aI (decide (l = m))):=by
 refine bI.intro Tryz.func164 rfl Tryz.ntmps164 rfl (fun cx=>(ts (ro rfl (cQ cV) (eJ (ts (rm rfl (rm rfl (ro rfl (dJ Tryz.isAgg212 Tryz.sizeOf212 (Ht rfl)) (ro rfl (cZ Tryz.call165 (Gp hl hm hL h1 h2) ⟨(Ht rfl),(Ht rfl),(Ht rfl),trivial⟩) (ra rfl (eJ ?_)))))))))))
 exact fK rfl (fQ rfl)
theorem Ng {z z':List Qi} {s s':List (List Qi)} {L:Nat} (hz:bR z L) (hz2:bR z' L) (hs:aS s L) (hs2:aS s' L) (hL:1 ≤ L) (h:L ≤ 8796093022208) (hsh:bT s z.length z.length) (hsh2:bT s' z'.length z'.length) (hl:z.length ≤ 1000) (hl2:z'.length ≤ 1000):bI Tryz.prog 162 [dO z s,dO z' s'] (aI (Rm z z' s s')):=by
 have e1:∀ r,r ∈ s → r.length ≤ 1000:=fun r hr=>by rw [hsh.2 r hr]; exact hl
 have e2:∀ r,r ∈ s' → r.length ≤ 1000:=fun r hr=>by rw [hsh2.2 r hr]; exact hl2
 have e3:s.length ≤ 1000:=by rw [hsh.1]; exact hl
 have e4:s'.length ≤ 1000:=by rw [hsh2.1]; exact hl2
 refine bI.intro Tryz.func162 rfl Tryz.ntmps162 rfl (fun cx=>(ts (rn rfl (fU (Ht rfl)) fun B2=>(rn rfl (fU (Ht rfl)) fun B3=>(ro rfl (cQ cV) (eJ (ts (rn rfl (eK (Ts:=[Is (.nilFunc)]) Tryz.zeroValue212 rfl (fun V=>aW zd (aG))) fun B5=>(oZ Tryz.sizeOf212 (Ht rfl) (bH.fn Tryz.call239 (γ:={x:Qi × Qi // aH x.1 L ∧ aH x.2 L}) (Ts:=fun x=>[aE x.1.1,aE x.1.2]) (U:=fun x=>aI (decide (x.1.1 = x.1.2))) (fun x=>haveI:=x.2.1; haveI:=x.2.2; Xf (L:=L) h)) (i:=2) rfl (aK rfl) rfl ?_)))))))))
 refine eJ (cK (gW (i:=2) (tt:=5) rfl rfl kQ (cY (ro rfl (lO (γ:={x:List Qi × List Qi // (bR x.1 L ∧ x.1.length ≤ 1000) ∧ bR x.2 L ∧ x.2.length ≤ 1000}) (Ts:=fun x=>[aL x.1.1,aL x.1.2]) (U:=fun x=>aI (decide (x.1.1 = x.1.2))) Tryz.call240 (fun x=>Xg x.2.1.1 x.2.2.1 hL x.2.1.2 x.2.2.2) ⟨(Ht rfl),trivial⟩) (ra rfl (eJ (ts (ro rfl (eW eE (Ht rfl) rfl) (ro rfl (fX A_25 Z_25 (Ht rfl) (i:=0) rfl rfl) (ro rfl (eW eE (Ht rfl) rfl) (ro rfl (fX A_25 Z_25 (Ht rfl) (i:=1) rfl rfl) ?_)))))))))))
 refine ro rfl (cZ Tryz.call165 (Gp hz hz2 hL hl hl2) ⟨(Ht rfl),(Ht rfl),(bH.fn K_100 (γ:={x:Qi × Qi // aH x.1 L ∧ aH x.2 L}) (Ts:=fun x=>[aE x.1.1,aE x.1.2]) (U:=fun x=>aI (decide (x.1.1 = x.1.2))) (fun x=>haveI:=x.2.1; haveI:=x.2.2; yA (L:=L) (M:=L) zo zo)),trivial⟩) (rm rfl (fZ rfl rfl (eY rfl rfl (Ht rfl) (fun h=>eW fC (Ht rfl) rfl)) (fZ rfl rfl (eY rfl rfl (Ht rfl) (fun h=>fX A_26 Z_26 (fW rfl h) (i:=0) rfl rfl)) (fZ rfl rfl (eY rfl rfl (Ht rfl) (fun h=>eW fC (Ht rfl) rfl)) ?_))))
 refine fZ rfl rfl (eY rfl rfl (Ht rfl) (fun h=>fX A_26 Z_26 (fW rfl h) (i:=1) rfl rfl)) (fZ rfl rfl (eY rfl rfl (Ht rfl) (fun h=>cX (Ht rfl))) (fZ rfl rfl (eY rfl rfl (Ht rfl) (fun h=>cZ Tryz.call163 (Pq hs hs2 e1 e2 e3 e4) ⟨(fW rfl h),(fW rfl h),(fW rfl h),trivial⟩)) (ro rfl (iU (Ht rfl) (fun h=>(fW rfl h))) (ra rfl (eJ (fK rfl (fJ (fQ rfl) ?_)))))))
 exact (eD rfl)
theorem Nh {z z':List Qi} {s s' c c':List (List Qi)} {L:Nat} (hz:bR z L) (hz2:bR z' L) (hs:aS s L) (hs2:aS s' L) (hL:1 ≤ L) (h:L ≤ 8796093022208) (hsh:bT s z.length z.length) (hsh2:bT s' z'.length z'.length) (hl:z.length ≤ 1000) (hl2:z'.length ≤ 1000) (hc:aS c L) (hc2:aS c' L) (hch:bT c z.length z.length) (hch2:bT c' z'.length z'.length):bI Tryz.prog 61 [gK z s c,gK z' s' c'] (aI (Rm z z' s s' && decide (c = c'))):=by
 have e1:∀ r,r ∈ c → r.length ≤ 1000:=fun r hr=>by rw [hch.2 r hr]; exact hl
 have e2:∀ r,r ∈ c' → r.length ≤ 1000:=fun r hr=>by rw [hch2.2 r hr]; exact hl2
 have e3:c.length ≤ 1000:=by rw [hch.1]; exact hl
 have e4:c'.length ≤ 1000:=by rw [hch2.1]; exact hl2
 refine bI.intro Tryz.func61 rfl Tryz.ntmps61 rfl (fun cx=>(ts (rn rfl (fU (Ht rfl)) fun B2=>(rn rfl (fU (Ht rfl)) fun B3=>(ro rfl (cQ cV) (eJ (ts (rn rfl (eK (Ts:=[Is (.nilFunc)]) Tryz.zeroValue212 rfl (fun V=>aW zd (aG))) fun B5=>(oZ Tryz.sizeOf212 (Ht rfl) (bH.fn Tryz.call161 (γ:={x:Qi × Qi // aH x.1 L ∧ aH x.2 L}) (Ts:=fun x=>[aE x.1.1,aE x.1.2]) (U:=fun x=>aI (decide (x.1.1 = x.1.2))) (fun x=>haveI:=x.2.1; haveI:=x.2.2; Xi (L:=L) h)) (i:=2) rfl (aK rfl) rfl ?_)))))))))
 refine eJ (cK (gW (i:=2) (tt:=5) rfl rfl kQ (cY (ro rfl (eW pD (Ht rfl) rfl) (ro rfl (eG A_28 Z_28 (Ht rfl) (i:=0) rfl rfl rfl) (ro rfl (eW pD (Ht rfl) rfl) (ro rfl (eG A_28 Z_28 (Ht rfl) (i:=1) rfl rfl rfl) (ro rfl (cZ Tryz.call162 (Ng hz hz2 hs hs2 hL h hsh hsh2 hl hl2) ⟨(Ht rfl),(Ht rfl),trivial⟩) (rm rfl (fZ rfl rfl (eY rfl rfl (Ht rfl) (fun h=>eW nC (Ht rfl) rfl)) (fZ rfl rfl (eY rfl rfl (Ht rfl) (fun h=>fX A_26 Z_26 (fW rfl h) (i:=0) rfl rfl)) ?_)))))))))))
 refine fZ rfl rfl (eY rfl rfl (Ht rfl) (fun h=>eW nC (Ht rfl) rfl)) (fZ rfl rfl (eY rfl rfl (Ht rfl) (fun h=>fX A_26 Z_26 (fW rfl h) (i:=1) rfl rfl)) (fZ rfl rfl (eY rfl rfl (Ht rfl) (fun h=>lO (γ:={x:List Qi × List Qi // (bR x.1 L ∧ x.1.length ≤ 1000) ∧ bR x.2 L ∧ x.2.length ≤ 1000}) (Ts:=fun x=>[aL x.1.1,aL x.1.2]) (U:=fun x=>aI (decide (x.1.1 = x.1.2))) Tryz.call164 (fun x=>Xj x.2.1.1 x.2.2.1 hL x.2.1.2 x.2.2.2) ⟨(Ht rfl),trivial⟩)) (fZ rfl rfl (eY rfl rfl (Ht rfl) (fun h=>cZ Tryz.call163 (Pq hc hc2 e1 e2 e3 e4) ⟨(fW rfl h),(fW rfl h),(fW rfl h),trivial⟩)) ?_)))
 refine ro rfl (iU (Ht rfl) (fun h=>(fW rfl h))) (ra rfl (eJ ?_))
 exact fK rfl (fQ rfl)
end
section
open Go Go.RowKit
namespace Qi
end Qi
def kF (f : Nat → Int) : Nat → Int
 | 0=>0
 | n + 1=>if kF f n ≠ 0 then kF f n else f n
theorem tZ {f:Nat → Int} {k:Nat} (h:∀ i,i < k → f i = 0) (hk:f k ≠ 0):∀ {n:Nat},k < n → kF f n = f k:=by
 have hz : kF f k = 0 := by
  clear hk
  induction k with
  | zero=>rfl
  | succ k ih=>rw [kF,ih (fun i hi=>h i zo),if_neg (by simp),h k zo]
 intro n
 induction n with
 | zero=>intro h; omega
 | succ n ih =>
  intro hn
  by_cases e:n = k
  ·rw [e,kF,hz,if_neg (by simp)]
  ·rw [kF,ih zo,if_pos hk]
theorem iM {f : Nat → Int} : ∀ {n : Nat}, (∀ i, i < n → f i = 0) → kF f n = 0
 | 0,_=>rfl
 | n + 1,h=>by rw [kF,iM (fun i hi=>h i zo),if_neg (by simp),h n zo]
theorem gU {f : Nat → Int} : ∀ {n : Nat}, kF f n = 0 → ∀ i, i < n → f i = 0
 | 0,_,i,hi=>by omega
 | n + 1, h, i, hi => by
  rw [kF] at h
  split at h
  ·rename_i c; exact absurd h c
  ·rename_i c
   by_cases e:i = n
   ·rw [e]; exact h
   ·exact gU (Decidable.not_not.1 c) i zo
abbrev eF (l:List (Qi × Qi)) (i:Nat):Qi:=(l.getD i (Qi.zero,Qi.zero)).1
abbrev eV (l:List (Qi × Qi)) (i:Nat):Qi:=(l.getD i (Qi.zero,Qi.zero)).2
structure a3q (l:List (Qi × Qi)) (f:Qi):Prop where
 real:∀ i,i < l.length → (eF l i).b = 0 ∧ (eV l i).b = 0
 up:∀ i,0 < i → i < l.length → (eF l (i - 1)).re < (eF l i).re
 fr:f.b = 0
theorem a5c {x:Qi} (h:jG x = true):x.b = 0:=by simp only [jG,decide_eq_true_eq] at h; exact h.1
theorem a3q.mono {l : List (Qi × Qi)} {f : Qi} (h : a3q l f) {i : Nat} : ∀ {j : Nat}, i < j → j < l.length → (eF l i).re < (eF l j).re
 | 0,h1,_=>by omega
 | j + 1, h1, h2 => by
  have h3:=h.up (j + 1) zo h2
  rw [Nat.add_sub_cancel] at h3
  by_cases e:i = j
  ·rw [e]; exact h3
  ·have := h.mono (i := i) (j := j) zo zo
   grind
def a5A (l:List (Qi × Qi)) (L:Nat):Prop:=∀ e,e ∈ l → aH e.1 L ∧ aH e.2 L
theorem a5A.get {l:List (Qi × Qi)} {L:Nat} (h:a5A l L) (hL:1 ≤ L) (i:Nat):aH (eF l i) L ∧ aH (eV l i) L:=by
 by_cases hi:i < l.length
 ·have e : l.getD i (Qi.zero, Qi.zero) = l[i] := by simp [List.getD, hi]
  show aH (l.getD i _).1 L ∧ aH (l.getD i _).2 L
  rw [e]; exact h _ (List.getElem_mem hi)
 ·have e : l.getD i (Qi.zero, Qi.zero) = (Qi.zero, Qi.zero) := by simp [List.getD, List.getElem?_eq_none (Nat.le_of_not_lt hi)]
  show aH (l.getD i _).1 L ∧ aH (l.getD i _).2 L
  rw [e]; exact ⟨aH.zero hL,aH.zero hL⟩
end
section
open Go Go.RowKit
abbrev dS (M:List (List Qi)) (i:Nat):List Qi:=M.getD i []
def Vt (M : List (List Qi)) (c n : Nat) : Nat → Nat
 | 0=>n
 | k + 1=>if gm M (n - (k + 1)) c = Qi.zero then Vt M c n k else n - (k + 1)
def pv (M:List (List Qi)) (c n:Nat):Nat:=Vt M c n (n - c)
theorem Ln {M : List (List Qi)} {c n : Nat} : ∀ {k : Nat}, k ≤ n → (∀ r, n - k ≤ r → r < Vt M c n k → gm M r c = Qi.zero) ∧ n - k ≤ Vt M c n k ∧ Vt M c n k ≤ n ∧ (Vt M c n k < n → gm M (Vt M c n k) c ≠ Qi.zero)
 | 0,_=>⟨fun r h1 h2=>by simp [Vt] at h2; omega,by simp [Vt],by simp [Vt],fun h=>by simp [Vt] at h⟩
 | k + 1, hk => by
  obtain ⟨i1,i2,i3,i4⟩:=Ln (M:=M) (c:=c) (n:=n) (k:=k) zo
  unfold Vt
  by_cases e:gm M (n - (k + 1)) c = Qi.zero
  ·rw [if_pos e]
   refine ⟨fun r h1 h2=>?_,by omega,i3,i4⟩
   by_cases e2:r = n - (k + 1)
   ·rw [e2]; exact e
   ·exact i1 r zo h2
  ·rw [if_neg e]
   exact ⟨fun r h1 h2=>by omega,Nat.le_refl _,by omega,fun _=>e⟩
theorem pL {M:List (List Qi)} {c n:Nat} (hc:c ≤ n):(∀ r,c ≤ r → r < pv M c n → gm M r c = Qi.zero) ∧ c ≤ pv M c n ∧ pv M c n ≤ n ∧ (pv M c n < n → gm M (pv M c n) c ≠ Qi.zero):=by
 have h:=Ln (M:=M) (c:=c) (n:=n) (k:=n - c) zo
 rw [show n - (n - c) = c by omega] at h
 exact h
theorem a6h {M:List (List Qi)} {c n p:Nat} (hc:c ≤ p) (hp:p ≤ n) (h1:∀ r,c ≤ r → r < p → gm M r c = Qi.zero) (h2:p < n → gm M p c ≠ Qi.zero):pv M c n = p:=by
 obtain ⟨i1,i2,i3,i4⟩:=pL (M:=M) (n:=n) (show c ≤ n by omega)
 rcases Nat.lt_trichotomy (pv M c n) p with h | h | h
 ·exact absurd (h1 _ i2 h) (i4 zo)
 ·exact h
 ·exact absurd (i1 p hc h) (h2 zo)
def lV (rr rc:List Qi) (c k:Nat):List Qi:=tab rr.length fun j=>if c < j ∧ j < k then gv rr j - gv rr c / gv rc c * gv rc j else gv rr j
def redM (M:List (List Qi)) (c r:Nat):List (List Qi):=tab M.length fun i=>if c < i ∧ i < r then lV (dS M i) (dS M c) c (dS M i).length else dS M i
def cT (M : List (List Qi)) : Nat → List (List Qi) × Nat × Int
 | 0=>(M,0,-1)
 | c + 1 =>
  let s:=cT M c
  if 0 ≤ s.2.2 then s else
  if pv s.1 c M.length = M.length then (s.1,s.2.1,(c:Int)) else
  (redM (if pv s.1 c M.length = c then s.1 else swp [] s.1 (pv s.1 c M.length) c) c M.length,s.2.1 + (if pv s.1 c M.length = c then 0 else 1),-1)
theorem Fh {M : List (List Qi)} {c : Nat} (h : 0 ≤ (cT M c).2.2) : ∀ {d : Nat}, c ≤ d → cT M d = cT M c
 | 0,hd=>by rw [show c = 0 by omega]
 | d + 1, hd => by
  by_cases e:c = d + 1
  ·rw [e]
  ·have := Fh h (d := d) zo
   simp only [cT,this]
   rw [if_pos h]
theorem tR (M:List (List Qi)) (c r:Nat):(redM M c r).length = M.length:=aC _ _
theorem Ls {M:List (List Qi)} {n m c r:Nat} (h:bT M n m):bT (redM M c r) n m:=by
 refine ⟨(tR _ _ _).trans h.1,fun x hx=>?_⟩
 obtain ⟨i,hi,rfl⟩:=eS.1 hx
 have hr:=h.row (i:=i) (by rw [← h.1]; exact hi)
 show (if c < i ∧ i < r then lV (dS M i) (dS M c) c (dS M i).length else dS M i).length = m
 split
 ·rw [lV,aC]; exact hr
 ·exact hr
theorem Av {M:List (List Qi)} {n m p c:Nat} (h:bT M n m) (hp:p < n) (hc:c < n):bT (swp [] M p c) n m:=by
 refine ⟨(Ja _ _ _ _).trans h.1,fun x hx=>?_⟩
 unfold swp at hx
 rcases List.mem_or_eq_of_mem_set hx with h1 | h1
 ·rcases List.mem_or_eq_of_mem_set h1 with h2 | h2
  ·exact h.2 x h2
  ·rw [h2]; exact h.row hc
 ·rw [h1]; exact h.row hp
theorem rG {M : List (List Qi)} {n m : Nat} (h : bT M n m) : ∀ {c : Nat}, c ≤ n → bT (cT M c).1 n m
 | 0,_=>h
 | c + 1, hc => by
  have ih:=rG h (c:=c) zo
  obtain ⟨_,_,i3,_⟩:=pL (M:=(cT M c).1) (c:=c) (n:=M.length) (by rw [h.1]; omega)
  simp only [cT]
  split
  ·exact ih
  ·split
   ·exact ih
   ·rename_i e
    apply Ls
    split
    ·exact ih
    ·exact Av ih (by rw [← h.1]; omega) zo
def nP (L : Nat) : Nat → Nat
 | 0=>L
 | c + 1=>6 * nP L c + 4
theorem pP (L : Nat) : ∀ {c d : Nat}, c ≤ d → nP L c ≤ nP L d
 | c,0,h=>by rw [show c = 0 by omega]; exact Nat.le_refl _
 | c, d + 1, h => by
  by_cases e:c = d + 1
  ·rw [e]; exact Nat.le_refl _
  ·have := pP L (c := c) (d := d) zo
   simp only [nP]; omega
theorem uC (L c:Nat):L ≤ nP L c:=pP L (Nat.zero_le c)
theorem Qp {rr rc:List Qi} {L c j:Nat} (h1:bR rr L) (h2:bR rc L) (hL:1 ≤ L) (hp:gv rc c ≠ Qi.zero):aH (gv rr j - gv rr c / gv rc c * gv rc j) (6 * L + 4):=by
 haveI f1:=h1.get hL j; haveI f2:=h1.get hL c; haveI f3:=h2.get hL c; haveI f4:=h2.get hL j
 haveI g:aH (gv rr c / gv rc c) (L + 3 * L + 2):=⟨f2.fit.div f3.fit hp⟩
 have:aH (gv rr j - gv rr c / gv rc c * gv rc j) (L + (L + 3 * L + 2 + L + 1) + 1):=inferInstance
 exact this.le zo
theorem a0u {rr rc : List Qi} {L c k : Nat} (h1 : bR rr L) (h2 : bR rc L) (hL : 1 ≤ L) (hp : gv rc c ≠ Qi.zero) : bR (lV rr rc c k) (6 * L + 4) := bR.tab fun j _ => by
 split
 ·exact Qp h1 h2 hL hp
 ·exact (h1.get hL j).le zo
theorem Lr {M : List (List Qi)} {L c r : Nat} (h : aS M L) (hL : 1 ≤ L) (hp : gm M c c ≠ Qi.zero) : aS (redM M c r) (6 * L + 4) := fun x hx => by
 obtain ⟨i,hi,rfl⟩:=eS.1 hx
 show bR (if c < i ∧ i < r then lV (dS M i) (dS M c) c (dS M i).length else dS M i) _
 split
 ·exact a0u (h.row i) (h.row c) hL hp
 ·exact (h.row i).le zo
theorem Iz {M : List (List Qi)} {L p c : Nat} (h : aS M L) : aS (swp [] M p c) L := fun x hx => by
 unfold swp at hx
 rcases List.mem_or_eq_of_mem_set hx with h1 | h1
 ·rcases List.mem_or_eq_of_mem_set h1 with h2 | h2
  ·exact h x h2
  ·rw [h2]; exact h.row c
 ·rw [h1]; exact h.row p
theorem Dj {M:List (List Qi)} {p c:Nat} (hc:c < M.length):dS (swp [] M p c) c = dS M p:=by
 simp [dS,swp,List.getD,hc]
theorem Bv {M : List (List Qi)} {n m L : Nat} (hs : bT M n m) (h : aS M L) (hL : 1 ≤ L) : ∀ {c : Nat}, c ≤ n → aS (cT M c).1 (nP L c)
 | 0,_=>h
 | c + 1, hc => by
  have ih:=Bv hs h hL (c:=c) zo
  have hg:1 ≤ nP L c:=Nat.le_trans hL (uC L c)
  have sh:=rG hs (c:=c) zo
  obtain ⟨_,i2,i3,i4⟩:=pL (M:=(cT M c).1) (c:=c) (n:=M.length) (by rw [hs.1]; omega)
  simp only [cT,nP]
  split
  ·exact ih.le zo
  ·split
   ·exact ih.le zo
   ·rename_i e
    split
    ·rename_i e2
     refine Lr ih hg ?_
     have:=i4 zo
     rw [e2] at this; exact this
    ·refine Lr (Iz ih) hg ?_
     show gv (dS (swp [] _ _ c) c) c ≠ _
     rw [Dj (by rw [sh.1]; omega)]
     exact i4 zo
theorem On {rr rc:List Qi} {c:Nat}:rr = lV rr rc c (c + 1):=by
 unfold lV
 have:(tab rr.length fun j=>if c < j ∧ j < c + 1 then gv rr j - gv rr c / gv rc c * gv rc j else gv rr j) = tab rr.length (gv rr):=cR fun j _=>by rw [if_neg zo]
 rw [this]; exact Ci rfl
theorem xK (rr rc:List Qi) (c k:Nat):(lV rr rc c k).length = rr.length:=aC _ _
theorem Lt {rr rc:List Qi} {c k:Nat} (hk:k < rr.length) (h:c < k):gv (lV rr rc c k) k = gv rr k:=by
 rw [lV,iN hk,if_neg zo]
theorem Uy {rr rc:List Qi} {c k:Nat} (hk:k < rr.length) (h:c < k):(lV rr rc c k).set k (gv (lV rr rc c k) k - gv rr c / gv rc c * gv rc k) = lV rr rc c (k + 1):=by
 rw [Lt hk h]
 apply List.ext_getElem?
 intro j
 by_cases hj:j < rr.length
 ·by_cases e : j = k
  ·subst e
   rw [List.getElem?_set_self (by rw [xK]; exact hj),lV,cP hj,if_pos zo]
  ·rw [List.getElem?_set_ne (Ne.symm e), lV, lV, cP hj, cP hj]
   by_cases e2:c < j ∧ j < k
   ·rw [if_pos e2,if_pos zo]
   ·rw [if_neg e2,if_neg zo]
 ·rw [List.getElem?_eq_none (by rw [List.length_set,xK]; omega),List.getElem?_eq_none (by rw [xK]; omega)]
theorem Om {M:List (List Qi)} {c:Nat}:M = redM M c (c + 1):=by
 unfold redM
 have:(tab M.length fun i=>if c < i ∧ i < c + 1 then lV (dS M i) (dS M c) c (dS M i).length else dS M i) = tab M.length (dS M):=cR fun i _=>by rw [if_neg zo]
 rw [this]; exact Dk (h:=rfl)
theorem xJ {M:List (List Qi)} {c r i:Nat} (hi:i < M.length) (h:¬ (c < i ∧ i < r)):dS (redM M c r) i = dS M i:=by
 simp only [dS,redM,List.getD]
 rw [cP hi,if_neg h]; rfl
theorem Ux {M:List (List Qi)} {c r:Nat} (hr:r < M.length) (h:c < r):(redM M c r).set r (lV (dS M r) (dS M c) c (dS M r).length) = redM M c (r + 1):=by
 apply List.ext_getElem?
 intro j
 by_cases hj:j < M.length
 ·by_cases e : j = r
  ·subst e
   rw [List.getElem?_set_self (by rw [tR]; exact hj),redM,cP hj,if_pos zo]
  ·rw [List.getElem?_set_ne (Ne.symm e), redM, redM, cP hj, cP hj]
   by_cases e2:c < j ∧ j < r
   ·rw [if_pos e2,if_pos zo]
   ·rw [if_neg e2,if_neg zo]
 ·rw [List.getElem?_eq_none (by rw [List.length_set,tR]; omega),List.getElem?_eq_none (by rw [tR]; omega)]
theorem a0E {M:List (List Qi)} {r:Nat} {x y:List Qi}:(M.set r x).set r y = M.set r y:=List.set_set ..
theorem Dd {M:List (List Qi)} {r:Nat} {x:List Qi} (h:r < M.length):dS (M.set r x) r = x:=by simp [dS,List.getD,h]
theorem uN {M:List (List Qi)} {r i:Nat} {x:List Qi} (h:r ≠ i):dS (M.set r x) i = dS M i:=by simp [dS,List.getD,List.getElem?_set_ne h]
theorem a5j {M:List (List Qi)} {r:Nat} (h:r < M.length):M.set r (dS M r) = M:=by
 apply List.ext_getElem?
 intro j
 by_cases e:j = r
 ·subst e; rw [List.getElem?_set_self h]; simp [dS,List.getD,h]
 ·rw [List.getElem?_set_ne (Ne.symm e)]
theorem a0M {X : List (List Qi)} {r c k : Nat} (hr : r < X.length) (hne : r ≠ c) (hk : k < (dS X r).length) (hck : c < k) :
  (X.set r (lV (dS X r) (dS X c) c k)).set r ((dS (X.set r (lV (dS X r) (dS X c) c k)) r).set k (gm (X.set r (lV (dS X r) (dS X c) c k)) r k - gm X r c / gm X c c * gm (X.set r (lV (dS X r) (dS X c) c k)) c k)) = X.set r (lV (dS X r) (dS X c) c (k + 1)):=by
 rw [a0E,Dd hr]
 have e1:gm (X.set r (lV (dS X r) (dS X c) c k)) r k = gv (lV (dS X r) (dS X c) c k) k:=by show gv (dS (X.set r _) r) k = _; rw [Dd hr]
 have e2:gm (X.set r (lV (dS X r) (dS X c) c k)) c k = gv (dS X c) k:=by show gv (dS (X.set r _) c) k = _; rw [uN hne]
 rw [e1,e2]
 exact congrArg _ (Uy hk hck)
theorem a0N {D:List (List Qi)} {r c:Nat} (hr:r < D.length) (hc:c < r):(redM D c r).set r (lV (dS (redM D c r) r) (dS (redM D c r) c) c (dS D r).length) = redM D c (r + 1):=by
 rw [xJ hr zo,xJ zo zo]
 exact Ux hr hc
theorem a5W {X:List (List Qi)} {r c k:Nat} (hr:r < X.length) (hk:k < (dS X r).length) (hck:c < k):gm (X.set r (lV (dS X r) (dS X c) c k)) r k = gv (dS X r) k:=by
 show gv (dS (X.set r _) r) k = _; rw [Dd hr,Lt hk hck]
theorem a5V {X:List (List Qi)} {r c k:Nat} {y:List Qi} (hne:r ≠ c):gm (X.set r y) c k = gv (dS X c) k:=by show gv (dS (X.set r _) c) k = _; rw [uN hne]
theorem Ua {M A:List (List Qi)} {n c sw p:Nat} (hl:M.length = n) (h:cT M c = (A,sw,-1)) (hp:pv A c n = p) (hpn:p < n):cT M (c + 1) = (redM (if p = c then A else swp [] A p c) c n,sw + (if p = c then 0 else 1),-1):=by
 simp only [cT,h,hl,hp]
 rw [if_neg (by decide),if_neg zo]
theorem Yo {M A:List (List Qi)} {n c sw:Nat} (hl:M.length = n) (h:cT M c = (A,sw,-1)) (hp:pv A c n = n) (hc:c < n):cT M n = (A,sw,(c:Int)):=by
 have e : cT M (c + 1) = (A, sw, (c : Int)) := by
  simp only [cT,h,hl,hp]
  rw [if_neg (by decide)]; simp
 rw [Fh (c:=c + 1) (by rw [e]; show (0:Int) ≤ (c:Int); omega) hc,e]
end
section
open Go Go.RowKit
theorem Eu (v : Value) (w : World) : (method (Tryz.prog.types.size + Made.depth) 60 v "Clear").run Tryz.prog w = .ok (82, v) w := by kernel_rfl
end
section
open Go Go.RowKit
theorem a1m {M:List (List Qi)} {n m G B:Nat} (hs:bT M n m) (hstg:∀ c,c ≤ n → aS (cT M c).1 G) (hG1:1 ≤ G) (hg:6 * G + 4 ≤ 17592186044415) (hnm:n ≤ m) (hm:m ≤ 1000):gM Tryz.prog 221 [Is (.slice (some ⟨B,0,none⟩) n n)] [oH B 25 60 5 (bN aE M)] (Unit) (fun _=>fE [NT .i64 (cT M n).2.1,aN .i64 (cT M n).2.2]) (fun _=>[oH B 25 60 5 (bN aE (cT M n).1)]) (fun _=>True):=by
 have hs1:=hs.1
 refine gM.intro Tryz.func221 rfl Tryz.ntmps221 rfl (fun cx Z=>(ts (ro rfl (cQ (cJ 0)) (ro rfl (cQ (cJ 0)) (eJ (ts (ro rfl (cQ (cJ 0)) (eJ (cK (ts (rm rfl (ro rfl (gI U_26 (Ht rfl)) (ro rfl (cX (cJ 0)) (eJ (eU (Gj 1 rfl (fun vs hvs=>?_)))))))))))))))))
 have hvs2:Hds vs n:=by have h:=hvs; rw [List.length_map,hs1] at h; exact h
 refine Gi (fun (c : Nat) (sw : Nat) (vs : List Value) (A : List (List Qi)) => (c ≤ n ∧ sw ≤ c) ∧ cT M c = (A, sw, -1) ∧ Hds vs n) (fun (c : Nat) (sw : Nat) (vs : List Value) (A : List (List Qi)) => n - c) (fun (c : Nat) (sw : Nat) (vs : List Value) (A : List (List Qi)) => [(0, Is (.slice (some ⟨B, 0, none⟩) n n)), (4, NT .i64 sw), (12, NT .i64 n), (13, NT .i64 c)]) (fun (c : Nat) (sw : Nat) (vs : List Value) (A : List (List Qi)) => [Z, jP B 25 60 5 vs vs (bN aE A)]) 0 0 vs M ⟨⟨Nat.zero_le _, Nat.le_refl _⟩, rfl, hvs2⟩
  (zS rfl) (eO.refl _) (fun c sw vs A ⟨⟨hc,hsw⟩,hA,hvs⟩=>?_)
 refine ts (ro rfl (gJ (Ht rfl) (Ht rfl)) (eJ (cK (dQ (Ht rfl) (fun hcn=>?_) (fun hcn=>?_)))))
 ·simp only [decide_eq_true_eq] at hcn
  have hvl:=hvs.len
  have hAs:bT A n m:=by have h:=rG hs hc; rw [hA] at h; exact h
  have hAf:aS A G:=by have h:=hstg c hc; rw [hA] at h; exact h
  have hAl:=hAs.1
  refine cU (cK (eU (ts (rm rfl (ra rfl (eJ (ts (rm rfl (ra rfl (eJ (cK (eU ?_))))))))))))
  refine cB (fun (p : Nat) => (c ≤ p ∧ p ≤ n) ∧ ∀ r, c ≤ r → r < p → gm A r c = Qi.zero) (fun (p : Nat) => n - p) (fun (p : Nat) => [(0, Is (.slice (some ⟨B, 0, none⟩) n n)), (4, NT .i64 sw), (5, NT .i64 c), (6, NT .i64 p), (12, NT .i64 n), (13, NT .i64 c)]) (fun (p : Nat) => [Z, jP B 25 60 5 vs vs (bN aE A)]) c ⟨⟨Nat.le_refl _, hc⟩, fun r h1 h2 => by omega⟩
   (zS rfl) (eO.refl _) (fun p ⟨⟨hcp,hpn⟩,hz⟩=>?_)
  haveI fp:aH (gm A p c) G:=hAf.get hG1 p c
  refine cK (ts (rm rfl (rm rfl (ro rfl (gI U_26 (Ht rfl)) (ro rfl (gJ (Ht rfl) (Ht rfl)) (rm rfl (fZ rfl rfl (eY rfl rfl (Ht rfl) (fun h=>cX (Ht rfl))) (fZ rfl rfl (eY rfl rfl (Ht rfl) (fun h=>cX (Ht rfl))) (fZ rfl rfl (eY rfl rfl (Ht rfl) (fun h=>gX U_26 Z_25 (fW rfl h) (fW rfl h) rfl (by first | omega | (simp at h; omega)) (by rw [Nat.mul_one,Nat.zero_add]))) ?_)))))))))
  refine fZ rfl rfl (eY rfl rfl (Ht rfl) (fun h=>fN A_25 Z_25 (fW rfl h) (j:=1) rfl (by simp at h; omega))) ?_
  refine fZ rfl rfl (eY rfl rfl (Ht rfl) (fun h=>cX (Ht rfl))) (fZ rfl rfl (eY rfl rfl (Ht rfl) (fun h=>iD U_25 Z_60 (fW rfl h) (fW rfl h) rfl (j:=1) rfl zo (by simp at h; omega) (by simp at h; rw [hAs.row h]; omega))) ?_)
  refine fZ rfl rfl (eY rfl rfl (Ht rfl) (fun h=>kH A_60 Z_60 (fW rfl h) (j:=1) rfl zo (by simp at h; omega) (by simp at h; rw [hAs.row h]; omega))) ?_
  refine fZ rfl rfl (eY rfl rfl (Ht rfl) (fun h=>bA bP (fW rfl h))) (fZ rfl rfl (eY rfl rfl (Ht rfl) (fun h=>aP Eu Tryz.call82 (wK (x:=gm A p c) (L:=G) zo) (fW rfl h) trivial)) (fZ rfl rfl (eY rfl rfl (Ht rfl) (fun h=>fH (fW rfl h))) (ro rfl (iU (Ht rfl) (fun h=>(fW rfl h))) (eJ (dQ (Ht rfl) (fun he=>?_) (fun he=>?_))))))
  ·have he2 : p < n ∧ gm A p c = Qi.zero := by simpa using he
   refine cU (eU (cY (rm rfl (ro rfl (dW (Ht rfl) (cJ 1) z6) (ra rfl (eJ (bD ?_)))))))
   refine gQ (p + 1) ⟨⟨by omega, by omega⟩, fun r h1 h2 => by
     by_cases e:r = p
     ·rw [e]; exact he2.2
     ·exact hz r h1 zo⟩ zo (zS rfl) (eO.refl _)
  ·have hpv : pv A c n = p := a6h hcp hpn hz (fun h => by simp at he; exact he h)
   refine gG rfl (cK (ts (rm rfl (rm rfl (ro rfl (gI U_26 (Ht rfl)) (ro rfl (eH (Ht rfl) (Ht rfl)) (eJ (dQ (Ht rfl) (fun hp=>?_) (fun hp=>?_)))))))))
   ·have hp2 : p = n := by simpa using hp
    have hend:=Yo hs1 hA (by rw [hpv]; exact hp2) hcn
    refine ts (rm rfl (rm rfl (ra rfl (ra rfl (eJ ?_)))))
    exact jC () trivial [0,1] ⟨⟨_,rfl,fun _ _ _ h=>h⟩,⟨_,rfl,(fun S w V h=>cA (by rw [hend]) S w V (Ck (by rw [List.length_map]; omega) S w V h))⟩,trivial⟩ (by decide) (a30 rfl (fJ (fQ rfl) (nQ (by rw [hend]))) (fJ (fQ rfl) (bE (by rw [hend]))))
   ·have hp2 : p < n := by simp at hp; omega
    have hpz:=(pL (M:=A) (c:=c) (n:=n) hc).2.2.2 (by rw [hpv]; exact hp2)
    rw [hpv] at hpz
    have hnx:=Ua hs1 hA hpv hp2
    refine cU (cK (a1b (fun (q:Nat) (us:List Value) (D:List (List Qi))=>(q = sw + (if p = c then 0 else 1) ∧ D = (if p = c then A else swp [] A p c)) ∧ Hds us n) (fun (q:Nat) (us:List Value) (D:List (List Qi))=>[(0,Is (.slice (some ⟨B,0,none⟩) n n)),(4,NT .i64 q),(5,NT .i64 c),(12,NT .i64 n),(13,NT .i64 c)]) (fun (q:Nat) (us:List Value) (D:List (List Qi))=>[Z,jP B 25 60 5 us us (bN aE D)]) ?_ (fun q us D ⟨⟨hq,hD⟩,hus⟩=>?_)))
    ·refine ts (rm rfl (rm rfl (ro rfl (kM (Ht rfl) (Ht rfl)) (eJ (dQ (Ht rfl) (fun hpc => ?_) (fun hpc => ?_))))))
     ·have hpc2 : ¬ p = c := by simpa using hpc
      refine cK (Y.D_start (m:=14) [(13,1,jP B 25 60 5 (vs.set p (hd vs c)) vs (bN aE A))] (Y.D_step (Ei:=[(0,_)]) rfl rfl (bQ (bJ rfl rfl) bX) rfl rfl (by kernel_rfl) (dX rfl (cX (Ht rfl))) (Y.D_step (Ei:=[(6,_)]) rfl rfl (bQ (bJ rfl rfl) bX) rfl rfl (by kernel_rfl) (dX rfl (cX (Ht rfl))) (bY (Ei:=[(0,_)]) rfl rfl (bQ (bJ rfl rfl) bX) rfl rfl (dX rfl (cX (Ht rfl))) (bY (Ei:=[(5,_)]) rfl rfl (bQ (bJ rfl rfl) bX) rfl rfl (dX rfl (cX (Ht rfl))) ?_)))))
      refine Y.D_step (Ei:=[(0,_)]) rfl rfl (bQ (bJ rfl rfl) bX) rfl rfl (by kernel_rfl) (dX rfl (cX (Ht rfl))) (Y.D_step (Ei:=[(5,_)]) rfl rfl (bQ (bJ rfl rfl) bX) rfl rfl (by kernel_rfl) (dX rfl (cX (Ht rfl))) (Y.D_step (Ei:=[(48,_),(49,_)]) rfl rfl (bQ (bZ 4 rfl rfl) (bQ (bZ 5 rfl rfl) bX)) rfl rfl (by kernel_rfl) (dX rfl (gX U_26 Z_25 (Ht rfl) (Ht rfl) rfl zo (by rw [Nat.mul_one,Nat.zero_add]))) ?_))
      refine Y.D_step (Ei:=[(50,_)]) rfl rfl (bQ (bZ 6 rfl rfl) bX) rfl rfl (by kernel_rfl) (dX rfl (fN A_25 Z_25 (Ht rfl) (j:=1) rfl zo)) (Y.D_step (Ei:=[(0,_)]) rfl rfl (bQ (bJ rfl rfl) bX) rfl rfl (by kernel_rfl) (dX rfl (cX (Ht rfl))) (Y.D_step (Ei:=[(6,_)]) rfl rfl (bQ (bJ rfl rfl) bX) rfl rfl (by kernel_rfl) (dX rfl (cX (Ht rfl))) (Y.D_step (Ei:=[(52,_),(53,_)]) rfl rfl (bQ (bZ 8 rfl rfl) (bQ (bZ 9 rfl rfl) bX)) rfl rfl (by kernel_rfl) (dX rfl (gX U_26 Z_25 (Ht rfl) (Ht rfl) rfl zo (by rw [Nat.mul_one,Nat.zero_add]))) ?_)))
      refine Y.D_step (Ei:=[(54,_)]) rfl rfl (bQ (bZ 10 rfl rfl) bX) rfl rfl (by kernel_rfl) (dX rfl (fN A_25 Z_25 (Ht rfl) (j:=1) rfl zo)) (Y.D_step (Ei:=[(44,_),(45,_)]) rfl rfl (bQ (bZ 0 rfl rfl) (bQ (bZ 1 rfl rfl) bX)) rfl rfl (by kernel_rfl) (dX rfl (gX U_26 Z_25 (Ht rfl) (Ht rfl) rfl zo (by rw [Nat.mul_one,Nat.zero_add]))) ?_)
      refine Y.D_putI (Ei:=[(56,_),(51,_)]) 1 rfl rfl rfl (bQ (bZ 12 rfl rfl) (bQ (bZ 7 rfl rfl) bX)) (.head _) rfl (Vx Z_25 (Ht rfl) (Ht rfl) (hvs.pl c zo) (i:=p) (hs:=vs) zo) (Y.D_done aT rfl (by kernel_rfl) rfl (by simp [Y.okP]) rfl rfl (bU (bU (bU (bU (bU (bU (bU (bU (bU (bU (bU (bU (bU (Y.F_putI (Y.F_nil ?_))))))))))))))))
      refine ro rfl (gX U_26 Z_25 (Ht rfl) (Ht rfl) rfl zo (by rw [Nat.mul_one,Nat.zero_add])) ?_
      refine a3V Z_25 (Ht rfl) (Ht rfl) (j:=1) rfl (hvs.pl p zo) (by rw [List.length_set]; omega) rfl ?_
      refine eJ (mH 1 rfl (Ug (hs:=swp Ih vs p c) (p:=p) (c:=c) zo zo zo) (cY (rm rfl (ro rfl (dW (Ht rfl) (cJ 1) z6) (ra rfl (eJ (cD (sw + 1,swp Ih vs p c,swp [] A p c) ⟨⟨by rw [if_neg hpc2],by rw [if_neg hpc2]⟩,hvs.swp hp2 hcn⟩ (zS rfl) (eO.refl _))))))))
     ·have hpc2 : p = c := by simpa using hpc
      refine cU (cD (sw,vs,A) ⟨⟨by rw [if_pos hpc2]; rfl,by rw [if_pos hpc2]⟩,hvs⟩ (zS rfl) (eO.refl _))
    ·have hul := hus.len
     rw [← hq,← hD] at hnx
     have hDs:bT D n m:=by rw [hD]; split; exact hAs; exact Av hAs hp2 hcn
     have hDf:aS D G:=by rw [hD]; split; exact hAf; exact Iz hAf
     have hDl:=hDs.1
     have hDz : gm D c c ≠ Qi.zero := by
      rw [hD]; split
      ·rename_i e; rw [e] at hpz; exact hpz
      ·show gv (dS (swp [] A p c) c) c ≠ _
       rw [Dj zo]; exact hpz
     refine ts (rm rfl (ro rfl (dW (Ht rfl) (cJ 1) z6) (ra rfl (eJ (eU ?_)))))
     refine cB (fun (r : Nat) => c < r ∧ r ≤ n) (fun (r : Nat) => n - r) (fun (r : Nat) => [(0, Is (.slice (some ⟨B, 0, none⟩) n n)), (4, NT .i64 q), (5, NT .i64 c), (7, NT .i64 r), (12, NT .i64 n), (13, NT .i64 c)]) (fun (r : Nat) => [Z, jP B 25 60 5 us us (bN aE (redM D c r))]) (c + 1) ⟨Nat.lt_succ_self _, hcn⟩
      (zS rfl) (aU (fun _ _ _ h=>h) (aU (pJ (congrArg _ Om)) aY)) (fun r ⟨hcr,hrn⟩=>?_)
     refine cK (ts (rm rfl (rm rfl (ro rfl (gI U_26 (Ht rfl)) (ro rfl (gJ (Ht rfl) (Ht rfl)) (eJ (dQ (Ht rfl) (fun hr=>?_) (fun hr=>?_))))))))
     ·simp only [decide_eq_true_eq] at hr
      obtain ⟨X,hX⟩:∃ X,X = redM D c r:=⟨_,rfl⟩
      have hXr:dS X r = dS D r:=by rw [hX]; exact xJ zo zo
      have hXc:dS X c = dS D c:=by rw [hX]; exact xJ zo zo
      have hXl:X.length = n:=by rw [hX,tR]; exact hDl
      have hXrl:(dS X r).length = m:=by rw [hXr]; exact hDs.row hr
      have hXcl:(dS X c).length = m:=by rw [hXc]; exact hDs.row hcn
      have hXrg:(X.getD r []).length = m:=hXrl
      have hXcg:(X.getD c []).length = m:=hXcl
      have hXfr:bR (dS X r) G:=by rw [hXr]; exact hDf.row r
      have hXfc:bR (dS X c) G:=by rw [hXc]; exact hDf.row c
      haveI g1:aH (gm X r c) G:=hXfr.get hG1 c
      haveI g2:aH (gm X c c) G:=hXfc.get hG1 c
      have hXz:gm X c c ≠ Qi.zero:=by show gv (dS X c) c ≠ _; rw [hXc]; exact hDz
      haveI g3:aH (gm X r c / gm X c c) (G + 3 * G + 2):=⟨g1.fit.div g2.fit hXz⟩
      have hend:=a0N (D:=D) (r:=r) (c:=c) zo hcr
      rw [← hX] at hend ⊢
      refine cU (cK (eU (cK (Y.D_start (m:=21) [] (bY (Ei:=[(0,_)]) rfl rfl (bQ (bJ rfl rfl) bX) rfl rfl (dX rfl (cX (Ht rfl))) (bY (Ei:=[(7,_)]) rfl rfl (bQ (bJ rfl rfl) bX) rfl rfl (dX rfl (cX (Ht rfl))) (bY (Ei:=[(69,_),(70,_)]) rfl rfl (bQ (bZ 0 rfl rfl) (bQ (bZ 1 rfl rfl) bX)) rfl rfl (dX rfl (gX U_26 Z_25 (Ht rfl) (Ht rfl) rfl zo (by rw [Nat.mul_one,Nat.zero_add]))) ?_)))))))
      refine bY (Ei:=[(71,_)]) rfl rfl (bQ (bZ 2 rfl rfl) bX) rfl rfl (dX rfl (fN A_25 Z_25 (Ht rfl) (j:=1) rfl zo)) (bY (Ei:=[(5,_)]) rfl rfl (bQ (bJ rfl rfl) bX) rfl rfl (dX rfl (cX (Ht rfl))) (bY (Ei:=[(72,_),(73,_)]) rfl rfl (bQ (bZ 3 rfl rfl) (bQ (bZ 4 rfl rfl) bX)) rfl rfl (dX rfl (iD U_25 Z_60 (Ht rfl) (Ht rfl) rfl (j:=1) rfl zo zo zo)) (bY (Ei:=[(74,_)]) rfl rfl (bQ (bZ 5 rfl rfl) bX) rfl rfl (dX rfl (kH A_60 Z_60 (Ht rfl) (j:=1) rfl zo zo zo)) ?_)))
      refine bY (Ei:=[(75,_)]) rfl rfl (bQ (bZ 6 rfl rfl) bX) rfl rfl (dX rfl (bA bP (Ht rfl))) (bY (Ei:=[(0,_)]) rfl rfl (bQ (bJ rfl rfl) bX) rfl rfl (dX rfl (cX (Ht rfl))) (bY (Ei:=[(5,_)]) rfl rfl (bQ (bJ rfl rfl) bX) rfl rfl (dX rfl (cX (Ht rfl))) (bY (Ei:=[(77,_),(78,_)]) rfl rfl (bQ (bZ 8 rfl rfl) (bQ (bZ 9 rfl rfl) bX)) rfl rfl (dX rfl (gX U_26 Z_25 (Ht rfl) (Ht rfl) rfl zo (by rw [Nat.mul_one,Nat.zero_add]))) ?_)))
      refine bY (Ei:=[(79,_)]) rfl rfl (bQ (bZ 10 rfl rfl) bX) rfl rfl (dX rfl (fN A_25 Z_25 (Ht rfl) (j:=1) rfl zo)) (bY (Ei:=[(5,_)]) rfl rfl (bQ (bJ rfl rfl) bX) rfl rfl (dX rfl (cX (Ht rfl))) (bY (Ei:=[(80,_),(81,_)]) rfl rfl (bQ (bZ 11 rfl rfl) (bQ (bZ 12 rfl rfl) bX)) rfl rfl (dX rfl (iD U_25 Z_60 (Ht rfl) (Ht rfl) rfl (j:=1) rfl zo zo zo)) (bY (Ei:=[(82,_)]) rfl rfl (bQ (bZ 13 rfl rfl) bX) rfl rfl (dX rfl (kH A_60 Z_60 (Ht rfl) (j:=1) rfl zo zo zo)) ?_)))
      refine bY (Ei:=[(76,_),(83,_)]) rfl rfl (bQ (bZ 7 rfl rfl) (bQ (bZ 14 rfl rfl) bX)) rfl rfl (dX rfl (aP lH K_64 (tA (x:=gm X r c) (y:=gm X c c) (L:=G) (M:=G) zo) (Ht rfl) ⟨(Ht rfl),trivial⟩)) (bY (Ei:=[(84,_)]) rfl rfl (bQ (bZ 15 rfl rfl) bX) rfl rfl (dX rfl (cX (Ht rfl))) (bY (Ei:=[(68,_)]) rfl rfl (bQ (bZ 16 rfl rfl) bX) rfl rfl (dX rfl (dY (Ht rfl) rfl)) (bY (Ei:=[(68,_)]) rfl rfl (bQ (bZ 16 rfl rfl) bX) rfl rfl (dX rfl (dY (Ht rfl) rfl)) ?_)))
      refine Y.D_newp (Ei:=[]) (fun bb=>box bb 60 [aI (decide ((gm X r c / gm X c c).a < 0)),bB (gm X r c / gm X c c).a.natAbs,aI (decide ((gm X r c / gm X c c).b < 0)),bB (gm X r c / gm X c c).b.natAbs,bB (du (gm X r c / gm X c c))]) 20 rfl rfl rfl bX rfl rfl (by kernel_rfl) (eK (Ts:=[Is (.bool false),Is (.slice none 0 0),Is (.bool false),Is (.slice none 0 0),Is (.slice none 0 0)]) O_60 rfl (fun V=>aW zd (aW zd (aW zd (aW zd (aW zd (aG))))))) ?_
      refine Y.D_putN (Ei:=[(85,_)]) 19 rfl rfl rfl rfl rfl rfl (bQ (bZ 17 rfl rfl) bX) (fun bb=>pT Z_60 (Ht rfl) (Ht rfl) rfl (i:=0) rfl (aK rfl) rfl rfl) (Y.D_done aT rfl (by kernel_rfl) rfl (by simp [Y.okP]) rfl rfl (bU (bU (bU (bU (bU (bU (bU (bU (bU (bU (bU (bU (bU (bU (bU (bU (bU (bU (bU (Y.F_newp (fun B8=>Y.F_putN (Y.F_nil ?_)))))))))))))))))))))))
      refine ra rfl (eJ (ts (rm rfl (ro rfl (dW (Ht rfl) (cJ 1) z6) (ra rfl (eJ (eU ?_)))))))
      refine cB (fun (k : Nat) => c < k ∧ k ≤ m) (fun (k : Nat) => m - k) (fun (k : Nat) => [(0, Is (.slice (some ⟨B, 0, none⟩) n n)), (4, NT .i64 q), (5, NT .i64 c), (7, NT .i64 r), (8, bO B8 0), (10, NT .i64 k), (12, NT .i64 n), (13, NT .i64 c)]) (fun (k : Nat) => [Z, jP B 25 60 5 us us (bN aE (X.set r (lV (dS X r) (dS X c) c k))), box B8 60 [aI (decide ((gm X r c / gm X c c).a < 0)), bB (gm X r c / gm X c c).a.natAbs, aI (decide ((gm X r c / gm X c c).b < 0)), bB (gm X r c / gm X c c).b.natAbs, bB (du (gm X r c / gm X c c))]]) (c + 1) ⟨Nat.lt_succ_self _, by omega⟩
       (zS rfl) (aU (fun _ _ _ h=>h) (aU (pJ (by rw [← On,a5j zo])) (aU (aB rfl) aY))) (fun k ⟨hck,hkm⟩=>?_)
      obtain ⟨Y,hY⟩:∃ Y,Y = (X.set r (lV (dS X r) (dS X c) c k)):=⟨_,rfl⟩
      have hYl:Y.length = n:=by rw [hY,List.length_set]; exact hXl
      have hYrl:(dS Y r).length = m:=by rw [hY,Dd zo,xK]; exact hXrl
      have hYcl:(dS Y c).length = m:=by rw [hY,uN zo]; exact hXcl
      have hYrg:(Y.getD r []).length = m:=hYrl
      have hYcg:(Y.getD c []).length = m:=hYcl
      rw [← hY]
      refine cK (ts (rm rfl (rm rfl (rm rfl (ro rfl (gX U_26 Z_25 (Ht rfl) (Ht rfl) rfl zo (by rw [Nat.mul_one,Nat.zero_add])) ?_)))))
      refine ro rfl (fN A_25 Z_25 (Ht rfl) (j:=1) rfl zo) (ro rfl (a2y U_25 (Ht rfl) (j:=1) rfl zo zo) (ro rfl (gJ (Ht rfl) (Ht rfl)) (eJ (dQ (Ht rfl) (fun hk=>?_) (fun hk=>?_)))))
      ·have hk2 : k < m := by simp only [decide_eq_true_eq] at hk; omega
       have e1:gm Y r k = gv (dS X r) k:=by rw [hY]; exact a5W zo zo hck
       have e2:gm Y c k = gv (dS X c) k:=by rw [hY]; exact a5V zo
       haveI y1:aH (gm Y r k) G:=by rw [e1]; exact hXfr.get hG1 k
       haveI y2:aH (gm Y c k) G:=by rw [e2]; exact hXfc.get hG1 k
       have hst:=a0M (X:=X) (r:=r) (c:=c) (k:=k) zo zo zo hck
       rw [← hY] at hst
       refine cU (cK (eU (fV (m:=24) (dp 0 rfl (cX (Ht rfl)) (dp 7 rfl (cX (Ht rfl)) (dP 98 0 99 1 rfl (gX U_26 Z_25 (Ht rfl) (Ht rfl) rfl zo (by rw [Nat.mul_one,Nat.zero_add])) ?_))))))
       refine dq 100 2 rfl (fN A_25 Z_25 (Ht rfl) (j:=1) rfl zo) (dp 10 rfl (cX (Ht rfl)) (dp 0 rfl (cX (Ht rfl)) (dp 7 rfl (cX (Ht rfl)) (dP 103 5 104 6 rfl (gX U_26 Z_25 (Ht rfl) (Ht rfl) rfl zo (by rw [Nat.mul_one,Nat.zero_add])) ?_))))
       refine dq 105 7 rfl (fN A_25 Z_25 (Ht rfl) (j:=1) rfl zo) (dp 10 rfl (cX (Ht rfl)) (dP 106 8 107 9 rfl (iD U_25 Z_60 (Ht rfl) (Ht rfl) rfl (j:=1) rfl zo zo zo) (dq 108 10 rfl (kH A_60 Z_60 (Ht rfl) (j:=1) rfl zo zo zo) (dq 109 11 rfl (bA bP (Ht rfl)) (dp 8 rfl (eG A_60 Z_60 (Ht rfl) (i:=2) rfl rfl rfl) (dq 111 13 rfl (bA bP (Ht rfl)) (dp 0 rfl (cX (Ht rfl)) (dp 5 rfl (cX (Ht rfl)) (dP 113 15 114 16 rfl (gX U_26 Z_25 (Ht rfl) (Ht rfl) rfl zo (by rw [Nat.mul_one,Nat.zero_add])) ?_)))))))))
       refine dq 115 17 rfl (fN A_25 Z_25 (Ht rfl) (j:=1) rfl zo) (dp 10 rfl (cX (Ht rfl)) (dP 116 18 117 19 rfl (iD U_25 Z_60 (Ht rfl) (Ht rfl) rfl (j:=1) rfl zo zo zo) (dq 118 20 rfl (kH A_60 Z_60 (Ht rfl) (j:=1) rfl zo zo zo) (dP 112 14 119 21 rfl (aP dH K_70 (kD (x:=gm X r c / gm X c c) (y:=gm Y c k) (L:=G + 3 * G + 2) (M:=G) zo) (Ht rfl) ⟨(Ht rfl),trivial⟩) (dP 110 12 120 22 rfl (aP jQ K_69 (tB (x:=gm Y r k) (y:=gm X r c / gm X c c * gm Y c k) (L:=G) (M:=G + 3 * G + 2 + G + 1) zo) (Ht rfl) ⟨(Ht rfl),trivial⟩) ?_)))))
       refine fG aT rfl (by kernel_rfl) (zF (zF (zF (zF (zF (zF (aV (ro rfl (iD U_25 Z_60 (Ht rfl) (Ht rfl) rfl (j:=1) rfl zo zo zo) (a3n Z_60 (Ht rfl) (Ht rfl) (j:=1) rfl (El.ag rfl) (F:=aE) (z:=gm Y r k - gm X r c / gm X c c * gm Y c k) zo zo zo rfl (eJ (bD (cY ?_))))))))))))
       refine rm rfl (ro rfl (dW (Ht rfl) (cJ 1) z6) (ra rfl (eJ (gQ (k + 1) ⟨by omega,hk2⟩ zo (zS rfl) (aU (fun _ _ _ h=>h) (aU (pJ (congrArg _ hst)) (aU (aB rfl) aY)))))))
      ·have hk3 : k = m := by simp only [decide_eq_false_iff_not] at hk; omega
       subst hk3
       refine gG rfl (bD (cY (rm rfl (ro rfl (dW (Ht rfl) (cJ 1) z6) (ra rfl (eJ (bL [0,1] rfl (by decide) (gQ (r + 1) ⟨by omega,hr⟩ zo (zS rfl) (aU (fun _ _ _ h=>h) (aU (pJ (by rw [hY,← hend,hDs.row hr])) aY))))))))))
     ·simp only [decide_eq_false_iff_not] at hr
      obtain rfl:r = n:=Nat.le_antisymm hrn zo
      refine gG rfl (bD (cY (ro rfl (dW (Ht rfl) (cJ 1) z6) (rm rfl (eJ (gQ (c + 1,q,us,redM D c r) ⟨⟨hcn,by show q ≤ c + 1; rw [hq]; split <;> omega⟩,hnx,hus⟩ (by dsimp only; omega) (zS rfl) (eO.refl _)))))))
 ·simp only [decide_eq_false_iff_not] at hcn
  obtain rfl:c = n:=Nat.le_antisymm hc zo
  have hvl:=hvs.len
  have hAs:bT A c m:=by have h:=rG hs hc; rw [hA] at h; exact h
  refine gG rfl (ts (rm rfl (ra rfl (ro rfl (cQ cV) (eJ ?_)))))
  exact jC () trivial [0,1] ⟨⟨_,rfl,fun _ _ _ h=>h⟩,⟨_,rfl,(fun S w V h=>cA (by rw [hA]) S w V (Ck (by rw [List.length_map,hAs.1]; exact hvl) S w V h))⟩,trivial⟩ (by decide) (a30 rfl (fJ (fQ rfl) (nQ (by rw [hA]))) (fJ (fQ rfl) (bE (by rw [hA]))))
end
section
open Go Go.RowKit
abbrev Jw (M bs:List (List Qi)) (i:Nat):List Qi:=dS M i ++ bs.map fun b=>gv b i
def kZ (M bs:List (List Qi)) (n:Nat):List (List Qi):=tab n (Jw M bs)
theorem a1H {r:List Qi} {bs:List (List Qi)} {i j:Nat} (h:j < bs.length):(r ++ (bs.take j).map fun b=>gv b i) ++ [gv (bs.getD j []) i] = r ++ (bs.take (j + 1)).map fun b=>gv b i:=by
 rw [List.append_assoc,List.take_add_one,List.map_append]
 simp [List.getD,h]
theorem mO {M bs:List (List Qi)} {n m:Nat} (h:bT M n m):bT (kZ M bs n) n (m + bs.length):=by
 refine ⟨aC _ _,fun r hr=>?_⟩
 obtain ⟨i,hi,rfl⟩:=eS.1 hr
 rw [List.length_append,List.length_map,h.row hi]
theorem yE {M bs : List (List Qi)} {n L : Nat} (h : aS M L) (hb : aS bs L) (hL : 1 ≤ L) : aS (kZ M bs n) L := fun r hr x hx => by
 obtain ⟨i,hi,rfl⟩:=eS.1 hr
 rcases List.mem_append.1 hx with h1 | h1
 ·exact h.row i x h1
 ·obtain ⟨b, hb1, rfl⟩ := List.mem_map.1 h1
  exact bR.get (hb b hb1) hL i
theorem Tu {M:List (List Qi)} {n m:Nat} (h:bT M n m):kZ M [] n = M:=by
 have:kZ M [] n = tab n (dS M):=cR fun i _=>by simp [Jw]
 rw [this]; exact (Dk (h:=h.1)).symm
def oS (U : List (List Qi)) (x : List Qi) (n c : Nat) : Nat → Qi
 | 0=>gm U c n
 | k + 1=>oS U x n c k - gm U c (c + 1 + k) * gv x (c + 1 + k)
def qE (U : List (List Qi)) (n : Nat) : Nat → List Qi
 | 0=>tab n fun _=>Qi.zero
 | j + 1=>(qE U n j).set (n - (j + 1)) (oS U (qE U n j) n (n - (j + 1)) j / gm U (n - (j + 1)) (n - (j + 1)))
theorem zW (U : List (List Qi)) (n : Nat) : ∀ j, (qE U n j).length = n
 | 0=>aC _ _
 | j + 1=>by rw [qE,List.length_set,zW U n j]
def sU (M:List (List Qi)) (b:List Qi) (n:Nat):List (List Qi) × Nat × Int:=cT (kZ M [b] n) n
def kY (M:List (List Qi)) (b:List Qi) (n:Nat):Int:=if 0 ≤ (sU M b n).2.2 then 6 else 0
def lP (M:List (List Qi)) (b:List Qi) (n:Nat):List Qi:=qE (sU M b n).1 n n
def zL (G : Nat) : Nat → Nat
 | 0=>G
 | j + 1=>j * (zL G j + G + 2) + 4 * G + 2
theorem xT (G j:Nat):zL G j ≤ zL G (j + 1):=by
 cases j with
 | zero=>simp only [zL]; omega
 | succ j =>
  have:zL G (j + 1) + G + 2 ≤ (j + 1) * (zL G (j + 1) + G + 2):=Nat.le_mul_of_pos_left _ zo
  rw [show zL G (j + 1 + 1) = (j + 1) * (zL G (j + 1) + G + 2) + 4 * G + 2 from rfl]
  omega
theorem Jd (G : Nat) : ∀ j, G ≤ zL G j
 | 0=>Nat.le_refl _
 | j + 1=>Nat.le_trans (Jd G j) (xT G j)
theorem Ed (G : Nat) : ∀ {i j : Nat}, i ≤ j → zL G i ≤ zL G j
 | i,0,h=>by rw [show i = 0 by omega]; exact Nat.le_refl _
 | i, j + 1, h => by
  by_cases e:i = j + 1
  ·rw [e]; exact Nat.le_refl _
  ·exact Nat.le_trans (Ed G (show i ≤ j by omega)) (xT G j)
theorem pN {M : List (List Qi)} {n m : Nat} (hs : bT M n m) : ∀ {c : Nat}, c ≤ n → (cT M c).2.2 < 0 → ∀ i, i < c → gm (cT M c).1 i i ≠ Qi.zero
 | 0,_,_,i,hi=>by omega
 | c + 1, hc, hst, i, hi => by
  have sh:=rG hs (c:=c) zo
  obtain ⟨_,i2,i3,i4⟩:=pL (M:=(cT M c).1) (c:=c) (n:=M.length) (by rw [hs.1]; omega)
  simp only [cT] at hst ⊢
  split at hst
  ·rename_i h0; omega
  ·rename_i h0
   rw [if_neg h0]
   split at hst
   ·simp at hst; omega
   ·rename_i h1
    rw [if_neg h1]
    have ih:=pN hs (c:=c) zo zo
    have hl : ∀ X : List (List Qi), X.length = n → gm (redM X c M.length) i i = gm X i i := fun X hX => by
     show gv (dS (redM X c M.length) i) i = _
     rw [xJ zo zo]
    by_cases e:pv (cT M c).1 c M.length = c
    ·rw [if_pos e, hl _ sh.1]
     by_cases e2:i = c
     ·rw [e2]; have:=i4 (by have:=hs.1; omega); rw [e] at this; exact this
     ·exact ih i zo
    ·have hpl : pv (cT M c).1 c M.length < n := by rw [← hs.1]; omega
     rw [if_neg e,hl _ ((Ja _ _ _ _).trans sh.1)]
     by_cases e2:i = c
     ·rw [e2]
      show gv (dS (swp [] _ _ c) c) c ≠ _
      rw [Dj (by rw [sh.1]; omega)]
      exact i4 (by have:=hs.1; omega)
     ·have : dS (swp [] (cT M c).1 (pv (cT M c).1 c M.length) c) i = dS (cT M c).1 i := by
       simp only [dS,swp,List.getD]
       rw [List.getElem?_set_ne (Ne.symm e2),List.getElem?_set_ne zo]
      show gv (dS (swp [] _ _ c) i) i ≠ _
      rw [this]; exact ih i zo
theorem Au {U : List (List Qi)} {x : List Qi} {n c G X : Nat} (hU : aS U G) (hx : bR x X) (hG : 1 ≤ G) (hX : 1 ≤ X) : ∀ k, aH (oS U x n c k) (G + k * (G + X + 2))
 | 0=>(hU.get hG c n).le zo
 | k + 1 => by
  haveI f1:=Au (n:=n) (c:=c) hU hx hG hX k
  haveI f2:=hU.get hG c (c + 1 + k)
  haveI f3:=hx.get hX (c + 1 + k)
  have:aH (oS U x n c (k + 1)) (G + k * (G + X + 2) + (G + X + 1) + 1):=by unfold oS; infer_instance
  exact this.le (by rw [Nat.add_mul]; omega)
theorem a45 {U:List (List Qi)} {x:List Qi} {n c G X j:Nat} (hU:aS U G) (hx:bR x X) (hG:1 ≤ G) (hX:1 ≤ X) (hz:gm U c c ≠ Qi.zero):aH (oS U x n c j / gm U c c) (j * (X + G + 2) + 4 * G + 2):=by
 have f1:=Au (n:=n) (c:=c) hU hx hG hX j
 have f2:=hU.get hG c c
 have:aH (oS U x n c j / gm U c c) (G + j * (G + X + 2) + 3 * G + 2):=⟨f1.fit.div f2.fit hz⟩
 exact this.le (by rw [Nat.add_comm X G]; omega)
theorem Mu {U : List (List Qi)} {n G : Nat} (hU : aS U G) (hG : 1 ≤ G) (hz : ∀ i, i < n → gm U i i ≠ Qi.zero) : ∀ j, j ≤ n → bR (qE U n j) (zL G j)
 | 0,_=>bR.tab fun _ _=>aH.zero hG
 | j + 1, hj => fun y hy => by
  have ih:=Mu hU hG hz j zo
  rcases List.mem_or_eq_of_mem_set hy with h1 | h1
  ·exact (ih y h1).le (xT G j)
  ·rw [h1]; exact a45 hU ih hG (Nat.le_trans hG (Jd G j)) (hz _ zo)
theorem a0I {M:List (List Qi)} {b:List Qi} {n:Nat} (h:bT M n n):bT (sU M b n).1 n (n + 1):=rG (mO h) (Nat.le_refl n)
theorem Mb {M:List (List Qi)} {b:List Qi} {n L:Nat} (h:bT M n n) (hM:aS M L) (hb:bR b L) (hL:1 ≤ L):aS (sU M b n).1 (nP L n):=Bv (mO h) (yE hM (fun r hr=>by simp at hr; subst hr; exact hb) hL) hL (Nat.le_refl n)
theorem a0J {M : List (List Qi)} {b : List Qi} {n L : Nat} (h : bT M n n) (hM : aS M L) (hb : bR b L) (hL : 1 ≤ L) (hE : (sU M b n).2.2 < 0) : bR (lP M b n) (zL (nP L n) n) :=
 Mu (Mb h hM hb hL) (Nat.le_trans hL (uC L n)) (pN (mO h) (Nat.le_refl n) hE) n (Nat.le_refl n)
def Eb (n i:Nat):List Qi:=(tab n fun _=>Qi.zero).set i (Qi.ofInt 1)
def tN (n:Nat):List (List Qi):=tab n (Eb n)
theorem uD (n:Nat):bT (tN n) n n:=⟨aC _ _,fun r hr=>by obtain ⟨i,_,rfl⟩:=eS.1 hr; rw [Eb,List.length_set,aC]⟩
theorem mF:aH (Qi.ofInt 1) 1:=⟨Qi.Fit.int (L:=1) (by decide) (by decide)⟩
theorem Vm {n i L : Nat} (h : 1 ≤ L) : bR (Eb n i) L := fun x hx => by
 rcases List.mem_or_eq_of_mem_set hx with h1 | h1
 ·obtain ⟨_,_,rfl⟩:=eS.1 h1; exact aH.zero h
 ·rw [h1]; exact mF.le h
theorem Hq {n L:Nat} (h:1 ≤ L):aS (tN n) L:=fun r hr=>by obtain ⟨i,_,rfl⟩:=eS.1 hr; exact Vm h
theorem Sn {M:List (List Qi)} {b:List Qi} {n:Nat} (h:¬ 0 ≤ (sU M b n).2.2):(sU M b n).2.2 < 0:=by omega
theorem sM (F:Qi → Ty) (n:Nat):List.replicate n (F Qi.zero) = (tab n fun _=>Qi.zero).map F:=by rw [Jb,a2W]
theorem a5I {n j:Nat} (h:(0:Int) ≤ (n:Int) - 1 - (j:Int)):j < n:=by omega
theorem a5J {n j:Nat} (h:(n:Int) - 1 - (j:Int) < 0):n ≤ j:=by omega
end
end Go.Proofs.YtdlciihkiefckaaGreat
