/- What functions of the program compute, proved by walks over their code, and the plain mathematics of it; a part of the proof in the last text. -/
import Derived.Test.YteimkhgiekndjaaGreatP05
set_option linter.unusedVariables false
set_option linter.unusedSimpArgs false
set_option maxRecDepth 100000
set_option maxHeartbeats 4000000
namespace Go.Proofs.YteimkhgiekndjaaGreat
section
open Go Go.RowKit
theorem car_fit9 {p c:List (List Qi)} {L n m:Nat} (hp:FitM p L) (hc:FitM c L) (hL:1 ≤ L) (hm:m ≤ 9) (hn:n ≤ 9) (i k:Nat):FitC (sumN n fun a=>sumN m fun b=>carT p c i k a b) (250 * L + 300):=by
 have h1 : ∀ a, FitC (sumN m fun b => carT p c i k a b) (27 * L + 28) := fun a => (FitC.sum fun b _ => carT_fit hp hc hL i k a b).le (by
  have:m * (3 * L + 2 + 1) ≤ 9 * (3 * L + 3):=Nat.mul_le_mul hm (Nat.le_refl _)
  omega)
 exact (FitC.sum fun a _ => h1 a).le (by
  have:n * (27 * L + 28 + 1) ≤ 9 * (27 * L + 29):=Nat.mul_le_mul hn (Nat.le_refl _)
  omega)
theorem car_fit91 {p c : List (List Qi)} {L m : Nat} (hp : FitM p L) (hc : FitM c L) (hL : 1 ≤ L) (hm : m ≤ 9) (i k a : Nat) : FitC (sumN m fun b => carT p c i k a b) (27 * L + 28) := (FitC.sum fun b _ => carT_fit hp hc hL i k a b).le (by
  have:m * (3 * L + 2 + 1) ≤ 9 * (3 * L + 3):=Nat.mul_le_mul hm (Nat.le_refl _)
  omega)
theorem c_rcarO9 {p c:List (List Qi)} {L:Nat} (hp:FitM p L) (hc:FitM c L) (hL1:1 ≤ L) (hL:L ≤ 1000000) (hps:Shp p p.length c.length) (hcs:Shp c c.length c.length) (hpl:p.length ≤ 9) (hcl:c.length ≤ 9):FunO Tryz.prog 148 [QM p,QM c] [] (Nat) (fun B=>Is (.slice (some ⟨B,0,none⟩) p.length p.length)) (fun B=>[matP exactH B 31 98 5 (FRow QT (carM p c))]) (fun _=>True):=by
 refine FunO.intro Tryz.func148 rfl Tryz.ntmps148 rfl (fun cx Z=>(ts (ro rfl (cQ cV) (eX (ts (rm rfl (ro rfl (dG U_32 (Ht rfl) len_map) (rm rfl (ro rfl (dG U_32 (Ht rfl) len_map) (R_call0 K_138 (c_ZerosO (n:=p.length) (m:=p.length) (by omega) (by omega)) ⟨(Ht rfl),(Ht rfl),trivial⟩ rfl (fun B14 _=>(ra rfl (eX (cK (ts (ro rfl (cQ (cJ 0)) (eX (eG ?_))))))))))))))))))
 refine T_loop (fun (i : Nat) => i ≤ p.length) (fun (i : Nat) => p.length - i) (fun (i : Nat) => [(0, QM p), (1, QM c), (5, Is (.slice (some ⟨B14, 0, none⟩) p.length p.length)), (6, NT .i64 i)]) (fun (i : Nat) => [Z, matP exactH B14 31 98 5 (FRow QT (mixT (fun i => tab p.length fun k => carE p c c.length i k) (tab p.length fun _ => Qi.zero) p.length i))]) 0 (Nat.zero_le _)
  (aQ rfl (aQ rfl (aQ rfl (aQ rfl aX)))) (aU (fun _ _ _ h=>h) (aU (matO_of (by rw [zeroM,mix_zero])) aY)) (fun i hi=>?_)
 refine cK (ts (rm rfl (rm rfl (ro rfl (dG U_32 (Ht rfl) len_map) (ro rfl (gX (Ht rfl) (Ht rfl)) (eX (dQ (Ht rfl) (fun hd=>?_) (fun hd=>?_))))))))
 ·simp only [decide_eq_true_eq] at hd
  refine T_focusE 1 (i) rfl (frow_mix hd) (fun v hv=>(cU (cK (eG (ts (ro rfl (cQ (cJ 0)) (eX (eG ?_))))))))
  refine T_loop (fun (k : Nat) => k ≤ p.length) (fun (k : Nat) => p.length - k) (fun (k : Nat) => [(0, QM p), (1, QM c), (5, Is (.slice (some ⟨B14, 0, none⟩) p.length p.length)), (6, NT .i64 i), (7, NT .i64 k)]) (fun (k : Nat) => [Z, matQ exactH B14 31 98 5 (FRow QT (mixT (fun i => tab p.length fun k => carE p c c.length i k) (tab p.length fun _ => Qi.zero) p.length i)) i v, rowO 98 5 v ((mixT (fun k => carE p c c.length i k) Qi.zero p.length k).map QT)]) 0 (Nat.zero_le _)
   (aQ rfl (aQ rfl (aQ rfl (aQ rfl (aQ rfl aX))))) (aU (fun _ _ _ h=>h) (aU (fun _ _ _ h=>h) (aU (rowO_of (by rw [mix_zero])) aY))) (fun k hk=>?_)
  refine cK (ts (rm rfl (rm rfl (ro rfl (dG U_32 (Ht rfl) len_map) (ro rfl (gX (Ht rfl) (Ht rfl)) (eX (dQ (Ht rfl) (fun he=>?_) (fun he=>?_))))))))
  ·simp only [decide_eq_true_eq] at he
   have hrl:=mix_len (fun k=>carE p c c.length i k) Qi.zero p.length k
   refine cU (cK (eG (ts (ro rfl (cQ (cJ 0)) (eX (eG ?_))))))
   refine T_loop (fun (a : Nat) => a ≤ c.length) (fun (a : Nat) => c.length - a) (fun (a : Nat) => [(0, QM p), (1, QM c), (5, Is (.slice (some ⟨B14, 0, none⟩) p.length p.length)), (6, NT .i64 i), (7, NT .i64 k), (8, NT .i64 a)]) (fun (a : Nat) => [Z, matQ exactH B14 31 98 5 (FRow QT (mixT (fun i => tab p.length fun k => carE p c c.length i k) (tab p.length fun _ => Qi.zero) p.length i)) i v, rowO 98 5 v (((mixT (fun k => carE p c c.length i k) Qi.zero p.length k).set k (sumN a fun a => sumN c.length fun b => carT p c i k a b)).map QT)]) 0 (Nat.zero_le _)
    (aQ rfl (aQ rfl (aQ rfl (aQ rfl (aQ rfl (aQ rfl aX)))))) (aU (fun _ _ _ h=>h) (aU (fun _ _ _ h=>h) (aU (rowO_of (by rw [sumN,mix_set0 he])) aY))) (fun a ha=>?_)
   refine cK (ts (rm rfl (rm rfl (ro rfl (dG U_32 (Ht rfl) len_map) (ro rfl (gX (Ht rfl) (Ht rfl)) (eX (dQ (Ht rfl) (fun hf=>?_) (fun hf=>?_))))))))
   ·simp only [decide_eq_true_eq] at hf
    refine cU (cK (eG (ts (ro rfl (cQ (cJ 0)) (eX (eG ?_))))))
    refine T_loop (fun (b : Nat) => b ≤ c.length) (fun (b : Nat) => c.length - b) (fun (b : Nat) => [(0, QM p), (1, QM c), (5, Is (.slice (some ⟨B14, 0, none⟩) p.length p.length)), (6, NT .i64 i), (7, NT .i64 k), (8, NT .i64 a), (9, NT .i64 b)]) (fun (b : Nat) => [Z, matQ exactH B14 31 98 5 (FRow QT (mixT (fun i => tab p.length fun k => carE p c c.length i k) (tab p.length fun _ => Qi.zero) p.length i)) i v, rowO 98 5 v (((mixT (fun k => carE p c c.length i k) Qi.zero p.length k).set k ((sumN a fun a => sumN c.length fun b => carT p c i k a b) + sumN b fun b => carT p c i k a b)).map QT)]) 0 (Nat.zero_le _)
     (aQ rfl (aQ rfl (aQ rfl (aQ rfl (aQ rfl (aQ rfl (aQ rfl aX))))))) (aU (fun _ _ _ h=>h) (aU (fun _ _ _ h=>h) (aU (rowO_of (by rw [sumN,Qi.add_zero'])) aY))) (fun b hb=>?_)
    refine cK (ts (rm rfl (rm rfl (ro rfl (dG U_32 (Ht rfl) len_map) (ro rfl (gX (Ht rfl) (Ht rfl)) (eX (dQ (Ht rfl) (fun hg=>?_) (fun hg=>?_))))))))
    ·simp only [decide_eq_true_eq] at hg
     have hpr:=hps.row hd
     have hpk:=hps.row he
     have hcr:=hcs.row hf
     haveI f1:FitC (gm p i a) L:=hp.get hL1 i a
     haveI f2:FitC (gm c a b) L:=hc.get hL1 a b
     haveI f3:FitC (gm p k b) L:=hp.get hL1 k b
     haveI f4:FitC (sumN a fun a=>sumN c.length fun b=>carT p c i k a b) (250 * L + 300):=car_fit9 hp hc hL1 hcl (by omega) i k
     haveI f5:FitC (sumN b fun b=>carT p c i k a b) (27 * L + 28):=car_fit91 hp hc hL1 (by omega) i k a
     have hsl:((mixT (fun k=>carE p c c.length i k) Qi.zero p.length k).set k ((sumN a fun a=>sumN c.length fun b=>carT p c i k a b) + sumN b fun b=>carT p c i k a b)).length = p.length:=by rw [List.length_set,hrl]
     refine cU (cK (eG (fZ (m:=37) (dp 5 rfl (cX (Ht rfl)) (dp 6 rfl (cX (Ht rfl)) (dqq 39 0 40 1 rfl (fY U_32 Z_31 (Ht rfl) (Ht rfl) rfl (by omega) (by rw [Nat.mul_one,Nat.zero_add])) ?_))))))
     refine dq 41 2 rfl (op_ldH A_31 Z_31 (Ht rfl) (j:=1) rfl) (dp 7 rfl (cX (Ht rfl)) (dp 5 rfl (cX (Ht rfl)) (dp 6 rfl (cX (Ht rfl)) (dqq 44 5 45 6 rfl (fY U_32 Z_31 (Ht rfl) (Ht rfl) rfl (by omega) (by rw [Nat.mul_one,Nat.zero_add])) ?_))))
     refine dq 46 7 rfl (op_ldH A_31 Z_31 (Ht rfl) (j:=1) rfl) (dp 7 rfl (cX (Ht rfl)) (dqq 47 8 48 9 rfl (op_idxO U_31 Z_98 (Ht rfl) (Ht rfl) rfl (i:=2) rfl (by simp only [List.length_map]; omega) rfl) ?_))
     refine dq 49 10 rfl (op_ldO A_98 Z_98 (Ht rfl) (i:=2) rfl rfl (dY (set_get (by rw [hrl]; exact he)))) ?_
     refine dp 0 rfl (cX (Ht rfl)) (dp 6 rfl (cX (Ht rfl)) (dqq 51 12 52 13 rfl (dZ U_32 Z_31 (Ht rfl) (Ht rfl) rfl (dY (dU (d:=[]) hd))) (dq 53 14 rfl (dJ A_31 Z_31 (Ht rfl)) (dp 8 rfl (cX (Ht rfl)) (dqq 54 15 55 16 rfl (dZ U_31 Z_98 (Ht rfl) (Ht rfl) rfl (dY (dU (d:=Qi.zero) (by rw [hpr]; exact hf)))) ?_)))))
     refine dq 56 17 rfl (dJ A_98 Z_98 (Ht rfl)) (dp 1 rfl (cX (Ht rfl)) (dp 8 rfl (cX (Ht rfl)) (dqq 58 19 59 20 rfl (dZ U_32 Z_31 (Ht rfl) (Ht rfl) rfl (dY (dU (d:=[]) hf))) (dq 60 21 rfl (dJ A_31 Z_31 (Ht rfl)) (dp 9 rfl (cX (Ht rfl)) (dqq 61 22 62 23 rfl (dZ U_31 Z_98 (Ht rfl) (Ht rfl) rfl (dY (dU (d:=Qi.zero) (by rw [hcr]; exact hg)))) ?_))))))
     refine dq 63 24 rfl (dJ A_98 Z_98 (Ht rfl)) (dqq 57 18 64 25 rfl (cZ K_99 (c_rMul (by omega)) ⟨(Ht rfl),(Ht rfl),trivial⟩) (dp 0 rfl (cX (Ht rfl)) (dp 7 rfl (cX (Ht rfl)) (dqq 66 27 67 28 rfl (dZ U_32 Z_31 (Ht rfl) (Ht rfl) rfl (dY (dU (d:=[]) he))) (dq 68 29 rfl (dJ A_31 Z_31 (Ht rfl)) (dp 9 rfl (cX (Ht rfl)) (dqq 69 30 70 31 rfl (dZ U_31 Z_98 (Ht rfl) (Ht rfl) rfl (dY (dU (d:=Qi.zero) (by rw [hpk]; exact hg)))) ?_)))))))
     refine dq 71 32 rfl (dJ A_98 Z_98 (Ht rfl)) (dq 72 33 rfl (cZ Tryz.call207 c_rConj ⟨(Ht rfl),trivial⟩) (dqq 65 26 73 34 rfl (cZ K_99 (c_rMul (by omega)) ⟨(Ht rfl),(Ht rfl),trivial⟩) (dqq 50 11 74 35 rfl (cZ Tryz.call159 (c_rAdd (by omega)) ⟨(Ht rfl),(Ht rfl),trivial⟩) (fV mixed rfl (by kernel_rfl) (aJ (aJ (aJ (aJ (aJ (aJ (aJ (aJ (aJ (aJ (aJ (aJ (aJ (aJ (aJ (aJ (aJ (aJ (aJ (aJ (aJ (aJ (aJ (aJ (aJ (aJ (aJ (aJ (aJ (aJ (aJ (aJ (aJ (aJ (aJ (aJ (aJ (aV ?_))))))))))))))))))))))))))))))))))))))))))
     refine ro rfl (op_idxO U_31 Z_98 (Ht rfl) (Ht rfl) rfl (i:=2) rfl (by simp only [List.length_map]; omega) rfl) ?_
     refine R_stO Z_98 (Ht rfl) (Ht rfl) (El.ag rfl) (i:=2) rfl rfl (by simp only [List.length_map]; omega) rfl ?_
     refine eX (T_blk (cY (rm rfl (ro rfl (dV (Ht rfl) (cJ 1) (by show _ < 9223372036854775808; first | omega | (simp only [lim]; omega))) (ra rfl (eX (fU (b + 1) hg (by omega) (aQ rfl (aQ rfl (aQ rfl (aQ rfl (aQ rfl (aQ rfl (aQ rfl aX))))))) (aU (fun _ _ _ h=>h) (aU (fun _ _ _ h=>h) (aU (rowO_of (by rw [set_mapF,List.set_set,Qi.add_assoc',sumN]; rfl)) aY))))))))))
    ·simp only [decide_eq_false_iff_not] at hg
     obtain rfl:b = c.length:=Nat.le_antisymm hb (by omega)
     refine gV rfl (T_blk (cY (rm rfl (ro rfl (dV (Ht rfl) (cJ 1) (by show _ < 9223372036854775808; first | omega | (simp only [lim]; omega))) (ra rfl (eX (fU (a + 1) hf (by omega) (aQ rfl (aQ rfl (aQ rfl (aQ rfl (aQ rfl (aQ rfl aX)))))) (aU (fun _ _ _ h=>h) (aU (fun _ _ _ h=>h) (aU (rowO_of (by rw [sumN])) aY))))))))))
   ·simp only [decide_eq_false_iff_not] at hf
    obtain rfl:a = c.length:=Nat.le_antisymm ha (by omega)
    refine gV rfl (T_blk (cY (rm rfl (ro rfl (dV (Ht rfl) (cJ 1) (by show _ < 9223372036854775808; first | omega | (simp only [lim]; omega))) (ra rfl (eX (fU (k + 1) he (by omega) (aQ rfl (aQ rfl (aQ rfl (aQ rfl (aQ rfl aX))))) (aU (fun _ _ _ h=>h) (aU (fun _ _ _ h=>h) (aU (rowO_of (by rw [← mix_set (f:=fun k=>carE p c c.length i k)]; rfl)) aY))))))))))
  ·simp only [decide_eq_false_iff_not] at he
   obtain rfl:k = p.length:=Nat.le_antisymm hk (by omega)
   refine gV rfl (T_blk (T_unfocus 1 2 rfl rfl (by decide) (by simp only [FRow,List.length_map,mix_len]; omega) ?_))
   refine cY (rm rfl (ro rfl (dV (Ht rfl) (cJ 1) (by show _ < 9223372036854775808; first | omega | (simp only [lim]; omega))) (ra rfl (eX (T_keep [0,1] rfl (by decide) (fU (i + 1) hd (by omega) (aQ rfl (aQ rfl (aQ rfl (aQ rfl aX)))) (aU (fun _ _ _ h=>h) (aU (matO_of (by rw [set_FRow,mix_fin,← mix_set (f:=(fun i=>tab p.length fun k=>carE p c c.length i k))])) aY))))))))
 ·simp only [decide_eq_false_iff_not] at hd
  obtain rfl:i = p.length:=Nat.le_antisymm hi (by omega)
  refine gV rfl (ts (rm rfl (ra rfl (eX ?_))))
  exact T_retO B14 trivial [0,1] ⟨⟨_,rfl,fun _ _ _ h=>h⟩,⟨_,rfl,(matO_of (by rw [mix_fin]; rfl))⟩,trivial⟩ (by decide) (rvs1 rfl (eU rfl))
theorem c_rcar9 {p c:List (List Qi)} {L:Nat} (hp:FitM p L) (hc:FitM c L) (hL1:1 ≤ L) (hL:L ≤ 1000000) (hps:Shp p p.length c.length) (hcs:Shp c c.length c.length) (hpl:p.length ≤ 9) (hcl:c.length ≤ 9):Fun Tryz.prog 148 [QM p,QM c] (QM (carM p c)):=(c_rcarO9 hp hc hL1 hL hps hcs hpl hcl).fun fun B _ v S V h1 h2=>frz_matF (s:=5) (M:=carM p c) carM_shp.1.symm v S V h1 h2
theorem c_blocks {a b:List (List Qi)} {x y:Nat} (ha:Shp a x x) (hb:Shp b y y) (hx:x ≤ 100) (hy:y ≤ 100):Fun Tryz.prog 136 [QM a,QM b] (QM (sidM a b x y)):=by
 have hal:=ha.1
 have hbl:=hb.1
 refine Fun.intro Tryz.func136 rfl Tryz.ntmps136 rfl (fun cx=>(ts (ro rfl (cQ cV) (eX (ts (rm rfl (ro rfl (dG U_32 (Ht rfl) (by rw [List.length_map,hal])) ?_)))))))
 refine rm rfl (ro rfl (dG U_32 (Ht rfl) (by rw [List.length_map,hbl])) ?_)
 refine ro rfl (dV (Ht rfl) (Ht rfl) (by show _ < 9223372036854775808; first | omega | (simp only [lim]; omega))) (rm rfl (ro rfl (dG U_32 (Ht rfl) (by rw [List.length_map,hal])) ?_))
 refine rm rfl (ro rfl (dG U_32 (Ht rfl) (by rw [List.length_map,hbl])) ?_)
 refine ro rfl (dV (Ht rfl) (Ht rfl) (by show _ < 9223372036854775808; first | omega | (simp only [lim]; omega))) (R_call0 K_138 (c_ZerosO (n:=x + y) (m:=x + y) (by omega) (by omega)) ⟨(Ht rfl),(Ht rfl),trivial⟩ rfl (fun B20 _=>(ra rfl (eX (cK (ts (ro rfl (cQ (cJ 0)) (eX (eG ?_)))))))))
 refine T_loop (fun (i : Nat) => i ≤ x) (fun (i : Nat) => x - i) (fun (i : Nat) => [(0, QM a), (1, QM b), (5, Is (.slice (some ⟨B20, 0, none⟩) (x + y) (x + y))), (6, NT .i64 i)]) (fun (i : Nat) => [matP exactH B20 31 98 5 (FRow QT (mixT (sidR a b x y) (tab (x + y) fun _ => Qi.zero) (x + y) i))]) 0 (Nat.zero_le _)
  (aQ rfl (aQ rfl (aQ rfl (aQ rfl aX)))) (aU (matO_of (by rw [zeroM,mix_zero])) aY) (fun i hi=>?_)
 refine cK (ts (rm rfl (rm rfl (ro rfl (dG U_32 (Ht rfl) (by rw [List.length_map,hal])) ?_))))
 refine ro rfl (gX (Ht rfl) (Ht rfl)) (eX (dQ (Ht rfl) (fun hd=>?_) (fun hd=>?_)))
 ·have hdn : i < x := by simp only [decide_eq_true_eq] at hd; omega
  have har:=ha.row hdn
  refine T_focusE 0 (i) rfl (frow_mix (by omega)) (fun v0 hv0=>(cU (cK (eG (ts (ro rfl (cQ (cJ 0)) (eX (eG ?_))))))))
  refine T_loop (fun (j : Nat) => j ≤ x) (fun (j : Nat) => x - j) (fun (j : Nat) => [(0, QM a), (1, QM b), (5, Is (.slice (some ⟨B20, 0, none⟩) (x + y) (x + y))), (6, NT .i64 i), (7, NT .i64 j)]) (fun (j : Nat) => [matQ exactH B20 31 98 5 (FRow QT (mixT (sidR a b x y) (tab (x + y) fun _ => Qi.zero) (x + y) i)) i v0, rowO 98 5 v0 ((rowS (gm a i) 0 j (x + y)).map QT)]) 0 (Nat.zero_le _)
   (aQ rfl (aQ rfl (aQ rfl (aQ rfl (aQ rfl aX))))) (aU (fun _ _ _ h=>h) (aU (rowO_of (by rw [← rowS_start])) aY)) (fun j hj=>?_)
  refine cK (ts (rm rfl (rm rfl (ro rfl (dG U_32 (Ht rfl) (by rw [List.length_map,hal])) ?_))))
  refine ro rfl (gX (Ht rfl) (Ht rfl)) (eX (dQ (Ht rfl) (fun he=>?_) (fun he=>?_)))
  ·have hen : j < x := by simp only [decide_eq_true_eq] at he; omega
   refine cU (cK (eG (fZ (m:=12) (dp 5 rfl (cX (Ht rfl)) (dp 6 rfl (cX (Ht rfl)) (dqq 33 0 34 1 rfl (fY U_32 Z_31 (Ht rfl) (Ht rfl) rfl (by omega) (by rw [Nat.mul_one,Nat.zero_add])) ?_))))))
   refine dq 35 2 rfl (op_ldH A_31 Z_31 (Ht rfl) (j:=0) rfl) (dp 7 rfl (cX (Ht rfl)) (dp 0 rfl (cX (Ht rfl)) (dp 6 rfl (cX (Ht rfl)) (dqq 38 5 39 6 rfl (dZ U_32 Z_31 (Ht rfl) (Ht rfl) rfl (dY (dU (d:=[]) (by omega)))) (dq 40 7 rfl (dJ A_31 Z_31 (Ht rfl)) (dp 7 rfl (cX (Ht rfl)) (dqq 41 8 42 9 rfl (dZ U_31 Z_98 (Ht rfl) (Ht rfl) rfl (dY (dU (d:=Qi.zero) (by omega)))) (dq 43 10 rfl (dJ A_98 Z_98 (Ht rfl)) (fV mixed rfl (by kernel_rfl) (aJ (aJ (aJ (aJ (aJ (aJ (aJ (aJ (aJ (aJ (aJ (aJ (aV ?_))))))))))))))))))))))
   refine ro rfl (op_idxO U_31 Z_98 (Ht rfl) (Ht rfl) rfl (i:=1) rfl (by rw [List.length_map,rowS_len]; omega) rfl) ?_
   refine R_stO Z_98 (Ht rfl) (Ht rfl) (El.ag rfl) (i:=1) rfl rfl (by rw [List.length_map,rowS_len]; omega) rfl ?_
   refine eX (T_blk (cY (rm rfl (ro rfl (dV (Ht rfl) (cJ 1) (by show _ < 9223372036854775808; first | omega | (simp only [lim]; omega))) (ra rfl (eX (fU (j + 1) hen (by omega) (aQ rfl (aQ rfl (aQ rfl (aQ rfl (aQ rfl aX))))) (aU (fun _ _ _ h=>h) (aU (rowO_of (by rw [set_mapF]; exact congrArg _ (rowS_next (Nat.zero_le _)))) aY)))))))))
  ·have hjx : j = x := by simp only [decide_eq_false_iff_not] at he; omega
   subst hjx
   rw [rowS_fst hdn]
   refine gV rfl (T_blk (T_unfocus 0 1 rfl rfl (by decide) (by simp only [FRow,List.length_map,mix_len]; omega) ?_))
   refine cY (rm rfl (ro rfl (dV (Ht rfl) (cJ 1) (by show _ < 9223372036854775808; first | omega | (simp only [lim]; omega))) (ra rfl (eX (T_keep [0] rfl (by decide) (fU (i + 1) hdn (by omega) (aQ rfl (aQ rfl (aQ rfl (aQ rfl aX)))) (aU (matO_of (by rw [set_FRow,← mix_set (f:=sidR a b j y)])) aY)))))))
 ·have hix : i = x := by simp only [decide_eq_false_iff_not] at hd; omega
  subst hix
  refine gV rfl (cK (ts (ro rfl (cQ (cJ 0)) (eX (eG ?_)))))
  refine T_loop (fun (r : Nat) => r ≤ y) (fun (r : Nat) => y - r) (fun (r : Nat) => [(0, QM a), (1, QM b), (5, Is (.slice (some ⟨B20, 0, none⟩) (i + y) (i + y))), (8, NT .i64 r)]) (fun (r : Nat) => [matP exactH B20 31 98 5 (FRow QT (mixT (sidR a b i y) (tab (i + y) fun _ => Qi.zero) (i + y) (i + r)))]) 0 (Nat.zero_le _)
   (aQ rfl (aQ rfl (aQ rfl (aQ rfl aX)))) (aU (matO_of rfl) aY) (fun r hr=>?_)
  refine cK (ts (rm rfl (rm rfl (ro rfl (dG U_32 (Ht rfl) (by rw [List.length_map,hbl])) ?_))))
  refine ro rfl (gX (Ht rfl) (Ht rfl)) (eX (dQ (Ht rfl) (fun hd2=>?_) (fun hd2=>?_)))
  ·have hrn : r < y := by simp only [decide_eq_true_eq] at hd2; omega
   have hbr:=hb.row hrn
   refine T_focusE 0 ((i + r)) rfl (frow_mix (by omega)) (fun v0 hv0=>(cU (cK (eG (ts (ro rfl (cQ (cJ 0)) (eX (eG ?_))))))))
   refine T_loop (fun (j : Nat) => j ≤ y) (fun (j : Nat) => y - j) (fun (j : Nat) => [(0, QM a), (1, QM b), (5, Is (.slice (some ⟨B20, 0, none⟩) (i + y) (i + y))), (8, NT .i64 r), (9, NT .i64 j)]) (fun (j : Nat) => [matQ exactH B20 31 98 5 (FRow QT (mixT (sidR a b i y) (tab (i + y) fun _ => Qi.zero) (i + y) (i + r))) (i + r) v0, rowO 98 5 v0 ((rowS (fun k => gm b r (k - i)) i (i + j) (i + y)).map QT)]) 0 (Nat.zero_le _)
    (aQ rfl (aQ rfl (aQ rfl (aQ rfl (aQ rfl aX))))) (aU (fun _ _ _ h=>h) (aU (rowO_of (by rw [rowS_start (fun k=>gm b r (k - i)) i]; rfl)) aY)) (fun j hj2=>?_)
   refine cK (ts (rm rfl (rm rfl (ro rfl (dG U_32 (Ht rfl) (by rw [List.length_map,hbl])) ?_))))
   refine ro rfl (gX (Ht rfl) (Ht rfl)) (eX (dQ (Ht rfl) (fun he2=>?_) (fun he2=>?_)))
   ·have hen : j < y := by simp only [decide_eq_true_eq] at he2; omega
    have hnx:=rowS_next (f:=(fun k=>gm b r (k - i))) (lo:=i) (hi:=i + j) (n:=i + y) (by omega)
    simp only [Nat.add_sub_cancel_left] at hnx
    refine cU (cK (eG (fZ (m:=18) (dp 5 rfl (cX (Ht rfl)) (dp 0 rfl (cX (Ht rfl)) (dq 59 1 rfl (dG U_32 (Ht rfl) (by rw [List.length_map,hal])) ?_))))))
    refine dp 8 rfl (cX (Ht rfl)) (dqq 60 2 61 3 rfl (dV (Ht rfl) (Ht rfl) (by show _ < 9223372036854775808; first | omega | (simp only [lim]; omega))) (dqq 58 0 62 4 rfl (fY U_32 Z_31 (Ht rfl) (Ht rfl) rfl (by omega) (by rw [Nat.mul_one,Nat.zero_add])) ?_))
    refine dq 63 5 rfl (op_ldH A_31 Z_31 (Ht rfl) (j:=0) rfl) (dp 0 rfl (cX (Ht rfl)) (dq 65 7 rfl (dG U_32 (Ht rfl) (by rw [List.length_map,hal])) ?_))
    refine dp 9 rfl (cX (Ht rfl)) (dqq 66 8 67 9 rfl (dV (Ht rfl) (Ht rfl) (by show _ < 9223372036854775808; first | omega | (simp only [lim]; omega))) (dp 1 rfl (cX (Ht rfl)) (dp 8 rfl (cX (Ht rfl)) (dqq 69 11 70 12 rfl (dZ U_32 Z_31 (Ht rfl) (Ht rfl) rfl (dY (dU (d:=[]) (by omega)))) (dq 71 13 rfl (dJ A_31 Z_31 (Ht rfl)) (dp 9 rfl (cX (Ht rfl)) (dqq 72 14 73 15 rfl (dZ U_31 Z_98 (Ht rfl) (Ht rfl) rfl (dY (dU (d:=Qi.zero) (by omega)))) (dq 74 16 rfl (dJ A_98 Z_98 (Ht rfl)) ?_))))))))
    refine fV mixed rfl (by kernel_rfl) (aJ (aJ (aJ (aJ (aJ (aJ (aJ (aJ (aJ (aJ (aJ (aJ (aJ (aJ (aJ (aJ (aJ (aJ (aV (ro rfl (op_idxO U_31 Z_98 (Ht rfl) (Ht rfl) rfl (i:=1) rfl (by rw [List.length_map,rowS_len]; omega) rfl) ?_))))))))))))))))))))
    refine R_stO Z_98 (Ht rfl) (Ht rfl) (El.ag rfl) (i:=1) rfl rfl (by rw [List.length_map,rowS_len]; omega) rfl ?_
    refine eX (T_blk (cY (rm rfl (ro rfl (dV (Ht rfl) (cJ 1) (by show _ < 9223372036854775808; first | omega | (simp only [lim]; omega))) (ra rfl (eX (fU (j + 1) hen (by omega) (aQ rfl (aQ rfl (aQ rfl (aQ rfl (aQ rfl aX))))) (aU (fun _ _ _ h=>h) (aU (rowO_of (by rw [set_mapF]; exact congrArg _ hnx)) aY)))))))))
   ·have hjx : j = y := by simp only [decide_eq_false_iff_not] at he2; omega
    subst hjx
    rw [rowS_snd (a:=a) (b:=b)]
    refine gV rfl (T_blk (T_unfocus 0 1 rfl rfl (by decide) (by simp only [FRow,List.length_map,mix_len]; omega) ?_))
    refine cY (rm rfl (ro rfl (dV (Ht rfl) (cJ 1) (by show _ < 9223372036854775808; first | omega | (simp only [lim]; omega))) (ra rfl (eX (T_keep [0] rfl (by decide) (fU (r + 1) hrn (by omega) (aQ rfl (aQ rfl (aQ rfl (aQ rfl aX)))) (aU (matO_of (by rw [set_FRow,mix_set (f:=sidR a b i j)]; rfl)) aY)))))))
  ·have hry : r = y := by simp only [decide_eq_false_iff_not] at hd2; omega
   subst hry
   rw [mix_fin]
   refine gV rfl (gJ (i:=0) (tt:=5) rfl rfl (frz_matF (s:=5) (M:=sidM a b i r) (tab_len _ _).symm) (ts (rm rfl (ra rfl (eX ?_)))))
   exact fW rfl (eU rfl)
theorem c_rindex {l:List Nat} {x:Nat} (hl:l.length ≤ 1000):Fun Tryz.prog 229 [IntsT l,NT .i64 x] (IntT .i64 (ixE l x)):=by
 refine Fun.intro Tryz.func229 rfl Tryz.ntmps229 rfl (fun cx=>(ts (ro rfl (cQ (cJ 0)) (eX (cK (ts (ro rfl (cQ (cJ 0)) (eX (eG ?_)))))))))
 refine T_loop (fun (i : Nat) => i ≤ l.length ∧ ixE l x = ixG l x (l.length - i)) (fun (i : Nat) => l.length - i) (fun (i : Nat) => [(0, IntsT l), (1, NT .i64 x), (5, NT .i64 i)]) (fun (i : Nat) => []) 0 ⟨Nat.zero_le _, rfl⟩
  (aQ rfl (aQ rfl (aQ rfl aX))) aY (fun i ⟨hi,hx⟩=>?_)
 refine cK (ts (rm rfl (rm rfl (ro rfl (dG U_69 (Ht rfl) len_map) (ro rfl (gX (Ht rfl) (Ht rfl)) (eX (dQ (Ht rfl) (fun hc=>?_) (fun hc=>?_))))))))
 ·have hin : i < l.length := by simp only [decide_eq_true_eq] at hc; omega
  have hst : ixG l x (l.length - i) = if l.getD i 0 = x then (i : Int) else ixG l x (l.length - (i + 1)) := by
   rw [show l.length - i = (l.length - (i + 1)) + 1 by omega,ixG,show l.length - (l.length - (i + 1) + 1) = i by omega]
  rw [hst] at hx
  refine cU (cK (eG (ts (rm rfl (rm rfl (ro rfl (dZ U_69 Z_3 (Ht rfl) (Ht rfl) rfl (dY (dU (d:=0) hin))) (ro rfl (dJ A_3 Z_3 (Ht rfl)) (rm rfl (ro rfl (op_eqlN (Ht rfl) (Ht rfl)) (eX (dQ (Ht rfl) (fun he=>?_) (fun he=>?_))))))))))))
  ·have he2 : l.getD i 0 = x := by simp only [decide_eq_true_eq] at he; omega
   rw [if_pos he2] at hx
   refine ts (rm rfl (ra rfl (eX (fW rfl (fX (eU rfl) ?_)))))
   exact (int_of hx.symm)
  ·have he2 : ¬ l.getD i 0 = x := by simp only [decide_eq_false_iff_not] at he; omega
   rw [if_neg he2] at hx
   refine cU (T_blk (cY (rm rfl (ro rfl (dV (Ht rfl) (cJ 1) (by show _ < 9223372036854775808; first | omega | (simp only [lim]; omega))) (ra rfl (eX (fU (i + 1) ⟨hin,hx⟩ (by omega) (aQ rfl (aQ rfl (aQ rfl aX))) aY)))))))
 ·have hin : l.length - i = 0 := by simp only [decide_eq_false_iff_not] at hc; omega
  rw [hin] at hx
  refine gV rfl (ts (ro rfl (cQ cV) (eX (fW rfl (fX (eU rfl) ?_)))))
  exact (int_of hx.symm)
end
section
open Go Go.RowKit
theorem idM_rdl (n : Nat) : idM n = tab n fun x => tab n fun y => rdl x y := mat_ext (idM_shp n) Shp.tab fun i hi j hj => by
 rw [unit_gm hi hj,gm_tab hi hj]; rfl
theorem unit_set {m x:Nat} (h:x < m):((tab m fun _=>QT Qi.zero).set x (QT (Qi.ofInt 1))) = (ek m x).map QT:=by
 rw [show ek m x = unitR m x by simp [ek,idM,List.getD,tab_get h],unitR,← set_mapF,tab_map]
theorem c_gains {z : List Qi} {S : List (List Qi)} {js : List (Int × Int)} {L G : Nat} (hS : Shp S z.length z.length) (hf : FitM S L) (hL : 1 ≤ L) (hLb : L ≤ 1000) (hz : z.length ≤ 9) (hd : jdE z js = 0) (hjl : 2 * js.length ≤ 8)
    (hk:∀ b,slvE (jnM S (jps js) (2 * js.length)) b (2 * js.length) = 0) (hv:∀ x,FitL (gnV S js x) G) (hG:1 ≤ G) (hGb:G ≤ 1000000) (hg:6 * grow (L + 2) (2 * js.length) + 4 ≤ 17592186044415):Fun Tryz.prog 147 [RNetT z S,JsT js] (TupT [QM (gnP S js z.length),BoolT true]):=by
 have hp:=jd_prt hd
 have hj:=jn_of hd
 have hPl:(jnP js).length = 2 * js.length:=tab_len _ _
 have hOl:(jnO js).length = 2 * js.length:=tab_len _ _
 have hSl:=hS.1
 have hms:=jnM_shp S (jps js) (2 * js.length)
 have hmf:=jnM_fit (ps:=jps js) (m:=2 * js.length) hf hL
 refine Fun.intro Tryz.func147 rfl Tryz.ntmps147 rfl (fun cx=>(ts (rn rfl (fG (Ht rfl)) fun B2=>(ro rfl (cQ cV) (ro rfl (cQ cV) (eX (ts (ro rfl (cQ cV) (ro rfl (cQ cV) (eX (cK (cK (T_row 3 1 (T_row 3 1 (cY (ro rfl (cQ (cJ 0)) (eX (eG ?_))))))))))))))))))
 refine T_loop3 (fun (k : Nat) (vL : Value) (vO : Value) => k ≤ js.length) (fun (k : Nat) (vL : Value) (vO : Value) => js.length - k) (fun (k : Nat) (vL : Value) (vO : Value) => [(1, JsT js), (2, PtrB B2 0), (6, Is vL), (7, Is vO), (8, NT .i64 k)]) (fun (k : Nat) (vL : Value) (vO : Value) => [box B2 34 [QsT z, QM S], rowO 3 1 vL ((tab (2 * k) (gq (jps js))).map (NT .i64)), rowO 3 1 vO ((tab (2 * k) (fun x => gq (jps js) (prt x))).map (NT .i64))]) 0 _ _ (Nat.zero_le _)
  (aQ rfl (aQ rfl (aQ rfl (aQ rfl (aQ rfl aX))))) (aU (box_of rfl) (aU (rowO_of rfl) (aU (rowO_of rfl) aY))) (fun k vL vO hk0=>?_)
 refine cK (ts (rm rfl (rm rfl (ro rfl (dG U_59 (Ht rfl) len_map) (ro rfl (gX (Ht rfl) (Ht rfl)) (eX (dQ (Ht rfl) (fun hc=>?_) (fun hc=>?_))))))))
 ·have hkn : k < js.length := by simp only [decide_eq_true_eq] at hc; omega
  obtain ⟨i1,i2,i3,i4,i5,i6⟩:=jp_int hp hkn
  obtain ⟨o1,o2⟩:=prt_two k
  have ht1:=tab_len (2 * k) (gq (jps js))
  have ht2:=tab_len (2 * k) (fun x=>gq (jps js) (prt x))
  refine cU (cK (eG (cK (fZ (m:=14) (dp 6 rfl (cX (Ht rfl)) (dp 1 rfl (cX (Ht rfl)) (dp 8 rfl (cX (Ht rfl)) (dqq 30 1 31 2 rfl (dZ U_59 Z_120 (Ht rfl) (Ht rfl) rfl (dY (dU (d:=(0,0)) hkn))) (dq 32 3 rfl (op_idxA U_120 Z_3 (Ht rfl) cV rfl (by decide) rfl) (dq 33 4 rfl (dJ A_3 Z_3 (Ht rfl)) (dq 34 5 rfl (op_sub (Ht rfl) cV (r:=((gq (jps js) (2 * k):Nat):Int)) ((w64 (z:=(jat js k).1 - 1) (by omega)).trans (by omega))) ?_)))))))))))
  refine dp 1 rfl (cX (Ht rfl)) (dp 8 rfl (cX (Ht rfl)) (dqq 36 7 37 8 rfl (dZ U_59 Z_120 (Ht rfl) (Ht rfl) rfl (dY (dU (d:=(0,0)) hkn))) (dq 38 9 rfl (op_idxA U_120 Z_3 (Ht rfl) cV rfl (by decide) rfl) (dq 39 10 rfl (dJ A_3 Z_3 (Ht rfl)) (dq 40 11 rfl (op_sub (Ht rfl) cV (r:=((gq (jps js) (2 * k + 1):Nat):Int)) ((w64 (z:=(jat js k).2 - 1) (by omega)).trans (by omega))) ?_)))))
  refine dqq 35 6 41 12 rfl (op_bslice (xs:=[.tmp 35,.tmp 41]) U_69 Z_3 O_3 (cW (Ht rfl) (cW (Ht rfl) cG)) rfl rfl rfl) (fV mixed rfl (by kernel_rfl) (aJ (aJ (aJ (aJ (aJ (aJ (aJ (aJ (aJ (aJ (aJ (aJ (aJ (aJ (aV (R_append (inf:=Tryz.t3) und_69 info_3 rfl rfl rfl (Ht rfl) (Ht rfl) (i:=1) rfl (by simp) (fun T hT=>by simp at hT; rcases hT with rfl | rfl <;> exact El.one) (by show _ * 8 ≤ _; simp only [List.length_map,List.length_append,List.length_cons,List.length_nil,tab_len]; omega) (by simp only [List.length_map,List.length_append,List.length_cons,List.length_nil,tab_len]; omega) rfl (fun v2=>?_))))))))))))))))))
  refine ra rfl (eX (T_conv 1 rfl (rowO_of (e:=3) (s:=1) (by rw [tab_two,List.map_append]; rfl:_ = (tab (2 * (k + 1)) (gq (jps js))).map (NT .i64))) ?_))
  refine fZ (m:=14) (dp 7 rfl (cX (Ht rfl)) (dp 1 rfl (cX (Ht rfl)) (dp 8 rfl (cX (Ht rfl)) (dqq 45 1 46 2 rfl (dZ U_59 Z_120 (Ht rfl) (Ht rfl) rfl (dY (dU (d:=(0,0)) hkn))) (dq 47 3 rfl (op_idxA U_120 Z_3 (Ht rfl) cV rfl (by decide) rfl) (dq 48 4 rfl (dJ A_3 Z_3 (Ht rfl)) (dq 49 5 rfl (op_sub (Ht rfl) cV (r:=((gq (jps js) (2 * k + 1):Nat):Int)) ((w64 (z:=(jat js k).2 - 1) (by omega)).trans (by omega))) ?_)))))))
  refine dp 1 rfl (cX (Ht rfl)) (dp 8 rfl (cX (Ht rfl)) (dqq 51 7 52 8 rfl (dZ U_59 Z_120 (Ht rfl) (Ht rfl) rfl (dY (dU (d:=(0,0)) hkn))) (dq 53 9 rfl (op_idxA U_120 Z_3 (Ht rfl) cV rfl (by decide) rfl) (dq 54 10 rfl (dJ A_3 Z_3 (Ht rfl)) (dq 55 11 rfl (op_sub (Ht rfl) cV (r:=((gq (jps js) (2 * k):Nat):Int)) ((w64 (z:=(jat js k).1 - 1) (by omega)).trans (by omega))) ?_)))))
  refine dqq 50 6 56 12 rfl (op_bslice (xs:=[.tmp 50,.tmp 56]) U_69 Z_3 O_3 (cW (Ht rfl) (cW (Ht rfl) cG)) rfl rfl rfl) (fV mixed rfl (by kernel_rfl) (aJ (aJ (aJ (aJ (aJ (aJ (aJ (aJ (aJ (aJ (aJ (aJ (aJ (aJ (aV (R_append (inf:=Tryz.t3) und_69 info_3 rfl rfl rfl (Ht rfl) (Ht rfl) (i:=2) rfl (by simp) (fun T hT=>by simp at hT; rcases hT with rfl | rfl <;> exact El.one) (by show _ * 8 ≤ _; simp only [List.length_map,List.length_append,List.length_cons,List.length_nil,tab_len]; omega) (by simp only [List.length_map,List.length_append,List.length_cons,List.length_nil,tab_len]; omega) rfl (fun v3=>?_))))))))))))))))))
  refine ra rfl (eX (T_blk (cY (rm rfl (ro rfl (dV (Ht rfl) (cJ 1) (by show _ < 9223372036854775808; first | omega | (simp only [lim]; omega))) (ra rfl (eX (fU (k + 1,v2,v3) hkn (by dsimp only; omega) (aQ rfl (aQ rfl (aQ rfl (aQ rfl (aQ rfl aX))))) (aU (box_of rfl) (aU (fun _ _ _ h=>h) (aU (rowO_of (by rw [tab_two,List.map_append,o1,o2]; rfl)) aY)))))))))))
 ·obtain rfl : k = js.length := by simp only [decide_eq_false_iff_not] at hc; omega
  refine gJ (i:=1) (tt:=6) rfl rfl frz_row (gJ (i:=2) (tt:=7) rfl rfl frz_row (T_sub (E':=[(1,_),(2,_),(6,_),(7,_),(8,_),(23,_),(24,_),(25,_),(26,_)]) (aQ rfl (aQ rfl (aZ rfl (slT_of (Us:=(jnP js).map (NT .i64)) rfl) (aZ rfl (slT_of (Us:=(jnO js).map (NT .i64)) rfl) (aQ rfl (aQ rfl (aQ rfl (aQ rfl (aQ rfl aX))))))))) (gV rfl (ts (rm rfl (ro rfl (dG U_69 (Ht rfl) (by rw [List.length_map,hPl])) ?_))))))
  refine R_call0 Tryz.call213 (c_rIdO (n:=2 * js.length) (by omega)) ⟨(Ht rfl),trivial⟩ rfl (fun B61 _=>(ra rfl (eX (cK (ts (ro rfl (cQ (cJ 0)) (eX (eG (T_keep [0,3] rfl (by decide) ?_)))))))))
  refine T_loop (fun (x : Nat) => x ≤ (2 * js.length)) (fun (x : Nat) => (2 * js.length) - x) (fun (x : Nat) => [(2, PtrB B2 0), (6, IntsT (jnP js)), (7, IntsT (jnO js)), (9, Is (.slice (some ⟨B61, 0, none⟩) (2 * js.length) (2 * js.length))), (10, NT .i64 x)]) (fun (x : Nat) => [box B2 34 [QsT z, QM S], matP exactH B61 31 98 5 (FRow QT (mixG (fun x => tab (2 * js.length) (fun y => rdl x y - gm S (gq (jps js) (prt x)) (gq (jps js) y))) (fun x => tab (2 * js.length) (fun y => rdl x y)) (2 * js.length) x))]) 0 (Nat.zero_le _)
   (aQ rfl (aQ rfl (aQ rfl (aQ rfl (aQ rfl aX))))) (aU (box_of rfl) (aU (matO_of (by rw [← mixG_zero,idM_rdl])) aY)) (fun x hx=>?_)
  refine cK (ts (rm rfl (rm rfl (ro rfl (dG U_69 (Ht rfl) (by rw [List.length_map,hPl])) ?_))))
  refine ro rfl (gX (Ht rfl) (Ht rfl)) (eX (dQ (Ht rfl) (fun hc=>?_) (fun hc=>?_)))
  ·have hxn : x < 2 * js.length := by simp only [decide_eq_true_eq] at hc; omega
   have hb1:=hj.lt (prt x) (prt_lt hxn)
   have hsr:=hS.row hb1
   refine T_focusE 1 (x) rfl (frow_mixG hxn) (fun v0 hv0=>(cU (cK (eG (ts (ro rfl (cQ (cJ 0)) (eX (eG ?_))))))))
   refine T_loop (fun (y : Nat) => y ≤ (2 * js.length)) (fun (y : Nat) => (2 * js.length) - y) (fun (y : Nat) => [(2, PtrB B2 0), (6, IntsT (jnP js)), (7, IntsT (jnO js)), (9, Is (.slice (some ⟨B61, 0, none⟩) (2 * js.length) (2 * js.length))), (10, NT .i64 x), (11, NT .i64 y)]) (fun (y : Nat) => [box B2 34 [QsT z, QM S], matQ exactH B61 31 98 5 (FRow QT (mixG (fun x => tab (2 * js.length) (fun y => rdl x y - gm S (gq (jps js) (prt x)) (gq (jps js) y))) (fun x => tab (2 * js.length) (fun y => rdl x y)) (2 * js.length) x)) x v0, rowO 98 5 v0 ((mixG (fun y => rdl x y - gm S (gq (jps js) (prt x)) (gq (jps js) y)) (fun y => rdl x y) (2 * js.length) y).map QT)]) 0 (Nat.zero_le _)
    (aQ rfl (aQ rfl (aQ rfl (aQ rfl (aQ rfl (aQ rfl aX)))))) (aU (box_of rfl) (aU (fun _ _ _ h=>h) (aU (rowO_of (by rw [← mixG_zero])) aY))) (fun y hy=>?_)
   refine cK (ts (rm rfl (rm rfl (ro rfl (dG U_69 (Ht rfl) (by rw [List.length_map,hPl])) ?_))))
   refine ro rfl (gX (Ht rfl) (Ht rfl)) (eX (dQ (Ht rfl) (fun hd2=>?_) (fun hd2=>?_)))
   ·have hyn : y < 2 * js.length := by simp only [decide_eq_true_eq] at hd2; omega
    have hb2:=hj.lt y hyn
    have hrl:=mixG_len (fun y=>rdl x y - gm S (gq (jps js) (prt x)) (gq (jps js) y)) (fun y=>rdl x y) (2 * js.length) y
    haveI g1:=rdl_fit x y
    haveI g2:FitC (gm S (gq (jps js) (prt x)) (gq (jps js) y)) L:=hf.get hL _ _
    refine cU (cK (eG (fZ (m:=27) (dp 9 rfl (cX (Ht rfl)) (dp 10 rfl (cX (Ht rfl)) (dqq 74 0 75 1 rfl (fY U_32 Z_31 (Ht rfl) (Ht rfl) rfl (by omega) (by rw [Nat.mul_one,Nat.zero_add])) ?_))))))
    refine dq 76 2 rfl (op_ldH A_31 Z_31 (Ht rfl) (j:=1) rfl) (dp 11 rfl (cX (Ht rfl)) (dp 9 rfl (cX (Ht rfl)) (dp 10 rfl (cX (Ht rfl)) (dqq 79 5 80 6 rfl (fY U_32 Z_31 (Ht rfl) (Ht rfl) rfl (by omega) (by rw [Nat.mul_one,Nat.zero_add])) ?_))))
    refine dq 81 7 rfl (op_ldH A_31 Z_31 (Ht rfl) (j:=1) rfl) (dp 11 rfl (cX (Ht rfl)) (dqq 82 8 83 9 rfl (op_idxO U_31 Z_98 (Ht rfl) (Ht rfl) rfl (i:=2) rfl (by rw [List.length_map,hrl]; exact hyn) rfl) ?_))
    refine dq 84 10 rfl (op_ldO A_98 Z_98 (Ht rfl) (i:=2) rfl rfl (dY (mixG_get hyn))) (dp 2 rfl (eZ fa_34_1 (Ht rfl) rfl) (dq 86 12 rfl (eY A_32 Z_32 (Ht rfl) (i:=0) rfl rfl) (dp 7 rfl (cX (Ht rfl)) (dp 10 rfl (cX (Ht rfl)) (dqq 88 14 89 15 rfl (dZ U_69 Z_3 (Ht rfl) (Ht rfl) rfl (dY (show (jnO js)[x]? = some (gq (jps js) (prt x)) from tab_get hxn))) (dq 90 16 rfl (dJ A_3 Z_3 (Ht rfl)) (dqq 87 13 91 17 rfl (dZ U_32 Z_31 (Ht rfl) (Ht rfl) rfl (dY (dU (d:=[]) (by omega)))) ?_)))))))
    refine dq 92 18 rfl (dJ A_31 Z_31 (Ht rfl)) (dp 6 rfl (cX (Ht rfl)) (dp 11 rfl (cX (Ht rfl)) (dqq 94 20 95 21 rfl (dZ U_69 Z_3 (Ht rfl) (Ht rfl) rfl (dY (show (jnP js)[y]? = some (gq (jps js) y) from tab_get hyn))) (dq 96 22 rfl (dJ A_3 Z_3 (Ht rfl)) (dqq 93 19 97 23 rfl (dZ U_31 Z_98 (Ht rfl) (Ht rfl) rfl (dY (dU (d:=Qi.zero) (by omega)))) (dq 98 24 rfl (dJ A_98 Z_98 (Ht rfl)) (dqq 85 11 99 25 rfl (cZ Tryz.call158 (c_rSub (x:=rdl x y) (y:=gm S (gq (jps js) (prt x)) (gq (jps js) y)) (L:=1) (M:=L) (by omega)) ⟨(Ht rfl),(Ht rfl),trivial⟩) ?_)))))))
    refine fV mixed rfl (by kernel_rfl) (aJ (aJ (aJ (aJ (aJ (aJ (aJ (aJ (aJ (aJ (aJ (aJ (aJ (aJ (aJ (aJ (aJ (aJ (aJ (aJ (aJ (aJ (aJ (aJ (aJ (aJ (aJ (aV (ro rfl (op_idxO U_31 Z_98 (Ht rfl) (Ht rfl) rfl (i:=2) rfl (by rw [List.length_map,hrl]; exact hyn) rfl) ?_)))))))))))))))))))))))))))))
    refine R_stO Z_98 (Ht rfl) (Ht rfl) (El.ag rfl) (i:=2) rfl rfl (by rw [List.length_map,hrl]; exact hyn) rfl ?_
    refine eX (T_blk (cY (rm rfl (ro rfl (dV (Ht rfl) (cJ 1) (by show _ < 9223372036854775808; first | omega | (simp only [lim]; omega))) (ra rfl (eX (T_keep [0,1,2] rfl (by decide) (fU (y + 1) hyn (by omega) (aQ rfl (aQ rfl (aQ rfl (aQ rfl (aQ rfl (aQ rfl aX)))))) (aU (box_of rfl) (aU (fun _ _ _ h=>h) (aU (rowO_of (by rw [set_mapF]; exact congrArg _ (mixG_set (f:=(fun y=>rdl x y - gm S (gq (jps js) (prt x)) (gq (jps js) y)))))) aY)))))))))))
   ·have hyn : y = 2 * js.length := by simp only [decide_eq_false_iff_not] at hd2; omega
    rw [hyn,mixG_fin]
    refine gV rfl (T_blk (T_unfocus 1 2 rfl rfl (by decide) (by simp only [FRow,List.length_map,mixG_len]; omega) ?_))
    refine cY (rm rfl (ro rfl (dV (Ht rfl) (cJ 1) (by show _ < 9223372036854775808; first | omega | (simp only [lim]; omega))) (ra rfl (eX (T_keep [0,1] rfl (by decide) (fU (x + 1) hxn (by omega) (aQ rfl (aQ rfl (aQ rfl (aQ rfl (aQ rfl aX))))) (aU (box_of rfl) (aU (matO_of (by rw [set_FRow]; exact congrArg _ (mixG_set (f:=(fun x=>tab (2 * js.length) (fun y=>rdl x y - gm S (gq (jps js) (prt x)) (gq (jps js) y))))))) aY))))))))
  ·have hxn : x = 2 * js.length := by simp only [decide_eq_false_iff_not] at hc; omega
   rw [hxn,mixG_fin,show tab (2 * js.length) (fun x=>tab (2 * js.length) (fun y=>rdl x y - gm S (gq (jps js) (prt x)) (gq (jps js) y))) = jnM S (jps js) (2 * js.length) from rfl]
   refine gV rfl (gJ (i:=1) (tt:=9) rfl rfl (frz_matF (s:=5) (M:=jnM S (jps js) (2 * js.length)) hms.1.symm) (ts (ro rfl (cQ cV) (eX (cK (cK (T_keep [0] rfl (by decide) (T_row 31 1 (cY (ro rfl (cQ (cJ 0)) (eX (eG ?_))))))))))))
   refine T_loop2 (fun (i : Nat) (vR : Value) => i ≤ z.length) (fun (i : Nat) (vR : Value) => z.length - i) (fun (i : Nat) (vR : Value) => [(2, PtrB B2 0), (6, IntsT (jnP js)), (7, IntsT (jnO js)), (9, QM (jnM S (jps js) (2 * js.length))), (12, Is vR), (13, NT .i64 i)]) (fun (i : Nat) (vR : Value) => [box B2 34 [QsT z, QM S], rowO 31 1 vR (((lfG (jnL js) i).map (fun i => tab z.length fun k => gnE S js i k)).map QsT)]) 0 _ (Nat.zero_le _)
    (aQ rfl (aQ rfl (aQ rfl (aQ rfl (aQ rfl (aQ rfl aX)))))) (aU (box_of rfl) (aU (rowO_of rfl) aY)) (fun i vR hi=>?_)
   refine cK (ts (rm rfl (ro rfl (eZ fa_34_0 (Ht rfl) rfl) (ro rfl (eY A_31 Z_31 (Ht rfl) (i:=0) rfl rfl) (ro rfl (dG U_31 (Ht rfl) len_map) (ro rfl (gX (Ht rfl) (Ht rfl)) (eX (dQ (Ht rfl) (fun hc=>?_) (fun hc=>?_)))))))))
   ·have hin : i < z.length := by simp only [decide_eq_true_eq] at hc; omega
    have hfl:=lfG_len (jnL js) i
    have hsi:=hS.row hin
    refine cU (cK (eG (cK (ts (rm rfl (rm rfl (ro rfl (cZ Tryz.call229 (c_rindex (l:=jnP js) (x:=i) (by omega)) ⟨(Ht rfl),(Ht rfl),trivial⟩) (ro rfl (op_geq (Ht rfl) cV) (eX (dQ (Ht rfl) (fun hx=>?_) (fun hx=>?_)))))))))))
    ·have hmem : i ∈ jnL js := by rw [← jnP_L]; exact ixE_mem.1 (by simpa using hx)
     have hnx:lfG (jnL js) (i + 1) = lfG (jnL js) i:=by rw [lfG,if_pos hmem,List.append_nil]
     refine gV rfl (cY (rm rfl (ro rfl (dV (Ht rfl) (cJ 1) (by show _ < 9223372036854775808; first | omega | (simp only [lim]; omega))) (ra rfl (eX (fU (i + 1,vR) hin (by dsimp only; omega) (aQ rfl (aQ rfl (aQ rfl (aQ rfl (aQ rfl (aQ rfl aX)))))) (aU (box_of rfl) (aU (rowO_of (by rw [hnx])) aY))))))))
    ·have hmem : i ∉ jnL js := fun h => by
      have h2:=ixE_mem.2 (show i ∈ jnP js by rw [jnP_L]; exact h)
      simp at hx; omega
     have hnx:lfG (jnL js) (i + 1) = lfG (jnL js) i ++ [i]:=by rw [lfG,if_neg hmem]
     refine cU (ts (rn rfl (new_bslice0 U_31 Z_98 O_98) fun B113=>(ra rfl (eX (cK (ts (ro rfl (cQ (cJ 0)) (eX (eG ?_)))))))))
     refine T_loop2 (fun (k : Nat) (vQ : Value) => k ≤ z.length) (fun (k : Nat) (vQ : Value) => z.length - k) (fun (k : Nat) (vQ : Value) => [(2, PtrB B2 0), (6, IntsT (jnP js)), (7, IntsT (jnO js)), (9, QM (jnM S (jps js) (2 * js.length))), (12, Is vR), (13, NT .i64 i), (14, Is vQ), (15, NT .i64 k)]) (fun (k : Nat) (vQ : Value) => [box B2 34 [QsT z, QM S], rowO 31 1 vR (((lfG (jnL js) i).map (fun i => tab z.length fun k => gnE S js i k)).map QsT), rowO 98 5 vQ ((tab k fun k => gnE S js i k).map QT)]) 0 _ (Nat.zero_le _)
      (aQ rfl (aQ rfl (aQ rfl (aQ rfl (aQ rfl (aQ rfl (aQ rfl (aQ rfl aX)))))))) (aU (box_of rfl) (aU (fun _ _ _ h=>h) (aU (rowO_of rfl) aY))) (fun k vQ hk2=>?_)
     refine cK (ts (rm rfl (ro rfl (eZ fa_34_0 (Ht rfl) rfl) (ro rfl (eY A_31 Z_31 (Ht rfl) (i:=0) rfl rfl) (ro rfl (dG U_31 (Ht rfl) len_map) (ro rfl (gX (Ht rfl) (Ht rfl)) (eX (dQ (Ht rfl) (fun hd2=>?_) (fun hd2=>?_)))))))))
     ·have hkn : k < z.length := by simp only [decide_eq_true_eq] at hd2; omega
      have htl:=tab_len k fun k=>gnE S js i k
      refine cU (cK (eG (ts (ro rfl (cZ K_117 (c_rWhole (n:=0) (by decide) (by decide)) ⟨(cJ 0),trivial⟩) (rn rfl (eW (Ts:=[Is (.bool false),Is (.slice none 0 0),Is (.bool false),Is (.slice none 0 0),Is (.slice none 0 0)]) O_98 rfl (fun V=>aW ⟨rfl,trivial⟩ (aW ⟨rfl,trivial⟩ (aW ⟨rfl,trivial⟩ (aW ⟨rfl,trivial⟩ (aW ⟨rfl,trivial⟩ (aG))))))) fun B16=>(gQ Z_98 (Ht rfl) (Ht rfl) rfl (i:=3) rfl (aK rfl) rfl rfl (eX (cK (T_join (fun (q:Qi)=>q = gnB i k) (fun (q:Qi)=>[(2,PtrB B2 0),(6,IntsT (jnP js)),(7,IntsT (jnO js)),(9,QM (jnM S (jps js) (2 * js.length))),(12,Is vR),(13,NT .i64 i),(14,Is vQ),(15,NT .i64 k),(16,PtrB B16 0)]) (fun (q:Qi)=>[box B2 34 [QsT z,QM S],rowO 31 1 vR (((lfG (jnL js) i).map (fun i=>tab z.length fun k=>gnE S js i k)).map QsT),rowO 98 5 vQ ((tab k fun k=>gnE S js i k).map QT),box B16 98 [BoolT (decide (q.a < 0)),NatT q.a.natAbs,BoolT (decide (q.b < 0)),NatT q.b.natAbs,NatT q.den]]) ?_ (fun q hq=>?_))))))))))
      ·refine ts (rm rfl (rm rfl (ro rfl (op_eqlN (Ht rfl) (Ht rfl)) (eX (dQ (Ht rfl) (fun hki => ?_) (fun hki => ?_))))))
       ·have hki2 : k = i := by simpa using hki
        refine cY (ro rfl (cZ K_117 (c_rWhole (n:=1) (by decide) (by decide)) ⟨(cJ 1),trivial⟩) (gQ Z_98 (Ht rfl) (Ht rfl) rfl (i:=3) rfl (aK rfl) rfl rfl (eX (T_joined (Qi.ofInt 1) (by rw [gnB,if_pos hki2]) (aQ rfl (aQ rfl (aQ rfl (aQ rfl (aQ rfl (aQ rfl (aQ rfl (aQ rfl (aQ rfl aX))))))))) (aU (box_of rfl) (aU (fun _ _ _ h=>h) (aU (fun _ _ _ h=>h) (aU (box_of rfl) aY))))))))
       ·have hki2 : ¬ k = i := by simpa using hki
        refine cU (T_joined (Qi.ofInt 0) (by rw [gnB,if_neg hki2]) (aQ rfl (aQ rfl (aQ rfl (aQ rfl (aQ rfl (aQ rfl (aQ rfl (aQ rfl (aQ rfl aX))))))))) (aU (box_of rfl) (aU (fun _ _ _ h=>h) (aU (fun _ _ _ h=>h) (aU (box_of rfl) aY)))))
      ·subst hq
       refine cK (ts (rm rfl (rm rfl (ro rfl (cZ Tryz.call229 (c_rindex (l:=jnO js) (x:=k) (by omega)) ⟨(Ht rfl),(Ht rfl),trivial⟩) (ra rfl (eX (T_join (fun (q:Qi)=>q = gnE S js i k) (fun (q:Qi)=>[(2,PtrB B2 0),(6,IntsT (jnP js)),(7,IntsT (jnO js)),(9,QM (jnM S (jps js) (2 * js.length))),(12,Is vR),(13,NT .i64 i),(14,Is vQ),(15,NT .i64 k),(16,PtrB B16 0)]) (fun (q:Qi)=>[box B2 34 [QsT z,QM S],rowO 31 1 vR (((lfG (jnL js) i).map (fun i=>tab z.length fun k=>gnE S js i k)).map QsT),rowO 98 5 vQ ((tab k fun k=>gnE S js i k).map QT),box B16 98 [BoolT (decide (q.a < 0)),NatT q.a.natAbs,BoolT (decide (q.b < 0)),NatT q.b.natAbs,NatT q.den]]) ?_ (fun q hq2=>?_))))))))
       ·refine ts (rm rfl (ro rfl (op_geq (Ht rfl) cV) (eX (dQ (Ht rfl) (fun hix => ?_) (fun hix => ?_)))))
        ·have h0 : 0 ≤ ixE (jnO js) k := by simpa using hix
         obtain ⟨x,hx2⟩:∃ x:Nat,ixE (jnO js) k = (x:Int):=⟨(ixE (jnO js) k).toNat,by omega⟩
         have hxm : x < 2 * js.length := by
          rcases ixE_b (jnO js) k with q | ⟨_,q,_⟩
          ·omega
          ·omega
         have hgn:gnE S js i k = (gnB i k + sumN (2 * js.length) fun y=>gm S i (gq (jps js) y) * gv (gnV S js x) y):=by rw [gnE,if_pos h0,hx2]; rfl
         have hekl:(ek (2 * js.length) x).length = 2 * js.length:=by rw [show ek (2 * js.length) x = unitR (2 * js.length) x by simp [ek,idM,List.getD,tab_get hxm]]; exact unitR_len _ _
         have hsv : Fun Tryz.prog 230 [QM (jnM S (jps js) (2 * js.length)), QsT (ek (2 * js.length) x)] (TupT [QsT (gnV S js x), IntT .i64 0]) := by
          have h:=c_rSolve (M:=jnM S (jps js) (2 * js.length)) (b:=ek (2 * js.length) x) (n:=2 * js.length) (L:=L + 2) hms hekl hmf (ek_fit (by omega)) (by omega) (by omega) (by omega) hg
          obtain ⟨q1,q2⟩:=slv_gj (b:=ek (2 * js.length) x) hms
          rw [← q1,← q2 (hk _),hk] at h
          exact h
         have hvx:=hv x
         rw [hx2]
         refine ts (rm rfl (ro rfl (dG U_69 (Ht rfl) (by rw [List.length_map,hPl])) ?_))
         refine rn rfl (new_makeO (T:=ZQ) (i:=Tryz.t98) und_31 info_98 rfl rfl (Ht rfl) rfl zq_p (El.ag rfl) (by show 88 * _ ≤ _; omega) (by omega)) fun B133=>ra rfl (eX (cK (ts (ro rfl (cQ (cJ 0)) (eX (eG ?_))))))
         refine T_loop2 (fun (t : Nat) (out : List Ty) => FillS (fun _ => QT Qi.zero) (2 * js.length) out t) (fun (t : Nat) (out : List Ty) => (2 * js.length) - t) (fun (t : Nat) (out : List Ty) => [(2, PtrB B2 0), (6, IntsT (jnP js)), (7, IntsT (jnO js)), (9, QM (jnM S (jps js) (2 * js.length))), (12, Is vR), (13, NT .i64 i), (14, Is vQ), (15, NT .i64 k), (16, PtrB B16 0), (17, NT .i64 x), (18, Is B133), (19, NT .i64 t)]) (fun (t : Nat) (out : List Ty) => [box B2 34 [QsT z, QM S], rowO 31 1 vR (((lfG (jnL js) i).map (fun i => tab z.length fun k => gnE S js i k)).map QsT), rowO 98 5 vQ ((tab k fun k => gnE S js i k).map QT), box B16 98 [BoolT (decide ((gnB i k).a < 0)), NatT (gnB i k).a.natAbs, BoolT (decide ((gnB i k).b < 0)), NatT (gnB i k).b.natAbs, NatT (gnB i k).den], rowO 98 5 B133 out]) 0 (List.replicate (2 * js.length) ZQ) (FillS.start _ _ _)
          (aQ rfl (aQ rfl (aQ rfl (aQ rfl (aQ rfl (aQ rfl (aQ rfl (aQ rfl (aQ rfl (aQ rfl (aQ rfl (aQ rfl aX)))))))))))) (aU (box_of rfl) (aU (fun _ _ _ h=>h) (aU (fun _ _ _ h=>h) (aU (box_of rfl) (aU (fun _ _ _ h=>h) aY))))) (fun t out hT=>?_)
         refine cK (ts (rm rfl (rm rfl (ro rfl (dG U_69 (Ht rfl) (by rw [List.length_map,hPl])) ?_))))
         refine ro rfl (gX (Ht rfl) (Ht rfl)) (eX (dQ (Ht rfl) (fun ht=>?_) (fun ht=>?_)))
         ·have htm : t < 2 * js.length := by simp only [decide_eq_true_eq] at ht; omega
          have hlen2:=hT.len
          refine cU (cK (eG (cY (rm rfl (rm rfl (ro rfl (cZ K_117 (c_rWhole (n:=0) (by decide) (by decide)) ⟨(cJ 0),trivial⟩) (ro rfl (op_idxO U_31 Z_98 (Ht rfl) (Ht rfl) rfl (i:=4) rfl (by omega) rfl) (R_stO Z_98 (Ht rfl) (Ht rfl) (El.ag rfl) (i:=4) rfl rfl (by omega) rfl (eX (T_blk (cY (rm rfl (ro rfl (dV (Ht rfl) (cJ 1) (by show _ < 9223372036854775808; first | omega | (simp only [lim]; omega))) (ra rfl (eX (fU (t + 1,_) (hT.next htm rfl) (by dsimp only; omega) (aQ rfl (aQ rfl (aQ rfl (aQ rfl (aQ rfl (aQ rfl (aQ rfl (aQ rfl (aQ rfl (aQ rfl (aQ rfl (aQ rfl aX)))))))))))) (aU (box_of rfl) (aU (fun _ _ _ h=>h) (aU (fun _ _ _ h=>h) (aU (box_of rfl) (aU (fun _ _ _ h=>h) aY)))))))))))))))))))))
         ·obtain rfl : t = 2 * js.length := by have := hT.kle; simp only [decide_eq_false_iff_not] at ht; omega
          have hfin:=hT.fin
          subst hfin
          have htl2:=tab_len (2 * js.length) fun _=>QT Qi.zero
          refine gV rfl (ts (rm rfl (rm rfl (ro rfl (cZ K_117 (c_rWhole (n:=1) (by decide) (by decide)) ⟨(cJ 1),trivial⟩) (ro rfl (op_idxO U_31 Z_98 (Ht rfl) (Ht rfl) rfl (i:=4) rfl (by rw [htl2]; exact hxm) rfl) ?_)))))
          refine R_stO Z_98 (Ht rfl) (Ht rfl) (El.ag rfl) (i:=4) rfl rfl (by rw [htl2]; exact hxm) rfl ?_
          refine eX (cK (T_conv 4 rfl (rowO_of (e:=98) (s:=5) (unit_set hxm)) (gJ (i:=4) (tt:=18) rfl rfl frz_row (cY (rm rfl (rm rfl (ro rfl (cZ Tryz.call230 hsv ⟨(Ht rfl),(Ht rfl),trivial⟩) (rm rfl (ro rfl (dK (Ht rfl) rfl) (ro rfl (dK (Ht rfl) rfl) (ra rfl (ra rfl (eX (cK (ts (rm rfl (ro rfl (op_neq (Ht rfl) cV) (eX (T_condF (Ht rfl) (by rfl) ?_)))))))))))))))))))
          refine cU (ts (ro rfl (cQ (cJ 0)) (eX (eG (T_keep [0,1,2,3] rfl (by decide) ?_)))))
          refine T_loop (fun (t : Nat) => t ≤ (2 * js.length)) (fun (t : Nat) => (2 * js.length) - t) (fun (t : Nat) => [(2, PtrB B2 0), (6, IntsT (jnP js)), (7, IntsT (jnO js)), (9, QM (jnM S (jps js) (2 * js.length))), (12, Is vR), (13, NT .i64 i), (14, Is vQ), (15, NT .i64 k), (16, PtrB B16 0), (20, QsT (gnV S js x)), (22, NT .i64 t)]) (fun (t : Nat) => [box B2 34 [QsT z, QM S], rowO 31 1 vR (((lfG (jnL js) i).map (fun i => tab z.length fun k => gnE S js i k)).map QsT), rowO 98 5 vQ ((tab k fun k => gnE S js i k).map QT), box B16 98 [BoolT (decide ((gnB i k + sumN t fun y => gm S i (gq (jps js) y) * gv (gnV S js x) y).a < 0)), NatT (gnB i k + sumN t fun y => gm S i (gq (jps js) y) * gv (gnV S js x) y).a.natAbs, BoolT (decide ((gnB i k + sumN t fun y => gm S i (gq (jps js) y) * gv (gnV S js x) y).b < 0)), NatT (gnB i k + sumN t fun y => gm S i (gq (jps js) y) * gv (gnV S js x) y).b.natAbs, NatT (gnB i k + sumN t fun y => gm S i (gq (jps js) y) * gv (gnV S js x) y).den]]) 0 (Nat.zero_le _)
           (aQ rfl (aQ rfl (aQ rfl (aQ rfl (aQ rfl (aQ rfl (aQ rfl (aQ rfl (aQ rfl (aQ rfl (aQ rfl aX))))))))))) (aU (box_of rfl) (aU (fun _ _ _ h=>h) (aU (fun _ _ _ h=>h) (aU (box_of (by rw [sumN,Qi.add_zero'])) aY)))) (fun t ht2=>?_)
          refine cK (ts (rm rfl (rm rfl (ro rfl (dG U_69 (Ht rfl) (by rw [List.length_map,hPl])) ?_))))
          refine ro rfl (gX (Ht rfl) (Ht rfl)) (eX (dQ (Ht rfl) (fun ht3=>?_) (fun ht3=>?_)))
          ·have htm : t < 2 * js.length := by simp only [decide_eq_true_eq] at ht3; omega
           have hb2:=hj.lt t htm
           have hvl:(gnV S js x).length = 2 * js.length:=slvX_len _ _ _
           haveI g1:FitC (gm S i (gq (jps js) t)) L:=hf.get hL _ _
           haveI g2:FitC (gv (gnV S js x) t) G:=hvx.get hG t
           haveI g3:=gnB_fit i k
           haveI g4:=gnS_fit (i:=i) (t:=t) (js:=js) hf hL hvx hG (by omega)
           haveI g5:FitC (gnB i k + sumN t fun y=>gm S i (gq (jps js) y) * gv (gnV S js x) y) (1 + (8 * (L + G) + 17) + 1):=fitAdd
           refine cU (cK (eG (fZ (m:=17) (dp 16 rfl (eJ A_98 Z_98 (Ht rfl) (i:=3) rfl rfl rfl) (dp 2 rfl (eZ fa_34_1 (Ht rfl) rfl) (dq 163 1 rfl (eY A_32 Z_32 (Ht rfl) (i:=0) rfl rfl) (dp 13 rfl (cX (Ht rfl)) (dqq 164 2 165 3 rfl (dZ U_32 Z_31 (Ht rfl) (Ht rfl) rfl (dY (dU (d:=[]) (by omega)))) (dq 166 4 rfl (dJ A_31 Z_31 (Ht rfl)) (dp 6 rfl (cX (Ht rfl)) (dp 22 rfl (cX (Ht rfl)) (dqq 168 6 169 7 rfl (dZ U_69 Z_3 (Ht rfl) (Ht rfl) rfl (dY (show (jnP js)[t]? = some (gq (jps js) t) from tab_get htm))) ?_))))))))))))
           refine dq 170 8 rfl (dJ A_3 Z_3 (Ht rfl)) (dqq 167 5 171 9 rfl (dZ U_31 Z_98 (Ht rfl) (Ht rfl) rfl (dY (dU (d:=Qi.zero) (by omega)))) (dq 172 10 rfl (dJ A_98 Z_98 (Ht rfl)) (dp 20 rfl (cX (Ht rfl)) (dp 22 rfl (cX (Ht rfl)) (dqq 174 12 175 13 rfl (dZ U_31 Z_98 (Ht rfl) (Ht rfl) rfl (dY (dU (d:=Qi.zero) (by omega)))) (dq 176 14 rfl (dJ A_98 Z_98 (Ht rfl)) (dqq 173 11 177 15 rfl (cZ K_99 (c_rMul (x:=gm S i (gq (jps js) t)) (y:=gv (gnV S js x) t) (L:=L) (M:=G) (by omega)) ⟨(Ht rfl),(Ht rfl),trivial⟩) ?_)))))))
           refine fV mixed rfl (by kernel_rfl) (aJ (aJ (aJ (aJ (aJ (aJ (aJ (aJ (aJ (aJ (aJ (aJ (aJ (aJ (aJ (aJ (aJ (aV (ro rfl (cZ Tryz.call159 (c_rAdd (x:=(gnB i k + sumN t fun y=>gm S i (gq (jps js) y) * gv (gnV S js x) y)) (y:=gm S i (gq (jps js) t) * gv (gnV S js x) t) (L:=1 + (8 * (L + G) + 17) + 1) (M:=L + G + 1) (by omega)) ⟨(Ht rfl),(Ht rfl),trivial⟩) (gQ Z_98 (Ht rfl) (Ht rfl) rfl (i:=3) rfl (aK rfl) rfl rfl (eX (T_blk (cY ?_)))))))))))))))))))))))
           refine rm rfl (ro rfl (dV (Ht rfl) (cJ 1) (by show _ < 9223372036854775808; first | omega | (simp only [lim]; omega))) (ra rfl (eX (T_keep [0,1,2,3] rfl (by decide) (fU (t + 1) htm (by omega) (aQ rfl (aQ rfl (aQ rfl (aQ rfl (aQ rfl (aQ rfl (aQ rfl (aQ rfl (aQ rfl (aQ rfl (aQ rfl aX))))))))))) (aU (box_of rfl) (aU (fun _ _ _ h=>h) (aU (fun _ _ _ h=>h) (aU (box_of (by rw [Qi.add_assoc']; rfl)) aY)))))))))
          ·obtain rfl : t = 2 * js.length := by simp only [decide_eq_false_iff_not] at ht3; omega
           refine gV rfl (T_joined (gnB i k + sumN (2 * js.length) fun y=>gm S i (gq (jps js) y) * gv (gnV S js x) y) (by rw [hgn]) (aQ rfl (aQ rfl (aQ rfl (aQ rfl (aQ rfl (aQ rfl (aQ rfl (aQ rfl (aQ rfl aX))))))))) (aU (box_of rfl) (aU (fun _ _ _ h=>h) (aU (fun _ _ _ h=>h) (aU (box_of rfl) aY)))))
        ·have h0 : ¬ 0 ≤ ixE (jnO js) k := by simpa using hix
         refine cU (T_joined (gnB i k) (by rw [gnE,if_neg h0]) (aQ rfl (aQ rfl (aQ rfl (aQ rfl (aQ rfl (aQ rfl (aQ rfl (aQ rfl (aQ rfl aX))))))))) (aU (box_of rfl) (aU (fun _ _ _ h=>h) (aU (fun _ _ _ h=>h) (aU (box_of rfl) aY)))))
       ·subst hq2
        refine cY (rm rfl (ro rfl (eJ A_98 Z_98 (Ht rfl) (i:=3) rfl rfl rfl) (ro rfl (op_bslice (xs:=[.tmp 181]) U_31 Z_98 O_98 (cW (Ht rfl) cG) rfl rfl rfl) (R_append (inf:=Tryz.t98) und_31 info_98 rfl rfl rfl (Ht rfl) (Ht rfl) (i:=2) rfl (by simp) (fun T hT=>by simp at hT; subst hT; exact El.ag rfl) (by show _ * 88 ≤ _; simp only [List.length_map,List.length_append,List.length_cons,List.length_nil,tab_len]; omega) (by simp only [List.length_map,List.length_append,List.length_cons,List.length_nil,tab_len]; omega) rfl (fun v5=>?_)))))
        refine ra rfl (eX (T_blk (cY (rm rfl (ro rfl (dV (Ht rfl) (cJ 1) (by show _ < 9223372036854775808; first | omega | (simp only [lim]; omega))) (ra rfl (eX (T_keep [0,1,2] rfl (by decide) (fU (k + 1,v5) hkn (by dsimp only; omega) (aQ rfl (aQ rfl (aQ rfl (aQ rfl (aQ rfl (aQ rfl (aQ rfl (aQ rfl aX)))))))) (aU (box_of rfl) (aU (fun _ _ _ h=>h) (aU (rowO_of (by rw [tab_succ,List.map_append]; rfl)) aY))))))))))))
     ·have hkz : k = z.length := by simp only [decide_eq_false_iff_not] at hd2; omega
      rw [hkz]
      refine gJ (i:=2) (tt:=14) rfl rfl frz_row (gV rfl (cY (rm rfl (rm rfl (ro rfl (op_bslice (xs:=[.tmp 185]) U_32 Z_31 O_31 (cW (Ht rfl) cG) rfl rfl rfl) (R_append (inf:=Tryz.t31) und_32 info_31 rfl rfl rfl (Ht rfl) (Ht rfl) (i:=1) rfl (by simp) (fun T hT=>by simp at hT; subst hT; exact El.one) (by show _ * 24 ≤ _; simp only [List.length_map,List.length_append,List.length_cons,List.length_nil,tab_len]; omega) (by simp only [List.length_map,List.length_append,List.length_cons,List.length_nil,tab_len]; omega) rfl (fun v6=>?_)))))))
      refine ra rfl (eX (T_blk (cY (rm rfl (ro rfl (dV (Ht rfl) (cJ 1) (by show _ < 9223372036854775808; first | omega | (simp only [lim]; omega))) (ra rfl (eX (T_keep [0,1] rfl (by decide) (fU (i + 1,v6) hin (by dsimp only; omega) (aQ rfl (aQ rfl (aQ rfl (aQ rfl (aQ rfl (aQ rfl aX)))))) (aU (box_of rfl) (aU (rowO_of (by rw [hnx,List.map_append,List.map_append]; rfl)) aY)))))))))))
   ·have hiz : i = z.length := by simp only [decide_eq_false_iff_not] at hc; omega
    rw [hiz]
    refine gV rfl (gJ (i:=1) (tt:=12) rfl rfl frz_row (ts (rm rfl (ra rfl (ro rfl (cQ cV) (eX (T_ret2 rfl (fX (eU rfl) ?_) (eU rfl))))))))
    exact (slT_of rfl)
end
section
open Go Go.RowKit
theorem bld_34_1 {n : Nat} {E : Env} {H : Hp} {d : Option Tmp} {t : TypeId} {pos : String} {af : Array Edge} {g : Option (Nat × Bool)} {x1 : Operand} {T1 : Ty} [s1 : Shape T1 1 false] (h1 : Has E x1 T1) :
  OpTy Tryz.prog n E H ⟨d,.build 34 #[(1,x1)],t,pos,af,g⟩ (AggT [Is (.slice none 0 0),T1]) :=
 op_build (parts := [(1, x1)]) fun a V w hs => by
  have p1:=h1 n V a hs
  generalize e1:a.eval x1 = v1 at p1
  have q1:=(s1.ok v1 V p1).2.2 rfl
  refine ⟨.agg #[(.slice none 0 0),v1],?_,[(.slice none 0 0),v1],rfl,aW (⟨rfl,trivial⟩) (aW (⟨p1,q1⟩) (aG))⟩
  simp [e1,Instr.build,Instr.fill,Sem.run_bind,Result.andThen,cells_agg,q1.cells,O_34,U_34,Z_31,Z_32]
end
section
open Go Go.RowKit
theorem c_rNTerm {z:List Qi} {s c:List (List Qi)} {port:Int} {g t:Qi} (hz:FitL z 2) (hs:FitM s 2) (hc:FitM c 2) (hg:FitC g 2) (ht:FitC t 2) (hsh:Shp s z.length z.length) (hch:Shp c z.length z.length) (hl:z.length ≤ 8):Fun Tryz.prog 51 [RNoisyT z s c,IntT .i64 port,QT g,QT t] (TupT [RNoisyT (ntZ z s port g t) (ntS z s port g t) (ntQ z s c port g t),IntT .i64 (ntE z s port g t)]):=by
 haveI:=hg
 haveI:=ht
 haveI f0:=fit_one
 have hsl:=hsh.1
 refine Fun.intro Tryz.func51 rfl Tryz.ntmps51 rfl (fun cx=>(ts (rn rfl (fG (Ht rfl)) fun B4=>(rn rfl (fG (Ht rfl)) fun B6=>(rn rfl (fG (Ht rfl)) fun B7=>(rn rfl (eW (Ts:=[Is (.slice none 0 0),Is (.slice none 0 0),Is (.slice none 0 0)]) O_79 rfl (fun V=>aW ⟨rfl,trivial⟩ (aW ⟨rfl,trivial⟩ (aW ⟨rfl,trivial⟩ (aG))))) fun B8=>(ro rfl (cQ (cJ 0)) (eX (cK (ts (ro rfl (eJ A_98 Z_98 (Ht rfl) (i:=2) rfl rfl rfl) (ro rfl (cZ Tryz.call144 (c_rWarm (by omega)) ⟨(Ht rfl),trivial⟩) ?_))))))))))))
 refine ro rfl (op_not (Ht rfl)) (eX (dQ (Ht rfl) (fun hb=>?_) (fun hb=>?_)))
 ·have hw : wrmE t ≠ 0 := by simp only [Bool.not_eq_true'] at hb; rw [wrmE, hb]; decide
  have hw1:wrmE t = 1:=by simp only [Bool.not_eq_true'] at hb; rw [wrmE,hb]; rfl
  have he1:ntE z s port g t = 1:=by rw [ntE,if_neg hw,hw1]
  have he:ntE z s port g t ≠ 0:=by rw [he1]; decide
  refine ts (ro rfl (OpTy.imp (bld_79_ ) rnoisy_nil) (gQ Z_79 (Ht rfl) (Ht rfl) rfl (i:=3) rfl (aK rfl) rfl rfl (ro rfl (cQ (cJ 1)) (eX (T_ret2 rfl (fX (fK A_79 Z_79 rfl (i:=3) rfl rfl) ?_) (fX (eU rfl) ?_))))))
  ·exact (fun v V h=>by rw [ntZ,ntS,ntQ,okL,okL,okL,if_neg he,if_neg he,if_neg he]; exact h)
  ·exact (int_of he1.symm)
 ·have hw : wrmE t = 0 := by simp only [Bool.not_eq_false'] at hb; rw [wrmE, hb]; rfl
  have hee:ntE z s port g t = trmE z s port g:=by rw [ntE,if_pos hw]
  refine cU (ts (ro rfl (eZ fa_79_0 (Ht rfl) rfl) (ro rfl (eJ A_34 Z_34 (Ht rfl) (i:=0) rfl rfl rfl) (rm rfl (ro rfl (eJ A_98 Z_98 (Ht rfl) (i:=1) rfl rfl rfl) (ro rfl (cZ Tryz.call145 (c_rTerm (z:=z) (s:=s) (port:=port) (g:=g) (L:=2) hsh hs hg (by decide) (by decide) (by omega)) ⟨(Ht rfl),(Ht rfl),(Ht rfl),trivial⟩) (rm rfl (ro rfl (dK (Ht rfl) rfl) (ro rfl (dK (Ht rfl) rfl) (rn rfl (eW (Ts:=[Is (.slice none 0 0),Is (.slice none 0 0)]) O_34 rfl (fun V=>aW ⟨rfl,trivial⟩ (aW ⟨rfl,trivial⟩ (aG)))) fun B10=>?_))))))))))
  refine gQ Z_34 (Ht rfl) (Ht rfl) rfl (i:=4) rfl (aK rfl) rfl rfl (ra rfl (eX (cK (ts (rm rfl (ro rfl (op_neq (Ht rfl) cV) (eX (dQ (Ht rfl) (fun hd=>?_) (fun hd=>?_)))))))))
  ·have he : ntE z s port g t ≠ 0 := by rw [hee]; simpa using hd
   refine ts (ro rfl (OpTy.imp (bld_79_ ) rnoisy_nil) (rm rfl (gQ Z_79 (Ht rfl) (Ht rfl) rfl (i:=3) rfl (aK rfl) rfl rfl (ra rfl (eX (T_ret2 rfl (fX (fK A_79 Z_79 rfl (i:=3) rfl rfl) ?_) (fX (eU rfl) ?_)))))))
   ·exact (fun v V h=>by rw [ntZ,ntS,ntQ,okL,okL,okL,if_neg he,if_neg he,if_neg he]; exact h)
   ·exact (int_of hee.symm)
  ·have hd0 : trmE z s port g = 0 := by simpa using hd
   obtain ⟨hb1,hn1,hD⟩:=trm_zero hd0
   obtain ⟨p,rfl⟩:∃ p:Nat,port = ((p + 1:Nat):Int):=⟨(port - 1).toNat,by omega⟩
   have hpz:(((p + 1:Nat):Int) - 1).toNat = p:=by omega
   rw [hpz] at hD
   have hpn:p < z.length:=by omega
   have he:ntE z s ((p + 1:Nat):Int) g t = 0:=by rw [hee,hd0]
   have hrz:trmRZ z s ((p + 1:Nat):Int) g = prtZ z p (z.length - 1):=by rw [trmRZ,hd0,hpz]; rfl
   have hrs:trmRS z s ((p + 1:Nat):Int) g = trmS s p (z.length - 1) (trmF s p g):=by rw [trmRS,hd0,hpz]; rfl
   rw [hrz,hrs]
   haveI f2:FitC (gv z p) 2:=hz.get (by decide) p
   have hown : Fun Tryz.prog 146 [RNetT [gv z p] [[g]], QT t] (TupT [RNoisyT [gv z p] [[g]] [[t * (gv z p * (Qi.ofInt 1 - g * g.conj))]], IntT .i64 0]) := by
    have h:=c_rOwn (z:=[gv z p]) (s:=[[g]]) (t:=t) (L:=2) (fun x hx=>by rw [List.mem_singleton] at hx; rw [hx]; exact f2) (fun r hr x hx=>by rw [List.mem_singleton] at hr; rw [hr,List.mem_singleton] at hx; rw [hx]; exact hg) ht (by decide) (by decide) ⟨rfl,fun r hr=>by rw [List.mem_singleton] at hr; rw [hr]; rfl⟩ (by simp)
    rw [hw,show ([gv z p]:List Qi).length = 1 from rfl,load_own] at h; exact h
   refine cU (cK (Y.D_start (m:=19) [] (bY (Ei:=[(4,_)]) rfl rfl (bQ (bJ rfl rfl) bX) rfl rfl (dX rfl (eZ fa_79_0 (Ht rfl) rfl)) (bY (Ei:=[(35,_)]) rfl rfl (bQ (bZ 0 rfl rfl) bX) rfl rfl (dX rfl (eZ fa_34_0 (Ht rfl) rfl)) (bY (Ei:=[(36,_)]) rfl rfl (bQ (bZ 1 rfl rfl) bX) rfl rfl (dX rfl (eY A_31 Z_31 (Ht rfl) (i:=0) rfl rfl)) (bY (Ei:=[(1,_)]) rfl rfl (bQ (bJ rfl rfl) bX) rfl rfl (dX rfl (cX (Ht rfl))) ?_))))))
   refine bY (Ei:=[(38,_)]) rfl rfl (bQ (bZ 3 rfl rfl) bX) rfl rfl (dX rfl (OpTy.nat (dW (Ht rfl) (cJ 1) (by omega) (by show _ < 9223372036854775808; first | omega | (simp only [lim]; omega))) (show p + 1 - 1 = p by omega))) (bY (Ei:=[(37,_),(39,_)]) rfl rfl (bQ (bZ 2 rfl rfl) (bQ (bZ 4 rfl rfl) bX)) rfl rfl (dX rfl (dZ U_31 Z_98 (Ht rfl) (Ht rfl) rfl (dY (dU (d:=Qi.zero) (by omega))))) (bY (Ei:=[(40,_)]) rfl rfl (bQ (bZ 5 rfl rfl) bX) rfl rfl (dX rfl (dJ A_98 Z_98 (Ht rfl))) ?_))
   refine bY (Ei:=[(41,_)]) rfl rfl (bQ (bZ 6 rfl rfl) bX) rfl rfl (dX rfl (op_bslice (xs:=[.tmp 41]) U_31 Z_98 O_98 (cW (Ht rfl) cG) rfl rfl rfl)) (bY (Ei:=[(6,_)]) rfl rfl (bQ (bJ rfl rfl) bX) rfl rfl (dX rfl (eJ A_98 Z_98 (Ht rfl) (i:=1) rfl rfl rfl)) (bY (Ei:=[(43,_)]) rfl rfl (bQ (bZ 8 rfl rfl) bX) rfl rfl (dX rfl (op_bslice (xs:=[.tmp 43]) U_31 Z_98 O_98 (cW (Ht rfl) cG) rfl rfl rfl)) ?_))
   refine bY (Ei:=[(44,_)]) rfl rfl (bQ (bZ 9 rfl rfl) bX) rfl rfl (dX rfl (op_bslice (xs:=[.tmp 44]) U_32 Z_31 O_31 (cW (Ht rfl) cG) rfl rfl rfl)) (bY (Ei:=[(42,_),(45,_)]) rfl rfl (bQ (bZ 7 rfl rfl) (bQ (bZ 10 rfl rfl) bX)) rfl rfl (dX rfl (bld_34_0_1 (Ht rfl) (Ht rfl))) (bY (Ei:=[(7,_)]) rfl rfl (bQ (bJ rfl rfl) bX) rfl rfl (dX rfl (eJ A_98 Z_98 (Ht rfl) (i:=2) rfl rfl rfl)) (bY (Ei:=[(46,_),(47,_)]) rfl rfl (bQ (bZ 11 rfl rfl) (bQ (bZ 12 rfl rfl) bX)) rfl rfl (dX rfl (cZ Tryz.call146 hown ⟨(Ht rfl),(Ht rfl),trivial⟩)) ?_)))
   refine bY (Ei:=[(48,_)]) rfl rfl (bQ (bZ 13 rfl rfl) bX) rfl rfl (dX rfl (cX (Ht rfl))) (bY (Ei:=[(34,_)]) rfl rfl (bQ (bZ 14 rfl rfl) bX) rfl rfl (dX rfl (dK (Ht rfl) rfl)) (bY (Ei:=[(34,_)]) rfl rfl (bQ (bZ 14 rfl rfl) bX) rfl rfl (dX rfl (dK (Ht rfl) rfl)) (Y.D_newp (Ei:=[]) (fun bb=>box bb 79 [QsT [gv z p],QM [[g]],QM [[t * (gv z p * (Qi.ofInt 1 - g * g.conj))]]]) 18 rfl rfl rfl bX rfl rfl (by kernel_rfl) (eW (Ts:=[Is (.slice none 0 0),Is (.slice none 0 0),Is (.slice none 0 0)]) O_79 rfl (fun V=>aW ⟨rfl,trivial⟩ (aW ⟨rfl,trivial⟩ (aW ⟨rfl,trivial⟩ (aG))))) ?_)))
   refine Y.D_putN (Ei:=[(49,_)]) 17 rfl rfl rfl rfl rfl rfl (bQ (bZ 15 rfl rfl) bX) (fun bb=>P_stA Z_79 (Ht rfl) (Ht rfl) rfl (i:=0) rfl (aK rfl) rfl rfl) (Y.D_done mixed rfl (by kernel_rfl) rfl (by simp [Y.okP]) rfl rfl (bU (bU (bU (bU (bU (bU (bU (bU (bU (bU (bU (bU (bU (bU (bU (bU (bU (Y.F_newp (fun B12=>Y.F_putN (Y.F_nil ?_)))))))))))))))))))))
   refine ra rfl (eX (cK (T_keep [0,1,2,3,4,5] rfl (by decide) (cY (ro rfl (eZ fa_79_0 (Ht rfl) rfl) (ro rfl (eZ fa_34_1 (Ht rfl) rfl) (ro rfl (eY A_32 Z_32 (Ht rfl) (i:=0) rfl rfl) (ro rfl (eZ fa_79_0 (Ht rfl) rfl) (ro rfl (eZ fa_34_1 (Ht rfl) rfl) (ro rfl (eY A_32 Z_32 (Ht rfl) (i:=5) rfl rfl) (ro rfl (cZ Tryz.call136 (c_blocks (a:=s) (b:=[[g]]) (x:=z.length) (y:=1) hsh ⟨rfl,fun r hr=>by rw [List.mem_singleton] at hr; rw [hr]; rfl⟩ (by omega) (by decide)) ⟨(Ht rfl),(Ht rfl),trivial⟩) ?_)))))))))))
   refine ro rfl (bld_34_1 (Ht rfl)) (rn rfl (eW (Ts:=[Is (.slice none 0 0),Is (.slice none 0 0)]) O_34 rfl (fun V=>aW ⟨rfl,trivial⟩ (aW ⟨rfl,trivial⟩ (aG)))) fun B14=>(gQ Z_34 (Ht rfl) (Ht rfl) rfl (i:=6) rfl (aK rfl) rfl rfl (eX (cK (cK (T_keep [0,1,2,3,4,5,6] rfl (by decide) (T_row 98 5 (cY (ro rfl (cQ (cJ 0)) (eX (eG (T_keep [0,3,4,5,6,7] rfl (by decide) ?_))))))))))))
   refine T_loop2 (fun (i : Nat) (vZ : Value) => i ≤ z.length) (fun (i : Nat) (vZ : Value) => z.length - i) (fun (i : Nat) (vZ : Value) => [(1, NT .i64 (p + 1)), (4, PtrB B4 0), (8, PtrB B8 0), (10, PtrB B10 0), (12, PtrB B12 0), (14, PtrB B14 0), (15, NT .i64 i)]) (fun (i : Nat) (vZ : Value) => [box B4 79 [QsT z, QM s, QM c], box B8 79 [Is (.slice none 0 0), Is (.slice none 0 0), Is (.slice none 0 0)], box B10 34 [QsT (prtZ z p (z.length - 1)), QM (trmS s p (z.length - 1) (trmF s p g))], box B12 79 [QsT [gv z p], QM [[g]], QM [[t * (gv z p * (Qi.ofInt 1 - g * g.conj))]]], box B14 34 [Is vZ, QM (bothS s g z.length)], rowO 98 5 vZ ((z.take i).map QT)]) 0 _ (Nat.zero_le _)
    (aQ rfl (aQ rfl (aQ rfl (aQ rfl (aQ rfl (aQ rfl (aQ rfl aX))))))) (aU (box_of rfl) (aU (box_of rfl) (aU (box_of rfl) (aU (box_of rfl) (aU (box_of rfl) (aU (rowO_of rfl) aY)))))) (fun i vZ hi=>?_)
   refine cK (ts (rm rfl (ro rfl (eZ fa_79_0 (Ht rfl) rfl) (ro rfl (eZ fa_34_0 (Ht rfl) rfl) (ro rfl (eY A_31 Z_31 (Ht rfl) (i:=0) rfl rfl) (ro rfl (dG U_31 (Ht rfl) len_map) (ro rfl (gX (Ht rfl) (Ht rfl)) (eX (dQ (Ht rfl) (fun hc1=>?_) (fun hc1=>?_))))))))))
   ·have hin : i < z.length := by simp only [decide_eq_true_eq] at hc1; omega
    refine cU (cK (eG (fZ (m:=9) (dp 14 rfl (eZ fa_34_0 (Ht rfl) rfl) (dq 67 0 rfl (op_ldBp A_31 Z_31 (Ht rfl) (i:=4) rfl rfl) (dp 4 rfl (eZ fa_79_0 (Ht rfl) rfl) (dq 69 2 rfl (eZ fa_34_0 (Ht rfl) rfl) (dq 70 3 rfl (eY A_31 Z_31 (Ht rfl) (i:=0) rfl rfl) (dp 15 rfl (cX (Ht rfl)) (dqq 71 4 72 5 rfl (dZ U_31 Z_98 (Ht rfl) (Ht rfl) rfl (dY (dU (d:=Qi.zero) (by omega)))) (dq 73 6 rfl (dJ A_98 Z_98 (Ht rfl)) (dq 74 7 rfl (op_bslice (xs:=[.tmp 74]) U_31 Z_98 O_98 (cW (Ht rfl) cG) rfl rfl rfl) ?_))))))))))))
    refine fV mixed rfl (by kernel_rfl) (aJ (aJ (aJ (aJ (aJ (aJ (aJ (aJ (aJ (aV (R_append (inf:=Tryz.t98) und_31 info_98 rfl rfl rfl (Ht rfl) (Ht rfl) (i:=5) rfl (by simp) (fun T hT=>by simp at hT; subst hT; exact El.ag rfl) (by show _ * 88 ≤ _; simp only [List.length_map,List.length_take,List.length_cons,List.length_nil]; omega) (by simp only [List.length_map,List.length_take,List.length_cons,List.length_nil]; omega) rfl (fun vZ2=>?_))))))))))))
    refine ro rfl (eZ fa_34_0 (Ht rfl) rfl) (R_stp (l:=5) Z_31 (Ht rfl) (Ht rfl) (i:=4) rfl rfl (aK rfl) rfl (eX (T_blk (cY (rm rfl (ro rfl (dV (Ht rfl) (cJ 1) (by show _ < 9223372036854775808; first | omega | (simp only [lim]; omega))) (ra rfl (eX (T_keep [0,1,2,3,4,5] rfl (by decide) (fU (i + 1,vZ2) hin (by dsimp only; omega) (aQ rfl (aQ rfl (aQ rfl (aQ rfl (aQ rfl (aQ rfl (aQ rfl aX))))))) (aU (box_of rfl) (aU (box_of rfl) (aU (box_of rfl) (aU (box_of rfl) (aU (box_of rfl) (aU (rowO_of (by rw [show z.take (i + 1) = z.take i ++ [gv z i] by rw [List.take_add_one]; simp [gv,List.getD,hin],List.map_append]; rfl)) aY))))))))))))))))
   ·have hin : i = z.length := by simp only [decide_eq_false_iff_not] at hc1; omega
    rw [hin,List.take_length]
    refine gV rfl (cK (fZ (m:=8) (dp 14 rfl (eZ fa_34_0 (Ht rfl) rfl) (dq 78 0 rfl (op_ldBp A_31 Z_31 (Ht rfl) (i:=4) rfl rfl) (dp 12 rfl (eZ fa_79_0 (Ht rfl) rfl) (dq 80 2 rfl (eZ fa_34_0 (Ht rfl) rfl) (dq 81 3 rfl (eY A_31 Z_31 (Ht rfl) (i:=3) rfl rfl) (dq 82 4 rfl (dZ U_31 Z_98 (Ht rfl) (cJ 0) rfl (show ([gv z p].map QT)[0]? = some (QT (gv z p)) from rfl)) (dq 83 5 rfl (dJ A_98 Z_98 (Ht rfl)) (dq 84 6 rfl (op_bslice (xs:=[.tmp 84]) U_31 Z_98 O_98 (cW (Ht rfl) cG) rfl rfl rfl) ?_))))))))))
    refine fV mixed rfl (by kernel_rfl) (aJ (aJ (aJ (aJ (aJ (aJ (aJ (aJ (aV (R_append (inf:=Tryz.t98) und_31 info_98 rfl rfl rfl (Ht rfl) (Ht rfl) (i:=5) rfl (by simp) (fun T hT=>by simp at hT; subst hT; exact El.ag rfl) (by show _ * 88 ≤ _; simp only [List.length_map,List.length_append,List.length_cons,List.length_nil,List.length_take]; omega) (by simp only [List.length_map,List.length_append,List.length_cons,List.length_nil,List.length_take]; omega) rfl (fun vZ3=>?_)))))))))))
    refine ro rfl (eZ fa_34_0 (Ht rfl) rfl) (R_stp (l:=5) Z_31 (Ht rfl) (Ht rfl) (i:=4) rfl rfl (aK rfl) rfl (eX (cK (T_conv 5 rfl (rowO_of (e:=98) (s:=5) (by rw [List.map_append]; rfl:_ = (z ++ [gv z p]).map QT)) ?_))))
    refine T_frzcell 4 5 0 rfl rfl rfl (by decide) ?_
    have hzl2:(z ++ [gv z p]).length = z.length + 1:=by rw [List.length_append]; rfl
    have hS2:=sidM_shp s [[g]] z.length 1
    have hf2:FitM (bothS s g z.length) 2:=sidM_fit hs (one_mat hg).1 (by decide)
    have hvv:∀ x,FitL (gnV (bothS s g z.length) (J1 p z.length) x) 150:=fun x=>both_V hs hg hpn hD
    have hgain : Fun Tryz.prog 147 [RNetT (z ++ [gv z p]) (bothS s g z.length), SlT 2 [AggT [NT .i64 (p + 1), NT .i64 (z.length + 1)]]] (TupT [QM (gnP (bothS s g z.length) (J1 p z.length) (z.length + 1)), BoolT true]) := by
     have h:=c_gains (z:=z ++ [gv z p]) (S:=bothS s g z.length) (js:=J1 p z.length) (L:=2) (G:=150) (by rw [hzl2]; exact hS2) hf2 (by decide) (by decide) (by omega) (both_jd rfl hpn) (by simp) (fun b=>by rw [jps1]; exact one_iff.2 (both_ker hpn hD)) hvv (by decide) (by decide) (by show 6 * grow (2 + 2) 2 + 4 ≤ 17592186044415; decide)
     rw [hzl2] at h; exact h
    haveI fr:FitC (t * (gv z p * (Qi.ofInt 1 - g * g.conj))) 13:=(fitMul (x:=t) (y:=gv z p * (Qi.ofInt 1 - g * g.conj)))
    obtain ⟨fL,sL⟩:=one_mat fr
    have hbl:=c_blocks (a:=c) (b:=[[t * (gv z p * (Qi.ofInt 1 - g * g.conj))]]) (x:=z.length) (y:=1) hch sL (by omega) (by decide)
    have hPs:=gnP_shp (bothS s g z.length) (J1 p z.length) (z.length + 1)
    have hPf:=gnP_fit (N:=z.length + 1) hf2 (by decide) hvv (by decide) (show 2 * (J1 p z.length).length ≤ 8 by simp)
    have hPl:(gnP (bothS s g z.length) (J1 p z.length) (z.length + 1)).length = z.length - 1:=by rw [hPs.1,lf_both hpn,lf1_len hpn]
    have hCs:=sidM_shp c [[t * (gv z p * (Qi.ofInt 1 - g * g.conj))]] z.length 1
    have hCf:FitM (sidM c [[t * (gv z p * (Qi.ofInt 1 - g * g.conj))]] z.length 1) 13:=sidM_fit (hc.le (by decide)) fL (by decide)
    have hcar : Fun Tryz.prog 148 [QM (gnP (bothS s g z.length) (J1 p z.length) (z.length + 1)), QM (sidM c [[t * (gv z p * (Qi.ofInt 1 - g * g.conj))]] z.length 1)] (QM (ntC z s c g t p)) := by
     have h:=c_rcar9 (p:=gnP (bothS s g z.length) (J1 p z.length) (z.length + 1)) (c:=sidM c [[t * (gv z p * (Qi.ofInt 1 - g * g.conj))]] z.length 1) (L:=1300) (hPf.le (by decide)) (hCf.le (by decide)) (by decide) (by decide) (by rw [hPl,hCs.1]; rw [hPs.1] at hPl; rw [hPl] at hPs; exact hPs) (by rw [hCs.1]; exact hCs) (by omega) (by rw [hCs.1]; omega)
     rw [nt_car rfl hpn hch hD load_r] at h; exact h
    refine cY (ro rfl (eJ A_34 Z_34 (Ht rfl) (i:=4) rfl rfl rfl) (rm rfl (ro rfl (eZ fa_34_0 (Ht rfl) rfl) (ro rfl (eY A_31 Z_31 (Ht rfl) (i:=4) rfl rfl) (ro rfl (dG U_31 (Ht rfl) (by rw [List.length_map,hzl2])) ?_)))))
    refine ro rfl (bld_120_0_1 (Ht rfl) (Ht rfl)) (ro rfl (op_bslice (xs:=[.tmp 94]) U_59 Z_120 Tryz.zeroValue120 (cW (Ht rfl) cG) rfl rfl rfl) (ro rfl (cZ Tryz.call147 hgain ⟨(Ht rfl),(Ht rfl),trivial⟩) (rm rfl (ro rfl (dK (Ht rfl) rfl) (ro rfl (dK (Ht rfl) rfl) (ra rfl (ra rfl (eX (cK (cK (T_keep [0,1,2,3,4,5] rfl (by decide) (cY (rm rfl (ro rfl (op_not (Ht rfl)) (eX (T_condF (Ht rfl) (by rfl) ?_))))))))))))))))
    refine cU (cK (fZ (m:=8) (dp 10 rfl (eJ A_34 Z_34 (Ht rfl) (i:=2) rfl rfl rfl) (dp 16 rfl (cX (Ht rfl)) (dp 4 rfl (eZ fa_79_1 (Ht rfl) rfl) (dq 104 2 rfl (eY A_32 Z_32 (Ht rfl) (i:=0) rfl rfl) (dp 12 rfl (eZ fa_79_1 (Ht rfl) rfl) (dq 106 4 rfl (eY A_32 Z_32 (Ht rfl) (i:=3) rfl rfl) (dqq 105 3 107 5 rfl (cZ Tryz.call136 hbl ⟨(Ht rfl),(Ht rfl),trivial⟩) (dqq 103 1 108 6 rfl (cZ Tryz.call148 hcar ⟨(Ht rfl),(Ht rfl),trivial⟩) (fV mixed rfl (by kernel_rfl) (aJ (aJ (aJ (aJ (aJ (aJ (aJ (aJ (aV ?_))))))))))))))))))))
    refine ro rfl (bld_79_0_1 (Ht rfl) (Ht rfl)) (gQ Z_79 (Ht rfl) (Ht rfl) rfl (i:=1) rfl (aK rfl) rfl rfl (ro rfl (cQ (cJ 0)) (eX (T_ret2 rfl (fX (fK A_79 Z_79 rfl (i:=1) rfl rfl) ?_) (fX (eU rfl) ?_)))))
    ·exact (fun v V h=>by rw [ntZ,ntS,ntQ,okL,okL,okL,if_pos he,if_pos he,if_pos he,hpz]; exact h)
    ·exact (int_of he.symm)
end
section
open Go Go.RowKit
section
variable {z:List Qi} {s c:List (List Qi)} {port:Int} {g t:Qi}
theorem nt_rz:ntZ z s port g t = okL (ntE z s port g t) (trmRZ z s port g):=by
 by_cases h:ntE z s port g t = 0
 ·have h2 : trmE z s port g = 0 := by
   rw [ntE] at h
   by_cases c:wrmE t = 0
   ·rwa [if_pos c] at h
   ·rw [if_neg c] at h; exact absurd h c
  rw [ntZ,okL,okL,if_pos h,if_pos h,trmRZ,okL,if_pos h2]
 ·rw [ntZ,okL,okL,if_neg h,if_neg h]
theorem nt_rs:ntS z s port g t = okL (ntE z s port g t) (trmRS z s port g):=by
 by_cases h:ntE z s port g t = 0
 ·have h2 : trmE z s port g = 0 := by
   rw [ntE] at h
   by_cases c:wrmE t = 0
   ·rwa [if_pos c] at h
   ·rw [if_neg c] at h; exact absurd h c
  rw [ntS,okL,okL,if_pos h,if_pos h,trmRS,okL,if_pos h2]
 ·rw [ntS,okL,okL,if_neg h,if_neg h]
theorem nt_shp:Shp (ntS z s port g t) (ntZ z s port g t).length (ntZ z s port g t).length ∧ Shp (ntQ z s c port g t) (ntZ z s port g t).length (ntZ z s port g t).length ∧ (ntZ z s port g t).length ≤ z.length:=by
 by_cases h:ntE z s port g t = 0
 ·rw [ntS, ntZ, ntQ, okL, okL, okL, if_pos h, if_pos h, if_pos h, show (prtZ z (port - 1).toNat (z.length - 1)).length = z.length - 1 from tab_len _ _]
  exact ⟨Shp.tab,Shp.tab,by omega⟩
 ·rw [ntS, ntZ, ntQ, okL, okL, okL, if_neg h, if_neg h, if_neg h]
  exact ⟨⟨rfl,fun r hr=>by cases hr⟩,⟨rfl,fun r hr=>by cases hr⟩,Nat.zero_le _⟩
end
theorem c_NoiseTerminates {z:List Rt} {s c:List (List Rt)} {port:Int} {g t:Rt}:Fun Tryz.prog 7 [LawT z s c,IntT .i64 port,RatT g,RatT t] (BoolT true):=by
 refine Fun.intro Tryz.func7 rfl Tryz.ntmps7 rfl (fun cx=>(ts (rn rfl (fG (Ht rfl)) fun B4=>(rn rfl (fG (Ht rfl)) fun B6=>(rn rfl (fG (Ht rfl)) fun B7=>(ro rfl (cQ cV) (eX (cK (ts (ro rfl (eJ Tryz.isAgg74 Tryz.sizeOf74 (Ht rfl) (i:=0) rfl rfl rfl) (ro rfl (cZ Tryz.call41 c_few ⟨(Ht rfl),trivial⟩) (ro rfl (op_not (Ht rfl)) (eX (dQ (Ht rfl) (fun hb=>?_) (fun hb=>?_)))))))))))))))
 ·refine ts (ro rfl (cZ Tryz.call42 c_awake trivial) (ra rfl (eX ?_)))
  exact fW rfl (eU rfl)
 ·have hf : fewB z s c = true := by simpa using hb
  obtain ⟨m1,m2,m3⟩:=md_shape (z:=z) (s:=s) (c:=c)
  obtain ⟨m4,m5,m6⟩:=md_fit (z:=z) (s:=s) (c:=c)
  have hg2:FitC g.q 2:=inferInstance
  have ht2:FitC t.q 2:=inferInstance
  have n4:FitL (ntZ (mdZ z s c) (mdS z s c) port g.q t.q) 10000:=by rw [nt_rz]; exact okL_fit ((trm_fitZ m4 (by decide)).le (by decide))
  have n5:FitM (ntS (mdZ z s c) (mdS z s c) port g.q t.q) 10000:=by rw [nt_rs]; exact okL_fitM ((trm_fitS m5 hg2 (by decide)).le (by decide))
  have n6:FitM (ntQ (mdZ z s c) (mdS z s c) (mdC z s c) port g.q t.q) 10000:=okL_fitM ((ntC_fit m4 m5 m6 hg2 ht2 (by rw [m2.1]; exact m3)).le (by decide))
  obtain ⟨n1,n2,n3⟩:=nt_shp (z:=mdZ z s c) (s:=mdS z s c) (c:=mdC z s c) (port:=port) (g:=g.q) (t:=t.q)
  refine cU (ts (ro rfl (eJ Tryz.isAgg74 Tryz.sizeOf74 (Ht rfl) (i:=0) rfl rfl rfl) (ro rfl (cZ Tryz.call43 (c_made (by assumption)) ⟨(Ht rfl),trivial⟩) ?_)))
  refine rm rfl (ro rfl (dK (Ht rfl) rfl) (ro rfl (dK (Ht rfl) rfl) (ro rfl (dK (Ht rfl) rfl) (rn rfl (eW (Ts:=[Is (.slice none 0 0),Is (.slice none 0 0),Is (.slice none 0 0)]) O_77 rfl (fun V=>aW ⟨rfl,trivial⟩ (aW ⟨rfl,trivial⟩ (aW ⟨rfl,trivial⟩ (aG))))) fun B9=>(rn rfl (eW (Ts:=[Is (.slice none 0 0),Is (.slice none 0 0),Is (.slice none 0 0)]) O_79 rfl (fun V=>aW ⟨rfl,trivial⟩ (aW ⟨rfl,trivial⟩ (aW ⟨rfl,trivial⟩ (aG))))) fun B10=>(gQ Z_77 (Ht rfl) (Ht rfl) rfl (i:=3) rfl (aK rfl) rfl rfl ?_))))))
  refine gQ Z_79 (Ht rfl) (Ht rfl) rfl (i:=4) rfl (aK rfl) rfl rfl (ra rfl (eX (cK (Y.D_start (m:=12) [] (bY (Ei:=[(9,_)]) rfl rfl (bQ (bJ rfl rfl) bX) rfl rfl (dX rfl (eJ A_77 Z_77 (Ht rfl) (i:=3) rfl rfl rfl)) (bY (Ei:=[(1,_)]) rfl rfl (bQ (bJ rfl rfl) bX) rfl rfl (dX rfl (cX (Ht rfl))) (bY (Ei:=[(6,_)]) rfl rfl (bQ (bJ rfl rfl) bX) rfl rfl (dX rfl (eJ A_91 Z_91 (Ht rfl) (i:=1) rfl rfl rfl)) ?_)))))))
  refine bY (Ei:=[(29,_)]) rfl rfl (bQ (bZ 2 rfl rfl) bX) rfl rfl (dX rfl (cZ Tryz.call50 c_lawOf ⟨(Ht rfl),trivial⟩)) (bY (Ei:=[(7,_)]) rfl rfl (bQ (bJ rfl rfl) bX) rfl rfl (dX rfl (eJ A_91 Z_91 (Ht rfl) (i:=2) rfl rfl rfl)) (bY (Ei:=[(31,_)]) rfl rfl (bQ (bZ 4 rfl rfl) bX) rfl rfl (dX rfl (cZ Tryz.call50 c_lawOf ⟨(Ht rfl),trivial⟩)) (bY (Ei:=[(27,_),(28,_),(30,_),(32,_)]) rfl rfl (bQ (bZ 0 rfl rfl) (bQ (bZ 1 rfl rfl) (bQ (bZ 3 rfl rfl) (bQ (bZ 5 rfl rfl) bX)))) rfl rfl (dX rfl (cZ Tryz.call49 (c_nTerm (z:=mdZ z s c) (s:=mdS z s c) (c:=mdC z s c) (port:=port) (g:=g.q) (t:=t.q) m4 m5 m6 hg2 ht2 m1 m2 m3) ⟨(Ht rfl),(Ht rfl),(Ht rfl),(Ht rfl),trivial⟩)) ?_)))
  refine bY (Ei:=[(33,_)]) rfl rfl (bQ (bZ 6 rfl rfl) bX) rfl rfl (dX rfl (cX (Ht rfl))) (bY (Ei:=[(26,_)]) rfl rfl (bQ (bZ 7 rfl rfl) bX) rfl rfl (dX rfl (dK (Ht rfl) rfl)) (bY (Ei:=[(26,_)]) rfl rfl (bQ (bZ 7 rfl rfl) bX) rfl rfl (dX rfl (dK (Ht rfl) rfl)) (Y.D_newp (Ei:=[]) (fun bb=>box bb 77 [NumsT (ntZ (mdZ z s c) (mdS z s c) port g.q t.q),NumM (ntS (mdZ z s c) (mdS z s c) port g.q t.q),NumM (ntQ (mdZ z s c) (mdS z s c) (mdC z s c) port g.q t.q)]) 11 rfl rfl rfl bX rfl rfl (by kernel_rfl) (eW (Ts:=[Is (.slice none 0 0),Is (.slice none 0 0),Is (.slice none 0 0)]) O_77 rfl (fun V=>aW ⟨rfl,trivial⟩ (aW ⟨rfl,trivial⟩ (aW ⟨rfl,trivial⟩ (aG))))) ?_)))
  refine Y.D_putN (Ei:=[(34,_)]) 10 rfl rfl rfl rfl rfl rfl (bQ (bZ 8 rfl rfl) bX) (fun bb=>P_stA Z_77 (Ht rfl) (Ht rfl) rfl (i:=0) rfl (aK rfl) rfl rfl) (Y.D_done mixed rfl (by kernel_rfl) rfl (by simp [Y.okP]) rfl rfl (bU (bU (bU (bU (bU (bU (bU (bU (bU (bU (Y.F_newp (fun B12=>Y.F_putN (Y.F_nil ?_))))))))))))))
  refine ra rfl (eX (cK (Y.D_start (m:=12) [] (bY (Ei:=[(10,_)]) rfl rfl (bQ (bJ rfl rfl) bX) rfl rfl (dX rfl (eJ A_79 Z_79 (Ht rfl) (i:=4) rfl rfl rfl)) (bY (Ei:=[(1,_)]) rfl rfl (bQ (bJ rfl rfl) bX) rfl rfl (dX rfl (cX (Ht rfl))) (bY (Ei:=[(6,_)]) rfl rfl (bQ (bJ rfl rfl) bX) rfl rfl (dX rfl (eJ A_91 Z_91 (Ht rfl) (i:=1) rfl rfl rfl)) (bY (Ei:=[(39,_)]) rfl rfl (bQ (bZ 2 rfl rfl) bX) rfl rfl (dX rfl (cZ Tryz.call52 c_rOf ⟨(Ht rfl),trivial⟩)) ?_)))))))
  refine bY (Ei:=[(7,_)]) rfl rfl (bQ (bJ rfl rfl) bX) rfl rfl (dX rfl (eJ A_91 Z_91 (Ht rfl) (i:=2) rfl rfl rfl)) (bY (Ei:=[(41,_)]) rfl rfl (bQ (bZ 4 rfl rfl) bX) rfl rfl (dX rfl (cZ Tryz.call52 c_rOf ⟨(Ht rfl),trivial⟩)) (bY (Ei:=[(37,_),(38,_),(40,_),(42,_)]) rfl rfl (bQ (bZ 0 rfl rfl) (bQ (bZ 1 rfl rfl) (bQ (bZ 3 rfl rfl) (bQ (bZ 5 rfl rfl) bX)))) rfl rfl (dX rfl (cZ Tryz.call51 (c_rNTerm (z:=mdZ z s c) (s:=mdS z s c) (c:=mdC z s c) (port:=port) (g:=g.q) (t:=t.q) m4 m5 m6 hg2 ht2 m1 m2 m3) ⟨(Ht rfl),(Ht rfl),(Ht rfl),(Ht rfl),trivial⟩)) ?_))
  refine bY (Ei:=[(43,_)]) rfl rfl (bQ (bZ 6 rfl rfl) bX) rfl rfl (dX rfl (cX (Ht rfl))) (bY (Ei:=[(36,_)]) rfl rfl (bQ (bZ 7 rfl rfl) bX) rfl rfl (dX rfl (dK (Ht rfl) rfl)) (bY (Ei:=[(36,_)]) rfl rfl (bQ (bZ 7 rfl rfl) bX) rfl rfl (dX rfl (dK (Ht rfl) rfl)) (Y.D_newp (Ei:=[]) (fun bb=>box bb 79 [QsT (ntZ (mdZ z s c) (mdS z s c) port g.q t.q),QM (ntS (mdZ z s c) (mdS z s c) port g.q t.q),QM (ntQ (mdZ z s c) (mdS z s c) (mdC z s c) port g.q t.q)]) 11 rfl rfl rfl bX rfl rfl (by kernel_rfl) (eW (Ts:=[Is (.slice none 0 0),Is (.slice none 0 0),Is (.slice none 0 0)]) O_79 rfl (fun V=>aW ⟨rfl,trivial⟩ (aW ⟨rfl,trivial⟩ (aW ⟨rfl,trivial⟩ (aG))))) ?_)))
  refine Y.D_putN (Ei:=[(44,_)]) 10 rfl rfl rfl rfl rfl rfl (bQ (bZ 8 rfl rfl) bX) (fun bb=>P_stA Z_79 (Ht rfl) (Ht rfl) rfl (i:=0) rfl (aK rfl) rfl rfl) (Y.D_done mixed rfl (by kernel_rfl) rfl (by simp [Y.okP]) rfl rfl (bU (bU (bU (bU (bU (bU (bU (bU (bU (bU (Y.F_newp (fun B14=>Y.F_putN (Y.F_nil ?_))))))))))))))
  refine ra rfl (eX (ts (rm rfl (rm rfl (fQ rfl rfl (eK rfl rfl (Ht rfl) (fun h=>cX (Ht rfl))) (fQ rfl rfl (eK rfl rfl (Ht rfl) (fun h=>cX (Ht rfl))) (fQ rfl rfl (eK rfl rfl (Ht rfl) (fun h=>op_eql (fJ rfl h) (fJ rfl h))) (ro rfl (op_and (Ht rfl) (fun h=>(fJ rfl h))) (rm rfl (fQ rfl rfl (eK rfl rfl (Ht rfl) (fun h=>eJ A_77 Z_77 (Ht rfl) (i:=5) rfl rfl rfl)) (fQ rfl rfl (eK rfl rfl (Ht rfl) (fun h=>eJ A_79 Z_79 (Ht rfl) (i:=6) rfl rfl rfl)) (fQ rfl rfl (eK rfl rfl (Ht rfl) (fun h=>cZ Tryz.call48 (c_is5 n4 n5 n6 (by decide) (by decide) n1 n2 (by omega)) ⟨(fJ rfl h),(fJ rfl h),trivial⟩)) ?_))))))))))))
  refine ro rfl (op_and (Ht rfl) (fun h=>(fJ rfl h))) (rm rfl (fQ rfl rfl (eK rfl rfl (Ht rfl) (fun h=>cZ Tryz.call42 c_awake trivial)) (ro rfl (op_and (Ht rfl) (fun h=>(fJ rfl h))) (ra rfl (eX (fW rfl (fX (eU rfl) ?_)))))))
  exact (bool_of (by simp))
end
end Go.Proofs.YteimkhgiekndjaaGreat
