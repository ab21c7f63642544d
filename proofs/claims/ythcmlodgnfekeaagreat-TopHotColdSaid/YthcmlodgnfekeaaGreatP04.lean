/- What functions of the program compute, proved by walks over their code, and the plain mathematics of it; a part of the proof in the last text. -/
import Derived.Test.YthcmlodgnfekeaaGreatP03
set_option linter.unusedVariables false
set_option linter.unusedSimpArgs false
set_option maxRecDepth 100000
set_option maxHeartbeats 4000000
namespace Go.Proofs.YthcmlodgnfekeaaGreat
section
open Go Go.RowKit
def Ss (r:Rt):Bool:=decide (((-1000 ≤ r.re ∧ r.re ≤ 1000) ∧ (-1000 ≤ r.im ∧ r.im ≤ 1000)) ∧ (-1000 ≤ r.den ∧ r.den ≤ 1000))
def smB (l:List Rt):Bool:=l.all Ss && decide (l.length ≤ 100)
theorem Xl {l:List Rt} {k:Nat} (hk:k < l.length) (h:Ss (l.getD k default) = false):smB l = false:=by
 have hm:l.getD k default ∈ l:=by rw [show l.getD k default = l[k] by simp [List.getD,hk]]; exact List.getElem_mem hk
 have : l.all Ss = false := by
  rw [List.all_eq_false]; exact ⟨_,hm,by rw [h]; simp⟩
 rw [smB,this]; rfl
theorem Xk {l:List Rt} (h:∀ k,k < l.length → Ss (l.getD k default) = true):smB l = decide (l.length ≤ 100):=by
 have : l.all Ss = true := by
  rw [List.all_eq_true]
  intro x hx
  obtain ⟨k,hk,e⟩:=List.getElem_of_mem hx
  have:=h k hk
  rwa [show l.getD k default = x by simp [List.getD,hk,e]] at this
 rw [smB,this]; rfl
theorem Nt {l:List Rt} (hl:l.length ≤ 9223372036854775807):bA Tryz.prog 37 [yJ l] (aC (smB l)):=by
 refine bA.intro Tryz.func37 rfl Tryz.ntmps37 rfl (fun cx=>(ts (ro rfl (cQ cV) (eX (cK (ts (rm rfl (ro rfl (dG U_77 (Ht rfl) aA) (ro rfl (cX (cJ 0)) (eX (eG ?_)))))))))))
 refine dC (fun (k : Nat) => k ≤ l.length ∧ ∀ j, j < k → Ss (l.getD j default) = true) (fun (k : Nat) => l.length - k) (fun (k : Nat) => [(0, yJ l), (5, yJ l), (6, NT .i64 l.length), (7, NT .i64 k)]) (fun (k : Nat) => []) 0 ⟨Nat.zero_le _, fun j h => by omega⟩
  (zS rfl) aY (fun k ⟨hk,hr⟩=>?_)
 refine ts (ro rfl (gJ (Ht rfl) (Ht rfl)) (eX (cK (dQ (Ht rfl) (fun hd=>?_) (fun hd=>?_)))))
 ·have hkl : k < l.length := by simp only [decide_eq_true_eq] at hd; omega
  obtain ⟨r,hrr⟩:∃ r,r = l.getD k default:=⟨_,rfl⟩
  refine cU (cK (eG (ts (ro rfl (dZ U_77 Z_23 (Ht rfl) (Ht rfl) rfl (dY (show l[k]? = some r by rw [hrr]; exact dU (d:=default) hkl))) (ro rfl (dJ A_23 Z_23 (Ht rfl)) (rn rfl (eW (Ts:=[Is (.int .i64 0),Is (.int .i64 0),Is (.int .i64 0)]) O_23 rfl (fun V=>aW zd (aW zd (aW zd (aG))))) fun B4=>(gZ Z_23 (Ht rfl) (Ht rfl) rfl (i:=0) rfl (aK rfl) rfl rfl (eX (ts (ro rfl (eZ Af (Ht rfl) rfl) ?_))))))))))
  refine ro rfl (eY A_2 Z_2 (Ht rfl) (i:=0) rfl rfl) (ro rfl (kG (Ht rfl) cV) (rm rfl (fQ rfl rfl (eK rfl rfl (Ht rfl) (fun h=>eZ Af (Ht rfl) rfl)) (fQ rfl rfl (eK rfl rfl (Ht rfl) (fun h=>eY A_2 Z_2 (fV rfl h) (i:=0) rfl rfl)) (fQ rfl rfl (eK rfl rfl (Ht rfl) (fun h=>lV (fV rfl h) cV)) (ro rfl (gK (Ht rfl) (fun h=>(fV rfl h))) (rm rfl (fQ rfl rfl (eK rfl rfl (Ht rfl) (fun h=>eZ Ag (Ht rfl) rfl)) (fQ rfl rfl (eK rfl rfl (Ht rfl) (fun h=>eY A_2 Z_2 (fV rfl h) (i:=0) rfl rfl)) ?_)))))))))
  refine fQ rfl rfl (eK rfl rfl (Ht rfl) (fun h=>kG (fV rfl h) cV)) (ro rfl (gK (Ht rfl) (fun h=>(fV rfl h))) (rm rfl (fQ rfl rfl (eK rfl rfl (Ht rfl) (fun h=>eZ Ag (Ht rfl) rfl)) (fQ rfl rfl (eK rfl rfl (Ht rfl) (fun h=>eY A_2 Z_2 (fV rfl h) (i:=0) rfl rfl)) (fQ rfl rfl (eK rfl rfl (Ht rfl) (fun h=>lV (fV rfl h) cV)) (ro rfl (gK (Ht rfl) (fun h=>(fV rfl h))) (rm rfl (fQ rfl rfl (eK rfl rfl (Ht rfl) (fun h=>eZ rZ (Ht rfl) rfl)) (fQ rfl rfl (eK rfl rfl (Ht rfl) (fun h=>eY A_2 Z_2 (fV rfl h) (i:=0) rfl rfl)) ?_)))))))))
  refine fQ rfl rfl (eK rfl rfl (Ht rfl) (fun h=>kG (fV rfl h) cV)) (ro rfl (gK (Ht rfl) (fun h=>(fV rfl h))) (rm rfl (fQ rfl rfl (eK rfl rfl (Ht rfl) (fun h=>eZ rZ (Ht rfl) rfl)) (fQ rfl rfl (eK rfl rfl (Ht rfl) (fun h=>eY A_2 Z_2 (fV rfl h) (i:=0) rfl rfl)) (fQ rfl rfl (eK rfl rfl (Ht rfl) (fun h=>lV (fV rfl h) cV)) (ro rfl (gK (Ht rfl) (fun h=>(fV rfl h))) (eX (dQ (Ht rfl) (fun he=>?_) (fun he=>?_)))))))))
  ·have hb : Ss r = false := by
    simp only [Bool.or_eq_true,decide_eq_true_eq] at he
    rw [Ss,decide_eq_false_iff_not]; omega
   rw [hrr] at hb
   refine ts (ro rfl (cQ cV) (eX (fG rfl (fZ (eU rfl) ?_))))
   exact (gD (Xl hkl hb).symm)
  ·have hb : Ss r = true := by
    simp only [Bool.or_eq_false_iff,decide_eq_false_iff_not] at he
    rw [Ss,decide_eq_true_eq]; omega
   rw [hrr] at hb
   refine cU (cD (cY (ro rfl (dV (Ht rfl) (cJ 1) z6) (rm rfl (eX (dB [] rfl (by decide) ?_))))))
   refine gQ (k + 1) ⟨hkl, fun j h => by
     by_cases e:j = k
     ·rw [e]; exact hb
     ·exact hr j zo⟩ zo (zS rfl) aY
 ·have hkl : k = l.length := by simp only [decide_eq_false_iff_not] at hd; omega
  refine gG rfl (ts (rm rfl (ro rfl (dG U_77 (Ht rfl) aA) (ro rfl (sL (Ht rfl) (cJ 100)) (ra rfl (eX (fG rfl (fZ (eU rfl) ?_))))))))
  exact (gD (by rw [Xk fun j h=>hr j zo]))
theorem a07 {n:Nat} (hn:n ≤ 8):bA Tryz.prog 116 [NT .i64 n] (cC (lU n)):=by
 refine bA.intro Tryz.func116 rfl Tryz.ntmps116 rfl (fun cx=>(ts (ro rfl (cQ cV) (eX (ts (rm rfl (rn rfl (nF (T:=aF Qi.zero) (i:=Tryz.t32) mC jU rfl rfl (Ht rfl) rfl jL (El.ag rfl) (by show 88 * _ ≤ _; omega) zo) fun B6=>(ra rfl (eX (cK (ts (rm rfl (ro rfl (mP U_54 (Ht rfl) (i:=0) rfl (show ((List.replicate n (aF Qi.zero)).length:Int) = ((n:Nat):Int) from by simp)) (ro rfl (cX (cJ 0)) (eX (eG ?_))))))))))))))))
 refine dC (fun (k : Nat) => k ≤ n) (fun (k : Nat) => n - k) (fun (k : Nat) => [(3, Is B6), (8, NT .i64 n), (9, NT .i64 k)]) (fun (k : Nat) => [bH 32 5 B6 ((kB (fun _ => Qi.ofInt 1) Qi.zero n k).map aF)]) 0 (Nat.zero_le _)
  (zS rfl) (aU (bN (by rw [← jD]; exact Bh aF _)) aY) (fun k hi=>?_)
 refine ts (ro rfl (gJ (Ht rfl) (Ht rfl)) (eX (cK (dQ (Ht rfl) (fun hc=>?_) (fun hc=>?_)))))
 ·have hin : k < n := by simp only [decide_eq_true_eq] at hc; omega
  refine cU (cK (eG (ts (rm rfl (ra rfl (eX (cY (rm rfl (rm rfl (ro rfl (cZ K_36 (gY (n:=1) (by decide) (by decide)) ⟨(cJ 1),trivial⟩) (ro rfl (fA U_54 Z_32 (Ht rfl) (Ht rfl) rfl (i:=0) rfl (by rw [List.length_map,eD]; omega) rfl) ?_)))))))))))
  refine oH Z_32 (Ht rfl) (Ht rfl) (El.ag rfl) (i:=0) rfl rfl (by rw [List.length_map,eD]; omega) rfl ?_
  refine eX (cD (cY (ro rfl (dV (Ht rfl) (cJ 1) z6) (rm rfl (eX (gQ (k + 1) hin zo (zS rfl) (aU (bN (by rw [iH]; exact congrArg _ (kO (f:=(fun _=>Qi.ofInt 1))))) aY)))))))
 ·obtain rfl : n = k := by simp only [decide_eq_false_iff_not] at hc; omega
  rw [kN,show tab n (fun _=>Qi.ofInt 1) = lU n from rfl]
  refine gG rfl (cK (gW (i:=0) (tt:=3) rfl rfl jT (cY (rm rfl (ra rfl (eX ?_))))))
  exact fG rfl (eU rfl)
theorem Ns {n:Nat} {l:List Rt} (h1:1 ≤ n) (h4:n ≤ 4):bA Tryz.prog 39 [NT .i64 n,yJ l] (fE [iV (lU n) (lT n l),cH (lT n l)]):=by
 have hnw : bA Tryz.prog 98 [cC (lU n), cH (lT n l)] (fE [iV (lU n) (lT n l), aD .i64 0]) := by
  have h:=Nl (z:=lU n) (s:=lT n l) (L:=2) (Au n) (by decide) (by rw [lF]; omega) (by rw [(sI n l).1]; omega)
  rw [a0H l h1 zo] at h; exact h
 refine bA.intro Tryz.func39 rfl Tryz.ntmps39 rfl (fun cx=>(ts (rn rfl (eW (Ts:=[Is (.slice none 0 0),Is (.slice none 0 0)]) O_80 rfl (fun V=>aW zd (aW zd (aG)))) fun B4=>(ro rfl (cQ cV) (eX (ts (rm rfl (rn rfl (fS (T:=Is (.slice none 0 0)) (i:=Tryz.t54) V_78 lB rfl rfl (Ht rfl) rfl (fun _=>rfl) trivial (by show 24 * _ ≤ _; omega) zo) fun B12=>(ra rfl (eX (cK (ts (rm rfl (ro rfl (iY U_78 (Ht rfl)) (ro rfl (cX (cJ 0)) ?_)))))))))))))))
 refine eX (eG (oM 1 rfl (sG (e:=32) (s:=5)) (dB [0,1] rfl (by decide) ?_)))
 refine dC (fun (i : Nat) => i ≤ n) (fun (i : Nat) => n - i) (fun (i : Nat) => [(0, NT .i64 n), (1, yJ l), (4, cB B4 0), (6, Is (.slice (some ⟨B12, 0, none⟩) n n)), (14, NT .i64 n), (15, NT .i64 i)]) (fun (i : Nat) => [box B4 80 [Is (.slice none 0 0), Is (.slice none 0 0)], pD B12 54 32 5 (dA aF (kB (fun i => tab n fun k => Kv l (n * i + k)) [] n i))]) 0 (Nat.zero_le _)
  (zS rfl) (aU (aH rfl) (aU (cI (by rw [← jD,kL]; exact lY aF _)) aY)) (fun i hi=>?_)
 refine ts (ro rfl (gJ (Ht rfl) (Ht rfl)) (eX (cK (dQ (Ht rfl) (fun hd=>?_) (fun hd=>?_)))))
 ·have hin : i < n := by simp only [decide_eq_true_eq] at hd; omega
  refine cU (cK (eG (ts (rm rfl (ra rfl (eX (cK (nR 1 (i) rfl (lR hin) (fun v0=>(cY (rm rfl (rm rfl (rm rfl (rn rfl (nF (T:=aF Qi.zero) (i:=Tryz.t32) mC jU rfl rfl (Ht rfl) rfl jL (El.ag rfl) (by show 88 * _ ≤ _; omega) zo) fun B21=>(ro rfl (gX U_78 Z_54 (Ht rfl) (Ht rfl) rfl zo (by rw [Nat.mul_one,Nat.zero_add])) ?_)))))))))))))))
  refine vH Z_54 (Ht rfl) (Ht rfl) (by simp only [dA,List.length_map,eD]; omega) (j:=1) (l:=3) rfl rfl rfl ?_
  refine eX (cK (dB [0,1,3] rfl (by decide) (cY (rm rfl (rm rfl (ro rfl (gX U_78 Z_54 (Ht rfl) (Ht rfl) rfl zo (by rw [Nat.mul_one,Nat.zero_add])) ?_))))))
  refine ro rfl (jM A_54 Z_54 (Ht rfl) (j:=1) rfl) (ro rfl (mP U_54 (Ht rfl) (i:=2) rfl (show ((List.replicate n (aF Qi.zero)).length:Int) = ((n:Nat):Int) from by simp)) (ro rfl (cX (cJ 0)) (eX (eG ?_))))
  refine dC (fun (j : Nat) => j ≤ n) (fun (j : Nat) => n - j) (fun (j : Nat) => [(0, NT .i64 n), (1, yJ l), (4, cB B4 0), (6, Is (.slice (some ⟨B12, 0, none⟩) n n)), (7, NT .i64 i), (14, NT .i64 n), (15, NT .i64 i), (27, NT .i64 n), (28, NT .i64 j)]) (fun (j : Nat) => [box B4 80 [Is (.slice none 0 0), Is (.slice none 0 0)], Dc B12 54 32 5 (dA aF (kB (fun i => tab n fun k => Kv l (n * i + k)) [] n i)) i B21, bH 32 5 B21 ((kB (fun k => Kv l (n * i + k)) Qi.zero n j).map aF)]) 0 (Nat.zero_le _)
   (zS rfl) (aU (aH rfl) (aU (fun _ _ _ h=>h) (aU (bN (by rw [← jD]; exact Bh aF _)) aY))) (fun j hj=>?_)
  refine ts (ro rfl (gJ (Ht rfl) (Ht rfl)) (eX (cK (dQ (Ht rfl) (fun he=>?_) (fun he=>?_)))))
  ·have hjn : j < n := by simp only [decide_eq_true_eq] at he; omega
   refine cU (cK (eG (ts (rm rfl (ra rfl (eX (ts (rm rfl (ro rfl (dG U_77 (Ht rfl) aA) (ro rfl (gR (Ht rfl) (cJ 0)) (eX (dQ (Ht rfl) (fun hl=>?_) (fun hl=>?_)))))))))))))
   ·have hll : 0 < l.length := by simp only [decide_eq_true_eq] at hl; omega
    have hlm:=Nat.mod_lt (n * i + j) hll
    have hni:n * i ≤ 16:=Nat.le_trans (Nat.mul_le_mul (show n ≤ 4 by omega) (show i ≤ 4 by omega)) (by decide)
    have hq:(l.getD ((n * i + j) % l.length) Ll).q = Kv l (n * i + j):=by rw [Kv,if_neg zo]
    refine fJ (m:=17) (dp 6 rfl (cX (Ht rfl)) (dp 7 rfl (cX (Ht rfl)) (eA 34 0 35 1 rfl (gX U_78 Z_54 (Ht rfl) (Ht rfl) rfl zo (by rw [Nat.mul_one,Nat.zero_add])) ?_)))
    refine dq 36 2 rfl (jM A_54 Z_54 (Ht rfl) (j:=1) rfl) (dp 8 rfl (cX (Ht rfl)) (dp 1 rfl (cX (Ht rfl)) (dp 0 rfl (cX (Ht rfl)) (dp 7 rfl (cX (Ht rfl)) (eA 40 6 41 7 rfl (jI (Ht rfl) (Ht rfl) z6) (dp 8 rfl (cX (Ht rfl)) (eA 42 8 43 9 rfl (dV (Ht rfl) (Ht rfl) z6) (dp 1 rfl (cX (Ht rfl)) (dq 45 11 rfl (dG U_77 (Ht rfl) aA) (eA 44 10 46 12 rfl (lG (Ht rfl) (Ht rfl) zo) ?_))))))))))
    refine eA 39 5 47 13 rfl (dZ U_77 Z_23 (Ht rfl) (Ht rfl) rfl (dY (dU (d:=Ll) hlm))) (dq 48 14 rfl (dJ A_23 Z_23 (Ht rfl)) (dq 49 15 rfl (cZ Tryz.call14 (Hn (r:=l.getD ((n * i + j) % l.length) Ll)) ⟨(Ht rfl),trivial⟩) ?_))
    refine fW bC rfl (by kernel_rfl) (zF (zF (zF (zF (aJ (aV (ro rfl (fA U_54 Z_32 (Ht rfl) (Ht rfl) rfl (i:=2) rfl (by rw [List.length_map,eD]; omega) rfl) ?_)))))))
    refine oH Z_32 (Ht rfl) (Ht rfl) (El.ag rfl) (i:=2) rfl rfl (by rw [List.length_map,eD]; omega) rfl ?_
    refine eX (cD (cY (ro rfl (dV (Ht rfl) (cJ 1) z6) (rm rfl (eX (gQ (j + 1) hjn zo (zS rfl) (aU (aH rfl) (aU (fun _ _ _ h=>h) (aU (bN (by rw [iH,hq]; exact congrArg _ (kO (f:=(fun k=>Kv l (n * i + k)))))) aY)))))))))
   ·have hll : l.length = 0 := by simp only [decide_eq_false_iff_not] at hl; omega
    have hq:Kv l (n * i + j) = Qi.zero:=by rw [Kv,if_pos hll]
    refine cU (cD (cY (ro rfl (dV (Ht rfl) (cJ 1) z6) (rm rfl (eX (gQ (j + 1) hjn zo (zS rfl) (aU (aH rfl) (aU (fun _ _ _ h=>h) (aU (bN (by rw [Pq (f:=(fun k=>Kv l (n * i + k))) hq])) aY)))))))))
  ·obtain rfl : n = j := by simp only [decide_eq_false_iff_not] at he; omega
   rw [kN (fun k=>Kv l (n * i + k))]
   refine gG rfl (cD (gF 1 2 rfl rfl (by decide) (by simp only [dA,List.length_map,eD]; omega) ?_))
   refine cY (ro rfl (dV (Ht rfl) (cJ 1) z6) (rm rfl (eX (dB [0,1] rfl (by decide) (gQ (i + 1) hin zo (zS rfl) (aU (aH rfl) (aU (cI (by rw [iG]; exact congrArg _ (kO (f:=(fun i=>tab n fun k=>Kv l (n * i + k)))))) aY)))))))
 ·obtain rfl : n = i := by simp only [decide_eq_false_iff_not] at hd; omega
  rw [kN]
  refine gG rfl (cK (gW (i:=1) (tt:=6) rfl rfl (iQ (s:=5) (M:=lT n l) (sI n l).1.symm) (cY (rm rfl (ro rfl (cZ Tryz.call116 (a07 (n:=n) zo) ⟨(Ht rfl),trivial⟩) (rm rfl (ro rfl (cZ Tryz.call98 hnw ⟨(Ht rfl),(Ht rfl),trivial⟩) (rm rfl (ro rfl (dK (Ht rfl) rfl) (ro rfl (dK (Ht rfl) rfl) (rn rfl (eW (Ts:=[Is (.slice none 0 0),Is (.slice none 0 0)]) O_80 rfl (fun V=>aW zd (aW zd (aG)))) fun B9=>(gZ Z_80 (Ht rfl) (Ht rfl) rfl (i:=2) rfl (aK rfl) rfl rfl ?_))))))))))))
  refine ra rfl (eX (ts (ro rfl (eJ A_80 Z_80 (Ht rfl) (i:=2) rfl rfl rfl) (rm rfl (gZ Z_80 (Ht rfl) (Ht rfl) rfl (i:=0) rfl (aK rfl) rfl rfl (ra rfl (eX ?_)))))))
  exact bE rfl (fU A_80 Z_80 rfl (i:=0) rfl rfl) (eU rfl)
theorem Bx  : bA Tryz.prog 38 [] (aC true):=by
 have hzl:=lF 2
 have hfz:=Au 2
 have hfs:=Ip 2 Xr
 have hsh:fO (lT 2 Xr) (lU 2).length (lU 2).length:=by rw [hzl]; exact sI 2 Xr
 have hO:=Zx (z:=lU 2) (s:=lT 2 Xr) (t:=Qi.ofInt 290) (L:=2) hfz hfs Mw (by decide) (by decide) hsh zo
 rw [Zs,jE,jE,jE,if_pos rfl,if_pos rfl,if_pos rfl,hzl] at hO
 have hcs:fO twC (lU 2).length (lU 2).length:=by rw [hzl]; exact Du
 have hfc : bS twC 1000 := by
  rw [twC]; exact (Rj Mw (Dk hfz hfs (by decide) zo) (by decide)).le (by decide)
 have hF:=Bw (z:=lU 2) (s:=lT 2 Xr) (c:=twC) (g:=Qi.ofInt 0) (t0:=Qi.ofInt 290) (L:=1000) (hfz.le (by decide)) (hfs.le (by decide)) hfc (a1o.le (by decide)) (Mw.le (by decide)) (by decide) (by decide) hsh hcs zo
 rw [a2q] at hF
 refine bA.intro Tryz.func38 rfl Tryz.ntmps38 rfl (fun cx=>(ts (ro rfl (cQ cV) (eX (ts (ro rfl (Hd ) (ro rfl (qQ cV cV) (ro rfl (qQ cV cV) (ro rfl (Hd ) (ro rfl (cL (xs:=[.tmp 8,.tmp 9,.tmp 10,.tmp 11]) U_77 Z_23 O_23 (cW (Ht rfl) (cW (Ht rfl) (cW (Ht rfl) (cW (Ht rfl) cG)))) rfl rfl rfl) (ro rfl (cZ Tryz.call39 (Ns (n:=2) (l:=Xr) (by decide) (by decide)) ⟨(cJ 2),(Ht rfl),trivial⟩) (rm rfl (ro rfl (dK (Ht rfl) rfl) ?_)))))))))))))
 refine ro rfl (dK (Ht rfl) rfl) (rn rfl (eW (Ts:=[Is (.slice none 0 0),Is (.slice none 0 0)]) O_80 rfl (fun V=>aW zd (aW zd (aG)))) fun B1=>(gZ Z_80 (Ht rfl) (Ht rfl) rfl (i:=0) rfl (aK rfl) rfl rfl (ra rfl (eX (cK (Y.D_start (m:=8) [] (bY (Ei:=[(1,_)]) rfl rfl (bQ (bJ rfl rfl) bX) rfl rfl (dX rfl (eJ A_80 Z_80 (Ht rfl) (i:=0) rfl rfl rfl)) (bY (Ei:=[]) rfl rfl bX rfl rfl (dX rfl (cZ K_36 (gY (n:=290) (by decide) (by decide)) ⟨(cJ 290),trivial⟩)) ?_))))))))
 refine bY (Ei:=[(17,_),(18,_)]) rfl rfl (bQ (bZ 0 rfl rfl) (bQ (bZ 1 rfl rfl) bX)) rfl rfl (dX rfl (cZ Tryz.call100 hO ⟨(Ht rfl),(Ht rfl),trivial⟩)) (bY (Ei:=[(19,_)]) rfl rfl (bQ (bZ 2 rfl rfl) bX) rfl rfl (dX rfl (cX (Ht rfl))) (bY (Ei:=[(16,_)]) rfl rfl (bQ (bZ 3 rfl rfl) bX) rfl rfl (dX rfl (dK (Ht rfl) rfl)) (bY (Ei:=[(16,_)]) rfl rfl (bQ (bZ 3 rfl rfl) bX) rfl rfl (dX rfl (dK (Ht rfl) rfl)) (Y.D_newp (Ei:=[]) (fun bb=>box bb 84 [cC (lU 2),cH (lT 2 Xr),cH twC]) 7 rfl rfl rfl bX rfl rfl (by kernel_rfl) (eW (Ts:=[Is (.slice none 0 0),Is (.slice none 0 0),Is (.slice none 0 0)]) O_84 rfl (fun V=>aW zd (aW zd (aW zd (aG))))) ?_))))
 refine Y.D_putN (Ei:=[(20,_)]) 6 rfl rfl rfl rfl rfl rfl (bQ (bZ 4 rfl rfl) bX) (fun bb=>rM Z_84 (Ht rfl) (Ht rfl) rfl (i:=0) rfl (aK rfl) rfl rfl) (Y.D_done bC rfl (by kernel_rfl) rfl (by simp [Y.okP]) rfl rfl (bU (bU (bU (bU (bU (bU (Y.F_newp (fun B3=>Y.F_putN (Y.F_nil ?_))))))))))
 refine ra rfl (eX (cK (Y.D_start (m:=9) [] (bY (Ei:=[(3,_)]) rfl rfl (bQ (bJ rfl rfl) bX) rfl rfl (dX rfl (eJ A_84 Z_84 (Ht rfl) (i:=1) rfl rfl rfl)) (bY (Ei:=[]) rfl rfl bX rfl rfl (dX rfl (cZ K_36 (gY (n:=0) (by decide) (by decide)) ⟨(cJ 0),trivial⟩)) (bY (Ei:=[]) rfl rfl bX rfl rfl (dX rfl (cZ K_36 (gY (n:=290) (by decide) (by decide)) ⟨(cJ 290),trivial⟩)) (bY (Ei:=[(23,_),(24,_),(25,_)]) rfl rfl (bQ (bZ 0 rfl rfl) (bQ (bZ 1 rfl rfl) (bQ (bZ 2 rfl rfl) bX))) rfl rfl (dX rfl (cZ Tryz.call44 hF ⟨(Ht rfl),(Ht rfl),(Ht rfl),trivial⟩)) ?_)))))))
 refine bY (Ei:=[(26,_)]) rfl rfl (bQ (bZ 3 rfl rfl) bX) rfl rfl (dX rfl (cX (Ht rfl))) (bY (Ei:=[(22,_)]) rfl rfl (bQ (bZ 4 rfl rfl) bX) rfl rfl (dX rfl (dK (Ht rfl) rfl)) (bY (Ei:=[(22,_)]) rfl rfl (bQ (bZ 4 rfl rfl) bX) rfl rfl (dX rfl (dK (Ht rfl) rfl)) (Y.D_newp (Ei:=[]) (fun bb=>box bb 32 [aC (decide ((Qi.ofInt 4).a < 0)),aI (Qi.ofInt 4).a.natAbs,aC (decide ((Qi.ofInt 4).b < 0)),aI (Qi.ofInt 4).b.natAbs,aI (du (Qi.ofInt 4))]) 8 rfl rfl rfl bX rfl rfl (by kernel_rfl) (eW (Ts:=[Is (.bool false),Is (.slice none 0 0),Is (.bool false),Is (.slice none 0 0),Is (.slice none 0 0)]) O_32 rfl (fun V=>aW zd (aW zd (aW zd (aW zd (aW zd (aG))))))) ?_)))
 refine Y.D_putN (Ei:=[(27,_)]) 7 rfl rfl rfl rfl rfl rfl (bQ (bZ 5 rfl rfl) bX) (fun bb=>rM Z_32 (Ht rfl) (Ht rfl) rfl (i:=0) rfl (aK rfl) rfl rfl) (Y.D_done bC rfl (by kernel_rfl) rfl (by simp [Y.okP]) rfl rfl (bU (bU (bU (bU (bU (bU (bU (Y.F_newp (fun B5=>Y.F_putN (Y.F_nil ?_)))))))))))
 refine ra rfl (eX (ts (rm rfl (ro rfl (kX (Ht rfl) cV) (rm rfl (fQ rfl rfl (eK rfl rfl (Ht rfl) (fun h=>cX (Ht rfl))) (fQ rfl rfl (eK rfl rfl (Ht rfl) (fun h=>kX (fV rfl h) cV)) (ro rfl (fT (Ht rfl) (fun h=>(fV rfl h))) (rm rfl (fQ rfl rfl (eK rfl rfl (Ht rfl) (fun h=>eJ A_32 Z_32 (Ht rfl) (i:=2) rfl rfl rfl)) (fQ rfl rfl (eK rfl rfl (Ht rfl) (fun h=>cZ Tryz.call92 (a00 (x:=Qi.ofInt 4) (L:=2) (hx:=(@fitInt 4).le (by decide)) (by decide)) ⟨(fV rfl h),trivial⟩)) (fQ rfl rfl (eK rfl rfl (Ht rfl) (fun h=>a0L (fV rfl h) (aM.cS (l:=[52]) rfl))) ?_))))))))))))
 refine ro rfl (fT (Ht rfl) (fun h=>(fV rfl h))) (ra rfl (eX (fG rfl (fZ (eU rfl) ?_))))
 exact (gD (by rw [a1p]; rfl))
end
section
open Go Go.RowKit
theorem Ti {x:Qi} {L:Nat} [hx:aE x L] (h:L ≤ 8796093022208):bA Tryz.prog 94 [aF x] (aC (kH x)):=by
 refine bA.intro Tryz.func94 rfl Tryz.ntmps94 rfl (fun cx=>(ts (rn rfl (fK (Ht rfl)) fun B1=>(ro rfl (cQ cV) (eX (cK (fJ (m:=5) (dp 1 rfl (eJ A_32 Z_32 (Ht rfl) (i:=0) rfl rfl rfl) (dq 3 0 rfl (cZ Tryz.call35 vN ⟨(Ht rfl),trivial⟩) (dq 4 1 rfl (cX (Ht rfl)) (C.D_step (Ei:=[(1,_),(5,_)]) rfl rfl (bV (bK rfl rfl) (bV (bG 2 rfl rfl) bW)) (eK rfl rfl (Ht rfl) (fun h=>eJ A_32 Z_32 (Ht rfl) (i:=0) rfl rfl rfl)) (C.D_step (Ei:=[(5,_)]) rfl rfl (bV (bG 2 rfl rfl) bW) (eK rfl rfl (Ht rfl) (fun h=>cZ K_36 (gY (n:=0) (by decide) (by decide)) ⟨(cJ 0),trivial⟩)) ?_))))))))))))
 refine fW bC rfl (by kernel_rfl) (zF (aJ (aV (fQ rfl rfl (eK rfl rfl (Ht rfl) (fun h=>cZ K_30 (tV (x:=x) (y:=Qi.ofInt 0) (L:=L) (M:=1) (hy:=(aE.zero (Nat.le_refl 1):aE (Qi.ofInt 0) 1)) zo) ⟨(fV rfl h),(fV rfl h),trivial⟩)) (fQ rfl rfl (eK rfl rfl (Ht rfl) (fun h=>lV (fV rfl h) cV)) (ro rfl (fT (Ht rfl) (fun h=>(fV rfl h))) (ra rfl (eX (fG rfl (fZ (eU rfl) ?_))))))))))
 exact (gD (Fx x))
theorem zY {x y:Qi} {L M:Nat} [hx:aE x L] [hy:aE y M] (h:L + 3 * M + 2 ≤ 17592186044415):bA Tryz.prog 80 [aF x,aF y] (aF (x / y)):=by
 refine bA.intro Tryz.func80 rfl Tryz.ntmps80 rfl (fun cx=>(ts (rn rfl (fK (Ht rfl)) fun B2=>(rn rfl (fK (Ht rfl)) fun B3=>(rn rfl (eW (Ts:=[Is (.bool false),Is (.slice none 0 0),Is (.bool false),Is (.slice none 0 0),Is (.slice none 0 0)]) O_32 rfl (fun V=>aW zd (aW zd (aW zd (aW zd (aW zd (aG))))))) fun B4=>(eX (ts (ro rfl (eJ A_32 Z_32 (Ht rfl) (i:=0) rfl rfl rfl) (ro rfl (eJ A_32 Z_32 (Ht rfl) (i:=1) rfl rfl rfl) ?_)))))))))
 refine ro rfl (cZ Tryz.call142 (Bv zo) ⟨(Ht rfl),(Ht rfl),trivial⟩) (rm rfl (ro rfl (dK (Ht rfl) rfl) (ro rfl (dK (Ht rfl) rfl) (rn rfl (eW (Ts:=[Is (.bool false),Is (.slice none 0 0),Is (.bool false),Is (.slice none 0 0),Is (.slice none 0 0)]) O_32 rfl (fun V=>aW zd (aW zd (aW zd (aW zd (aW zd (aG))))))) fun B5=>(gZ Z_32 (Ht rfl) (Ht rfl) rfl (i:=3) rfl (aK rfl) rfl rfl (ra rfl (eX ?_)))))))
 refine ts (ro rfl (eJ A_32 Z_32 (Ht rfl) (i:=3) rfl rfl rfl) (gZ Z_32 (Ht rfl) (Ht rfl) rfl (i:=2) rfl (aK rfl) rfl rfl (eX ?_)))
 exact fG rfl (fU A_32 Z_32 rfl (i:=2) rfl rfl)
end
section
open Go Go.RowKit
def Gv (k:FloatKind) (Q:Nat → Prop):Ty:=⟨fun v _=>∃ b,v = .float k b ∧ Q b,fun h _=>h⟩
def Mj (k:FloatKind) (Q:Nat → Nat → Prop):Ty:=⟨fun v _=>∃ a b,v = .complex k a b ∧ Q a b,fun h _=>h⟩
abbrev nP (k:FloatKind) (b:Nat):Ty:=Gv k (fun x=>x = b)
instance shFlT (k:FloatKind) (Q:Nat → Prop):cM (Gv k Q) 1 false:=eC fun v V h=>by obtain ⟨b,rfl,_⟩:=h; trivial
instance shCxT (k:FloatKind) (Q:Nat → Nat → Prop):cM (Mj k Q) 1 false:=eC fun v V h=>by obtain ⟨a,b,rfl,_⟩:=h; trivial
theorem aM.cF {E:bR} {k:FloatKind} {b:Nat}:aM E (.const (.float k b)) (nP k b):=fun _ _ _ _=>⟨b,rfl,rfl⟩
theorem Yv {k:FloatKind} {b:Nat}:∀ v V,(Is (.float k b)).p v V → (nP k b).p v V:=fun _ _ h=>⟨b,h,rfl⟩
theorem pS {k:FloatKind} {Q R:Nat → Prop} (h:∀ b,Q b → R b):∀ v V,(Gv k Q).p v V → (Gv k R).p v V:=fun _ _ ⟨b,e,q⟩=>⟨b,e,h b q⟩
theorem Uk {k:FloatKind} {Q R:Nat → Nat → Prop} (h:∀ a b,Q a b → R a b):∀ v V,(Mj k Q).p v V → (Mj k R).p v V:=fun _ _ ⟨a,b,e,q⟩=>⟨a,b,e,h a b q⟩
def mY (s k : FloatKind) (p a : Nat) : Prop :=
 if s = k then a = p else match s.decode p with
 | .nan _ _=>∃ t,a = (Question.nanConv k p).cut t
 | .infinity n=>a = k.encode (.infinity n)
 | .number n m e=>if (k.decode (k.encode (.number n m e))).isInfinity then ∃ t,a = (Question.floatToFloat p).cut t else a = k.encode (.number n m e)
structure Ka (P:Program) (f:FuncId) (e:Array Value → Sem Value):Prop where
 run:∀ args w,(callFunc f args).run P w = ((e args).run P w).andThen fun v w'=>.ok (.value v) w'
@[irreducible] def Ms (a:Nat):Nat:=a % 9223372036854775808
theorem zP (a:Nat):Ms a = a % 9223372036854775808:=by unfold Ms; rfl
section
variable {P:Program} {R:eP} {cx:Cx} {n:Nat} {k:List It} {E:bR} {H:Hp} {ops:Array Oper} {o:Oper} {rest:List Oper}
theorem Dj {T : Ty} (h : ∀ (a : Act) (V : aL) (w : World), cT n E V a → ∃ v w', (execOp a.eval o).run P w = .ok (.value v) w' ∧ (∀ cx H, fC cx V H w → fC cx V H w') ∧ T.p v V) : aB P n E H o T :=
 fun cx X a w V hi hs K Q hK => by
  obtain ⟨v,w',h1,h3,h2⟩:=h a V w hs
  simp only [Oper.wp,h1,Oper.upon_value]
  exact hK v w' V (h3 _ _ hi) (jZ.refl V) h2
theorem rE (s k:FloatKind) (p:Nat) (w:World):∃ a w',(Conv.floatToFloat s p k).run P w = .ok (.float k a) w' ∧ (∀ cx V H,fC cx V H w → fC cx V H w') ∧ mY s k p a:=by
 unfold Conv.floatToFloat mY
 split
 ·exact ⟨p,w,rfl,fun _ _ _ h=>h,rfl⟩
 ·cases s.decode p with
  | nan a b=>exact ⟨(Question.nanConv k p).cut (w.tape w.drawn (.nanConv k p)),w.drew,by simp [Sem.run_bind,run_choose_drew,Question.forced,Result.andThen],fun _ _ _ h=>h.drew,_,rfl⟩
  | infinity a=>exact ⟨_,w,rfl,fun _ _ _ h=>h,rfl⟩
  | number a b c =>
   simp only
   split
   ·exact ⟨(Question.floatToFloat p).cut (w.tape w.drawn (.floatToFloat p)),w.drew,by simp [Sem.run_bind,run_choose_drew,Question.forced,Result.andThen],fun _ _ _ h=>h.drew,_,rfl⟩
   ·exact ⟨_,w,rfl,fun _ _ _ h=>h,rfl⟩
section
variable {d:Option Tmp} {t tx ty:TypeId} {pos:String} {af:Array Edge} {g:Option (Nat × Bool)}
theorem Fr {x y : Operand} {k : FloatKind} {Q S : Nat → Prop} {tys : Array TypeId} (hx : aM E x (Gv k Q)) (hy : aM E y (Gv k S)) :
  aB P n E H ⟨d,.call ⟨.builtin .complex,#[x,y],tys⟩,t,pos,af,g⟩ (Mj k (fun a b=>Q a ∧ S b)) :=
 bM fun c V w hs => by
  obtain ⟨a,ex,qa⟩:=hx n V c hs
  obtain ⟨b,ey,qb⟩:=hy n V c hs
  have e : ∀ tt, Builtin.complex_ tys tt #[.float k a, .float k b] = pure (.complex k a b) := fun tt => by
   have : Builtin.complex_ tys tt #[.float k a, .float k b] = (if k = k then pure (.complex k a b) else stuck "complex: parts of different kinds") := rfl
   rw [this,if_pos rfl]
  exact ⟨.complex k a b,by simp [execOp,resolve,ex,ey,invoke,builtin,e,Sem.run_bind,Result.andThen],a,b,rfl,qa,qb⟩
theorem Jg {x : Operand} {k : FloatKind} {Q : Nat → Nat → Prop} {tys : Array TypeId} (hx : aM E x (Mj k Q)) :
  aB P n E H ⟨d,.call ⟨.builtin .real,#[x],tys⟩,t,pos,af,g⟩ (Gv k (fun a=>∃ b,Q a b)) :=
 bM fun c V w hs => by
  obtain ⟨a,b,ex,qa⟩:=hx n V c hs
  have e:∀ tt,Builtin.real_ tys tt #[.complex k a b] = pure (.float k a):=fun tt=>rfl
  exact ⟨.float k a,by simp [execOp,resolve,ex,invoke,builtin,e,Sem.run_bind,Result.andThen],a,rfl,b,qa⟩
theorem Jb {x : Operand} {k : FloatKind} {Q : Nat → Nat → Prop} {tys : Array TypeId} (hx : aM E x (Mj k Q)) :
  aB P n E H ⟨d,.call ⟨.builtin .imag,#[x],tys⟩,t,pos,af,g⟩ (Gv k (fun b=>∃ a,Q a b)) :=
 bM fun c V w hs => by
  obtain ⟨a,b,ex,qa⟩:=hx n V c hs
  have e:∀ tt,Builtin.imag_ tys tt #[.complex k a b] = pure (.float k b):=fun tt=>rfl
  exact ⟨.float k b,by simp [execOp,resolve,ex,invoke,builtin,e,Sem.run_bind,Result.andThen],b,rfl,a,qa⟩
theorem Qf {x : Operand} {s k : FloatKind} {Q : Nat → Nat → Prop} (hs : ∀ w, (underlying tx).run P w = .ok (.complex s) w) (hd : ∀ w, (underlying ty).run P w = .ok (.complex k) w) (hx : aM E x (Mj s Q)) :
  aB P n E H ⟨d,.convert tx ty x,t,pos,af,g⟩ (Mj k (fun a b=>∃ p q,Q p q ∧ mY s k p a ∧ mY s k q b)) :=
 Dj fun c V w hsl => by
  obtain ⟨p,q,ex,qa⟩:=hx n V c hsl
  obtain ⟨a,w1,h1,i1,c1⟩:=rE (P:=P) s k p w
  obtain ⟨b,w2,h2,i2,c2⟩:=rE (P:=P) s k q w1
  exact ⟨.complex k a b,w2,by simp [execOp,ex,convert,Sem.run_bind,hs,hd,Conv.complexToComplex,h1,h2,Result.andThen],fun _ _ h=>i2 _ _ _ (i1 _ _ _ h),a,b,rfl,p,q,qa,c1,c2⟩
theorem Qg {x : Operand} {s k : FloatKind} {Q : Nat → Prop} (hs : ∀ w, (underlying tx).run P w = .ok (.float s) w) (hd : ∀ w, (underlying ty).run P w = .ok (.float k) w) (hx : aM E x (Gv s Q)) :
  aB P n E H ⟨d,.convert tx ty x,t,pos,af,g⟩ (Gv k (fun a=>∃ p,Q p ∧ mY s k p a)) :=
 Dj fun c V w hsl => by
  obtain ⟨p,ex,qa⟩:=hx n V c hsl
  obtain ⟨a,w1,h1,i1,c1⟩:=rE (P:=P) s k p w
  exact ⟨.float k a,w1,by simp [execOp,ex,convert,Sem.run_bind,hs,hd,h1,Result.andThen],fun _ _ h=>i1 _ _ _ h,a,rfl,p,qa,c1⟩
theorem yZ {x : Operand} {s : IntKind} {k : FloatKind} {m : Int} {kd : IntKind} (hs : ∀ w, (underlying tx).run P w = .ok (.int s) w) (hd : ∀ w, (underlying ty).run P w = .ok (.float k) w) (hx : aM E x (aD kd m)) :
  aB P n E H ⟨d,.convert tx ty x,t,pos,af,g⟩ (nP k (k.nearest m)) :=
 bM fun c V w hsl => by
  have ex:c.eval x = .int kd m:=hx n V c hsl
  exact ⟨.float k (k.nearest m),by simp [execOp,ex,convert,Sem.run_bind,hs,hd,Conv.intToFloat],_,rfl,rfl⟩
def Up (op : BinOp) (k : FloatKind) (x y : Nat) : Option Bool :=
 let c:=k.format.order x y
 match op with
 | .eql=>some (c == some .eq)
 | .neq=>some (c != some .eq)
 | .lss=>some (c == some .lt)
 | .leq=>some (c == some .lt || c == some .eq)
 | .gtr=>some (c == some .gt)
 | .geq=>some (c == some .gt || c == some .eq)
 | _=>none
theorem sK {op : BinOp} {k : FloatKind} {Q S : Nat → Prop} {r : Bool} {x y : Operand} (hx : aM E x (Gv k Q)) (hy : aM E y (Gv k S)) (h : ∀ a b, Q a → S b → Up op k a b = some r) :
  aB P n E H ⟨d,.binOp op tx x y ty,t,pos,af,g⟩ (aC r) :=
 bM fun c V w hs => by
  obtain ⟨a,ex,qa⟩:=hx n V c hs
  obtain ⟨b,ey,qb⟩:=hy n V c hs
  have hr:=h a b qa qb
  refine ⟨.bool r,?_,rfl⟩
  have hg:∀ u v:Operand,eqGuard op tx u v (.float k a) (.float k b) = pure ():=fun u v=>by unfold eqGuard; split <;> rfl
  cases op <;> simp only [Up,Option.some.injEq,reduceCtorEq] at hr <;> subst hr <;> simp [execOp,ex,ey,binOp,Op.floatCmp,hg,Sem.run_bind,Result.andThen]
theorem We {x : Operand} {k : FloatKind} {Q : Nat → Prop} {U : Nat → Prop} (hx : aM E x (Gv k Q)) (h : ∀ a, Q a → ∀ w, ∃ r, (Op.unary .neg (.float k a)).run P w = .ok (.float k r) w ∧ U r) :
  aB P n E H ⟨d,.unOp .neg tx x,t,pos,af,g⟩ (Gv k U) :=
 bM fun c V w hs => by
  obtain ⟨a,ex,qa⟩:=hx n V c hs
  obtain ⟨r,hr,hu⟩:=h a qa w
  exact ⟨.float k r,by simp [execOp,ex,hr,Sem.run_bind,Result.andThen],r,rfl,hu⟩
theorem Qm {f : FuncId} {xs : List Operand} {tys : Array TypeId} {T : Ty} {e : Array Value → Sem Value} (hc : Ka P f e)
  (h:∀ (a:Act) (V:aL) (w:World),cT n E V a → ∃ v,(e (xs.map a.eval).toArray).run P w = .ok v w ∧ T.p v V) :
  aB P n E H ⟨d,.call ⟨.value (.func f),xs.toArray,tys⟩,t,pos,af,g⟩ T :=
 bM fun a V w hs => by
  obtain ⟨v,h1,h2⟩:=h a V w hs
  exact ⟨v,by simp [execOp,resolve,Act.eval,Deferred.ofValue,invoke,hc.run,h1,Result.andThen],h2⟩
theorem tL {f : FuncId} {x : Operand} {tys : Array TypeId} {b : Nat} (hc : Ka P f Extern.MathFloatBits.float64bits) (hx : aM E x (nP .f64 b)) :
  aB P n E H ⟨d,.call ⟨.value (.func f),[x].toArray,tys⟩,t,pos,af,g⟩ (NT .u64 b) :=
 Qm hc fun a V w hs => by
  obtain ⟨c,ex,rfl⟩:=hx n V a hs
  have e:Extern.MathFloatBits.float64bits #[.float .f64 c] = pure (.int .u64 c):=rfl
  exact ⟨.int .u64 c,by simp [ex,e],rfl⟩
theorem mT {f : FuncId} {x : Operand} {tys : Array TypeId} {b : Nat} (hc : Ka P f Extern.MathFloatBits.float64frombits) (hx : aM E x (NT .u64 b)) :
  aB P n E H ⟨d,.call ⟨.value (.func f),[x].toArray,tys⟩,t,pos,af,g⟩ (nP .f64 b) :=
 Qm hc fun a V w hs => by
  have ex:a.eval x = .int .u64 (b:Int):=hx n V a hs
  have e:Extern.MathFloatBits.float64frombits #[.int .u64 (b:Int)] = pure (.float .f64 b):=rfl
  exact ⟨.float .f64 b,by simp [ex,e],b,rfl,rfl⟩
theorem Qe {x : Operand} {a : Nat} (hx : aM E x (NT .u64 a)) (ha : a < 18446744073709551616) : aB P n E H ⟨d, .binOp .andNot tx x (.const (.int .u64 9223372036854775808)) ty, t, pos, af, g⟩ (NT .u64 (Ms a)) :=
 iL hx (cJ 9223372036854775808) fun w => by
  rw [zP]
  have e : IntKind.u64.wrap (BitVec.ofInt IntKind.u64.bits (a : Int) &&& ~~~BitVec.ofInt IntKind.u64.bits ((9223372036854775808 : Nat) : Int)).toNat = ((a % 9223372036854775808 : Nat) : Int) := by
   have h1:(~~~BitVec.ofInt IntKind.u64.bits ((9223372036854775808:Nat):Int)).toNat = 2 ^ 63 - 1:=by decide
   have h2:(BitVec.ofInt IntKind.u64.bits (a:Int)).toNat = a:=gH _ _ (by show a < 18446744073709551616; exact ha)
   rw [BitVec.toNat_and,h2,h1,Nat.and_two_pow_sub_one_eq_mod,show (2:Nat) ^ 63 = 9223372036854775808 by decide]
   exact nN (by show _ < 18446744073709551616; omega)
  rw [← e]
  simp [eqGuard,binOp,Op.intBits,pure,Sem.run,bind,Sem.bind]
theorem Le {x y : Operand} {op : BinOp} {k : FloatKind} {a b r : Nat} (hx : aM E x (nP k a)) (hy : aM E y (nP k b)) (h : floatBits op k a b = some r) : aB P n E H ⟨d, .binOp op tx x y ty, t, pos, af, g⟩ (nP k r) :=
 bM fun c V w hs => by
  obtain ⟨a',ex,rfl⟩:=hx n V c hs
  obtain ⟨b',ey,rfl⟩:=hy n V c hs
  have hr:=run_float_arith (P:=P) w op tx k a' b' r h
  have hg:∀ u v:Operand,eqGuard op tx u v (.float k a') (.float k b') = pure ():=fun u v=>by unfold eqGuard; split <;> rfl
  exact ⟨.float k r,by simp [execOp,ex,ey,hg,hr,Sem.run_bind,Result.andThen],r,rfl,rfl⟩
theorem Jc {x y z : Operand} {kd : IntKind} {a b c : Int} {tys : Array TypeId} (hx : aM E x (aD kd a)) (hy : aM E y (aD kd b)) (hz : aM E z (aD kd c)) : aB P n E H ⟨d, .call ⟨.builtin .max, #[x, y, z], tys⟩, t, pos, af, g⟩ (aD kd (max (max a b) c)) :=
 bM fun u V w hs => by
  have ex:u.eval x = .int kd a:=hx n V u hs
  have ey:u.eval y = .int kd b:=hy n V u hs
  have ez:u.eval z = .int kd c:=hz n V u hs
  refine ⟨.int kd (if c > (if b > a then b else a) then c else (if b > a then b else a)),?_,?_⟩
  ·simp [execOp,resolve,ex,ey,ez,invoke,builtin,Builtin.max_,Builtin.max2,Sem.run_bind,Result.andThen]
  ·show Value.int kd _ = Value.int kd _
   congr 1; split <;> split <;> omega
theorem qC {x y : Operand} {kd : IntKind} {a b : Int} {tys : Array TypeId} (hx : aM E x (aD kd a)) (hy : aM E y (aD kd b)) : aB P n E H ⟨d, .call ⟨.builtin .max, #[x, y], tys⟩, t, pos, af, g⟩ (aD kd (max a b)) :=
 bM fun u V w hs => by
  have ex:u.eval x = .int kd a:=hx n V u hs
  have ey:u.eval y = .int kd b:=hy n V u hs
  refine ⟨.int kd (if b > a then b else a),?_,?_⟩
  ·simp [execOp,resolve,ex,ey,invoke,builtin,Builtin.max_,Builtin.max2,Sem.run_bind,Result.andThen]
  ·show Value.int kd _ = Value.int kd _
   congr 1; split <;> omega
end
end
theorem Cp {P : Program} {f : FuncId} {fn : Func} {e : Array Value → Sem Value} (hf : P.funcs[f]? = some fn) (hname : (fn.name == "runtime.NumGoroutine") = false)
  (hb:fn.body.isNone = true) (hn:Extern.findNext fn = none) (he:Extern.find fn = some e):Ka P f e :=
 ⟨fun args w=>run_callFunc_extern hf hname hb hn he args w⟩
end
section
namespace Fl
open Ieee
@[irreducible] def Zb:Nat:=925
theorem Sn:Zb = 925:=by unfold Zb; rfl
def mg (f:Format) (r:Nat):Nat:=if r < f.binade then r else f.binade + r % f.binade
def up (f:Format) (r:Nat):Nat:=r / f.binade - 1
def nn (f:Format) (r:Nat):Nat:=mg f r * 2 ^ up f r
def rg (f:Format) (x:Nat):Nat:=x % f.signWeight
def ng (f:Format) (x:Nat):Bool:=x / f.signWeight % 2 == 1
def fin (f:Format) (x:Nat):Bool:=decide (rg f x < f.infRung)
def av (f:Format) (x:Nat):Int:=if ng f x then -(nn f (rg f x):Int) else nn f (rg f x)
theorem Hc (f:Format):0 < f.binade:=Nat.two_pow_pos _
theorem lX {f:Format} {x:Nat} (h:fin f x = true):f.read x = .number (ng f x) (mg f (rg f x)) (f.leastPlace + (up f (rg f x):Nat)):=by
 have h:rg f x < f.infRung:=by simpa [fin] using h
 have e : f.read x = (if rg f x < f.binade then .number (ng f x) (rg f x) f.leastPlace else if rg f x < f.infRung then
  .number (ng f x) (f.binade + rg f x % f.binade) (f.leastPlace + (rg f x / f.binade - 1:Nat)) else if rg f x = f.infRung then .infinity (ng f x) else .nan (ng f x) (rg f x - f.infRung)):=rfl
 rw [e]
 generalize rg f x = r at *
 unfold mg up
 by_cases hb:r < f.binade
 ·rw [if_pos hb,if_pos hb,Nat.div_eq_of_lt hb]; simp
 ·rw [if_neg hb,if_neg hb,if_pos h]
theorem pZ {f:Format} {r s:Nat} (h:r < s):nn f r < nn f s:=by
 have hb:=Hc f
 unfold nn mg up
 generalize f.binade = b at *
 have d1:=Nat.div_add_mod r b
 have d2:=Nat.div_add_mod s b
 have m1:=Nat.mod_lt r hb
 have m2:=Nat.mod_lt s hb
 by_cases hr:r < b
 ·rw [if_pos hr]
  have:r / b - 1 = 0:=by rw [Nat.div_eq_of_lt hr]
  rw [this]
  by_cases hs:s < b
  ·rw [if_pos hs,Nat.div_eq_of_lt hs]; simpa using h
  ·rw [if_neg hs]
   have:1 ≤ 2 ^ (s / b - 1):=Nat.two_pow_pos _
   have:=Nat.mul_le_mul (Nat.le_refl (b + s % b)) this
   omega
 ·have hs : ¬ s < b := by omega
  rw [if_neg hr,if_neg hs]
  have q1:1 ≤ r / b:=(Nat.le_div_iff_mul_le hb).2 zo
  have q2:r / b ≤ s / b:=Nat.div_le_div_right (Nat.le_of_lt h)
  rcases Nat.eq_or_lt_of_le q2 with e | l
  ·rw [← e]
   have:r % b < s % b:=by rw [← e] at d2; omega
   exact Nat.mul_lt_mul_of_pos_right zo (Nat.two_pow_pos _)
  ·have e1 : s / b - 1 = (r / b - 1) + 1 + (s / b - 1 - (r / b - 1) - 1) := by omega
   rw [e1,Nat.pow_add,Nat.pow_succ]
   have p1:=Nat.two_pow_pos (r / b - 1)
   have p2:=Nat.two_pow_pos (s / b - 1 - (r / b - 1) - 1)
   generalize 2 ^ (r / b - 1) = x at *
   generalize 2 ^ (s / b - 1 - (r / b - 1) - 1) = y at *
   have a1:(b + r % b) * x < (2 * b) * x:=Nat.mul_lt_mul_of_pos_right zo p1
   have a2:(2 * b) * x = b * (x * 2 * 1):=by grind
   have a3:b * (x * 2 * 1) ≤ (b + s % b) * (x * 2 * y):=Nat.mul_le_mul zo (Nat.mul_le_mul (Nat.le_refl _) p2)
   omega
theorem Ir {f:Format} {r s:Nat} (h:r ≤ s):nn f r ≤ nn f s:=by
 rcases Nat.eq_or_lt_of_le h with e | l
 ·rw [e]; exact Nat.le_refl _
 ·exact Nat.le_of_lt (pZ l)
theorem Kk (a b:Int) {c:Int} (h:0 < c):compare (a * c) (b * c) = compare a b:=by
 simp only [compare,compareOfLessAndEq]
 have e1:(a * c < b * c) ↔ a < b:=⟨fun k=>Int.lt_of_mul_lt_mul_right k (Int.le_of_lt h),fun k=>Int.mul_lt_mul_of_pos_right k h⟩
 have e2:(a * c = b * c) ↔ a = b:=⟨fun k=>Int.eq_of_mul_eq_mul_right (Int.ne_of_gt h) k,fun k=>by rw [k]⟩
 simp only [e1,e2]
theorem sQ (s:Bool) (m u w:Nat) (h:w ≤ u):(if s then -((m * 2 ^ u:Nat):Int) else ((m * 2 ^ u:Nat):Int)) = signed s m (u - w) * (2 ^ w:Nat):=by
 have e : m * 2 ^ u = (m <<< (u - w)) * 2 ^ w := by
  rw [Nat.shiftLeft_eq,Nat.mul_assoc,← Nat.pow_add]; congr 2; omega
 unfold signed
 rw [e]; push_cast
 cases s <;> simp [Int.neg_mul]
theorem tN {f:Format} {x y:Nat} (hx:fin f x = true) (hy:fin f y = true):f.order x y = some (compare (av f x) (av f y)):=by
 unfold Format.order
 rw [lX hx,lX hy]
 simp only [Datum.order]
 generalize f.leastPlace = L
 unfold av nn
 generalize mg f (rg f x) = m
 generalize mg f (rg f y) = n
 generalize up f (rg f x) = u
 generalize up f (rg f y) = v
 congr 1
 have hw:(0:Int) < ((2 ^ (min u v):Nat):Int):=by have:=Nat.two_pow_pos (min u v); omega
 rw [sQ (ng f x) m u (min u v) (Nat.min_le_left _ _),sQ (ng f y) n v (min u v) (Nat.min_le_right _ _),Kk _ _ hw]
 have e1:(L + (u:Int) - min (L + (u:Int)) (L + (v:Int))).toNat = u - min u v:=by omega
 have e2:(L + (v:Int) - min (L + (u:Int)) (L + (v:Int))).toNat = v - min u v:=by omega
 rw [e1,e2]
theorem rA {f:Format} {x:Nat} (hf:f.binade ≤ f.infRung) (h:fin f x = false):f.read x = (if rg f x = f.infRung then .infinity (ng f x) else .nan (ng f x) (rg f x - f.infRung)):=by
 have h:¬ rg f x < f.infRung:=by simpa [fin] using h
 have e : f.read x = (if rg f x < f.binade then .number (ng f x) (rg f x) f.leastPlace else if rg f x < f.infRung then
  .number (ng f x) (f.binade + rg f x % f.binade) (f.leastPlace + (rg f x / f.binade - 1:Nat)) else if rg f x = f.infRung then .infinity (ng f x) else .nan (ng f x) (rg f x - f.infRung)):=rfl
 rw [e,if_neg zo,if_neg h]
theorem bs:single.binade ≤ single.infRung:=by decide
theorem bd:double.binade ≤ double.infRung:=by decide
theorem a23:single.signWeight = 2147483648:=by decide
theorem pL:double.signWeight = 9223372036854775808:=by decide
theorem Vb:single.infRung = 2139095040:=by decide
theorem uK:double.infRung = 9218868437227405312:=by decide
theorem Ke:single.binade = 8388608:=by decide
theorem mR:double.binade = 4503599627370496:=by decide
theorem Od (a:Int):compare a a = .eq:=by simp [compare,compareOfLessAndEq]
theorem Fb (a b:Int):(compare a b == .lt) = decide (a < b):=by
 simp only [compare,compareOfLessAndEq]
 by_cases k:a < b
 ·rw [if_pos k]; simp [k]
 ·rw [if_neg k]
  by_cases k2:a = b
  ·rw [if_pos k2]; simp [k]
  ·rw [if_neg k2]; simp [k]
theorem a0a (a b:Int):(compare a b == .gt) = decide (b < a):=by
 simp only [compare,compareOfLessAndEq]
 by_cases k:a < b
 ·rw [if_pos k]; have : ¬ b < a := by omega
  simp [this]
 ·rw [if_neg k]
  by_cases k2:a = b
  ·rw [if_pos k2]; simp [k2]
  ·rw [if_neg k2]; have : b < a := by omega
   simp [this]
theorem Fv {f:Format} {x:Nat} (hf:f.binade ≤ f.infRung):(f.order x x != some .eq) = decide (f.infRung < rg f x):=by
 by_cases h:fin f x = true
 ·rw [tN h h, Od]
  have:rg f x < f.infRung:=by simpa [fin] using h
  have:¬ f.infRung < rg f x:=by omega
  simp [this]
 ·have h : fin f x = false := by simpa using h
  have h':¬ rg f x < f.infRung:=by simpa [fin] using h
  unfold Format.order
  rw [rA hf h]
  by_cases e:rg f x = f.infRung
  ·rw [if_pos e]; have : ¬ f.infRung < rg f x := by omega
   simp [Datum.order,this]
  ·rw [if_neg e]; have : f.infRung < rg f x := by omega
   simp [Datum.order,this]
theorem Mv (f:Format) (x:Nat):(av f x).natAbs = nn f (rg f x):=by unfold av; split <;> omega
theorem zU {f:Format} {x:Nat} (h:ng f x = false):av f x = nn f (rg f x):=by unfold av; rw [h]; rfl
theorem a1n (f:Format) (x:Nat):av f x ≤ nn f (rg f x) ∧ -(nn f (rg f x):Int) ≤ av f x:=by have:=Mv f x; omega
theorem a0i {f:Format} {x m:Nat} (hf:f.binade ≤ f.infRung) (hm:rg f m + 1 = f.infRung) (hn:ng f m = false):(f.order x m == some .gt) = (decide (rg f x = f.infRung) && !ng f x):=by
 have mf:fin f m = true:=by simp [fin]; omega
 by_cases h:fin f x = true
 ·rw [tN h mf]
  have h2:rg f x < f.infRung:=by simpa [fin] using h
  have h3:nn f (rg f x) ≤ nn f (rg f m):=Ir zo
  have h4:=a1n f x
  have h5:¬ rg f x = f.infRung:=by omega
  have h6:¬ av f m < av f x:=by rw [zU hn]; omega
  rw [Option.some_beq_some,a0a]; simp [h5,h6]
 ·have h : fin f x = false := by simpa using h
  unfold Format.order
  rw [rA hf h,lX mf]
  by_cases e:rg f x = f.infRung
  ·rw [if_pos e]; simp only [Datum.order,e,decide_true,Bool.true_and]; cases ng f x <;> rfl
  ·rw [if_neg e]; simp [Datum.order,e]
def nC (a:Nat):Nat:=a / 4503599627370496 % 2048
def tI (a:Nat):Nat:=if nC a = 0 then a % 4503599627370496 else 4503599627370496 + a % 4503599627370496
theorem Wu {a : Nat} (ha : a < 18446744073709551616) : rg double a = a % 9223372036854775808 ∧ ng double a = decide (9223372036854775808 ≤ a) ∧ rg double a / 4503599627370496 = nC a ∧
  rg double a % 4503599627370496 = a % 4503599627370496 ∧ mg double (rg double a) = tI a ∧ up double (rg double a) = nC a - 1 ∧ fin double a = decide (nC a ≠ 2047):=by
 have r:rg double a = a % 9223372036854775808:=by unfold rg; rw [pL]
 have n : ng double a = decide (9223372036854775808 ≤ a) := by
  unfold ng; rw [pL]
  by_cases h:9223372036854775808 ≤ a
  ·rw [show a / 9223372036854775808 % 2 = 1 by omega]; simp [h]
  ·rw [show a / 9223372036854775808 % 2 = 0 by omega]; simp [h]
 have q:rg double a / 4503599627370496 = nC a:=by rw [r]; unfold nC; omega
 have q2:rg double a % 4503599627370496 = a % 4503599627370496:=by rw [r]; omega
 refine ⟨r,n,q,q2,?_,?_,?_⟩
 ·unfold mg tI; rw [mR, q2, ← q]
  by_cases h:rg double a < 4503599627370496
  ·rw [if_pos h,if_pos (Nat.div_eq_of_lt h),← q2,Nat.mod_eq_of_lt h]
  ·rw [if_neg h,if_neg zo]
 ·unfold up; rw [mR,q]
 ·unfold fin; rw [uK, ← q, r]
  by_cases h:a % 9223372036854775808 < 9218868437227405312
  ·rw [decide_eq_true h]; symm; rw [decide_eq_true_eq]; omega
  ·rw [decide_eq_false h]; symm; rw [decide_eq_false_iff_not]; omega
theorem Km (s:Bool) (n:Nat):Toward.even.cut s n 0 = n:=by
 unfold Toward.cut
 simp only [Nat.zero_min,Nat.min_eq_left (Nat.zero_le _),Nat.shiftLeft_zero,Nat.div_one,Nat.mod_one]
 simp
theorem Px (s : Bool) {m u : Nat} (h0 : m ≠ 0) (hm : m < 16777216) (hu : u ≤ 253) :
  double.nearest s m (-149 + (u:Int)) = double.word s ((u + m.log2 + 873) * 4503599627370496 + m * 2 ^ (52 - m.log2)):=by
 have hl:m.log2 < 24:=(Nat.log2_lt h0).2 hm
 have l1:2 ^ m.log2 ≤ m:=Nat.log2_self_le h0
 have l2:m < 2 ^ (m.log2 + 1):=Nat.lt_log2_self
 unfold Format.nearest
 rw [if_neg h0]
 have xI:double.leastPlace = -1074:=by decide
 have hfb:((double.fractionBits:Nat):Int) = 52:=rfl
 rw [xI,hfb]
 have e1:max (-149 + (u:Int) + (m.log2:Int) - 52) (-1074) = (u:Int) + m.log2 - 201:=by omega
 simp only [e1]
 have e2:(-149 + (u:Int) - ((u:Int) + m.log2 - 201)).toNat = 52 - m.log2:=by omega
 have e3:((u:Int) + m.log2 - 201 - (-149 + (u:Int))).toNat = 0:=by omega
 have e4:((u:Int) + m.log2 - 201 - (-1074)).toNat = u + m.log2 + 873:=by omega
 rw [e2,e3,e4,Km,mR,uK,Nat.shiftLeft_eq]
 congr 1
 have:m * 2 ^ (52 - m.log2) < 2 ^ (m.log2 + 1) * 2 ^ (52 - m.log2):=Nat.mul_lt_mul_of_pos_right l2 (Nat.two_pow_pos _)
 rw [← Nat.pow_add,show m.log2 + 1 + (52 - m.log2) = 53 by omega] at this
 rw [Nat.min_eq_left]
 have:(2:Nat) ^ 53 = 9007199254740992:=by decide
 omega
theorem Fk (s : Bool) {m u a : Nat} (hm : m < 16777216) (hu : u ≤ 253) (ha : a = double.nearest s m (-149 + (u : Int))) :
  a < 18446744073709551616 ∧ rg double a < double.infRung ∧ ng double a = s ∧ nn double (rg double a) = m * 2 ^ u * 2 ^ Zb:=by
 by_cases h0:m = 0
 ·subst h0
  have:a = double.word s 0:=by rw [ha]; unfold Format.nearest; rw [if_pos rfl]
  unfold Format.word at this
  rw [pL] at this
  have e:rg double a = 0:=by unfold rg; rw [pL]; cases s <;> simp at this <;> omega
  refine ⟨by cases s <;> simp at this <;> omega,by rw [e,uK]; omega,?_,?_⟩
  ·unfold ng; rw [pL]; cases s <;> simp at this <;> subst this <;> rfl
  ·rw [e]; unfold nn mg; rw [if_pos (Hc _)]; simp
 ·rw [Px s h0 hm hu] at ha
  have hl:m.log2 < 24:=(Nat.log2_lt h0).2 hm
  have l1:2 ^ m.log2 ≤ m:=Nat.log2_self_le h0
  have l2:m < 2 ^ (m.log2 + 1):=Nat.lt_log2_self
  have b1:m * 2 ^ (52 - m.log2) < 2 ^ (m.log2 + 1) * 2 ^ (52 - m.log2):=Nat.mul_lt_mul_of_pos_right l2 (Nat.two_pow_pos _)
  rw [← Nat.pow_add,show m.log2 + 1 + (52 - m.log2) = 53 by omega,show (2:Nat) ^ 53 = 9007199254740992 by decide] at b1
  have b2:2 ^ m.log2 * 2 ^ (52 - m.log2) ≤ m * 2 ^ (52 - m.log2):=Nat.mul_le_mul_right _ l1
  rw [← Nat.pow_add,show m.log2 + (52 - m.log2) = 52 by omega,show (2:Nat) ^ 52 = 4503599627370496 by decide] at b2
  have b3 : m * 2 ^ (52 - m.log2) * 2 ^ (u + m.log2 + 873) = m * 2 ^ u * 2 ^ Zb := by
   rw [Nat.mul_assoc,Nat.mul_assoc,← Nat.pow_add,← Nat.pow_add,show 52 - m.log2 + (u + m.log2 + 873) = u + Zb by rw [Sn]; omega]
  generalize m * 2 ^ (52 - m.log2) = K at *
  have hr : rg double a = (u + m.log2 + 873) * 4503599627370496 + K := by
   unfold rg; rw [pL,ha]; unfold Format.word; rw [pL]
   cases s <;> simp <;> omega
  refine ⟨?_,?_,?_,?_⟩
  ·rw [ha]; unfold Format.word; rw [pL]; cases s <;> simp <;> omega
  ·rw [hr,uK]; omega
  ·unfold ng; rw [pL, ha]; unfold Format.word; rw [pL]
   cases s
   ·simp only [Bool.false_eq_true,if_false,beq_eq_false_iff_ne]; omega
   ·simp only [if_true,beq_iff_eq]; omega
  ·rw [hr]; unfold nn mg up; rw [mR, if_neg zo]
   have e1:((u + m.log2 + 873) * 4503599627370496 + K) % 4503599627370496 = K - 4503599627370496:=by omega
   have e2:((u + m.log2 + 873) * 4503599627370496 + K) / 4503599627370496 - 1 = u + m.log2 + 873:=by omega
   rw [e1,e2,Nat.add_sub_cancel' b2,b3]
theorem Zd {p a : Nat} (h : mY .f32 .f64 p a) : a < 18446744073709551616 ∧ fin double a = fin single p ∧
  (fin single p = true → ng double a = ng single p ∧ ∃ m u,m < 16777216 ∧ u ≤ 253 ∧ nn single (rg single p) = m * 2 ^ u ∧ nn double (rg double a) = m * 2 ^ u * 2 ^ Zb):=by
 have xI:single.leastPlace = -149:=by decide
 unfold mY at h
 rw [if_neg (by decide)] at h
 have hd:FloatKind.f32.decode p = single.read p:=rfl
 rw [hd] at h
 by_cases hf:fin single p = true
 ·rw [lX hf, xI] at h
  have hr:rg single p < 2139095040:=by rw [← Vb]; simpa [fin] using hf
  have hm:mg single (rg single p) < 16777216:=by unfold mg; rw [Ke]; split <;> omega
  have hu:up single (rg single p) ≤ 253:=by unfold up; rw [Ke]; omega
  obtain ⟨p1,p2,p3,p4⟩:=Fk (ng single p) hm hu rfl
  have hw:FloatKind.f64.encode (.number (ng single p) (mg single (rg single p)) (-149 + ((up single (rg single p):Nat):Int))) = double.nearest (ng single p) (mg single (rg single p)) (-149 + ((up single (rg single p):Nat):Int)):=rfl
  simp only at h
  rw [hw] at h
  have hdd:∀ b,FloatKind.f64.decode b = double.read b:=fun _=>rfl
  rw [hdd,lX (by simpa [fin] using p2)] at h
  simp only [Datum.isInfinity] at h
  have h':a = double.nearest (ng single p) (mg single (rg single p)) (-149 + ((up single (rg single p):Nat):Int)):=by simpa using h
  rw [h']
  refine ⟨p1,?_,fun _=>⟨p3,_,_,hm,hu,rfl,p4⟩⟩
  rw [hf]; simpa [fin] using p2
 ·have hf' : fin single p = false := by simpa using hf
  rw [rA bs hf'] at h
  refine ⟨?_,?_,fun k=>absurd k hf⟩
  ·by_cases e : rg single p = single.infRung
   ·rw [if_pos e] at h; simp only at h
    have:a = double.word (ng single p) double.infRung:=h
    rw [this]; unfold Format.word; rw [pL,uK]; split <;> omega
   ·rw [if_neg e] at h; simp only at h
    obtain ⟨t,rfl⟩:=h
    simp only [Question.cut]; omega
  ·rw [hf']; unfold fin rg; rw [pL, uK]; simp only [decide_eq_false_iff_not]
   by_cases e:rg single p = single.infRung
   ·rw [if_pos e] at h; simp only at h
    have:a = double.word (ng single p) double.infRung:=h
    rw [this]; unfold Format.word; rw [pL,uK]; split <;> omega
   ·rw [if_neg e] at h; simp only at h
    obtain ⟨t,rfl⟩:=h
    simp only [Question.cut]
    have y1:t / 2 % (2 ^ 52 - 1) < 4503599627370495:=Nat.mod_lt _ (by decide)
    have y2:t % 2 = 0 ∨ t % 2 = 1:=by omega
    have y3:(2:Nat) ^ 63 = 9223372036854775808:=by decide
    rw [y3]
    generalize t / 2 % (2 ^ 52 - 1) = y at *
    rcases y2 with k | k <;> rw [k] <;> omega
end Fl
end
section
namespace Fl
open Ieee
@[irreducible] def nO:Nat:=1074
theorem tS:nO = 1074:=by unfold nO; rfl
theorem yX (A:Int) {D c:Nat} (hD:0 < D) (hc:0 < c):Qi.mk' (A * (c:Nat)) 0 (D * c) = Qi.mk' A 0 D:=by
 have h1:=Qi.nc hD; have h2:=Qi.nc hc
 refine Qi.ext' ?_ ?_
 ·rw [Qi.mk_re,Qi.mk_re]; push_cast; grind
 ·rw [Qi.mk_im,Qi.mk_im]; push_cast; grind
theorem Io {A B:Int} {D C:Nat} (hD:0 < D) (hC:0 < C) (h:A * (C:Nat) = B * (D:Nat)):Qi.mk' A 0 D = Qi.mk' B 0 C:=by
 rw [← yX A hD hC,← yX B hC hD,h,Nat.mul_comm]
theorem Jp (b:Bool) (m c:Nat):rG b (m * c) = rG b m * (c:Nat):=by unfold rG; cases b <;> simp [Int.neg_mul]
theorem En (f:Format) (x:Nat):av f x = rG (ng f x) (nn f (rg f x)):=rfl
def q64 (a:Nat):Qi:=Qi.mk' (av double a) 0 (2 ^ nO)
def q32 (p:Nat):Qi:=Qi.mk' (av single p) 0 (2 ^ 149)
theorem Qu {p a:Nat} (h:mY .f32 .f64 p a) (hf:fin single p = true):q64 a = q32 p:=by
 obtain ⟨_,_,h3⟩:=Zd h
 obtain ⟨e1,m,u,_,_,e2,e3⟩:=h3 hf
 have:av double a = av single p * ((2 ^ Zb:Nat):Int):=by rw [En,En,e1,e3,e2,Jp]
 unfold q64 q32
 refine Io (Nat.two_pow_pos _) (Nat.two_pow_pos _) ?_
 rw [this,Int.mul_assoc,← Int.natCast_mul,← Nat.pow_add,show Zb + 149 = nO by rw [Sn,tS]]
theorem Qb {a:Nat} (ha:a < 18446744073709551616):av double a = rG (decide (9223372036854775808 ≤ a)) (tI a * 2 ^ (nC a - 1)):=by
 obtain ⟨_,h2,_,_,h5,h6,_⟩:=Wu ha
 rw [En,h2]; unfold nn; rw [h5,h6]
theorem Qt {a k:Nat} (ha:a < 18446744073709551616) (hk:k = max (nC a) 1 - 1):Qi.mk' (rG (decide (9223372036854775808 ≤ a)) (tI a * 2 ^ k)) 0 (2 ^ nO) = q64 a:=by
 unfold q64; rw [Qb ha,show k = nC a - 1 by omega]
theorem a0Y (p:Nat):(q32 p).im = 0:=by unfold q32; rw [Qi.mk_im]; push_cast; grind
theorem Fz (p:Nat):(q32 p).re = (av single p:Rat) / ((2 ^ 149:Nat):Rat):=rfl
theorem a1E {p:Nat} (hf:fin single p = true):Qi.Fit (q32 p) 9:=by
 have hr:rg single p < 2139095040:=by rw [← Vb]; simpa [fin] using hf
 have hm:mg single (rg single p) < 2 ^ 24:=by unfold mg; rw [Ke]; split <;> omega
 have hu:up single (rg single p) ≤ 253:=by unfold up; rw [Ke]; omega
 unfold q32
 refine Qi.Fit.mk (Nat.two_pow_pos _) ?_ (Nat.pow_pos cP) ?_
 ·rw [Mv]; unfold nn
  have h1 : 2 ^ up single (rg single p) < BB ^ 8 := by
   refine Nat.lt_of_le_of_lt (Nat.pow_le_pow_right (by decide) hu) ?_
   show _ < (2 ^ 32) ^ 8
   rw [← Nat.pow_mul]
   exact Nat.pow_lt_pow_right (by decide) (by decide)
  have h2:mg single (rg single p) < BB ^ 1:=Nat.lt_of_lt_of_le hm (by decide)
  exact Qi.lt_mul h2 h1
 ·refine Nat.lt_of_lt_of_le (m := BB ^ 8) ?_ (Nat.pow_le_pow_right cP (by decide))
  show _ < (2 ^ 32) ^ 8
  rw [← Nat.pow_mul]
  exact Nat.pow_lt_pow_right (by decide) (by decide)
def pw (p:Nat):Bool:=fin single p && decide (0 < av single p)
theorem Jj {p:Nat}:0 < (q32 p).re ↔ 0 < av single p:=by
 rw [Fz]
 have h : (0 : Rat) < ((2 ^ 149 : Nat) : Rat) := by
  have:((0:Nat):Rat) < ((2 ^ 149:Nat):Rat):=Rat.natCast_lt_natCast.2 (Nat.two_pow_pos _)
  exact this
 rw [Rat.lt_div_iff h,Rat.zero_mul]
 exact ⟨fun k=>Rat.intCast_lt_intCast.1 k,fun k=>Rat.intCast_lt_intCast.2 k⟩
theorem Fy {p q:Nat}:(q32 p).re ≤ (q32 q).re ↔ av single p ≤ av single q:=by
 rw [Fz,Fz]
 have h : (0 : Rat) < ((2 ^ 149 : Nat) : Rat) := by
  have:((0:Nat):Rat) < ((2 ^ 149:Nat):Rat):=Rat.natCast_lt_natCast.2 (Nat.two_pow_pos _)
  exact this
 generalize ((2 ^ 149:Nat):Rat) = D at *
 constructor
 ·intro k
  have e:∀ z:Int,(z:Rat) = (z:Rat) / D * D:=fun z=>by grind
  have:=Rat.mul_le_mul_of_nonneg_right k (Rat.le_of_lt h)
  rw [← e,← e] at this
  exact Rat.intCast_le_intCast.1 this
 ·intro k
  rw [Rat.div_def,Rat.div_def]
  exact Rat.mul_le_mul_of_nonneg_right (Rat.intCast_le_intCast.2 k) (Rat.le_of_lt (Rat.inv_pos.2 h))
end Fl
end
section
namespace Fl
theorem Qw {x y:Qi} (hx:x.im = 0) (hy:y.im = 0):(x / y).re = x.re / y.re ∧ (x / y).im = 0:=by
 have hn:y.nrm = y.re * y.re:=by unfold Qi.nrm; rw [hy]; grind
 have hi:Qi.inv y = ⟨y.re / y.nrm,-y.im / y.nrm⟩:=rfl
 constructor
 ·rw [Qi.div_def, Qi.mul_re, hi, hn, hx, hy]
  by_cases h:y.re = 0
  ·rw [h]; show x.re * (0 / (0 * 0)) - 0 * _ = _; grind
  ·show x.re * (y.re / (y.re * y.re)) - 0 * _ = _; grind
 ·rw [Qi.div_def,Qi.mul_im,hi,hx,hy]; show x.re * (-0 / _) + 0 * _ = _; grind
structure Re (x:Qi):Prop where
 im:x.im = 0
theorem Re.sub {x y:Qi} (h:Re x) (k:Re y):Re (x - y):=⟨by rw [Qi.sub_im,h.im,k.im]; grind⟩
theorem Re.add {x y:Qi} (h:Re x) (k:Re y):Re (x + y):=⟨by rw [Qi.add_im,h.im,k.im]; grind⟩
theorem Re.mul {x y:Qi} (h:Re x) (k:Re y):Re (x * y):=⟨by rw [Qi.mul_im,h.im,k.im]; grind⟩
theorem Re.div {x y:Qi} (h:Re x) (k:Re y):Re (x / y):=⟨(Qw h.im k.im).2⟩
theorem Re.one:Re (Qi.ofInt 1):=⟨rfl⟩
theorem Re.q32 (p:Nat):Re (q32 p):=⟨a0Y p⟩
theorem Re.of {x:Qi} (h:x.b = 0):Re x:=⟨Qi.b_zero.1 h⟩
theorem Re.b {x:Qi} (h:Re x):x.b = 0:=Qi.b_zero.2 h.im
theorem Re.rdiv {x y:Qi} (h:Re x) (k:Re y):(x / y).re = x.re / y.re:=(Qw h.im k.im).1
theorem Re.rmul {x y:Qi} (h:Re x):(x * y).re = x.re * y.re:=by rw [Qi.mul_re,h.im]; grind
theorem Re.ext {x y:Qi} (h:Re x) (k:Re y) (e:x.re = y.re):x = y:=Qi.ext' e (by rw [h.im,k.im])
def tP (hot cold a b:Qi):Qi:=(hot - a / b * cold) / (a / b - Qi.ofInt 1)
def tR (hot cold a b:Qi):Qi:=(hot * b - cold * a) / (a - b)
theorem a25 {hot cold a b:Qi} (h:Re hot) (c:Re cold) (x:Re a) (y:Re b):Re (tP hot cold a b):=(h.sub ((x.div y).mul c)).div ((x.div y).sub Re.one)
theorem a24 {hot cold a b:Qi} (h:Re hot) (c:Re cold) (x:Re a) (y:Re b) (h0:b.re ≠ 0) (h1:a.re ≠ b.re):tP hot cold a b = tR hot cold a b:=by
 refine Re.ext (a25 h c x y) (((h.mul y).sub (c.mul x)).div (x.sub y)) ?_
 unfold tP tR
 rw [(h.sub ((x.div y).mul c)).rdiv ((x.div y).sub Re.one),((h.mul y).sub (c.mul x)).rdiv (x.sub y),Qi.sub_re,Qi.sub_re,Qi.sub_re,Qi.sub_re,(x.div y).rmul,x.rdiv y,h.rmul,c.rmul]
 show (hot.re - a.re / b.re * cold.re) / (a.re / b.re - ((1:Int):Rat)) = (hot.re * b.re - cold.re * a.re) / (a.re - b.re)
 generalize hot.re = H
 generalize cold.re = K
 generalize a.re = p at *
 generalize b.re = q at *
 have e:p = p / q * q:=by grind
 generalize p / q = y at *
 subst e
 have hy:y - 1 ≠ 0:=by grind
 have e1:y * q - q = (y - 1) * q:=by grind
 have e2:H * q - K * (y * q) = (H - y * K) * q:=by grind
 rw [e1,e2]
 show (H - y * K) / (y - 1) = _
 grind
theorem vB {x:Qi} (h:eR x = true):Re x:=by
 simp only [eR,Bool.and_eq_true,decide_eq_true_eq] at h; exact Re.of h.1
theorem a0W {p:Nat} (h:pw p = true):fin Ieee.single p = true:=by
 unfold pw at h; simp only [Bool.and_eq_true] at h; exact h.1
theorem Ay {p:Nat} (h:pw p = true):0 < (q32 p).re:=by
 unfold pw at h; simp only [Bool.and_eq_true,decide_eq_true_eq] at h; exact Jj.2 h.2
theorem Ji {p q:Nat}:qU (q32 p) (q32 q) ≤ 0 ↔ av Ieee.single p ≤ av Ieee.single q:=by
 rw [nB (Re.q32 p).b (Re.q32 q).b,Hy,Fy]
def mV (hot cold:Qi) (p q:Nat):Int:=if !eR hot || !eR cold || !pw p || !pw q then 1 else if decide (nV hot cold ≤ 0) || decide (av Ieee.single p ≤ av Ieee.single q) then 7 else if (tR hot cold (q32 p) (q32 q)).re < 0 then 5 else 0
def rC (hot cold:Qi) (p q:Nat):Qi × Int:=if mV hot cold p q = 0 then (tR hot cold (q32 p) (q32 q),0) else (Qi.zero,mV hot cold p q)
theorem Qx {hot cold:Qi} {p q:Nat} (h:(!eR hot || !eR cold || !pw p || !pw q) = true):rC hot cold p q = (Qi.zero,1):=by
 have:mV hot cold p q = 1:=by rw [mV,if_pos h]
 rw [rC,this]; rfl
theorem Qy {hot cold:Qi} {p q:Nat} (h:¬ (!eR hot || !eR cold || !pw p || !pw q) = true) (h2:(decide (nV hot cold ≤ 0) || decide (av Ieee.single p ≤ av Ieee.single q)) = true):rC hot cold p q = (Qi.zero,7):=by
 have:mV hot cold p q = 7:=by rw [mV,if_neg h,if_pos h2]
 rw [rC,this]; rfl
theorem Lm {hot cold:Qi} {p q:Nat} (h:¬ (!eR hot || !eR cold || !pw p || !pw q) = true) (h2:¬ (decide (nV hot cold ≤ 0) || decide (av Ieee.single p ≤ av Ieee.single q)) = true) (h3:(tR hot cold (q32 p) (q32 q)).re < 0):rC hot cold p q = (Qi.zero,5):=by
 have:mV hot cold p q = 5:=by rw [mV,if_neg h,if_neg h2,if_pos h3]
 rw [rC,this]; rfl
theorem Jk {hot cold:Qi} {p q:Nat} (h:¬ (!eR hot || !eR cold || !pw p || !pw q) = true) (h2:¬ (decide (nV hot cold ≤ 0) || decide (av Ieee.single p ≤ av Ieee.single q)) = true) (h3:¬ (tR hot cold (q32 p) (q32 q)).re < 0):rC hot cold p q = (tR hot cold (q32 p) (q32 q),0):=by
 have:mV hot cold p q = 0:=by rw [mV,if_neg h,if_neg h2,if_neg h3]
 rw [rC,this]; rfl
structure vI (hot cold:Qi) (p q:Nat):Prop where
 h:Re hot
 c:Re cold
 pp:pw p = true
 pq:pw q = true
 ord:¬ av Ieee.single p ≤ av Ieee.single q
theorem a11 {hot cold:Qi} {p q:Nat} (h:¬ (!eR hot || !eR cold || !pw p || !pw q) = true) (h2:¬ (decide (nV hot cold ≤ 0) || decide (av Ieee.single p ≤ av Ieee.single q)) = true):vI hot cold p q:=by
 simp only [Bool.or_eq_true,Bool.not_eq_true',decide_eq_true_eq,not_or,Bool.not_eq_false] at h h2
 exact ⟨vB h.1.1.1,vB h.1.1.2,h.1.2,h.2,h2.2⟩
theorem vI.eq {hot cold : Qi} {p q : Nat} (h : vI hot cold p q) : tP hot cold (q32 p) (q32 q) = tR hot cold (q32 p) (q32 q) :=
 a24 h.h h.c (Re.q32 p) (Re.q32 q) (fun e=>by have:=Ay h.pq; rw [e] at this; exact Rat.lt_irrefl this) (fun e=>h.ord (Fy.1 (by rw [e]; exact Rat.le_refl)))
theorem vI.ne {hot cold:Qi} {p q:Nat} (h:vI hot cold p q):q32 q ≠ Qi.zero ∧ q32 p - q32 q ≠ Qi.zero ∧ q32 p / q32 q - Qi.ofInt 1 ≠ Qi.zero:=by
 have h0:(q32 q).re ≠ 0:=fun e=>by have:=Ay h.pq; rw [e] at this; exact Rat.lt_irrefl this
 have h1:(q32 p).re ≠ (q32 q).re:=fun e=>h.ord (Fy.1 (by rw [e]; exact Rat.le_refl))
 refine ⟨fun e=>h0 (by rw [e]; rfl),Qi.sub_ne h1,Qi.sub_ne ?_⟩
 rw [(Re.q32 p).rdiv (Re.q32 q)]
 show _ ≠ ((1:Int):Rat)
 intro e
 apply h1
 have:(q32 p).re / (q32 q).re = 1:=e
 grind
theorem vI.real {hot cold:Qi} {p q:Nat} (h:vI hot cold p q):Re (tR hot cold (q32 p) (q32 q)):=((h.h.mul (Re.q32 q)).sub (h.c.mul (Re.q32 p))).div ((Re.q32 p).sub (Re.q32 q))
theorem a1z {x:Qi} (h:Re x):qU x (Qi.ofInt 0) < 0 ↔ x.re < 0:=by
 rw [nB h.b (Qi.int_a 0).2.1,Uf]; exact Iff.rfl
def Cq (t t0:Qi):Qi × Int:=if eR t && kH t0 then (Qi.ofInt 1 + t / t0,0) else (Qi.zero,1)
theorem Pa {t t0:Qi} (h:(!eR t || !kH t0) = true):Cq t t0 = (Qi.zero,1):=by
 rw [Cq,if_neg]; intro k; simp only [Bool.and_eq_true] at k; simp [k.1,k.2] at h
theorem Uo {t t0:Qi} (h:¬ (!eR t || !kH t0) = true):eR t = true ∧ kH t0 = true ∧ Cq t t0 = (Qi.ofInt 1 + t / t0,0):=by
 simp only [Bool.or_eq_true,Bool.not_eq_true',not_or,Bool.not_eq_false] at h
 exact ⟨h.1,h.2,by rw [Cq,if_pos (by simp [h.1,h.2])]⟩
theorem wM {m:Nat} (hm:m < 16777216):Ieee.single.nearest false m 0 < 4294967296 ∧ fin Ieee.single (Ieee.single.nearest false m 0) = true ∧ av Ieee.single (Ieee.single.nearest false m 0) = (m * 2 ^ 149:Nat):=by
 by_cases h0:m = 0
 ·subst h0
  have:Ieee.single.nearest false 0 0 = 0:=by decide
  rw [this]; refine ⟨by decide,by decide,?_⟩
  rw [Nat.zero_mul]; decide
 ·have hl : m.log2 < 24 := (Nat.log2_lt h0).2 hm
  have l1:2 ^ m.log2 ≤ m:=Nat.log2_self_le h0
  have l2:m < 2 ^ (m.log2 + 1):=Nat.lt_log2_self
  have b1:m * 2 ^ (23 - m.log2) < 2 ^ (m.log2 + 1) * 2 ^ (23 - m.log2):=Nat.mul_lt_mul_of_pos_right l2 (Nat.two_pow_pos _)
  rw [← Nat.pow_add,show m.log2 + 1 + (23 - m.log2) = 24 by omega,show (2:Nat) ^ 24 = 16777216 by decide] at b1
  have b2:2 ^ m.log2 * 2 ^ (23 - m.log2) ≤ m * 2 ^ (23 - m.log2):=Nat.mul_le_mul_right _ l1
  rw [← Nat.pow_add,show m.log2 + (23 - m.log2) = 23 by omega,show (2:Nat) ^ 23 = 8388608 by decide] at b2
  have b3 : m * 2 ^ (23 - m.log2) * 2 ^ (m.log2 + 126) = m * 2 ^ 149 := by
   rw [Nat.mul_assoc,← Nat.pow_add,show 23 - m.log2 + (m.log2 + 126) = 149 by omega]
  have e : Ieee.single.nearest false m 0 = (m.log2 + 126) * 8388608 + m * 2 ^ (23 - m.log2) := by
   unfold Ieee.Format.nearest
   rw [if_neg h0]
   have xI:Ieee.single.leastPlace = -149:=by decide
   have hfb:((Ieee.single.fractionBits:Nat):Int) = 23:=rfl
   rw [xI,hfb]
   have e1:max (0 + (m.log2:Int) - 23) (-149) = (m.log2:Int) - 23:=by omega
   simp only [e1]
   have e2:(0 - ((m.log2:Int) - 23)).toNat = 23 - m.log2:=by omega
   have e3:((m.log2:Int) - 23 - 0).toNat = 0:=by omega
   have e4:((m.log2:Int) - 23 - (-149)).toNat = m.log2 + 126:=by omega
   rw [e2,e3,e4,Km,Ke,Vb,Nat.shiftLeft_eq,Nat.min_eq_left zo]
   rfl
  rw [e]
  generalize m * 2 ^ (23 - m.log2) = K at *
  have hr:rg Ieee.single ((m.log2 + 126) * 8388608 + K) = (m.log2 + 126) * 8388608 + K:=by unfold rg; rw [a23]; omega
  refine ⟨by omega,?_,?_⟩
  ·unfold fin; rw [hr,Vb]; simp only [decide_eq_true_eq]; omega
  ·have hn : ng Ieee.single ((m.log2 + 126) * 8388608 + K) = false := by unfold ng; rw [a23]; simp only [beq_eq_false_iff_ne]; omega
   rw [zU hn,hr]; unfold nn mg up; rw [Ke,if_neg zo]
   have e1:((m.log2 + 126) * 8388608 + K) % 8388608 = K - 8388608:=by omega
   have e2:((m.log2 + 126) * 8388608 + K) / 8388608 - 1 = m.log2 + 126:=by omega
   rw [e1,e2,Nat.add_sub_cancel' b2,b3]
theorem Do {m:Nat} (hm:m < 16777216):q32 (Ieee.single.nearest false m 0) = Qi.ofInt m:=by
 unfold q32; rw [(wM hm).2.2,← Qi.mk_int]
 refine Io (Nat.two_pow_pos _) (by decide) ?_
 rw [Int.natCast_mul]; show _ * ((1:Nat):Int) = _; rw [Int.natCast_one,Int.mul_one]
theorem Jh {m:Nat} (h0:0 < m) (hm:m < 16777216):pw (Ieee.single.nearest false m 0) = true:=by
 obtain ⟨_,h2,h3⟩:=wM hm
 have:=Nat.mul_pos h0 (Nat.two_pow_pos 149)
 unfold pw; rw [h2,h3]; simp only [Bool.true_and,decide_eq_true_eq]
 exact Int.natCast_pos.2 this
def cR (n o a b k:Qi):Qi:=(n * (k * a - b) + a * (o - k * n)) / (o - k * n + (k * a - b))
end Fl
end
section
namespace Fl
def lv (l:List (Nat × Nat)):List (Qi × Qi):=l.map fun e=>(q32 e.1,q32 e.2)
abbrev bI (l:List (Nat × Nat)) (i:Nat):Nat:=(l.getD i (0,0)).1
abbrev bO (l:List (Nat × Nat)) (i:Nat):Nat:=(l.getD i (0,0)).2
theorem Fh {l:List (Nat × Nat)} {i:Nat} (h:i < l.length):eF (lv l) i = q32 (bI l i) ∧ eV (lv l) i = q32 (bO l i):=by
 unfold eF eV bI bO lv
 simp [List.getD,List.getElem?_map,List.getElem?_eq_getElem h]
def a2m (l:List (Nat × Nat)) (i:Nat):Int:=if pw (bI l i) = true ∧ pw (bO l i) = true then (if 0 < i ∧ av Ieee.single (bI l i) ≤ av Ieee.single (bI l (i - 1)) then 7 else 0) else 1
def Pn (l:List (Nat × Nat)):Int:=if l.length = 0 ∨ 256 < l.length then 4 else Fe (a2m l) l.length
structure Gx (l:List (Nat × Nat)):Prop where
 pos:∀ i,i < l.length → pw (bI l i) = true ∧ pw (bO l i) = true
 up:∀ i,0 < i → i < l.length → (q32 (bI l (i - 1))).re < (q32 (bI l i)).re
 n0:0 < l.length
 n1:l.length ≤ 256
def bnd (l:List (Nat × Nat)) (f:Qi):Qi:=eV (lv l) 0 / eF (lv l) 0 * f
def Nx (l:List (Nat × Nat)) (f:Qi):Int:=xS (fun e:Qi × Qi=>decide (qU e.2 (bnd l f * e.1) ≤ 0)) (lv l)
def a1H (f:Qi):Bool:=kH f && decide (f.re < 1)
def comp (l : List (Nat × Nat)) (f : Qi) : Qi × Int :=
 if Pn l ≠ 0 then (Qi.zero,Pn l) else if a1H f = false then (Qi.zero,1) else if Nx l f < 0 then (Qi.zero,5)
 else (cR (eF (lv l) ((Nx l f).toNat - 1)) (eV (lv l) ((Nx l f).toNat - 1)) (eF (lv l) (Nx l f).toNat) (eV (lv l) (Nx l f).toNat) (bnd l f),0)
section
variable {l:List (Nat × Nat)} {f:Qi}
theorem Gx.re (h:Gx l) {i:Nat} (hi:i < l.length):Re (eF (lv l) i) ∧ Re (eV (lv l) i) ∧ 0 < (eF (lv l) i).re ∧ 0 < (eV (lv l) i).re:=by
 obtain ⟨e1,e2⟩:=Fh hi
 obtain ⟨p1,p2⟩:=h.pos i hi
 rw [e1,e2]; exact ⟨Re.q32 _,Re.q32 _,Ay p1,Ay p2⟩
theorem Gx.lt (h:Gx l) {i:Nat} (h0:0 < i) (hi:i < l.length):(eF (lv l) (i - 1)).re < (eF (lv l) i).re:=by
 rw [(Fh hi).1,(Fh (show i - 1 < l.length by omega)).1]; exact h.up i h0 hi
end
end Fl
end
section
namespace Fl
open Ieee
theorem Kn (s:Bool) (n k:Nat) (h0:n ≠ 0):Toward.even.cut s (n * 2 ^ k) k = n:=by
 have hl : k ≤ (n * 2 ^ k).log2 := by
  have:2 ^ k ≤ n * 2 ^ k:=Nat.le_mul_of_pos_left _ (Nat.pos_of_ne_zero h0)
  exact (Nat.le_log2 (Nat.mul_ne_zero h0 (Nat.ne_of_gt (Nat.two_pow_pos _)))).2 this
 unfold Toward.cut
 rw [Nat.min_eq_left zo,Nat.shiftLeft_eq,Nat.one_mul]
 simp only [Nat.mul_div_cancel _ (Nat.two_pow_pos k),Nat.mul_mod_left]
 have:0 < 2 ^ k:=Nat.two_pow_pos k
 have h1:¬ 2 ^ k < 0:=by omega
 have h2:¬ 2 ^ k = 0:=by omega
 simp [h2]
theorem wO {f:Format} {s:Bool} {m k:Nat} {P:Int} (h0:m ≠ 0) (h1:m.log2 ≤ f.fractionBits) (h2:f.leastPlace ≤ P):f.nearest s (m * 2 ^ k) (P - k) = f.nearest s m P:=by
 have hk:m * 2 ^ k ≠ 0:=Nat.mul_ne_zero h0 (Nat.ne_of_gt (Nat.two_pow_pos _))
 have hl : (m * 2 ^ k).log2 = m.log2 + k := by
  have l1:2 ^ m.log2 ≤ m:=Nat.log2_self_le h0
  have l2:m < 2 ^ (m.log2 + 1):=Nat.lt_log2_self
  rw [Nat.log2_eq_iff hk]
  constructor
  ·rw [Nat.pow_add]; exact Nat.mul_le_mul_right _ l1
  ·rw [show m.log2 + k + 1 = m.log2 + 1 + k by omega,Nat.pow_add]; exact Nat.mul_lt_mul_of_pos_right l2 (Nat.two_pow_pos _)
 unfold Format.nearest
 rw [if_neg hk,if_neg h0,hl]
 have e1:P - (k:Int) + ((m.log2 + k:Nat):Int) - (f.fractionBits:Int) = P + (m.log2:Int) - (f.fractionBits:Int):=by omega
 simp only [e1]
 obtain ⟨last,hlast⟩:∃ last,last = max (P + (m.log2:Int) - (f.fractionBits:Int)) f.leastPlace:=⟨_,rfl⟩
 rw [← hlast]
 have hle:last ≤ P:=by omega
 have ek : Toward.even.cut s ((m * 2 ^ k) <<< (P - k - last).toNat) (last - (P - k)).toNat = Toward.even.cut s (m <<< (P - last).toNat) (last - P).toNat := by
  rw [show (last - P).toNat = 0 by omega,Km,Nat.shiftLeft_eq,Nat.shiftLeft_eq]
  by_cases c:last ≤ P - k
  ·rw [show (last - (P - k)).toNat = 0 by omega,Km,Nat.mul_assoc,← Nat.pow_add,show k + (P - k - last).toNat = (P - last).toNat by omega]
  ·rw [show (P - k - last).toNat = 0 by omega, Nat.pow_zero, Nat.mul_one]
   have : m * 2 ^ k = m * 2 ^ (P - last).toNat * 2 ^ (last - (P - k)).toNat := by
    rw [Nat.mul_assoc,← Nat.pow_add,show (P - last).toNat + (last - (P - k)).toNat = k by omega]
   rw [this,Kn s _ _ (Nat.mul_ne_zero h0 (Nat.ne_of_gt (Nat.two_pow_pos _)))]
 rw [ek]
def bP (c n:Nat):List (Nat × Nat):=(List.range n).map fun i=>(single.nearest false (i + 1) 0,single.nearest false ((i + 1) * c) 0)
theorem iF (c n:Nat):(bP c n).length = n:=by simp [bP]
theorem nD {c n i:Nat} (h:i < n):bI (bP c n) i = single.nearest false (i + 1) 0 ∧ bO (bP c n) i = single.nearest false ((i + 1) * c) 0:=by
 unfold bI bO bP
 simp [List.getD,List.getElem?_map,List.getElem?_range h]
end Fl
end
section
open Go Go.RowKit
theorem Ad:Ka Tryz.prog 256 Extern.MathFloatBits.float64bits:=Cp Tryz.func256 (by kernel_rfl) (by kernel_rfl) (by kernel_rfl) (by kernel_rfl)
theorem Ae:Ka Tryz.prog 292 Extern.MathFloatBits.float64frombits:=Cp Tryz.func292 (by kernel_rfl) (by kernel_rfl) (by kernel_rfl) (by kernel_rfl)
end
section
open Go Go.RowKit
open Fl
abbrev CbT (k:FloatKind) (a b:Nat):Ty:=Mj k (fun x y=>x = a ∧ y = b)
theorem Ut {P : Program} {f : FuncId} {k : FloatKind} {Q : Nat → Nat → Prop} {U : Ty} (h : ∀ a b, Q a b → bA P f [CbT k a b] U) : bA P f [Mj k Q] U := fun vs V w hi ha => by
 match vs,ha with
 | [v],⟨⟨a,b,e,q⟩,_⟩=>exact h a b q [v] V w hi ⟨⟨a,b,e,rfl,rfl⟩,trivial⟩
theorem a1m (a:Nat):a &&& 4503599627370495 = a % 4503599627370496:=Nat.and_two_pow_sub_one_eq_mod a 52
theorem Ye (a:Nat):a &&& 2047 = a % 2048:=Nat.and_two_pow_sub_one_eq_mod a 11
theorem a2n {m:Nat} (h:m < 4503599627370496):m ||| 4503599627370496 = 4503599627370496 + m:=by
 rw [Nat.or_comm]; exact (Nat.two_pow_add_eq_or_of_lt (i:=52) h 1).symm ▸ rfl
theorem a1T {a:Nat} (h:nC a ≠ 0):a % 4503599627370496 ||| 4503599627370496 = tI a:=(a2n (Nat.mod_lt _ (by decide))).trans (by rw [tI,if_neg h])
theorem a1D (a:Nat):a / 2 ^ 52 % 2048 = nC a:=by unfold nC; rw [show (2:Nat) ^ 52 = 4503599627370496 by decide]
theorem Va {a:Nat} (ha:a < 18446744073709551616):Up .gtr .f64 (Ms a) 9218868437227405311 = some (decide (rg Ieee.double a = Ieee.double.infRung)):=by
 rw [zP]
 have h:=a0i (f:=Ieee.double) (x:=a % 9223372036854775808) (m:=9218868437227405311) bd (by decide) (by decide)
 have e1:rg Ieee.double (a % 9223372036854775808) = rg Ieee.double a:=by unfold rg; rw [pL,Nat.mod_mod]
 have e2:ng Ieee.double (a % 9223372036854775808) = false:=by unfold ng; rw [pL,Nat.div_eq_of_lt (Nat.mod_lt _ (by decide))]; rfl
 rw [e1,e2] at h
 show some (Ieee.double.order _ _ == some .gt) = _
 rw [h]; simp
theorem Pv {a:Nat}:Up .neq .f64 a a = some (decide (Ieee.double.infRung < rg Ieee.double a)):=congrArg some (Fv bd)
theorem Kp (a:Nat):(!decide (Ieee.double.infRung < rg Ieee.double a) && !decide (rg Ieee.double a = Ieee.double.infRung)) = fin Ieee.double a:=by
 unfold fin; rw [Bool.eq_iff_iff]; simp; omega
def vF (p:Nat):Qi:=if fin Ieee.single p then q32 p else Qi.zero
theorem Gp (p:Nat):aE (vF p) 9:=by
 unfold vF; split
 ·rename_i h; exact ⟨a1E h⟩
 ·exact aE.zero (by decide)
theorem a2e (p:Nat):Re (vF p):=by
 unfold vF; split
 ·exact Re.q32 p
 ·exact ⟨rfl⟩
theorem a2c (p:Nat):(decide ((if fin Ieee.single p then (0:Int) else 1) = 0) && decide (0 < qU (vF p) (Qi.ofInt 0))) = pw p:=by
 have e:0 < qU (vF p) (Qi.ofInt 0) ↔ 0 < (vF p).re:=by rw [nB (a2e p).b (Qi.int_a 0).2.1,Hx]; exact Iff.rfl
 unfold pw
 cases h:fin Ieee.single p with
 | false=>simp
 | true =>
  have:vF p = q32 p:=by unfold vF; rw [if_pos h]
  rw [this] at e
  rw [Bool.eq_iff_iff]; simp [this,e,Jj]
def vD (a:Nat):Qi:=if fin Ieee.double a then q64 a else Qi.zero
def Wid (p a:Nat):Prop:=a < 18446744073709551616 ∧ fin Ieee.double a = fin Ieee.single p ∧ vD a = vF p
theorem a1g {p a:Nat} (h:mY .f32 .f64 p a):Wid p a:=by
 obtain ⟨h1,h2,_⟩:=Zd h
 refine ⟨h1,h2,?_⟩
 unfold vD vF; rw [h2]
 split
 ·rename_i k; exact Qu h k
 ·rfl
theorem a1A {b:Nat} (h:mY .f32 .f64 0 b):b = 0:=by
 unfold mY at h
 rw [if_neg (by decide)] at h
 have e:FloatKind.f32.decode 0 = .number false 0 (-149):=by decide
 rw [e] at h; simp only at h
 have e2:FloatKind.f64.encode (.number false 0 (-149)) = 0:=by decide
 rw [e2] at h
 have e3:(FloatKind.f64.decode 0).isInfinity = false:=by decide
 rw [e3] at h; simpa using h
theorem Yr (a:Nat):nC a < 2048:=Nat.mod_lt _ (by decide)
theorem Pp (a:Nat):tI a < 9007199254740992:=by unfold tI; split <;> omega
abbrev Ef (a:Nat):Int:=rG (decide (9223372036854775808 ≤ a)) (tI a)
theorem Mo (a:Nat):(dg (Ef a).natAbs).length ≤ 2:=by
 rw [Ba]; exact rX (by have:=Pp a; show _ < 4294967296 ^ 2; omega)
theorem Bo:Ef 0 = 0:=by decide
theorem Oi {a k : Nat} (ha : a < 18446744073709551616) (hk : k = max (nC a) 1 - 1) (hf : fin Ieee.double a = true) :
  Qi.mk' (rG (decide (Ef a < 0)) ((Ef a).natAbs * 2 ^ k)) (rG (decide (Ef 0 < 0)) ((Ef 0).natAbs * 2 ^ 0)) (1 * 2 ^ nO) = vD a:=by
 have h:=Qt ha hk
 have e1:=xB (Ef a) (2 ^ k)
 rw [e1,Bo,Nat.one_mul,← Jp]
 have e2:rG (decide ((0:Int) < 0)) ((0:Int).natAbs * 2 ^ 0) = 0:=by decide
 rw [e2,h]; unfold vD; rw [hf]; rfl
@[irreducible] def wF:Nat:=2050
theorem Ox (m k:Nat) (h:m < BB ^ 2):(dg (m * 2 ^ k)).length ≤ k + 2:=by
 refine rX ?_
 have:2 ^ k ≤ BB ^ k:=Nat.pow_le_pow_left (by decide) k
 rw [Nat.add_comm,Nat.pow_add]
 exact Nat.mul_lt_mul_of_lt_of_le h this (Nat.pow_pos (by decide))
theorem Hh {a:Nat}:bA Tryz.prog 254 [nP .f64 a] (aC (decide (Ieee.double.infRung < rg Ieee.double a))):=by
 refine bA.intro Tryz.func254 rfl Tryz.ntmps254 rfl (fun cx=>(ts (ro rfl (cQ cV) (eX (ts (rm rfl (rm rfl (ro rfl (sK (Ht rfl) (Ht rfl) (fun x y hx hy=>by subst hx hy; exact Pv)) (ra rfl (eX ?_))))))))))
 exact fG rfl (eU rfl)
section
attribute [local irreducible] callFunc
theorem Nc {a:Nat} (ha:a < 18446744073709551616):bA Tryz.prog 286 [nP .f64 a] (nP .f64 (Ms a)):=by
 refine bA.intro Tryz.func286 rfl Tryz.ntmps286 rfl (fun cx=>(ts (ro rfl (cQ aM.cF) (eX (ts (rm rfl (ro rfl (tL Ad (Ht rfl)) (ro rfl (Qe (Ht rfl) ha) (ro rfl (mT Ae (Ht rfl)) (ra rfl (eX ?_)))))))))))
 exact fG rfl (eU rfl)
end
theorem Hg {a:Nat} (ha:a < 18446744073709551616):bA Tryz.prog 255 [nP .f64 a,NT .i64 0] (aC (decide (rg Ieee.double a = Ieee.double.infRung))):=by
 refine bA.intro Tryz.func255 rfl Tryz.ntmps255 rfl (fun cx=>(ts (ro rfl (cQ cV) (eX (cK (ts (rm rfl (ro rfl (dI (Ht rfl) (cJ 0)) (eX (rO (Ht rfl) (by decide) (cY (rm rfl (ro rfl (cZ Tryz.call286 (Nc (by assumption)) ⟨(Ht rfl),trivial⟩) ?_)))))))))))))
 refine ra rfl (eX (ts (rm rfl (ro rfl (sK (Ht rfl) aM.cF (fun x y hx hy=>by subst hx hy; exact Va ha)) (ra rfl (eX ?_))))))
 exact fG rfl (eU rfl)
theorem Hl {a:Nat} (ha:a < 18446744073709551616):bA Tryz.prog 204 [nP .f64 a] (aC (fin Ieee.double a)):=by
 refine bA.intro Tryz.func204 rfl Tryz.ntmps204 rfl (fun cx=>(ts (ro rfl (cQ cV) (eX (ts (rm rfl (ro rfl (cZ Tryz.call254 Hh ⟨(Ht rfl),trivial⟩) (ro rfl (dR (Ht rfl)) (rm rfl (fQ rfl rfl (eK rfl rfl (Ht rfl) (fun h=>cX (Ht rfl))) (fQ rfl rfl (eK rfl rfl (Ht rfl) (fun h=>cZ Tryz.call255 (Hg (by assumption)) ⟨(fV rfl h),(cJ 0),trivial⟩)) ?_)))))))))))
 refine fQ rfl rfl (eK rfl rfl (Ht rfl) (fun h=>dR (fV rfl h))) (ro rfl (fT (Ht rfl) (fun h=>(fV rfl h))) (ra rfl (eX (fG rfl (fZ (eU rfl) ?_)))))
 exact (gD (Kp a))
section
attribute [local irreducible] callFunc
theorem Hw {a:Nat} (ha:a < 18446744073709551616):bA Tryz.prog 205 [nP .f64 a] (fE [fP (Ef a),aD .i64 (max (nC a:Int) 1 - 1075)]):=by
 have hex:=Yr a; have hma:=Pp a
 refine bA.intro Tryz.func205 rfl Tryz.ntmps205 rfl (fun cx=>(ts (rn rfl (eW (Ts:=[Is (.bool false),Is (.slice none 0 0)]) O_30 rfl (fun V=>aW zd (aW zd (aG)))) fun B2=>(ro rfl (cQ (cJ 0)) (eX (ts (rm rfl (ro rfl (tL Ad (Ht rfl)) (ra rfl (eX (ts (rm rfl (ro rfl (aB.nat (oA rfl (Ht rfl) (cJ 4503599627370495) z7 z7) (a1m a)) ?_)))))))))))))
 refine rm rfl (ro rfl (fB (Ht rfl) (cJ 52) (by decide)) (ro rfl (aB.nat (oA rfl (Ht rfl) (cJ 2047) z7 z7) ((Ye _).trans (a1D a))) (ro rfl (gV U_274 U_3 (Ht rfl) z6) (ra rfl (ra rfl (eX (cK (jK (fun (uu:Unit)=>True) (fun (uu:Unit)=>[(2,cB B2 0),(4,NT .u64 a),(5,NT .u64 (tI a)),(6,NT .i64 (nC a))]) (fun (uu:Unit)=>[box B2 30 [Is (.bool false),Is (.slice none 0 0)]]) ?_ (fun uu _=>?_)))))))))
 ·refine ts (rm rfl (ro rfl (gR (Ht rfl) (cJ 0)) (eX (dQ (Ht rfl) (fun hb => ?_) (fun hb => ?_)))))
  ·have hb2 : nC a ≠ 0 := by simp only [decide_eq_true_eq] at hb; omega
   refine cY (rm rfl (ro rfl (aB.nat (oC rfl (Ht rfl) (cJ 4503599627370496) z7 z7) (a1T hb2)) (ra rfl (eX (aS () trivial (zS rfl) (aU (aH rfl) aY))))))
  ·have hb2 : nC a = 0 := by simp only [decide_eq_false_iff_not] at hb; omega
   refine cU (aS () trivial (aQ rfl (aQ rfl (aZ rfl (kC (by rw [tI,if_pos hb2])) (zS rfl)))) (aU (aH rfl) aY))
 ·refine ts (rm rfl (ro rfl (fB (Ht rfl) (cJ 63) (by decide)) (ro rfl (aB.imp (dI (Ht rfl) (cJ 1)) (gD (b := decide (9223372036854775808 ≤ a)) (by rw [Bool.eq_iff_iff]; simp only [decide_eq_true_eq]; omega))) ?_)))
  refine rm rfl (ro rfl (cZ Tryz.call207 (uN (m:=tI a) zo) ⟨(Ht rfl),trivial⟩) (ro rfl (cZ K_197 iX ⟨(Ht rfl),(Ht rfl),trivial⟩) (rm rfl (ro rfl (qC (Ht rfl) cV) (ro rfl (iB (Ht rfl) cV (sV zo)) (gZ Z_30 (Ht rfl) (Ht rfl) rfl (i:=0) rfl (aK rfl) rfl rfl (ra rfl (eX ?_))))))))
  exact bE rfl (fU A_30 Z_30 rfl (i:=0) rfl rfl) (eU rfl)
end
theorem Kg {a:Nat} (ha:a < 18446744073709551616):bA Tryz.prog 113 [CbT .f64 a 0] (fE [aF (vD a),aD .i64 (if fin Ieee.double a then 0 else 1)]):=by
 have hex:=Yr a; have hma:=Pp a
 have e0:nC 0 = 0:=by decide
 have m0:tI 0 = 0:=by decide
 obtain ⟨k,hk⟩:∃ k,k = max (nC a) 1 - 1:=⟨_,rfl⟩
 have hw:=tS
 refine bA.intro Tryz.func113 rfl Tryz.ntmps113 rfl (fun cx=>(ts (rn rfl (eW (Ts:=[Is (.bool false),Is (.slice none 0 0),Is (.bool false),Is (.slice none 0 0),Is (.slice none 0 0)]) O_32 rfl (fun V=>aW zd (aW zd (aW zd (aW zd (aW zd (aG))))))) fun B2=>(ro rfl (cQ (cJ 0)) (eX (cK (ts (rm rfl (ro rfl (aB.imp (Jg (Ht rfl)) (pS (Q:=_) (fun _ h=>by obtain ⟨_,h1,h2⟩:=h; exact h1))) (ro rfl (cZ Tryz.call204 (Hl (by assumption)) ⟨(Ht rfl),trivial⟩) ?_))))))))))
 refine ro rfl (dR (Ht rfl)) (rm rfl (fQ rfl rfl (eK rfl rfl (Ht rfl) (fun h=>cX (Ht rfl))) (fQ rfl rfl (eK rfl rfl (Ht rfl) (fun h=>aB.imp (Jb (fV rfl h)) (pS (Q:=_) (fun _ h=>by obtain ⟨_,h1,h2⟩:=h; exact h2)))) (fQ rfl rfl (eK rfl rfl (Ht rfl) (fun h=>cZ Tryz.call204 (Hl (a:=0) (by decide)) ⟨(fV rfl h),trivial⟩)) (fQ rfl rfl (eK rfl rfl (Ht rfl) (fun h=>dR (fV rfl h))) (ro rfl (gK (Ht rfl) (fun h=>(fV rfl h))) (eX (dQ (Ht rfl) (fun hb=>?_) (fun hb=>?_)))))))))
 ·have hb2 : fin Ieee.double a = false := by
   have z:fin Ieee.double 0 = true:=by decide
   rw [z] at hb; simpa using hb
  refine ts (ro rfl (aB.imp (mF ) iA) (gZ Z_32 (Ht rfl) (Ht rfl) rfl (i:=0) rfl (aK rfl) rfl rfl (ro rfl (cQ (cJ 1)) (eX (bE rfl (fZ (fU A_32 Z_32 rfl (i:=0) rfl rfl) ?_) (fZ (eU rfl) ?_))))))
  ·exact (fM (by unfold vD; rw [hb2]; rfl))
  ·exact (aP (by rw [hb2]; rfl))
 ·have hb2 : fin Ieee.double a = true := by
   simp only [Bool.or_eq_false_iff,Bool.not_eq_false'] at hb; exact hb.1
  refine cU (ts (rm rfl (ro rfl (aB.imp (Jg (Ht rfl)) (pS (Q:=_) (fun _ h=>by obtain ⟨_,h1,h2⟩:=h; exact h1))) (ro rfl (cZ Tryz.call205 (Hw (a:=a) ha) ⟨(Ht rfl),trivial⟩) (rm rfl (ro rfl (dK (Ht rfl) rfl) (ro rfl (dK (Ht rfl) rfl) (rn rfl (eW (Ts:=[Is (.bool false),Is (.slice none 0 0)]) O_30 rfl (fun V=>aW zd (aW zd (aG)))) fun B4=>(gZ Z_30 (Ht rfl) (Ht rfl) rfl (i:=1) rfl (aK rfl) rfl rfl (ra rfl (eX (ts (rm rfl (ro rfl (aB.imp (Jb (Ht rfl)) (pS (Q:=_) (fun _ h=>by obtain ⟨_,h1,h2⟩:=h; exact h2))) ?_))))))))))))))
  refine ro rfl (cZ Tryz.call205 (Hw (a:=0) (by decide)) ⟨(Ht rfl),trivial⟩) (rm rfl (ro rfl (dK (Ht rfl) rfl) (ro rfl (dK (Ht rfl) rfl) (rn rfl (eW (Ts:=[Is (.bool false),Is (.slice none 0 0)]) O_30 rfl (fun V=>aW zd (aW zd (aG)))) fun B6=>(gZ Z_30 (Ht rfl) (Ht rfl) rfl (i:=2) rfl (aK rfl) rfl rfl (ra rfl (eX (ts (rm rfl (ro rfl (wW (Ht rfl) (sV zo)) (rm rfl (ro rfl (wW (Ht rfl) (sV zo)) (ro rfl (aB.imp (Jc cV (Ht rfl) (Ht rfl)) (aP (b:=((nO:Nat):Int)) (by rw [e0,hw]; omega))) ?_)))))))))))))
  refine ra rfl (eX (cK ?_))
  have d1:=Mo a
  have d2:=Mo 0
  have d3:(dg ((Ef a).natAbs * 2 ^ k)).length ≤ 2050:=Nat.le_trans (Ox _ _ (Nat.lt_of_lt_of_le (tZ _) (Nat.pow_le_pow_right cP d1))) zo
  have d4:(dg (1 * 2 ^ nO)).length ≤ 2050:=Nat.le_trans (Ox _ _ (by decide)) zo
  have hval:=Oi ha hk hb2
  refine fJ (m:=20) (dp 4 rfl (eZ gP (Ht rfl) rfl) (dq 37 0 rfl (eY A_4 Z_4 (Ht rfl) (i:=1) rfl rfl) (dp 4 rfl (eZ cO (Ht rfl) rfl) (dq 39 2 rfl (eY A_28 Z_28 (Ht rfl) (i:=1) rfl rfl) (dp 5 rfl (cX (Ht rfl)) (dp 8 rfl (cX (Ht rfl)) (eA 41 4 42 5 rfl (aB.imp (nZ (Ht rfl) (Ht rfl) (sV zo)) (aP (b:=((k:Nat):Int)) zo)) (eA 40 3 43 6 rfl (cZ K_206 (qI (m:=(Ef a).natAbs) (k:=k) zo zo) ⟨(Ht rfl),(Ht rfl),trivial⟩) (eA 38 1 44 7 rfl (cZ K_197 iX ⟨(Ht rfl),(Ht rfl),trivial⟩) ?_)))))))))
  refine dp 6 rfl (eZ gP (Ht rfl) rfl) (dq 46 9 rfl (eY A_4 Z_4 (Ht rfl) (i:=2) rfl rfl) (dp 6 rfl (eZ cO (Ht rfl) rfl) (dq 48 11 rfl (eY A_28 Z_28 (Ht rfl) (i:=2) rfl rfl) (dp 7 rfl (cX (Ht rfl)) (dp 8 rfl (cX (Ht rfl)) (eA 50 13 51 14 rfl (aB.imp (nZ (Ht rfl) (Ht rfl) (sV zo)) (aP (b:=((0:Nat):Int)) (by rw [e0,hw]; omega))) ?_))))))
  refine eA 49 12 52 15 rfl (cZ K_206 (qI (m:=(Ef 0).natAbs) (k:=0) zo zo) ⟨(Ht rfl),(Ht rfl),trivial⟩) (eA 47 10 53 16 rfl (cZ K_197 iX ⟨(Ht rfl),(Ht rfl),trivial⟩) (d0 rfl (aB.imp (cL (xs:=[_]) U_28 Z_24 O_24 (cW (cJ 1) cG) rfl rfl rfl) wS) (dp 8 rfl (cX (Ht rfl)) (fW bC rfl (by kernel_rfl) (zF (zF (zF (zF (zF (aV ?_))))))))))
  refine ro rfl (cZ K_206 (qI (m:=1) (k:=nO) (by decide) zo) ⟨(Ht rfl),(Ht rfl),trivial⟩) (ro rfl (cZ K_108 (eQ (qT (A:=rG (decide (Ef a < 0)) ((Ef a).natAbs * 2 ^ k)) (B:=rG (decide (Ef 0 < 0)) ((Ef 0).natAbs * 2 ^ 0)) (D:=1 * 2 ^ nO) (by rw [Nat.one_mul]; exact Nat.two_pow_pos _) (by rw [Ba]; omega) (by rw [Bo]; decide) zo) (fM hval)) ⟨(Ht rfl),(Ht rfl),(Ht rfl),trivial⟩) ?_)
  refine gZ Z_32 (Ht rfl) (Ht rfl) rfl (i:=0) rfl (aK rfl) rfl rfl (ro rfl (cQ (cJ 0)) (eX (bE rfl (fU A_32 Z_32 rfl (i:=0) rfl rfl) (fZ (eU rfl) ?_))))
  exact (aP (by rw [hb2]; rfl))
theorem Ep {p : Nat} : bA Tryz.prog 113 [Mj .f64 (fun a b => Wid p a ∧ b = 0)] (fE [aF (vF p), aD .i64 (if fin Ieee.single p then 0 else 1)]) := Ut fun a b h => by
 obtain ⟨h,hb⟩:=h
 subst hb
 have k:=Kg h.1
 rw [h.2.1,h.2.2] at k
 exact k
theorem Bu {p:Nat}:bA Tryz.prog 31 [CbT .f32 p 0] (fE [aF (vF p),aD .i64 (if fin Ieee.single p then 0 else 1)]):=by
 refine bA.intro Tryz.func31 rfl Tryz.ntmps31 rfl (fun cx=>(ts (rn rfl (eW (Ts:=[Is (.bool false),Is (.slice none 0 0),Is (.bool false),Is (.slice none 0 0),Is (.slice none 0 0)]) O_32 rfl (fun V=>aW zd (aW zd (aW zd (aW zd (aW zd (aG))))))) fun B2=>(ro rfl (cQ (cJ 0)) (eX (ts (rm rfl (ro rfl (aB.imp (Qf Tryz.runUnderlying67 Tryz.runUnderlying200 (Ht rfl)) (Uk (R:=fun a b=>Wid p a ∧ b = 0) (fun a b h=>by obtain ⟨_,_,⟨rfl,rfl⟩,h1,h2⟩:=h; exact ⟨a1g h1,a1A h2⟩))) ?_))))))))
 refine ro rfl (cZ Tryz.call113 Ep ⟨(Ht rfl),trivial⟩) (ro rfl (dK (Ht rfl) rfl) (ro rfl (dK (Ht rfl) rfl) (gZ Z_32 (Ht rfl) (Ht rfl) rfl (i:=0) rfl (aK rfl) rfl rfl (ra rfl (eX ?_)))))
 exact bE rfl (fU A_32 Z_32 rfl (i:=0) rfl rfl) (eU rfl)
theorem Hr {p:Nat}:bA Tryz.prog 78 [nP .f32 p] (fE [aF (vF p),aC (pw p)]):=by
 refine bA.intro Tryz.func78 rfl Tryz.ntmps78 rfl (fun cx=>(ts (rn rfl (eW (Ts:=[Is (.bool false),Is (.slice none 0 0),Is (.bool false),Is (.slice none 0 0),Is (.slice none 0 0)]) O_32 rfl (fun V=>aW zd (aW zd (aW zd (aW zd (aW zd (aG))))))) fun B2=>(ro rfl (cQ cV) (eX (ts (rm rfl (ro rfl (Fr (Ht rfl) aM.cF) (ro rfl (cZ Tryz.call31 Bu ⟨(Ht rfl),trivial⟩) (rm rfl (ro rfl (dK (Ht rfl) rfl) (ro rfl (dK (Ht rfl) rfl) ?_))))))))))))
 refine rn rfl (eW (Ts:=[Is (.bool false),Is (.slice none 0 0),Is (.bool false),Is (.slice none 0 0),Is (.slice none 0 0)]) O_32 rfl (fun V=>aW zd (aW zd (aW zd (aW zd (aW zd (aG))))))) fun B4=>gZ Z_32 (Ht rfl) (Ht rfl) rfl (i:=1) rfl (aK rfl) rfl rfl (ra rfl (eX (cK (W.D_start (m:=10) (fun b=>cond b ([box B2 32 [aC (decide ((vF p).a < 0)),aI (vF p).a.natAbs,aC (decide ((vF p).b < 0)),aI (vF p).b.natAbs,aI (du (vF p))],box B4 32 [aC (decide ((vF p).a < 0)),aI (vF p).a.natAbs,aC (decide ((vF p).b < 0)),aI (vF p).b.natAbs,aI (du (vF p))]]) _) 9 ?_))))
 refine W.D_step (Ei:=[(4,_)]) rfl rfl (W.Srcs.cons (W.Src.pre rfl rfl) W.Srcs.nil) rfl (by kernel_rfl) (dX rfl (eJ A_32 Z_32 (Ht rfl) (i:=1) rfl rfl rfl)) (W.D_step (Ei:=[(5,_)]) rfl rfl (W.Srcs.cons (W.Src.pre rfl rfl) W.Srcs.nil) rfl (by kernel_rfl) (dX rfl (cX (Ht rfl))) (W.D_step (Ei:=[(13,_)]) rfl rfl (W.Srcs.cons (W.Src.op 1 rfl rfl) W.Srcs.nil) rfl (by kernel_rfl) (dX rfl (kX (Ht rfl) cV)) (W.D_step (Ei:=[(14,_)]) rfl rfl (W.Srcs.cons (W.Src.op 2 rfl rfl) W.Srcs.nil) rfl (by kernel_rfl) (dX rfl (cX (Ht rfl))) ?_)))
 refine W.D_step (Ei:=[(4,_),(15,_)]) rfl rfl (W.Srcs.cons (W.Src.pre rfl rfl) (W.Srcs.cons (W.Src.op 3 rfl rfl) W.Srcs.nil)) rfl (by kernel_rfl) (eK rfl rfl (Ht rfl) (fun h=>eJ A_32 Z_32 (Ht rfl) (i:=1) rfl rfl rfl)) (W.D_step (Ei:=[(15,_)]) rfl rfl (W.Srcs.cons (W.Src.op 3 rfl rfl) W.Srcs.nil) rfl (by kernel_rfl) (eK rfl rfl (Ht rfl) (fun h=>cZ K_36 (gY (n:=0) (by decide) (by decide)) ⟨(cJ 0),trivial⟩)) (W.D_step (Ei:=[(16,_),(17,_),(15,_)]) rfl rfl (W.Srcs.cons (W.Src.op 4 rfl rfl) (W.Srcs.cons (W.Src.op 5 rfl rfl) (W.Srcs.cons (W.Src.op 3 rfl rfl) W.Srcs.nil))) rfl (by kernel_rfl) (eK rfl rfl (Ht rfl) (fun h=>cZ K_30 (tV (x:=vF p) (y:=Qi.ofInt 0) (L:=9) (M:=1) (hx:=Gp p) (hy:=(aE.zero (Nat.le_refl 1):aE (Qi.ofInt 0) 1)) zo) ⟨(fV rfl h),(fV rfl h),trivial⟩)) ?_))
 refine W.D_pure (Ei:=[(18,_),(15,_)]) rfl rfl (W.Srcs.cons (W.Src.op 6 rfl rfl) (W.Srcs.cons (W.Src.op 3 rfl rfl) W.Srcs.nil)) rfl (fun _=>eK rfl rfl (Ht rfl) (fun h=>lV (fV rfl h) cV)) (W.D_pure (Ei:=[(15,_),(19,_)]) rfl rfl (W.Srcs.cons (W.Src.op 3 rfl rfl) (W.Srcs.cons (W.Src.op 7 rfl rfl) W.Srcs.nil)) rfl (fun _=>dX rfl (fT (Ht rfl) (fun h=>(fV rfl h)))) (W.D_put (Ei:=[(2,_),(12,_)]) rfl rfl (W.Srcs.cons (W.Src.pre rfl rfl) (W.Srcs.cons (W.Src.op 0 rfl rfl) W.Srcs.nil)) rfl (rM Z_32 (Ht rfl) (Ht rfl) rfl (i:=0) rfl (aK rfl) rfl rfl) ?_))
 refine W.D_done bC rfl (by kernel_rfl) rfl (W.F_val (W.F_val (W.F_val (W.F_val (W.F_val (W.F_val (W.F_val (W.F_val (W.F_val (W.F_put (W.F_nil (ra rfl (eX (bE rfl (fU A_32 Z_32 rfl (i:=0) rfl rfl) (fZ (eU rfl) ?_)))))))))))))))
 exact (gD (a2c p))
section
attribute [local irreducible] callFunc
end
end
section
open Go Go.RowKit
open Fl
theorem Ff:aE (Qi.ofInt 1) 1:=⟨Qi.Fit.int (by decide) (by decide)⟩
theorem a2i:aE (Qi.ofInt 0) 1:=aE.zero (Nat.le_refl 1)
theorem a2d {p:Nat} (h:pw p = true):vF p = q32 p:=by unfold vF; rw [if_pos (a0W h)]
theorem xQ {hot cold:Qi} {p q L:Nat} (hh:aE hot L) (hc:aE cold L) (hL1:1 ≤ L) (hL:L ≤ 1000000):bA Tryz.prog 13 [aF hot,aF cold,nP .f32 p,nP .f32 q] (fE [aF (rC hot cold p q).1,aD .i64 (rC hot cold p q).2]):=by
 haveI:=hh; haveI:=hc; haveI fp:=Gp p; haveI fq:=Gp q; haveI f1:=Ff; haveI f0:=a2i
 refine bA.intro Tryz.func13 rfl Tryz.ntmps13 rfl (fun cx=>(ts (rn rfl (fK (Ht rfl)) fun B4=>(rn rfl (fK (Ht rfl)) fun B5=>(rn rfl (eW (Ts:=[Is (.bool false),Is (.slice none 0 0),Is (.bool false),Is (.slice none 0 0),Is (.slice none 0 0)]) O_32 rfl (fun V=>aW zd (aW zd (aW zd (aW zd (aW zd (aG))))))) fun B8=>(ro rfl (cQ (cJ 0)) (eX (ts (rm rfl (ro rfl (cZ Tryz.call78 Hr ⟨(Ht rfl),trivial⟩) (rm rfl (ro rfl (dK (Ht rfl) rfl) ?_))))))))))))
 refine ro rfl (dK (Ht rfl) rfl) (rn rfl (eW (Ts:=[Is (.bool false),Is (.slice none 0 0),Is (.bool false),Is (.slice none 0 0),Is (.slice none 0 0)]) O_32 rfl (fun V=>aW zd (aW zd (aW zd (aW zd (aW zd (aG))))))) fun B10=>(gZ Z_32 (Ht rfl) (Ht rfl) rfl (i:=3) rfl (aK rfl) rfl rfl (ra rfl (eX (ts (rm rfl (ro rfl (cZ Tryz.call78 Hr ⟨(Ht rfl),trivial⟩) (rm rfl (ro rfl (dK (Ht rfl) rfl) (ro rfl (dK (Ht rfl) rfl) ?_))))))))))
 refine rn rfl (eW (Ts:=[Is (.bool false),Is (.slice none 0 0),Is (.bool false),Is (.slice none 0 0),Is (.slice none 0 0)]) O_32 rfl (fun V=>aW zd (aW zd (aW zd (aW zd (aW zd (aG))))))) fun B12=>gZ Z_32 (Ht rfl) (Ht rfl) rfl (i:=4) rfl (aK rfl) rfl rfl (ra rfl (eX (cK (ts (ro rfl (eJ A_32 Z_32 (Ht rfl) (i:=0) rfl rfl rfl) (ro rfl (cZ K_79 (tB (x:=hot) (L:=L) zo) ⟨(Ht rfl),trivial⟩) ?_))))))
 refine ro rfl (dR (Ht rfl)) (rm rfl (fQ rfl rfl (eK rfl rfl (Ht rfl) (fun h=>eJ A_32 Z_32 (Ht rfl) (i:=1) rfl rfl rfl)) (fQ rfl rfl (eK rfl rfl (Ht rfl) (fun h=>cZ K_79 (tB (x:=cold) (L:=L) zo) ⟨(fV rfl h),trivial⟩)) (fQ rfl rfl (eK rfl rfl (Ht rfl) (fun h=>dR (fV rfl h))) (ro rfl (gK (Ht rfl) (fun h=>(fV rfl h))) (rm rfl (fQ rfl rfl (eK rfl rfl (Ht rfl) (fun h=>cX (Ht rfl))) (fQ rfl rfl (eK rfl rfl (Ht rfl) (fun h=>dR (fV rfl h))) (ro rfl (gK (Ht rfl) (fun h=>(fV rfl h))) ?_)))))))))
 refine rm rfl (fQ rfl rfl (eK rfl rfl (Ht rfl) (fun h=>cX (Ht rfl))) (fQ rfl rfl (eK rfl rfl (Ht rfl) (fun h=>dR (fV rfl h))) (ro rfl (gK (Ht rfl) (fun h=>(fV rfl h))) (eX (dQ (Ht rfl) (fun hb=>?_) (fun hb=>?_))))))
 ·have he := Qx (hot := hot) (cold := cold) (p := p) (q := q) hb
  refine ts (ro rfl (aB.imp (mF ) iA) (gZ Z_32 (Ht rfl) (Ht rfl) rfl (i:=2) rfl (aK rfl) rfl rfl (ro rfl (cQ (cJ 1)) (eX (bE rfl (fZ (fU A_32 Z_32 rfl (i:=2) rfl rfl) ?_) (fZ (eU rfl) ?_))))))
  ·exact (fM (by first | (rw [he]; done) | (rw [he]; rfl)))
  ·exact (aP (by rw [he]; rfl))
 ·have hbn : ¬ (!eR hot || !eR cold || !pw p || !pw q) = true := by rw [hb]; decide
  have hb2:((eR hot = true ∧ eR cold = true) ∧ pw p = true) ∧ pw q = true:=by simpa only [Bool.or_eq_false_iff,Bool.not_eq_false'] using hb
  have vp:=a2d hb2.1.2
  have vq:=a2d hb2.2
  have rh:=vB hb2.1.1.1
  have rc:=vB hb2.1.1.2
  refine cU (cK (ts (ro rfl (eJ A_32 Z_32 (Ht rfl) (i:=0) rfl rfl rfl) (ro rfl (eJ A_32 Z_32 (Ht rfl) (i:=1) rfl rfl rfl) (ro rfl (cZ K_30 (tV (x:=hot) (y:=cold) (L:=L) (M:=L) zo) ⟨(Ht rfl),(Ht rfl),trivial⟩) (ro rfl (wV (Ht rfl) cV) (rm rfl (fQ rfl rfl (eK rfl rfl (Ht rfl) (fun h=>eJ A_32 Z_32 (Ht rfl) (i:=3) rfl rfl rfl)) (fQ rfl rfl (eK rfl rfl (Ht rfl) (fun h=>eJ A_32 Z_32 (Ht rfl) (i:=4) rfl rfl rfl)) (fQ rfl rfl (eK rfl rfl (Ht rfl) (fun h=>cZ K_30 (tV (x:=vF p) (y:=vF q) (L:=9) (M:=9) zo) ⟨(fV rfl h),(fV rfl h),trivial⟩)) ?_))))))))))
  refine fQ rfl rfl (eK rfl rfl (Ht rfl) (fun h=>wV (fV rfl h) cV)) (ro rfl (gK (Ht rfl) (fun h=>(fV rfl h))) (eX (dQ (Ht rfl) (fun hg=>?_) (fun hg=>?_))))
  ·have hg2 : (decide (nV hot cold ≤ 0) || decide (av Ieee.single p ≤ av Ieee.single q)) = true := by
    rw [nB rh.b rc.b,vp,vq] at hg
    rw [← hg]; congr 1; rw [decide_eq_decide]; exact Ji.symm
   have he:=Qy hbn hg2
   refine ts (ro rfl (aB.imp (mF ) iA) (gZ Z_32 (Ht rfl) (Ht rfl) rfl (i:=2) rfl (aK rfl) rfl rfl (ro rfl (cQ (cJ 7)) (eX (bE rfl (fZ (fU A_32 Z_32 rfl (i:=2) rfl rfl) ?_) (fZ (eU rfl) ?_))))))
   ·exact (fM (by first | (rw [he]; done) | (rw [he]; rfl)))
   ·exact (aP (by rw [he]; rfl))
  ·have hg2 : (decide (nV hot cold ≤ 0) || decide (av Ieee.single p ≤ av Ieee.single q)) = false := by
    rw [nB rh.b rc.b,vp,vq] at hg
    rw [← hg]; congr 1; rw [decide_eq_decide]; exact Ji.symm
   have hgn:¬ (decide (nV hot cold ≤ 0) || decide (av Ieee.single p ≤ av Ieee.single q)) = true:=by rw [hg2]; decide
   have ok:=a11 hbn hgn
   have htp:(hot - vF p / vF q * cold) / (vF p / vF q - Qi.ofInt 1) = (tR hot cold (q32 p) (q32 q)):=by rw [vp,vq]; exact ok.eq
   have gT:aE ((hot - vF p / vF q * cold) / (vF p / vF q - Qi.ofInt 1)) ((L + ((9 + 3 * 9 + 2) + L + 1) + 1) + 3 * ((9 + 3 * 9 + 2) + 1 + 1) + 2):=inferInstance
   rw [htp] at gT
   haveI:=gT
   refine cU (ts (ro rfl (eJ A_32 Z_32 (Ht rfl) (i:=3) rfl rfl rfl) (ro rfl (eJ A_32 Z_32 (Ht rfl) (i:=4) rfl rfl rfl) (ro rfl (cZ Tryz.call80 (zY (x:=vF p) (y:=vF q) (L:=9) (M:=9) zo) ⟨(Ht rfl),(Ht rfl),trivial⟩) (rn rfl (eW (Ts:=[Is (.bool false),Is (.slice none 0 0),Is (.bool false),Is (.slice none 0 0),Is (.slice none 0 0)]) O_32 rfl (fun V=>aW zd (aW zd (aW zd (aW zd (aW zd (aG))))))) fun B14=>?_)))))
   refine gZ Z_32 (Ht rfl) (Ht rfl) rfl (i:=5) rfl (aK rfl) rfl rfl (eX (cK (fJ (m:=10) (dp 4 rfl (eJ A_32 Z_32 (Ht rfl) (i:=0) rfl rfl rfl) (dp 14 rfl (eJ A_32 Z_32 (Ht rfl) (i:=5) rfl rfl rfl) (dp 5 rfl (eJ A_32 Z_32 (Ht rfl) (i:=1) rfl rfl rfl) (eA 58 1 59 2 rfl (cZ K_29 (iP (x:=vF p / vF q) (y:=cold) zo) ⟨(Ht rfl),(Ht rfl),trivial⟩) (eA 57 0 60 3 rfl (cZ K_32 (tW (x:=hot) (y:=vF p / vF q * cold) zo) ⟨(Ht rfl),(Ht rfl),trivial⟩) ?_))))))))
   refine dp 14 rfl (eJ A_32 Z_32 (Ht rfl) (i:=5) rfl rfl rfl) (d0 rfl (cZ K_36 (gY (n:=1) (by decide) (by decide)) ⟨(cJ 1),trivial⟩) (eA 62 5 63 6 rfl (cZ K_32 (tW (x:=vF p / vF q) (y:=Qi.ofInt 1) zo) ⟨(Ht rfl),(Ht rfl),trivial⟩) (eA 61 4 64 7 rfl (cZ Tryz.call80 (eQ (zY (x:=hot - vF p / vF q * cold) (y:=vF p / vF q - Qi.ofInt 1) zo) (fM htp)) ⟨(Ht rfl),(Ht rfl),trivial⟩) (C.D_new (Ei:=[]) rfl rfl rfl bW (eW (Ts:=[Is (.bool false),Is (.slice none 0 0),Is (.bool false),Is (.slice none 0 0),Is (.slice none 0 0)]) O_32 rfl (fun V=>aW zd (aW zd (aW zd (aW zd (aW zd (aG))))))) ?_))))
   refine fW bC rfl (by kernel_rfl) (zF (zF (aJ (C.F_new (fun B15=>aV (gZ Z_32 (Ht rfl) (Ht rfl) rfl (i:=6) rfl (aK rfl) rfl rfl (eX (cK (cK (fJ (m:=2) (dp 15 rfl (eJ A_32 Z_32 (Ht rfl) (i:=6) rfl rfl rfl) (d0 rfl (cZ K_36 (gY (n:=0) (by decide) (by decide)) ⟨(cJ 0),trivial⟩) (fW bC rfl (by kernel_rfl) (aJ (aJ (aV (ro rfl (cZ K_30 (tV (x:=(tR hot cold (q32 p) (q32 q))) (y:=Qi.ofInt 0) zo) ⟨(Ht rfl),(Ht rfl),trivial⟩) ?_)))))))))))))))))
   refine ro rfl (kG (Ht rfl) cV) (eX (dQ (Ht rfl) (fun hs=>?_) (fun hs=>?_)))
   ·have hs2 : (tR hot cold (q32 p) (q32 q)).re < 0 := (a1z ok.real).1 (by simpa using hs)
    have he:=Lm hbn hgn hs2
    refine ts (ro rfl (aB.imp (mF ) iA) (gZ Z_32 (Ht rfl) (Ht rfl) rfl (i:=2) rfl (aK rfl) rfl rfl (ro rfl (cQ (cJ 5)) (eX (bE rfl (fZ (fU A_32 Z_32 rfl (i:=2) rfl rfl) ?_) (fZ (eU rfl) ?_))))))
    ·exact (fM (by first | (rw [he]; done) | (rw [he]; rfl)))
    ·exact (aP (by rw [he]; rfl))
   ·have hs2 : ¬ (tR hot cold (q32 p) (q32 q)).re < 0 := fun k => by have := (a1z ok.real).2 k; simp [this] at hs
    have he:=Jk hbn hgn hs2
    refine cU (ts (ro rfl (eJ A_32 Z_32 (Ht rfl) (i:=6) rfl rfl rfl) (gZ Z_32 (Ht rfl) (Ht rfl) rfl (i:=2) rfl (aK rfl) rfl rfl (ro rfl (cQ (cJ 0)) (eX (bE rfl (fZ (fU A_32 Z_32 rfl (i:=2) rfl rfl) ?_) (fZ (eU rfl) ?_)))))))
    ·exact (fM (by rw [he]))
    ·exact (aP (by rw [he]; rfl))
theorem Er {t t0:Qi} {L:Nat} (ht:aE t L) (hc:aE t0 L) (hL1:1 ≤ L) (hL:L ≤ 1000000):bA Tryz.prog 18 [aF t,aF t0] (fE [aF (Cq t t0).1,aD .i64 (Cq t t0).2]):=by
 haveI:=ht; haveI:=hc; haveI f1:=Ff
 refine bA.intro Tryz.func18 rfl Tryz.ntmps18 rfl (fun cx=>(ts (rn rfl (fK (Ht rfl)) fun B2=>(rn rfl (fK (Ht rfl)) fun B3=>(rn rfl (eW (Ts:=[Is (.bool false),Is (.slice none 0 0),Is (.bool false),Is (.slice none 0 0),Is (.slice none 0 0)]) O_32 rfl (fun V=>aW zd (aW zd (aW zd (aW zd (aW zd (aG))))))) fun B4=>(ro rfl (cQ (cJ 0)) (eX (cK (ts (ro rfl (eJ A_32 Z_32 (Ht rfl) (i:=0) rfl rfl rfl) ?_))))))))))
 refine ro rfl (cZ K_79 (tB (x:=t) (L:=L) zo) ⟨(Ht rfl),trivial⟩) (ro rfl (dR (Ht rfl)) (rm rfl (fQ rfl rfl (eK rfl rfl (Ht rfl) (fun h=>eJ A_32 Z_32 (Ht rfl) (i:=1) rfl rfl rfl)) (fQ rfl rfl (eK rfl rfl (Ht rfl) (fun h=>cZ Tryz.call94 (Ti (x:=t0) (L:=L) zo) ⟨(fV rfl h),trivial⟩)) (fQ rfl rfl (eK rfl rfl (Ht rfl) (fun h=>dR (fV rfl h))) (ro rfl (gK (Ht rfl) (fun h=>(fV rfl h))) (eX (dQ (Ht rfl) (fun hb=>?_) (fun hb=>?_)))))))))
 ·have he := Pa hb
  refine ts (ro rfl (aB.imp (mF ) iA) (gZ Z_32 (Ht rfl) (Ht rfl) rfl (i:=2) rfl (aK rfl) rfl rfl (ro rfl (cQ (cJ 1)) (eX (bE rfl (fZ (fU A_32 Z_32 rfl (i:=2) rfl rfl) ?_) (fZ (eU rfl) ?_))))))
  ·exact (fM (by first | (rw [he]; done) | (rw [he]; rfl)))
  ·exact (aP (by rw [he]; rfl))
 ·obtain ⟨k1, k2, he⟩ := Uo (t := t) (t0 := t0) (by rw [hb]; decide)
  refine cU (cK (fJ (m:=3) (d0 rfl (cZ K_36 (gY (n:=1) (by decide) (by decide)) ⟨(cJ 1),trivial⟩) (dp 2 rfl (eJ A_32 Z_32 (Ht rfl) (i:=0) rfl rfl rfl) (dp 3 rfl (eJ A_32 Z_32 (Ht rfl) (i:=1) rfl rfl rfl) (fW bC rfl (by kernel_rfl) (aJ (aJ (aJ (aV (ro rfl (cZ Tryz.call80 (zY (x:=t) (y:=t0) (L:=L) (M:=L) zo) ⟨(Ht rfl),(Ht rfl),trivial⟩) (ro rfl (cZ K_33 (yN (x:=Qi.ofInt 1) (y:=t / t0) zo) ⟨(Ht rfl),(Ht rfl),trivial⟩) ?_))))))))))))
  refine gZ Z_32 (Ht rfl) (Ht rfl) rfl (i:=2) rfl (aK rfl) rfl rfl (ro rfl (cQ (cJ 0)) (eX (bE rfl (fZ (fU A_32 Z_32 rfl (i:=2) rfl rfl) ?_) (fZ (eU rfl) ?_))))
  ·exact (fM (by rw [he]))
  ·exact (aP (by rw [he]; rfl))
end
section
namespace Fl
open Ieee
abbrev IR:Nat:=9218868437227405312
abbrev jN:Nat:=4503599627370496
def wd (m k:Nat):Nat:=k * jN + m
theorem Jw (m k:Nat):wd (m + 1) k = wd m k + 1:=(Nat.add_assoc _ _ _).symm
structure Mr (m k:Nat):Prop where
 m1:m ≤ 9007199254740992
 k1:k = 0 ∨ jN ≤ m
theorem uB {m k:Nat} (h:Mr m k):nn double (wd m k) = m * 2 ^ k:=by
 obtain ⟨h1,h2⟩:=h
 unfold nn mg up wd; rw [mR]
 by_cases c:k * 4503599627370496 + m < 4503599627370496
 ·have hk : k = 0 := by omega
  subst hk
  rw [if_pos c,Nat.div_eq_of_lt c]; simp
 ·rw [if_neg c]
  by_cases e:m = 9007199254740992
  ·subst e
   have e1:(k * 4503599627370496 + 9007199254740992) % 4503599627370496 = 0:=by omega
   have e2:(k * 4503599627370496 + 9007199254740992) / 4503599627370496 - 1 = k + 1:=by omega
   rw [e1,e2,Nat.pow_succ]; omega
  ·have hm : 4503599627370496 ≤ m := by simp only [jN] at h2; omega
   have e1:(k * 4503599627370496 + m) % 4503599627370496 = m - 4503599627370496:=by omega
   have e2:(k * 4503599627370496 + m) / 4503599627370496 - 1 = k:=by omega
   rw [e1,e2,Nat.add_sub_cancel' hm]
structure uG (n d r:Nat):Prop where
 lt:r < IR
 le:nn double r * d ≤ n * 2 ^ nO
 nx:r + 1 < IR → n * 2 ^ nO < nn double (r + 1) * d
structure sW (n d r:Nat):Prop where
 le:r ≤ IR
 ge:r < IR → n * 2 ^ nO ≤ nn double r * d
 pr:r ≠ 0 → nn double (r - 1) * d < n * 2 ^ nO
theorem uG.uniq {n d r s:Nat} (h:uG n d r) (k:uG n d s):r = s:=by
 have key : ∀ a b, uG n d a → uG n d b → ¬ a < b := fun a b ha hb hl => by
  have h1:=ha.nx (by have:=hb.lt; omega)
  have h2:nn double (a + 1) ≤ nn double b:=Ir hl
  have h3:=Nat.mul_le_mul_right d h2
  have:=hb.le
  omega
 have:=key r s h k; have:=key s r k h; omega
theorem sW.uniq {n d r s:Nat} (h:sW n d r) (k:sW n d s):r = s:=by
 have key : ∀ a b, sW n d a → sW n d b → ¬ a < b := fun a b ha hb hl => by
  have h1:=hb.pr zo
  have h2:nn double a ≤ nn double (b - 1):=Ir zo
  have h3:=Nat.mul_le_mul_right d h2
  have:=ha.ge (by have:=hb.le; omega)
  omega
 have:=key r s h k; have:=key s r k h; omega
open Classical in
noncomputable def Yo (n d:Nat):Nat:=if h:∃ r,uG n d r then h.choose else 0
open Classical in
noncomputable def Xu (n d:Nat):Nat:=if h:∃ r,sW n d r then h.choose else 0
theorem uG.eq {n d r:Nat} (h:uG n d r):Yo n d = r:=by
 have hx:∃ r,uG n d r:=⟨r,h⟩
 rw [Yo,dif_pos hx]; exact hx.choose_spec.uniq h
theorem sW.eq {n d r:Nat} (h:sW n d r):Xu n d = r:=by
 have hx:∃ r,sW n d r:=⟨r,h⟩
 rw [Xu,dif_pos hx]; exact hx.choose_spec.uniq h
theorem Ij {n d m k:Nat} (hk:k = 0 ∨ jN ≤ m) (hm:m < 9007199254740992) (hr:wd m k < IR) (h1:m * 2 ^ k * d ≤ n * 2 ^ nO) (h2:n * 2 ^ nO < (m + 1) * 2 ^ k * d):uG n d (wd m k):=by
 refine ⟨hr,?_,fun _=>?_⟩
 ·rw [uB ⟨by omega,hk⟩]; exact h1
 ·rw [← Jw,uB ⟨by omega,by omega⟩]; exact h2
theorem Vc {n d m k:Nat} (hk:k = 0 ∨ jN ≤ m) (hm:m < 9007199254740992) (hd:0 < d) (hr:wd m k < IR) (h1:m * 2 ^ k * d = n * 2 ^ nO):sW n d (wd m k):=by
 refine ⟨Nat.le_of_lt hr,fun _=>?_,fun h0=>?_⟩
 ·rw [uB ⟨by omega,hk⟩,h1]; exact Nat.le_refl _
 ·rw [← h1, ← uB ⟨by omega, hk⟩]
  exact Nat.mul_lt_mul_of_pos_right (pZ zo) hd
theorem Vd {n d m k:Nat} (hk:k = 0 ∨ jN ≤ m) (hm:m < 9007199254740992) (hr:wd m k < IR) (h1:m * 2 ^ k * d < n * 2 ^ nO) (h2:n * 2 ^ nO ≤ (m + 1) * 2 ^ k * d):sW n d (wd (m + 1) k):=by
 have e:=Jw m k
 refine ⟨by omega,fun _=>?_,fun _=>?_⟩
 ·rw [uB ⟨by omega,by omega⟩]; exact h2
 ·rw [e,Nat.add_sub_cancel,uB ⟨by omega,hk⟩]; exact h1
@[irreducible] def w10:Nat:=1024
theorem Sm:w10 = 1024:=by unfold w10; rfl
theorem a0F:nn double IR = 2 ^ w10 * 2 ^ nO:=by
 obtain ⟨k,hk⟩:∃ k,k = 2046:=⟨_,rfl⟩
 have e:IR = wd jN k:=by rw [hk]; rfl
 rw [e,uB ⟨by decide,.inr (Nat.le_refl _)⟩,show jN = 2 ^ 52 by decide,← Nat.pow_add,← Nat.pow_add]
 have h1:=Sm
 have h2:=tS
 congr 1; omega
theorem Pj {n d : Nat} (h : nn double IR * d ≤ n * 2 ^ nO) : uG n d (IR - 1) :=
 ⟨by decide,Nat.le_trans (Nat.mul_le_mul_right d (Ir (by decide))) h,fun k=>absurd k (by decide)⟩
theorem Pk {n d : Nat} (hd : 0 < d) (h : nn double IR * d ≤ n * 2 ^ nO) : sW n d IR :=
 ⟨Nat.le_refl _,fun k=>absurd k (Nat.lt_irrefl _),fun _=>Nat.lt_of_lt_of_le (Nat.mul_lt_mul_of_pos_right (pZ (by decide)) hd) h⟩
theorem Iu:nn double 0 = 0:=by
 have:=uB (m:=0) (k:=0) ⟨by decide,.inl rfl⟩
 simpa [wd] using this
theorem Kt {d : Nat} (hd : 0 < d) : uG 0 d 0 := ⟨by decide, by rw [Iu]; simp, fun _ => by
 rw [Nat.zero_mul]
 have:nn double 0 < nn double (0 + 1):=pZ (by decide)
 exact Nat.mul_pos zo hd⟩
theorem Ku {d:Nat}:sW 0 d 0:=⟨by decide,fun _=>by rw [Iu]; simp,fun h=>absurd rfl h⟩
noncomputable def blw (x:Qi):Nat:=if 0 ≤ x.a then Yo x.a.natAbs x.den else (if Xu x.a.natAbs x.den = 0 then 0 else 9223372036854775808 + Xu x.a.natAbs x.den)
theorem Lj {n d k q r:Nat} (hk:k ≤ 1074) (h:n * 2 ^ (1074 - k) = q * d + r) (hr:r < d):q * 2 ^ k * d ≤ n * 2 ^ nO ∧ n * 2 ^ nO < (q + 1) * 2 ^ k * d ∧ (r = 0 → q * 2 ^ k * d = n * 2 ^ nO) ∧ (r ≠ 0 → q * 2 ^ k * d < n * 2 ^ nO):=by
 have e:n * 2 ^ nO = (q * d + r) * 2 ^ k:=by rw [← h,Nat.mul_assoc,← Nat.pow_add]; congr 2; have:=tS; omega
 have hp:=Nat.two_pow_pos k
 rw [e]
 generalize 2 ^ k = P at *
 have e1:q * P * d = q * d * P:=by rw [Nat.mul_assoc,Nat.mul_comm P d,← Nat.mul_assoc]
 have e2:(q + 1) * P * d = (q * d + d) * P:=by rw [Nat.mul_assoc,Nat.mul_comm P d,← Nat.mul_assoc,Nat.add_mul q 1 d,Nat.one_mul]
 rw [e1,e2]
 refine ⟨Nat.mul_le_mul_right _ zo,Nat.mul_lt_mul_of_pos_right zo hp,fun h0=>by rw [h0,Nat.add_zero],fun h0=>Nat.mul_lt_mul_of_pos_right zo hp⟩
theorem Qv {n d k q r:Nat} (hk:1074 ≤ k) (h:n = q * (d * 2 ^ (k - 1074)) + r) (hr:r < d * 2 ^ (k - 1074)):q * 2 ^ k * d ≤ n * 2 ^ nO ∧ n * 2 ^ nO < (q + 1) * 2 ^ k * d ∧ (r = 0 → q * 2 ^ k * d = n * 2 ^ nO) ∧ (r ≠ 0 → q * 2 ^ k * d < n * 2 ^ nO):=by
 have e:2 ^ k = 2 ^ (k - 1074) * 2 ^ nO:=by rw [← Nat.pow_add]; congr 1; have:=tS; omega
 have hp:=Nat.two_pow_pos nO
 rw [h,e]
 generalize 2 ^ (k - 1074) = U at *
 generalize 2 ^ nO = P at *
 have e1:q * (U * P) * d = q * (d * U) * P:=by grind
 have e2:(q + 1) * (U * P) * d = (q * (d * U) + d * U) * P:=by grind
 rw [e1,e2]
 refine ⟨Nat.mul_le_mul_right _ zo,Nat.mul_lt_mul_of_pos_right zo hp,fun h0=>by rw [h0,Nat.add_zero],fun h0=>Nat.mul_lt_mul_of_pos_right zo hp⟩
theorem a0C (s:Bool) {r:Nat} (hr:r < IR):double.nearest s (mg double r) (-1074 + (up double r:Nat)) = double.word s r:=by
 by_cases h0:r = 0
 ·subst h0
  have:mg double 0 = 0:=by unfold mg; rw [mR]; rfl
  unfold Format.nearest; rw [if_pos this]
 ·have hm0 : mg double r ≠ 0 := by unfold mg; rw [mR]; split <;> omega
  have xI:double.leastPlace = -1074:=by decide
  have hfb:((double.fractionBits:Nat):Int) = 52:=rfl
  have hm1:mg double r < 2 ^ 53:=by unfold mg; rw [mR,show (2:Nat) ^ 53 = 9007199254740992 by decide]; split <;> omega
  have hl1:(mg double r).log2 < 53:=(Nat.log2_lt hm0).2 hm1
  unfold Format.nearest
  rw [if_neg hm0,xI,hfb]
  have e1 : max (-1074 + ((up double r : Nat) : Int) + ((mg double r).log2 : Int) - 52) (-1074) = -1074 + ((up double r : Nat) : Int) := by
   by_cases c:r < 4503599627370496
   ·have : up double r = 0 := by unfold up; rw [mR, Nat.div_eq_of_lt c]
    rw [this]; omega
   ·have : 2 ^ 52 ≤ mg double r := by unfold mg; rw [mR, if_neg c, show (2 : Nat) ^ 52 = 4503599627370496 by decide]; omega
    have:=(Nat.le_log2 hm0).2 this
    omega
  simp only [e1]
  have e2:(-1074 + ((up double r:Nat):Int) - (-1074 + ((up double r:Nat):Int))).toNat = 0:=by omega
  have e4:(-1074 + ((up double r:Nat):Int) - (-1074)).toNat = up double r:=by omega
  rw [e2,e4,Km,mR,uK,Nat.shiftLeft_eq,Nat.pow_zero,Nat.mul_one]
  congr 1
  have : up double r * 4503599627370496 + mg double r = r := by
   unfold up mg; rw [mR]
   split
   ·rename_i c; rw [Nat.div_eq_of_lt c]; omega
   ·omega
  rw [this]; exact Nat.min_eq_left (Nat.le_of_lt hr)
theorem a0w (r:Nat):(mg double r).log2 ≤ 52:=by
 by_cases h0:mg double r = 0
 ·rw [h0]; decide
 ·have hm1 : mg double r < 2 ^ 53 := by unfold mg; rw [mR, show (2 : Nat) ^ 53 = 9007199254740992 by decide]; split <;> omega
  have:=(Nat.log2_lt h0).2 hm1
  omega
theorem lpd:double.leastPlace = -1074:=by decide
theorem Iq (s:Bool) {r k:Nat} (hr:r < IR) (h0:r ≠ 0):double.nearest s (mg double r * 2 ^ k) (-1074 + (up double r:Nat) - k) = double.word s r:=by
 have hm0:mg double r ≠ 0:=by unfold mg; rw [mR]; split <;> omega
 rw [wO hm0 (a0w r) (show double.leastPlace ≤ -1074 + ((up double r:Nat):Int) by rw [lpd]; omega),a0C s hr]
theorem Pw {m:Nat} (h0:m ≠ 0) (hm:m < 9007199254740992):double.nearest false m 0 = (m.log2 + 1022) * jN + m * 2 ^ (52 - m.log2):=by
 have hl:m.log2 < 53:=(Nat.log2_lt h0).2 (by rw [show (2:Nat) ^ 53 = 9007199254740992 by decide]; exact hm)
 have l1:2 ^ m.log2 ≤ m:=Nat.log2_self_le h0
 have l2:m < 2 ^ (m.log2 + 1):=Nat.lt_log2_self
 have xI:double.leastPlace = -1074:=by decide
 have hfb:((double.fractionBits:Nat):Int) = 52:=rfl
 unfold Format.nearest
 rw [if_neg h0,xI,hfb]
 have e1:max (0 + (m.log2:Int) - 52) (-1074) = (m.log2:Int) - 52:=by omega
 simp only [e1]
 have e2:(0 - ((m.log2:Int) - 52)).toNat = 52 - m.log2:=by omega
 have e3:((m.log2:Int) - 52 - 0).toNat = 0:=by omega
 have e4:((m.log2:Int) - 52 - (-1074)).toNat = m.log2 + 1022:=by omega
 rw [e2,e3,e4,Km,mR,uK,Nat.shiftLeft_eq]
 have:m * 2 ^ (52 - m.log2) < 2 ^ (m.log2 + 1) * 2 ^ (52 - m.log2):=Nat.mul_lt_mul_of_pos_right l2 (Nat.two_pow_pos _)
 rw [← Nat.pow_add,show m.log2 + 1 + (52 - m.log2) = 53 by omega,show (2:Nat) ^ 53 = 9007199254740992 by decide] at this
 rw [Nat.min_eq_left zo]
 rfl
theorem Fj:double.nearest false 9007199254740992 0 = 1076 * jN:=by decide
def wm (m:Nat):Nat:=double.nearest false m 0
theorem nL {m:Nat} (h0:m ≠ 0) (hm:m ≤ 9007199254740992):wm m / jN = m.log2 + 1023 ∧ (m < 9007199254740992 → m.log2 ≤ 52 ∧ wm m % jN + jN = m * 2 ^ (52 - m.log2)) ∧ (m = 9007199254740992 → m.log2 = 53 ∧ wm m % jN = 0) ∧ wm m < IR ∧ jN ≤ wm m:=by
 unfold wm
 by_cases e:m = 9007199254740992
 ·subst e
  rw [Fj]
  have:(9007199254740992:Nat).log2 = 53:=by decide
  rw [this]; decide
 ·have hl : m.log2 < 53 := (Nat.log2_lt h0).2 (by rw [show (2 : Nat) ^ 53 = 9007199254740992 by decide]; omega)
  have l1:2 ^ m.log2 ≤ m:=Nat.log2_self_le h0
  have l2:m < 2 ^ (m.log2 + 1):=Nat.lt_log2_self
  rw [Pw h0 zo]
  have b1:m * 2 ^ (52 - m.log2) < 2 ^ (m.log2 + 1) * 2 ^ (52 - m.log2):=Nat.mul_lt_mul_of_pos_right l2 (Nat.two_pow_pos _)
  rw [← Nat.pow_add,show m.log2 + 1 + (52 - m.log2) = 53 by omega,show (2:Nat) ^ 53 = 9007199254740992 by decide] at b1
  have b2:2 ^ m.log2 * 2 ^ (52 - m.log2) ≤ m * 2 ^ (52 - m.log2):=Nat.mul_le_mul_right _ l1
  rw [← Nat.pow_add,show m.log2 + (52 - m.log2) = 52 by omega,show (2:Nat) ^ 52 = 4503599627370496 by decide] at b2
  generalize m * 2 ^ (52 - m.log2) = K at *
  simp only [jN,IR]
  refine ⟨by omega,fun _=>by omega,fun k=>absurd k e,by omega,by omega⟩
theorem Vg {m k:Nat} (h0:m ≠ 0) (h:Mr m k) (hx:52 ≤ k + m.log2):(k + m.log2 - 51) * jN + wm m % jN = wd m k:=by
 obtain ⟨-,p2,p3,-,-⟩:=nL h0 h.m1
 have hk:=h.k1
 unfold wd
 by_cases e:m = 9007199254740992
 ·obtain ⟨q1, q2⟩ := p3 e
  rw [q1,q2,e]; simp only [jN] at *; omega
 ·obtain ⟨q1, q2⟩ := p2 (by have := h.m1; omega)
  have l2:m < 2 ^ (m.log2 + 1):=Nat.lt_log2_self
  have hl : m.log2 = 52 := by
   rcases hk with k0 | k1
   ·omega
   ·have : 2 ^ 52 ≤ m := by rw [show (2 : Nat) ^ 52 = 4503599627370496 by decide]; exact k1
    have:=(Nat.le_log2 h0).2 this
    omega
  rw [hl] at q2 ⊢
  rw [show 52 - 52 = 0 from rfl,Nat.pow_zero,Nat.mul_one] at q2
  simp only [jN] at *; omega
theorem Ld:double.read 4607182418800017408 = .number false 4503599627370496 (-52):=by decide
theorem Gk:double.read 4368491638549381120 = .number false 4503599627370496 (-105):=by decide
theorem xI:double.leastPlace = -1074:=by decide
theorem sP {y:Nat} (h:y < IR):rg double y = y ∧ ng double y = false ∧ fin double y = true:=by
 have e:rg double y = y:=by unfold rg; rw [pL]; simp only [IR] at h; omega
 refine ⟨e,?_,?_⟩
 ·unfold ng; rw [pL]; simp only [IR] at h; rw [Nat.div_eq_of_lt zo]; rfl
 ·unfold fin; rw [e,uK]; simpa using h
theorem rB {y:Nat} (h:y < IR):double.read y = .number false (mg double y) (-1074 + (up double y:Nat)):=by
 obtain ⟨e1,e2,e3⟩:=sP h
 rw [lX e3,e1,e2,xI]
theorem Ea (r:Nat):double.word false r = r:=rfl
theorem Pt {y:Nat} (h:y < IR) (h0:y ≠ 0):floatBits .mul .f64 4607182418800017408 y = some y:=by
 show double.mul _ _ = _
 unfold Format.mul
 rw [Ld,rB h]
 simp only [Datum.product,Option.map_some,Format.write]
 congr 1
 have:=Iq false (k:=52) h h0
 rw [Ea] at this
 rw [show (4503599627370496:Nat) = 2 ^ 52 by decide,Nat.mul_comm,show (false ^^ false) = false from rfl]
 rw [show (-52:Int) + (-1074 + ((up double y:Nat):Int)) = -1074 + ((up double y:Nat):Int) - ((52:Nat):Int) by omega]; exact this
theorem Pu {m:Nat} (h0:m ≠ 0) (hm:m < jN):floatBits .mul .f64 4368491638549381120 ((m.log2 + 2) * jN + wm m % jN) = some m:=by
 obtain ⟨-,p2,-,-,-⟩:=nL h0 (by simp only [jN] at hm; omega)
 obtain ⟨q1,q2⟩:=p2 (by simp only [jN] at hm; omega)
 have hl:m.log2 < 52:=(Nat.log2_lt h0).2 (by rw [show (2:Nat) ^ 52 = 4503599627370496 by decide]; exact hm)
 obtain ⟨y,hy⟩:∃ y,y = (m.log2 + 2) * jN + wm m % jN:=⟨_,rfl⟩
 have hw:wm m % jN < jN:=Nat.mod_lt _ (by decide)
 rw [← hy]
 have y1:y < IR:=by simp only [jN,IR] at *; omega
 have e1 : mg double y = m * 2 ^ (52 - m.log2) := by
  unfold mg; rw [mR,if_neg (by simp only [jN] at *; omega)]
  have:y % 4503599627370496 = wm m % jN:=by simp only [jN] at *; omega
  rw [this]; simp only [jN] at *; omega
 have e2 : up double y = m.log2 + 1 := by
  unfold up; rw [mR]; simp only [jN] at *; omega
 show double.mul _ _ = _
 unfold Format.mul
 rw [Gk,rB y1,e1,e2]
 simp only [Datum.product,Option.map_some,Format.write]
 congr 1
 have hmg:mg double m = m:=by unfold mg; rw [mR,if_pos hm]
 have hup:up double m = 0:=by unfold up; rw [mR,Nat.div_eq_of_lt hm]
 have:=Iq false (r:=m) (k:=104 - m.log2) (by simp only [jN,IR] at *; omega) h0
 rw [Ea,hmg,hup] at this
 rw [show (4503599627370496:Nat) = 2 ^ 52 by decide,Nat.mul_comm,Nat.mul_assoc,← Nat.pow_add,show 52 - m.log2 + 52 = 104 - m.log2 by omega,show (false ^^ false) = false from rfl]
 rw [show (-105:Int) + (-1074 + ((m.log2 + 1:Nat):Int)) = -1074 + ((0:Nat):Int) - ((104 - m.log2:Nat):Int) by omega]; exact this
theorem a0E (a b:Nat):compare (nn double a:Int) (nn double b:Int) = compare a b:=by
 simp only [compare,compareOfLessAndEq]
 rcases Nat.lt_trichotomy a b with h | h | h
 ·have := pZ (f := double) h
  rw [if_pos zo,if_pos h]
 ·rw [h]; simp
 ·have := pZ (f := double) h
  rw [if_neg zo,if_neg zo,if_neg zo,if_neg zo]
theorem pF {a b:Nat} (ha:a < IR) (hb:b < IR):double.order a b = some (compare a b):=by
 obtain ⟨e1,e2,e3⟩:=sP ha
 obtain ⟨f1,f2,f3⟩:=sP hb
 rw [tN e3 f3,zU e2,zU f2,e1,f1,a0E]
theorem Ap {r:Nat} (h:r ≤ IR):(double.order r 0 != some .eq) = decide (r ≠ 0):=by
 rcases Nat.eq_or_lt_of_le h with e | l
 ·subst e; decide
 ·rw [pF l (by decide)]
  by_cases h0:r = 0
  ·subst h0; decide
  ·rw [Nat.compare_eq_gt.2 zo]; simp [h0]
theorem Ac {r:Nat} (h:r < IR):(double.order r 0 == some .eq) = decide (r = 0):=by
 rw [pF h (by decide)]
 by_cases h0:r = 0
 ·subst h0; decide
 ·rw [Nat.compare_eq_gt.2 zo]; simp [h0]
theorem Vj {a:Nat} (h1:jN ≤ a) (h2:a < IR):(double.order a 4503599627370496 == some .lt) = false:=by
 rw [pF h2 (by decide)]
 have : compare a 4503599627370496 ≠ .lt := fun k => by
  have:=Nat.compare_eq_lt.1 k; simp only [jN] at h1; omega
 simpa using this
def G (n d:Nat) (e:Int):Prop:=n * 2 ^ (-e).toNat < d * 2 ^ e.toNat
theorem yI {n d:Nat} {e:Int} {x y:Nat} (h:(x:Int) - y = e):G n d e ↔ n * 2 ^ y < d * 2 ^ x:=by
 obtain ⟨t,h1,h2⟩:∃ t,x = e.toNat + t ∧ y = (-e).toNat + t:=⟨min x y,by omega,by omega⟩
 rw [h1,h2,Nat.pow_add,Nat.pow_add,← Nat.mul_assoc,← Nat.mul_assoc]
 exact (Nat.mul_lt_mul_right (Nat.two_pow_pos t)).symm
theorem Ml {n d:Nat} {e f:Int} (h:e ≤ f) (k:G n d e):G n d f:=by
 have h1:(((e + ((-e).toNat + (-f).toNat)).toNat:Nat):Int) - (((-e).toNat + (-f).toNat:Nat):Int) = e:=by omega
 have h2:(((f + ((-e).toNat + (-f).toNat)).toNat:Nat):Int) - (((-e).toNat + (-f).toNat:Nat):Int) = f:=by omega
 rw [yI h1] at k
 rw [yI h2]
 exact Nat.lt_of_lt_of_le k (Nat.mul_le_mul_left _ (Nat.pow_le_pow_right (by decide) zo))
open Classical in
noncomputable def Bk (n d:Nat):Int:=if G n d ((bl n:Int) - bl d) then (bl n:Int) - bl d - 1 else (bl n:Int) - bl d
theorem Ys {n d:Nat} (hn:n ≠ 0) (hd:d ≠ 0):¬ G n d (Bk n d) ∧ G n d (Bk n d + 1):=by
 have a1:=yM n; have a2:=yL hn; have b1:=yM d; have b2:=yL hd
 have an:=sZ hn; have bn:=sZ hd
 have up1 : G n d ((bl n : Int) - bl d + 1) := by
  rw [yI (x:=bl n) (y:=bl d - 1) zo,Nat.mul_comm d]
  exact Nat.lt_of_le_of_lt (Nat.mul_le_mul_left _ b2) (Nat.mul_lt_mul_of_pos_right a1 zo)
 have dn1 : ¬ G n d ((bl n : Int) - bl d - 1) := by
  rw [yI (x:=bl n - 1) (y:=bl d) zo,Nat.not_lt,Nat.mul_comm n]
  exact Nat.le_trans (Nat.mul_le_mul_left _ a2) (Nat.mul_le_mul_right _ (Nat.le_of_lt b1))
 unfold Bk
 split
 ·rename_i c; exact ⟨dn1,by rw [show (bl n:Int) - bl d - 1 + 1 = (bl n:Int) - bl d by omega]; exact c⟩
 ·rename_i c; exact ⟨c,up1⟩
theorem a0g {n d:Nat}:(bl n:Int) - bl d - 1 ≤ Bk n d ∧ Bk n d ≤ (bl n:Int) - bl d:=by
 unfold Bk; split <;> omega
noncomputable def rJ (n d:Nat):Nat:=(Bk n d + 1022).toNat
theorem a0Z {N U q:Nat} (hU:0 < U):N < q * U ↔ N / U < q:=(Nat.div_lt_iff_lt_mul hU).symm
theorem Dt {n d:Nat} (hn:n ≠ 0) (hd:d ≠ 0):n * 2 ^ (1074 - rJ n d) / (d * 2 ^ (rJ n d - 1074)) < 9007199254740992 ∧ (rJ n d = 0 ∨ jN ≤ n * 2 ^ (1074 - rJ n d) / (d * 2 ^ (rJ n d - 1074))):=by
 obtain ⟨g1,g2⟩:=Ys hn hd
 have hU:0 < d * 2 ^ (rJ n d - 1074):=Nat.mul_pos zo (Nat.two_pow_pos _)
 have hl:rJ n d = (Bk n d + 1022).toNat:=rfl
 have key : ∀ t : Nat, (n * 2 ^ (1074 - rJ n d) / (d * 2 ^ (rJ n d - 1074)) < 2 ^ t ↔ G n d ((rJ n d : Int) - 1074 + t)) := fun t => by
  rw [← a0Z hU,yI (x:=rJ n d - 1074 + t) (y:=1074 - rJ n d) zo,Nat.pow_add,Nat.mul_comm (2 ^ t),Nat.mul_assoc]
 constructor
 ·rw [show (9007199254740992 : Nat) = 2 ^ 53 by decide, key]
  exact Ml zo g2
 ·by_cases h0 : rJ n d = 0
  ·exact .inl h0
  ·right
   rw [← Nat.not_lt,show jN = 2 ^ 52 by decide,key,show (rJ n d:Int) - 1074 + (52:Nat) = Bk n d by omega]
   exact g1
theorem Wv {n d k q r:Nat} (h:n * 2 ^ (1074 - k) = q * (d * 2 ^ (k - 1074)) + r) (hr:r < d * 2 ^ (k - 1074)):q * 2 ^ k * d ≤ n * 2 ^ nO ∧ n * 2 ^ nO < (q + 1) * 2 ^ k * d ∧ (r = 0 → q * 2 ^ k * d = n * 2 ^ nO) ∧ (r ≠ 0 → q * 2 ^ k * d < n * 2 ^ nO):=by
 by_cases c:k ≤ 1074
 ·rw [show k - 1074 = 0 by omega, Nat.pow_zero, Nat.mul_one] at h hr
  exact Lj c h hr
 ·rw [show 1074 - k = 0 by omega, Nat.pow_zero, Nat.mul_one] at h
  exact Qv zo h hr
theorem Xb {n d:Nat} (hn:n ≠ 0) (hd:d ≠ 0) (h:1023 < Bk n d):Yo n d = IR - 1 ∧ Xu n d = IR:=by
 obtain ⟨g1,-⟩:=Ys hn hd
 have h1:¬ G n d 1024:=fun k=>g1 (Ml zo k)
 rw [yI (x:=w10) (y:=0) (by have:=Sm; omega),Nat.pow_zero,Nat.mul_one,Nat.not_lt] at h1
 have h2 : nn double IR * d ≤ n * 2 ^ nO := by
  rw [a0F,Nat.mul_right_comm]
  exact Nat.mul_le_mul_right _ (by rw [Nat.mul_comm]; exact h1)
 exact ⟨(Pj h2).eq,(Pk zo h2).eq⟩
theorem Po {n d:Nat} (h:¬ 1023 < Bk n d):rJ n d ≤ 2045:=by unfold rJ; omega
theorem a12 {n d q r : Nat} (hn : n ≠ 0) (hd : d ≠ 0) (h : ¬ 1023 < Bk n d) (hq : q = n * 2 ^ (1074 - rJ n d) / (d * 2 ^ (rJ n d - 1074))) (hr : r = n * 2 ^ (1074 - rJ n d) % (d * 2 ^ (rJ n d - 1074))) :
  Yo n d = wd q (rJ n d) ∧ Xu n d = wd (q + if r = 0 then 0 else 1) (rJ n d):=by
 obtain ⟨s1,s2⟩:=Dt hn hd
 rw [← hq] at s1 s2
 have hU:0 < d * 2 ^ (rJ n d - 1074):=Nat.mul_pos zo (Nat.two_pow_pos _)
 have e : n * 2 ^ (1074 - rJ n d) = q * (d * 2 ^ (rJ n d - 1074)) + r := by
  have:=Nat.div_add_mod (n * 2 ^ (1074 - rJ n d)) (d * 2 ^ (rJ n d - 1074))
  rw [← hq,← hr] at this
  rw [Nat.mul_comm q]; exact this.symm
 obtain ⟨f1,f2,f3,f4⟩:=Wv e (by rw [hr]; exact Nat.mod_lt _ hU)
 have hk:=Po h
 have hw:wd q (rJ n d) < IR:=by unfold wd; simp only [jN,IR]; omega
 refine ⟨(Ij s2 s1 hw f1 f2).eq,?_⟩
 split
 ·rename_i c; exact (Vc s2 s1 zo hw (f3 c)).eq
 ·rename_i c; exact (Vd s2 s1 hw (f4 c) (Nat.le_of_lt f2)).eq
theorem a1q {n:Nat} (h:n ≠ 0):bl n = 32 * ((dg n).length - 1) + bl ((dg n).getD ((dg n).length - 1) 0):=by
 have hl:(dg n).length ≠ 0:=fun e=>h (aN.1 e)
 have hv:=Ju (l:=dg n) zo
 rw [dF] at hv
 have hd:iJ ((dg n).take ((dg n).length - 1)):=fun d hd=>bL n d (List.mem_of_mem_take hd)
 have hlow:=gC hd
 rw [List.length_take,Nat.min_eq_left zo] at hlow
 have ht:=Ol h
 generalize (dg n).getD ((dg n).length - 1) 0 = tp at *
 generalize (dg n).length - 1 = k at *
 have hp:BB ^ k = 2 ^ (32 * k):=by rw [Nat.pow_mul]; rfl
 have hq : n / 2 ^ (32 * k) = tp := by
  rw [← hp,hv,Nat.add_mul_div_left _ _ (Nat.pow_pos cP),Nat.div_eq_of_lt hlow,Nat.zero_add]
 rw [vK (k:=32 * k) (by rw [hq]; exact ht),hq,Nat.add_comm]
theorem Oj {q:Nat} (h:q < 9007199254740992):(dg q).length ≤ 2:=fI (by show _ < 4294967296 ^ 2; omega)
end Fl
end
section
open Go Go.RowKit
section
variable {P:Program} {R:eP} {cx:Cx} {n:Nat} {k:List It} {E:bR} {H:Hp} {ops:Array Oper} {o:Oper} {rest:List Oper}
variable {d:Option Tmp} {t tx ty:TypeId} {pos:String} {af:Array Edge} {g:Option (Nat × Bool)}
theorem Gz {j : Nat} {want : Bool} {tb : Nat} {b : Bool} {p : Prop} (hg : o.guard = some (j, want)) (hj : (ops[j]?).bind (·.dst) = some tb) (hb : dP E tb = some (Br p (aC b))) (h : b = !want) : fD P n ops E H o (Is undef) := fun cx X a w V hi hs K Q hK => by
 obtain ⟨v,h1,h2,h3⟩:=hs.2.2 tb _ hb
 have hn : Region.wanted o (yielded ops a.tmps) = false := by
  by_cases hp:p
  ·have hv : v = .bool b := h2 hp
   have hy:yielded ops a.tmps j = some b:=by simp only [yielded,hj,Option.bind_some,h1,hv]
   subst h
   simp [Region.wanted,hg,hy]
  ·have hv : v = undef := h3 hp
   have hy:yielded ops a.tmps j = none:=by simp only [yielded,hj,Option.bind_some,h1,hv]; rfl
   simp [Region.wanted,hg,hy]
 rw [hn]
 exact hK _ _ V hi (jZ.refl V) rfl
theorem qO {j : Nat} {want : Bool} {tb : Nat} (hg : o.guard = some (j, want)) (hj : (ops[j]?).bind (·.dst) = some tb) (hb : dP E tb = some (Is undef)) : fD P n ops E H o (Is undef) := fun cx X a w V hi hs K Q hK => by
 obtain ⟨v,h1,h2⟩:=hs.2.2 tb _ hb
 have hv:v = undef:=h2
 have hy:yielded ops a.tmps j = none:=by simp only [yielded,hj,Option.bind_some,h1,hv]; rfl
 have hn:Region.wanted o (yielded ops a.tmps) = false:=by simp [Region.wanted,hg,hy]
 rw [hn]
 exact hK _ _ V hi (jZ.refl V) rfl
theorem Wb {x y:Operand} {b:Bool} (hx:aM E x (aC b)) (h:b = false):aB P n E H ⟨d,.pick x y (.const (.bool false)),t,pos,af,g⟩ (aC false):=by
 subst h
 exact fT (e:=false) hx (fun k=>by cases k)
theorem Lg {x : Operand} {a : Nat} (hx : aM E x (NT .u64 a)) (ha : a < 9223372036854775808) : aB P n E H ⟨d, .binOp .andNot tx x (.const (.int .u64 9218868437227405312)) ty, t, pos, af, g⟩ (NT .u64 (a % 4503599627370496)) :=
 iL hx (cJ 9218868437227405312) fun w => by
  have e : IntKind.u64.wrap (BitVec.ofInt IntKind.u64.bits (a : Int) &&& ~~~BitVec.ofInt IntKind.u64.bits ((9218868437227405312 : Nat) : Int)).toNat = ((a % 4503599627370496 : Nat) : Int) := by
   have h1:(~~~BitVec.ofInt IntKind.u64.bits ((9218868437227405312:Nat):Int)).toNat = 2 ^ 63 ||| (2 ^ 52 - 1):=by decide
   have h2:(BitVec.ofInt IntKind.u64.bits (a:Int)).toNat = a:=gH _ _ (by show a < 18446744073709551616; omega)
   have h3 : a &&& 2 ^ 63 = 0 := by
    refine Nat.eq_of_testBit_eq fun i=>?_
    rw [Nat.testBit_and,Nat.testBit_two_pow,Nat.zero_testBit]
    by_cases c:63 = i
    ·subst c; rw [Nat.testBit_lt_two_pow (by rw [show (2:Nat) ^ 63 = 9223372036854775808 by decide]; exact ha)]; rfl
    ·rw [decide_eq_false c,Bool.and_false]
   rw [BitVec.toNat_and,h2,h1,Nat.and_or_distrib_left,h3,Nat.zero_or,Nat.and_two_pow_sub_one_eq_mod,show (2:Nat) ^ 52 = 4503599627370496 by decide]
   exact nN (by show _ < 18446744073709551616; omega)
  rw [← e]
  simp [eqGuard,binOp,Op.intBits,pure,Sem.run,bind,Sem.bind]
theorem Fq {x y : Operand} {a b c : Nat} (hx : aM E x (NT .i64 a)) (hy : aM E y (NT .i64 b)) (ha : a < 9223372036854775808) (hb : b < 9223372036854775808) (h : a &&& b = c) : aB P n E H ⟨d, .binOp .and tx x y ty, t, pos, af, g⟩ (NT .i64 c) :=
 Ja hx hy (by
  subst h
  have e:∀ z:Nat,z < 9223372036854775808 → z < 2 ^ IntKind.i64.bits:=fun z hz=>Nat.lt_of_lt_of_le hz (by decide)
  rw [BitVec.toNat_and,gH _ _ (e a ha),gH _ _ (e b hb)]
  exact nN (show a &&& b < 9223372036854775808 from Nat.lt_of_le_of_lt Nat.and_le_left ha))
theorem a1Q {a:Nat} (ha:a < 9223372036854775808):Op.negFloat .f64 a = 9223372036854775808 + a:=by
 have e:Op.negFloat .f64 a = a ^^^ 2 ^ 63:=rfl
 have p:(2:Nat) ^ 63 = 9223372036854775808:=by decide
 have h1:(a ^^^ 2 ^ 63) / 2 ^ 63 = 1:=by rw [Nat.xor_div_two_pow,Nat.div_eq_of_lt (by rw [p]; exact ha),Nat.div_self (Nat.two_pow_pos _)]; rfl
 have h2:(a ^^^ 2 ^ 63) % 2 ^ 63 = a:=by rw [Nat.xor_mod_two_pow,Nat.mod_self,Nat.xor_zero,Nat.mod_eq_of_lt (by rw [p]; exact ha)]
 rw [e]
 have:=Nat.div_add_mod (a ^^^ 2 ^ 63) (2 ^ 63)
 rw [h1,h2,Nat.mul_one,p] at this
 rw [p]; exact this.symm
theorem Lf {x : Operand} {a : Nat} (hx : aM E x (nP .f64 a)) (ha : a < 9223372036854775808) : aB P n E H ⟨d, .unOp .neg tx x, t, pos, af, g⟩ (nP .f64 (9223372036854775808 + a)) :=
 We (U := fun r => r = 9223372036854775808 + a) hx fun b hb w => by
  subst hb
  exact ⟨_,rfl,a1Q ha⟩
end
end
section
open Go Go.RowKit
theorem xN {n : Nat} {E : bR} {H : Hp} {d : Option Tmp} {t : TypeId} {pos : String} {af : Array Edge} {g : Option (Nat × Bool)} {x0 x1 x2 : Operand} {T0 T1 T2 : Ty} [s0 : cM T0 1 false] (h0 : aM E x0 T0) [s1 : cM T1 1 false] (h1 : aM E x1 T1) [s2 : cM T2 1 false] (h2 : aM E x2 T2) :
  aB Tryz.prog n E H ⟨d,.build 213 #[(0,x0),(1,x1),(2,x2)],t,pos,af,g⟩ (dL [T0,T1,T2]) :=
 gA (parts := [(0, x0), (1, x1), (2, x2)]) fun a V w hs => by
  have p0:=h0 n V a hs
  generalize e0:a.eval x0 = v0 at p0
  have q0:=(s0.ok v0 V p0).2.2 rfl
  have p1:=h1 n V a hs
  generalize e1:a.eval x1 = v1 at p1
  have q1:=(s1.ok v1 V p1).2.2 rfl
  have p2:=h2 n V a hs
  generalize e2:a.eval x2 = v2 at p2
  have q2:=(s2.ok v2 V p2).2.2 rfl
  refine ⟨.agg #[v0,v1,v2],?_,[v0,v1,v2],rfl,aW (⟨p0,q0⟩) (aW (⟨p1,q1⟩) (aW (⟨p2,q2⟩) (aG)))⟩
  simp [e0,e1,e2,Instr.build,Instr.fill,Sem.run_bind,Result.andThen,eI,q0.cells,q1.cells,q2.cells,Tryz.zeroValue213,U_213,Z_3]
theorem oW (a:Addr) (w:World):(Instr.fieldAt 213 (.pointer (some a)) 0).run Tryz.prog w = .ok (.pointer (some (a.add 0))) w:=by
 simp [Instr.fieldAt,Instr.sureAddr,fieldPlace,Sem.run_bind,Result.andThen,U_213,Z_3]
theorem Oz (a:Addr) (w:World):(Instr.fieldAt 213 (.pointer (some a)) 1).run Tryz.prog w = .ok (.pointer (some (a.add 1))) w:=by
 simp [Instr.fieldAt,Instr.sureAddr,fieldPlace,Sem.run_bind,Result.andThen,U_213,Z_3]
theorem vZ (a:Addr) (w:World):(Instr.fieldAt 213 (.pointer (some a)) 2).run Tryz.prog w = .ok (.pointer (some (a.add 2))) w:=by
 simp [Instr.fieldAt,Instr.sureAddr,fieldPlace,Sem.run_bind,Result.andThen,U_213,Z_3]
end
section
open Go Go.RowKit
open Fl
theorem oI {k:FloatKind} {a b:Nat} (h:a = b):∀ v V,(nP k a).p v V → (nP k b).p v V:=pS fun _ e=>e.trans h
theorem Xp {Ts Us:List Ty} (h:Ts = Us):∀ v V,(fE Ts).p v V → (fE Us).p v V:=fun v V k=>h ▸ k
abbrev Mk:Ty:=dL [NT .i64 53,aD .i64 (-1074),NT .i64 1023]
theorem wN (n:Nat):FloatKind.f64.nearest ((n:Nat):Int) = wm n:=by
 show Ieee.double.nearest (decide ((n:Int) < 0)) (n:Int).natAbs 0 = _
 rw [decide_eq_false zo,Int.natAbs_natCast]; rfl
theorem Cn (m k:Nat):(dg (m * 2 ^ k)).length ≤ (dg m).length + k:=by
 refine rX ?_
 have h1:2 ^ k ≤ BB ^ k:=Nat.pow_le_pow_left (by decide) k
 rw [Nat.pow_add]
 exact Nat.mul_lt_mul_of_lt_of_le (tZ m) h1 (Nat.pow_pos (by decide))
theorem Bt {n L:Nat} (h:(dg n).length ≤ L):bl n ≤ 32 * L:=by
 refine kQ (Nat.lt_of_lt_of_le (tZ n) ?_)
 rw [Nat.pow_mul]; exact Nat.pow_le_pow_right cP h
theorem Cj {m n:Nat}:oP m n < 0 ↔ m < n:=by
 unfold oP; constructor
 ·intro h; split at h
  ·assumption
  ·split at h <;> omega
 ·intro h; rw [if_pos h]; decide
theorem a1G {n d:Nat} {e:Int} (he:e = (bl n:Int) - bl d) (h:n * 2 ^ (-e).toNat < d * 2 ^ e.toNat):Bk n d = e - 1:=by
 subst he; unfold Bk; rw [if_pos (show G n d _ from h)]
theorem a1F {n d:Nat} {e:Int} (he:e = (bl n:Int) - bl d) (h:¬ n * 2 ^ (-e).toNat < d * 2 ^ e.toNat):Bk n d = e:=by
 subst he; unfold Bk; rw [if_neg (show ¬ G n d _ from h)]
noncomputable def rD (n d w:Nat):Nat:=if w = 0 then Yo n d else Xu n d
theorem a0e (n d:Nat):Yo n d ≤ IR:=by
 unfold Yo; split
 ·rename_i h; exact Nat.le_of_lt h.choose_spec.lt
 ·exact Nat.zero_le _
theorem a1f (n d:Nat):Xu n d ≤ IR:=by
 unfold Xu; split
 ·rename_i h; exact h.choose_spec.le
 ·exact Nat.zero_le _
theorem Xa (n d w:Nat):rD n d w ≤ IR:=by unfold rD; split; exact a0e n d; exact a1f n d
noncomputable def sgR (x:Int) (d w:Nat):Nat:=if 0 ≤ x then rD x.natAbs d w else (if rD x.natAbs d (1 - w) = 0 then 0 else 9223372036854775808 + rD x.natAbs d (1 - w))
theorem Rh {d w:Nat} (hd:d ≠ 0):rD 0 d w = 0:=by
 unfold rD; split
 ·exact (Kt zo).eq
 ·exact Ku.eq
theorem a0v {m k : Nat} (h0 : m ≠ 0) (h : Mr m k) (hw : wd m k < IR) {x : Int} {f : Nat}
  (hx:(52 ≤ k + m.log2 ∧ x = (k:Int) + m.log2 - 1074 ∧ f = 4607182418800017408) ∨ (k + m.log2 < 52 ∧ x = (k:Int) + m.log2 - 1021 ∧ f = 4368491638549381120)) :
  ∃ z:Nat,(z:Int) = x + 1023 ∧ z ≤ 2047 ∧ floatBits .mul .f64 f (z * jN + wm m % jN) = some (wd m k):=by
 obtain ⟨-,p2,p3,-,-⟩:=nL h0 h.m1
 have hk:k ≤ 2045:=by unfold wd at hw; have:=h.k1; simp only [jN,IR] at *; omega
 have hl : m.log2 ≤ 53 ∧ (m.log2 = 53 → k ≤ 2044) := by
  by_cases e:m = 9007199254740992
  ·obtain ⟨q1, -⟩ := p3 e
   refine ⟨by omega,fun _=>?_⟩
   unfold wd at hw; simp only [jN,IR] at hw; omega
  ·obtain ⟨q1, -⟩ := p2 (by have := h.m1; omega)
   exact ⟨by omega,fun k=>by omega⟩
 rcases hx with ⟨h1,rfl,rfl⟩ | ⟨h1,rfl,rfl⟩
 ·refine ⟨k + m.log2 - 51, by omega, by omega, ?_⟩
  rw [Vg h0 h h1]
  exact Pt hw (by unfold wd; omega)
 ·have hk0 : k = 0 := by
   rcases h.k1 with e | e
   ·exact e
   ·have : 2 ^ 52 ≤ m := by rw [show (2 : Nat) ^ 52 = 4503599627370496 by decide]; exact e
    have:=(Nat.le_log2 h0).2 this
    omega
  subst hk0
  have hm : m < jN := by
   refine Nat.not_le.1 fun e=>?_
   have:2 ^ 52 ≤ m:=by rw [show (2:Nat) ^ 52 = 4503599627370496 by decide]; exact e
   have:=(Nat.le_log2 h0).2 this
   omega
  refine ⟨m.log2 + 2,by omega,by omega,?_⟩
  rw [Pu h0 hm]; unfold wd; simp
theorem Wq {a z:Nat}:a % 4503599627370496 ||| z * 2 ^ 52 = z * jN + a % jN:=by
 have h:=Nat.two_pow_add_eq_or_of_lt (i:=52) (b:=a % 4503599627370496) (by rw [show (2:Nat) ^ 52 = 4503599627370496 by decide]; exact Nat.mod_lt _ (by decide)) z
 rw [Nat.or_comm,Nat.mul_comm z,← h,show (2:Nat) ^ 52 = 4503599627370496 by decide,Nat.mul_comm]
theorem Wp {q i:Nat}:val ((dg q).take i) ||| (dg q).getD i 0 * 2 ^ (32 * i) = val ((dg q).take (i + 1)):=by
 have hd:iJ ((dg q).take i):=fun d hd=>bL q d (List.mem_of_mem_take hd)
 have hlow : val ((dg q).take i) < 2 ^ (32 * i) := by
  refine Nat.lt_of_lt_of_le (gC hd) ?_
  rw [Nat.pow_mul]; exact Nat.pow_le_pow_right cP (by rw [List.length_take]; omega)
 have h:=Nat.two_pow_add_eq_or_of_lt hlow ((dg q).getD i 0)
 rw [Nat.or_comm,Nat.mul_comm,← h,eO,Nat.pow_mul,Nat.add_comm]; rfl
theorem a1N {q i:Nat} (hi:i < 2):val ((dg q).take i) < 18446744073709551616:=by
 have hd:iJ ((dg q).take i):=fun d hd=>bL q d (List.mem_of_mem_take hd)
 refine Nat.lt_of_lt_of_le (gC hd) (Nat.le_trans (Nat.pow_le_pow_right cP (show _ ≤ 2 by rw [List.length_take]; omega)) (by decide))
theorem On {q i:Nat} (hi:i < 2):(dg q).getD i 0 * 2 ^ (32 * i) < 18446744073709551616:=by
 have:=bB (bL q) i
 have h:i = 0 ∨ i = 1:=by omega
 rcases h with rfl | rfl
 ·simp only [BB] at this; omega
 ·simp only [BB] at this; omega
section
attribute [local irreducible] callFunc
theorem Yg  : bA Tryz.prog 262 [NT .i64 1] (nP .f64 IR):=by
 refine bA.intro Tryz.func262 rfl Tryz.ntmps262 rfl (fun cx=>(ts (ro rfl (cQ aM.cF) (eX (ts (ro rfl (cQ (cJ 0)) (eX (cK (ts (rm rfl (ro rfl (qB (Ht rfl) (cJ 0)) (eX (rO (Ht rfl) (by decide) (cY (ro rfl (cQ (cJ 9218868437227405312)) (eX (ts (rm rfl (ro rfl (mT Ae (Ht rfl)) (ra rfl (eX ?_)))))))))))))))))))))
 exact fG rfl (eU rfl)
theorem Nm {m:Nat} (hm:(dg m).length ≤ 17592186044416):bA Tryz.prog 260 [aI m] (NT .i64 (bl m)):=by
 refine bA.intro Tryz.func260 rfl Tryz.ntmps260 rfl (fun cx=>(ts (ro rfl (cQ (cJ 0)) (eX (cK (ts (rm rfl (ro rfl (dG U_28 (Ht rfl) aA) (ro rfl (dI (Ht rfl) (cJ 0)) (eX (dQ (Ht rfl) (fun hb=>?_) (fun hb=>?_))))))))))))
 ·have h0 : m = 0 := aN.1 (by simpa using hb)
  refine ts (ro rfl (cQ (cJ 0)) (eX (fG rfl (fZ (eU rfl) ?_))))
  exact (kC (by rw [h0]; rfl))
 ·have hl : (dg m).length ≠ 0 := by simpa using hb
  have h0:m ≠ 0:=fun e=>hl (aN.2 e)
  have htl:=bB (bL m) ((dg m).length - 1)
  have hb32:=kQ (k:=32) (v:=(dg m).getD ((dg m).length - 1) 0) htl
  refine cU (ts (rm rfl (ro rfl (dG U_28 (Ht rfl) aA) (ro rfl (dW (Ht rfl) (cJ 1) zo z6) (ro rfl (jI (cJ 32) (Ht rfl) z6) (rm rfl (rm rfl (ro rfl (dG U_28 (Ht rfl) aA) (ro rfl (dW (Ht rfl) (cJ 1) zo z6) (ro rfl (dZ U_28 Z_24 (Ht rfl) (Ht rfl) rfl (dY (bD zo))) ?_))))))))))
  refine ro rfl (dJ A_24 Z_24 (Ht rfl)) (ro rfl (cZ Tryz.call275 (Hq htl) ⟨(Ht rfl),trivial⟩) (ro rfl (dV (Ht rfl) (Ht rfl) z6) (ra rfl (eX (fG rfl (fZ (eU rfl) ?_))))))
  exact (kC (a1q h0).symm)
theorem Cd {a:Nat} (h1:jN ≤ a) (h2:a < IR):bA Tryz.prog 298 [nP .f64 a] (fE [nP .f64 a,aD .i64 0]):=by
 refine bA.intro Tryz.func298 rfl Tryz.ntmps298 rfl (fun cx=>(ts (ro rfl (cQ aM.cF) (ro rfl (cQ (cJ 0)) (eX (cK (ts (rm rfl (ro rfl (cZ Tryz.call286 (Nc (a:=a) (by simp only [IR] at h2; omega)) ⟨(Ht rfl),trivial⟩) ?_)))))))))
 refine ro rfl (sK (Ht rfl) aM.cF (r:=false) (fun x y hx hy=>by subst hx hy; rw [zP,Nat.mod_eq_of_lt (by simp only [IR] at h2; omega)]; exact congrArg some (Vj h1 h2))) ?_
 refine eX (kZ (Ht rfl) rfl (cU (ts (rm rfl (ra rfl (ro rfl (cQ (cJ 0)) (eX ?_)))))))
 exact bE rfl (eU rfl) (eU rfl)
theorem Tl {m k:Nat} (h:Mr m k) (hw:wd m k < IR):bA Tryz.prog 291 [nP .f64 (wm m),aD .i64 ((k:Int) - 1074)] (nP .f64 (wd m k)):=by
 have hk:k ≤ 2045:=by unfold wd at hw; have:=h.k1; simp only [jN,IR] at *; omega
 have hz:wm 0 = 0:=by decide
 have hlt : wm m < IR := by
  by_cases e:m = 0
  ·rw [e,hz]; decide
  ·exact (nL e h.m1).2.2.2.1
 obtain ⟨g1,-,-⟩:=sP hlt
 have i1:decide (rg Ieee.double (wm m) = Ieee.double.infRung) = false:=decide_eq_false (by rw [g1,uK]; exact Nat.ne_of_lt hlt)
 have i2:decide (Ieee.double.infRung < rg Ieee.double (wm m)) = false:=decide_eq_false (by rw [g1,uK]; exact Nat.not_lt.2 (Nat.le_of_lt hlt))
 have hb63:wm m < 9223372036854775808:=Nat.lt_trans hlt (by decide)
 refine bA.intro Tryz.func291 rfl Tryz.ntmps291 rfl (fun cx=>(ts (ro rfl (cQ aM.cF) (eX (cK (eG (ts (rm rfl (ro rfl (sK (Ht rfl) aM.cF (r:=decide (wm m = 0)) (fun x y hx hy=>by subst hx hy; exact congrArg some (Ac hlt))) ?_)))))))))
 refine ra rfl (eX (dQ (Ht rfl) (fun hb=>?_) (fun hb=>?_)))
 ·have h0 : m = 0 := by
   refine Classical.byContradiction fun e=>?_
   have:=(nL e h.m1).2.2.2.2
   have:wm m = 0:=of_decide_eq_true hb
   simp only [jN] at *; omega
  have hk0:k = 0:=by rcases h.k1 with e | e; exact e; simp only [jN] at e; omega
  refine ts (rm rfl (ra rfl (eX (fG rfl (fZ (eU rfl) ?_)))))
  exact (oI (by rw [h0,hk0]; decide))
 ·have h0 : m ≠ 0 := fun e => of_decide_eq_false hb (by rw [e, hz])
  obtain ⟨p1,p2,p3,p4,p5⟩:=nL h0 h.m1
  have hl : m.log2 ≤ 53 ∧ (m.log2 = 53 → k ≤ 2044) := by
   by_cases e:m = 9007199254740992
   ·obtain ⟨q1, -⟩ := p3 e
    refine ⟨by omega,fun _=>?_⟩
    unfold wd at hw; simp only [jN,IR] at hw; omega
   ·obtain ⟨q1, -⟩ := p2 (by have := h.m1; omega)
    exact ⟨by omega,fun k=>by omega⟩
  have hdiv:wm m / 2 ^ 52 = m.log2 + 1023:=p1
  have hand:(m.log2 + 1023) &&& 2047 = m.log2 + 1023:=(Ye _).trans (Nat.mod_eq_of_lt zo)
  refine ts (rm rfl (ro rfl (cZ Tryz.call255 (Hg (a:=wm m) zo) ⟨(Ht rfl),(cJ 0),trivial⟩) (rm rfl (fQ rfl rfl (eK rfl rfl (Ht rfl) (fun h=>cX (Ht rfl))) (fQ rfl rfl (eK rfl rfl (Ht rfl) (fun h=>cZ Tryz.call254 Hh ⟨(fV rfl h),trivial⟩)) (ro rfl (gK (Ht rfl) (fun h=>(fV rfl h))) (ra rfl (eX (kZ (Ht rfl) (by rw [i1,i2]; rfl) ?_)))))))))
  refine cU (cD (ts (rm rfl (ro rfl (cZ Tryz.call298 (Cd (a:=wm m) p5 p4) ⟨(Ht rfl),trivial⟩) (rm rfl (ro rfl (dK (Ht rfl) rfl) (ro rfl (dK (Ht rfl) rfl) (ra rfl (ra rfl (eX (ts (rm rfl (rm rfl (ro rfl (nZ (Ht rfl) (Ht rfl) (sV zo)) (ra rfl (eX (ts (rm rfl (ro rfl (tL Ad (Ht rfl)) (ra rfl (eX (ts (rm rfl (rm rfl (ro rfl (aB.nat (fB (Ht rfl) (cJ 52) (by decide)) hdiv) (ro rfl (gV U_274 U_3 (Ht rfl) z6) ?_))))))))))))))))))))))))))
  refine ro rfl (Fq (Ht rfl) (cJ 2047) zo (by decide) hand) (ro rfl (aB.nat (dW (Ht rfl) (cJ 1023) zo z6) (Nat.add_sub_cancel m.log2 1023)) (ro rfl (nZ (Ht rfl) (Ht rfl) (sV zo)) (ra rfl (eX (cK (ts (rm rfl (ro rfl (kG (Ht rfl) cV) (eX (kZ (Ht rfl) (decide_eq_false zo) (cU (cK (ts (rm rfl (ro rfl (lV (Ht rfl) cV) (eX (kZ (Ht rfl) (decide_eq_false zo) (cU (ts (ro rfl (cQ aM.cF) (eX ?_)))))))))))))))))))))
  refine cK (pN (fun (x:Int) (f:Nat)=>(52 ≤ k + m.log2 ∧ x = (k:Int) + m.log2 - 1074 ∧ f = 4607182418800017408) ∨ (k + m.log2 < 52 ∧ x = (k:Int) + m.log2 - 1021 ∧ f = 4368491638549381120)) (fun (x:Int) (f:Nat)=>[(1,aD .i64 x),(6,NT .u64 (wm m)),(7,nP .f64 f)]) (fun (x:Int) (f:Nat)=>[]) ?_ (fun x f hxf=>?_))
  ·refine ts (rm rfl (ro rfl (kG (Ht rfl) cV) (eX (dQ (Ht rfl) (fun hc => ?_) (fun hc => ?_)))))
   ·have hc2 : k + m.log2 < 52 := by have := of_decide_eq_true hc; omega
    refine ts (rm rfl (ro rfl (nZ (Ht rfl) cV (sV zo)) (ra rfl (eX (cY (ro rfl (cQ aM.cF) (eX (aS ((k:Int) + m.log2 - 1021,4368491638549381120) (.inr ⟨hc2,rfl,rfl⟩) (aZ rfl (aP (by dsimp only; omega)) (zS rfl)) aY))))))))
   ·have hc2 : 52 ≤ k + m.log2 := by have := of_decide_eq_false hc; omega
    refine cU (aS ((k:Int) + m.log2 - 1074,4607182418800017408) (.inl ⟨hc2,rfl,rfl⟩) (aZ rfl (aP (by dsimp only; omega)) (zS rfl)) aY)
  ·obtain ⟨z, z1, z2, hmul⟩ := a0v h0 h hw hxf
   refine ts (rm rfl (ro rfl (Lg (Ht rfl) hb63) (ra rfl (eX (ts (rm rfl (rm rfl (ro rfl (aB.imp (nZ (Ht rfl) cV (sV zo)) (aP (b:=((z:Nat):Int)) zo)) (ro rfl (gV U_3 U_274 (Ht rfl) z7) (ro rfl (lH (Ht rfl) (cJ 52) (by decide) (by show _ < 18446744073709551616; omega)) (ro rfl (aB.nat (oC rfl (Ht rfl) (Ht rfl) z7 z7) Wq) ?_)))))))))))
   refine ra rfl (eX (ts (rm rfl (rm rfl (ro rfl (mT Ae (Ht rfl)) (ro rfl (Le (Ht rfl) (Ht rfl) hmul) (ra rfl (eX ?_))))))))
   exact fG rfl (eU rfl)
theorem Hi {m k:Nat} (h:Mr m k) (hw:wd m k < IR):bA Tryz.prog 261 [nP .f64 (wm m),aD .i64 ((k:Int) - 1074)] (nP .f64 (wd m k)):=by
 refine bA.intro Tryz.func261 rfl Tryz.ntmps261 rfl (fun cx=>(ts (ro rfl (cQ aM.cF) (eX (cK (kZ cV rfl (cU (ts (rm rfl (rm rfl (ro rfl (cZ Tryz.call291 (Tl h hw) ⟨(Ht rfl),(Ht rfl),trivial⟩) (ra rfl (eX ?_)))))))))))))
 exact fG rfl (eU rfl)
theorem Nj  : bA Tryz.prog 127 [] (Mk):=by
 refine bA.intro Tryz.func127 rfl Tryz.ntmps127 rfl (fun cx=>(ts (rn rfl (eW (Ts:=[Is (.int .i64 0),Is (.int .i64 0),Is (.int .i64 0)]) Tryz.zeroValue213 rfl (fun V=>aW zd (aW zd (aW zd (aG))))) fun B0=>(eX (ts (ro rfl (xN cV cV cV) (gZ Tryz.sizeOf213 (Ht rfl) (Ht rfl) rfl (i:=0) rfl (aK rfl) rfl rfl (eX ?_))))))))
 exact fG rfl (fU Tryz.isAgg213 Tryz.sizeOf213 rfl (i:=0) rfl rfl)
theorem Hu {n d w:Nat} (hn:(dg n).length ≤ 1000000) (hd1:(dg d).length ≤ 1000000) (hd:d ≠ 0) (hw:w = 0 ∨ w = 1):bA Tryz.prog 214 [Mk,aI n,aI d,NT .i64 w] (nP .f64 (rD n d w)):=by
 have bn:=Bt hn; have bd:=Bt hd1
 have hw2:w ≠ 2:=by omega
 refine bA.intro Tryz.func214 rfl Tryz.ntmps214 rfl (fun cx=>(ts (rn rfl (fK (Ht rfl)) fun B4=>(ro rfl (cQ aM.cF) (eX (cK (ts (rm rfl (ro rfl (dG U_28 (Ht rfl) aA) (ro rfl (dI (Ht rfl) (cJ 0)) (eX (dQ (Ht rfl) (fun hb=>?_) (fun hb=>?_)))))))))))))
 ·have h0 : n = 0 := aN.1 (by simpa using hb)
  refine ts (ro rfl (cQ aM.cF) (eX (fG rfl (fZ (eU rfl) ?_))))
  exact (oI (by rw [h0,Rh hd]))
 ·have h0 : n ≠ 0 := fun e => by rw [e, dM] at hb; simp at hb
  obtain ⟨e0,he0⟩:∃ e0:Int,e0 = (bl n:Int) - bl d:=⟨_,rfl⟩
  have s1:=Cn n (-e0).toNat
  have s2:=Cn d e0.toNat
  refine cU (ts (rm rfl (ro rfl (cZ Tryz.call260 (Nm (m:=n) zo) ⟨(Ht rfl),trivial⟩) (rm rfl (ro rfl (cZ Tryz.call260 (Nm (m:=d) zo) ⟨(Ht rfl),trivial⟩) (ro rfl (aB.imp (iB (Ht rfl) (Ht rfl) (sV zo)) (aP he0.symm)) (ra rfl (eX (cK (jK (fun (e:Int)=>e = Bk n d) (fun (e:Int)=>[(1,aI n),(2,aI d),(3,NT .i64 w),(4,cB B4 0),(9,aD .i64 e)]) (fun (e:Int)=>[box B4 213 [NT .i64 53,aD .i64 (-1074),NT .i64 1023]]) ?_ (fun e he=>?_)))))))))))
  ·refine ts (rm rfl (rm rfl (ro rfl (wW (Ht rfl) (sV zo)) (ro rfl (aB.imp (qC (Ht rfl) cV) (aP (b := (((-e0).toNat : Nat) : Int)) zo)) (ro rfl (cZ K_206 (qI (m := n) (k := (-e0).toNat) zo zo) ⟨(Ht rfl), (Ht rfl), trivial⟩) (rm rfl (rm rfl (ro rfl (aB.imp (qC (Ht rfl) cV) (aP (b := ((e0.toNat : Nat) : Int)) zo)) (ro rfl (cZ K_206 (qI (m := d) (k := e0.toNat) zo zo) ⟨(Ht rfl), (Ht rfl), trivial⟩) (ro rfl (cZ Tryz.call129 (By zo zo) ⟨(Ht rfl), (Ht rfl), trivial⟩) ?_))))))))))
   refine ro rfl (kG (Ht rfl) cV) (eX (dQ (Ht rfl) (fun hc=>?_) (fun hc=>?_)))
   ·have hc2 := a1G he0 (Cj.1 (of_decide_eq_true hc))
    refine cY (rm rfl (ro rfl (iB (Ht rfl) cV (sV zo)) (ra rfl (eX (aS (e0 - 1) hc2.symm (zS rfl) (dO.refl _))))))
   ·have hc2 := a1F he0 (fun z => of_decide_eq_false hc (Cj.2 z))
    refine cU (aS e0 hc2.symm (zS rfl) (dO.refl _))
  ·have hfb := a0g (n := n) (d := d)
   rw [← he] at hfb
   refine cK (ts (rm rfl (ro rfl (eZ vZ (Ht rfl) rfl) (ro rfl (eY A_3 Z_3 (Ht rfl) (i:=0) rfl rfl) (ro rfl (lV (Ht rfl) (Ht rfl)) (eX (dQ (Ht rfl) (fun hc=>?_) (fun hc=>?_))))))))
   ·have ht := Xb h0 hd (by rw [← he]; exact of_decide_eq_true hc)
    refine cK (ts (rm rfl (ro rfl (dI (Ht rfl) (cJ 0)) (eX (dQ (Ht rfl) (fun hz=>?_) (fun hz=>?_))))))
    ·have hw0 : w = 0 := by have := of_decide_eq_true hz; omega
     refine cK (fJ (m:=11) (dp 4 rfl (eZ oW (Ht rfl) rfl) (dq 45 0 rfl (eY A_3 Z_3 (Ht rfl) (i:=0) rfl rfl) (dq 46 1 rfl (lH (cJ 1) (Ht rfl) (by decide) (by decide)) (dq 47 2 rfl (aB.nat (dW (Ht rfl) (cJ 1) zo z7) (show 1 * 2 ^ 53 - 1 = 9007199254740991 by decide)) (dq 48 3 rfl (aB.imp (yZ U_274 U_91 (Ht rfl)) (oI (wN 9007199254740991))) (dp 4 rfl (eZ vZ (Ht rfl) rfl) (dq 50 5 rfl (eY A_3 Z_3 (Ht rfl) (i:=0) rfl rfl) ?_))))))))
     refine dp 4 rfl (eZ oW (Ht rfl) rfl) (dq 52 7 rfl (eY A_3 Z_3 (Ht rfl) (i:=0) rfl rfl) (eA 51 6 53 8 rfl (dW (Ht rfl) (Ht rfl) zo z6) (dq 54 9 rfl (aB.imp (dV (Ht rfl) (cJ 1) z6) (aP (b:=((2045:Nat):Int) - 1074) (by decide))) (fW bC rfl (by kernel_rfl) (zF (zF (aJ (aJ (aJ (aV ?_))))))))))
     refine ro rfl (cZ Tryz.call261 (Hi (m:=9007199254740991) (k:=2045) ⟨by decide,.inr (by decide)⟩ (by decide)) ⟨(Ht rfl),(Ht rfl),trivial⟩) (ra rfl (eX (fG rfl (fZ (eU rfl) ?_))))
     exact (oI (by rw [rD,if_pos hw0,ht.1]; decide))
    ·have hw1 : ¬ w = 0 := by have := of_decide_eq_false hz; omega
     refine cU (ts (ro rfl (cZ Tryz.call262 Yg ⟨(cJ 1),trivial⟩) (ra rfl (eX (fG rfl (fZ (eU rfl) ?_))))))
     exact (oI (by rw [rD,if_neg hw1,ht.2]))
   ·have hc2 : ¬ 1023 < Bk n d := by rw [← he]; exact of_decide_eq_false hc
    have hkl:=Po hc2
    have hl:rJ n d = (e + 1022).toNat:=by rw [he]; rfl
    obtain ⟨k,hk⟩:∃ k,k = rJ n d:=⟨_,rfl⟩
    rw [← hk] at hkl hl
    have s3:=Cn d (k - 1074)
    have s4:=Cn n (1074 - k)
    have hU:d * 2 ^ (k - 1074) ≠ 0:=Nat.mul_ne_zero hd (Nat.ne_of_gt (Nat.two_pow_pos _))
    obtain ⟨q,hq⟩:∃ q,q = n * 2 ^ (1074 - k) / (d * 2 ^ (k - 1074)):=⟨_,rfl⟩
    obtain ⟨r,hr⟩:∃ r,r = n * 2 ^ (1074 - k) % (d * 2 ^ (k - 1074)):=⟨_,rfl⟩
    obtain ⟨z1,z2⟩:=Dt h0 hd
    rw [← hk,← hq] at z1 z2
    have hfin:=a12 h0 hd hc2 (q:=q) (r:=r) (by rw [← hk]; exact hq) (by rw [← hk]; exact hr)
    rw [← hk] at hfin
    have hql:=Oj z1
    have hrl:(dg r).length ≤ 1001074:=Nat.le_trans (iE (Nat.le_of_lt (by rw [hr]; exact Nat.mod_lt _ (Nat.pos_of_ne_zero hU)))) zo
    have s5:=Cn r 1
    refine cU (ts (rm rfl (ro rfl (eZ oW (Ht rfl) rfl) (ro rfl (eY A_3 Z_3 (Ht rfl) (i:=0) rfl rfl) (ro rfl (iB (Ht rfl) (Ht rfl) (sV zo)) (ro rfl (nZ (Ht rfl) cV (sV zo)) (ro rfl (eZ Oz (Ht rfl) rfl) (ro rfl (eY A_3 Z_3 (Ht rfl) (i:=0) rfl rfl) (ro rfl (aB.imp (qC (Ht rfl) (Ht rfl)) (aP (b:=(k:Int) - 1074) zo)) (ra rfl (eX (ts (rm rfl (rm rfl (ro rfl (aB.imp (qC (Ht rfl) cV) (aP (b:=((k - 1074:Nat):Int)) zo)) (ro rfl (cZ K_206 (qI (m:=d) (k:=k - 1074) zo zo) ⟨(Ht rfl),(Ht rfl),trivial⟩) ?_))))))))))))))))
    refine ra rfl (eX (ts (rm rfl (rm rfl (ro rfl (wW (Ht rfl) (sV zo)) (ro rfl (aB.imp (qC (Ht rfl) cV) (aP (b:=((1074 - k:Nat):Int)) zo)) (ro rfl (cZ K_206 (qI (m:=n) (k:=1074 - k) zo zo) ⟨(Ht rfl),(Ht rfl),trivial⟩) (rm rfl (ro rfl (cZ Tryz.call202 (eQ (Ca (m:=n * 2 ^ (1074 - k)) (n:=d * 2 ^ (k - 1074)) zo zo hU) (Xp (Us:=[aI q,aI r]) (by rw [hq,hr]))) ⟨(Ht rfl),(Ht rfl),trivial⟩) ?_)))))))))
    refine rm rfl (ro rfl (dK (Ht rfl) rfl) (ro rfl (dK (Ht rfl) rfl) (ra rfl (ra rfl (eX (ts (ro rfl (cQ (cJ 0)) (eX (cK (ts (rm rfl (ro rfl (dG U_28 (Ht rfl) aA) (ro rfl (cX (cJ 0)) (eX (eG ?_)))))))))))))))
    refine dC (fun (i : Nat) => i ≤ (dg q).length) (fun (i : Nat) => (dg q).length - i) (fun (i : Nat) => [(3, NT .i64 w), (4, cB B4 0), (10, aD .i64 ((k : Int) - 1074)), (11, aI (d * 2 ^ (k - 1074))), (13, aI r), (14, NT .u64 (val ((dg q).take i))), (80, aI q), (81, NT .i64 (dg q).length), (82, NT .i64 i)]) (fun (i : Nat) => [box B4 213 [NT .i64 53, aD .i64 (-1074), NT .i64 1023]]) 0 (Nat.zero_le _)
     (zS rfl) (dO.refl _) (fun i hi=>?_)
    refine ts (ro rfl (gJ (Ht rfl) (Ht rfl)) (eX (cK (dQ (Ht rfl) (fun hg=>?_) (fun hg=>?_)))))
    ·have hg2 : i < (dg q).length := of_decide_eq_true hg
     have hi2:i < 2:=by omega
     have hdl:=bB (bL q) i
     simp only [BB] at hdl
     refine cU (cK (eG (ts (rm rfl (ro rfl (dZ U_28 Z_24 (Ht rfl) (Ht rfl) rfl (dY (bD zo))) (ro rfl (dJ A_24 Z_24 (Ht rfl)) (ra rfl (ra rfl (eX (cY (rm rfl (rm rfl (ro rfl (gV U_24 U_274 (Ht rfl) z7) (rm rfl (ro rfl (jI (cJ 32) (Ht rfl) z6) (ro rfl (lH (Ht rfl) (Ht rfl) (by show _ ≤ _; simp [IntKind.bits]; omega) (by show _ < 18446744073709551616; exact On hi2)) ?_))))))))))))))))
     refine ro rfl (aB.nat (oC rfl (Ht rfl) (Ht rfl) (by show _ < 18446744073709551616; exact a1N hi2) (by show _ < 18446744073709551616; exact On hi2)) Wp) (ra rfl (eX (cD (cY (ro rfl (dV (Ht rfl) (cJ 1) z6) (rm rfl (eX (gQ (i + 1) hg2 zo (zS rfl) (dO.refl _)))))))))
    ·have hg2 : i = (dg q).length := by have := of_decide_eq_false hg; omega
     have hval:val ((dg q).take i) = q:=by rw [eN zo,dF]
     refine gG rfl (rP (E':=[(3,_),(4,_),(10,_),(11,_),(13,_),(14,_),(80,_),(81,_),(82,_),(83,_)]) (aQ rfl (aQ rfl (aQ rfl (aQ rfl (aQ rfl (aZ rfl (kC hval) (zS rfl))))))) (ts (rm rfl (ro rfl (cZ K_206 (qI (m:=r) (k:=1) zo zo) ⟨(Ht rfl),(cJ 1),trivial⟩) (rm rfl (ro rfl (cZ Tryz.call129 (By zo zo) ⟨(Ht rfl),(Ht rfl),trivial⟩) (ra rfl (eX (cK (jK (fun (m:Nat)=>m = if w = 0 then q else q + if r = 0 then 0 else 1) (fun (m:Nat)=>[(3,NT .i64 w),(4,cB B4 0),(10,aD .i64 ((k:Int) - 1074)),(14,NT .u64 m)]) (fun (m:Nat)=>[box B4 213 [NT .i64 53,aD .i64 (-1074),NT .i64 1023]]) ?_ (fun m hm=>?_)))))))))))
     ·refine ts (rm rfl (ro rfl (dI (Ht rfl) (cJ 1)) (rm rfl (fQ rfl rfl (jG rfl rfl (Ht rfl) (fun h => cX (Ht rfl))) (fQ rfl rfl (jG rfl rfl (Ht rfl) (fun h => dG U_28 (aM.wu rfl h) aA)) (fQ rfl rfl (jG rfl rfl (Ht rfl) (fun h => gR (aM.wu rfl h) (cJ 0))) (ro rfl (fT (Ht rfl) (fun h => (aM.wu rfl h))) (rm rfl (fQ rfl rfl (jG rfl rfl (Ht rfl) (fun h => cX (Ht rfl))) (fQ rfl rfl (jG rfl rfl (Ht rfl) (fun h => dI (aM.wu rfl h) (cJ 2))) (fQ rfl rfl (jG rfl rfl (Ht rfl) (fun h => cX (aM.wu rfl h))) ?_)))))))))))
      refine fQ rfl rfl (Gz rfl rfl rfl (by simp [hw2])) ?_
      refine fQ rfl rfl (Gz rfl rfl rfl (by simp [hw2])) ?_
      refine fQ rfl rfl (Gz rfl rfl rfl (by simp [hw2])) ?_
      refine fQ rfl rfl (qO rfl rfl rfl) (fQ rfl rfl (qO rfl rfl rfl) (fQ rfl rfl (qO rfl rfl rfl) (fQ rfl rfl (qO rfl rfl rfl) (fQ rfl rfl (qO rfl rfl rfl) (fQ rfl rfl (qO rfl rfl rfl) (fQ rfl rfl (qO rfl rfl rfl) (fQ rfl rfl (Gz rfl rfl rfl (by simp [hw2])) ?_)))))))
      refine fQ rfl rfl (jG rfl rfl (Ht rfl) (fun h=>Wb (aM.wu rfl h) (by simp [hw2]))) ?_
      refine ro rfl (gK (Ht rfl) (fun h=>(aM.wu rfl h))) (eX (dQ (Ht rfl) (fun hs=>?_) (fun hs=>?_)))
      ·have hs2 : w = 1 ∧ 0 < (dg r).length := by simpa using hs
       have hr0:r ≠ 0:=fun e=>by rw [e,dM] at hs2; simp at hs2
       refine cY (rm rfl (ro rfl (dV (Ht rfl) (cJ 1) z7) (ra rfl (eX (aS (q + 1) (by rw [if_neg zo,if_neg hr0]) (zS rfl) (dO.refl _))))))
      ·have hs2 : w = 1 → (dg r).length = 0 := by
        intro e; subst e
        simpa using hs
       refine cU ?_
       refine aS q (by
         rcases hw with e | e
         ·rw [if_pos e]
         ·rw [if_neg zo,if_pos (aN.1 (hs2 e))]; rfl) (zS rfl) (dO.refl _)
     ·have hm1 : m ≤ 9007199254740992 := by rw [hm]; split; omega; split <;> omega
      have hm2 : k = 0 ∨ jN ≤ m := by
       rcases z2 with e | e
       ·exact .inl e
       ·right; rw [hm]; split; exact e; split <;> omega
      have hres : rD n d w = wd m k := by
       unfold rD; rw [hfin.1,hfin.2,hm]; split <;> rfl
      refine cK (ts (rm rfl (ro rfl (eZ oW (Ht rfl) rfl) (ro rfl (eY A_3 Z_3 (Ht rfl) (i:=0) rfl rfl) (ro rfl (lH (cJ 1) (Ht rfl) (by decide) (by decide)) (ro rfl (dI (Ht rfl) (Ht rfl)) (rm rfl (fQ rfl rfl (eK rfl rfl (Ht rfl) (fun h=>cX (Ht rfl))) (fQ rfl rfl (eK rfl rfl (Ht rfl) (fun h=>eZ vZ (Ht rfl) rfl)) (fQ rfl rfl (eK rfl rfl (Ht rfl) (fun h=>eY A_3 Z_3 (fV rfl h) (i:=0) rfl rfl)) (fQ rfl rfl (eK rfl rfl (Ht rfl) (fun h=>eZ oW (Ht rfl) rfl)) ?_)))))))))))
      refine fQ rfl rfl (eK rfl rfl (Ht rfl) (fun h=>eY A_3 Z_3 (fV rfl h) (i:=0) rfl rfl)) (fQ rfl rfl (eK rfl rfl (Ht rfl) (fun h=>dW (fV rfl h) (fV rfl h) (by first | omega | (simp at h; omega)) (by show _ < 9223372036854775808; first | omega | (simp at h; omega)))) (fQ rfl rfl (eK rfl rfl (Ht rfl) (fun h=>dV (fV rfl h) (cJ 1) (by show _ < 9223372036854775808; first | omega | (simp at h; omega)))) (fQ rfl rfl (eK rfl rfl (Ht rfl) (fun h=>kX (fV rfl h) (fV rfl h))) (ro rfl (fT (Ht rfl) (fun h=>(fV rfl h))) ?_))))
      refine eX (dQ (Ht rfl) (fun ht=>?_) (fun ht=>?_))
      ·have ht2 : m = 9007199254740992 ∧ k = 2045 := by
        have h1:=ht
        simp only [Bool.and_eq_true,decide_eq_true_eq] at h1
        omega
       refine ts (ro rfl (cZ Tryz.call262 Yg ⟨(cJ 1),trivial⟩) (ra rfl (eX (fG rfl (fZ (eU rfl) ?_)))))
       exact (oI (by rw [hres,ht2.1,ht2.2]; decide))
      ·have ht2 : ¬ (m = 9007199254740992 ∧ k = 2045) := by
        intro h1
        simp only [Bool.and_eq_false_iff,decide_eq_false_iff_not] at ht
        omega
       have hwd:wd m k < IR:=by unfold wd; simp only [jN,IR]; omega
       refine cU (ts (rm rfl (ro rfl (aB.imp (yZ U_274 U_91 (Ht rfl)) (oI (wN m))) (rm rfl (ro rfl (cZ Tryz.call261 (Hi (m:=m) (k:=k) ⟨hm1,hm2⟩ hwd) ⟨(Ht rfl),(Ht rfl),trivial⟩) (ra rfl (eX (fG rfl (fZ (eU rfl) ?_)))))))))
       exact (oI hres.symm)
end
theorem Np {x:Int} {d w:Nat} (hn:(dg x.natAbs).length ≤ 1000000) (hd1:(dg d).length ≤ 1000000) (hd:d ≠ 0) (hw:w = 0 ∨ w = 1):bA Tryz.prog 128 [Mk,fP x,aI d,NT .i64 w] (nP .f64 (sgR x d w)):=by
 have hrl:=Xa x.natAbs d (1 - w)
 refine bA.intro Tryz.func128 rfl Tryz.ntmps128 rfl (fun cx=>(ts (rn rfl (fK (Ht rfl)) fun B4=>(rn rfl (fK (Ht rfl)) fun B5=>(ro rfl (cQ aM.cF) (eX (cK (ts (ro rfl (eZ gP (Ht rfl) rfl) (ro rfl (eY A_4 Z_4 (Ht rfl) (i:=1) rfl rfl) (ro rfl (dR (Ht rfl)) (eX (dQ (Ht rfl) (fun hb=>?_) (fun hb=>?_))))))))))))))
 ·have h0 : 0 ≤ x := by have := hb; simp at this; omega
  refine ts (ro rfl (eJ Tryz.isAgg213 Tryz.sizeOf213 (Ht rfl) (i:=0) rfl rfl rfl) (ro rfl (eZ cO (Ht rfl) rfl) (ro rfl (eY A_28 Z_28 (Ht rfl) (i:=1) rfl rfl) (rm rfl (rm rfl (ro rfl (cZ Tryz.call214 (Hu (n:=x.natAbs) (d:=d) (w:=w) hn hd1 hd hw) ⟨(Ht rfl),(Ht rfl),(Ht rfl),(Ht rfl),trivial⟩) (ra rfl (eX (fG rfl (fZ (eU rfl) ?_))))))))))
  exact (oI (by rw [sgR,if_pos h0]))
 ·have h0 : ¬ 0 ≤ x := by have := hb; simp at this; omega
  refine cU (cK (ts (rm rfl (ro rfl (jW (Ht rfl) (cJ 2)) (eX (rO (Ht rfl) (by simp; omega) ?_))))))
  refine cY (rm rfl (ro rfl (dW (cJ 1) (Ht rfl) zo z6) (ra rfl (eX (cK (ts (ro rfl (eJ Tryz.isAgg213 Tryz.sizeOf213 (Ht rfl) (i:=0) rfl rfl rfl) (ro rfl (eZ cO (Ht rfl) rfl) (ro rfl (eY A_28 Z_28 (Ht rfl) (i:=1) rfl rfl) (rm rfl (rm rfl (ro rfl (cZ Tryz.call214 (Hu (n:=x.natAbs) (d:=d) (w:=1 - w) hn hd1 hd zo) ⟨(Ht rfl),(Ht rfl),(Ht rfl),(Ht rfl),trivial⟩) (ra rfl (eX (ts (rm rfl (ro rfl (sK (Ht rfl) aM.cF (r:=decide (rD x.natAbs d (1 - w) ≠ 0)) (fun x y hx hy=>by subst hx hy; exact congrArg some (Ap hrl))) ?_)))))))))))))))))
  refine eX (dQ (Ht rfl) (fun hc=>?_) (fun hc=>?_))
  ·have hc2 : rD x.natAbs d (1 - w) ≠ 0 := of_decide_eq_true hc
   refine ts (rm rfl (ro rfl (Lf (Ht rfl) (Nat.lt_of_le_of_lt hrl (by decide))) (ra rfl (eX (fG rfl (fZ (eU rfl) ?_))))))
   exact (oI (by rw [sgR,if_neg h0,if_neg hc2]))
  ·have hc2 : rD x.natAbs d (1 - w) = 0 := Classical.byContradiction fun z => of_decide_eq_false hc z
   refine cU (ts (ro rfl (cQ aM.cF) (eX (fG rfl (fZ (eU rfl) ?_)))))
   exact (oI (by rw [sgR,if_neg h0,if_pos hc2]))
theorem Tf {x:Qi} {L:Nat} [hx:aE x L] (h:L ≤ 1000000):bA Tryz.prog 43 [aF x] (nP .f64 (blw x)):=by
 refine bA.intro Tryz.func43 rfl Tryz.ntmps43 rfl (fun cx=>?_)
 have g1:=fI hx.fit.1
 have g3:=fI hx.fit.2.2
 refine ts (rn rfl (fK (Ht rfl)) fun B1=>(ro rfl (cQ aM.cF) (eX (cK (fJ (m:=5) (d0 rfl (cZ Tryz.call127 Nj trivial) (dp 1 rfl (eZ eB (Ht rfl) rfl) (dq 4 1 rfl (eJ A_30 Z_30 (Ht rfl) (i:=0) rfl rfl rfl) (dp 1 rfl (eJ A_32 Z_32 (Ht rfl) (i:=0) rfl rfl rfl) (dq 6 3 rfl (cZ K_109 lP ⟨(Ht rfl),trivial⟩) (fW bC rfl (by kernel_rfl) (zF (aJ (aV (ro rfl (cZ Tryz.call128 (Np (x:=x.a) (d:=x.den) (w:=0) zo zo (Nat.ne_of_gt x.den_pos) (by decide)) ⟨(Ht rfl),(Ht rfl),(Ht rfl),(cJ 0),trivial⟩) ?_)))))))))))))))
 refine ra rfl (eX ?_)
 exact fG rfl (eU rfl)
end
section
open Go Go.RowKit
theorem a0r:Tryz.prog.info? 3 = some Tryz.t3:=by kernel_rfl
theorem Xt:Tryz.prog.underlying 283 = some (.slice 3):=by kernel_rfl
end
section
open Go Go.RowKit
theorem Et {l:List Int} {v:Int} (hl:l.length ≤ 1000000):bA Tryz.prog 287 [jY 1 (l.map (aD .i64)),aD .i64 v] (aD .i64 (xS (fun x=>decide (v = x)) l)):=by
 refine bA.intro Tryz.func287 rfl Tryz.ntmps287 rfl (fun cx=>(ts (ro rfl (cQ (cJ 0)) (eX (cK (ts (rm rfl (ro rfl (dG U_283 (Ht rfl) aA) (ro rfl (cX (cJ 0)) (eX (eG ?_)))))))))))
 refine dC (fun (k : Nat) => k ≤ l.length ∧ ∀ (i : Nat) (x : Int), i < k → l[i]? = some x → decide (v = x) = false) (fun (k : Nat) => l.length - k) (fun (k : Nat) => [(0, jY 1 (l.map (aD .i64))), (1, aD .i64 v), (7, NT .i64 l.length), (8, NT .i64 k)]) (fun (k : Nat) => []) 0 ⟨Nat.zero_le _, fun i x h => by omega⟩
  (zS rfl) aY (fun k ⟨hk,hn⟩=>?_)
 refine ts (ro rfl (gJ (Ht rfl) (Ht rfl)) (eX (cK (dQ (Ht rfl) (fun hb=>?_) (fun hb=>?_)))))
 ·simp only [decide_eq_true_eq] at hb
  refine cU (cK (eG (ts (rm rfl (ra rfl (eX (ts (rm rfl (rm rfl (rm rfl (ro rfl (dZ U_283 Z_3 (Ht rfl) (Ht rfl) rfl (dY (uJ hb))) (ro rfl (dJ A_3 Z_3 (Ht rfl)) (ro rfl (kX (Ht rfl) (Ht rfl)) (eX (dQ (Ht rfl) (fun hc=>?_) (fun hc=>?_))))))))))))))))
  ·refine ts (rm rfl (ra rfl (eX (fG rfl (fZ (eU rfl) ?_)))))
   exact (aP (Al (p:=fun x=>decide (v = x)) (uJ hb) hc hn).symm)
  ·refine cU (cD (cY (ro rfl (dV (Ht rfl) (cJ 1) z6) (rm rfl (eX ?_)))))
   refine gQ (k + 1) ⟨hb, fun i x h1 h2 => by
    by_cases e:i = k
    ·subst e; rw [uJ hb] at h2; obtain rfl:=Option.some.inj h2; exact hc
    ·exact hn i x zo h2⟩ zo (zS rfl) aY
 ·simp only [decide_eq_false_iff_not] at hb
  refine gG rfl (ts (ro rfl (cQ cV) (eX (fG rfl (fZ (eU rfl) ?_)))))
  exact (aP (tH (p:=fun x=>decide (v = x)) (fun i x h=>hn i x (by have:=(List.getElem?_eq_some_iff.1 h).1; omega) h)).symm)
theorem xO {l:List Int} {v:Int} (hl:l.length ≤ 1000000):bA Tryz.prog 257 [jY 1 (l.map (aD .i64)),aD .i64 v] (aC (l.any fun x=>decide (v = x))):=by
 refine bA.intro Tryz.func257 rfl Tryz.ntmps257 rfl (fun cx=>(ts (ro rfl (cQ cV) (eX (ts (rm rfl (rm rfl (ro rfl (cZ Tryz.call287 (Et zo) ⟨(Ht rfl),(Ht rfl),trivial⟩) (ro rfl (mU (Ht rfl) cV) (ra rfl (eX (fG rfl (fZ (eU rfl) ?_)))))))))))))
 exact (gD (wD _ l))
theorem Tm {z:List Qi} {s:List (List Qi)} {G:List Nat} (hl:z.length ≤ 1000) (hG:G.length ≤ 1000):bA Tryz.prog 210 [iV z s,jY 1 ((gnI G).map (aD .i64))] (oG ((oK G z.length).map Nat.succ)):=by
 refine bA.intro Tryz.func210 rfl Tryz.ntmps210 rfl (fun cx=>(ts (rn rfl (fK (Ht rfl)) fun B2=>(ro rfl (cQ cV) (eX (ts (ro rfl (cQ cV) (eX (cK (ts (ro rfl (cQ (cJ 1)) (eX (eG (yK 3 1 ?_))))))))))))))
 refine iW (fun (i : Nat) (v : Value) => i ≤ z.length) (fun (i : Nat) (v : Value) => z.length - i) (fun (i : Nat) (v : Value) => [(1, jY 1 ((gnI G).map (aD .i64))), (2, cB B2 0), (5, Is v), (6, NT .i64 (i + 1))]) (fun (i : Nat) (v : Value) => [box B2 80 [cC z, cH s], bH 3 1 v (((oK G i).map Nat.succ).map (NT .i64))]) 0 (.slice none 0 0) (Nat.zero_le _)
  (zS rfl) (aU (aH rfl) (aU (bN rfl) aY)) (fun i v hi=>?_)
 refine cK (ts (rm rfl (ro rfl (eZ pR (Ht rfl) rfl) (ro rfl (eY A_54 Z_54 (Ht rfl) (i:=0) rfl rfl) (ro rfl (dG U_54 (Ht rfl) aA) (ro rfl (sL (Ht rfl) (Ht rfl)) (eX (dQ (Ht rfl) (fun hd=>?_) (fun hd=>?_)))))))))
 ·simp only [decide_eq_true_eq] at hd
  have hcl:=An G i
  refine cU (cK (eG (jK (fun (v2:Value)=>True) (fun (v2:Value)=>[(1,jY 1 ((gnI G).map (aD .i64))),(2,cB B2 0),(5,Is v2),(6,NT .i64 (i + 1))]) (fun (v2:Value)=>[box B2 80 [cC z,cH s],bH 3 1 v2 (((oK G (i + 1)).map Nat.succ).map (NT .i64))]) ?_ (fun v2 _=>?_))))
  ·refine ts (rm rfl (rm rfl (ro rfl (cZ Tryz.call257 (xO (l := gnI G) (v := ((i + 1 : Nat) : Int)) (by rw [List.length_map]; omega)) ⟨(Ht rfl), (Ht rfl), trivial⟩) ?_)))
   refine ro rfl (dR (Ht rfl)) (eX (dQ (Ht rfl) (fun he=>?_) (fun he=>?_)))
   ·rw [Pg] at he
    have he2:i ∉ G:=by simpa using he
    have hnx:oK G (i + 1) = oK G i ++ [i]:=by rw [oK,if_neg he2]
    refine cY (rm rfl (rm rfl (ro rfl (cL (xs:=[.tmp 19]) U_283 Z_3 Tryz.zeroValue3 (cW (Ht rfl) cG) rfl rfl rfl) (rN (inf:=Tryz.t3) Xt a0r rfl rfl rfl (Ht rfl) (Ht rfl) (i:=1) rfl (by simp) (fun T hT=>by simp at hT; subst hT; exact El.one) (by show _ * 8 ≤ _; simp only [List.length_map,List.length_cons,List.length_nil]; omega) (by simp only [List.length_map,List.length_cons,List.length_nil]; omega) rfl (fun v3=>?_)))))
    refine ra rfl (eX (aS v3 trivial (zS rfl) (aU (aH rfl) (aU (bN (by rw [hnx,List.map_append,List.map_append]; rfl)) aY))))
   ·rw [Pg] at he
    have he2:i ∈ G:=by simpa using he
    have hnx:oK G (i + 1) = oK G i:=by rw [oK,if_pos he2,List.append_nil]
    refine cU (aS v trivial (zS rfl) (aU (aH rfl) (aU (bN (by rw [hnx])) aY)))
  ·refine cD (cY (rm rfl (ro rfl (dV (Ht rfl) (cJ 1) z6) (ra rfl (eX (gQ (i + 1,v2) hd (by dsimp only; omega) (zS rfl) (dO.refl _)))))))
 ·simp only [decide_eq_false_iff_not] at hd
  obtain rfl:z.length = i:=Nat.le_antisymm zo hi
  refine gG rfl (gW (i:=1) (tt:=5) rfl rfl jT (ts (rm rfl (ra rfl (eX ?_)))))
  exact fG rfl (eU rfl)
theorem a05 {z:List Qi} {s:List (List Qi)} {p:Nat} (hp:p < z.length) (hl:z.length ≤ 1000):bA Tryz.prog 210 [iV z s,jY 1 [aD .i64 ((p:Int) + 1)]] (oG (wE p (z.length - 1))):=by
 rw [← Vh hp]; exact Tm (G:=[p]) hl (by simp)
theorem Tp {z:List Qi} {s:List (List Qi)} {Q:List Nat} {m:Nat} (hs:fO s z.length z.length) (hQ:∀ x,x ∈ Q → x < z.length) (hm:Q.length = m) (hm2:m ≤ 1000) (hl:z.length ≤ 1000) {i j:Nat} (hi:i < m) (hj:j < m):bA Tryz.prog 258 [NT .i64 i,NT .i64 j,PT (iV z s),PT (oG (Q.map Nat.succ))] (aF (gm s (qL Q i) (qL Q j))):=by
 have hki:qL Q i < z.length:=Ga hQ zo
 have hkj:qL Q j < z.length:=Ga hQ zo
 have hsl:=hs.1
 have hsr:=hs.row hki
 refine bA.intro Tryz.func258 rfl Tryz.ntmps258 rfl (fun cx=>(ts (rn rfl (eW (Ts:=[Is (.bool false),Is (.slice none 0 0),Is (.bool false),Is (.slice none 0 0),Is (.slice none 0 0)]) O_32 rfl (fun V=>aW zd (aW zd (aW zd (aW zd (aW zd (aG))))))) fun B6=>(eX (cK (fJ (m:=14) (dp 2 rfl (Iz nW (Ht rfl) rfl) (dq 7 0 rfl (dJ A_78 Z_78 (Ht rfl)) (dp 3 rfl (dJ A_283 Z_283 (Ht rfl)) (dp 0 rfl (cX (Ht rfl)) ?_))))))))))
 refine eA 9 2 10 3 rfl (dZ U_283 Z_3 (Ht rfl) (Ht rfl) rfl (dY (Bc zo))) (dq 11 4 rfl (dJ A_3 Z_3 (Ht rfl)) (dq 12 5 rfl (aB.nat (dW (Ht rfl) (cJ 1) zo z6) (show qL Q i + 1 - 1 = qL Q i by omega)) (eA 8 1 13 6 rfl (dZ U_78 Z_54 (Ht rfl) (Ht rfl) rfl (dY (dU (d:=[]) zo))) (dq 14 7 rfl (dJ A_54 Z_54 (Ht rfl)) (dp 3 rfl (dJ A_283 Z_283 (Ht rfl)) ?_)))))
 refine dp 1 rfl (cX (Ht rfl)) (eA 16 9 17 10 rfl (dZ U_283 Z_3 (Ht rfl) (Ht rfl) rfl (dY (Bc zo))) (dq 18 11 rfl (dJ A_3 Z_3 (Ht rfl)) (dq 19 12 rfl (aB.nat (dW (Ht rfl) (cJ 1) zo z6) (show qL Q j + 1 - 1 = qL Q j by omega)) (fW bC rfl (by kernel_rfl) (zF (zF (zF (aJ (aJ (aV (ro rfl (dZ U_54 Z_32 (Ht rfl) (Ht rfl) rfl (dY (dU (d:=Qi.zero) zo))) ?_)))))))))))
 refine ro rfl (dJ A_32 Z_32 (Ht rfl)) (gZ Z_32 (Ht rfl) (Ht rfl) rfl (i:=0) rfl (aK rfl) rfl rfl (eX ?_))
 exact fG rfl (fU A_32 Z_32 rfl (i:=0) rfl rfl)
theorem Tt {z:List Qi} {s:List (List Qi)} {Q:List Nat} {m:Nat} (hs:fO s z.length z.length) (hQ:∀ x,x ∈ Q → x < z.length) (hm:Q.length = m) (hm2:m ≤ 1000) (hl:z.length ≤ 1000):gO Tryz.prog 211 [iV z s,oG (Q.map Nat.succ)] [] (Nat) (fun B=>dL [cC (Rr z Q),Is (.slice (some ⟨B,0,none⟩) m m)]) (fun B=>[pD B 54 32 5 (dA aF (Rp s Q))]) (fun _=>True):=by
 have hll:(Q.map Nat.succ).length = m:=by rw [List.length_map]; exact hm
 refine gO.intro Tryz.func211 rfl Tryz.ntmps211 rfl (fun cx Z=>(ts (rn rfl (fK (Ht rfl)) fun B2=>(rn rfl (wP (Ht rfl)) fun B3=>(rn rfl (eW (Ts:=[Is (.slice none 0 0),Is (.slice none 0 0)]) O_80 rfl (fun V=>aW zd (aW zd (aG)))) fun B4=>(eX (cK (gW (i:=1) (tt:=2) rfl rfl Ig (gW (i:=2) (tt:=3) rfl rfl sD (cY (ro rfl (dJ A_283 Z_283 (Ht rfl)) (ro rfl (dG U_283 (Ht rfl) (by rw [List.length_map,hll])) ?_))))))))))))
 refine rn rfl (nF (T:=aF Qi.zero) (i:=Tryz.t32) mC jU rfl rfl (Ht rfl) rfl jL (El.ag rfl) (by show 88 * _ ≤ _; omega) zo) fun B10=>ra rfl (eX (cK (ts (ro rfl (dJ A_283 Z_283 (Ht rfl)) (ro rfl (dG U_283 (Ht rfl) (by rw [List.length_map,hll])) ?_)))))
 refine ro rfl (cX (cJ 0)) (eX (eG (dB [0,3,4] rfl (by decide) ?_)))
 refine dC (fun (i : Nat) => i ≤ m) (fun (i : Nat) => m - i) (fun (i : Nat) => [(2, PT (iV z s)), (3, PT (oG (Q.map Nat.succ))), (4, cB B4 0), (5, Is B10), (11, oG (Q.map Nat.succ)), (12, NT .i64 m), (13, NT .i64 i)]) (fun (i : Nat) => [Z, box B4 80 [Is (.slice none 0 0), Is (.slice none 0 0)], bH 32 5 B10 ((kB (fun i => gv z (qL Q i)) Qi.zero m i).map aF)]) 0 (Nat.zero_le _)
  (zS rfl) (aU (fun _ _ _ h=>h) (aU (fun _ _ _ h=>h) (aU (bN (by rw [← jD]; exact Bh aF m)) aY))) (fun i hi=>?_)
 refine ts (ro rfl (gJ (Ht rfl) (Ht rfl)) (eX (cK (dQ (Ht rfl) (fun hd=>?_) (fun hd=>?_)))))
 ·simp only [decide_eq_true_eq] at hd
  have hki:qL Q i < z.length:=Ga hQ zo
  refine cU (cK (eG (ts (rm rfl (ro rfl (dZ U_283 Z_3 (Ht rfl) (Ht rfl) rfl (dY (Bc zo))) (ro rfl (dJ A_3 Z_3 (Ht rfl)) (ra rfl (ra rfl (eX (cY (rm rfl (rm rfl (ro rfl (Iz pR (Ht rfl) rfl) (ro rfl (dJ A_54 Z_54 (Ht rfl)) (rm rfl (ro rfl (aB.nat (dW (Ht rfl) (cJ 1) zo z6) (show qL Q i + 1 - 1 = qL Q i by omega)) (ro rfl (dZ U_54 Z_32 (Ht rfl) (Ht rfl) rfl (dY (dU (d:=Qi.zero) hki))) ?_)))))))))))))))))
  refine ro rfl (dJ A_32 Z_32 (Ht rfl)) (ro rfl (fA U_54 Z_32 (Ht rfl) (Ht rfl) rfl (i:=2) rfl (by rw [List.length_map,eD]; omega) rfl) ?_)
  refine oH Z_32 (Ht rfl) (Ht rfl) (El.ag rfl) (i:=2) rfl rfl (by rw [List.length_map,eD]; omega) rfl ?_
  refine eX (cD (cY (ro rfl (dV (Ht rfl) (cJ 1) z6) (rm rfl (eX (gQ (i + 1) hd zo (zS rfl) (aU (fun _ _ _ h=>h) (aU (fun _ _ _ h=>h) (aU (bN (by rw [iH,← kO (f:=(fun i=>gv z (qL Q i)))])) aY)))))))))
 ·simp only [decide_eq_false_iff_not] at hd
  obtain rfl:m = i:=Nat.le_antisymm zo hi
  rw [kN]
  refine gG rfl (gW (i:=2) (tt:=5) rfl rfl jT ?_)
  rw [show Rr z Q = tab m fun i=>gv z (qL Q i) from by rw [Rr,hm],show Rp s Q = tab m fun i=>tab m fun j=>gm s (qL Q i) (qL Q j) from by rw [Rp,hm]]
  refine ts (rm rfl (ro rfl (dJ A_283 Z_283 (Ht rfl)) (ro rfl (dG U_283 (Ht rfl) (by rw [List.length_map,hll])) ?_)))
  refine ro rfl (uV (γ:=Fin m × Fin m) (Ts:=fun x=>[NT .i64 x.1.1,NT .i64 x.2.1]) (U:=fun x=>aF (gm s (qL Q x.1.1) (qL Q x.2.1))) Tryz.call258 (fun x=>Tp hs hQ hm hm2 hl x.1.2 x.2.2) ⟨(Ht rfl),(Ht rfl),trivial⟩) (kY Tryz.call144 (Hk (n:=m) (f:=fun i j=>gm s (qL Q i) (qL Q j)) zo) ⟨(Ht rfl),(Ht rfl),trivial⟩ rfl (fun B32 _=>(ro rfl (vL (Ht rfl) (Ht rfl)) (gZ Z_80 (Ht rfl) (Ht rfl) rfl (i:=1) rfl (aK rfl) rfl rfl (eX ?_)))))
  exact kF B32 trivial [0,3] ⟨⟨_,rfl,fun _ _ _ h=>h⟩,⟨_,rfl,fun _ _ _ h=>h⟩,trivial⟩ (by decide) (wZ rfl (fU A_80 Z_80 rfl (i:=1) rfl rfl))
theorem Tu {z:List Qi} {s:List (List Qi)} {p m:Nat} (hs:fO s z.length z.length) (hp:p < z.length) (hm:m = z.length - 1) (hl:z.length ≤ 1000):gO Tryz.prog 211 [iV z s,oG (wE p m)] [] Nat (fun B=>dL [cC (uM z p m),Is (.slice (some ⟨B,0,none⟩) m m)]) (fun B=>[pD B 54 32 5 (dA aF (a1V s p m))]) (fun _=>True):=by
 have h:=Tt (Q:=tab m (mA p)) hs (Xi hp hm) (aR _ _) zo hl
 rw [Ru,Rq,Vi] at h
 exact h
theorem Tx {n:Int} (h1:-9223372036854775808 ≤ n) (h2:n ≤ 9223372036854775807):bA Tryz.prog 154 [aD .i64 n] (aF (Qi.ofInt n)):=by
 refine bA.intro Tryz.func154 rfl Tryz.ntmps154 rfl (fun cx=>(ts (rn rfl (eW (Ts:=[Is (.bool false),Is (.slice none 0 0),Is (.bool false),Is (.slice none 0 0),Is (.slice none 0 0)]) O_32 rfl (fun V=>aW zd (aW zd (aW zd (aW zd (aW zd (aG))))))) fun B2=>(eX (ts (rn rfl (eW (Ts:=[Is (.bool false),Is (.slice none 0 0),Is (.bool false),Is (.slice none 0 0),Is (.slice none 0 0)]) O_32 rfl (fun V=>aW zd (aW zd (aW zd (aW zd (aW zd (aG))))))) fun B3=>?_))))))
 refine eX (cK (fJ (m:=4) (dp 3 rfl (eJ A_32 Z_32 (Ht rfl) (i:=1) rfl rfl rfl) (dq 4 0 rfl (aT bF (Ht rfl)) (dp 0 rfl (cX (Ht rfl)) (dq 6 2 rfl (cZ K_36 (gY (n:=n) h1 h2) ⟨(Ht rfl),trivial⟩) (fW bC rfl (by kernel_rfl) (zF (aV (ro rfl (aO wJ Tryz.call318 Yh (Ht rfl) ⟨(Ht rfl),trivial⟩) (gZ Z_32 (Ht rfl) (Ht rfl) rfl (i:=0) rfl (aK rfl) rfl rfl (eX ?_))))))))))))
 exact fG rfl (fU A_32 Z_32 rfl (i:=0) rfl rfl)
end
section
open Go Go.RowKit
theorem Zz {z:List Qi} {s:List (List Qi)} {port:Int} {g:Qi} {L:Nat} (hs:fO s z.length z.length) (hf:bS s L) (hg:aE g L) (hL:1 ≤ L) (hLb:L ≤ 1000000) (hl:z.length ≤ 1000):bA Tryz.prog 121 [iV z s,aD .i64 port,aF g] (fE [iV (xF z s port g) (xE z s port g),aD .i64 (mX z s port g)]):=by
 haveI:=hg
 have hsl:=hs.1
 refine bA.intro Tryz.func121 rfl Tryz.ntmps121 rfl (fun cx=>(ts (rn rfl (fK (Ht rfl)) fun B3=>(rn rfl (fK (Ht rfl)) fun B5=>(rn rfl (eW (Ts:=[Is (.slice none 0 0),Is (.slice none 0 0)]) O_80 rfl (fun V=>aW zd (aW zd (aG)))) fun B6=>(ro rfl (cQ (cJ 0)) (eX (cK (eG (ts (ro rfl (eJ A_80 Z_80 (Ht rfl) (i:=0) rfl rfl rfl) (rm rfl (ro rfl (cZ Tryz.call209 Hm ⟨(Ht rfl),(Ht rfl),trivial⟩) (ro rfl (dR (Ht rfl)) (ra rfl (eX (dQ (Ht rfl) (fun hb=>?_) (fun hb=>?_))))))))))))))))))
 ·have he : mX z s port g = 1 := a1b (by simpa only [Bool.not_eq_true', decide_eq_false_iff_not] using hb)
  refine ts (ro rfl (aB.imp (pO ) pX) (gZ Z_80 (Ht rfl) (Ht rfl) rfl (i:=2) rfl (aK rfl) rfl rfl (ro rfl (cQ (cJ 1)) (eX (bE rfl (fZ (fU A_80 Z_80 rfl (i:=2) rfl rfl) ?_) (fZ (eU rfl) ?_))))))
  ·exact (Bj he (by decide))
  ·exact (aP he.symm)
 ·have hb2 : 1 ≤ port ∧ port ≤ (z.length : Int) := by simpa using hb
  obtain ⟨p,rfl⟩:∃ p:Nat,port = (p:Int) + 1:=⟨(port - 1).toNat,by omega⟩
  have hp:p < z.length:=by omega
  refine ts (ro rfl (eZ pR (Ht rfl) rfl) (ro rfl (eY A_54 Z_54 (Ht rfl) (i:=0) rfl rfl) (ro rfl (dG U_54 (Ht rfl) aA) (ro rfl (dI (Ht rfl) (cJ 1)) (ra rfl (eX (dQ (Ht rfl) (fun hc=>?_) (fun hc=>?_))))))))
  ·have he : mX z s ((p : Int) + 1) g = 4 := a1c hb2 (by simpa using hc)
   refine ts (ro rfl (aB.imp (pO ) pX) (gZ Z_80 (Ht rfl) (Ht rfl) rfl (i:=2) rfl (aK rfl) rfl rfl (ro rfl (cQ (cJ 4)) (eX (bE rfl (fZ (fU A_80 Z_80 rfl (i:=2) rfl rfl) ?_) (fZ (eU rfl) ?_))))))
   ·exact (Bj he (by decide))
   ·exact (aP he.symm)
  ·have hn1 : ¬ z.length = 1 := by simpa using hc
   have htd:=a1d (s:=s) (g:=g) hp hn1
   obtain ⟨m,hm⟩:∃ m,m = z.length - 1:=⟨_,rfl⟩
   have hspl:=hs.row hp
   haveI f0:aE (Qi.ofInt 1) 1:=nX
   haveI f1:aE (gm s p p) L:=hf.get hL p p
   refine cU (cD (ts (rm rfl (ro rfl (iB (Ht rfl) cV (r:=((p:Nat):Int)) ((sV (z:=(p:Int) + 1 - 1) zo).trans zo)) ?_))))
   refine ra rfl (eX (cK (Y.D_start (m:=22) [] (bY (Ei:=[(5,_)]) rfl rfl (bQ (bJ rfl rfl) bX) rfl rfl (dX rfl (eJ A_32 Z_32 (Ht rfl) (i:=1) rfl rfl rfl)) (bY (Ei:=[(32,_)]) rfl rfl (bQ (bZ 0 rfl rfl) bX) rfl rfl (dX rfl (aT bF (Ht rfl))) (bY (Ei:=[]) rfl rfl bX rfl rfl (dX rfl (cZ Tryz.call154 (Tx (n:=1) (by decide) (by decide)) ⟨(cJ 1),trivial⟩)) (bY (Ei:=[(34,_)]) rfl rfl (bQ (bZ 2 rfl rfl) bX) rfl rfl (dX rfl (aT bF (Ht rfl))) ?_)))))))
   refine bY (Ei:=[(3,_)]) rfl rfl (bQ (bJ rfl rfl) bX) rfl rfl (dX rfl (eZ nW (Ht rfl) rfl)) (bY (Ei:=[(36,_)]) rfl rfl (bQ (bZ 4 rfl rfl) bX) rfl rfl (dX rfl (eY A_78 Z_78 (Ht rfl) (i:=0) rfl rfl)) (bY (Ei:=[(8,_)]) rfl rfl (bQ (bJ rfl rfl) bX) rfl rfl (dX rfl (cX (Ht rfl))) (bY (Ei:=[(37,_),(38,_)]) rfl rfl (bQ (bZ 5 rfl rfl) (bQ (bZ 6 rfl rfl) bX)) rfl rfl (dX rfl (dZ U_78 Z_54 (Ht rfl) (Ht rfl) rfl (dY (dU (d:=[]) zo)))) ?_)))
   refine bY (Ei:=[(39,_)]) rfl rfl (bQ (bZ 7 rfl rfl) bX) rfl rfl (dX rfl (dJ A_54 Z_54 (Ht rfl))) (bY (Ei:=[(8,_)]) rfl rfl (bQ (bJ rfl rfl) bX) rfl rfl (dX rfl (cX (Ht rfl))) (bY (Ei:=[(40,_),(41,_)]) rfl rfl (bQ (bZ 8 rfl rfl) (bQ (bZ 9 rfl rfl) bX)) rfl rfl (dX rfl (dZ U_54 Z_32 (Ht rfl) (Ht rfl) rfl (dY (dU (d:=Qi.zero) zo)))) (bY (Ei:=[(42,_)]) rfl rfl (bQ (bZ 10 rfl rfl) bX) rfl rfl (dX rfl (dJ A_32 Z_32 (Ht rfl))) ?_)))
   refine bY (Ei:=[(43,_)]) rfl rfl (bQ (bZ 11 rfl rfl) bX) rfl rfl (dX rfl (aT bF (Ht rfl))) (bY (Ei:=[(5,_)]) rfl rfl (bQ (bJ rfl rfl) bX) rfl rfl (dX rfl (eJ A_32 Z_32 (Ht rfl) (i:=1) rfl rfl rfl)) (bY (Ei:=[(44,_),(45,_)]) rfl rfl (bQ (bZ 12 rfl rfl) (bQ (bZ 13 rfl rfl) bX)) rfl rfl (dX rfl (aO cA K_29 (iP (x:=gm s p p) (y:=g) (L:=L) (M:=L) zo) (Ht rfl) ⟨(Ht rfl),trivial⟩)) (bY (Ei:=[(35,_),(46,_)]) rfl rfl (bQ (bZ 3 rfl rfl) (bQ (bZ 14 rfl rfl) bX)) rfl rfl (dX rfl (aO jP K_32 (tW (x:=Qi.ofInt 1) (y:=gm s p p * g) (L:=1) (M:=L + L + 1) (hx:=f0) zo) (Ht rfl) ⟨(Ht rfl),trivial⟩)) ?_)))
   refine bY (Ei:=[(33,_),(47,_)]) rfl rfl (bQ (bZ 1 rfl rfl) (bQ (bZ 15 rfl rfl) bX)) rfl rfl (dX rfl (aO mN Tryz.call142 (Bv (x:=g) (y:=Qi.ofInt 1 - gm s p p * g) (L:=L) (M:=1 + (L + L + 1) + 1) (hy:=@fitSub _ _ _ _ f0 inferInstance) zo) (Ht rfl) ⟨(Ht rfl),trivial⟩)) (bY (Ei:=[(48,_)]) rfl rfl (bQ (bZ 16 rfl rfl) bX) rfl rfl (dX rfl (cX (Ht rfl))) (bY (Ei:=[(31,_)]) rfl rfl (bQ (bZ 17 rfl rfl) bX) rfl rfl (dX rfl (dK (Ht rfl) rfl)) ?_))
   refine bY (Ei:=[(31,_)]) rfl rfl (bQ (bZ 17 rfl rfl) bX) rfl rfl (dX rfl (dK (Ht rfl) rfl)) (Y.D_newp (Ei:=[]) (fun bb=>box bb 32 [aC (decide ((iC s p g).a < 0)),aI (iC s p g).a.natAbs,aC (decide ((iC s p g).b < 0)),aI (iC s p g).b.natAbs,aI (du (iC s p g))]) 21 rfl rfl rfl bX rfl rfl (by kernel_rfl) (eW (Ts:=[Is (.bool false),Is (.slice none 0 0),Is (.bool false),Is (.slice none 0 0),Is (.slice none 0 0)]) O_32 rfl (fun V=>aW zd (aW zd (aW zd (aW zd (aW zd (aG))))))) ?_)
   refine Y.D_putN (Ei:=[(49,_)]) 20 rfl rfl rfl rfl rfl rfl (bQ (bZ 18 rfl rfl) bX) (fun bb=>rM Z_32 (Ht rfl) (Ht rfl) rfl (i:=0) rfl (aK rfl) rfl rfl) (Y.D_done bC rfl (by kernel_rfl) rfl (by simp [Y.okP]) rfl rfl (bU (bU (bU (bU (bU (bU (bU (bU (bU (bU (bU (bU (bU (bU (bU (bU (bU (bU (bU (bU (Y.F_newp (fun B9=>Y.F_putN (Y.F_nil ?_))))))))))))))))))))))))
   refine ra rfl (eX (cK (ts (rm rfl (ro rfl (oB (Ht rfl) cV) (eX (dQ (Ht rfl) (fun he=>?_) (fun he=>?_))))))))
   ·have hz : Qi.ofInt 1 - gm s p p * g = Qi.zero := by simp at he; exact he
    have he:mX z s ((p:Int) + 1) g = 6:=by rw [htd,if_pos hz]
    refine ts (ro rfl (aB.imp (pO ) pX) (gZ Z_80 (Ht rfl) (Ht rfl) rfl (i:=2) rfl (aK rfl) rfl rfl (ro rfl (cQ (cJ 6)) (eX (bE rfl (fZ (fU A_80 Z_80 rfl (i:=2) rfl rfl) ?_) (fZ (eU rfl) ?_))))))
    ·exact (Bj he (by decide))
    ·exact (aP he.symm)
   ·have hz : Qi.ofInt 1 - gm s p p * g ≠ Qi.zero := by simp at he; exact he
    have he:mX z s ((p:Int) + 1) g = 0:=by rw [htd,if_neg hz]
    haveI ff:aE (iC s p g) (7 * L + 11):=Sf hf hg hL hz
    have hll:(wE p m).length = m:=aR _ _
    refine cU (ts (ro rfl (eJ A_80 Z_80 (Ht rfl) (i:=0) rfl rfl rfl) (rm rfl (ro rfl (cL (xs:=[.tmp 55]) U_283 Z_3 Tryz.zeroValue3 (cW (Ht rfl) cG) rfl rfl rfl) (ro rfl (cZ Tryz.call210 (eQ (a05 (z:=z) (s:=s) (p:=p) hp hl) (rH (by rw [← hm]))) ⟨(Ht rfl),(Ht rfl),trivial⟩) ?_)))))
    refine ra rfl (eX (ts (ro rfl (eJ A_80 Z_80 (Ht rfl) (i:=0) rfl rfl rfl) (rm rfl (kY Tryz.call211 (Tu (p:=p) (m:=m) hs hp hm hl) ⟨(Ht rfl),(Ht rfl),trivial⟩ rfl (fun B60 _=>(rn rfl (eW (Ts:=[Is (.slice none 0 0),Is (.slice none 0 0)]) O_80 rfl (fun V=>aW zd (aW zd (aG)))) fun B12=>(gZ Z_80 (Ht rfl) (Ht rfl) rfl (i:=5) rfl (aK rfl) rfl rfl (eX (cK (ts (rm rfl (ro rfl (dG U_283 (Ht rfl) (by rw [List.length_map,hll])) ?_)))))))))))))
    refine ro rfl (cX (cJ 0)) (eX (eG (dB [0,2,3,4,5] rfl (by decide) ?_)))
    refine dC (fun (i : Nat) => i ≤ m) (fun (i : Nat) => m - i) (fun (i : Nat) => [(3, cB B3 0), (6, cB B6 0), (8, NT .i64 p), (9, cB B9 0), (11, oG (wE p m)), (12, cB B12 0), (61, oG (wE p m)), (62, NT .i64 m), (63, NT .i64 i)]) (fun (i : Nat) => [box B3 80 [cC z, cH s], box B6 80 [Is (.slice none 0 0), Is (.slice none 0 0)], box B9 32 [aC (decide ((iC s p g).a < 0)), aI (iC s p g).a.natAbs, aC (decide ((iC s p g).b < 0)), aI (iC s p g).b.natAbs, aI (du (iC s p g))], pD B60 54 32 5 (dA aF (lS (fun i => tab m fun j => Gm s p (iC s p g) i j) (fun i => tab m fun j => gm s (mA p i) (mA p j)) m i)), box B12 80 [cC (uM z p m), Is (.slice (some ⟨B60, 0, none⟩) m m)]]) 0 (Nat.zero_le _)
     (zS rfl) (aU (fun _ _ _ h=>h) (aU (fun _ _ _ h=>h) (aU (aH rfl) (aU (cI (by rw [← jQ]; rfl)) (aU (aH rfl) aY))))) (fun i hi=>?_)
    refine ts (ro rfl (gJ (Ht rfl) (Ht rfl)) (eX (cK (dQ (Ht rfl) (fun hd=>?_) (fun hd=>?_)))))
    ·simp only [decide_eq_true_eq] at hd
     have hki:mA p i < z.length:=Gf zo hp
     have hsr:=hs.row hki
     refine nR 3 (i) rfl (pT hd) (fun v=>(cU (cK (eG (ts (rm rfl (ro rfl (dZ U_283 Z_3 (Ht rfl) (Ht rfl) rfl (dY (Im hd))) (ro rfl (dJ A_3 Z_3 (Ht rfl)) (ra rfl (ra rfl (eX (ts (rm rfl (ro rfl (dG U_283 (Ht rfl) (by rw [List.length_map,hll])) ?_))))))))))))))
     refine ro rfl (cX (cJ 0)) (eX (eG ?_))
     refine dC (fun (j : Nat) => j ≤ m) (fun (j : Nat) => m - j) (fun (j : Nat) => [(3, cB B3 0), (6, cB B6 0), (8, NT .i64 p), (9, cB B9 0), (11, oG (wE p m)), (12, cB B12 0), (13, NT .i64 i), (14, NT .i64 (mA p i + 1)), (61, oG (wE p m)), (62, NT .i64 m), (63, NT .i64 i), (68, oG (wE p m)), (69, NT .i64 m), (70, NT .i64 j)]) (fun (j : Nat) => [box B3 80 [cC z, cH s], box B6 80 [Is (.slice none 0 0), Is (.slice none 0 0)], box B9 32 [aC (decide ((iC s p g).a < 0)), aI (iC s p g).a.natAbs, aC (decide ((iC s p g).b < 0)), aI (iC s p g).b.natAbs, aI (du (iC s p g))], Dc B60 54 32 5 (dA aF (lS (fun i => tab m fun j => Gm s p (iC s p g) i j) (fun i => tab m fun j => gm s (mA p i) (mA p j)) m i)) i v, box B12 80 [cC (uM z p m), Is (.slice (some ⟨B60, 0, none⟩) m m)], bH 32 5 v ((lS (fun j => Gm s p (iC s p g) i j) (fun j => gm s (mA p i) (mA p j)) m j).map aF)]) 0 (Nat.zero_le _)
      (zS rfl) (aU (fun _ _ _ h=>h) (aU (fun _ _ _ h=>h) (aU (fun _ _ _ h=>h) (aU (fun _ _ _ h=>h) (aU (fun _ _ _ h=>h) (aU (bN (by rw [← jQ])) aY)))))) (fun j hj=>?_)
     refine ts (ro rfl (gJ (Ht rfl) (Ht rfl)) (eX (cK (dQ (Ht rfl) (fun hf2=>?_) (fun hf2=>?_)))))
     ·simp only [decide_eq_true_eq] at hf2
      have hkj:mA p j < z.length:=Gf zo hp
      have hrl:=iR (fun j=>Gm s p (iC s p g) i j) (fun j=>gm s (mA p i) (mA p j)) m j
      haveI g1:aE (gm s (mA p i) (mA p j)) L:=hf.get hL _ _
      haveI g2:aE (gm s (mA p i) p) L:=hf.get hL _ _
      haveI g3:aE (gm s p (mA p j)) L:=hf.get hL _ _
      refine cU (cK (eG (ts (rm rfl (ro rfl (dZ U_283 Z_3 (Ht rfl) (Ht rfl) rfl (dY (Im hf2))) (ro rfl (dJ A_3 Z_3 (Ht rfl)) (ra rfl (ra rfl (eX (fJ (m:=39) (dp 12 rfl (eZ nW (Ht rfl) rfl) (dq 75 0 rfl (eY A_78 Z_78 (Ht rfl) (i:=4) rfl rfl) (dp 13 rfl (cX (Ht rfl)) (eA 76 1 77 2 rfl (gX U_78 Z_54 (Ht rfl) (Ht rfl) rfl zo (by rw [Nat.mul_one,Nat.zero_add])) ?_))))))))))))))
      refine dq 78 3 rfl (jM A_54 Z_54 (Ht rfl) (j:=3) rfl) (dp 15 rfl (cX (Ht rfl)) (dp 12 rfl (eZ nW (Ht rfl) rfl) (dq 81 6 rfl (eY A_78 Z_78 (Ht rfl) (i:=4) rfl rfl) (dp 13 rfl (cX (Ht rfl)) (eA 82 7 83 8 rfl (gX U_78 Z_54 (Ht rfl) (Ht rfl) rfl zo (by rw [Nat.mul_one,Nat.zero_add])) ?_)))))
      refine dq 84 9 rfl (jM A_54 Z_54 (Ht rfl) (j:=3) rfl) (dp 15 rfl (cX (Ht rfl)) (eA 85 10 86 11 rfl (fA U_54 Z_32 (Ht rfl) (Ht rfl) rfl (i:=5) rfl (by simp only [List.length_map,hrl]; omega) rfl) ?_))
      refine dq 87 12 rfl (tM A_32 Z_32 (Ht rfl) (i:=5) rfl rfl (dY (pE hf2))) (dq 88 13 rfl (aT bF (Ht rfl)) (dp 3 rfl (eZ nW (Ht rfl) rfl) (dq 90 15 rfl (eY A_78 Z_78 (Ht rfl) (i:=0) rfl rfl) (dp 14 rfl (cX (Ht rfl)) (dq 92 17 rfl (aB.nat (dW (Ht rfl) (cJ 1) zo z6) (show mA p i + 1 - 1 = mA p i by omega)) (eA 91 16 93 18 rfl (dZ U_78 Z_54 (Ht rfl) (Ht rfl) rfl (dY (dU (d:=[]) zo))) ?_))))))
      refine dq 94 19 rfl (dJ A_54 Z_54 (Ht rfl)) (dp 8 rfl (cX (Ht rfl)) (eA 95 20 96 21 rfl (dZ U_54 Z_32 (Ht rfl) (Ht rfl) rfl (dY (dU (d:=Qi.zero) zo))) (dq 97 22 rfl (dJ A_32 Z_32 (Ht rfl)) (dq 98 23 rfl (aT bF (Ht rfl)) (dp 9 rfl (eJ A_32 Z_32 (Ht rfl) (i:=2) rfl rfl rfl) (dq 100 25 rfl (aT bF (Ht rfl)) (dp 3 rfl (eZ nW (Ht rfl) rfl) (dq 102 27 rfl (eY A_78 Z_78 (Ht rfl) (i:=0) rfl rfl) (dp 8 rfl (cX (Ht rfl)) ?_)))))))))
      refine eA 103 28 104 29 rfl (dZ U_78 Z_54 (Ht rfl) (Ht rfl) rfl (dY (dU (d:=[]) zo))) (dq 105 30 rfl (dJ A_54 Z_54 (Ht rfl)) (dp 16 rfl (cX (Ht rfl)) (dq 107 32 rfl (aB.nat (dW (Ht rfl) (cJ 1) zo z6) (show mA p j + 1 - 1 = mA p j by omega)) (eA 106 31 108 33 rfl (dZ U_54 Z_32 (Ht rfl) (Ht rfl) rfl (dY (dU (d:=Qi.zero) zo))) (dq 109 34 rfl (dJ A_32 Z_32 (Ht rfl)) ?_)))))
      refine eA 101 26 110 35 rfl (aO cA K_29 (iP (x:=iC s p g) (y:=gm s p (mA p j)) (L:=7 * L + 11) (M:=L) zo) (Ht rfl) ⟨(Ht rfl),trivial⟩) (eA 99 24 111 36 rfl (aO cA K_29 (iP (x:=gm s (mA p i) p) (y:=iC s p g * gm s p (mA p j)) (L:=L) (M:=7 * L + 11 + L + 1) zo) (Ht rfl) ⟨(Ht rfl),trivial⟩) (eA 89 14 112 37 rfl (aO mM K_33 (yN (x:=gm s (mA p i) (mA p j)) (y:=gm s (mA p i) p * (iC s p g * gm s p (mA p j))) (L:=L) (M:=L + (7 * L + 11 + L + 1) + 1) zo) (Ht rfl) ⟨(Ht rfl),trivial⟩) ?_))
      refine fW bC rfl (by kernel_rfl) (zF (zF (zF (zF (zF (zF (zF (zF (zF (aJ (aJ (aJ (aV (ro rfl (fA U_54 Z_32 (Ht rfl) (Ht rfl) rfl (i:=5) rfl (by simp only [List.length_map,hrl]; omega) rfl) ?_))))))))))))))
      refine oH Z_32 (Ht rfl) (Ht rfl) (El.ag rfl) (i:=5) rfl rfl (by simp only [List.length_map,hrl]; omega) rfl ?_
      refine eX (cD (cY (ro rfl (dV (Ht rfl) (cJ 1) z6) (rm rfl (eX (gQ (j + 1) hf2 zo (zS rfl) (aU (fun _ _ _ h=>h) (aU (fun _ _ _ h=>h) (aU (fun _ _ _ h=>h) (aU (fun _ _ _ h=>h) (aU (fun _ _ _ h=>h) (aU (bN (by rw [iH,← kT (f:=fun j=>Gm s p (iC s p g) i j)]; rfl)) aY))))))))))))
     ·simp only [decide_eq_false_iff_not] at hf2
      obtain rfl:m = j:=Nat.le_antisymm zo hj
      refine gG rfl (cD (gF 3 5 rfl rfl (by decide) (by simp only [dA,List.length_map,iR]; omega) ?_))
      refine cY (ro rfl (dV (Ht rfl) (cJ 1) z6) (rm rfl (eX (dB [0,1,2,3,4] rfl (by decide) (gQ (i + 1) hd zo (zS rfl) (aU (fun _ _ _ h=>h) (aU (fun _ _ _ h=>h) (aU (fun _ _ _ h=>h) (aU (cI (by rw [iG,kS,← kT (f:=(fun i=>tab m fun j=>Gm s p (iC s p g) i j))])) (aU (fun _ _ _ h=>h) aY))))))))))
    ·simp only [decide_eq_false_iff_not] at hd
     obtain rfl:m = i:=Nat.le_antisymm zo hi
     rw [kS]
     refine gG rfl (cK (Ej 4 3 1 rfl rfl rfl (by decide) (a2j (q:=fun _=>True) (M:=Bi s p m (iC s p g)) (aR _ _).symm) ?_))
     subst hm
     refine cY (ro rfl (eJ A_80 Z_80 (Ht rfl) (i:=4) rfl rfl rfl) (gZ Z_80 (Ht rfl) (Ht rfl) rfl (i:=1) rfl (aK rfl) rfl rfl (ro rfl (cQ (cJ 0)) (eX (bE rfl (fZ (fU A_80 Z_80 rfl (i:=1) rfl rfl) ?_) (fZ (eU rfl) ?_))))))
     ·exact (Sg he)
     ·exact (aP he.symm)
end
section
open Go Go.RowKit
theorem Ki {r n:Nat} (hr:r ≤ 1000) (h1:1 ≤ n) (hn:n ≤ 1000):gO Tryz.prog 125 [NT .i64 r,NT .i64 n] [] (Nat) (fun B=>Is (.slice (some ⟨B,0,none⟩) r r)) (fun B=>[lE jB B 54 32 5 (dA aF (Sq r n))]) (fun _=>True):=by
 refine gO.intro Tryz.func125 rfl Tryz.ntmps125 rfl (fun cx Z=>(ts (ro rfl (cQ cV) (eX (ts (rm rfl (rn rfl (fS (T:=Is (.slice none 0 0)) (i:=Tryz.t54) V_78 lB rfl rfl (Ht rfl) rfl (fun _=>rfl) trivial (by show 24 * _ ≤ _; omega) zo) fun B8=>(ra rfl (eX (cK (ts (rm rfl (ro rfl (iY U_78 (Ht rfl)) (ro rfl (cX (cJ 0)) (eX (eG (oM 1 rfl (wI jB ⟨none,0,rfl⟩ (e:=32) (s:=5)) ?_)))))))))))))))))
 refine dC (fun (k : Nat) => k ≤ r) (fun (k : Nat) => r - k) (fun (k : Nat) => [(1, NT .i64 n), (5, Is (.slice (some ⟨B8, 0, none⟩) r r)), (10, NT .i64 r), (11, NT .i64 k)]) (fun (k : Nat) => [Z, lE jB B8 54 32 5 (dA aF (kB (fun _ => (tab n fun _ => Qi.zero)) [] r k))]) 0 (Nat.zero_le _)
  (zS rfl) (aU (fun _ _ _ h=>h) (aU (cI (by rw [← jD,kL]; exact lY aF r)) aY)) (fun k hk=>?_)
 refine ts (ro rfl (gJ (Ht rfl) (Ht rfl)) (eX (cK (dQ (Ht rfl) (fun hd=>?_) (fun hd=>?_)))))
 ·simp only [decide_eq_true_eq] at hd
  refine oN 1 (k) rfl (lR hd) (fun v hv=>(cU (cK (eG (ts (rm rfl (ra rfl (eX (cY (rm rfl (rm rfl (ro rfl (cZ K_36 (gY (n:=0) (by decide) (by decide)) ⟨(cJ 0),trivial⟩) (ro rfl (cZ K_123 Ce ⟨(Ht rfl),trivial⟩) (ro rfl (cL (xs:=[.tmp 17]) U_54 Z_32 O_32 (cW (Ht rfl) cG) rfl rfl rfl) (rm rfl (kY Tryz.call212 (Nh (m:=n) h1 hn) ⟨(Ht rfl),(Ht rfl),trivial⟩ rfl (fun B20 _=>?_)))))))))))))))))
  have hB20:=B20.2
  refine ro rfl (gX U_78 Z_54 (Ht rfl) (Ht rfl) rfl zo (by rw [Nat.mul_one,Nat.zero_add])) ?_
  refine vH Z_54 (Ht rfl) (Ht rfl) (by simp only [dA,List.length_map,eD]; omega) (j:=1) (l:=3) rfl rfl rfl ?_
  refine eX (cD (gF 1 3 rfl rfl (by decide) (by simp only [dA,List.length_map,eD]; omega) ?_))
  refine cY (ro rfl (dV (Ht rfl) (cJ 1) z6) (rm rfl (eX (dB [0,1] rfl (by decide) (gQ (k + 1) hd zo (zS rfl) (aU (fun _ _ _ h=>h) (aU (cI (by rw [iG,← kO (f:=fun _=>(tab n fun _=>Qi.zero))])) aY)))))))
 ·simp only [decide_eq_false_iff_not] at hd
  obtain rfl:r = k:=Nat.le_antisymm zo hk
  refine gG rfl (ts (rm rfl (ra rfl (eX ?_))))
  exact kF B8 trivial [0,1] ⟨⟨_,rfl,fun _ _ _ h=>h⟩,⟨_,rfl,(cI (by rw [kN]; rfl))⟩,trivial⟩ (by decide) (wZ rfl (eU rfl))
theorem Nk {z:List Qi} {s c:List (List Qi)} {port:Int} {g t:Qi} {G:Nat} (hG:28 ≤ G) (hGb:G ≤ 1000000) (hz:fH z 2) (hs:bS s 2) (hc:bS c G) (hg:aE g 2) (ht:aE t 2) (hsh:fO s z.length z.length) (hch:fO c z.length z.length) (hl:z.length ≤ 8):bA Tryz.prog 41 [gS z s c,aD .i64 port,aF g,aF t] (fE [gS (ntZ z s port g t) (ntS z s port g t) (Mf z s c port g t),aD .i64 (Iw z s port g t)]):=by
 haveI:=hg
 haveI:=ht
 haveI f0:=nX
 have hsl:=hsh.1
 refine bA.intro Tryz.func41 rfl Tryz.ntmps41 rfl (fun cx=>(ts (rn rfl (fK (Ht rfl)) fun B4=>(rn rfl (fK (Ht rfl)) fun B6=>(rn rfl (fK (Ht rfl)) fun B7=>(rn rfl (eW (Ts:=[Is (.slice none 0 0),Is (.slice none 0 0),Is (.slice none 0 0)]) O_84 rfl (fun V=>aW zd (aW zd (aW zd (aG))))) fun B8=>(ro rfl (cQ (cJ 0)) (eX (cK (ts (ro rfl (eJ A_32 Z_32 (Ht rfl) (i:=2) rfl rfl rfl) (ro rfl (cZ K_79 (tB zo) ⟨(Ht rfl),trivial⟩) ?_))))))))))))
 refine ro rfl (dR (Ht rfl)) (eX (dQ (Ht rfl) (fun hb=>?_) (fun hb=>?_)))
 ·have hw : jF t ≠ 0 := by simp only [Bool.not_eq_true'] at hb; rw [jF, hb]; decide
  have hw1:jF t = 1:=by simp only [Bool.not_eq_true'] at hb; rw [jF,hb]; rfl
  have he1:Iw z s port g t = 1:=by rw [Iw,if_neg hw,hw1]
  have he:Iw z s port g t ≠ 0:=by rw [he1]; decide
  refine ts (ro rfl (aB.imp (rR ) nG) (gZ Z_84 (Ht rfl) (Ht rfl) rfl (i:=3) rfl (aK rfl) rfl rfl (ro rfl (cQ (cJ 1)) (eX (bE rfl (fZ (fU A_84 Z_84 rfl (i:=3) rfl rfl) ?_) (fZ (eU rfl) ?_))))))
  ·exact (fun v V h=>by rw [ntZ,ntS,Mf,jE,jE,jE,if_neg he,if_neg he,if_neg he]; exact h)
  ·exact (aP he1.symm)
 ·have hw : jF t = 0 := by simp only [Bool.not_eq_false'] at hb; rw [jF, hb]; rfl
  have hee:Iw z s port g t = mX z s port g:=by rw [Iw,if_pos hw]
  refine cU (ts (ro rfl (eZ sA (Ht rfl) rfl) (ro rfl (eJ A_80 Z_80 (Ht rfl) (i:=0) rfl rfl rfl) (rm rfl (ro rfl (eJ A_32 Z_32 (Ht rfl) (i:=1) rfl rfl rfl) (ro rfl (cZ Tryz.call121 (Zz (z:=z) (s:=s) (port:=port) (g:=g) (L:=2) hsh hs hg (by decide) (by decide) zo) ⟨(Ht rfl),(Ht rfl),(Ht rfl),trivial⟩) (rm rfl (ro rfl (dK (Ht rfl) rfl) (ro rfl (dK (Ht rfl) rfl) (rn rfl (eW (Ts:=[Is (.slice none 0 0),Is (.slice none 0 0)]) O_80 rfl (fun V=>aW zd (aW zd (aG)))) fun B10=>?_))))))))))
  refine gZ Z_80 (Ht rfl) (Ht rfl) rfl (i:=4) rfl (aK rfl) rfl rfl (ra rfl (eX (cK (ts (rm rfl (ro rfl (oB (Ht rfl) cV) (eX (dQ (Ht rfl) (fun hd=>?_) (fun hd=>?_)))))))))
  ·have he : Iw z s port g t ≠ 0 := by rw [hee]; simpa using hd
   refine ts (ro rfl (aB.imp (rR ) nG) (rm rfl (gZ Z_84 (Ht rfl) (Ht rfl) rfl (i:=3) rfl (aK rfl) rfl rfl (ra rfl (eX (bE rfl (fZ (fU A_84 Z_84 rfl (i:=3) rfl rfl) ?_) (fZ (eU rfl) ?_)))))))
   ·exact (fun v V h=>by rw [ntZ,ntS,Mf,jE,jE,jE,if_neg he,if_neg he,if_neg he]; exact h)
   ·exact (aP hee.symm)
  ·have hd0 : mX z s port g = 0 := by simpa using hd
   obtain ⟨hb1,hn1,hD⟩:=Sh hd0
   obtain ⟨p,rfl⟩:∃ p:Nat,port = ((p + 1:Nat):Int):=⟨(port - 1).toNat,by omega⟩
   have hpz:(((p + 1:Nat):Int) - 1).toNat = p:=by omega
   rw [hpz] at hD
   have hpn:p < z.length:=by omega
   have he:Iw z s ((p + 1:Nat):Int) g t = 0:=by rw [hee,hd0]
   have hrz:xF z s ((p + 1:Nat):Int) g = uM z p (z.length - 1):=by rw [xF,hd0,hpz]; rfl
   have hrs:xE z s ((p + 1:Nat):Int) g = Bi s p (z.length - 1) (iC s p g):=by rw [xE,hd0,hpz]; rfl
   rw [hrz,hrs]
   have hrf : bA Tryz.prog 124 [iV z s, NT .i64 (p + 1)] (fE [aF (gv z p), aD .i64 0]) := by
    have h:=Ng (z:=z) (s:=s) (i:=((p + 1:Nat):Int)) zo
    rw [show Qs z ((p + 1:Nat):Int) = gv z p from Fw hpn,if_pos zo] at h; exact h
   have hsp:=hsh.row hpn
   haveI f1:aE (gm s p p) 2:=hs.get (by decide) p p
   haveI f2:aE (gv z p) 2:=hz.get (by decide) p
   haveI f3:aE (Qi.ofInt 1 - gm s p p * g) 7:=(fitSub (x:=Qi.ofInt 1) (y:=gm s p p * g))
   refine cU (ts (ro rfl (eZ sA (Ht rfl) rfl) (ro rfl (eJ A_80 Z_80 (Ht rfl) (i:=0) rfl rfl rfl) (ro rfl (cZ Tryz.call122 (zZ hsh hl) ⟨(Ht rfl),trivial⟩) (rm rfl (ro rfl (aB.nat (dW (Ht rfl) (cJ 1) zo z6) (show p + 1 - 1 = p by omega)) (ro rfl (cZ K_36 (gY (n:=1) (by decide) (by decide)) ⟨(cJ 1),trivial⟩) (ro rfl (cZ K_123 Ce ⟨(Ht rfl),trivial⟩) (rn rfl (eW (Ts:=[Is (.bool false),Is (.slice none 0 0),Is (.bool false),Is (.slice none 0 0),Is (.slice none 0 0)]) O_32 rfl (fun V=>aW zd (aW zd (aW zd (aW zd (aW zd (aG))))))) fun B14=>?_)))))))))
   refine ra rfl (ra rfl (gZ Z_32 (Ht rfl) (Ht rfl) rfl (i:=5) rfl (aK rfl) rfl rfl (eX (cK (dB [0,1,2,3,4,5] rfl (by decide) (cY (ro rfl (eZ sA (Ht rfl) rfl) (ro rfl (eJ A_80 Z_80 (Ht rfl) (i:=0) rfl rfl rfl) (rm rfl (ro rfl (cZ Tryz.call124 hrf ⟨(Ht rfl),(Ht rfl),trivial⟩) (rm rfl (ro rfl (dK (Ht rfl) rfl) (ro rfl (dK (Ht rfl) rfl) (rn rfl (eW (Ts:=[Is (.bool false),Is (.slice none 0 0),Is (.bool false),Is (.slice none 0 0),Is (.slice none 0 0)]) O_32 rfl (fun V=>aW zd (aW zd (aW zd (aW zd (aW zd (aG))))))) fun B15=>?_))))))))))))))
   refine gZ Z_32 (Ht rfl) (Ht rfl) rfl (i:=6) rfl (aK rfl) rfl rfl (ra rfl (eX (cK (dB [0,1,2,3,4,5,6] rfl (by decide) (fJ (m:=14) (dp 14 rfl (eJ A_32 Z_32 (Ht rfl) (i:=5) rfl rfl rfl) (dq 61 0 rfl (aT bF (Ht rfl)) (dp 12 rfl (cX (Ht rfl)) (dp 13 rfl (cX (Ht rfl)) (eA 63 2 64 3 rfl (dZ U_78 Z_54 (Ht rfl) (Ht rfl) rfl (dY (dU (d:=[]) zo))) (dq 65 4 rfl (dJ A_54 Z_54 (Ht rfl)) (dp 13 rfl (cX (Ht rfl)) (eA 66 5 67 6 rfl (dZ U_54 Z_32 (Ht rfl) (Ht rfl) rfl (dY (dU (d:=Qi.zero) zo))) ?_)))))))))))))
   refine dq 68 7 rfl (dJ A_32 Z_32 (Ht rfl)) (dq 69 8 rfl (aT bF (Ht rfl)) (dp 6 rfl (eJ A_32 Z_32 (Ht rfl) (i:=1) rfl rfl rfl) (eA 70 9 71 10 rfl (aO cA K_29 (iP (x:=gm s p p) (y:=g) (L:=2) (M:=2) (by decide)) (Ht rfl) ⟨(Ht rfl),trivial⟩) (eA 62 1 72 11 rfl (aO jP K_32 (tW (x:=Qi.ofInt 1) (y:=gm s p p * g) (L:=1) (M:=5) (by decide)) (Ht rfl) ⟨(Ht rfl),trivial⟩) (C.D_new (Ei:=[]) rfl rfl rfl bW (eW (Ts:=[Is (.bool false),Is (.slice none 0 0),Is (.bool false),Is (.slice none 0 0),Is (.slice none 0 0)]) O_32 rfl (fun V=>aW zd (aW zd (aW zd (aW zd (aW zd (aG))))))) ?_)))))
   refine fW bC rfl (by kernel_rfl) (zF (zF (zF (aJ (C.F_new (fun B17=>aV (gZ Z_32 (Ht rfl) (Ht rfl) rfl (i:=7) rfl (aK rfl) rfl rfl (eX (cK (dB [0,1,2,3,4,5,6,7] rfl (by decide) (cY (ro rfl (eJ A_32 Z_32 (Ht rfl) (i:=1) rfl rfl rfl) (ro rfl (aT bF (Ht rfl)) (ro rfl (eJ A_32 Z_32 (Ht rfl) (i:=7) rfl rfl rfl) (ro rfl (aO mN Tryz.call142 (Bv (x:=g) (y:=(Qi.ofInt 1 - gm s p p * g)) (L:=2) (M:=7) (by decide)) (Ht rfl) ⟨(Ht rfl),trivial⟩) ?_)))))))))))))))
   refine rm rfl (ro rfl (dK (Ht rfl) rfl) (ro rfl (dK (Ht rfl) rfl) (rn rfl (eW (Ts:=[Is (.bool false),Is (.slice none 0 0),Is (.bool false),Is (.slice none 0 0),Is (.slice none 0 0)]) O_32 rfl (fun V=>aW zd (aW zd (aW zd (aW zd (aW zd (aG))))))) fun B18=>(gZ Z_32 (Ht rfl) (Ht rfl) rfl (i:=8) rfl (aK rfl) rfl rfl (ra rfl (eX (cK (dB [0,1,2,3,4,5,6,7,8] rfl (by decide) (cY (ro rfl (eJ A_32 Z_32 (Ht rfl) (i:=5) rfl rfl rfl) ?_))))))))))
   refine ro rfl (aT bF (Ht rfl)) (ro rfl (eJ A_32 Z_32 (Ht rfl) (i:=7) rfl rfl rfl) (ro rfl (aO mN Tryz.call142 (Bv (x:=Qi.ofInt 1) (y:=(Qi.ofInt 1 - gm s p p * g)) (L:=1) (M:=7) (by decide)) (Ht rfl) ⟨(Ht rfl),trivial⟩) (rm rfl (ro rfl (dK (Ht rfl) rfl) (ro rfl (dK (Ht rfl) rfl) (rn rfl (eW (Ts:=[Is (.bool false),Is (.slice none 0 0),Is (.bool false),Is (.slice none 0 0),Is (.slice none 0 0)]) O_32 rfl (fun V=>aW zd (aW zd (aW zd (aW zd (aW zd (aG))))))) fun B20=>?_))))))
   refine gZ Z_32 (Ht rfl) (Ht rfl) rfl (i:=9) rfl (aK rfl) rfl rfl (ra rfl (eX (cK (dB [0,1,2,3,4,5,6,7,8,9] rfl (by decide) (fJ (m:=16) (dp 7 rfl (eJ A_32 Z_32 (Ht rfl) (i:=2) rfl rfl rfl) (dp 15 rfl (eJ A_32 Z_32 (Ht rfl) (i:=6) rfl rfl rfl) (eA 88 0 89 1 rfl (cZ K_29 (iP (x:=t) (y:=gv z p) (L:=2) (M:=2) (by decide)) ⟨(Ht rfl),(Ht rfl),trivial⟩) (dq 90 2 rfl (cZ K_123 Ce ⟨(Ht rfl),trivial⟩) (dq 91 3 rfl (aT bF (Ht rfl)) (dp 14 rfl (eJ A_32 Z_32 (Ht rfl) (i:=5) rfl rfl rfl) ?_)))))))))))
   refine dq 93 5 rfl (aT bF (Ht rfl)) (dp 6 rfl (eJ A_32 Z_32 (Ht rfl) (i:=1) rfl rfl rfl) (dq 95 7 rfl (aT bF (Ht rfl)) (dp 6 rfl (eJ A_32 Z_32 (Ht rfl) (i:=1) rfl rfl rfl) (dq 97 9 rfl (aT bF (Ht rfl)) (dq 98 10 rfl (aO jV Tryz.call317 vM (Ht rfl) trivial) (eA 96 8 99 11 rfl (aO cA K_29 (iP (x:=g) (y:=g.conj) (L:=2) (M:=2) (by decide)) (Ht rfl) ⟨(Ht rfl),trivial⟩) (eA 94 6 100 12 rfl (aO jP K_32 (tW (x:=Qi.ofInt 1) (y:=g * g.conj) (L:=1) (M:=5) (by decide)) (Ht rfl) ⟨(Ht rfl),trivial⟩) ?_)))))))
   refine eA 92 4 101 13 rfl (aO cA K_29 (iP (x:=t * gv z p) (y:=Qi.ofInt 1 - g * g.conj) (L:=5) (M:=7) (by decide)) (Ht rfl) ⟨(Ht rfl),trivial⟩) (C.D_new (Ei:=[]) rfl rfl rfl bW (eW (Ts:=[Is (.bool false),Is (.slice none 0 0),Is (.bool false),Is (.slice none 0 0),Is (.slice none 0 0)]) O_32 rfl (fun V=>aW zd (aW zd (aW zd (aW zd (aW zd (aG))))))) (fW bC rfl (by kernel_rfl) (zF (zF (zF (aJ (aJ (aJ (C.F_new (fun B22=>aV ?_))))))))))
   refine gZ Z_32 (Ht rfl) (Ht rfl) rfl (i:=10) rfl (aK rfl) rfl rfl (eX (ts (ro rfl (cQ cV) (eX (ts (ro rfl (cQ cV) (eX (cK (cK (dB [0,3,4,5,8,9,10] rfl (by decide) (yK 54 1 (yK 32 5 (cY (rm rfl (ro rfl (dG U_78 (Ht rfl) (by rw [List.length_map,hsl])) ?_)))))))))))))))
   refine ro rfl (cX (cJ 0)) (eX (eG ?_))
   refine lA (fun (i : Nat) (vA : Value) (vU : Value) => i ≤ z.length) (fun (i : Nat) (vA : Value) (vU : Value) => z.length - i) (fun (i : Nat) (vA : Value) (vU : Value) => [(4, cB B4 0), (8, cB B8 0), (10, cB B10 0), (12, cH s), (13, NT .i64 p), (14, cB B14 0), (18, cB B18 0), (20, cB B20 0), (22, cB B22 0), (23, Is vA), (24, Is vU), (104, NT .i64 z.length), (105, NT .i64 i)]) (fun (i : Nat) (vA : Value) (vU : Value) => [box B4 84 [cC z, cH s, cH c], box B8 84 [Is (.slice none 0 0), Is (.slice none 0 0), Is (.slice none 0 0)], box B10 80 [cC (uM z p (z.length - 1)), cH (Bi s p (z.length - 1) (iC s p g))], box B14 32 [aC (decide ((Qi.ofInt 1).a < 0)), aI (Qi.ofInt 1).a.natAbs, aC (decide ((Qi.ofInt 1).b < 0)), aI (Qi.ofInt 1).b.natAbs, aI (du (Qi.ofInt 1))], box B18 32 [aC (decide ((g / (Qi.ofInt 1 - gm s p p * g)).a < 0)), aI (g / (Qi.ofInt 1 - gm s p p * g)).a.natAbs, aC (decide ((g / (Qi.ofInt 1 - gm s p p * g)).b < 0)), aI (g / (Qi.ofInt 1 - gm s p p * g)).b.natAbs, aI (du (g / (Qi.ofInt 1 - gm s p p * g)))], box B20 32 [aC (decide ((Qi.ofInt 1 / (Qi.ofInt 1 - gm s p p * g)).a < 0)), aI (Qi.ofInt 1 / (Qi.ofInt 1 - gm s p p * g)).a.natAbs, aC (decide ((Qi.ofInt 1 / (Qi.ofInt 1 - gm s p p * g)).b < 0)), aI (Qi.ofInt 1 / (Qi.ofInt 1 - gm s p p * g)).b.natAbs, aI (du (Qi.ofInt 1 / (Qi.ofInt 1 - gm s p p * g)))], box B22 32 [aC (decide ((t * gv z p * (Qi.ofInt 1 - g * g.conj)).a < 0)), aI (t * gv z p * (Qi.ofInt 1 - g * g.conj)).a.natAbs, aC (decide ((t * gv z p * (Qi.ofInt 1 - g * g.conj)).b < 0)), aI (t * gv z p * (Qi.ofInt 1 - g * g.conj)).b.natAbs, aI (du (t * gv z p * (Qi.ofInt 1 - g * g.conj)))], bH 54 1 vA ((wR s g p z.length i).map cC), bH 32 5 vU ((Bl s g p i).map aF)]) 0 _ _ (Nat.zero_le _)
    (zS rfl) (aU (aH rfl) (aU (aH rfl) (aU (aH rfl) (aU (aH rfl) (aU (aH rfl) (aU (aH rfl) (aU (aH rfl) (aU (bN rfl) (aU (bN rfl) aY))))))))) (fun i vA vU hi=>?_)
   refine ts (ro rfl (gJ (Ht rfl) (Ht rfl)) (eX (cK (dQ (Ht rfl) (fun hc1=>?_) (fun hc1=>?_)))))
   ·have hin : i < z.length := by simp only [decide_eq_true_eq] at hc1; omega
    have hfl:=An [p] i
    have hsi:=hsh.row hin
    refine cU (cK (eG (ts (rm rfl (ra rfl (eX (cK (ts (rm rfl (rm rfl (ro rfl (dI (Ht rfl) (Ht rfl)) (eX (dQ (Ht rfl) (fun hx=>?_) (fun hx=>?_))))))))))))))
    ·have hip : i = p := by simpa using hx
     have hnx:oK [p] (i + 1) = oK [p] i:=by rw [oK,if_pos (by simp [hip]),List.append_nil]
     refine gG rfl (cY (ro rfl (dV (Ht rfl) (cJ 1) z6) (rm rfl (eX (gQ (i + 1,vA,vU) hin (by dsimp only; omega) (zS rfl) (aU (aH rfl) (aU (aH rfl) (aU (aH rfl) (aU (aH rfl) (aU (aH rfl) (aU (aH rfl) (aU (aH rfl) (aU (bN (by rw [wR,wR,hnx])) (aU (bN (by rw [Bl,Bl,hnx])) aY))))))))))))))
    ·have hip : ¬ i = p := by simpa using hx
     have hnx:oK [p] (i + 1) = oK [p] i ++ [i]:=by rw [oK,if_neg (by simp [hip])]
     haveI f4:aE (gm s i p) 2:=hs.get (by decide) i p
     refine cU (ts (rm rfl (ro rfl (dG U_78 (Ht rfl) (by rw [List.length_map,hsl])) ?_)))
     refine kY Tryz.call125 (Ki (r:=1) (n:=z.length) (by decide) zo zo) ⟨(cJ 1),(Ht rfl),trivial⟩ rfl (fun B113 _=>?_)
     refine Sv 9 0 (Ts:=(tab z.length fun _=>Qi.zero).map aF) rfl rfl (fun v0=>(ro rfl (gX U_78 Z_54 (Ht rfl) (cJ 0) rfl (by decide) (by rw [Nat.mul_one,Nat.zero_add])) ?_))
     refine ro rfl (jM A_54 Z_54 (Ht rfl) (j:=9) rfl) (ra rfl (eX (cK (dB [0,1,2,3,4,5,6,7,8,10] rfl (by decide) (W.D_start (m:=17) (fun b=>cond b ([box B4 84 [cC z,cH s,cH c],box B8 84 [Is (.slice none 0 0),Is (.slice none 0 0),Is (.slice none 0 0)],box B10 80 [cC (uM z p (z.length - 1)),cH (Bi s p (z.length - 1) (iC s p g))],box B14 32 [aC (decide ((Qi.ofInt 1).a < 0)),aI (Qi.ofInt 1).a.natAbs,aC (decide ((Qi.ofInt 1).b < 0)),aI (Qi.ofInt 1).b.natAbs,aI (du (Qi.ofInt 1))],box B18 32 [aC (decide ((g / (Qi.ofInt 1 - gm s p p * g)).a < 0)),aI (g / (Qi.ofInt 1 - gm s p p * g)).a.natAbs,aC (decide ((g / (Qi.ofInt 1 - gm s p p * g)).b < 0)),aI (g / (Qi.ofInt 1 - gm s p p * g)).b.natAbs,aI (du (g / (Qi.ofInt 1 - gm s p p * g)))],box B20 32 [aC (decide ((Qi.ofInt 1 / (Qi.ofInt 1 - gm s p p * g)).a < 0)),aI (Qi.ofInt 1 / (Qi.ofInt 1 - gm s p p * g)).a.natAbs,aC (decide ((Qi.ofInt 1 / (Qi.ofInt 1 - gm s p p * g)).b < 0)),aI (Qi.ofInt 1 / (Qi.ofInt 1 - gm s p p * g)).b.natAbs,aI (du (Qi.ofInt 1 / (Qi.ofInt 1 - gm s p p * g)))],box B22 32 [aC (decide ((t * gv z p * (Qi.ofInt 1 - g * g.conj)).a < 0)),aI (t * gv z p * (Qi.ofInt 1 - g * g.conj)).a.natAbs,aC (decide ((t * gv z p * (Qi.ofInt 1 - g * g.conj)).b < 0)),aI (t * gv z p * (Qi.ofInt 1 - g * g.conj)).b.natAbs,aI (du (t * gv z p * (Qi.ofInt 1 - g * g.conj)))],bH 54 1 vA ((wR s g p z.length i).map cC),bH 32 5 vU ((Bl s g p i).map aF),bH 32 5 v0 (((tab z.length fun _=>Qi.zero).map aF).set i (aF (Qi.ofInt 1)))]) _) 16 ?_)))))
     refine W.D_step (Ei:=[(26,_)]) rfl rfl (W.Srcs.cons (W.Src.pre rfl rfl) W.Srcs.nil) rfl (by kernel_rfl) (dX rfl (cX (Ht rfl))) (W.D_step (Ei:=[(25,_)]) rfl rfl (W.Srcs.cons (W.Src.pre rfl rfl) W.Srcs.nil) rfl (by kernel_rfl) (dX rfl (cX (Ht rfl))) (W.D_pure (Ei:=[(26,_)]) rfl rfl (W.Srcs.cons (W.Src.pre rfl rfl) W.Srcs.nil) rfl (fun _=>dX rfl (cX (Ht rfl))) (W.D_pure (Ei:=[(13,_)]) rfl rfl (W.Srcs.cons (W.Src.pre rfl rfl) W.Srcs.nil) rfl (fun _=>dX rfl (cX (Ht rfl))) (W.D_step (Ei:=[(14,_)]) rfl rfl (W.Srcs.cons (W.Src.pre rfl rfl) W.Srcs.nil) rfl (by kernel_rfl) (dX rfl (eJ A_32 Z_32 (Ht rfl) (i:=3) rfl rfl rfl)) ?_))))
     refine W.D_step (Ei:=[(12,_)]) rfl rfl (W.Srcs.cons (W.Src.pre rfl rfl) W.Srcs.nil) rfl (by kernel_rfl) (dX rfl (cX (Ht rfl))) (W.D_step (Ei:=[(25,_)]) rfl rfl (W.Srcs.cons (W.Src.pre rfl rfl) W.Srcs.nil) rfl (by kernel_rfl) (dX rfl (cX (Ht rfl))) (W.D_step (Ei:=[(121,_),(122,_)]) rfl rfl (W.Srcs.cons (W.Src.op 5 rfl rfl) (W.Srcs.cons (W.Src.op 6 rfl rfl) W.Srcs.nil)) rfl (by kernel_rfl) (dX rfl (dZ U_78 Z_54 (Ht rfl) (Ht rfl) rfl (dY (dU (d:=[]) zo)))) (W.D_step (Ei:=[(123,_)]) rfl rfl (W.Srcs.cons (W.Src.op 7 rfl rfl) W.Srcs.nil) rfl (by kernel_rfl) (dX rfl (dJ A_54 Z_54 (Ht rfl))) ?_)))
     refine W.D_step (Ei:=[(13,_)]) rfl rfl (W.Srcs.cons (W.Src.pre rfl rfl) W.Srcs.nil) rfl (by kernel_rfl) (dX rfl (cX (Ht rfl))) (W.D_step (Ei:=[(124,_),(125,_)]) rfl rfl (W.Srcs.cons (W.Src.op 8 rfl rfl) (W.Srcs.cons (W.Src.op 9 rfl rfl) W.Srcs.nil)) rfl (by kernel_rfl) (dX rfl (dZ U_54 Z_32 (Ht rfl) (Ht rfl) rfl (dY (dU (d:=Qi.zero) zo)))) (W.D_step (Ei:=[(126,_)]) rfl rfl (W.Srcs.cons (W.Src.op 10 rfl rfl) W.Srcs.nil) rfl (by kernel_rfl) (dX rfl (dJ A_32 Z_32 (Ht rfl))) (W.D_step (Ei:=[(127,_)]) rfl rfl (W.Srcs.cons (W.Src.op 11 rfl rfl) W.Srcs.nil) rfl (by kernel_rfl) (dX rfl (aT bF (Ht rfl))) ?_)))
     refine W.D_step (Ei:=[(18,_)]) rfl rfl (W.Srcs.cons (W.Src.pre rfl rfl) W.Srcs.nil) rfl (by kernel_rfl) (dX rfl (eJ A_32 Z_32 (Ht rfl) (i:=4) rfl rfl rfl)) (W.D_step (Ei:=[(128,_),(129,_)]) rfl rfl (W.Srcs.cons (W.Src.op 12 rfl rfl) (W.Srcs.cons (W.Src.op 13 rfl rfl) W.Srcs.nil)) rfl (by kernel_rfl) (dX rfl (aO cA K_29 (iP (x:=gm s i p) (y:=(g / (Qi.ofInt 1 - gm s p p * g))) (L:=2) (M:=25) (by decide)) (Ht rfl) ⟨(Ht rfl),trivial⟩)) (W.D_step (Ei:=[(116,_),(117,_)]) rfl rfl (W.Srcs.cons (W.Src.op 0 rfl rfl) (W.Srcs.cons (W.Src.op 1 rfl rfl) W.Srcs.nil)) rfl (by kernel_rfl) (dX rfl (fA U_54 Z_32 (Ht rfl) (Ht rfl) rfl (i:=9) rfl (by rw [List.length_map,aR]; omega) rfl)) ?_))
     refine W.D_put (Ei:=[(131,_),(120,_)]) rfl rfl (W.Srcs.cons (W.Src.op 15 rfl rfl) (W.Srcs.cons (W.Src.op 4 rfl rfl) W.Srcs.nil)) rfl (Xx Z_32 (Ht rfl) (Ht rfl) (El.ag rfl) (i:=9) rfl rfl (by rw [List.length_map,aR]; omega)) ?_
     refine W.D_done bC rfl (by kernel_rfl) rfl (W.F_val (W.F_val (W.F_val (W.F_val (W.F_val (W.F_val (W.F_val (W.F_val (W.F_val (W.F_val (W.F_val (W.F_val (W.F_val (W.F_val (W.F_val (W.F_val (W.F_put (W.F_nil (ro rfl (fA U_54 Z_32 (Ht rfl) (Ht rfl) rfl (i:=9) rfl (by rw [List.length_set,List.length_map,aR]; omega) rfl) ?_)))))))))))))))))))
     refine oH Z_32 (Ht rfl) (Ht rfl) (El.ag rfl) (i:=9) rfl rfl (by rw [List.length_set,List.length_map,aR]; omega) rfl ?_
     refine eX (oM 9 rfl (bN (e:=32) (s:=5) (by rw [iH,iH]; rfl:_ = (sJ s g p z.length i).map aF)) ?_)
     refine gW (i:=9) (tt:=26) rfl rfl jT (Y.D_startA (m:=16) [] 3 7 rfl rfl (bY (Ei:=[(23,_)]) rfl rfl (bQ (bJ rfl rfl) bX) rfl rfl (dX rfl (cX (Ht rfl))) (bY (Ei:=[(26,_)]) rfl rfl (bQ (bJ rfl rfl) bX) rfl rfl (dX rfl (cX (Ht rfl))) (bY (Ei:=[(134,_)]) rfl rfl (bQ (bZ 1 rfl rfl) bX) rfl rfl (dX rfl (cL (xs:=[.tmp 134]) U_78 Z_54 O_54 (cW (Ht rfl) cG) rfl rfl rfl)) (Y.D_app (Ei:=[(133,_),(135,_)]) rfl rfl rfl rfl (bQ (bZ 0 rfl rfl) (bQ (bZ 2 rfl rfl) bX)) rfl (rK (inf:=Tryz.t54) Sl lB rfl rfl rfl (Ht rfl) (Ht rfl) (by simp) (fun T hT=>by simp at hT; subst hT; exact El.one) (by show _ * 24 ≤ _; simp only [List.length_map,List.length_append,List.length_cons,List.length_nil,wR,Bl]; omega) (by simp only [List.length_map,List.length_append,List.length_cons,List.length_nil,wR,Bl]; omega)) ?_)))))
     refine bY (Ei:=[(24,_)]) rfl rfl (bQ (bJ rfl rfl) bX) rfl rfl (dX rfl (cX (Ht rfl))) (bY (Ei:=[(12,_)]) rfl rfl (bQ (bJ rfl rfl) bX) rfl rfl (dX rfl (cX (Ht rfl))) (bY (Ei:=[(25,_)]) rfl rfl (bQ (bJ rfl rfl) bX) rfl rfl (dX rfl (cX (Ht rfl))) (bY (Ei:=[(138,_),(139,_)]) rfl rfl (bQ (bZ 5 rfl rfl) (bQ (bZ 6 rfl rfl) bX)) rfl rfl (dX rfl (dZ U_78 Z_54 (Ht rfl) (Ht rfl) rfl (dY (dU (d:=[]) zo)))) ?_)))
     refine bY (Ei:=[(140,_)]) rfl rfl (bQ (bZ 7 rfl rfl) bX) rfl rfl (dX rfl (dJ A_54 Z_54 (Ht rfl))) (bY (Ei:=[(13,_)]) rfl rfl (bQ (bJ rfl rfl) bX) rfl rfl (dX rfl (cX (Ht rfl))) (bY (Ei:=[(141,_),(142,_)]) rfl rfl (bQ (bZ 8 rfl rfl) (bQ (bZ 9 rfl rfl) bX)) rfl rfl (dX rfl (dZ U_54 Z_32 (Ht rfl) (Ht rfl) rfl (dY (dU (d:=Qi.zero) zo)))) (bY (Ei:=[(143,_)]) rfl rfl (bQ (bZ 10 rfl rfl) bX) rfl rfl (dX rfl (dJ A_32 Z_32 (Ht rfl))) ?_)))
     refine bY (Ei:=[(144,_)]) rfl rfl (bQ (bZ 11 rfl rfl) bX) rfl rfl (dX rfl (aT bF (Ht rfl))) (bY (Ei:=[(20,_)]) rfl rfl (bQ (bJ rfl rfl) bX) rfl rfl (dX rfl (eJ A_32 Z_32 (Ht rfl) (i:=5) rfl rfl rfl)) (bY (Ei:=[(145,_),(146,_)]) rfl rfl (bQ (bZ 12 rfl rfl) (bQ (bZ 13 rfl rfl) bX)) rfl rfl (dX rfl (aO cA K_29 (iP (x:=gm s i p) (y:=(Qi.ofInt 1 / (Qi.ofInt 1 - gm s p p * g))) (L:=2) (M:=24) (by decide)) (Ht rfl) ⟨(Ht rfl),trivial⟩)) ?_))
     refine bY (Ei:=[(147,_)]) rfl rfl (bQ (bZ 14 rfl rfl) bX) rfl rfl (dX rfl (cL (xs:=[.tmp 147]) U_54 Z_32 O_32 (cW (Ht rfl) cG) rfl rfl rfl)) (Y.D_done bC rfl (by kernel_rfl) rfl (by simp [Y.okP]) rfl rfl (bU (bU (bU (Y.F_app (fun vA2=>bU (bU (bU (bU (bU (bU (bU (bU (bU (bU (bU (bU (Y.F_nil ?_))))))))))))))))))
     refine rN (inf:=Tryz.t32) mC jU rfl rfl rfl (Ht rfl) (Ht rfl) (i:=8) rfl (by simp) (fun T hT=>by simp at hT; subst hT; exact El.ag rfl) (by show _ * 88 ≤ _; simp only [List.length_map,List.length_append,List.length_cons,List.length_nil,wR,Bl]; omega) (by simp only [List.length_map,List.length_append,List.length_cons,List.length_nil,wR,Bl]; omega) rfl (fun vU2=>?_)
     refine ra rfl (ra rfl (eX (cD (cY (ro rfl (dV (Ht rfl) (cJ 1) z6) (rm rfl (eX (dB [0,1,2,3,4,5,6,10,8] rfl (by decide) (gQ (i + 1,vA2,vU2) hin (by dsimp only; omega) (zS rfl) (aU (aH rfl) (aU (aH rfl) (aU (aH rfl) (aU (aH rfl) (aU (aH rfl) (aU (aH rfl) (aU (aH rfl) (aU (bN (by rw [wR,wR,hnx,List.map_append,List.map_append]; rfl)) (aU (bN (by rw [Bl,Bl,hnx,List.map_append,List.map_append]; rfl)) aY))))))))))))))))))
   ·have hin : i = z.length := by simp only [decide_eq_false_iff_not] at hc1; omega
    rw [hin]
    refine gG rfl (gW (i:=7) (tt:=23) rfl rfl jT (gW (i:=8) (tt:=24) rfl rfl jT ?_))
    have hA:=Vv s g hpn
    have hAl:=hA.1
    have hAf:=Vu (p:=p) (n:=z.length) (k:=z.length) hs hg
    have hUf:=Vx (p:=p) (k:=z.length) hs hg
    have hUl:(Bl s g p z.length).length = z.length - 1:=by rw [Bl,List.length_map,Il hpn]
    have hXf:=rS (hAf.le hG) hc zo (by rw [hch.1]; exact hl)
    have hX:fO (kA (wR s g p z.length z.length) c) (z.length - 1) (z.length - 1):=by have h:=rT (p:=wR s g p z.length z.length) (c:=c); rw [hAl] at h; exact h
    obtain ⟨m,hm⟩:∃ m,m = z.length - 1:=⟨_,rfl⟩
    rw [← hm] at hA hAl hUl hX
    obtain ⟨X,hXd⟩:∃ X,X = kA (wR s g p z.length z.length) c:=⟨_,rfl⟩
    obtain ⟨U,hUd⟩:∃ U,U = Bl s g p z.length:=⟨_,rfl⟩
    have hcar : gO Tryz.prog 126 [cH (wR s g p z.length z.length), cH c] [] Nat (fun B => Is (.slice (some ⟨B, 0, none⟩) m m)) (fun B => [pD B 54 32 5 (dA aF X)]) (fun _ => True) := by
     rw [hXd]
     exact Ew (p:=wR s g p z.length z.length) (c:=c) (n:=m) (m:=z.length) (L:=G) hA hch (hAf.le hG) hc zo zo zo zo zo hl
    rw [← hXd] at hXf hX
    rw [← hUd] at hUf hUl
    rw [← hUd]
    haveI fr:aE (t * gv z p * (Qi.ofInt 1 - g * g.conj)) 13:=Vw (p:=p) hz hg ht
    refine ts (rm rfl (ro rfl (eZ mI (Ht rfl) rfl) (ro rfl (eY A_78 Z_78 (Ht rfl) (i:=0) rfl rfl) (kY Tryz.call126 hcar ⟨(Ht rfl),(Ht rfl),trivial⟩ rfl (fun B154 _=>(ra rfl (eX (cK (ts (rm rfl (ro rfl (iY U_78 (Ht rfl)) (ro rfl (cX (cJ 0)) (eX (eG (dB [1,2,6,9] rfl (by decide) ?_)))))))))))))))
    refine dC (fun (i : Nat) => i ≤ m) (fun (i : Nat) => m - i) (fun (i : Nat) => [(8, cB B8 0), (10, cB B10 0), (22, cB B22 0), (24, cC U), (27, Is (.slice (some ⟨B154, 0, none⟩) m m)), (155, Is (.slice (some ⟨B154, 0, none⟩) m m)), (156, NT .i64 m), (157, NT .i64 i)]) (fun (i : Nat) => [box B8 84 [Is (.slice none 0 0), Is (.slice none 0 0), Is (.slice none 0 0)], box B10 80 [cC (uM z p (z.length - 1)), cH (Bi s p (z.length - 1) (iC s p g))], box B22 32 [aC (decide ((t * gv z p * (Qi.ofInt 1 - g * g.conj)).a < 0)), aI (t * gv z p * (Qi.ofInt 1 - g * g.conj)).a.natAbs, aC (decide ((t * gv z p * (Qi.ofInt 1 - g * g.conj)).b < 0)), aI (t * gv z p * (Qi.ofInt 1 - g * g.conj)).b.natAbs, aI (du (t * gv z p * (Qi.ofInt 1 - g * g.conj)))], pD B154 54 32 5 (dA aF (lS (fun i => tab m fun k => (gm X i k + (t * gv z p * (Qi.ofInt 1 - g * g.conj)) * (gv U i * (gv U k).conj))) (fun i => tab m fun k => gm X i k) m i))]) 0 (Nat.zero_le _)
     (zS rfl) (aU (aH rfl) (aU (aH rfl) (aU (aH rfl) (aU (cI (by rw [← jQ]; exact congrArg _ (sH hX))) aY)))) (fun i hi=>?_)
    refine ts (ro rfl (gJ (Ht rfl) (Ht rfl)) (eX (cK (dQ (Ht rfl) (fun he2=>?_) (fun he2=>?_)))))
    ·simp only [decide_eq_true_eq] at he2
     refine nR 3 (i) rfl (pT he2) (fun v=>(cU (cK (eG (ts (rm rfl (ro rfl (gX U_78 Z_54 (Ht rfl) (Ht rfl) rfl zo (by rw [Nat.mul_one,Nat.zero_add])) ?_)))))))
     refine ro rfl (jM A_54 Z_54 (Ht rfl) (j:=3) rfl) (ra rfl (ra rfl (eX (ts (rm rfl (ro rfl (mP U_54 (Ht rfl) (i:=4) rfl (show (((tab m fun k=>gm X i k).map aF).length:Int) = ((m:Nat):Int) by rw [List.length_map,aR])) (ro rfl (cX (cJ 0)) (eX (eG ?_)))))))))
     refine dC (fun (j : Nat) => j ≤ m) (fun (j : Nat) => m - j) (fun (j : Nat) => [(8, cB B8 0), (10, cB B10 0), (22, cB B22 0), (24, cC U), (27, Is (.slice (some ⟨B154, 0, none⟩) m m)), (28, NT .i64 i), (29, Is v), (155, Is (.slice (some ⟨B154, 0, none⟩) m m)), (156, NT .i64 m), (157, NT .i64 i), (163, NT .i64 m), (164, NT .i64 j)]) (fun (j : Nat) => [box B8 84 [Is (.slice none 0 0), Is (.slice none 0 0), Is (.slice none 0 0)], box B10 80 [cC (uM z p (z.length - 1)), cH (Bi s p (z.length - 1) (iC s p g))], box B22 32 [aC (decide ((t * gv z p * (Qi.ofInt 1 - g * g.conj)).a < 0)), aI (t * gv z p * (Qi.ofInt 1 - g * g.conj)).a.natAbs, aC (decide ((t * gv z p * (Qi.ofInt 1 - g * g.conj)).b < 0)), aI (t * gv z p * (Qi.ofInt 1 - g * g.conj)).b.natAbs, aI (du (t * gv z p * (Qi.ofInt 1 - g * g.conj)))], Dc B154 54 32 5 (dA aF (lS (fun i => tab m fun k => (gm X i k + (t * gv z p * (Qi.ofInt 1 - g * g.conj)) * (gv U i * (gv U k).conj))) (fun i => tab m fun k => gm X i k) m i)) i v, bH 32 5 v ((lS (fun k => (gm X i k + (t * gv z p * (Qi.ofInt 1 - g * g.conj)) * (gv U i * (gv U k).conj))) (fun k => gm X i k) m j).map aF)]) 0 (Nat.zero_le _)
      (zS rfl) (aU (aH rfl) (aU (aH rfl) (aU (aH rfl) (aU (fun _ _ _ h=>h) (aU (bN (by rw [← jQ])) aY))))) (fun j hj=>?_)
     refine ts (ro rfl (gJ (Ht rfl) (Ht rfl)) (eX (cK (dQ (Ht rfl) (fun hf=>?_) (fun hf=>?_)))))
     ·simp only [decide_eq_true_eq] at hf
      have hrl:=iR (fun k=>(gm X i k + (t * gv z p * (Qi.ofInt 1 - g * g.conj)) * (gv U i * (gv U k).conj))) (fun k=>gm X i k) m j
      haveI q1:aE (gm X i j) (200 * G + 300):=hXf.get zo i j
      haveI q2:aE (gv U i) 27:=hUf.get (by decide) i
      haveI q3:aE (gv U j) 27:=hUf.get (by decide) j
      refine cU (cK (eG (ts (rm rfl (ra rfl (eX (fJ (m:=23) (dp 29 rfl (cX (Ht rfl)) (dp 30 rfl (cX (Ht rfl)) (dp 29 rfl (cX (Ht rfl)) (dp 30 rfl (cX (Ht rfl)) (eA 169 2 170 3 rfl (fA U_54 Z_32 (Ht rfl) (Ht rfl) rfl (i:=4) rfl (by simp only [List.length_map,hrl]; omega) rfl) ?_))))))))))))
      refine dq 171 4 rfl (tM A_32 Z_32 (Ht rfl) (i:=4) rfl rfl (dY (pE hf))) (dq 172 5 rfl (aT bF (Ht rfl)) (dp 22 rfl (eJ A_32 Z_32 (Ht rfl) (i:=2) rfl rfl rfl) (dq 174 7 rfl (aT bF (Ht rfl)) (dp 24 rfl (cX (Ht rfl)) (dp 28 rfl (cX (Ht rfl)) (eA 176 9 177 10 rfl (dZ U_54 Z_32 (Ht rfl) (Ht rfl) rfl (dY (dU (d:=Qi.zero) zo))) (dq 178 11 rfl (dJ A_32 Z_32 (Ht rfl)) (dq 179 12 rfl (aT bF (Ht rfl)) (dp 24 rfl (cX (Ht rfl)) ?_)))))))))
      refine dp 30 rfl (cX (Ht rfl)) (eA 181 14 182 15 rfl (dZ U_54 Z_32 (Ht rfl) (Ht rfl) rfl (dY (dU (d:=Qi.zero) zo))) (dq 183 16 rfl (dJ A_32 Z_32 (Ht rfl)) (dq 184 17 rfl (aT bF (Ht rfl)) (dq 185 18 rfl (aO jV Tryz.call317 vM (Ht rfl) trivial) (eA 180 13 186 19 rfl (aO cA K_29 (iP (x:=gv U i) (y:=(gv U j).conj) (L:=27) (M:=27) (by decide)) (Ht rfl) ⟨(Ht rfl),trivial⟩) (eA 175 8 187 20 rfl (aO cA K_29 (iP (x:=(t * gv z p * (Qi.ofInt 1 - g * g.conj))) (y:=gv U i * (gv U j).conj) (L:=13) (M:=55) (by decide)) (Ht rfl) ⟨(Ht rfl),trivial⟩) ?_))))))
      refine eA 173 6 188 21 rfl (aO mM K_33 (yN (x:=gm X i j) (y:=(t * gv z p * (Qi.ofInt 1 - g * g.conj)) * (gv U i * (gv U j).conj)) (L:=200 * G + 300) (M:=69) zo) (Ht rfl) ⟨(Ht rfl),trivial⟩) (fW bC rfl (by kernel_rfl) (zF (zF (zF (zF (zF (aJ (aJ (aJ (aV (ro rfl (fA U_54 Z_32 (Ht rfl) (Ht rfl) rfl (i:=4) rfl (by simp only [List.length_map,hrl]; omega) rfl) ?_)))))))))))
      refine oH Z_32 (Ht rfl) (Ht rfl) (El.ag rfl) (i:=4) rfl rfl (by simp only [List.length_map,hrl]; omega) rfl ?_
      refine eX (cD (cY (ro rfl (dV (Ht rfl) (cJ 1) z6) (rm rfl (eX (dB [0,1,2,3,4] rfl (by decide) (gQ (j + 1) hf zo (zS rfl) (aU (aH rfl) (aU (aH rfl) (aU (aH rfl) (aU (fun _ _ _ h=>h) (aU (bN (by rw [iH,← kT (f:=fun k=>(gm X i k + (t * gv z p * (Qi.ofInt 1 - g * g.conj)) * (gv U i * (gv U k).conj)))])) aY))))))))))))
     ·simp only [decide_eq_false_iff_not] at hf
      obtain rfl:j = m:=Nat.le_antisymm hj zo
      refine gG rfl (cD (gF 3 4 rfl rfl (by decide) (by simp only [dA,List.length_map,iR]; omega) ?_))
      refine cY (ro rfl (dV (Ht rfl) (cJ 1) z6) (rm rfl (eX (dB [0,1,2,3] rfl (by decide) (gQ (i + 1) he2 zo (zS rfl) (aU (aH rfl) (aU (aH rfl) (aU (aH rfl) (aU (cI (by rw [iG,kS,← kT (f:=(fun i=>tab j fun k=>(gm X i k + (t * gv z p * (Qi.ofInt 1 - g * g.conj)) * (gv U i * (gv U k).conj))))])) aY)))))))))
    ·simp only [decide_eq_false_iff_not] at he2
     have him:i = m:=Nat.le_antisymm hi zo
     rw [him,kS]
     refine gG rfl (cK (gW (i:=3) (tt:=27) rfl rfl (iQ (s:=5) (M:=tab m (fun i=>tab m fun k=>(gm X i k + (t * gv z p * (Qi.ofInt 1 - g * g.conj)) * (gv U i * (gv U k).conj)))) (aR _ _).symm) ?_))
     have hQ:tab m (fun i=>tab m fun k=>(gm X i k + (t * gv z p * (Qi.ofInt 1 - g * g.conj)) * (gv U i * (gv U k).conj))) = ntC z s c g t p:=by rw [hUd,hXd,hm]; rfl
     rw [hQ]
     refine cY (ro rfl (eJ A_80 Z_80 (Ht rfl) (i:=1) rfl rfl rfl) (rm rfl (ro rfl (qS (Ht rfl) (Ht rfl)) (gZ Z_84 (Ht rfl) (Ht rfl) rfl (i:=0) rfl (aK rfl) rfl rfl (ro rfl (cQ (cJ 0)) (eX (bE rfl (fZ (fU A_84 Z_84 rfl (i:=0) rfl rfl) ?_) (fZ (eU rfl) ?_))))))))
     ·exact (fun v V h=>by rw [ntZ,ntS,Mf,jE,jE,jE,if_pos he,if_pos he,if_pos he,hpz]; exact h)
     ·exact (aP he.symm)
theorem Tn {z : List Qi} {s c : List (List Qi)} {port : Int} {g t : Qi} (hz : fH z 2) (hs : bS s 2) (hc : bS c 2) (hg : aE g 2) (ht : aE t 2) (hsh : fO s z.length z.length) (hch : fO c z.length z.length) (hl : z.length ≤ 8) : bA Tryz.prog 41 [gS z s c, aD .i64 port, aF g, aF t] (fE [gS (ntZ z s port g t) (ntS z s port g t) (Mf z s c port g t), aD .i64 (Iw z s port g t)]) :=
 Nk (G:=28) (by decide) (by decide) hz hs (hc.le (by decide)) hg ht hsh hch hl
end
section
open Fl
def Lk (n:Nat) (h:n ≤ 1000000):Rt:=⟨n,0,0,by omega,by omega,by decide,by decide,by decide,by decide⟩
theorem a10 {n:Nat} (h:n ≤ 1000000):(Lk n h).q = Qi.ofInt (n:Int):=by
 show Qi.frac (n:Int) 0 1 = _
 unfold Qi.frac
 refine Qi.ext' ?_ ?_
 ·show ((n : Int) : Rat) / ((1 : Int) : Rat) = ((n : Int) : Rat)
  have:((1:Int):Rat) = 1:=rfl
  rw [this]; grind
 ·show ((0 : Int) : Rat) / ((1 : Int) : Rat) = 0
  have:((0:Int):Rat) = 0:=rfl
  rw [this]; grind
def pW (r0 r1 r2:Rt) (g:Nat) (h:g ≤ 1000000):List Rt:=[r0,r1,Lk g h,r2]
def qK (q:Nat):List (List Qi):=[[Qi.ofInt 5,Qi.ofInt 0],[Qi.ofInt 0,Qi.ofInt (q:Int)]]
theorem a0q (k:Nat):jF (Qi.ofInt (k:Int)) = 0:=by
 obtain ⟨e1,e2,_⟩:=Qi.int_a (k:Int)
 have:eR (Qi.ofInt (k:Int)) = true:=by unfold eR; rw [e1,e2]; simp
 rw [jF,this]; rfl
theorem sE (x:Qi):x * Qi.ofInt 0 = Qi.zero:=Qi.ext' (by rw [Qi.mul_re]; show x.re * ((0:Int):Rat) - x.im * 0 = ((0:Int):Rat); have:((0:Int):Rat) = 0:=rfl; rw [this]; grind) (by rw [Qi.mul_im]; show x.re * 0 + x.im * ((0:Int):Rat) = 0; have:((0:Int):Rat) = 0:=rfl; rw [this]; grind)
theorem qX (x:Qi):x * Qi.ofInt 1 = x:=Qi.ext' (by rw [Qi.mul_re]; show x.re * ((1:Int):Rat) - x.im * 0 = x.re; have:((1:Int):Rat) = 1:=rfl; rw [this]; grind) (by rw [Qi.mul_im]; show x.re * 0 + x.im * ((1:Int):Rat) = x.im; have:((1:Int):Rat) = 1:=rfl; rw [this]; grind)
theorem Ak (x:Qi):x - Qi.zero = x:=Qi.ext' (by rw [Qi.sub_re]; show x.re - ((0:Int):Rat) = x.re; have:((0:Int):Rat) = 0:=rfl; rw [this]; grind) (by rw [Qi.sub_im]; show x.im - 0 = x.im; grind)
theorem a1K:Qi.ofInt 1 ≠ Qi.zero:=by decide
theorem a0k (x:Qi):x / Qi.ofInt 1 = x:=by
 have h:Qi.inv (Qi.ofInt 1) = Qi.ofInt 1:=by decide +kernel
 rw [Qi.div_def,h,qX]
theorem Uw (x:Qi):Qi.ofInt 0 / x = Qi.zero:=by
 rw [Qi.div_def]
 exact Qi.ext' (by rw [Qi.mul_re]; show ((0:Int):Rat) * _ - 0 * _ = ((0:Int):Rat); have:((0:Int):Rat) = 0:=rfl; rw [this]; grind) (by rw [Qi.mul_im]; show ((0:Int):Rat) * _ + 0 * _ = 0; have:((0:Int):Rat) = 0:=rfl; rw [this]; grind)
theorem Ai (n:Int):(Qi.ofInt n).conj = Qi.ofInt n:=Qi.ext' rfl (by show -(0:Rat) = 0; grind)
theorem Aj (m n:Int):Qi.ofInt m * Qi.ofInt n = Qi.ofInt (m * n):=Qi.ext' (by rw [Qi.mul_re]; show (m:Rat) * (n:Rat) - 0 * 0 = ((m * n:Int):Rat); push_cast; grind) (by rw [Qi.mul_im]; show (m:Rat) * 0 + 0 * (n:Rat) = 0; grind)
theorem Ux (m n:Int):Qi.ofInt m + Qi.ofInt n = Qi.ofInt (m + n):=Qi.ext' (by rw [Qi.add_re]; show (m:Rat) + (n:Rat) = ((m + n:Int):Rat); push_cast; rfl) (by rw [Qi.add_im]; show (0:Rat) + 0 = 0; grind)
theorem Pi {P:List (List Qi)} {q:Nat} (hl:0 < P.length) (h0:gm P 0 0 = Qi.zero) (h1:gm P 0 1 = Qi.ofInt 1):gm (kA P (qK q)) 0 0 = Qi.ofInt (q:Int):=by
 rw [kA,wA hl hl]
 have e:Tz P (qK q) 2 0 0 = Qi.zero + (Qi.zero + vP P (qK q) 0 0 0 0 + vP P (qK q) 0 0 0 1) + (Qi.zero + vP P (qK q) 0 0 1 0 + vP P (qK q) 0 0 1 1):=rfl
 show Tz P (qK q) 2 0 0 = _
 rw [e]
 unfold vP
 rw [h0,h1]
 have c11:gm (qK q) 1 1 = Qi.ofInt (q:Int):=rfl
 have c10:gm (qK q) 1 0 = Qi.ofInt 0:=rfl
 rw [c11,c10,Ai,qX]
 have z:Qi.zero = (0:Qi):=rfl
 have z0:Qi.ofInt 0 = (0:Qi):=rfl
 have o1:Qi.ofInt 1 = (1:Qi):=rfl
 rw [z,z0,o1]
 grind
section
variable {r0 r1 r2:Rt} {g:Nat} {h:g ≤ 1000000}
theorem Yt:gm (lT 2 (pW r0 r1 r2 g h)) 1 0 = Qi.ofInt (g:Int):=by
 rw [lT,wA (by decide) (by decide)]
 show (Lk g h).q = _
 exact a10 h
theorem a1I:ntD (lT 2 (pW r0 r1 r2 g h)) (Qi.ofInt 0) 0 = Qi.ofInt 1:=by unfold ntD; rw [sE,Ak]
theorem a1J (T:Nat):Iw (lU 2) (lT 2 (pW r0 r1 r2 g h)) ((1:Nat):Int) (Qi.ofInt 0) (Qi.ofInt (T:Int)) = 0:=by
 have hd:Qi.ofInt 1 - gm (lT 2 (pW r0 r1 r2 g h)) 0 0 * Qi.ofInt 0 = Qi.ofInt 1:=a1I
 rw [Iw,if_pos (a0q T),mX,lF,if_neg (by decide),if_neg (by decide),if_neg]
 show ¬ Qi.ofInt 1 - gm (lT 2 (pW r0 r1 r2 g h)) 0 0 * Qi.ofInt 0 = Qi.zero
 rw [hd]; exact a1K
theorem Yu:oK [0] 2 = [1]:=by decide
theorem a2k {q T:Nat}:gm (Mf (lU 2) (lT 2 (pW r0 r1 r2 g h)) (qK q) ((1:Nat):Int) (Qi.ofInt 0) (Qi.ofInt (T:Int))) 0 0 = Qi.ofInt ((q + g * g * T:Nat):Int):=by
 rw [Mf,a1J,jE,if_pos rfl,ntC,lF,wA (by decide) (by decide)]
 show ntX (lU 2) (lT 2 (pW r0 r1 r2 g h)) (qK q) (Qi.ofInt 0) (Qi.ofInt (T:Int)) 0 0 0 = _
 obtain ⟨S,hS⟩:∃ S,S = lT 2 (pW r0 r1 r2 g h):=⟨_,rfl⟩
 have s10:gm S 1 0 = Qi.ofInt (g:Int):=by rw [hS]; exact Yt
 have d0:ntD S (Qi.ofInt 0) 0 = Qi.ofInt 1:=by rw [hS]; exact a1I
 rw [← hS]
 unfold ntX
 rw [lF]
 have hA:wR S (Qi.ofInt 0) 0 2 2 = [sJ S (Qi.ofInt 0) 0 2 1]:=by rw [wR,Yu]; rfl
 have tF:iC S 0 (Qi.ofInt 0) = Qi.zero:=by unfold iC; exact Uw _
 have a0 : gm (wR S (Qi.ofInt 0) 0 2 2) 0 0 = Qi.zero := by
  rw [hA]; show gv (sJ S (Qi.ofInt 0) 0 2 1) 0 = _
  rw [Di (by decide) (by decide) (by decide),if_pos rfl,tF]
  exact sE _
 have a1 : gm (wR S (Qi.ofInt 0) 0 2 2) 0 1 = Qi.ofInt 1 := by
  rw [hA]; show gv (sJ S (Qi.ofInt 0) 0 2 1) 1 = _
  rw [Di (by decide) (by decide) (by decide),if_neg (by decide),if_pos rfl]
 have hU : gv (Bl S (Qi.ofInt 0) 0 2) 0 = Qi.ofInt (g : Int) := by
  rw [Bl,Yu]
  show gm S 1 0 * ntH S (Qi.ofInt 0) 0 = _
  rw [s10,ntH,d0,a0k,qX]
 have hR : ntR (lU 2) (Qi.ofInt 0) (Qi.ofInt (T : Int)) 0 = Qi.ofInt (T : Int) := by
  unfold ntR
  have:gv (lU 2) 0 = Qi.ofInt 1:=rfl
  rw [this,qX,Ai,sE,Ak,qX]
 rw [Pi (by rw [hA]; exact Nat.zero_lt_one) a0 a1,hU,hR,Ai,Aj,Aj,Ux]
 congr 1
 push_cast
 rw [Int.mul_comm (T:Int)]
theorem a0l {q:Nat} (hg:0 < g):sB (lU 2) (lT 2 (pW r0 r1 r2 g h)) (qK q) (Qi.ofInt 0) (Qi.ofInt 290) = (Qi.ofInt 1 + Qi.ofInt (q:Int) / Qi.ofInt ((g * g * 290:Nat):Int),0):=by
 have hp:kH (Qi.ofInt 290) = true:=by decide +kernel
 have s10:gm (lT 2 (pW r0 r1 r2 g h)) 1 0 = Qi.ofInt (g:Int):=Yt
 have hX : Fd (lT 2 (pW r0 r1 r2 g h)) (qK q) (Qi.ofInt 0) = Qi.ofInt (q : Int) := by
  unfold Fd
  refine Pi (show 0 < 1 from Nat.zero_lt_one) ?_ ?_
  ·show gm (lT 2 (pW r0 r1 r2 g h)) 1 0 * Qi.ofInt 0 = _; exact sE _
  ·show tK - Qi.ofInt 0 * gm (lT 2 (pW r0 r1 r2 g h)) 0 0 = Qi.ofInt 1
   rw [show Qi.ofInt 0 * gm (lT 2 (pW r0 r1 r2 g h)) 0 0 = Qi.zero from by rw [show ∀ x y:Qi,x * y = y * x from fun x y=>by grind]; exact sE _,Ak]
 have hD : xR (lU 2) (lT 2 (pW r0 r1 r2 g h)) (Qi.ofInt 0) (Qi.ofInt 290) = Qi.ofInt ((g * g * 290 : Nat) : Int) := by
  unfold xR
  have n1 : ∀ n : Int, (Qi.ofInt n).norm = Qi.ofInt (n * n) := fun n => by
   refine Qi.ext' ?_ rfl
   show (n:Rat) * (n:Rat) + 0 * 0 = ((n * n:Int):Rat)
   push_cast; grind
  have:gv (lU 2) 0 = Qi.ofInt 1:=rfl
  rw [s10,n1,this,qX,n1,show tK - Qi.ofInt (0 * 0) = Qi.ofInt 1 from by rw [show tK - Qi.ofInt (0 * 0) = tK - Qi.zero from rfl,Ak],qX,Aj]
  congr 1
 have hne : Qi.ofInt ((g * g * 290 : Nat) : Int) ≠ Qi.zero := fun e => by
  have h1:(((g * g * 290:Nat):Int):Rat) = ((0:Int):Rat):=congrArg Qi.re e
  have h2:=Rat.intCast_inj.1 h1
  have:0 < g * g * 290:=Nat.mul_pos (Nat.mul_pos hg hg) (by decide)
  omega
 rw [sB,hp,if_neg (by decide),lF,if_neg (by decide),hD,if_neg hne,hX]
end
theorem Uz {q G l t : Nat} (hl : 0 < l) (hlt : l < t) (hG : 0 < G) (hm : q + G * t < 16777216) :
  rC (Qi.ofInt (t:Int)) (Qi.ofInt (l:Int)) (Ieee.single.nearest false (q + G * t) 0) (Ieee.single.nearest false (q + G * l) 0) = (Qi.ofInt (q:Int) / Qi.ofInt (G:Int),0):=by
 have hgt:G * l < G * t:=Nat.mul_lt_mul_of_pos_left hlt hG
 have hm2:q + G * l < 16777216:=by omega
 have hgl:0 < G * l:=Nat.mul_pos hG hl
 have w : ∀ n : Nat, eR (Qi.ofInt n) = true := fun n => by
  obtain ⟨e1,e2,_⟩:=Qi.int_a (n:Int)
  unfold eR; rw [e1,e2]; simp
 have p1:=Jh (show 0 < q + G * t by omega) hm
 have p2:=Jh (show 0 < q + G * l by omega) hm2
 have r:∀ n:Int,Re (Qi.ofInt n):=fun n=>⟨rfl⟩
 have hGn:((G:Int):Rat) ≠ ((0:Int):Rat):=fun k=>by have:=Rat.intCast_inj.1 k; omega
 have hGp:((0:Int):Rat) < ((G:Int):Rat):=Rat.intCast_lt_intCast.2 zo
 have z0:((0:Int):Rat) = 0:=rfl
 have ht : tR (Qi.ofInt (t : Int)) (Qi.ofInt (l : Int)) (q32 (Ieee.single.nearest false (q + G * t) 0)) (q32 (Ieee.single.nearest false (q + G * l) 0)) = Qi.ofInt (q : Int) / Qi.ofInt (G : Int) := by
  rw [Do hm,Do hm2]
  refine Re.ext ((((r _).mul (r _)).sub ((r _).mul (r _))).div ((r _).sub (r _))) ((r _).div (r _)) ?_
  unfold tR
  rw [(((r _).mul (r _)).sub ((r _).mul (r _))).rdiv ((r _).sub (r _)),Qi.sub_re,Qi.sub_re,(r _).rmul,(r _).rmul,(r _).rdiv (r _)]
  show (((t:Int):Rat) * (((q + G * l:Nat):Int):Rat) - ((l:Int):Rat) * (((q + G * t:Nat):Int):Rat)) / ((((q + G * t:Nat):Int):Rat) - (((q + G * l:Nat):Int):Rat)) = ((q:Int):Rat) / ((G:Int):Rat)
  have e:∀ x y z:Nat,(((x + y * z:Nat):Int):Rat) = ((x:Int):Rat) + ((y:Int):Rat) * ((z:Int):Rat):=fun x y z=>by push_cast; rfl
  rw [e,e]
  have hn:((t:Int):Rat) ≠ ((l:Int):Rat):=fun k=>by have:=Rat.intCast_inj.1 k; omega
  generalize ((t:Int):Rat) = H at *
  generalize ((l:Int):Rat) = C' at *
  generalize ((q:Int):Rat) = Q at *
  generalize ((G:Int):Rat) = K at *
  rw [z0] at hGn
  have d1:Q + K * H - (Q + K * C') = (H - C') * K:=by grind
  have d2:H * (Q + K * C') - C' * (Q + K * H) = Q * (H - C'):=by grind
  have d3:H - C' ≠ 0:=by grind
  rw [d1,d2]
  generalize H - C' = D at *
  grind
 have a1:¬ (!eR (Qi.ofInt (t:Int)) || !eR (Qi.ofInt (l:Int)) || !pw (Ieee.single.nearest false (q + G * t) 0) || !pw (Ieee.single.nearest false (q + G * l) 0)) = true:=by rw [w,w,p1,p2]; decide
 have a2 : ¬ (decide (nV (Qi.ofInt (t : Int)) (Qi.ofInt (l : Int)) ≤ 0) || decide (av Ieee.single (Ieee.single.nearest false (q + G * t) 0) ≤ av Ieee.single (Ieee.single.nearest false (q + G * l) 0))) = true := by
  rw [(wM hm).2.2,(wM hm2).2.2]
  have h1 : ¬ nV (Qi.ofInt (t : Int)) (Qi.ofInt (l : Int)) ≤ 0 := by
   rw [Hy]; show ¬ ((t:Int):Rat) ≤ ((l:Int):Rat); rw [Rat.intCast_le_intCast]; omega
  have h2 : ¬ (((q + G * t) * 2 ^ 149 : Nat) : Int) ≤ (((q + G * l) * 2 ^ 149 : Nat) : Int) := by
   rw [Int.ofNat_le]; exact Nat.not_le.2 (Nat.mul_lt_mul_of_pos_right zo (Nat.two_pow_pos _))
  rw [decide_eq_false h1,decide_eq_false h2]; decide
 have hnn : ¬ (Qi.ofInt (q : Int) / Qi.ofInt (G : Int)).re < 0 := by
  rw [(r _).rdiv (r _),Rat.not_lt]
  show (0:Rat) ≤ ((q:Int):Rat) / ((G:Int):Rat)
  rw [Rat.div_def]
  exact Rat.mul_nonneg (Rat.intCast_nonneg.2 zo) (Rat.le_of_lt (Rat.inv_pos.2 hGp))
 rw [Jk a1 a2 (by rw [ht]; exact hnn),ht]
theorem Uy {q G:Nat} (hG:0 < G):Cq (Qi.ofInt (q:Int) / Qi.ofInt (G:Int)) (Qi.ofInt 290) = (Qi.ofInt 1 + Qi.ofInt (q:Int) / Qi.ofInt ((G * 290:Nat):Int),0):=by
 have r:∀ n:Int,Re (Qi.ofInt n):=fun n=>⟨rfl⟩
 have hGp:((0:Int):Rat) < ((G:Int):Rat):=Rat.intCast_lt_intCast.2 zo
 have hp:kH (Qi.ofInt 290) = true:=by decide +kernel
 have z0:((0:Int):Rat) = 0:=rfl
 have hw : eR (Qi.ofInt (q : Int) / Qi.ofInt (G : Int)) = true := by
  unfold eR
  have h1:=((r (q:Int)).div (r (G:Int))).b
  have h2 : ¬ (Qi.ofInt (q : Int) / Qi.ofInt (G : Int)).re < 0 := by
   rw [(r _).rdiv (r _),Rat.not_lt]
   show (0:Rat) ≤ ((q:Int):Rat) / ((G:Int):Rat)
   rw [Rat.div_def]
   exact Rat.mul_nonneg (Rat.intCast_nonneg.2 zo) (Rat.le_of_lt (Rat.inv_pos.2 hGp))
  have h3 : 0 ≤ (Qi.ofInt (q : Int) / Qi.ofInt (G : Int)).a := by
   have h4:=@Qi.a_pos (-(Qi.ofInt (q:Int) / Qi.ofInt (G:Int)))
   rw [(Qi.neg_a _).1,Qi.neg_re] at h4
   refine Int.not_lt.1 fun k=>h2 ?_
   have:=h4.1 zo; grind
  simp [h1,h3]
 rw [Cq,hw,hp]
 show ((Qi.ofInt 1 + Qi.ofInt (q:Int) / Qi.ofInt (G:Int) / Qi.ofInt 290,0):Qi × Int) = _
 congr 1
 refine Re.ext ((r _).add (((r _).div (r _)).div (r _))) ((r _).add ((r _).div (r _))) ?_
 rw [Qi.add_re,Qi.add_re,((r _).div (r _)).rdiv (r _),(r _).rdiv (r _),(r _).rdiv (r _)]
 show ((1:Int):Rat) + ((q:Int):Rat) / ((G:Int):Rat) / ((290:Int):Rat) = ((1:Int):Rat) + ((q:Int):Rat) / (((G * 290:Nat):Int):Rat)
 have:(((G * 290:Nat):Int):Rat) = ((G:Int):Rat) * ((290:Int):Rat):=by rw [Int.natCast_mul,Rat.intCast_mul]; rfl
 rw [this]
 have h290:((290:Int):Rat) = 290:=rfl
 rw [h290]
 have:((G:Int):Rat) ≠ 0:=fun k=>by rw [k] at hGp; exact Rat.lt_irrefl hGp
 grind
theorem Ze {n:Nat} (h0:n ≠ 0) (hn:n < 16777216):wm n = wd (n * 2 ^ (52 - n.log2)) (n.log2 + 1022) ∧ n.log2 < 24 ∧ jN ≤ n * 2 ^ (52 - n.log2) ∧ n * 2 ^ (52 - n.log2) < 9007199254740992:=by
 have hl:n.log2 < 24:=(Nat.log2_lt h0).2 (by rw [show (2:Nat) ^ 24 = 16777216 by decide]; exact hn)
 have l1:2 ^ n.log2 ≤ n:=Nat.log2_self_le h0
 have l2:n < 2 ^ (n.log2 + 1):=Nat.lt_log2_self
 have b1:n * 2 ^ (52 - n.log2) < 2 ^ (n.log2 + 1) * 2 ^ (52 - n.log2):=Nat.mul_lt_mul_of_pos_right l2 (Nat.two_pow_pos _)
 rw [← Nat.pow_add,show n.log2 + 1 + (52 - n.log2) = 53 by omega,show (2:Nat) ^ 53 = 9007199254740992 by decide] at b1
 have b2:2 ^ n.log2 * 2 ^ (52 - n.log2) ≤ n * 2 ^ (52 - n.log2):=Nat.mul_le_mul_right _ l1
 rw [← Nat.pow_add,show n.log2 + (52 - n.log2) = 52 by omega,show (2:Nat) ^ 52 = jN by decide] at b2
 exact ⟨Pw h0 zo,hl,b2,b1⟩
theorem Td {n:Nat} (h0:n ≠ 0) (hn:n < 16777216):blw (Qi.ofInt (n:Int)) = wm n:=by
 obtain ⟨e,hl,b2,b1⟩:=Ze h0 hn
 obtain ⟨a1,-,a3⟩:=Qi.int_a (n:Int)
 rw [blw,a1,a3,if_pos zo,Int.natAbs_natCast,e]
 have hp : n * 2 ^ (52 - n.log2) * 2 ^ (n.log2 + 1022) * 1 = n * 2 ^ nO := by
  rw [Nat.mul_one,Nat.mul_assoc,← Nat.pow_add,show 52 - n.log2 + (n.log2 + 1022) = 1074 by omega,tS]
 refine (Ij (.inr b2) b1 ?_ (Nat.le_of_eq hp) ?_).eq
 ·unfold wd; simp only [jN,IR] at *; omega
 ·rw [← hp]
  exact Nat.mul_lt_mul_of_pos_right (Nat.mul_lt_mul_of_pos_right (Nat.lt_succ_self _) (Nat.two_pow_pos _)) (by decide)
theorem Oe {n a:Nat} (h0:n ≠ 0) (hn:n < 16777216) (h:mY .f64 .f32 (wm n) a):a = Ieee.single.nearest false n 0:=by
 obtain ⟨e,hl,b2,b1⟩:=Ze h0 hn
 have hlt:wm n < IR:=by rw [e]; unfold wd; simp only [jN,IR] at *; omega
 have e1 : mg Ieee.double (wm n) = n * 2 ^ (52 - n.log2) := by
  rw [e]; unfold mg wd; rw [mR,if_neg (by simp only [jN] at *; omega)]; simp only [jN] at *; omega
 have e2 : up Ieee.double (wm n) = n.log2 + 1022 := by
  rw [e]; unfold up wd; rw [mR]; simp only [jN] at *; omega
 unfold mY at h
 rw [if_neg (by decide)] at h
 have hd:FloatKind.f64.decode (wm n) = Ieee.double.read (wm n):=rfl
 rw [hd,rB hlt,e1,e2] at h
 simp only at h
 have hw : FloatKind.f32.encode (.number false (n * 2 ^ (52 - n.log2)) (-1074 + ((n.log2 + 1022 : Nat) : Int))) = Ieee.single.nearest false n 0 := by
  show Ieee.single.nearest false (n * 2 ^ (52 - n.log2)) (-1074 + ((n.log2 + 1022:Nat):Int)) = _
  have:=wO (f:=Ieee.single) (s:=false) (m:=n) (k:=52 - n.log2) (P:=0) h0 (show n.log2 ≤ 23 by omega) (by decide)
  rw [show -1074 + ((n.log2 + 1022:Nat):Int) = 0 - ((52 - n.log2:Nat):Int) by omega]; exact this
 rw [hw] at h
 obtain ⟨_,f2,_⟩:=wM hn
 have hdd:∀ b,FloatKind.f32.decode b = Ieee.single.read b:=fun _=>rfl
 rw [hdd,lX f2] at h
 simp only [Ieee.Datum.isInfinity] at h
 simpa using h
end
section
open Go Go.RowKit
section
variable {P:Program} {n:Nat} {E:bR} {H:Hp}
variable {d:Option Tmp} {t:TypeId} {pos:String} {af:Array Edge} {g:Option (Nat × Bool)}
theorem Lh {x i : Operand} {q : Nat} {Ts : List Ty} {T : Ty} {kd : IntKind} {e : TypeId} {len : Nat} (hU : ∀ w, (underlying t).run P w = .ok (.array len e) w) (hS : ∀ w, (sizeOf e).run P w = .ok 1 w) (hg : ∀ w, (isAgg e).run P w = .ok false w)
  (hx:aM E x (dL Ts)) (hi:aM E i (NT kd q)) (hl:q < len) (hT:Ts[q]? = some T) {t':TypeId}:aB P n E H ⟨d,.index t x i,t',pos,af,g⟩ T :=
 bM fun a V w hs => by
  obtain ⟨vs,e1,e4⟩:=hx n V a hs
  have ei:a.eval i = .int kd (q:Int):=hi n V a hs
  obtain ⟨u,e5,e6⟩:=e4.all.get hT
  exact ⟨u,by simp [execOp,e1,ei,Instr.index,asIntOf,Sem.run_bind,hU,hS,hg,part,Result.andThen,hl,e5],e6⟩
end
end
section
open Go Go.RowKit
section
variable {P:Program} {R:eP} {cx:Cx} {n:Nat} {k:List It} {E:bR} {H:Hp}
theorem HH.two {base:Nat} {w:World} {V:aL} {Z:SA} {X:Hp} (h:HH base w V (Z :: X)):HH base w V [Z,gM (SA.emp :: X)]:=by
 have h1:HH base w V ((Z :: X).set 0 SA.emp ++ [Z]):=h.last rfl
 have h2:HH base w V (gM (SA.emp :: X) :: [Z]):=HH.repack h1
 exact h2.pick (is:=[1,0]) ⟨⟨_,rfl,fun _ _ _ h=>h⟩,⟨_,rfl,fun _ _ _ h=>h⟩,trivial⟩ (by decide)
theorem gO.pack {f : FuncId} {Ts : List Ty} {γ : Type} {U : γ → Ty} {X : γ → Hp} {Q : γ → Prop} (h : gO P f Ts [] γ U X Q) : gO P f Ts [] γ U (fun x => [gM (SA.emp :: X x)]) Q :=
 fun cx Z vs V w h1 h2=>(h cx Z vs V w h1 h2).mono fun e w' ⟨v,V',x,a,b,c,d,e'⟩=>⟨v,V',x,a,b,c.withHH c.hp.two,d,e'⟩
end
namespace W
variable {P:Program} {R:eP} {cx:Cx} {n:Nat} {k:List It} {E:bR} {H:Hp} {Hf:Bool → Hp} {p:Nat}
end W
end
section
open Go Go.RowKit
section
variable {P:Program} {n:Nat} {E:bR} {H:Hp}
variable {d:Option Tmp} {t:TypeId} {pos:String} {af:Array Edge} {g:Option (Nat × Bool)}
theorem lW {x i : Operand} {B o q r s : Nat} {kd : IntKind} {j : Int} {e : TypeId} {len : Nat} (hU : ∀ w, (underlying t).run P w = .ok (.array len e) w) (hS : ∀ w, (sizeOf e).run P w = .ok s w)
  (hx:aM E x (cB B o)) (hi:aM E i (aD kd j)) (hj:j = (q:Int)) (hl:q < len) (hr:o + q * s = r) {t':TypeId}:aB P n E H ⟨d,.indexAddr t x i,t',pos,af,g⟩ (cB B r) :=
 bM fun a V w hs => by
  have e1:a.eval x = .pointer (some ⟨B,o,none⟩):=hx n V a hs
  have ei:a.eval i = .int kd j:=hi n V a hs
  subst hj hr
  exact ⟨.pointer (some ⟨B,o + q * s,none⟩),by simp [execOp,e1,ei,Instr.indexAt,Instr.sureAddr,asIntOf,Sem.run_bind,hU,hS,Result.andThen,hl,eS],rfl⟩
theorem wU {x i : Operand} {q s : Nat} {Ts Us : List Ty} {kd : IntKind} {j : Int} {e : TypeId} {len : Nat} (hU : ∀ w, (underlying t).run P w = .ok (.array len e) w) (hS : ∀ w, (sizeOf e).run P w = .ok s w)
  (hx:aM E x (PT (dL Ts))) (hi:aM E i (aD kd j)) (hj:j = (q:Int)) (hl:q < len) (hc:(Ts.drop (q * s)).take s = Us) {t':TypeId}:aB P n E H ⟨d,.indexAddr t x i,t',pos,af,g⟩ (PT (dL Us)) :=
 bM fun a V w hs => by
  obtain ⟨b,o,v,e1,⟨c,BT,fr,e2,e3⟩,vs,rfl,e4⟩:=hx n V a hs
  have ei:a.eval i = .int kd j:=hi n V a hs
  subst hj
  refine ⟨.pointer (some ⟨b,o + q * s,none⟩),by simp [execOp,e1,ei,Instr.indexAt,Instr.sureAddr,asIntOf,Sem.run_bind,hU,hS,Result.andThen,hl,eS],b,o + q * s,.agg ((vs.drop (q * s)).take s).toArray,rfl,⟨c,BT,fr,e2,fun j u hu=>?_⟩,_,rfl,?_⟩
  ·simp only [Value.cells, List.getElem?_toArray, List.getElem?_take, List.getElem?_drop] at hu
   split at hu
   ·have := e3 (q * s + j) u (by simpa [Value.cells] using hu)
    rw [show o + q * s + j = o + (q * s + j) by omega]; exact this
   ·cases hu
  ·rw [← hc]; exact (e4.drop (q * s)).take s
end
end
section
open Go Go.RowKit
section
variable {P:Program} {n:Nat} {E:bR} {H:Hp}
variable {d:Option Tmp} {t:TypeId} {pos:String} {af:Array Edge} {g:Option (Nat × Bool)}
theorem Fu {x : Operand} {e : TypeId} {len s : Nat} {Ts Us : List Ty} (hU : ∀ w, (underlying t).run P w = .ok (.array len e) w) (hS : ∀ w, (sizeOf e).run P w = .ok s w) (hx : aM E x (PT (dL Ts))) (hl : Us.length = len)
  (hp:∀ i U,Us[i]? = some U → U = dL ((Ts.drop (i * s)).take s) ∧ ((Ts.drop (i * s)).take s).length = s) {t':TypeId} :
  aB P n E H ⟨d,.slice t x none none none,t',pos,af,g⟩ (jY s Us) :=
 bM fun a V w hs => by
  obtain ⟨b,o,v,e1,⟨c,BT,fr,e2,e3⟩,vs,rfl,e4⟩:=hx n V a hs
  refine ⟨.slice (some ⟨b,o,none⟩) len len,?_,some ⟨b,o,none⟩,len,by rw [hl],by omega,fun i T hT=>?_⟩
  ·simp [execOp,e1,Instr.sliceAt,Instr.sureAddr,Instr.sliceBounds,Sem.run_bind,hU,hS,Result.andThen,eS,pure,Sem.run]
  ·obtain ⟨rfl, hlen⟩ := hp i T hT
   have hc:=(e4.drop (i * s)).take s
   refine ⟨b,o,.agg ((vs.drop (i * s)).take s).toArray,rfl,⟨c,BT,fr,e2,fun j u hu=>?_⟩,by have:=hc.length; simp only [Value.cells,List.size_toArray]; omega,_,rfl,hc⟩
   simp only [Value.cells,List.getElem?_toArray,List.getElem?_take,List.getElem?_drop] at hu
   split at hu
   ·have := e3 (i * s + j) u (by simpa [Value.cells] using hu)
    rw [show o + i * s + j = o + (i * s + j) by omega]; exact this
   ·cases hu
end
theorem Te {B:Nat} {BT:TypeId} {Ts Us:List Ty} (h:Mh Ts Us):∀ S m V,(box B BT Ts).h S m V → (box B BT Us).h S m V:=fun S m V ⟨e,cs,h1,k⟩=>⟨e,cs,h1,h.all k.all,k.pl⟩
end
section
open Go Go.RowKit
theorem Eo {n : Nat} {E : bR} {H : Hp} {d : Option Tmp} {t : TypeId} {pos : String} {af : Array Edge} {g : Option (Nat × Bool)} {x0 x1 : Operand} {T0 T1 : Ty} [s0 : cM T0 1 false] (h0 : aM E x0 T0) [s1 : cM T1 1 false] (h1 : aM E x1 T1) :
  aB Tryz.prog n E H ⟨d,.build 88 #[(0,x0),(1,x1)],t,pos,af,g⟩ (dL [T0,T1]) :=
 gA (parts := [(0, x0), (1, x1)]) fun a V w hs => by
  have p0:=h0 n V a hs
  generalize e0:a.eval x0 = v0 at p0
  have q0:=(s0.ok v0 V p0).2.2 rfl
  have p1:=h1 n V a hs
  generalize e1:a.eval x1 = v1 at p1
  have q1:=(s1.ok v1 V p1).2.2 rfl
  refine ⟨.agg #[v0,v1],?_,[v0,v1],rfl,aW (⟨p0,q0⟩) (aW (⟨p1,q1⟩) (aG))⟩
  simp [e0,e1,Instr.build,Instr.fill,Sem.run_bind,Result.andThen,eI,q0.cells,q1.cells,Tryz.zeroValue88,Tryz.runUnderlying88,Z_2]
end
section
open Go Go.RowKit
open Fl
def rFr (q n:Nat) (hq:q ≤ 1000000) (hn:n ≤ 1000000):Rt:=⟨q,0,n,by omega,by omega,by decide,by decide,by omega,by omega⟩
theorem a1X {q n:Nat} (hq:q ≤ 1000000) (hn:n ≤ 1000000) (h0:0 < n):(rFr q n hq hn).q = Qi.ofInt (q:Int) / Qi.ofInt (n:Int):=by
 have hd:(rFr q n hq hn).d = (n:Int):=by unfold Rt.d; exact if_neg (show ¬ ((n:Nat):Int) = 0 by omega)
 have r:∀ n:Int,Re (Qi.ofInt n):=fun n=>⟨rfl⟩
 unfold Rt.q; rw [hd]
 unfold Qi.frac
 refine Re.ext ⟨?_⟩ ((r _).div (r _)) ?_
 ·show (((0 : Int) : Rat)) / ((n : Int) : Rat) = 0
  have:((0:Int):Rat) = 0:=rfl
  rw [this]; grind
 ·rw [(r _).rdiv (r _)]; rfl
theorem a0n {h l i x:Nat} (hi:i < 2) (hx:x = if i = 0 then h else l):[NT .i64 h,NT .i64 l][i]? = some (NT .i64 x):=by
 have:i = 0 ∨ i = 1:=by omega
 rcases this with rfl | rfl <;> subst hx <;> rfl
def pz (a i:Nat) (j:Nat):Nat:=if j < i then a else 0
theorem pz0 (a:Nat):pz a 2 0 = a:=if_pos (by decide)
theorem pz1 (a:Nat):pz a 2 1 = a:=if_pos (by decide)
theorem a0X {a b i x:Nat} (hi:i < 2) (hx:x = if i = 0 then a else b):[nP .f32 (pz a i 0),nP .f32 (pz b i 1)].set (0 + i * 1) (nP .f32 x) = [nP .f32 (pz a (i + 1) 0),nP .f32 (pz b (i + 1) 1)]:=by
 have:i = 0 ∨ i = 1:=by omega
 rcases this with rfl | rfl <;> subst hx <;> rfl
theorem a0o (q:Nat):hZ (lU 2) (qK q) = 0:=by
 unfold hZ; rw [if_neg]; simp [qK,lF]
theorem a0p (q:Nat):fO (qK q) 2 2:=⟨rfl,fun r hr=>by simp [qK] at hr; rcases hr with rfl | rfl <;> rfl⟩
theorem qJ {n:Nat} (h:n < 4294967296):aE (Qi.ofInt (n:Int)) 1:=⟨Qi.Fit.int (by decide) (by show (n:Int).natAbs < _; rw [Int.natAbs_natCast]; exact h)⟩
theorem a0m {q : Nat} (h : q < 4294967296) : bS (qK q) 2 := fun r hr x hx => by
 have h0:=(qJ (n:=0) (by decide)).le (show 1 ≤ 2 by decide)
 have h5:=(qJ (n:=5) (by decide)).le (show 1 ≤ 2 by decide)
 have hq:=(qJ h).le (show 1 ≤ 2 by decide)
 simp [qK] at hr
 rcases hr with rfl | rfl
 ·simp at hx; rcases hx with rfl | rfl; exact h5; exact h0
 ·simp at hx; rcases hx with rfl | rfl; exact h0; exact hq
abbrev R3T (a b d:Rt):Ty:=dL [aD .i64 a.re,aD .i64 a.im,aD .i64 a.den,aD .i64 b.re,aD .i64 b.im,aD .i64 b.den,aD .i64 d.re,aD .i64 d.im,aD .i64 d.den]
theorem a1W (a b d : Rt) : ∀ (i : Nat) (U : Ty), [zK a, zK b, zK d][i]? = some U → U = dL (([aD .i64 a.re, aD .i64 a.im, aD .i64 a.den, aD .i64 b.re, aD .i64 b.im, aD .i64 b.den, aD .i64 d.re, aD .i64 d.im, aD .i64 d.den].drop (i * 3)).take 3) ∧ (([aD .i64 a.re, aD .i64 a.im, aD .i64 a.den, aD .i64 b.re, aD .i64 b.im, aD .i64 b.den, aD .i64 d.re, aD .i64 d.im, aD .i64 d.den].drop (i * 3)).take 3).length = 3 := fun i U h => by
 match i,h with
 | 0,h=>cases h; exact ⟨rfl,rfl⟩
 | 1,h=>cases h; exact ⟨rfl,rfl⟩
 | 2,h=>cases h; exact ⟨rfl,rfl⟩
theorem sT {Ts Us:List Ty} (h:Ts = Us):∀ v V,(fE Ts).p v V → (fE Us).p v V:=fun v V k=>h ▸ k
theorem a04 {r:Rt} (h:r.im = 0):bA Tryz.prog 46 [aD .i64 r.re,aD .i64 r.den] (aF r.q):=by
 refine bA.intro Tryz.func46 rfl Tryz.ntmps46 rfl (fun cx=>(ts (rn rfl (eW (Ts:=[Is (.bool false),Is (.slice none 0 0),Is (.bool false),Is (.slice none 0 0),Is (.slice none 0 0)]) O_32 rfl (fun V=>aW zd (aW zd (aW zd (aW zd (aW zd (aG))))))) fun B4=>(eX (ts (rm rfl (rm rfl (ro rfl (aB.imp (qQ (Ht rfl) (Ht rfl)) (oO (Us:=[aD .i64 r.re,aD .i64 r.im,aD .i64 r.den]) (by rw [h]))) ?_))))))))
 refine ro rfl (cZ Tryz.call14 (Hn (r:=r)) ⟨(Ht rfl),trivial⟩) ?_
 refine gZ Z_32 (Ht rfl) (Ht rfl) rfl (i:=0) rfl (aK rfl) rfl rfl (eX ?_)
 exact fG rfl (fU A_32 Z_32 rfl (i:=0) rfl rfl)
theorem zV {r0 r1 r2:Rt} {pa pb ta tb:Nat} (h1:pa < 256) (h2:pb < 256) (h3:ta < 65536) (h4:tb < 65536):bA Tryz.prog 6 [R3T r0 r1 r2,dL [NT .u8 pa,NT .u8 pb],dL [NT .u16 ta,NT .u16 tb]] (aC true):=by
 obtain ⟨g,hg⟩:∃ g,g = 1 + pa % 8:=⟨_,rfl⟩
 obtain ⟨lo,hlo⟩:∃ lo,lo = 1 + ta % 1000:=⟨_,rfl⟩
 obtain ⟨hi,hhi⟩:∃ hi,hi = lo + 1 + tb % 1000:=⟨_,rfl⟩
 have hgb:g ≤ 1000000:=by omega
 have hg0:0 < g:=by omega
 have hgg:g * g ≤ 8 * 8:=Nat.mul_le_mul zo zo
 have hgg0:0 < g * g:=Nat.mul_pos hg0 hg0
 have hb1:g * g * hi ≤ 64 * 2001:=Nat.mul_le_mul hgg zo
 have hzl:=lF 2
 have hfz:=Au 2
 have hfs:=Ip 2 (pW r0 r1 r2 g hgb)
 have hfc:=a0m (q:=pb) zo
 have hf0:aE (Qi.ofInt 0) 2:=aE.zero (by decide)
 have hsh:fO (lT 2 (pW r0 r1 r2 g hgb)) (lU 2).length (lU 2).length:=by rw [hzl]; exact sI 2 _
 have hch:fO (qK pb) (lU 2).length (lU 2).length:=by rw [hzl]; exact a0p pb
 have hN:=a0o pb
 have f290:aE (Qi.ofInt 290) 1:=⟨Qi.Fit.int (by decide) (by decide)⟩
 obtain ⟨Xq,hX⟩:∃ Xq,Xq = Qi.ofInt (pb:Int) / Qi.ofInt ((g * g:Nat):Int):=⟨_,rfl⟩
 haveI i1:=qJ (n:=pb) zo
 haveI i2:=qJ (n:=g * g) zo
 have fX:aE (Qi.ofInt (pb:Int) / Qi.ofInt ((g * g:Nat):Int)) (1 + 3 * 1 + 2):=inferInstance
 rw [← hX] at fX
 haveI i3:=qJ (n:=g * g * 290) zo
 obtain ⟨Yq,hY⟩:∃ Yq,Yq = Qi.ofInt 1 + Qi.ofInt (pb:Int) / Qi.ofInt ((g * g * 290:Nat):Int):=⟨_,rfl⟩
 haveI i4:=Ff
 have fY:aE (Qi.ofInt 1 + Qi.ofInt (pb:Int) / Qi.ofInt ((g * g * 290:Nat):Int)) (1 + (1 + 3 * 1 + 2) + 1):=inferInstance
 rw [← hY] at fY
 have hrc:=Uz (q:=pb) (G:=g * g) (l:=lo) (t:=hi) zo zo hgg0 zo
 rw [← hX] at hrc
 have hfq:=Uy (q:=pb) hgg0
 rw [← hX,← hY] at hfq
 have hfc2:=a0l (r0:=r0) (r1:=r1) (r2:=r2) (h:=hgb) (q:=pb) hg0
 rw [← hY] at hfc2
 refine bA.intro Tryz.func6 rfl Tryz.ntmps6 rfl (fun cx=>(ts (rn rfl (fK (Ht rfl)) fun B3=>(rn rfl (fK (Ht rfl)) fun B4=>(rn rfl (fK (Ht rfl)) fun B5=>(ro rfl (cQ cV) (eX (cK (cK (gW (i:=0) (tt:=3) rfl rfl Ig (cY (ro rfl (Fu (Us:=[zK r0,zK r1,zK r2]) U_72 Z_23 (Ht rfl) rfl (a1W r0 r1 r2)) (ro rfl (cZ Tryz.call37 (Nt (l:=[r0,r1,r2]) (show 3 ≤ 9223372036854775807 by decide)) ⟨(Ht rfl),trivial⟩) (ro rfl (dR (Ht rfl)) (eX (dQ (Ht rfl) (fun hb=>?_) (fun hb=>?_)))))))))))))))))
 ·refine ts (ro rfl (cZ Tryz.call38 Bx trivial) (ra rfl (eX ?_)))
  exact fG rfl (eU rfl)
 ·refine cU (cK (fJ (m := 9) (dp 4 rfl (lW Tryz.runUnderlying73 Z_5 (Ht rfl) (cJ 0) rfl (by decide) rfl) (dq 31 0 rfl (eY Tryz.isAgg5 Z_5 (Ht rfl) (i := 1) rfl rfl) (dq 32 1 rfl (gV U_5 U_2 (Ht rfl) z6) (dq 33 2 rfl (lG (Ht rfl) (cJ 8) zo) (dq 34 3 rfl (aB.nat (dV (cJ 1) (Ht rfl) z6) hg.symm) (dp 4 rfl (lW Tryz.runUnderlying73 Z_5 (Ht rfl) (cJ 1) rfl (by decide) rfl) ?_))))))))
  refine dq 36 5 rfl (eY Tryz.isAgg5 Z_5 (Ht rfl) (i:=1) rfl rfl) (dq 37 6 rfl (gV U_5 U_2 (Ht rfl) z6) (dq 35 4 rfl (cQ (Ht rfl)) (fW bC rfl (by kernel_rfl) (zF (zF (aJ (aV (ra rfl (eX (ts (ro rfl (lW Tryz.runUnderlying75 Tryz.sizeOf74 (Ht rfl) (cJ 0) rfl (by decide) rfl) (ro rfl (eY Tryz.isAgg74 Tryz.sizeOf74 (Ht rfl) (i:=2) rfl rfl) (ro rfl (gV Tryz.runUnderlying74 U_2 (Ht rfl) z6) ?_)))))))))))))
  refine ro rfl (lG (Ht rfl) (cJ 1000) zo) (ro rfl (aB.nat (dV (cJ 1) (Ht rfl) z6) hlo.symm) (ra rfl (eX (ts (rm rfl (ro rfl (dV (Ht rfl) (cJ 1) z6) (ro rfl (lW Tryz.runUnderlying75 Tryz.sizeOf74 (Ht rfl) (cJ 1) rfl (by decide) rfl) (ro rfl (eY Tryz.isAgg74 Tryz.sizeOf74 (Ht rfl) (i:=2) rfl rfl) (ro rfl (gV Tryz.runUnderlying74 U_2 (Ht rfl) z6) ?_)))))))))
  refine ro rfl (lG (Ht rfl) (cJ 1000) zo) (ro rfl (aB.nat (dV (Ht rfl) (Ht rfl) z6) hhi.symm) (ra rfl (eX (ts (ro rfl (wU U_72 Z_23 (Ht rfl) (cJ 0) rfl (by decide) rfl) (ro rfl (dJ A_23 Z_23 (Ht rfl)) (ro rfl (wU U_72 Z_23 (Ht rfl) (cJ 1) rfl (by decide) rfl) (ro rfl (dJ A_23 Z_23 (Ht rfl)) (rm rfl (ro rfl (aB.imp (Mz (Ht rfl)) (oO (Us:=[aD .i64 (Lk g hgb).re,aD .i64 (Lk g hgb).im,aD .i64 (Lk g hgb).den]) rfl)) ?_))))))))))
  refine ro rfl (wU U_72 Z_23 (Ht rfl) (cJ 2) rfl (by decide) rfl) (ro rfl (dJ A_23 Z_23 (Ht rfl)) (ro rfl (aB.imp (cL (xs:=[.tmp 53,.tmp 55,.tmp 57,.tmp 59]) U_77 Z_23 O_23 (cW (Ht rfl) (cW (Ht rfl) (cW (Ht rfl) (cW (Ht rfl) cG)))) rfl rfl rfl) (rH (Us:=(pW r0 r1 r2 g hgb).map zK) rfl)) (ro rfl (cZ Tryz.call39 (Ns (n:=2) (l:=pW r0 r1 r2 g hgb) (by decide) (by decide)) ⟨(cJ 2),(Ht rfl),trivial⟩) (rm rfl (ro rfl (dK (Ht rfl) rfl) ?_)))))
  refine ro rfl (dK (Ht rfl) rfl) (rn rfl (eW (Ts:=[Is (.slice none 0 0),Is (.slice none 0 0)]) O_80 rfl (fun V=>aW zd (aW zd (aG)))) fun B11=>(gZ Z_80 (Ht rfl) (Ht rfl) rfl (i:=3) rfl (aK rfl) rfl rfl (ra rfl (eX (cK (Y.D_start (m:=15) [] (bY (Ei:=[(11,_)]) rfl rfl (bQ (bJ rfl rfl) bX) rfl rfl (dX rfl (eJ A_80 Z_80 (Ht rfl) (i:=3) rfl rfl rfl)) (bY (Ei:=[]) rfl rfl bX rfl rfl (dX rfl (cZ K_36 (gY (n:=5) (by decide) (by decide)) ⟨(cJ 5),trivial⟩)) ?_))))))))
  refine bY (Ei:=[]) rfl rfl bX rfl rfl (dX rfl (cZ K_36 (gY (n:=0) (by decide) (by decide)) ⟨(cJ 0),trivial⟩)) (bY (Ei:=[(66,_),(67,_)]) rfl rfl (bQ (bZ 1 rfl rfl) (bQ (bZ 2 rfl rfl) bX)) rfl rfl (dX rfl (cL (xs:=[.tmp 66,.tmp 67]) U_54 Z_32 O_32 (cW (Ht rfl) (cW (Ht rfl) cG)) rfl rfl rfl)) (bY (Ei:=[]) rfl rfl bX rfl rfl (dX rfl (cZ K_36 (gY (n:=0) (by decide) (by decide)) ⟨(cJ 0),trivial⟩)) ?_))
  refine bY (Ei:=[(8,_)]) rfl rfl (bQ (bJ rfl rfl) bX) rfl rfl (dX rfl (cX (Ht rfl))) (bY (Ei:=[(70,_)]) rfl rfl (bQ (bZ 5 rfl rfl) bX) rfl rfl (dX rfl (cZ K_36 (gY (n:=((pb:Nat):Int)) zo zo) ⟨(Ht rfl),trivial⟩)) (bY (Ei:=[(69,_),(71,_)]) rfl rfl (bQ (bZ 4 rfl rfl) (bQ (bZ 6 rfl rfl) bX)) rfl rfl (dX rfl (cL (xs:=[.tmp 69,.tmp 71]) U_54 Z_32 O_32 (cW (Ht rfl) (cW (Ht rfl) cG)) rfl rfl rfl)) ?_))
  refine bY (Ei:=[(68,_),(72,_)]) rfl rfl (bQ (bZ 3 rfl rfl) (bQ (bZ 7 rfl rfl) bX)) rfl rfl (dX rfl (aB.imp (cL (xs:=[.tmp 68,.tmp 72]) U_78 Z_54 O_54 (cW (Ht rfl) (cW (Ht rfl) cG)) rfl rfl rfl) (rH (Us:=(qK pb).map cC) rfl))) (bY (Ei:=[(65,_),(73,_)]) rfl rfl (bQ (bZ 0 rfl rfl) (bQ (bZ 8 rfl rfl) bX)) rfl rfl (dX rfl (cZ Tryz.call40 (eQ (Nn (z:=lU 2) (s:=(lT 2 (pW r0 r1 r2 g hgb))) (c:=qK pb) zo (show 2 ≤ 1000 by decide)) (sT (Us:=[gS (lU 2) (lT 2 (pW r0 r1 r2 g hgb)) (qK pb),aD .i64 0]) (by rw [hN,jE,jE,jE,if_pos rfl,if_pos rfl,if_pos rfl]))) ⟨(Ht rfl),(Ht rfl),trivial⟩)) ?_)
  refine bY (Ei:=[(74,_)]) rfl rfl (bQ (bZ 9 rfl rfl) bX) rfl rfl (dX rfl (cX (Ht rfl))) (bY (Ei:=[(64,_)]) rfl rfl (bQ (bZ 10 rfl rfl) bX) rfl rfl (dX rfl (dK (Ht rfl) rfl)) (bY (Ei:=[(64,_)]) rfl rfl (bQ (bZ 10 rfl rfl) bX) rfl rfl (dX rfl (dK (Ht rfl) rfl)) (Y.D_newp (Ei:=[]) (fun bb=>box bb 84 [cC (lU 2),cH (lT 2 (pW r0 r1 r2 g hgb)),cH (qK pb)]) 14 rfl rfl rfl bX rfl rfl (by kernel_rfl) (eW (Ts:=[Is (.slice none 0 0),Is (.slice none 0 0),Is (.slice none 0 0)]) O_84 rfl (fun V=>aW zd (aW zd (aW zd (aG))))) ?_)))
  refine Y.D_putN (Ei:=[(75,_)]) 13 rfl rfl rfl rfl rfl rfl (bQ (bZ 11 rfl rfl) bX) (fun bb=>rM Z_84 (Ht rfl) (Ht rfl) rfl (i:=0) rfl (aK rfl) rfl rfl) (Y.D_done bC rfl (by kernel_rfl) rfl (by simp [Y.okP]) rfl rfl (bU (bU (bU (bU (bU (bU (bU (bU (bU (bU (bU (bU (bU (Y.F_newp (fun B13=>Y.F_putN (Y.F_nil ?_)))))))))))))))))
  refine ra rfl (eX (cK (ts (rm rfl (ro rfl (oB (Ht rfl) cV) (eX (kZ (Ht rfl) (by simp) ?_)))))))
  refine cU (ts (rn rfl (eW (Ts:=[Is (.float .f32 0),Is (.float .f32 0)]) Tryz.zeroValue87 rfl (fun V=>aW zd (aW zd (aG)))) fun B15=>(eX (cK (ts (rm rfl (rm rfl (ro rfl (Eo (Ht rfl) (Ht rfl)) (ro rfl (cX (cJ 0)) (eX (eG (dB [4,5] rfl (by decide) ?_))))))))))))
  refine dC (fun (i : Nat) => i ≤ 2) (fun (i : Nat) => 2 - i) (fun (i : Nat) => [(7, NT .i64 g), (8, NT .i64 pb), (9, NT .i64 lo), (10, NT .i64 hi), (13, cB B13 0), (15, cB B15 0), (81, dL [NT .i64 hi, NT .i64 lo]), (82, NT .i64 i)]) (fun (i : Nat) => [box B13 84 [cC (lU 2), cH (lT 2 (pW r0 r1 r2 g hgb)), cH (qK pb)], box B15 87 [nP .f32 (pz (Ieee.single.nearest false (pb + g * g * hi) 0) i 0), nP .f32 (pz (Ieee.single.nearest false (pb + g * g * lo) 0) i 1)]]) 0 (Nat.zero_le _)
   (zS rfl) (aU (aH rfl) (aU (Te ⟨Yv,Yv,trivial⟩) aY)) (fun i hi2=>?_)
  refine ts (ro rfl (gJ (Ht rfl) (cJ 2)) (eX (cK (dQ (Ht rfl) (fun hc=>?_) (fun hc=>?_)))))
  ·have hi3 : i < 2 := by simpa using hc
   obtain ⟨T,hT⟩:∃ T,T = if i = 0 then hi else lo:=⟨_,rfl⟩
   have hT1:T ≤ 2001:=by rw [hT]; split <;> omega
   have hT0:0 < T:=by rw [hT]; split <;> omega
   have hT2:g * g * T ≤ 64 * 2001:=Nat.mul_le_mul hgg hT1
   have hT3:0 < g * g * T:=Nat.mul_pos hgg0 hT0
   have hE:=a1J (r0:=r0) (r1:=r1) (r2:=r2) (g:=g) (h:=hgb) T
   have hNN:=a2k (r0:=r0) (r1:=r1) (r2:=r2) (g:=g) (h:=hgb) (q:=pb) (T:=T)
   have hQl:Mf (lU 2) (lT 2 (pW r0 r1 r2 g hgb)) (qK pb) ((1:Nat):Int) (Qi.ofInt 0) (Qi.ofInt (T:Int)) = ntC (lU 2) (lT 2 (pW r0 r1 r2 g hgb)) (qK pb) (Qi.ofInt 0) (Qi.ofInt (T:Int)) 0:=by rw [Mf,hE,jE,if_pos rfl]; rfl
   have hQs:fO (Mf (lU 2) (lT 2 (pW r0 r1 r2 g hgb)) (qK pb) ((1:Nat):Int) (Qi.ofInt 0) (Qi.ofInt (T:Int))) 1 1:=by rw [hQl]; exact fO.tab
   have hval:(if i = 0 then (Ieee.single.nearest false (pb + g * g * hi) 0) else (Ieee.single.nearest false (pb + g * g * lo) 0)) = (Ieee.single.nearest false (pb + g * g * T) 0):=by rw [hT]; split <;> rfl
   refine cU (cK (eG (ts (rm rfl (ro rfl (Lh Tryz.runUnderlying88 Z_2 A_2 (Ht rfl) (Ht rfl) zo (a0n hi3 hT)) (ra rfl (ra rfl (eX (cK (Y.D_start (m:=10) [] (bY (Ei:=[(13,_)]) rfl rfl (bQ (bJ rfl rfl) bX) rfl rfl (dX rfl (eJ A_84 Z_84 (Ht rfl) (i:=0) rfl rfl rfl)) (bY (Ei:=[]) rfl rfl bX rfl rfl (dX rfl (cZ K_36 (gY (n:=0) (by decide) (by decide)) ⟨(cJ 0),trivial⟩)) (bY (Ei:=[(17,_)]) rfl rfl (bQ (bJ rfl rfl) bX) rfl rfl (dX rfl (cX (Ht rfl))) ?_)))))))))))))
   refine bY (Ei:=[(89,_)]) rfl rfl (bQ (bZ 2 rfl rfl) bX) rfl rfl (dX rfl (cZ K_36 (gY (n:=((T:Nat):Int)) zo zo) ⟨(Ht rfl),trivial⟩)) (bY (Ei:=[(87,_),(88,_),(90,_)]) rfl rfl (bQ (bZ 0 rfl rfl) (bQ (bZ 1 rfl rfl) (bQ (bZ 3 rfl rfl) bX))) rfl rfl (dX rfl (cZ Tryz.call41 (Tn (z:=lU 2) (s:=(lT 2 (pW r0 r1 r2 g hgb))) (c:=qK pb) (port:=((1:Nat):Int)) (g:=Qi.ofInt 0) (t:=Qi.ofInt (T:Int)) hfz hfs hfc hf0 ((qJ zo).le (by decide)) hsh hch (by rw [hzl]; decide)) ⟨(Ht rfl),(cJ 1),(Ht rfl),(Ht rfl),trivial⟩)) ?_)
   refine bY (Ei:=[(91,_)]) rfl rfl (bQ (bZ 4 rfl rfl) bX) rfl rfl (dX rfl (cX (Ht rfl))) (bY (Ei:=[(86,_)]) rfl rfl (bQ (bZ 5 rfl rfl) bX) rfl rfl (dX rfl (dK (Ht rfl) rfl)) (bY (Ei:=[(86,_)]) rfl rfl (bQ (bZ 5 rfl rfl) bX) rfl rfl (dX rfl (dK (Ht rfl) rfl)) (Y.D_newp (Ei:=[]) (fun bb=>box bb 84 [cC (ntZ (lU 2) (lT 2 (pW r0 r1 r2 g hgb)) ((1:Nat):Int) (Qi.ofInt 0) (Qi.ofInt (T:Int))),cH (ntS (lU 2) (lT 2 (pW r0 r1 r2 g hgb)) ((1:Nat):Int) (Qi.ofInt 0) (Qi.ofInt (T:Int))),cH (Mf (lU 2) (lT 2 (pW r0 r1 r2 g hgb)) (qK pb) ((1:Nat):Int) (Qi.ofInt 0) (Qi.ofInt (T:Int)))]) 9 rfl rfl rfl bX rfl rfl (by kernel_rfl) (eW (Ts:=[Is (.slice none 0 0),Is (.slice none 0 0),Is (.slice none 0 0)]) O_84 rfl (fun V=>aW zd (aW zd (aW zd (aG))))) ?_)))
   refine Y.D_putN (Ei:=[(92,_)]) 8 rfl rfl rfl rfl rfl rfl (bQ (bZ 6 rfl rfl) bX) (fun bb=>rM Z_84 (Ht rfl) (Ht rfl) rfl (i:=0) rfl (aK rfl) rfl rfl) (Y.D_done bC rfl (by kernel_rfl) rfl (by simp [Y.okP]) rfl rfl (bU (bU (bU (bU (bU (bU (bU (bU (Y.F_newp (fun B18=>Y.F_putN (Y.F_nil ?_))))))))))))
   refine ra rfl (eX (ts (ro rfl (eJ A_84 Z_84 (Ht rfl) (i:=2) rfl rfl rfl) (ro rfl (cZ Tryz.call42 (eQ (To (z:=ntZ (lU 2) (lT 2 (pW r0 r1 r2 g hgb)) ((1:Nat):Int) (Qi.ofInt 0) (Qi.ofInt (T:Int))) (s:=ntS (lU 2) (lT 2 (pW r0 r1 r2 g hgb)) ((1:Nat):Int) (Qi.ofInt 0) (Qi.ofInt (T:Int))) (c:=Mf (lU 2) (lT 2 (pW r0 r1 r2 g hgb)) (qK pb) ((1:Nat):Int) (Qi.ofInt 0) (Qi.ofInt (T:Int))) (i:=((1:Nat):Int)) (j:=((1:Nat):Int)) (by rw [hQs.1]; exact hQs) (by rw [hQs.1]; decide)) (sT (Us:=[aF (Qi.ofInt ((pb + g * g * T:Nat):Int)),aD .i64 0]) (by rw [hQs.1,← hNN]; rfl))) ⟨(Ht rfl),(cJ 1),(cJ 1),trivial⟩) ?_))))
   refine rm rfl (ro rfl (dK (Ht rfl) rfl) (ro rfl (dK (Ht rfl) rfl) (rn rfl (eW (Ts:=[Is (.bool false),Is (.slice none 0 0),Is (.bool false),Is (.slice none 0 0),Is (.slice none 0 0)]) O_32 rfl (fun V=>aW zd (aW zd (aW zd (aW zd (aW zd (aG))))))) fun B20=>(gZ Z_32 (Ht rfl) (Ht rfl) rfl (i:=3) rfl (aK rfl) rfl rfl (ra rfl (eX (cK (ts (rm rfl (ro rfl (oB (Ht rfl) cV) (rm rfl (fQ rfl rfl (eK rfl rfl (Ht rfl) (fun h=>cX (Ht rfl))) ?_))))))))))))
   refine fQ rfl rfl (eK rfl rfl (Ht rfl) (fun h=>oB (fV rfl h) cV)) (ro rfl (gK (Ht rfl) (fun h=>(fV rfl h))) (eX (kZ (Ht rfl) (by rw [hE]; simp) ?_)))
   refine cU (cY (rm rfl (ro rfl (eJ A_32 Z_32 (Ht rfl) (i:=3) rfl rfl rfl) (ro rfl (cZ Tryz.call43 (eQ (Tf (x:=Qi.ofInt ((pb + g * g * T:Nat):Int)) (L:=1) (hx:=qJ zo) (by decide)) (oI (Td zo zo))) ⟨(Ht rfl),trivial⟩) (ro rfl (aB.imp (Qg U_91 Tryz.runUnderlying25 (Ht rfl)) (pS (R:=fun a=>a = (Ieee.single.nearest false (pb + g * g * T) 0)) (fun a h=>by obtain ⟨_,rfl,h⟩:=h; exact Oe zo zo h))) (ro rfl (lW U_87 Z_25 (Ht rfl) (Ht rfl) rfl hi3 rfl) ?_))))))
   refine nA Z_25 (Ht rfl) (Ht rfl) (i:=1) rfl (show 0 + i * 1 < 2 by omega) rfl (eX (cD (cY (ro rfl (dV (Ht rfl) (cJ 1) z6) (rm rfl (eX (dB [0,1] rfl (by decide) (gQ (i + 1) hi3 zo (zS rfl) (aU (aH rfl) (aU (aH (a0X hi3 hval.symm)) aY))))))))))
  ·obtain rfl : i = 2 := by simp only [decide_eq_false_iff_not] at hc; omega
   rw [pz0,pz1]
   refine gG rfl (cK (Y.D_start (m:=14) [] (bY (Ei:=[(10,_)]) rfl rfl (bQ (bJ rfl rfl) bX) rfl rfl (dX rfl (cX (Ht rfl))) (bY (Ei:=[(112,_)]) rfl rfl (bQ (bZ 0 rfl rfl) bX) rfl rfl (dX rfl (cZ K_36 (gY (n:=((hi:Nat):Int)) zo zo) ⟨(Ht rfl),trivial⟩)) (bY (Ei:=[(9,_)]) rfl rfl (bQ (bJ rfl rfl) bX) rfl rfl (dX rfl (cX (Ht rfl))) (bY (Ei:=[(114,_)]) rfl rfl (bQ (bZ 2 rfl rfl) bX) rfl rfl (dX rfl (cZ K_36 (gY (n:=((lo:Nat):Int)) zo zo) ⟨(Ht rfl),trivial⟩)) ?_))))))
   refine bY (Ei:=[(15,_)]) rfl rfl (bQ (bJ rfl rfl) bX) rfl rfl (dX rfl (lW U_87 Z_25 (Ht rfl) (cJ 0) rfl (by decide) rfl)) (bY (Ei:=[(116,_)]) rfl rfl (bQ (bZ 4 rfl rfl) bX) rfl rfl (dX rfl (eY Tryz.isAgg25 Z_25 (Ht rfl) (i:=1) rfl rfl)) (bY (Ei:=[(15,_)]) rfl rfl (bQ (bJ rfl rfl) bX) rfl rfl (dX rfl (lW U_87 Z_25 (Ht rfl) (cJ 1) rfl (by decide) rfl)) (bY (Ei:=[(118,_)]) rfl rfl (bQ (bZ 6 rfl rfl) bX) rfl rfl (dX rfl (eY Tryz.isAgg25 Z_25 (Ht rfl) (i:=1) rfl rfl)) ?_)))
   refine bY (Ei:=[(113,_),(115,_),(117,_),(119,_)]) rfl rfl (bQ (bZ 1 rfl rfl) (bQ (bZ 3 rfl rfl) (bQ (bZ 5 rfl rfl) (bQ (bZ 7 rfl rfl) bX)))) rfl rfl (dX rfl (cZ Tryz.call13 (eQ (xQ (hot:=Qi.ofInt (hi:Int)) (cold:=Qi.ofInt (lo:Int)) (p:=(Ieee.single.nearest false (pb + g * g * hi) 0)) (q:=(Ieee.single.nearest false (pb + g * g * lo) 0)) (L:=1) (qJ zo) (qJ zo) (by decide) (by decide)) (sT (Us:=[aF Xq,aD .i64 0]) (by rw [hrc]))) ⟨(Ht rfl),(Ht rfl),(Ht rfl),(Ht rfl),trivial⟩)) ?_
   refine bY (Ei:=[(120,_)]) rfl rfl (bQ (bZ 8 rfl rfl) bX) rfl rfl (dX rfl (cX (Ht rfl))) (bY (Ei:=[(111,_)]) rfl rfl (bQ (bZ 9 rfl rfl) bX) rfl rfl (dX rfl (dK (Ht rfl) rfl)) (bY (Ei:=[(111,_)]) rfl rfl (bQ (bZ 9 rfl rfl) bX) rfl rfl (dX rfl (dK (Ht rfl) rfl)) (Y.D_newp (Ei:=[]) (fun bb=>box bb 32 [aC (decide (Xq.a < 0)),aI Xq.a.natAbs,aC (decide (Xq.b < 0)),aI Xq.b.natAbs,aI (du Xq)]) 13 rfl rfl rfl bX rfl rfl (by kernel_rfl) (eW (Ts:=[Is (.bool false),Is (.slice none 0 0),Is (.bool false),Is (.slice none 0 0),Is (.slice none 0 0)]) O_32 rfl (fun V=>aW zd (aW zd (aW zd (aW zd (aW zd (aG))))))) ?_)))
   refine Y.D_putN (Ei:=[(121,_)]) 12 rfl rfl rfl rfl rfl rfl (bQ (bZ 10 rfl rfl) bX) (fun bb=>rM Z_32 (Ht rfl) (Ht rfl) rfl (i:=0) rfl (aK rfl) rfl rfl) (Y.D_done bC rfl (by kernel_rfl) rfl (by simp [Y.okP]) rfl rfl (bU (bU (bU (bU (bU (bU (bU (bU (bU (bU (bU (bU (Y.F_newp (fun B22=>Y.F_putN (Y.F_nil ?_))))))))))))))))
   refine ra rfl (eX (cK (Y.D_start (m:=8) [] (bY (Ei:=[(22,_)]) rfl rfl (bQ (bJ rfl rfl) bX) rfl rfl (dX rfl (eJ A_32 Z_32 (Ht rfl) (i:=2) rfl rfl rfl)) (bY (Ei:=[]) rfl rfl bX rfl rfl (dX rfl (cZ K_36 (gY (n:=290) (by decide) (by decide)) ⟨(cJ 290),trivial⟩)) (bY (Ei:=[(124,_),(125,_)]) rfl rfl (bQ (bZ 0 rfl rfl) (bQ (bZ 1 rfl rfl) bX)) rfl rfl (dX rfl (cZ Tryz.call18 (eQ (Er (t:=Xq) (t0:=Qi.ofInt 290) (L:=1 + 3 * 1 + 2) fX (f290.le (by decide)) (by decide) (by decide)) (sT (Us:=[aF Yq,aD .i64 0]) (by rw [hfq]))) ⟨(Ht rfl),(Ht rfl),trivial⟩)) ?_))))))
   refine bY (Ei:=[(126,_)]) rfl rfl (bQ (bZ 2 rfl rfl) bX) rfl rfl (dX rfl (cX (Ht rfl))) (bY (Ei:=[(123,_)]) rfl rfl (bQ (bZ 3 rfl rfl) bX) rfl rfl (dX rfl (dK (Ht rfl) rfl)) (bY (Ei:=[(123,_)]) rfl rfl (bQ (bZ 3 rfl rfl) bX) rfl rfl (dX rfl (dK (Ht rfl) rfl)) (Y.D_newp (Ei:=[]) (fun bb=>box bb 32 [aC (decide (Yq.a < 0)),aI Yq.a.natAbs,aC (decide (Yq.b < 0)),aI Yq.b.natAbs,aI (du Yq)]) 7 rfl rfl rfl bX rfl rfl (by kernel_rfl) (eW (Ts:=[Is (.bool false),Is (.slice none 0 0),Is (.bool false),Is (.slice none 0 0),Is (.slice none 0 0)]) O_32 rfl (fun V=>aW zd (aW zd (aW zd (aW zd (aW zd (aG))))))) ?_)))
   refine Y.D_putN (Ei:=[(127,_)]) 6 rfl rfl rfl rfl rfl rfl (bQ (bZ 4 rfl rfl) bX) (fun bb=>rM Z_32 (Ht rfl) (Ht rfl) rfl (i:=0) rfl (aK rfl) rfl rfl) (Y.D_done bC rfl (by kernel_rfl) rfl (by simp [Y.okP]) rfl rfl (bU (bU (bU (bU (bU (bU (Y.F_newp (fun B23=>Y.F_putN (Y.F_nil ?_))))))))))
   refine ra rfl (eX (cK (Y.D_start (m:=9) [] (bY (Ei:=[(13,_)]) rfl rfl (bQ (bJ rfl rfl) bX) rfl rfl (dX rfl (eJ A_84 Z_84 (Ht rfl) (i:=0) rfl rfl rfl)) (bY (Ei:=[]) rfl rfl bX rfl rfl (dX rfl (cZ K_36 (gY (n:=0) (by decide) (by decide)) ⟨(cJ 0),trivial⟩)) (bY (Ei:=[]) rfl rfl bX rfl rfl (dX rfl (cZ K_36 (gY (n:=290) (by decide) (by decide)) ⟨(cJ 290),trivial⟩)) (bY (Ei:=[(130,_),(131,_),(132,_)]) rfl rfl (bQ (bZ 0 rfl rfl) (bQ (bZ 1 rfl rfl) (bQ (bZ 2 rfl rfl) bX))) rfl rfl (dX rfl (cZ Tryz.call44 (eQ (Bw (z:=lU 2) (s:=(lT 2 (pW r0 r1 r2 g hgb))) (c:=qK pb) (g:=Qi.ofInt 0) (t0:=Qi.ofInt 290) (L:=2) hfz hfs hfc hf0 (f290.le (by decide)) (by decide) (by decide) hsh hch (by rw [hzl]; decide)) (sT (Us:=[aF Yq,aD .i64 0]) (by rw [hfc2]))) ⟨(Ht rfl),(Ht rfl),(Ht rfl),trivial⟩)) ?_)))))))
   refine bY (Ei:=[(133,_)]) rfl rfl (bQ (bZ 3 rfl rfl) bX) rfl rfl (dX rfl (cX (Ht rfl))) (bY (Ei:=[(129,_)]) rfl rfl (bQ (bZ 4 rfl rfl) bX) rfl rfl (dX rfl (dK (Ht rfl) rfl)) (bY (Ei:=[(129,_)]) rfl rfl (bQ (bZ 4 rfl rfl) bX) rfl rfl (dX rfl (dK (Ht rfl) rfl)) (Y.D_newp (Ei:=[]) (fun bb=>box bb 32 [aC (decide (Yq.a < 0)),aI Yq.a.natAbs,aC (decide (Yq.b < 0)),aI Yq.b.natAbs,aI (du Yq)]) 8 rfl rfl rfl bX rfl rfl (by kernel_rfl) (eW (Ts:=[Is (.bool false),Is (.slice none 0 0),Is (.bool false),Is (.slice none 0 0),Is (.slice none 0 0)]) O_32 rfl (fun V=>aW zd (aW zd (aW zd (aW zd (aW zd (aG))))))) ?_)))
   refine Y.D_putN (Ei:=[(134,_)]) 7 rfl rfl rfl rfl rfl rfl (bQ (bZ 5 rfl rfl) bX) (fun bb=>rM Z_32 (Ht rfl) (Ht rfl) rfl (i:=0) rfl (aK rfl) rfl rfl) (Y.D_done bC rfl (by kernel_rfl) rfl (by simp [Y.okP]) rfl rfl (bU (bU (bU (bU (bU (bU (bU (Y.F_newp (fun B25=>Y.F_putN (Y.F_nil ?_)))))))))))
   refine ra rfl (eX (cK (fJ (m:=17) (dp 14 rfl (cX (Ht rfl)) (dp 24 rfl (cX (Ht rfl)) (dp 26 rfl (cX (Ht rfl)) (C.D_step (Ei:=[(136,_),(137,_),(138,_)]) rfl rfl (bV (bG 0 rfl rfl) (bV (bG 1 rfl rfl) (bV (bG 2 rfl rfl) bW))) (dX rfl (Jc (Ht rfl) (Ht rfl) (Ht rfl))) (dq 139 3 rfl (kX (Ht rfl) cV) (dq 140 4 rfl (cX (Ht rfl)) (C.D_step (Ei:=[(23,_),(141,_)]) rfl rfl (bV (bK rfl rfl) (bV (bG 5 rfl rfl) bW)) (eK rfl rfl (Ht rfl) (fun h=>eJ A_32 Z_32 (Ht rfl) (i:=3) rfl rfl rfl)) ?_))))))))))
   refine C.D_step (Ei:=[(25,_),(141,_)]) rfl rfl (bV (bK rfl rfl) (bV (bG 5 rfl rfl) bW)) (eK rfl rfl (Ht rfl) (fun h=>eJ A_32 Z_32 (Ht rfl) (i:=4) rfl rfl rfl)) (C.D_step (Ei:=[(142,_),(143,_),(141,_)]) rfl rfl (bV (bG 6 rfl rfl) (bV (bG 7 rfl rfl) (bV (bG 5 rfl rfl) bW))) (eK rfl rfl (Ht rfl) (fun h=>cZ Tryz.call45 (Ni (x:=Yq) (y:=Yq) (hx:=fY) (hy:=fY) (by decide) (by decide)) ⟨(fV rfl h),(fV rfl h),trivial⟩)) (eA 141 5 144 8 rfl (fT (Ht rfl) (fun h=>(fV rfl h))) ?_))
   refine dq 145 9 rfl (cX (Ht rfl)) (C.D_step (Ei:=[(22,_),(146,_)]) rfl rfl (bV (bK rfl rfl) (bV (bG 10 rfl rfl) bW)) (eK rfl rfl (Ht rfl) (fun h=>eJ A_32 Z_32 (Ht rfl) (i:=2) rfl rfl rfl)) (C.D_step (Ei:=[(8,_),(146,_)]) rfl rfl (bV (bK rfl rfl) (bV (bG 10 rfl rfl) bW)) (eK rfl rfl (Ht rfl) (fun h=>cX (Ht rfl))) (C.D_step (Ei:=[(7,_),(146,_)]) rfl rfl (bV (bK rfl rfl) (bV (bG 10 rfl rfl) bW)) (eK rfl rfl (Ht rfl) (fun h=>cX (Ht rfl))) ?_)))
   refine C.D_step (Ei:=[(7,_),(146,_)]) rfl rfl (bV (bK rfl rfl) (bV (bG 10 rfl rfl) bW)) (eK rfl rfl (Ht rfl) (fun h=>cX (Ht rfl))) (C.D_step (Ei:=[(149,_),(150,_),(146,_)]) rfl rfl (bV (bG 13 rfl rfl) (bV (bG 14 rfl rfl) (bV (bG 10 rfl rfl) bW))) (eK rfl rfl (Ht rfl) (fun h=>jI (fV rfl h) (fV rfl h) (by show _ < 9223372036854775808; first | omega | (simp at h; omega)))) (C.D_step (Ei:=[(148,_),(151,_),(146,_)]) rfl rfl (bV (bG 12 rfl rfl) (bV (bG 15 rfl rfl) (bV (bG 10 rfl rfl) bW))) (eK rfl rfl (Ht rfl) (fun h=>cZ Tryz.call46 (eQ (a04 (r:=rFr pb (g * g) zo zo) rfl) (fM ((a1X zo zo hgg0).trans hX.symm))) ⟨(fV rfl h),(fV rfl h),trivial⟩)) ?_))
   refine fW bC rfl (by kernel_rfl) (zF (zF (zF (zF (aJ (aV (fQ rfl rfl (eK rfl rfl (Ht rfl) (fun h=>cZ Tryz.call45 (Ni (x:=Xq) (y:=Xq) (hx:=fX) (hy:=fX) (by decide) (by decide)) ⟨(fV rfl h),(fV rfl h),trivial⟩)) (ro rfl (fT (Ht rfl) (fun h=>(fV rfl h))) (rm rfl (fQ rfl rfl (eK rfl rfl (Ht rfl) (fun h=>cZ Tryz.call38 Bx trivial)) (ro rfl (fT (Ht rfl) (fun h=>(fV rfl h))) ?_)))))))))))
   refine ra rfl (eX (fG rfl (fZ (eU rfl) ?_)))
   exact (gD (by simp))
end
section
open Go Go.ChangeShapes Go.WideShapes Go.ChangeAt Go.RowKit Go.Deep
section
variable {H:Type} {enc:TypeId × Value → H} {W:World} {base:Nat} {sp:Nat → Bool} {held:Bool}
theorem qZ {P:Program} {w:World} {r:Reach} {base:Nat} {t:TypeId} {v:Value} {n:Nat} {e:TypeId} (ht:P.underlying t = some (.array n e)) (h:Value.okWide P w r base t v):∃ cs,v = .agg cs ∧ cs.size = P.cellsOf t:=by
 simp only [Value.okWide,ht] at h
 obtain ⟨cs,h1,h2,_⟩:=h
 exact ⟨cs,h1,h2⟩
theorem Sj {i : Int} (w : 0 ≤ i ∧ i < 256) : ∀ V, (NT .u8 i.toNat).p (.int .u8 i) V := fun V => by
 have e:((i.toNat:Nat):Int) = i:=by omega
 rw [show NT .u8 i.toNat = aD .u8 i from congrArg (aD .u8) e]; rfl
theorem Si {i : Int} (w : 0 ≤ i ∧ i < 65536) : ∀ V, (NT .u16 i.toNat).p (.int .u16 i) V := fun V => by
 have e:((i.toNat:Nat):Int) = i:=by omega
 rw [show NT .u16 i.toNat = aD .u16 i from congrArg (aD .u16) e]; rfl
theorem Ma {b0 : Nat} {v : Value} {d : DataW H} {p : List MemPlace} (ho : Value.okWide Tryz.prog W .any b0 73 v) (h : DataW.Trod enc Tryz.prog W base sp held 73 v d p) :
  ∃ a b:Nat,(dL [NT .u8 a,NT .u8 b]).p v (hv W) ∧ a < 256 ∧ b < 256:=by
 obtain ⟨cs,rfl,_⟩:=qZ Tryz.underlying73 ho
 obtain ⟨n,hn⟩:=h
 obtain ⟨xs,m,_,_,hl,hx,he⟩:=DataW.trod_array Tryz.underlying73 hn
 have hc:Tryz.prog.cellsOf 73 = 2:=by kernel_rfl
 have hi:Tryz.prog.cellsOf 5 = 1:=by kernel_rfl
 rw [hc] at hl
 obtain ⟨cl,hcl⟩:∃ cl,cl = cs.toList:=⟨_,rfl⟩
 have e9:(Value.agg cs).cells.toList = cl:=hcl.symm
 rw [e9] at hl he
 match cl,hl with
 | [c0, c1], _ =>
  match xs,hx with
  | [y0, y1], _ =>
   have e0:=he 0 zo
   have e1:=he 1 zo
   rw [hi] at e0 e1
   obtain ⟨i0,q0,_,w0⟩:=DataW.trod_int Tryz.underlying5 (show DataW.trod enc Tryz.prog W base sp held m 5 [c0] = some y0 from e0)
   obtain ⟨i1,q1,_,w1⟩:=DataW.trod_int Tryz.underlying5 (show DataW.trod enc Tryz.prog W base sp held m 5 [c1] = some y1 from e1)
   simp only [List.cons.injEq,and_true] at q0 q1
   subst q0 q1
   have b0:=Zc w0
   have b1:=Zc w1
   exact ⟨i0.toNat,i1.toNat,⟨cs.toList,rfl,by rw [← hcl]; exact aW ⟨Sj ⟨by omega,by omega⟩ _,trivial⟩ (aW ⟨Sj ⟨by omega,by omega⟩ _,trivial⟩ aG)⟩,by omega,by omega⟩
theorem Mb {b0 : Nat} {v : Value} {d : DataW H} {p : List MemPlace} (ho : Value.okWide Tryz.prog W .any b0 75 v) (h : DataW.Trod enc Tryz.prog W base sp held 75 v d p) :
  ∃ a b:Nat,(dL [NT .u16 a,NT .u16 b]).p v (hv W) ∧ a < 65536 ∧ b < 65536:=by
 obtain ⟨cs,rfl,_⟩:=qZ Tryz.underlying75 ho
 obtain ⟨n,hn⟩:=h
 obtain ⟨xs,m,_,_,hl,hx,he⟩:=DataW.trod_array Tryz.underlying75 hn
 have hc:Tryz.prog.cellsOf 75 = 2:=by kernel_rfl
 have hi:Tryz.prog.cellsOf 74 = 1:=by kernel_rfl
 rw [hc] at hl
 obtain ⟨cl,hcl⟩:∃ cl,cl = cs.toList:=⟨_,rfl⟩
 have e9:(Value.agg cs).cells.toList = cl:=hcl.symm
 rw [e9] at hl he
 match cl,hl with
 | [c0, c1], _ =>
  match xs,hx with
  | [y0, y1], _ =>
   have e0:=he 0 zo
   have e1:=he 1 zo
   rw [hi] at e0 e1
   obtain ⟨i0,q0,_,w0⟩:=DataW.trod_int Tryz.underlying74 (show DataW.trod enc Tryz.prog W base sp held m 74 [c0] = some y0 from e0)
   obtain ⟨i1,q1,_,w1⟩:=DataW.trod_int Tryz.underlying74 (show DataW.trod enc Tryz.prog W base sp held m 74 [c1] = some y1 from e1)
   simp only [List.cons.injEq,and_true] at q0 q1
   subst q0 q1
   have b0:=So w0
   have b1:=So w1
   exact ⟨i0.toNat,i1.toNat,⟨cs.toList,rfl,by rw [← hcl]; exact aW ⟨Si ⟨by omega,by omega⟩ _,trivial⟩ (aW ⟨Si ⟨by omega,by omega⟩ _,trivial⟩ aG)⟩,by omega,by omega⟩
theorem Mc {b0 : Nat} {v : Value} {d : DataW H} {p : List MemPlace} (ho : Value.okWide Tryz.prog W .any b0 72 v) (h : DataW.Trod enc Tryz.prog W base sp held 72 v d p) :
  ∃ a b q:Rt,(dL [aD .i64 a.re,aD .i64 a.im,aD .i64 a.den,aD .i64 b.re,aD .i64 b.im,aD .i64 b.den,aD .i64 q.re,aD .i64 q.im,aD .i64 q.den]).p v (hv W):=by
 obtain ⟨cs,rfl,_⟩:=qZ Tryz.underlying72 ho
 obtain ⟨n,hn⟩:=h
 obtain ⟨xs,m,_,_,hl,hx,he⟩:=DataW.trod_array Tryz.underlying72 hn
 have hc:Tryz.prog.cellsOf 72 = 9:=by kernel_rfl
 have hi:Tryz.prog.cellsOf 23 = 3:=by kernel_rfl
 rw [hc] at hl
 obtain ⟨cl,hcl⟩:∃ cl,cl = cs.toList:=⟨_,rfl⟩
 have e9:(Value.agg cs).cells.toList = cl:=hcl.symm
 rw [e9] at hl he
 match cl,hl with
 | [c0, c1, c2, c3, c4, c5, c6, c7, c8], _ =>
  match xs,hx with
  | [y0, y1, y2], _ =>
   have e0:=he 0 zo
   have e1:=he 1 zo
   have e2:=he 2 zo
   rw [hi] at e0 e1 e2
   obtain ⟨a,qa⟩:=Aw s27 Tryz.underlying2 (show DataW.trod enc Tryz.prog W base sp held m 23 [c0,c1,c2] = some y0 from e0)
   obtain ⟨b,qb⟩:=Aw s27 Tryz.underlying2 (show DataW.trod enc Tryz.prog W base sp held m 23 [c3,c4,c5] = some y1 from e1)
   obtain ⟨q,qq⟩:=Aw s27 Tryz.underlying2 (show DataW.trod enc Tryz.prog W base sp held m 23 [c6,c7,c8] = some y2 from e2)
   simp only [List.cons.injEq,and_true] at qa qb qq
   obtain ⟨rfl,rfl,rfl⟩:=qa
   obtain ⟨rfl,rfl,rfl⟩:=qb
   obtain ⟨rfl,rfl,rfl⟩:=qq
   exact ⟨a,b,q,cs.toList,rfl,by rw [← hcl]; exact aW zd (aW zd (aW zd (aW zd (aW zd (aW zd (aW zd (aW zd (aW zd aG))))))))⟩
end
end
end Go.Proofs.YthcmlodgnfekeaaGreat
