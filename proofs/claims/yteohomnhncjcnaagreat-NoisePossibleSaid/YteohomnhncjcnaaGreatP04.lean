/- What functions of the program compute, proved by walks over their code, and the plain mathematics of it; a part of the proof in the last text. -/
import Derived.Test.YteohomnhncjcnaaGreatP03
set_option linter.unusedVariables false
set_option linter.unusedSimpArgs false
set_option maxRecDepth 100000
set_option maxHeartbeats 4000000
namespace Go.Proofs.YteohomnhncjcnaaGreat
section
open Go Go.RowKit
theorem Zk {z:List Qi} {s:List (List Qi)} {i:Int} (hl:z.length ≤ 1000):aS Tryz.prog 23 [nZ z s,bC .i64 i] (gE [aP (Um z i),bC .i64 (if 1 ≤ i ∧ i ≤ z.length then 0 else 1)]):=by
 refine aS.intro Tryz.func23 rfl Tryz.ntmps23 rfl (fun cx=>(ts (rn rfl (fU (Ht rfl)) fun B2=>(rn rfl (eK (Ts:=[Is (.bool false),Is (.slice none 0 0),Is (.bool false),Is (.slice none 0 0),Is (.slice none 0 0)]) O_51 rfl (fun V=>aW zd (aW zd (aW zd (aW zd (aW zd (aG))))))) fun B4=>(ro rfl (cQ (cJ 0)) (eJ (cK (ts (ro rfl (eG A_32 Z_32 (Ht rfl) (i:=0) rfl rfl rfl) (rm rfl (ro rfl (cZ Tryz.call106 Qa ⟨(Ht rfl),(Ht rfl),trivial⟩) ?_)))))))))))
 refine ro rfl (dR (Ht rfl)) (eJ (dQ (Ht rfl) (fun hb=>?_) (fun hb=>?_)))
 ·have hn : ¬ (1 ≤ i ∧ i ≤ (z.length : Int)) := by simpa only [Bool.not_eq_true', decide_eq_false_iff_not] using hb
  refine ts (ro rfl (aI.imp (nM ) iQ) (gZ Z_51 (Ht rfl) (Ht rfl) rfl (i:=1) rfl (aK rfl) rfl rfl (ro rfl (cQ (cJ 1)) (eJ (bN rfl (fJ (fY A_51 Z_51 rfl (i:=1) rfl rfl) ?_) (fJ (fQ rfl) ?_))))))
  ·exact (kU (by rw [Um,if_neg hn]))
  ·exact (bB (by rw [if_neg hn]; rfl))
 ·have hp : 1 ≤ i ∧ i ≤ (z.length : Int) := by simpa only [Bool.not_eq_false', decide_eq_true_eq] using hb
  have hq:(i - 1).toNat < z.length:=by omega
  refine cU (ts (ro rfl (eW Bw (Ht rfl) rfl) (ro rfl (fX A_29 Z_29 (Ht rfl) (i:=0) rfl rfl) (rm rfl (ro rfl (iD (Ht rfl) cV (zL zo)) (ro rfl (dZ U_29 Z_51 (Ht rfl) (Ht rfl) (by omega:i - 1 = (((i - 1).toNat:Nat):Int)) (eX (eQ (d:=Qi.zero) hq))) (ro rfl (dJ A_51 Z_51 (Ht rfl)) (gZ Z_51 (Ht rfl) (Ht rfl) rfl (i:=1) rfl (aK rfl) rfl rfl (ro rfl (cQ (cJ 0)) (eJ (bN rfl (fJ (fY A_51 Z_51 rfl (i:=1) rfl rfl) ?_) (fJ (fQ rfl) ?_))))))))))))
  ·exact (kU (by rw [Um,if_pos hp]))
  ·exact (bB (by rw [if_pos hp]; rfl))
theorem a1O {z:List Qi} {s:List (List Qi)} {i j:Int} (hs:eD s z.length z.length) (hl:z.length ≤ 1000):aS Tryz.prog 25 [nZ z s,bC .i64 i,bC .i64 j] (gE [aP (Nu z.length s i j),bC .i64 (if (1 ≤ i ∧ i ≤ z.length) ∧ 1 ≤ j ∧ j ≤ z.length then 0 else 1)]):=by
 have hs1:=hs.1
 refine aS.intro Tryz.func25 rfl Tryz.ntmps25 rfl (fun cx=>(ts (rn rfl (fU (Ht rfl)) fun B3=>(rn rfl (eK (Ts:=[Is (.bool false),Is (.slice none 0 0),Is (.bool false),Is (.slice none 0 0),Is (.slice none 0 0)]) O_51 rfl (fun V=>aW zd (aW zd (aW zd (aW zd (aW zd (aG))))))) fun B6=>(ro rfl (cQ (cJ 0)) (eJ (cK (ts (ro rfl (eG A_32 Z_32 (Ht rfl) (i:=0) rfl rfl rfl) (rm rfl (ro rfl (cZ Tryz.call106 Qa ⟨(Ht rfl),(Ht rfl),trivial⟩) ?_)))))))))))
 refine ro rfl (dR (Ht rfl)) (rm rfl (fZ rfl rfl (eY rfl rfl (Ht rfl) (fun h=>eG A_32 Z_32 (Ht rfl) (i:=0) rfl rfl rfl)) (fZ rfl rfl (eY rfl rfl (Ht rfl) (fun h=>cX (Ht rfl))) (fZ rfl rfl (eY rfl rfl (Ht rfl) (fun h=>cZ Tryz.call106 Qa ⟨(fW rfl h),(fW rfl h),trivial⟩)) (fZ rfl rfl (eY rfl rfl (Ht rfl) (fun h=>dR (fW rfl h))) (ro rfl (iW (Ht rfl) (fun h=>(fW rfl h))) (eJ (dQ (Ht rfl) (fun hb=>?_) (fun hb=>?_)))))))))
 ·have hn : ¬ ((1 ≤ i ∧ i ≤ (z.length : Int)) ∧ 1 ≤ j ∧ j ≤ (z.length : Int)) := by simp only [Bool.or_eq_true, Bool.not_eq_true', decide_eq_false_iff_not] at hb; exact fun k => hb.elim (fun h => h k.1) (fun h => h k.2)
  refine ts (rn rfl (eK (Ts:=[Is (.bool false),Is (.slice none 0 0),Is (.bool false),Is (.slice none 0 0),Is (.slice none 0 0)]) O_51 rfl (fun V=>aW zd (aW zd (aW zd (aW zd (aW zd (aG))))))) fun B8=>(eJ (ts (ro rfl (eG A_51 Z_51 (Ht rfl) (i:=2) rfl rfl rfl) (gZ Z_51 (Ht rfl) (Ht rfl) rfl (i:=1) rfl (aK rfl) rfl rfl (ro rfl (cQ (cJ 1)) (eJ (bN rfl (fJ (fY A_51 Z_51 rfl (i:=1) rfl rfl) ?_) (fJ (fQ rfl) ?_)))))))))
  ·exact (fun v V k=>by rw [Nu,if_neg hn]; exact iQ v V k)
  ·exact (bB (by rw [if_neg hn]; rfl))
 ·have hp : (1 ≤ i ∧ i ≤ (z.length : Int)) ∧ 1 ≤ j ∧ j ≤ (z.length : Int) := by simpa only [Bool.or_eq_false_iff, Bool.not_eq_false', decide_eq_true_eq] using hb
  have hq:(i - 1).toNat < s.length:=by omega
  have hq2:(j - 1).toNat < (s.getD (i - 1).toNat []).length:=by rw [hs.row zo]; omega
  refine cU (ts (ro rfl (eW Wh (Ht rfl) rfl) (ro rfl (fX A_30 Z_30 (Ht rfl) (i:=0) rfl rfl) (rm rfl (ro rfl (iD (Ht rfl) cV (zL zo)) (ro rfl (dZ U_30 Z_29 (Ht rfl) (Ht rfl) (by omega:i - 1 = (((i - 1).toNat:Nat):Int)) (eX (eQ (d:=[]) hq))) (ro rfl (dJ A_29 Z_29 (Ht rfl)) (rm rfl (ro rfl (iD (Ht rfl) cV (zL zo)) (ro rfl (dZ U_29 Z_51 (Ht rfl) (Ht rfl) (by omega:j - 1 = (((j - 1).toNat:Nat):Int)) (eX (eQ (d:=Qi.zero) hq2))) ?_))))))))))
  refine ro rfl (dJ A_51 Z_51 (Ht rfl)) (gZ Z_51 (Ht rfl) (Ht rfl) rfl (i:=1) rfl (aK rfl) rfl rfl (ro rfl (cQ (cJ 0)) (eJ (bN rfl (fJ (fY A_51 Z_51 rfl (i:=1) rfl rfl) ?_) (fJ (fQ rfl) ?_)))))
  ·exact (kU (by rw [Nu,if_pos hp]))
  ·exact (bB (by rw [if_pos hp]; rfl))
theorem Qc {z:List Qi} {s c:List (List Qi)}:aS Tryz.prog 51 [iS z s c] (nZ z s):=by
 refine aS.intro Tryz.func51 rfl Tryz.ntmps51 rfl (fun cx=>(ts (rn rfl (fU (Ht rfl)) fun B1=>(rn rfl (eK (Ts:=[Is (.slice none 0 0),Is (.slice none 0 0)]) O_32 rfl (fun V=>aW zd (aW zd (aG)))) fun B2=>(eJ (ts (ro rfl (eW wI (Ht rfl) rfl) (ro rfl (eG A_32 Z_32 (Ht rfl) (i:=0) rfl rfl rfl) (gZ Z_32 (Ht rfl) (Ht rfl) rfl (i:=1) rfl (aK rfl) rfl rfl (eJ ?_))))))))))
 exact fK rfl (fY A_32 Z_32 rfl (i:=1) rfl rfl)
theorem Kd {z:List Qi} {s c:List (List Qi)} {i j:Int} (hs:eD c c.length c.length) (hl:c.length ≤ 1000):aS Tryz.prog 87 [iS z s c,bC .i64 i,bC .i64 j] (gE [aP (Nu c.length c i j),bC .i64 (if (1 ≤ i ∧ i ≤ c.length) ∧ 1 ≤ j ∧ j ≤ c.length then 0 else 1)]):=by
 refine aS.intro Tryz.func87 rfl Tryz.ntmps87 rfl (fun cx=>(ts (rn rfl (fU (Ht rfl)) fun B3=>(rn rfl (eK (Ts:=[Is (.bool false),Is (.slice none 0 0),Is (.bool false),Is (.slice none 0 0),Is (.slice none 0 0)]) O_51 rfl (fun V=>aW zd (aW zd (aW zd (aW zd (aW zd (aG))))))) fun B6=>(ro rfl (cQ (cJ 0)) (eJ (cK (ts (rm rfl (ro rfl (mK (Ht rfl) cV) (rm rfl (fZ rfl rfl (eY rfl rfl (Ht rfl) (fun h=>cX (Ht rfl))) ?_))))))))))))
 refine fZ rfl rfl (eY rfl rfl (Ht rfl) (fun h=>eW lD (Ht rfl) rfl)) (fZ rfl rfl (eY rfl rfl (Ht rfl) (fun h=>fX A_30 Z_30 (fW rfl h) (i:=0) rfl rfl)) (fZ rfl rfl (eY rfl rfl (Ht rfl) (fun h=>dU U_30 (fW rfl h) aA)) (fZ rfl rfl (eY rfl rfl (Ht rfl) (fun h=>yJ (fW rfl h) (fW rfl h))) (ro rfl (iW (Ht rfl) (fun h=>(fW rfl h))) (rm rfl (fZ rfl rfl (eY rfl rfl (Ht rfl) (fun h=>cX (Ht rfl))) (fZ rfl rfl (eY rfl rfl (Ht rfl) (fun h=>mK (fW rfl h) cV)) ?_)))))))
 refine ro rfl (iW (Ht rfl) (fun h=>(fW rfl h))) (rm rfl (fZ rfl rfl (eY rfl rfl (Ht rfl) (fun h=>cX (Ht rfl))) (fZ rfl rfl (eY rfl rfl (Ht rfl) (fun h=>eW lD (Ht rfl) rfl)) (fZ rfl rfl (eY rfl rfl (Ht rfl) (fun h=>fX A_30 Z_30 (fW rfl h) (i:=0) rfl rfl)) (fZ rfl rfl (eY rfl rfl (Ht rfl) (fun h=>dU U_30 (fW rfl h) aA)) (fZ rfl rfl (eY rfl rfl (Ht rfl) (fun h=>yJ (fW rfl h) (fW rfl h))) (ro rfl (iW (Ht rfl) (fun h=>(fW rfl h))) (eJ (dQ (Ht rfl) (fun hb=>?_) (fun hb=>?_))))))))))
 ·have hn : ¬ ((1 ≤ i ∧ i ≤ (c.length : Int)) ∧ 1 ≤ j ∧ j ≤ (c.length : Int)) := by simp only [Bool.or_eq_true, decide_eq_true_eq] at hb; omega
  refine ts (rn rfl (eK (Ts:=[Is (.bool false),Is (.slice none 0 0),Is (.bool false),Is (.slice none 0 0),Is (.slice none 0 0)]) O_51 rfl (fun V=>aW zd (aW zd (aW zd (aW zd (aW zd (aG))))))) fun B8=>(eJ (ts (ro rfl (eG A_51 Z_51 (Ht rfl) (i:=2) rfl rfl rfl) (gZ Z_51 (Ht rfl) (Ht rfl) rfl (i:=1) rfl (aK rfl) rfl rfl (ro rfl (cQ (cJ 1)) (eJ (bN rfl (fJ (fY A_51 Z_51 rfl (i:=1) rfl rfl) ?_) (fJ (fQ rfl) ?_)))))))))
  ·exact (fun v V k=>by rw [Nu,if_neg hn]; exact iQ v V k)
  ·exact (bB (by rw [if_neg hn]; rfl))
 ·have hp : (1 ≤ i ∧ i ≤ (c.length : Int)) ∧ 1 ≤ j ∧ j ≤ (c.length : Int) := by simp only [Bool.or_eq_false_iff, decide_eq_false_iff_not] at hb; omega
  have hq:(i - 1).toNat < c.length:=by omega
  have hq2:(j - 1).toNat < (c.getD (i - 1).toNat []).length:=by rw [hs.row zo]; omega
  refine cU (ts (ro rfl (eW lD (Ht rfl) rfl) (ro rfl (fX A_30 Z_30 (Ht rfl) (i:=0) rfl rfl) (rm rfl (ro rfl (iD (Ht rfl) cV (zL zo)) (ro rfl (dZ U_30 Z_29 (Ht rfl) (Ht rfl) (by omega:i - 1 = (((i - 1).toNat:Nat):Int)) (eX (eQ (d:=[]) hq))) (ro rfl (dJ A_29 Z_29 (Ht rfl)) (rm rfl (ro rfl (iD (Ht rfl) cV (zL zo)) (ro rfl (dZ U_29 Z_51 (Ht rfl) (Ht rfl) (by omega:j - 1 = (((j - 1).toNat:Nat):Int)) (eX (eQ (d:=Qi.zero) hq2))) ?_))))))))))
  refine ro rfl (dJ A_51 Z_51 (Ht rfl)) (gZ Z_51 (Ht rfl) (Ht rfl) rfl (i:=1) rfl (aK rfl) rfl rfl (ro rfl (cQ (cJ 0)) (eJ (bN rfl (fJ (fY A_51 Z_51 rfl (i:=1) rfl rfl) ?_) (fJ (fQ rfl) ?_)))))
  ·exact (kU (by rw [Nu,if_pos hp]))
  ·exact (bB (by rw [if_pos hp]; rfl))
end
section
open Go Go.RowKit
theorem Bv (a:Addr) (w:World):(Instr.fieldAt 25 (.pointer (some a)) 0).run Tryz.prog w = .ok (.pointer (some (a.add 0))) w:=by
 simp [Instr.fieldAt,Instr.sureAddr,fieldPlace,Sem.run_bind,Result.andThen,U_25,Z_22]
theorem wG (a:Addr) (w:World):(Instr.fieldAt 25 (.pointer (some a)) 1).run Tryz.prog w = .ok (.pointer (some (a.add 1))) w:=by
 simp [Instr.fieldAt,Instr.sureAddr,fieldPlace,Sem.run_bind,Result.andThen,U_25,Z_23]
theorem wH (a:Addr) (w:World):(Instr.fieldAt 25 (.pointer (some a)) 2).run Tryz.prog w = .ok (.pointer (some (a.add 2))) w:=by
 simp [Instr.fieldAt,Instr.sureAddr,fieldPlace,Sem.run_bind,Result.andThen,U_25,Z_23]
theorem xZ:Tryz.prog.info? 131 = some Tryz.t131:=by kernel_rfl
theorem Ca:Tryz.prog.info? 35 = some Tryz.t35:=by kernel_rfl
theorem Uh:Tryz.prog.underlying 30 = some (.slice 29):=by kernel_rfl
theorem Jb:Tryz.prog.underlying 35 = some (.slice 131):=by kernel_rfl
theorem a13:Tryz.prog.underlying 36 = some (.slice 35):=by kernel_rfl
end
section
open Go Go.RowKit
theorem tV {m:List (List Rt)} (hm:m.length ≤ 1000) (hr:∀ r,r ∈ m → r.length ≤ 1000):aS Tryz.prog 86 [tQ m] (bS (rq m)):=by
 refine aS.intro Tryz.func86 rfl Tryz.ntmps86 rfl (fun cx=>(ts (ro rfl (cQ cV) (eJ (ts (rm rfl (ro rfl (dU U_23 (Ht rfl) aA) (rn rfl (rE (T:=cB []) (i:=Tryz.t29) Uh lX rfl rfl (Ht rfl) rfl Fj El.one (by show 24 * _ ≤ _; omega) zo) fun B8=>(ra rfl (eJ (cK (ts (rm rfl (ro rfl (dU U_23 (Ht rfl) aA) (ro rfl (cX (cJ 0)) (eJ (eU ?_)))))))))))))))))
 refine eH (fun (k : Nat) (out : List (List Qi)) => kI (fun i => (m.getD i default).map Rt.q) m.length out k) (fun (k : Nat) (out : List (List Qi)) => m.length - k) (fun (k : Nat) (out : List (List Qi)) => [(3, Is B8), (9, tQ m), (10, NT .i64 m.length), (11, NT .i64 k)]) (fun (k : Nat) (out : List (List Qi)) => [bO 29 1 B8 (out.map cB)]) 0 (List.replicate m.length []) (kI.start _ _ _)
  (zS rfl) (aU (bT (qJ cB _ _)) aY) (fun k out hS=>?_)
 refine ts (ro rfl (gJ (Ht rfl) (Ht rfl)) (eJ (cK (dQ (Ht rfl) (fun hk=>?_) (fun hk=>?_)))))
 ·simp only [decide_eq_true_eq] at hk
  have hlen:=hS.len
  have hrk : (m.getD k default).length ≤ 1000 := by
   have e:m.getD k default = m[k]:=by simp [List.getD,hk]
   rw [e]; exact hr _ (List.getElem_mem hk)
  refine cU (cK (eU (ts (rm rfl (ro rfl (dZ U_23 Z_22 (Ht rfl) (Ht rfl) rfl (eX (eQ (d:=default) hk))) (ro rfl (dJ A_22 Z_22 (Ht rfl)) (ra rfl (ra rfl (eJ (cY (rm rfl (rm rfl (rm rfl (ro rfl (cZ Tryz.call48 (tU zo) ⟨(Ht rfl),trivial⟩) (ro rfl (dM U_30 Z_29 (Ht rfl) (Ht rfl) rfl (i:=0) rfl (by first | omega | (simp; omega)) rfl) (mY Z_29 (Ht rfl) (Ht rfl) El.one (i:=0) rfl rfl (by first | omega | (simp; omega)) rfl (eJ (aR ?_))))))))))))))))))
  refine cY (ro rfl (dW (Ht rfl) (cJ 1) z6) (rm rfl (eJ (gQ (k + 1,_) (hS.next hk rfl) (by dsimp only; omega) (zS rfl) (aU (bT (jU cB _ _ _)) aY)))))
 ·simp only [decide_eq_false_iff_not] at hk
  obtain rfl:k = m.length:=Nat.le_antisymm hS.kle zo
  have hfin:=hS.fin
  rw [yR m (fun r=>r.map Rt.q)] at hfin
  refine gG rfl (gW (i:=0) (tt:=3) rfl rfl kN (ts (rm rfl (ra rfl (eJ (fK rfl (fJ (fQ rfl) ?_)))))))
  exact (oC (by rw [hfin]))
theorem a1n {z:List Rt} {s c:List (List Rt)}:aS Tryz.prog 15 [Ou z s c] (aC (uD z s c)):=by
 refine aS.intro Tryz.func15 rfl Tryz.ntmps15 rfl (fun cx=>(ts (rn rfl (fU (Ht rfl)) fun B1=>(ro rfl (cQ cV) (eJ (cK (ts (ro rfl (eW Bv (Ht rfl) rfl) (ro rfl (fX A_22 Z_22 (Ht rfl) (i:=0) rfl rfl) (ro rfl (dU U_22 (Ht rfl) aA) (ro rfl (dL (Ht rfl) (cJ 9)) (rm rfl (fZ rfl rfl (eY rfl rfl (Ht rfl) (fun h=>eW wG (Ht rfl) rfl)) (fZ rfl rfl (eY rfl rfl (Ht rfl) (fun h=>fX A_23 Z_23 (fW rfl h) (i:=0) rfl rfl)) (fZ rfl rfl (eY rfl rfl (Ht rfl) (fun h=>dU U_23 (fW rfl h) aA)) ?_)))))))))))))))
 refine fZ rfl rfl (eY rfl rfl (Ht rfl) (fun h=>dL (fW rfl h) (cJ 9))) (ro rfl (iW (Ht rfl) (fun h=>(fW rfl h))) (rm rfl (fZ rfl rfl (eY rfl rfl (Ht rfl) (fun h=>eW wH (Ht rfl) rfl)) (fZ rfl rfl (eY rfl rfl (Ht rfl) (fun h=>fX A_23 Z_23 (fW rfl h) (i:=0) rfl rfl)) (fZ rfl rfl (eY rfl rfl (Ht rfl) (fun h=>dU U_23 (fW rfl h) aA)) (fZ rfl rfl (eY rfl rfl (Ht rfl) (fun h=>dL (fW rfl h) (cJ 9))) (ro rfl (iW (Ht rfl) (fun h=>(fW rfl h))) (eJ ?_))))))))
 refine dQ (Ht rfl) (fun hb=>?_) (fun hb=>?_)
 ·refine ts (ro rfl (cQ cV) (eJ (fK rfl (fJ (fQ rfl) ?_))))
  exact (bI (Nk hb).symm)
 ·have hbl : z.length ≤ 9 ∧ s.length ≤ 9 ∧ c.length ≤ 9 := by have hb2 := hb; simp only [Bool.or_eq_false_iff, decide_eq_false_iff_not] at hb2; omega
  refine cU (cK (ts (ro rfl (eW wG (Ht rfl) rfl) (ro rfl (fX A_23 Z_23 (Ht rfl) (i:=0) rfl rfl) (ro rfl (dU U_23 (Ht rfl) aA) (ro rfl (cX (cJ 0)) (eJ (eU ?_))))))))
  refine bF (fun (k : Nat) => k ≤ s.length ∧ ∀ (i : Nat) (r : List Rt), i < k → s[i]? = some r → r.length ≤ 9) (fun (k : Nat) => s.length - k) (fun (k : Nat) => [(1, cC B1 0), (24, tQ s), (25, NT .i64 s.length), (26, NT .i64 k)]) (fun (k : Nat) => [box B1 25 [rN z, tQ s, tQ c]]) 0 ⟨Nat.zero_le _, fun i r h => by omega⟩
   (zS rfl) (cL.refl _) (fun k ⟨hk,hr⟩=>?_)
  refine ts (ro rfl (gJ (Ht rfl) (Ht rfl)) (eJ (cK (dQ (Ht rfl) (fun hd=>?_) (fun hd=>?_)))))
  ·simp only [decide_eq_true_eq] at hd
   refine cU (cK (eU (ts (ro rfl (dZ U_23 Z_22 (Ht rfl) (Ht rfl) rfl (eX (mO hd))) (ro rfl (dJ A_22 Z_22 (Ht rfl)) (ra rfl (eJ (ts (rm rfl (ro rfl (dU U_22 (Ht rfl) aA) (ro rfl (dL (Ht rfl) (cJ 9)) (eJ (dQ (Ht rfl) (fun he=>?_) (fun he=>?_))))))))))))))
   ·simp only [decide_eq_true_eq] at he
    refine ts (ro rfl (cQ cV) (eJ (fK rfl (fJ (fQ rfl) ?_))))
    exact (bI (Nj (mO hd) he).symm)
   ·simp only [decide_eq_false_iff_not] at he
    refine cU (aR (cY (ro rfl (dW (Ht rfl) (cJ 1) z6) (rm rfl (eJ ?_)))))
    refine gQ (k + 1) ⟨hd, fun i r h1 h2 => by
      by_cases e:i = k
      ·subst e; rw [mO hd] at h2; obtain rfl:=Option.some.inj h2; omega
      ·exact hr i r zo h2⟩ zo (zS rfl) (cL.refl _)
  ·simp only [decide_eq_false_iff_not] at hd
   have hall:∀ (i:Nat) (r:List Rt),s[i]? = some r → r.length ≤ 9:=fun i r h=>hr i r (by have:=(List.getElem?_eq_some_iff.1 h).1; omega) h
   refine gG rfl (cK (ts (ro rfl (eW wH (Ht rfl) rfl) (ro rfl (fX A_23 Z_23 (Ht rfl) (i:=0) rfl rfl) (ro rfl (dU U_23 (Ht rfl) aA) (ro rfl (cX (cJ 0)) (eJ (eU ?_))))))))
   refine bF (fun (k : Nat) => k ≤ c.length ∧ ∀ (i : Nat) (r : List Rt), i < k → c[i]? = some r → r.length ≤ 9) (fun (k : Nat) => c.length - k) (fun (k : Nat) => [(1, cC B1 0), (35, tQ c), (36, NT .i64 c.length), (37, NT .i64 k)]) (fun (k : Nat) => [box B1 25 [rN z, tQ s, tQ c]]) 0 ⟨Nat.zero_le _, fun i r h => by omega⟩
    (zS rfl) (cL.refl _) (fun k ⟨hk2,hr2⟩=>?_)
   refine ts (ro rfl (gJ (Ht rfl) (Ht rfl)) (eJ (cK (dQ (Ht rfl) (fun hd2=>?_) (fun hd2=>?_)))))
   ·simp only [decide_eq_true_eq] at hd2
    refine cU (cK (eU (ts (ro rfl (dZ U_23 Z_22 (Ht rfl) (Ht rfl) rfl (eX (mO hd2))) (ro rfl (dJ A_22 Z_22 (Ht rfl)) (ra rfl (eJ (ts (rm rfl (ro rfl (dU U_22 (Ht rfl) aA) (ro rfl (dL (Ht rfl) (cJ 9)) (eJ (dQ (Ht rfl) (fun he=>?_) (fun he=>?_))))))))))))))
    ·simp only [decide_eq_true_eq] at he
     refine ts (ro rfl (cQ cV) (eJ (fK rfl (fJ (fQ rfl) ?_))))
     exact (bI (Ni (mO hd2) he).symm)
    ·simp only [decide_eq_false_iff_not] at he
     refine cU (aR (cY (ro rfl (dW (Ht rfl) (cJ 1) z6) (rm rfl (eJ ?_)))))
     refine gQ (k + 1) ⟨hd2, fun i r h1 h2 => by
       by_cases e:i = k
       ·subst e; rw [mO hd2] at h2; obtain rfl:=Option.some.inj h2; omega
       ·exact hr2 i r zo h2⟩ zo (zS rfl) (cL.refl _)
   ·simp only [decide_eq_false_iff_not] at hd2
    have hall2:∀ (i:Nat) (r:List Rt),c[i]? = some r → r.length ≤ 9:=fun i r h=>hr2 i r (by have:=(List.getElem?_eq_some_iff.1 h).1; omega) h
    refine gG rfl (ts (ro rfl (cQ cV) (eJ (fK rfl (fJ (fQ rfl) ?_)))))
    exact (bI (Ro hb hall hall2).symm)
theorem zW {m:List Rt} (hm:m.length ≤ 1000):aS Tryz.prog 50 [rN m] (kW 5 ((m.map Rt.q).map QT)):=by
 refine aS.intro Tryz.func50 rfl Tryz.ntmps50 rfl (fun cx=>(ts (ro rfl (cQ cV) (eJ (ts (ro rfl (cQ cV) (eJ (cK (ts (rm rfl (ro rfl (dU U_22 (Ht rfl) aA) (ro rfl (cX (cJ 0)) (eJ (eU (xG 131 5 ?_)))))))))))))))
 refine iM (fun (k : Nat) (out : List (Qi)) (v : Value) => k ≤ m.length ∧ out = (m.map Rt.q).take k) (fun (k : Nat) (out : List (Qi)) (v : Value) => m.length - k) (fun (k : Nat) (out : List (Qi)) (v : Value) => [(3, Is v), (6, rN m), (7, NT .i64 m.length), (8, NT .i64 k)]) (fun (k : Nat) (out : List (Qi)) (v : Value) => [bO 131 5 v (out.map QT)]) 0 [] (.slice none 0 0) ⟨Nat.zero_le _, rfl⟩
  (zS rfl) (cL.refl _) (fun k out v ⟨hk,ho⟩=>?_)
 refine ts (ro rfl (gJ (Ht rfl) (Ht rfl)) (eJ (cK (dQ (Ht rfl) (fun hd=>?_) (fun hd=>?_)))))
 ·simp only [decide_eq_true_eq] at hd
  have hol:out.length ≤ 1000:=by rw [ho,List.length_take]; omega
  refine cU (cK (eU (ts (ro rfl (dZ U_22 Z_102 (Ht rfl) (Ht rfl) rfl (eX (eQ (d:=default) hd))) (ro rfl (dJ A_102 Z_102 (Ht rfl)) (rn rfl (eK (Ts:=[Is (.int .i64 0),Is (.int .i64 0),Is (.int .i64 0)]) O_102 rfl (fun V=>aW zd (aW zd (aW zd (aG))))) fun B5=>(gZ Z_102 (Ht rfl) (Ht rfl) rfl (i:=1) rfl (aK rfl) rfl rfl (eJ (cY (rm rfl (ro rfl (eG A_102 Z_102 (Ht rfl) (i:=1) rfl rfl rfl) ?_)))))))))))
  refine ro rfl (cZ Tryz.call151 a1p ⟨(Ht rfl),trivial⟩) (ro rfl (dA (xs:=[.tmp 14]) U_35 Z_131 O_131 (cW (Ht rfl) cG) rfl rfl rfl) (oD (inf:=Tryz.t131) Jb xZ rfl rfl rfl (Ht rfl) (Ht rfl) (i:=0) rfl (by simp) (fun T hT=>by simp at hT; subst hT; exact El.ag rfl) (by show _ * 88 ≤ _; simp only [List.length_map,List.length_cons,List.length_nil]; omega) (by simp only [List.length_map,List.length_cons,List.length_nil]; omega) rfl (fun v2=>?_)))
  refine ra rfl (eJ (aR (cY (ro rfl (dW (Ht rfl) (cJ 1) z6) (rm rfl (eJ (cM [0] rfl (by decide) (gQ (k + 1,_,v2) ⟨by omega,yU (g:=Rt.q) hd ho⟩ (by dsimp only; omega) (zS rfl) (aU (bT (oF QT _ _)) aY)))))))))
 ·simp only [decide_eq_false_iff_not] at hd
  have hfin:=yT ho (by simp only [List.length_map]; omega)
  refine gG rfl (gW (i:=0) (tt:=3) rfl rfl kN (ts (rm rfl (ra rfl (eJ (fK rfl (fJ (fQ rfl) ?_)))))))
  exact (oC (by rw [hfin]))
theorem zX {m:List (List Rt)} (hm:m.length ≤ 1000) (hr:∀ r,r ∈ m → r.length ≤ 1000):aS Tryz.prog 91 [tQ m] (kW 1 ((rq m).map xA)):=by
 refine aS.intro Tryz.func91 rfl Tryz.ntmps91 rfl (fun cx=>(ts (ro rfl (cQ cV) (eJ (ts (ro rfl (cQ cV) (eJ (cK (ts (rm rfl (ro rfl (dU U_23 (Ht rfl) aA) (ro rfl (cX (cJ 0)) (eJ (eU (xG 35 1 ?_)))))))))))))))
 refine iM (fun (k : Nat) (out : List (List Qi)) (v : Value) => k ≤ m.length ∧ out = (rq m).take k) (fun (k : Nat) (out : List (List Qi)) (v : Value) => m.length - k) (fun (k : Nat) (out : List (List Qi)) (v : Value) => [(3, Is v), (6, tQ m), (7, NT .i64 m.length), (8, NT .i64 k)]) (fun (k : Nat) (out : List (List Qi)) (v : Value) => [bO 35 1 v (out.map xA)]) 0 [] (.slice none 0 0) ⟨Nat.zero_le _, rfl⟩
  (zS rfl) (cL.refl _) (fun k out v ⟨hk,ho⟩=>?_)
 refine ts (ro rfl (gJ (Ht rfl) (Ht rfl)) (eJ (cK (dQ (Ht rfl) (fun hd=>?_) (fun hd=>?_)))))
 ·simp only [decide_eq_true_eq] at hd
  have hol:out.length ≤ 1000:=by rw [ho,List.length_take]; omega
  have hrk : (m.getD k default).length ≤ 1000 := by
   have e:m.getD k default = m[k]:=by simp [List.getD,hd]
   rw [e]; exact hr _ (List.getElem_mem hd)
  refine cU (cK (eU (ts (ro rfl (dZ U_23 Z_22 (Ht rfl) (Ht rfl) rfl (eX (eQ (d:=default) hd))) (ro rfl (dJ A_22 Z_22 (Ht rfl)) (ra rfl (eJ (cY (rm rfl (rm rfl (ro rfl (cZ Tryz.call50 (zW zo) ⟨(Ht rfl),trivial⟩) (ro rfl (dA (xs:=[.tmp 14]) U_36 Z_35 Tryz.zeroValue35 (cW (Ht rfl) cG) rfl rfl rfl) (oD (inf:=Tryz.t35) a13 Ca rfl rfl rfl (Ht rfl) (Ht rfl) (i:=0) rfl (by simp) (fun T hT=>by simp at hT; subst hT; exact El.one) (by show _ * 24 ≤ _; simp only [List.length_map,List.length_cons,List.length_nil]; omega) (by simp only [List.length_map,List.length_cons,List.length_nil]; omega) rfl (fun v2=>?_))))))))))))))
  refine ra rfl (eJ (aR (cY (ro rfl (dW (Ht rfl) (cJ 1) z6) (rm rfl (eJ (cM [0] rfl (by decide) (gQ (k + 1,_,v2) ⟨by omega,yU (g:=(fun r=>r.map Rt.q)) hd ho⟩ (by dsimp only; omega) (zS rfl) (aU (bT (oF xA _ _)) aY)))))))))
 ·simp only [decide_eq_false_iff_not] at hd
  have hfin:=yT ho (by simp only [List.length_map]; omega)
  refine gG rfl (gW (i:=0) (tt:=3) rfl rfl kN (ts (rm rfl (ra rfl (eJ (fK rfl (fJ (fQ rfl) ?_)))))))
  exact (oC (by rw [hfin]))
end
section
open Go Go.RowKit
theorem Jr {n : Nat} {E : cD} {H : Hp} {d : Option Tmp} {t : TypeId} {pos : String} {af : Array Edge} {g : Option (Nat × Bool)}  :
  aI Tryz.prog n E H ⟨d,.build 34 #[],t,pos,af,g⟩ (eM [Is (.slice none 0 0),Is (.slice none 0 0),Is (.slice none 0 0)]) :=
 fC (parts := []) fun a V w hs => by
  refine ⟨.agg #[(.slice none 0 0),(.slice none 0 0),(.slice none 0 0)],?_,[(.slice none 0 0),(.slice none 0 0),(.slice none 0 0)],rfl,aW (⟨rfl,trivial⟩) (aW (⟨rfl,trivial⟩) (aW (⟨rfl,trivial⟩) (aG)))⟩
  simp [Instr.build,Instr.fill,Sem.run_bind,Result.andThen,dS,O_34,U_34,Z_30,Z_32]
theorem Pq {n : Nat} {E : cD} {H : Hp} {d : Option Tmp} {t : TypeId} {pos : String} {af : Array Edge} {g : Option (Nat × Bool)} {x0 : Operand} {T0 T1 : Ty} (h0 : bD E x0 (eM [T0, T1])) :
  aI Tryz.prog n E H ⟨d,.build 34 #[(0,x0)],t,pos,af,g⟩ (eM [T0,T1,Is (.slice none 0 0)]) :=
 fC (parts := [(0, x0)]) fun a V w hs => by
  obtain ⟨v0,e0,c0⟩:=h0 n V a hs
  obtain ⟨c0_0,c0_1,rfl⟩:∃ c0_0 c0_1,v0 = [c0_0,c0_1]:=vG (by simpa using c0.length)
  refine ⟨.agg #[c0_0,c0_1,(.slice none 0 0)],?_,[c0_0,c0_1,(.slice none 0 0)],rfl,aW (c0.at (i:=0) rfl rfl) (aW (c0.at (i:=1) rfl rfl) (aW (⟨rfl,trivial⟩) (aG)))⟩
  simp [e0,Instr.build,Instr.fill,Sem.run_bind,Result.andThen,dS,O_34,U_34,Z_30,Z_32]
end
section
open Go Go.RowKit
theorem Mt {r:List Qi} {c:List (List Qi)}:aS Tryz.prog 157 [cB r,PT (bS c)] (aC (!decide (r.length = c.length))):=by
 refine aS.intro Tryz.func157 rfl Tryz.ntmps157 rfl (fun cx=>(ts (ro rfl (cQ cV) (eJ (ts (rm rfl (ro rfl (dU U_29 (Ht rfl) aA) (ro rfl (dJ A_30 Z_30 (Ht rfl)) (ro rfl (dU U_30 (Ht rfl) aA) (ro rfl (gY (Ht rfl) (Ht rfl)) (ra rfl (eJ ?_))))))))))))
 exact fK rfl (fQ rfl)
theorem Qd {z:List Qi} {s c:List (List Qi)} (hz:z.length ≤ 1000) (hc:c.length ≤ 1000):aS Tryz.prog 55 [nZ z s,bS c] (gE [iS (fS (cE z c) z) (fS (cE z c) s) (fS (cE z c) c),bC .i64 (cE z c)]):=by
 refine aS.intro Tryz.func55 rfl Tryz.ntmps55 rfl (fun cx=>(ts (rn rfl (fU (Ht rfl)) fun B2=>(rn rfl (Fh (Ht rfl)) fun B3=>(rn rfl (eK (Ts:=[Is (.slice none 0 0),Is (.slice none 0 0),Is (.slice none 0 0)]) O_34 rfl (fun V=>aW zd (aW zd (aW zd (aG))))) fun B4=>(ro rfl (cQ (cJ 0)) (eJ (cK (cK (gW (i:=1) (tt:=3) rfl rfl xW (fV (m:=8) (dp 3 rfl (dJ A_30 Z_30 (Ht rfl)) (dq 9 0 rfl (dU U_30 (Ht rfl) aA) ?_)))))))))))))
 refine dp 2 rfl (eG A_32 Z_32 (Ht rfl) (i:=0) rfl rfl rfl) (dq 11 2 rfl (cZ K_22 nN ⟨(Ht rfl),trivial⟩) (cH 10 1 12 3 rfl (gY (Ht rfl) (Ht rfl)) (dq 13 4 rfl (cX (Ht rfl)) (C.D_step (Ei:=[(3,_),(14,_)]) rfl rfl (bV (bK rfl rfl) (bV (bG 5 rfl rfl) bW)) (eY rfl rfl (Ht rfl) (fun h=>dJ A_30 Z_30 (Ht rfl))) (C.D_step (Ei:=[(3,_),(14,_)]) rfl rfl (bV (bK rfl rfl) (bV (bG 5 rfl rfl) bW)) (eY rfl rfl (Ht rfl) (fun h=>Cj (γ:=List Qi) (Ts:=fun r=>[cB r]) (U:=fun r=>aC (!decide (r.length = c.length))) Tryz.call157 (fun r=>Mt) ⟨(Ht rfl),trivial⟩)) ?_)))))
 refine fG aM rfl (by kernel_rfl) (zF (zF (aV (fZ rfl rfl (eY rfl rfl (Ht rfl) (fun h=>cZ Tryz.call156 (rO (l:=c) (T:=cB) (p:=fun r=>!decide (r.length = c.length)) zo) ⟨(fW rfl h),(fW rfl h),trivial⟩)) (ro rfl (iW (Ht rfl) (fun h=>(fW rfl h))) (eJ (dQ (Ht rfl) (fun hb=>?_) (fun hb=>?_))))))))
 ·have he := Il hb
  refine ts (ro rfl (aI.imp (Jr ) Al) (gZ Z_34 (Ht rfl) (Ht rfl) rfl (i:=2) rfl (aK rfl) rfl rfl (ro rfl (cQ (cJ 4)) (eJ (bN rfl (fJ (fY A_34 Z_34 rfl (i:=2) rfl rfl) ?_) (fJ (fQ rfl) ?_))))))
  ·exact (Nr he)
  ·exact (bB he.symm)
 ·have he := Fi hb
  obtain ⟨hcl,hsh⟩:=uJ he
  refine cU (ts (ro rfl (eG A_32 Z_32 (Ht rfl) (i:=0) rfl rfl rfl) (ro rfl (Pq (Ht rfl)) (rn rfl (eK (Ts:=[Is (.slice none 0 0),Is (.slice none 0 0),Is (.slice none 0 0)]) O_34 rfl (fun V=>aW zd (aW zd (aW zd (aG))))) fun B6=>(gZ Z_34 (Ht rfl) (Ht rfl) rfl (i:=3) rfl (aK rfl) rfl rfl (eJ (cK (ts (ro rfl (dJ A_30 Z_30 (Ht rfl)) (ro rfl (dU U_30 (Ht rfl) aA) (ro rfl (cX (cJ 0)) ?_)))))))))))
  refine eJ (eU (cM [2,3] rfl (by decide) (xG 29 1 ?_)))
  refine iM (fun (k : Nat) (out : List (List Qi)) (v : Value) => k ≤ c.length ∧ out = c.take k) (fun (k : Nat) (out : List (List Qi)) (v : Value) => c.length - k) (fun (k : Nat) (out : List (List Qi)) (v : Value) => [(4, cC B4 0), (6, cC B6 0), (22, bS c), (23, NT .i64 c.length), (24, NT .i64 k)]) (fun (k : Nat) (out : List (List Qi)) (v : Value) => [box B4 34 [Is (.slice none 0 0), Is (.slice none 0 0), Is (.slice none 0 0)], box B6 34 [cB z, bS s, Is v], bO 29 1 v (out.map cB)]) 0 [] (.slice none 0 0) ⟨Nat.zero_le _, rfl⟩
   (zS rfl) (cL.refl _) (fun k out v ⟨hk,ho⟩=>?_)
  refine ts (ro rfl (gJ (Ht rfl) (Ht rfl)) (eJ (cK (dQ (Ht rfl) (fun hd=>?_) (fun hd=>?_)))))
  ·simp only [decide_eq_true_eq] at hd
   have hol:out.length ≤ 1000:=by rw [ho,List.length_take]; omega
   have hrk : (c.getD k default).length ≤ 1000 := by
    have e:c.getD k default = c.getD k []:=rfl
    rw [e,hsh.row zo]; omega
   refine cU (cK (eU (ts (ro rfl (dZ U_30 Z_29 (Ht rfl) (Ht rfl) rfl (eX (eQ (d:=default) hd))) (ro rfl (dJ A_29 Z_29 (Ht rfl)) (ra rfl (eJ (fV (m:=5) (dp 6 rfl (eW lD (Ht rfl) rfl) (dq 28 0 rfl (Xl A_30 Z_30 (Ht rfl) (i:=1) rfl rfl) (dp 8 rfl (cX (Ht rfl)) (dq 30 2 rfl (cZ Tryz.call158 (Jv zo) ⟨(Ht rfl),trivial⟩) (dq 31 3 rfl (dA (xs:=[.tmp 31]) U_30 Z_29 Tryz.zeroValue29 (cW (Ht rfl) cG) rfl rfl rfl) ?_)))))))))))))
   refine fG aM rfl (by kernel_rfl) (zF (aJ (aV (oD (inf:=Tryz.t29) Uh lX rfl rfl rfl (Ht rfl) (Ht rfl) (i:=2) rfl (by simp) (fun T hT=>by simp at hT; subst hT; exact El.one) (by show _ * 24 ≤ _; simp only [List.length_map,List.length_cons,List.length_nil]; omega) (by simp only [List.length_map,List.length_cons,List.length_nil]; omega) rfl (fun v2=>?_)))))
   refine ro rfl (eW lD (Ht rfl) rfl) (a19 (l:=2) Z_30 (Ht rfl) (Ht rfl) (i:=1) rfl rfl (aK rfl) rfl (eJ (aR (cY (ro rfl (dW (Ht rfl) (cJ 1) z6) (rm rfl (eJ (gQ (k + 1,_,v2) ⟨by omega,Iy hd ho⟩ (by dsimp only; omega) (zS rfl) (aU (aB rfl) (aU (aB rfl) (aU (bT (oF cB _ _)) aY)))))))))))
  ·simp only [decide_eq_false_iff_not] at hd
   have hfin:=yT ho zo
   subst hfin
   refine gG rfl (cK (Ml 1 2 2 rfl rfl rfl (by decide) (cY (ro rfl (eG A_34 Z_34 (Ht rfl) (i:=1) rfl rfl rfl) (gZ Z_34 (Ht rfl) (Ht rfl) rfl (i:=0) rfl (aK rfl) rfl rfl (ro rfl (cQ (cJ 0)) (eJ (bN rfl (fJ (fY A_34 Z_34 rfl (i:=0) rfl rfl) ?_) (fJ (fQ rfl) ?_)))))))))
   ·exact (Im he)
   ·exact (bB he.symm)
end
section
open Go Go.RowKit
theorem Js {n : Nat} {E : cD} {H : Hp} {d : Option Tmp} {t : TypeId} {pos : String} {af : Array Edge} {g : Option (Nat × Bool)}  :
  aI Tryz.prog n E H ⟨d,.build 38 #[],t,pos,af,g⟩ (eM [Is (.slice none 0 0),Is (.slice none 0 0)]) :=
 fC (parts := []) fun a V w hs => by
  refine ⟨.agg #[(.slice none 0 0),(.slice none 0 0)],?_,[(.slice none 0 0),(.slice none 0 0)],rfl,aW (⟨rfl,trivial⟩) (aW (⟨rfl,trivial⟩) (aG))⟩
  simp [Instr.build,Instr.fill,Sem.run_bind,Result.andThen,dS,O_38,U_38,Z_35,Z_36]
theorem Hg {n : Nat} {E : cD} {H : Hp} {d : Option Tmp} {t : TypeId} {pos : String} {af : Array Edge} {g : Option (Nat × Bool)} {x0 x1 : Operand} {T0 T1 : Ty} [s0 : dE T0 1 false] (h0 : bD E x0 T0) [s1 : dE T1 1 false] (h1 : bD E x1 T1) :
  aI Tryz.prog n E H ⟨d,.build 38 #[(0,x0),(1,x1)],t,pos,af,g⟩ (eM [T0,T1]) :=
 fC (parts := [(0, x0), (1, x1)]) fun a V w hs => by
  have p0:=h0 n V a hs
  generalize e0:a.eval x0 = v0 at p0
  have q0:=(s0.ok v0 V p0).2.2 rfl
  have p1:=h1 n V a hs
  generalize e1:a.eval x1 = v1 at p1
  have q1:=(s1.ok v1 V p1).2.2 rfl
  refine ⟨.agg #[v0,v1],?_,[v0,v1],rfl,aW (⟨p0,q0⟩) (aW (⟨p1,q1⟩) (aG))⟩
  simp [e0,e1,Instr.build,Instr.fill,Sem.run_bind,Result.andThen,dS,q0.cells,q1.cells,O_38,U_38,Z_35,Z_36]
theorem Jt {n : Nat} {E : cD} {H : Hp} {d : Option Tmp} {t : TypeId} {pos : String} {af : Array Edge} {g : Option (Nat × Bool)}  :
  aI Tryz.prog n E H ⟨d,.build 40 #[],t,pos,af,g⟩ (eM [Is (.slice none 0 0),Is (.slice none 0 0),Is (.slice none 0 0)]) :=
 fC (parts := []) fun a V w hs => by
  refine ⟨.agg #[(.slice none 0 0),(.slice none 0 0),(.slice none 0 0)],?_,[(.slice none 0 0),(.slice none 0 0),(.slice none 0 0)],rfl,aW (⟨rfl,trivial⟩) (aW (⟨rfl,trivial⟩) (aW (⟨rfl,trivial⟩) (aG)))⟩
  simp [Instr.build,Instr.fill,Sem.run_bind,Result.andThen,dS,O_40,U_40,Z_36,Z_38]
theorem Hh {n : Nat} {E : cD} {H : Hp} {d : Option Tmp} {t : TypeId} {pos : String} {af : Array Edge} {g : Option (Nat × Bool)} {x0 x1 : Operand} {T0 T1 T2 : Ty} (h0 : bD E x0 (eM [T0, T1])) [s1 : dE T2 1 false] (h1 : bD E x1 T2) :
  aI Tryz.prog n E H ⟨d,.build 40 #[(0,x0),(1,x1)],t,pos,af,g⟩ (eM [T0,T1,T2]) :=
 fC (parts := [(0, x0), (1, x1)]) fun a V w hs => by
  obtain ⟨v0,e0,c0⟩:=h0 n V a hs
  obtain ⟨c0_0,c0_1,rfl⟩:∃ c0_0 c0_1,v0 = [c0_0,c0_1]:=vG (by simpa using c0.length)
  have p1:=h1 n V a hs
  generalize e1:a.eval x1 = v1 at p1
  have q1:=(s1.ok v1 V p1).2.2 rfl
  refine ⟨.agg #[c0_0,c0_1,v1],?_,[c0_0,c0_1,v1],rfl,aW (c0.at (i:=0) rfl rfl) (aW (c0.at (i:=1) rfl rfl) (aW (⟨p1,q1⟩) (aG)))⟩
  simp [e0,e1,Instr.build,Instr.fill,Sem.run_bind,Result.andThen,dS,q1.cells,O_40,U_40,Z_36,Z_38]
theorem wJ (a:Addr) (w:World):(Instr.fieldAt 38 (.pointer (some a)) 0).run Tryz.prog w = .ok (.pointer (some (a.add 0))) w:=by
 simp [Instr.fieldAt,Instr.sureAddr,fieldPlace,Sem.run_bind,Result.andThen,U_38,Z_35]
end
section
open Go Go.RowKit
theorem Dp {x:Qi} {L:Nat} [hx:aD x L] (h:L ≤ 17592186044415):aS Tryz.prog 250 [QT x] (aC (lJ x)):=by
 refine aS.intro Tryz.func250 rfl Tryz.ntmps250 rfl (fun cx=>(ts (rn rfl (fU (Ht rfl)) fun B1=>(ro rfl (cQ cV) (eJ (ts (ro rfl (eG A_131 Z_131 (Ht rfl) (i:=0) rfl rfl rfl) (ro rfl (cZ Tryz.call242 (Kg zo) ⟨(Ht rfl),trivial⟩) (ro rfl (iH (Ht rfl) cV) (rm rfl (fZ rfl rfl (eY rfl rfl (Ht rfl) (fun h=>eG A_131 Z_131 (Ht rfl) (i:=0) rfl rfl rfl)) (fZ rfl rfl (eY rfl rfl (Ht rfl) (fun h=>cZ Tryz.call239 wA ⟨(fW rfl h),trivial⟩)) (fZ rfl rfl (eY rfl rfl (Ht rfl) (fun h=>yJ (fW rfl h) cV)) ?_)))))))))))))
 refine ro rfl (dP (Ht rfl) (fun h=>(fW rfl h))) (ra rfl (eJ (fK rfl (fJ (fQ rfl) ?_))))
 exact (bI (Yc x))
theorem Qm {z:List Qi} {s:List (List Qi)} (hz:z.length ≤ 100000) (hs:s.length ≤ 100000):aS Tryz.prog 189 [xA z,QM s] (aC (yP z s)):=by
 refine aS.intro Tryz.func189 rfl Tryz.ntmps189 rfl (fun cx=>(ts (ro rfl (cQ cV) (eJ (cK (ts (rm rfl (ro rfl (dU U_35 (Ht rfl) aA) (ro rfl (gJ (Ht rfl) (cJ 1)) (rm rfl (fZ rfl rfl (eY rfl rfl (Ht rfl) (fun h=>cX (Ht rfl))) (fZ rfl rfl (eY rfl rfl (Ht rfl) (fun h=>dU U_35 (fW rfl h) aA)) (fZ rfl rfl (eY rfl rfl (Ht rfl) (fun h=>dL (fW rfl h) (cJ 8))) (ro rfl (iW (Ht rfl) (fun h=>(fW rfl h))) (rm rfl (fZ rfl rfl (eY rfl rfl (Ht rfl) (fun h=>cX (Ht rfl))) ?_))))))))))))))))
 refine fZ rfl rfl (eY rfl rfl (Ht rfl) (fun h=>dU U_36 (fW rfl h) aA)) (fZ rfl rfl (eY rfl rfl (Ht rfl) (fun h=>cX (Ht rfl))) (fZ rfl rfl (eY rfl rfl (Ht rfl) (fun h=>dU U_35 (fW rfl h) aA)) (fZ rfl rfl (eY rfl rfl (Ht rfl) (fun h=>gY (fW rfl h) (fW rfl h))) (ro rfl (iW (Ht rfl) (fun h=>(fW rfl h))) (eJ (dQ (Ht rfl) (fun hb=>?_) (fun hb=>?_)))))))
 ·refine ts (ro rfl (cQ cV) (eJ (fK rfl (fJ (fQ rfl) ?_))))
  exact (bI (by rw [yP,hb]; rfl))
 ·refine cU (cK (ts (ro rfl (cQ (cJ 0)) (eJ (eU ?_)))))
  refine bF (fun (k : Nat) => k ≤ s.length ∧ ∀ (i : Nat) (r : List Qi), i < k → s[i]? = some r → r.length = z.length) (fun (k : Nat) => s.length - k) (fun (k : Nat) => [(0, xA z), (1, QM s), (5, NT .i64 k)]) (fun (k : Nat) => []) 0 ⟨Nat.zero_le _, fun i r h => by omega⟩
   (zS rfl) aY (fun k ⟨hk,hr⟩=>?_)
  refine cK (ts (rm rfl (rm rfl (ro rfl (dU U_36 (Ht rfl) aA) (ro rfl (gJ (Ht rfl) (Ht rfl)) (eJ (dQ (Ht rfl) (fun hc=>?_) (fun hc=>?_))))))))
  ·simp only [decide_eq_true_eq] at hc
   refine cU (cK (eU (ts (rm rfl (rm rfl (ro rfl (dZ U_36 Z_35 (Ht rfl) (Ht rfl) rfl (eX (mO hc))) (ro rfl (dJ A_35 Z_35 (Ht rfl)) (ro rfl (dU U_35 (Ht rfl) aA) (rm rfl (ro rfl (dU U_35 (Ht rfl) aA) (ro rfl (gY (Ht rfl) (Ht rfl)) (eJ (dQ (Ht rfl) (fun hd=>?_) (fun hd=>?_))))))))))))))
   ·have hd2 : ¬ (s[k]).length = z.length := by simpa using hd
    refine ts (ro rfl (cQ cV) (eJ (fK rfl (fJ (fQ rfl) ?_))))
    exact (bI (by rw [yP,Jl (mO hc) hd2,Bool.or_true]; rfl))
   ·have hd2 : (s[k]).length = z.length := by simpa using hd
    refine cU (aR (cY (rm rfl (ro rfl (dW (Ht rfl) (cJ 1) z6) (ra rfl (eJ ?_))))))
    refine gQ (k + 1) ⟨hc, fun i r h1 h2 => by
     by_cases e:i = k
     ·subst e; rw [mO hc] at h2; obtain rfl:=Option.some.inj h2; exact hd2
     ·exact hr i r zo h2⟩ zo (zS rfl) aY
  ·simp only [decide_eq_false_iff_not] at hc
   have hall:∀ (i:Nat) (r:List Qi),s[i]? = some r → r.length = z.length:=fun i r h=>hr i r (by have:=(List.getElem?_eq_some_iff.1 h).1; omega) h
   refine gG rfl (ts (ro rfl (cQ cV) (eJ (fK rfl (fJ (fQ rfl) ?_)))))
   exact (bI (by rw [yP,Db hall,hb]; rfl))
theorem zH {z:List Qi} {L:Nat} (hz:dN z L) (h:L ≤ 17592186044415) (hl:z.length ≤ 100000):aS Tryz.prog 190 [xA z] (aC (z.all lJ)):=by
 refine aS.intro Tryz.func190 rfl Tryz.ntmps190 rfl (fun cx=>(ts (ro rfl (cQ cV) (eJ (cK (ts (ro rfl (cQ (cJ 0)) (eJ (eU ?_)))))))))
 refine bF (fun (k : Nat) => k ≤ z.length ∧ ∀ (i : Nat) (r : Qi), i < k → z[i]? = some r → lJ r = true) (fun (k : Nat) => z.length - k) (fun (k : Nat) => [(0, xA z), (3, NT .i64 k)]) (fun (k : Nat) => []) 0 ⟨Nat.zero_le _, fun i r h => by omega⟩
  (zS rfl) aY (fun k ⟨hk,hr⟩=>?_)
 refine cK (ts (rm rfl (rm rfl (ro rfl (dU U_35 (Ht rfl) aA) (ro rfl (gJ (Ht rfl) (Ht rfl)) (eJ (dQ (Ht rfl) (fun hc=>?_) (fun hc=>?_))))))))
 ·simp only [decide_eq_true_eq] at hc
  haveI hf:aD z[k] L:=hz _ (List.getElem_mem hc)
  refine cU (cK (eU (ts (rm rfl (rm rfl (ro rfl (dZ U_35 Z_131 (Ht rfl) (Ht rfl) rfl (eX (mO hc))) (ro rfl (dJ A_131 Z_131 (Ht rfl)) (ro rfl (cZ Tryz.call250 (Dp (L:=L) h) ⟨(Ht rfl),trivial⟩) (ro rfl (dR (Ht rfl)) (eJ (dQ (Ht rfl) (fun hd=>?_) (fun hd=>?_))))))))))))
  ·have hd2 : lJ z[k] = false := by simpa using hd
   refine ts (ro rfl (cQ cV) (eJ (fK rfl (fJ (fQ rfl) ?_))))
   exact (bI (a0a (mO hc) hd2).symm)
  ·have hd2 : lJ z[k] = true := by simpa using hd
   refine cU (aR (cY (rm rfl (ro rfl (dW (Ht rfl) (cJ 1) z6) (ra rfl (eJ ?_))))))
   refine gQ (k + 1) ⟨hc, fun i r h1 h2 => by
    by_cases e:i = k
    ·subst e; rw [mO hc] at h2; obtain rfl:=Option.some.inj h2; exact hd2
    ·exact hr i r zo h2⟩ zo (zS rfl) aY
 ·simp only [decide_eq_false_iff_not] at hc
  have hall:∀ (i:Nat) (r:Qi),z[i]? = some r → lJ r = true:=fun i r h=>hr i r (by have:=(List.getElem?_eq_some_iff.1 h).1; omega) h
  refine gG rfl (ts (ro rfl (cQ cV) (eJ (fK rfl (fJ (fQ rfl) ?_)))))
  exact (bI (Uv hall).symm)
theorem Mw {z:List Qi} {s:List (List Qi)} {L:Nat} (hz:dN z L) (h:L ≤ 17592186044415) (hl:z.length ≤ 1000) (hl2:s.length ≤ 1000):aS Tryz.prog 90 [xA z,QM s] (gE [sL (fS (bH z s) z) (fS (bH z s) s),bC .i64 (bH z s)]):=by
 refine aS.intro Tryz.func90 rfl Tryz.ntmps90 rfl (fun cx=>(ts (rn rfl (eK (Ts:=[Is (.slice none 0 0),Is (.slice none 0 0)]) O_38 rfl (fun V=>aW zd (aW zd (aG)))) fun B4=>(ro rfl (cQ (cJ 0)) (eJ (cK (ts (rm rfl (rm rfl (ro rfl (cZ Tryz.call189 (Qm zo zo) ⟨(Ht rfl),(Ht rfl),trivial⟩) (ro rfl (dR (Ht rfl)) (eJ (dQ (Ht rfl) (fun hb=>?_) (fun hb=>?_))))))))))))))
 ·have hb2 : ¬ yP z s = true := by simpa using hb
  have he:bH z s = 4:=by rw [uH,if_neg hb2]
  refine ts (ro rfl (aI.imp (Js ) Fs) (gZ Z_38 (Ht rfl) (Ht rfl) rfl (i:=0) rfl (aK rfl) rfl rfl (ro rfl (cQ (cJ 4)) (eJ (bN rfl (fJ (fY A_38 Z_38 rfl (i:=0) rfl rfl) ?_) (fJ (fQ rfl) ?_))))))
  ·exact (Fr he (by decide))
  ·exact (bB he.symm)
 ·have hb2 : yP z s = true := by simpa using hb
  refine cU (cK (ts (rm rfl (ro rfl (cZ Tryz.call190 (zH (by assumption) (by assumption) zo) ⟨(Ht rfl),trivial⟩) ?_))))
  refine ro rfl (dR (Ht rfl)) (eJ (dQ (Ht rfl) (fun hc=>?_) (fun hc=>?_)))
  ·have hc2 : ¬ z.all lJ = true := by simp only [Bool.not_eq_true'] at hc; rw [hc]; exact Bool.noConfusion
   have he:bH z s = 1:=by rw [uH,if_pos hb2,if_neg hc2]
   refine ts (ro rfl (aI.imp (Js ) Fs) (gZ Z_38 (Ht rfl) (Ht rfl) rfl (i:=0) rfl (aK rfl) rfl rfl (ro rfl (cQ (cJ 1)) (eJ (bN rfl (fJ (fY A_38 Z_38 rfl (i:=0) rfl rfl) ?_) (fJ (fQ rfl) ?_))))))
   ·exact (Fr he (by decide))
   ·exact (bB he.symm)
  ·have hc2 : z.all lJ = true := by simp only [Bool.not_eq_false'] at hc; exact hc
   have he:bH z s = 0:=by rw [uH,if_pos hb2,if_pos hc2]
   refine cU (ts (rm rfl (rm rfl (ro rfl (Hg (Ht rfl) (Ht rfl)) (gZ Z_38 (Ht rfl) (Ht rfl) rfl (i:=0) rfl (aK rfl) rfl rfl (ro rfl (cQ (cJ 0)) (eJ (bN rfl (fJ (fY A_38 Z_38 rfl (i:=0) rfl rfl) ?_) (fJ (fQ rfl) ?_)))))))))
   ·exact (Nz he)
   ·exact (bB he.symm)
theorem Mx {z:List Qi} {s c:List (List Qi)} (hz:z.length ≤ 1000) (hc:c.length ≤ 1000):aS Tryz.prog 92 [sL z s,QM c] (gE [mM (fS (cE z c) z) (fS (cE z c) s) (fS (cE z c) c),bC .i64 (cE z c)]):=by
 refine aS.intro Tryz.func92 rfl Tryz.ntmps92 rfl (fun cx=>(ts (rn rfl (fU (Ht rfl)) fun B2=>(rn rfl (eK (Ts:=[Is (.slice none 0 0),Is (.slice none 0 0),Is (.slice none 0 0)]) O_40 rfl (fun V=>aW zd (aW zd (aW zd (aG))))) fun B4=>(ro rfl (cQ (cJ 0)) (eJ (cK (ts (rm rfl (ro rfl (dU U_36 (Ht rfl) aA) (ro rfl (eW wJ (Ht rfl) rfl) (ro rfl (fX A_35 Z_35 (Ht rfl) (i:=0) rfl rfl) (ro rfl (dU U_35 (Ht rfl) aA) ?_)))))))))))))
 refine ro rfl (gY (Ht rfl) (Ht rfl)) (eJ (dQ (Ht rfl) (fun hb=>?_) (fun hb=>?_)))
 ·have hb2 : ¬ c.length = z.length := by simpa using hb
  have he:cE z c = 4:=by rw [← sF,tI,if_pos (.inl hb2)]
  refine ts (ro rfl (aI.imp (Jt ) yL) (gZ Z_40 (Ht rfl) (Ht rfl) rfl (i:=1) rfl (aK rfl) rfl rfl (ro rfl (cQ (cJ 4)) (eJ (bN rfl (fJ (fY A_40 Z_40 rfl (i:=1) rfl rfl) ?_) (fJ (fQ rfl) ?_))))))
  ·exact (yK he)
  ·exact (bB he.symm)
 ·have hb2 : c.length = z.length := by simpa using hb
  refine cU (cK (ts (ro rfl (cQ (cJ 0)) (eJ (eU ?_)))))
  refine bF (fun (k : Nat) => k ≤ c.length ∧ ∀ (i : Nat) (r : List Qi), i < k → c[i]? = some r → r.length = z.length) (fun (k : Nat) => c.length - k) (fun (k : Nat) => [(1, QM c), (2, cC B2 0), (4, cC B4 0), (6, NT .i64 k)]) (fun (k : Nat) => [box B2 38 [xA z, QM s], box B4 40 [Is (.slice none 0 0), Is (.slice none 0 0), Is (.slice none 0 0)]]) 0 ⟨Nat.zero_le _, fun i r h => by omega⟩
   (zS rfl) (cL.refl _) (fun k ⟨hk,hr⟩=>?_)
  refine cK (ts (rm rfl (rm rfl (ro rfl (dU U_36 (Ht rfl) aA) (ro rfl (gJ (Ht rfl) (Ht rfl)) (eJ (dQ (Ht rfl) (fun hd=>?_) (fun hd=>?_))))))))
  ·simp only [decide_eq_true_eq] at hd
   refine cU (cK (eU (cK (fV (m:=8) (dp 1 rfl (cX (Ht rfl)) (dp 6 rfl (cX (Ht rfl)) (cH 20 0 21 1 rfl (dZ U_36 Z_35 (Ht rfl) (Ht rfl) rfl (eX (mO hd))) (dq 22 2 rfl (dJ A_35 Z_35 (Ht rfl)) (dq 23 3 rfl (dU U_35 (Ht rfl) aA) (dp 2 rfl (eW wJ (Ht rfl) rfl) (dq 25 5 rfl (fX A_35 Z_35 (Ht rfl) (i:=0) rfl rfl) (dq 26 6 rfl (dU U_35 (Ht rfl) aA) (fG aM rfl (by kernel_rfl) (zF (zF (aV ?_))))))))))))))))
   refine ro rfl (gY (Ht rfl) (Ht rfl)) (eJ (dQ (Ht rfl) (fun he=>?_) (fun he=>?_)))
   ·have hd2 : ¬ (c[k]).length = z.length := by simpa using he
    have he:cE z c = 4:=by rw [← sF,tI,if_pos (.inr (Jl (mO hd) hd2))]
    refine ts (ro rfl (aI.imp (Jt ) yL) (gZ Z_40 (Ht rfl) (Ht rfl) rfl (i:=1) rfl (aK rfl) rfl rfl (ro rfl (cQ (cJ 4)) (eJ (bN rfl (fJ (fY A_40 Z_40 rfl (i:=1) rfl rfl) ?_) (fJ (fQ rfl) ?_))))))
    ·exact (yK he)
    ·exact (bB he.symm)
   ·have hd2 : (c[k]).length = z.length := by simpa using he
    refine cU (aR (cY (rm rfl (ro rfl (dW (Ht rfl) (cJ 1) z6) (ra rfl (eJ ?_))))))
    refine gQ (k + 1) ⟨hd, fun i r h1 h2 => by
      by_cases e:i = k
      ·subst e; rw [mO hd] at h2; obtain rfl:=Option.some.inj h2; exact hd2
      ·exact hr i r zo h2⟩ zo (zS rfl) (cL.refl _)
  ·simp only [decide_eq_false_iff_not] at hd
   have hall:∀ (i:Nat) (r:List Qi),c[i]? = some r → r.length = z.length:=fun i r h=>hr i r (by have:=(List.getElem?_eq_some_iff.1 h).1; omega) h
   have he:cE z c = 0:=by rw [← sF,tI,if_neg (by rintro (h | h); exact h hb2; rw [Db hall] at h; cases h)]
   refine gG rfl (ts (ro rfl (eG A_38 Z_38 (Ht rfl) (i:=0) rfl rfl rfl) (rm rfl (ro rfl (Hh (Ht rfl) (Ht rfl)) (gZ Z_40 (Ht rfl) (Ht rfl) rfl (i:=1) rfl (aK rfl) rfl rfl (ro rfl (cQ (cJ 0)) (eJ (bN rfl (fJ (fY A_40 Z_40 rfl (i:=1) rfl rfl) ?_) (fJ (fQ rfl) ?_)))))))))
   ·exact (Ft he)
   ·exact (bB he.symm)
theorem Vh {x:Qi} {L:Nat} [hx:aD x L] (h:L ≤ 17592186044415):aS Tryz.prog 179 [QT x] (aC (decide (gL x.b 0 = 0) && decide (0 ≤ gL x.a 0))):=by
 refine aS.intro Tryz.func179 rfl Tryz.ntmps179 rfl (fun cx=>(ts (rn rfl (fU (Ht rfl)) fun B1=>(ro rfl (cQ cV) (eJ (ts (ro rfl (eG A_131 Z_131 (Ht rfl) (i:=0) rfl rfl rfl) (ro rfl (cZ Tryz.call242 (Kg zo) ⟨(Ht rfl),trivial⟩) (ro rfl (iH (Ht rfl) cV) (rm rfl (fZ rfl rfl (eY rfl rfl (Ht rfl) (fun h=>eG A_131 Z_131 (Ht rfl) (i:=0) rfl rfl rfl)) (fZ rfl rfl (eY rfl rfl (Ht rfl) (fun h=>cZ Tryz.call239 wA ⟨(fW rfl h),trivial⟩)) (fZ rfl rfl (eY rfl rfl (Ht rfl) (fun h=>kV (fW rfl h) cV)) ?_)))))))))))))
 refine ro rfl (dP (Ht rfl) (fun h=>(fW rfl h))) (ra rfl (eJ ?_))
 exact fK rfl (fQ rfl)
end
section
open Go Go.RowKit
theorem a0q {z:List Rt} {s c:List (List Rt)} (hf:uD z s c = true):aS Tryz.prog 17 [Ou z s c] (gE [iS (Lg z s c) (Ul z s c) (Uk z s c),mM (Lg z s c) (Ul z s c) (Uk z s c),aC true]):=by
 obtain ⟨hz,hs,hc,hsr,hcr⟩:=wK hf
 have hsr2:∀ r,r ∈ s → r.length ≤ 1000:=fun r h=>Nat.le_trans (hsr r h) (by decide)
 have hcr2:∀ r,r ∈ c → r.length ≤ 1000:=fun r h=>Nat.le_trans (hcr r h) (by decide)
 have hz1:(z.map Rt.q).length ≤ 1000:=by simp; omega
 have hs1:(rq s).length ≤ 1000:=by simp; omega
 have hc1:(rq c).length ≤ 1000:=by simp; omega
 have hz2:(fS (bH (z.map Rt.q) (rq s)) (z.map Rt.q)).length ≤ 1000:=Nat.le_trans (Xd _ _) hz1
 have hfit:dN (z.map Rt.q) 2:=dN.rt
 refine aS.intro Tryz.func17 rfl Tryz.ntmps17 rfl (fun cx=>(ts (rn rfl (fU (Ht rfl)) fun B1=>(rn rfl (eK (Ts:=[Is (.slice none 0 0),Is (.slice none 0 0),Is (.slice none 0 0)]) O_34 rfl (fun V=>aW zd (aW zd (aW zd (aG))))) fun B2=>(rn rfl (eK (Ts:=[Is (.slice none 0 0),Is (.slice none 0 0),Is (.slice none 0 0)]) O_40 rfl (fun V=>aW zd (aW zd (aW zd (aG))))) fun B3=>(ro rfl (cQ cV) ?_))))))
 refine eJ (cK (Y.D_start (m:=12) [] (bY (Ei:=[(1,_)]) rfl rfl (bQ (bJ rfl rfl) bX) rfl rfl (dX rfl (eW Bv (Ht rfl) rfl)) (bY (Ei:=[(14,_)]) rfl rfl (bQ (bZ 0 rfl rfl) bX) rfl rfl (dX rfl (fX A_22 Z_22 (Ht rfl) (i:=0) rfl rfl)) (bY (Ei:=[(15,_)]) rfl rfl (bQ (bZ 1 rfl rfl) bX) rfl rfl (dX rfl (cZ Tryz.call48 (tU zo) ⟨(Ht rfl),trivial⟩)) (bY (Ei:=[(1,_)]) rfl rfl (bQ (bJ rfl rfl) bX) rfl rfl (dX rfl (eW wG (Ht rfl) rfl)) ?_))))))
 refine bY (Ei:=[(17,_)]) rfl rfl (bQ (bZ 3 rfl rfl) bX) rfl rfl (dX rfl (fX A_23 Z_23 (Ht rfl) (i:=0) rfl rfl)) (bY (Ei:=[(18,_)]) rfl rfl (bQ (bZ 4 rfl rfl) bX) rfl rfl (dX rfl (cZ Tryz.call86 (tV zo (by assumption)) ⟨(Ht rfl),trivial⟩)) ?_)
 refine bY (Ei:=[(16,_),(19,_)]) rfl rfl (bQ (bZ 2 rfl rfl) (bQ (bZ 5 rfl rfl) bX)) rfl rfl (dX rfl (cZ Tryz.call85 (Dj (L:=2) (by assumption) zo zo zo) ⟨(Ht rfl),(Ht rfl),trivial⟩)) ?_
 refine bY (Ei:=[(20,_)]) rfl rfl (bQ (bZ 6 rfl rfl) bX) rfl rfl (dX rfl (cX (Ht rfl))) (bY (Ei:=[(13,_)]) rfl rfl (bQ (bZ 7 rfl rfl) bX) rfl rfl (dX rfl (dY (Ht rfl) rfl)) (bY (Ei:=[(13,_)]) rfl rfl (bQ (bZ 7 rfl rfl) bX) rfl rfl (dX rfl (dY (Ht rfl) rfl)) (Y.D_newp (Ei:=[]) (fun bb=>box bb 32 [cB (fS (bH (z.map Rt.q) (rq s)) (z.map Rt.q)),bS (fS (bH (z.map Rt.q) (rq s)) (rq s))]) 11 rfl rfl rfl bX rfl rfl (by kernel_rfl) (eK (Ts:=[Is (.slice none 0 0),Is (.slice none 0 0)]) O_32 rfl (fun V=>aW zd (aW zd (aG)))) ?_)))
 refine Y.D_putN (Ei:=[(21,_)]) 10 rfl rfl rfl rfl rfl rfl (bQ (bZ 8 rfl rfl) bX) (fun bb=>mX Z_32 (Ht rfl) (Ht rfl) rfl (i:=0) rfl (aK rfl) rfl rfl) (Y.D_done aM rfl (by kernel_rfl) rfl (by simp [Y.okP]) rfl rfl (bU (bU (bU (bU (bU (bU (bU (bU (bU (bU (Y.F_newp (fun B5=>Y.F_putN (Y.F_nil ?_))))))))))))))
 refine ra rfl (eJ (cK (Y.D_start (m:=10) [] (bY (Ei:=[(5,_)]) rfl rfl (bQ (bJ rfl rfl) bX) rfl rfl (dX rfl (eG A_32 Z_32 (Ht rfl) (i:=3) rfl rfl rfl)) (bY (Ei:=[(1,_)]) rfl rfl (bQ (bJ rfl rfl) bX) rfl rfl (dX rfl (eW wH (Ht rfl) rfl)) (bY (Ei:=[(25,_)]) rfl rfl (bQ (bZ 1 rfl rfl) bX) rfl rfl (dX rfl (fX A_23 Z_23 (Ht rfl) (i:=0) rfl rfl)) (bY (Ei:=[(26,_)]) rfl rfl (bQ (bZ 2 rfl rfl) bX) rfl rfl (dX rfl (cZ Tryz.call86 (tV zo (by assumption)) ⟨(Ht rfl),trivial⟩)) ?_)))))))
 refine bY (Ei:=[(24,_),(27,_)]) rfl rfl (bQ (bZ 0 rfl rfl) (bQ (bZ 3 rfl rfl) bX)) rfl rfl (dX rfl (cZ Tryz.call55 (Qd zo zo) ⟨(Ht rfl),(Ht rfl),trivial⟩)) (bY (Ei:=[(28,_)]) rfl rfl (bQ (bZ 4 rfl rfl) bX) rfl rfl (dX rfl (cX (Ht rfl))) (bY (Ei:=[(23,_)]) rfl rfl (bQ (bZ 5 rfl rfl) bX) rfl rfl (dX rfl (dY (Ht rfl) rfl)) (bY (Ei:=[(23,_)]) rfl rfl (bQ (bZ 5 rfl rfl) bX) rfl rfl (dX rfl (dY (Ht rfl) rfl)) ?_)))
 refine Y.D_newp (Ei:=[]) (fun bb=>box bb 34 [cB (fS (cE (fS (bH (z.map Rt.q) (rq s)) (z.map Rt.q)) (rq c)) (fS (bH (z.map Rt.q) (rq s)) (z.map Rt.q))),bS (fS (cE (fS (bH (z.map Rt.q) (rq s)) (z.map Rt.q)) (rq c)) (fS (bH (z.map Rt.q) (rq s)) (rq s))),bS (fS (cE (fS (bH (z.map Rt.q) (rq s)) (z.map Rt.q)) (rq c)) (rq c))]) 9 rfl rfl rfl bX rfl rfl (by kernel_rfl) (eK (Ts:=[Is (.slice none 0 0),Is (.slice none 0 0),Is (.slice none 0 0)]) O_34 rfl (fun V=>aW zd (aW zd (aW zd (aG))))) ?_
 refine Y.D_putN (Ei:=[(29,_)]) 8 rfl rfl rfl rfl rfl rfl (bQ (bZ 6 rfl rfl) bX) (fun bb=>mX Z_34 (Ht rfl) (Ht rfl) rfl (i:=0) rfl (aK rfl) rfl rfl) (Y.D_done aM rfl (by kernel_rfl) rfl (by simp [Y.okP]) rfl rfl (bU (bU (bU (bU (bU (bU (bU (bU (Y.F_newp (fun B7=>Y.F_putN (Y.F_nil ?_))))))))))))
 refine ra rfl (eJ (cK (Y.D_start (m:=12) [] (bY (Ei:=[(1,_)]) rfl rfl (bQ (bJ rfl rfl) bX) rfl rfl (dX rfl (eW Bv (Ht rfl) rfl)) (bY (Ei:=[(32,_)]) rfl rfl (bQ (bZ 0 rfl rfl) bX) rfl rfl (dX rfl (fX A_22 Z_22 (Ht rfl) (i:=0) rfl rfl)) (bY (Ei:=[(33,_)]) rfl rfl (bQ (bZ 1 rfl rfl) bX) rfl rfl (dX rfl (cZ Tryz.call50 (zW zo) ⟨(Ht rfl),trivial⟩)) (bY (Ei:=[(1,_)]) rfl rfl (bQ (bJ rfl rfl) bX) rfl rfl (dX rfl (eW wG (Ht rfl) rfl)) ?_)))))))
 refine bY (Ei:=[(35,_)]) rfl rfl (bQ (bZ 3 rfl rfl) bX) rfl rfl (dX rfl (fX A_23 Z_23 (Ht rfl) (i:=0) rfl rfl)) (bY (Ei:=[(36,_)]) rfl rfl (bQ (bZ 4 rfl rfl) bX) rfl rfl (dX rfl (cZ Tryz.call91 (zX zo (by assumption)) ⟨(Ht rfl),trivial⟩)) ?_)
 refine bY (Ei:=[(34,_),(37,_)]) rfl rfl (bQ (bZ 2 rfl rfl) (bQ (bZ 5 rfl rfl) bX)) rfl rfl (dX rfl (cZ Tryz.call90 (Mw (L:=2) (by assumption) zo zo zo) ⟨(Ht rfl),(Ht rfl),trivial⟩)) ?_
 refine bY (Ei:=[(38,_)]) rfl rfl (bQ (bZ 6 rfl rfl) bX) rfl rfl (dX rfl (cX (Ht rfl))) (bY (Ei:=[(31,_)]) rfl rfl (bQ (bZ 7 rfl rfl) bX) rfl rfl (dX rfl (dY (Ht rfl) rfl)) (bY (Ei:=[(31,_)]) rfl rfl (bQ (bZ 7 rfl rfl) bX) rfl rfl (dX rfl (dY (Ht rfl) rfl)) (Y.D_newp (Ei:=[]) (fun bb=>box bb 38 [xA (fS (bH (z.map Rt.q) (rq s)) (z.map Rt.q)),QM (fS (bH (z.map Rt.q) (rq s)) (rq s))]) 11 rfl rfl rfl bX rfl rfl (by kernel_rfl) (eK (Ts:=[Is (.slice none 0 0),Is (.slice none 0 0)]) O_38 rfl (fun V=>aW zd (aW zd (aG)))) ?_)))
 refine Y.D_putN (Ei:=[(39,_)]) 10 rfl rfl rfl rfl rfl rfl (bQ (bZ 8 rfl rfl) bX) (fun bb=>mX Z_38 (Ht rfl) (Ht rfl) rfl (i:=0) rfl (aK rfl) rfl rfl) (Y.D_done aM rfl (by kernel_rfl) rfl (by simp [Y.okP]) rfl rfl (bU (bU (bU (bU (bU (bU (bU (bU (bU (bU (Y.F_newp (fun B9=>Y.F_putN (Y.F_nil ?_))))))))))))))
 refine ra rfl (eJ (cK (Y.D_start (m:=10) [] (bY (Ei:=[(9,_)]) rfl rfl (bQ (bJ rfl rfl) bX) rfl rfl (dX rfl (eG A_38 Z_38 (Ht rfl) (i:=5) rfl rfl rfl)) (bY (Ei:=[(1,_)]) rfl rfl (bQ (bJ rfl rfl) bX) rfl rfl (dX rfl (eW wH (Ht rfl) rfl)) (bY (Ei:=[(43,_)]) rfl rfl (bQ (bZ 1 rfl rfl) bX) rfl rfl (dX rfl (fX A_23 Z_23 (Ht rfl) (i:=0) rfl rfl)) (bY (Ei:=[(44,_)]) rfl rfl (bQ (bZ 2 rfl rfl) bX) rfl rfl (dX rfl (cZ Tryz.call91 (zX zo (by assumption)) ⟨(Ht rfl),trivial⟩)) ?_)))))))
 refine bY (Ei:=[(42,_),(45,_)]) rfl rfl (bQ (bZ 0 rfl rfl) (bQ (bZ 3 rfl rfl) bX)) rfl rfl (dX rfl (cZ Tryz.call92 (Mx zo zo) ⟨(Ht rfl),(Ht rfl),trivial⟩)) (bY (Ei:=[(46,_)]) rfl rfl (bQ (bZ 4 rfl rfl) bX) rfl rfl (dX rfl (cX (Ht rfl))) (bY (Ei:=[(41,_)]) rfl rfl (bQ (bZ 5 rfl rfl) bX) rfl rfl (dX rfl (dY (Ht rfl) rfl)) (bY (Ei:=[(41,_)]) rfl rfl (bQ (bZ 5 rfl rfl) bX) rfl rfl (dX rfl (dY (Ht rfl) rfl)) ?_)))
 refine Y.D_newp (Ei:=[]) (fun bb=>box bb 40 [xA (fS (cE (fS (bH (z.map Rt.q) (rq s)) (z.map Rt.q)) (rq c)) (fS (bH (z.map Rt.q) (rq s)) (z.map Rt.q))),QM (fS (cE (fS (bH (z.map Rt.q) (rq s)) (z.map Rt.q)) (rq c)) (fS (bH (z.map Rt.q) (rq s)) (rq s))),QM (fS (cE (fS (bH (z.map Rt.q) (rq s)) (z.map Rt.q)) (rq c)) (rq c))]) 9 rfl rfl rfl bX rfl rfl (by kernel_rfl) (eK (Ts:=[Is (.slice none 0 0),Is (.slice none 0 0),Is (.slice none 0 0)]) O_40 rfl (fun V=>aW zd (aW zd (aW zd (aG))))) ?_
 refine Y.D_putN (Ei:=[(47,_)]) 8 rfl rfl rfl rfl rfl rfl (bQ (bZ 6 rfl rfl) bX) (fun bb=>mX Z_40 (Ht rfl) (Ht rfl) rfl (i:=0) rfl (aK rfl) rfl rfl) (Y.D_done aM rfl (by kernel_rfl) rfl (by simp [Y.okP]) rfl rfl (bU (bU (bU (bU (bU (bU (bU (bU (Y.F_newp (fun B11=>Y.F_putN (Y.F_nil ?_))))))))))))
 refine ra rfl (eJ (cK (Y.D_start (m:=16) [(14,1,box B2 34 [cB (fS (cE (fS (bH (z.map Rt.q) (rq s)) (z.map Rt.q)) (rq c)) (fS (bH (z.map Rt.q) (rq s)) (z.map Rt.q))),bS (fS (cE (fS (bH (z.map Rt.q) (rq s)) (z.map Rt.q)) (rq c)) (fS (bH (z.map Rt.q) (rq s)) (rq s))),bS (fS (cE (fS (bH (z.map Rt.q) (rq s)) (z.map Rt.q)) (rq c)) (rq c))]),(15,2,box B3 40 [xA (fS (cE (fS (bH (z.map Rt.q) (rq s)) (z.map Rt.q)) (rq c)) (fS (bH (z.map Rt.q) (rq s)) (z.map Rt.q))),QM (fS (cE (fS (bH (z.map Rt.q) (rq s)) (z.map Rt.q)) (rq c)) (fS (bH (z.map Rt.q) (rq s)) (rq s))),QM (fS (cE (fS (bH (z.map Rt.q) (rq s)) (z.map Rt.q)) (rq c)) (rq c))])] ?_)))
 refine Y.D_step (Ei:=[(7,_)]) rfl rfl (bQ (bJ rfl rfl) bX) rfl rfl (by kernel_rfl) (dX rfl (eG A_34 Z_34 (Ht rfl) (i:=4) rfl rfl rfl)) (bY (Ei:=[(11,_)]) rfl rfl (bQ (bJ rfl rfl) bX) rfl rfl (dX rfl (eG A_40 Z_40 (Ht rfl) (i:=6) rfl rfl rfl)) (Y.D_step (Ei:=[(6,_)]) rfl rfl (bQ (bJ rfl rfl) bX) rfl rfl (by kernel_rfl) (dX rfl (cX (Ht rfl))) (Y.D_step (Ei:=[(10,_)]) rfl rfl (bQ (bJ rfl rfl) bX) rfl rfl (by kernel_rfl) (dX rfl (cX (Ht rfl))) ?_)))
 refine Y.D_step (Ei:=[(51,_),(52,_)]) rfl rfl (bQ (bZ 2 rfl rfl) (bQ (bZ 3 rfl rfl) bX)) rfl rfl (by kernel_rfl) (dX rfl (iH (Ht rfl) (Ht rfl))) (Y.D_step (Ei:=[(53,_)]) rfl rfl (bQ (bZ 4 rfl rfl) bX) rfl rfl (by kernel_rfl) (dX rfl (cX (Ht rfl))) (Y.D_step (Ei:=[(6,_),(54,_)]) rfl rfl (bQ (bJ rfl rfl) (bQ (bZ 5 rfl rfl) bX)) rfl rfl (by kernel_rfl) (jY rfl rfl (Ht rfl) (fun h=>cX (Ht rfl))) (Y.D_step (Ei:=[(55,_),(54,_)]) rfl rfl (bQ (bZ 6 rfl rfl) (bQ (bZ 5 rfl rfl) bX)) rfl rfl (by kernel_rfl) (jY rfl rfl (Ht rfl) (fun h=>uY (bD.wu rfl h) cV)) ?_)))
 refine Y.D_step (Ei:=[(56,_),(54,_)]) rfl rfl (bQ (bZ 7 rfl rfl) (bQ (bZ 5 rfl rfl) bX)) rfl rfl (by kernel_rfl) (jY rfl rfl (Ht rfl) (fun h=>cX (bD.wu rfl h))) (bY (Ei:=[(8,_),(57,_)]) rfl rfl (bQ (bJ rfl rfl) (bQ (bZ 8 rfl rfl) bX)) rfl rfl (nK rfl rfl rfl (fun h h2=>cX (Ht rfl))) (bY (Ei:=[(12,_),(57,_)]) rfl rfl (bQ (bJ rfl rfl) (bQ (bZ 8 rfl rfl) bX)) rfl rfl (nK rfl rfl rfl (fun h h2=>cX (Ht rfl))) (bY (Ei:=[(58,_),(59,_),(57,_)]) rfl rfl (bQ (bZ 9 rfl rfl) (bQ (bZ 10 rfl rfl) (bQ (bZ 8 rfl rfl) bX))) rfl rfl (nK rfl rfl rfl (fun h h2=>iH (bD.wu rfl ⟨h,h2⟩) (bD.wu rfl ⟨h,h2⟩))) ?_)))
 refine bY (Ei:=[(57,_),(60,_),(54,_)]) rfl rfl (bQ (bZ 8 rfl rfl) (bQ (bZ 11 rfl rfl) (bQ (bZ 5 rfl rfl) bX))) rfl rfl (jY rfl rfl (Ht rfl) (fun h=>iW (bD.wu rfl h) (fun h2=>(bD.wu rfl ⟨h,h2⟩)))) (bY (Ei:=[(54,_),(61,_)]) rfl rfl (bQ (bZ 5 rfl rfl) (bQ (bZ 12 rfl rfl) bX)) rfl rfl (dX rfl (dP (Ht rfl) (fun h=>(bD.wu rfl h)))) (Y.D_putI (Ei:=[(2,_),(49,_)]) 1 rfl rfl rfl (bQ (bJ rfl rfl) (bQ (bZ 0 rfl rfl) bX)) (.head _) rfl (mX Z_34 (Ht rfl) (Ht rfl) rfl (i:=0) rfl (aK rfl) rfl rfl) ?_))
 refine Y.D_putI (Ei:=[(3,_),(50,_)]) 2 rfl rfl rfl (bQ (bJ rfl rfl) (bQ (bZ 1 rfl rfl) bX)) (.tail _ (.head _)) rfl (mX Z_40 (Ht rfl) (Ht rfl) rfl (i:=0) rfl (aK rfl) rfl rfl) (Y.D_done aM rfl (by kernel_rfl) rfl (by simp [Y.okP]) rfl rfl (bU (bU (bU (bU (bU (bU (bU (bU (bU (bU (bU (bU (bU (bU (Y.F_putI (Y.F_putI (Y.F_nil ?_))))))))))))))))))
 refine ra rfl (eJ (xF rfl (fY A_34 Z_34 rfl (i:=1) rfl rfl) (fY A_40 Z_40 rfl (i:=2) rfl rfl) (fJ (fQ rfl) ?_)))
 exact (bI (by simp))
end
section
open Go Go.RowKit
theorem Wi (a:Addr) (w:World):(Instr.fieldAt 38 (.pointer (some a)) 1).run Tryz.prog w = .ok (.pointer (some (a.add 1))) w:=by
 simp [Instr.fieldAt,Instr.sureAddr,fieldPlace,Sem.run_bind,Result.andThen,U_38,Z_36]
end
section
open Go Go.RowKit
theorem Dh {n m:Nat} (hn:n ≤ 1000) (hm:m ≤ 1000):fT Tryz.prog 129 [NT .i64 n,NT .i64 m] [] (Nat) (fun B=>Is (.slice (some ⟨B,0,none⟩) n n)) (fun B=>[kG fH B 35 131 5 (bR QT (Gr n m))]) (fun _=>True):=by
 refine fT.intro Tryz.func129 rfl Tryz.ntmps129 rfl (fun cx Z=>(ts (ro rfl (cQ cV) (eJ (ts (rm rfl (rn rfl (dH (T:=Is (.slice none 0 0)) (i:=Tryz.t35) Tryz.underlying36 Ca rfl rfl (Ht rfl) rfl (fun _=>rfl) trivial (by show 24 * _ ≤ _; omega) zo) fun B9=>(ra rfl (eJ (cK (ts (ro rfl (cQ (cJ 0)) (eJ (eU (oA 1 rfl (tD fH ⟨none,0,rfl⟩ (e:=131) (s:=5)) ?_)))))))))))))))
 refine eH (fun (k : Nat) (M : List (List Qi)) => kI (fun _ => tab m fun _ => Qi.zero) n M k) (fun (k : Nat) (M : List (List Qi)) => n - k) (fun (k : Nat) (M : List (List Qi)) => [(0, NT .i64 n), (1, NT .i64 m), (5, Is (.slice (some ⟨B9, 0, none⟩) n n)), (6, NT .i64 k)]) (fun (k : Nat) (M : List (List Qi)) => [Z, kG fH B9 35 131 5 (bR QT M)]) 0 (List.replicate n []) (kI.start _ _ _)
  (zS rfl) (aU (fun _ _ _ h=>h) (aU (bP (kL QT n)) aY)) (fun k M hS=>?_)
 refine cK (ts (rm rfl (rm rfl (ro rfl (gJ (Ht rfl) (Ht rfl)) (eJ (dQ (Ht rfl) (fun hk=>?_) (fun hk=>?_)))))))
 ·simp only [decide_eq_true_eq] at hk
  have hlen:=hS.len
  refine lC 1 (k) rfl (qC (m:=M) (i:=k) zo) (fun v hv=>(cU (cK (eU (ts (rm rfl (rm rfl (rm rfl (Ji (T:=ZQ) (i:=Tryz.t131) Jb xZ rfl rfl (Ht rfl) rfl a1V (El.ag rfl) (by show 88 * _ ≤ _; omega) zo rfl (fun B18 hB18=>(ro rfl (gX U_36 Z_35 (Ht rfl) (Ht rfl) rfl zo (by rw [Nat.mul_one,Nat.zero_add])) ?_)))))))))))
  refine pO Z_35 (Ht rfl) (Ht rfl) (by simp; omega) (j:=1) (l:=3) rfl rfl rfl ?_
  refine eJ (cK (cM [0,1,3] rfl (by decide) (cY (ro rfl (cQ (cJ 0)) (eJ (eU ?_))))))
  refine eH (fun (j : Nat) (out : List Ty) => kI (fun _ => QT Qi.zero) m out j) (fun (j : Nat) (out : List Ty) => m - j) (fun (j : Nat) (out : List Ty) => [(0, NT .i64 n), (1, NT .i64 m), (5, Is (.slice (some ⟨B9, 0, none⟩) n n)), (6, NT .i64 k), (7, NT .i64 j)]) (fun (j : Nat) (out : List Ty) => [Z, pC fH B9 35 131 5 (bR QT M) k B18, bO 131 5 B18 out]) 0 (List.replicate m ZQ) (kI.start _ _ _)
   (zS rfl) (cL.refl _) (fun j out hT=>?_)
  refine cK (ts (rm rfl (rm rfl (ro rfl (gJ (Ht rfl) (Ht rfl)) (eJ (dQ (Ht rfl) (fun hj=>?_) (fun hj=>?_)))))))
  ·simp only [decide_eq_true_eq] at hj
   have hlen2:=hT.len
   refine cU (cK (eU (fV (m:=6) (dp 5 rfl (cX (Ht rfl)) (dp 6 rfl (cX (Ht rfl)) (cH 25 0 26 1 rfl (gX U_36 Z_35 (Ht rfl) (Ht rfl) rfl zo (by rw [Nat.mul_one,Nat.zero_add])) ?_))))))
   refine dq 27 2 rfl (jK A_35 Z_35 (Ht rfl) (j:=1) rfl) (dp 7 rfl (cX (Ht rfl)) (d0 rfl (cZ K_148 (nA (by decide) (by decide)) ⟨(cJ 0),trivial⟩) (fG aM rfl (by kernel_rfl) (zF (aJ (aJ (aV (ro rfl (dM U_35 Z_131 (Ht rfl) (Ht rfl) rfl (i:=2) rfl zo rfl) (mY Z_131 (Ht rfl) (Ht rfl) (El.ag rfl) (i:=2) rfl rfl (by first | omega | (simp; omega)) rfl (eJ (aR (cY (rm rfl (ro rfl (dW (Ht rfl) (cJ 1) z6) ?_))))))))))))))
   refine ra rfl (eJ (gQ (j + 1,_) (hT.next hj rfl) (by dsimp only; omega) (zS rfl) (cL.refl _)))
  ·simp only [decide_eq_false_iff_not] at hj
   obtain rfl:j = m:=Nat.le_antisymm hT.kle zo
   have hfin:=hT.fin
   rw [← Mc _ (fun _=>Qi.zero) QT] at hfin
   subst hfin
   refine gG rfl (aR (fR 1 2 rfl rfl (by decide) (by show k < (bR QT M).length; simp only [bR,List.length_map]; omega) (cY (rm rfl (ro rfl (dW (Ht rfl) (cJ 1) z6) (ra rfl (eJ (cM [0,1] rfl (by decide) (gQ (k + 1,_) (hS.next hk rfl) (by dsimp only; omega) (zS rfl) (aU (fun _ _ _ h=>h) (aU (bP (gI QT _ _ _)) aY)))))))))))
 ·simp only [decide_eq_false_iff_not] at hk
  obtain rfl:k = n:=Nat.le_antisymm hS.kle zo
  have hfin:=hS.fin
  refine gG rfl (ts (rm rfl (ra rfl (eJ ?_))))
  exact iT B9 trivial [0,1] ⟨⟨_,rfl,fun _ _ _ h=>h⟩,⟨_,rfl,(bP (by rw [hfin]; rfl))⟩,trivial⟩ (by decide) (pH rfl (fQ rfl))
theorem Vj {p c:List (List Qi)} {L:Nat} (hp:bL p L) (hc:bL c L) (hL1:1 ≤ L) (hL:L ≤ 1000000000) (hps:eD p p.length c.length) (hcs:eD c c.length c.length) (hpl:p.length ≤ 8) (hcl:c.length ≤ 8):fT Tryz.prog 102 [QM p,QM c] [] (Nat) (fun B=>Is (.slice (some ⟨B,0,none⟩) p.length p.length)) (fun B=>[kG fH B 35 131 5 (bR QT (jQ p c))]) (fun _=>True):=by
 refine fT.intro Tryz.func102 rfl Tryz.ntmps102 rfl (fun cx Z=>(ts (ro rfl (cQ cV) (eJ (ts (rm rfl (ro rfl (dU U_36 (Ht rfl) aA) (rm rfl (ro rfl (dU U_36 (Ht rfl) aA) (lW Tryz.call129 (Dh (n:=p.length) (m:=p.length) zo zo) ⟨(Ht rfl),(Ht rfl),trivial⟩ rfl (fun B14 _=>(ra rfl (eJ (cK (ts (ro rfl (cQ (cJ 0)) (eJ (eU ?_))))))))))))))))))
 refine bF (fun (i : Nat) => i ≤ p.length) (fun (i : Nat) => p.length - i) (fun (i : Nat) => [(0, QM p), (1, QM c), (5, Is (.slice (some ⟨B14, 0, none⟩) p.length p.length)), (6, NT .i64 i)]) (fun (i : Nat) => [Z, kG fH B14 35 131 5 (bR QT (jJ (fun i => tab p.length fun k => tY p c c.length i k) (tab p.length fun _ => Qi.zero) p.length i))]) 0 (Nat.zero_le _)
  (zS rfl) (aU (fun _ _ _ h=>h) (aU (bP (by rw [Gr,jF])) aY)) (fun i hi=>?_)
 refine cK (ts (rm rfl (rm rfl (ro rfl (dU U_36 (Ht rfl) aA) (ro rfl (gJ (Ht rfl) (Ht rfl)) (eJ (dQ (Ht rfl) (fun hd=>?_) (fun hd=>?_))))))))
 ·simp only [decide_eq_true_eq] at hd
  refine lC 1 (i) rfl (jS hd) (fun v hv=>(cU (cK (eU (ts (ro rfl (cQ (cJ 0)) (eJ (eU ?_))))))))
  refine bF (fun (k : Nat) => k ≤ p.length) (fun (k : Nat) => p.length - k) (fun (k : Nat) => [(0, QM p), (1, QM c), (5, Is (.slice (some ⟨B14, 0, none⟩) p.length p.length)), (6, NT .i64 i), (7, NT .i64 k)]) (fun (k : Nat) => [Z, pC fH B14 35 131 5 (bR QT (jJ (fun i => tab p.length fun k => tY p c c.length i k) (tab p.length fun _ => Qi.zero) p.length i)) i v, bO 131 5 v ((jJ (fun k => tY p c c.length i k) Qi.zero p.length k).map QT)]) 0 (Nat.zero_le _)
   (zS rfl) (aU (fun _ _ _ h=>h) (aU (fun _ _ _ h=>h) (aU (bT (by rw [jF])) aY))) (fun k hk=>?_)
  refine cK (ts (rm rfl (rm rfl (ro rfl (dU U_36 (Ht rfl) aA) (ro rfl (gJ (Ht rfl) (Ht rfl)) (eJ (dQ (Ht rfl) (fun he=>?_) (fun he=>?_))))))))
  ·simp only [decide_eq_true_eq] at he
   have hrl:=eR (fun k=>tY p c c.length i k) Qi.zero p.length k
   refine cU (cK (eU (ts (ro rfl (cQ (cJ 0)) (eJ (eU ?_))))))
   refine bF (fun (a : Nat) => a ≤ c.length) (fun (a : Nat) => c.length - a) (fun (a : Nat) => [(0, QM p), (1, QM c), (5, Is (.slice (some ⟨B14, 0, none⟩) p.length p.length)), (6, NT .i64 i), (7, NT .i64 k), (8, NT .i64 a)]) (fun (a : Nat) => [Z, pC fH B14 35 131 5 (bR QT (jJ (fun i => tab p.length fun k => tY p c c.length i k) (tab p.length fun _ => Qi.zero) p.length i)) i v, bO 131 5 v (((jJ (fun k => tY p c c.length i k) Qi.zero p.length k).set k (bE a fun a => bE c.length fun b => sR p c i k a b)).map QT)]) 0 (Nat.zero_le _)
    (zS rfl) (aU (fun _ _ _ h=>h) (aU (fun _ _ _ h=>h) (aU (bT (by rw [bE,Sd he])) aY))) (fun a ha=>?_)
   refine cK (ts (rm rfl (rm rfl (ro rfl (dU U_36 (Ht rfl) aA) (ro rfl (gJ (Ht rfl) (Ht rfl)) (eJ (dQ (Ht rfl) (fun hf=>?_) (fun hf=>?_))))))))
   ·simp only [decide_eq_true_eq] at hf
    refine cU (cK (eU (ts (ro rfl (cQ (cJ 0)) (eJ (eU ?_))))))
    refine bF (fun (b : Nat) => b ≤ c.length) (fun (b : Nat) => c.length - b) (fun (b : Nat) => [(0, QM p), (1, QM c), (5, Is (.slice (some ⟨B14, 0, none⟩) p.length p.length)), (6, NT .i64 i), (7, NT .i64 k), (8, NT .i64 a), (9, NT .i64 b)]) (fun (b : Nat) => [Z, pC fH B14 35 131 5 (bR QT (jJ (fun i => tab p.length fun k => tY p c c.length i k) (tab p.length fun _ => Qi.zero) p.length i)) i v, bO 131 5 v (((jJ (fun k => tY p c c.length i k) Qi.zero p.length k).set k ((bE a fun a => bE c.length fun b => sR p c i k a b) + bE b fun b => sR p c i k a b)).map QT)]) 0 (Nat.zero_le _)
     (zS rfl) (aU (fun _ _ _ h=>h) (aU (fun _ _ _ h=>h) (aU (bT (by rw [bE,Qi.add_zero'])) aY))) (fun b hb=>?_)
    refine cK (ts (rm rfl (rm rfl (ro rfl (dU U_36 (Ht rfl) aA) (ro rfl (gJ (Ht rfl) (Ht rfl)) (eJ (dQ (Ht rfl) (fun hg=>?_) (fun hg=>?_))))))))
    ·simp only [decide_eq_true_eq] at hg
     have hpr:=hps.row hd
     have hpk:=hps.row he
     have hcr:=hcs.row hf
     haveI f1:aD (gm p i a) L:=hp.get hL1 i a
     haveI f2:aD (gm c a b) L:=hc.get hL1 a b
     haveI f3:aD (gm p k b) L:=hp.get hL1 k b
     haveI f4:aD (bE a fun a=>bE c.length fun b=>sR p c i k a b) (200 * L + 300):=Kj hp hc hL1 hcl zo i k
     haveI f5:aD (bE b fun b=>sR p c i k a b) (24 * L + 25):=Qs hp hc hL1 zo i k a
     have hsl:((jJ (fun k=>tY p c c.length i k) Qi.zero p.length k).set k ((bE a fun a=>bE c.length fun b=>sR p c i k a b) + bE b fun b=>sR p c i k a b)).length = p.length:=by rw [List.length_set,hrl]
     refine cU (cK (eU (fV (m:=37) (dp 5 rfl (cX (Ht rfl)) (dp 6 rfl (cX (Ht rfl)) (cH 39 0 40 1 rfl (gX U_36 Z_35 (Ht rfl) (Ht rfl) rfl zo (by rw [Nat.mul_one,Nat.zero_add])) ?_))))))
     refine dq 41 2 rfl (jK A_35 Z_35 (Ht rfl) (j:=1) rfl) (dp 7 rfl (cX (Ht rfl)) (dp 5 rfl (cX (Ht rfl)) (dp 6 rfl (cX (Ht rfl)) (cH 44 5 45 6 rfl (gX U_36 Z_35 (Ht rfl) (Ht rfl) rfl zo (by rw [Nat.mul_one,Nat.zero_add])) ?_))))
     refine dq 46 7 rfl (jK A_35 Z_35 (Ht rfl) (j:=1) rfl) (dp 7 rfl (cX (Ht rfl)) (cH 47 8 48 9 rfl (dM U_35 Z_131 (Ht rfl) (Ht rfl) rfl (i:=2) rfl (by simp only [List.length_map]; omega) rfl) ?_))
     refine dq 49 10 rfl (lR A_131 Z_131 (Ht rfl) (i:=2) rfl rfl (eX (Yf (by rw [hrl]; exact he)))) ?_
     refine dp 0 rfl (cX (Ht rfl)) (dp 6 rfl (cX (Ht rfl)) (cH 51 12 52 13 rfl (dZ U_36 Z_35 (Ht rfl) (Ht rfl) rfl (eX (eQ (d:=[]) hd))) (dq 53 14 rfl (dJ A_35 Z_35 (Ht rfl)) (dp 8 rfl (cX (Ht rfl)) (cH 54 15 55 16 rfl (dZ U_35 Z_131 (Ht rfl) (Ht rfl) rfl (eX (eQ (d:=Qi.zero) (by rw [hpr]; exact hf)))) ?_)))))
     refine dq 56 17 rfl (dJ A_131 Z_131 (Ht rfl)) (dp 1 rfl (cX (Ht rfl)) (dp 8 rfl (cX (Ht rfl)) (cH 58 19 59 20 rfl (dZ U_36 Z_35 (Ht rfl) (Ht rfl) rfl (eX (eQ (d:=[]) hf))) (dq 60 21 rfl (dJ A_35 Z_35 (Ht rfl)) (dp 9 rfl (cX (Ht rfl)) (cH 61 22 62 23 rfl (dZ U_35 Z_131 (Ht rfl) (Ht rfl) rfl (eX (eQ (d:=Qi.zero) (by rw [hcr]; exact hg)))) ?_))))))
     refine dq 63 24 rfl (dJ A_131 Z_131 (Ht rfl)) (cH 57 18 64 25 rfl (cZ K_146 (tX zo) ⟨(Ht rfl),(Ht rfl),trivial⟩) (dp 0 rfl (cX (Ht rfl)) (dp 7 rfl (cX (Ht rfl)) (cH 66 27 67 28 rfl (dZ U_36 Z_35 (Ht rfl) (Ht rfl) rfl (eX (eQ (d:=[]) he))) (dq 68 29 rfl (dJ A_35 Z_35 (Ht rfl)) (dp 9 rfl (cX (Ht rfl)) (cH 69 30 70 31 rfl (dZ U_35 Z_131 (Ht rfl) (Ht rfl) rfl (eX (eQ (d:=Qi.zero) (by rw [hpk]; exact hg)))) ?_)))))))
     refine dq 71 32 rfl (dJ A_131 Z_131 (Ht rfl)) (dq 72 33 rfl (cZ Tryz.call173 vZ ⟨(Ht rfl),trivial⟩) (cH 65 26 73 34 rfl (cZ K_146 (tX zo) ⟨(Ht rfl),(Ht rfl),trivial⟩) (cH 50 11 74 35 rfl (cZ Tryz.call149 (Qf zo) ⟨(Ht rfl),(Ht rfl),trivial⟩) (fG aM rfl (by kernel_rfl) (zF (zF (zF (zF (zF (zF (zF (zF (zF (aJ (aV ?_)))))))))))))))
     refine ro rfl (dM U_35 Z_131 (Ht rfl) (Ht rfl) rfl (i:=2) rfl (by simp only [List.length_map]; omega) rfl) ?_
     refine mY Z_131 (Ht rfl) (Ht rfl) (El.ag rfl) (i:=2) rfl rfl (by simp only [List.length_map]; omega) rfl ?_
     refine eJ (aR (cY (rm rfl (ro rfl (dW (Ht rfl) (cJ 1) z6) (ra rfl (eJ (gQ (b + 1) hg zo (zS rfl) (aU (fun _ _ _ h=>h) (aU (fun _ _ _ h=>h) (aU (bT (by rw [jU,List.set_set,Qi.add_assoc',bE]; rfl)) aY))))))))))
    ·simp only [decide_eq_false_iff_not] at hg
     obtain rfl:b = c.length:=Nat.le_antisymm hb zo
     refine gG rfl (aR (cY (rm rfl (ro rfl (dW (Ht rfl) (cJ 1) z6) (ra rfl (eJ (gQ (a + 1) hf zo (zS rfl) (aU (fun _ _ _ h=>h) (aU (fun _ _ _ h=>h) (aU (bT (by rw [bE])) aY))))))))))
   ·simp only [decide_eq_false_iff_not] at hf
    obtain rfl:a = c.length:=Nat.le_antisymm ha zo
    refine gG rfl (aR (cY (rm rfl (ro rfl (dW (Ht rfl) (cJ 1) z6) (ra rfl (eJ (gQ (k + 1) he zo (zS rfl) (aU (fun _ _ _ h=>h) (aU (fun _ _ _ h=>h) (aU (bT (by rw [← kP (f:=fun k=>tY p c c.length i k)]; rfl)) aY))))))))))
  ·simp only [decide_eq_false_iff_not] at he
   obtain rfl:k = p.length:=Nat.le_antisymm hk zo
   refine gG rfl (aR (fR 1 2 rfl rfl (by decide) (by simp only [bR,List.length_map,eR]; omega) ?_))
   refine cY (rm rfl (ro rfl (dW (Ht rfl) (cJ 1) z6) (ra rfl (eJ (cM [0,1] rfl (by decide) (gQ (i + 1) hd zo (zS rfl) (aU (fun _ _ _ h=>h) (aU (bP (by rw [gI,kO,← kP (f:=(fun i=>tab p.length fun k=>tY p c c.length i k))])) aY))))))))
 ·simp only [decide_eq_false_iff_not] at hd
  obtain rfl:i = p.length:=Nat.le_antisymm hi zo
  refine gG rfl (ts (rm rfl (ra rfl (eJ ?_))))
  exact iT B14 trivial [0,1] ⟨⟨_,rfl,fun _ _ _ h=>h⟩,⟨_,rfl,(bP (by rw [kO]; rfl))⟩,trivial⟩ (by decide) (pH rfl (fQ rfl))
theorem Vk {z:List Qi} {s:List (List Qi)} {L:Nat} (hz:dN z L) (hs:bL s L) (hL1:1 ≤ L) (hL:L ≤ 4000) (hsh:eD s z.length z.length) (hl:z.length ≤ 8):fT Tryz.prog 178 [sL z s] [] (Nat) (fun B=>Is (.slice (some ⟨B,0,none⟩) z.length z.length)) (fun B=>[kG fH B 35 131 5 (bR QT (jT z s))]) (fun _=>True):=by
 have hs1:=hs.le (Nat.le_refl L)
 have hsl:=hsh.1
 have hD:=xR z
 have hDf:=sX hz hL1
 have hXf:=sP hs hDf hL1 (by rw [hD.1]; exact hl)
 have hX:eD (jQ s (dD z)) s.length s.length:=sQ
 refine fT.intro Tryz.func178 rfl Tryz.ntmps178 rfl (fun cx Z=>(ts (rn rfl (fU (Ht rfl)) fun B1=>(ro rfl (cQ cV) (eJ (ts (ro rfl (eW wJ (Ht rfl) rfl) (ro rfl (fX A_35 Z_35 (Ht rfl) (i:=1) rfl rfl) (ro rfl (dU U_35 (Ht rfl) aA) (ra rfl (eJ (ts (rm rfl (rm rfl (lW Tryz.call129 (Dh (n:=z.length) (m:=z.length) zo zo) ⟨(Ht rfl),(Ht rfl),trivial⟩ rfl (fun B14 _=>(ra rfl (eJ (cK (ts (ro rfl (cQ (cJ 0)) (eJ (eU ?_)))))))))))))))))))))))
 refine bF (fun (i : Nat) => i ≤ z.length) (fun (i : Nat) => z.length - i) (fun (i : Nat) => [(1, cC B1 0), (3, NT .i64 z.length), (4, Is (.slice (some ⟨B14, 0, none⟩) z.length z.length)), (5, NT .i64 i)]) (fun (i : Nat) => [Z, box B1 38 [xA z, QM s], kG fH B14 35 131 5 (bR QT (jJ (fun i => (tab z.length fun _ => Qi.zero).set i (gv z i)) (tab z.length fun _ => Qi.zero) z.length i))]) 0 (Nat.zero_le _)
  (zS rfl) (aU (fun _ _ _ h=>h) (aU (fun _ _ _ h=>h) (aU (bP (by rw [Gr,jF])) aY))) (fun i hi=>?_)
 refine cK (ts (rm rfl (rm rfl (ro rfl (gJ (Ht rfl) (Ht rfl)) (eJ (dQ (Ht rfl) (fun hd=>?_) (fun hd=>?_)))))))
 ·simp only [decide_eq_true_eq] at hd
  have hzl:=aT z.length fun _=>Qi.zero
  refine lC 2 (i) rfl (jS hd) (fun v hv=>(cU (cK (eU (fV (m:=10) (dp 4 rfl (cX (Ht rfl)) (dp 5 rfl (cX (Ht rfl)) (cH 20 0 21 1 rfl (gX U_36 Z_35 (Ht rfl) (Ht rfl) rfl zo (by rw [Nat.mul_one,Nat.zero_add])) ?_))))))))
  refine dq 22 2 rfl (jK A_35 Z_35 (Ht rfl) (j:=2) rfl) (dp 5 rfl (cX (Ht rfl)) (dp 1 rfl (eW wJ (Ht rfl) rfl) (dq 25 5 rfl (fX A_35 Z_35 (Ht rfl) (i:=1) rfl rfl) (dp 5 rfl (cX (Ht rfl)) (cH 26 6 27 7 rfl (dZ U_35 Z_131 (Ht rfl) (Ht rfl) rfl (eX (eQ (d:=Qi.zero) hd))) (dq 28 8 rfl (dJ A_131 Z_131 (Ht rfl)) (fG aM rfl (by kernel_rfl) (zF (zF (aJ (aJ (aV (ro rfl (dM U_35 Z_131 (Ht rfl) (Ht rfl) rfl (i:=3) rfl (by simp only [List.length_map,aT]; omega) rfl) ?_)))))))))))))
  refine mY Z_131 (Ht rfl) (Ht rfl) (El.ag rfl) (i:=3) rfl rfl (by simp only [List.length_map,aT]; omega) rfl ?_
  refine eJ (aR (fR 2 3 rfl rfl (by decide) (by simp only [bR,List.length_map,eR]; omega) ?_))
  refine cY (rm rfl (ro rfl (dW (Ht rfl) (cJ 1) z6) (ra rfl (eJ (cM [0,1,2] rfl (by decide) (gQ (i + 1) hd zo (zS rfl) (aU (fun _ _ _ h=>h) (aU (fun _ _ _ h=>h) (aU (bP (by rw [jU,gI,← kP (f:=(fun i=>(tab z.length fun _=>Qi.zero).set i (gv z i)))])) aY)))))))))
 ·simp only [decide_eq_false_iff_not] at hd
  obtain rfl:i = z.length:=Nat.le_antisymm hi zo
  rw [kO]
  refine gG rfl (ts (ro rfl (eW Wi (Ht rfl) rfl) (ro rfl (fX A_36 Z_36 (Ht rfl) (i:=1) rfl rfl) (rm rfl (Ox Tryz.call102 (Vj (p:=s) (c:=dD z) (L:=L) hs hDf hL1 zo (by rw [hD.1,hsl]; exact hsh) (by rw [hD.1]; exact hD) zo (by rw [hD.1]; exact hl)) (j:=2) (tt:=33) rfl rfl (jB (s:=5) (M:=dD z) hD.1.symm) Sm (fun _=>inferInstance) (fun _ B hB=>by simp only [List.mem_singleton] at hB; subst hB; exact Ga) ⟨(Ht rfl),(Ht rfl),trivial⟩ rfl (fun B34 _=>?_))))))
  refine ra rfl (eJ (cK (cK (gW (i:=3) (tt:=6) rfl rfl (jB (s:=5) (M:=jQ s (dD z)) hX.1.symm) (cY (ro rfl (cQ (cJ 0)) (eJ (eU (cM [0,2] rfl (by decide) ?_)))))))))
  refine bF (fun (i : Nat) => i ≤ z.length) (fun (i : Nat) => z.length - i) (fun (i : Nat) => [(3, NT .i64 z.length), (4, Is (.slice (some ⟨B14, 0, none⟩) z.length z.length)), (6, QM (jQ s (dD z))), (7, NT .i64 i)]) (fun (i : Nat) => [Z, kG fH B14 35 131 5 (bR QT (oM (fun i => tab z.length fun j => gm (dD z) i j - gm (jQ s (dD z)) i j) (fun i => tab z.length fun j => gm (dD z) i j) z.length i))]) 0 (Nat.zero_le _)
   (zS rfl) (aU (fun _ _ _ h=>h) (aU (bP (by rw [← mU]; exact congrArg _ (lZ hD))) aY)) (fun i hi=>?_)
  refine cK (ts (rm rfl (rm rfl (ro rfl (gJ (Ht rfl) (Ht rfl)) (eJ (dQ (Ht rfl) (fun he=>?_) (fun he=>?_)))))))
  ·simp only [decide_eq_true_eq] at he
   refine lC 1 (i) rfl (uE he) (fun v hv=>(cU (cK (eU (ts (ro rfl (cQ (cJ 0)) (eJ (eU ?_))))))))
   refine bF (fun (j : Nat) => j ≤ z.length) (fun (j : Nat) => z.length - j) (fun (j : Nat) => [(3, NT .i64 z.length), (4, Is (.slice (some ⟨B14, 0, none⟩) z.length z.length)), (6, QM (jQ s (dD z))), (7, NT .i64 i), (8, NT .i64 j)]) (fun (j : Nat) => [Z, pC fH B14 35 131 5 (bR QT (oM (fun i => tab z.length fun j => gm (dD z) i j - gm (jQ s (dD z)) i j) (fun i => tab z.length fun j => gm (dD z) i j) z.length i)) i v, bO 131 5 v ((oM (fun j => gm (dD z) i j - gm (jQ s (dD z)) i j) (fun j => gm (dD z) i j) z.length j).map QT)]) 0 (Nat.zero_le _)
    (zS rfl) (aU (fun _ _ _ h=>h) (aU (fun _ _ _ h=>h) (aU (bT (by rw [← mU])) aY))) (fun j hj=>?_)
   refine cK (ts (rm rfl (rm rfl (ro rfl (gJ (Ht rfl) (Ht rfl)) (eJ (dQ (Ht rfl) (fun hf=>?_) (fun hf=>?_)))))))
   ·simp only [decide_eq_true_eq] at hf
    have hrl:=lG (fun j=>gm (dD z) i j - gm (jQ s (dD z)) i j) (fun j=>gm (dD z) i j) z.length j
    have hxr:=hX.row (i:=i) zo
    haveI f1:aD (gm (dD z) i j) L:=hDf.get hL1 i j
    haveI f2:aD (gm (jQ s (dD z)) i j) (200 * L + 300):=hXf.get zo i j
    refine cU (cK (eU (fV (m:=20) (dp 4 rfl (cX (Ht rfl)) (dp 7 rfl (cX (Ht rfl)) (cH 45 0 46 1 rfl (gX U_36 Z_35 (Ht rfl) (Ht rfl) rfl zo (by rw [Nat.mul_one,Nat.zero_add])) ?_))))))
    refine dq 47 2 rfl (jK A_35 Z_35 (Ht rfl) (j:=1) rfl) (dp 8 rfl (cX (Ht rfl)) (dp 4 rfl (cX (Ht rfl)) (dp 7 rfl (cX (Ht rfl)) (cH 50 5 51 6 rfl (gX U_36 Z_35 (Ht rfl) (Ht rfl) rfl zo (by rw [Nat.mul_one,Nat.zero_add])) ?_))))
    refine dq 52 7 rfl (jK A_35 Z_35 (Ht rfl) (j:=1) rfl) (dp 8 rfl (cX (Ht rfl)) (cH 53 8 54 9 rfl (dM U_35 Z_131 (Ht rfl) (Ht rfl) rfl (i:=2) rfl (by simp only [List.length_map,hrl]; omega) rfl) ?_))
    refine dq 55 10 rfl (lR A_131 Z_131 (Ht rfl) (i:=2) rfl rfl (eX (tE hf))) (dp 6 rfl (cX (Ht rfl)) (dp 7 rfl (cX (Ht rfl)) (cH 57 12 58 13 rfl (dZ U_36 Z_35 (Ht rfl) (Ht rfl) rfl (eX (eQ (d:=[]) (by rw [hX.1]; omega)))) ?_)))
    refine dq 59 14 rfl (dJ A_35 Z_35 (Ht rfl)) (dp 8 rfl (cX (Ht rfl)) (cH 60 15 61 16 rfl (dZ U_35 Z_131 (Ht rfl) (Ht rfl) rfl (eX (eQ (d:=Qi.zero) (by rw [hxr]; omega)))) ?_))
    refine dq 62 17 rfl (dJ A_131 Z_131 (Ht rfl)) (cH 56 11 63 18 rfl (cZ Tryz.call147 (Qj zo) ⟨(Ht rfl),(Ht rfl),trivial⟩) (fG aM rfl (by kernel_rfl) (zF (zF (zF (zF (zF (aV (ro rfl (dM U_35 Z_131 (Ht rfl) (Ht rfl) rfl (i:=2) rfl (by simp only [List.length_map,hrl]; omega) rfl) ?_)))))))))
    refine mY Z_131 (Ht rfl) (Ht rfl) (El.ag rfl) (i:=2) rfl rfl (by simp only [List.length_map,hrl]; omega) rfl ?_
    refine eJ (aR (cY (rm rfl (ro rfl (dW (Ht rfl) (cJ 1) z6) (ra rfl (eJ (gQ (j + 1) hf zo (zS rfl) (aU (fun _ _ _ h=>h) (aU (fun _ _ _ h=>h) (aU (bT (by rw [jU,← oO (f:=fun j=>gm (dD z) i j - gm (jQ s (dD z)) i j)])) aY))))))))))
   ·simp only [decide_eq_false_iff_not] at hf
    obtain rfl:j = z.length:=Nat.le_antisymm hj zo
    refine gG rfl (aR (fR 1 2 rfl rfl (by decide) (by simp only [bR,List.length_map,lG]; omega) ?_))
    refine cY (rm rfl (ro rfl (dW (Ht rfl) (cJ 1) z6) (ra rfl (eJ (cM [0,1] rfl (by decide) (gQ (i + 1) he zo (zS rfl) (aU (fun _ _ _ h=>h) (aU (bP (by rw [gI,oN,← oO (f:=(fun i=>tab z.length fun j=>gm (dD z) i j - gm (jQ s (dD z)) i j))])) aY))))))))
  ·simp only [decide_eq_false_iff_not] at he
   obtain rfl:i = z.length:=Nat.le_antisymm hi zo
   refine gG rfl (ts (rm rfl (ra rfl (eJ ?_))))
   exact iT B14 trivial [0,1] ⟨⟨_,rfl,fun _ _ _ h=>h⟩,⟨_,rfl,(bP (by rw [oN]; rfl))⟩,trivial⟩ (by decide) (pH rfl (fQ rfl))
end
section
open Go Go.RowKit
theorem Vi {x:Qi} {L:Nat} [hx:aD x L] (h:L ≤ 17592186044415):aS Tryz.prog 179 [QT x] (aC (lM x)):=by rw [← To]; exact Vh h
end
section
open Go Go.RowKit
theorem sD (v : Value) (w : World) : (method (Tryz.prog.types.size + Made.depth) 51 v "Of").run Tryz.prog w = .ok (302, v) w := by kernel_rfl
theorem gF (v:Value) (w:World):(Instr.makeInterface 51 v).run Tryz.prog w = .ok (.iface 51 v) w:=by
 simp [Instr.makeInterface,Sem.run_bind,Result.andThen,U_51]
end
section
open Go Go.RowKit
theorem Qq {x:Qi} {L:Nat} [hx:aD x L] (h:L ≤ 8796093022208):aS Tryz.prog 159 [aP x] (aC (lM x)):=by
 haveI hz:aD Qi.zero 1:=aD.zero (Nat.le_refl 1)
 rw [← Yz]
 refine aS.intro Tryz.func159 rfl Tryz.ntmps159 rfl (fun cx=>(ts (rn rfl (fU (Ht rfl)) fun B1=>(ro rfl (cQ cV) (eJ (cK (fV (m:=5) (dp 1 rfl (eG A_51 Z_51 (Ht rfl) (i:=0) rfl rfl rfl) (dq 3 0 rfl (cZ Tryz.call169 Bi ⟨(Ht rfl),trivial⟩) (dq 4 1 rfl (cX (Ht rfl)) (C.D_step (Ei:=[(1,_),(5,_)]) rfl rfl (bV (bK rfl rfl) (bV (bG 2 rfl rfl) bW)) (eY rfl rfl (Ht rfl) (fun h=>eG A_51 Z_51 (Ht rfl) (i:=0) rfl rfl rfl)) (C.D_step (Ei:=[(5,_)]) rfl rfl (bV (bG 2 rfl rfl) bW) (eY rfl rfl (Ht rfl) (fun h=>cZ K_77 (pR (n:=0) (by decide) (by decide)) ⟨(cJ 0),trivial⟩)) ?_))))))))))))
 refine fG aM rfl (by kernel_rfl) (zF (aJ (aV (fZ rfl rfl (eY rfl rfl (Ht rfl) (fun h=>cZ K_76 (zR (x:=x) (y:=Qi.zero) (M:=1) zo) ⟨(fW rfl h),(fW rfl h),trivial⟩)) (fZ rfl rfl (eY rfl rfl (Ht rfl) (fun h=>kV (fW rfl h) cV)) (ro rfl (dP (Ht rfl) (fun h=>(fW rfl h))) (ra rfl (eJ ?_))))))))
 exact fK rfl (fQ rfl)
theorem Pu {y:Qi}:aS Tryz.prog 302 [eM [Is (.bool false),Is (.slice none 0 0),Is (.bool false),Is (.slice none 0 0),Is (.slice none 0 0)],aP y] (aP y):=by
 refine aS.intro Tryz.func302 rfl Tryz.ntmps302 rfl (fun cx=>(ts (rn rfl (fU (Ht rfl)) fun B2=>(rn rfl (fU (Ht rfl)) fun B3=>(rn rfl (eK (Ts:=[Is (.bool false),Is (.slice none 0 0),Is (.bool false),Is (.slice none 0 0),Is (.slice none 0 0)]) O_51 rfl (fun V=>aW zd (aW zd (aW zd (aW zd (aW zd (aG))))))) fun B4=>(eJ (ts (ro rfl (eG A_51 Z_51 (Ht rfl) (i:=1) rfl rfl rfl) (gZ Z_51 (Ht rfl) (Ht rfl) rfl (i:=2) rfl (aK rfl) rfl rfl ?_)))))))))
 refine eJ ?_
 exact fK rfl (fY A_51 Z_51 rfl (i:=2) rfl rfl)
theorem Qe {x:Qi}:aS Tryz.prog 98 [aP x] (aP x):=by
 refine aS.intro Tryz.func98 rfl Tryz.ntmps98 rfl (fun cx=>(ts (rn rfl (fU (Ht rfl)) fun B1=>(rn rfl (eK (Ts:=[Is (.bool false),Is (.slice none 0 0),Is (.bool false),Is (.slice none 0 0),Is (.slice none 0 0)]) O_51 rfl (fun V=>aW zd (aW zd (aW zd (aW zd (aW zd (aG))))))) fun B2=>(eJ (ts (rn rfl (eK (Ts:=[Is (.bool false),Is (.slice none 0 0),Is (.bool false),Is (.slice none 0 0),Is (.slice none 0 0)]) O_51 rfl (fun V=>aW zd (aW zd (aW zd (aW zd (aW zd (aG))))))) fun B3=>?_)))))))
 refine eJ (ts (ro rfl (eG A_51 Z_51 (Ht rfl) (i:=2) rfl rfl rfl) (ro rfl (eP gF (Ht rfl)) (ro rfl (eG A_51 Z_51 (Ht rfl) (i:=0) rfl rfl rfl) (ro rfl (dO sD Tryz.call302 Pu (Ht rfl) ⟨(Ht rfl),trivial⟩) (gZ Z_51 (Ht rfl) (Ht rfl) rfl (i:=1) rfl (aK rfl) rfl rfl (eJ ?_)))))))
 exact fK rfl (fY A_51 Z_51 rfl (i:=1) rfl rfl)
theorem Hn {r:List Qi} {k:Nat}:aS Tryz.prog 273 [cB r,PT (NT .i64 k)] (aC (!decide (r.length = k))):=by
 refine aS.intro Tryz.func273 rfl Tryz.ntmps273 rfl (fun cx=>(ts (ro rfl (cQ cV) (eJ (ts (rm rfl (ro rfl (dU U_29 (Ht rfl) aA) (ro rfl (dJ Tryz.isAgg3 Tryz.sizeOf3 (Ht rfl)) (ro rfl (gY (Ht rfl) (Ht rfl)) (ra rfl (eJ ?_)))))))))))
 exact fK rfl (fQ rfl)
theorem xK  : aS Tryz.prog 240 [bS []] (gE [NT .i64 0,aC true]):=by
 refine aS.intro Tryz.func240 rfl Tryz.ntmps240 rfl (fun cx=>(ts (ro rfl (cQ (cJ 0)) (ro rfl (cQ cV) (eJ (cK (ts (rm rfl (ro rfl (dU U_30 (Ht rfl) aA) (ro rfl (cT (Ht rfl) (cJ 0)) (eJ (Bd (Ht rfl) (by rfl) ?_))))))))))))
 refine ts (ro rfl (cQ (cJ 0)) (ro rfl (cQ cV) (eJ ?_)))
 exact bN rfl (fQ rfl) (fQ rfl)
theorem tT {a:List (List Qi)} {n k:Nat} (h:eD a n k) (h1:1 ≤ n) (hn:n ≤ 32) (hk:k ≤ 32):aS Tryz.prog 240 [bS a] (gE [NT .i64 k,aC true]):=by
 obtain ⟨rfl,h2⟩:=h
 have hr0:(a.getD 0 []).length = k:=eD.row ⟨rfl,h2⟩ zo
 refine aS.intro Tryz.func240 rfl Tryz.ntmps240 rfl (fun cx=>(ts (ro rfl (cQ (cJ 0)) (ro rfl (cQ cV) (eJ (cK (ts (rm rfl (ro rfl (dU U_30 (Ht rfl) aA) (ro rfl (cT (Ht rfl) (cJ 0)) (eJ (dQ (Ht rfl) (fun hb=>?_) (fun hb=>?_)))))))))))))
 ·simp only [decide_eq_true_eq] at hb
  omega
 ·refine cU (ts (rm rfl (ro rfl (dZ U_30 Z_29 (Ht rfl) (cJ 0) rfl (eX (eQ (d := []) zo))) (ro rfl (dJ A_29 Z_29 (Ht rfl)) (ro rfl (dU U_29 (Ht rfl) aA) (rn rfl (eK (Ts := [Is (.int .i64 0)]) Tryz.zeroValue3 rfl (fun V => aW zd (aG))) fun B4 => (jX Tryz.sizeOf3 (Ht rfl) (Ht rfl) (i := 0) rfl (aK rfl) rfl (eJ (cK (gW (i := 0) (tt := 4) rfl rfl xW (fV (m := 15) (dp 4 rfl (dJ Tryz.isAgg3 Tryz.sizeOf3 (Ht rfl)) ?_))))))))))))
  refine dp 0 rfl (cX (Ht rfl)) (dq 13 1 rfl (dU U_30 (Ht rfl) aA) (dq 14 2 rfl (wO (Ht rfl) (cJ 32)) (dq 15 3 rfl (cX (Ht rfl)) (C.D_step (Ei:=[(4,_),(16,_)]) rfl rfl (bV (bK rfl rfl) (bV (bG 4 rfl rfl) bW)) (eY rfl rfl (Ht rfl) (fun h=>dJ Tryz.isAgg3 Tryz.sizeOf3 (Ht rfl))) (C.D_step (Ei:=[(17,_),(16,_)]) rfl rfl (bV (bG 5 rfl rfl) (bV (bG 4 rfl rfl) bW)) (eY rfl rfl (Ht rfl) (fun h=>wO (fW rfl h) (cJ 32))) (cH 16 4 18 6 rfl (dP (Ht rfl) (fun h=>(fW rfl h))) ?_))))))
  refine dq 19 7 rfl (cX (Ht rfl)) (C.D_step (Ei:=[(0,_),(20,_)]) rfl rfl (bV (bK rfl rfl) (bV (bG 8 rfl rfl) bW)) (eY rfl rfl (Ht rfl) (fun h=>cX (Ht rfl))) (C.D_step (Ei:=[(4,_),(20,_)]) rfl rfl (bV (bK rfl rfl) (bV (bG 8 rfl rfl) bW)) (eY rfl rfl (Ht rfl) (fun h=>Cj (γ:=List Qi) (Ts:=fun r=>[cB r]) (U:=fun r=>aC (!decide (r.length = (a.getD 0 []).length))) Tryz.call273 (fun r=>Hn) ⟨(Ht rfl),trivial⟩)) (C.D_step (Ei:=[(21,_),(22,_),(20,_)]) rfl rfl (bV (bG 9 rfl rfl) (bV (bG 10 rfl rfl) (bV (bG 8 rfl rfl) bW))) (eY rfl rfl (Ht rfl) (fun h=>cZ Tryz.call156 (rO (l:=a) (T:=cB) (p:=fun r=>!decide (r.length = (a.getD 0 []).length)) zo) ⟨(fW rfl h),(fW rfl h),trivial⟩)) ?_)))
  refine C.D_step (Ei:=[(23,_),(20,_)]) rfl rfl (bV (bG 11 rfl rfl) (bV (bG 8 rfl rfl) bW)) (eY rfl rfl (Ht rfl) (fun h=>dR (fW rfl h))) (cH 20 8 24 12 rfl (dP (Ht rfl) (fun h=>(fW rfl h))) (dq 12 0 rfl (cQ (Ht rfl)) (fG aM rfl (by kernel_rfl) (zF (zF (zF (aJ (aJ (aJ (aV (ra rfl (eJ (bN rfl (fJ (fQ rfl) ?_) (fJ (fQ rfl) ?_))))))))))))))
  ·exact (lL hr0)
  ·exact (bI (by rw [hr0,Vs ⟨rfl,h2⟩]; simp; omega))
theorem xL {a:List (List Qi)} {n k:Nat} (h:eD a n k) (h1:1 ≤ n ∨ k = 0) (hn:n ≤ 32) (hk:k ≤ 32):aS Tryz.prog 240 [bS a] (gE [NT .i64 k,aC true]):=by
 by_cases e:n = 0
 ·subst e
  obtain rfl:=List.length_eq_zero_iff.1 h.1
  rw [show k = 0 by omega]; exact xK
 ·exact tT h zo hn hk
end
section
open Go Go.RowKit
theorem vH (v : Value) (w : World) : (method (Tryz.prog.types.size + Made.depth) 51 v "Add").run Tryz.prog w = .ok (46, v) w := by kernel_rfl
theorem pE (v : Value) (w : World) : (method (Tryz.prog.types.size + Made.depth) 51 v "Conj").run Tryz.prog w = .ok (175, v) w := by kernel_rfl
theorem iP (v : Value) (w : World) : (method (Tryz.prog.types.size + Made.depth) 51 v "Mul").run Tryz.prog w = .ok (45, v) w := by kernel_rfl
end
section
open Go Go.RowKit
theorem Pv {a b:List (List Qi)} {n k m L M:Nat} (ha:eD a n k) (hb:eD b k m) (hfa:bL a L) (hfb:bL b M) (hL1:1 ≤ L) (hM1:1 ≤ M) (hL:L ≤ 900000000000) (hM:M ≤ 900000000000) (hn1:1 ≤ n ∨ k = 0) (hk1:1 ≤ k ∨ m = 0) (hn:n ≤ 8) (hk:k ≤ 8) (hm:m ≤ 8):fT Tryz.prog 195 [bS a,bS b] [] (Nat) (fun B=>gE [Is (.slice (some ⟨B,0,none⟩) n n),bC .i64 0]) (fun B=>[pL B 29 51 5 (bR aP (vX a b n k m))]) (fun _=>True):=by
 have hal:=ha.1
 have hbl:=hb.1
 refine fT.intro Tryz.func195 rfl Tryz.ntmps195 rfl (fun cx Z=>(ts (ro rfl (cQ cV) (ro rfl (cQ (cJ 0)) (eJ (ts (rm rfl (ro rfl (cZ Tryz.call240 (xL ha hn1 zo zo) ⟨(Ht rfl),trivial⟩) (rm rfl (ro rfl (dY (Ht rfl) rfl) (ro rfl (dY (Ht rfl) rfl) (ra rfl (ra rfl (eJ (ts (rm rfl (ro rfl (cZ Tryz.call240 (xL hb hk1 zo zo) ⟨(Ht rfl),trivial⟩) (rm rfl (ro rfl (dY (Ht rfl) rfl) (ro rfl (dY (Ht rfl) rfl) (ra rfl (ra rfl (eJ (cK (ts (rm rfl (ro rfl (dR (Ht rfl)) ?_)))))))))))))))))))))))))))
 refine rm rfl (fZ rfl rfl (eY rfl rfl (Ht rfl) (fun h=>cX (Ht rfl))) (fZ rfl rfl (eY rfl rfl (Ht rfl) (fun h=>dR (fW rfl h))) (ro rfl (iW (Ht rfl) (fun h=>(fW rfl h))) (rm rfl (fZ rfl rfl (eY rfl rfl (Ht rfl) (fun h=>cX (Ht rfl))) (fZ rfl rfl (eY rfl rfl (Ht rfl) (fun h=>cX (Ht rfl))) (fZ rfl rfl (eY rfl rfl (Ht rfl) (fun h=>dU U_30 (fW rfl h) aA)) (fZ rfl rfl (eY rfl rfl (Ht rfl) (fun h=>gY (fW rfl h) (fW rfl h))) (ro rfl (iW (Ht rfl) (fun h=>(fW rfl h))) ?_)))))))))
 refine eJ (dQ (Ht rfl) (fun h0=>?_) (fun h0=>?_))
 ·exact absurd h0 (by simp [hbl])
 ·refine cU (ts (rm rfl (ro rfl (dU U_30 (Ht rfl) aA) (rn rfl (dH (T := Is (.slice none 0 0)) (i := Tryz.t29) V_30 lX rfl rfl (Ht rfl) rfl (fun _ => rfl) trivial (by show 24 * _ ≤ _; omega) zo) fun B39 => (ra rfl (eJ (cK (ts (rm rfl (ro rfl (fN U_30 (Ht rfl)) (ro rfl (cX (cJ 0)) (eJ (eU (oA 1 rfl (pD (e := 51) (s := 5)) ?_))))))))))))))
  refine bF (fun (i : Nat) => i ≤ n) (fun (i : Nat) => n - i) (fun (i : Nat) => [(0, bS a), (1, bS b), (6, NT .i64 k), (8, NT .i64 m), (10, Is (.slice (some ⟨B39, 0, none⟩) n n)), (41, NT .i64 n), (42, NT .i64 i)]) (fun (i : Nat) => [Z, pL B39 29 51 5 (bR aP (jJ (fun i => tab m fun c => vW a b k i c) [] n i))]) 0 (Nat.zero_le _)
   (aQ rfl (aQ rfl (aQ rfl (aQ rfl (aZ rfl (fun v V h=>by rw [← hal]; exact h) (aZ rfl (lL hal) (zS rfl))))))) (aU (fun _ _ _ h=>h) (aU (bP (by rw [← jF,kC,hal]; exact kL aP n)) aY)) (fun i hi=>?_)
  refine ts (ro rfl (gJ (Ht rfl) (Ht rfl)) (eJ (cK (dQ (Ht rfl) (fun hd=>?_) (fun hd=>?_)))))
  ·simp only [decide_eq_true_eq] at hd
   have har:=ha.row hd
   refine oR 1 (i) rfl (jS hd) (fun v=>(cU (cK (eU (ts (rm rfl (ra rfl (eJ (ts (rm rfl (ro rfl (cX (cJ 0)) (eJ (eU ?_)))))))))))))
   refine eH (fun (c : Nat) (v : Value) => c ≤ m) (fun (c : Nat) (v : Value) => m - c) (fun (c : Nat) (v : Value) => [(0, bS a), (1, bS b), (6, NT .i64 k), (8, NT .i64 m), (10, Is (.slice (some ⟨B39, 0, none⟩) n n)), (11, NT .i64 i), (41, NT .i64 n), (42, NT .i64 i), (45, NT .i64 m), (46, NT .i64 c)]) (fun (c : Nat) (v : Value) => [Z, Ig B39 29 51 5 (bR aP (jJ (fun i => tab m fun c => vW a b k i c) [] n i)) i v, bO 51 5 v ((tab c fun c => vW a b k i c).map aP)]) 0 v (Nat.zero_le _)
    (zS rfl) (cL.refl _) (fun c v hc=>?_)
   refine ts (ro rfl (gJ (Ht rfl) (Ht rfl)) (eJ (cK (dQ (Ht rfl) (fun he=>?_) (fun he=>?_)))))
   ·simp only [decide_eq_true_eq] at he
    have hk1:1 ≤ k:=by omega
    have hb0:=hb.row (i:=0) zo
    haveI f1:aD (gm a i 0) L:=hfa.get hL1 i 0
    haveI f2:aD (gm b 0 c) M:=hfb.get hM1 0 c
    refine cU (cK (eU (ts (rm rfl (ra rfl (eJ (cK (fV (m:=15) (dp 0 rfl (cX (Ht rfl)) (dp 11 rfl (cX (Ht rfl)) (cH 49 0 50 1 rfl (dZ U_30 Z_29 (Ht rfl) (Ht rfl) rfl (eX (eQ (d:=[]) zo))) (dq 51 2 rfl (dJ A_29 Z_29 (Ht rfl)) (dq 52 3 rfl (dZ U_29 Z_51 (Ht rfl) (cJ 0) rfl (eX (eQ (d:=Qi.zero) (by rw [har]; omega)))) ?_)))))))))))))
    refine dq 53 4 rfl (dJ A_51 Z_51 (Ht rfl)) (dq 54 5 rfl (eP gF (Ht rfl)) (dp 1 rfl (cX (Ht rfl)) (dq 56 7 rfl (dZ U_30 Z_29 (Ht rfl) (cJ 0) rfl (eX (eQ (d:=[]) zo))) (dq 57 8 rfl (dJ A_29 Z_29 (Ht rfl)) (dp 12 rfl (cX (Ht rfl)) (cH 58 9 59 10 rfl (dZ U_29 Z_51 (Ht rfl) (Ht rfl) rfl (eX (eQ (d:=Qi.zero) (by rw [hb0]; omega)))) ?_))))))
    refine dq 60 11 rfl (dJ A_51 Z_51 (Ht rfl)) (cH 55 6 61 12 rfl (dO iP K_45 (mF zo) (Ht rfl) ⟨(Ht rfl),trivial⟩) (C.D_new (Ei:=[]) rfl rfl rfl bW (eK (Ts:=[Is (.bool false),Is (.slice none 0 0),Is (.bool false),Is (.slice none 0 0),Is (.slice none 0 0)]) O_51 rfl (fun V=>aW zd (aW zd (aW zd (aW zd (aW zd (aG))))))) (fG aM rfl (by kernel_rfl) (zF (zF (zF (aJ (aJ (C.F_new (fun B13=>aV ?_))))))))))
    refine gZ Z_51 (Ht rfl) (Ht rfl) rfl (i:=3) rfl (aK rfl) rfl rfl (eJ (cK (ts (ro rfl (cQ (cJ 1)) (eJ (eU ?_))))))
    refine bF (fun (j : Nat) => 1 ≤ j ∧ j ≤ k) (fun (j : Nat) => k - j) (fun (j : Nat) => [(0, bS a), (1, bS b), (6, NT .i64 k), (8, NT .i64 m), (10, Is (.slice (some ⟨B39, 0, none⟩) n n)), (11, NT .i64 i), (12, NT .i64 c), (13, cC B13 0), (14, NT .i64 j), (41, NT .i64 n), (42, NT .i64 i), (45, NT .i64 m), (46, NT .i64 c)]) (fun (j : Nat) => [Z, Ig B39 29 51 5 (bR aP (jJ (fun i => tab m fun c => vW a b k i c) [] n i)) i v, bO 51 5 v ((tab c fun c => vW a b k i c).map aP), box B13 51 [aC (decide ((bE j fun j => gm a i j * gm b j c).a < 0)), aE (bE j fun j => gm a i j * gm b j c).a.natAbs, aC (decide ((bE j fun j => gm a i j * gm b j c).b < 0)), aE (bE j fun j => gm a i j * gm b j c).b.natAbs, aE (du (bE j fun j => gm a i j * gm b j c))]]) 1 ⟨Nat.le_refl _, hk1⟩
     (zS rfl) (aU (fun _ _ _ h=>h) (aU (fun _ _ _ h=>h) (aU (fun _ _ _ h=>h) (aU (aB (by rw [Tx]; rfl)) aY)))) (fun j ⟨hj1,hj⟩=>?_)
    refine cK (ts (rm rfl (rm rfl (ro rfl (gJ (Ht rfl) (Ht rfl)) (eJ (dQ (Ht rfl) (fun hf=>?_) (fun hf=>?_)))))))
    ·simp only [decide_eq_true_eq] at hf
     haveI f3:aD (gm a i j) L:=hfa.get hL1 i j
     haveI f4:aD (gm b j c) M:=hfb.get hM1 j c
     haveI f5:aD (bE j fun j=>gm a i j * gm b j c) (8 * (L + M) + 17):=Ku hfa hfb hL1 hM1 zo i c
     have hbj:=hb.row (i:=j) zo
     refine cU (cK (eU (fV (m:=18) (dp 13 rfl (eG A_51 Z_51 (Ht rfl) (i:=3) rfl rfl rfl) (dq 68 0 rfl (eP gF (Ht rfl)) (dp 0 rfl (cX (Ht rfl)) (dp 11 rfl (cX (Ht rfl)) (cH 70 2 71 3 rfl (dZ U_30 Z_29 (Ht rfl) (Ht rfl) rfl (eX (eQ (d:=[]) zo))) (dq 72 4 rfl (dJ A_29 Z_29 (Ht rfl)) (dp 14 rfl (cX (Ht rfl)) (cH 73 5 74 6 rfl (dZ U_29 Z_51 (Ht rfl) (Ht rfl) rfl (eX (eQ (d:=Qi.zero) (by rw [har]; omega)))) ?_)))))))))))
     refine dq 75 7 rfl (dJ A_51 Z_51 (Ht rfl)) (dq 76 8 rfl (eP gF (Ht rfl)) (dp 1 rfl (cX (Ht rfl)) (dp 14 rfl (cX (Ht rfl)) (cH 78 10 79 11 rfl (dZ U_30 Z_29 (Ht rfl) (Ht rfl) rfl (eX (eQ (d:=[]) zo))) (dq 80 12 rfl (dJ A_29 Z_29 (Ht rfl)) (dp 12 rfl (cX (Ht rfl)) (cH 81 13 82 14 rfl (dZ U_29 Z_51 (Ht rfl) (Ht rfl) rfl (eX (eQ (d:=Qi.zero) (by rw [hbj]; omega)))) ?_)))))))
     refine dq 83 15 rfl (dJ A_51 Z_51 (Ht rfl)) (cH 77 9 84 16 rfl (dO iP K_45 (mF zo) (Ht rfl) ⟨(Ht rfl),trivial⟩) (fG aM rfl (by kernel_rfl) (zF (zF (zF (zF (aJ (aJ (aV (ro rfl (dO vH K_46 (xI zo) (Ht rfl) ⟨(Ht rfl),trivial⟩) (gZ Z_51 (Ht rfl) (Ht rfl) rfl (i:=3) rfl (aK rfl) rfl rfl (eJ (aR ?_)))))))))))))
     refine cY (rm rfl (ro rfl (dW (Ht rfl) (cJ 1) z6) (ra rfl (eJ (gQ (j + 1) ⟨by omega,hf⟩ zo (zS rfl) (aU (fun _ _ _ h=>h) (aU (fun _ _ _ h=>h) (aU (fun _ _ _ h=>h) (aU (aB rfl) aY)))))))))
    ·simp only [decide_eq_false_iff_not] at hf
     obtain rfl:k = j:=Nat.le_antisymm zo hj
     refine gG rfl (Y.D_startA (m:=9) [] 8 2 rfl rfl (bY (Ei:=[(10,_)]) rfl rfl (bQ (bJ rfl rfl) bX) rfl rfl (dX rfl (cX (Ht rfl))) (bY (Ei:=[(11,_)]) rfl rfl (bQ (bJ rfl rfl) bX) rfl rfl (dX rfl (cX (Ht rfl))) (bY (Ei:=[(10,_)]) rfl rfl (bQ (bJ rfl rfl) bX) rfl rfl (dX rfl (cX (Ht rfl))) (bY (Ei:=[(11,_)]) rfl rfl (bQ (bJ rfl rfl) bX) rfl rfl (dX rfl (cX (Ht rfl))) (bY (Ei:=[(89,_),(90,_)]) rfl rfl (bQ (bZ 2 rfl rfl) (bQ (bZ 3 rfl rfl) bX)) rfl rfl (dX rfl (gX U_30 Z_29 (Ht rfl) (Ht rfl) rfl zo (by rw [Nat.mul_one,Nat.zero_add]))) ?_))))))
     refine bY (Ei:=[(91,_)]) rfl rfl (bQ (bZ 4 rfl rfl) bX) rfl rfl (dX rfl (jK A_29 Z_29 (Ht rfl) (j:=1) rfl)) (bY (Ei:=[(13,_)]) rfl rfl (bQ (bJ rfl rfl) bX) rfl rfl (dX rfl (eG A_51 Z_51 (Ht rfl) (i:=3) rfl rfl rfl)) (bY (Ei:=[(93,_)]) rfl rfl (bQ (bZ 6 rfl rfl) bX) rfl rfl (dX rfl (dA (xs:=[.tmp 93]) U_29 Z_51 O_51 (cW (Ht rfl) cG) rfl rfl rfl)) (Y.D_app (Ei:=[(92,_),(94,_)]) rfl rfl rfl rfl (bQ (bZ 5 rfl rfl) (bQ (bZ 7 rfl rfl) bX)) rfl (pM (inf:=Tryz.t51) nG lE rfl rfl rfl (Ht rfl) (Ht rfl) (by simp) (fun T hT=>by simp at hT; subst hT; exact El.ag rfl) (by show _ * 88 ≤ _; simp only [List.length_map,aT,List.length_cons,List.length_nil]; omega) (by simp only [List.length_map,aT,List.length_cons,List.length_nil]; omega)) ?_)))
     refine Y.D_done aM rfl (by kernel_rfl) rfl (by simp [Y.okP]) rfl rfl (bU (bU (bU (bU (bU (bU (bU (bU (Y.F_app (fun v2=>Y.F_nil ?_))))))))))
     refine ro rfl (gX U_30 Z_29 (Ht rfl) (Ht rfl) rfl zo (by rw [Nat.mul_one,Nat.zero_add])) ?_
     refine pO Z_29 (Ht rfl) (Ht rfl) (by simp only [bR,List.length_map,eR]; omega) (j:=1) (l:=4) rfl rfl rfl ?_
     refine eJ (aR (cY (ro rfl (dW (Ht rfl) (cJ 1) z6) (rm rfl (eJ (cM [0,1,4] rfl (by decide) (gQ (c + 1,v2) he (by dsimp only; omega) (zS rfl) (aU (fun _ _ _ h=>h) (aU (fun _ _ _ h=>h) (aU (bT ((oF aP _ (vW a b k i c)).trans (congrArg _ (qO c (fun c=>vW a b k i c)).symm))) aY))))))))))
   ·simp only [decide_eq_false_iff_not] at he
    obtain rfl:m = c:=Nat.le_antisymm zo hc
    refine gG rfl (aR (fR 1 2 rfl rfl (by decide) (by simp only [bR,List.length_map,eR]; omega) ?_))
    refine cY (ro rfl (dW (Ht rfl) (cJ 1) z6) (rm rfl (eJ (cM [0,1] rfl (by decide) (gQ (i + 1) hd zo (zS rfl) (aU (fun _ _ _ h=>h) (aU (bP (by rw [gI,← kP (f:=(fun i=>tab m fun c=>vW a b k i c))])) aY)))))))
  ·simp only [decide_eq_false_iff_not] at hd
   obtain rfl:n = i:=Nat.le_antisymm zo hi
   refine gG rfl (ts (rm rfl (ra rfl (ro rfl (cQ (cJ 0)) (eJ ?_)))))
   exact iT B39 trivial [0,1] ⟨⟨_,rfl,fun _ _ _ h=>h⟩,⟨_,rfl,(bP (by rw [kO]; rfl))⟩,trivial⟩ (by decide) (a1F rfl (fQ rfl) (fQ rfl))
theorem Jy {a b:List (List Qi)} {n k m L M:Nat} (ha:eD a n k) (hb:eD b k m) (hfa:bL a L) (hfb:bL b M) (hL1:1 ≤ L) (hM1:1 ≤ M) (hL:L ≤ 900000000000) (hM:M ≤ 900000000000) (hn1:1 ≤ n) (hk1:1 ≤ k) (hn:n ≤ 8) (hk:k ≤ 8) (hm:m ≤ 8):fT Tryz.prog 195 [bS a,bS b] [] Nat (fun B=>gE [Is (.slice (some ⟨B,0,none⟩) n n),bC .i64 0]) (fun B=>[pL B 29 51 5 (bR aP (vX a b n k m))]) (fun _=>True):=Pv ha hb hfa hfb hL1 hM1 hL hM (.inl hn1) (.inl hk1) hn hk hm
theorem a0l {a b:List (List Qi)} {n k m L M:Nat} (ha:eD a n k) (hb:eD b k m) (hfa:bL a L) (hfb:bL b M) (hL1:1 ≤ L) (hM1:1 ≤ M) (hL:L ≤ 900000000000) (hM:M ≤ 900000000000) (hn1:1 ≤ n) (hk1:1 ≤ k) (hn:n ≤ 8) (hk:k ≤ 8) (hm:m ≤ 8):aS Tryz.prog 195 [bS a,bS b] (gE [bS (vX a b n k m),bC .i64 0]):=(Jy ha hb hfa hfb hL1 hM1 hL hM hn1 hk1 hn hk hm).fun fun B _ v S V h1 h2=>a1K h1 fun u hu=>jB (s:=5) (M:=vX a b n k m) (aT _ _).symm u S V hu h2
theorem a0i {a:List (List Qi)} {n m:Nat} (ha:eD a n m) (hn1:1 ≤ n) (hn:n ≤ 8) (hm:m ≤ 8):fT Tryz.prog 196 [bS a] [] (Nat) (fun B=>gE [Is (.slice (some ⟨B,0,none⟩) m m),bC .i64 0]) (fun B=>[pL B 29 51 5 (bR aP (Be a n m))]) (fun _=>True):=by
 have hal:=ha.1
 refine fT.intro Tryz.func196 rfl Tryz.ntmps196 rfl (fun cx Z=>(ts (ro rfl (cQ cV) (ro rfl (cQ (cJ 0)) (eJ (ts (rm rfl (ro rfl (cZ Tryz.call240 (tT ha hn1 zo zo) ⟨(Ht rfl),trivial⟩) (rm rfl (ro rfl (dY (Ht rfl) rfl) (ro rfl (dY (Ht rfl) rfl) (ra rfl (ra rfl (eJ (cK (ts (rm rfl (ro rfl (dR (Ht rfl)) (eJ (dQ (Ht rfl) (fun h0=>?_) (fun h0=>?_)))))))))))))))))))))
 ·exact absurd h0 (by simp)
 ·refine cU (ts (rm rfl (rn rfl (dH (T := Is (.slice none 0 0)) (i := Tryz.t29) V_30 lX rfl rfl (Ht rfl) rfl (fun _ => rfl) trivial (by show 24 * _ ≤ _; omega) zo) fun B17 => (ra rfl (eJ (cK (ts (rm rfl (ro rfl (fN U_30 (Ht rfl)) (ro rfl (cX (cJ 0)) (eJ (eU (oA 1 rfl (pD (e := 51) (s := 5)) ?_)))))))))))))
  refine bF (fun (k : Nat) => k ≤ m) (fun (k : Nat) => m - k) (fun (k : Nat) => [(0, bS a), (6, Is (.slice (some ⟨B17, 0, none⟩) m m)), (19, NT .i64 m), (20, NT .i64 k)]) (fun (k : Nat) => [Z, pL B17 29 51 5 (bR aP (jJ (fun k => tab n fun i => (gm a i k).conj) [] m k))]) 0 (Nat.zero_le _)
   (zS rfl) (aU (fun _ _ _ h=>h) (aU (bP (by rw [← jF,kC]; exact kL aP m)) aY)) (fun k hk=>?_)
  refine ts (ro rfl (gJ (Ht rfl) (Ht rfl)) (eJ (cK (dQ (Ht rfl) (fun hd=>?_) (fun hd=>?_)))))
  ·simp only [decide_eq_true_eq] at hd
   refine oR 1 (k) rfl (jS hd) (fun v=>(cU (cK (eU (ts (rm rfl (ra rfl (eJ (ts (rm rfl (ro rfl (dU U_30 (Ht rfl) aA) (ro rfl (cX (cJ 0)) (eJ (eU ?_))))))))))))))
   refine eH (fun (i : Nat) (v : Value) => i ≤ n) (fun (i : Nat) (v : Value) => n - i) (fun (i : Nat) (v : Value) => [(0, bS a), (6, Is (.slice (some ⟨B17, 0, none⟩) m m)), (7, NT .i64 k), (19, NT .i64 m), (20, NT .i64 k), (24, NT .i64 n), (25, NT .i64 i)]) (fun (i : Nat) (v : Value) => [Z, Ig B17 29 51 5 (bR aP (jJ (fun k => tab n fun i => (gm a i k).conj) [] m k)) k v, bO 51 5 v ((tab i fun i => (gm a i k).conj).map aP)]) 0 v (Nat.zero_le _)
    (aQ rfl (aQ rfl (aQ rfl (aQ rfl (aQ rfl (aZ rfl (lL hal) (zS rfl))))))) (cL.refl _) (fun i v hi=>?_)
   refine ts (ro rfl (gJ (Ht rfl) (Ht rfl)) (eJ (cK (dQ (Ht rfl) (fun he=>?_) (fun he=>?_)))))
   ·simp only [decide_eq_true_eq] at he
    have har:=ha.row he
    refine cU (cK (eU (ts (rm rfl (ra rfl (eJ (Y.D_startA (m:=17) [] 16 2 rfl rfl (bY (Ei:=[(6,_)]) rfl rfl (bQ (bJ rfl rfl) bX) rfl rfl (dX rfl (cX (Ht rfl))) (bY (Ei:=[(7,_)]) rfl rfl (bQ (bJ rfl rfl) bX) rfl rfl (dX rfl (cX (Ht rfl))) (bY (Ei:=[(6,_)]) rfl rfl (bQ (bJ rfl rfl) bX) rfl rfl (dX rfl (cX (Ht rfl))) (bY (Ei:=[(7,_)]) rfl rfl (bQ (bJ rfl rfl) bX) rfl rfl (dX rfl (cX (Ht rfl))) (bY (Ei:=[(30,_),(31,_)]) rfl rfl (bQ (bZ 2 rfl rfl) (bQ (bZ 3 rfl rfl) bX)) rfl rfl (dX rfl (gX U_30 Z_29 (Ht rfl) (Ht rfl) rfl zo (by rw [Nat.mul_one,Nat.zero_add]))) ?_))))))))))))
    refine bY (Ei:=[(32,_)]) rfl rfl (bQ (bZ 4 rfl rfl) bX) rfl rfl (dX rfl (jK A_29 Z_29 (Ht rfl) (j:=1) rfl)) (bY (Ei:=[(0,_)]) rfl rfl (bQ (bJ rfl rfl) bX) rfl rfl (dX rfl (cX (Ht rfl))) (bY (Ei:=[(8,_)]) rfl rfl (bQ (bJ rfl rfl) bX) rfl rfl (dX rfl (cX (Ht rfl))) (bY (Ei:=[(34,_),(35,_)]) rfl rfl (bQ (bZ 6 rfl rfl) (bQ (bZ 7 rfl rfl) bX)) rfl rfl (dX rfl (dZ U_30 Z_29 (Ht rfl) (Ht rfl) rfl (eX (eQ (d:=[]) zo)))) ?_)))
    refine bY (Ei:=[(36,_)]) rfl rfl (bQ (bZ 8 rfl rfl) bX) rfl rfl (dX rfl (dJ A_29 Z_29 (Ht rfl))) (bY (Ei:=[(7,_)]) rfl rfl (bQ (bJ rfl rfl) bX) rfl rfl (dX rfl (cX (Ht rfl))) (bY (Ei:=[(37,_),(38,_)]) rfl rfl (bQ (bZ 9 rfl rfl) (bQ (bZ 10 rfl rfl) bX)) rfl rfl (dX rfl (dZ U_29 Z_51 (Ht rfl) (Ht rfl) rfl (eX (eQ (d:=Qi.zero) (by rw [har]; omega))))) ?_))
    refine bY (Ei:=[(39,_)]) rfl rfl (bQ (bZ 11 rfl rfl) bX) rfl rfl (dX rfl (dJ A_51 Z_51 (Ht rfl))) (bY (Ei:=[(40,_)]) rfl rfl (bQ (bZ 12 rfl rfl) bX) rfl rfl (dX rfl (eP gF (Ht rfl))) (bY (Ei:=[(41,_)]) rfl rfl (bQ (bZ 13 rfl rfl) bX) rfl rfl (dX rfl (dO pE Tryz.call175 xJ (Ht rfl) trivial)) (bY (Ei:=[(42,_)]) rfl rfl (bQ (bZ 14 rfl rfl) bX) rfl rfl (dX rfl (dA (xs:=[.tmp 42]) U_29 Z_51 O_51 (cW (Ht rfl) cG) rfl rfl rfl)) ?_)))
    refine Y.D_app (Ei:=[(33,_),(43,_)]) rfl rfl rfl rfl (bQ (bZ 5 rfl rfl) (bQ (bZ 15 rfl rfl) bX)) rfl (pM (inf:=Tryz.t51) nG lE rfl rfl rfl (Ht rfl) (Ht rfl) (by simp) (fun T hT=>by simp at hT; subst hT; exact El.ag rfl) (by show _ * 88 ≤ _; simp only [List.length_map,aT,List.length_cons,List.length_nil]; omega) (by simp only [List.length_map,aT,List.length_cons,List.length_nil]; omega)) ?_
    refine Y.D_done aM rfl (by kernel_rfl) rfl (by simp [Y.okP]) rfl rfl (bU (bU (bU (bU (bU (bU (bU (bU (bU (bU (bU (bU (bU (bU (bU (bU (Y.F_app (fun v2=>Y.F_nil ?_))))))))))))))))))
    refine ro rfl (gX U_30 Z_29 (Ht rfl) (Ht rfl) rfl zo (by rw [Nat.mul_one,Nat.zero_add])) ?_
    refine pO Z_29 (Ht rfl) (Ht rfl) (by simp only [bR,List.length_map,eR]; omega) (j:=1) (l:=3) rfl rfl rfl ?_
    refine eJ (aR (cY (ro rfl (dW (Ht rfl) (cJ 1) z6) (rm rfl (eJ (cM [0,1,3] rfl (by decide) (gQ (i + 1,v2) he (by dsimp only; omega) (zS rfl) (aU (fun _ _ _ h=>h) (aU (fun _ _ _ h=>h) (aU (bT ((oF aP _ (gm a i k).conj).trans (congrArg _ (qO i (fun i=>(gm a i k).conj)).symm))) aY))))))))))
   ·simp only [decide_eq_false_iff_not] at he
    obtain rfl:n = i:=Nat.le_antisymm zo hi
    refine gG rfl (aR (fR 1 2 rfl rfl (by decide) (by simp only [bR,List.length_map,eR]; omega) ?_))
    refine cY (ro rfl (dW (Ht rfl) (cJ 1) z6) (rm rfl (eJ (cM [0,1] rfl (by decide) (gQ (k + 1) hd zo (zS rfl) (aU (fun _ _ _ h=>h) (aU (bP (by rw [gI,← kP (f:=(fun k=>tab n fun i=>(gm a i k).conj))])) aY)))))))
  ·simp only [decide_eq_false_iff_not] at hd
   obtain rfl:m = k:=Nat.le_antisymm zo hk
   refine gG rfl (ts (rm rfl (ra rfl (ro rfl (cQ (cJ 0)) (eJ ?_)))))
   exact iT B17 trivial [0,1] ⟨⟨_,rfl,fun _ _ _ h=>h⟩,⟨_,rfl,(bP (by rw [kO]; rfl))⟩,trivial⟩ (by decide) (a1F rfl (fQ rfl) (fQ rfl))
theorem a1h {a:List (List Qi)} {n m:Nat} (ha:eD a n m) (hn1:1 ≤ n) (hn:n ≤ 8) (hm:m ≤ 8):aS Tryz.prog 196 [bS a] (gE [bS (Be a n m),bC .i64 0]):=(a0i ha hn1 hn hm).fun fun B _ v S V h1 h2=>a1K h1 fun u hu=>jB (s:=5) (M:=Be a n m) (aT _ _).symm u S V hu h2
theorem Vm {z:List Qi} {s:List (List Qi)} (hsh:eD s z.length z.length) (hl:z.length ≤ 8):fT Tryz.prog 93 [nZ z s] [] (Nat) (fun B=>Is (.slice (some ⟨B,0,none⟩) z.length z.length)) (fun B=>[pL B 29 51 5 (bR aP (tab z.length fun i=>tab z.length fun k=>gm s i k))]) (fun _=>True):=by
 refine fT.intro Tryz.func93 rfl Tryz.ntmps93 rfl (fun cx Z=>(ts (rn rfl (fU (Ht rfl)) fun B1=>(ro rfl (cQ cV) (eJ (ts (ro rfl (eG A_32 Z_32 (Ht rfl) (i:=1) rfl rfl rfl) (ro rfl (cZ K_22 nN ⟨(Ht rfl),trivial⟩) (rn rfl (dH (T:=Is (.slice none 0 0)) (i:=Tryz.t29) V_30 lX rfl rfl (Ht rfl) rfl (fun _=>rfl) trivial (by show 24 * _ ≤ _; omega) zo) fun B10=>(ra rfl (eJ (cK (ts (rm rfl (ro rfl (fN U_30 (Ht rfl)) (ro rfl (cX (cJ 0)) (eJ (eU ?_))))))))))))))))))
 refine oA 2 rfl (pD (e:=51) (s:=5)) ?_
 refine bF (fun (i : Nat) => i ≤ z.length) (fun (i : Nat) => z.length - i) (fun (i : Nat) => [(1, cC B1 0), (3, Is (.slice (some ⟨B10, 0, none⟩) z.length z.length)), (12, NT .i64 z.length), (13, NT .i64 i)]) (fun (i : Nat) => [Z, box B1 32 [cB z, bS s], pL B10 29 51 5 (bR aP (jJ (fun i => tab z.length fun k => gm s i k) [] z.length i))]) 0 (Nat.zero_le _)
  (zS rfl) (aU (fun _ _ _ h=>h) (aU (fun _ _ _ h=>h) (aU (bP (by rw [← jF,kC]; exact kL aP z.length)) aY))) (fun i hi=>?_)
 refine ts (ro rfl (gJ (Ht rfl) (Ht rfl)) (eJ (cK (dQ (Ht rfl) (fun hd=>?_) (fun hd=>?_)))))
 ·simp only [decide_eq_true_eq] at hd
  refine oR 2 (i) rfl (jS hd) (fun v=>(cU (cK (eU (ts (rm rfl (ra rfl (eJ (ts (rm rfl (ro rfl (fN U_30 (Ht rfl)) (ro rfl (cX (cJ 0)) (eJ (eU ?_))))))))))))))
  refine eH (fun (k : Nat) (v : Value) => k ≤ z.length) (fun (k : Nat) (v : Value) => z.length - k) (fun (k : Nat) (v : Value) => [(1, cC B1 0), (3, Is (.slice (some ⟨B10, 0, none⟩) z.length z.length)), (4, NT .i64 i), (12, NT .i64 z.length), (13, NT .i64 i), (17, NT .i64 z.length), (18, NT .i64 k)]) (fun (k : Nat) (v : Value) => [Z, box B1 32 [cB z, bS s], Ig B10 29 51 5 (bR aP (jJ (fun i => tab z.length fun k => gm s i k) [] z.length i)) i v, bO 51 5 v ((tab k fun k => gm s i k).map aP)]) 0 v (Nat.zero_le _)
   (zS rfl) (cL.refl _) (fun k v hk=>?_)
  refine ts (ro rfl (gJ (Ht rfl) (Ht rfl)) (eJ (cK (dQ (Ht rfl) (fun he=>?_) (fun he=>?_)))))
  ·simp only [decide_eq_true_eq] at he
   refine cU (cK (eU (ts (rm rfl (ra rfl (eJ (ts (ro rfl (eG A_32 Z_32 (Ht rfl) (i:=1) rfl rfl rfl) (rm rfl (ro rfl (dW (Ht rfl) (cJ 1) z6) (rm rfl (ro rfl (dW (Ht rfl) (cJ 1) z6) (ro rfl (cZ Tryz.call25 (a1O (i:=(i:Int) + 1) (j:=(k:Int) + 1) hsh zo) ⟨(Ht rfl),(Ht rfl),(Ht rfl),trivial⟩) (rm rfl (ro rfl (dY (Ht rfl) rfl) (ro rfl (dY (Ht rfl) rfl) ?_))))))))))))))))
   refine rn rfl (eK (Ts:=[Is (.bool false),Is (.slice none 0 0),Is (.bool false),Is (.slice none 0 0),Is (.slice none 0 0)]) O_51 rfl (fun V=>aW zd (aW zd (aW zd (aW zd (aW zd (aG))))))) fun B6=>gZ Z_51 (Ht rfl) (Ht rfl) rfl (i:=4) rfl (aK rfl) rfl rfl (ra rfl (eJ (Y.D_startA (m:=9) [] 8 3 rfl rfl (bY (Ei:=[(3,_)]) rfl rfl (bQ (bJ rfl rfl) bX) rfl rfl (dX rfl (cX (Ht rfl))) ?_))))
   refine bY (Ei:=[(4,_)]) rfl rfl (bQ (bJ rfl rfl) bX) rfl rfl (dX rfl (cX (Ht rfl))) (bY (Ei:=[(3,_)]) rfl rfl (bQ (bJ rfl rfl) bX) rfl rfl (dX rfl (cX (Ht rfl))) (bY (Ei:=[(4,_)]) rfl rfl (bQ (bJ rfl rfl) bX) rfl rfl (dX rfl (cX (Ht rfl))) (bY (Ei:=[(32,_),(33,_)]) rfl rfl (bQ (bZ 2 rfl rfl) (bQ (bZ 3 rfl rfl) bX)) rfl rfl (dX rfl (gX U_30 Z_29 (Ht rfl) (Ht rfl) rfl zo (by rw [Nat.mul_one,Nat.zero_add]))) ?_)))
   refine bY (Ei:=[(34,_)]) rfl rfl (bQ (bZ 4 rfl rfl) bX) rfl rfl (dX rfl (jK A_29 Z_29 (Ht rfl) (j:=2) rfl)) (bY (Ei:=[(6,_)]) rfl rfl (bQ (bJ rfl rfl) bX) rfl rfl (dX rfl (eG A_51 Z_51 (Ht rfl) (i:=4) rfl rfl rfl)) (bY (Ei:=[(36,_)]) rfl rfl (bQ (bZ 6 rfl rfl) bX) rfl rfl (dX rfl (dA (xs:=[.tmp 36]) U_29 Z_51 O_51 (cW (Ht rfl) cG) rfl rfl rfl)) (Y.D_app (Ei:=[(35,_),(37,_)]) rfl rfl rfl rfl (bQ (bZ 5 rfl rfl) (bQ (bZ 7 rfl rfl) bX)) rfl (pM (inf:=Tryz.t51) nG lE rfl rfl rfl (Ht rfl) (Ht rfl) (by simp) (fun T hT=>by simp at hT; subst hT; exact El.ag rfl) (by show _ * 88 ≤ _; simp only [List.length_map,aT,List.length_cons,List.length_nil]; omega) (by simp only [List.length_map,aT,List.length_cons,List.length_nil]; omega)) ?_)))
   refine Y.D_done aM rfl (by kernel_rfl) rfl (by simp [Y.okP]) rfl rfl (bU (bU (bU (bU (bU (bU (bU (bU (Y.F_app (fun v2=>Y.F_nil ?_))))))))))
   refine ro rfl (gX U_30 Z_29 (Ht rfl) (Ht rfl) rfl zo (by rw [Nat.mul_one,Nat.zero_add])) ?_
   refine pO Z_29 (Ht rfl) (Ht rfl) (by simp only [bR,List.length_map,eR]; omega) (j:=2) (l:=5) rfl rfl rfl ?_
   refine eJ (aR (cY (ro rfl (dW (Ht rfl) (cJ 1) z6) (rm rfl (eJ (cM [0,1,2,5] rfl (by decide) (gQ (k + 1,v2) he (by dsimp only; omega) (zS rfl) (aU (fun _ _ _ h=>h) (aU (fun _ _ _ h=>h) (aU (fun _ _ _ h=>h) (aU (bT (by rw [qO,List.map_append,Tb hd he]; rfl)) aY)))))))))))
  ·simp only [decide_eq_false_iff_not] at he
   obtain rfl:k = z.length:=Nat.le_antisymm hk zo
   refine gG rfl (aR (fR 2 3 rfl rfl (by decide) (by simp only [bR,List.length_map,eR]; omega) ?_))
   refine cY (ro rfl (dW (Ht rfl) (cJ 1) z6) (rm rfl (eJ (cM [0,1,2] rfl (by decide) (gQ (i + 1) hd zo (zS rfl) (aU (fun _ _ _ h=>h) (aU (fun _ _ _ h=>h) (aU (bP (by rw [gI,← kP (f:=(fun i=>tab z.length fun k=>gm s i k))])) aY))))))))
 ·simp only [decide_eq_false_iff_not] at hd
  obtain rfl:i = z.length:=Nat.le_antisymm hi zo
  refine gG rfl (ts (rm rfl (ra rfl (eJ ?_))))
  exact iT B10 trivial [0,2] ⟨⟨_,rfl,fun _ _ _ h=>h⟩,⟨_,rfl,(bP (by rw [kO]))⟩,trivial⟩ (by decide) (pH rfl (fQ rfl))
theorem Hz {z : List Qi} {s : List (List Qi)} (hsh : eD s z.length z.length) (hl : z.length ≤ 8) : aS Tryz.prog 93 [nZ z s] (bS s) := (Vm hsh hl).fun fun B _ v S V h1 h2 => by
 have h3:=jB (s:=5) (M:=tab z.length fun i=>tab z.length fun k=>gm s i k) (aT _ _).symm v S V h1 h2
 rw [← lZ hsh] at h3; exact h3
theorem Ql {z:List Qi} {s:List (List Qi)} (hl:z.length ≤ 8):aS Tryz.prog 142 [nZ z s] (cB z):=by
 refine aS.intro Tryz.func142 rfl Tryz.ntmps142 rfl (fun cx=>(ts (rn rfl (fU (Ht rfl)) fun B1=>(ro rfl (cQ cV) (eJ (ts (ro rfl (eG A_32 Z_32 (Ht rfl) (i:=0) rfl rfl rfl) (ro rfl (cZ K_22 nN ⟨(Ht rfl),trivial⟩) (rn rfl (rE (T:=aP Qi.zero) (i:=Tryz.t51) nG lE rfl rfl (Ht rfl) rfl nD (El.ag rfl) (by show 88 * _ ≤ _; omega) zo) fun B7=>(ra rfl (eJ (cK (ts (rm rfl (ro rfl (rH U_29 (Ht rfl) (i:=1) rfl (show ((List.replicate z.length (aP Qi.zero)).length:Int) = ((z.length:Nat):Int) by simp)) ?_)))))))))))))))
 refine ro rfl (cX (cJ 0)) (eJ (eU ?_))
 refine eH (fun (k : Nat) (out : List Qi) => kI (fun i => gv z i) z.length out k) (fun (k : Nat) (out : List Qi) => z.length - k) (fun (k : Nat) (out : List Qi) => [(1, cC B1 0), (3, Is B7), (9, NT .i64 z.length), (10, NT .i64 k)]) (fun (k : Nat) (out : List Qi) => [box B1 32 [cB z, bS s], bO 51 5 B7 (out.map aP)]) 0 (List.replicate z.length Qi.zero) (kI.start _ _ _)
  (zS rfl) (aU (fun _ _ _ h=>h) (aU (bT (qJ aP _ _)) aY)) (fun k out hS=>?_)
 refine ts (ro rfl (gJ (Ht rfl) (Ht rfl)) (eJ (cK (dQ (Ht rfl) (fun hk=>?_) (fun hk=>?_)))))
 ·simp only [decide_eq_true_eq] at hk
  have hlen:=hS.len
  refine cU (cK (eU (ts (rm rfl (ra rfl (eJ (cY (rm rfl (rm rfl (ro rfl (eG A_32 Z_32 (Ht rfl) (i:=0) rfl rfl rfl) (rm rfl (ro rfl (dW (Ht rfl) (cJ 1) z6) (ro rfl (cZ Tryz.call23 (Zk (i:=(k:Int) + 1) zo) ⟨(Ht rfl),(Ht rfl),trivial⟩) (rm rfl (ro rfl (dY (Ht rfl) rfl) (ro rfl (dY (Ht rfl) rfl) (ro rfl (dM U_29 Z_51 (Ht rfl) (Ht rfl) rfl (i:=1) rfl (by first | omega | (simp; omega)) rfl) ?_)))))))))))))))))
  refine mY Z_51 (Ht rfl) (Ht rfl) (El.ag rfl) (i:=1) rfl rfl (by first | omega | (simp; omega)) rfl (eJ (aR (cY (ro rfl (dW (Ht rfl) (cJ 1) z6) (rm rfl (eJ (gQ (k + 1,_) (hS.next hk (Tc hk)) (by dsimp only; omega) (zS rfl) (aU (fun _ _ _ h=>h) (aU (bT (jU aP _ _ _)) aY)))))))))
 ·simp only [decide_eq_false_iff_not] at hk
  obtain rfl:k = z.length:=Nat.le_antisymm hS.kle zo
  have hfin:=hS.fin.trans (Fb (l:=z) rfl).symm
  refine gG rfl (gW (i:=1) (tt:=3) rfl rfl kN (ts (rm rfl (ra rfl (eJ (fK rfl (fJ (fQ rfl) ?_)))))))
  exact (oC (by rw [hfin]))
end
section
open Go Go.RowKit
theorem Fd (v : Value) (w : World) : (method (Tryz.prog.types.size + Made.depth) 51 v "Div").run Tryz.prog w = .ok (40, v) w := by kernel_rfl
theorem qF (v : Value) (w : World) : (method (Tryz.prog.types.size + Made.depth) 51 v "Sub").run Tryz.prog w = .ok (44, v) w := by kernel_rfl
end
section
open Go Go.RowKit
theorem Py {p c:List (List Qi)} {n m L:Nat} (hp:eD p n m) (hc:eD c m m) (hfp:bL p L) (hfc:bL c L) (hL1:1 ≤ L) (hL:L ≤ 1000000000) (hn1:1 ≤ n) (hm1:1 ≤ m) (hn:n ≤ 8) (hm:m ≤ 8):fT Tryz.prog 99 [bS p,bS c] [] (Nat) (fun B=>Is (.slice (some ⟨B,0,none⟩) n n)) (fun B=>[pL B 29 51 5 (bR aP (jQ p c))]) (fun _=>True):=by
 have hpl:=hp.1
 have hf1:=Se (n:=n) (m:=m) hfp hfc hL1 hL1 hm
 have hf2:=Pf (n:=n) (m:=m) hfp hL1
 have hs1:eD (vX p c n m m) n m:=Sf
 have hs2:eD (Be p n m) m n:=Pg
 refine fT.intro Tryz.func99 rfl Tryz.ntmps99 rfl (fun cx Z=>(ts (ro rfl (cQ cV) (eJ (cK (ts (rm rfl (ro rfl (dU U_30 (Ht rfl) aA) (ro rfl (cT (Ht rfl) (cJ 0)) (eJ (dQ (Ht rfl) (fun h0=>?_) (fun h0=>?_))))))))))))
 ·simp only [decide_eq_true_eq] at h0
  omega
 ·refine cU (ts (rm rfl (rm rfl (ro rfl (cZ Tryz.call195 (a0l hp hc hfp hfc hL1 hL1 zo zo hn1 hm1 hn hm hm) ⟨(Ht rfl), (Ht rfl), trivial⟩) (rm rfl (ro rfl (dY (Ht rfl) rfl) (ro rfl (dY (Ht rfl) rfl) (ra rfl (ra rfl (eJ (ts (rm rfl (ro rfl (cZ Tryz.call196 (a1h hp hn1 hn hm) ⟨(Ht rfl), trivial⟩) (rm rfl (ro rfl (dY (Ht rfl) rfl) (ro rfl (dY (Ht rfl) rfl) (ra rfl (ra rfl (eJ (ts (rm rfl (rm rfl (lW Tryz.call195 (Jy (a := vX p c n m m) (b := Be p n m) hs1 hs2 hf1 hf2 zo hL1 zo zo hn1 hm1 hn hm hn) ⟨(Ht rfl), (Ht rfl), trivial⟩ rfl (fun B28 _ => ?_))))))))))))))))))))))))
  refine rm rfl (ro rfl (dY (Ht rfl) rfl) (ro rfl (dY (Ht rfl) rfl) (ra rfl (ra rfl (eJ (ts (rm rfl (ra rfl (eJ ?_)))))))))
  exact iT B28 trivial [0,1] ⟨⟨_,rfl,fun _ _ _ h=>h⟩,⟨_,rfl,(bP (by rw [a0x hp hc]))⟩,trivial⟩ (by decide) (pH rfl (fQ rfl))
theorem a1m {p c:List (List Qi)} {n m L:Nat} (hp:eD p n m) (hc:eD c m m) (hfp:bL p L) (hfc:bL c L) (hL1:1 ≤ L) (hL:L ≤ 1000000000) (hn1:1 ≤ n) (hm1:1 ≤ m) (hn:n ≤ 8) (hm:m ≤ 8):aS Tryz.prog 99 [bS p,bS c] (bS (jQ p c)):=(Py hp hc hfp hfc hL1 hL hn1 hm1 hn hm).fun fun B _ v S V h1 h2=>jB (s:=5) (M:=jQ p c) (by rw [sQ.1,hp.1]) v S V h1 h2
theorem Ps {z:List Qi} {s c:List (List Qi)} {g t0:Qi} {L:Nat} (hz:dN z L) (hs:bL s L) (hc:bL c L) (hg:aD g L) (ht:aD t0 L) (hL1:1 ≤ L) (hL:L ≤ 4000) (hsh:eD s z.length z.length) (hch:eD c z.length z.length) (hl:z.length ≤ 8):aS Tryz.prog 88 [iS z s c,aP g,aP t0] (gE [aP (tA z s c g t0).1,bC .i64 (tA z s c g t0).2]):=by
 haveI:=hg; haveI:=ht
 haveI hz0:aD Qi.zero 1:=aD.zero (Nat.le_refl 1)
 have d1:(dg (((1:Nat):Int)).natAbs).length = 1:=by decide
 have d2:(dg (Int.natAbs 1)).length = 1:=by decide
 have hcl:=hch.1
 refine aS.intro Tryz.func88 rfl Tryz.ntmps88 rfl (fun cx=>(ts (rn rfl (fU (Ht rfl)) fun B3=>(rn rfl (fU (Ht rfl)) fun B4=>(rn rfl (fU (Ht rfl)) fun B5=>(rn rfl (eK (Ts:=[Is (.bool false),Is (.slice none 0 0),Is (.bool false),Is (.slice none 0 0),Is (.slice none 0 0)]) O_51 rfl (fun V=>aW zd (aW zd (aW zd (aW zd (aW zd (aG))))))) fun B6=>(ro rfl (cQ (cJ 0)) (eJ (ts (rn rfl (eK (Ts:=[Is (.bool false),Is (.slice none 0 0),Is (.bool false),Is (.slice none 0 0),Is (.slice none 0 0)]) O_51 rfl (fun V=>aW zd (aW zd (aW zd (aW zd (aW zd (aG))))))) fun B8=>?_))))))))))
 refine eJ (cK (cK (fV (m:=6) (dp 5 rfl (eG A_51 Z_51 (Ht rfl) (i:=2) rfl rfl rfl) (dq 18 0 rfl (cZ Tryz.call169 Bi ⟨(Ht rfl),trivial⟩) (dq 19 1 rfl (dR (Ht rfl)) (dq 20 2 rfl (cX (Ht rfl)) (C.D_step (Ei:=[(5,_),(21,_)]) rfl rfl (bV (bK rfl rfl) (bV (bG 3 rfl rfl) bW)) (eY rfl rfl (Ht rfl) (fun h=>eG A_51 Z_51 (Ht rfl) (i:=2) rfl rfl rfl)) (C.D_step (Ei:=[(21,_)]) rfl rfl (bV (bG 3 rfl rfl) bW) (eY rfl rfl (Ht rfl) (fun h=>cZ K_77 (pR (n:=0) (by decide) (by decide)) ⟨(cJ 0),trivial⟩)) ?_)))))))))
 refine fG aM rfl (by kernel_rfl) (zF (aJ (aJ (aV (fZ rfl rfl (eY rfl rfl (Ht rfl) (fun h=>cZ K_76 (zR (x:=t0) (y:=Qi.zero) (M:=1) zo) ⟨(fW rfl h),(fW rfl h),trivial⟩)) (fZ rfl rfl (eY rfl rfl (Ht rfl) (fun h=>Ir (fW rfl h) cV)) (ro rfl (iW (Ht rfl) (fun h=>(fW rfl h))) (eJ (dQ (Ht rfl) (fun hb=>?_) (fun hb=>?_))))))))))
 ·rw [Ll] at hb
  simp only [Bool.not_eq_true'] at hb
  have he:tA z s c g t0 = (Qi.zero,1):=by rw [tA,if_pos hb]
  refine ts (ro rfl (eG A_51 Z_51 (Ht rfl) (i:=4) rfl rfl rfl) (gZ Z_51 (Ht rfl) (Ht rfl) rfl (i:=3) rfl (aK rfl) rfl rfl (ro rfl (cQ (cJ 1)) (eJ (bN rfl (fJ (fY A_51 Z_51 rfl (i:=3) rfl rfl) ?_) (fJ (fQ rfl) ?_))))))
  ·exact (fun v V k=>by rw [he]; exact iQ v V k)
  ·exact (fun v V k=>by rw [he]; exact k)
 ·rw [Ll] at hb
  simp only [Bool.not_eq_false'] at hb
  have hb2:¬ lJ t0 = false:=by rw [hb]; decide
  refine cU (cK (ts (ro rfl (eW lD (Ht rfl) rfl) (ro rfl (fX A_30 Z_30 (Ht rfl) (i:=0) rfl rfl) (ro rfl (dU U_30 (Ht rfl) aA) (ro rfl (gY (Ht rfl) (cJ 2)) (eJ (dQ (Ht rfl) (fun hd=>?_) (fun hd=>?_)))))))))
  ·have hd2 : z.length ≠ 2 := by rw [← hcl]; simpa using hd
   have he:tA z s c g t0 = (Qi.zero,4):=by rw [tA,if_neg hb2,if_pos hd2]
   refine ts (ro rfl (eG A_51 Z_51 (Ht rfl) (i:=4) rfl rfl rfl) (gZ Z_51 (Ht rfl) (Ht rfl) rfl (i:=3) rfl (aK rfl) rfl rfl (ro rfl (cQ (cJ 4)) (eJ (bN rfl (fJ (fY A_51 Z_51 rfl (i:=3) rfl rfl) ?_) (fJ (fQ rfl) ?_))))))
   ·exact (fun v V k=>by rw [he]; exact iQ v V k)
   ·exact (fun v V k=>by rw [he]; exact k)
  ·have hd2 : z.length = 2 := by rw [← hcl]; simpa using hd
   have hd3:¬ z.length ≠ 2:=fun h=>h hd2
   have hsh2:=hsh
   rw [hd2] at hsh hch
   have hs1:=hsh.1
   have hc1:=hch.1
   have hr0:=hsh.row (i:=0) (by decide)
   have hr1:=hsh.row (i:=1) (by decide)
   have hWf:=Er hs hg hL1
   have hW:eD (Rl s g) 1 2:=⟨rfl,fun r hr=>by have:=List.mem_singleton.1 hr; subst this; rfl⟩
   have hXs:eD (jQ (Rl s g) c) 1 1:=sQ
   have hX0:=hXs.row (i:=0) (by decide)
   have hp1:=pk1 (z:=z) zo
   haveI f1:aD (gm s 1 0) L:=hs.get hL1 1 0
   haveI f2:aD (gm s 0 0) L:=hs.get hL1 0 0
   haveI f3:aD (Um z ((1:Nat):Int)) L:=by rw [hp1]; exact hz.get hL1 0
   haveI f4:=Rn hs hc hg hL1 zo
   have hpd:gm s 1 0 * (gm s 1 0).conj * (t0 * Um z ((1:Nat):Int)) * (Cf - g * g.conj) = Ep z s g t0:=by rw [hp1,Qi.mul_conj_norm,Qi.mul_conj_norm,Ep,Qi.mul_assoc']
   refine cU (ts (ro rfl (eW wI (Ht rfl) rfl) (ro rfl (eG A_32 Z_32 (Ht rfl) (i:=0) rfl rfl rfl) (ro rfl (cZ Tryz.call93 (Hz hsh2 zo) ⟨(Ht rfl),trivial⟩) (ro rfl (cZ K_77 (pR (n:=1) (by decide) (by decide)) ⟨(cJ 1),trivial⟩) (ro rfl (cZ Tryz.call98 Qe ⟨(Ht rfl),trivial⟩) (rn rfl (eK (Ts:=[Is (.bool false),Is (.slice none 0 0),Is (.bool false),Is (.slice none 0 0),Is (.slice none 0 0)]) O_51 rfl (fun V=>aW zd (aW zd (aW zd (aW zd (aW zd (aG))))))) fun B10=>?_)))))))
   refine ra rfl (gZ Z_51 (Ht rfl) (Ht rfl) rfl (i:=5) rfl (aK rfl) rfl rfl (eJ (ts (ro rfl (eW wI (Ht rfl) rfl) (ro rfl (eG A_32 Z_32 (Ht rfl) (i:=0) rfl rfl rfl) (ro rfl (cZ Tryz.call23 (Zk (i:=((1:Nat):Int)) zo) ⟨(Ht rfl),(cJ 1),trivial⟩) (rm rfl (ro rfl (dY (Ht rfl) rfl) (ro rfl (dY (Ht rfl) rfl) (rn rfl (eK (Ts:=[Is (.bool false),Is (.slice none 0 0),Is (.bool false),Is (.slice none 0 0),Is (.slice none 0 0)]) O_51 rfl (fun V=>aW zd (aW zd (aW zd (aW zd (aW zd (aG))))))) fun B11=>?_))))))))))
   refine gZ Z_51 (Ht rfl) (Ht rfl) rfl (i:=6) rfl (aK rfl) rfl rfl (ra rfl (eJ (cK (pP (E':=[(3,_),(4,_),(5,_),(6,_),(7,_),(8,_),(9,_),(10,_),(11,_)]) (zS rfl) (fV (m:=18) (dp 9 rfl (cX (Ht rfl)) (dq 44 0 rfl (dZ U_30 Z_29 (Ht rfl) (cJ 1) rfl (eX (eQ (d:=[]) zo))) (dq 45 1 rfl (dJ A_29 Z_29 (Ht rfl)) (dq 46 2 rfl (dZ U_29 Z_51 (Ht rfl) (cJ 0) rfl (eX (eQ (d:=Qi.zero) (by rw [hr1]; decide)))) ?_)))))))))
   refine dq 47 3 rfl (dJ A_51 Z_51 (Ht rfl)) (dq 48 4 rfl (eP gF (Ht rfl)) (dp 4 rfl (eG A_51 Z_51 (Ht rfl) (i:=1) rfl rfl rfl) (cH 49 5 50 6 rfl (dO iP K_45 (mF zo) (Ht rfl) ⟨(Ht rfl),trivial⟩) (dp 10 rfl (eG A_51 Z_51 (Ht rfl) (i:=5) rfl rfl rfl) (dq 52 8 rfl (eP gF (Ht rfl)) (dp 4 rfl (eG A_51 Z_51 (Ht rfl) (i:=1) rfl rfl rfl) (dq 54 10 rfl (eP gF (Ht rfl)) (dp 9 rfl (cX (Ht rfl)) (dq 56 12 rfl (dZ U_30 Z_29 (Ht rfl) (cJ 0) rfl (eX (eQ (d:=[]) zo))) ?_)))))))))
   refine dq 57 13 rfl (dJ A_29 Z_29 (Ht rfl)) (dq 58 14 rfl (dZ U_29 Z_51 (Ht rfl) (cJ 0) rfl (eX (eQ (d:=Qi.zero) (by rw [hr0]; decide)))) ?_)
   refine dq 59 15 rfl (dJ A_51 Z_51 (Ht rfl)) (cH 55 11 60 16 rfl (dO iP K_45 (mF zo) (Ht rfl) ⟨(Ht rfl),trivial⟩) (fG aM rfl (by kernel_rfl) (zF (zF (zF (zF (aJ (aJ (aV (ro rfl (dO qF Tryz.call44 (Jz zo) (Ht rfl) ⟨(Ht rfl),trivial⟩) (ro rfl (dA (xs:=[.tmp 51,.tmp 62]) U_29 Z_51 O_51 (cW (Ht rfl) (cW (Ht rfl) cG)) rfl rfl rfl) ?_)))))))))))
   refine ro rfl (dA (xs:=[.tmp 63]) U_30 Z_29 Tryz.zeroValue29 (cW (Ht rfl) cG) rfl rfl rfl) (ra rfl (eJ (cK (pP (E':=[(3,_),(4,_),(5,_),(6,_),(7,_),(8,_),(9,_),(10,_),(11,_),(13,_)]) (zS rfl) (cY (rm rfl (ro rfl (eW lD (Ht rfl) rfl) (ro rfl (fX A_30 Z_30 (Ht rfl) (i:=0) rfl rfl) (ro rfl (cZ Tryz.call99 (a1m (p:=Rl s g) (c:=c) (n:=1) (m:=2) (L:=2 * L + 4) hW hch hWf (hc.le zo) zo zo (by decide) (by decide) (by decide) (by decide)) ⟨(Ht rfl),(Ht rfl),trivial⟩) ?_)))))))))
   refine ro rfl (dZ U_30 Z_29 (Ht rfl) (cJ 0) rfl (eX (eQ (d:=[]) (by rw [hXs.1]; decide)))) ?_
   refine ro rfl (dJ A_29 Z_29 (Ht rfl)) (ro rfl (dZ U_29 Z_51 (Ht rfl) (cJ 0) rfl (eX (eQ (d:=Qi.zero) (by rw [hX0]; decide)))) ?_)
   refine ro rfl (dJ A_51 Z_51 (Ht rfl)) (rn rfl (eK (Ts:=[Is (.bool false),Is (.slice none 0 0),Is (.bool false),Is (.slice none 0 0),Is (.slice none 0 0)]) O_51 rfl (fun V=>aW zd (aW zd (aW zd (aW zd (aW zd (aG))))))) fun B14=>(gZ Z_51 (Ht rfl) (Ht rfl) rfl (i:=7) rfl (aK rfl) rfl rfl (eJ (cK (pP (E':=[(3,_),(4,_),(5,_),(6,_),(7,_),(8,_),(9,_),(10,_),(11,_),(14,_)]) (zS rfl) ?_)))))
   refine fV (m:=32) (dp 9 rfl (cX (Ht rfl)) (dq 73 0 rfl (dZ U_30 Z_29 (Ht rfl) (cJ 1) rfl (eX (eQ (d:=[]) zo))) (dq 74 1 rfl (dJ A_29 Z_29 (Ht rfl)) (dq 75 2 rfl (dZ U_29 Z_51 (Ht rfl) (cJ 0) rfl (eX (eQ (d:=Qi.zero) (by rw [hr1]; decide)))) ?_))))
   refine dq 76 3 rfl (dJ A_51 Z_51 (Ht rfl)) (dq 77 4 rfl (eP gF (Ht rfl)) (dp 9 rfl (cX (Ht rfl)) (dq 79 6 rfl (dZ U_30 Z_29 (Ht rfl) (cJ 1) rfl (eX (eQ (d:=[]) zo))) (dq 80 7 rfl (dJ A_29 Z_29 (Ht rfl)) (dq 81 8 rfl (dZ U_29 Z_51 (Ht rfl) (cJ 0) rfl (eX (eQ (d:=Qi.zero) (by rw [hr1]; decide)))) ?_)))))
   refine dq 82 9 rfl (dJ A_51 Z_51 (Ht rfl)) (dq 83 10 rfl (eP gF (Ht rfl)) (dq 84 11 rfl (dO pE Tryz.call175 xJ (Ht rfl) trivial) (cH 78 5 85 12 rfl (dO iP K_45 (mF zo) (Ht rfl) ⟨(Ht rfl),trivial⟩) (dq 86 13 rfl (eP gF (Ht rfl)) (dp 5 rfl (eG A_51 Z_51 (Ht rfl) (i:=2) rfl rfl rfl) (dp 11 rfl (eG A_51 Z_51 (Ht rfl) (i:=6) rfl rfl rfl) (cH 88 15 89 16 rfl (cZ K_45 (mF zo) ⟨(Ht rfl),(Ht rfl),trivial⟩) (dq 90 17 rfl (cZ Tryz.call98 Qe ⟨(Ht rfl),trivial⟩) ?_))))))))
   refine cH 87 14 91 18 rfl (dO iP K_45 (mF zo) (Ht rfl) ⟨(Ht rfl),trivial⟩) (dq 92 19 rfl (eP gF (Ht rfl)) (dp 10 rfl (eG A_51 Z_51 (Ht rfl) (i:=5) rfl rfl rfl) (dq 94 21 rfl (eP gF (Ht rfl)) (dp 4 rfl (eG A_51 Z_51 (Ht rfl) (i:=1) rfl rfl rfl) (dq 96 23 rfl (eP gF (Ht rfl)) (dp 4 rfl (eG A_51 Z_51 (Ht rfl) (i:=1) rfl rfl rfl) (dq 98 25 rfl (eP gF (Ht rfl)) (dq 99 26 rfl (dO pE Tryz.call175 xJ (Ht rfl) trivial) (cH 97 24 100 27 rfl (dO iP K_45 (mF zo) (Ht rfl) ⟨(Ht rfl),trivial⟩) ?_)))))))))
   refine cH 95 22 101 28 rfl (dO qF Tryz.call44 (Jz zo) (Ht rfl) ⟨(Ht rfl),trivial⟩) (cH 93 20 102 29 rfl (dO iP K_45 (mF zo) (Ht rfl) ⟨(Ht rfl),trivial⟩) (C.D_new (Ei:=[]) rfl rfl rfl bW (eK (Ts:=[Is (.bool false),Is (.slice none 0 0),Is (.bool false),Is (.slice none 0 0),Is (.slice none 0 0)]) O_51 rfl (fun V=>aW zd (aW zd (aW zd (aW zd (aW zd (aG))))))) (fG aM rfl (by kernel_rfl) (zF (zF (zF (zF (zF (zF (zF (aJ (aJ (aJ (C.F_new (fun B15=>aV ?_)))))))))))))))
   refine gZ Z_51 (Ht rfl) (Ht rfl) rfl (i:=8) rfl (aK rfl) rfl rfl (eJ (cK (pP (E':=[(6,_),(7,_),(8,_),(10,_),(14,_),(15,_)]) (zS rfl) (cY (ro rfl (eG A_51 Z_51 (Ht rfl) (i:=7) rfl rfl rfl) (ro rfl (eP gF (Ht rfl)) (ro rfl (eG A_51 Z_51 (Ht rfl) (i:=8) rfl rfl rfl) (ro rfl (dO Fd Tryz.call40 (Jw (x:=Rm s c g) (y:=gm s 1 0 * (gm s 1 0).conj * (t0 * Um z ((1:Nat):Int)) * (Cf - g * g.conj)) zo) (Ht rfl) ⟨(Ht rfl),trivial⟩) ?_))))))))
   refine rm rfl (ro rfl (dY (Ht rfl) rfl) (ro rfl (dY (Ht rfl) rfl) (rn rfl (eK (Ts:=[Is (.bool false),Is (.slice none 0 0),Is (.bool false),Is (.slice none 0 0),Is (.slice none 0 0)]) O_51 rfl (fun V=>aW zd (aW zd (aW zd (aW zd (aW zd (aG))))))) fun B16=>(gZ Z_51 (Ht rfl) (Ht rfl) rfl (i:=9) rfl (aK rfl) rfl rfl (ra rfl (eJ (cK (cK (pP (E':=[(6,_),(7,_),(8,_),(10,_),(16,_),(17,_)]) (zS rfl) ?_)))))))))
   refine cY (rm rfl (ro rfl (uY (Ht rfl) cV) (eJ (dQ (Ht rfl) (fun hk=>?_) (fun hk=>?_)))))
   ·rw [hpd] at hk
    have hk2 : Ep z s g t0 = Qi.zero := by
     by_cases h:Ep z s g t0 = Qi.zero
     ·exact h
     ·rw [if_neg h] at hk; exact absurd hk (by decide)
    have he:tA z s c g t0 = (Qi.zero,3):=by rw [tA,if_neg hb2,if_neg hd3,if_pos hk2]
    refine ts (ro rfl (eG A_51 Z_51 (Ht rfl) (i:=4) rfl rfl rfl) (gZ Z_51 (Ht rfl) (Ht rfl) rfl (i:=3) rfl (aK rfl) rfl rfl (ro rfl (cQ (cJ 3)) (eJ (bN rfl (fJ (fY A_51 Z_51 rfl (i:=3) rfl rfl) ?_) (fJ (fQ rfl) ?_))))))
    ·exact (fun v V k=>by rw [he]; exact iQ v V k)
    ·exact (fun v V k=>by rw [he]; exact k)
   ·have hk2 : ¬ Ep z s g t0 = Qi.zero := fun h => by rw [hpd, if_pos h] at hk; exact absurd hk (by decide)
    have he:tA z s c g t0 = (Cf + Rm s c g / Ep z s g t0,0):=by rw [tA,if_neg hb2,if_neg hd3,if_neg hk2]
    have hv:Cf + Rm s c g / (gm s 1 0 * (gm s 1 0).conj * (t0 * Um z ((1:Nat):Int)) * (Cf - g * g.conj)) = (tA z s c g t0).1:=by rw [he,hpd]
    refine cU (ts (ro rfl (eG A_51 Z_51 (Ht rfl) (i:=5) rfl rfl rfl) (ro rfl (eP gF (Ht rfl)) (ro rfl (eG A_51 Z_51 (Ht rfl) (i:=9) rfl rfl rfl) (ro rfl (dO vH K_46 (xI zo) (Ht rfl) ⟨(Ht rfl),trivial⟩) (gZ Z_51 (Ht rfl) (Ht rfl) rfl (i:=3) rfl (aK rfl) rfl rfl (ro rfl (cQ (cJ 0)) (eJ (bN rfl (fJ (fY A_51 Z_51 rfl (i:=3) rfl rfl) ?_) (fJ (fQ rfl) ?_))))))))))
    ·exact (kU hv)
    ·exact (fun v V k=>by rw [he]; exact k)
end
section
open Go Go.RowKit
theorem Uy {n:Nat} (h:n < 4294967296):aS Tryz.prog 278 [NT .u64 1,NT .u64 n] (gE [NT .u64 0,NT .u64 n]):=by
 refine aS.intro Tryz.func278 rfl Tryz.ntmps278 rfl (fun cx=>(ts (ro rfl (cQ (cJ 0)) (ro rfl (cQ (cJ 0)) (eJ (ts (rm rfl (ro rfl (aI.nat (rF rfl (Ht rfl) (cJ 4294967295) z7 z7) (show (1:Nat) &&& 4294967295 = 1 by decide)) (ra rfl (eJ (ts (rm rfl (ro rfl (aI.nat (dT (Ht rfl) (cJ 32) (by decide)) (show (1:Nat) / 2 ^ 32 = 0 by decide)) (ra rfl (eJ (ts (rm rfl (ro rfl (aI.nat (rF rfl (Ht rfl) (cJ 4294967295) z7 z7) (show n &&& 4294967295 = n from (Nat.and_two_pow_sub_one_eq_mod n 32).trans (Nat.mod_eq_of_lt h))) ?_))))))))))))))))))
 refine ra rfl (eJ (ts (rm rfl (ro rfl (aI.nat (dT (Ht rfl) (cJ 32) (by decide)) (show n / 2 ^ 32 = 0 from Nat.div_eq_of_lt h)) (ra rfl (eJ (ts (rm rfl (rm rfl (ro rfl (aI.nat (kB (Ht rfl) (Ht rfl) z7) (Nat.one_mul n)) (ra rfl (eJ (ts (rm rfl (rm rfl (ro rfl (aI.nat (kB (Ht rfl) (Ht rfl) z7) (Nat.zero_mul n)) (rm rfl (ro rfl (aI.nat (dT (Ht rfl) (cJ 32) (by decide)) (show n / 2 ^ 32 = 0 from Nat.div_eq_of_lt h)) ?_))))))))))))))))))
 refine ro rfl (dW (Ht rfl) (Ht rfl) z7) (ra rfl (eJ (ts (rm rfl (ro rfl (aI.nat (rF rfl (Ht rfl) (cJ 4294967295) z7 z7) (show (0 + 0:Nat) &&& 4294967295 = 0 by decide)) (ra rfl (eJ (ts (rm rfl (ro rfl (aI.nat (dT (Ht rfl) (cJ 32) (by decide)) (show (0 + 0:Nat) / 2 ^ 32 = 0 by decide)) (ra rfl (eJ (ts (rm rfl (rm rfl (rm rfl ?_))))))))))))))))
 refine ro rfl (aI.nat (kB (Ht rfl) (Ht rfl) z7) (show (1 * 0:Nat) = 0 by decide)) (ro rfl (dW (Ht rfl) (Ht rfl) z7) (ra rfl (eJ (ts (rm rfl (rm rfl (ro rfl (aI.nat (kB (Ht rfl) (Ht rfl) z7) (show (0 * 0:Nat) = 0 by decide)) (rm rfl (ro rfl (dW (Ht rfl) (Ht rfl) z7) ?_)))))))))
 refine rm rfl (ro rfl (aI.nat (dT (Ht rfl) (cJ 32) (by decide)) (show (0 + 0:Nat) / 2 ^ 32 = 0 by decide)) (ro rfl (dW (Ht rfl) (Ht rfl) z7) (ra rfl (eJ (ts (rm rfl (rm rfl (ro rfl (aI.nat (kB (Ht rfl) (Ht rfl) z7) (Nat.one_mul n)) (ra rfl (eJ (bN rfl (fJ (fQ rfl) ?_) (fQ rfl))))))))))))
 exact (lL (by decide))
theorem a0m {n:Nat} (h:n < 4294967296):aS Tryz.prog 251 [NT .u64 1,NT .u64 n] (gE [NT .u64 0,NT .u64 n]):=by
 refine aS.intro Tryz.func251 rfl Tryz.ntmps251 rfl (fun cx=>(ts (ro rfl (cQ (cJ 0)) (ro rfl (cQ (cJ 0)) (eJ (cK (dQ cV (fun hf=>?_) (fun hf=>?_))))))))
 ·exact absurd hf (by decide)
 ·refine cU (ts (rm rfl (rm rfl (ro rfl (cZ Tryz.call278 (Uy h) ⟨(Ht rfl), (Ht rfl), trivial⟩) (rm rfl (ro rfl (dY (Ht rfl) rfl) (ro rfl (dY (Ht rfl) rfl) (ra rfl (ra rfl (eJ (ts (rm rfl (rm rfl (ra rfl (ra rfl (eJ ?_))))))))))))))))
  exact bN rfl (fQ rfl) (fQ rfl)
theorem Pw {m:Nat} (h1:1 ≤ m) (hm:m ≤ 1000):fT Tryz.prog 191 [cB [Qi.zero],NT .i64 m] [] ({v:Value // fH v}) (fun v=>Is v.1) (fun v=>[bO 51 5 v.1 ((tab m fun _=>Qi.zero).map aP)]) (fun _=>True):=by
 refine fT.intro Tryz.func191 rfl Tryz.ntmps191 rfl (fun cx Z=>(ts (ro rfl (cQ cV) (eJ (cK (ts (rm rfl (ro rfl (gJ (Ht rfl) (cJ 0)) (eJ (dQ (Ht rfl) (fun h0=>?_) (fun h0=>?_)))))))))))
 ·simp only [decide_eq_true_eq] at h0
  omega
 ·refine cU (ts (rm rfl (ro rfl (dU U_29 (Ht rfl) (show (([Qi.zero].map aP).length : Int) = ((1 : Nat) : Int) from rfl)) (ro rfl (gV U_3 U_255 (Ht rfl) z7) (rm rfl (ro rfl (gV U_3 U_255 (Ht rfl) z7) (ro rfl (cZ Tryz.call251 (a0m zo) ⟨(Ht rfl), (Ht rfl), trivial⟩) (rm rfl (ro rfl (dY (Ht rfl) rfl) (ro rfl (dY (Ht rfl) rfl) ?_))))))))))
  refine ra rfl (ra rfl (eJ (cK (ts (rm rfl (ro rfl (dL (Ht rfl) (cJ 0)) (rm rfl (fZ rfl rfl (eY rfl rfl (Ht rfl) (fun h=>cX (Ht rfl))) (fZ rfl rfl (eY rfl rfl (Ht rfl) (fun h=>dL (fW rfl h) (cJ 9223372036854775807))) (ro rfl (iW (Ht rfl) (fun h=>(fW rfl h))) (eJ (dQ (Ht rfl) (fun h2=>?_) (fun h2=>?_)))))))))))))
  ·simp only [Bool.or_eq_true, decide_eq_true_eq] at h2
   omega
  ·refine cU (ts (rm rfl (ro rfl (gV U_255 U_3 (Ht rfl) z6) (Ji (T := aP Qi.zero) (i := Tryz.t51) nG lE rfl rfl (Ht rfl) rfl nD (El.ag rfl) (by show 88 * _ ≤ _; omega) zo rfl (fun B30 hB30 => (ra rfl (eJ (ts (rm rfl (rm rfl (ro rfl (Ss (q := 1) (T := aP Qi.zero) U_29 Z_51 (i := 1) rfl (Ht rfl) (Ht rfl) (by decide) (El.ag rfl) zo) (ra rfl (eJ (cK (eU ?_)))))))))))))))
   refine bF (fun (k : Nat) => 1 ≤ k ∧ k ≤ m) (fun (k : Nat) => m - k) (fun (k : Nat) => [(7, Is B30), (8, NT .i64 k)]) (fun (k : Nat) => [Z, bO 51 5 B30 (List.replicate m (aP Qi.zero))]) (Nat.min 1 m) ⟨by show 1 ≤ min 1 m; omega, by show min 1 m ≤ m; omega⟩
    (zS rfl) (cL.refl _) (fun k ⟨hk1,hk⟩=>?_)
   refine cK (ts (rm rfl (rm rfl (ro rfl (rH U_29 (Ht rfl) (i:=1) rfl (show ((List.replicate m (aP Qi.zero)).length:Int) = ((m:Nat):Int) by simp)) (ro rfl (gJ (Ht rfl) (Ht rfl)) (eJ (dQ (Ht rfl) (fun hd=>?_) (fun hd=>?_))))))))
   ·simp only [decide_eq_true_eq] at hd
    have hlen:(List.replicate m (aP Qi.zero)).length = m:=by simp
    have h5:Nat.min k ((List.replicate m (aP Qi.zero)).length - k) = min k (m - k):=by rw [hlen]
    refine cU (eU (fV (m:=8) (dp 8 rfl (cX (Ht rfl)) (dp 7 rfl (cX (Ht rfl)) (dp 8 rfl (cX (Ht rfl)) (cH 39 1 40 2 rfl (Sx U_29 Z_51 (Ht rfl) (Ht rfl) rfl (i:=1) rfl (by rw [hlen]; exact hd)) ?_))))))
    refine dp 7 rfl (cX (Ht rfl)) (dp 8 rfl (cX (Ht rfl)) (cH 42 4 43 5 rfl (Sw U_29 Z_51 (Ht rfl) (Ht rfl) rfl (i:=1) rfl (by rw [hlen]; omega) (by rw [hlen]; omega)) ?_))
    refine cH 41 3 44 6 rfl (Io (T:=aP Qi.zero) U_29 Z_51 (i:=1) rfl (Ht rfl) (Ht rfl)) (fG aM rfl (by kernel_rfl) (zF (zF (aV (ro rfl (dW (Ht rfl) (Ht rfl) (by show _ < 9223372036854775808; omega)) (ra rfl (eJ (aR (gQ (k + Nat.min k ((List.replicate m (aP Qi.zero)).length - k)) ⟨by omega,by omega⟩ zo (zS rfl) (cL.refl _))))))))))
   ·refine gG rfl (ts (rm rfl (ra rfl (eJ ?_))))
    exact iT ⟨B30,hB30⟩ trivial [0,1] ⟨⟨_,rfl,fun _ _ _ h=>h⟩,⟨_,rfl,(bT (by rw [kC,qJ]))⟩,trivial⟩ (by decide) (pH rfl (fQ rfl))
end
section
open Go Go.RowKit
theorem He {n : Nat} {E : cD} {H : Hp} {d : Option Tmp} {t : TypeId} {pos : String} {af : Array Edge} {g : Option (Nat × Bool)} {x0 x1 : Operand} {T0 T1 T2 : Ty} (h0 : bD E x0 (eM [T0, T1])) [s1 : dE T2 1 false] (h1 : bD E x1 T2) :
  aI Tryz.prog n E H ⟨d,.build 34 #[(0,x0),(1,x1)],t,pos,af,g⟩ (eM [T0,T1,T2]) :=
 fC (parts := [(0, x0), (1, x1)]) fun a V w hs => by
  obtain ⟨v0,e0,c0⟩:=h0 n V a hs
  obtain ⟨c0_0,c0_1,rfl⟩:∃ c0_0 c0_1,v0 = [c0_0,c0_1]:=vG (by simpa using c0.length)
  have p1:=h1 n V a hs
  generalize e1:a.eval x1 = v1 at p1
  have q1:=(s1.ok v1 V p1).2.2 rfl
  refine ⟨.agg #[c0_0,c0_1,v1],?_,[c0_0,c0_1,v1],rfl,aW (c0.at (i:=0) rfl rfl) (aW (c0.at (i:=1) rfl rfl) (aW (⟨p1,q1⟩) (aG)))⟩
  simp [e0,e1,Instr.build,Instr.fill,Sem.run_bind,Result.andThen,dS,q1.cells,O_34,U_34,Z_30,Z_32]
end
section
open Go Go.RowKit
theorem Dt {n:Nat} (hn:n ≤ 1000):fT Tryz.prog 97 [NT .i64 n,NT .i64 n] [] (Nat) (fun B=>Is (.slice (some ⟨B,0,none⟩) n n)) (fun B=>[kG fH B 29 51 5 (bR aP (Gr n n))]) (fun _=>True):=by
 refine fT.intro Tryz.func97 rfl Tryz.ntmps97 rfl (fun cx Z=>(ts (ro rfl (cQ cV) (eJ (ts (rm rfl (rn rfl (dH (T:=Is (.slice none 0 0)) (i:=Tryz.t29) V_30 lX rfl rfl (Ht rfl) rfl (fun _=>rfl) trivial (by show 24 * _ ≤ _; omega) zo) fun B8=>(ra rfl (eJ (cK (ts (rm rfl (ro rfl (fN U_30 (Ht rfl)) (ro rfl (cX (cJ 0)) (eJ (eU (oA 1 rfl (tD fH ⟨none,0,rfl⟩ (e:=51) (s:=5)) ?_)))))))))))))))))
 refine bF (fun (k : Nat) => k ≤ n) (fun (k : Nat) => n - k) (fun (k : Nat) => [(1, NT .i64 n), (5, Is (.slice (some ⟨B8, 0, none⟩) n n)), (10, NT .i64 n), (11, NT .i64 k)]) (fun (k : Nat) => [Z, kG fH B8 29 51 5 (bR aP (jJ (fun _ => (tab n fun _ => Qi.zero)) [] n k))]) 0 (Nat.zero_le _)
  (zS rfl) (aU (fun _ _ _ h=>h) (aU (bP (by rw [← jF,kC]; exact kL aP n)) aY)) (fun k hk=>?_)
 refine ts (ro rfl (gJ (Ht rfl) (Ht rfl)) (eJ (cK (dQ (Ht rfl) (fun hd=>?_) (fun hd=>?_)))))
 ·simp only [decide_eq_true_eq] at hd
  refine lC 1 (k) rfl (jS hd) (fun v hv=>(cU (cK (eU (ts (rm rfl (ra rfl (eJ (cY (rm rfl (rm rfl (ro rfl (cZ K_77 (pR (n:=0) (by decide) (by decide)) ⟨(cJ 0),trivial⟩) (ro rfl (cZ Tryz.call98 Qe ⟨(Ht rfl),trivial⟩) (ro rfl (dA (xs:=[.tmp 17]) U_29 Z_51 O_51 (cW (Ht rfl) cG) rfl rfl rfl) (rm rfl (lW Tryz.call191 (Pw (m:=n) zo hn) ⟨(Ht rfl),(Ht rfl),trivial⟩ rfl (fun B20 _=>?_)))))))))))))))))
  have hB20:=B20.2
  refine ro rfl (gX U_30 Z_29 (Ht rfl) (Ht rfl) rfl zo (by rw [Nat.mul_one,Nat.zero_add])) ?_
  refine pO Z_29 (Ht rfl) (Ht rfl) (by simp only [bR,List.length_map,eR]; omega) (j:=1) (l:=3) rfl rfl rfl ?_
  refine eJ (aR (fR 1 3 rfl rfl (by decide) (by simp only [bR,List.length_map,eR]; omega) ?_))
  refine cY (ro rfl (dW (Ht rfl) (cJ 1) z6) (rm rfl (eJ (cM [0,1] rfl (by decide) (gQ (k + 1) hd zo (zS rfl) (aU (fun _ _ _ h=>h) (aU (bP (by rw [gI,← kP (f:=fun _=>(tab n fun _=>Qi.zero))])) aY)))))))
 ·simp only [decide_eq_false_iff_not] at hd
  obtain rfl:n = k:=Nat.le_antisymm zo hk
  refine gG rfl (ts (rm rfl (ra rfl (eJ ?_))))
  exact iT B8 trivial [0,1] ⟨⟨_,rfl,fun _ _ _ h=>h⟩,⟨_,rfl,(bP (by rw [kO]; rfl))⟩,trivial⟩ (by decide) (pH rfl (fQ rfl))
theorem Ds {z:List Qi} {s:List (List Qi)} {L:Nat} (hz:dN z L) (hs:bL s L) (hL1:1 ≤ L) (hL:L ≤ 10000000) (hsh:eD s z.length z.length) (hl1:1 ≤ z.length) (hl:z.length ≤ 8):fT Tryz.prog 160 [nZ z s] [] (Nat) (fun B=>Is (.slice (some ⟨B,0,none⟩) z.length z.length)) (fun B=>[kG fH B 29 51 5 (bR aP (jT z s))]) (fun _=>True):=by
 have hs1:=hs.le (Nat.le_refl L)
 have hsl:=hsh.1
 have hD:=xR z
 have hDf:=sX hz hL1
 have hXf:=sP hs hDf hL1 (by rw [hD.1]; exact hl)
 have hX:eD (jQ s (dD z)) s.length s.length:=sQ
 refine fT.intro Tryz.func160 rfl Tryz.ntmps160 rfl (fun cx Z=>(ts (rn rfl (fU (Ht rfl)) fun B1=>(ro rfl (cQ cV) (eJ (cK (fV (m:=3) (dp 1 rfl (eG A_32 Z_32 (Ht rfl) (i:=1) rfl rfl rfl) (dq 10 0 rfl (cZ K_22 nN ⟨(Ht rfl),trivial⟩) (dp 1 rfl (eG A_32 Z_32 (Ht rfl) (i:=1) rfl rfl rfl) (fG aM rfl (by kernel_rfl) (aJ (aJ (aJ (aV (ro rfl (cZ K_22 nN ⟨(Ht rfl),trivial⟩) (lW Tryz.call97 (Dt (n:=z.length) zo) ⟨(Ht rfl),(Ht rfl),trivial⟩ rfl (fun B14 _=>?_))))))))))))))))))
 refine ra rfl (eJ (cK (ts (ro rfl (eG A_32 Z_32 (Ht rfl) (i:=1) rfl rfl rfl) (ro rfl (cZ Tryz.call142 (Ql zo) ⟨(Ht rfl),trivial⟩) (ro rfl (dU U_29 (Ht rfl) aA) (ro rfl (cX (cJ 0)) (eJ (eU ?_)))))))))
 refine bF (fun (i : Nat) => i ≤ z.length) (fun (i : Nat) => z.length - i) (fun (i : Nat) => [(1, cC B1 0), (3, Is (.slice (some ⟨B14, 0, none⟩) z.length z.length)), (16, cB z), (17, NT .i64 z.length), (18, NT .i64 i)]) (fun (i : Nat) => [Z, box B1 32 [cB z, bS s], kG fH B14 29 51 5 (bR aP (jJ (fun i => (tab z.length fun _ => Qi.zero).set i (gv z i)) (tab z.length fun _ => Qi.zero) z.length i))]) 0 (Nat.zero_le _)
  (zS rfl) (aU (fun _ _ _ h=>h) (aU (fun _ _ _ h=>h) (aU (bP (by rw [Gr,jF])) aY))) (fun i hi=>?_)
 refine ts (ro rfl (gJ (Ht rfl) (Ht rfl)) (eJ (cK (dQ (Ht rfl) (fun hd=>?_) (fun hd=>?_)))))
 ·simp only [decide_eq_true_eq] at hd
  have hzl:=aT z.length fun _=>Qi.zero
  refine lC 2 (i) rfl (jS hd) (fun v hv=>(cU (cK (eU (ts (rm rfl (ro rfl (dZ U_29 Z_51 (Ht rfl) (Ht rfl) rfl (eX (eQ (d:=Qi.zero) hd))) (ro rfl (dJ A_51 Z_51 (Ht rfl)) (rn rfl (eK (Ts:=[Is (.bool false),Is (.slice none 0 0),Is (.bool false),Is (.slice none 0 0),Is (.slice none 0 0)]) O_51 rfl (fun V=>aW zd (aW zd (aW zd (aW zd (aW zd (aG))))))) fun B5=>(ra rfl ?_))))))))))
  refine gZ Z_51 (Ht rfl) (Ht rfl) rfl (i:=4) rfl (aK rfl) rfl rfl (eJ (fV (m:=7) (dp 3 rfl (cX (Ht rfl)) (dp 4 rfl (cX (Ht rfl)) (cH 23 0 24 1 rfl (gX U_30 Z_29 (Ht rfl) (Ht rfl) rfl zo (by rw [Nat.mul_one,Nat.zero_add])) ?_)))))
  refine dq 25 2 rfl (jK A_29 Z_29 (Ht rfl) (j:=2) rfl) (dp 4 rfl (cX (Ht rfl)) (dp 5 rfl (eG A_51 Z_51 (Ht rfl) (i:=4) rfl rfl rfl) (dq 28 5 rfl (cZ Tryz.call98 Qe ⟨(Ht rfl),trivial⟩) (fG aM rfl (by kernel_rfl) (zF (aJ (aJ (aJ (aV (ro rfl (dM U_29 Z_51 (Ht rfl) (Ht rfl) rfl (i:=3) rfl (by simp only [List.length_map,aT]; omega) rfl) ?_))))))))))
  refine mY Z_51 (Ht rfl) (Ht rfl) (El.ag rfl) (i:=3) rfl rfl (by simp only [List.length_map,aT]; omega) rfl ?_
  refine eJ (aR (fR 2 3 rfl rfl (by decide) (by simp only [bR,List.length_map,eR]; omega) ?_))
  refine cY (ro rfl (dW (Ht rfl) (cJ 1) z6) (rm rfl (eJ (cM [0,1,2] rfl (by decide) (gQ (i + 1) hd zo (zS rfl) (aU (fun _ _ _ h=>h) (aU (fun _ _ _ h=>h) (aU (bP (by rw [← kP (f:=(fun i=>(tab z.length fun _=>Qi.zero).set i (gv z i))),← gI,← jU])) aY))))))))
 ·simp only [decide_eq_false_iff_not] at hd
  obtain rfl:i = z.length:=Nat.le_antisymm hi zo
  rw [kO]
  refine gG rfl (ts (ro rfl (eG A_32 Z_32 (Ht rfl) (i:=1) rfl rfl rfl) (ro rfl (cZ Tryz.call93 (Hz hsh hl) ⟨(Ht rfl),trivial⟩) (rm rfl (Ox Tryz.call99 (Py (p:=s) (c:=dD z) (n:=z.length) (m:=z.length) (L:=L) hsh hD hs hDf hL1 zo hl1 hl1 hl hl) (j:=2) (tt:=34) rfl rfl (jB (s:=5) (M:=dD z) hD.1.symm) Sm (fun _=>inferInstance) (fun _ B hB=>by simp only [List.mem_singleton] at hB; subst hB; exact Ga) ⟨(Ht rfl),(Ht rfl),trivial⟩ rfl (fun B35 _=>(ra rfl (eJ (cK (cK (gW (i:=3) (tt:=6) rfl rfl (jB (s:=5) (M:=jQ s (dD z)) (hX.1.trans hsl).symm) ?_)))))))))))
  refine cY (rm rfl (ro rfl (dU U_30 (Ht rfl) aA) (ro rfl (cX (cJ 0)) (eJ (eU (cM [0,2] rfl (by decide) ?_))))))
  refine bF (fun (i : Nat) => i ≤ z.length) (fun (i : Nat) => z.length - i) (fun (i : Nat) => [(3, Is (.slice (some ⟨B14, 0, none⟩) z.length z.length)), (36, bS (jQ s (dD z))), (37, NT .i64 z.length), (38, NT .i64 i)]) (fun (i : Nat) => [Z, kG fH B14 29 51 5 (bR aP (oM (fun i => tab z.length fun j => gm (dD z) i j - gm (jQ s (dD z)) i j) (fun i => tab z.length fun j => gm (dD z) i j) z.length i))]) 0 (Nat.zero_le _)
   (aQ rfl (aQ rfl (aZ rfl (lL (hX.1.trans hsl)) (zS rfl)))) (aU (fun _ _ _ h=>h) (aU (bP (by rw [← mU]; exact congrArg _ (lZ hD))) aY)) (fun i hi=>?_)
  refine ts (ro rfl (gJ (Ht rfl) (Ht rfl)) (eJ (cK (dQ (Ht rfl) (fun he=>?_) (fun he=>?_)))))
  ·simp only [decide_eq_true_eq] at he
   have hxr:=hX.row (i:=i) zo
   refine lC 1 (i) rfl (uE he) (fun v hv=>(cU (cK (eU (ts (rm rfl (ro rfl (dZ U_30 Z_29 (Ht rfl) (Ht rfl) rfl (eX (eQ (d:=[]) (by rw [hX.1]; omega)))) ?_)))))))
   refine ro rfl (dJ A_29 Z_29 (Ht rfl)) (ra rfl (ra rfl (eJ (ts (rm rfl (ro rfl (dU U_29 (Ht rfl) aA) (ro rfl (cX (cJ 0)) (eJ (eU ?_)))))))))
   refine bF (fun (j : Nat) => j ≤ z.length) (fun (j : Nat) => z.length - j) (fun (j : Nat) => [(3, Is (.slice (some ⟨B14, 0, none⟩) z.length z.length)), (7, NT .i64 i), (8, cB ((jQ s (dD z)).getD i [])), (36, bS (jQ s (dD z))), (37, NT .i64 z.length), (38, NT .i64 i), (44, NT .i64 z.length), (45, NT .i64 j)]) (fun (j : Nat) => [Z, pC fH B14 29 51 5 (bR aP (oM (fun i => tab z.length fun j => gm (dD z) i j - gm (jQ s (dD z)) i j) (fun i => tab z.length fun j => gm (dD z) i j) z.length i)) i v, bO 51 5 v ((oM (fun j => gm (dD z) i j - gm (jQ s (dD z)) i j) (fun j => gm (dD z) i j) z.length j).map aP)]) 0 (Nat.zero_le _)
    (aQ rfl (aQ rfl (aQ rfl (aQ rfl (aQ rfl (aQ rfl (aZ rfl (lL (hxr.trans hsl)) (zS rfl)))))))) (aU (fun _ _ _ h=>h) (aU (fun _ _ _ h=>h) (aU (bT (by rw [← mU])) aY))) (fun j hj=>?_)
   refine ts (ro rfl (gJ (Ht rfl) (Ht rfl)) (eJ (cK (dQ (Ht rfl) (fun hf=>?_) (fun hf=>?_)))))
   ·simp only [decide_eq_true_eq] at hf
    have hrl:=lG (fun j=>gm (dD z) i j - gm (jQ s (dD z)) i j) (fun j=>gm (dD z) i j) z.length j
    haveI f1:aD (gm (dD z) i j) L:=hDf.get hL1 i j
    haveI f2:aD (gm (jQ s (dD z)) i j) (200 * L + 300):=hXf.get zo i j
    refine cU (cK (eU (ts (rm rfl (ra rfl (eJ (fV (m:=18) (dp 3 rfl (cX (Ht rfl)) (dp 7 rfl (cX (Ht rfl)) (cH 48 0 49 1 rfl (gX U_30 Z_29 (Ht rfl) (Ht rfl) rfl zo (by rw [Nat.mul_one,Nat.zero_add])) ?_))))))))))
    refine dq 50 2 rfl (jK A_29 Z_29 (Ht rfl) (j:=1) rfl) (dp 9 rfl (cX (Ht rfl)) (dp 3 rfl (cX (Ht rfl)) (dp 7 rfl (cX (Ht rfl)) (cH 53 5 54 6 rfl (gX U_30 Z_29 (Ht rfl) (Ht rfl) rfl zo (by rw [Nat.mul_one,Nat.zero_add])) ?_))))
    refine dq 55 7 rfl (jK A_29 Z_29 (Ht rfl) (j:=1) rfl) (dp 9 rfl (cX (Ht rfl)) (cH 56 8 57 9 rfl (dM U_29 Z_51 (Ht rfl) (Ht rfl) rfl (i:=2) rfl (by simp only [List.length_map,hrl]; omega) rfl) ?_))
    refine dq 58 10 rfl (lR A_51 Z_51 (Ht rfl) (i:=2) rfl rfl (eX (tE hf))) (dq 59 11 rfl (eP gF (Ht rfl)) (dp 8 rfl (cX (Ht rfl)) (dp 9 rfl (cX (Ht rfl)) (cH 61 13 62 14 rfl (dZ U_29 Z_51 (Ht rfl) (Ht rfl) rfl (eX (eQ (d:=Qi.zero) (by rw [hxr]; omega)))) ?_))))
    refine dq 63 15 rfl (dJ A_51 Z_51 (Ht rfl)) (cH 60 12 64 16 rfl (dO qF Tryz.call44 (Jz zo) (Ht rfl) ⟨(Ht rfl),trivial⟩) (fG aM rfl (by kernel_rfl) (zF (zF (zF (zF (aJ (aJ (aV (ro rfl (dM U_29 Z_51 (Ht rfl) (Ht rfl) rfl (i:=2) rfl (by simp only [List.length_map,hrl]; omega) rfl) ?_))))))))))
    refine mY Z_51 (Ht rfl) (Ht rfl) (El.ag rfl) (i:=2) rfl rfl (by simp only [List.length_map,hrl]; omega) rfl ?_
    refine eJ (aR (cY (ro rfl (dW (Ht rfl) (cJ 1) z6) (rm rfl (eJ (gQ (j + 1) hf zo (zS rfl) (aU (fun _ _ _ h=>h) (aU (fun _ _ _ h=>h) (aU (bT (by rw [jU,← oO (f:=fun j=>gm (dD z) i j - gm (jQ s (dD z)) i j)])) aY)))))))))
   ·simp only [decide_eq_false_iff_not] at hf
    obtain rfl:j = z.length:=Nat.le_antisymm hj zo
    refine gG rfl (aR (fR 1 2 rfl rfl (by decide) (by simp only [bR,List.length_map,lG]; omega) ?_))
    refine cY (ro rfl (dW (Ht rfl) (cJ 1) z6) (rm rfl (eJ (cM [0,1] rfl (by decide) (gQ (i + 1) he zo (zS rfl) (aU (fun _ _ _ h=>h) (aU (bP (by rw [gI,oN,← oO (f:=(fun i=>tab z.length fun j=>gm (dD z) i j - gm (jQ s (dD z)) i j))])) aY)))))))
  ·simp only [decide_eq_false_iff_not] at he
   obtain rfl:i = z.length:=Nat.le_antisymm hi zo
   refine gG rfl (ts (rm rfl (ra rfl (eJ ?_))))
   exact iT B14 trivial [0,1] ⟨⟨_,rfl,fun _ _ _ h=>h⟩,⟨_,rfl,(bP (by rw [oN]; rfl))⟩,trivial⟩ (by decide) (pH rfl (fQ rfl))
theorem a1k {z:List Qi} {s:List (List Qi)} {t:Qi} {L:Nat} (hz:dN z L) (hs:bL s L) (ht:aD t L) (hL1:1 ≤ L) (hL:L ≤ 10000000) (hsh:eD s z.length z.length) (hl1:1 ≤ z.length) (hl:z.length ≤ 8):aS Tryz.prog 57 [nZ z s,aP t] (gE [iS (fS (sI t) z) (fS (sI t) s) (fS (sI t) (Tt t (jT z s) z.length)),bC .i64 (sI t)]):=by
 haveI:=ht
 have hOs:=qH z s
 have hOf:=qG hz hs hL1 hl
 refine aS.intro Tryz.func57 rfl Tryz.ntmps57 rfl (fun cx=>(ts (rn rfl (fU (Ht rfl)) fun B2=>(rn rfl (fU (Ht rfl)) fun B3=>(rn rfl (eK (Ts:=[Is (.slice none 0 0),Is (.slice none 0 0),Is (.slice none 0 0)]) O_34 rfl (fun V=>aW zd (aW zd (aW zd (aG))))) fun B4=>(ro rfl (cQ (cJ 0)) (eJ (cK (ts (ro rfl (eG A_51 Z_51 (Ht rfl) (i:=1) rfl rfl rfl) (ro rfl (cZ Tryz.call159 (Qq zo) ⟨(Ht rfl),trivial⟩) (ro rfl (dR (Ht rfl)) ?_))))))))))))
 refine eJ (dQ (Ht rfl) (fun hb=>?_) (fun hb=>?_))
 ·have he : sI t ≠ 0 := by simp only [Bool.not_eq_true'] at hb; rw [sI, hb]; decide
  have he1:sI t = 1:=by simp only [Bool.not_eq_true'] at hb; rw [sI,hb]; rfl
  refine ts (ro rfl (aI.imp (Jr ) Al) (gZ Z_34 (Ht rfl) (Ht rfl) rfl (i:=2) rfl (aK rfl) rfl rfl (ro rfl (cQ (cJ 1)) (eJ (bN rfl (fJ (fY A_34 Z_34 rfl (i:=2) rfl rfl) ?_) (fJ (fQ rfl) ?_))))))
  ·exact (Xt he)
  ·exact (bB he1.symm)
 ·have he : sI t = 0 := by simp only [Bool.not_eq_false'] at hb; rw [sI, hb]; rfl
  refine cU (ts (ro rfl (eG A_32 Z_32 (Ht rfl) (i:=0) rfl rfl rfl) (lW Tryz.call160 (Ds hz hs hL1 hL hsh hl1 hl) ⟨(Ht rfl),trivial⟩ rfl (fun B15 _=>(ra rfl (eJ (cK (ts (rm rfl (ro rfl (fN U_30 (Ht rfl)) (ro rfl (cX (cJ 0)) (eJ (eU ?_)))))))))))))
  refine bF (fun (i : Nat) => i ≤ z.length) (fun (i : Nat) => z.length - i) (fun (i : Nat) => [(2, cC B2 0), (3, cC B3 0), (4, cC B4 0), (6, Is (.slice (some ⟨B15, 0, none⟩) z.length z.length)), (16, Is (.slice (some ⟨B15, 0, none⟩) z.length z.length)), (17, NT .i64 z.length), (18, NT .i64 i)]) (fun (i : Nat) => [box B2 32 [cB z, bS s], box B3 51 [aC (decide (t.a < 0)), aE t.a.natAbs, aC (decide (t.b < 0)), aE t.b.natAbs, aE (du t)], box B4 34 [Is (.slice none 0 0), Is (.slice none 0 0), Is (.slice none 0 0)], kG fH B15 29 51 5 (bR aP (oM (fun i => tab z.length fun j => t * gm (jT z s) i j) (fun i => tab z.length fun j => gm (jT z s) i j) z.length i))]) 0 (Nat.zero_le _)
   (zS rfl) (aU (fun _ _ _ h=>h) (aU (fun _ _ _ h=>h) (aU (fun _ _ _ h=>h) (aU (bP (by rw [← mU]; exact congrArg _ (lZ hOs))) aY)))) (fun i hi=>?_)
  refine ts (ro rfl (gJ (Ht rfl) (Ht rfl)) (eJ (cK (dQ (Ht rfl) (fun he2=>?_) (fun he2=>?_)))))
  ·simp only [decide_eq_true_eq] at he2
   refine lC 3 (i) rfl (uE he2) (fun v hv=>(cU (cK (eU (ts (ro rfl (gX U_30 Z_29 (Ht rfl) (Ht rfl) rfl zo (by rw [Nat.mul_one,Nat.zero_add])) ?_))))))
   refine ro rfl (jK A_29 Z_29 (Ht rfl) (j:=3) rfl) (ra rfl (eJ (ts (rm rfl (ro rfl (rH U_29 (Ht rfl) (i:=4) rfl (show (((tab z.length fun j=>gm (jT z s) i j).map aP).length:Int) = ((z.length:Nat):Int) by rw [List.length_map,aT])) (ro rfl (cX (cJ 0)) (eJ (eU ?_))))))))
   refine bF (fun (j : Nat) => j ≤ z.length) (fun (j : Nat) => z.length - j) (fun (j : Nat) => [(2, cC B2 0), (3, cC B3 0), (4, cC B4 0), (6, Is (.slice (some ⟨B15, 0, none⟩) z.length z.length)), (8, Is v), (16, Is (.slice (some ⟨B15, 0, none⟩) z.length z.length)), (17, NT .i64 z.length), (18, NT .i64 i), (23, NT .i64 z.length), (24, NT .i64 j)]) (fun (j : Nat) => [box B2 32 [cB z, bS s], box B3 51 [aC (decide (t.a < 0)), aE t.a.natAbs, aC (decide (t.b < 0)), aE t.b.natAbs, aE (du t)], box B4 34 [Is (.slice none 0 0), Is (.slice none 0 0), Is (.slice none 0 0)], pC fH B15 29 51 5 (bR aP (oM (fun i => tab z.length fun j => t * gm (jT z s) i j) (fun i => tab z.length fun j => gm (jT z s) i j) z.length i)) i v, bO 51 5 v ((oM (fun j => t * gm (jT z s) i j) (fun j => gm (jT z s) i j) z.length j).map aP)]) 0 (Nat.zero_le _)
    (zS rfl) (aU (fun _ _ _ h=>h) (aU (fun _ _ _ h=>h) (aU (fun _ _ _ h=>h) (aU (fun _ _ _ h=>h) (aU (bT (by rw [← mU])) aY))))) (fun j hj=>?_)
   refine ts (ro rfl (gJ (Ht rfl) (Ht rfl)) (eJ (cK (dQ (Ht rfl) (fun hf=>?_) (fun hf=>?_)))))
   ·simp only [decide_eq_true_eq] at hf
    have hrl:=lG (fun j=>t * gm (jT z s) i j) (fun j=>gm (jT z s) i j) z.length j
    haveI f1:aD (gm (jT z s) i j) (201 * L + 301):=hOf.get zo i j
    refine cU (cK (eU (ts (rm rfl (ra rfl (eJ (fV (m:=10) (dp 8 rfl (cX (Ht rfl)) (dp 9 rfl (cX (Ht rfl)) (dp 3 rfl (eG A_51 Z_51 (Ht rfl) (i:=1) rfl rfl rfl) (dq 29 2 rfl (cZ Tryz.call98 Qe ⟨(Ht rfl),trivial⟩) (dq 30 3 rfl (eP gF (Ht rfl)) (dp 8 rfl (cX (Ht rfl)) (dp 9 rfl (cX (Ht rfl)) (cH 32 5 33 6 rfl (dM U_29 Z_51 (Ht rfl) (Ht rfl) rfl (i:=4) rfl (by simp only [List.length_map,hrl]; omega) rfl) ?_)))))))))))))))
    refine dq 34 7 rfl (lR A_51 Z_51 (Ht rfl) (i:=4) rfl rfl (eX (tE hf))) (cH 31 4 35 8 rfl (dO iP K_45 (mF zo) (Ht rfl) ⟨(Ht rfl),trivial⟩) (fG aM rfl (by kernel_rfl) (zF (zF (aJ (aJ (aV (ro rfl (dM U_29 Z_51 (Ht rfl) (Ht rfl) rfl (i:=4) rfl (by simp only [List.length_map,hrl]; omega) rfl) ?_))))))))
    refine mY Z_51 (Ht rfl) (Ht rfl) (El.ag rfl) (i:=4) rfl rfl (by simp only [List.length_map,hrl]; omega) rfl ?_
    refine eJ (aR (cY (ro rfl (dW (Ht rfl) (cJ 1) z6) (rm rfl (eJ (gQ (j + 1) hf zo (zS rfl) (aU (fun _ _ _ h=>h) (aU (fun _ _ _ h=>h) (aU (fun _ _ _ h=>h) (aU (fun _ _ _ h=>h) (aU (bT (by rw [jU,← oO (f:=fun j=>t * gm (jT z s) i j)])) aY)))))))))))
   ·simp only [decide_eq_false_iff_not] at hf
    obtain rfl:j = z.length:=Nat.le_antisymm hj zo
    refine gG rfl (aR (fR 3 4 rfl rfl (by decide) (by simp only [bR,List.length_map,lG]; omega) ?_))
    refine cY (ro rfl (dW (Ht rfl) (cJ 1) z6) (rm rfl (eJ (cM [0,1,2,3] rfl (by decide) (gQ (i + 1) he2 zo (zS rfl) (aU (fun _ _ _ h=>h) (aU (fun _ _ _ h=>h) (aU (fun _ _ _ h=>h) (aU (bP (by rw [gI,oN,← oO (f:=(fun i=>tab z.length fun j=>t * gm (jT z s) i j))])) aY)))))))))
  ·simp only [decide_eq_false_iff_not] at he2
   obtain rfl:i = z.length:=Nat.le_antisymm hi zo
   rw [oN]
   refine gG rfl (cK (gW (i:=3) (tt:=6) rfl rfl (jB (s:=5) (M:=(Tt t (jT z s) z.length)) Fu.1.symm) (cY (ro rfl (eG A_32 Z_32 (Ht rfl) (i:=0) rfl rfl rfl) (rm rfl (ro rfl (He (Ht rfl) (Ht rfl)) (gZ Z_34 (Ht rfl) (Ht rfl) rfl (i:=2) rfl (aK rfl) rfl rfl (ro rfl (cQ (cJ 0)) (eJ (bN rfl (fJ (fY A_34 Z_34 rfl (i:=2) rfl rfl) ?_) (fJ (fQ rfl) ?_)))))))))))
   ·exact (Sz he)
   ·exact (bB he.symm)
end
section
open Go Go.RowKit
theorem Dc {n : Nat} {E : cD} {H : Hp} {d : Option Tmp} {t : TypeId} {pos : String} {af : Array Edge} {g : Option (Nat × Bool)}  :
  aI Tryz.prog n E H ⟨d,.build 102 #[],t,pos,af,g⟩ (eM [Is (.int .i64 0),Is (.int .i64 0),Is (.int .i64 0)]) :=
 fC (parts := []) fun a V w hs => by
  refine ⟨.agg #[(.int .i64 0),(.int .i64 0),(.int .i64 0)],?_,[(.int .i64 0),(.int .i64 0),(.int .i64 0)],rfl,aW (⟨rfl,trivial⟩) (aW (⟨rfl,trivial⟩) (aW (⟨rfl,trivial⟩) (aG)))⟩
  simp [Instr.build,Instr.fill,Sem.run_bind,Result.andThen,dS,O_102,U_102,Z_2]
theorem zQ {n : Nat} {E : cD} {H : Hp} {d : Option Tmp} {t : TypeId} {pos : String} {af : Array Edge} {g : Option (Nat × Bool)} {x0 : Operand} {T0 : Ty} [s0 : dE T0 1 false] (h0 : bD E x0 T0) :
  aI Tryz.prog n E H ⟨d,.build 102 #[(0,x0)],t,pos,af,g⟩ (eM [T0,Is (.int .i64 0),Is (.int .i64 0)]) :=
 fC (parts := [(0, x0)]) fun a V w hs => by
  have p0:=h0 n V a hs
  generalize e0:a.eval x0 = v0 at p0
  have q0:=(s0.ok v0 V p0).2.2 rfl
  refine ⟨.agg #[v0,(.int .i64 0),(.int .i64 0)],?_,[v0,(.int .i64 0),(.int .i64 0)],rfl,aW (⟨p0,q0⟩) (aW (⟨rfl,trivial⟩) (aW (⟨rfl,trivial⟩) (aG)))⟩
  simp [e0,Instr.build,Instr.fill,Sem.run_bind,Result.andThen,dS,q0.cells,O_102,U_102,Z_2]
theorem Dd {n : Nat} {E : cD} {H : Hp} {d : Option Tmp} {t : TypeId} {pos : String} {af : Array Edge} {g : Option (Nat × Bool)} {x0 x2 : Operand} {T0 T2 : Ty} [s0 : dE T0 1 false] (h0 : bD E x0 T0) [s2 : dE T2 1 false] (h2 : bD E x2 T2) :
  aI Tryz.prog n E H ⟨d,.build 102 #[(0,x0),(2,x2)],t,pos,af,g⟩ (eM [T0,Is (.int .i64 0),T2]) :=
 fC (parts := [(0, x0), (2, x2)]) fun a V w hs => by
  have p0:=h0 n V a hs
  generalize e0:a.eval x0 = v0 at p0
  have q0:=(s0.ok v0 V p0).2.2 rfl
  have p2:=h2 n V a hs
  generalize e2:a.eval x2 = v2 at p2
  have q2:=(s2.ok v2 V p2).2.2 rfl
  refine ⟨.agg #[v0,(.int .i64 0),v2],?_,[v0,(.int .i64 0),v2],rfl,aW (⟨p0,q0⟩) (aW (⟨rfl,trivial⟩) (aW (⟨p2,q2⟩) (aG)))⟩
  simp [e0,e2,Instr.build,Instr.fill,Sem.run_bind,Result.andThen,dS,q0.cells,q2.cells,O_102,U_102,Z_2]
end
section
open Go Go.RowKit
theorem Ka  : aS Tryz.prog 16 [] (aC true):=by
 refine aS.intro Tryz.func16 rfl Tryz.ntmps16 rfl (fun cx=>(ts (ro rfl (cQ cV) (eJ (ts (ro rfl (Dd cV cV) (rn rfl (eK (Ts:=[Is (.int .i64 0),Is (.int .i64 0),Is (.int .i64 0)]) O_102 rfl (fun V=>aW zd (aW zd (aW zd (aG))))) fun B1=>(gZ Z_102 (Ht rfl) (Ht rfl) rfl (i:=0) rfl (aK rfl) rfl rfl (eJ (cK (Y.D_start (m:=18) [] (bY (Ei:=[]) rfl rfl bX rfl rfl (dX rfl (zQ cV)) (bY (Ei:=[]) rfl rfl bX rfl rfl (dX rfl (zQ cV)) ?_)))))))))))))
 refine bY (Ei:=[(12,_),(13,_)]) rfl rfl (bQ (bZ 0 rfl rfl) (bQ (bZ 1 rfl rfl) bX)) rfl rfl (dX rfl (dA (xs:=[.tmp 12,.tmp 13]) U_22 Z_102 O_102 (cW (Ht rfl) (cW (Ht rfl) cG)) rfl rfl rfl)) (bY (Ei:=[(14,_)]) rfl rfl (bQ (bZ 2 rfl rfl) bX) rfl rfl (dX rfl (cZ Tryz.call48 (tU (l:=[r50,r50]) (by decide)) ⟨(Ht rfl),trivial⟩)) (bY (Ei:=[]) rfl rfl bX rfl rfl (dX rfl (Dc )) (bY (Ei:=[(1,_)]) rfl rfl (bQ (bJ rfl rfl) bX) rfl rfl (dX rfl (eG A_102 Z_102 (Ht rfl) (i:=0) rfl rfl rfl)) ?_)))
 refine bY (Ei:=[(16,_),(17,_)]) rfl rfl (bQ (bZ 4 rfl rfl) (bQ (bZ 5 rfl rfl) bX)) rfl rfl (dX rfl (dA (xs:=[.tmp 16,.tmp 17]) U_22 Z_102 O_102 (cW (Ht rfl) (cW (Ht rfl) cG)) rfl rfl rfl)) (bY (Ei:=[(1,_)]) rfl rfl (bQ (bJ rfl rfl) bX) rfl rfl (dX rfl (eG A_102 Z_102 (Ht rfl) (i:=0) rfl rfl rfl)) (bY (Ei:=[]) rfl rfl bX rfl rfl (dX rfl (Dc )) (bY (Ei:=[(19,_),(20,_)]) rfl rfl (bQ (bZ 7 rfl rfl) (bQ (bZ 8 rfl rfl) bX)) rfl rfl (dX rfl (dA (xs:=[.tmp 19,.tmp 20]) U_22 Z_102 O_102 (cW (Ht rfl) (cW (Ht rfl) cG)) rfl rfl rfl)) ?_)))
 refine bY (Ei:=[(18,_),(21,_)]) rfl rfl (bQ (bZ 6 rfl rfl) (bQ (bZ 9 rfl rfl) bX)) rfl rfl (dX rfl (dA (xs:=[.tmp 18,.tmp 21]) U_23 Z_22 Tryz.zeroValue22 (cW (Ht rfl) (cW (Ht rfl) cG)) rfl rfl rfl)) (bY (Ei:=[(22,_)]) rfl rfl (bQ (bZ 10 rfl rfl) bX) rfl rfl (dX rfl (cZ Tryz.call86 (tV (m:=[[Xw,Lw],[Lw,Xw]]) (by decide) (by intro r hr; simp at hr; rcases hr with rfl | rfl <;> decide)) ⟨(Ht rfl),trivial⟩)) ?_)
 refine bY (Ei:=[(15,_),(23,_)]) rfl rfl (bQ (bZ 3 rfl rfl) (bQ (bZ 11 rfl rfl) bX)) rfl rfl (dX rfl (cZ Tryz.call85 (eZ (Dj (z:=tS) (s:=zB) (L:=2) Jo (by decide) (by decide) (by decide)) a0d) ⟨(Ht rfl),(Ht rfl),trivial⟩)) (bY (Ei:=[(24,_)]) rfl rfl (bQ (bZ 12 rfl rfl) bX) rfl rfl (dX rfl (cX (Ht rfl))) (bY (Ei:=[(11,_)]) rfl rfl (bQ (bZ 13 rfl rfl) bX) rfl rfl (dX rfl (dY (Ht rfl) rfl)) (bY (Ei:=[(11,_)]) rfl rfl (bQ (bZ 13 rfl rfl) bX) rfl rfl (dX rfl (dY (Ht rfl) rfl)) ?_)))
 refine Y.D_newp (Ei:=[]) (fun bb=>box bb 32 [cB tS,bS zB]) 17 rfl rfl rfl bX rfl rfl (by kernel_rfl) (eK (Ts:=[Is (.slice none 0 0),Is (.slice none 0 0)]) O_32 rfl (fun V=>aW zd (aW zd (aG)))) (Y.D_putN (Ei:=[(25,_)]) 16 rfl rfl rfl rfl rfl rfl (bQ (bZ 14 rfl rfl) bX) (fun bb=>mX Z_32 (Ht rfl) (Ht rfl) rfl (i:=0) rfl (aK rfl) rfl rfl) (Y.D_done aM rfl (by kernel_rfl) rfl (by simp [Y.okP]) rfl rfl (bU (bU (bU (bU (bU (bU (bU (bU (bU (bU (bU (bU (bU (bU (bU (bU (Y.F_newp (fun B2=>Y.F_putN (Y.F_nil ?_)))))))))))))))))))))
 refine ra rfl (eJ (cK (Y.D_start (m:=8) [] (bY (Ei:=[(2,_)]) rfl rfl (bQ (bJ rfl rfl) bX) rfl rfl (dX rfl (eG A_32 Z_32 (Ht rfl) (i:=1) rfl rfl rfl)) (bY (Ei:=[]) rfl rfl bX rfl rfl (dX rfl (cZ K_77 (pR (n:=290) (by decide) (by decide)) ⟨(cJ 290),trivial⟩)) (bY (Ei:=[(28,_),(29,_)]) rfl rfl (bQ (bZ 0 rfl rfl) (bQ (bZ 1 rfl rfl) bX)) rfl rfl (dX rfl (cZ Tryz.call57 (eZ (a1k (z:=tS) (s:=zB) (t:=Qi.ofInt 290) (L:=2) Jo Pl Pm (by decide) (by decide) Pn (by decide) (by decide)) a0e) ⟨(Ht rfl),(Ht rfl),trivial⟩)) ?_))))))
 refine bY (Ei:=[(30,_)]) rfl rfl (bQ (bZ 2 rfl rfl) bX) rfl rfl (dX rfl (cX (Ht rfl))) (bY (Ei:=[(27,_)]) rfl rfl (bQ (bZ 3 rfl rfl) bX) rfl rfl (dX rfl (dY (Ht rfl) rfl)) (bY (Ei:=[(27,_)]) rfl rfl (bQ (bZ 3 rfl rfl) bX) rfl rfl (dX rfl (dY (Ht rfl) rfl)) (Y.D_newp (Ei:=[]) (fun bb=>box bb 34 [cB tS,bS zB,bS zP]) 7 rfl rfl rfl bX rfl rfl (by kernel_rfl) (eK (Ts:=[Is (.slice none 0 0),Is (.slice none 0 0),Is (.slice none 0 0)]) O_34 rfl (fun V=>aW zd (aW zd (aW zd (aG))))) ?_)))
 refine Y.D_putN (Ei:=[(31,_)]) 6 rfl rfl rfl rfl rfl rfl (bQ (bZ 4 rfl rfl) bX) (fun bb=>mX Z_34 (Ht rfl) (Ht rfl) rfl (i:=0) rfl (aK rfl) rfl rfl) (Y.D_done aM rfl (by kernel_rfl) rfl (by simp [Y.okP]) rfl rfl (bU (bU (bU (bU (bU (bU (Y.F_newp (fun B4=>Y.F_putN (Y.F_nil ?_))))))))))
 refine ra rfl (eJ (ts (ro rfl (eG A_34 Z_34 (Ht rfl) (i:=2) rfl rfl rfl) (ro rfl (cZ Tryz.call87 (eZ (Kd (z:=tS) (s:=zB) (c:=zP) (i:=((2:Nat):Int)) (j:=((2:Nat):Int)) a0b (by rw [Jm.1]; decide)) a1c) ⟨(Ht rfl),(cJ 2),(cJ 2),trivial⟩) ?_))))
 refine rm rfl (ro rfl (dY (Ht rfl) rfl) (ro rfl (dY (Ht rfl) rfl) (rn rfl (eK (Ts:=[Is (.bool false),Is (.slice none 0 0),Is (.bool false),Is (.slice none 0 0),Is (.slice none 0 0)]) O_51 rfl (fun V=>aW zd (aW zd (aW zd (aW zd (aW zd (aG))))))) fun B6=>(gZ Z_51 (Ht rfl) (Ht rfl) rfl (i:=3) rfl (aK rfl) rfl rfl (ra rfl (eJ (cK (Y.D_start (m:=9) [] (bY (Ei:=[(4,_)]) rfl rfl (bQ (bJ rfl rfl) bX) rfl rfl (dX rfl (eG A_34 Z_34 (Ht rfl) (i:=2) rfl rfl rfl)) ?_)))))))))
 refine bY (Ei:=[]) rfl rfl bX rfl rfl (dX rfl (cZ K_77 (pR (n:=0) (by decide) (by decide)) ⟨(cJ 0),trivial⟩)) (bY (Ei:=[]) rfl rfl bX rfl rfl (dX rfl (cZ K_77 (pR (n:=290) (by decide) (by decide)) ⟨(cJ 290),trivial⟩)) (bY (Ei:=[(39,_),(40,_),(41,_)]) rfl rfl (bQ (bZ 0 rfl rfl) (bQ (bZ 1 rfl rfl) (bQ (bZ 2 rfl rfl) bX))) rfl rfl (dX rfl (cZ Tryz.call88 (eZ (Ps (z:=tS) (s:=zB) (c:=zP) (g:=Qi.ofInt 0) (t0:=Qi.ofInt 290) (L:=1000) (Jo.le (by decide)) (Pl.le (by decide)) a1e (a1d.le (by decide)) (Pm.le (by decide)) (by decide) (by decide) Pn Jm (by decide)) a0c) ⟨(Ht rfl),(Ht rfl),(Ht rfl),trivial⟩)) ?_))
 refine bY (Ei:=[(42,_)]) rfl rfl (bQ (bZ 3 rfl rfl) bX) rfl rfl (dX rfl (cX (Ht rfl))) (bY (Ei:=[(38,_)]) rfl rfl (bQ (bZ 4 rfl rfl) bX) rfl rfl (dX rfl (dY (Ht rfl) rfl)) (bY (Ei:=[(38,_)]) rfl rfl (bQ (bZ 4 rfl rfl) bX) rfl rfl (dX rfl (dY (Ht rfl) rfl)) (Y.D_newp (Ei:=[]) (fun bb=>box bb 51 [aC (decide ((Qi.ofInt 4).a < 0)),aE (Qi.ofInt 4).a.natAbs,aC (decide ((Qi.ofInt 4).b < 0)),aE (Qi.ofInt 4).b.natAbs,aE (du (Qi.ofInt 4))]) 8 rfl rfl rfl bX rfl rfl (by kernel_rfl) (eK (Ts:=[Is (.bool false),Is (.slice none 0 0),Is (.bool false),Is (.slice none 0 0),Is (.slice none 0 0)]) O_51 rfl (fun V=>aW zd (aW zd (aW zd (aW zd (aW zd (aG))))))) ?_)))
 refine Y.D_putN (Ei:=[(43,_)]) 7 rfl rfl rfl rfl rfl rfl (bQ (bZ 5 rfl rfl) bX) (fun bb=>mX Z_51 (Ht rfl) (Ht rfl) rfl (i:=0) rfl (aK rfl) rfl rfl) (Y.D_done aM rfl (by kernel_rfl) rfl (by simp [Y.okP]) rfl rfl (bU (bU (bU (bU (bU (bU (bU (Y.F_newp (fun B8=>Y.F_putN (Y.F_nil ?_)))))))))))
 refine ra rfl (eJ (ts (rm rfl (ro rfl (iH (Ht rfl) cV) (rm rfl (fZ rfl rfl (eY rfl rfl (Ht rfl) (fun h=>cX (Ht rfl))) (fZ rfl rfl (eY rfl rfl (Ht rfl) (fun h=>iH (fW rfl h) cV)) (ro rfl (dP (Ht rfl) (fun h=>(fW rfl h))) (rm rfl (fZ rfl rfl (eY rfl rfl (Ht rfl) (fun h=>cX (Ht rfl))) (fZ rfl rfl (eY rfl rfl (Ht rfl) (fun h=>iH (fW rfl h) cV)) (ro rfl (dP (Ht rfl) (fun h=>(fW rfl h))) (rm rfl (fZ rfl rfl (eY rfl rfl (Ht rfl) (fun h=>cX (Ht rfl))) (fZ rfl rfl (eY rfl rfl (Ht rfl) (fun h=>iH (fW rfl h) cV)) ?_)))))))))))))))
 refine ro rfl (dP (Ht rfl) (fun h=>(fW rfl h))) (rm rfl (fZ rfl rfl (eY rfl rfl (Ht rfl) (fun h=>eG A_51 Z_51 (Ht rfl) (i:=3) rfl rfl rfl)) (fZ rfl rfl (eY rfl rfl (Ht rfl) (fun h=>cZ Tryz.call89 (Hm (x:=Qi.ofInt 10875) (L:=2) (hx:=(@fitInt 10875).le (by decide)) (by decide)) ⟨(fW rfl h),trivial⟩)) (fZ rfl rfl (eY rfl rfl (Ht rfl) (fun h=>Ip (fW rfl h) (bD.cS (l:=[49,48,56,55,53]) rfl))) (ro rfl (dP (Ht rfl) (fun h=>(fW rfl h))) (rm rfl (fZ rfl rfl (eY rfl rfl (Ht rfl) (fun h=>eG A_51 Z_51 (Ht rfl) (i:=4) rfl rfl rfl)) ?_)))))))
 refine fZ rfl rfl (eY rfl rfl (Ht rfl) (fun h=>cZ Tryz.call89 (Hm (x:=Qi.ofInt 4) (L:=2) (hx:=(@fitInt 4).le (by decide)) (by decide)) ⟨(fW rfl h),trivial⟩)) (fZ rfl rfl (eY rfl rfl (Ht rfl) (fun h=>Ip (fW rfl h) (bD.cS (l:=[52]) rfl))) (ro rfl (dP (Ht rfl) (fun h=>(fW rfl h))) (ra rfl (eJ (fK rfl (fJ (fQ rfl) ?_))))))
 exact (bI (by rw [a1f,a1g]; rfl))
end
section
open Go Go.RowKit
theorem Wj (a:Addr) (w:World):(Instr.fieldAt 40 (.pointer (some a)) 0).run Tryz.prog w = .ok (.pointer (some (a.add 0))) w:=by
 simp [Instr.fieldAt,Instr.sureAddr,fieldPlace,Sem.run_bind,Result.andThen,U_40,Z_38]
theorem sZ (a:Addr) (w:World):(Instr.fieldAt 40 (.pointer (some a)) 1).run Tryz.prog w = .ok (.pointer (some (a.add 2))) w:=by
 simp [Instr.fieldAt,Instr.sureAddr,fieldPlace,Sem.run_bind,Result.andThen,U_40,Z_36]
end
section
open Go Go.RowKit
theorem a1x {n:Nat} {s:List (List Qi)} {i j:Nat} (h:i < n) (k:j < n):∀ v V,(gE [aP (Nu n s ((i + 1:Nat):Int) ((j + 1:Nat):Int)),bC .i64 (if (1 ≤ ((i + 1:Nat):Int) ∧ ((i + 1:Nat):Int) ≤ n) ∧ 1 ≤ ((j + 1:Nat):Int) ∧ ((j + 1:Nat):Int) ≤ n then 0 else 1)]).p v V → (gE [aP (gm s i j),bC .i64 0]).p v V:=by
 rw [show Nu n s ((i + 1:Nat):Int) ((j + 1:Nat):Int) = gm s i j from Tb h k,if_pos zo]; exact fun _ _ h=>h
theorem Qr:aS Tryz.prog 97 [NT .i64 ([]:List Qi).length,NT .i64 ([]:List Qi).length] (bS []):=(Dt (n:=0) (by decide)).fun fun B _ v S V h1 h2=>jB (s:=5) (M:=[]) rfl v S V h1 h2
theorem a0n {c:List (List Qi)}:aS Tryz.prog 99 [bS [],bS c] (bS []):=by
 refine aS.intro Tryz.func99 rfl Tryz.ntmps99 rfl (fun cx=>(ts (ro rfl (cQ cV) (eJ (cK (ts (rm rfl (ro rfl (dU U_30 (Ht rfl) aA) (ro rfl (cT (Ht rfl) (cJ 0)) (eJ (Bd (Ht rfl) (by rfl) ?_)))))))))))
 refine ts (ro rfl (cQ cV) (eJ (fK rfl (fJ (fQ rfl) ?_))))
 exact (fun v V h=>iX _ _ h)
theorem Qo  : aS Tryz.prog 160 [nZ [] []] (bS []):=by
 refine aS.intro Tryz.func160 rfl Tryz.ntmps160 rfl (fun cx=>(ts (rn rfl (fU (Ht rfl)) fun B1=>(ro rfl (cQ cV) (eJ (cK (fV (m:=3) (dp 1 rfl (eG A_32 Z_32 (Ht rfl) (i:=0) rfl rfl rfl) (dq 10 0 rfl (cZ K_22 nN ⟨(Ht rfl),trivial⟩) (dp 1 rfl (eG A_32 Z_32 (Ht rfl) (i:=0) rfl rfl rfl) (fG aM rfl (by kernel_rfl) (aJ (aJ (aJ (aV (ro rfl (cZ K_22 nN ⟨(Ht rfl),trivial⟩) (ro rfl (cZ Tryz.call97 Qr ⟨(Ht rfl),(Ht rfl),trivial⟩) (ra rfl ?_))))))))))))))))))
 refine eJ (cK (ts (ro rfl (eG A_32 Z_32 (Ht rfl) (i:=0) rfl rfl rfl) (ro rfl (cZ Tryz.call142 (Ql (z:=[]) (s:=[]) (by decide)) ⟨(Ht rfl),trivial⟩) (ro rfl (dU U_29 (Ht rfl) aA) (ro rfl (cX (cJ 0)) (eJ (eU ?_))))))))
 refine bF (fun (i : Nat) => i ≤ 0) (fun (i : Nat) => 0 - i) (fun (i : Nat) => [(1, cC B1 0), (3, bS []), (17, NT .i64 0), (18, NT .i64 i)]) (fun (i : Nat) => [box B1 32 [cB [], bS []]]) 0 (Nat.zero_le _)
  (zS rfl) (cL.refl _) (fun i hi=>?_)
 refine ts (ro rfl (gJ (Ht rfl) (Ht rfl)) (eJ (cK (dQ (Ht rfl) (fun hd=>?_) (fun hd=>?_)))))
 ·simp only [decide_eq_true_eq] at hd
  omega
 ·refine gG rfl (ts (ro rfl (eG A_32 Z_32 (Ht rfl) (i := 0) rfl rfl rfl) (ro rfl (cZ Tryz.call93 (Hz (z := []) (s := []) ⟨rfl, fun r hr => by cases hr⟩ (by decide)) ⟨(Ht rfl), trivial⟩) (rm rfl (ro rfl (cZ Tryz.call99 (a0n (c := [])) ⟨(Ht rfl), (Ht rfl), trivial⟩) (ra rfl (eJ (cK (ts (rm rfl (ro rfl (dU U_30 (Ht rfl) aA) (ro rfl (cX (cJ 0)) (eJ (eU ?_))))))))))))))
  refine bF (fun (i : Nat) => i ≤ 0) (fun (i : Nat) => 0 - i) (fun (i : Nat) => [(1, cC B1 0), (3, bS []), (37, NT .i64 0), (38, NT .i64 i)]) (fun (i : Nat) => [box B1 32 [cB [], bS []]]) 0 (Nat.zero_le _)
   (zS rfl) (cL.refl _) (fun i hi=>?_)
  refine ts (ro rfl (gJ (Ht rfl) (Ht rfl)) (eJ (cK (dQ (Ht rfl) (fun hd=>?_) (fun hd=>?_)))))
  ·simp only [decide_eq_true_eq] at hd
   omega
  ·refine gG rfl (ts (rm rfl (ra rfl (eJ ?_))))
   exact fK rfl (fQ rfl)
end
section
open Go Go.RowKit
theorem Qi.zero_div (y:Qi):Qi.zero / y = Qi.zero:=by rw [Qi.div_def,Qi.zero_mul']
end
section
open Go Go.RowKit
theorem Wn {α:Type} {l:List α} {d:α} {k:Nat} (h:k < l.length):l.getD k d = l[k]:=by simp [List.getD,h]
end
section
open Go Go.RowKit
namespace Qi
end Qi
abbrev eF (l:List (Qi × Qi)) (i:Nat):Qi:=(l.getD i (Qi.zero,Qi.zero)).1
abbrev eV (l:List (Qi × Qi)) (i:Nat):Qi:=(l.getD i (Qi.zero,Qi.zero)).2
structure Zg (l:List (Qi × Qi)) (f:Qi):Prop where
 real:∀ i,i < l.length → (eF l i).b = 0 ∧ (eV l i).b = 0
 up:∀ i,0 < i → i < l.length → (eF l (i - 1)).re < (eF l i).re
 fr:f.b = 0
theorem Zg.mono {l : List (Qi × Qi)} {f : Qi} (h : Zg l f) {i : Nat} : ∀ {j : Nat}, i < j → j < l.length → (eF l i).re < (eF l j).re
 | 0,h1,_=>by omega
 | j + 1, h1, h2 => by
  have h3:=h.up (j + 1) zo h2
  rw [Nat.add_sub_cancel] at h3
  by_cases e:i = j
  ·rw [e]; exact h3
  ·have := h.mono (i := i) (j := j) zo zo
   grind
def a15 (l:List (Qi × Qi)) (L:Nat):Prop:=∀ e,e ∈ l → aD e.1 L ∧ aD e.2 L
theorem a15.get {l:List (Qi × Qi)} {L:Nat} (h:a15 l L) (hL:1 ≤ L) (i:Nat):aD (eF l i) L ∧ aD (eV l i) L:=by
 by_cases hi:i < l.length
 ·have e : l.getD i (Qi.zero, Qi.zero) = l[i] := by simp [List.getD, hi]
  show aD (l.getD i _).1 L ∧ aD (l.getD i _).2 L
  rw [e]; exact h _ (List.getElem_mem hi)
 ·have e : l.getD i (Qi.zero, Qi.zero) = (Qi.zero, Qi.zero) := by simp [List.getD, List.getElem?_eq_none (Nat.le_of_not_lt hi)]
  show aD (l.getD i _).1 L ∧ aD (l.getD i _).2 L
  rw [e]; exact ⟨aD.zero hL,aD.zero hL⟩
end
section
open Go Go.RowKit
abbrev hZ (M:List (List Qi)) (i:Nat):List Qi:=M.getD i []
def On (M : List (List Qi)) (c n : Nat) : Nat → Nat
 | 0=>n
 | k + 1=>if gm M (n - (k + 1)) c = Qi.zero then On M c n k else n - (k + 1)
def pv (M:List (List Qi)) (c n:Nat):Nat:=On M c n (n - c)
theorem Fn {M : List (List Qi)} {c n : Nat} : ∀ {k : Nat}, k ≤ n → (∀ r, n - k ≤ r → r < On M c n k → gm M r c = Qi.zero) ∧ n - k ≤ On M c n k ∧ On M c n k ≤ n ∧ (On M c n k < n → gm M (On M c n k) c ≠ Qi.zero)
 | 0,_=>⟨fun r h1 h2=>by simp [On] at h2; omega,by simp [On],by simp [On],fun h=>by simp [On] at h⟩
 | k + 1, hk => by
  obtain ⟨i1,i2,i3,i4⟩:=Fn (M:=M) (c:=c) (n:=n) (k:=k) zo
  unfold On
  by_cases e:gm M (n - (k + 1)) c = Qi.zero
  ·rw [if_pos e]
   refine ⟨fun r h1 h2=>?_,by omega,i3,i4⟩
   by_cases e2:r = n - (k + 1)
   ·rw [e2]; exact e
   ·exact i1 r zo h2
  ·rw [if_neg e]
   exact ⟨fun r h1 h2=>by omega,Nat.le_refl _,by omega,fun _=>e⟩
theorem tH {M:List (List Qi)} {c n:Nat} (hc:c ≤ n):(∀ r,c ≤ r → r < pv M c n → gm M r c = Qi.zero) ∧ c ≤ pv M c n ∧ pv M c n ≤ n ∧ (pv M c n < n → gm M (pv M c n) c ≠ Qi.zero):=by
 have h:=Fn (M:=M) (c:=c) (n:=n) (k:=n - c) zo
 rw [show n - (n - c) = c by omega] at h
 exact h
def Fq (rr rc:List Qi) (c k:Nat):List Qi:=tab rr.length fun j=>if c < j ∧ j < k then gv rr j - gv rr c / gv rc c * gv rc j else gv rr j
def redM (M:List (List Qi)) (c r:Nat):List (List Qi):=tab M.length fun i=>if c < i ∧ i < r then Fq (hZ M i) (hZ M c) c (hZ M i).length else hZ M i
def jI (M : List (List Qi)) : Nat → List (List Qi) × Nat × Int
 | 0=>(M,0,-1)
 | c + 1 =>
  let s:=jI M c
  if 0 ≤ s.2.2 then s else
  if pv s.1 c M.length = M.length then (s.1,s.2.1,(c:Int)) else
  (redM (if pv s.1 c M.length = c then s.1 else swp [] s.1 (pv s.1 c M.length) c) c M.length,s.2.1 + (if pv s.1 c M.length = c then 0 else 1),-1)
theorem Ti (M:List (List Qi)) (c r:Nat):(redM M c r).length = M.length:=aT _ _
theorem Fp {M:List (List Qi)} {n m c r:Nat} (h:eD M n m):eD (redM M c r) n m:=by
 refine ⟨(Ti _ _ _).trans h.1,fun x hx=>?_⟩
 obtain ⟨i,hi,rfl⟩:=gB.1 hx
 have hr:=h.row (i:=i) (by rw [← h.1]; exact hi)
 show (if c < i ∧ i < r then Fq (hZ M i) (hZ M c) c (hZ M i).length else hZ M i).length = m
 split
 ·rw [Fq,aT]; exact hr
 ·exact hr
theorem Cp {M:List (List Qi)} {n m p c:Nat} (h:eD M n m) (hp:p < n) (hc:c < n):eD (swp [] M p c) n m:=by
 refine ⟨(Co _ _ _ _).trans h.1,fun x hx=>?_⟩
 unfold swp at hx
 rcases List.mem_or_eq_of_mem_set hx with h1 | h1
 ·rcases List.mem_or_eq_of_mem_set h1 with h2 | h2
  ·exact h.2 x h2
  ·rw [h2]; exact h.row hc
 ·rw [h1]; exact h.row hp
theorem xV {M : List (List Qi)} {n m : Nat} (h : eD M n m) : ∀ {c : Nat}, c ≤ n → eD (jI M c).1 n m
 | 0,_=>h
 | c + 1, hc => by
  have ih:=xV h (c:=c) zo
  obtain ⟨_,_,i3,_⟩:=tH (M:=(jI M c).1) (c:=c) (n:=M.length) (by rw [h.1]; omega)
  simp only [jI]
  split
  ·exact ih
  ·split
   ·exact ih
   ·rename_i e
    apply Fp
    split
    ·exact ih
    ·exact Cp ih (by rw [← h.1]; omega) zo
def qD (L : Nat) : Nat → Nat
 | 0=>L
 | c + 1=>6 * qD L c + 4
theorem rC (L : Nat) : ∀ {c d : Nat}, c ≤ d → qD L c ≤ qD L d
 | c,0,h=>by rw [show c = 0 by omega]; exact Nat.le_refl _
 | c, d + 1, h => by
  by_cases e:c = d + 1
  ·rw [e]; exact Nat.le_refl _
  ·have := rC L (c := c) (d := d) zo
   simp only [qD]; omega
theorem wM (L c:Nat):L ≤ qD L c:=rC L (Nat.zero_le c)
theorem Kw {rr rc:List Qi} {L c j:Nat} (h1:dN rr L) (h2:dN rc L) (hL:1 ≤ L) (hp:gv rc c ≠ Qi.zero):aD (gv rr j - gv rr c / gv rc c * gv rc j) (6 * L + 4):=by
 haveI f1:=h1.get hL j; haveI f2:=h1.get hL c; haveI f3:=h2.get hL c; haveI f4:=h2.get hL j
 haveI g:aD (gv rr c / gv rc c) (L + 3 * L + 2):=⟨f2.fit.div f3.fit hp⟩
 have:aD (gv rr j - gv rr c / gv rc c * gv rc j) (L + (L + 3 * L + 2 + L + 1) + 1):=inferInstance
 exact this.le zo
theorem Tj {rr rc : List Qi} {L c k : Nat} (h1 : dN rr L) (h2 : dN rc L) (hL : 1 ≤ L) (hp : gv rc c ≠ Qi.zero) : dN (Fq rr rc c k) (6 * L + 4) := dN.tab fun j _ => by
 split
 ·exact Kw h1 h2 hL hp
 ·exact (h1.get hL j).le zo
theorem Fo {M : List (List Qi)} {L c r : Nat} (h : bL M L) (hL : 1 ≤ L) (hp : gm M c c ≠ Qi.zero) : bL (redM M c r) (6 * L + 4) := fun x hx => by
 obtain ⟨i,hi,rfl⟩:=gB.1 hx
 show dN (if c < i ∧ i < r then Fq (hZ M i) (hZ M c) c (hZ M i).length else hZ M i) _
 split
 ·exact Tj (h.row i) (h.row c) hL hp
 ·exact (h.row i).le zo
theorem Mb {M : List (List Qi)} {L p c : Nat} (h : bL M L) : bL (swp [] M p c) L := fun x hx => by
 unfold swp at hx
 rcases List.mem_or_eq_of_mem_set hx with h1 | h1
 ·rcases List.mem_or_eq_of_mem_set h1 with h2 | h2
  ·exact h x h2
  ·rw [h2]; exact h.row c
 ·rw [h1]; exact h.row p
theorem Cn {M:List (List Qi)} {p c:Nat} (hc:c < M.length):hZ (swp [] M p c) c = hZ M p:=by
 simp [hZ,swp,List.getD,hc]
theorem xU {M : List (List Qi)} {n m L : Nat} (hs : eD M n m) (h : bL M L) (hL : 1 ≤ L) : ∀ {c : Nat}, c ≤ n → bL (jI M c).1 (qD L c)
 | 0,_=>h
 | c + 1, hc => by
  have ih:=xU hs h hL (c:=c) zo
  have hg:1 ≤ qD L c:=Nat.le_trans hL (wM L c)
  have sh:=xV hs (c:=c) zo
  obtain ⟨_,i2,i3,i4⟩:=tH (M:=(jI M c).1) (c:=c) (n:=M.length) (by rw [hs.1]; omega)
  simp only [jI,qD]
  split
  ·exact ih.le zo
  ·split
   ·exact ih.le zo
   ·rename_i e
    split
    ·rename_i e2
     refine Fo ih hg ?_
     have:=i4 zo
     rw [e2] at this; exact this
    ·refine Fo (Mb ih) hg ?_
     show gv (hZ (swp [] _ _ c) c) c ≠ _
     rw [Cn (by rw [sh.1]; omega)]
     exact i4 zo
theorem Xz {M:List (List Qi)} {c r i:Nat} (hi:i < M.length) (h:¬ (c < i ∧ i < r)):hZ (redM M c r) i = hZ M i:=by
 simp only [hZ,redM,List.getD]
 rw [eT hi,if_neg h]; rfl
theorem Tn {M:List (List Qi)} {r:Nat} {x:List Qi} (h:r < M.length):hZ (M.set r x) r = x:=by simp [hZ,List.getD,h]
theorem Ar {M:List (List Qi)} {r i:Nat} {x:List Qi} (h:r ≠ i):hZ (M.set r x) i = hZ M i:=by simp [hZ,List.getD,List.getElem?_set_ne h]
end
section
open Go Go.RowKit
abbrev Ec (M bs:List (List Qi)) (i:Nat):List Qi:=hZ M i ++ bs.map fun b=>gv b i
def pV (M bs:List (List Qi)) (n:Nat):List (List Qi):=tab n (Ec M bs)
theorem Vu {r:List Qi} {bs:List (List Qi)} {i j:Nat} (h:j < bs.length):(r ++ (bs.take j).map fun b=>gv b i) ++ [gv (bs.getD j []) i] = r ++ (bs.take (j + 1)).map fun b=>gv b i:=by
 rw [List.append_assoc,List.take_add_one,List.map_append]
 simp [List.getD,h]
theorem uB {M bs:List (List Qi)} {n m:Nat} (h:eD M n m):eD (pV M bs n) n (m + bs.length):=by
 refine ⟨aT _ _,fun r hr=>?_⟩
 obtain ⟨i,hi,rfl⟩:=gB.1 hr
 rw [List.length_append,List.length_map,h.row hi]
theorem uA {M bs : List (List Qi)} {n L : Nat} (h : bL M L) (hb : bL bs L) (hL : 1 ≤ L) : bL (pV M bs n) L := fun r hr x hx => by
 obtain ⟨i,hi,rfl⟩:=gB.1 hr
 rcases List.mem_append.1 hx with h1 | h1
 ·exact h.row i x h1
 ·obtain ⟨b, hb1, rfl⟩ := List.mem_map.1 h1
  exact dN.get (hb b hb1) hL i
theorem Mz {M:List (List Qi)} {n m:Nat} (h:eD M n m):pV M [] n = M:=by
 have:pV M [] n = tab n (hZ M):=cI fun i _=>by simp [Ec]
 rw [this]; exact (Cq (h:=h.1)).symm
def Iw (U : List (List Qi)) (x : List Qi) (n c : Nat) : Nat → Qi
 | 0=>gm U c n
 | k + 1=>Iw U x n c k - gm U c (c + 1 + k) * gv x (c + 1 + k)
def bkS (U : List (List Qi)) (n : Nat) : Nat → List Qi
 | 0=>tab n fun _=>Qi.zero
 | j + 1=>(bkS U n j).set (n - (j + 1)) (Iw U (bkS U n j) n (n - (j + 1)) j / gm U (n - (j + 1)) (n - (j + 1)))
def Od (M:List (List Qi)) (b:List Qi) (n:Nat):List (List Qi) × Nat × Int:=jI (pV M [b] n) n
def a1H (M:List (List Qi)) (b:List Qi) (n:Nat):Int:=if 0 ≤ (Od M b n).2.2 then 6 else 0
def Mi (G : Nat) : Nat → Nat
 | 0=>G
 | j + 1=>j * (Mi G j + G + 2) + 4 * G + 2
theorem zA (G j:Nat):Mi G j ≤ Mi G (j + 1):=by
 cases j with
 | zero=>simp only [Mi]; omega
 | succ j =>
  have:Mi G (j + 1) + G + 2 ≤ (j + 1) * (Mi G (j + 1) + G + 2):=Nat.le_mul_of_pos_left _ zo
  rw [show Mi G (j + 1 + 1) = (j + 1) * (Mi G (j + 1) + G + 2) + 4 * G + 2 from rfl]
  omega
theorem Jc (G : Nat) : ∀ j, G ≤ Mi G j
 | 0=>Nat.le_refl _
 | j + 1=>Nat.le_trans (Jc G j) (zA G j)
theorem Gq (G : Nat) : ∀ {i j : Nat}, i ≤ j → Mi G i ≤ Mi G j
 | i,0,h=>by rw [show i = 0 by omega]; exact Nat.le_refl _
 | i, j + 1, h => by
  by_cases e:i = j + 1
  ·rw [e]; exact Nat.le_refl _
  ·exact Nat.le_trans (Gq G (show i ≤ j by omega)) (zA G j)
theorem Af {M : List (List Qi)} {n m : Nat} (hs : eD M n m) : ∀ {c : Nat}, c ≤ n → (jI M c).2.2 < 0 → ∀ i, i < c → gm (jI M c).1 i i ≠ Qi.zero
 | 0,_,_,i,hi=>by omega
 | c + 1, hc, hst, i, hi => by
  have sh:=xV hs (c:=c) zo
  obtain ⟨_,i2,i3,i4⟩:=tH (M:=(jI M c).1) (c:=c) (n:=M.length) (by rw [hs.1]; omega)
  simp only [jI] at hst ⊢
  split at hst
  ·rename_i h0; omega
  ·rename_i h0
   rw [if_neg h0]
   split at hst
   ·simp at hst; omega
   ·rename_i h1
    rw [if_neg h1]
    have ih:=Af hs (c:=c) zo zo
    have hl : ∀ X : List (List Qi), X.length = n → gm (redM X c M.length) i i = gm X i i := fun X hX => by
     show gv (hZ (redM X c M.length) i) i = _
     rw [Xz zo zo]
    by_cases e:pv (jI M c).1 c M.length = c
    ·rw [if_pos e, hl _ sh.1]
     by_cases e2:i = c
     ·rw [e2]; have:=i4 (by have:=hs.1; omega); rw [e] at this; exact this
     ·exact ih i zo
    ·have hpl : pv (jI M c).1 c M.length < n := by rw [← hs.1]; omega
     rw [if_neg e,hl _ ((Co _ _ _ _).trans sh.1)]
     by_cases e2:i = c
     ·rw [e2]
      show gv (hZ (swp [] _ _ c) c) c ≠ _
      rw [Cn (by rw [sh.1]; omega)]
      exact i4 (by have:=hs.1; omega)
     ·have : hZ (swp [] (jI M c).1 (pv (jI M c).1 c M.length) c) i = hZ (jI M c).1 i := by
       simp only [hZ,swp,List.getD]
       rw [List.getElem?_set_ne (Ne.symm e2),List.getElem?_set_ne zo]
      show gv (hZ (swp [] _ _ c) i) i ≠ _
      rw [this]; exact ih i zo
theorem Ma {U : List (List Qi)} {x : List Qi} {n c G X : Nat} (hU : bL U G) (hx : dN x X) (hG : 1 ≤ G) (hX : 1 ≤ X) : ∀ k, aD (Iw U x n c k) (G + k * (G + X + 2))
 | 0=>(hU.get hG c n).le zo
 | k + 1 => by
  haveI f1:=Ma (n:=n) (c:=c) hU hx hG hX k
  haveI f2:=hU.get hG c (c + 1 + k)
  haveI f3:=hx.get hX (c + 1 + k)
  have:aD (Iw U x n c (k + 1)) (G + k * (G + X + 2) + (G + X + 1) + 1):=by unfold Iw; infer_instance
  exact this.le (by rw [Nat.add_mul]; omega)
theorem a0h {U:List (List Qi)} {x:List Qi} {n c G X j:Nat} (hU:bL U G) (hx:dN x X) (hG:1 ≤ G) (hX:1 ≤ X) (hz:gm U c c ≠ Qi.zero):aD (Iw U x n c j / gm U c c) (j * (X + G + 2) + 4 * G + 2):=by
 have f1:=Ma (n:=n) (c:=c) hU hx hG hX j
 have f2:=hU.get hG c c
 have:aD (Iw U x n c j / gm U c c) (G + j * (G + X + 2) + 3 * G + 2):=⟨f1.fit.div f2.fit hz⟩
 exact this.le (by rw [Nat.add_comm X G]; omega)
theorem Pp {U : List (List Qi)} {n G : Nat} (hU : bL U G) (hG : 1 ≤ G) (hz : ∀ i, i < n → gm U i i ≠ Qi.zero) : ∀ j, j ≤ n → dN (bkS U n j) (Mi G j)
 | 0,_=>dN.tab fun _ _=>aD.zero hG
 | j + 1, hj => fun y hy => by
  have ih:=Pp hU hG hz j zo
  rcases List.mem_or_eq_of_mem_set hy with h1 | h1
  ·exact (ih y h1).le (zA G j)
  ·rw [h1]; exact a0h hU ih hG (Nat.le_trans hG (Jc G j)) (hz _ zo)
theorem Tv {M:List (List Qi)} {b:List Qi} {n L:Nat} (h:eD M n n) (hM:bL M L) (hb:dN b L) (hL:1 ≤ L):bL (Od M b n).1 (qD L n):=xU (uB h) (uA hM (fun r hr=>by simp at hr; subst hr; exact hb) hL) hL (Nat.le_refl n)
def yY (n i:Nat):List Qi:=(tab n fun _=>Qi.zero).set i (Qi.ofInt 1)
def Kz (n:Nat):List (List Qi):=tab n (yY n)
theorem La (n:Nat):eD (Kz n) n n:=⟨aT _ _,fun r hr=>by obtain ⟨i,_,rfl⟩:=gB.1 hr; rw [yY,List.length_set,aT]⟩
theorem wL:aD (Qi.ofInt 1) 1:=⟨Qi.Fit.int (L:=1) (by decide) (by decide)⟩
theorem Oj {n i L : Nat} (h : 1 ≤ L) : dN (yY n i) L := fun x hx => by
 rcases List.mem_or_eq_of_mem_set hx with h1 | h1
 ·obtain ⟨_,_,rfl⟩:=gB.1 h1; exact aD.zero h
 ·rw [h1]; exact wL.le h
theorem Wq {n L:Nat} (h:1 ≤ L):bL (Kz n) L:=fun r hr=>by obtain ⟨i,_,rfl⟩:=gB.1 hr; exact Oj h
theorem Yo {M:List (List Qi)} {b:List Qi} {n:Nat} (h:¬ 0 ≤ (Od M b n).2.2):(Od M b n).2.2 < 0:=by omega
end
section
open Go Go.RowKit
theorem My  : aS Tryz.prog 174 [bS []] (aC true):=by
 refine aS.intro Tryz.func174 rfl Tryz.ntmps174 rfl (fun cx=>(ts (ro rfl (cQ cV) (eJ (ts (rm rfl (ro rfl (cZ Tryz.call240 xK ⟨(Ht rfl),trivial⟩) (rm rfl (ro rfl (dY (Ht rfl) rfl) (ro rfl (dY (Ht rfl) rfl) (ra rfl (ra rfl (eJ (ts (rm rfl (rm rfl (fZ rfl rfl (eY rfl rfl (Ht rfl) (fun h=>cX (Ht rfl))) (fZ rfl rfl (eY rfl rfl (Ht rfl) (fun h=>cX (Ht rfl))) (fZ rfl rfl (eY rfl rfl (Ht rfl) (fun h=>dU U_30 (fW rfl h) aA)) (fZ rfl rfl (eY rfl rfl (Ht rfl) (fun h=>cT (fW rfl h) (fW rfl h))) ?_))))))))))))))))))))
 refine ro rfl (dP (Ht rfl) (fun h=>(fW rfl h))) (ra rfl (eJ (fK rfl (fJ (fQ rfl) ?_))))
 exact (bI (by simp))
theorem Qn {M:List (List Qi)} {n:Nat} (h:eD M n n) (h1:1 ≤ n) (hn:n ≤ 32):aS Tryz.prog 174 [bS M] (aC true):=by
 have hl:=h.1
 refine aS.intro Tryz.func174 rfl Tryz.ntmps174 rfl (fun cx=>(ts (ro rfl (cQ cV) (eJ (ts (rm rfl (ro rfl (cZ Tryz.call240 (tT h h1 hn hn) ⟨(Ht rfl),trivial⟩) (rm rfl (ro rfl (dY (Ht rfl) rfl) (ro rfl (dY (Ht rfl) rfl) (ra rfl (ra rfl (eJ (ts (rm rfl (rm rfl (fZ rfl rfl (eY rfl rfl (Ht rfl) (fun h=>cX (Ht rfl))) (fZ rfl rfl (eY rfl rfl (Ht rfl) (fun h=>cX (Ht rfl))) (fZ rfl rfl (eY rfl rfl (Ht rfl) (fun h=>dU U_30 (fW rfl h) aA)) (fZ rfl rfl (eY rfl rfl (Ht rfl) (fun h=>cT (fW rfl h) (fW rfl h))) ?_))))))))))))))))))))
 refine ro rfl (dP (Ht rfl) (fun h=>(fW rfl h))) (ra rfl (eJ (fK rfl (fJ (fQ rfl) ?_))))
 exact (bI (by simp [hl]))
theorem zY {M:List (List Qi)} {n:Nat} (h:eD M n n) (hn:n ≤ 32):aS Tryz.prog 174 [bS M] (aC true):=by
 by_cases e:n = 0
 ·subst e
  obtain rfl:=List.length_eq_zero_iff.1 h.1
  exact My
 ·exact Qn h zo hn
theorem Mr {M bs:List (List Qi)} {n m:Nat} (hM:eD M n m) (hb:∀ b,b ∈ bs → n ≤ b.length) (hn:n ≤ 1000) (hm:m ≤ 1000) (hbl:bs.length ≤ 1000):fT Tryz.prog 193 [bS M,bS bs] [] (Nat) (fun B=>Is (.slice (some ⟨B,0,none⟩) n n)) (fun B=>[pL B 29 51 5 (bR aP (pV M bs n))]) (fun _=>True):=by
 have hMl:=hM.1
 refine fT.intro Tryz.func193 rfl Tryz.ntmps193 rfl (fun cx Z=>(ts (ro rfl (cQ cV) (eJ (ts (rm rfl (ro rfl (dU U_30 (Ht rfl) aA) (rn rfl (dH (T:=Is (.slice none 0 0)) (i:=Tryz.t29) V_30 lX rfl rfl (Ht rfl) rfl (fun _=>rfl) trivial (by show 24 * _ ≤ _; omega) zo) fun B12=>(ra rfl (eJ (cK (ts (rm rfl (ro rfl (dU U_30 (Ht rfl) aA) (ro rfl (cX (cJ 0)) (eJ (eU (oA 1 rfl (pD (e:=51) (s:=5)) ?_))))))))))))))))))
 refine bF (fun (i : Nat) => i ≤ M.length) (fun (i : Nat) => M.length - i) (fun (i : Nat) => [(0, bS M), (1, bS bs), (5, Is (.slice (some ⟨B12, 0, none⟩) M.length M.length)), (13, bS M), (14, NT .i64 M.length), (15, NT .i64 i)]) (fun (i : Nat) => [Z, pL B12 29 51 5 (bR aP (jJ (Ec M bs) [] M.length i))]) 0 (Nat.zero_le _)
  (zS rfl) (aU (fun _ _ _ h=>h) (aU (bP (by rw [← jF,kC]; exact kL aP M.length)) aY)) (fun i hi=>?_)
 refine ts (ro rfl (gJ (Ht rfl) (Ht rfl)) (eJ (cK (dQ (Ht rfl) (fun hd0=>?_) (fun hd0=>?_)))))
 ·simp only [decide_eq_true_eq] at hd0
  have hrl:(hZ M i).length = m:=hM.row zo
  have hrl2:(M.getD i []).length = m:=hrl
  refine oR 1 (i) rfl (jS hd0) (fun v0=>(cU (cK (eU (ts (rm rfl (ro rfl (dZ U_30 Z_29 (Ht rfl) (Ht rfl) rfl (eX (eQ (d:=[]) hd0))) (ro rfl (dJ A_29 Z_29 (Ht rfl)) (ra rfl (ra rfl (eJ (ts (rm rfl (rm rfl (rm rfl (lW Tryz.call158 (Dg (l:=M.getD i []) zo) ⟨(Ht rfl),trivial⟩ rfl (fun v1 _=>(ro rfl (gX U_30 Z_29 (Ht rfl) (Ht rfl) rfl zo (by rw [Nat.mul_one,Nat.zero_add])) ?_))))))))))))))))))
  refine pO Z_29 (Ht rfl) (Ht rfl) (by simp only [bR,List.length_map,eR]; omega) (j:=1) (l:=3) rfl rfl rfl ?_
  refine eJ (ts (rm rfl (ro rfl (dU U_30 (Ht rfl) aA) (ro rfl (cX (cJ 0)) (eJ (eU (cM [0,1,3] rfl (by decide) ?_)))))))
  refine eH (fun (j : Nat) (v : Value) => j ≤ bs.length) (fun (j : Nat) (v : Value) => bs.length - j) (fun (j : Nat) (v : Value) => [(0, bS M), (1, bS bs), (5, Is (.slice (some ⟨B12, 0, none⟩) M.length M.length)), (6, NT .i64 i), (13, bS M), (14, NT .i64 M.length), (15, NT .i64 i), (25, bS bs), (26, NT .i64 bs.length), (27, NT .i64 j)]) (fun (j : Nat) (v : Value) => [Z, Ig B12 29 51 5 (bR aP (jJ (Ec M bs) [] M.length i)) i v, bO 51 5 v ((hZ M i ++ (bs.take j).map fun b => gv b i).map aP)]) 0 v1 (Nat.zero_le _)
   (zS rfl) (aU (fun _ _ _ h=>h) (aU (fun _ _ _ h=>h) (aU (bT (by simp)) aY))) (fun j v hj=>?_)
  refine ts (ro rfl (gJ (Ht rfl) (Ht rfl)) (eJ (cK (dQ (Ht rfl) (fun he=>?_) (fun he=>?_)))))
  ·simp only [decide_eq_true_eq] at he
   have hbj:i < (bs.getD j []).length:=by have h1:=hb (bs.getD j []) (by rw [Wn he]; exact List.getElem_mem _); omega
   refine cU (cK (eU (ts (ro rfl (dZ U_30 Z_29 (Ht rfl) (Ht rfl) rfl (eX (eQ (d:=[]) he))) (ro rfl (dJ A_29 Z_29 (Ht rfl)) (ra rfl (eJ (Y.D_startA (m:=12) [] 11 2 rfl rfl (bY (Ei:=[(5,_)]) rfl rfl (bQ (bJ rfl rfl) bX) rfl rfl (dX rfl (cX (Ht rfl))) (bY (Ei:=[(6,_)]) rfl rfl (bQ (bJ rfl rfl) bX) rfl rfl (dX rfl (cX (Ht rfl))) (bY (Ei:=[(5,_)]) rfl rfl (bQ (bJ rfl rfl) bX) rfl rfl (dX rfl (cX (Ht rfl))) ?_)))))))))))
   refine bY (Ei:=[(6,_)]) rfl rfl (bQ (bJ rfl rfl) bX) rfl rfl (dX rfl (cX (Ht rfl))) (bY (Ei:=[(33,_),(34,_)]) rfl rfl (bQ (bZ 2 rfl rfl) (bQ (bZ 3 rfl rfl) bX)) rfl rfl (dX rfl (gX U_30 Z_29 (Ht rfl) (Ht rfl) rfl zo (by rw [Nat.mul_one,Nat.zero_add]))) ?_)
   refine bY (Ei:=[(35,_)]) rfl rfl (bQ (bZ 4 rfl rfl) bX) rfl rfl (dX rfl (jK A_29 Z_29 (Ht rfl) (j:=1) rfl)) (bY (Ei:=[(9,_)]) rfl rfl (bQ (bJ rfl rfl) bX) rfl rfl (dX rfl (cX (Ht rfl))) (bY (Ei:=[(6,_)]) rfl rfl (bQ (bJ rfl rfl) bX) rfl rfl (dX rfl (cX (Ht rfl))) (bY (Ei:=[(37,_),(38,_)]) rfl rfl (bQ (bZ 6 rfl rfl) (bQ (bZ 7 rfl rfl) bX)) rfl rfl (dX rfl (dZ U_29 Z_51 (Ht rfl) (Ht rfl) rfl (eX (eQ (d:=Qi.zero) hbj)))) ?_)))
   refine bY (Ei:=[(39,_)]) rfl rfl (bQ (bZ 8 rfl rfl) bX) rfl rfl (dX rfl (dJ A_51 Z_51 (Ht rfl))) (bY (Ei:=[(40,_)]) rfl rfl (bQ (bZ 9 rfl rfl) bX) rfl rfl (dX rfl (dA (xs:=[.tmp 40]) U_29 Z_51 O_51 (cW (Ht rfl) cG) rfl rfl rfl)) (Y.D_app (Ei:=[(36,_),(41,_)]) rfl rfl rfl rfl (bQ (bZ 5 rfl rfl) (bQ (bZ 10 rfl rfl) bX)) rfl (pM (inf:=Tryz.t51) nG lE rfl rfl rfl (Ht rfl) (Ht rfl) (by simp) (fun T hT=>by simp at hT; subst hT; exact El.ag rfl) (by show _ * 88 ≤ _; simp only [List.length_map,List.length_append,List.length_take,List.length_cons,List.length_nil]; omega) (by simp only [List.length_map,List.length_append,List.length_take,List.length_cons,List.length_nil]; omega)) ?_))
   refine Y.D_done aM rfl (by kernel_rfl) rfl (by simp [Y.okP]) rfl rfl (bU (bU (bU (bU (bU (bU (bU (bU (bU (bU (bU (Y.F_app (fun v2=>Y.F_nil ?_)))))))))))))
   refine ro rfl (gX U_30 Z_29 (Ht rfl) (Ht rfl) rfl zo (by rw [Nat.mul_one,Nat.zero_add])) ?_
   refine pO Z_29 (Ht rfl) (Ht rfl) (by simp only [bR,List.length_map,eR]; omega) (j:=1) (l:=3) rfl rfl rfl ?_
   refine eJ (aR (cY (ro rfl (dW (Ht rfl) (cJ 1) z6) (rm rfl (eJ (cM [0,1,3] rfl (by decide) (gQ (j + 1,v2) he (by dsimp only; omega) (zS rfl) (aU (fun _ _ _ h=>h) (aU (fun _ _ _ h=>h) (aU (bT ((oF aP _ (gv (bs.getD j []) i)).trans (congrArg _ (Vu he)))) aY))))))))))
  ·simp only [decide_eq_false_iff_not] at he
   obtain rfl:bs.length = j:=Nat.le_antisymm zo hj
   refine gG rfl (aR (fR 1 2 rfl rfl (by decide) (by simp only [bR,List.length_map,eR]; omega) ?_))
   refine cY (ro rfl (dW (Ht rfl) (cJ 1) z6) (rm rfl (eJ (cM [0,1] rfl (by decide) (gQ (i + 1) hd0 zo (zS rfl) (aU (fun _ _ _ h=>h) (aU (bP (by rw [List.take_length,gI,← kP (f:=Ec M bs)])) aY)))))))
 ·simp only [decide_eq_false_iff_not] at hd0
  obtain rfl:i = M.length:=Nat.le_antisymm hi zo
  subst hMl
  refine gG rfl (ts (rm rfl (ra rfl (eJ ?_))))
  exact iT B12 trivial [0,1] ⟨⟨_,rfl,fun _ _ _ h=>h⟩,⟨_,rfl,(bP (by rw [kO]; rfl))⟩,trivial⟩ (by decide) (pH rfl (fQ rfl))
end
section
open Go Go.RowKit
theorem yQ {α:Type} {n i:Nat} {f:Nat → α} {d:α} (h:i < n):(tab n f).getD i d = f i:=by simp [List.getD,eT h]
theorem Ph {T : Ty} {s : Nat} : ∀ vs V, fF [T, Is (.slice none 0 0)] vs V → fF [T, kW s []] vs V
 | [_,_],_,⟨h1,h2,h3⟩=>⟨h1,iX _ _ h2,h3⟩
 | [],_,h=>h.elim
 | [_],_,h=>h.2.elim
 | _ :: _ :: _ :: _,_,h=>h.2.2.elim
theorem fT.arg {P : Program} {f : FuncId} {Ts Ts' : List Ty} {As : Hp} {γ : Type} {U : γ → Ty} {As' : γ → Hp} {Q : γ → Prop} (h : fT P f Ts As γ U As' Q) (i : ∀ vs V, fF Ts' vs V → fF Ts vs V) : fT P f Ts' As γ U As' Q :=
 fun cx Z vs V w h1 h2=>h cx Z vs V w h1 (i _ _ h2)
end
section
open Go Go.RowKit
namespace Qi
def npow' (x : Qi) : Nat → Qi
 | 0=>Qi.ofInt 1
 | k + 1=>npow' x k * x
theorem one_mul2 (x:Qi):Qi.ofInt 1 * x = x:=ext' (by show ((1:Int):Rat) * x.re - 0 * x.im = x.re; grind) (by show ((1:Int):Rat) * x.im + 0 * x.re = x.im; grind)
theorem mul_one2 (x:Qi):x * Qi.ofInt 1 = x:=by rw [mul_comm',one_mul2]
end Qi
instance qiField:Lean.Grind.CommRing Qi where
 natCast:=⟨fun n=>Qi.ofInt n⟩
 ofNat n:=⟨Qi.ofInt n⟩
 nsmul:=⟨fun n x=>Qi.ofInt n * x⟩
 npow:=⟨Qi.npow'⟩
 add_zero:=Qi.add_zero'
 add_comm:=Qi.add_comm'
 add_assoc:=Qi.add_assoc'
 mul_assoc:=Qi.mul_assoc'
 mul_comm:=Qi.mul_comm'
 mul_one:=Qi.mul_one2
 one_mul:=Qi.one_mul2
 left_distrib:=Qi.mul_add'
 right_distrib:=Qi.add_mul'
 zero_mul:=Qi.zero_mul'
 mul_zero:=Qi.mul_zero'
 pow_zero _:=rfl
 pow_succ _ _:=rfl
 ofNat_succ n:=Qi.ext' (by show (((n + 1:Nat):Int):Rat) = ((n:Int):Rat) + ((1:Int):Rat); rw [Int.natCast_add,Rat.intCast_add]; rfl) (by show (0:Rat) = 0 + 0; grind)
 intCast:=⟨Qi.ofInt⟩
 zsmul:=⟨fun n x=>Qi.ofInt n * x⟩
 neg_add_cancel x:=Qi.ext' (by show -x.re + x.re = ((0:Int):Rat); grind) (by show -x.im + x.im = 0; grind)
 sub_eq_add_neg:=Qi.sub_def
 neg_zsmul i x:=Qi.ext' (by show ((-i:Int):Rat) * x.re - 0 * x.im = -((i:Rat) * x.re - 0 * x.im); rw [Rat.intCast_neg]; grind) (by show ((-i:Int):Rat) * x.im + 0 * x.re = -((i:Rat) * x.im + 0 * x.re); rw [Rat.intCast_neg]; grind)
 intCast_neg i:=Qi.ext' (Rat.intCast_neg i) (by show (0:Rat) = -0; grind)
theorem q0:Qi.zero = 0:=rfl
theorem q1:Qi.ofInt 1 = 1:=rfl
theorem yC {x:Qi} (h:x ≠ 0):x * Qi.inv x = 1:=by
 have hn:x.nrm ≠ 0:=fun e=>h (Qi.nrm_zero.1 e)
 have e:x.re * x.re + x.im * x.im = x.nrm:=rfl
 refine Qi.ext' ?_ ?_
 ·show x.re * (x.re / x.nrm) - x.im * (-x.im / x.nrm) = ((1 : Int) : Rat)
  grind
 ·show x.re * (-x.im / x.nrm) + x.im * (x.re / x.nrm) = 0
  grind
theorem sA {x y:Qi} (h:y ≠ 0):x / y * y = x:=by
 rw [Qi.div_def]
 have:=yC h
 grind
theorem a0E {x y z:Qi} (h:y ≠ 0) (e:x = z * y):x / y = z:=by
 have h1:=sA (x:=x) h
 have h2:=yC h
 grind
theorem nV {x y:Qi} (h:x * y = 0):x = 0 ∨ y = 0:=by
 by_cases e:x = 0
 ·exact .inl e
 ·right; have:=yC e; grind
end
section
open Go Go.RowKit
theorem Gf (m:Nat) (f:Qi) (a b:Nat → Qi):bE m (fun k=>a k - f * b k) = bE m a - f * bE m b:=by
 induction m with
 | zero=>simp only [bE,q0]; grind
 | succ m ih=>simp only [bE,ih]; grind
theorem vN {m i:Nat} (hi:i < m) {f:Nat → Qi} (h:∀ k,k < m → k ≠ i → f k = 0):bE m f = f i:=by
 induction m with
 | zero=>omega
 | succ m ih =>
  by_cases e:i = m
  ·subst e
   have : bE i f = 0 := by
    rw [← q0,← Bc i]
    exact eB fun k hk=>h k zo zo
   simp only [bE,this]; grind
  ·have h1 := ih zo (fun k hk => h k zo)
   have h2:=h m zo zo
   simp only [bE,h1,h2]; grind
def Ker (M:List (List Qi)) (n m:Nat) (x:Nat → Qi):Prop:=∀ i,i < n → bE m (fun k=>gm M i k * x k) = 0
def vK (rr rc:List Qi) (c k:Nat):List Qi:=tab rr.length fun j=>if c ≤ j ∧ j < k then gv rr j - gv rr c / gv rc c * gv rc j else gv rr j
def redJ (M:List (List Qi)) (c r:Nat):List (List Qi):=tab M.length fun i=>if i ≠ c ∧ i < r then vK (hZ M i) (hZ M c) c (hZ M i).length else hZ M i
def Nm (M : List (List Qi)) : Nat → Option (List (List Qi))
 | 0=>some M
 | c + 1=>(Nm M c).bind fun A=>if pv A c M.length = M.length then none else some (redJ (swp [] A (pv A c M.length) c) c M.length)
theorem Tf (M:List (List Qi)) (c r:Nat):(redJ M c r).length = M.length:=aT _ _
theorem Nx (rr rc:List Qi) (c k:Nat):(vK rr rc c k).length = rr.length:=aT _ _
theorem Tg {M:List (List Qi)} {c r i:Nat} (hi:i < M.length):hZ (redJ M c r) i = if i ≠ c ∧ i < r then vK (hZ M i) (hZ M c) c (hZ M i).length else hZ M i:=by
 simp only [hZ,redJ,List.getD]; rw [eT hi]; rfl
theorem Th {M:List (List Qi)} {n m c r:Nat} (h:eD M n m):eD (redJ M c r) n m:=by
 refine ⟨(Tf _ _ _).trans h.1,fun x hx=>?_⟩
 obtain ⟨i,hi,rfl⟩:=gB.1 hx
 have hr:=h.row (i:=i) (by rw [← h.1]; exact hi)
 show (if i ≠ c ∧ i < r then vK (hZ M i) (hZ M c) c (hZ M i).length else hZ M i).length = m
 split
 ·rw [Nx]; exact hr
 ·exact hr
theorem wP {M:List (List Qi)} {n m c i j:Nat} (h:eD M n m) (hi:i < n) (hj:j < m):gm (redJ M c n) i j = if i ≠ c ∧ c ≤ j then gm M i j - gm M i c / gm M c c * gm M c j else gm M i j:=by
 have hr:(hZ M i).length = m:=h.row hi
 show gv (hZ (redJ M c n) i) j = _
 rw [Tg (by rw [h.1]; exact hi)]
 by_cases e:i = c
 ·rw [if_neg (fun k=>k.1 e),if_neg (fun k=>k.1 e)]
 ·rw [if_pos ⟨e, hi⟩, vK, sC zo]
  by_cases e2:c ≤ j
  ·rw [if_pos ⟨e2,by omega⟩,if_pos ⟨e,e2⟩]
  ·rw [if_neg (fun k=>e2 k.1),if_neg (fun k=>e2 k.2)]
theorem Ix {M:List (List Qi)} {p c i:Nat} (hp:p < M.length) (hc:c < M.length):hZ (swp [] M p c) i = hZ M (if i = c then p else if i = p then c else i):=by
 simp only [hZ,swp,List.getD]
 by_cases e:i = c
 ·subst e; rw [List.getElem?_set_self (by simpa using hc),if_pos rfl]; rfl
 ·rw [List.getElem?_set_ne (Ne.symm e), if_neg e]
  by_cases e2:i = p
  ·subst e2; rw [List.getElem?_set_self hp,if_pos rfl]; rfl
  ·rw [List.getElem?_set_ne (Ne.symm e2),if_neg e2]
theorem Wt {M:List (List Qi)} {n m p c:Nat} {x:Nat → Qi} (hl:M.length = n) (hp:p < n) (hc:c < n):Ker (swp [] M p c) n m x ↔ Ker M n m x:=by
 have key : ∀ i, gm (swp [] M p c) i = gm M (if i = c then p else if i = p then c else i) := fun i => by
  funext j; exact congrArg (fun r=>gv r j) (Ix zo zo)
 constructor
 ·intro h i hi
  have h1:=h (if i = c then p else if i = p then c else i) (by split <;> (try split) <;> omega)
  rw [key] at h1
  have e : (if (if i = c then p else if i = p then c else i) = c then p else if (if i = c then p else if i = p then c else i) = p then c else (if i = c then p else if i = p then c else i)) = i := by
   by_cases e1:i = c
   ·subst e1; rw [if_pos rfl]
    by_cases e2:p = i
    ·rw [if_pos e2]; exact e2
    ·rw [if_neg e2,if_pos rfl]
   ·rw [if_neg e1]
    by_cases e2:i = p
    ·subst e2; rw [if_pos rfl,if_pos rfl]
    ·rw [if_neg e2,if_neg e1,if_neg e2]
  rw [e] at h1; exact h1
 ·intro h i hi
  rw [key]; exact h _ (by split <;> (try split) <;> omega)
theorem Wr {M:List (List Qi)} {n m c:Nat} {x:Nat → Qi} (hs:eD M n m) (hc:c < n) (hz:∀ j,j < c → gm M c j = 0):Ker (redJ M c n) n m x ↔ Ker M n m x:=by
 have key : ∀ i, i < n → i ≠ c → bE m (fun k => gm (redJ M c n) i k * x k) = bE m (fun k => gm M i k * x k) - gm M i c / gm M c c * bE m (fun k => gm M c k * x k) := fun i hi e => by
  rw [← Gf]
  refine eB fun k hk=>?_
  rw [wP hs hi hk]
  by_cases e2:c ≤ k
  ·rw [if_pos ⟨e,e2⟩]; grind
  ·rw [if_neg (fun h=>e2 h.2),hz k zo]; grind
 have keyc:bE m (fun k=>gm (redJ M c n) c k * x k) = bE m (fun k=>gm M c k * x k):=eB fun k hk=>by rw [wP hs hc hk,if_neg (fun h=>h.1 rfl)]
 constructor
 ·intro h i hi
  have h0:=h c hc
  rw [keyc] at h0
  by_cases e:i = c
  ·rw [e]; exact h0
  ·have h1 := h i hi
   rw [key i hi e,h0] at h1
   grind
 ·intro h i hi
  have h0:=h c hc
  by_cases e:i = c
  ·rw [e,keyc]; exact h0
  ·rw [key i hi e,h0,h i hi]; grind
structure GJ (M A:List (List Qi)) (n m c:Nat):Prop where
 sh:eD A n m
 ker:∀ x,Ker A n m x ↔ Ker M n m x
 off:∀ j,j < c → ∀ i,i < n → i ≠ j → gm A i j = 0
 dg:∀ j,j < c → gm A j j ≠ 0
theorem GJ.next {M A:List (List Qi)} {n m c p:Nat} (h:GJ M A n m c) (hc:c < n) (hnm:n ≤ m) (hcp:c ≤ p) (hp:p < n) (hz:gm A p c ≠ 0):GJ M (redJ (swp [] A p c) c n) n m (c + 1):=by
 have hs:eD (swp [] A p c) n m:=Cp h.sh hp hc
 have hl:=h.sh.1
 have key : ∀ i, gm (swp [] A p c) i = gm A (if i = c then p else if i = p then c else i) := fun i => by
  funext j; exact congrArg (fun r=>gv r j) (Ix zo zo)
 have hcc:gm (swp [] A p c) c c ≠ 0:=by rw [key,if_pos rfl]; exact hz
 have hoff : ∀ j, j < c → ∀ i, i < n → i ≠ j → gm (swp [] A p c) i j = 0 := fun j hj i hi hij => by
  rw [key]
  by_cases e1:i = c
  ·rw [if_pos e1]; exact h.off j hj p hp zo
  ·rw [if_neg e1]
   by_cases e2:i = p
   ·rw [if_pos e2]; exact h.off j hj c hc zo
   ·rw [if_neg e2]; exact h.off j hj i hi hij
 refine ⟨Th hs,fun x=>(Wr hs hc (fun j hj=>hoff j hj c hc zo)).trans ((Wt hl hp hc).trans (h.ker x)),fun j hj i hi hij=>?_,fun j hj=>?_⟩
 ·rw [wP hs hi zo]
  by_cases e:j = c
  ·subst e
   rw [if_pos ⟨hij,Nat.le_refl _⟩]
   have:=sA (x:=gm (swp [] A p j) i j) hcc
   grind
  ·rw [if_neg (fun k=>by omega)]; exact hoff j zo i hi hij
 ·rw [wP hs zo zo]
  by_cases e:j = c
  ·subst e; rw [if_neg (fun k=>k.1 rfl)]; exact hcc
  ·rw [if_neg (fun k=>by omega),key,if_neg zo,if_neg zo]; exact h.dg j zo
theorem Rr {M : List (List Qi)} {n m : Nat} (hs : eD M n m) (hnm : n ≤ m) : ∀ {c : Nat} {A : List (List Qi)}, c ≤ n → Nm M c = some A → GJ M A n m c
 | 0, A, _, h => by
  obtain rfl:=Option.some.inj h
  exact ⟨hs,fun _=>Iff.rfl,fun j hj=>by omega,fun j hj=>by omega⟩
 | c + 1, A, hc, h => by
  simp only [Nm] at h
  obtain ⟨B,h1,h2⟩:=Option.bind_eq_some_iff.1 h
  split at h2
  ·cases h2
  ·rename_i e
   obtain rfl:=Option.some.inj h2
   have ih:=Rr hs hnm (c:=c) zo h1
   rw [hs.1] at e ⊢
   obtain ⟨_,i2,i3,i4⟩:=tH (M:=B) (c:=c) (n:=n) zo
   exact ih.next zo hnm i2 zo (i4 zo)
theorem Nw {rr rc : List Qi} {L c k : Nat} (h1 : dN rr L) (h2 : dN rc L) (hL : 1 ≤ L) (hp : gv rc c ≠ Qi.zero) : dN (vK rr rc c k) (6 * L + 4) := dN.tab fun j _ => by
 split
 ·exact Kw h1 h2 hL hp
 ·exact (h1.get hL j).le zo
theorem Te {M : List (List Qi)} {L c r : Nat} (h : bL M L) (hL : 1 ≤ L) (hp : gm M c c ≠ Qi.zero) : bL (redJ M c r) (6 * L + 4) := fun x hx => by
 obtain ⟨i,hi,rfl⟩:=gB.1 hx
 show dN (if i ≠ c ∧ i < r then vK (hZ M i) (hZ M c) c (hZ M i).length else hZ M i) _
 split
 ·exact Nw (h.row i) (h.row c) hL hp
 ·exact (h.row i).le zo
theorem Rq {M : List (List Qi)} {n m L : Nat} (hs : eD M n m) (hnm : n ≤ m) (h : bL M L) (hL : 1 ≤ L) : ∀ {c : Nat} {A : List (List Qi)}, c ≤ n → Nm M c = some A → bL A (qD L c)
 | 0,A,_,e=>by obtain rfl:=Option.some.inj e; exact h
 | c + 1, A, hc, e => by
  simp only [Nm] at e
  obtain ⟨B,h1,h2⟩:=Option.bind_eq_some_iff.1 e
  split at h2
  ·cases h2
  ·rename_i e3
   obtain rfl:=Option.some.inj h2
   have ih:=Rq hs hnm h hL (c:=c) zo h1
   have hsB:=(Rr hs hnm (c:=c) zo h1).sh
   rw [hs.1] at e3 ⊢
   obtain ⟨_,i2,i3,i4⟩:=tH (M:=B) (c:=c) (n:=n) zo
   refine Te (Mb ih) (Nat.le_trans hL (wM L c)) ?_
   show gv (hZ (swp [] _ _ c) c) c ≠ _
   rw [Cn (by rw [hsB.1]; omega)]
   exact i4 zo
end
section
open Go Go.RowKit
abbrev pA (ps:List (Nat × Nat)) (k:Nat):Nat:=(ps.getD k (0,0)).1
abbrev pB (ps:List (Nat × Nat)) (k:Nat):Nat:=(ps.getD k (0,0)).2
end
section
open Go Go.RowKit
theorem Ie {l:List Qi} {t k:Nat} {v:Qi} (ht:t < l.length):gv (l.set t v) k = if k = t then v else gv l k:=by
 simp only [gv,List.getD]
 by_cases e:k = t
 ·subst e; rw [if_pos rfl,List.getElem?_set_self ht]; rfl
 ·rw [if_neg e,List.getElem?_set_ne (Ne.symm e)]
end
section
open Go Go.RowKit
def clr (A:List (List Qi)) (c i j:Nat):Qi:=if j < c ∧ j < i then 0 else gm A i j
def zC (F:Nat → Nat → Qi) (n m:Nat) (x:Nat → Qi):Prop:=∀ i,i < n → bE m (fun k=>F i k * x k) = 0
theorem If {F G:Nat → Nat → Qi} {n m:Nat} {x:Nat → Qi} (h:∀ i,i < n → ∀ j,j < m → F i j = G i j):zC F n m x ↔ zC G n m x:=by
 have e:∀ i,i < n → bE m (fun k=>F i k * x k) = bE m (fun k=>G i k * x k):=fun i hi=>eB fun k hk=>by rw [h i hi k hk]
 exact ⟨fun k i hi=>by rw [← e i hi]; exact k i hi,fun k i hi=>by rw [e i hi]; exact k i hi⟩
def Tz (p c i:Nat):Nat:=if i = c then p else if i = p then c else i
theorem Ua {p c i n:Nat} (hp:p < n) (hc:c < n) (hi:i < n):Tz p c i < n:=by unfold Tz; split <;> (try split) <;> omega
theorem Ys (p c i:Nat):Tz p c (Tz p c i) = i:=by
 unfold Tz
 by_cases e1:i = c
 ·subst e1
  rw [if_pos rfl]
  by_cases e2:p = i
  ·rw [if_pos e2]; exact e2
  ·rw [if_neg e2,if_pos rfl]
 ·rw [if_neg e1]
  by_cases e2:i = p
  ·subst e2; rw [if_pos rfl,if_pos rfl]
  ·rw [if_neg e2,if_neg e1,if_neg e2]
theorem Ry {F : Nat → Nat → Qi} {n m p c : Nat} {x : Nat → Qi} (hp : p < n) (hc : c < n) : zC (fun i => F (Tz p c i)) n m x ↔ zC F n m x :=
 ⟨fun h i hi=>by have:=h _ (Ua hp hc hi); simp only [Ys] at this; exact this,fun h i hi=>h _ (Ua hp hc hi)⟩
theorem Rx {F G:Nat → Nat → Qi} {n m c:Nat} {x f:Nat → Qi} (hc:c < n) (hG:∀ i,i < n → ∀ j,j < m → G i j = if c < i then F i j - f i * F c j else F i j):zC G n m x ↔ zC F n m x:=by
 have key : ∀ i, i < n → bE m (fun k => G i k * x k) = if c < i then bE m (fun k => F i k * x k) - f i * bE m (fun k => F c k * x k) else bE m (fun k => F i k * x k) := fun i hi => by
  by_cases e:c < i
  ·rw [if_pos e, ← Gf]
   exact eB fun k hk=>by rw [hG i hi k hk,if_pos e]; grind
  ·rw [if_neg e]
   exact eB fun k hk=>by rw [hG i hi k hk,if_neg e]
 have kc:=key c hc
 rw [if_neg zo] at kc
 constructor
 ·intro h i hi
  have h0:=h c hc
  rw [kc] at h0
  have h1:=h i hi
  rw [key i hi] at h1
  by_cases e:c < i
  ·rw [if_pos e,h0] at h1; grind
  ·rw [if_neg e] at h1; exact h1
 ·intro h i hi
  rw [key i hi]
  by_cases e:c < i
  ·rw [if_pos e,h i hi,h c hc]; grind
  ·rw [if_neg e]; exact h i hi
theorem Ya {M:List (List Qi)} {n m c i j:Nat} (h:eD M n m) (hi:i < n) (hj:j < m):gm (redM M c n) i j = if c < i ∧ c < j then gm M i j - gm M i c / gm M c c * gm M c j else gm M i j:=by
 have hr:(hZ M i).length = m:=h.row hi
 have e0 : hZ (redM M c n) i = if c < i ∧ i < n then Fq (hZ M i) (hZ M c) c (hZ M i).length else hZ M i := by
  simp only [hZ,redM,List.getD]; rw [eT (by rw [h.1]; exact hi)]; rfl
 show gv (hZ (redM M c n) i) j = _
 rw [e0]
 by_cases e:c < i
 ·rw [if_pos ⟨e, hi⟩, Fq, sC zo]
  by_cases e2:c < j
  ·rw [if_pos ⟨e2,by omega⟩,if_pos ⟨e,e2⟩]
  ·rw [if_neg (fun k=>e2 k.1),if_neg (fun k=>e2 k.2)]
 ·rw [if_neg (fun k=>e k.1),if_neg (fun k=>e k.1)]
theorem Vo {A:List (List Qi)} {p c i j:Nat} (hc:c < A.length) (hp:p < A.length) (hcp:c ≤ p):clr (swp [] A p c) c i j = clr A c (Tz p c i) j:=by
 have key:gm (swp [] A p c) i j = gm A (Tz p c i) j:=congrArg (fun r=>gv r j) (Ix zo zo)
 unfold clr
 rw [key]
 have e:(j < c ∧ j < i) ↔ (j < c ∧ j < Tz p c i):=by unfold Tz; split <;> (try split) <;> omega
 by_cases h:j < c ∧ j < i
 ·rw [if_pos h,if_pos (e.1 h)]
 ·rw [if_neg h,if_neg (fun k=>h (e.2 k))]
structure EL (M A:List (List Qi)) (n m c:Nat):Prop where
 sh:eD A n m
 ker:∀ x,zC (clr A c) n m x ↔ zC (gm M) n m x
theorem EL.next {M A:List (List Qi)} {n m c p:Nat} (h:EL M A n m c) (hc:c < n) (hcm:c < m) (hcp:c ≤ p) (hp:p < n) (hz:gm A p c ≠ 0):EL M (redM (if p = c then A else swp [] A p c) c n) n m (c + 1):=by
 have hl:=h.sh.1
 obtain ⟨B,hB⟩:∃ B,B = if p = c then A else swp [] A p c:=⟨_,rfl⟩
 have hs : eD B n m := by
  rw [hB]; split
  ·exact h.sh
  ·exact Cp h.sh hp hc
 have hBk : ∀ x, zC (clr B c) n m x ↔ zC (gm M) n m x := fun x => by
  rw [hB]; split
  ·exact h.ker x
  ·exact (If (G:=fun i=>clr A c (Tz p c i)) fun i hi j hj=>Vo zo zo hcp).trans ((Ry hp hc).trans (h.ker x))
 have hBz : gm B c c ≠ 0 := by
  rw [hB]; split
  ·rename_i e; rw [← e] at hz ⊢; exact hz
  ·show gv (hZ (swp [] A p c) c) c ≠ 0
   rw [Cn zo]; exact hz
 rw [← hB]
 refine ⟨Fp hs,fun x=>(Rx (f:=fun i=>gm B i c / gm B c c) hc fun i hi j hj=>?_).trans (hBk x)⟩
 have hd:=sA (x:=gm B i c) hBz
 unfold clr
 rw [Ya hs hi hj]
 by_cases e:c < i
 ·rw [if_pos e]
  by_cases e1:j < c
  ·rw [if_pos zo,if_pos zo,if_pos zo]; grind
  ·by_cases e2 : j = c
   ·subst e2
    rw [if_pos zo,if_neg zo,if_neg zo]; grind
   ·rw [if_neg zo,if_pos zo,if_neg zo,if_neg zo]
 ·rw [if_neg e, if_neg (show ¬ (c < i ∧ c < j) from fun k => e k.1)]
  by_cases e1:j < i
  ·rw [if_pos (show j < c + 1 ∧ j < i by omega),if_pos (show j < c ∧ j < i by omega)]
  ·rw [if_neg (show ¬ (j < c + 1 ∧ j < i) by omega),if_neg (show ¬ (j < c ∧ j < i) by omega)]
end
section
open Go Go.RowKit
def Om (G : List Nat) : Nat → List Nat
 | 0=>[]
 | k + 1=>Om G k ++ (if k ∈ G then [] else [k])
abbrev qat (Q:List Nat) (i:Nat):Nat:=Q.getD i 0
end
section
open Go Go.RowKit
def gq (ps:List (Nat × Nat)) (x:Nat):Nat:=if x % 2 = 0 then pA ps (x / 2) else pB ps (x / 2)
structure Jn (ps:List (Nat × Nat)) (n K:Nat):Prop where
 lt:∀ x,x < 2 * K → gq ps x < n
 inj:∀ x y,x < 2 * K → y < 2 * K → gq ps x = gq ps y → x = y
theorem Jn.le {ps:List (Nat × Nat)} {n K k:Nat} (h:Jn ps n K) (hk:k ≤ K):Jn ps n k:=⟨fun x hx=>h.lt x zo,fun x y hx hy=>h.inj x y zo zo⟩
end
section
open Go Go.RowKit
theorem Yw {n i j:Nat} (hi:i < n) (hj:j < n):gm (Kz n) i j = if i = j then 1 else 0:=by
 show gv ((Kz n).getD i []) j = _
 rw [Kz,yQ hi,yY,Ie (by rw [aT]; exact hi)]
 by_cases e:j = i
 ·subst e; rw [if_pos rfl,if_pos rfl]; rfl
 ·rw [if_neg e,if_neg (Ne.symm e),sC hj]; rfl
theorem Lf {a b:List (List Qi)} {n m:Nat} (ha:eD a n m) (hb:eD b n m) (h:∀ i,i < n → ∀ j,j < m → gm a i j = gm b i j):a = b:=by
 rw [lZ ha,lZ hb]
 exact cI fun i hi=>cI fun j hj=>h i hi j hj
end
section
open Go Go.RowKit
theorem pig : ∀ {n m : Nat} {f : Nat → Nat}, (∀ x, x < m → f x < n) → (∀ x y, x < m → y < m → f x = f y → x = y) → m ≤ n
 | 0, m, f, h, _ => by
  cases m with
  | zero=>exact Nat.le_refl 0
  | succ m=>exact absurd (h 0 zo) zo
 | n + 1,0,_,_,_=>by omega
 | n + 1, k + 1, f, h, i => by
  have := pig (n := n) (m := k) (f := fun x => if f x = n then f k else f x) (fun x hx => by
   have h1:=h x zo
   have h2:=h k zo
   by_cases c:f x = n
   ·simp only [if_pos c]
    have:f k ≠ n:=fun e=>by have:=i x k zo zo (by rw [c,e]); omega
    omega
   ·simp only [if_neg c]; omega) (fun x y hx hy e=>by
   by_cases c:f x = n <;> by_cases d:f y = n
   ·exact i x y zo zo (by rw [c,d])
   ·simp only [if_pos c, if_neg d] at e
    have:=i k y zo zo e; omega
   ·simp only [if_neg c, if_pos d] at e
    have:=i x k zo zo e; omega
   ·simp only [if_neg c, if_neg d] at e
    exact i x y zo zo e)
  omega
end
section
open Go Go.RowKit
theorem nS {x y:Qi} {L M:Nat} (hx:aD x L) (hy:aD y M) (h:y ≠ 0):aD (x / y) (L + 3 * M + 2):=⟨hx.fit.div hy.fit h⟩
end
section
open Go Go.RowKit
structure zN (O:List Nat) (n:Nat):Prop where
 nd:O.Nodup
 all:∀ x,x ∈ O ↔ 1 ≤ x ∧ x ≤ n
theorem zN.len {O:List Nat} {n:Nat} (h:zN O n):O.length = n:=by
 refine Nat.le_antisymm ?_ ?_
 ·refine pig (n := n) (f := fun i => O.getD i 0 - 1) (fun x hx => ?_) (fun x y hx hy e => ?_)
  ·have := (h.all (O.getD x 0)).1 (by rw [show O.getD x 0 = O[x] by simp [List.getD, hx]]; exact List.getElem_mem hx)
   show O.getD x 0 - 1 < n; omega
  ·have a := (h.all (O.getD x 0)).1 (by rw [show O.getD x 0 = O[x] by simp [List.getD, hx]]; exact List.getElem_mem hx)
   have b:=(h.all (O.getD y 0)).1 (by rw [show O.getD y 0 = O[y] by simp [List.getD,hy]]; exact List.getElem_mem hy)
   have e2:O.getD x 0 = O.getD y 0:=by have:O.getD x 0 - 1 = O.getD y 0 - 1:=e; omega
   rw [show O.getD x 0 = O[x] by simp [List.getD,hx],show O.getD y 0 = O[y] by simp [List.getD,hy]] at e2
   exact (List.getElem_inj h.nd).1 e2
 ·have key : ∀ j, j < n → ∃ i, i < O.length ∧ O.getD i 0 = j + 1 := fun j hj => by
   obtain ⟨i,hi,e⟩:=List.getElem_of_mem ((h.all (j + 1)).2 ⟨by omega,by omega⟩)
   exact ⟨i,hi,by simp [List.getD,hi,e]⟩
  refine pig (n:=O.length) (f:=fun j=>if hj:j < n then Classical.choose (key j hj) else 0) (fun x hx=>by simp only [dif_pos hx]; exact (Classical.choose_spec (key x hx)).1) (fun x y hx hy e=>?_)
  simp only [dif_pos hx,dif_pos hy] at e
  have a:=(Classical.choose_spec (key x hx)).2
  have b:=(Classical.choose_spec (key y hy)).2
  rw [e] at a; omega
section
variable {O:List Nat} {n:Nat}
theorem zN.at (h:zN O n) {i:Nat} (hi:i < n):1 ≤ O.getD i 0 ∧ O.getD i 0 ≤ n:=by
 have hl:=h.len
 exact (h.all _).1 (by rw [show O.getD i 0 = O[i] by simp [List.getD,show i < O.length by omega]]; exact List.getElem_mem _)
theorem zN.inj (h:zN O n) {i j:Nat} (hi:i < n) (hj:j < n) (e:O.getD i 0 = O.getD j 0):i = j:=by
 have hl:=h.len
 rw [show O.getD i 0 = O[i] by simp [List.getD,show i < O.length by omega],show O.getD j 0 = O[j] by simp [List.getD,show j < O.length by omega]] at e
 exact (List.getElem_inj h.nd).1 e
end
end
section
open Go Go.RowKit
section
variable {S:List (List Qi)} {p q r t a b:Nat}
theorem Yr {x y:Qi} (h:x - y = 0):x = y:=by grind
end
section
variable {S:Nat → Nat → Qi} {p q r t a b:Nat}
def S1 (S:Nat → Nat → Qi) (p q:Nat) (V:Nat → Qi × Qi) (a b:Nat):Qi:=S a b + (S a p * (V b).1 + S a q * (V b).2)
variable {V:Nat → Qi × Qi}
end
end
section
open Go Go.RowKit
def low (c a b:Nat):Nat:=c - (if a < c then 1 else 0) - (if b < c then 1 else 0)
def okP (N p q r t : Nat) : Bool :=
 decide ((Om [p,q] N).length = N - 2) && decide (low r p q < N - 2) && decide (low t p q < N - 2) && decide (low r p q ≠ low t p q) && decide (qat (Om [p,q] N) (low r p q) = r) && decide (qat (Om [p,q] N) (low t p q) = t)
 && decide ((Om [low r p q,low t p q] (N - 2)).map (qat (Om [p,q] N)) = Om [p,q,r,t] N) && decide ((Om [p,q,r,t] N).length = N - 4) && decide (Om [t,r,p,q] N = Om [p,q,r,t] N) && decide (Om [r,t,p,q] N = Om [p,q,r,t] N)
section
variable {z:List Qi} {S:List (List Qi)} {N p q r t:Nat} {ζ:Qi}
end
end
section
open Go Go.RowKit
def Gb (x:Qi) (N:Nat):Prop:=∃ p q:Int,x = Qi.mk (p:Rat) (q:Rat) ∧ p.natAbs ≤ N ∧ q.natAbs ≤ N
theorem Gb.le {x:Qi} {N M:Nat} (h:Gb x N) (k:N ≤ M):Gb x M:=by
 obtain ⟨p,q,e,h1,h2⟩:=h; exact ⟨p,q,e,by omega,by omega⟩
theorem Gb.add {x y:Qi} {N M:Nat} (h:Gb x N) (k:Gb y M):Gb (x + y) (N + M):=by
 obtain ⟨p,q,rfl,h1,h2⟩:=h; obtain ⟨r,s,rfl,k1,k2⟩:=k
 refine ⟨p + r,q + s,Qi.ext' ?_ ?_,by omega,by omega⟩
 ·show (p:Rat) + (r:Rat) = ((p + r:Int):Rat); push_cast; rfl
 ·show (q:Rat) + (s:Rat) = ((q + s:Int):Rat); push_cast; rfl
theorem Gb.neg {x:Qi} {N:Nat} (h:Gb x N):Gb (-x) N:=by
 obtain ⟨p,q,rfl,h1,h2⟩:=h
 refine ⟨-p,-q,Qi.ext' ?_ ?_,by omega,by omega⟩
 ·show -(p:Rat) = ((-p:Int):Rat); push_cast; rfl
 ·show -(q:Rat) = ((-q:Int):Rat); push_cast; rfl
theorem Gb.sub {x y:Qi} {N M:Nat} (h:Gb x N) (k:Gb y M):Gb (x - y) (N + M):=by rw [Qi.sub_def]; exact h.add k.neg
theorem nW {p q:Int} {N M:Nat} (h:p.natAbs ≤ N) (k:q.natAbs ≤ M):(p * q).natAbs ≤ N * M:=by rw [Int.natAbs_mul]; exact Nat.mul_le_mul h k
theorem Gb.mul {x y:Qi} {N M:Nat} (h:Gb x N) (k:Gb y M):Gb (x * y) (2 * N * M):=by
 obtain ⟨p,q,rfl,h1,h2⟩:=h; obtain ⟨r,s,rfl,k1,k2⟩:=k
 have a1:=nW h1 k1; have a2:=nW h2 k2; have a3:=nW h1 k2; have a4:=nW h2 k1
 have e:2 * N * M = N * M + N * M:=by rw [Nat.mul_assoc,Nat.two_mul]
 refine ⟨p * r - q * s,p * s + q * r,Qi.ext' ?_ ?_,by omega,by omega⟩
 ·rw [Qi.mul_re]; show (p:Rat) * (r:Rat) - (q:Rat) * (s:Rat) = ((p * r - q * s:Int):Rat); push_cast; rfl
 ·rw [Qi.mul_im]; show (p:Rat) * (s:Rat) + (q:Rat) * (r:Rat) = ((p * s + q * r:Int):Rat); push_cast; rfl
theorem Gb.sum {f : Nat → Qi} {N : Nat} : ∀ {n : Nat}, (∀ k, k < n → Gb (f k) N) → Gb (bE n f) (n * N)
 | 0,_=>⟨0,0,Qi.ext' rfl rfl,by simp,by simp⟩
 | n + 1, h => by
  rw [bE,Nat.succ_mul]
  exact (Gb.sum fun k hk=>h k zo).add (h n zo)
theorem Gb.fit {x:Qi} {N L:Nat} (h:Gb x N) (hN:N < BB ^ L) (hL:1 ≤ L):aD x L:=by
 obtain ⟨p,q,rfl,h1,h2⟩:=h
 have e:Qi.mk (p:Rat) (q:Rat) = Qi.mk' p q 1:=Qi.ext' (by rw [Qi.mk_re]; show (p:Rat) = p / ((1:Nat):Rat); grind) (by rw [Qi.mk_im]; show (q:Rat) = q / ((1:Nat):Rat); grind)
 rw [e]
 exact ⟨Qi.Fit.mk (by decide) zo zo (Qi.one_lt hL)⟩
def fs : Nat → Nat → Nat
 | 0,_=>1
 | n + 1,N=>2 * (n + 1) * N * fs n (4 * N * N)
theorem wD (x:Qi):((x.den:Int):Rat) * x.re = (x.a:Rat) ∧ ((x.den:Int):Rat) * x.im = (x.b:Rat):=by
 have h:=Qi.nc x.den_pos
 have h2:((x.den:Int):Rat) = (x.den:Rat):=by push_cast; rfl
 rw [h2]
 exact ⟨by rw [Qi.re_eq x]; grind,by rw [Qi.im_eq x]; grind⟩
theorem Lx {L : Nat} {x : Nat → Qi} : ∀ k, (∀ j, j < k → aD (x j) L) → ∃ d : Nat, 0 < d ∧ d ≤ BB ^ (k * L) ∧ ∀ j, j < k → Gb (Qi.ofInt d * x j) (BB ^ (k * L))
 | 0,_=>⟨1,by decide,Nat.pow_pos fB,fun j hj=>by omega⟩
 | k + 1, h => by
  obtain ⟨d,d0,dl,hd⟩:=Lx k fun j hj=>h j zo
  have hx:=(h k zo).fit
  have hm:=wD (x k)
  have hpow:BB ^ ((k + 1) * L) = BB ^ (k * L) * BB ^ L:=by rw [Nat.succ_mul,Nat.pow_add]
  refine ⟨d * (x k).den,Nat.mul_pos d0 (x k).den_pos,?_,fun j hj=>?_⟩
  ·rw [hpow]; exact Nat.mul_le_mul dl (Nat.le_of_lt hx.2.2)
  ·by_cases e : j = k
   ·subst e
    refine ⟨d * (x j).a,d * (x j).b,Qi.ext' ?_ ?_,?_,?_⟩
    ·rw [Qi.mul_re]
     show (((d * (x j).den:Nat):Int):Rat) * (x j).re - 0 * (x j).im = ((d * (x j).a:Int):Rat)
     have:=hm.1; push_cast at *; grind
    ·rw [Qi.mul_im]
     show (((d * (x j).den:Nat):Int):Rat) * (x j).im + 0 * (x j).re = ((d * (x j).b:Int):Rat)
     have:=hm.2; push_cast at *; grind
    ·rw [hpow]; exact nW (by simpa using dl) (Nat.le_of_lt hx.1)
    ·rw [hpow]; exact nW (by simpa using dl) (Nat.le_of_lt hx.2.1)
   ·obtain ⟨p, q, e1, h1, h2⟩ := hd j zo
    have er:=congrArg Qi.re e1; have ei:=congrArg Qi.im e1
    rw [Qi.mul_re] at er; rw [Qi.mul_im] at ei
    refine ⟨p * (x k).den,q * (x k).den,Qi.ext' ?_ ?_,?_,?_⟩
    ·rw [Qi.mul_re]
     have er:((d:Int):Rat) * (x j).re - 0 * (x j).im = (p:Rat):=er
     show (((d * (x k).den:Nat):Int):Rat) * (x j).re - 0 * (x j).im = ((p * (x k).den:Int):Rat)
     push_cast at *; grind
    ·rw [Qi.mul_im]
     have ei:((d:Int):Rat) * (x j).im + 0 * (x j).re = (q:Rat):=ei
     show (((d * (x k).den:Nat):Int):Rat) * (x j).im + 0 * (x j).re = ((q * (x k).den:Int):Rat)
     push_cast at *; grind
    ·rw [hpow]; exact nW h1 (by simpa using Nat.le_of_lt hx.2.2)
    ·rw [hpow]; exact nW h2 (by simpa using Nat.le_of_lt hx.2.2)
theorem So {d : Nat} (h : 0 < d) : Qi.ofInt d ≠ 0 := fun e => by
 have:=congrArg Qi.re e
 have h2:((d:Int):Rat) = ((0:Int):Rat):=this
 rw [Rat.intCast_inj] at h2; omega
end
section
open Go Go.RowKit
section
variable {z:List Qi} {s c:List (List Qi)} {g t:Qi} {p:Nat}
theorem Ba (n:Nat) (f:Nat → Qi):bE (n + 1) f = bE n f + f n:=rfl
end
end
section
open Go Go.RowKit
theorem a1w {n i j:Nat} (hi:i < n) (hj:j < n):gm (Kz n) i j = if i = j then 1 else 0:=Yw hi hj
section
variable {a b:Qi} {A B C:List (List Qi)} {d e:Nat → Qi} {n:Nat}
end
theorem q2:Qi.ofInt 2 = 2:=rfl
section
variable {z:List Qi} {s:List (List Qi)}
end
end
section
open Go Go.RowKit
def Zy (w : Nat) : Nat → Nat
 | 0=>w
 | c + 1=>2 * Zy w c + 1
theorem Gp (w : Nat) : ∀ {c d : Nat}, c ≤ d → Zy w c ≤ Zy w d
 | c,0,h=>by rw [show c = 0 by omega]; exact Nat.le_refl _
 | c, d + 1, h => by
  by_cases e:c = d + 1
  ·rw [e]; exact Nat.le_refl _
  ·have := Gp w (c := c) (d := d) zo
   simp only [Zy]; omega
def rU (r:List Qi) (w:Nat):Prop:=∃ d:Qi,d ≠ 0 ∧ Gb d (BB ^ w) ∧ ∀ j,Gb (d * gv r j) (BB ^ w)
theorem rU.le {r:List Qi} {w v:Nat} (h:rU r w) (k:w ≤ v):rU r v:=by
 obtain ⟨d,d0,dg,dj⟩:=h
 have hp:BB ^ w ≤ BB ^ v:=Nat.pow_le_pow_right fB k
 exact ⟨d,d0,dg.le hp,fun j=>(dj j).le hp⟩
theorem Ja (w:Nat):2 * BB ^ w * BB ^ w + 2 * BB ^ w * BB ^ w ≤ BB ^ (2 * w + 1):=by
 have e:BB ^ (2 * w + 1) = BB ^ w * BB ^ w * BB:=by rw [Nat.pow_succ,Nat.two_mul,Nat.pow_add]
 rw [e,Nat.mul_assoc 2,← Nat.two_mul,← Nat.mul_assoc 2 2,Nat.mul_comm (2 * 2)]
 exact Nat.mul_le_mul_left _ (by decide)
theorem Ru {l:List Qi} {j:Nat} (h:l.length ≤ j):gv l j = 0:=by simp [gv,List.getD,List.getElem?_eq_none h]; rfl
theorem Ky (N:Nat):Gb 0 N:=⟨0,0,Qi.ext' rfl rfl,by simp,by simp⟩
theorem rU.red {rr rc:List Qi} {c w:Nat} {P:Nat → Prop} [DecidablePred P] (h1:rU rr w) (h2:rU rc w) (hp:gv rc c ≠ 0):rU (tab rr.length fun j=>if P j then gv rr j - gv rr c / gv rc c * gv rc j else gv rr j) (2 * w + 1):=by
 obtain ⟨d,d0,dg,dj⟩:=h1
 obtain ⟨e,e0,eg,ej⟩:=h2
 have t:=Ja w
 refine ⟨d * (e * gv rc c),fun k=>?_,(dg.mul (ej c)).le zo,fun j=>?_⟩
 ·rcases nV k with k | k
  ·exact d0 k
  ·rcases nV k with k | k
   ·exact e0 k
   ·exact hp k
 ·by_cases hj : j < rr.length
  ·rw [sC hj]
   by_cases hP:P j
   ·rw [if_pos hP]
    have hd:=sA (x:=gv rr c) hp
    have ee : d * (e * gv rc c) * (gv rr j - gv rr c / gv rc c * gv rc j) = d * gv rr j * (e * gv rc c) - d * gv rr c * (e * gv rc j) := by
     have e2:d * (e * gv rc c) * (gv rr c / gv rc c * gv rc j) = d * (gv rr c / gv rc c * gv rc c) * (e * gv rc j):=by grind
     rw [hd] at e2
     grind
    rw [ee]
    exact (((dj j).mul (ej c)).sub ((dj c).mul (ej j))).le t
   ·rw [if_neg hP]
    have ee:d * (e * gv rc c) * gv rr j = d * gv rr j * (e * gv rc c):=by grind
    rw [ee]
    exact ((dj j).mul (ej c)).le zo
  ·rw [Ru (l := tab rr.length fun j => if P j then gv rr j - gv rr c / gv rc c * gv rc j else gv rr j) (by rw [aT]; omega)]
   have ee:d * (e * gv rc c) * 0 = 0:=by grind
   rw [ee]; exact Ky _
theorem rU.fit {r : List Qi} {w : Nat} (h : rU r w) : dN r (4 * (w + 1) + 2) := fun x hx => by
 obtain ⟨d,d0,dg,dj⟩:=h
 obtain ⟨j,hj,e⟩:=List.getElem_of_mem hx
 have e2:gv r j = x:=by simp [gv,List.getD,hj,e]
 have hlt:BB ^ w < BB ^ (w + 1):=Nat.pow_lt_pow_right (by decide) zo
 have f1:aD (d * gv r j) (w + 1):=(dj j).fit hlt zo
 have f2:aD d (w + 1):=dg.fit hlt zo
 have f3:aD (d * gv r j / d) (w + 1 + 3 * (w + 1) + 2):=nS f1 f2 d0
 rw [a0E (z:=x) d0 (by rw [e2]; grind)] at f3
 exact f3.le zo
theorem Yb {r:List Qi} {m L:Nat} (hl:r.length = m) (h:dN r L) (hL:1 ≤ L):rU r (m * L):=by
 obtain ⟨d,d0,dl,dj⟩:=Lx (L:=L) (x:=gv r) m fun j _=>h.get hL j
 refine ⟨Qi.ofInt d,So d0,⟨d,0,Qi.ext' rfl (by show (0:Rat) = ((0:Int):Rat); rfl),by simpa using dl,by simp⟩,fun j=>?_⟩
 by_cases hj:j < m
 ·exact dj j hj
 ·rw [Ru zo]
  have ee:Qi.ofInt d * 0 = 0:=by grind
  rw [ee]; exact Ky _
abbrev mD (M:List (List Qi)) (w:Nat):Prop:=∀ r,r ∈ M → rU r w
theorem mD.row {M : List (List Qi)} {w i : Nat} (h : mD M w) (hi : i < M.length) : rU (hZ M i) w := h _ (by
 rw [show hZ M i = M[i] by simp [hZ,List.getD,hi]]; exact List.getElem_mem hi)
theorem Tl {M:List (List Qi)} {n m L:Nat} (hs:eD M n m) (h:bL M L) (hL:1 ≤ L):mD M (m * L):=fun r hr=>Yb (hs.2 r hr) (h r hr) hL
theorem mD.swp {M : List (List Qi)} {w p c : Nat} (h : mD M w) (hp : p < M.length) (hc : c < M.length) : mD (swp [] M p c) w := fun x hx => by
 unfold Go.Proofs.YteohomnhncjcnaaGreat.swp at hx
 rcases List.mem_or_eq_of_mem_set hx with h1 | h1
 ·rcases List.mem_or_eq_of_mem_set h1 with h2 | h2
  ·exact h x h2
  ·rw [h2]; exact h.row hc
 ·rw [h1]; exact h.row hp
theorem mD.redM {M : List (List Qi)} {w c r : Nat} (h : mD M w) (hc : c < M.length) (hp : gm M c c ≠ Qi.zero) : mD (redM M c r) (2 * w + 1) := fun x hx => by
 obtain ⟨i,hi,rfl⟩:=gB.1 hx
 show rU (if c < i ∧ i < r then Fq (hZ M i) (hZ M c) c (hZ M i).length else hZ M i) _
 split
 ·exact (h.row hi).red (h.row hc) hp
 ·exact (h.row hi).le zo
theorem mD.redJ {M : List (List Qi)} {w c r : Nat} (h : mD M w) (hc : c < M.length) (hp : gm M c c ≠ Qi.zero) : mD (redJ M c r) (2 * w + 1) := fun x hx => by
 obtain ⟨i,hi,rfl⟩:=gB.1 hx
 show rU (if i ≠ c ∧ i < r then vK (hZ M i) (hZ M c) c (hZ M i).length else hZ M i) _
 split
 ·exact (h.row hi).red (h.row hc) hp
 ·exact (h.row hi).le zo
structure SzS (M:List (List Qi)) (b:List Qi) (n G X:Nat):Prop where
 st:∀ c,c ≤ n → bL (jI (pV M [b] n) c).1 G
 bk:a1H M b n = 0 → ∀ j,j ≤ n → dN (bkS (Od M b n).1 n j) X
 g1:1 ≤ G
 x1:1 ≤ X
 g:6 * G + 4 ≤ 17592186044415
 x:n * (X + G + 2) + 4 * G + 2 ≤ 17592186044415
theorem SzS.old {M:List (List Qi)} {b:List Qi} {n L:Nat} (hM:eD M n n) (hf:bL M L) (hfb:dN b L) (hL:1 ≤ L) (hg:6 * qD L n + 4 ≤ 17592186044415) (hx:Mi (qD L n) (n + 1) ≤ 17592186044415):SzS M b n (qD L n) (Mi (qD L n) n):=by
 have hcs:eD (pV M [b] n) n (n + 1):=uB hM
 have hcf:bL (pV M [b] n) L:=uA hf (fun r hr=>by simp at hr; subst hr; exact hfb) hL
 have hG1:1 ≤ qD L n:=Nat.le_trans hL (wM L n)
 refine ⟨fun c hc=>(xU hcs hcf hL hc).le (rC L hc),fun hE j hj=>?_,hG1,Nat.le_trans hG1 (Jc _ _),hg,hx⟩
 have hst:¬ 0 ≤ (Od M b n).2.2:=fun h=>by rw [a1H,if_pos h] at hE; omega
 have hf2:=Pp (Tv hM hf hfb hL) hG1 (Af hcs (Nat.le_refl n) (Yo hst)) j hj
 exact fun y hy=>(hf2 y hy).le (Gq _ hj)
structure SzJ (M:List (List Qi)) (b:List Qi) (n G:Nat):Prop where
 st:∀ c A,c ≤ n → Nm (pV M [b] n) c = some A → bL A G
 g1:1 ≤ G
 g:6 * G + 4 ≤ 17592186044415
theorem SzJ.old {M : List (List Qi)} {b : List Qi} {n L : Nat} (hM : eD M n n) (hf : bL M L) (hfb : dN b L) (hL : 1 ≤ L) (hg : 6 * qD L n + 4 ≤ 17592186044415) : SzJ M b n (qD L n) :=
 ⟨fun _ _ hc hA=>(Rq (show eD (pV M [b] n) n (n + 1) from uB hM) (Nat.le_succ n) (uA hf (fun r hr=>by simp at hr; subst hr; exact hfb) hL) hL hc hA).le (rC L hc),Nat.le_trans hL (wM L n),hg⟩
end
section
open Go Go.RowKit
theorem a1i {n:Nat} (hn:n ≤ 32):fT Tryz.prog 94 [NT .i64 n] [] (Nat) (fun B=>Is (.slice (some ⟨B,0,none⟩) n n)) (fun B=>[kG fH B 29 51 5 (bR aP (Kz n))]) (fun _=>True):=by
 refine fT.intro Tryz.func94 rfl Tryz.ntmps94 rfl (fun cx Z=>(ts (ro rfl (cQ cV) (eJ (ts (rn rfl (eK (Ts:=[Is (.bool false),Is (.slice none 0 0),Is (.bool false),Is (.slice none 0 0),Is (.slice none 0 0)]) O_51 rfl (fun V=>aW zd (aW zd (aW zd (aW zd (aW zd (aG))))))) fun B3=>(eJ (ts (rm rfl (ro rfl (aI.nat (Xn (Ht rfl) (cJ 0)) (show max n 0 = n by omega)) (ro rfl (aI.nat (Lq (Ht rfl) (cJ 32)) (show min n 32 = n by omega)) ?_)))))))))))
 refine rn rfl (dH (T:=Is (.slice none 0 0)) (i:=Tryz.t29) V_30 lX rfl rfl (Ht rfl) rfl (fun _=>rfl) trivial (by show 24 * _ ≤ _; omega) zo) fun B9=>ra rfl (eJ (cK (ts (rm rfl (ro rfl (fN U_30 (Ht rfl)) (ro rfl (cX (cJ 0)) (eJ (eU (oA 2 rfl (tD fH ⟨none,0,rfl⟩ (e:=51) (s:=5)) ?_)))))))))
 refine bF (fun (k : Nat) => k ≤ n) (fun (k : Nat) => n - k) (fun (k : Nat) => [(3, cC B3 0), (4, Is (.slice (some ⟨B9, 0, none⟩) n n)), (11, NT .i64 n), (12, NT .i64 k)]) (fun (k : Nat) => [Z, box B3 51 [Is (.bool false), Is (.slice none 0 0), Is (.bool false), Is (.slice none 0 0), Is (.slice none 0 0)], kG fH B9 29 51 5 (bR aP (jJ (yY n) [] n k))]) 0 (Nat.zero_le _)
  (zS rfl) (aU (fun _ _ _ h=>h) (aU (fun _ _ _ h=>h) (aU (bP (by rw [← jF,kC]; exact kL aP n)) aY))) (fun k hk=>?_)
 refine ts (ro rfl (gJ (Ht rfl) (Ht rfl)) (eJ (cK (dQ (Ht rfl) (fun hd=>?_) (fun hd=>?_)))))
 ·simp only [decide_eq_true_eq] at hd
  refine lC 2 (k) rfl (jS hd) (fun v hv=>(cU (cK (eU (ts (rm rfl (ra rfl (eJ (cK (fV (m:=10) (dp 4 rfl (cX (Ht rfl)) (dp 5 rfl (cX (Ht rfl)) (dp 3 rfl (eG A_51 Z_51 (Ht rfl) (i:=1) rfl rfl rfl) (dq 17 2 rfl (eP gF (Ht rfl)) (d0 rfl (cZ K_77 (pR (n:=0) (by decide) (by decide)) ⟨(cJ 0),trivial⟩) (cH 18 3 19 4 rfl (dO sD Tryz.call302 Pu (Ht rfl) ⟨(Ht rfl),trivial⟩) (dq 20 5 rfl (dA (xs:=[.tmp 20]) U_29 Z_51 O_51 (cW (Ht rfl) cG) rfl rfl rfl) ?_)))))))))))))))))
  refine dp 4 rfl (cX (Ht rfl)) (dq 22 7 rfl (fN U_30 (Ht rfl)) (C.D_new (Ei:=[(21,_),(23,_)]) rfl rfl rfl (bV (bG 6 rfl rfl) (bV (bG 8 rfl rfl) bW)) (Np Tryz.call191 (Pw (m:=n) zo zo) ⟨(Ht rfl),(Ht rfl),trivial⟩) (fG aM rfl (by kernel_rfl) (zF (zF (aJ (C.F_new (fun B24=>aV (ro rfl (gX U_30 Z_29 (Ht rfl) (Ht rfl) rfl zo (by rw [Nat.mul_one,Nat.zero_add])) ?_)))))))))
  refine pO Z_29 (Ht rfl) (Ht rfl) (by simp only [bR,List.length_map,eR]; omega) (j:=2) (l:=4) rfl rfl rfl ?_
  refine eJ ?_
  have hB24:=B24.1.2
  refine fV (m:=9) (dp 4 rfl (cX (Ht rfl)) (dp 5 rfl (cX (Ht rfl)) (cH 26 0 27 1 rfl (gX U_30 Z_29 (Ht rfl) (Ht rfl) rfl zo (by rw [Nat.mul_one,Nat.zero_add])) ?_)))
  refine dq 28 2 rfl (jK A_29 Z_29 (Ht rfl) (j:=2) rfl) (dp 5 rfl (cX (Ht rfl)) (dp 3 rfl (eG A_51 Z_51 (Ht rfl) (i:=1) rfl rfl rfl) (dq 31 5 rfl (eP gF (Ht rfl)) (d0 rfl (cZ K_77 (pR (n:=1) (by decide) (by decide)) ⟨(cJ 1),trivial⟩) (cH 32 6 33 7 rfl (dO sD Tryz.call302 Pu (Ht rfl) ⟨(Ht rfl),trivial⟩) (fG aM rfl (by kernel_rfl) (zF (zF (aJ (aV (ro rfl (dM U_29 Z_51 (Ht rfl) (Ht rfl) rfl (i:=4) rfl (by simp only [List.length_map,aT]; omega) rfl) ?_)))))))))))
  refine mY Z_51 (Ht rfl) (Ht rfl) (El.ag rfl) (i:=4) rfl rfl (by simp only [List.length_map,aT]; omega) rfl ?_
  refine eJ (aR (fR 2 4 rfl rfl (by decide) (by simp only [bR,List.length_map,eR]; omega) ?_))
  refine cY (ro rfl (dW (Ht rfl) (cJ 1) z6) (rm rfl (eJ (cM [0,1,2] rfl (by decide) (gQ (k + 1) hd zo (zS rfl) (aU (fun _ _ _ h=>h) (aU (fun _ _ _ h=>h) (aU (bP (by rw [← kP (f:=yY n),← gI,yY,← jU])) aY))))))))
 ·simp only [decide_eq_false_iff_not] at hd
  obtain rfl:n = k:=Nat.le_antisymm zo hk
  refine gG rfl (ts (rm rfl (ra rfl (eJ ?_))))
  exact iT B9 trivial [0,2] ⟨⟨_,rfl,fun _ _ _ h=>h⟩,⟨_,rfl,(bP (by rw [kO]; rfl))⟩,trivial⟩ (by decide) (pH rfl (fQ rfl))
end
section
open Go Go.RowKit
theorem Mq {M:List (List Qi)} {n m:Nat} (hM:eD M n m) (hn:n ≤ 1000) (hm:m ≤ 1000):fT Tryz.prog 193 [bS M,Is (.slice none 0 0)] [] Nat (fun B=>Is (.slice (some ⟨B,0,none⟩) n n)) (fun B=>[pL B 29 51 5 (bR aP M)]) (fun _=>True):=by
 have h:=Mr (M:=M) (bs:=[]) hM (fun b hb=>by cases hb) hn hm (by simp)
 rw [Mz hM] at h
 exact h.arg Ph
end
section
open Go Go.RowKit
def sB (p : Nat → Bool) : Nat → Nat → Nat
 | 0,k=>k
 | f + 1,k=>if p k = true then k else sB p f (k + 1)
theorem By {p : Nat → Bool} : ∀ {f k r : Nat}, k ≤ r → r ≤ k + f → (∀ j, k ≤ j → j < r → p j = false) → (r < k + f → p r = true) → sB p f k = r
 | 0,k,r,h1,h2,_,_=>by simp only [sB]; omega
 | f + 1, k, r, h1, h2, h3, h4 => by
  unfold sB
  by_cases e:r = k
  ·subst e; rw [if_pos (h4 zo)]
  ·rw [if_neg (by rw [h3 k (Nat.le_refl _) zo]; simp)]
   exact By zo zo (fun j a b=>h3 j zo b) (fun h=>h4 zo)
theorem rA {p : Nat → Bool} : ∀ {f k : Nat}, (k ≤ sB p f k ∧ sB p f k ≤ k + f) ∧ (∀ j, k ≤ j → j < sB p f k → p j = false) ∧ (sB p f k < k + f → p (sB p f k) = true)
 | 0,k=>⟨⟨Nat.le_refl _,Nat.le_refl _⟩,fun j a b=>by simp only [sB] at b; omega,fun h=>by simp only [sB] at h; omega⟩
 | f + 1, k => by
  unfold sB
  by_cases e:p k = true
  ·rw [if_pos e]; exact ⟨⟨Nat.le_refl _,by omega⟩,fun j a b=>by omega,fun _=>e⟩
  ·rw [if_neg e]
   obtain ⟨⟨a1,a2⟩,a3,a4⟩:=rA (p:=p) (f:=f) (k:=k + 1)
   refine ⟨⟨by omega,by omega⟩,fun j a b=>?_,fun h=>a4 zo⟩
   by_cases c:j = k
   ·subst c; simpa using e
   ·exact a3 j zo b
def Wy (x:List Qi) (f:Qi) (y:List Qi):List Qi:=tab x.length fun i=>gv x i + f * gv y i
def Ak (x:Qi):Bool:=decide (vV x Qi.zero < 0)
def Gt (x:Qi):Qi:=if Ak x = true then -x else x
def Na (G:List (List Qi)) (n i:Nat):Nat:=sB (fun k=>!decide (gm G i k = 0)) (n - (i + 1)) (i + 1)
def qW (G:List (List Qi)) (i k:Nat):Qi:=(Gt (gm G k k) + Qi.ofInt 1) / ((gm G i k).norm + (gm G i k).norm)
def Uj (G V:List (List Qi)) (i k:Nat):List Qi:=Wy (V.getD k []) (-(qW G i k) * gm G i k) (V.getD i [])
def vF (G V:List (List Qi)) (n i:Nat):List Qi:=if gm G i i = 0 then (if Na G n i < n then Uj G V i (Na G n i) else []) else []
def tP (G:List (List Qi)) (n i k l:Nat):List (List Qi):=tab n fun r=>tab n fun c=>if (i < r ∧ i < c) ∧ (c < k ∨ c = k ∧ r < l) then gm G r c - gm G r i * (gm G i c / gm G i i) else gm G r c
def dfE (G:List (List Qi)) (n i:Nat):List (List Qi):=tP G n i n 0
def nJ (G V:List (List Qi)) (n i k:Nat):List (List Qi):=tab n fun r=>if i < r ∧ r < k then Wy (V.getD r []) (-(gm G i r / gm G i i)) (V.getD i []) else V.getD r []
def gN (h : List (List Qi)) (n : Nat) : Nat → List (List Qi) × List (List Qi)
 | 0=>(h,Kz n)
 | i + 1=>if gm (gN h n i).1 i i = 0 then gN h n i else (dfE (gN h n i).1 n i,nJ (gN h n i).1 (gN h n i).2 n i n)
def tN (h : List (List Qi)) (n : Nat) : Nat → Nat → Bool × List Qi
 | 0,_=>(true,[])
 | f + 1,i=>if Ak (gm (gN h n i).1 i i) = true then (false,(gN h n i).2.getD i []) else if vF (gN h n i).1 (gN h n i).2 n i ≠ [] then (false,vF (gN h n i).1 (gN h n i).2 n i) else tN h n f (i + 1)
theorem a0y {G V : List (List Qi)} {i k : Nat} (h : 0 < (V.getD k []).length) : (Uj G V i k).map aP ≠ [] := fun e => by
 have:=congrArg List.length e
 rw [List.length_map,Uj,Wy,aT] at this
 rw [List.length_nil] at this; omega
theorem yF {x : Qi} (h : ¬ x = 0) : x.norm + x.norm ≠ 0 := fun e => by
 have e2:x.nrm + x.nrm = 0:=congrArg Qi.re e
 exact h (Qi.nrm_zero.1 (by grind))
theorem oV (G:List (List Qi)) (n i k l:Nat):eD (tP G n i k l) n n:=eD.tab
theorem Nd {G:List (List Qi)} {n i:Nat} (h:eD G n n):tP G n i (i + 1) 0 = G:=by
 have:tP G n i (i + 1) 0 = tab n fun r=>tab n fun c=>gm G r c:=cI fun r _=>cI fun c _=>by rw [if_neg zo]
 rw [this]; exact (lZ h).symm
theorem Wd {G : List (List Qi)} {n i k : Nat} : tP G n i k 0 = tP G n i k (i + 1) := cI fun r _ => cI fun c _ => by
 by_cases a:(i < r ∧ i < c) ∧ (c < k ∨ c = k ∧ r < 0)
 ·rw [if_pos a,if_pos zo]
 ·rw [if_neg a,if_neg zo]
theorem Wc {G : List (List Qi)} {n i k : Nat} : tP G n i k n = tP G n i (k + 1) 0 := cI fun r hr => cI fun c _ => by
 by_cases a:(i < r ∧ i < c) ∧ (c < k ∨ c = k ∧ r < n)
 ·rw [if_pos a,if_pos zo]
 ·rw [if_neg a,if_neg zo]
theorem Bs {G:List (List Qi)} {n i k l r c:Nat} (hr:r < n) (hc:c < n) (h:¬ ((i < r ∧ i < c) ∧ (c < k ∨ c = k ∧ r < l))):gm (tP G n i k l) r c = gm G r c:=by rw [tP,kT hr hc,if_neg h]
theorem Rb {G:List (List Qi)} {n i k l:Nat} (hl:l < n) (hk:k < n) (hil:i < l) (hik:i < k):(tP G n i k l).set l ((hZ (tP G n i k l) l).set k (gm G l k - gm G l i * (gm G i k / gm G i i))) = tP G n i k (l + 1):=by
 refine Lf (n:=n) (m:=n) ⟨by rw [List.length_set]; exact aT _ _,fun r hr=>?_⟩ (oV _ _ _ _ _) fun r hr c hc=>?_
 ·rcases List.mem_or_eq_of_mem_set hr with h1 | h1
  ·exact (oV G n i k l).2 r h1
  ·rw [h1,List.length_set]; exact (oV G n i k l).row hl
 ·have hrl : (hZ (tP G n i k l) l).length = n := (oV G n i k l).row hl
  have hlen:(tP G n i k l).length = n:=aT _ _
  show gv (hZ ((tP G n i k l).set l _) r) c = _
  by_cases e:r = l
  ·subst e
   rw [Tn zo,Ie zo]
   by_cases e2:c = k
   ·subst e2
    rw [if_pos rfl,tP,kT hr hc,if_pos zo]
   ·rw [if_neg e2]
    show gm (tP G n i k r) r c = _
    rw [tP,kT hr hc,tP,kT hr hc]
    by_cases a:(i < r ∧ i < c) ∧ (c < k ∨ c = k ∧ r < r)
    ·rw [if_pos a,if_pos zo]
    ·rw [if_neg a,if_neg zo]
  ·rw [Ar (fun x => e x.symm)]
   show gm (tP G n i k l) r c = _
   rw [tP,kT hr hc,tP,kT hr hc]
   by_cases a:(i < r ∧ i < c) ∧ (c < k ∨ c = k ∧ r < l)
   ·rw [if_pos a,if_pos zo]
   ·rw [if_neg a,if_neg zo]
theorem Ib {G V:List (List Qi)} {n i:Nat} (h:V.length = n):nJ G V n i (i + 1) = V:=by
 have:nJ G V n i (i + 1) = tab n fun r=>V.getD r []:=cI fun r _=>by rw [if_neg zo]
 rw [this]; exact (Cq (h:=h)).symm
theorem Nf {G V:List (List Qi)} {n i k:Nat} (hk:k < n) (hik:i < k):(nJ G V n i k).set k (Wy (V.getD k []) (-(gm G i k / gm G i i)) (V.getD i [])) = nJ G V n i (k + 1):=by
 apply List.ext_getElem?
 intro r
 by_cases hr:r < n
 ·by_cases e : r = k
  ·subst e
   rw [List.getElem?_set_self (by rw [nJ,aT]; exact hr),nJ,eT hr,if_pos zo]
  ·rw [List.getElem?_set_ne (Ne.symm e), nJ, nJ, eT hr, eT hr]
   by_cases a:i < r ∧ r < k
   ·rw [if_pos a,if_pos zo]
   ·rw [if_neg a,if_neg zo]
 ·rw [List.getElem?_eq_none (by rw [List.length_set,nJ,aT]; omega),List.getElem?_eq_none (by rw [nJ,aT]; omega)]
theorem Eh {G V:List (List Qi)} {n i k r:Nat} (hr:r < n) (h:¬ (i < r ∧ r < k)):(nJ G V n i k).getD r [] = V.getD r []:=by rw [nJ,yQ hr,if_neg h]
theorem Cb (x y:List Qi) (f:Qi):(Wy x f y).length = x.length:=aT _ _
theorem qY {h : List (List Qi)} {n : Nat} (hs : eD h n n) : ∀ i, i ≤ n → eD (gN h n i).1 n n ∧ eD (gN h n i).2 n n
 | 0,_=>⟨hs,La n⟩
 | i + 1, hi => by
  obtain ⟨a,b⟩:=qY hs i zo
  simp only [gN]
  split
  ·exact ⟨a,b⟩
  ·refine ⟨oV _ _ _ _ _, ⟨aT _ _, fun r hr => ?_⟩⟩
   obtain ⟨j,hj,rfl⟩:=gB.1 hr
   by_cases c:i < j ∧ j < n
   ·rw [if_pos c,Cb]; exact b.row hj
   ·rw [if_neg c]; exact b.row hj
def iV (h:List (List Qi)) (n:Nat):Bool:=decide (∀ i,i < n → ∀ k,k < n → gm h i k = (gm h k i).conj)
def zI (h:List (List Qi)) (n:Nat):Bool:=if iV h n = true then (tN h n n 0).1 else false
def Bt (h:List (List Qi)) (n:Nat):List Qi:=if iV h n = true then (tN h n n 0).2 else []
def Rd (h:List (List Qi)) (n:Nat):Int:=if iV h n = true then 0 else 1
theorem Kn {h:List (List Qi)} {n i:Nat} (hi:i < n) (k:Ak (gm (gN h n i).1 i i) = true):tN h n (n - i) i = (false,(gN h n i).2.getD i []):=by
 rw [show n - i = (n - (i + 1)) + 1 by omega,tN,if_pos k]
theorem Kl {h:List (List Qi)} {n i:Nat} (hi:i < n) (k:Ak (gm (gN h n i).1 i i) ≠ true) (w:vF (gN h n i).1 (gN h n i).2 n i ≠ []):tN h n (n - i) i = (false,vF (gN h n i).1 (gN h n i).2 n i):=by
 rw [show n - i = (n - (i + 1)) + 1 by omega,tN,if_neg k,if_pos w]
theorem Qx {h:List (List Qi)} {n i:Nat} (hi:i < n) (k:Ak (gm (gN h n i).1 i i) ≠ true) (w:vF (gN h n i).1 (gN h n i).2 n i = []):tN h n (n - i) i = tN h n (n - (i + 1)) (i + 1):=by
 rw [show n - i = (n - (i + 1)) + 1 by omega,tN,if_neg k,if_neg (fun e=>e w)]
theorem pY {h:List (List Qi)} {n i:Nat} (k:gm (gN h n i).1 i i = 0):gN h n (i + 1) = gN h n i:=by rw [gN,if_pos k]
theorem xP {h:List (List Qi)} {n i:Nat} (k:¬ gm (gN h n i).1 i i = 0):gN h n (i + 1) = (dfE (gN h n i).1 n i,nJ (gN h n i).1 (gN h n i).2 n i n):=by rw [gN,if_neg k]
structure SzD (h:List (List Qi)) (n G V:Nat):Prop where
 g:∀ i,i ≤ n → bL (gN h n i).1 G
 v:∀ i,i ≤ n → bL (gN h n i).2 V
 g1:1 ≤ G
 v1:1 ≤ V
 b:10 * G + 2 * V + 40 ≤ 8796093022208
end
section
open Go Go.RowKit
section
variable {P:Program} {R:gK} {cx:Cx} {n:Nat} {k:List It} {E:cD} {H:Hp}
theorem HH.two {base:Nat} {w:World} {V:aN} {Z:SA} {X:Hp} (h:HH base w V (Z :: X)):HH base w V [Z,fP (SA.emp :: X)]:=by
 have h1:HH base w V ((Z :: X).set 0 SA.emp ++ [Z]):=h.last rfl
 have h2:HH base w V (fP (SA.emp :: X) :: [Z]):=HH.repack h1
 exact h2.pick (is:=[1,0]) ⟨⟨_,rfl,fun _ _ _ h=>h⟩,⟨_,rfl,fun _ _ _ h=>h⟩,trivial⟩ (by decide)
theorem fT.pack {f : FuncId} {Ts : List Ty} {γ : Type} {U : γ → Ty} {X : γ → Hp} {Q : γ → Prop} (h : fT P f Ts [] γ U X Q) : fT P f Ts [] γ U (fun x => [fP (SA.emp :: X x)]) Q :=
 fun cx Z vs V w h1 h2=>(h cx Z vs V w h1 h2).mono fun e w' ⟨v,V',x,a,b,c,d,e'⟩=>⟨v,V',x,a,b,c.withHH c.hp.two,d,e'⟩
end
namespace W
variable {P:Program} {R:gK} {cx:Cx} {n:Nat} {k:List It} {E:cD} {H:Hp} {Hf:Bool → Hp} {p:Nat}
end W
end
section
open Go Go.RowKit
section
variable {P:Program} {R:gK} {cx:Cx} {n:Nat} {k:List It} {E:cD} {H:Hp} {ops:Array Oper} {o:Oper} {rest:List Oper}
variable {d:Option Tmp} {t:TypeId} {pos:String} {af:Array Edge} {g:Option (Nat × Bool)}
def hdr : Option (Nat × Nat) → Nat → Value
 | none,_=>.slice none 0 0
 | some (b,cp),l=>.slice (some ⟨b,0,none⟩) l cp
instance shHdr (x:Option (Nat × Nat)) (l:Nat):dE (Is (hdr x l)) 1 false:=by
 match x with
 | none=>exact inferInstanceAs (dE (Is (.slice none 0 0)) 1 false)
 | some (b,cp)=>exact inferInstanceAs (dE (Is (.slice (some ⟨b,0,none⟩) l cp)) 1 false)
end
end
section
open Go Go.RowKit
theorem fF.mk' {V : aN} : ∀ {Ts : List Ty} {vs : List Value}, vs.length = Ts.length → (∀ (q : Nat) (T : Ty), Ts[q]? = some T → ∃ u, vs[q]? = some u ∧ T.p u V) → fF Ts vs V
 | [],[],_,_=>trivial
 | T :: Ts, v :: vs, h, k => by
  obtain ⟨u,h1,h2⟩:=k 0 T rfl
  simp at h1; subst h1
  exact ⟨h2,fF.mk' (by simpa using h) fun q T hT=>k (q + 1) T (by simpa using hT)⟩
 | [],_ :: _,h,_=>by simp at h
 | _ :: _,[],h,_=>by simp at h
section
variable {P:Program} {R:gK} {cx:Cx} {n:Nat} {k:List It} {E:cD} {H:Hp} {ops:Array Oper} {o:Oper} {rest:List Oper}
variable {d:Option Tmp} {t:TypeId} {pos:String} {af:Array Edge} {g:Option (Nat × Bool)}
theorem gM.frzRows {V : aN} {w : World} {j B e s : Nat} {q : Value → Prop} {BT : TypeId} {Rs : List (List Ty)} (h : gM cx V H w) (hH : H[j]? = some (kG q B BT e s Rs)) (hm : Rs.length ≤ maxLen) :
  ∃ V',lO V V' ∧ gM cx V' (H.set j (bO BT 1 (.slice (some ⟨B,0,none⟩) Rs.length Rs.length) (Rs.map (kW s)))) w:=by
 have hjl:=(List.getElem?_eq_some_iff.1 hH).1
 obtain ⟨vs, hv⟩ := h.hp.split (γ := {vs : List Value // vs.length = Rs.length}) (A1 := fun vs => box B BT (vs.1.map Is)) (A2 := fun vs => fP (SA.emp :: List.zipWith (bO e s) vs.1 Rs)) hH (fun S ⟨vs, ⟨h1, h1q⟩, h2⟩ => by
  obtain ⟨S1,S2,k1,k2,k3,k4⟩:=fP.split (q:=0) h2 (A:=box B BT (vs.map Is)) (by simp [mx])
  exact ⟨⟨vs,h1⟩,S2,S1,k2,k1,fun b p r=>k3 b r p,fun b=>by rw [k4 b]; exact Or.comm⟩)
 have h3:gM cx V (H.set j (box B BT (vs.1.map Is)) ++ [fP (SA.emp :: List.zipWith (bO e s) vs.1 Rs)]) w:=h.withHH hv
 obtain ⟨V',S,hle,hi',hA⟩:=h3.freeze (i:=H.length) (A:=fP (SA.emp :: List.zipWith (bO e s) vs.1 Rs)) (by rw [List.getElem?_append_right (by simp)]; simp)
 refine ⟨V',hle,?_⟩
 obtain ⟨F,f1,f2⟩:=hi'.hp
 obtain ⟨G,g1,g2,g3⟩:=hA
 refine hi'.withHH ⟨F,fun i A hA=>?_,fun i l b hi hl=>?_⟩
 ·by_cases c : i = j
  ·subst c
   simp [hjl] at hA; subst hA
   obtain ⟨⟨e0,cs,e1,e2⟩,k2⟩:=f1 i (box B BT (vs.1.map Is)) (by rw [List.getElem?_set_ne zo,List.getElem?_append_left (by simpa using hjl)]; simp [hjl])
   refine ⟨⟨cs,⟨?_,fun x hx=>by rw [(e2.pl x hx).cells]; rfl,fun u hu=>?_⟩,.inr ⟨B,Rs.length,cs.toArray,by rw [List.length_map],e0,e1,by rw [List.length_map]; exact Nat.le_refl _,hm,?_,?_⟩⟩,k2⟩
   ·refine fF.mk' (by rw [e2.length, List.length_map, List.length_map, vs.2]) fun q T hT => ?_
    rw [List.getElem?_map] at hT
    obtain ⟨Ts,hR,rfl⟩:=Option.map_eq_some_iff.1 hT
    have hql:=(List.getElem?_eq_some_iff.1 hR).1
    have hvq:vs.1[q]? = some (vs.1[q]'(by rw [vs.2]; exact hql)):=by simp [vs.2,hql]
    obtain ⟨u,u1,u2⟩:=e2.get (i:=q) (T:=Is (vs.1[q]'(by rw [vs.2]; exact hql))) (by simp [vs.2,hql])
    have hrow:=g1 (q + 1) (bO e s (vs.1[q]'(by rw [vs.2]; exact hql)) Ts) (by simp [List.getElem?_zipWith,hvq,hR])
    exact ⟨u,u1,kN u _ V' u2 hrow⟩
   ·obtain ⟨x, hx, hu⟩ := iO.1 hu
    have:=e2.pl x hx
    rw [this.cells] at hu; simp at hu; subst hu; exact this
   ·have := e2.length
    rw [List.length_map,vs.2] at this
    simp [this]
   ·have := e2.length
    rw [List.length_map,vs.2] at this
    have hf:cP cs = cs:=oZ cs fun x hx=>e2.pl x hx
    rw [hf,List.length_map,Nat.mul_one]
    simp [← this]
  ·rw [List.getElem?_set_ne (fun x => c x.symm)] at hA
   have hil:=(List.getElem?_eq_some_iff.1 hA).1
   refine f1 i A ?_
   rw [List.getElem?_set_ne zo,List.getElem?_append_left (by simpa using hil),List.getElem?_set_ne (fun x=>c x.symm)]
   exact hA
 ·simp at hi hl
  exact f2 i l b (by simp; omega) (by simp; omega)
theorem Mk (j : Nat) {B e s : Nat} {q : Value → Prop} {BT : TypeId} {Rs : List (List Ty)} (hH : H[j]? = some (kG q B BT e s Rs)) (hm : Rs.length ≤ maxLen)
  (h:Tr P R cx n k E (H.set j (bO BT 1 (.slice (some ⟨B,0,none⟩) Rs.length Rs.length) (Rs.map (kW s))))):Tr P R cx n k E H:=fun a w ⟨V,hi,hs⟩=>by
 obtain ⟨V',hle,hi'⟩:=hi.frzRows hH hm
 exact h a w ⟨V',hi',hs.mono hle⟩
theorem Gz (j : Nat) {B e s m : Nat} {q : Value → Prop} {BT : TypeId} {Rs : List (List Ty)} {Us : List Ty} (hH : H[j]? = some (kG q B BT e s Rs)) (hm : m ≤ maxLen) (hl : Rs.length = m) (hU : Rs.map (kW s) = Us)
  (h:Tr P R cx n k E (H.set j (bO BT 1 (.slice (some ⟨B,0,none⟩) m m) Us))):Tr P R cx n k E H:=by
 subst hl hU; exact Mk j hH hm h
def NlT (s:Nat) (Ts:List Ty):Ty where
 p v V:=(Ts = [] ∧ v = .slice none 0 0) ∨ (Ts ≠ [] ∧ (kW s Ts).p v V)
 mono h k:=h.imp id fun ⟨a,b⟩=>⟨a,(kW s Ts).mono b k⟩
theorem xX (tx:TypeId) (x y:Operand) (a b:Option Addr) (l c l' c':Nat):eqGuard .neq tx x y (.slice a l c) (.slice b l' c') = pure ():=rfl
theorem Ns {tx ty : TypeId} {x : Operand} {s : Nat} {Ts : List Ty} {e : TypeId} {q : Bool} (hq : q = true ↔ Ts ≠ []) (hU : ∀ w, (underlying tx).run P w = .ok (.slice e) w) (hx : bD E x (NlT s Ts)) :
  aI P n E H ⟨d,.binOp .neq tx x (.const (.slice none 0 0)) ty,t,pos,af,g⟩ (aC q) :=
 eS fun a V w hs => by
  rcases hx n V a hs with ⟨hT,e1⟩ | ⟨hT,ad,cap,e1,_,e3⟩
  ·have hf : q = false := by cases q; rfl; exact absurd hT (hq.1 rfl)
   subst hf
   refine ⟨.bool false,?_,rfl⟩
   have h:=wR (P:=P) (tx:=tx) (e:=e) none 0 0 hU
   simp [execOp,e1,oY,xX,binOp,h,Sem.run_bind,Result.andThen] at h ⊢
  ·have ht : q = true := hq.2 hT
   subst ht
   cases ad with
   | none =>
    cases Ts with
    | nil=>exact absurd rfl hT
    | cons T Ts=>obtain ⟨b,o,x,h,_⟩:=e3 0 T rfl; cases h
   | some ad =>
    refine ⟨.bool true,?_,rfl⟩
    have h:=wR (P:=P) (tx:=tx) (e:=e) (some ad) Ts.length cap hU
    simp [execOp,e1,oY,xX,binOp,h,Sem.run_bind,Result.andThen] at h ⊢
theorem Up {f : FuncId} {xs : List Operand} {tys : Array TypeId} {Ts : List Ty} {γ : Type} {U : γ → Ty} {i j : Nat} {A B : SA} {A' B' : γ → SA} {Q : γ → Prop} {dd : Nat} (hc : ∀ args w, (callFunc f args).run P w = .ok (.enter f args) w)
  (hF:fT P f Ts [A,B] γ U (fun x=>[A' x,B' x]) Q) (hA:H[i]? = some A) (hB:H[j]? = some B) (hij:i ≠ j) (ha:nI E xs Ts) (hn:Nat.blt dd n = true) (h:∀ x,Q x → Rg P R cx n ops rest k ((dd,U x) :: E) ((H.set j (B' x)).set i (A' x))) :
  Rg P R cx n ops (⟨some dd,.call ⟨.value (.func f),xs.toArray,tys⟩,t,pos,af,none⟩ :: rest) k E H:=by
 intro a w ⟨V,hi,hs⟩
 unfold wpList
 rw [if_pos (by simp [Region.wanted])]
 left
 have hrun : (execOp a.eval ⟨some dd, .call ⟨.value (.func f), xs.toArray, tys⟩, t, pos, af, none⟩).run P w = .ok (.enter f (xs.map a.eval).toArray) w := by
  simp [execOp,resolve,Act.eval,Deferred.ofValue,invoke,hc]
 simp only [Oper.wp,hrun,Oper.upon_enter]
 have hil:=(List.getElem?_eq_some_iff.1 hA).1
 have hjl:=(List.getElem?_eq_some_iff.1 hB).1
 have h1:=hi.hp.last hA
 have h2:=h1.last (i:=j) (A:=B) (by rw [List.getElem?_append_left (by simpa using hjl),List.getElem?_set_ne hij]; exact hB)
 rw [List.set_append_left _ _ (by simpa using hjl),List.append_assoc] at h2
 have h3:=HH.repack h2
 refine (hF cx _ _ V w (hi.withHH h3) (nI.all hs ha)).mono ?_
 rintro e w' ⟨v,V',x,rfl,m1,m2,m3,m4⟩
 refine h x m4 _ _ ⟨V',m2.withHH ?_,(hs.mono m1).put (aK hn) m3⟩
 have g1:=m2.hp.unpack
 have e1 : (H.set i SA.emp).set j SA.emp ++ [A' x, B' x] = (H.set i SA.emp ++ [A' x]).set j SA.emp ++ [B' x] := by
  rw [List.set_append_left _ _ (by simpa using hjl),List.append_assoc]; rfl
 rw [e1] at g1
 have g2:=g1.unlast (by simp; omega)
 rw [List.set_append_left _ _ (by simpa using hjl),List.set_comm _ _ hij] at g2
 exact g2.unlast (by simpa using hil)
end
end
section
open Go Go.RowKit
theorem Pt {x:Qi} {L:Nat} [hx:aD x L] (h:L + L + 1 ≤ 17592186044415):aS Tryz.prog 168 [aP x] (aP x.norm):=by
 have hxa:=iE hx.fit; have hxb:=iL hx.fit; have hxd:=iF hx.fit
 have hxp:=x.den_pos; have hdp:=Nat.mul_pos hxp hxp
 have e1:=iK x.a x.a; have e2:=iK x.b x.b; have e5:=oW x.den x.den
 have e6:=jA (x:=x.a * x.a) (y:=x.b * x.b) (L:=L + L) zo zo
 have hz:(dg (0:Int).natAbs).length ≤ 0:=by rw [show (0:Int).natAbs = 0 from rfl,dI]; exact Nat.le_refl _
 refine aS.intro Tryz.func168 rfl Tryz.ntmps168 rfl (fun cx=>(ts (rn rfl (fU (Ht rfl)) fun B1=>(rn rfl (eK (Ts:=[Is (.bool false),Is (.slice none 0 0),Is (.bool false),Is (.slice none 0 0),Is (.slice none 0 0)]) O_51 rfl (fun V=>aW zd (aW zd (aW zd (aW zd (aW zd (aG))))))) fun B2=>(eJ (cK (fV (m:=17) (dp 1 rfl (eW fD (Ht rfl) rfl) (dq 3 0 rfl (eG A_49 Z_49 (Ht rfl) (i:=0) rfl rfl rfl) (dp 1 rfl (eW fD (Ht rfl) rfl) ?_))))))))))
 refine dq 5 2 rfl (eG A_49 Z_49 (Ht rfl) (i:=0) rfl rfl rfl) (cH 4 1 6 3 rfl (cZ K_132 (nP zo zo) ⟨(Ht rfl),(Ht rfl),trivial⟩) (dp 1 rfl (eW gA (Ht rfl) rfl) (dq 8 5 rfl (eG A_49 Z_49 (Ht rfl) (i:=0) rfl rfl rfl) (dp 1 rfl (eW gA (Ht rfl) rfl) (dq 10 7 rfl (eG A_49 Z_49 (Ht rfl) (i:=0) rfl rfl rfl) (cH 9 6 11 8 rfl (cZ K_132 (nP zo zo) ⟨(Ht rfl),(Ht rfl),trivial⟩) (cH 7 4 12 9 rfl (cZ K_133 (rY zo zo) ⟨(Ht rfl),(Ht rfl),trivial⟩) ?_)))))))
 refine d0 rfl (aI.imp (Ju ) sJ) (dp 1 rfl (eG A_51 Z_51 (Ht rfl) (i:=0) rfl rfl rfl) (dq 15 12 rfl (cZ K_137 mL ⟨(Ht rfl),trivial⟩) (dp 1 rfl (eG A_51 Z_51 (Ht rfl) (i:=0) rfl rfl rfl) (dq 17 14 rfl (cZ K_137 mL ⟨(Ht rfl),trivial⟩) (cH 16 13 18 15 rfl (cZ K_138 (zT zo zo) ⟨(Ht rfl),(Ht rfl),trivial⟩) (fG aM rfl (by kernel_rfl) (zF (zF (zF (zF (aJ (aV ?_))))))))))))
 refine ro rfl (cZ K_134 (rX (A:=x.a * x.a + x.b * x.b) (B:=0) (D:=x.den * x.den) hdp zo zo zo) ⟨(Ht rfl),(Ht rfl),(Ht rfl),trivial⟩) (gZ Z_51 (Ht rfl) (Ht rfl) rfl (i:=1) rfl (aK rfl) rfl rfl (eJ (fK rfl (fJ (fY A_51 Z_51 rfl (i:=1) rfl rfl) ?_))))
 exact (kU (Qi.mk_norm x))
theorem Kc {x y:List Qi} {f:Qi} {n L M N:Nat} (hx:dN x L) (hf:aD f M) (hy:dN y N) (hL:1 ≤ L) (hN:1 ≤ N) (hb:L + M + N + 4 ≤ 17592186044415) (hxl:x.length = n) (hyl:y.length = n) (hn:n ≤ 1000):aS Tryz.prog 235 [cB x,aP f,cB y] (cB (Wy x f y)):=by
 haveI:=hf
 refine aS.intro Tryz.func235 rfl Tryz.ntmps235 rfl (fun cx=>(ts (rn rfl (fU (Ht rfl)) fun B4=>(ro rfl (cQ cV) (eJ (ts (ro rfl (cQ cV) (eJ (cK (cK (xG 51 5 (cY (rm rfl (ro rfl (dU U_29 (Ht rfl) (by rw [List.length_map,hxl])) ?_))))))))))))))
 refine ro rfl (cX (cJ 0)) (eJ (eU ?_))
 refine eH (fun (i : Nat) (v : Value) => i ≤ n) (fun (i : Nat) (v : Value) => n - i) (fun (i : Nat) (v : Value) => [(0, cB x), (2, cB y), (4, cC B4 0), (7, Is v), (10, NT .i64 n), (11, NT .i64 i)]) (fun (i : Nat) (v : Value) => [box B4 51 [aC (decide (f.a < 0)), aE f.a.natAbs, aC (decide (f.b < 0)), aE f.b.natAbs, aE (du f)], bO 51 5 v ((tab i (fun i => gv x i + f * gv y i)).map aP)]) 0 _ (Nat.zero_le _)
  (zS rfl) (aU (aB rfl) (aU (bT rfl) aY)) (fun i v hi=>?_)
 refine ts (ro rfl (gJ (Ht rfl) (Ht rfl)) (eJ (cK (dQ (Ht rfl) (fun hd=>?_) (fun hd=>?_)))))
 ·have hin : i < n := by simp only [decide_eq_true_eq] at hd; omega
  haveI f1:aD (gv x i) L:=hx.get hL i
  haveI f2:aD (gv y i) N:=hy.get hN i
  haveI f3:aD (f * gv y i) (M + N + 1):=fitMul
  refine cU (cK (eU (ts (rm rfl (ra rfl (eJ (fV (m:=13) (dp 7 rfl (cX (Ht rfl)) (dp 0 rfl (cX (Ht rfl)) (dp 8 rfl (cX (Ht rfl)) (cH 15 1 16 2 rfl (dZ U_29 Z_51 (Ht rfl) (Ht rfl) rfl (eX (eQ (d:=Qi.zero) zo))) (dq 17 3 rfl (dJ A_51 Z_51 (Ht rfl)) (dp 4 rfl (eG A_51 Z_51 (Ht rfl) (i:=0) rfl rfl rfl) (dp 2 rfl (cX (Ht rfl)) (dp 8 rfl (cX (Ht rfl)) (cH 20 6 21 7 rfl (dZ U_29 Z_51 (Ht rfl) (Ht rfl) rfl (eX (eQ (d:=Qi.zero) zo))) ?_))))))))))))))))
  refine dq 22 8 rfl (dJ A_51 Z_51 (Ht rfl)) (cH 19 5 23 9 rfl (cZ K_45 (mF (x:=f) (y:=gv y i) (L:=M) (M:=N) zo) ⟨(Ht rfl),(Ht rfl),trivial⟩) (cH 18 4 24 10 rfl (cZ K_46 (xI (x:=gv x i) (y:=f * gv y i) (L:=L) (M:=M + N + 1) zo) ⟨(Ht rfl),(Ht rfl),trivial⟩) (dq 25 11 rfl (dA (xs:=[.tmp 25]) U_29 Z_51 O_51 (cW (Ht rfl) cG) rfl rfl rfl) (fG aM rfl (by kernel_rfl) (zF (zF (zF (aJ (aV ?_)))))))))
  refine oD (inf:=Tryz.t51) nG lE rfl rfl rfl (Ht rfl) (Ht rfl) (i:=1) rfl (by simp) (fun T hT=>by simp at hT; subst hT; exact El.ag rfl) (by show _ * 88 ≤ _; simp only [List.length_map,aT,List.length_cons,List.length_nil]; omega) (by simp only [List.length_map,aT,List.length_cons,List.length_nil]; omega) rfl (fun v2=>?_)
  refine ra rfl (eJ (aR (cY (ro rfl (dW (Ht rfl) (cJ 1) z6) (rm rfl (eJ (gQ (i + 1,v2) hin (by dsimp only; omega) (zS rfl) (aU (aB rfl) (aU (bT (by rw [qO,List.map_append]; rfl)) aY)))))))))
 ·have hin : i = n := by simp only [decide_eq_false_iff_not] at hd; omega
  rw [hin]
  refine gG rfl (gW (i:=1) (tt:=7) rfl rfl kN (ts (rm rfl (ra rfl (eJ (fK rfl (fJ (fQ rfl) ?_)))))))
  exact (oC (by rw [Wy,hxl]))
theorem Hq {G V:List (List Qi)} {vs:List Value} {n i L M B BV:Nat} (hG:eD G n n) (hV:eD V n n) (hvs:Za vs n) (hfG:bL G L) (hfV:bL V M) (hL:1 ≤ L) (hM:1 ≤ M) (hb:10 * L + 2 * M + 40 ≤ 8796093022208) (hi:i < n) (hn:n ≤ 32):fT Tryz.prog 234 [Is (.slice (some ⟨B,0,none⟩) n n),Is (.slice (some ⟨BV,0,none⟩) n n),NT .i64 i] [lF B 29 51 5 vs vs (bR aP G),bO 29 1 (.slice (some ⟨BV,0,none⟩) n n) (V.map cB)] (Unit) (fun _=>NlT 5 ((vF G V n i).map aP)) (fun _=>[lF B 29 51 5 vs vs (bR aP G),bO 29 1 (.slice (some ⟨BV,0,none⟩) n n) (V.map cB)]) (fun _=>True):=by
 have hGl:=hG.1
 have hvl:=hvs.len
 haveI h0:=wL
 have hVl:=hV.1
 refine fT.intro Tryz.func234 rfl Tryz.ntmps234 rfl (fun cx Z=>?_)
 haveI g0:aD (gm G i i) L:=hfG.get hL i i
 refine ts (ro rfl (cQ cV) (eJ (cK (ts (rm rfl (rm rfl (ro rfl (gX U_30 Z_29 (Ht rfl) (Ht rfl) rfl zo (by rw [Nat.mul_one,Nat.zero_add])) ?_)))))))
 refine ro rfl (gP A_29 Z_29 (Ht rfl) (j:=1) rfl zo) (rm rfl (ro rfl (gO U_29 Z_51 (Ht rfl) (Ht rfl) rfl (j:=1) rfl zo zo (by rw [hG.row zo]; omega)) ?_))
 refine ro rfl (jL A_51 Z_51 (Ht rfl) (j:=1) rfl zo zo (by rw [hG.row zo]; omega)) ?_
 refine ro rfl (cZ K_27 (qR (x:=gm G i i) (L:=L) zo) ⟨(Ht rfl),trivial⟩) (eJ (dQ (Ht rfl) (fun h0=>?_) (fun h0=>?_)))
 ·have hne : ¬ gm G i i = Qi.zero := by simpa using h0
  have hz:vF G V n i = []:=by rw [vF,if_neg (show ¬ gm G i i = 0 from hne)]
  refine ts (ro rfl (cQ cV) (eJ ?_))
  exact iT () trivial [0,1,2] ⟨⟨_,rfl,fun _ _ _ h=>h⟩,⟨_,rfl,fun _ _ _ h=>h⟩,⟨_,rfl,fun _ _ _ h=>h⟩,trivial⟩ (by decide) (pH rfl (fJ (fQ rfl) (fun v V h=>by rw [hz]; exact .inl ⟨rfl,h⟩)))
 ·have hze0 : gm G i i = Qi.zero := by simpa using h0
  have hze:gm G i i = 0:=hze0
  refine cU (cK (ts (rm rfl (ro rfl (dW (Ht rfl) (cJ 1) z6) (ra rfl (eJ (eU ?_)))))))
  refine bF (fun (k : Nat) => (i + 1 ≤ k ∧ k ≤ n) ∧ ∀ j, i + 1 ≤ j → j < k → gm G i j = Qi.zero) (fun (k : Nat) => n - k) (fun (k : Nat) => [(0, Is (.slice (some ⟨B, 0, none⟩) n n)), (1, Is (.slice (some ⟨BV, 0, none⟩) n n)), (2, NT .i64 i), (7, NT .i64 k)]) (fun (k : Nat) => [Z, lF B 29 51 5 vs vs (bR aP G), bO 29 1 (.slice (some ⟨BV, 0, none⟩) n n) (V.map cB)]) (i + 1) ⟨⟨Nat.le_refl _, hi⟩, fun j h1 h2 => by omega⟩
   (zS rfl) (cL.refl _) (fun k ⟨⟨hk1,hk2⟩,hz0⟩=>?_)
  refine cK (ts (rm rfl (rm rfl (ro rfl (fN U_30 (Ht rfl)) (ro rfl (gJ (Ht rfl) (Ht rfl)) (eJ (dQ (Ht rfl) (fun hc=>?_) (fun hc=>?_))))))))
  ·have hkn : k < n := by simp only [decide_eq_true_eq] at hc; omega
   haveI g1:aD (gm G i k) L:=hfG.get hL i k
   haveI g2:aD (gm G k k) L:=hfG.get hL k k
   have hri:=hG.row hi
   have hrk:=hG.row hkn
   refine cU (cK (eU (cK (ts (rm rfl (rm rfl (ro rfl (gX U_30 Z_29 (Ht rfl) (Ht rfl) rfl zo (by rw [Nat.mul_one,Nat.zero_add])) ?_)))))))
   refine ro rfl (gP A_29 Z_29 (Ht rfl) (j:=1) rfl zo) (rm rfl (ro rfl (gO U_29 Z_51 (Ht rfl) (Ht rfl) rfl (j:=1) rfl zo zo zo) (ro rfl (jL A_51 Z_51 (Ht rfl) (j:=1) rfl zo zo zo) (ro rfl (cZ K_27 (qR (x:=gm G i k) (L:=L) zo) ⟨(Ht rfl),trivial⟩) (ro rfl (dR (Ht rfl)) (eJ (dQ (Ht rfl) (fun hd=>?_) (fun hd=>?_))))))))
   ·have hik : gm G i k = Qi.zero := by simpa using hd
    refine gG rfl (cY (rm rfl (ro rfl (dW (Ht rfl) (cJ 1) z6) (ra rfl (eJ ?_)))))
    refine gQ (k + 1) ⟨⟨by omega, hkn⟩, fun j h1 h2 => by
      by_cases e:j = k
      ·rw [e]; exact hik
      ·exact hz0 j h1 zo⟩ zo (zS rfl) (cL.refl _)
   ·have hik : ¬ gm G i k = Qi.zero := by simpa using hd
    have hK:Na G n i = k:=By hk1 zo (fun j h1 h2=>by rw [show decide (gm G i j = 0) = true from decide_eq_true (hz0 j h1 h2)]; rfl) (fun _=>by rw [show decide (gm G i k = 0) = false from decide_eq_false hik]; rfl)
    have hw:vF G V n i = Uj G V i k:=by rw [vF,if_pos hze,hK,if_pos hkn]
    refine cU (ts (rm rfl (rm rfl (ro rfl (gX U_30 Z_29 (Ht rfl) (Ht rfl) rfl zo (by rw [Nat.mul_one,Nat.zero_add])) ?_))))
    refine ro rfl (gP A_29 Z_29 (Ht rfl) (j:=1) rfl zo) (rm rfl (ro rfl (gO U_29 Z_51 (Ht rfl) (Ht rfl) rfl (j:=1) rfl zo zo zo) (ro rfl (jL A_51 Z_51 (Ht rfl) (j:=1) rfl zo zo zo) (rn rfl (eK (Ts:=[Is (.bool false),Is (.slice none 0 0),Is (.bool false),Is (.slice none 0 0),Is (.slice none 0 0)]) O_51 rfl (fun V=>aW zd (aW zd (aW zd (aW zd (aW zd (aG))))))) fun B8=>?_))))
    refine gZ Z_51 (Ht rfl) (Ht rfl) rfl (i:=3) rfl (aK rfl) rfl rfl (eJ (cK (iY (fun (x:Qi)=>x = Gt (gm G k k)) (fun (x:Qi)=>[(0,Is (.slice (some ⟨B,0,none⟩) n n)),(1,Is (.slice (some ⟨BV,0,none⟩) n n)),(2,NT .i64 i),(7,NT .i64 k),(8,cC B8 0)]) (fun (x:Qi)=>[Z,lF B 29 51 5 vs vs (bR aP G),bO 29 1 (.slice (some ⟨BV,0,none⟩) n n) (V.map cB),box B8 51 [aC (decide (x.a < 0)),aE x.a.natAbs,aC (decide (x.b < 0)),aE x.b.natAbs,aE (du x)]]) ?_ (fun x hx=>?_))))
    ·refine ts (ro rfl (eG A_51 Z_51 (Ht rfl) (i := 3) rfl rfl rfl) (ro rfl (aI.imp (nM ) iQ) (ro rfl (cZ K_76 (zR (x := gm G k k) (y := Qi.zero) (L := L) (M := 1) (hy := aD.zero (Nat.le_refl 1)) zo) ⟨(Ht rfl), (Ht rfl), trivial⟩) (ro rfl (mK (Ht rfl) cV) (eJ (dQ (Ht rfl) (fun hn2 => ?_) (fun hn2 => ?_)))))))
     ·refine cY (ro rfl (eG A_51 Z_51 (Ht rfl) (i:=3) rfl rfl rfl) (ro rfl (cZ Tryz.call140 Jx ⟨(Ht rfl),trivial⟩) (gZ Z_51 (Ht rfl) (Ht rfl) rfl (i:=3) rfl (aK rfl) rfl rfl (eJ (aO (-(gm G k k)) (by rw [Gt,Ak,if_pos hn2]) (zS rfl) (cL.refl _))))))
     ·refine cU (aO (gm G k k) (by rw [Gt,Ak,hn2]; rfl) (zS rfl) (cL.refl _))
    ·haveI g3 : aD x L := by
      rw [hx]; unfold Gt; split
      ·exact fitNeg
      ·exact g2
     haveI g4:aD (gm G i k).norm (L + L + 1):=fitNorm
     have hnz:(gm G i k).norm + (gm G i k).norm ≠ 0:=yF hik
     haveI g5:aD ((gm G i k).norm + (gm G i k).norm) (L + L + 1 + (L + L + 1) + 1):=fitAdd (L:=L + L + 1) (M:=L + L + 1)
     haveI g6:aD (x + Qi.ofInt 1) (L + 1 + 1):=fitAdd (L:=L) (M:=1)
     haveI g7:aD (qW G i k) (L + 1 + 1 + 3 * (L + L + 1 + (L + L + 1) + 1) + 2):=by rw [qW,← hx]; exact nS g6 g5 hnz
     refine cK (Y.D_start (m:=26) [] (bY (Ei:=[(8,_)]) rfl rfl (bQ (bJ rfl rfl) bX) rfl rfl (dX rfl (eG A_51 Z_51 (Ht rfl) (i:=3) rfl rfl rfl)) (bY (Ei:=[]) rfl rfl bX rfl rfl (dX rfl (cZ K_77 (pR (n:=1) (by decide) (by decide)) ⟨(cJ 1),trivial⟩)) (bY (Ei:=[(50,_),(51,_)]) rfl rfl (bQ (bZ 0 rfl rfl) (bQ (bZ 1 rfl rfl) bX)) rfl rfl (dX rfl (cZ K_46 (xI (x:=x) (y:=Qi.ofInt 1) (L:=L) (M:=1) zo) ⟨(Ht rfl),(Ht rfl),trivial⟩)) ?_))))
     refine bY (Ei:=[(0,_)]) rfl rfl (bQ (bJ rfl rfl) bX) rfl rfl (dX rfl (cX (Ht rfl))) (bY (Ei:=[(2,_)]) rfl rfl (bQ (bJ rfl rfl) bX) rfl rfl (dX rfl (cX (Ht rfl))) (bY (Ei:=[(53,_),(54,_)]) rfl rfl (bQ (bZ 3 rfl rfl) (bQ (bZ 4 rfl rfl) bX)) rfl rfl (dX rfl (gX U_30 Z_29 (Ht rfl) (Ht rfl) rfl zo (by rw [Nat.mul_one,Nat.zero_add]))) ?_))
     refine bY (Ei:=[(55,_)]) rfl rfl (bQ (bZ 5 rfl rfl) bX) rfl rfl (dX rfl (gP A_29 Z_29 (Ht rfl) (j:=1) rfl zo)) (bY (Ei:=[(7,_)]) rfl rfl (bQ (bJ rfl rfl) bX) rfl rfl (dX rfl (cX (Ht rfl))) (bY (Ei:=[(56,_),(57,_)]) rfl rfl (bQ (bZ 6 rfl rfl) (bQ (bZ 7 rfl rfl) bX)) rfl rfl (dX rfl (gO U_29 Z_51 (Ht rfl) (Ht rfl) rfl (j:=1) rfl zo zo zo)) (bY (Ei:=[(58,_)]) rfl rfl (bQ (bZ 8 rfl rfl) bX) rfl rfl (dX rfl (jL A_51 Z_51 (Ht rfl) (j:=1) rfl zo zo zo)) ?_)))
     refine bY (Ei:=[(59,_)]) rfl rfl (bQ (bZ 9 rfl rfl) bX) rfl rfl (dX rfl (cZ Tryz.call168 (Pt (x:=gm G i k) (L:=L) zo) ⟨(Ht rfl),trivial⟩)) (bY (Ei:=[(0,_)]) rfl rfl (bQ (bJ rfl rfl) bX) rfl rfl (dX rfl (cX (Ht rfl))) (bY (Ei:=[(2,_)]) rfl rfl (bQ (bJ rfl rfl) bX) rfl rfl (dX rfl (cX (Ht rfl))) (bY (Ei:=[(61,_),(62,_)]) rfl rfl (bQ (bZ 11 rfl rfl) (bQ (bZ 12 rfl rfl) bX)) rfl rfl (dX rfl (gX U_30 Z_29 (Ht rfl) (Ht rfl) rfl zo (by rw [Nat.mul_one,Nat.zero_add]))) ?_)))
     refine bY (Ei:=[(63,_)]) rfl rfl (bQ (bZ 13 rfl rfl) bX) rfl rfl (dX rfl (gP A_29 Z_29 (Ht rfl) (j:=1) rfl zo)) (bY (Ei:=[(7,_)]) rfl rfl (bQ (bJ rfl rfl) bX) rfl rfl (dX rfl (cX (Ht rfl))) (bY (Ei:=[(64,_),(65,_)]) rfl rfl (bQ (bZ 14 rfl rfl) (bQ (bZ 15 rfl rfl) bX)) rfl rfl (dX rfl (gO U_29 Z_51 (Ht rfl) (Ht rfl) rfl (j:=1) rfl zo zo zo)) (bY (Ei:=[(66,_)]) rfl rfl (bQ (bZ 16 rfl rfl) bX) rfl rfl (dX rfl (jL A_51 Z_51 (Ht rfl) (j:=1) rfl zo zo zo)) ?_)))
     refine bY (Ei:=[(67,_)]) rfl rfl (bQ (bZ 17 rfl rfl) bX) rfl rfl (dX rfl (cZ Tryz.call168 (Pt (x:=gm G i k) (L:=L) zo) ⟨(Ht rfl),trivial⟩)) (bY (Ei:=[(60,_),(68,_)]) rfl rfl (bQ (bZ 10 rfl rfl) (bQ (bZ 18 rfl rfl) bX)) rfl rfl (dX rfl (cZ K_46 (xI (x:=(gm G i k).norm) (y:=(gm G i k).norm) (L:=L + L + 1) (M:=L + L + 1) zo) ⟨(Ht rfl),(Ht rfl),trivial⟩)) (bY (Ei:=[(52,_),(69,_)]) rfl rfl (bQ (bZ 2 rfl rfl) (bQ (bZ 19 rfl rfl) bX)) rfl rfl (dX rfl (cZ Tryz.call40 (eZ (Jw (x:=x + Qi.ofInt 1) (y:=(gm G i k).norm + (gm G i k).norm) (L:=L + 1 + 1) (M:=L + L + 1 + (L + L + 1) + 1) zo) (by rw [hx]; exact fun _ _ k=>k)) ⟨(Ht rfl),(Ht rfl),trivial⟩)) ?_))
     refine bY (Ei:=[(70,_)]) rfl rfl (bQ (bZ 20 rfl rfl) bX) rfl rfl (dX rfl (cX (Ht rfl))) (bY (Ei:=[(49,_)]) rfl rfl (bQ (bZ 21 rfl rfl) bX) rfl rfl (dX rfl (dY (Ht rfl) rfl)) (bY (Ei:=[(49,_)]) rfl rfl (bQ (bZ 21 rfl rfl) bX) rfl rfl (dX rfl (dY (Ht rfl) rfl)) (Y.D_newp (Ei:=[]) (fun bb=>box bb 51 [aC (decide ((qW G i k).a < 0)),aE (qW G i k).a.natAbs,aC (decide ((qW G i k).b < 0)),aE (qW G i k).b.natAbs,aE (du (qW G i k))]) 25 rfl rfl rfl bX rfl rfl (by kernel_rfl) (eK (Ts:=[Is (.bool false),Is (.slice none 0 0),Is (.bool false),Is (.slice none 0 0),Is (.slice none 0 0)]) O_51 rfl (fun V=>aW zd (aW zd (aW zd (aW zd (aW zd (aG))))))) ?_)))
     refine Y.D_putN (Ei:=[(71,_)]) 24 rfl rfl rfl rfl rfl rfl (bQ (bZ 22 rfl rfl) bX) (fun bb=>mX Z_51 (Ht rfl) (Ht rfl) rfl (i:=0) rfl (aK rfl) rfl rfl) (Y.D_done aM rfl (by kernel_rfl) rfl (by simp [Y.okP]) rfl rfl (bU (bU (bU (bU (bU (bU (bU (bU (bU (bU (bU (bU (bU (bU (bU (bU (bU (bU (bU (bU (bU (bU (bU (bU (Y.F_newp (fun B9=>Y.F_putN (Y.F_nil ?_))))))))))))))))))))))))))))
     refine ra rfl (eJ (cK ?_))
     haveI g8:aD (-(qW G i k)) (L + 1 + 1 + 3 * (L + L + 1 + (L + L + 1) + 1) + 2):=fitNeg
     haveI g9:aD (-(qW G i k) * gm G i k) (L + 1 + 1 + 3 * (L + L + 1 + (L + L + 1) + 1) + 2 + L + 1):=fitMul
     refine fV (m:=18) (dp 1 rfl (cX (Ht rfl)) (dp 7 rfl (cX (Ht rfl)) (cH 73 0 74 1 rfl (dM U_30 Z_29 (Ht rfl) (Ht rfl) rfl (i:=2) rfl (by rw [List.length_map]; omega) rfl) ?_)))
     refine dq 75 2 rfl (lR A_29 Z_29 (Ht rfl) (i:=2) rfl rfl (eX (eQ (d:=[]) zo))) (dp 9 rfl (eG A_51 Z_51 (Ht rfl) (i:=4) rfl rfl rfl) (dq 77 4 rfl (cZ Tryz.call140 Jx ⟨(Ht rfl),trivial⟩) (dp 0 rfl (cX (Ht rfl)) (dp 2 rfl (cX (Ht rfl)) (cH 79 6 80 7 rfl (gX U_30 Z_29 (Ht rfl) (Ht rfl) rfl zo (by rw [Nat.mul_one,Nat.zero_add])) ?_)))))
     refine dq 81 8 rfl (gP A_29 Z_29 (Ht rfl) (j:=1) rfl zo) (dp 7 rfl (cX (Ht rfl)) (cH 82 9 83 10 rfl (gO U_29 Z_51 (Ht rfl) (Ht rfl) rfl (j:=1) rfl zo zo zo) (dq 84 11 rfl (jL A_51 Z_51 (Ht rfl) (j:=1) rfl zo zo zo) (cH 78 5 85 12 rfl (cZ K_45 (mF (x:=-(qW G i k)) (y:=gm G i k) (L:=L + 1 + 1 + 3 * (L + L + 1 + (L + L + 1) + 1) + 2) (M:=L) zo) ⟨(Ht rfl),(Ht rfl),trivial⟩) (dp 1 rfl (cX (Ht rfl)) (dp 2 rfl (cX (Ht rfl)) ?_))))))
     refine cH 87 14 88 15 rfl (dM U_30 Z_29 (Ht rfl) (Ht rfl) rfl (i:=2) rfl (by rw [List.length_map]; omega) rfl) ?_
     refine dq 89 16 rfl (lR A_29 Z_29 (Ht rfl) (i:=2) rfl rfl (eX (eQ (d:=[]) zo))) (fG aM rfl (by kernel_rfl) (zF (zF (zF (zF (aJ (aJ (aV (ro rfl (cZ Tryz.call235 (Kc (x:=V.getD k []) (f:=-(qW G i k) * gm G i k) (y:=V.getD i []) (n:=n) (L:=M) (N:=M) (hfV.row k) g9 (hfV.row i) hM hM zo (hV.row hkn) (hV.row hi) zo) ⟨(Ht rfl),(Ht rfl),(Ht rfl),trivial⟩) ?_)))))))))
     refine ra rfl (eJ ?_)
     exact iT () trivial [0,1,2] ⟨⟨_,rfl,fun _ _ _ h=>h⟩,⟨_,rfl,fun _ _ _ h=>h⟩,⟨_,rfl,fun _ _ _ h=>h⟩,trivial⟩ (by decide) (pH rfl (fJ (fQ rfl) (fun v V h=>by rw [hw]; exact .inr ⟨a0y (by rw [hV.row hkn]; omega),h⟩)))
  ·have hkn : k = n := by simp only [decide_eq_false_iff_not] at hc; omega
   have hK:Na G n i = n:=By zo zo (fun j h1 h2=>by rw [show decide (gm G i j = 0) = true from decide_eq_true (hz0 j h1 zo)]; rfl) (fun h=>by omega)
   have hw:vF G V n i = []:=by rw [vF,if_pos hze,hK,if_neg zo]
   refine gG rfl (ts (ro rfl (cQ cV) (eJ ?_)))
   exact iT () trivial [0,1,2] ⟨⟨_,rfl,fun _ _ _ h=>h⟩,⟨_,rfl,fun _ _ _ h=>h⟩,⟨_,rfl,fun _ _ _ h=>h⟩,trivial⟩ (by decide) (pH rfl (fJ (fQ rfl) (fun v V h=>by rw [hw]; exact .inl ⟨rfl,h⟩)))
end
section
open Go Go.RowKit
theorem Hi {h:List (List Qi)} {n L G0 V0:Nat} (hs:eD h n n) (hf:bL h L) (hL:1 ≤ L) (hLb:L ≤ 4000000000000) (hz:iV h n = true → SzD h n G0 V0) (hn:n ≤ 32):aS Tryz.prog 163 [bS h] (gE [aC (zI h n),cB (Bt h n),bC .i64 (Rd h n)]):=by
 have hsl:=hs.1
 haveI h0:=wL
 refine aS.intro Tryz.func163 rfl Tryz.ntmps163 rfl (fun cx=>(ts (ro rfl (cQ cV) (ro rfl (cQ cV) (ro rfl (cQ (cJ 0)) (eJ (cK (ts (rm rfl (ro rfl (cZ Tryz.call174 (zY hs hn) ⟨(Ht rfl),trivial⟩) (ro rfl (dR (Ht rfl)) (eJ (jZ (Ht rfl) (by rfl) ?_)))))))))))))
 refine cU (cK (ts (rm rfl (ro rfl (dU U_30 (Ht rfl) (by rw [List.length_map,hsl])) ?_))))
 refine ro rfl (cX (cJ 0)) (eJ (eU ?_))
 refine bF (fun (i : Nat) => i ≤ n ∧ ∀ a, a < i → ∀ b, b < n → gm h a b = (gm h b a).conj) (fun (i : Nat) => n - i) (fun (i : Nat) => [(0, bS h), (19, bS h), (20, NT .i64 n), (21, NT .i64 i)]) (fun (i : Nat) => []) 0 ⟨Nat.zero_le _, fun a h => by omega⟩
  (zS rfl) aY (fun i ⟨hi,hh⟩=>?_)
 refine ts (ro rfl (gJ (Ht rfl) (Ht rfl)) (eJ (cK (dQ (Ht rfl) (fun hc=>?_) (fun hc=>?_)))))
 ·have hin : i < n := by simp only [decide_eq_true_eq] at hc; omega
  have hri:=hs.row hin
  refine cU (cK (eU (ts (rm rfl (ro rfl (dZ U_30 Z_29 (Ht rfl) (Ht rfl) rfl (eX (eQ (d:=[]) zo))) (ro rfl (dJ A_29 Z_29 (Ht rfl)) (ra rfl (ra rfl (eJ (ts (rm rfl (ro rfl (dU U_29 (Ht rfl) (by rw [List.length_map,hri])) ?_))))))))))))
  refine ro rfl (cX (cJ 0)) (eJ (eU ?_))
  refine bF (fun (k : Nat) => k ≤ n ∧ ∀ b, b < k → gm h i b = (gm h b i).conj) (fun (k : Nat) => n - k) (fun (k : Nat) => [(0, bS h), (5, NT .i64 i), (6, cB (h.getD i [])), (19, bS h), (20, NT .i64 n), (21, NT .i64 i), (27, NT .i64 n), (28, NT .i64 k)]) (fun (k : Nat) => []) 0 ⟨Nat.zero_le _, fun b h => by omega⟩
   (zS rfl) aY (fun k ⟨hk,hk0⟩=>?_)
  refine ts (ro rfl (gJ (Ht rfl) (Ht rfl)) (eJ (cK (dQ (Ht rfl) (fun hd=>?_) (fun hd=>?_)))))
  ·have hkn : k < n := by simp only [decide_eq_true_eq] at hd; omega
   have hrk:=hs.row hkn
   haveI f1:aD (gm h i k) L:=hf.get hL i k
   haveI f2:aD (gm h k i) L:=hf.get hL k i
   haveI f3:aD (gm h k i).conj L:=fitConj
   refine cU (cK (eU (ts (rm rfl (ra rfl (eJ (cK (fV (m:=12) (dp 6 rfl (cX (Ht rfl)) (dp 7 rfl (cX (Ht rfl)) (cH 31 0 32 1 rfl (dZ U_29 Z_51 (Ht rfl) (Ht rfl) rfl (eX (eQ (d:=Qi.zero) zo))) (dq 33 2 rfl (dJ A_51 Z_51 (Ht rfl)) (dp 0 rfl (cX (Ht rfl)) (dp 7 rfl (cX (Ht rfl)) (cH 35 4 36 5 rfl (dZ U_30 Z_29 (Ht rfl) (Ht rfl) rfl (eX (eQ (d:=[]) zo))) (dq 37 6 rfl (dJ A_29 Z_29 (Ht rfl)) (dp 5 rfl (cX (Ht rfl)) ?_)))))))))))))))))
   refine cH 38 7 39 8 rfl (dZ U_29 Z_51 (Ht rfl) (Ht rfl) rfl (eX (eQ (d:=Qi.zero) zo))) (dq 40 9 rfl (dJ A_51 Z_51 (Ht rfl)) (dq 41 10 rfl (cZ Tryz.call175 xJ ⟨(Ht rfl),trivial⟩) (fG aM rfl (by kernel_rfl) (zF (zF (zF (aV (ro rfl (cZ Tryz.call139 (Px (x:=gm h i k) (y:=(gm h k i).conj) (L:=L) (M:=L) zo zo) ⟨(Ht rfl),(Ht rfl),trivial⟩) (ro rfl (dR (Ht rfl)) ?_)))))))))
   refine eJ (dQ (Ht rfl) (fun he=>?_) (fun he=>?_))
   ·have hne : ¬ gm h i k = (gm h k i).conj := by simpa using he
    have hf0:¬ iV h n = true:=fun e=>hne (of_decide_eq_true e i hin k hkn)
    refine ts (ro rfl (cQ cV) (ro rfl (cQ cV) (ro rfl (cQ (cJ 1)) (eJ (xF rfl (fJ (fQ rfl) ?_) (fJ (fQ rfl) ?_) (fJ (fQ rfl) ?_))))))
    ·exact (bI (by rw [zI,if_neg hf0]))
    ·exact (fun v V k=>by rw [Bt,if_neg hf0]; exact iX v V k)
    ·exact (bB (by rw [Rd,if_neg hf0]; rfl))
   ·have heq : gm h i k = (gm h k i).conj := by simpa using he
    refine cU (aR (cY (ro rfl (dW (Ht rfl) (cJ 1) z6) (rm rfl (eJ ?_)))))
    refine gQ (k + 1) ⟨hkn, fun b h1 => by
      by_cases e:b = k
      ·rw [e]; exact heq
      ·exact hk0 b zo⟩ zo (zS rfl) aY
  ·have hkn : k = n := by simp only [decide_eq_false_iff_not] at hd; omega
   refine gG rfl (aR (cY (ro rfl (dW (Ht rfl) (cJ 1) z6) (rm rfl (eJ ?_)))))
   refine gQ (i + 1) ⟨hin, fun a h1 b h2 => by
     by_cases e:a = i
     ·rw [e]; exact hk0 b zo
     ·exact hh a zo b h2⟩ zo (zS rfl) aY
 ·have hin : i = n := by simp only [decide_eq_false_iff_not] at hc; omega
  have hh0:iV h n = true:=decide_eq_true (fun a h1 b h2=>hh a zo b h2)
  have hz:=hz hh0
  have hg1:=hz.g1
  have hv1:=hz.v1
  have hzb:=hz.b
  clear hin hi hh hc
  refine gG rfl (ts (rm rfl (lW Tryz.call193 (Mq hs zo zo) ⟨(Ht rfl),cV,trivial⟩ rfl (fun B48 _=>(rm rfl (ro rfl (dU U_30 (Ht rfl) (by rw [List.length_map,hsl])) ?_))))))
  refine lW Tryz.call94 (a1i (n:=n) hn) ⟨(Ht rfl),trivial⟩ rfl (fun B51 _=>(ra rfl (ra rfl (eJ (cK (ts (rm rfl (ro rfl (fN U_30 (Ht rfl)) (ro rfl (cX (cJ 0)) (eJ (eU (Gz 1 (m:=n) (Us:=(Kz n).map cB) rfl (Nat.le_trans hn (by decide)) (by rw [bR,List.length_map,(La n).1]) (by rw [bR,List.map_map]; rfl) ?_))))))))))))
  refine Jj 0 rfl (fun vs hvs=>?_)
  have hvs2:Za vs n:=by have h:=hvs; rw [bR,List.length_map,hsl] at h; exact h
  refine bF (fun (i : Nat) => i ≤ n ∧ tN h n (n - i) i = tN h n n 0) (fun (i : Nat) => n - i) (fun (i : Nat) => [(8, Is (.slice (some ⟨B48, 0, none⟩) n n)), (9, Is (.slice (some ⟨B51, 0, none⟩) n n)), (53, NT .i64 n), (54, NT .i64 i)]) (fun (i : Nat) => [lF B48 29 51 5 vs vs (bR aP (gN h n i).1), bO 29 1 (.slice (some ⟨B51, 0, none⟩) n n) ((gN h n i).2.map cB)]) 0 ⟨Nat.zero_le _, rfl⟩
   (zS rfl) (cL.refl _) (fun i ⟨hi,hR⟩=>?_)
  refine ts (ro rfl (gJ (Ht rfl) (Ht rfl)) (eJ (cK (dQ (Ht rfl) (fun hc=>?_) (fun hc=>?_)))))
  ·have hin : i < n := by simp only [decide_eq_true_eq] at hc; omega
   have hvl:=hvs2.len
   obtain ⟨hGs,hVs⟩:=qY hs i hi
   have hGf:=hz.g i hi
   have hVf:=hz.v i hi
   have r1:=Kn (h:=h) hin
   have r2:=Kl (h:=h) hin
   have r3:=Qx (h:=h) hin
   have r4:=pY (h:=h) (n:=n) (i:=i)
   have r5:=xP (h:=h) (n:=n) (i:=i)
   rw [hR] at r1 r2 r3
   obtain ⟨S,hS⟩:∃ S,S = gN h n (i + 1):=⟨_,rfl⟩
   rw [← hS] at r4 r5
   obtain ⟨D,hD⟩:∃ D,D = gN h n i:=⟨_,rfl⟩
   rw [← hD] at hGs hVs hGf hVf r1 r2 r3 r4 r5 ⊢
   obtain ⟨X,U⟩:=D
   dsimp only at hGs hVs hGf hVf r1 r2 r3 r4 r5 ⊢
   have hXl:=hGs.1
   have hUl:=hVs.1
   have hri:=hGs.row hin
   haveI g1:aD (gm X i i) G0:=hGf.get hg1 i i
   refine cU (cK (eU (ts (rm rfl (ra rfl (eJ (cK (ts (rm rfl (rm rfl (ro rfl (gX U_30 Z_29 (Ht rfl) (Ht rfl) rfl zo (by rw [Nat.mul_one,Nat.zero_add])) ?_)))))))))))
   refine ro rfl (gP A_29 Z_29 (Ht rfl) (j:=0) rfl zo) (rm rfl (ro rfl (gO U_29 Z_51 (Ht rfl) (Ht rfl) rfl (j:=0) rfl zo zo zo) (ro rfl (jL A_51 Z_51 (Ht rfl) (j:=0) rfl zo zo zo) (ro rfl (aI.imp (nM ) iQ) (ro rfl (cZ K_76 (zR (x:=gm X i i) (y:=Qi.zero) (L:=G0) (M:=1) (hy:=aD.zero (Nat.le_refl 1)) zo) ⟨(Ht rfl),(Ht rfl),trivial⟩) (ro rfl (mK (Ht rfl) cV) (eJ (dQ (Ht rfl) (fun hng=>?_) (fun hng=>?_)))))))))
   ·have hq := r1 hng
    refine cK (fV (m:=5) (dp 9 rfl (cX (Ht rfl)) (dp 10 rfl (cX (Ht rfl)) (cH 67 0 68 1 rfl (dM U_30 Z_29 (Ht rfl) (Ht rfl) rfl (i:=1) rfl (by rw [List.length_map]; omega) rfl) ?_))))
    refine dq 69 2 rfl (lR A_29 Z_29 (Ht rfl) (i:=1) rfl rfl (eX (eQ (d:=[]) zo))) (d0 rfl (cQ cV) (fG aM rfl (by kernel_rfl) (zF (aJ (aV (ra rfl (ro rfl (cQ (cJ 0)) (eJ (xF rfl (fJ (fQ rfl) ?_) (fJ (fQ rfl) ?_) (fJ (fQ rfl) ?_))))))))))
    ·exact (bI (by rw [zI,if_pos hh0,hq]))
    ·exact (oC (by rw [Bt,if_pos hh0,hq]))
    ·exact (bB (by rw [Rd,if_pos hh0]; rfl))
   ·have hng2 : Ak (gm X i i) ≠ true := by rw [Ak, hng]; simp
    refine cU (cK (ts (rm rfl (rm rfl (rm rfl (Up Tryz.call234 (Hq (i:=i) (L:=G0) (M:=V0) hGs hVs hvs2 hGf hVf hg1 hv1 zo hin hn) (i:=0) (j:=1) rfl rfl (by decide) ⟨(Ht rfl),(Ht rfl),(Ht rfl),trivial⟩ rfl (fun uu _=>(ra rfl (eJ (ts (rm rfl (ro rfl (Ns (q:=decide (vF X U n i ≠ [])) (by simp) U_29 (Ht rfl)) ?_))))))))))))
    refine eJ (dQ (Ht rfl) (fun hw=>?_) (fun hw=>?_))
    ·have hw2 : vF X U n i ≠ [] := by simpa using hw
     have hq:=r2 hng2 hw2
     refine ts (rm rfl (ro rfl (cQ cV) (ra rfl (ro rfl (cQ (cJ 0)) (eJ (xF rfl (fJ (fQ rfl) ?_) (fJ (fQ rfl) ?_) (fJ (fQ rfl) ?_)))))))
     ·exact (bI (by rw [zI,if_pos hh0,hq]))
     ·exact (fun v V k=>by rw [Bt,if_pos hh0,hq]; exact k.elim (fun k=>absurd k.1 (by simpa using hw2)) (fun k=>k.2))
     ·exact (bB (by rw [Rd,if_pos hh0]; rfl))
    ·have hw2 : vF X U n i = [] := by simpa using hw
     have hq:=r3 hng2 hw2
     refine cU (cK (ts (rm rfl (rm rfl (ro rfl (gX U_30 Z_29 (Ht rfl) (Ht rfl) rfl zo (by rw [Nat.mul_one,Nat.zero_add])) ?_)))))
     refine ro rfl (gP A_29 Z_29 (Ht rfl) (j:=0) rfl zo) (rm rfl (ro rfl (gO U_29 Z_51 (Ht rfl) (Ht rfl) rfl (j:=0) rfl zo zo zo) (ro rfl (jL A_51 Z_51 (Ht rfl) (j:=0) rfl zo zo zo) (ro rfl (cZ K_27 (qR (x:=gm X i i) (L:=G0) zo) ⟨(Ht rfl),trivial⟩) (ro rfl (dR (Ht rfl)) (eJ (dQ (Ht rfl) (fun hcl=>?_) (fun hcl=>?_))))))))
     ·have hx0 : gm X i i = Qi.zero := by simpa using hcl
      have e4:=r4 hx0
      refine gG rfl (cY (ro rfl (dW (Ht rfl) (cJ 1) z6) (rm rfl (eJ (gQ (i + 1) ⟨hin,hq.symm⟩ zo (zS rfl) (aU (lY (by rw [← hS,e4])) (aU (bT (by rw [← hS,e4])) aY)))))))
     ·have hx0 : ¬ gm X i i = Qi.zero := by simpa using hcl
      have e5:=r5 hx0
      refine cU (ts (rm rfl (ro rfl (dW (Ht rfl) (cJ 1) z6) (ra rfl (eJ (eU ?_))))))
      refine bF (fun (k : Nat) => i + 1 ≤ k ∧ k ≤ n) (fun (k : Nat) => n - k) (fun (k : Nat) => [(8, Is (.slice (some ⟨B48, 0, none⟩) n n)), (9, Is (.slice (some ⟨B51, 0, none⟩) n n)), (10, NT .i64 i), (12, NT .i64 k), (53, NT .i64 n), (54, NT .i64 i)]) (fun (k : Nat) => [lF B48 29 51 5 vs vs (bR aP (tP X n i k 0)), bO 29 1 (.slice (some ⟨B51, 0, none⟩) n n) ((nJ X U n i k).map cB)]) (i + 1) ⟨Nat.le_refl _, hin⟩
       (zS rfl) (aU (lY (by rw [Nd hGs])) (aU (bT (by rw [Ib hUl])) aY)) (fun k ⟨hk1,hk2⟩=>?_)
      refine cK (ts (rm rfl (rm rfl (ro rfl (fN U_30 (Ht rfl)) (ro rfl (gJ (Ht rfl) (Ht rfl)) (eJ (dQ (Ht rfl) (fun hd=>?_) (fun hd=>?_))))))))
      ·have hkn : k < n := by simp only [decide_eq_true_eq] at hd; omega
       have hYs:=oV X n i k 0
       obtain ⟨Yk,hY⟩:∃ Yk,Yk = tP X n i k 0:=⟨_,rfl⟩
       have y1:gm Yk i k = gm X i k:=by rw [hY]; exact Bs hin hkn zo
       have y2:gm Yk i i = gm X i i:=by rw [hY]; exact Bs hin hin zo
       rw [← hY] at hYs ⊢
       have hYl:=hYs.1
       have hYi:=hYs.row hin
       haveI g2:aD (gm X i k) G0:=hGf.get hg1 i k
       haveI g3:aD (gm Yk i k) G0:=by rw [y1]; exact g2
       haveI g4:aD (gm Yk i i) G0:=by rw [y2]; exact g1
       have g5:aD (gm X i k / gm X i i) (G0 + 3 * G0 + 2):=nS g2 g1 hx0
       obtain ⟨Q,hQ⟩:∃ Q,Q = nJ X U n i k:=⟨_,rfl⟩
       have q1:Q.getD k [] = U.getD k []:=by rw [hQ]; exact Eh hkn zo
       have q2:Q.getD i [] = U.getD i []:=by rw [hQ]; exact Eh hin zo
       have hQl:Q.length = n:=by rw [hQ]; exact aT _ _
       have q3:dN (Q.getD k []) V0:=by rw [q1]; exact hVf.row k
       have q4:dN (Q.getD i []) V0:=by rw [q2]; exact hVf.row i
       have q5:(Q.getD k []).length = n:=by rw [q1]; exact hVs.row hkn
       have q6:(Q.getD i []).length = n:=by rw [q2]; exact hVs.row hin
       rw [← hQ]
       obtain ⟨F,hF⟩:∃ F,F = gm X i k / gm X i i:=⟨_,rfl⟩
       rw [← hF] at g5
       haveI g6:aD F (G0 + 3 * G0 + 2):=g5
       have g7:aD (-F) (G0 + 3 * G0 + 2):=fitNeg
       have hfd:gm Yk i k / gm Yk i i = F:=by rw [y1,y2,hF]
       refine cU (cK (eU (cK (Y.D_start (m:=20) [] (bY (Ei:=[(8,_)]) rfl rfl (bQ (bJ rfl rfl) bX) rfl rfl (dX rfl (cX (Ht rfl))) (bY (Ei:=[(10,_)]) rfl rfl (bQ (bJ rfl rfl) bX) rfl rfl (dX rfl (cX (Ht rfl))) (bY (Ei:=[(96,_),(97,_)]) rfl rfl (bQ (bZ 0 rfl rfl) (bQ (bZ 1 rfl rfl) bX)) rfl rfl (dX rfl (gX U_30 Z_29 (Ht rfl) (Ht rfl) rfl zo (by rw [Nat.mul_one,Nat.zero_add]))) ?_)))))))
       refine bY (Ei:=[(98,_)]) rfl rfl (bQ (bZ 2 rfl rfl) bX) rfl rfl (dX rfl (gP A_29 Z_29 (Ht rfl) (j:=0) rfl zo)) (bY (Ei:=[(12,_)]) rfl rfl (bQ (bJ rfl rfl) bX) rfl rfl (dX rfl (cX (Ht rfl))) (bY (Ei:=[(99,_),(100,_)]) rfl rfl (bQ (bZ 3 rfl rfl) (bQ (bZ 4 rfl rfl) bX)) rfl rfl (dX rfl (gO U_29 Z_51 (Ht rfl) (Ht rfl) rfl (j:=0) rfl zo zo zo)) (bY (Ei:=[(101,_)]) rfl rfl (bQ (bZ 5 rfl rfl) bX) rfl rfl (dX rfl (jL A_51 Z_51 (Ht rfl) (j:=0) rfl zo zo zo)) ?_)))
       refine bY (Ei:=[(8,_)]) rfl rfl (bQ (bJ rfl rfl) bX) rfl rfl (dX rfl (cX (Ht rfl))) (bY (Ei:=[(10,_)]) rfl rfl (bQ (bJ rfl rfl) bX) rfl rfl (dX rfl (cX (Ht rfl))) (bY (Ei:=[(103,_),(104,_)]) rfl rfl (bQ (bZ 7 rfl rfl) (bQ (bZ 8 rfl rfl) bX)) rfl rfl (dX rfl (gX U_30 Z_29 (Ht rfl) (Ht rfl) rfl zo (by rw [Nat.mul_one,Nat.zero_add]))) ?_))
       refine bY (Ei:=[(105,_)]) rfl rfl (bQ (bZ 9 rfl rfl) bX) rfl rfl (dX rfl (gP A_29 Z_29 (Ht rfl) (j:=0) rfl zo)) (bY (Ei:=[(10,_)]) rfl rfl (bQ (bJ rfl rfl) bX) rfl rfl (dX rfl (cX (Ht rfl))) (bY (Ei:=[(106,_),(107,_)]) rfl rfl (bQ (bZ 10 rfl rfl) (bQ (bZ 11 rfl rfl) bX)) rfl rfl (dX rfl (gO U_29 Z_51 (Ht rfl) (Ht rfl) rfl (j:=0) rfl zo zo zo)) (bY (Ei:=[(108,_)]) rfl rfl (bQ (bZ 12 rfl rfl) bX) rfl rfl (dX rfl (jL A_51 Z_51 (Ht rfl) (j:=0) rfl zo zo zo)) ?_)))
       refine bY (Ei:=[(102,_),(109,_)]) rfl rfl (bQ (bZ 6 rfl rfl) (bQ (bZ 13 rfl rfl) bX)) rfl rfl (dX rfl (cZ Tryz.call40 (eZ (Jw (x:=gm Yk i k) (y:=gm Yk i i) (L:=G0) (M:=G0) zo) (by rw [hfd]; exact fun _ _ k=>k)) ⟨(Ht rfl),(Ht rfl),trivial⟩)) ?_
       refine bY (Ei:=[(110,_)]) rfl rfl (bQ (bZ 14 rfl rfl) bX) rfl rfl (dX rfl (cX (Ht rfl))) (bY (Ei:=[(95,_)]) rfl rfl (bQ (bZ 15 rfl rfl) bX) rfl rfl (dX rfl (dY (Ht rfl) rfl)) (bY (Ei:=[(95,_)]) rfl rfl (bQ (bZ 15 rfl rfl) bX) rfl rfl (dX rfl (dY (Ht rfl) rfl)) (Y.D_newp (Ei:=[]) (fun bb=>box bb 51 [aC (decide (F.a < 0)),aE F.a.natAbs,aC (decide (F.b < 0)),aE F.b.natAbs,aE (du F)]) 19 rfl rfl rfl bX rfl rfl (by kernel_rfl) (eK (Ts:=[Is (.bool false),Is (.slice none 0 0),Is (.bool false),Is (.slice none 0 0),Is (.slice none 0 0)]) O_51 rfl (fun V=>aW zd (aW zd (aW zd (aW zd (aW zd (aG))))))) ?_)))
       refine Y.D_putN (Ei:=[(111,_)]) 18 rfl rfl rfl rfl rfl rfl (bQ (bZ 16 rfl rfl) bX) (fun bb=>mX Z_51 (Ht rfl) (Ht rfl) rfl (i:=0) rfl (aK rfl) rfl rfl) (Y.D_done aM rfl (by kernel_rfl) rfl (by simp [Y.okP]) rfl rfl (bU (bU (bU (bU (bU (bU (bU (bU (bU (bU (bU (bU (bU (bU (bU (bU (bU (bU (Y.F_newp (fun B13=>Y.F_putN (Y.F_nil ?_))))))))))))))))))))))
       refine ra rfl (eJ (cK (fV (m:=13) (dp 9 rfl (cX (Ht rfl)) (dp 12 rfl (cX (Ht rfl)) (dp 9 rfl (cX (Ht rfl)) (dp 12 rfl (cX (Ht rfl)) (cH 115 2 116 3 rfl (dM U_30 Z_29 (Ht rfl) (Ht rfl) rfl (i:=1) rfl (by rw [List.length_map]; omega) rfl) ?_))))))))
       refine dq 117 4 rfl (lR A_29 Z_29 (Ht rfl) (i:=1) rfl rfl (eX (eQ (d:=[]) zo))) (dp 13 rfl (eG A_51 Z_51 (Ht rfl) (i:=2) rfl rfl rfl) (dq 119 6 rfl (cZ Tryz.call140 Jx ⟨(Ht rfl),trivial⟩) (dp 9 rfl (cX (Ht rfl)) (dp 10 rfl (cX (Ht rfl)) (cH 121 8 122 9 rfl (dM U_30 Z_29 (Ht rfl) (Ht rfl) rfl (i:=1) rfl (by rw [List.length_map]; omega) rfl) ?_)))))
       refine dq 123 10 rfl (lR A_29 Z_29 (Ht rfl) (i:=1) rfl rfl (eX (eQ (d:=[]) zo))) (C.D_step (Ei:=[(118,_),(120,_),(124,_)]) rfl rfl (bV (bG 5 rfl rfl) (bV (bG 7 rfl rfl) (bV (bG 11 rfl rfl) bW))) (dX rfl (cZ Tryz.call235 (Kc (n:=n) (L:=V0) (N:=V0) q3 g7 q4 hv1 hv1 zo q5 q6 zo) ⟨(Ht rfl),(Ht rfl),(Ht rfl),trivial⟩)) (fG aM rfl (by kernel_rfl) (zF (zF (zF (aJ (aV ?_)))))))
       refine ro rfl (dM U_30 Z_29 (Ht rfl) (Ht rfl) rfl (i:=1) rfl (by rw [List.length_map]; omega) rfl) ?_
       refine mY Z_29 (Ht rfl) (Ht rfl) El.one (i:=1) rfl rfl (by rw [List.length_map]; omega) rfl ?_
       refine eJ (ts (rm rfl (ro rfl (dW (Ht rfl) (cJ 1) z6) (ra rfl (eJ (eU ?_))))))
       refine bF (fun (l : Nat) => i + 1 ≤ l ∧ l ≤ n) (fun (l : Nat) => n - l) (fun (l : Nat) => [(8, Is (.slice (some ⟨B48, 0, none⟩) n n)), (9, Is (.slice (some ⟨B51, 0, none⟩) n n)), (10, NT .i64 i), (12, NT .i64 k), (13, cC B13 0), (15, NT .i64 l), (53, NT .i64 n), (54, NT .i64 i)]) (fun (l : Nat) => [lF B48 29 51 5 vs vs (bR aP (tP X n i k l)), bO 29 1 (.slice (some ⟨B51, 0, none⟩) n n) ((nJ X U n i (k + 1)).map cB), box B13 51 [aC (decide (F.a < 0)), aE F.a.natAbs, aC (decide (F.b < 0)), aE F.b.natAbs, aE (du F)]]) (i + 1) ⟨Nat.le_refl _, hin⟩
        (zS rfl) (aU (lY (by rw [hY,Wd])) (aU (bT (by rw [← List.map_set,q1,q2,hF,hQ]; exact congrArg _ (Nf hkn zo))) (aU (aB rfl) aY))) (fun l ⟨hl1,hl2⟩=>?_)
       refine cK (ts (rm rfl (rm rfl (ro rfl (fN U_30 (Ht rfl)) (ro rfl (gJ (Ht rfl) (Ht rfl)) (eJ (dQ (Ht rfl) (fun he=>?_) (fun he=>?_))))))))
       ·have hln : l < n := by simp only [decide_eq_true_eq] at he; omega
        have hTs:=oV X n i k l
        have hst:=Rb (G:=X) (n:=n) (i:=i) (k:=k) (l:=l) hln hkn zo zo
        obtain ⟨T,hT⟩:∃ T,T = tP X n i k l:=⟨_,rfl⟩
        have t1:gm T l k = gm X l k:=by rw [hT]; exact Bs hln hkn zo
        have t2:gm T l i = gm X l i:=by rw [hT]; exact Bs hln hin zo
        rw [← hF,← t1,← t2,← hT] at hst
        rw [← hT] at hTs ⊢
        have hTl:=hTs.1
        have hTr:=hTs.row hln
        have hTg:(T.getD l []).length = n:=hTr
        haveI p1:aD (gm T l k) G0:=by rw [t1]; exact hGf.get hg1 l k
        haveI p2:aD (gm T l i) G0:=by rw [t2]; exact hGf.get hg1 l i
        haveI p3:aD (gm T l i * F) (G0 + (G0 + 3 * G0 + 2) + 1):=fitMul
        refine cU (cK (eU (fV (m:=22) (dp 8 rfl (cX (Ht rfl)) (dp 15 rfl (cX (Ht rfl)) (cH 135 0 136 1 rfl (gX U_30 Z_29 (Ht rfl) (Ht rfl) rfl zo (by rw [Nat.mul_one,Nat.zero_add])) ?_))))))
        refine dq 137 2 rfl (gP A_29 Z_29 (Ht rfl) (j:=0) rfl zo) (dp 12 rfl (cX (Ht rfl)) (dp 8 rfl (cX (Ht rfl)) (dp 15 rfl (cX (Ht rfl)) (cH 140 5 141 6 rfl (gX U_30 Z_29 (Ht rfl) (Ht rfl) rfl zo (by rw [Nat.mul_one,Nat.zero_add])) ?_))))
        refine dq 142 7 rfl (gP A_29 Z_29 (Ht rfl) (j:=0) rfl zo) (dp 12 rfl (cX (Ht rfl)) (cH 143 8 144 9 rfl (gO U_29 Z_51 (Ht rfl) (Ht rfl) rfl (j:=0) rfl zo zo zo) (dq 145 10 rfl (jL A_51 Z_51 (Ht rfl) (j:=0) rfl zo zo zo) (dp 8 rfl (cX (Ht rfl)) (dp 15 rfl (cX (Ht rfl)) (cH 147 12 148 13 rfl (gX U_30 Z_29 (Ht rfl) (Ht rfl) rfl zo (by rw [Nat.mul_one,Nat.zero_add])) ?_))))))
        refine dq 149 14 rfl (gP A_29 Z_29 (Ht rfl) (j:=0) rfl zo) (dp 10 rfl (cX (Ht rfl)) (cH 150 15 151 16 rfl (gO U_29 Z_51 (Ht rfl) (Ht rfl) rfl (j:=0) rfl zo zo zo) (dq 152 17 rfl (jL A_51 Z_51 (Ht rfl) (j:=0) rfl zo zo zo) (dp 13 rfl (eG A_51 Z_51 (Ht rfl) (i:=2) rfl rfl rfl) (cH 153 18 154 19 rfl (cZ K_45 (mF (x:=gm T l i) (y:=F) (L:=G0) (M:=G0 + 3 * G0 + 2) zo) ⟨(Ht rfl),(Ht rfl),trivial⟩) ?_)))))
        refine cH 146 11 155 20 rfl (cZ Tryz.call44 (Jz (x:=gm T l k) (y:=gm T l i * F) (L:=G0) (M:=G0 + (G0 + 3 * G0 + 2) + 1) zo) ⟨(Ht rfl),(Ht rfl),trivial⟩) (fG aM rfl (by kernel_rfl) (zF (zF (zF (zF (zF (aJ (aJ (aV (ro rfl (gO U_29 Z_51 (Ht rfl) (Ht rfl) rfl (j:=0) rfl zo zo zo) (Zd Z_51 (Ht rfl) (Ht rfl) (j:=0) rfl (El.ag rfl) (F:=aP) (z:=gm T l k - gm T l i * F) zo zo zo rfl ?_)))))))))))
        refine eJ (aR (cY (rm rfl (ro rfl (dW (Ht rfl) (cJ 1) z6) (ra rfl (eJ (gQ (l + 1) ⟨by omega,hln⟩ zo (zS rfl) (aU (lY (congrArg _ hst)) (aU (fun _ _ _ h=>h) (aU (aB rfl) aY))))))))))
       ·have hln : l = n := by simp only [decide_eq_false_iff_not] at he; omega
        rw [hln,Wc]
        refine gG rfl (aR (cY (rm rfl (ro rfl (dW (Ht rfl) (cJ 1) z6) (ra rfl (eJ (cM [0,1] rfl (by decide) (gQ (k + 1) ⟨by omega,hkn⟩ zo (zS rfl) (aU (fun _ _ _ h=>h) (aU (fun _ _ _ h=>h) aY))))))))))
      ·have hkn : k = n := by simp only [decide_eq_false_iff_not] at hd; omega
       rw [hkn]
       refine gG rfl (aR (cY (ro rfl (dW (Ht rfl) (cJ 1) z6) (rm rfl (eJ (gQ (i + 1) ⟨hin,hq.symm⟩ zo (zS rfl) (aU (lY (by rw [← hS,e5]; rfl)) (aU (bT (by rw [← hS,e5])) aY))))))))
  ·have hin : i = n := by simp only [decide_eq_false_iff_not] at hc; omega
   have hq:tN h n n 0 = (true,[]):=by rw [← hR,hin,Nat.sub_self]; rfl
   refine gG rfl (ts (ro rfl (cQ cV) (ro rfl (cQ cV) (ro rfl (cQ (cJ 0)) (eJ (xF rfl (fJ (fQ rfl) ?_) (fJ (fQ rfl) ?_) (fJ (fQ rfl) ?_)))))))
   ·exact (bI (by rw [zI,if_pos hh0,hq]))
   ·exact (fun v V k=>by rw [Bt,if_pos hh0,hq]; exact iX v V k)
   ·exact (bB (by rw [Rd,if_pos hh0]; rfl))
end
section
open Go Go.RowKit
theorem Qk {M:List (List Qi)} {n m:Nat} (h:eD M n m) (hn:n ≤ 32) (hm:m ≤ 32):aS Tryz.prog 271 [QM M] (aC true):=by
 have hl:=h.1
 refine aS.intro Tryz.func271 rfl Tryz.ntmps271 rfl (fun cx=>(ts (ro rfl (cQ cV) (eJ (cK (ts (rm rfl (ro rfl (dU U_36 (Ht rfl) aA) (ro rfl (dL (Ht rfl) (cJ 32)) (eJ (jZ (Ht rfl) (by simp [hl]; omega) ?_)))))))))))
 refine cU (cK (ts (ro rfl (cQ (cJ 0)) (eJ (eU ?_)))))
 refine bF (fun (i : Nat) => i ≤ n) (fun (i : Nat) => n - i) (fun (i : Nat) => [(0, QM M), (3, NT .i64 i)]) (fun (i : Nat) => []) 0 (Nat.zero_le _)
  (zS rfl) aY (fun i hi=>?_)
 refine cK (ts (rm rfl (rm rfl (ro rfl (dU U_36 (Ht rfl) aA) (ro rfl (gJ (Ht rfl) (Ht rfl)) (eJ (dQ (Ht rfl) (fun hd=>?_) (fun hd=>?_))))))))
 ·have hdn : i < n := by simp only [decide_eq_true_eq] at hd; omega
  have hr:=h.row hdn
  have hr0:=h.row (i:=0) zo
  simp at hr hr0
  refine cU (cK (eU (cK (fV (m:=13) (dp 0 rfl (cX (Ht rfl)) (dp 3 rfl (cX (Ht rfl)) (cH 13 0 14 1 rfl (dZ U_36 Z_35 (Ht rfl) (Ht rfl) rfl (eX (eQ (d:=[]) zo))) (dq 15 2 rfl (dJ A_35 Z_35 (Ht rfl)) (dq 16 3 rfl (dU U_35 (Ht rfl) aA) (dp 0 rfl (cX (Ht rfl)) (dq 18 5 rfl (dZ U_36 Z_35 (Ht rfl) (cJ 0) rfl (eX (eQ (d:=[]) zo))) (dq 19 6 rfl (dJ A_35 Z_35 (Ht rfl)) (dq 20 7 rfl (dU U_35 (Ht rfl) aA) ?_)))))))))))))
  refine cH 17 4 21 8 rfl (gY (Ht rfl) (Ht rfl)) (dq 22 9 rfl (cX (Ht rfl)) (C.D_step (Ei:=[(0,_),(23,_)]) rfl rfl (bV (bK rfl rfl) (bV (bG 10 rfl rfl) bW)) (eY rfl rfl (Ht rfl) (fun h=>cX (Ht rfl))) (C.D_step (Ei:=[(3,_),(23,_)]) rfl rfl (bV (bK rfl rfl) (bV (bG 10 rfl rfl) bW)) (eY rfl rfl (Ht rfl) (fun h=>cX (Ht rfl))) (fG aM rfl (by kernel_rfl) (zF (zF (zF (aJ (aV ?_)))))))))
  refine fZ rfl rfl (eY rfl rfl (Ht rfl) (fun h=>dZ U_36 Z_35 (fW rfl h) (fW rfl h) rfl (eX (eQ (d:=[]) zo)))) (fZ rfl rfl (eY rfl rfl (Ht rfl) (fun h=>dJ A_35 Z_35 (fW rfl h))) (fZ rfl rfl (eY rfl rfl (Ht rfl) (fun h=>dU U_35 (fW rfl h) aA)) (fZ rfl rfl (eY rfl rfl (Ht rfl) (fun h=>dL (fW rfl h) (cJ 32))) (ro rfl (iW (Ht rfl) (fun h=>(fW rfl h))) (eJ (jZ (Ht rfl) (by simp [hr,hr0]; omega) ?_))))))
  refine cU (aR (cY (rm rfl (ro rfl (dW (Ht rfl) (cJ 1) z6) (ra rfl (eJ (gQ (i + 1) hdn zo (zS rfl) aY)))))))
 ·refine gG rfl (ts (ro rfl (cQ cV) (eJ ?_)))
  exact fK rfl (fQ rfl)
theorem Dl  : aS Tryz.prog 272 [QM []] (NT .i64 0):=by
 refine aS.intro Tryz.func272 rfl Tryz.ntmps272 rfl (fun cx=>(ts (ro rfl (cQ (cJ 0)) (eJ (cK (ts (rm rfl (ro rfl (dU U_36 (Ht rfl) aA) (ro rfl (cT (Ht rfl) (cJ 0)) (eJ (Bd (Ht rfl) (by rfl) ?_)))))))))))
 refine ts (ro rfl (cQ (cJ 0)) (eJ ?_))
 exact fK rfl (fQ rfl)
theorem Hv {M:List (List Qi)} {n m:Nat} (h:eD M n m) (h1:1 ≤ n):aS Tryz.prog 272 [QM M] (NT .i64 m):=by
 have hl:=h.1
 have hr0:=h.row (i:=0) zo
 refine aS.intro Tryz.func272 rfl Tryz.ntmps272 rfl (fun cx=>(ts (ro rfl (cQ (cJ 0)) (eJ (cK (ts (rm rfl (ro rfl (dU U_36 (Ht rfl) aA) (ro rfl (cT (Ht rfl) (cJ 0)) (eJ (jZ (Ht rfl) (by simp [hl]; omega) ?_)))))))))))
 refine cU (ts (rm rfl (ro rfl (dZ U_36 Z_35 (Ht rfl) (cJ 0) rfl (eX (eQ (d:=[]) zo))) (ro rfl (dJ A_35 Z_35 (Ht rfl)) (ro rfl (dU U_35 (Ht rfl) aA) (ra rfl (eJ (fK rfl (fJ (fQ rfl) ?_)))))))))
 exact (lL hr0)
theorem Dm {M:List (List Qi)} {n m:Nat} (h:eD M n m) (h1:1 ≤ n ∨ m = 0):aS Tryz.prog 272 [QM M] (NT .i64 m):=by
 by_cases e:n = 0
 ·subst e
  obtain rfl:=List.length_eq_zero_iff.1 h.1
  rw [show m = 0 by omega]; exact Dl
 ·exact Hv h zo
theorem Hx {M:List (List Qi)} {n:Nat} (hM:eD M n n) (hn:n ≤ 32):aS Tryz.prog 238 [QM M] (aC true):=by
 have hl:=hM.1
 refine aS.intro Tryz.func238 rfl Tryz.ntmps238 rfl (fun cx=>(ts (ro rfl (cQ cV) (eJ (ts (rm rfl (ro rfl (cZ Tryz.call271 (Qk hM hn hn) ⟨(Ht rfl),trivial⟩) (rm rfl (fZ rfl rfl (eY rfl rfl (Ht rfl) (fun h=>cX (Ht rfl))) (fZ rfl rfl (eY rfl rfl (Ht rfl) (fun h=>dU U_36 (fW rfl h) aA)) (fZ rfl rfl (eY rfl rfl (Ht rfl) (fun h=>cX (Ht rfl))) (fZ rfl rfl (eY rfl rfl (Ht rfl) (fun h=>cZ Tryz.call272 (Dm hM zo) ⟨(fW rfl h),trivial⟩)) (fZ rfl rfl (eY rfl rfl (Ht rfl) (fun h=>cT (fW rfl h) (fW rfl h))) ?_)))))))))))))
 refine ro rfl (dP (Ht rfl) (fun h=>(fW rfl h))) (ra rfl (eJ (fK rfl (fJ (fQ rfl) ?_))))
 exact (bI (by simp [hl]))
theorem Qg {M:List (List Qi)} {n m:Nat} (hM:eD M n m) (hn:n ≤ 1000) (h1:1 ≤ m) (hm:m ≤ 1000):fT Tryz.prog 172 [QM M] [] (Nat) (fun B=>Is (.slice (some ⟨B,0,none⟩) n n)) (fun B=>[pL B 35 131 5 (bR QT M)]) (fun _=>True):=by
 have hMl:=hM.1
 refine fT.intro Tryz.func172 rfl Tryz.ntmps172 rfl (fun cx Z=>(ts (ro rfl (cQ cV) (eJ (ts (rm rfl (ro rfl (dU U_36 (Ht rfl) (by rw [List.length_map,hMl])) ?_)))))))
 refine rn rfl (dH (T:=Is (.slice none 0 0)) (i:=Tryz.t35) Tryz.underlying36 Ca rfl rfl (Ht rfl) rfl (fun _=>rfl) trivial (by show 24 * _ ≤ _; omega) zo) fun B7=>ra rfl (eJ (cK (ts (ro rfl (cQ (cJ 0)) (eJ (eU (oA 1 rfl (pD (e:=131) (s:=5)) ?_)))))))
 refine bF (fun (i : Nat) => i ≤ n) (fun (i : Nat) => n - i) (fun (i : Nat) => [(0, QM M), (3, Is (.slice (some ⟨B7, 0, none⟩) n n)), (4, NT .i64 i)]) (fun (i : Nat) => [Z, pL B7 35 131 5 (bR QT (jJ (hZ M) [] n i))]) 0 (Nat.zero_le _)
  (zS rfl) (aU (fun _ _ _ h=>h) (aU (bP (by rw [← jF,kC]; exact kL QT n)) aY)) (fun i hi=>?_)
 refine cK (ts (rm rfl (rm rfl (ro rfl (dU U_36 (Ht rfl) aA) (ro rfl (gJ (Ht rfl) (Ht rfl)) (eJ (dQ (Ht rfl) (fun hd0=>?_) (fun hd0=>?_))))))))
 ·have hdn : i < n := by simp only [decide_eq_true_eq] at hd0; omega
  have hrl:(hZ M i).length = m:=hM.row hdn
  have hrl2:(M.getD i []).length = m:=hrl
  refine oR 1 (i) rfl (jS hdn) (fun v0=>(cU (cK (eU (cY (rm rfl (rm rfl (rn rfl (vI U_35 Z_131 O_131) fun B16=>(rm rfl (rm rfl (ro rfl (dZ U_36 Z_35 (Ht rfl) (Ht rfl) rfl (eX (eQ (d:=[]) zo))) (ro rfl (dJ A_35 Z_35 (Ht rfl)) (zO (inf:=Tryz.t131) Jb xZ rfl rfl rfl (Ht rfl) (Ht rfl) (i:=3) rfl (fun T hT=>by obtain ⟨x,_,rfl⟩:=List.mem_map.1 hT; exact El.ag rfl) (by show _ * 88 ≤ _; simp only [List.length_map,List.length_append,List.length_take,List.length_cons,List.length_nil]; omega) (by simp only [List.length_map,List.length_append,List.length_take,List.length_cons,List.length_nil]; omega) rfl (fun v1=>?_))))))))))))))
  refine ro rfl (gX U_36 Z_35 (Ht rfl) (Ht rfl) rfl zo (by rw [Nat.mul_one,Nat.zero_add])) ?_
  refine pO Z_35 (Ht rfl) (Ht rfl) (by simp only [bR,List.length_map,eR]; omega) (j:=1) (l:=3) rfl rfl rfl ?_
  refine eJ (aR (cM [0,1,3] rfl (by decide) (fR 1 2 rfl rfl (by decide) (by simp only [bR,List.length_map,eR]; omega) ?_)))
  refine cY (rm rfl (ro rfl (dW (Ht rfl) (cJ 1) z6) (ra rfl (eJ (cM [0,1] rfl (by decide) (gQ (i + 1) hdn zo (zS rfl) (aU (fun _ _ _ h=>h) (aU (bP (by rw [List.nil_append,gI,← kP (f:=hZ M)])) aY))))))))
 ·have hin : i = n := by simp only [decide_eq_false_iff_not] at hd0; omega
  subst hin
  refine gG rfl (ts (rm rfl (ra rfl (eJ ?_))))
  exact iT B7 trivial [0,1] ⟨⟨_,rfl,fun _ _ _ h=>h⟩,⟨_,rfl,(bP (by rw [kO]; exact congrArg _ (Cq (h:=hMl)).symm))⟩,trivial⟩ (by decide) (pH rfl (fQ rfl))
end
section
open Go Go.RowKit
theorem sS (x y:Qi):(x + y).conj = x.conj + y.conj:=Qi.ext' rfl (by show -(x.im + y.im) = -x.im + -y.im; grind)
theorem pU (x y:Qi):(x * y).conj = x.conj * y.conj:=Qi.ext' (by show x.re * y.re - x.im * y.im = x.re * y.re - -x.im * -y.im; grind) (by show -(x.re * y.im + x.im * y.re) = x.re * -y.im + -x.im * y.re; grind)
theorem qV:(0:Qi).conj = 0:=Qi.ext' rfl (by show -(0:Rat) = 0; grind)
theorem Dy:(1:Qi).conj = 1:=Qi.ext' rfl (by show -(0:Rat) = 0; grind)
theorem tZ (x:Qi):x.conj.conj = x:=Qi.ext' rfl (by show - -x.im = x.im; grind)
theorem Dz (n:Nat) (f:Nat → Qi):(bE n f).conj = bE n fun i=>(f i).conj:=by
 induction n with
 | zero=>exact qV
 | succ n ih=>rw [Ba,Ba,sS,ih]
theorem rL (n:Nat) (a:Qi) (f:Nat → Qi):bE n (fun k=>a * f k) = a * bE n f:=by
 rw [show a * bE n f = bE n f * a by grind,← Ge]; exact eB fun _ _=>by grind
section
variable {z:List Qi} {S c:List (List Qi)} {js:List (Int × Int)} {N:Nat}
end
end
end Go.Proofs.YteohomnhncjcnaaGreat
