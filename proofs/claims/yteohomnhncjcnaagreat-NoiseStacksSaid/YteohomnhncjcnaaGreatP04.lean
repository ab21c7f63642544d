/- What functions of the program compute, proved by walks over their code, and the plain mathematics of it; a part of the proof in the last text. -/
import Derived.Test.YteohomnhncjcnaaGreatP03
set_option linter.unusedVariables false
set_option linter.unusedSimpArgs false
set_option maxRecDepth 100000
set_option maxHeartbeats 4000000
namespace Go.Proofs.YteohomnhncjcnaaGreat
section
open Go Go.RowKit
theorem oI (a:Addr) (w:World):(Instr.fieldAt 32 (.pointer (some a)) 1).run Tryz.prog w = .ok (.pointer (some (a.add 1))) w:=by
 simp [Instr.fieldAt,Instr.sureAddr,fieldPlace,Sem.run_bind,Result.andThen,U_32,Z_30]
theorem oJ (a:Addr) (w:World):(Instr.fieldAt 34 (.pointer (some a)) 0).run Tryz.prog w = .ok (.pointer (some (a.add 0))) w:=by
 simp [Instr.fieldAt,Instr.sureAddr,fieldPlace,Sem.run_bind,Result.andThen,U_34,Z_32]
theorem kI (a:Addr) (w:World):(Instr.fieldAt 34 (.pointer (some a)) 1).run Tryz.prog w = .ok (.pointer (some (a.add 2))) w:=by
 simp [Instr.fieldAt,Instr.sureAddr,fieldPlace,Sem.run_bind,Result.andThen,U_34,Z_30]
end
section
open Go Go.RowKit
theorem a0n {z:List Qi} {s:List (List Qi)} {i:Int} (hl:z.length ≤ 1000):bL Tryz.prog 23 [jI z s,aL .i64 i] (fS [aF (Zt z i),aL .i64 (if 1 ≤ i ∧ i ≤ z.length then 0 else 1)]):=by
 refine bL.intro Tryz.func23 rfl Tryz.ntmps23 rfl (fun cx=>(ts (rn rfl (fK (Ht rfl)) fun B2=>(rn rfl (eG (Ts:=[Is (.bool false),Is (.slice none 0 0),Is (.bool false),Is (.slice none 0 0),Is (.slice none 0 0)]) O_51 rfl (fun V=>aW zd (aW zd (aW zd (aW zd (aW zd (aG))))))) fun B4=>(ro rfl (cX (cV 0)) (eZ (cU (ts (ro rfl (eW A_32 Z_32 (Ht rfl) (i:=0) rfl rfl rfl) (rm rfl (ro rfl (cJ Tryz.call106 Uj ⟨(Ht rfl),(Ht rfl),trivial⟩) ?_)))))))))))
 refine ro rfl (fB (Ht rfl)) (eZ (dX (Ht rfl) (fun hb=>?_) (fun hb=>?_)))
 ·have hn : ¬ (1 ≤ i ∧ i ≤ (z.length : Int)) := by simpa only [Bool.not_eq_true', decide_eq_false_iff_not] using hb
  refine ts (ro rfl (aI.imp (Kj ) oY) (gX Z_51 (Ht rfl) (Ht rfl) rfl (i:=1) rfl (aK rfl) rfl rfl (ro rfl (cX (cV 1)) (eZ (bR rfl (fZ (fU A_51 Z_51 rfl (i:=1) rfl rfl) ?_) (fZ (eY rfl) ?_))))))
  ·exact (kL (by rw [Zt,if_neg hn]))
  ·exact (aO (by rw [if_neg hn]; rfl))
 ·have hp : 1 ≤ i ∧ i ≤ (z.length : Int) := by simpa only [Bool.not_eq_false', decide_eq_true_eq] using hb
  have hq:(i - 1).toNat < z.length:=by omega
  refine cY (ts (ro rfl (eJ jV (Ht rfl) rfl) (ro rfl (fQ A_29 Z_29 (Ht rfl) (i:=0) rfl rfl) (rm rfl (ro rfl (gE (Ht rfl) cW (yA zo)) (ro rfl (dJ U_29 Z_51 (Ht rfl) (Ht rfl) (by omega:i - 1 = (((i - 1).toNat:Nat):Int)) (eQ (dY (d:=Qi.zero) hq))) (ro rfl (dV A_51 Z_51 (Ht rfl)) (gX Z_51 (Ht rfl) (Ht rfl) rfl (i:=1) rfl (aK rfl) rfl rfl (ro rfl (cX (cV 0)) (eZ (bR rfl (fZ (fU A_51 Z_51 rfl (i:=1) rfl rfl) ?_) (fZ (eY rfl) ?_))))))))))))
  ·exact (kL (by rw [Zt,if_pos hp]))
  ·exact (aO (by rw [if_pos hp]; rfl))
theorem a6K {z:List Qi} {s:List (List Qi)} {i j:Int} (hs:cP s z.length z.length) (hl:z.length ≤ 1000):bL Tryz.prog 25 [jI z s,aL .i64 i,aL .i64 j] (fS [aF (Yx z.length s i j),aL .i64 (if (1 ≤ i ∧ i ≤ z.length) ∧ 1 ≤ j ∧ j ≤ z.length then 0 else 1)]):=by
 have hs1:=hs.1
 refine bL.intro Tryz.func25 rfl Tryz.ntmps25 rfl (fun cx=>(ts (rn rfl (fK (Ht rfl)) fun B3=>(rn rfl (eG (Ts:=[Is (.bool false),Is (.slice none 0 0),Is (.bool false),Is (.slice none 0 0),Is (.slice none 0 0)]) O_51 rfl (fun V=>aW zd (aW zd (aW zd (aW zd (aW zd (aG))))))) fun B6=>(ro rfl (cX (cV 0)) (eZ (cU (ts (ro rfl (eW A_32 Z_32 (Ht rfl) (i:=0) rfl rfl rfl) (rm rfl (ro rfl (cJ Tryz.call106 Uj ⟨(Ht rfl),(Ht rfl),trivial⟩) ?_)))))))))))
 refine ro rfl (fB (Ht rfl)) (rm rfl (fX rfl rfl (eU rfl rfl (Ht rfl) (fun h=>eW A_32 Z_32 (Ht rfl) (i:=0) rfl rfl rfl)) (fX rfl rfl (eU rfl rfl (Ht rfl) (fun h=>cZ (Ht rfl))) (fX rfl rfl (eU rfl rfl (Ht rfl) (fun h=>cJ Tryz.call106 Uj ⟨(fV rfl h),(fV rfl h),trivial⟩)) (fX rfl rfl (eU rfl rfl (Ht rfl) (fun h=>fB (fV rfl h))) (ro rfl (fO (Ht rfl) (fun h=>(fV rfl h))) (eZ (dX (Ht rfl) (fun hb=>?_) (fun hb=>?_)))))))))
 ·have hn : ¬ ((1 ≤ i ∧ i ≤ (z.length : Int)) ∧ 1 ≤ j ∧ j ≤ (z.length : Int)) := by simp only [Bool.or_eq_true, Bool.not_eq_true', decide_eq_false_iff_not] at hb; exact fun k => hb.elim (fun h => h k.1) (fun h => h k.2)
  refine ts (rn rfl (eG (Ts:=[Is (.bool false),Is (.slice none 0 0),Is (.bool false),Is (.slice none 0 0),Is (.slice none 0 0)]) O_51 rfl (fun V=>aW zd (aW zd (aW zd (aW zd (aW zd (aG))))))) fun B8=>(eZ (ts (ro rfl (eW A_51 Z_51 (Ht rfl) (i:=2) rfl rfl rfl) (gX Z_51 (Ht rfl) (Ht rfl) rfl (i:=1) rfl (aK rfl) rfl rfl (ro rfl (cX (cV 1)) (eZ (bR rfl (fZ (fU A_51 Z_51 rfl (i:=1) rfl rfl) ?_) (fZ (eY rfl) ?_)))))))))
  ·exact (fun v V k=>by rw [Yx,if_neg hn]; exact oY v V k)
  ·exact (aO (by rw [if_neg hn]; rfl))
 ·have hp : (1 ≤ i ∧ i ≤ (z.length : Int)) ∧ 1 ≤ j ∧ j ≤ (z.length : Int) := by simpa only [Bool.or_eq_false_iff, Bool.not_eq_false', decide_eq_true_eq] using hb
  have hq:(i - 1).toNat < s.length:=by omega
  have hq2:(j - 1).toNat < (s.getD (i - 1).toNat []).length:=by rw [hs.row zo]; omega
  refine cY (ts (ro rfl (eJ oI (Ht rfl) rfl) (ro rfl (fQ A_30 Z_30 (Ht rfl) (i:=0) rfl rfl) (rm rfl (ro rfl (gE (Ht rfl) cW (yA zo)) (ro rfl (dJ U_30 Z_29 (Ht rfl) (Ht rfl) (by omega:i - 1 = (((i - 1).toNat:Nat):Int)) (eQ (dY (d:=[]) hq))) (ro rfl (dV A_29 Z_29 (Ht rfl)) (rm rfl (ro rfl (gE (Ht rfl) cW (yA zo)) (ro rfl (dJ U_29 Z_51 (Ht rfl) (Ht rfl) (by omega:j - 1 = (((j - 1).toNat:Nat):Int)) (eQ (dY (d:=Qi.zero) hq2))) ?_))))))))))
  refine ro rfl (dV A_51 Z_51 (Ht rfl)) (gX Z_51 (Ht rfl) (Ht rfl) rfl (i:=1) rfl (aK rfl) rfl rfl (ro rfl (cX (cV 0)) (eZ (bR rfl (fZ (fU A_51 Z_51 rfl (i:=1) rfl rfl) ?_) (fZ (eY rfl) ?_)))))
  ·exact (kL (by rw [Yx,if_pos hp]))
  ·exact (aO (by rw [if_pos hp]; rfl))
theorem nC {z:List Qi} {s c:List (List Qi)}:bL Tryz.prog 51 [eR z s c] (jI z s):=by
 refine bL.intro Tryz.func51 rfl Tryz.ntmps51 rfl (fun cx=>(ts (rn rfl (fK (Ht rfl)) fun B1=>(rn rfl (eG (Ts:=[Is (.slice none 0 0),Is (.slice none 0 0)]) O_32 rfl (fun V=>aW zd (aW zd (aG)))) fun B2=>(eZ (ts (ro rfl (eJ oJ (Ht rfl) rfl) (ro rfl (eW A_32 Z_32 (Ht rfl) (i:=0) rfl rfl rfl) (gX Z_32 (Ht rfl) (Ht rfl) rfl (i:=1) rfl (aK rfl) rfl rfl (eZ ?_))))))))))
 exact fG rfl (fU A_32 Z_32 rfl (i:=1) rfl rfl)
theorem Kq {z:List Qi} {s c:List (List Qi)} {i j:Int} (hs:cP c c.length c.length) (hl:c.length ≤ 1000):bL Tryz.prog 87 [eR z s c,aL .i64 i,aL .i64 j] (fS [aF (Yx c.length c i j),aL .i64 (if (1 ≤ i ∧ i ≤ c.length) ∧ 1 ≤ j ∧ j ≤ c.length then 0 else 1)]):=by
 refine bL.intro Tryz.func87 rfl Tryz.ntmps87 rfl (fun cx=>(ts (rn rfl (fK (Ht rfl)) fun B3=>(rn rfl (eG (Ts:=[Is (.bool false),Is (.slice none 0 0),Is (.bool false),Is (.slice none 0 0),Is (.slice none 0 0)]) O_51 rfl (fun V=>aW zd (aW zd (aW zd (aW zd (aW zd (aG))))))) fun B6=>(ro rfl (cX (cV 0)) (eZ (cU (ts (rm rfl (ro rfl (sE (Ht rfl) cW) (rm rfl (fX rfl rfl (eU rfl rfl (Ht rfl) (fun h=>cZ (Ht rfl))) ?_))))))))))))
 refine fX rfl rfl (eU rfl rfl (Ht rfl) (fun h=>eJ kI (Ht rfl) rfl)) (fX rfl rfl (eU rfl rfl (Ht rfl) (fun h=>fQ A_30 Z_30 (fV rfl h) (i:=0) rfl rfl)) (fX rfl rfl (eU rfl rfl (Ht rfl) (fun h=>dK U_30 (fV rfl h) aA)) (fX rfl rfl (eU rfl rfl (Ht rfl) (fun h=>Bb (fV rfl h) (fV rfl h))) (ro rfl (fO (Ht rfl) (fun h=>(fV rfl h))) (rm rfl (fX rfl rfl (eU rfl rfl (Ht rfl) (fun h=>cZ (Ht rfl))) (fX rfl rfl (eU rfl rfl (Ht rfl) (fun h=>sE (fV rfl h) cW)) ?_)))))))
 refine ro rfl (fO (Ht rfl) (fun h=>(fV rfl h))) (rm rfl (fX rfl rfl (eU rfl rfl (Ht rfl) (fun h=>cZ (Ht rfl))) (fX rfl rfl (eU rfl rfl (Ht rfl) (fun h=>eJ kI (Ht rfl) rfl)) (fX rfl rfl (eU rfl rfl (Ht rfl) (fun h=>fQ A_30 Z_30 (fV rfl h) (i:=0) rfl rfl)) (fX rfl rfl (eU rfl rfl (Ht rfl) (fun h=>dK U_30 (fV rfl h) aA)) (fX rfl rfl (eU rfl rfl (Ht rfl) (fun h=>Bb (fV rfl h) (fV rfl h))) (ro rfl (fO (Ht rfl) (fun h=>(fV rfl h))) (eZ (dX (Ht rfl) (fun hb=>?_) (fun hb=>?_))))))))))
 ·have hn : ¬ ((1 ≤ i ∧ i ≤ (c.length : Int)) ∧ 1 ≤ j ∧ j ≤ (c.length : Int)) := by simp only [Bool.or_eq_true, decide_eq_true_eq] at hb; omega
  refine ts (rn rfl (eG (Ts:=[Is (.bool false),Is (.slice none 0 0),Is (.bool false),Is (.slice none 0 0),Is (.slice none 0 0)]) O_51 rfl (fun V=>aW zd (aW zd (aW zd (aW zd (aW zd (aG))))))) fun B8=>(eZ (ts (ro rfl (eW A_51 Z_51 (Ht rfl) (i:=2) rfl rfl rfl) (gX Z_51 (Ht rfl) (Ht rfl) rfl (i:=1) rfl (aK rfl) rfl rfl (ro rfl (cX (cV 1)) (eZ (bR rfl (fZ (fU A_51 Z_51 rfl (i:=1) rfl rfl) ?_) (fZ (eY rfl) ?_)))))))))
  ·exact (fun v V k=>by rw [Yx,if_neg hn]; exact oY v V k)
  ·exact (aO (by rw [if_neg hn]; rfl))
 ·have hp : (1 ≤ i ∧ i ≤ (c.length : Int)) ∧ 1 ≤ j ∧ j ≤ (c.length : Int) := by simp only [Bool.or_eq_false_iff, decide_eq_false_iff_not] at hb; omega
  have hq:(i - 1).toNat < c.length:=by omega
  have hq2:(j - 1).toNat < (c.getD (i - 1).toNat []).length:=by rw [hs.row zo]; omega
  refine cY (ts (ro rfl (eJ kI (Ht rfl) rfl) (ro rfl (fQ A_30 Z_30 (Ht rfl) (i:=0) rfl rfl) (rm rfl (ro rfl (gE (Ht rfl) cW (yA zo)) (ro rfl (dJ U_30 Z_29 (Ht rfl) (Ht rfl) (by omega:i - 1 = (((i - 1).toNat:Nat):Int)) (eQ (dY (d:=[]) hq))) (ro rfl (dV A_29 Z_29 (Ht rfl)) (rm rfl (ro rfl (gE (Ht rfl) cW (yA zo)) (ro rfl (dJ U_29 Z_51 (Ht rfl) (Ht rfl) (by omega:j - 1 = (((j - 1).toNat:Nat):Int)) (eQ (dY (d:=Qi.zero) hq2))) ?_))))))))))
  refine ro rfl (dV A_51 Z_51 (Ht rfl)) (gX Z_51 (Ht rfl) (Ht rfl) rfl (i:=1) rfl (aK rfl) rfl rfl (ro rfl (cX (cV 0)) (eZ (bR rfl (fZ (fU A_51 Z_51 rfl (i:=1) rfl rfl) ?_) (fZ (eY rfl) ?_)))))
  ·exact (kL (by rw [Yx,if_pos hp]))
  ·exact (aO (by rw [if_pos hp]; rfl))
end
section
open Go Go.RowKit
theorem iK (a:Addr) (w:World):(Instr.fieldAt 25 (.pointer (some a)) 0).run Tryz.prog w = .ok (.pointer (some (a.add 0))) w:=by
 simp [Instr.fieldAt,Instr.sureAddr,fieldPlace,Sem.run_bind,Result.andThen,U_25,Z_22]
theorem wG (a:Addr) (w:World):(Instr.fieldAt 25 (.pointer (some a)) 1).run Tryz.prog w = .ok (.pointer (some (a.add 1))) w:=by
 simp [Instr.fieldAt,Instr.sureAddr,fieldPlace,Sem.run_bind,Result.andThen,U_25,Z_23]
theorem tM (a:Addr) (w:World):(Instr.fieldAt 25 (.pointer (some a)) 2).run Tryz.prog w = .ok (.pointer (some (a.add 2))) w:=by
 simp [Instr.fieldAt,Instr.sureAddr,fieldPlace,Sem.run_bind,Result.andThen,U_25,Z_23]
theorem uU:Tryz.prog.info? 131 = some Tryz.t131:=by kernel_rfl
theorem Vk:Tryz.prog.info? 35 = some Tryz.t35:=by kernel_rfl
theorem Tg:Tryz.prog.underlying 30 = some (.slice 29):=by kernel_rfl
theorem Hh:Tryz.prog.underlying 35 = some (.slice 131):=by kernel_rfl
theorem a6q:Tryz.prog.underlying 36 = some (.slice 35):=by kernel_rfl
end
section
open Go Go.RowKit
theorem zV {m:List (List Rt)} (hm:m.length ≤ 1000) (hr:∀ r,r ∈ m → r.length ≤ 1000):bL Tryz.prog 86 [qC m] (bM (rq m)):=by
 refine bL.intro Tryz.func86 rfl Tryz.ntmps86 rfl (fun cx=>(ts (ro rfl (cX cW) (eZ (ts (rm rfl (ro rfl (dK U_23 (Ht rfl) aA) (rn rfl (kS (T:=aR []) (i:=Tryz.t29) Tg lV rfl rfl (Ht rfl) rfl Pb El.one (by show 24 * _ ≤ _; omega) zo) fun B8=>(ra rfl (eZ (cU (ts (rm rfl (ro rfl (dK U_23 (Ht rfl) aA) (ro rfl (cZ (cV 0)) (eZ (eK ?_)))))))))))))))))
 refine eO (fun (k : Nat) (out : List (List Qi)) => mC (fun i => (m.getD i default).map Rt.q) m.length out k) (fun (k : Nat) (out : List (List Qi)) => m.length - k) (fun (k : Nat) (out : List (List Qi)) => [(3, Is B8), (9, qC m), (10, NT .i64 m.length), (11, NT .i64 k)]) (fun (k : Nat) (out : List (List Qi)) => [bN 29 1 B8 (out.map aR)]) 0 (List.replicate m.length []) (mC.start _ _ _)
  (zS rfl) (aU (aN (vF aR _ _)) aY) (fun k out hS=>?_)
 refine ts (ro rfl (gZ (Ht rfl) (Ht rfl)) (eZ (cU (dX (Ht rfl) (fun hk=>?_) (fun hk=>?_)))))
 ·simp only [decide_eq_true_eq] at hk
  have hlen:=hS.len
  have hrk : (m.getD k default).length ≤ 1000 := by
   have e:m.getD k default = m[k]:=by simp [List.getD,hk]
   rw [e]; exact hr _ (List.getElem_mem hk)
  refine cY (cU (eK (ts (rm rfl (ro rfl (dJ U_23 Z_22 (Ht rfl) (Ht rfl) rfl (eQ (dY (d:=default) hk))) (ro rfl (dV A_22 Z_22 (Ht rfl)) (ra rfl (ra rfl (eZ (dQ (rm rfl (rm rfl (rm rfl (ro rfl (cJ Tryz.call48 (zU zo) ⟨(Ht rfl),trivial⟩) (ro rfl (cR U_30 Z_29 (Ht rfl) (Ht rfl) rfl (i:=0) rfl (by first | omega | (simp; omega)) rfl) (jS Z_29 (Ht rfl) (Ht rfl) El.one (i:=0) rfl rfl (by first | omega | (simp; omega)) rfl (eZ (aT ?_))))))))))))))))))
  refine dQ (ro rfl (dW (Ht rfl) (cV 1) z6) (rm rfl (eZ (fY (k + 1,_) (hS.next hk rfl) (by dsimp only; omega) (zS rfl) (aU (aN (fI aR _ _ _)) aY)))))
 ·simp only [decide_eq_false_iff_not] at hk
  obtain rfl:k = m.length:=Nat.le_antisymm hS.kle zo
  have hfin:=hS.fin
  rw [zL m (fun r=>r.map Rt.q)] at hfin
  refine gW rfl (gV (i:=0) (tt:=3) rfl rfl gK (ts (rm rfl (ra rfl (eZ (fG rfl (fZ (eY rfl) ?_)))))))
  exact (mB (by rw [hfin]))
theorem Ej {z:List Rt} {s c:List (List Rt)}:bL Tryz.prog 15 [Bx z s c] (aH (nQ z s c)):=by
 refine bL.intro Tryz.func15 rfl Tryz.ntmps15 rfl (fun cx=>(ts (rn rfl (fK (Ht rfl)) fun B1=>(ro rfl (cX cW) (eZ (cU (ts (ro rfl (eJ iK (Ht rfl) rfl) (ro rfl (fQ A_22 Z_22 (Ht rfl) (i:=0) rfl rfl) (ro rfl (dK U_22 (Ht rfl) aA) (ro rfl (dF (Ht rfl) (cV 9)) (rm rfl (fX rfl rfl (eU rfl rfl (Ht rfl) (fun h=>eJ wG (Ht rfl) rfl)) (fX rfl rfl (eU rfl rfl (Ht rfl) (fun h=>fQ A_23 Z_23 (fV rfl h) (i:=0) rfl rfl)) (fX rfl rfl (eU rfl rfl (Ht rfl) (fun h=>dK U_23 (fV rfl h) aA)) ?_)))))))))))))))
 refine fX rfl rfl (eU rfl rfl (Ht rfl) (fun h=>dF (fV rfl h) (cV 9))) (ro rfl (fO (Ht rfl) (fun h=>(fV rfl h))) (rm rfl (fX rfl rfl (eU rfl rfl (Ht rfl) (fun h=>eJ tM (Ht rfl) rfl)) (fX rfl rfl (eU rfl rfl (Ht rfl) (fun h=>fQ A_23 Z_23 (fV rfl h) (i:=0) rfl rfl)) (fX rfl rfl (eU rfl rfl (Ht rfl) (fun h=>dK U_23 (fV rfl h) aA)) (fX rfl rfl (eU rfl rfl (Ht rfl) (fun h=>dF (fV rfl h) (cV 9))) (ro rfl (fO (Ht rfl) (fun h=>(fV rfl h))) (eZ ?_))))))))
 refine dX (Ht rfl) (fun hb=>?_) (fun hb=>?_)
 ·refine ts (ro rfl (cX cW) (eZ (fG rfl (fZ (eY rfl) ?_))))
  exact (dN (Yj hb).symm)
 ·have hbl : z.length ≤ 9 ∧ s.length ≤ 9 ∧ c.length ≤ 9 := by have hb2 := hb; simp only [Bool.or_eq_false_iff, decide_eq_false_iff_not] at hb2; omega
  refine cY (cU (ts (ro rfl (eJ wG (Ht rfl) rfl) (ro rfl (fQ A_23 Z_23 (Ht rfl) (i:=0) rfl rfl) (ro rfl (dK U_23 (Ht rfl) aA) (ro rfl (cZ (cV 0)) (eZ (eK ?_))))))))
  refine bP (fun (k : Nat) => k ≤ s.length ∧ ∀ (i : Nat) (r : List Rt), i < k → s[i]? = some r → r.length ≤ 9) (fun (k : Nat) => s.length - k) (fun (k : Nat) => [(1, bF B1 0), (24, qC s), (25, NT .i64 s.length), (26, NT .i64 k)]) (fun (k : Nat) => [box B1 25 [pI z, qC s, qC c]]) 0 ⟨Nat.zero_le _, fun i r h => by omega⟩
   (zS rfl) (dD.refl _) (fun k ⟨hk,hr⟩=>?_)
  refine ts (ro rfl (gZ (Ht rfl) (Ht rfl)) (eZ (cU (dX (Ht rfl) (fun hd=>?_) (fun hd=>?_)))))
  ·simp only [decide_eq_true_eq] at hd
   refine cY (cU (eK (ts (ro rfl (dJ U_23 Z_22 (Ht rfl) (Ht rfl) rfl (eQ (nY hd))) (ro rfl (dV A_22 Z_22 (Ht rfl)) (ra rfl (eZ (ts (rm rfl (ro rfl (dK U_22 (Ht rfl) aA) (ro rfl (dF (Ht rfl) (cV 9)) (eZ (dX (Ht rfl) (fun he=>?_) (fun he=>?_))))))))))))))
   ·simp only [decide_eq_true_eq] at he
    refine ts (ro rfl (cX cW) (eZ (fG rfl (fZ (eY rfl) ?_))))
    exact (dN (Yi (nY hd) he).symm)
   ·simp only [decide_eq_false_iff_not] at he
    refine cY (aT (dQ (ro rfl (dW (Ht rfl) (cV 1) z6) (rm rfl (eZ ?_)))))
    refine fY (k + 1) ⟨hd, fun i r h1 h2 => by
      by_cases e:i = k
      ·subst e; rw [nY hd] at h2; obtain rfl:=Option.some.inj h2; omega
      ·exact hr i r zo h2⟩ zo (zS rfl) (dD.refl _)
  ·simp only [decide_eq_false_iff_not] at hd
   have hall:∀ (i:Nat) (r:List Rt),s[i]? = some r → r.length ≤ 9:=fun i r h=>hr i r (by have:=(List.getElem?_eq_some_iff.1 h).1; omega) h
   refine gW rfl (cU (ts (ro rfl (eJ tM (Ht rfl) rfl) (ro rfl (fQ A_23 Z_23 (Ht rfl) (i:=0) rfl rfl) (ro rfl (dK U_23 (Ht rfl) aA) (ro rfl (cZ (cV 0)) (eZ (eK ?_))))))))
   refine bP (fun (k : Nat) => k ≤ c.length ∧ ∀ (i : Nat) (r : List Rt), i < k → c[i]? = some r → r.length ≤ 9) (fun (k : Nat) => c.length - k) (fun (k : Nat) => [(1, bF B1 0), (35, qC c), (36, NT .i64 c.length), (37, NT .i64 k)]) (fun (k : Nat) => [box B1 25 [pI z, qC s, qC c]]) 0 ⟨Nat.zero_le _, fun i r h => by omega⟩
    (zS rfl) (dD.refl _) (fun k ⟨hk2,hr2⟩=>?_)
   refine ts (ro rfl (gZ (Ht rfl) (Ht rfl)) (eZ (cU (dX (Ht rfl) (fun hd2=>?_) (fun hd2=>?_)))))
   ·simp only [decide_eq_true_eq] at hd2
    refine cY (cU (eK (ts (ro rfl (dJ U_23 Z_22 (Ht rfl) (Ht rfl) rfl (eQ (nY hd2))) (ro rfl (dV A_22 Z_22 (Ht rfl)) (ra rfl (eZ (ts (rm rfl (ro rfl (dK U_22 (Ht rfl) aA) (ro rfl (dF (Ht rfl) (cV 9)) (eZ (dX (Ht rfl) (fun he=>?_) (fun he=>?_))))))))))))))
    ·simp only [decide_eq_true_eq] at he
     refine ts (ro rfl (cX cW) (eZ (fG rfl (fZ (eY rfl) ?_))))
     exact (dN (Yh (nY hd2) he).symm)
    ·simp only [decide_eq_false_iff_not] at he
     refine cY (aT (dQ (ro rfl (dW (Ht rfl) (cV 1) z6) (rm rfl (eZ ?_)))))
     refine fY (k + 1) ⟨hd2, fun i r h1 h2 => by
       by_cases e:i = k
       ·subst e; rw [nY hd2] at h2; obtain rfl:=Option.some.inj h2; omega
       ·exact hr2 i r zo h2⟩ zo (zS rfl) (dD.refl _)
   ·simp only [decide_eq_false_iff_not] at hd2
    have hall2:∀ (i:Nat) (r:List Rt),c[i]? = some r → r.length ≤ 9:=fun i r h=>hr2 i r (by have:=(List.getElem?_eq_some_iff.1 h).1; omega) h
    refine gW rfl (ts (ro rfl (cX cW) (eZ (fG rfl (fZ (eY rfl) ?_)))))
    exact (dN (a19 hb hall hall2).symm)
theorem In {m:List Rt} (hm:m.length ≤ 1000):bL Tryz.prog 50 [pI m] (jA 5 ((m.map Rt.q).map QT)):=by
 refine bL.intro Tryz.func50 rfl Tryz.ntmps50 rfl (fun cx=>(ts (ro rfl (cX cW) (eZ (ts (ro rfl (cX cW) (eZ (cU (ts (rm rfl (ro rfl (dK U_22 (Ht rfl) aA) (ro rfl (cZ (cV 0)) (eZ (eK (rC 131 5 ?_)))))))))))))))
 refine kG (fun (k : Nat) (out : List (Qi)) (v : Value) => k ≤ m.length ∧ out = (m.map Rt.q).take k) (fun (k : Nat) (out : List (Qi)) (v : Value) => m.length - k) (fun (k : Nat) (out : List (Qi)) (v : Value) => [(3, Is v), (6, pI m), (7, NT .i64 m.length), (8, NT .i64 k)]) (fun (k : Nat) (out : List (Qi)) (v : Value) => [bN 131 5 v (out.map QT)]) 0 [] (.slice none 0 0) ⟨Nat.zero_le _, rfl⟩
  (zS rfl) (dD.refl _) (fun k out v ⟨hk,ho⟩=>?_)
 refine ts (ro rfl (gZ (Ht rfl) (Ht rfl)) (eZ (cU (dX (Ht rfl) (fun hd=>?_) (fun hd=>?_)))))
 ·simp only [decide_eq_true_eq] at hd
  have hol:out.length ≤ 1000:=by rw [ho,List.length_take]; omega
  refine cY (cU (eK (ts (ro rfl (dJ U_22 Z_102 (Ht rfl) (Ht rfl) rfl (eQ (dY (d:=default) hd))) (ro rfl (dV A_102 Z_102 (Ht rfl)) (rn rfl (eG (Ts:=[Is (.int .i64 0),Is (.int .i64 0),Is (.int .i64 0)]) O_102 rfl (fun V=>aW zd (aW zd (aW zd (aG))))) fun B5=>(gX Z_102 (Ht rfl) (Ht rfl) rfl (i:=1) rfl (aK rfl) rfl rfl (eZ (dQ (rm rfl (ro rfl (eW A_102 Z_102 (Ht rfl) (i:=1) rfl rfl rfl) ?_)))))))))))
  refine ro rfl (cJ Tryz.call151 a6R ⟨(Ht rfl),trivial⟩) (ro rfl (cA (xs:=[.tmp 14]) U_35 Z_131 O_131 (cG (Ht rfl) cK) rfl rfl rfl) (lC (inf:=Tryz.t131) Hh uU rfl rfl rfl (Ht rfl) (Ht rfl) (i:=0) rfl (by simp) (fun T hT=>by simp at hT; subst hT; exact El.ag rfl) (by show _ * 88 ≤ _; simp only [List.length_map,List.length_cons,List.length_nil]; omega) (by simp only [List.length_map,List.length_cons,List.length_nil]; omega) rfl (fun v2=>?_)))
  refine ra rfl (eZ (aT (dQ (ro rfl (dW (Ht rfl) (cV 1) z6) (rm rfl (eZ (bI [0] rfl (by decide) (fY (k + 1,_,v2) ⟨by omega,Hd (g:=Rt.q) hd ho⟩ (by dsimp only; omega) (zS rfl) (aU (aN (sL QT _ _)) aY)))))))))
 ·simp only [decide_eq_false_iff_not] at hd
  have hfin:=Hc ho (by simp only [List.length_map]; omega)
  refine gW rfl (gV (i:=0) (tt:=3) rfl rfl gK (ts (rm rfl (ra rfl (eZ (fG rfl (fZ (eY rfl) ?_)))))))
  exact (mB (by rw [hfin]))
theorem Io {m:List (List Rt)} (hm:m.length ≤ 1000) (hr:∀ r,r ∈ m → r.length ≤ 1000):bL Tryz.prog 91 [qC m] (jA 1 ((rq m).map wY)):=by
 refine bL.intro Tryz.func91 rfl Tryz.ntmps91 rfl (fun cx=>(ts (ro rfl (cX cW) (eZ (ts (ro rfl (cX cW) (eZ (cU (ts (rm rfl (ro rfl (dK U_23 (Ht rfl) aA) (ro rfl (cZ (cV 0)) (eZ (eK (rC 35 1 ?_)))))))))))))))
 refine kG (fun (k : Nat) (out : List (List Qi)) (v : Value) => k ≤ m.length ∧ out = (rq m).take k) (fun (k : Nat) (out : List (List Qi)) (v : Value) => m.length - k) (fun (k : Nat) (out : List (List Qi)) (v : Value) => [(3, Is v), (6, qC m), (7, NT .i64 m.length), (8, NT .i64 k)]) (fun (k : Nat) (out : List (List Qi)) (v : Value) => [bN 35 1 v (out.map wY)]) 0 [] (.slice none 0 0) ⟨Nat.zero_le _, rfl⟩
  (zS rfl) (dD.refl _) (fun k out v ⟨hk,ho⟩=>?_)
 refine ts (ro rfl (gZ (Ht rfl) (Ht rfl)) (eZ (cU (dX (Ht rfl) (fun hd=>?_) (fun hd=>?_)))))
 ·simp only [decide_eq_true_eq] at hd
  have hol:out.length ≤ 1000:=by rw [ho,List.length_take]; omega
  have hrk : (m.getD k default).length ≤ 1000 := by
   have e:m.getD k default = m[k]:=by simp [List.getD,hd]
   rw [e]; exact hr _ (List.getElem_mem hd)
  refine cY (cU (eK (ts (ro rfl (dJ U_23 Z_22 (Ht rfl) (Ht rfl) rfl (eQ (dY (d:=default) hd))) (ro rfl (dV A_22 Z_22 (Ht rfl)) (ra rfl (eZ (dQ (rm rfl (rm rfl (ro rfl (cJ Tryz.call50 (In zo) ⟨(Ht rfl),trivial⟩) (ro rfl (cA (xs:=[.tmp 14]) U_36 Z_35 Tryz.zeroValue35 (cG (Ht rfl) cK) rfl rfl rfl) (lC (inf:=Tryz.t35) a6q Vk rfl rfl rfl (Ht rfl) (Ht rfl) (i:=0) rfl (by simp) (fun T hT=>by simp at hT; subst hT; exact El.one) (by show _ * 24 ≤ _; simp only [List.length_map,List.length_cons,List.length_nil]; omega) (by simp only [List.length_map,List.length_cons,List.length_nil]; omega) rfl (fun v2=>?_))))))))))))))
  refine ra rfl (eZ (aT (dQ (ro rfl (dW (Ht rfl) (cV 1) z6) (rm rfl (eZ (bI [0] rfl (by decide) (fY (k + 1,_,v2) ⟨by omega,Hd (g:=(fun r=>r.map Rt.q)) hd ho⟩ (by dsimp only; omega) (zS rfl) (aU (aN (sL wY _ _)) aY)))))))))
 ·simp only [decide_eq_false_iff_not] at hd
  have hfin:=Hc ho (by simp only [List.length_map]; omega)
  refine gW rfl (gV (i:=0) (tt:=3) rfl rfl gK (ts (rm rfl (ra rfl (eZ (fG rfl (fZ (eY rfl) ?_)))))))
  exact (mB (by rw [hfin]))
end
section
open Go Go.RowKit
theorem vX {n : Nat} {E : dB} {H : Hp} {d : Option Tmp} {t : TypeId} {pos : String} {af : Array Edge} {g : Option (Nat × Bool)}  :
  aI Tryz.prog n E H ⟨d,.build 34 #[],t,pos,af,g⟩ (eI [Is (.slice none 0 0),Is (.slice none 0 0),Is (.slice none 0 0)]) :=
 fH (parts := []) fun a V w hs => by
  refine ⟨.agg #[(.slice none 0 0),(.slice none 0 0),(.slice none 0 0)],?_,[(.slice none 0 0),(.slice none 0 0),(.slice none 0 0)],rfl,aW (⟨rfl,trivial⟩) (aW (⟨rfl,trivial⟩) (aW (⟨rfl,trivial⟩) (aG)))⟩
  simp [Instr.build,Instr.fill,Sem.run_bind,Result.andThen,eL,O_34,U_34,Z_30,Z_32]
theorem a0g {n : Nat} {E : dB} {H : Hp} {d : Option Tmp} {t : TypeId} {pos : String} {af : Array Edge} {g : Option (Nat × Bool)} {x0 : Operand} {T0 T1 : Ty} (h0 : bH E x0 (eI [T0, T1])) :
  aI Tryz.prog n E H ⟨d,.build 34 #[(0,x0)],t,pos,af,g⟩ (eI [T0,T1,Is (.slice none 0 0)]) :=
 fH (parts := [(0, x0)]) fun a V w hs => by
  obtain ⟨v0,e0,c0⟩:=h0 n V a hs
  obtain ⟨c0_0,c0_1,rfl⟩:∃ c0_0 c0_1,v0 = [c0_0,c0_1]:=Bp (by simpa using c0.length)
  refine ⟨.agg #[c0_0,c0_1,(.slice none 0 0)],?_,[c0_0,c0_1,(.slice none 0 0)],rfl,aW (c0.at (i:=0) rfl rfl) (aW (c0.at (i:=1) rfl rfl) (aW (⟨rfl,trivial⟩) (aG)))⟩
  simp [e0,Instr.build,Instr.fill,Sem.run_bind,Result.andThen,eL,O_34,U_34,Z_30,Z_32]
end
section
open Go Go.RowKit
theorem Xw {r:List Qi} {c:List (List Qi)}:bL Tryz.prog 157 [aR r,PT (bM c)] (aH (!decide (r.length = c.length))):=by
 refine bL.intro Tryz.func157 rfl Tryz.ntmps157 rfl (fun cx=>(ts (ro rfl (cX cW) (eZ (ts (rm rfl (ro rfl (dK U_29 (Ht rfl) aA) (ro rfl (dV A_30 Z_30 (Ht rfl)) (ro rfl (dK U_30 (Ht rfl) aA) (ro rfl (fT (Ht rfl) (Ht rfl)) (ra rfl (eZ ?_))))))))))))
 exact fG rfl (eY rfl)
theorem Ek {z:List Qi} {s c:List (List Qi)} (hz:z.length ≤ 1000) (hc:c.length ≤ 1000):bL Tryz.prog 55 [jI z s,bM c] (fS [eR (cD (cT z c) z) (cD (cT z c) s) (cD (cT z c) c),aL .i64 (cT z c)]):=by
 refine bL.intro Tryz.func55 rfl Tryz.ntmps55 rfl (fun cx=>(ts (rn rfl (fK (Ht rfl)) fun B2=>(rn rfl (Fr (Ht rfl)) fun B3=>(rn rfl (eG (Ts:=[Is (.slice none 0 0),Is (.slice none 0 0),Is (.slice none 0 0)]) O_34 rfl (fun V=>aW zd (aW zd (aW zd (aG))))) fun B4=>(ro rfl (cX (cV 0)) (eZ (cU (cU (gV (i:=1) (tt:=3) rfl rfl nD (fJ (m:=8) (dp 3 rfl (dV A_30 Z_30 (Ht rfl)) (dq 9 0 rfl (dK U_30 (Ht rfl) aA) ?_)))))))))))))
 refine dp 2 rfl (eW A_32 Z_32 (Ht rfl) (i:=0) rfl rfl rfl) (dq 11 2 rfl (cJ K_22 lS ⟨(Ht rfl),trivial⟩) (dT 10 1 12 3 rfl (fT (Ht rfl) (Ht rfl)) (dq 13 4 rfl (cZ (Ht rfl)) (C.D_step (Ei:=[(3,_),(14,_)]) rfl rfl (bV (bK rfl rfl) (bV (bG 5 rfl rfl) bW)) (eU rfl rfl (Ht rfl) (fun h=>dV A_30 Z_30 (Ht rfl))) (C.D_step (Ei:=[(3,_),(14,_)]) rfl rfl (bV (bK rfl rfl) (bV (bG 5 rfl rfl) bW)) (eU rfl rfl (Ht rfl) (fun h=>pO (γ:=List Qi) (Ts:=fun r=>[aR r]) (U:=fun r=>aH (!decide (r.length = c.length))) Tryz.call157 (fun r=>Xw) ⟨(Ht rfl),trivial⟩)) ?_)))))
 refine fW bA rfl (by kernel_rfl) (zF (zF (aV (fX rfl rfl (eU rfl rfl (Ht rfl) (fun h=>cJ Tryz.call156 (wZ (l:=c) (T:=aR) (p:=fun r=>!decide (r.length = c.length)) zo) ⟨(fV rfl h),(fV rfl h),trivial⟩)) (ro rfl (fO (Ht rfl) (fun h=>(fV rfl h))) (eZ (dX (Ht rfl) (fun hb=>?_) (fun hb=>?_))))))))
 ·have he := Sf hb
  refine ts (ro rfl (aI.imp (vX ) pW) (gX Z_34 (Ht rfl) (Ht rfl) rfl (i:=2) rfl (aK rfl) rfl rfl (ro rfl (cX (cV 4)) (eZ (bR rfl (fZ (fU A_34 Z_34 rfl (i:=2) rfl rfl) ?_) (fZ (eY rfl) ?_))))))
  ·exact (Yt he)
  ·exact (aO he.symm)
 ·have he := Pa hb
  obtain ⟨hcl,hsh⟩:=Aj he
  refine cY (ts (ro rfl (eW A_32 Z_32 (Ht rfl) (i:=0) rfl rfl rfl) (ro rfl (a0g (Ht rfl)) (rn rfl (eG (Ts:=[Is (.slice none 0 0),Is (.slice none 0 0),Is (.slice none 0 0)]) O_34 rfl (fun V=>aW zd (aW zd (aW zd (aG))))) fun B6=>(gX Z_34 (Ht rfl) (Ht rfl) rfl (i:=3) rfl (aK rfl) rfl rfl (eZ (cU (ts (ro rfl (dV A_30 Z_30 (Ht rfl)) (ro rfl (dK U_30 (Ht rfl) aA) (ro rfl (cZ (cV 0)) ?_)))))))))))
  refine eZ (eK (bI [2,3] rfl (by decide) (rC 29 1 ?_)))
  refine kG (fun (k : Nat) (out : List (List Qi)) (v : Value) => k ≤ c.length ∧ out = c.take k) (fun (k : Nat) (out : List (List Qi)) (v : Value) => c.length - k) (fun (k : Nat) (out : List (List Qi)) (v : Value) => [(4, bF B4 0), (6, bF B6 0), (22, bM c), (23, NT .i64 c.length), (24, NT .i64 k)]) (fun (k : Nat) (out : List (List Qi)) (v : Value) => [box B4 34 [Is (.slice none 0 0), Is (.slice none 0 0), Is (.slice none 0 0)], box B6 34 [aR z, bM s, Is v], bN 29 1 v (out.map aR)]) 0 [] (.slice none 0 0) ⟨Nat.zero_le _, rfl⟩
   (zS rfl) (dD.refl _) (fun k out v ⟨hk,ho⟩=>?_)
  refine ts (ro rfl (gZ (Ht rfl) (Ht rfl)) (eZ (cU (dX (Ht rfl) (fun hd=>?_) (fun hd=>?_)))))
  ·simp only [decide_eq_true_eq] at hd
   have hol:out.length ≤ 1000:=by rw [ho,List.length_take]; omega
   have hrk : (c.getD k default).length ≤ 1000 := by
    have e:c.getD k default = c.getD k []:=rfl
    rw [e,hsh.row zo]; omega
   refine cY (cU (eK (ts (ro rfl (dJ U_30 Z_29 (Ht rfl) (Ht rfl) rfl (eQ (dY (d:=default) hd))) (ro rfl (dV A_29 Z_29 (Ht rfl)) (ra rfl (eZ (fJ (m:=5) (dp 6 rfl (eJ kI (Ht rfl) rfl) (dq 28 0 rfl (zA A_30 Z_30 (Ht rfl) (i:=1) rfl rfl) (dp 8 rfl (cZ (Ht rfl)) (dq 30 2 rfl (cJ Tryz.call158 (Ub zo) ⟨(Ht rfl),trivial⟩) (dq 31 3 rfl (cA (xs:=[.tmp 31]) U_30 Z_29 O_29 (cG (Ht rfl) cK) rfl rfl rfl) ?_)))))))))))))
   refine fW bA rfl (by kernel_rfl) (zF (aJ (aV (lC (inf:=Tryz.t29) Tg lV rfl rfl rfl (Ht rfl) (Ht rfl) (i:=2) rfl (by simp) (fun T hT=>by simp at hT; subst hT; exact El.one) (by show _ * 24 ≤ _; simp only [List.length_map,List.length_cons,List.length_nil]; omega) (by simp only [List.length_map,List.length_cons,List.length_nil]; omega) rfl (fun v2=>?_)))))
   refine ro rfl (eJ kI (Ht rfl) rfl) (a01 (l:=2) Z_30 (Ht rfl) (Ht rfl) (i:=1) rfl rfl (aK rfl) rfl (eZ (aT (dQ (ro rfl (dW (Ht rfl) (cV 1) z6) (rm rfl (eZ (fY (k + 1,_,v2) ⟨by omega,Tb hd ho⟩ (by dsimp only; omega) (zS rfl) (aU (aB rfl) (aU (aB rfl) (aU (aN (sL aR _ _)) aY)))))))))))
  ·simp only [decide_eq_false_iff_not] at hd
   have hfin:=Hc ho zo
   subst hfin
   refine gW rfl (cU (sJ 1 2 2 rfl rfl rfl (by decide) (dQ (ro rfl (eW A_34 Z_34 (Ht rfl) (i:=1) rfl rfl rfl) (gX Z_34 (Ht rfl) (Ht rfl) rfl (i:=0) rfl (aK rfl) rfl rfl (ro rfl (cX (cV 0)) (eZ (bR rfl (fZ (fU A_34 Z_34 rfl (i:=0) rfl rfl) ?_) (fZ (eY rfl) ?_)))))))))
   ·exact (Sg he)
   ·exact (aO he.symm)
end
section
open Go Go.RowKit
theorem yD {n : Nat} {E : dB} {H : Hp} {d : Option Tmp} {t : TypeId} {pos : String} {af : Array Edge} {g : Option (Nat × Bool)}  :
  aI Tryz.prog n E H ⟨d,.build 38 #[],t,pos,af,g⟩ (eI [Is (.slice none 0 0),Is (.slice none 0 0)]) :=
 fH (parts := []) fun a V w hs => by
  refine ⟨.agg #[(.slice none 0 0),(.slice none 0 0)],?_,[(.slice none 0 0),(.slice none 0 0)],rfl,aW (⟨rfl,trivial⟩) (aW (⟨rfl,trivial⟩) (aG))⟩
  simp [Instr.build,Instr.fill,Sem.run_bind,Result.andThen,eL,O_38,U_38,Z_35,Z_36]
theorem xI {n : Nat} {E : dB} {H : Hp} {d : Option Tmp} {t : TypeId} {pos : String} {af : Array Edge} {g : Option (Nat × Bool)} {x0 x1 : Operand} {T0 T1 : Ty} [s0 : dA T0 1 false] (h0 : bH E x0 T0) [s1 : dA T1 1 false] (h1 : bH E x1 T1) :
  aI Tryz.prog n E H ⟨d,.build 38 #[(0,x0),(1,x1)],t,pos,af,g⟩ (eI [T0,T1]) :=
 fH (parts := [(0, x0), (1, x1)]) fun a V w hs => by
  have p0:=h0 n V a hs
  generalize e0:a.eval x0 = v0 at p0
  have q0:=(s0.ok v0 V p0).2.2 rfl
  have p1:=h1 n V a hs
  generalize e1:a.eval x1 = v1 at p1
  have q1:=(s1.ok v1 V p1).2.2 rfl
  refine ⟨.agg #[v0,v1],?_,[v0,v1],rfl,aW (⟨p0,q0⟩) (aW (⟨p1,q1⟩) (aG))⟩
  simp [e0,e1,Instr.build,Instr.fill,Sem.run_bind,Result.andThen,eL,q0.cells,q1.cells,O_38,U_38,Z_35,Z_36]
theorem Ct {n : Nat} {E : dB} {H : Hp} {d : Option Tmp} {t : TypeId} {pos : String} {af : Array Edge} {g : Option (Nat × Bool)}  :
  aI Tryz.prog n E H ⟨d,.build 40 #[],t,pos,af,g⟩ (eI [Is (.slice none 0 0),Is (.slice none 0 0),Is (.slice none 0 0)]) :=
 fH (parts := []) fun a V w hs => by
  refine ⟨.agg #[(.slice none 0 0),(.slice none 0 0),(.slice none 0 0)],?_,[(.slice none 0 0),(.slice none 0 0),(.slice none 0 0)],rfl,aW (⟨rfl,trivial⟩) (aW (⟨rfl,trivial⟩) (aW (⟨rfl,trivial⟩) (aG)))⟩
  simp [Instr.build,Instr.fill,Sem.run_bind,Result.andThen,eL,O_40,U_40,Z_36,Z_38]
theorem xJ {n : Nat} {E : dB} {H : Hp} {d : Option Tmp} {t : TypeId} {pos : String} {af : Array Edge} {g : Option (Nat × Bool)} {x0 x1 : Operand} {T0 T1 T2 : Ty} (h0 : bH E x0 (eI [T0, T1])) [s1 : dA T2 1 false] (h1 : bH E x1 T2) :
  aI Tryz.prog n E H ⟨d,.build 40 #[(0,x0),(1,x1)],t,pos,af,g⟩ (eI [T0,T1,T2]) :=
 fH (parts := [(0, x0), (1, x1)]) fun a V w hs => by
  obtain ⟨v0,e0,c0⟩:=h0 n V a hs
  obtain ⟨c0_0,c0_1,rfl⟩:∃ c0_0 c0_1,v0 = [c0_0,c0_1]:=Bp (by simpa using c0.length)
  have p1:=h1 n V a hs
  generalize e1:a.eval x1 = v1 at p1
  have q1:=(s1.ok v1 V p1).2.2 rfl
  refine ⟨.agg #[c0_0,c0_1,v1],?_,[c0_0,c0_1,v1],rfl,aW (c0.at (i:=0) rfl rfl) (aW (c0.at (i:=1) rfl rfl) (aW (⟨p1,q1⟩) (aG)))⟩
  simp [e0,e1,Instr.build,Instr.fill,Sem.run_bind,Result.andThen,eL,q1.cells,O_40,U_40,Z_36,Z_38]
theorem kJ (a:Addr) (w:World):(Instr.fieldAt 38 (.pointer (some a)) 0).run Tryz.prog w = .ok (.pointer (some (a.add 0))) w:=by
 simp [Instr.fieldAt,Instr.sureAddr,fieldPlace,Sem.run_bind,Result.andThen,U_38,Z_35]
end
section
open Go Go.RowKit
theorem Nm {x:Qi} {L:Nat} [hx:aM x L] (h:L ≤ 17592186044415):bL Tryz.prog 250 [QT x] (aH (nJ x)):=by
 refine bL.intro Tryz.func250 rfl Tryz.ntmps250 rfl (fun cx=>(ts (rn rfl (fK (Ht rfl)) fun B1=>(ro rfl (cX cW) (eZ (ts (ro rfl (eW A_131 Z_131 (Ht rfl) (i:=0) rfl rfl rfl) (ro rfl (cJ Tryz.call242 (a2Y zo) ⟨(Ht rfl),trivial⟩) (ro rfl (iQ (Ht rfl) cW) (rm rfl (fX rfl rfl (eU rfl rfl (Ht rfl) (fun h=>eW A_131 Z_131 (Ht rfl) (i:=0) rfl rfl rfl)) (fX rfl rfl (eU rfl rfl (Ht rfl) (fun h=>cJ Tryz.call239 Um ⟨(fV rfl h),trivial⟩)) (fX rfl rfl (eU rfl rfl (Ht rfl) (fun h=>Bb (fV rfl h) cW)) ?_)))))))))))))
 refine ro rfl (dM (Ht rfl) (fun h=>(fV rfl h))) (ra rfl (eZ (fG rfl (fZ (eY rfl) ?_))))
 exact (dN (a4b x))
theorem a0C {z:List Qi} {s:List (List Qi)} (hz:z.length ≤ 100000) (hs:s.length ≤ 100000):bL Tryz.prog 189 [wY z,QM s] (aH (Gu z s)):=by
 refine bL.intro Tryz.func189 rfl Tryz.ntmps189 rfl (fun cx=>(ts (ro rfl (cX cW) (eZ (cU (ts (rm rfl (ro rfl (dK U_35 (Ht rfl) aA) (ro rfl (gZ (Ht rfl) (cV 1)) (rm rfl (fX rfl rfl (eU rfl rfl (Ht rfl) (fun h=>cZ (Ht rfl))) (fX rfl rfl (eU rfl rfl (Ht rfl) (fun h=>dK U_35 (fV rfl h) aA)) (fX rfl rfl (eU rfl rfl (Ht rfl) (fun h=>dF (fV rfl h) (cV 8))) (ro rfl (fO (Ht rfl) (fun h=>(fV rfl h))) (rm rfl (fX rfl rfl (eU rfl rfl (Ht rfl) (fun h=>cZ (Ht rfl))) ?_))))))))))))))))
 refine fX rfl rfl (eU rfl rfl (Ht rfl) (fun h=>dK U_36 (fV rfl h) aA)) (fX rfl rfl (eU rfl rfl (Ht rfl) (fun h=>cZ (Ht rfl))) (fX rfl rfl (eU rfl rfl (Ht rfl) (fun h=>dK U_35 (fV rfl h) aA)) (fX rfl rfl (eU rfl rfl (Ht rfl) (fun h=>fT (fV rfl h) (fV rfl h))) (ro rfl (fO (Ht rfl) (fun h=>(fV rfl h))) (eZ (dX (Ht rfl) (fun hb=>?_) (fun hb=>?_)))))))
 ·refine ts (ro rfl (cX cW) (eZ (fG rfl (fZ (eY rfl) ?_))))
  exact (dN (by rw [Gu,hb]; rfl))
 ·refine cY (cU (ts (ro rfl (cX (cV 0)) (eZ (eK ?_)))))
  refine bP (fun (k : Nat) => k ≤ s.length ∧ ∀ (i : Nat) (r : List Qi), i < k → s[i]? = some r → r.length = z.length) (fun (k : Nat) => s.length - k) (fun (k : Nat) => [(0, wY z), (1, QM s), (5, NT .i64 k)]) (fun (k : Nat) => []) 0 ⟨Nat.zero_le _, fun i r h => by omega⟩
   (zS rfl) aY (fun k ⟨hk,hr⟩=>?_)
  refine cU (ts (rm rfl (rm rfl (ro rfl (dK U_36 (Ht rfl) aA) (ro rfl (gZ (Ht rfl) (Ht rfl)) (eZ (dX (Ht rfl) (fun hc=>?_) (fun hc=>?_))))))))
  ·simp only [decide_eq_true_eq] at hc
   refine cY (cU (eK (ts (rm rfl (rm rfl (ro rfl (dJ U_36 Z_35 (Ht rfl) (Ht rfl) rfl (eQ (nY hc))) (ro rfl (dV A_35 Z_35 (Ht rfl)) (ro rfl (dK U_35 (Ht rfl) aA) (rm rfl (ro rfl (dK U_35 (Ht rfl) aA) (ro rfl (fT (Ht rfl) (Ht rfl)) (eZ (dX (Ht rfl) (fun hd=>?_) (fun hd=>?_))))))))))))))
   ·have hd2 : ¬ (s[k]).length = z.length := by simpa using hd
    refine ts (ro rfl (cX cW) (eZ (fG rfl (fZ (eY rfl) ?_))))
    exact (dN (by rw [Gu,Tu (nY hc) hd2,Bool.or_true]; rfl))
   ·have hd2 : (s[k]).length = z.length := by simpa using hd
    refine cY (aT (dQ (rm rfl (ro rfl (dW (Ht rfl) (cV 1) z6) (ra rfl (eZ ?_))))))
    refine fY (k + 1) ⟨hc, fun i r h1 h2 => by
     by_cases e:i = k
     ·subst e; rw [nY hc] at h2; obtain rfl:=Option.some.inj h2; exact hd2
     ·exact hr i r zo h2⟩ zo (zS rfl) aY
  ·simp only [decide_eq_false_iff_not] at hc
   have hall:∀ (i:Nat) (r:List Qi),s[i]? = some r → r.length = z.length:=fun i r h=>hr i r (by have:=(List.getElem?_eq_some_iff.1 h).1; omega) h
   refine gW rfl (ts (ro rfl (cX cW) (eZ (fG rfl (fZ (eY rfl) ?_)))))
   exact (dN (by rw [Gu,Mx hall,hb]; rfl))
theorem Hx {z:List Qi} {L:Nat} (hz:cH z L) (h:L ≤ 17592186044415) (hl:z.length ≤ 100000):bL Tryz.prog 190 [wY z] (aH (z.all nJ)):=by
 refine bL.intro Tryz.func190 rfl Tryz.ntmps190 rfl (fun cx=>(ts (ro rfl (cX cW) (eZ (cU (ts (ro rfl (cX (cV 0)) (eZ (eK ?_)))))))))
 refine bP (fun (k : Nat) => k ≤ z.length ∧ ∀ (i : Nat) (r : Qi), i < k → z[i]? = some r → nJ r = true) (fun (k : Nat) => z.length - k) (fun (k : Nat) => [(0, wY z), (3, NT .i64 k)]) (fun (k : Nat) => []) 0 ⟨Nat.zero_le _, fun i r h => by omega⟩
  (zS rfl) aY (fun k ⟨hk,hr⟩=>?_)
 refine cU (ts (rm rfl (rm rfl (ro rfl (dK U_35 (Ht rfl) aA) (ro rfl (gZ (Ht rfl) (Ht rfl)) (eZ (dX (Ht rfl) (fun hc=>?_) (fun hc=>?_))))))))
 ·simp only [decide_eq_true_eq] at hc
  haveI hf:aM z[k] L:=hz _ (List.getElem_mem hc)
  refine cY (cU (eK (ts (rm rfl (rm rfl (ro rfl (dJ U_35 Z_131 (Ht rfl) (Ht rfl) rfl (eQ (nY hc))) (ro rfl (dV A_131 Z_131 (Ht rfl)) (ro rfl (cJ Tryz.call250 (Nm (L:=L) h) ⟨(Ht rfl),trivial⟩) (ro rfl (fB (Ht rfl)) (eZ (dX (Ht rfl) (fun hd=>?_) (fun hd=>?_))))))))))))
  ·have hd2 : nJ z[k] = false := by simpa using hd
   refine ts (ro rfl (cX cW) (eZ (fG rfl (fZ (eY rfl) ?_))))
   exact (dN (a5d (nY hc) hd2).symm)
  ·have hd2 : nJ z[k] = true := by simpa using hd
   refine cY (aT (dQ (rm rfl (ro rfl (dW (Ht rfl) (cV 1) z6) (ra rfl (eZ ?_))))))
   refine fY (k + 1) ⟨hc, fun i r h1 h2 => by
    by_cases e:i = k
    ·subst e; rw [nY hc] at h2; obtain rfl:=Option.some.inj h2; exact hd2
    ·exact hr i r zo h2⟩ zo (zS rfl) aY
 ·simp only [decide_eq_false_iff_not] at hc
  have hall:∀ (i:Nat) (r:Qi),z[i]? = some r → nJ r = true:=fun i r h=>hr i r (by have:=(List.getElem?_eq_some_iff.1 h).1; omega) h
  refine gW rfl (ts (ro rfl (cX cW) (eZ (fG rfl (fZ (eY rfl) ?_)))))
  exact (dN (a2D hall).symm)
theorem Ya {z:List Qi} {s:List (List Qi)} {L:Nat} (hz:cH z L) (h:L ≤ 17592186044415) (hl:z.length ≤ 1000) (hl2:s.length ≤ 1000):bL Tryz.prog 90 [wY z,QM s] (fS [oT (cD (cE z s) z) (cD (cE z s) s),aL .i64 (cE z s)]):=by
 refine bL.intro Tryz.func90 rfl Tryz.ntmps90 rfl (fun cx=>(ts (rn rfl (eG (Ts:=[Is (.slice none 0 0),Is (.slice none 0 0)]) O_38 rfl (fun V=>aW zd (aW zd (aG)))) fun B4=>(ro rfl (cX (cV 0)) (eZ (cU (ts (rm rfl (rm rfl (ro rfl (cJ Tryz.call189 (a0C zo zo) ⟨(Ht rfl),(Ht rfl),trivial⟩) (ro rfl (fB (Ht rfl)) (eZ (dX (Ht rfl) (fun hb=>?_) (fun hb=>?_))))))))))))))
 ·have hb2 : ¬ Gu z s = true := by simpa using hb
  have he:cE z s = 4:=by rw [Ah,if_neg hb2]
  refine ts (ro rfl (aI.imp (yD ) vH) (gX Z_38 (Ht rfl) (Ht rfl) rfl (i:=0) rfl (aK rfl) rfl rfl (ro rfl (cX (cV 4)) (eZ (bR rfl (fZ (fU A_38 Z_38 rfl (i:=0) rfl rfl) ?_) (fZ (eY rfl) ?_))))))
  ·exact (Pp he (by decide))
  ·exact (aO he.symm)
 ·have hb2 : Gu z s = true := by simpa using hb
  refine cY (cU (ts (rm rfl (ro rfl (cJ Tryz.call190 (Hx (by assumption) (by assumption) zo) ⟨(Ht rfl),trivial⟩) ?_))))
  refine ro rfl (fB (Ht rfl)) (eZ (dX (Ht rfl) (fun hc=>?_) (fun hc=>?_)))
  ·have hc2 : ¬ z.all nJ = true := by simp only [Bool.not_eq_true'] at hc; rw [hc]; exact Bool.noConfusion
   have he:cE z s = 1:=by rw [Ah,if_pos hb2,if_neg hc2]
   refine ts (ro rfl (aI.imp (yD ) vH) (gX Z_38 (Ht rfl) (Ht rfl) rfl (i:=0) rfl (aK rfl) rfl rfl (ro rfl (cX (cV 1)) (eZ (bR rfl (fZ (fU A_38 Z_38 rfl (i:=0) rfl rfl) ?_) (fZ (eY rfl) ?_))))))
   ·exact (Pp he (by decide))
   ·exact (aO he.symm)
  ·have hc2 : z.all nJ = true := by simp only [Bool.not_eq_false'] at hc; exact hc
   have he:cE z s = 0:=by rw [Ah,if_pos hb2,if_pos hc2]
   refine cY (ts (rm rfl (rm rfl (ro rfl (xI (Ht rfl) (Ht rfl)) (gX Z_38 (Ht rfl) (Ht rfl) rfl (i:=0) rfl (aK rfl) rfl rfl (ro rfl (cX (cV 0)) (eZ (bR rfl (fZ (fU A_38 Z_38 rfl (i:=0) rfl rfl) ?_) (fZ (eY rfl) ?_)))))))))
   ·exact (Ze he)
   ·exact (aO he.symm)
theorem Yb {z:List Qi} {s c:List (List Qi)} (hz:z.length ≤ 1000) (hc:c.length ≤ 1000):bL Tryz.prog 92 [oT z s,QM c] (fS [lP (cD (cT z c) z) (cD (cT z c) s) (cD (cT z c) c),aL .i64 (cT z c)]):=by
 refine bL.intro Tryz.func92 rfl Tryz.ntmps92 rfl (fun cx=>(ts (rn rfl (fK (Ht rfl)) fun B2=>(rn rfl (eG (Ts:=[Is (.slice none 0 0),Is (.slice none 0 0),Is (.slice none 0 0)]) O_40 rfl (fun V=>aW zd (aW zd (aW zd (aG))))) fun B4=>(ro rfl (cX (cV 0)) (eZ (cU (ts (rm rfl (ro rfl (dK U_36 (Ht rfl) aA) (ro rfl (eJ kJ (Ht rfl) rfl) (ro rfl (fQ A_35 Z_35 (Ht rfl) (i:=0) rfl rfl) (ro rfl (dK U_35 (Ht rfl) aA) ?_)))))))))))))
 refine ro rfl (fT (Ht rfl) (Ht rfl)) (eZ (dX (Ht rfl) (fun hb=>?_) (fun hb=>?_)))
 ·have hb2 : ¬ c.length = z.length := by simpa using hb
  have he:cT z c = 4:=by rw [← xU,zJ,if_pos (.inl hb2)]
  refine ts (ro rfl (aI.imp (Ct ) tY) (gX Z_40 (Ht rfl) (Ht rfl) rfl (i:=1) rfl (aK rfl) rfl rfl (ro rfl (cX (cV 4)) (eZ (bR rfl (fZ (fU A_40 Z_40 rfl (i:=1) rfl rfl) ?_) (fZ (eY rfl) ?_))))))
  ·exact (Gq he)
  ·exact (aO he.symm)
 ·have hb2 : c.length = z.length := by simpa using hb
  refine cY (cU (ts (ro rfl (cX (cV 0)) (eZ (eK ?_)))))
  refine bP (fun (k : Nat) => k ≤ c.length ∧ ∀ (i : Nat) (r : List Qi), i < k → c[i]? = some r → r.length = z.length) (fun (k : Nat) => c.length - k) (fun (k : Nat) => [(1, QM c), (2, bF B2 0), (4, bF B4 0), (6, NT .i64 k)]) (fun (k : Nat) => [box B2 38 [wY z, QM s], box B4 40 [Is (.slice none 0 0), Is (.slice none 0 0), Is (.slice none 0 0)]]) 0 ⟨Nat.zero_le _, fun i r h => by omega⟩
   (zS rfl) (dD.refl _) (fun k ⟨hk,hr⟩=>?_)
  refine cU (ts (rm rfl (rm rfl (ro rfl (dK U_36 (Ht rfl) aA) (ro rfl (gZ (Ht rfl) (Ht rfl)) (eZ (dX (Ht rfl) (fun hd=>?_) (fun hd=>?_))))))))
  ·simp only [decide_eq_true_eq] at hd
   refine cY (cU (eK (cU (fJ (m:=8) (dp 1 rfl (cZ (Ht rfl)) (dp 6 rfl (cZ (Ht rfl)) (dT 20 0 21 1 rfl (dJ U_36 Z_35 (Ht rfl) (Ht rfl) rfl (eQ (nY hd))) (dq 22 2 rfl (dV A_35 Z_35 (Ht rfl)) (dq 23 3 rfl (dK U_35 (Ht rfl) aA) (dp 2 rfl (eJ kJ (Ht rfl) rfl) (dq 25 5 rfl (fQ A_35 Z_35 (Ht rfl) (i:=0) rfl rfl) (dq 26 6 rfl (dK U_35 (Ht rfl) aA) (fW bA rfl (by kernel_rfl) (zF (zF (aV ?_))))))))))))))))
   refine ro rfl (fT (Ht rfl) (Ht rfl)) (eZ (dX (Ht rfl) (fun he=>?_) (fun he=>?_)))
   ·have hd2 : ¬ (c[k]).length = z.length := by simpa using he
    have he:cT z c = 4:=by rw [← xU,zJ,if_pos (.inr (Tu (nY hd) hd2))]
    refine ts (ro rfl (aI.imp (Ct ) tY) (gX Z_40 (Ht rfl) (Ht rfl) rfl (i:=1) rfl (aK rfl) rfl rfl (ro rfl (cX (cV 4)) (eZ (bR rfl (fZ (fU A_40 Z_40 rfl (i:=1) rfl rfl) ?_) (fZ (eY rfl) ?_))))))
    ·exact (Gq he)
    ·exact (aO he.symm)
   ·have hd2 : (c[k]).length = z.length := by simpa using he
    refine cY (aT (dQ (rm rfl (ro rfl (dW (Ht rfl) (cV 1) z6) (ra rfl (eZ ?_))))))
    refine fY (k + 1) ⟨hd, fun i r h1 h2 => by
      by_cases e:i = k
      ·subst e; rw [nY hd] at h2; obtain rfl:=Option.some.inj h2; exact hd2
      ·exact hr i r zo h2⟩ zo (zS rfl) (dD.refl _)
  ·simp only [decide_eq_false_iff_not] at hd
   have hall:∀ (i:Nat) (r:List Qi),c[i]? = some r → r.length = z.length:=fun i r h=>hr i r (by have:=(List.getElem?_eq_some_iff.1 h).1; omega) h
   have he:cT z c = 0:=by rw [← xU,zJ,if_neg (by rintro (h | h); exact h hb2; rw [Mx hall] at h; cases h)]
   refine gW rfl (ts (ro rfl (eW A_38 Z_38 (Ht rfl) (i:=0) rfl rfl rfl) (rm rfl (ro rfl (xJ (Ht rfl) (Ht rfl)) (gX Z_40 (Ht rfl) (Ht rfl) rfl (i:=1) rfl (aK rfl) rfl rfl (ro rfl (cX (cV 0)) (eZ (bR rfl (fZ (fU A_40 Z_40 rfl (i:=1) rfl rfl) ?_) (fZ (eY rfl) ?_)))))))))
   ·exact (Pr he)
   ·exact (aO he.symm)
end
section
open Go Go.RowKit
theorem xL {z:List Rt} {s c:List (List Rt)} (hf:nQ z s c = true):bL Tryz.prog 17 [Bx z s c] (fS [eR (uH z s c) (Ji z s c) (Vv z s c),lP (uH z s c) (Ji z s c) (Vv z s c),aH true]):=by
 obtain ⟨hz,hs,hc,hsr,hcr⟩:=Da hf
 have hsr2:∀ r,r ∈ s → r.length ≤ 1000:=fun r h=>Nat.le_trans (hsr r h) (by decide)
 have hcr2:∀ r,r ∈ c → r.length ≤ 1000:=fun r h=>Nat.le_trans (hcr r h) (by decide)
 have hz1:(z.map Rt.q).length ≤ 1000:=by simp; omega
 have hs1:(rq s).length ≤ 1000:=by simp; omega
 have hc1:(rq c).length ≤ 1000:=by simp; omega
 have hz2:(cD (cE (z.map Rt.q) (rq s)) (z.map Rt.q)).length ≤ 1000:=Nat.le_trans (yY _ _) hz1
 have hfit:cH (z.map Rt.q) 2:=cH.rt
 refine bL.intro Tryz.func17 rfl Tryz.ntmps17 rfl (fun cx=>(ts (rn rfl (fK (Ht rfl)) fun B1=>(rn rfl (eG (Ts:=[Is (.slice none 0 0),Is (.slice none 0 0),Is (.slice none 0 0)]) O_34 rfl (fun V=>aW zd (aW zd (aW zd (aG))))) fun B2=>(rn rfl (eG (Ts:=[Is (.slice none 0 0),Is (.slice none 0 0),Is (.slice none 0 0)]) O_40 rfl (fun V=>aW zd (aW zd (aW zd (aG))))) fun B3=>(ro rfl (cX cW) ?_))))))
 refine eZ (cU (Y.D_start (m:=12) [] (cQ (Ei:=[(1,_)]) rfl rfl (bQ (bJ rfl rfl) bX) rfl rfl (dZ rfl (eJ iK (Ht rfl) rfl)) (cQ (Ei:=[(14,_)]) rfl rfl (bQ (bZ 0 rfl rfl) bX) rfl rfl (dZ rfl (fQ A_22 Z_22 (Ht rfl) (i:=0) rfl rfl)) (cQ (Ei:=[(15,_)]) rfl rfl (bQ (bZ 1 rfl rfl) bX) rfl rfl (dZ rfl (cJ Tryz.call48 (zU zo) ⟨(Ht rfl),trivial⟩)) (cQ (Ei:=[(1,_)]) rfl rfl (bQ (bJ rfl rfl) bX) rfl rfl (dZ rfl (eJ wG (Ht rfl) rfl)) ?_))))))
 refine cQ (Ei:=[(17,_)]) rfl rfl (bQ (bZ 3 rfl rfl) bX) rfl rfl (dZ rfl (fQ A_23 Z_23 (Ht rfl) (i:=0) rfl rfl)) (cQ (Ei:=[(18,_)]) rfl rfl (bQ (bZ 4 rfl rfl) bX) rfl rfl (dZ rfl (cJ Tryz.call86 (zV zo (by assumption)) ⟨(Ht rfl),trivial⟩)) ?_)
 refine cQ (Ei:=[(16,_),(19,_)]) rfl rfl (bQ (bZ 2 rfl rfl) (bQ (bZ 5 rfl rfl) bX)) rfl rfl (dZ rfl (cJ Tryz.call85 (Nj (L:=2) (by assumption) zo zo zo) ⟨(Ht rfl),(Ht rfl),trivial⟩)) ?_
 refine cQ (Ei:=[(20,_)]) rfl rfl (bQ (bZ 6 rfl rfl) bX) rfl rfl (dZ rfl (cZ (Ht rfl))) (cQ (Ei:=[(13,_)]) rfl rfl (bQ (bZ 7 rfl rfl) bX) rfl rfl (dZ rfl (dU (Ht rfl) rfl)) (cQ (Ei:=[(13,_)]) rfl rfl (bQ (bZ 7 rfl rfl) bX) rfl rfl (dZ rfl (dU (Ht rfl) rfl)) (Y.D_newp (Ei:=[]) (fun bb=>box bb 32 [aR (cD (cE (z.map Rt.q) (rq s)) (z.map Rt.q)),bM (cD (cE (z.map Rt.q) (rq s)) (rq s))]) 11 rfl rfl rfl bX rfl rfl (by kernel_rfl) (eG (Ts:=[Is (.slice none 0 0),Is (.slice none 0 0)]) O_32 rfl (fun V=>aW zd (aW zd (aG)))) ?_)))
 refine Y.D_putN (Ei:=[(21,_)]) 10 rfl rfl rfl rfl rfl rfl (bQ (bZ 8 rfl rfl) bX) (fun bb=>qB Z_32 (Ht rfl) (Ht rfl) rfl (i:=0) rfl (aK rfl) rfl rfl) (Y.D_done bA rfl (by kernel_rfl) rfl (by simp [Y.okP]) rfl rfl (bU (bU (bU (bU (bU (bU (bU (bU (bU (bU (Y.F_newp (fun B5=>Y.F_putN (Y.F_nil ?_))))))))))))))
 refine ra rfl (eZ (cU (Y.D_start (m:=10) [] (cQ (Ei:=[(5,_)]) rfl rfl (bQ (bJ rfl rfl) bX) rfl rfl (dZ rfl (eW A_32 Z_32 (Ht rfl) (i:=3) rfl rfl rfl)) (cQ (Ei:=[(1,_)]) rfl rfl (bQ (bJ rfl rfl) bX) rfl rfl (dZ rfl (eJ tM (Ht rfl) rfl)) (cQ (Ei:=[(25,_)]) rfl rfl (bQ (bZ 1 rfl rfl) bX) rfl rfl (dZ rfl (fQ A_23 Z_23 (Ht rfl) (i:=0) rfl rfl)) (cQ (Ei:=[(26,_)]) rfl rfl (bQ (bZ 2 rfl rfl) bX) rfl rfl (dZ rfl (cJ Tryz.call86 (zV zo (by assumption)) ⟨(Ht rfl),trivial⟩)) ?_)))))))
 refine cQ (Ei:=[(24,_),(27,_)]) rfl rfl (bQ (bZ 0 rfl rfl) (bQ (bZ 3 rfl rfl) bX)) rfl rfl (dZ rfl (cJ Tryz.call55 (Ek zo zo) ⟨(Ht rfl),(Ht rfl),trivial⟩)) (cQ (Ei:=[(28,_)]) rfl rfl (bQ (bZ 4 rfl rfl) bX) rfl rfl (dZ rfl (cZ (Ht rfl))) (cQ (Ei:=[(23,_)]) rfl rfl (bQ (bZ 5 rfl rfl) bX) rfl rfl (dZ rfl (dU (Ht rfl) rfl)) (cQ (Ei:=[(23,_)]) rfl rfl (bQ (bZ 5 rfl rfl) bX) rfl rfl (dZ rfl (dU (Ht rfl) rfl)) ?_)))
 refine Y.D_newp (Ei:=[]) (fun bb=>box bb 34 [aR (cD (cT (cD (cE (z.map Rt.q) (rq s)) (z.map Rt.q)) (rq c)) (cD (cE (z.map Rt.q) (rq s)) (z.map Rt.q))),bM (cD (cT (cD (cE (z.map Rt.q) (rq s)) (z.map Rt.q)) (rq c)) (cD (cE (z.map Rt.q) (rq s)) (rq s))),bM (cD (cT (cD (cE (z.map Rt.q) (rq s)) (z.map Rt.q)) (rq c)) (rq c))]) 9 rfl rfl rfl bX rfl rfl (by kernel_rfl) (eG (Ts:=[Is (.slice none 0 0),Is (.slice none 0 0),Is (.slice none 0 0)]) O_34 rfl (fun V=>aW zd (aW zd (aW zd (aG))))) ?_
 refine Y.D_putN (Ei:=[(29,_)]) 8 rfl rfl rfl rfl rfl rfl (bQ (bZ 6 rfl rfl) bX) (fun bb=>qB Z_34 (Ht rfl) (Ht rfl) rfl (i:=0) rfl (aK rfl) rfl rfl) (Y.D_done bA rfl (by kernel_rfl) rfl (by simp [Y.okP]) rfl rfl (bU (bU (bU (bU (bU (bU (bU (bU (Y.F_newp (fun B7=>Y.F_putN (Y.F_nil ?_))))))))))))
 refine ra rfl (eZ (cU (Y.D_start (m:=12) [] (cQ (Ei:=[(1,_)]) rfl rfl (bQ (bJ rfl rfl) bX) rfl rfl (dZ rfl (eJ iK (Ht rfl) rfl)) (cQ (Ei:=[(32,_)]) rfl rfl (bQ (bZ 0 rfl rfl) bX) rfl rfl (dZ rfl (fQ A_22 Z_22 (Ht rfl) (i:=0) rfl rfl)) (cQ (Ei:=[(33,_)]) rfl rfl (bQ (bZ 1 rfl rfl) bX) rfl rfl (dZ rfl (cJ Tryz.call50 (In zo) ⟨(Ht rfl),trivial⟩)) (cQ (Ei:=[(1,_)]) rfl rfl (bQ (bJ rfl rfl) bX) rfl rfl (dZ rfl (eJ wG (Ht rfl) rfl)) ?_)))))))
 refine cQ (Ei:=[(35,_)]) rfl rfl (bQ (bZ 3 rfl rfl) bX) rfl rfl (dZ rfl (fQ A_23 Z_23 (Ht rfl) (i:=0) rfl rfl)) (cQ (Ei:=[(36,_)]) rfl rfl (bQ (bZ 4 rfl rfl) bX) rfl rfl (dZ rfl (cJ Tryz.call91 (Io zo (by assumption)) ⟨(Ht rfl),trivial⟩)) ?_)
 refine cQ (Ei:=[(34,_),(37,_)]) rfl rfl (bQ (bZ 2 rfl rfl) (bQ (bZ 5 rfl rfl) bX)) rfl rfl (dZ rfl (cJ Tryz.call90 (Ya (L:=2) (by assumption) zo zo zo) ⟨(Ht rfl),(Ht rfl),trivial⟩)) ?_
 refine cQ (Ei:=[(38,_)]) rfl rfl (bQ (bZ 6 rfl rfl) bX) rfl rfl (dZ rfl (cZ (Ht rfl))) (cQ (Ei:=[(31,_)]) rfl rfl (bQ (bZ 7 rfl rfl) bX) rfl rfl (dZ rfl (dU (Ht rfl) rfl)) (cQ (Ei:=[(31,_)]) rfl rfl (bQ (bZ 7 rfl rfl) bX) rfl rfl (dZ rfl (dU (Ht rfl) rfl)) (Y.D_newp (Ei:=[]) (fun bb=>box bb 38 [wY (cD (cE (z.map Rt.q) (rq s)) (z.map Rt.q)),QM (cD (cE (z.map Rt.q) (rq s)) (rq s))]) 11 rfl rfl rfl bX rfl rfl (by kernel_rfl) (eG (Ts:=[Is (.slice none 0 0),Is (.slice none 0 0)]) O_38 rfl (fun V=>aW zd (aW zd (aG)))) ?_)))
 refine Y.D_putN (Ei:=[(39,_)]) 10 rfl rfl rfl rfl rfl rfl (bQ (bZ 8 rfl rfl) bX) (fun bb=>qB Z_38 (Ht rfl) (Ht rfl) rfl (i:=0) rfl (aK rfl) rfl rfl) (Y.D_done bA rfl (by kernel_rfl) rfl (by simp [Y.okP]) rfl rfl (bU (bU (bU (bU (bU (bU (bU (bU (bU (bU (Y.F_newp (fun B9=>Y.F_putN (Y.F_nil ?_))))))))))))))
 refine ra rfl (eZ (cU (Y.D_start (m:=10) [] (cQ (Ei:=[(9,_)]) rfl rfl (bQ (bJ rfl rfl) bX) rfl rfl (dZ rfl (eW A_38 Z_38 (Ht rfl) (i:=5) rfl rfl rfl)) (cQ (Ei:=[(1,_)]) rfl rfl (bQ (bJ rfl rfl) bX) rfl rfl (dZ rfl (eJ tM (Ht rfl) rfl)) (cQ (Ei:=[(43,_)]) rfl rfl (bQ (bZ 1 rfl rfl) bX) rfl rfl (dZ rfl (fQ A_23 Z_23 (Ht rfl) (i:=0) rfl rfl)) (cQ (Ei:=[(44,_)]) rfl rfl (bQ (bZ 2 rfl rfl) bX) rfl rfl (dZ rfl (cJ Tryz.call91 (Io zo (by assumption)) ⟨(Ht rfl),trivial⟩)) ?_)))))))
 refine cQ (Ei:=[(42,_),(45,_)]) rfl rfl (bQ (bZ 0 rfl rfl) (bQ (bZ 3 rfl rfl) bX)) rfl rfl (dZ rfl (cJ Tryz.call92 (Yb zo zo) ⟨(Ht rfl),(Ht rfl),trivial⟩)) (cQ (Ei:=[(46,_)]) rfl rfl (bQ (bZ 4 rfl rfl) bX) rfl rfl (dZ rfl (cZ (Ht rfl))) (cQ (Ei:=[(41,_)]) rfl rfl (bQ (bZ 5 rfl rfl) bX) rfl rfl (dZ rfl (dU (Ht rfl) rfl)) (cQ (Ei:=[(41,_)]) rfl rfl (bQ (bZ 5 rfl rfl) bX) rfl rfl (dZ rfl (dU (Ht rfl) rfl)) ?_)))
 refine Y.D_newp (Ei:=[]) (fun bb=>box bb 40 [wY (cD (cT (cD (cE (z.map Rt.q) (rq s)) (z.map Rt.q)) (rq c)) (cD (cE (z.map Rt.q) (rq s)) (z.map Rt.q))),QM (cD (cT (cD (cE (z.map Rt.q) (rq s)) (z.map Rt.q)) (rq c)) (cD (cE (z.map Rt.q) (rq s)) (rq s))),QM (cD (cT (cD (cE (z.map Rt.q) (rq s)) (z.map Rt.q)) (rq c)) (rq c))]) 9 rfl rfl rfl bX rfl rfl (by kernel_rfl) (eG (Ts:=[Is (.slice none 0 0),Is (.slice none 0 0),Is (.slice none 0 0)]) O_40 rfl (fun V=>aW zd (aW zd (aW zd (aG))))) ?_
 refine Y.D_putN (Ei:=[(47,_)]) 8 rfl rfl rfl rfl rfl rfl (bQ (bZ 6 rfl rfl) bX) (fun bb=>qB Z_40 (Ht rfl) (Ht rfl) rfl (i:=0) rfl (aK rfl) rfl rfl) (Y.D_done bA rfl (by kernel_rfl) rfl (by simp [Y.okP]) rfl rfl (bU (bU (bU (bU (bU (bU (bU (bU (Y.F_newp (fun B11=>Y.F_putN (Y.F_nil ?_))))))))))))
 refine ra rfl (eZ (cU (Y.D_start (m:=16) [(14,1,box B2 34 [aR (cD (cT (cD (cE (z.map Rt.q) (rq s)) (z.map Rt.q)) (rq c)) (cD (cE (z.map Rt.q) (rq s)) (z.map Rt.q))),bM (cD (cT (cD (cE (z.map Rt.q) (rq s)) (z.map Rt.q)) (rq c)) (cD (cE (z.map Rt.q) (rq s)) (rq s))),bM (cD (cT (cD (cE (z.map Rt.q) (rq s)) (z.map Rt.q)) (rq c)) (rq c))]),(15,2,box B3 40 [wY (cD (cT (cD (cE (z.map Rt.q) (rq s)) (z.map Rt.q)) (rq c)) (cD (cE (z.map Rt.q) (rq s)) (z.map Rt.q))),QM (cD (cT (cD (cE (z.map Rt.q) (rq s)) (z.map Rt.q)) (rq c)) (cD (cE (z.map Rt.q) (rq s)) (rq s))),QM (cD (cT (cD (cE (z.map Rt.q) (rq s)) (z.map Rt.q)) (rq c)) (rq c))])] ?_)))
 refine Y.D_step (Ei:=[(7,_)]) rfl rfl (bQ (bJ rfl rfl) bX) rfl rfl (by kernel_rfl) (dZ rfl (eW A_34 Z_34 (Ht rfl) (i:=4) rfl rfl rfl)) (cQ (Ei:=[(11,_)]) rfl rfl (bQ (bJ rfl rfl) bX) rfl rfl (dZ rfl (eW A_40 Z_40 (Ht rfl) (i:=6) rfl rfl rfl)) (Y.D_step (Ei:=[(6,_)]) rfl rfl (bQ (bJ rfl rfl) bX) rfl rfl (by kernel_rfl) (dZ rfl (cZ (Ht rfl))) (Y.D_step (Ei:=[(10,_)]) rfl rfl (bQ (bJ rfl rfl) bX) rfl rfl (by kernel_rfl) (dZ rfl (cZ (Ht rfl))) ?_)))
 refine Y.D_step (Ei:=[(51,_),(52,_)]) rfl rfl (bQ (bZ 2 rfl rfl) (bQ (bZ 3 rfl rfl) bX)) rfl rfl (by kernel_rfl) (dZ rfl (iQ (Ht rfl) (Ht rfl))) (Y.D_step (Ei:=[(53,_)]) rfl rfl (bQ (bZ 4 rfl rfl) bX) rfl rfl (by kernel_rfl) (dZ rfl (cZ (Ht rfl))) (Y.D_step (Ei:=[(6,_),(54,_)]) rfl rfl (bQ (bJ rfl rfl) (bQ (bZ 5 rfl rfl) bX)) rfl rfl (by kernel_rfl) (lR rfl rfl (Ht rfl) (fun h=>cZ (Ht rfl))) (Y.D_step (Ei:=[(55,_),(54,_)]) rfl rfl (bQ (bZ 6 rfl rfl) (bQ (bZ 5 rfl rfl) bX)) rfl rfl (by kernel_rfl) (lR rfl rfl (Ht rfl) (fun h=>gD (bH.wu rfl h) cW)) ?_)))
 refine Y.D_step (Ei:=[(56,_),(54,_)]) rfl rfl (bQ (bZ 7 rfl rfl) (bQ (bZ 5 rfl rfl) bX)) rfl rfl (by kernel_rfl) (lR rfl rfl (Ht rfl) (fun h=>cZ (bH.wu rfl h))) (cQ (Ei:=[(8,_),(57,_)]) rfl rfl (bQ (bJ rfl rfl) (bQ (bZ 8 rfl rfl) bX)) rfl rfl (rB rfl rfl rfl (fun h h2=>cZ (Ht rfl))) (cQ (Ei:=[(12,_),(57,_)]) rfl rfl (bQ (bJ rfl rfl) (bQ (bZ 8 rfl rfl) bX)) rfl rfl (rB rfl rfl rfl (fun h h2=>cZ (Ht rfl))) (cQ (Ei:=[(58,_),(59,_),(57,_)]) rfl rfl (bQ (bZ 9 rfl rfl) (bQ (bZ 10 rfl rfl) (bQ (bZ 8 rfl rfl) bX))) rfl rfl (rB rfl rfl rfl (fun h h2=>iQ (bH.wu rfl ⟨h,h2⟩) (bH.wu rfl ⟨h,h2⟩))) ?_)))
 refine cQ (Ei:=[(57,_),(60,_),(54,_)]) rfl rfl (bQ (bZ 8 rfl rfl) (bQ (bZ 11 rfl rfl) (bQ (bZ 5 rfl rfl) bX))) rfl rfl (lR rfl rfl (Ht rfl) (fun h=>fO (bH.wu rfl h) (fun h2=>(bH.wu rfl ⟨h,h2⟩)))) (cQ (Ei:=[(54,_),(61,_)]) rfl rfl (bQ (bZ 5 rfl rfl) (bQ (bZ 12 rfl rfl) bX)) rfl rfl (dZ rfl (dM (Ht rfl) (fun h=>(bH.wu rfl h)))) (Y.D_putI (Ei:=[(2,_),(49,_)]) 1 rfl rfl rfl (bQ (bJ rfl rfl) (bQ (bZ 0 rfl rfl) bX)) (.head _) rfl (qB Z_34 (Ht rfl) (Ht rfl) rfl (i:=0) rfl (aK rfl) rfl rfl) ?_))
 refine Y.D_putI (Ei:=[(3,_),(50,_)]) 2 rfl rfl rfl (bQ (bJ rfl rfl) (bQ (bZ 1 rfl rfl) bX)) (.tail _ (.head _)) rfl (qB Z_40 (Ht rfl) (Ht rfl) rfl (i:=0) rfl (aK rfl) rfl rfl) (Y.D_done bA rfl (by kernel_rfl) rfl (by simp [Y.okP]) rfl rfl (bU (bU (bU (bU (bU (bU (bU (bU (bU (bU (bU (bU (bU (bU (Y.F_putI (Y.F_putI (Y.F_nil ?_))))))))))))))))))
 refine ra rfl (eZ (a5b rfl (fU A_34 Z_34 rfl (i:=1) rfl rfl) (fU A_40 Z_40 rfl (i:=2) rfl rfl) (fZ (eY rfl) ?_)))
 exact (dN (by simp))
end
section
open Go Go.RowKit
theorem tN (a:Addr) (w:World):(Instr.fieldAt 38 (.pointer (some a)) 1).run Tryz.prog w = .ok (.pointer (some (a.add 1))) w:=by
 simp [Instr.fieldAt,Instr.sureAddr,fieldPlace,Sem.run_bind,Result.andThen,U_38,Z_36]
end
section
open Go Go.RowKit
theorem yE {n m:Nat} (hn:n ≤ 1000) (hm:m ≤ 1000):iI Tryz.prog 129 [NT .i64 n,NT .i64 m] [] (Nat) (fun B=>Is (.slice (some ⟨B,0,none⟩) n n)) (fun B=>[kK eM B 35 131 5 (bS QT (zO n m))]) (fun _=>True):=by
 refine iI.intro Tryz.func129 rfl Tryz.ntmps129 rfl (fun cx Z=>(ts (ro rfl (cX cW) (eZ (ts (rm rfl (rn rfl (eS (T:=Is (.slice none 0 0)) (i:=Tryz.t35) Tryz.underlying36 Vk rfl rfl (Ht rfl) rfl (fun _=>rfl) trivial (by show 24 * _ ≤ _; omega) zo) fun B9=>(ra rfl (eZ (cU (ts (ro rfl (cX (cV 0)) (eZ (eK (mQ 1 rfl (uX eM ⟨none,0,rfl⟩ (e:=131) (s:=5)) ?_)))))))))))))))
 refine eO (fun (k : Nat) (M : List (List Qi)) => mC (fun _ => tab m fun _ => Qi.zero) n M k) (fun (k : Nat) (M : List (List Qi)) => n - k) (fun (k : Nat) (M : List (List Qi)) => [(0, NT .i64 n), (1, NT .i64 m), (5, Is (.slice (some ⟨B9, 0, none⟩) n n)), (6, NT .i64 k)]) (fun (k : Nat) (M : List (List Qi)) => [Z, kK eM B9 35 131 5 (bS QT M)]) 0 (List.replicate n []) (mC.start _ _ _)
  (zS rfl) (aU (fun _ _ _ h=>h) (aU (bD (lM QT n)) aY)) (fun k M hS=>?_)
 refine cU (ts (rm rfl (rm rfl (ro rfl (gZ (Ht rfl) (Ht rfl)) (eZ (dX (Ht rfl) (fun hk=>?_) (fun hk=>?_)))))))
 ·simp only [decide_eq_true_eq] at hk
  have hlen:=hS.len
  refine iS 1 (k) rfl (oV (m:=M) (i:=k) zo) (fun v hv=>(cY (cU (eK (ts (rm rfl (rm rfl (rm rfl (Tn (T:=ZQ) (i:=Tryz.t131) Hh uU rfl rfl (Ht rfl) rfl a7j (El.ag rfl) (by show 88 * _ ≤ _; omega) zo rfl (fun B18 hB18=>(ro rfl (gQ U_36 Z_35 (Ht rfl) (Ht rfl) rfl zo (by rw [Nat.mul_one,Nat.zero_add])) ?_)))))))))))
  refine sH Z_35 (Ht rfl) (Ht rfl) (by simp; omega) (j:=1) (l:=3) rfl rfl rfl ?_
  refine eZ (cU (bI [0,1,3] rfl (by decide) (dQ (ro rfl (cX (cV 0)) (eZ (eK ?_))))))
  refine eO (fun (j : Nat) (out : List Ty) => mC (fun _ => QT Qi.zero) m out j) (fun (j : Nat) (out : List Ty) => m - j) (fun (j : Nat) (out : List Ty) => [(0, NT .i64 n), (1, NT .i64 m), (5, Is (.slice (some ⟨B9, 0, none⟩) n n)), (6, NT .i64 k), (7, NT .i64 j)]) (fun (j : Nat) (out : List Ty) => [Z, qN eM B9 35 131 5 (bS QT M) k B18, bN 131 5 B18 out]) 0 (List.replicate m ZQ) (mC.start _ _ _)
   (zS rfl) (dD.refl _) (fun j out hT=>?_)
  refine cU (ts (rm rfl (rm rfl (ro rfl (gZ (Ht rfl) (Ht rfl)) (eZ (dX (Ht rfl) (fun hj=>?_) (fun hj=>?_)))))))
  ·simp only [decide_eq_true_eq] at hj
   have hlen2:=hT.len
   refine cY (cU (eK (fJ (m:=6) (dp 5 rfl (cZ (Ht rfl)) (dp 6 rfl (cZ (Ht rfl)) (dT 25 0 26 1 rfl (gQ U_36 Z_35 (Ht rfl) (Ht rfl) rfl zo (by rw [Nat.mul_one,Nat.zero_add])) ?_))))))
   refine dq 27 2 rfl (gM A_35 Z_35 (Ht rfl) (j:=1) rfl) (dp 7 rfl (cZ (Ht rfl)) (d0 rfl (cJ Tryz.call148 (a0A (by decide) (by decide)) ⟨(cV 0),trivial⟩) (fW bA rfl (by kernel_rfl) (zF (aJ (aJ (aV (ro rfl (cR U_35 Z_131 (Ht rfl) (Ht rfl) rfl (i:=2) rfl zo rfl) (jS Z_131 (Ht rfl) (Ht rfl) (El.ag rfl) (i:=2) rfl rfl (by first | omega | (simp; omega)) rfl (eZ (aT (dQ (rm rfl (ro rfl (dW (Ht rfl) (cV 1) z6) ?_))))))))))))))
   refine ra rfl (eZ (fY (j + 1,_) (hT.next hj rfl) (by dsimp only; omega) (zS rfl) (dD.refl _)))
  ·simp only [decide_eq_false_iff_not] at hj
   obtain rfl:j = m:=Nat.le_antisymm hT.kle zo
   have hfin:=hT.fin
   rw [← oO _ (fun _=>Qi.zero) QT] at hfin
   subst hfin
   refine gW rfl (aT (dI 1 2 rfl rfl (by decide) (by show k < (bS QT M).length; simp only [bS,List.length_map]; omega) (dQ (rm rfl (ro rfl (dW (Ht rfl) (cV 1) z6) (ra rfl (eZ (bI [0,1] rfl (by decide) (fY (k + 1,_) (hS.next hk rfl) (by dsimp only; omega) (zS rfl) (aU (fun _ _ _ h=>h) (aU (bD (eN QT _ _ _)) aY)))))))))))
 ·simp only [decide_eq_false_iff_not] at hk
  obtain rfl:k = n:=Nat.le_antisymm hS.kle zo
  have hfin:=hS.fin
  refine gW rfl (ts (rm rfl (ra rfl (eZ ?_))))
  exact jP B9 trivial [0,1] ⟨⟨_,rfl,fun _ _ _ h=>h⟩,⟨_,rfl,(bD (by rw [hfin]; rfl))⟩,trivial⟩ (by decide) (vN rfl (eY rfl))
end
section
open Go Go.RowKit
theorem tT (v : Value) (w : World) : (method (Tryz.prog.types.size + Made.depth) 51 v "Of").run Tryz.prog w = .ok (302, v) w := by kernel_rfl
theorem eA (v:Value) (w:World):(Instr.makeInterface 51 v).run Tryz.prog w = .ok (.iface 51 v) w:=by
 simp [Instr.makeInterface,Sem.run_bind,Result.andThen,U_51]
end
section
open Go Go.RowKit
theorem a0G {x:Qi} {L:Nat} [hx:aM x L] (h:L ≤ 8796093022208):bL Tryz.prog 159 [aF x] (aH (Qn x)):=by
 haveI hz:aM Qi.zero 1:=aM.zero (Nat.le_refl 1)
 rw [← a4s]
 refine bL.intro Tryz.func159 rfl Tryz.ntmps159 rfl (fun cx=>(ts (rn rfl (fK (Ht rfl)) fun B1=>(ro rfl (cX cW) (eZ (cU (fJ (m:=5) (dp 1 rfl (eW A_51 Z_51 (Ht rfl) (i:=0) rfl rfl rfl) (dq 3 0 rfl (cJ Tryz.call169 Kl ⟨(Ht rfl),trivial⟩) (dq 4 1 rfl (cZ (Ht rfl)) (C.D_step (Ei:=[(1,_),(5,_)]) rfl rfl (bV (bK rfl rfl) (bV (bG 2 rfl rfl) bW)) (eU rfl rfl (Ht rfl) (fun h=>eW A_51 Z_51 (Ht rfl) (i:=0) rfl rfl rfl)) (C.D_step (Ei:=[(5,_)]) rfl rfl (bV (bG 2 rfl rfl) bW) (eU rfl rfl (Ht rfl) (fun h=>cJ K_77 (uE (n:=0) (by decide) (by decide)) ⟨(cV 0),trivial⟩)) ?_))))))))))))
 refine fW bA rfl (by kernel_rfl) (zF (aJ (aV (fX rfl rfl (eU rfl rfl (Ht rfl) (fun h=>cJ Tryz.call76 (a0i (x:=x) (y:=Qi.zero) (M:=1) zo) ⟨(fV rfl h),(fV rfl h),trivial⟩)) (fX rfl rfl (eU rfl rfl (Ht rfl) (fun h=>mS (fV rfl h) cW)) (ro rfl (dM (Ht rfl) (fun h=>(fV rfl h))) (ra rfl (eZ ?_))))))))
 exact fG rfl (eY rfl)
theorem Ud {y:Qi}:bL Tryz.prog 302 [eI [Is (.bool false),Is (.slice none 0 0),Is (.bool false),Is (.slice none 0 0),Is (.slice none 0 0)],aF y] (aF y):=by
 refine bL.intro Tryz.func302 rfl Tryz.ntmps302 rfl (fun cx=>(ts (rn rfl (fK (Ht rfl)) fun B2=>(rn rfl (fK (Ht rfl)) fun B3=>(rn rfl (eG (Ts:=[Is (.bool false),Is (.slice none 0 0),Is (.bool false),Is (.slice none 0 0),Is (.slice none 0 0)]) O_51 rfl (fun V=>aW zd (aW zd (aW zd (aW zd (aW zd (aG))))))) fun B4=>(eZ (ts (ro rfl (eW A_51 Z_51 (Ht rfl) (i:=1) rfl rfl rfl) (gX Z_51 (Ht rfl) (Ht rfl) rfl (i:=2) rfl (aK rfl) rfl rfl ?_)))))))))
 refine eZ ?_
 exact fG rfl (fU A_51 Z_51 rfl (i:=2) rfl rfl)
theorem Rk {x:Qi}:bL Tryz.prog 98 [aF x] (aF x):=by
 refine bL.intro Tryz.func98 rfl Tryz.ntmps98 rfl (fun cx=>(ts (rn rfl (fK (Ht rfl)) fun B1=>(rn rfl (eG (Ts:=[Is (.bool false),Is (.slice none 0 0),Is (.bool false),Is (.slice none 0 0),Is (.slice none 0 0)]) O_51 rfl (fun V=>aW zd (aW zd (aW zd (aW zd (aW zd (aG))))))) fun B2=>(eZ (ts (rn rfl (eG (Ts:=[Is (.bool false),Is (.slice none 0 0),Is (.bool false),Is (.slice none 0 0),Is (.slice none 0 0)]) O_51 rfl (fun V=>aW zd (aW zd (aW zd (aW zd (aW zd (aG))))))) fun B3=>?_)))))))
 refine eZ (ts (ro rfl (eW A_51 Z_51 (Ht rfl) (i:=2) rfl rfl rfl) (ro rfl (cO eA (Ht rfl)) (ro rfl (eW A_51 Z_51 (Ht rfl) (i:=0) rfl rfl rfl) (ro rfl (cF tT Tryz.call302 Ud (Ht rfl) ⟨(Ht rfl),trivial⟩) (gX Z_51 (Ht rfl) (Ht rfl) rfl (i:=1) rfl (aK rfl) rfl rfl (eZ ?_)))))))
 exact fG rfl (fU A_51 Z_51 rfl (i:=1) rfl rfl)
theorem Rh {r:List Qi} {k:Nat}:bL Tryz.prog 273 [aR r,PT (NT .i64 k)] (aH (!decide (r.length = k))):=by
 refine bL.intro Tryz.func273 rfl Tryz.ntmps273 rfl (fun cx=>(ts (ro rfl (cX cW) (eZ (ts (rm rfl (ro rfl (dK U_29 (Ht rfl) aA) (ro rfl (dV A_3 Z_3 (Ht rfl)) (ro rfl (fT (Ht rfl) (Ht rfl)) (ra rfl (eZ ?_)))))))))))
 exact fG rfl (eY rfl)
theorem vZ {a:List (List Qi)} {n k:Nat} (h:cP a n k) (h1:1 ≤ n) (hn:n ≤ 32) (hk:k ≤ 32):bL Tryz.prog 240 [bM a] (fS [NT .i64 k,aH true]):=by
 obtain ⟨rfl,h2⟩:=h
 have hr0:(a.getD 0 []).length = k:=cP.row ⟨rfl,h2⟩ zo
 refine bL.intro Tryz.func240 rfl Tryz.ntmps240 rfl (fun cx=>(ts (ro rfl (cX (cV 0)) (ro rfl (cX cW) (eZ (cU (ts (rm rfl (ro rfl (dK U_30 (Ht rfl) aA) (ro rfl (dP (Ht rfl) (cV 0)) (eZ (dX (Ht rfl) (fun hb=>?_) (fun hb=>?_)))))))))))))
 ·simp only [decide_eq_true_eq] at hb
  omega
 ·refine cY (ts (rm rfl (ro rfl (dJ U_30 Z_29 (Ht rfl) (cV 0) rfl (eQ (dY (d := []) zo))) (ro rfl (dV A_29 Z_29 (Ht rfl)) (ro rfl (dK U_29 (Ht rfl) aA) (rn rfl (eG (Ts := [Is (.int .i64 0)]) O_3 rfl (fun V => aW zd (aG))) fun B4 => (lQ Z_3 (Ht rfl) (Ht rfl) (i := 0) rfl (aK rfl) rfl (eZ (cU (gV (i := 0) (tt := 4) rfl rfl nD (fJ (m := 15) (dp 4 rfl (dV A_3 Z_3 (Ht rfl)) ?_))))))))))))
  refine dp 0 rfl (cZ (Ht rfl)) (dq 13 1 rfl (dK U_30 (Ht rfl) aA) (dq 14 2 rfl (Dl (Ht rfl) (cV 32)) (dq 15 3 rfl (cZ (Ht rfl)) (C.D_step (Ei:=[(4,_),(16,_)]) rfl rfl (bV (bK rfl rfl) (bV (bG 4 rfl rfl) bW)) (eU rfl rfl (Ht rfl) (fun h=>dV A_3 Z_3 (Ht rfl))) (C.D_step (Ei:=[(17,_),(16,_)]) rfl rfl (bV (bG 5 rfl rfl) (bV (bG 4 rfl rfl) bW)) (eU rfl rfl (Ht rfl) (fun h=>Dl (fV rfl h) (cV 32))) (dT 16 4 18 6 rfl (dM (Ht rfl) (fun h=>(fV rfl h))) ?_))))))
  refine dq 19 7 rfl (cZ (Ht rfl)) (C.D_step (Ei:=[(0,_),(20,_)]) rfl rfl (bV (bK rfl rfl) (bV (bG 8 rfl rfl) bW)) (eU rfl rfl (Ht rfl) (fun h=>cZ (Ht rfl))) (C.D_step (Ei:=[(4,_),(20,_)]) rfl rfl (bV (bK rfl rfl) (bV (bG 8 rfl rfl) bW)) (eU rfl rfl (Ht rfl) (fun h=>pO (γ:=List Qi) (Ts:=fun r=>[aR r]) (U:=fun r=>aH (!decide (r.length = (a.getD 0 []).length))) Tryz.call273 (fun r=>Rh) ⟨(Ht rfl),trivial⟩)) (C.D_step (Ei:=[(21,_),(22,_),(20,_)]) rfl rfl (bV (bG 9 rfl rfl) (bV (bG 10 rfl rfl) (bV (bG 8 rfl rfl) bW))) (eU rfl rfl (Ht rfl) (fun h=>cJ Tryz.call156 (wZ (l:=a) (T:=aR) (p:=fun r=>!decide (r.length = (a.getD 0 []).length)) zo) ⟨(fV rfl h),(fV rfl h),trivial⟩)) ?_)))
  refine C.D_step (Ei:=[(23,_),(20,_)]) rfl rfl (bV (bG 11 rfl rfl) (bV (bG 8 rfl rfl) bW)) (eU rfl rfl (Ht rfl) (fun h=>fB (fV rfl h))) (dT 20 8 24 12 rfl (dM (Ht rfl) (fun h=>(fV rfl h))) (dq 12 0 rfl (cX (Ht rfl)) (fW bA rfl (by kernel_rfl) (zF (zF (zF (aJ (aJ (aJ (aV (ra rfl (eZ (bR rfl (fZ (eY rfl) ?_) (fZ (eY rfl) ?_))))))))))))))
  ·exact (lK hr0)
  ·exact (dN (by rw [hr0,a3a ⟨rfl,h2⟩]; simp; omega))
end
section
open Go Go.RowKit
theorem uY (v : Value) (w : World) : (method (Tryz.prog.types.size + Made.depth) 51 v "Add").run Tryz.prog w = .ok (46, v) w := by kernel_rfl
theorem tS (v : Value) (w : World) : (method (Tryz.prog.types.size + Made.depth) 51 v "Conj").run Tryz.prog w = .ok (175, v) w := by kernel_rfl
theorem gT (v : Value) (w : World) : (method (Tryz.prog.types.size + Made.depth) 51 v "Mul").run Tryz.prog w = .ok (45, v) w := by kernel_rfl
end
section
open Go Go.RowKit
theorem Ue {a b:List (List Qi)} {n k m L M:Nat} (ha:cP a n k) (hb:cP b k m) (hfa:bB a L) (hfb:bB b M) (hL1:1 ≤ L) (hM1:1 ≤ M) (hL:L ≤ 900000000000) (hM:M ≤ 900000000000) (hn1:1 ≤ n) (hk1:1 ≤ k) (hn:n ≤ 8) (hk:k ≤ 8) (hm:m ≤ 8):iI Tryz.prog 195 [bM a,bM b] [] (Nat) (fun B=>fS [Is (.slice (some ⟨B,0,none⟩) n n),aL .i64 0]) (fun B=>[pE B 29 51 5 (bS aF (nA a b n k m))]) (fun _=>True):=by
 have hal:=ha.1
 have hbl:=hb.1
 refine iI.intro Tryz.func195 rfl Tryz.ntmps195 rfl (fun cx Z=>(ts (ro rfl (cX cW) (ro rfl (cX (cV 0)) (eZ (ts (rm rfl (ro rfl (cJ Tryz.call240 (vZ ha hn1 zo zo) ⟨(Ht rfl),trivial⟩) (rm rfl (ro rfl (dU (Ht rfl) rfl) (ro rfl (dU (Ht rfl) rfl) (ra rfl (ra rfl (eZ (ts (rm rfl (ro rfl (cJ Tryz.call240 (vZ hb hk1 zo zo) ⟨(Ht rfl),trivial⟩) (rm rfl (ro rfl (dU (Ht rfl) rfl) (ro rfl (dU (Ht rfl) rfl) (ra rfl (ra rfl (eZ (cU (ts (rm rfl (ro rfl (fB (Ht rfl)) ?_)))))))))))))))))))))))))))
 refine rm rfl (fX rfl rfl (eU rfl rfl (Ht rfl) (fun h=>cZ (Ht rfl))) (fX rfl rfl (eU rfl rfl (Ht rfl) (fun h=>fB (fV rfl h))) (ro rfl (fO (Ht rfl) (fun h=>(fV rfl h))) (rm rfl (fX rfl rfl (eU rfl rfl (Ht rfl) (fun h=>cZ (Ht rfl))) (fX rfl rfl (eU rfl rfl (Ht rfl) (fun h=>cZ (Ht rfl))) (fX rfl rfl (eU rfl rfl (Ht rfl) (fun h=>dK U_30 (fV rfl h) aA)) (fX rfl rfl (eU rfl rfl (Ht rfl) (fun h=>fT (fV rfl h) (fV rfl h))) (ro rfl (fO (Ht rfl) (fun h=>(fV rfl h))) ?_)))))))))
 refine eZ (dX (Ht rfl) (fun h0=>?_) (fun h0=>?_))
 ·exact absurd h0 (by simp [hbl])
 ·refine cY (ts (rm rfl (ro rfl (dK U_30 (Ht rfl) aA) (rn rfl (eS (T := Is (.slice none 0 0)) (i := Tryz.t29) V_30 lV rfl rfl (Ht rfl) rfl (fun _ => rfl) trivial (by show 24 * _ ≤ _; omega) zo) fun B39 => (ra rfl (eZ (cU (ts (rm rfl (ro rfl (gL U_30 (Ht rfl)) (ro rfl (cZ (cV 0)) (eZ (eK (mQ 1 rfl (rP (e := 51) (s := 5)) ?_))))))))))))))
  refine bP (fun (i : Nat) => i ≤ n) (fun (i : Nat) => n - i) (fun (i : Nat) => [(0, bM a), (1, bM b), (6, NT .i64 k), (8, NT .i64 m), (10, Is (.slice (some ⟨B39, 0, none⟩) n n)), (41, NT .i64 n), (42, NT .i64 i)]) (fun (i : Nat) => [Z, pE B39 29 51 5 (bS aF (iP (fun i => tab m fun c => Ca a b k i c) [] n i))]) 0 (Nat.zero_le _)
   (aQ rfl (aQ rfl (aQ rfl (aQ rfl (aZ rfl (fun v V h=>by rw [← hal]; exact h) (aZ rfl (lK hal) (zS rfl))))))) (aU (fun _ _ _ h=>h) (aU (bD (by rw [← fF,kT,hal]; exact lM aF n)) aY)) (fun i hi=>?_)
  refine ts (ro rfl (gZ (Ht rfl) (Ht rfl)) (eZ (cU (dX (Ht rfl) (fun hd=>?_) (fun hd=>?_)))))
  ·simp only [decide_eq_true_eq] at hd
   have har:=ha.row hd
   have hb0:=hb.row (i:=0) zo
   refine oH 1 (i) rfl (iB hd) (fun v=>(cY (cU (eK (ts (rm rfl (ra rfl (eZ (ts (rm rfl (ro rfl (cZ (cV 0)) (eZ (eK ?_)))))))))))))
   refine eO (fun (c : Nat) (v : Value) => c ≤ m) (fun (c : Nat) (v : Value) => m - c) (fun (c : Nat) (v : Value) => [(0, bM a), (1, bM b), (6, NT .i64 k), (8, NT .i64 m), (10, Is (.slice (some ⟨B39, 0, none⟩) n n)), (11, NT .i64 i), (41, NT .i64 n), (42, NT .i64 i), (45, NT .i64 m), (46, NT .i64 c)]) (fun (c : Nat) (v : Value) => [Z, Lp B39 29 51 5 (bS aF (iP (fun i => tab m fun c => Ca a b k i c) [] n i)) i v, bN 51 5 v ((tab c fun c => Ca a b k i c).map aF)]) 0 v (Nat.zero_le _)
    (zS rfl) (dD.refl _) (fun c v hc=>?_)
   refine ts (ro rfl (gZ (Ht rfl) (Ht rfl)) (eZ (cU (dX (Ht rfl) (fun he=>?_) (fun he=>?_)))))
   ·simp only [decide_eq_true_eq] at he
    haveI f1:aM (gm a i 0) L:=hfa.get hL1 i 0
    haveI f2:aM (gm b 0 c) M:=hfb.get hM1 0 c
    refine cY (cU (eK (ts (rm rfl (ra rfl (eZ (cU (fJ (m:=15) (dp 0 rfl (cZ (Ht rfl)) (dp 11 rfl (cZ (Ht rfl)) (dT 49 0 50 1 rfl (dJ U_30 Z_29 (Ht rfl) (Ht rfl) rfl (eQ (dY (d:=[]) zo))) (dq 51 2 rfl (dV A_29 Z_29 (Ht rfl)) (dq 52 3 rfl (dJ U_29 Z_51 (Ht rfl) (cV 0) rfl (eQ (dY (d:=Qi.zero) (by rw [har]; omega)))) ?_)))))))))))))
    refine dq 53 4 rfl (dV A_51 Z_51 (Ht rfl)) (dq 54 5 rfl (cO eA (Ht rfl)) (dp 1 rfl (cZ (Ht rfl)) (dq 56 7 rfl (dJ U_30 Z_29 (Ht rfl) (cV 0) rfl (eQ (dY (d:=[]) zo))) (dq 57 8 rfl (dV A_29 Z_29 (Ht rfl)) (dp 12 rfl (cZ (Ht rfl)) (dT 58 9 59 10 rfl (dJ U_29 Z_51 (Ht rfl) (Ht rfl) rfl (eQ (dY (d:=Qi.zero) (by rw [hb0]; omega)))) ?_))))))
    refine dq 60 11 rfl (dV A_51 Z_51 (Ht rfl)) (dT 55 6 61 12 rfl (cF gT K_45 (rG zo) (Ht rfl) ⟨(Ht rfl),trivial⟩) (C.D_new (Ei:=[]) rfl rfl rfl bW (eG (Ts:=[Is (.bool false),Is (.slice none 0 0),Is (.bool false),Is (.slice none 0 0),Is (.slice none 0 0)]) O_51 rfl (fun V=>aW zd (aW zd (aW zd (aW zd (aW zd (aG))))))) (fW bA rfl (by kernel_rfl) (zF (zF (zF (aJ (aJ (C.F_new (fun B13=>aV ?_))))))))))
    refine gX Z_51 (Ht rfl) (Ht rfl) rfl (i:=3) rfl (aK rfl) rfl rfl (eZ (cU (ts (ro rfl (cX (cV 1)) (eZ (eK ?_))))))
    refine bP (fun (j : Nat) => 1 ≤ j ∧ j ≤ k) (fun (j : Nat) => k - j) (fun (j : Nat) => [(0, bM a), (1, bM b), (6, NT .i64 k), (8, NT .i64 m), (10, Is (.slice (some ⟨B39, 0, none⟩) n n)), (11, NT .i64 i), (12, NT .i64 c), (13, bF B13 0), (14, NT .i64 j), (41, NT .i64 n), (42, NT .i64 i), (45, NT .i64 m), (46, NT .i64 c)]) (fun (j : Nat) => [Z, Lp B39 29 51 5 (bS aF (iP (fun i => tab m fun c => Ca a b k i c) [] n i)) i v, bN 51 5 v ((tab c fun c => Ca a b k i c).map aF), box B13 51 [aH (decide ((aE j fun j => gm a i j * gm b j c).a < 0)), bC (aE j fun j => gm a i j * gm b j c).a.natAbs, aH (decide ((aE j fun j => gm a i j * gm b j c).b < 0)), bC (aE j fun j => gm a i j * gm b j c).b.natAbs, bC (du (aE j fun j => gm a i j * gm b j c))]]) 1 ⟨Nat.le_refl _, hk1⟩
     (zS rfl) (aU (fun _ _ _ h=>h) (aU (fun _ _ _ h=>h) (aU (fun _ _ _ h=>h) (aU (aB (by rw [Ha]; rfl)) aY)))) (fun j ⟨hj1,hj⟩=>?_)
    refine cU (ts (rm rfl (rm rfl (ro rfl (gZ (Ht rfl) (Ht rfl)) (eZ (dX (Ht rfl) (fun hf=>?_) (fun hf=>?_)))))))
    ·simp only [decide_eq_true_eq] at hf
     haveI f3:aM (gm a i j) L:=hfa.get hL1 i j
     haveI f4:aM (gm b j c) M:=hfb.get hM1 j c
     haveI f5:aM (aE j fun j=>gm a i j * gm b j c) (8 * (L + M) + 17):=Uy hfa hfb hL1 hM1 zo i c
     have hbj:=hb.row (i:=j) zo
     refine cY (cU (eK (fJ (m:=18) (dp 13 rfl (eW A_51 Z_51 (Ht rfl) (i:=3) rfl rfl rfl) (dq 68 0 rfl (cO eA (Ht rfl)) (dp 0 rfl (cZ (Ht rfl)) (dp 11 rfl (cZ (Ht rfl)) (dT 70 2 71 3 rfl (dJ U_30 Z_29 (Ht rfl) (Ht rfl) rfl (eQ (dY (d:=[]) zo))) (dq 72 4 rfl (dV A_29 Z_29 (Ht rfl)) (dp 14 rfl (cZ (Ht rfl)) (dT 73 5 74 6 rfl (dJ U_29 Z_51 (Ht rfl) (Ht rfl) rfl (eQ (dY (d:=Qi.zero) (by rw [har]; omega)))) ?_)))))))))))
     refine dq 75 7 rfl (dV A_51 Z_51 (Ht rfl)) (dq 76 8 rfl (cO eA (Ht rfl)) (dp 1 rfl (cZ (Ht rfl)) (dp 14 rfl (cZ (Ht rfl)) (dT 78 10 79 11 rfl (dJ U_30 Z_29 (Ht rfl) (Ht rfl) rfl (eQ (dY (d:=[]) zo))) (dq 80 12 rfl (dV A_29 Z_29 (Ht rfl)) (dp 12 rfl (cZ (Ht rfl)) (dT 81 13 82 14 rfl (dJ U_29 Z_51 (Ht rfl) (Ht rfl) rfl (eQ (dY (d:=Qi.zero) (by rw [hbj]; omega)))) ?_)))))))
     refine dq 83 15 rfl (dV A_51 Z_51 (Ht rfl)) (dT 77 9 84 16 rfl (cF gT K_45 (rG zo) (Ht rfl) ⟨(Ht rfl),trivial⟩) (fW bA rfl (by kernel_rfl) (zF (zF (zF (zF (aJ (aJ (aV (ro rfl (cF uY Tryz.call46 (Nb zo) (Ht rfl) ⟨(Ht rfl),trivial⟩) (gX Z_51 (Ht rfl) (Ht rfl) rfl (i:=3) rfl (aK rfl) rfl rfl (eZ (aT ?_)))))))))))))
     refine dQ (rm rfl (ro rfl (dW (Ht rfl) (cV 1) z6) (ra rfl (eZ (fY (j + 1) ⟨by omega,hf⟩ zo (zS rfl) (aU (fun _ _ _ h=>h) (aU (fun _ _ _ h=>h) (aU (fun _ _ _ h=>h) (aU (aB rfl) aY)))))))))
    ·simp only [decide_eq_false_iff_not] at hf
     obtain rfl:k = j:=Nat.le_antisymm zo hj
     refine gW rfl (Y.D_startA (m:=9) [] 8 2 rfl rfl (cQ (Ei:=[(10,_)]) rfl rfl (bQ (bJ rfl rfl) bX) rfl rfl (dZ rfl (cZ (Ht rfl))) (cQ (Ei:=[(11,_)]) rfl rfl (bQ (bJ rfl rfl) bX) rfl rfl (dZ rfl (cZ (Ht rfl))) (cQ (Ei:=[(10,_)]) rfl rfl (bQ (bJ rfl rfl) bX) rfl rfl (dZ rfl (cZ (Ht rfl))) (cQ (Ei:=[(11,_)]) rfl rfl (bQ (bJ rfl rfl) bX) rfl rfl (dZ rfl (cZ (Ht rfl))) (cQ (Ei:=[(89,_),(90,_)]) rfl rfl (bQ (bZ 2 rfl rfl) (bQ (bZ 3 rfl rfl) bX)) rfl rfl (dZ rfl (gQ U_30 Z_29 (Ht rfl) (Ht rfl) rfl zo (by rw [Nat.mul_one,Nat.zero_add]))) ?_))))))
     refine cQ (Ei:=[(91,_)]) rfl rfl (bQ (bZ 4 rfl rfl) bX) rfl rfl (dZ rfl (gM A_29 Z_29 (Ht rfl) (j:=1) rfl)) (cQ (Ei:=[(13,_)]) rfl rfl (bQ (bJ rfl rfl) bX) rfl rfl (dZ rfl (eW A_51 Z_51 (Ht rfl) (i:=3) rfl rfl rfl)) (cQ (Ei:=[(93,_)]) rfl rfl (bQ (bZ 6 rfl rfl) bX) rfl rfl (dZ rfl (cA (xs:=[.tmp 93]) U_29 Z_51 O_51 (cG (Ht rfl) cK) rfl rfl rfl)) (Y.D_app (Ei:=[(92,_),(94,_)]) rfl rfl rfl rfl (bQ (bZ 5 rfl rfl) (bQ (bZ 7 rfl rfl) bX)) rfl (qA (inf:=Tryz.t51) kX jD rfl rfl rfl (Ht rfl) (Ht rfl) (by simp) (fun T hT=>by simp at hT; subst hT; exact El.ag rfl) (by show _ * 88 ≤ _; simp only [List.length_map,aC,List.length_cons,List.length_nil]; omega) (by simp only [List.length_map,aC,List.length_cons,List.length_nil]; omega)) ?_)))
     refine Y.D_done bA rfl (by kernel_rfl) rfl (by simp [Y.okP]) rfl rfl (bU (bU (bU (bU (bU (bU (bU (bU (Y.F_app (fun v2=>Y.F_nil ?_))))))))))
     refine ro rfl (gQ U_30 Z_29 (Ht rfl) (Ht rfl) rfl zo (by rw [Nat.mul_one,Nat.zero_add])) ?_
     refine sH Z_29 (Ht rfl) (Ht rfl) (by simp only [bS,List.length_map,cL]; omega) (j:=1) (l:=4) rfl rfl rfl ?_
     refine eZ (aT (dQ (ro rfl (dW (Ht rfl) (cV 1) z6) (rm rfl (eZ (bI [0,1,4] rfl (by decide) (fY (c + 1,v2) he (by dsimp only; omega) (zS rfl) (aU (fun _ _ _ h=>h) (aU (fun _ _ _ h=>h) (aU (aN ((sL aF _ (Ca a b k i c)).trans (congrArg _ (mH c (fun c=>Ca a b k i c)).symm))) aY))))))))))
   ·simp only [decide_eq_false_iff_not] at he
    obtain rfl:m = c:=Nat.le_antisymm zo hc
    refine gW rfl (aT (dI 1 2 rfl rfl (by decide) (by simp only [bS,List.length_map,cL]; omega) ?_))
    refine dQ (ro rfl (dW (Ht rfl) (cV 1) z6) (rm rfl (eZ (bI [0,1] rfl (by decide) (fY (i + 1) hd zo (zS rfl) (aU (fun _ _ _ h=>h) (aU (bD (by rw [eN,← fR (f:=(fun i=>tab m fun c=>Ca a b k i c))])) aY)))))))
  ·simp only [decide_eq_false_iff_not] at hd
   obtain rfl:n = i:=Nat.le_antisymm zo hi
   refine gW rfl (ts (rm rfl (ra rfl (ro rfl (cX (cV 0)) (eZ ?_)))))
   exact jP B39 trivial [0,1] ⟨⟨_,rfl,fun _ _ _ h=>h⟩,⟨_,rfl,(bD (by rw [gO]; rfl))⟩,trivial⟩ (by decide) (a4d rfl (eY rfl) (eY rfl))
theorem a5o {a b:List (List Qi)} {n k m L M:Nat} (ha:cP a n k) (hb:cP b k m) (hfa:bB a L) (hfb:bB b M) (hL1:1 ≤ L) (hM1:1 ≤ M) (hL:L ≤ 900000000000) (hM:M ≤ 900000000000) (hn1:1 ≤ n) (hk1:1 ≤ k) (hn:n ≤ 8) (hk:k ≤ 8) (hm:m ≤ 8):bL Tryz.prog 195 [bM a,bM b] (fS [bM (nA a b n k m),aL .i64 0]):=(Ue ha hb hfa hfb hL1 hM1 hL hM hn1 hk1 hn hk hm).fun fun B _ v S V h1 h2=>a7h h1 fun u hu=>iT (s:=5) (M:=nA a b n k m) (aC _ _).symm u S V hu h2
theorem a5l {a:List (List Qi)} {n m:Nat} (ha:cP a n m) (hn1:1 ≤ n) (hn:n ≤ 8) (hm:m ≤ 8):iI Tryz.prog 196 [bM a] [] (Nat) (fun B=>fS [Is (.slice (some ⟨B,0,none⟩) m m),aL .i64 0]) (fun B=>[pE B 29 51 5 (bS aF (Kf a n m))]) (fun _=>True):=by
 have hal:=ha.1
 refine iI.intro Tryz.func196 rfl Tryz.ntmps196 rfl (fun cx Z=>(ts (ro rfl (cX cW) (ro rfl (cX (cV 0)) (eZ (ts (rm rfl (ro rfl (cJ Tryz.call240 (vZ ha hn1 zo zo) ⟨(Ht rfl),trivial⟩) (rm rfl (ro rfl (dU (Ht rfl) rfl) (ro rfl (dU (Ht rfl) rfl) (ra rfl (ra rfl (eZ (cU (ts (rm rfl (ro rfl (fB (Ht rfl)) (eZ (dX (Ht rfl) (fun h0=>?_) (fun h0=>?_)))))))))))))))))))))
 ·exact absurd h0 (by simp)
 ·refine cY (ts (rm rfl (rn rfl (eS (T := Is (.slice none 0 0)) (i := Tryz.t29) V_30 lV rfl rfl (Ht rfl) rfl (fun _ => rfl) trivial (by show 24 * _ ≤ _; omega) zo) fun B17 => (ra rfl (eZ (cU (ts (rm rfl (ro rfl (gL U_30 (Ht rfl)) (ro rfl (cZ (cV 0)) (eZ (eK (mQ 1 rfl (rP (e := 51) (s := 5)) ?_)))))))))))))
  refine bP (fun (k : Nat) => k ≤ m) (fun (k : Nat) => m - k) (fun (k : Nat) => [(0, bM a), (6, Is (.slice (some ⟨B17, 0, none⟩) m m)), (19, NT .i64 m), (20, NT .i64 k)]) (fun (k : Nat) => [Z, pE B17 29 51 5 (bS aF (iP (fun k => tab n fun i => (gm a i k).conj) [] m k))]) 0 (Nat.zero_le _)
   (zS rfl) (aU (fun _ _ _ h=>h) (aU (bD (by rw [← fF,kT]; exact lM aF m)) aY)) (fun k hk=>?_)
  refine ts (ro rfl (gZ (Ht rfl) (Ht rfl)) (eZ (cU (dX (Ht rfl) (fun hd=>?_) (fun hd=>?_)))))
  ·simp only [decide_eq_true_eq] at hd
   refine oH 1 (k) rfl (iB hd) (fun v=>(cY (cU (eK (ts (rm rfl (ra rfl (eZ (ts (rm rfl (ro rfl (dK U_30 (Ht rfl) aA) (ro rfl (cZ (cV 0)) (eZ (eK ?_))))))))))))))
   refine eO (fun (i : Nat) (v : Value) => i ≤ n) (fun (i : Nat) (v : Value) => n - i) (fun (i : Nat) (v : Value) => [(0, bM a), (6, Is (.slice (some ⟨B17, 0, none⟩) m m)), (7, NT .i64 k), (19, NT .i64 m), (20, NT .i64 k), (24, NT .i64 n), (25, NT .i64 i)]) (fun (i : Nat) (v : Value) => [Z, Lp B17 29 51 5 (bS aF (iP (fun k => tab n fun i => (gm a i k).conj) [] m k)) k v, bN 51 5 v ((tab i fun i => (gm a i k).conj).map aF)]) 0 v (Nat.zero_le _)
    (aQ rfl (aQ rfl (aQ rfl (aQ rfl (aQ rfl (aZ rfl (lK hal) (zS rfl))))))) (dD.refl _) (fun i v hi=>?_)
   refine ts (ro rfl (gZ (Ht rfl) (Ht rfl)) (eZ (cU (dX (Ht rfl) (fun he=>?_) (fun he=>?_)))))
   ·simp only [decide_eq_true_eq] at he
    have har:=ha.row he
    refine cY (cU (eK (ts (rm rfl (ra rfl (eZ (Y.D_startA (m:=17) [] 16 2 rfl rfl (cQ (Ei:=[(6,_)]) rfl rfl (bQ (bJ rfl rfl) bX) rfl rfl (dZ rfl (cZ (Ht rfl))) (cQ (Ei:=[(7,_)]) rfl rfl (bQ (bJ rfl rfl) bX) rfl rfl (dZ rfl (cZ (Ht rfl))) (cQ (Ei:=[(6,_)]) rfl rfl (bQ (bJ rfl rfl) bX) rfl rfl (dZ rfl (cZ (Ht rfl))) (cQ (Ei:=[(7,_)]) rfl rfl (bQ (bJ rfl rfl) bX) rfl rfl (dZ rfl (cZ (Ht rfl))) (cQ (Ei:=[(30,_),(31,_)]) rfl rfl (bQ (bZ 2 rfl rfl) (bQ (bZ 3 rfl rfl) bX)) rfl rfl (dZ rfl (gQ U_30 Z_29 (Ht rfl) (Ht rfl) rfl zo (by rw [Nat.mul_one,Nat.zero_add]))) ?_))))))))))))
    refine cQ (Ei:=[(32,_)]) rfl rfl (bQ (bZ 4 rfl rfl) bX) rfl rfl (dZ rfl (gM A_29 Z_29 (Ht rfl) (j:=1) rfl)) (cQ (Ei:=[(0,_)]) rfl rfl (bQ (bJ rfl rfl) bX) rfl rfl (dZ rfl (cZ (Ht rfl))) (cQ (Ei:=[(8,_)]) rfl rfl (bQ (bJ rfl rfl) bX) rfl rfl (dZ rfl (cZ (Ht rfl))) (cQ (Ei:=[(34,_),(35,_)]) rfl rfl (bQ (bZ 6 rfl rfl) (bQ (bZ 7 rfl rfl) bX)) rfl rfl (dZ rfl (dJ U_30 Z_29 (Ht rfl) (Ht rfl) rfl (eQ (dY (d:=[]) zo)))) ?_)))
    refine cQ (Ei:=[(36,_)]) rfl rfl (bQ (bZ 8 rfl rfl) bX) rfl rfl (dZ rfl (dV A_29 Z_29 (Ht rfl))) (cQ (Ei:=[(7,_)]) rfl rfl (bQ (bJ rfl rfl) bX) rfl rfl (dZ rfl (cZ (Ht rfl))) (cQ (Ei:=[(37,_),(38,_)]) rfl rfl (bQ (bZ 9 rfl rfl) (bQ (bZ 10 rfl rfl) bX)) rfl rfl (dZ rfl (dJ U_29 Z_51 (Ht rfl) (Ht rfl) rfl (eQ (dY (d:=Qi.zero) (by rw [har]; omega))))) ?_))
    refine cQ (Ei:=[(39,_)]) rfl rfl (bQ (bZ 11 rfl rfl) bX) rfl rfl (dZ rfl (dV A_51 Z_51 (Ht rfl))) (cQ (Ei:=[(40,_)]) rfl rfl (bQ (bZ 12 rfl rfl) bX) rfl rfl (dZ rfl (cO eA (Ht rfl))) (cQ (Ei:=[(41,_)]) rfl rfl (bQ (bZ 13 rfl rfl) bX) rfl rfl (dZ rfl (cF tS Tryz.call175 Qz (Ht rfl) trivial)) (cQ (Ei:=[(42,_)]) rfl rfl (bQ (bZ 14 rfl rfl) bX) rfl rfl (dZ rfl (cA (xs:=[.tmp 42]) U_29 Z_51 O_51 (cG (Ht rfl) cK) rfl rfl rfl)) ?_)))
    refine Y.D_app (Ei:=[(33,_),(43,_)]) rfl rfl rfl rfl (bQ (bZ 5 rfl rfl) (bQ (bZ 15 rfl rfl) bX)) rfl (qA (inf:=Tryz.t51) kX jD rfl rfl rfl (Ht rfl) (Ht rfl) (by simp) (fun T hT=>by simp at hT; subst hT; exact El.ag rfl) (by show _ * 88 ≤ _; simp only [List.length_map,aC,List.length_cons,List.length_nil]; omega) (by simp only [List.length_map,aC,List.length_cons,List.length_nil]; omega)) ?_
    refine Y.D_done bA rfl (by kernel_rfl) rfl (by simp [Y.okP]) rfl rfl (bU (bU (bU (bU (bU (bU (bU (bU (bU (bU (bU (bU (bU (bU (bU (bU (Y.F_app (fun v2=>Y.F_nil ?_))))))))))))))))))
    refine ro rfl (gQ U_30 Z_29 (Ht rfl) (Ht rfl) rfl zo (by rw [Nat.mul_one,Nat.zero_add])) ?_
    refine sH Z_29 (Ht rfl) (Ht rfl) (by simp only [bS,List.length_map,cL]; omega) (j:=1) (l:=3) rfl rfl rfl ?_
    refine eZ (aT (dQ (ro rfl (dW (Ht rfl) (cV 1) z6) (rm rfl (eZ (bI [0,1,3] rfl (by decide) (fY (i + 1,v2) he (by dsimp only; omega) (zS rfl) (aU (fun _ _ _ h=>h) (aU (fun _ _ _ h=>h) (aU (aN ((sL aF _ (gm a i k).conj).trans (congrArg _ (mH i (fun i=>(gm a i k).conj)).symm))) aY))))))))))
   ·simp only [decide_eq_false_iff_not] at he
    obtain rfl:n = i:=Nat.le_antisymm zo hi
    refine gW rfl (aT (dI 1 2 rfl rfl (by decide) (by simp only [bS,List.length_map,cL]; omega) ?_))
    refine dQ (ro rfl (dW (Ht rfl) (cV 1) z6) (rm rfl (eZ (bI [0,1] rfl (by decide) (fY (k + 1) hd zo (zS rfl) (aU (fun _ _ _ h=>h) (aU (bD (by rw [eN,← fR (f:=(fun k=>tab n fun i=>(gm a i k).conj))])) aY)))))))
  ·simp only [decide_eq_false_iff_not] at hd
   obtain rfl:m = k:=Nat.le_antisymm zo hk
   refine gW rfl (ts (rm rfl (ra rfl (ro rfl (cX (cV 0)) (eZ ?_)))))
   exact jP B17 trivial [0,1] ⟨⟨_,rfl,fun _ _ _ h=>h⟩,⟨_,rfl,(bD (by rw [gO]; rfl))⟩,trivial⟩ (by decide) (a4d rfl (eY rfl) (eY rfl))
theorem a6J {a:List (List Qi)} {n m:Nat} (ha:cP a n m) (hn1:1 ≤ n) (hn:n ≤ 8) (hm:m ≤ 8):bL Tryz.prog 196 [bM a] (fS [bM (Kf a n m),aL .i64 0]):=(a5l ha hn1 hn hm).fun fun B _ v S V h1 h2=>a7h h1 fun u hu=>iT (s:=5) (M:=Kf a n m) (aC _ _).symm u S V hu h2
theorem a30 {z:List Qi} {s:List (List Qi)} (hsh:cP s z.length z.length) (hl:z.length ≤ 8):iI Tryz.prog 93 [jI z s] [] (Nat) (fun B=>Is (.slice (some ⟨B,0,none⟩) z.length z.length)) (fun B=>[pE B 29 51 5 (bS aF (tab z.length fun i=>tab z.length fun k=>gm s i k))]) (fun _=>True):=by
 refine iI.intro Tryz.func93 rfl Tryz.ntmps93 rfl (fun cx Z=>(ts (rn rfl (fK (Ht rfl)) fun B1=>(ro rfl (cX cW) (eZ (ts (ro rfl (eW A_32 Z_32 (Ht rfl) (i:=1) rfl rfl rfl) (ro rfl (cJ K_22 lS ⟨(Ht rfl),trivial⟩) (rn rfl (eS (T:=Is (.slice none 0 0)) (i:=Tryz.t29) V_30 lV rfl rfl (Ht rfl) rfl (fun _=>rfl) trivial (by show 24 * _ ≤ _; omega) zo) fun B10=>(ra rfl (eZ (cU (ts (rm rfl (ro rfl (gL U_30 (Ht rfl)) (ro rfl (cZ (cV 0)) (eZ (eK ?_))))))))))))))))))
 refine mQ 2 rfl (rP (e:=51) (s:=5)) ?_
 refine bP (fun (i : Nat) => i ≤ z.length) (fun (i : Nat) => z.length - i) (fun (i : Nat) => [(1, bF B1 0), (3, Is (.slice (some ⟨B10, 0, none⟩) z.length z.length)), (12, NT .i64 z.length), (13, NT .i64 i)]) (fun (i : Nat) => [Z, box B1 32 [aR z, bM s], pE B10 29 51 5 (bS aF (iP (fun i => tab z.length fun k => gm s i k) [] z.length i))]) 0 (Nat.zero_le _)
  (zS rfl) (aU (fun _ _ _ h=>h) (aU (fun _ _ _ h=>h) (aU (bD (by rw [← fF,kT]; exact lM aF z.length)) aY))) (fun i hi=>?_)
 refine ts (ro rfl (gZ (Ht rfl) (Ht rfl)) (eZ (cU (dX (Ht rfl) (fun hd=>?_) (fun hd=>?_)))))
 ·simp only [decide_eq_true_eq] at hd
  refine oH 2 (i) rfl (iB hd) (fun v=>(cY (cU (eK (ts (rm rfl (ra rfl (eZ (ts (rm rfl (ro rfl (gL U_30 (Ht rfl)) (ro rfl (cZ (cV 0)) (eZ (eK ?_))))))))))))))
  refine eO (fun (k : Nat) (v : Value) => k ≤ z.length) (fun (k : Nat) (v : Value) => z.length - k) (fun (k : Nat) (v : Value) => [(1, bF B1 0), (3, Is (.slice (some ⟨B10, 0, none⟩) z.length z.length)), (4, NT .i64 i), (12, NT .i64 z.length), (13, NT .i64 i), (17, NT .i64 z.length), (18, NT .i64 k)]) (fun (k : Nat) (v : Value) => [Z, box B1 32 [aR z, bM s], Lp B10 29 51 5 (bS aF (iP (fun i => tab z.length fun k => gm s i k) [] z.length i)) i v, bN 51 5 v ((tab k fun k => gm s i k).map aF)]) 0 v (Nat.zero_le _)
   (zS rfl) (dD.refl _) (fun k v hk=>?_)
  refine ts (ro rfl (gZ (Ht rfl) (Ht rfl)) (eZ (cU (dX (Ht rfl) (fun he=>?_) (fun he=>?_)))))
  ·simp only [decide_eq_true_eq] at he
   refine cY (cU (eK (ts (rm rfl (ra rfl (eZ (ts (ro rfl (eW A_32 Z_32 (Ht rfl) (i:=1) rfl rfl rfl) (rm rfl (ro rfl (dW (Ht rfl) (cV 1) z6) (rm rfl (ro rfl (dW (Ht rfl) (cV 1) z6) (ro rfl (cJ Tryz.call25 (a6K (i:=(i:Int) + 1) (j:=(k:Int) + 1) hsh zo) ⟨(Ht rfl),(Ht rfl),(Ht rfl),trivial⟩) (rm rfl (ro rfl (dU (Ht rfl) rfl) (ro rfl (dU (Ht rfl) rfl) ?_))))))))))))))))
   refine rn rfl (eG (Ts:=[Is (.bool false),Is (.slice none 0 0),Is (.bool false),Is (.slice none 0 0),Is (.slice none 0 0)]) O_51 rfl (fun V=>aW zd (aW zd (aW zd (aW zd (aW zd (aG))))))) fun B6=>gX Z_51 (Ht rfl) (Ht rfl) rfl (i:=4) rfl (aK rfl) rfl rfl (ra rfl (eZ (Y.D_startA (m:=9) [] 8 3 rfl rfl (cQ (Ei:=[(3,_)]) rfl rfl (bQ (bJ rfl rfl) bX) rfl rfl (dZ rfl (cZ (Ht rfl))) ?_))))
   refine cQ (Ei:=[(4,_)]) rfl rfl (bQ (bJ rfl rfl) bX) rfl rfl (dZ rfl (cZ (Ht rfl))) (cQ (Ei:=[(3,_)]) rfl rfl (bQ (bJ rfl rfl) bX) rfl rfl (dZ rfl (cZ (Ht rfl))) (cQ (Ei:=[(4,_)]) rfl rfl (bQ (bJ rfl rfl) bX) rfl rfl (dZ rfl (cZ (Ht rfl))) (cQ (Ei:=[(32,_),(33,_)]) rfl rfl (bQ (bZ 2 rfl rfl) (bQ (bZ 3 rfl rfl) bX)) rfl rfl (dZ rfl (gQ U_30 Z_29 (Ht rfl) (Ht rfl) rfl zo (by rw [Nat.mul_one,Nat.zero_add]))) ?_)))
   refine cQ (Ei:=[(34,_)]) rfl rfl (bQ (bZ 4 rfl rfl) bX) rfl rfl (dZ rfl (gM A_29 Z_29 (Ht rfl) (j:=2) rfl)) (cQ (Ei:=[(6,_)]) rfl rfl (bQ (bJ rfl rfl) bX) rfl rfl (dZ rfl (eW A_51 Z_51 (Ht rfl) (i:=4) rfl rfl rfl)) (cQ (Ei:=[(36,_)]) rfl rfl (bQ (bZ 6 rfl rfl) bX) rfl rfl (dZ rfl (cA (xs:=[.tmp 36]) U_29 Z_51 O_51 (cG (Ht rfl) cK) rfl rfl rfl)) (Y.D_app (Ei:=[(35,_),(37,_)]) rfl rfl rfl rfl (bQ (bZ 5 rfl rfl) (bQ (bZ 7 rfl rfl) bX)) rfl (qA (inf:=Tryz.t51) kX jD rfl rfl rfl (Ht rfl) (Ht rfl) (by simp) (fun T hT=>by simp at hT; subst hT; exact El.ag rfl) (by show _ * 88 ≤ _; simp only [List.length_map,aC,List.length_cons,List.length_nil]; omega) (by simp only [List.length_map,aC,List.length_cons,List.length_nil]; omega)) ?_)))
   refine Y.D_done bA rfl (by kernel_rfl) rfl (by simp [Y.okP]) rfl rfl (bU (bU (bU (bU (bU (bU (bU (bU (Y.F_app (fun v2=>Y.F_nil ?_))))))))))
   refine ro rfl (gQ U_30 Z_29 (Ht rfl) (Ht rfl) rfl zo (by rw [Nat.mul_one,Nat.zero_add])) ?_
   refine sH Z_29 (Ht rfl) (Ht rfl) (by simp only [bS,List.length_map,cL]; omega) (j:=2) (l:=5) rfl rfl rfl ?_
   refine eZ (aT (dQ (ro rfl (dW (Ht rfl) (cV 1) z6) (rm rfl (eZ (bI [0,1,2,5] rfl (by decide) (fY (k + 1,v2) he (by dsimp only; omega) (zS rfl) (aU (fun _ _ _ h=>h) (aU (fun _ _ _ h=>h) (aU (fun _ _ _ h=>h) (aU (aN (by rw [mH,List.map_append,Sm hd he]; rfl)) aY)))))))))))
  ·simp only [decide_eq_false_iff_not] at he
   obtain rfl:k = z.length:=Nat.le_antisymm hk zo
   refine gW rfl (aT (dI 2 3 rfl rfl (by decide) (by simp only [bS,List.length_map,cL]; omega) ?_))
   refine dQ (ro rfl (dW (Ht rfl) (cV 1) z6) (rm rfl (eZ (bI [0,1,2] rfl (by decide) (fY (i + 1) hd zo (zS rfl) (aU (fun _ _ _ h=>h) (aU (fun _ _ _ h=>h) (aU (bD (by rw [eN,← fR (f:=(fun i=>tab z.length fun k=>gm s i k))])) aY))))))))
 ·simp only [decide_eq_false_iff_not] at hd
  obtain rfl:i = z.length:=Nat.le_antisymm hi zo
  refine gW rfl (ts (rm rfl (ra rfl (eZ ?_))))
  exact jP B10 trivial [0,2] ⟨⟨_,rfl,fun _ _ _ h=>h⟩,⟨_,rfl,(bD (by rw [gO]))⟩,trivial⟩ (by decide) (vN rfl (eY rfl))
theorem Kt {z : List Qi} {s : List (List Qi)} (hsh : cP s z.length z.length) (hl : z.length ≤ 8) : bL Tryz.prog 93 [jI z s] (bM s) := (a30 hsh hl).fun fun B _ v S V h1 h2 => by
 have h3:=iT (s:=5) (M:=tab z.length fun i=>tab z.length fun k=>gm s i k) (aC _ _).symm v S V h1 h2
 rw [← rQ hsh] at h3; exact h3
theorem a0B {z:List Qi} {s:List (List Qi)} (hl:z.length ≤ 8):bL Tryz.prog 142 [jI z s] (aR z):=by
 refine bL.intro Tryz.func142 rfl Tryz.ntmps142 rfl (fun cx=>(ts (rn rfl (fK (Ht rfl)) fun B1=>(ro rfl (cX cW) (eZ (ts (ro rfl (eW A_32 Z_32 (Ht rfl) (i:=0) rfl rfl rfl) (ro rfl (cJ K_22 lS ⟨(Ht rfl),trivial⟩) (rn rfl (kS (T:=aF Qi.zero) (i:=Tryz.t51) kX jD rfl rfl (Ht rfl) rfl kM (El.ag rfl) (by show 88 * _ ≤ _; omega) zo) fun B7=>(ra rfl (eZ (cU (ts (rm rfl (ro rfl (mL U_29 (Ht rfl) (i:=1) rfl (show ((List.replicate z.length (aF Qi.zero)).length:Int) = ((z.length:Nat):Int) by simp)) ?_)))))))))))))))
 refine ro rfl (cZ (cV 0)) (eZ (eK ?_))
 refine eO (fun (k : Nat) (out : List Qi) => mC (fun i => gv z i) z.length out k) (fun (k : Nat) (out : List Qi) => z.length - k) (fun (k : Nat) (out : List Qi) => [(1, bF B1 0), (3, Is B7), (9, NT .i64 z.length), (10, NT .i64 k)]) (fun (k : Nat) (out : List Qi) => [box B1 32 [aR z, bM s], bN 51 5 B7 (out.map aF)]) 0 (List.replicate z.length Qi.zero) (mC.start _ _ _)
  (zS rfl) (aU (fun _ _ _ h=>h) (aU (aN (vF aF _ _)) aY)) (fun k out hS=>?_)
 refine ts (ro rfl (gZ (Ht rfl) (Ht rfl)) (eZ (cU (dX (Ht rfl) (fun hk=>?_) (fun hk=>?_)))))
 ·simp only [decide_eq_true_eq] at hk
  have hlen:=hS.len
  refine cY (cU (eK (ts (rm rfl (ra rfl (eZ (dQ (rm rfl (rm rfl (ro rfl (eW A_32 Z_32 (Ht rfl) (i:=0) rfl rfl rfl) (rm rfl (ro rfl (dW (Ht rfl) (cV 1) z6) (ro rfl (cJ Tryz.call23 (a0n (i:=(k:Int) + 1) zo) ⟨(Ht rfl),(Ht rfl),trivial⟩) (rm rfl (ro rfl (dU (Ht rfl) rfl) (ro rfl (dU (Ht rfl) rfl) (ro rfl (cR U_29 Z_51 (Ht rfl) (Ht rfl) rfl (i:=1) rfl (by first | omega | (simp; omega)) rfl) ?_)))))))))))))))))
  refine jS Z_51 (Ht rfl) (Ht rfl) (El.ag rfl) (i:=1) rfl rfl (by first | omega | (simp; omega)) rfl (eZ (aT (dQ (ro rfl (dW (Ht rfl) (cV 1) z6) (rm rfl (eZ (fY (k + 1,_) (hS.next hk (Sn hk)) (by dsimp only; omega) (zS rfl) (aU (fun _ _ _ h=>h) (aU (aN (fI aF _ _ _)) aY)))))))))
 ·simp only [decide_eq_false_iff_not] at hk
  obtain rfl:k = z.length:=Nat.le_antisymm hS.kle zo
  have hfin:=hS.fin.trans (Fm (l:=z) rfl).symm
  refine gW rfl (gV (i:=1) (tt:=3) rfl rfl gK (ts (rm rfl (ra rfl (eZ (fG rfl (fZ (eY rfl) ?_)))))))
  exact (mB (by rw [hfin]))
end
section
open Go Go.RowKit
theorem uZ (v : Value) (w : World) : (method (Tryz.prog.types.size + Made.depth) 51 v "Div").run Tryz.prog w = .ok (40, v) w := by kernel_rfl
theorem lH (v : Value) (w : World) : (method (Tryz.prog.types.size + Made.depth) 51 v "Sub").run Tryz.prog w = .ok (44, v) w := by kernel_rfl
end
section
open Go Go.RowKit
theorem a0q {p c:List (List Qi)} {n m L:Nat} (hp:cP p n m) (hc:cP c m m) (hfp:bB p L) (hfc:bB c L) (hL1:1 ≤ L) (hL:L ≤ 1000000000) (hn1:1 ≤ n) (hm1:1 ≤ m) (hn:n ≤ 8) (hm:m ≤ 8):iI Tryz.prog 99 [bM p,bM c] [] (Nat) (fun B=>Is (.slice (some ⟨B,0,none⟩) n n)) (fun B=>[pE B 29 51 5 (bS aF (kB p c))]) (fun _=>True):=by
 have hpl:=hp.1
 have hf1:=a1B (n:=n) (m:=m) hfp hfc hL1 hL1 hm
 have hf2:=a07 (n:=n) (m:=m) hfp hL1
 have hs1:cP (nA p c n m m) n m:=qO
 have hs2:cP (Kf p n m) m n:=a08
 refine iI.intro Tryz.func99 rfl Tryz.ntmps99 rfl (fun cx Z=>(ts (ro rfl (cX cW) (eZ (cU (ts (rm rfl (ro rfl (dK U_30 (Ht rfl) aA) (ro rfl (dP (Ht rfl) (cV 0)) (eZ (dX (Ht rfl) (fun h0=>?_) (fun h0=>?_))))))))))))
 ·simp only [decide_eq_true_eq] at h0
  omega
 ·refine cY (ts (rm rfl (rm rfl (ro rfl (cJ Tryz.call195 (a5o hp hc hfp hfc hL1 hL1 zo zo hn1 hm1 hn hm hm) ⟨(Ht rfl), (Ht rfl), trivial⟩) (rm rfl (ro rfl (dU (Ht rfl) rfl) (ro rfl (dU (Ht rfl) rfl) (ra rfl (ra rfl (eZ (ts (rm rfl (ro rfl (cJ Tryz.call196 (a6J hp hn1 hn hm) ⟨(Ht rfl), trivial⟩) (rm rfl (ro rfl (dU (Ht rfl) rfl) (ro rfl (dU (Ht rfl) rfl) (ra rfl (ra rfl (eZ (ts (rm rfl (rm rfl (kZ Tryz.call195 (Ue (a := nA p c n m m) (b := Kf p n m) hs1 hs2 hf1 hf2 zo hL1 zo zo hn1 hm1 hn hm hn) ⟨(Ht rfl), (Ht rfl), trivial⟩ rfl (fun B28 _ => ?_))))))))))))))))))))))))
  refine rm rfl (ro rfl (dU (Ht rfl) rfl) (ro rfl (dU (Ht rfl) rfl) (ra rfl (ra rfl (eZ (ts (rm rfl (ra rfl (eZ ?_)))))))))
  exact jP B28 trivial [0,1] ⟨⟨_,rfl,fun _ _ _ h=>h⟩,⟨_,rfl,(bD (by rw [a5z hp hc]))⟩,trivial⟩ (by decide) (vN rfl (eY rfl))
theorem a4C {p c:List (List Qi)} {n m L:Nat} (hp:cP p n m) (hc:cP c m m) (hfp:bB p L) (hfc:bB c L) (hL1:1 ≤ L) (hL:L ≤ 1000000000) (hn1:1 ≤ n) (hm1:1 ≤ m) (hn:n ≤ 8) (hm:m ≤ 8):bL Tryz.prog 99 [bM p,bM c] (bM (kB p c)):=(a0q hp hc hfp hfc hL1 hL hn1 hm1 hn hm).fun fun B _ v S V h1 h2=>iT (s:=5) (M:=kB p c) (by rw [lF.1,hp.1]) v S V h1 h2
theorem a0l {z:List Qi} {s c:List (List Qi)} {g t0:Qi} {L:Nat} (hz:cH z L) (hs:bB s L) (hc:bB c L) (hg:aM g L) (ht:aM t0 L) (hL1:1 ≤ L) (hL:L ≤ 4000) (hsh:cP s z.length z.length) (hch:cP c z.length z.length) (hl:z.length ≤ 8):bL Tryz.prog 88 [eR z s c,aF g,aF t0] (fS [aF (yK z s c g t0).1,aL .i64 (yK z s c g t0).2]):=by
 haveI:=hg; haveI:=ht
 haveI hz0:aM Qi.zero 1:=aM.zero (Nat.le_refl 1)
 have d1:(dg (((1:Nat):Int)).natAbs).length = 1:=by decide
 have d2:(dg (Int.natAbs 1)).length = 1:=by decide
 have hcl:=hch.1
 refine bL.intro Tryz.func88 rfl Tryz.ntmps88 rfl (fun cx=>(ts (rn rfl (fK (Ht rfl)) fun B3=>(rn rfl (fK (Ht rfl)) fun B4=>(rn rfl (fK (Ht rfl)) fun B5=>(rn rfl (eG (Ts:=[Is (.bool false),Is (.slice none 0 0),Is (.bool false),Is (.slice none 0 0),Is (.slice none 0 0)]) O_51 rfl (fun V=>aW zd (aW zd (aW zd (aW zd (aW zd (aG))))))) fun B6=>(ro rfl (cX (cV 0)) (eZ (ts (rn rfl (eG (Ts:=[Is (.bool false),Is (.slice none 0 0),Is (.bool false),Is (.slice none 0 0),Is (.slice none 0 0)]) O_51 rfl (fun V=>aW zd (aW zd (aW zd (aW zd (aW zd (aG))))))) fun B8=>?_))))))))))
 refine eZ (cU (cU (fJ (m:=6) (dp 5 rfl (eW A_51 Z_51 (Ht rfl) (i:=2) rfl rfl rfl) (dq 18 0 rfl (cJ Tryz.call169 Kl ⟨(Ht rfl),trivial⟩) (dq 19 1 rfl (fB (Ht rfl)) (dq 20 2 rfl (cZ (Ht rfl)) (C.D_step (Ei:=[(5,_),(21,_)]) rfl rfl (bV (bK rfl rfl) (bV (bG 3 rfl rfl) bW)) (eU rfl rfl (Ht rfl) (fun h=>eW A_51 Z_51 (Ht rfl) (i:=2) rfl rfl rfl)) (C.D_step (Ei:=[(21,_)]) rfl rfl (bV (bG 3 rfl rfl) bW) (eU rfl rfl (Ht rfl) (fun h=>cJ K_77 (uE (n:=0) (by decide) (by decide)) ⟨(cV 0),trivial⟩)) ?_)))))))))
 refine fW bA rfl (by kernel_rfl) (zF (aJ (aJ (aV (fX rfl rfl (eU rfl rfl (Ht rfl) (fun h=>cJ Tryz.call76 (a0i (x:=t0) (y:=Qi.zero) (M:=1) zo) ⟨(fV rfl h),(fV rfl h),trivial⟩)) (fX rfl rfl (eU rfl rfl (Ht rfl) (fun h=>Sl (fV rfl h) cW)) (ro rfl (fO (Ht rfl) (fun h=>(fV rfl h))) (eZ (dX (Ht rfl) (fun hb=>?_) (fun hb=>?_))))))))))
 ·rw [Wc] at hb
  simp only [Bool.not_eq_true'] at hb
  have he:yK z s c g t0 = (Qi.zero,1):=by rw [yK,if_pos hb]
  refine ts (ro rfl (eW A_51 Z_51 (Ht rfl) (i:=4) rfl rfl rfl) (gX Z_51 (Ht rfl) (Ht rfl) rfl (i:=3) rfl (aK rfl) rfl rfl (ro rfl (cX (cV 1)) (eZ (bR rfl (fZ (fU A_51 Z_51 rfl (i:=3) rfl rfl) ?_) (fZ (eY rfl) ?_))))))
  ·exact (fun v V k=>by rw [he]; exact oY v V k)
  ·exact (fun v V k=>by rw [he]; exact k)
 ·rw [Wc] at hb
  simp only [Bool.not_eq_false'] at hb
  have hb2:¬ nJ t0 = false:=by rw [hb]; decide
  refine cY (cU (ts (ro rfl (eJ kI (Ht rfl) rfl) (ro rfl (fQ A_30 Z_30 (Ht rfl) (i:=0) rfl rfl) (ro rfl (dK U_30 (Ht rfl) aA) (ro rfl (fT (Ht rfl) (cV 2)) (eZ (dX (Ht rfl) (fun hd=>?_) (fun hd=>?_)))))))))
  ·have hd2 : z.length ≠ 2 := by rw [← hcl]; simpa using hd
   have he:yK z s c g t0 = (Qi.zero,4):=by rw [yK,if_neg hb2,if_pos hd2]
   refine ts (ro rfl (eW A_51 Z_51 (Ht rfl) (i:=4) rfl rfl rfl) (gX Z_51 (Ht rfl) (Ht rfl) rfl (i:=3) rfl (aK rfl) rfl rfl (ro rfl (cX (cV 4)) (eZ (bR rfl (fZ (fU A_51 Z_51 rfl (i:=3) rfl rfl) ?_) (fZ (eY rfl) ?_))))))
   ·exact (fun v V k=>by rw [he]; exact oY v V k)
   ·exact (fun v V k=>by rw [he]; exact k)
  ·have hd2 : z.length = 2 := by rw [← hcl]; simpa using hd
   have hd3:¬ z.length ≠ 2:=fun h=>h hd2
   have hsh2:=hsh
   rw [hd2] at hsh hch
   have hs1:=hsh.1
   have hc1:=hch.1
   have hr0:=hsh.row (i:=0) (by decide)
   have hr1:=hsh.row (i:=1) (by decide)
   have hWf:=Oc hs hg hL1
   have hW:cP (a16 s g) 1 2:=⟨rfl,fun r hr=>by have:=List.mem_singleton.1 hr; subst this; rfl⟩
   have hXs:cP (kB (a16 s g) c) 1 1:=lF
   have hX0:=hXs.row (i:=0) (by decide)
   have hp1:=pk1 (z:=z) zo
   haveI f1:aM (gm s 1 0) L:=hs.get hL1 1 0
   haveI f2:aM (gm s 0 0) L:=hs.get hL1 0 0
   haveI f3:aM (Zt z ((1:Nat):Int)) L:=by rw [hp1]; exact hz.get hL1 0
   haveI f4:=a18 hs hc hg hL1 zo
   have hpd:gm s 1 0 * (gm s 1 0).conj * (t0 * Zt z ((1:Nat):Int)) * (Mi - g * g.conj) = Oa z s g t0:=by rw [hp1,Qi.mul_conj_norm,Qi.mul_conj_norm,Oa,Qi.mul_assoc']
   refine cY (ts (ro rfl (eJ oJ (Ht rfl) rfl) (ro rfl (eW A_32 Z_32 (Ht rfl) (i:=0) rfl rfl rfl) (ro rfl (cJ Tryz.call93 (Kt hsh2 zo) ⟨(Ht rfl),trivial⟩) (ro rfl (cJ K_77 (uE (n:=1) (by decide) (by decide)) ⟨(cV 1),trivial⟩) (ro rfl (cJ K_98 Rk ⟨(Ht rfl),trivial⟩) (rn rfl (eG (Ts:=[Is (.bool false),Is (.slice none 0 0),Is (.bool false),Is (.slice none 0 0),Is (.slice none 0 0)]) O_51 rfl (fun V=>aW zd (aW zd (aW zd (aW zd (aW zd (aG))))))) fun B10=>?_)))))))
   refine ra rfl (gX Z_51 (Ht rfl) (Ht rfl) rfl (i:=5) rfl (aK rfl) rfl rfl (eZ (ts (ro rfl (eJ oJ (Ht rfl) rfl) (ro rfl (eW A_32 Z_32 (Ht rfl) (i:=0) rfl rfl rfl) (ro rfl (cJ Tryz.call23 (a0n (i:=((1:Nat):Int)) zo) ⟨(Ht rfl),(cV 1),trivial⟩) (rm rfl (ro rfl (dU (Ht rfl) rfl) (ro rfl (dU (Ht rfl) rfl) (rn rfl (eG (Ts:=[Is (.bool false),Is (.slice none 0 0),Is (.bool false),Is (.slice none 0 0),Is (.slice none 0 0)]) O_51 rfl (fun V=>aW zd (aW zd (aW zd (aW zd (aW zd (aG))))))) fun B11=>?_))))))))))
   refine gX Z_51 (Ht rfl) (Ht rfl) rfl (i:=6) rfl (aK rfl) rfl rfl (ra rfl (eZ (cU (sK (E':=[(3,_),(4,_),(5,_),(6,_),(7,_),(8,_),(9,_),(10,_),(11,_)]) (zS rfl) (fJ (m:=18) (dp 9 rfl (cZ (Ht rfl)) (dq 44 0 rfl (dJ U_30 Z_29 (Ht rfl) (cV 1) rfl (eQ (dY (d:=[]) zo))) (dq 45 1 rfl (dV A_29 Z_29 (Ht rfl)) (dq 46 2 rfl (dJ U_29 Z_51 (Ht rfl) (cV 0) rfl (eQ (dY (d:=Qi.zero) (by rw [hr1]; decide)))) ?_)))))))))
   refine dq 47 3 rfl (dV A_51 Z_51 (Ht rfl)) (dq 48 4 rfl (cO eA (Ht rfl)) (dp 4 rfl (eW A_51 Z_51 (Ht rfl) (i:=1) rfl rfl rfl) (dT 49 5 50 6 rfl (cF gT K_45 (rG zo) (Ht rfl) ⟨(Ht rfl),trivial⟩) (dp 10 rfl (eW A_51 Z_51 (Ht rfl) (i:=5) rfl rfl rfl) (dq 52 8 rfl (cO eA (Ht rfl)) (dp 4 rfl (eW A_51 Z_51 (Ht rfl) (i:=1) rfl rfl rfl) (dq 54 10 rfl (cO eA (Ht rfl)) (dp 9 rfl (cZ (Ht rfl)) (dq 56 12 rfl (dJ U_30 Z_29 (Ht rfl) (cV 0) rfl (eQ (dY (d:=[]) zo))) ?_)))))))))
   refine dq 57 13 rfl (dV A_29 Z_29 (Ht rfl)) (dq 58 14 rfl (dJ U_29 Z_51 (Ht rfl) (cV 0) rfl (eQ (dY (d:=Qi.zero) (by rw [hr0]; decide)))) ?_)
   refine dq 59 15 rfl (dV A_51 Z_51 (Ht rfl)) (dT 55 11 60 16 rfl (cF gT K_45 (rG zo) (Ht rfl) ⟨(Ht rfl),trivial⟩) (fW bA rfl (by kernel_rfl) (zF (zF (zF (zF (aJ (aJ (aV (ro rfl (cF lH K_44 (Eh zo) (Ht rfl) ⟨(Ht rfl),trivial⟩) (ro rfl (cA (xs:=[.tmp 51,.tmp 62]) U_29 Z_51 O_51 (cG (Ht rfl) (cG (Ht rfl) cK)) rfl rfl rfl) ?_)))))))))))
   refine ro rfl (cA (xs:=[.tmp 63]) U_30 Z_29 O_29 (cG (Ht rfl) cK) rfl rfl rfl) (ra rfl (eZ (cU (sK (E':=[(3,_),(4,_),(5,_),(6,_),(7,_),(8,_),(9,_),(10,_),(11,_),(13,_)]) (zS rfl) (dQ (rm rfl (ro rfl (eJ kI (Ht rfl) rfl) (ro rfl (fQ A_30 Z_30 (Ht rfl) (i:=0) rfl rfl) (ro rfl (cJ Tryz.call99 (a4C (p:=a16 s g) (c:=c) (n:=1) (m:=2) (L:=2 * L + 4) hW hch hWf (hc.le zo) zo zo (by decide) (by decide) (by decide) (by decide)) ⟨(Ht rfl),(Ht rfl),trivial⟩) ?_)))))))))
   refine ro rfl (dJ U_30 Z_29 (Ht rfl) (cV 0) rfl (eQ (dY (d:=[]) (by rw [hXs.1]; decide)))) ?_
   refine ro rfl (dV A_29 Z_29 (Ht rfl)) (ro rfl (dJ U_29 Z_51 (Ht rfl) (cV 0) rfl (eQ (dY (d:=Qi.zero) (by rw [hX0]; decide)))) ?_)
   refine ro rfl (dV A_51 Z_51 (Ht rfl)) (rn rfl (eG (Ts:=[Is (.bool false),Is (.slice none 0 0),Is (.bool false),Is (.slice none 0 0),Is (.slice none 0 0)]) O_51 rfl (fun V=>aW zd (aW zd (aW zd (aW zd (aW zd (aG))))))) fun B14=>(gX Z_51 (Ht rfl) (Ht rfl) rfl (i:=7) rfl (aK rfl) rfl rfl (eZ (cU (sK (E':=[(3,_),(4,_),(5,_),(6,_),(7,_),(8,_),(9,_),(10,_),(11,_),(14,_)]) (zS rfl) ?_)))))
   refine fJ (m:=32) (dp 9 rfl (cZ (Ht rfl)) (dq 73 0 rfl (dJ U_30 Z_29 (Ht rfl) (cV 1) rfl (eQ (dY (d:=[]) zo))) (dq 74 1 rfl (dV A_29 Z_29 (Ht rfl)) (dq 75 2 rfl (dJ U_29 Z_51 (Ht rfl) (cV 0) rfl (eQ (dY (d:=Qi.zero) (by rw [hr1]; decide)))) ?_))))
   refine dq 76 3 rfl (dV A_51 Z_51 (Ht rfl)) (dq 77 4 rfl (cO eA (Ht rfl)) (dp 9 rfl (cZ (Ht rfl)) (dq 79 6 rfl (dJ U_30 Z_29 (Ht rfl) (cV 1) rfl (eQ (dY (d:=[]) zo))) (dq 80 7 rfl (dV A_29 Z_29 (Ht rfl)) (dq 81 8 rfl (dJ U_29 Z_51 (Ht rfl) (cV 0) rfl (eQ (dY (d:=Qi.zero) (by rw [hr1]; decide)))) ?_)))))
   refine dq 82 9 rfl (dV A_51 Z_51 (Ht rfl)) (dq 83 10 rfl (cO eA (Ht rfl)) (dq 84 11 rfl (cF tS Tryz.call175 Qz (Ht rfl) trivial) (dT 78 5 85 12 rfl (cF gT K_45 (rG zo) (Ht rfl) ⟨(Ht rfl),trivial⟩) (dq 86 13 rfl (cO eA (Ht rfl)) (dp 5 rfl (eW A_51 Z_51 (Ht rfl) (i:=2) rfl rfl rfl) (dp 11 rfl (eW A_51 Z_51 (Ht rfl) (i:=6) rfl rfl rfl) (dT 88 15 89 16 rfl (cJ K_45 (rG zo) ⟨(Ht rfl),(Ht rfl),trivial⟩) (dq 90 17 rfl (cJ K_98 Rk ⟨(Ht rfl),trivial⟩) ?_))))))))
   refine dT 87 14 91 18 rfl (cF gT K_45 (rG zo) (Ht rfl) ⟨(Ht rfl),trivial⟩) (dq 92 19 rfl (cO eA (Ht rfl)) (dp 10 rfl (eW A_51 Z_51 (Ht rfl) (i:=5) rfl rfl rfl) (dq 94 21 rfl (cO eA (Ht rfl)) (dp 4 rfl (eW A_51 Z_51 (Ht rfl) (i:=1) rfl rfl rfl) (dq 96 23 rfl (cO eA (Ht rfl)) (dp 4 rfl (eW A_51 Z_51 (Ht rfl) (i:=1) rfl rfl rfl) (dq 98 25 rfl (cO eA (Ht rfl)) (dq 99 26 rfl (cF tS Tryz.call175 Qz (Ht rfl) trivial) (dT 97 24 100 27 rfl (cF gT K_45 (rG zo) (Ht rfl) ⟨(Ht rfl),trivial⟩) ?_)))))))))
   refine dT 95 22 101 28 rfl (cF lH K_44 (Eh zo) (Ht rfl) ⟨(Ht rfl),trivial⟩) (dT 93 20 102 29 rfl (cF gT K_45 (rG zo) (Ht rfl) ⟨(Ht rfl),trivial⟩) (C.D_new (Ei:=[]) rfl rfl rfl bW (eG (Ts:=[Is (.bool false),Is (.slice none 0 0),Is (.bool false),Is (.slice none 0 0),Is (.slice none 0 0)]) O_51 rfl (fun V=>aW zd (aW zd (aW zd (aW zd (aW zd (aG))))))) (fW bA rfl (by kernel_rfl) (zF (zF (zF (zF (zF (zF (zF (aJ (aJ (aJ (C.F_new (fun B15=>aV ?_)))))))))))))))
   refine gX Z_51 (Ht rfl) (Ht rfl) rfl (i:=8) rfl (aK rfl) rfl rfl (eZ (cU (sK (E':=[(6,_),(7,_),(8,_),(10,_),(14,_),(15,_)]) (zS rfl) (dQ (ro rfl (eW A_51 Z_51 (Ht rfl) (i:=7) rfl rfl rfl) (ro rfl (cO eA (Ht rfl)) (ro rfl (eW A_51 Z_51 (Ht rfl) (i:=8) rfl rfl rfl) (ro rfl (cF uZ Tryz.call40 (a0k (x:=a17 s c g) (y:=gm s 1 0 * (gm s 1 0).conj * (t0 * Zt z ((1:Nat):Int)) * (Mi - g * g.conj)) zo) (Ht rfl) ⟨(Ht rfl),trivial⟩) ?_))))))))
   refine rm rfl (ro rfl (dU (Ht rfl) rfl) (ro rfl (dU (Ht rfl) rfl) (rn rfl (eG (Ts:=[Is (.bool false),Is (.slice none 0 0),Is (.bool false),Is (.slice none 0 0),Is (.slice none 0 0)]) O_51 rfl (fun V=>aW zd (aW zd (aW zd (aW zd (aW zd (aG))))))) fun B16=>(gX Z_51 (Ht rfl) (Ht rfl) rfl (i:=9) rfl (aK rfl) rfl rfl (ra rfl (eZ (cU (cU (sK (E':=[(6,_),(7,_),(8,_),(10,_),(16,_),(17,_)]) (zS rfl) ?_)))))))))
   refine dQ (rm rfl (ro rfl (gD (Ht rfl) cW) (eZ (dX (Ht rfl) (fun hk=>?_) (fun hk=>?_)))))
   ·rw [hpd] at hk
    have hk2 : Oa z s g t0 = Qi.zero := by
     by_cases h:Oa z s g t0 = Qi.zero
     ·exact h
     ·rw [if_neg h] at hk; exact absurd hk (by decide)
    have he:yK z s c g t0 = (Qi.zero,3):=by rw [yK,if_neg hb2,if_neg hd3,if_pos hk2]
    refine ts (ro rfl (eW A_51 Z_51 (Ht rfl) (i:=4) rfl rfl rfl) (gX Z_51 (Ht rfl) (Ht rfl) rfl (i:=3) rfl (aK rfl) rfl rfl (ro rfl (cX (cV 3)) (eZ (bR rfl (fZ (fU A_51 Z_51 rfl (i:=3) rfl rfl) ?_) (fZ (eY rfl) ?_))))))
    ·exact (fun v V k=>by rw [he]; exact oY v V k)
    ·exact (fun v V k=>by rw [he]; exact k)
   ·have hk2 : ¬ Oa z s g t0 = Qi.zero := fun h => by rw [hpd, if_pos h] at hk; exact absurd hk (by decide)
    have he:yK z s c g t0 = (Mi + a17 s c g / Oa z s g t0,0):=by rw [yK,if_neg hb2,if_neg hd3,if_neg hk2]
    have hv:Mi + a17 s c g / (gm s 1 0 * (gm s 1 0).conj * (t0 * Zt z ((1:Nat):Int)) * (Mi - g * g.conj)) = (yK z s c g t0).1:=by rw [he,hpd]
    refine cY (ts (ro rfl (eW A_51 Z_51 (Ht rfl) (i:=5) rfl rfl rfl) (ro rfl (cO eA (Ht rfl)) (ro rfl (eW A_51 Z_51 (Ht rfl) (i:=9) rfl rfl rfl) (ro rfl (cF uY Tryz.call46 (Nb zo) (Ht rfl) ⟨(Ht rfl),trivial⟩) (gX Z_51 (Ht rfl) (Ht rfl) rfl (i:=3) rfl (aK rfl) rfl rfl (ro rfl (cX (cV 0)) (eZ (bR rfl (fZ (fU A_51 Z_51 rfl (i:=3) rfl rfl) ?_) (fZ (eY rfl) ?_))))))))))
    ·exact (kL hv)
    ·exact (fun v V k=>by rw [he]; exact k)
end
section
open Go Go.RowKit
theorem a2K {n:Nat} (h:n < 4294967296):bL Tryz.prog 278 [NT .u64 1,NT .u64 n] (fS [NT .u64 0,NT .u64 n]):=by
 refine bL.intro Tryz.func278 rfl Tryz.ntmps278 rfl (fun cx=>(ts (ro rfl (cX (cV 0)) (ro rfl (cX (cV 0)) (eZ (ts (rm rfl (ro rfl (aI.nat (wM rfl (Ht rfl) (cV 4294967295) z7 z7) (show (1:Nat) &&& 4294967295 = 1 by decide)) (ra rfl (eZ (ts (rm rfl (ro rfl (aI.nat (gA (Ht rfl) (cV 32) (by decide)) (show (1:Nat) / 2 ^ 32 = 0 by decide)) (ra rfl (eZ (ts (rm rfl (ro rfl (aI.nat (wM rfl (Ht rfl) (cV 4294967295) z7 z7) (show n &&& 4294967295 = n from (Nat.and_two_pow_sub_one_eq_mod n 32).trans (Nat.mod_eq_of_lt h))) ?_))))))))))))))))))
 refine ra rfl (eZ (ts (rm rfl (ro rfl (aI.nat (gA (Ht rfl) (cV 32) (by decide)) (show n / 2 ^ 32 = 0 from Nat.div_eq_of_lt h)) (ra rfl (eZ (ts (rm rfl (rm rfl (ro rfl (aI.nat (mM (Ht rfl) (Ht rfl) z7) (Nat.one_mul n)) (ra rfl (eZ (ts (rm rfl (rm rfl (ro rfl (aI.nat (mM (Ht rfl) (Ht rfl) z7) (Nat.zero_mul n)) (rm rfl (ro rfl (aI.nat (gA (Ht rfl) (cV 32) (by decide)) (show n / 2 ^ 32 = 0 from Nat.div_eq_of_lt h)) ?_))))))))))))))))))
 refine ro rfl (dW (Ht rfl) (Ht rfl) z7) (ra rfl (eZ (ts (rm rfl (ro rfl (aI.nat (wM rfl (Ht rfl) (cV 4294967295) z7 z7) (show (0 + 0:Nat) &&& 4294967295 = 0 by decide)) (ra rfl (eZ (ts (rm rfl (ro rfl (aI.nat (gA (Ht rfl) (cV 32) (by decide)) (show (0 + 0:Nat) / 2 ^ 32 = 0 by decide)) (ra rfl (eZ (ts (rm rfl (rm rfl (rm rfl ?_))))))))))))))))
 refine ro rfl (aI.nat (mM (Ht rfl) (Ht rfl) z7) (show (1 * 0:Nat) = 0 by decide)) (ro rfl (dW (Ht rfl) (Ht rfl) z7) (ra rfl (eZ (ts (rm rfl (rm rfl (ro rfl (aI.nat (mM (Ht rfl) (Ht rfl) z7) (show (0 * 0:Nat) = 0 by decide)) (rm rfl (ro rfl (dW (Ht rfl) (Ht rfl) z7) ?_)))))))))
 refine rm rfl (ro rfl (aI.nat (gA (Ht rfl) (cV 32) (by decide)) (show (0 + 0:Nat) / 2 ^ 32 = 0 by decide)) (ro rfl (dW (Ht rfl) (Ht rfl) z7) (ra rfl (eZ (ts (rm rfl (rm rfl (ro rfl (aI.nat (mM (Ht rfl) (Ht rfl) z7) (Nat.one_mul n)) (ra rfl (eZ (bR rfl (fZ (eY rfl) ?_) (eY rfl))))))))))))
 exact (lK (by decide))
theorem a5p {n:Nat} (h:n < 4294967296):bL Tryz.prog 251 [NT .u64 1,NT .u64 n] (fS [NT .u64 0,NT .u64 n]):=by
 refine bL.intro Tryz.func251 rfl Tryz.ntmps251 rfl (fun cx=>(ts (ro rfl (cX (cV 0)) (ro rfl (cX (cV 0)) (eZ (cU (dX cW (fun hf=>?_) (fun hf=>?_))))))))
 ·exact absurd hf (by decide)
 ·refine cY (ts (rm rfl (rm rfl (ro rfl (cJ Tryz.call278 (a2K h) ⟨(Ht rfl), (Ht rfl), trivial⟩) (rm rfl (ro rfl (dU (Ht rfl) rfl) (ro rfl (dU (Ht rfl) rfl) (ra rfl (ra rfl (eZ (ts (rm rfl (rm rfl (ra rfl (ra rfl (eZ ?_))))))))))))))))
  exact bR rfl (eY rfl) (eY rfl)
theorem Re {m:Nat} (h1:1 ≤ m) (hm:m ≤ 1000):iI Tryz.prog 191 [aR [Qi.zero],NT .i64 m] [] ({v:Value // eM v}) (fun v=>Is v.1) (fun v=>[bN 51 5 v.1 ((tab m fun _=>Qi.zero).map aF)]) (fun _=>True):=by
 refine iI.intro Tryz.func191 rfl Tryz.ntmps191 rfl (fun cx Z=>(ts (ro rfl (cX cW) (eZ (cU (ts (rm rfl (ro rfl (gZ (Ht rfl) (cV 0)) (eZ (dX (Ht rfl) (fun h0=>?_) (fun h0=>?_)))))))))))
 ·simp only [decide_eq_true_eq] at h0
  omega
 ·refine cY (ts (rm rfl (ro rfl (dK U_29 (Ht rfl) (show (([Qi.zero].map aF).length : Int) = ((1 : Nat) : Int) from rfl)) (ro rfl (gJ U_3 U_255 (Ht rfl) z7) (rm rfl (ro rfl (gJ U_3 U_255 (Ht rfl) z7) (ro rfl (cJ Tryz.call251 (a5p zo) ⟨(Ht rfl), (Ht rfl), trivial⟩) (rm rfl (ro rfl (dU (Ht rfl) rfl) (ro rfl (dU (Ht rfl) rfl) ?_))))))))))
  refine ra rfl (ra rfl (eZ (cU (ts (rm rfl (ro rfl (dF (Ht rfl) (cV 0)) (rm rfl (fX rfl rfl (eU rfl rfl (Ht rfl) (fun h=>cZ (Ht rfl))) (fX rfl rfl (eU rfl rfl (Ht rfl) (fun h=>dF (fV rfl h) (cV 9223372036854775807))) (ro rfl (fO (Ht rfl) (fun h=>(fV rfl h))) (eZ (dX (Ht rfl) (fun h2=>?_) (fun h2=>?_)))))))))))))
  ·simp only [Bool.or_eq_true, decide_eq_true_eq] at h2
   omega
  ·refine cY (ts (rm rfl (ro rfl (gJ U_255 U_3 (Ht rfl) z6) (Tn (T := aF Qi.zero) (i := Tryz.t51) kX jD rfl rfl (Ht rfl) rfl kM (El.ag rfl) (by show 88 * _ ≤ _; omega) zo rfl (fun B30 hB30 => (ra rfl (eZ (ts (rm rfl (rm rfl (ro rfl (a1N (q := 1) (T := aF Qi.zero) U_29 Z_51 (i := 1) rfl (Ht rfl) (Ht rfl) (by decide) (El.ag rfl) zo) (ra rfl (eZ (cU (eK ?_)))))))))))))))
   refine bP (fun (k : Nat) => 1 ≤ k ∧ k ≤ m) (fun (k : Nat) => m - k) (fun (k : Nat) => [(7, Is B30), (8, NT .i64 k)]) (fun (k : Nat) => [Z, bN 51 5 B30 (List.replicate m (aF Qi.zero))]) (Nat.min 1 m) ⟨by show 1 ≤ min 1 m; omega, by show min 1 m ≤ m; omega⟩
    (zS rfl) (dD.refl _) (fun k ⟨hk1,hk⟩=>?_)
   refine cU (ts (rm rfl (rm rfl (ro rfl (mL U_29 (Ht rfl) (i:=1) rfl (show ((List.replicate m (aF Qi.zero)).length:Int) = ((m:Nat):Int) by simp)) (ro rfl (gZ (Ht rfl) (Ht rfl)) (eZ (dX (Ht rfl) (fun hd=>?_) (fun hd=>?_))))))))
   ·simp only [decide_eq_true_eq] at hd
    have hlen:(List.replicate m (aF Qi.zero)).length = m:=by simp
    have h5:Nat.min k ((List.replicate m (aF Qi.zero)).length - k) = min k (m - k):=by rw [hlen]
    refine cY (eK (fJ (m:=8) (dp 8 rfl (cZ (Ht rfl)) (dp 7 rfl (cZ (Ht rfl)) (dp 8 rfl (cZ (Ht rfl)) (dT 39 1 40 2 rfl (Pe U_29 Z_51 (Ht rfl) (Ht rfl) rfl (i:=1) rfl (by rw [hlen]; exact hd)) ?_))))))
    refine dp 7 rfl (cZ (Ht rfl)) (dp 8 rfl (cZ (Ht rfl)) (dT 42 4 43 5 rfl (a1R U_29 Z_51 (Ht rfl) (Ht rfl) rfl (i:=1) rfl (by rw [hlen]; omega) (by rw [hlen]; omega)) ?_))
    refine dT 41 3 44 6 rfl (Si (T:=aF Qi.zero) U_29 Z_51 (i:=1) rfl (Ht rfl) (Ht rfl)) (fW bA rfl (by kernel_rfl) (zF (zF (aV (ro rfl (dW (Ht rfl) (Ht rfl) (by show _ < 9223372036854775808; omega)) (ra rfl (eZ (aT (fY (k + Nat.min k ((List.replicate m (aF Qi.zero)).length - k)) ⟨by omega,by omega⟩ zo (zS rfl) (dD.refl _))))))))))
   ·refine gW rfl (ts (rm rfl (ra rfl (eZ ?_))))
    exact jP ⟨B30,hB30⟩ trivial [0,1] ⟨⟨_,rfl,fun _ _ _ h=>h⟩,⟨_,rfl,(aN (by rw [kT,vF]))⟩,trivial⟩ (by decide) (vN rfl (eY rfl))
end
section
open Go Go.RowKit
theorem qF {n : Nat} {E : dB} {H : Hp} {d : Option Tmp} {t : TypeId} {pos : String} {af : Array Edge} {g : Option (Nat × Bool)} {x0 x1 : Operand} {T0 T1 T2 : Ty} (h0 : bH E x0 (eI [T0, T1])) [s1 : dA T2 1 false] (h1 : bH E x1 T2) :
  aI Tryz.prog n E H ⟨d,.build 34 #[(0,x0),(1,x1)],t,pos,af,g⟩ (eI [T0,T1,T2]) :=
 fH (parts := [(0, x0), (1, x1)]) fun a V w hs => by
  obtain ⟨v0,e0,c0⟩:=h0 n V a hs
  obtain ⟨c0_0,c0_1,rfl⟩:∃ c0_0 c0_1,v0 = [c0_0,c0_1]:=Bp (by simpa using c0.length)
  have p1:=h1 n V a hs
  generalize e1:a.eval x1 = v1 at p1
  have q1:=(s1.ok v1 V p1).2.2 rfl
  refine ⟨.agg #[c0_0,c0_1,v1],?_,[c0_0,c0_1,v1],rfl,aW (c0.at (i:=0) rfl rfl) (aW (c0.at (i:=1) rfl rfl) (aW (⟨p1,q1⟩) (aG)))⟩
  simp [e0,e1,Instr.build,Instr.fill,Sem.run_bind,Result.andThen,eL,q1.cells,O_34,U_34,Z_30,Z_32]
end
section
open Go Go.RowKit
theorem En {n:Nat} (hn:n ≤ 1000):iI Tryz.prog 97 [NT .i64 n,NT .i64 n] [] (Nat) (fun B=>Is (.slice (some ⟨B,0,none⟩) n n)) (fun B=>[kK eM B 29 51 5 (bS aF (zO n n))]) (fun _=>True):=by
 refine iI.intro Tryz.func97 rfl Tryz.ntmps97 rfl (fun cx Z=>(ts (ro rfl (cX cW) (eZ (ts (rm rfl (rn rfl (eS (T:=Is (.slice none 0 0)) (i:=Tryz.t29) V_30 lV rfl rfl (Ht rfl) rfl (fun _=>rfl) trivial (by show 24 * _ ≤ _; omega) zo) fun B8=>(ra rfl (eZ (cU (ts (rm rfl (ro rfl (gL U_30 (Ht rfl)) (ro rfl (cZ (cV 0)) (eZ (eK (mQ 1 rfl (uX eM ⟨none,0,rfl⟩ (e:=51) (s:=5)) ?_)))))))))))))))))
 refine bP (fun (k : Nat) => k ≤ n) (fun (k : Nat) => n - k) (fun (k : Nat) => [(1, NT .i64 n), (5, Is (.slice (some ⟨B8, 0, none⟩) n n)), (10, NT .i64 n), (11, NT .i64 k)]) (fun (k : Nat) => [Z, kK eM B8 29 51 5 (bS aF (iP (fun _ => (tab n fun _ => Qi.zero)) [] n k))]) 0 (Nat.zero_le _)
  (zS rfl) (aU (fun _ _ _ h=>h) (aU (bD (by rw [← fF,kT]; exact lM aF n)) aY)) (fun k hk=>?_)
 refine ts (ro rfl (gZ (Ht rfl) (Ht rfl)) (eZ (cU (dX (Ht rfl) (fun hd=>?_) (fun hd=>?_)))))
 ·simp only [decide_eq_true_eq] at hd
  refine iS 1 (k) rfl (iB hd) (fun v hv=>(cY (cU (eK (ts (rm rfl (ra rfl (eZ (dQ (rm rfl (rm rfl (ro rfl (cJ K_77 (uE (n:=0) (by decide) (by decide)) ⟨(cV 0),trivial⟩) (ro rfl (cJ K_98 Rk ⟨(Ht rfl),trivial⟩) (ro rfl (cA (xs:=[.tmp 17]) U_29 Z_51 O_51 (cG (Ht rfl) cK) rfl rfl rfl) (rm rfl (kZ Tryz.call191 (Re (m:=n) zo hn) ⟨(Ht rfl),(Ht rfl),trivial⟩ rfl (fun B20 _=>?_)))))))))))))))))
  have hB20:=B20.2
  refine ro rfl (gQ U_30 Z_29 (Ht rfl) (Ht rfl) rfl zo (by rw [Nat.mul_one,Nat.zero_add])) ?_
  refine sH Z_29 (Ht rfl) (Ht rfl) (by simp only [bS,List.length_map,cL]; omega) (j:=1) (l:=3) rfl rfl rfl ?_
  refine eZ (aT (dI 1 3 rfl rfl (by decide) (by simp only [bS,List.length_map,cL]; omega) ?_))
  refine dQ (ro rfl (dW (Ht rfl) (cV 1) z6) (rm rfl (eZ (bI [0,1] rfl (by decide) (fY (k + 1) hd zo (zS rfl) (aU (fun _ _ _ h=>h) (aU (bD (by rw [eN,← fR (f:=fun _=>(tab n fun _=>Qi.zero))])) aY)))))))
 ·simp only [decide_eq_false_iff_not] at hd
  obtain rfl:n = k:=Nat.le_antisymm zo hk
  refine gW rfl (ts (rm rfl (ra rfl (eZ ?_))))
  exact jP B8 trivial [0,1] ⟨⟨_,rfl,fun _ _ _ h=>h⟩,⟨_,rfl,(bD (by rw [gO]; rfl))⟩,trivial⟩ (by decide) (vN rfl (eY rfl))
theorem a0F {z:List Qi} {s:List (List Qi)} {L:Nat} (hz:cH z L) (hs:bB s L) (hL1:1 ≤ L) (hL:L ≤ 1000000) (hsh:cP s z.length z.length) (hl1:1 ≤ z.length) (hl:z.length ≤ 8):iI Tryz.prog 160 [jI z s] [] (Nat) (fun B=>Is (.slice (some ⟨B,0,none⟩) z.length z.length)) (fun B=>[kK eM B 29 51 5 (bS aF (lL z s))]) (fun _=>True):=by
 have hs1:=hs.le (Nat.le_refl L)
 have hsl:=hsh.1
 have hD:=Eu z
 have hDf:=Et hz hL1
 have hXf:=qG hs hDf hL1 (by rw [hD.1]; exact hl)
 have hX:cP (kB s (iH z)) s.length s.length:=lF
 refine iI.intro Tryz.func160 rfl Tryz.ntmps160 rfl (fun cx Z=>(ts (rn rfl (fK (Ht rfl)) fun B1=>(ro rfl (cX cW) (eZ (cU (fJ (m:=3) (dp 1 rfl (eW A_32 Z_32 (Ht rfl) (i:=1) rfl rfl rfl) (dq 10 0 rfl (cJ K_22 lS ⟨(Ht rfl),trivial⟩) (dp 1 rfl (eW A_32 Z_32 (Ht rfl) (i:=1) rfl rfl rfl) (fW bA rfl (by kernel_rfl) (aJ (aJ (aJ (aV (ro rfl (cJ K_22 lS ⟨(Ht rfl),trivial⟩) (kZ Tryz.call97 (En (n:=z.length) zo) ⟨(Ht rfl),(Ht rfl),trivial⟩ rfl (fun B14 _=>?_))))))))))))))))))
 refine ra rfl (eZ (cU (ts (ro rfl (eW A_32 Z_32 (Ht rfl) (i:=1) rfl rfl rfl) (ro rfl (cJ Tryz.call142 (a0B zo) ⟨(Ht rfl),trivial⟩) (ro rfl (dK U_29 (Ht rfl) aA) (ro rfl (cZ (cV 0)) (eZ (eK ?_)))))))))
 refine bP (fun (i : Nat) => i ≤ z.length) (fun (i : Nat) => z.length - i) (fun (i : Nat) => [(1, bF B1 0), (3, Is (.slice (some ⟨B14, 0, none⟩) z.length z.length)), (16, aR z), (17, NT .i64 z.length), (18, NT .i64 i)]) (fun (i : Nat) => [Z, box B1 32 [aR z, bM s], kK eM B14 29 51 5 (bS aF (iP (fun i => (tab z.length fun _ => Qi.zero).set i (gv z i)) (tab z.length fun _ => Qi.zero) z.length i))]) 0 (Nat.zero_le _)
  (zS rfl) (aU (fun _ _ _ h=>h) (aU (fun _ _ _ h=>h) (aU (bD (by rw [zO,fF])) aY))) (fun i hi=>?_)
 refine ts (ro rfl (gZ (Ht rfl) (Ht rfl)) (eZ (cU (dX (Ht rfl) (fun hd=>?_) (fun hd=>?_)))))
 ·simp only [decide_eq_true_eq] at hd
  have hzl:=aC z.length fun _=>Qi.zero
  refine iS 2 (i) rfl (iB hd) (fun v hv=>(cY (cU (eK (ts (rm rfl (ro rfl (dJ U_29 Z_51 (Ht rfl) (Ht rfl) rfl (eQ (dY (d:=Qi.zero) hd))) (ro rfl (dV A_51 Z_51 (Ht rfl)) (rn rfl (eG (Ts:=[Is (.bool false),Is (.slice none 0 0),Is (.bool false),Is (.slice none 0 0),Is (.slice none 0 0)]) O_51 rfl (fun V=>aW zd (aW zd (aW zd (aW zd (aW zd (aG))))))) fun B5=>(ra rfl ?_))))))))))
  refine gX Z_51 (Ht rfl) (Ht rfl) rfl (i:=4) rfl (aK rfl) rfl rfl (eZ (fJ (m:=7) (dp 3 rfl (cZ (Ht rfl)) (dp 4 rfl (cZ (Ht rfl)) (dT 23 0 24 1 rfl (gQ U_30 Z_29 (Ht rfl) (Ht rfl) rfl zo (by rw [Nat.mul_one,Nat.zero_add])) ?_)))))
  refine dq 25 2 rfl (gM A_29 Z_29 (Ht rfl) (j:=2) rfl) (dp 4 rfl (cZ (Ht rfl)) (dp 5 rfl (eW A_51 Z_51 (Ht rfl) (i:=4) rfl rfl rfl) (dq 28 5 rfl (cJ K_98 Rk ⟨(Ht rfl),trivial⟩) (fW bA rfl (by kernel_rfl) (zF (aJ (aJ (aJ (aV (ro rfl (cR U_29 Z_51 (Ht rfl) (Ht rfl) rfl (i:=3) rfl (by simp only [List.length_map,aC]; omega) rfl) ?_))))))))))
  refine jS Z_51 (Ht rfl) (Ht rfl) (El.ag rfl) (i:=3) rfl rfl (by simp only [List.length_map,aC]; omega) rfl ?_
  refine eZ (aT (dI 2 3 rfl rfl (by decide) (by simp only [bS,List.length_map,cL]; omega) ?_))
  refine dQ (ro rfl (dW (Ht rfl) (cV 1) z6) (rm rfl (eZ (bI [0,1,2] rfl (by decide) (fY (i + 1) hd zo (zS rfl) (aU (fun _ _ _ h=>h) (aU (fun _ _ _ h=>h) (aU (bD (by rw [← fR (f:=(fun i=>(tab z.length fun _=>Qi.zero).set i (gv z i))),← eN,← fI])) aY))))))))
 ·simp only [decide_eq_false_iff_not] at hd
  obtain rfl:i = z.length:=Nat.le_antisymm hi zo
  rw [gO]
  refine gW rfl (ts (ro rfl (eW A_32 Z_32 (Ht rfl) (i:=1) rfl rfl rfl) (ro rfl (cJ Tryz.call93 (Kt hsh hl) ⟨(Ht rfl),trivial⟩) (rm rfl (a52 Tryz.call99 (a0q (p:=s) (c:=iH z) (n:=z.length) (m:=z.length) (L:=L) hsh hD hs hDf hL1 zo hl1 hl1 hl hl) (j:=2) (tt:=34) rfl rfl (iT (s:=5) (M:=iH z) hD.1.symm) a62 (fun _=>inferInstance) (fun _ B hB=>by simp only [List.mem_singleton] at hB; subst hB; exact a2f) ⟨(Ht rfl),(Ht rfl),trivial⟩ rfl (fun B35 _=>(ra rfl (eZ (cU (cU (gV (i:=3) (tt:=6) rfl rfl (iT (s:=5) (M:=kB s (iH z)) (hX.1.trans hsl).symm) ?_)))))))))))
  refine dQ (rm rfl (ro rfl (dK U_30 (Ht rfl) aA) (ro rfl (cZ (cV 0)) (eZ (eK (bI [0,2] rfl (by decide) ?_))))))
  refine bP (fun (i : Nat) => i ≤ z.length) (fun (i : Nat) => z.length - i) (fun (i : Nat) => [(3, Is (.slice (some ⟨B14, 0, none⟩) z.length z.length)), (36, bM (kB s (iH z))), (37, NT .i64 z.length), (38, NT .i64 i)]) (fun (i : Nat) => [Z, kK eM B14 29 51 5 (bS aF (lB (fun i => tab z.length fun j => gm (iH z) i j - gm (kB s (iH z)) i j) (fun i => tab z.length fun j => gm (iH z) i j) z.length i))]) 0 (Nat.zero_le _)
   (aQ rfl (aQ rfl (aZ rfl (lK (hX.1.trans hsl)) (zS rfl)))) (aU (fun _ _ _ h=>h) (aU (bD (by rw [← kA]; exact congrArg _ (rQ hD))) aY)) (fun i hi=>?_)
  refine ts (ro rfl (gZ (Ht rfl) (Ht rfl)) (eZ (cU (dX (Ht rfl) (fun he=>?_) (fun he=>?_)))))
  ·simp only [decide_eq_true_eq] at he
   have hxr:=hX.row (i:=i) zo
   refine iS 1 (i) rfl (sV he) (fun v hv=>(cY (cU (eK (ts (rm rfl (ro rfl (dJ U_30 Z_29 (Ht rfl) (Ht rfl) rfl (eQ (dY (d:=[]) (by rw [hX.1]; omega)))) ?_)))))))
   refine ro rfl (dV A_29 Z_29 (Ht rfl)) (ra rfl (ra rfl (eZ (ts (rm rfl (ro rfl (dK U_29 (Ht rfl) aA) (ro rfl (cZ (cV 0)) (eZ (eK ?_)))))))))
   refine bP (fun (j : Nat) => j ≤ z.length) (fun (j : Nat) => z.length - j) (fun (j : Nat) => [(3, Is (.slice (some ⟨B14, 0, none⟩) z.length z.length)), (7, NT .i64 i), (8, aR ((kB s (iH z)).getD i [])), (36, bM (kB s (iH z))), (37, NT .i64 z.length), (38, NT .i64 i), (44, NT .i64 z.length), (45, NT .i64 j)]) (fun (j : Nat) => [Z, qN eM B14 29 51 5 (bS aF (lB (fun i => tab z.length fun j => gm (iH z) i j - gm (kB s (iH z)) i j) (fun i => tab z.length fun j => gm (iH z) i j) z.length i)) i v, bN 51 5 v ((lB (fun j => gm (iH z) i j - gm (kB s (iH z)) i j) (fun j => gm (iH z) i j) z.length j).map aF)]) 0 (Nat.zero_le _)
    (aQ rfl (aQ rfl (aQ rfl (aQ rfl (aQ rfl (aQ rfl (aZ rfl (lK (hxr.trans hsl)) (zS rfl)))))))) (aU (fun _ _ _ h=>h) (aU (fun _ _ _ h=>h) (aU (aN (by rw [← kA])) aY))) (fun j hj=>?_)
   refine ts (ro rfl (gZ (Ht rfl) (Ht rfl)) (eZ (cU (dX (Ht rfl) (fun hf=>?_) (fun hf=>?_)))))
   ·simp only [decide_eq_true_eq] at hf
    have hrl:=jL (fun j=>gm (iH z) i j - gm (kB s (iH z)) i j) (fun j=>gm (iH z) i j) z.length j
    haveI f1:aM (gm (iH z) i j) L:=hDf.get hL1 i j
    haveI f2:aM (gm (kB s (iH z)) i j) (200 * L + 300):=hXf.get zo i j
    refine cY (cU (eK (ts (rm rfl (ra rfl (eZ (fJ (m:=18) (dp 3 rfl (cZ (Ht rfl)) (dp 7 rfl (cZ (Ht rfl)) (dT 48 0 49 1 rfl (gQ U_30 Z_29 (Ht rfl) (Ht rfl) rfl zo (by rw [Nat.mul_one,Nat.zero_add])) ?_))))))))))
    refine dq 50 2 rfl (gM A_29 Z_29 (Ht rfl) (j:=1) rfl) (dp 9 rfl (cZ (Ht rfl)) (dp 3 rfl (cZ (Ht rfl)) (dp 7 rfl (cZ (Ht rfl)) (dT 53 5 54 6 rfl (gQ U_30 Z_29 (Ht rfl) (Ht rfl) rfl zo (by rw [Nat.mul_one,Nat.zero_add])) ?_))))
    refine dq 55 7 rfl (gM A_29 Z_29 (Ht rfl) (j:=1) rfl) (dp 9 rfl (cZ (Ht rfl)) (dT 56 8 57 9 rfl (cR U_29 Z_51 (Ht rfl) (Ht rfl) rfl (i:=2) rfl (by simp only [List.length_map,hrl]; omega) rfl) ?_))
    refine dq 58 10 rfl (sD A_51 Z_51 (Ht rfl) (i:=2) rfl rfl (eQ (sX hf))) (dq 59 11 rfl (cO eA (Ht rfl)) (dp 8 rfl (cZ (Ht rfl)) (dp 9 rfl (cZ (Ht rfl)) (dT 61 13 62 14 rfl (dJ U_29 Z_51 (Ht rfl) (Ht rfl) rfl (eQ (dY (d:=Qi.zero) (by rw [hxr]; omega)))) ?_))))
    refine dq 63 15 rfl (dV A_51 Z_51 (Ht rfl)) (dT 60 12 64 16 rfl (cF lH K_44 (Eh zo) (Ht rfl) ⟨(Ht rfl),trivial⟩) (fW bA rfl (by kernel_rfl) (zF (zF (zF (zF (aJ (aJ (aV (ro rfl (cR U_29 Z_51 (Ht rfl) (Ht rfl) rfl (i:=2) rfl (by simp only [List.length_map,hrl]; omega) rfl) ?_))))))))))
    refine jS Z_51 (Ht rfl) (Ht rfl) (El.ag rfl) (i:=2) rfl rfl (by simp only [List.length_map,hrl]; omega) rfl ?_
    refine eZ (aT (dQ (ro rfl (dW (Ht rfl) (cV 1) z6) (rm rfl (eZ (fY (j + 1) hf zo (zS rfl) (aU (fun _ _ _ h=>h) (aU (fun _ _ _ h=>h) (aU (aN (by rw [fI,← lJ (f:=fun j=>gm (iH z) i j - gm (kB s (iH z)) i j)])) aY)))))))))
   ·simp only [decide_eq_false_iff_not] at hf
    obtain rfl:j = z.length:=Nat.le_antisymm hj zo
    refine gW rfl (aT (dI 1 2 rfl rfl (by decide) (by simp only [bS,List.length_map,jL]; omega) ?_))
    refine dQ (ro rfl (dW (Ht rfl) (cV 1) z6) (rm rfl (eZ (bI [0,1] rfl (by decide) (fY (i + 1) he zo (zS rfl) (aU (fun _ _ _ h=>h) (aU (bD (by rw [eN,lI,← lJ (f:=(fun i=>tab z.length fun j=>gm (iH z) i j - gm (kB s (iH z)) i j))])) aY)))))))
  ·simp only [decide_eq_false_iff_not] at he
   obtain rfl:i = z.length:=Nat.le_antisymm hi zo
   refine gW rfl (ts (rm rfl (ra rfl (eZ ?_))))
   exact jP B14 trivial [0,1] ⟨⟨_,rfl,fun _ _ _ h=>h⟩,⟨_,rfl,(bD (by rw [lI]; rfl))⟩,trivial⟩ (by decide) (vN rfl (eY rfl))
theorem a4B {z:List Qi} {s:List (List Qi)} {t:Qi} {L:Nat} (hz:cH z L) (hs:bB s L) (ht:aM t L) (hL1:1 ≤ L) (hL:L ≤ 1000000) (hsh:cP s z.length z.length) (hl1:1 ≤ z.length) (hl:z.length ≤ 8):bL Tryz.prog 57 [jI z s,aF t] (fS [eR (cD (nB t) z) (cD (nB t) s) (cD (nB t) (qS t (lL z s) z.length)),aL .i64 (nB t)]):=by
 haveI:=ht
 have hOs:=vC z s
 have hOf:=zB hz hs hL1 hl
 refine bL.intro Tryz.func57 rfl Tryz.ntmps57 rfl (fun cx=>(ts (rn rfl (fK (Ht rfl)) fun B2=>(rn rfl (fK (Ht rfl)) fun B3=>(rn rfl (eG (Ts:=[Is (.slice none 0 0),Is (.slice none 0 0),Is (.slice none 0 0)]) O_34 rfl (fun V=>aW zd (aW zd (aW zd (aG))))) fun B4=>(ro rfl (cX (cV 0)) (eZ (cU (ts (ro rfl (eW A_51 Z_51 (Ht rfl) (i:=1) rfl rfl rfl) (ro rfl (cJ Tryz.call159 (a0G zo) ⟨(Ht rfl),trivial⟩) (ro rfl (fB (Ht rfl)) ?_))))))))))))
 refine eZ (dX (Ht rfl) (fun hb=>?_) (fun hb=>?_))
 ·have he : nB t ≠ 0 := by simp only [Bool.not_eq_true'] at hb; rw [nB, hb]; decide
  have he1:nB t = 1:=by simp only [Bool.not_eq_true'] at hb; rw [nB,hb]; rfl
  refine ts (ro rfl (aI.imp (vX ) pW) (gX Z_34 (Ht rfl) (Ht rfl) rfl (i:=2) rfl (aK rfl) rfl rfl (ro rfl (cX (cV 1)) (eZ (bR rfl (fZ (fU A_34 Z_34 rfl (i:=2) rfl rfl) ?_) (fZ (eY rfl) ?_))))))
  ·exact (a41 he)
  ·exact (aO he1.symm)
 ·have he : nB t = 0 := by simp only [Bool.not_eq_false'] at hb; rw [nB, hb]; rfl
  refine cY (ts (ro rfl (eW A_32 Z_32 (Ht rfl) (i:=0) rfl rfl rfl) (kZ Tryz.call160 (a0F hz hs hL1 hL hsh hl1 hl) ⟨(Ht rfl),trivial⟩ rfl (fun B15 _=>(ra rfl (eZ (cU (ts (rm rfl (ro rfl (gL U_30 (Ht rfl)) (ro rfl (cZ (cV 0)) (eZ (eK ?_)))))))))))))
  refine bP (fun (i : Nat) => i ≤ z.length) (fun (i : Nat) => z.length - i) (fun (i : Nat) => [(2, bF B2 0), (3, bF B3 0), (4, bF B4 0), (6, Is (.slice (some ⟨B15, 0, none⟩) z.length z.length)), (16, Is (.slice (some ⟨B15, 0, none⟩) z.length z.length)), (17, NT .i64 z.length), (18, NT .i64 i)]) (fun (i : Nat) => [box B2 32 [aR z, bM s], box B3 51 [aH (decide (t.a < 0)), bC t.a.natAbs, aH (decide (t.b < 0)), bC t.b.natAbs, bC (du t)], box B4 34 [Is (.slice none 0 0), Is (.slice none 0 0), Is (.slice none 0 0)], kK eM B15 29 51 5 (bS aF (lB (fun i => tab z.length fun j => t * gm (lL z s) i j) (fun i => tab z.length fun j => gm (lL z s) i j) z.length i))]) 0 (Nat.zero_le _)
   (zS rfl) (aU (fun _ _ _ h=>h) (aU (fun _ _ _ h=>h) (aU (fun _ _ _ h=>h) (aU (bD (by rw [← kA]; exact congrArg _ (rQ hOs))) aY)))) (fun i hi=>?_)
  refine ts (ro rfl (gZ (Ht rfl) (Ht rfl)) (eZ (cU (dX (Ht rfl) (fun he2=>?_) (fun he2=>?_)))))
  ·simp only [decide_eq_true_eq] at he2
   refine iS 3 (i) rfl (sV he2) (fun v hv=>(cY (cU (eK (ts (ro rfl (gQ U_30 Z_29 (Ht rfl) (Ht rfl) rfl zo (by rw [Nat.mul_one,Nat.zero_add])) ?_))))))
   refine ro rfl (gM A_29 Z_29 (Ht rfl) (j:=3) rfl) (ra rfl (eZ (ts (rm rfl (ro rfl (mL U_29 (Ht rfl) (i:=4) rfl (show (((tab z.length fun j=>gm (lL z s) i j).map aF).length:Int) = ((z.length:Nat):Int) by rw [List.length_map,aC])) (ro rfl (cZ (cV 0)) (eZ (eK ?_))))))))
   refine bP (fun (j : Nat) => j ≤ z.length) (fun (j : Nat) => z.length - j) (fun (j : Nat) => [(2, bF B2 0), (3, bF B3 0), (4, bF B4 0), (6, Is (.slice (some ⟨B15, 0, none⟩) z.length z.length)), (8, Is v), (16, Is (.slice (some ⟨B15, 0, none⟩) z.length z.length)), (17, NT .i64 z.length), (18, NT .i64 i), (23, NT .i64 z.length), (24, NT .i64 j)]) (fun (j : Nat) => [box B2 32 [aR z, bM s], box B3 51 [aH (decide (t.a < 0)), bC t.a.natAbs, aH (decide (t.b < 0)), bC t.b.natAbs, bC (du t)], box B4 34 [Is (.slice none 0 0), Is (.slice none 0 0), Is (.slice none 0 0)], qN eM B15 29 51 5 (bS aF (lB (fun i => tab z.length fun j => t * gm (lL z s) i j) (fun i => tab z.length fun j => gm (lL z s) i j) z.length i)) i v, bN 51 5 v ((lB (fun j => t * gm (lL z s) i j) (fun j => gm (lL z s) i j) z.length j).map aF)]) 0 (Nat.zero_le _)
    (zS rfl) (aU (fun _ _ _ h=>h) (aU (fun _ _ _ h=>h) (aU (fun _ _ _ h=>h) (aU (fun _ _ _ h=>h) (aU (aN (by rw [← kA])) aY))))) (fun j hj=>?_)
   refine ts (ro rfl (gZ (Ht rfl) (Ht rfl)) (eZ (cU (dX (Ht rfl) (fun hf=>?_) (fun hf=>?_)))))
   ·simp only [decide_eq_true_eq] at hf
    have hrl:=jL (fun j=>t * gm (lL z s) i j) (fun j=>gm (lL z s) i j) z.length j
    haveI f1:aM (gm (lL z s) i j) (201 * L + 301):=hOf.get zo i j
    refine cY (cU (eK (ts (rm rfl (ra rfl (eZ (fJ (m:=10) (dp 8 rfl (cZ (Ht rfl)) (dp 9 rfl (cZ (Ht rfl)) (dp 3 rfl (eW A_51 Z_51 (Ht rfl) (i:=1) rfl rfl rfl) (dq 29 2 rfl (cJ K_98 Rk ⟨(Ht rfl),trivial⟩) (dq 30 3 rfl (cO eA (Ht rfl)) (dp 8 rfl (cZ (Ht rfl)) (dp 9 rfl (cZ (Ht rfl)) (dT 32 5 33 6 rfl (cR U_29 Z_51 (Ht rfl) (Ht rfl) rfl (i:=4) rfl (by simp only [List.length_map,hrl]; omega) rfl) ?_)))))))))))))))
    refine dq 34 7 rfl (sD A_51 Z_51 (Ht rfl) (i:=4) rfl rfl (eQ (sX hf))) (dT 31 4 35 8 rfl (cF gT K_45 (rG zo) (Ht rfl) ⟨(Ht rfl),trivial⟩) (fW bA rfl (by kernel_rfl) (zF (zF (aJ (aJ (aV (ro rfl (cR U_29 Z_51 (Ht rfl) (Ht rfl) rfl (i:=4) rfl (by simp only [List.length_map,hrl]; omega) rfl) ?_))))))))
    refine jS Z_51 (Ht rfl) (Ht rfl) (El.ag rfl) (i:=4) rfl rfl (by simp only [List.length_map,hrl]; omega) rfl ?_
    refine eZ (aT (dQ (ro rfl (dW (Ht rfl) (cV 1) z6) (rm rfl (eZ (fY (j + 1) hf zo (zS rfl) (aU (fun _ _ _ h=>h) (aU (fun _ _ _ h=>h) (aU (fun _ _ _ h=>h) (aU (fun _ _ _ h=>h) (aU (aN (by rw [fI,← lJ (f:=fun j=>t * gm (lL z s) i j)])) aY)))))))))))
   ·simp only [decide_eq_false_iff_not] at hf
    obtain rfl:j = z.length:=Nat.le_antisymm hj zo
    refine gW rfl (aT (dI 3 4 rfl rfl (by decide) (by simp only [bS,List.length_map,jL]; omega) ?_))
    refine dQ (ro rfl (dW (Ht rfl) (cV 1) z6) (rm rfl (eZ (bI [0,1,2,3] rfl (by decide) (fY (i + 1) he2 zo (zS rfl) (aU (fun _ _ _ h=>h) (aU (fun _ _ _ h=>h) (aU (fun _ _ _ h=>h) (aU (bD (by rw [eN,lI,← lJ (f:=(fun i=>tab z.length fun j=>t * gm (lL z s) i j))])) aY)))))))))
  ·simp only [decide_eq_false_iff_not] at he2
   obtain rfl:i = z.length:=Nat.le_antisymm hi zo
   rw [lI]
   refine gW rfl (cU (gV (i:=3) (tt:=6) rfl rfl (iT (s:=5) (M:=(qS t (lL z s) z.length)) tB.1.symm) (dQ (ro rfl (eW A_32 Z_32 (Ht rfl) (i:=0) rfl rfl rfl) (rm rfl (ro rfl (qF (Ht rfl) (Ht rfl)) (gX Z_34 (Ht rfl) (Ht rfl) rfl (i:=2) rfl (aK rfl) rfl rfl (ro rfl (cX (cV 0)) (eZ (bR rfl (fZ (fU A_34 Z_34 rfl (i:=2) rfl rfl) ?_) (fZ (eY rfl) ?_)))))))))))
   ·exact (a1U he)
   ·exact (aO he.symm)
end
section
open Go Go.RowKit
theorem My {n : Nat} {E : dB} {H : Hp} {d : Option Tmp} {t : TypeId} {pos : String} {af : Array Edge} {g : Option (Nat × Bool)}  :
  aI Tryz.prog n E H ⟨d,.build 102 #[],t,pos,af,g⟩ (eI [Is (.int .i64 0),Is (.int .i64 0),Is (.int .i64 0)]) :=
 fH (parts := []) fun a V w hs => by
  refine ⟨.agg #[(.int .i64 0),(.int .i64 0),(.int .i64 0)],?_,[(.int .i64 0),(.int .i64 0),(.int .i64 0)],rfl,aW (⟨rfl,trivial⟩) (aW (⟨rfl,trivial⟩) (aW (⟨rfl,trivial⟩) (aG)))⟩
  simp [Instr.build,Instr.fill,Sem.run_bind,Result.andThen,eL,O_102,U_102,Z_2]
theorem Ik {n : Nat} {E : dB} {H : Hp} {d : Option Tmp} {t : TypeId} {pos : String} {af : Array Edge} {g : Option (Nat × Bool)} {x0 : Operand} {T0 : Ty} [s0 : dA T0 1 false] (h0 : bH E x0 T0) :
  aI Tryz.prog n E H ⟨d,.build 102 #[(0,x0)],t,pos,af,g⟩ (eI [T0,Is (.int .i64 0),Is (.int .i64 0)]) :=
 fH (parts := [(0, x0)]) fun a V w hs => by
  have p0:=h0 n V a hs
  generalize e0:a.eval x0 = v0 at p0
  have q0:=(s0.ok v0 V p0).2.2 rfl
  refine ⟨.agg #[v0,(.int .i64 0),(.int .i64 0)],?_,[v0,(.int .i64 0),(.int .i64 0)],rfl,aW (⟨p0,q0⟩) (aW (⟨rfl,trivial⟩) (aW (⟨rfl,trivial⟩) (aG)))⟩
  simp [e0,Instr.build,Instr.fill,Sem.run_bind,Result.andThen,eL,q0.cells,O_102,U_102,Z_2]
theorem Mz {n : Nat} {E : dB} {H : Hp} {d : Option Tmp} {t : TypeId} {pos : String} {af : Array Edge} {g : Option (Nat × Bool)} {x0 x2 : Operand} {T0 T2 : Ty} [s0 : dA T0 1 false] (h0 : bH E x0 T0) [s2 : dA T2 1 false] (h2 : bH E x2 T2) :
  aI Tryz.prog n E H ⟨d,.build 102 #[(0,x0),(2,x2)],t,pos,af,g⟩ (eI [T0,Is (.int .i64 0),T2]) :=
 fH (parts := [(0, x0), (2, x2)]) fun a V w hs => by
  have p0:=h0 n V a hs
  generalize e0:a.eval x0 = v0 at p0
  have q0:=(s0.ok v0 V p0).2.2 rfl
  have p2:=h2 n V a hs
  generalize e2:a.eval x2 = v2 at p2
  have q2:=(s2.ok v2 V p2).2.2 rfl
  refine ⟨.agg #[v0,(.int .i64 0),v2],?_,[v0,(.int .i64 0),v2],rfl,aW (⟨p0,q0⟩) (aW (⟨rfl,trivial⟩) (aW (⟨p2,q2⟩) (aG)))⟩
  simp [e0,e2,Instr.build,Instr.fill,Sem.run_bind,Result.andThen,eL,q0.cells,q2.cells,O_102,U_102,Z_2]
end
section
open Go Go.RowKit
theorem lT  : bL Tryz.prog 16 [] (aH true):=by
 refine bL.intro Tryz.func16 rfl Tryz.ntmps16 rfl (fun cx=>(ts (ro rfl (cX cW) (eZ (ts (ro rfl (Mz cW cW) (rn rfl (eG (Ts:=[Is (.int .i64 0),Is (.int .i64 0),Is (.int .i64 0)]) O_102 rfl (fun V=>aW zd (aW zd (aW zd (aG))))) fun B1=>(gX Z_102 (Ht rfl) (Ht rfl) rfl (i:=0) rfl (aK rfl) rfl rfl (eZ (cU (Y.D_start (m:=18) [] (cQ (Ei:=[]) rfl rfl bX rfl rfl (dZ rfl (Ik cW)) (cQ (Ei:=[]) rfl rfl bX rfl rfl (dZ rfl (Ik cW)) ?_)))))))))))))
 refine cQ (Ei:=[(12,_),(13,_)]) rfl rfl (bQ (bZ 0 rfl rfl) (bQ (bZ 1 rfl rfl) bX)) rfl rfl (dZ rfl (cA (xs:=[.tmp 12,.tmp 13]) U_22 Z_102 O_102 (cG (Ht rfl) (cG (Ht rfl) cK)) rfl rfl rfl)) (cQ (Ei:=[(14,_)]) rfl rfl (bQ (bZ 2 rfl rfl) bX) rfl rfl (dZ rfl (cJ Tryz.call48 (zU (l:=[r50,r50]) (by decide)) ⟨(Ht rfl),trivial⟩)) (cQ (Ei:=[]) rfl rfl bX rfl rfl (dZ rfl (My )) (cQ (Ei:=[(1,_)]) rfl rfl (bQ (bJ rfl rfl) bX) rfl rfl (dZ rfl (eW A_102 Z_102 (Ht rfl) (i:=0) rfl rfl rfl)) ?_)))
 refine cQ (Ei:=[(16,_),(17,_)]) rfl rfl (bQ (bZ 4 rfl rfl) (bQ (bZ 5 rfl rfl) bX)) rfl rfl (dZ rfl (cA (xs:=[.tmp 16,.tmp 17]) U_22 Z_102 O_102 (cG (Ht rfl) (cG (Ht rfl) cK)) rfl rfl rfl)) (cQ (Ei:=[(1,_)]) rfl rfl (bQ (bJ rfl rfl) bX) rfl rfl (dZ rfl (eW A_102 Z_102 (Ht rfl) (i:=0) rfl rfl rfl)) (cQ (Ei:=[]) rfl rfl bX rfl rfl (dZ rfl (My )) (cQ (Ei:=[(19,_),(20,_)]) rfl rfl (bQ (bZ 7 rfl rfl) (bQ (bZ 8 rfl rfl) bX)) rfl rfl (dZ rfl (cA (xs:=[.tmp 19,.tmp 20]) U_22 Z_102 O_102 (cG (Ht rfl) (cG (Ht rfl) cK)) rfl rfl rfl)) ?_)))
 refine cQ (Ei:=[(18,_),(21,_)]) rfl rfl (bQ (bZ 6 rfl rfl) (bQ (bZ 9 rfl rfl) bX)) rfl rfl (dZ rfl (cA (xs:=[.tmp 18,.tmp 21]) U_23 Z_22 Tryz.zeroValue22 (cG (Ht rfl) (cG (Ht rfl) cK)) rfl rfl rfl)) (cQ (Ei:=[(22,_)]) rfl rfl (bQ (bZ 10 rfl rfl) bX) rfl rfl (dZ rfl (cJ Tryz.call86 (zV (m:=[[a47,Ww],[Ww,a47]]) (by decide) (by intro r hr; simp at hr; rcases hr with rfl | rfl <;> decide)) ⟨(Ht rfl),trivial⟩)) ?_)
 refine cQ (Ei:=[(15,_),(23,_)]) rfl rfl (bQ (bZ 3 rfl rfl) (bQ (bZ 11 rfl rfl) bX)) rfl rfl (dZ rfl (cJ Tryz.call85 (eX (Nj (z:=zT) (s:=Hn) (L:=2) Tw (by decide) (by decide) (by decide)) a5g) ⟨(Ht rfl),(Ht rfl),trivial⟩)) (cQ (Ei:=[(24,_)]) rfl rfl (bQ (bZ 12 rfl rfl) bX) rfl rfl (dZ rfl (cZ (Ht rfl))) (cQ (Ei:=[(11,_)]) rfl rfl (bQ (bZ 13 rfl rfl) bX) rfl rfl (dZ rfl (dU (Ht rfl) rfl)) (cQ (Ei:=[(11,_)]) rfl rfl (bQ (bZ 13 rfl rfl) bX) rfl rfl (dZ rfl (dU (Ht rfl) rfl)) ?_)))
 refine Y.D_newp (Ei:=[]) (fun bb=>box bb 32 [aR zT,bM Hn]) 17 rfl rfl rfl bX rfl rfl (by kernel_rfl) (eG (Ts:=[Is (.slice none 0 0),Is (.slice none 0 0)]) O_32 rfl (fun V=>aW zd (aW zd (aG)))) (Y.D_putN (Ei:=[(25,_)]) 16 rfl rfl rfl rfl rfl rfl (bQ (bZ 14 rfl rfl) bX) (fun bb=>qB Z_32 (Ht rfl) (Ht rfl) rfl (i:=0) rfl (aK rfl) rfl rfl) (Y.D_done bA rfl (by kernel_rfl) rfl (by simp [Y.okP]) rfl rfl (bU (bU (bU (bU (bU (bU (bU (bU (bU (bU (bU (bU (bU (bU (bU (bU (Y.F_newp (fun B2=>Y.F_putN (Y.F_nil ?_)))))))))))))))))))))
 refine ra rfl (eZ (cU (Y.D_start (m:=8) [] (cQ (Ei:=[(2,_)]) rfl rfl (bQ (bJ rfl rfl) bX) rfl rfl (dZ rfl (eW A_32 Z_32 (Ht rfl) (i:=1) rfl rfl rfl)) (cQ (Ei:=[]) rfl rfl bX rfl rfl (dZ rfl (cJ K_77 (uE (n:=290) (by decide) (by decide)) ⟨(cV 290),trivial⟩)) (cQ (Ei:=[(28,_),(29,_)]) rfl rfl (bQ (bZ 0 rfl rfl) (bQ (bZ 1 rfl rfl) bX)) rfl rfl (dZ rfl (cJ Tryz.call57 (eX (a4B (z:=zT) (s:=Hn) (t:=Qi.ofInt 290) (L:=2) Tw a0a a0b (by decide) (by decide) a0c (by decide) (by decide)) a5h) ⟨(Ht rfl),(Ht rfl),trivial⟩)) ?_))))))
 refine cQ (Ei:=[(30,_)]) rfl rfl (bQ (bZ 2 rfl rfl) bX) rfl rfl (dZ rfl (cZ (Ht rfl))) (cQ (Ei:=[(27,_)]) rfl rfl (bQ (bZ 3 rfl rfl) bX) rfl rfl (dZ rfl (dU (Ht rfl) rfl)) (cQ (Ei:=[(27,_)]) rfl rfl (bQ (bZ 3 rfl rfl) bX) rfl rfl (dZ rfl (dU (Ht rfl) rfl)) (Y.D_newp (Ei:=[]) (fun bb=>box bb 34 [aR zT,bM Hn,bM Ij]) 7 rfl rfl rfl bX rfl rfl (by kernel_rfl) (eG (Ts:=[Is (.slice none 0 0),Is (.slice none 0 0),Is (.slice none 0 0)]) O_34 rfl (fun V=>aW zd (aW zd (aW zd (aG))))) ?_)))
 refine Y.D_putN (Ei:=[(31,_)]) 6 rfl rfl rfl rfl rfl rfl (bQ (bZ 4 rfl rfl) bX) (fun bb=>qB Z_34 (Ht rfl) (Ht rfl) rfl (i:=0) rfl (aK rfl) rfl rfl) (Y.D_done bA rfl (by kernel_rfl) rfl (by simp [Y.okP]) rfl rfl (bU (bU (bU (bU (bU (bU (Y.F_newp (fun B4=>Y.F_putN (Y.F_nil ?_))))))))))
 refine ra rfl (eZ (ts (ro rfl (eW A_34 Z_34 (Ht rfl) (i:=2) rfl rfl rfl) (ro rfl (cJ Tryz.call87 (eX (Kq (z:=zT) (s:=Hn) (c:=Ij) (i:=((2:Nat):Int)) (j:=((2:Nat):Int)) a5e (by rw [Tv.1]; decide)) a6C) ⟨(Ht rfl),(cV 2),(cV 2),trivial⟩) ?_))))
 refine rm rfl (ro rfl (dU (Ht rfl) rfl) (ro rfl (dU (Ht rfl) rfl) (rn rfl (eG (Ts:=[Is (.bool false),Is (.slice none 0 0),Is (.bool false),Is (.slice none 0 0),Is (.slice none 0 0)]) O_51 rfl (fun V=>aW zd (aW zd (aW zd (aW zd (aW zd (aG))))))) fun B6=>(gX Z_51 (Ht rfl) (Ht rfl) rfl (i:=3) rfl (aK rfl) rfl rfl (ra rfl (eZ (cU (Y.D_start (m:=9) [] (cQ (Ei:=[(4,_)]) rfl rfl (bQ (bJ rfl rfl) bX) rfl rfl (dZ rfl (eW A_34 Z_34 (Ht rfl) (i:=2) rfl rfl rfl)) ?_)))))))))
 refine cQ (Ei:=[]) rfl rfl bX rfl rfl (dZ rfl (cJ K_77 (uE (n:=0) (by decide) (by decide)) ⟨(cV 0),trivial⟩)) (cQ (Ei:=[]) rfl rfl bX rfl rfl (dZ rfl (cJ K_77 (uE (n:=290) (by decide) (by decide)) ⟨(cV 290),trivial⟩)) (cQ (Ei:=[(39,_),(40,_),(41,_)]) rfl rfl (bQ (bZ 0 rfl rfl) (bQ (bZ 1 rfl rfl) (bQ (bZ 2 rfl rfl) bX))) rfl rfl (dZ rfl (cJ Tryz.call88 (eX (a0l (z:=zT) (s:=Hn) (c:=Ij) (g:=Qi.ofInt 0) (t0:=Qi.ofInt 290) (L:=1000) (Tw.le (by decide)) (a0a.le (by decide)) a6E (a6D.le (by decide)) (a0b.le (by decide)) (by decide) (by decide) a0c Tv (by decide)) a5f) ⟨(Ht rfl),(Ht rfl),(Ht rfl),trivial⟩)) ?_))
 refine cQ (Ei:=[(42,_)]) rfl rfl (bQ (bZ 3 rfl rfl) bX) rfl rfl (dZ rfl (cZ (Ht rfl))) (cQ (Ei:=[(38,_)]) rfl rfl (bQ (bZ 4 rfl rfl) bX) rfl rfl (dZ rfl (dU (Ht rfl) rfl)) (cQ (Ei:=[(38,_)]) rfl rfl (bQ (bZ 4 rfl rfl) bX) rfl rfl (dZ rfl (dU (Ht rfl) rfl)) (Y.D_newp (Ei:=[]) (fun bb=>box bb 51 [aH (decide ((Qi.ofInt 4).a < 0)),bC (Qi.ofInt 4).a.natAbs,aH (decide ((Qi.ofInt 4).b < 0)),bC (Qi.ofInt 4).b.natAbs,bC (du (Qi.ofInt 4))]) 8 rfl rfl rfl bX rfl rfl (by kernel_rfl) (eG (Ts:=[Is (.bool false),Is (.slice none 0 0),Is (.bool false),Is (.slice none 0 0),Is (.slice none 0 0)]) O_51 rfl (fun V=>aW zd (aW zd (aW zd (aW zd (aW zd (aG))))))) ?_)))
 refine Y.D_putN (Ei:=[(43,_)]) 7 rfl rfl rfl rfl rfl rfl (bQ (bZ 5 rfl rfl) bX) (fun bb=>qB Z_51 (Ht rfl) (Ht rfl) rfl (i:=0) rfl (aK rfl) rfl rfl) (Y.D_done bA rfl (by kernel_rfl) rfl (by simp [Y.okP]) rfl rfl (bU (bU (bU (bU (bU (bU (bU (Y.F_newp (fun B8=>Y.F_putN (Y.F_nil ?_)))))))))))
 refine ra rfl (eZ (ts (rm rfl (ro rfl (iQ (Ht rfl) cW) (rm rfl (fX rfl rfl (eU rfl rfl (Ht rfl) (fun h=>cZ (Ht rfl))) (fX rfl rfl (eU rfl rfl (Ht rfl) (fun h=>iQ (fV rfl h) cW)) (ro rfl (dM (Ht rfl) (fun h=>(fV rfl h))) (rm rfl (fX rfl rfl (eU rfl rfl (Ht rfl) (fun h=>cZ (Ht rfl))) (fX rfl rfl (eU rfl rfl (Ht rfl) (fun h=>iQ (fV rfl h) cW)) (ro rfl (dM (Ht rfl) (fun h=>(fV rfl h))) (rm rfl (fX rfl rfl (eU rfl rfl (Ht rfl) (fun h=>cZ (Ht rfl))) (fX rfl rfl (eU rfl rfl (Ht rfl) (fun h=>iQ (fV rfl h) cW)) ?_)))))))))))))))
 refine ro rfl (dM (Ht rfl) (fun h=>(fV rfl h))) (rm rfl (fX rfl rfl (eU rfl rfl (Ht rfl) (fun h=>eW A_51 Z_51 (Ht rfl) (i:=3) rfl rfl rfl)) (fX rfl rfl (eU rfl rfl (Ht rfl) (fun h=>cJ Tryz.call89 (Rf (x:=Qi.ofInt 10875) (L:=2) (hx:=(@fitInt 10875).le (by decide)) (by decide)) ⟨(fV rfl h),trivial⟩)) (fX rfl rfl (eU rfl rfl (Ht rfl) (fun h=>Sj (fV rfl h) (bH.cS (l:=[49,48,56,55,53]) rfl))) (ro rfl (dM (Ht rfl) (fun h=>(fV rfl h))) (rm rfl (fX rfl rfl (eU rfl rfl (Ht rfl) (fun h=>eW A_51 Z_51 (Ht rfl) (i:=4) rfl rfl rfl)) ?_)))))))
 refine fX rfl rfl (eU rfl rfl (Ht rfl) (fun h=>cJ Tryz.call89 (Rf (x:=Qi.ofInt 4) (L:=2) (hx:=(@fitInt 4).le (by decide)) (by decide)) ⟨(fV rfl h),trivial⟩)) (fX rfl rfl (eU rfl rfl (Ht rfl) (fun h=>Sj (fV rfl h) (bH.cS (l:=[52]) rfl))) (ro rfl (dM (Ht rfl) (fun h=>(fV rfl h))) (ra rfl (eZ (fG rfl (fZ (eY rfl) ?_))))))
 exact (dN (by rw [a6F,a6G]; rfl))
end
section
open Go Go.RowKit
theorem tO (a:Addr) (w:World):(Instr.fieldAt 40 (.pointer (some a)) 0).run Tryz.prog w = .ok (.pointer (some (a.add 0))) w:=by
 simp [Instr.fieldAt,Instr.sureAddr,fieldPlace,Sem.run_bind,Result.andThen,U_40,Z_38]
theorem tP (a:Addr) (w:World):(Instr.fieldAt 40 (.pointer (some a)) 1).run Tryz.prog w = .ok (.pointer (some (a.add 2))) w:=by
 simp [Instr.fieldAt,Instr.sureAddr,fieldPlace,Sem.run_bind,Result.andThen,U_40,Z_36]
end
section
open Go Go.RowKit
theorem a5M {z:List Qi} {i:Nat} (h:i < z.length):∀ v V,(fS [aF (Zt z ((i + 1:Nat):Int)),aL .i64 (if 1 ≤ ((i + 1:Nat):Int) ∧ ((i + 1:Nat):Int) ≤ z.length then 0 else 1)]).p v V → (fS [aF (gv z i),aL .i64 0]).p v V:=by
 rw [show Zt z ((i + 1:Nat):Int) = gv z i from Sn h,if_pos zo]; exact fun _ _ h=>h
theorem a4N {n:Nat} {s:List (List Qi)} {i j:Nat} (h:i < n) (k:j < n):∀ v V,(fS [aF (Yx n s ((i + 1:Nat):Int) ((j + 1:Nat):Int)),aL .i64 (if (1 ≤ ((i + 1:Nat):Int) ∧ ((i + 1:Nat):Int) ≤ n) ∧ 1 ≤ ((j + 1:Nat):Int) ∧ ((j + 1:Nat):Int) ≤ n then 0 else 1)]).p v V → (fS [aF (gm s i j),aL .i64 0]).p v V:=by
 rw [show Yx n s ((i + 1:Nat):Int) ((j + 1:Nat):Int) = gm s i j from Sm h k,if_pos zo]; exact fun _ _ h=>h
theorem a4E {z:List Qi} {s c:List (List Qi)} {L:Nat} (hz:cH z L) (hs:bB s L) (hc:bB c L) (hL1:1 ≤ L) (hL:L ≤ 8796093022208) (hsh:cP s z.length z.length) (hch:cP c z.length z.length) (hl:z.length ≤ 1000):bL Tryz.prog 20 [eR z s c,lP z s c] (aH true):=by
 have hcl:=hch.1
 have hch2:cP c c.length c.length:=by rw [hcl]; exact hch
 refine bL.intro Tryz.func20 rfl Tryz.ntmps20 rfl (fun cx=>(ts (rn rfl (fK (Ht rfl)) fun B2=>(rn rfl (fK (Ht rfl)) fun B3=>(ro rfl (cX cW) (eZ (ts (ro rfl (eW A_34 Z_34 (Ht rfl) (i:=0) rfl rfl rfl) (ro rfl (cJ K_51 nC ⟨(Ht rfl),trivial⟩) (rn rfl (eG (Ts:=[Is (.slice none 0 0),Is (.slice none 0 0)]) O_32 rfl (fun V=>aW zd (aW zd (aG)))) fun B5=>(gX Z_32 (Ht rfl) (Ht rfl) rfl (i:=2) rfl (aK rfl) rfl rfl (eZ ?_))))))))))))
 refine cU (cU (fJ (m:=15) (dp 5 rfl (eW A_32 Z_32 (Ht rfl) (i:=2) rfl rfl rfl) (dq 16 0 rfl (cJ K_22 lS ⟨(Ht rfl),trivial⟩) (dp 3 rfl (eJ tO (Ht rfl) rfl) (dq 18 2 rfl (eJ kJ (Ht rfl) rfl) (dq 19 3 rfl (fQ A_35 Z_35 (Ht rfl) (i:=1) rfl rfl) (dq 20 4 rfl (dK U_35 (Ht rfl) aA) (dT 17 1 21 5 rfl (fT (Ht rfl) (Ht rfl)) (dq 22 6 rfl (cZ (Ht rfl)) (C.D_step (Ei:=[(3,_),(23,_)]) rfl rfl (bV (bK rfl rfl) (bV (bG 7 rfl rfl) bW)) (eU rfl rfl (Ht rfl) (fun h=>eJ tP (Ht rfl) rfl)) ?_)))))))))))
 refine C.D_step (Ei:=[(24,_),(23,_)]) rfl rfl (bV (bG 8 rfl rfl) (bV (bG 7 rfl rfl) bW)) (eU rfl rfl (Ht rfl) (fun h=>fQ A_36 Z_36 (fV rfl h) (i:=1) rfl rfl)) (C.D_step (Ei:=[(25,_),(23,_)]) rfl rfl (bV (bG 9 rfl rfl) (bV (bG 7 rfl rfl) bW)) (eU rfl rfl (Ht rfl) (fun h=>dK U_36 (fV rfl h) aA)) (C.D_step (Ei:=[(3,_),(23,_)]) rfl rfl (bV (bK rfl rfl) (bV (bG 7 rfl rfl) bW)) (eU rfl rfl (Ht rfl) (fun h=>eJ tO (Ht rfl) rfl)) ?_))
 refine C.D_step (Ei:=[(27,_),(23,_)]) rfl rfl (bV (bG 11 rfl rfl) (bV (bG 7 rfl rfl) bW)) (eU rfl rfl (Ht rfl) (fun h=>eJ kJ (fV rfl h) rfl)) (C.D_step (Ei:=[(28,_),(23,_)]) rfl rfl (bV (bG 12 rfl rfl) (bV (bG 7 rfl rfl) bW)) (eU rfl rfl (Ht rfl) (fun h=>fQ A_35 Z_35 (fV rfl h) (i:=1) rfl rfl)) (C.D_step (Ei:=[(29,_),(23,_)]) rfl rfl (bV (bG 13 rfl rfl) (bV (bG 7 rfl rfl) bW)) (eU rfl rfl (Ht rfl) (fun h=>dK U_35 (fV rfl h) aA)) ?_))
 refine fW bA rfl (by kernel_rfl) (zF (zF (zF (aJ (aJ (aJ (aV (fX rfl rfl (eU rfl rfl (Ht rfl) (fun h=>fT (fV rfl h) (fV rfl h))) (ro rfl (fO (Ht rfl) (fun h=>(fV rfl h))) (eZ (kF (Ht rfl) (by simp [hcl]) ?_)))))))))))
 refine cY (cU (ts (ro rfl (eJ tP (Ht rfl) rfl) (ro rfl (fQ A_36 Z_36 (Ht rfl) (i:=1) rfl rfl) (ro rfl (dK U_36 (Ht rfl) aA) (ro rfl (cZ (cV 0)) (eZ (eK ?_))))))))
 refine bP (fun (i : Nat) => i ≤ z.length) (fun (i : Nat) => z.length - i) (fun (i : Nat) => [(2, bF B2 0), (3, bF B3 0), (5, bF B5 0), (35, NT .i64 z.length), (36, NT .i64 i)]) (fun (i : Nat) => [box B2 34 [aR z, bM s, bM c], box B3 40 [wY z, QM s, QM c], box B5 32 [aR z, bM s]]) 0 (Nat.zero_le _)
  (aQ rfl (aQ rfl (aQ rfl (aZ rfl (lK hcl) (zS rfl))))) (dD.refl _) (fun i hi=>?_)
 refine ts (ro rfl (gZ (Ht rfl) (Ht rfl)) (eZ (cU (dX (Ht rfl) (fun hd=>?_) (fun hd=>?_)))))
 ·simp only [decide_eq_true_eq] at hd
  haveI f1:aM (gv z i) L:=hz.get hL1 i
  refine cY (cU (eK (ts (rm rfl (ra rfl (eZ (ts (ro rfl (eW A_32 Z_32 (Ht rfl) (i:=2) rfl rfl rfl) (rm rfl (ro rfl (dW (Ht rfl) (cV 1) z6) (ro rfl (cJ Tryz.call23 (eX (a0n (z:=z) (s:=s) (i:=((i + 1:Nat):Int)) zo) (a5M hd)) ⟨(Ht rfl),(Ht rfl),trivial⟩) (rm rfl (ro rfl (dU (Ht rfl) rfl) (ro rfl (dU (Ht rfl) rfl) (rn rfl (eG (Ts:=[Is (.bool false),Is (.slice none 0 0),Is (.bool false),Is (.slice none 0 0),Is (.slice none 0 0)]) O_51 rfl (fun V=>aW zd (aW zd (aW zd (aW zd (aW zd (aG))))))) fun B7=>?_)))))))))))))))
  refine gX Z_51 (Ht rfl) (Ht rfl) rfl (i:=3) rfl (aK rfl) rfl rfl (ra rfl (eZ (cU (cU (fJ (m:=10) (dp 8 rfl (cZ (Ht rfl)) (dq 46 0 rfl (gD (Ht rfl) cW) (dq 47 1 rfl (cZ (Ht rfl)) (C.D_step (Ei:=[(7,_),(48,_)]) rfl rfl (bV (bK rfl rfl) (bV (bG 2 rfl rfl) bW)) (eU rfl rfl (Ht rfl) (fun h=>eW A_51 Z_51 (Ht rfl) (i:=3) rfl rfl rfl)) (C.D_step (Ei:=[(3,_),(48,_)]) rfl rfl (bV (bK rfl rfl) (bV (bG 2 rfl rfl) bW)) (eU rfl rfl (Ht rfl) (fun h=>eJ tO (Ht rfl) rfl)) ?_))))))))))
  refine C.D_step (Ei:=[(50,_),(48,_)]) rfl rfl (bV (bG 4 rfl rfl) (bV (bG 2 rfl rfl) bW)) (eU rfl rfl (Ht rfl) (fun h=>eJ kJ (fV rfl h) rfl)) (C.D_step (Ei:=[(51,_),(48,_)]) rfl rfl (bV (bG 5 rfl rfl) (bV (bG 2 rfl rfl) bW)) (eU rfl rfl (Ht rfl) (fun h=>fQ A_35 Z_35 (fV rfl h) (i:=1) rfl rfl)) (C.D_step (Ei:=[(6,_),(48,_)]) rfl rfl (bV (bK rfl rfl) (bV (bG 2 rfl rfl) bW)) (eU rfl rfl (Ht rfl) (fun h=>cZ (Ht rfl))) ?_))
  refine C.D_step (Ei:=[(52,_),(53,_),(48,_)]) rfl rfl (bV (bG 6 rfl rfl) (bV (bG 7 rfl rfl) (bV (bG 2 rfl rfl) bW))) (eU rfl rfl (Ht rfl) (fun h=>dJ U_35 Z_131 (fV rfl h) (fV rfl h) rfl (eQ (dY (d:=Qi.zero) (by first | omega | (simp at h; omega)))))) (C.D_step (Ei:=[(54,_),(48,_)]) rfl rfl (bV (bG 8 rfl rfl) (bV (bG 2 rfl rfl) bW)) (eU rfl rfl (Ht rfl) (fun h=>dV A_131 Z_131 (fV rfl h))) (fW bA rfl (by kernel_rfl) (zF (zF (aJ (aJ (aV ?_)))))))
  refine fX rfl rfl (eU rfl rfl (Ht rfl) (fun h=>cJ Tryz.call80 (Ko (x:=gv z i) (y:=gv z i) (L:=L) (M:=L) hL hL) ⟨(fV rfl h),(fV rfl h),trivial⟩)) (fX rfl rfl (eU rfl rfl (Ht rfl) (fun h=>fB (fV rfl h))) (ro rfl (fO (Ht rfl) (fun h=>(fV rfl h))) (eZ (kF (Ht rfl) (by simp) ?_))))
  refine cY (ts (ro rfl (eJ tP (Ht rfl) rfl) (ro rfl (fQ A_36 Z_36 (Ht rfl) (i:=1) rfl rfl) (ro rfl (dK U_36 (Ht rfl) aA) (ro rfl (cZ (cV 0)) (eZ (eK (bI [0,1,2] rfl (by decide) ?_))))))))
  refine bP (fun (j : Nat) => j ≤ z.length) (fun (j : Nat) => z.length - j) (fun (j : Nat) => [(2, bF B2 0), (3, bF B3 0), (5, bF B5 0), (6, NT .i64 i), (35, NT .i64 z.length), (36, NT .i64 i), (61, NT .i64 z.length), (62, NT .i64 j)]) (fun (j : Nat) => [box B2 34 [aR z, bM s, bM c], box B3 40 [wY z, QM s, QM c], box B5 32 [aR z, bM s]]) 0 (Nat.zero_le _)
   (aQ rfl (aQ rfl (aQ rfl (aQ rfl (aQ rfl (aQ rfl (aZ rfl (lK hcl) (zS rfl)))))))) (dD.refl _) (fun j hj=>?_)
  refine ts (ro rfl (gZ (Ht rfl) (Ht rfl)) (eZ (cU (dX (Ht rfl) (fun hf=>?_) (fun hf=>?_)))))
  ·simp only [decide_eq_true_eq] at hf
   haveI f2:aM (gm s i j) L:=hs.get hL1 i j
   haveI f3:aM (gm c i j) L:=hc.get hL1 i j
   have hsr:=hsh.row hd
   have hcr:=hch.row hd
   have hs1:=hsh.1
   refine cY (cU (eK (ts (rm rfl (ra rfl (eZ (ts (ro rfl (eW A_32 Z_32 (Ht rfl) (i:=2) rfl rfl rfl) (rm rfl (ro rfl (dW (Ht rfl) (cV 1) z6) (rm rfl (ro rfl (dW (Ht rfl) (cV 1) z6) (ro rfl (cJ Tryz.call25 (eX (a6K (z:=z) (s:=s) (i:=((i + 1:Nat):Int)) (j:=((j + 1:Nat):Int)) hsh zo) (a4N hd hf)) ⟨(Ht rfl),(Ht rfl),(Ht rfl),trivial⟩) (rm rfl (ro rfl (dU (Ht rfl) rfl) ?_)))))))))))))))
   refine ro rfl (dU (Ht rfl) rfl) (rn rfl (eG (Ts:=[Is (.bool false),Is (.slice none 0 0),Is (.bool false),Is (.slice none 0 0),Is (.slice none 0 0)]) O_51 rfl (fun V=>aW zd (aW zd (aW zd (aW zd (aW zd (aG))))))) fun B10=>(gX Z_51 (Ht rfl) (Ht rfl) rfl (i:=3) rfl (aK rfl) rfl rfl (ra rfl (eZ (ts (ro rfl (eW A_34 Z_34 (Ht rfl) (i:=0) rfl rfl rfl) (rm rfl (ro rfl (dW (Ht rfl) (cV 1) z6) ?_))))))))
   refine rm rfl (ro rfl (dW (Ht rfl) (cV 1) z6) (ro rfl (cJ Tryz.call87 (eX (Kq (z:=z) (s:=s) (c:=c) (i:=((i + 1:Nat):Int)) (j:=((j + 1:Nat):Int)) hch2 zo) (a4N zo zo)) ⟨(Ht rfl),(Ht rfl),(Ht rfl),trivial⟩) (rm rfl (ro rfl (dU (Ht rfl) rfl) (ro rfl (dU (Ht rfl) rfl) (rn rfl (eG (Ts:=[Is (.bool false),Is (.slice none 0 0),Is (.bool false),Is (.slice none 0 0),Is (.slice none 0 0)]) O_51 rfl (fun V=>aW zd (aW zd (aW zd (aW zd (aW zd (aG))))))) fun B12=>?_))))))
   refine gX Z_51 (Ht rfl) (Ht rfl) rfl (i:=4) rfl (aK rfl) rfl rfl (ra rfl (eZ (cU (fJ (m:=30) (dp 11 rfl (cZ (Ht rfl)) (dq 83 0 rfl (gD (Ht rfl) cW) (dq 84 1 rfl (cZ (Ht rfl)) (C.D_step (Ei:=[(13,_),(85,_)]) rfl rfl (bV (bK rfl rfl) (bV (bG 2 rfl rfl) bW)) (eU rfl rfl (Ht rfl) (fun h=>cZ (Ht rfl))) (C.D_step (Ei:=[(86,_),(85,_)]) rfl rfl (bV (bG 3 rfl rfl) (bV (bG 2 rfl rfl) bW)) (eU rfl rfl (Ht rfl) (fun h=>gD (fV rfl h) cW)) ?_)))))))))
   refine dT 85 2 87 4 rfl (fO (Ht rfl) (fun h=>(fV rfl h))) (dq 88 5 rfl (cZ (Ht rfl)) (C.D_step (Ei:=[(10,_),(89,_)]) rfl rfl (bV (bK rfl rfl) (bV (bG 6 rfl rfl) bW)) (eU rfl rfl (Ht rfl) (fun h=>eW A_51 Z_51 (Ht rfl) (i:=3) rfl rfl rfl)) (C.D_step (Ei:=[(3,_),(89,_)]) rfl rfl (bV (bK rfl rfl) (bV (bG 6 rfl rfl) bW)) (eU rfl rfl (Ht rfl) (fun h=>eJ tO (Ht rfl) rfl)) (C.D_step (Ei:=[(91,_),(89,_)]) rfl rfl (bV (bG 8 rfl rfl) (bV (bG 6 rfl rfl) bW)) (eU rfl rfl (Ht rfl) (fun h=>eJ tN (fV rfl h) rfl)) ?_))))
   refine C.D_step (Ei:=[(92,_),(89,_)]) rfl rfl (bV (bG 9 rfl rfl) (bV (bG 6 rfl rfl) bW)) (eU rfl rfl (Ht rfl) (fun h=>fQ A_36 Z_36 (fV rfl h) (i:=1) rfl rfl)) (C.D_step (Ei:=[(6,_),(89,_)]) rfl rfl (bV (bK rfl rfl) (bV (bG 6 rfl rfl) bW)) (eU rfl rfl (Ht rfl) (fun h=>cZ (Ht rfl))) (C.D_step (Ei:=[(93,_),(94,_),(89,_)]) rfl rfl (bV (bG 10 rfl rfl) (bV (bG 11 rfl rfl) (bV (bG 6 rfl rfl) bW))) (eU rfl rfl (Ht rfl) (fun h=>dJ U_36 Z_35 (fV rfl h) (fV rfl h) rfl (eQ (dY (d:=[]) zo)))) ?_))
   refine C.D_step (Ei:=[(95,_),(89,_)]) rfl rfl (bV (bG 12 rfl rfl) (bV (bG 6 rfl rfl) bW)) (eU rfl rfl (Ht rfl) (fun h=>dV A_35 Z_35 (fV rfl h))) (C.D_step (Ei:=[(9,_),(89,_)]) rfl rfl (bV (bK rfl rfl) (bV (bG 6 rfl rfl) bW)) (eU rfl rfl (Ht rfl) (fun h=>cZ (Ht rfl))) (C.D_step (Ei:=[(96,_),(97,_),(89,_)]) rfl rfl (bV (bG 13 rfl rfl) (bV (bG 14 rfl rfl) (bV (bG 6 rfl rfl) bW))) (eU rfl rfl (Ht rfl) (fun h=>dJ U_35 Z_131 (fV rfl h) (fV rfl h) rfl (eQ (dY (d:=Qi.zero) zo)))) ?_))
   refine C.D_step (Ei:=[(98,_),(89,_)]) rfl rfl (bV (bG 15 rfl rfl) (bV (bG 6 rfl rfl) bW)) (eU rfl rfl (Ht rfl) (fun h=>dV A_131 Z_131 (fV rfl h))) (C.D_step (Ei:=[(90,_),(99,_),(89,_)]) rfl rfl (bV (bG 7 rfl rfl) (bV (bG 16 rfl rfl) (bV (bG 6 rfl rfl) bW))) (eU rfl rfl (Ht rfl) (fun h=>cJ Tryz.call80 (Ko (x:=gm s i j) (y:=gm s i j) (L:=L) (M:=L) hL hL) ⟨(fV rfl h),(fV rfl h),trivial⟩)) (C.D_step (Ei:=[(100,_),(89,_)]) rfl rfl (bV (bG 17 rfl rfl) (bV (bG 6 rfl rfl) bW)) (eU rfl rfl (Ht rfl) (fun h=>fB (fV rfl h))) ?_))
   refine dT 89 6 101 18 rfl (fO (Ht rfl) (fun h=>(fV rfl h))) (dq 102 19 rfl (cZ (Ht rfl)) (C.D_step (Ei:=[(12,_),(103,_)]) rfl rfl (bV (bK rfl rfl) (bV (bG 20 rfl rfl) bW)) (eU rfl rfl (Ht rfl) (fun h=>eW A_51 Z_51 (Ht rfl) (i:=4) rfl rfl rfl)) (C.D_step (Ei:=[(3,_),(103,_)]) rfl rfl (bV (bK rfl rfl) (bV (bG 20 rfl rfl) bW)) (eU rfl rfl (Ht rfl) (fun h=>eJ tP (Ht rfl) rfl)) (C.D_step (Ei:=[(105,_),(103,_)]) rfl rfl (bV (bG 22 rfl rfl) (bV (bG 20 rfl rfl) bW)) (eU rfl rfl (Ht rfl) (fun h=>fQ A_36 Z_36 (fV rfl h) (i:=1) rfl rfl)) ?_))))
   refine C.D_step (Ei:=[(6,_),(103,_)]) rfl rfl (bV (bK rfl rfl) (bV (bG 20 rfl rfl) bW)) (eU rfl rfl (Ht rfl) (fun h=>cZ (Ht rfl))) (C.D_step (Ei:=[(106,_),(107,_),(103,_)]) rfl rfl (bV (bG 23 rfl rfl) (bV (bG 24 rfl rfl) (bV (bG 20 rfl rfl) bW))) (eU rfl rfl (Ht rfl) (fun h=>dJ U_36 Z_35 (fV rfl h) (fV rfl h) rfl (eQ (dY (d:=[]) zo)))) (C.D_step (Ei:=[(108,_),(103,_)]) rfl rfl (bV (bG 25 rfl rfl) (bV (bG 20 rfl rfl) bW)) (eU rfl rfl (Ht rfl) (fun h=>dV A_35 Z_35 (fV rfl h))) ?_))
   refine C.D_step (Ei:=[(9,_),(103,_)]) rfl rfl (bV (bK rfl rfl) (bV (bG 20 rfl rfl) bW)) (eU rfl rfl (Ht rfl) (fun h=>cZ (Ht rfl))) (C.D_step (Ei:=[(109,_),(110,_),(103,_)]) rfl rfl (bV (bG 26 rfl rfl) (bV (bG 27 rfl rfl) (bV (bG 20 rfl rfl) bW))) (eU rfl rfl (Ht rfl) (fun h=>dJ U_35 Z_131 (fV rfl h) (fV rfl h) rfl (eQ (dY (d:=Qi.zero) zo)))) (C.D_step (Ei:=[(111,_),(103,_)]) rfl rfl (bV (bG 28 rfl rfl) (bV (bG 20 rfl rfl) bW)) (eU rfl rfl (Ht rfl) (fun h=>dV A_131 Z_131 (fV rfl h))) ?_))
   refine fW bA rfl (by kernel_rfl) (zF (zF (zF (zF (zF (zF (zF (aJ (aJ (aV (fX rfl rfl (eU rfl rfl (Ht rfl) (fun h=>cJ Tryz.call80 (Ko (x:=gm c i j) (y:=gm c i j) (L:=L) (M:=L) hL hL) ⟨(fV rfl h),(fV rfl h),trivial⟩)) (fX rfl rfl (eU rfl rfl (Ht rfl) (fun h=>fB (fV rfl h))) ?_))))))))))))
   refine ro rfl (fO (Ht rfl) (fun h=>(fV rfl h))) (eZ (kF (Ht rfl) (by simp) ?_))
   refine cY (aT (dQ (ro rfl (dW (Ht rfl) (cV 1) z6) (rm rfl (eZ (bI [0,1,2] rfl (by decide) (fY (j + 1) hf zo (zS rfl) (dD.refl _))))))))
  ·refine gW rfl (aT (dQ (ro rfl (dW (Ht rfl) (cV 1) z6) (rm rfl (eZ (bI [0,1,2] rfl (by decide) (fY (i + 1) hd zo (zS rfl) (dD.refl _))))))))
 ·refine gW rfl (ts (ro rfl (cX cW) (eZ ?_)))
  exact fG rfl (eY rfl)
theorem a0I:bL Tryz.prog 97 [NT .i64 ([]:List Qi).length,NT .i64 ([]:List Qi).length] (bM []):=(En (n:=0) (by decide)).fun fun B _ v S V h1 h2=>iT (s:=5) (M:=[]) rfl v S V h1 h2
theorem a5q {c:List (List Qi)}:bL Tryz.prog 99 [bM [],bM c] (bM []):=by
 refine bL.intro Tryz.func99 rfl Tryz.ntmps99 rfl (fun cx=>(ts (ro rfl (cX cW) (eZ (cU (ts (rm rfl (ro rfl (dK U_30 (Ht rfl) aA) (ro rfl (dP (Ht rfl) (cV 0)) (eZ (a2B (Ht rfl) (by rfl) ?_)))))))))))
 refine ts (ro rfl (cX cW) (eZ (fG rfl (fZ (eY rfl) ?_))))
 exact (fun v V h=>jM _ _ h)
theorem a0E  : bL Tryz.prog 160 [jI [] []] (bM []):=by
 refine bL.intro Tryz.func160 rfl Tryz.ntmps160 rfl (fun cx=>(ts (rn rfl (fK (Ht rfl)) fun B1=>(ro rfl (cX cW) (eZ (cU (fJ (m:=3) (dp 1 rfl (eW A_32 Z_32 (Ht rfl) (i:=0) rfl rfl rfl) (dq 10 0 rfl (cJ K_22 lS ⟨(Ht rfl),trivial⟩) (dp 1 rfl (eW A_32 Z_32 (Ht rfl) (i:=0) rfl rfl rfl) (fW bA rfl (by kernel_rfl) (aJ (aJ (aJ (aV (ro rfl (cJ K_22 lS ⟨(Ht rfl),trivial⟩) (ro rfl (cJ Tryz.call97 a0I ⟨(Ht rfl),(Ht rfl),trivial⟩) (ra rfl ?_))))))))))))))))))
 refine eZ (cU (ts (ro rfl (eW A_32 Z_32 (Ht rfl) (i:=0) rfl rfl rfl) (ro rfl (cJ Tryz.call142 (a0B (z:=[]) (s:=[]) (by decide)) ⟨(Ht rfl),trivial⟩) (ro rfl (dK U_29 (Ht rfl) aA) (ro rfl (cZ (cV 0)) (eZ (eK ?_))))))))
 refine bP (fun (i : Nat) => i ≤ 0) (fun (i : Nat) => 0 - i) (fun (i : Nat) => [(1, bF B1 0), (3, bM []), (17, NT .i64 0), (18, NT .i64 i)]) (fun (i : Nat) => [box B1 32 [aR [], bM []]]) 0 (Nat.zero_le _)
  (zS rfl) (dD.refl _) (fun i hi=>?_)
 refine ts (ro rfl (gZ (Ht rfl) (Ht rfl)) (eZ (cU (dX (Ht rfl) (fun hd=>?_) (fun hd=>?_)))))
 ·simp only [decide_eq_true_eq] at hd
  omega
 ·refine gW rfl (ts (ro rfl (eW A_32 Z_32 (Ht rfl) (i := 0) rfl rfl rfl) (ro rfl (cJ Tryz.call93 (Kt (z := []) (s := []) ⟨rfl, fun r hr => by cases hr⟩ (by decide)) ⟨(Ht rfl), trivial⟩) (rm rfl (ro rfl (cJ Tryz.call99 (a5q (c := [])) ⟨(Ht rfl), (Ht rfl), trivial⟩) (ra rfl (eZ (cU (ts (rm rfl (ro rfl (dK U_30 (Ht rfl) aA) (ro rfl (cZ (cV 0)) (eZ (eK ?_))))))))))))))
  refine bP (fun (i : Nat) => i ≤ 0) (fun (i : Nat) => 0 - i) (fun (i : Nat) => [(1, bF B1 0), (3, bM []), (37, NT .i64 0), (38, NT .i64 i)]) (fun (i : Nat) => [box B1 32 [aR [], bM []]]) 0 (Nat.zero_le _)
   (zS rfl) (dD.refl _) (fun i hi=>?_)
  refine ts (ro rfl (gZ (Ht rfl) (Ht rfl)) (eZ (cU (dX (Ht rfl) (fun hd=>?_) (fun hd=>?_)))))
  ·simp only [decide_eq_true_eq] at hd
   omega
  ·refine gW rfl (ts (rm rfl (ra rfl (eZ ?_))))
   exact fG rfl (eY rfl)
theorem a5n {t:Qi} {L:Nat} (ht:aM t L) (hL:L ≤ 1000000):bL Tryz.prog 57 [jI [] [],aF t] (fS [eR [] [] [],aL .i64 (nB t)]):=by
 haveI:=ht
 refine bL.intro Tryz.func57 rfl Tryz.ntmps57 rfl (fun cx=>(ts (rn rfl (fK (Ht rfl)) fun B2=>(rn rfl (fK (Ht rfl)) fun B3=>(rn rfl (eG (Ts:=[Is (.slice none 0 0),Is (.slice none 0 0),Is (.slice none 0 0)]) O_34 rfl (fun V=>aW zd (aW zd (aW zd (aG))))) fun B4=>(ro rfl (cX (cV 0)) (eZ (cU (ts (ro rfl (eW A_51 Z_51 (Ht rfl) (i:=1) rfl rfl rfl) (ro rfl (cJ Tryz.call159 (a0G zo) ⟨(Ht rfl),trivial⟩) (ro rfl (fB (Ht rfl)) ?_))))))))))))
 refine eZ (dX (Ht rfl) (fun hb=>?_) (fun hb=>?_))
 ·have he : nB t ≠ 0 := by simp only [Bool.not_eq_true'] at hb; rw [nB, hb]; decide
  have he1:nB t = 1:=by simp only [Bool.not_eq_true'] at hb; rw [nB,hb]; rfl
  refine ts (ro rfl (aI.imp (vX ) pW) (gX Z_34 (Ht rfl) (Ht rfl) rfl (i:=2) rfl (aK rfl) rfl rfl (ro rfl (cX (cV 1)) (eZ (bR rfl (fU A_34 Z_34 rfl (i:=2) rfl rfl) (fZ (eY rfl) ?_))))))
  exact (aO he1.symm)
 ·have he : nB t = 0 := by simp only [Bool.not_eq_false'] at hb; rw [nB, hb]; rfl
  refine cY (ts (ro rfl (eW A_32 Z_32 (Ht rfl) (i:=0) rfl rfl rfl) (ro rfl (cJ Tryz.call160 a0E ⟨(Ht rfl),trivial⟩) (ra rfl (eZ (cU (ts (rm rfl (ro rfl (dK U_30 (Ht rfl) aA) (ro rfl (cZ (cV 0)) (eZ (eK ?_))))))))))))
  refine bP (fun (i : Nat) => i ≤ 0) (fun (i : Nat) => 0 - i) (fun (i : Nat) => [(2, bF B2 0), (3, bF B3 0), (4, bF B4 0), (6, bM []), (17, NT .i64 0), (18, NT .i64 i)]) (fun (i : Nat) => [box B2 32 [aR [], bM []], box B3 51 [aH (decide (t.a < 0)), bC t.a.natAbs, aH (decide (t.b < 0)), bC t.b.natAbs, bC (du t)], box B4 34 [Is (.slice none 0 0), Is (.slice none 0 0), Is (.slice none 0 0)]]) 0 (Nat.zero_le _)
   (zS rfl) (dD.refl _) (fun i hi=>?_)
  refine ts (ro rfl (gZ (Ht rfl) (Ht rfl)) (eZ (cU (dX (Ht rfl) (fun hd=>?_) (fun hd=>?_)))))
  ·simp only [decide_eq_true_eq] at hd
   omega
  ·refine gW rfl (ts (ro rfl (eW A_32 Z_32 (Ht rfl) (i := 0) rfl rfl rfl) (rm rfl (ro rfl (qF (Ht rfl) (Ht rfl)) (gX Z_34 (Ht rfl) (Ht rfl) rfl (i := 2) rfl (aK rfl) rfl rfl (ro rfl (cX (cV 0)) (eZ (bR rfl (fU A_34 Z_34 rfl (i := 2) rfl rfl) (fZ (eY rfl) ?_)))))))))
   exact (aO he.symm)
end
section
open Go Go.RowKit
theorem Mh {α:Type} (e:Int):cD e ([]:List α) = []:=by unfold cD; split <;> rfl
theorem Dk {e:Int} {z:List Qi} {s:List (List Qi)} (h:cP s z.length z.length):cP (cD e s) (cD e z).length (cD e z).length:=by
 unfold cD; split
 ·exact h
 ·exact ⟨rfl,fun r hr=>by cases hr⟩
theorem Pw {t : Qi} {c : List (List Qi)} {n L M : Nat} (ht : aM t L) (hc : bB c M) (hM : 1 ≤ M) : bB (qS t c n) (L + M + 1) := bB.tab fun i j _ _ => by
 haveI:=ht; haveI:=hc.get hM i j
 infer_instance
theorem Rd {z:List Qi} {s:List (List Qi)} {t:Qi} {L:Nat} (hz:cH z L) (hs:bB s L) (ht:aM t L) (hL1:1 ≤ L) (hL:L ≤ 1000000) (hsh:cP s z.length z.length) (hl:z.length ≤ 8):bL Tryz.prog 57 [jI z s,aF t] (fS [eR (cD (nB t) z) (cD (nB t) s) (cD (nB t) (qS t (lL z s) z.length)),aL .i64 (nB t)]):=by
 cases z with
 | nil =>
  have e:s = []:=List.length_eq_zero_iff.1 hsh.1
  subst e
  rw [Mh,Mh,show qS t (lL [] []) ([]:List Qi).length = [] from rfl,Mh]
  exact a5n ht hL
 | cons x z=>exact a4B hz hs ht hL1 hL hsh (by simp) hl
end
section
open Go Go.RowKit
theorem Qi.zero_div (y:Qi):Qi.zero / y = Qi.zero:=by rw [Qi.div_def,Qi.zero_mul']
end
section
open Go Go.RowKit
theorem Lc {α:Type} {l:List α} {d:α} {k:Nat} (h:k < l.length):l.getD k d = l[k]:=by simp [List.getD,h]
theorem a6Z {l m:List Qi} (h:l.length = m.length) (k:∀ i,i < l.length → gv l i = gv m i):l = m:=by
 apply List.ext_getElem h
 intro i h1 h2
 have:=k i h1
 simpa [gv,List.getD,h1,h2] using this
theorem a3e {l m:List (List Qi)} (h:l.length = m.length) (k:∀ i,i < l.length → l.getD i [] = m.getD i []):l = m:=by
 apply List.ext_getElem h
 intro i h1 h2
 have:=k i h1
 simpa [List.getD,h1,h2] using this
theorem a76 {l m:List Qi} {i:Nat} (h:gv l i ≠ gv m i):l ≠ m:=fun e=>h (by rw [e])
theorem a3H {l m:List (List Qi)} {i:Nat} (h:l.getD i [] ≠ m.getD i []):l ≠ m:=fun e=>h (by rw [e])
def Vy (z z':List Qi) (s s':List (List Qi)):Bool:=decide (z = z') && decide (s = s')
theorem tV (z:List Qi) (s:List (List Qi)):Vy z z s s = true:=by simp [Vy]
end
section
open Go Go.RowKit
theorem yV (v : Value) (w : World) : (method (Tryz.prog.types.size + Made.depth) 51 v "Same").run Tryz.prog w = .ok (139, v) w := by kernel_rfl
end
section
open Go Go.RowKit
theorem Kk {l m:List Qi} {L:Nat} (hl:cH l L) (hm:cH m L) (hL:1 ≤ L) (h1:l.length ≤ 1000) (h2:m.length ≤ 1000):bL Tryz.prog 155 [aR l,aR m,Bv Tryz.prog {x:Qi × Qi // aM x.1 L ∧ aM x.2 L} (fun x=>[aF x.1.1,aF x.1.2]) (fun x=>aH (decide (x.1.1 = x.1.2)))] (aH (decide (l = m))):=by
 refine bL.intro Tryz.func155 rfl Tryz.ntmps155 rfl (fun cx=>(ts (ro rfl (cX cW) (eZ (cU (ts (rm rfl (ro rfl (dK U_29 (Ht rfl) aA) (rm rfl (ro rfl (dK U_29 (Ht rfl) aA) (ro rfl (fT (Ht rfl) (Ht rfl)) (eZ (dX (Ht rfl) (fun hb=>?_) (fun hb=>?_))))))))))))))
 ·have hn : ¬ l = m := fun e => by rw [e] at hb; simp at hb
  refine ts (ro rfl (cX cW) (eZ (fG rfl (fZ (eY rfl) ?_))))
  exact (dN (decide_eq_false hn).symm)
 ·have he : l.length = m.length := by simpa using hb
  refine cY (cU (ts (rm rfl (ro rfl (dK U_29 (Ht rfl) aA) (ro rfl (cZ (cV 0)) (eZ (eK ?_)))))))
  refine bP (fun (k : Nat) => k ≤ l.length ∧ ∀ i, i < k → gv l i = gv m i) (fun (k : Nat) => l.length - k) (fun (k : Nat) => [(0, aR l), (1, aR m), (2, Bv Tryz.prog {x : Qi × Qi // aM x.1 L ∧ aM x.2 L} (fun x => [aF x.1.1, aF x.1.2]) (fun x => aH (decide (x.1.1 = x.1.2)))), (15, aR l), (16, NT .i64 l.length), (17, NT .i64 k)]) (fun (k : Nat) => []) 0 ⟨Nat.zero_le _, fun i h => by omega⟩
   (zS rfl) aY (fun k ⟨hk,hr⟩=>?_)
  refine ts (ro rfl (gZ (Ht rfl) (Ht rfl)) (eZ (cU (dX (Ht rfl) (fun hc=>?_) (fun hc=>?_)))))
  ·simp only [decide_eq_true_eq] at hc
   refine cY (cU (eK (ts (rm rfl (ro rfl (dJ U_29 Z_51 (Ht rfl) (Ht rfl) rfl (eQ (dY (d:=Qi.zero) zo))) (ro rfl (dV A_51 Z_51 (Ht rfl)) (rn rfl (eG (Ts:=[Is (.bool false),Is (.slice none 0 0),Is (.bool false),Is (.slice none 0 0),Is (.slice none 0 0)]) O_51 rfl (fun V=>aW zd (aW zd (aW zd (aW zd (aW zd (aG))))))) fun B8=>(ra rfl (gX Z_51 (Ht rfl) (Ht rfl) rfl (i:=0) rfl (aK rfl) rfl rfl ?_)))))))))
   refine eZ (ts (rm rfl (rm rfl (ro rfl (dJ U_29 Z_51 (Ht rfl) (Ht rfl) rfl (eQ (dY (d:=Qi.zero) zo))) (ro rfl (dV A_51 Z_51 (Ht rfl)) (rn rfl (eG (Ts:=[Is (.bool false),Is (.slice none 0 0),Is (.bool false),Is (.slice none 0 0),Is (.slice none 0 0)]) O_51 rfl (fun V=>aW zd (aW zd (aW zd (aW zd (aW zd (aG))))))) fun B9=>(gX Z_51 (Ht rfl) (Ht rfl) rfl (i:=1) rfl (aK rfl) rfl rfl ?_)))))))
   refine eZ (ts (rm rfl (ro rfl (eW A_51 Z_51 (Ht rfl) (i:=0) rfl rfl rfl) (ro rfl (eW A_51 Z_51 (Ht rfl) (i:=1) rfl rfl rfl) (ro rfl (nI (⟨(gv l k,gv m k),hl.get hL k,hm.get hL k⟩:{x:Qi × Qi // aM x.1 L ∧ aM x.2 L}) (Ht rfl) ⟨(Ht rfl),(Ht rfl),trivial⟩) (ro rfl (fB (Ht rfl)) (eZ (dX (Ht rfl) (fun hd=>?_) (fun hd=>?_)))))))))
   ·have hn : ¬ l = m := a76 (i := k) (by simpa using hd)
    refine ts (ro rfl (cX cW) (eZ (fG rfl (fZ (eY rfl) ?_))))
    exact (dN (decide_eq_false hn).symm)
   ·have hq : gv l k = gv m k := by simpa using hd
    refine cY (aT (dQ (ro rfl (dW (Ht rfl) (cV 1) z6) (rm rfl (eZ (bI [] rfl (by decide) ?_))))))
    refine fY (k + 1) ⟨hc, fun i h => by
     by_cases e:i = k
     ·rw [e]; exact hq
     ·exact hr i zo⟩ zo (zS rfl) aY
  ·simp only [decide_eq_false_iff_not] at hc
   refine gW rfl (ts (ro rfl (cX cW) (eZ (fG rfl (fZ (eY rfl) ?_)))))
   exact (dN (decide_eq_true (a6Z he (fun i h=>hr i zo))).symm)
theorem Uc {l m:List (List Qi)} {L:Nat} (hl:bB l L) (hm:bB m L) (h3:∀ r,r ∈ l → r.length ≤ 1000) (h4:∀ r,r ∈ m → r.length ≤ 1000) (h1:l.length ≤ 1000) (h2:m.length ≤ 1000):bL Tryz.prog 153 [bM l,bM m,Bv Tryz.prog {x:List Qi × List Qi // (cH x.1 L ∧ x.1.length ≤ 1000) ∧ cH x.2 L ∧ x.2.length ≤ 1000} (fun x=>[aR x.1.1,aR x.1.2]) (fun x=>aH (decide (x.1.1 = x.1.2)))] (aH (decide (l = m))):=by
 refine bL.intro Tryz.func153 rfl Tryz.ntmps153 rfl (fun cx=>(ts (ro rfl (cX cW) (eZ (cU (ts (rm rfl (ro rfl (dK U_30 (Ht rfl) aA) (rm rfl (ro rfl (dK U_30 (Ht rfl) aA) (ro rfl (fT (Ht rfl) (Ht rfl)) (eZ (dX (Ht rfl) (fun hb=>?_) (fun hb=>?_))))))))))))))
 ·have hn : ¬ l = m := fun e => by rw [e] at hb; simp at hb
  refine ts (ro rfl (cX cW) (eZ (fG rfl (fZ (eY rfl) ?_))))
  exact (dN (decide_eq_false hn).symm)
 ·have he : l.length = m.length := by simpa using hb
  refine cY (cU (ts (rm rfl (ro rfl (dK U_30 (Ht rfl) aA) (ro rfl (cZ (cV 0)) (eZ (eK ?_)))))))
  refine bP (fun (k : Nat) => k ≤ l.length ∧ ∀ i, i < k → l.getD i [] = m.getD i []) (fun (k : Nat) => l.length - k) (fun (k : Nat) => [(0, bM l), (1, bM m), (2, Bv Tryz.prog {x : List Qi × List Qi // (cH x.1 L ∧ x.1.length ≤ 1000) ∧ cH x.2 L ∧ x.2.length ≤ 1000} (fun x => [aR x.1.1, aR x.1.2]) (fun x => aH (decide (x.1.1 = x.1.2)))), (15, bM l), (16, NT .i64 l.length), (17, NT .i64 k)]) (fun (k : Nat) => []) 0 ⟨Nat.zero_le _, fun i h => by omega⟩
   (zS rfl) aY (fun k ⟨hk,hr⟩=>?_)
  refine ts (ro rfl (gZ (Ht rfl) (Ht rfl)) (eZ (cU (dX (Ht rfl) (fun hc=>?_) (fun hc=>?_)))))
  ·simp only [decide_eq_true_eq] at hc
   refine cY (cU (eK (ts (rm rfl (ro rfl (dJ U_30 Z_29 (Ht rfl) (Ht rfl) rfl (eQ (dY (d:=[]) hc))) (ro rfl (dV A_29 Z_29 (Ht rfl)) (ra rfl (ra rfl (eZ (ts (rm rfl (rm rfl (ro rfl (dJ U_30 Z_29 (Ht rfl) (Ht rfl) rfl (eQ (dY (d:=[]) zo))) (ro rfl (dV A_29 Z_29 (Ht rfl)) (ra rfl (eZ (ts (rm rfl (rm rfl (rm rfl (ro rfl (nI (⟨(l.getD k [],m.getD k []),⟨hl.row k,by rw [Lc hc]; exact h3 _ (List.getElem_mem hc)⟩,hm.row k,by rw [Lc (by omega:k < m.length)]; exact h4 _ (List.getElem_mem _)⟩:{x:List Qi × List Qi // (cH x.1 L ∧ x.1.length ≤ 1000) ∧ cH x.2 L ∧ x.2.length ≤ 1000}) (Ht rfl) ⟨(Ht rfl),(Ht rfl),trivial⟩) ?_)))))))))))))))))))))
   refine ro rfl (fB (Ht rfl)) (eZ (dX (Ht rfl) (fun hd=>?_) (fun hd=>?_)))
   ·have hn : ¬ l = m := a3H (i := k) (by simpa using hd)
    refine ts (ro rfl (cX cW) (eZ (fG rfl (fZ (eY rfl) ?_))))
    exact (dN (decide_eq_false hn).symm)
   ·have hq : l.getD k [] = m.getD k [] := by simpa using hd
    refine cY (aT (dQ (ro rfl (dW (Ht rfl) (cV 1) z6) (rm rfl (eZ ?_)))))
    refine fY (k + 1) ⟨hc, fun i h => by
     by_cases e:i = k
     ·rw [e]; exact hq
     ·exact hr i zo⟩ zo (zS rfl) aY
  ·simp only [decide_eq_false_iff_not] at hc
   refine gW rfl (ts (ro rfl (cX cW) (eZ (fG rfl (fZ (eY rfl) ?_)))))
   exact (dN (decide_eq_true (a3e he (fun i h=>hr i zo))).symm)
theorem a0t {x y:Qi} {L:Nat} [hx:aM x L] [hy:aM y L] (h:L ≤ 8796093022208):bL Tryz.prog 203 [aF x,aF y] (aH (decide (x = y))):=by
 refine bL.intro Tryz.func203 rfl Tryz.ntmps203 rfl (fun cx=>(ts (rn rfl (fK (Ht rfl)) fun B2=>(rn rfl (fK (Ht rfl)) fun B3=>(ro rfl (cX cW) (eZ (ts (ro rfl (eW A_51 Z_51 (Ht rfl) (i:=0) rfl rfl rfl) (ro rfl (cO eA (Ht rfl)) (ro rfl (eW A_51 Z_51 (Ht rfl) (i:=1) rfl rfl rfl) (ro rfl (cF yV Tryz.call139 (Km zo zo) (Ht rfl) ⟨(Ht rfl),trivial⟩) (ra rfl (eZ ?_)))))))))))))
 exact fG rfl (eY rfl)
theorem a0u {l m:List Qi} {L:Nat} (hl:cH l L) (hm:cH m L) (hL:1 ≤ L) (h1:l.length ≤ 1000) (h2:m.length ≤ 1000):bL Tryz.prog 204 [aR l,aR m,PT (Bv Tryz.prog {x:Qi × Qi // aM x.1 L ∧ aM x.2 L} (fun x=>[aF x.1.1,aF x.1.2]) (fun x=>aH (decide (x.1.1 = x.1.2))))] (aH (decide (l = m))):=by
 refine bL.intro Tryz.func204 rfl Tryz.ntmps204 rfl (fun cx=>(ts (ro rfl (cX cW) (eZ (ts (rm rfl (rm rfl (ro rfl (dV Tryz.isAgg205 Tryz.sizeOf205 (Ht rfl)) (ro rfl (cJ Tryz.call155 (Kk hl hm hL h1 h2) ⟨(Ht rfl),(Ht rfl),(Ht rfl),trivial⟩) (ra rfl (eZ ?_)))))))))))
 exact fG rfl (eY rfl)
theorem a0v {x y:Qi} {L:Nat} [hx:aM x L] [hy:aM y L] (h:L ≤ 8796093022208):bL Tryz.prog 152 [aF x,aF y] (aH (decide (x = y))):=by
 refine bL.intro Tryz.func152 rfl Tryz.ntmps152 rfl (fun cx=>(ts (rn rfl (fK (Ht rfl)) fun B2=>(rn rfl (fK (Ht rfl)) fun B3=>(ro rfl (cX cW) (eZ (ts (ro rfl (eW A_51 Z_51 (Ht rfl) (i:=0) rfl rfl rfl) (ro rfl (cO eA (Ht rfl)) (ro rfl (eW A_51 Z_51 (Ht rfl) (i:=1) rfl rfl rfl) (ro rfl (cF yV Tryz.call139 (Km zo zo) (Ht rfl) ⟨(Ht rfl),trivial⟩) (ra rfl (eZ ?_)))))))))))))
 exact fG rfl (eY rfl)
theorem a0w {l m:List Qi} {L:Nat} (hl:cH l L) (hm:cH m L) (hL:1 ≤ L) (h1:l.length ≤ 1000) (h2:m.length ≤ 1000):bL Tryz.prog 154 [aR l,aR m,PT (Bv Tryz.prog {x:Qi × Qi // aM x.1 L ∧ aM x.2 L} (fun x=>[aF x.1.1,aF x.1.2]) (fun x=>aH (decide (x.1.1 = x.1.2))))] (aH (decide (l = m))):=by
 refine bL.intro Tryz.func154 rfl Tryz.ntmps154 rfl (fun cx=>(ts (ro rfl (cX cW) (eZ (ts (rm rfl (rm rfl (ro rfl (dV Tryz.isAgg205 Tryz.sizeOf205 (Ht rfl)) (ro rfl (cJ Tryz.call155 (Kk hl hm hL h1 h2) ⟨(Ht rfl),(Ht rfl),(Ht rfl),trivial⟩) (ra rfl (eZ ?_)))))))))))
 exact fG rfl (eY rfl)
theorem Rj {z z':List Qi} {s s':List (List Qi)} {L:Nat} (hz:cH z L) (hz2:cH z' L) (hs:bB s L) (hs2:bB s' L) (hL:1 ≤ L) (h:L ≤ 8796093022208) (hsh:cP s z.length z.length) (hsh2:cP s' z'.length z'.length) (hl:z.length ≤ 1000) (hl2:z'.length ≤ 1000):bL Tryz.prog 113 [jI z s,jI z' s'] (aH (Vy z z' s s')):=by
 have e1:∀ r,r ∈ s → r.length ≤ 1000:=fun r hr=>by rw [hsh.2 r hr]; exact hl
 have e2:∀ r,r ∈ s' → r.length ≤ 1000:=fun r hr=>by rw [hsh2.2 r hr]; exact hl2
 have e3:s.length ≤ 1000:=by rw [hsh.1]; exact hl
 have e4:s'.length ≤ 1000:=by rw [hsh2.1]; exact hl2
 refine bL.intro Tryz.func113 rfl Tryz.ntmps113 rfl (fun cx=>(ts (rn rfl (fK (Ht rfl)) fun B2=>(rn rfl (fK (Ht rfl)) fun B3=>(ro rfl (cX cW) (eZ (ts (rn rfl (eG (Ts:=[Is (.nilFunc)]) Tryz.zeroValue205 rfl (fun V=>aW zd (aG))) fun B5=>(lQ Tryz.sizeOf205 (Ht rfl) (bH.fn Tryz.call203 (γ:={x:Qi × Qi // aM x.1 L ∧ aM x.2 L}) (Ts:=fun x=>[aF x.1.1,aF x.1.2]) (U:=fun x=>aH (decide (x.1.1 = x.1.2))) (fun x=>haveI:=x.2.1; haveI:=x.2.2; a0t (L:=L) h)) (i:=2) rfl (aK rfl) rfl ?_)))))))))
 refine eZ (cU (gV (i:=2) (tt:=5) rfl rfl nD (dQ (ro rfl (pO (γ:={x:List Qi × List Qi // (cH x.1 L ∧ x.1.length ≤ 1000) ∧ cH x.2 L ∧ x.2.length ≤ 1000}) (Ts:=fun x=>[aR x.1.1,aR x.1.2]) (U:=fun x=>aH (decide (x.1.1 = x.1.2))) Tryz.call204 (fun x=>a0u x.2.1.1 x.2.2.1 hL x.2.1.2 x.2.2.2) ⟨(Ht rfl),trivial⟩) (ra rfl (eZ (ts (ro rfl (eJ jV (Ht rfl) rfl) (ro rfl (fQ A_29 Z_29 (Ht rfl) (i:=0) rfl rfl) (ro rfl (eJ jV (Ht rfl) rfl) (ro rfl (fQ A_29 Z_29 (Ht rfl) (i:=1) rfl rfl) ?_)))))))))))
 refine ro rfl (cJ Tryz.call155 (Kk hz hz2 hL hl hl2) ⟨(Ht rfl),(Ht rfl),(bH.fn Tryz.call139 (γ:={x:Qi × Qi // aM x.1 L ∧ aM x.2 L}) (Ts:=fun x=>[aF x.1.1,aF x.1.2]) (U:=fun x=>aH (decide (x.1.1 = x.1.2))) (fun x=>haveI:=x.2.1; haveI:=x.2.2; Km (L:=L) (M:=L) zo zo)),trivial⟩) (rm rfl (fX rfl rfl (eU rfl rfl (Ht rfl) (fun h=>eJ oI (Ht rfl) rfl)) (fX rfl rfl (eU rfl rfl (Ht rfl) (fun h=>fQ A_30 Z_30 (fV rfl h) (i:=0) rfl rfl)) (fX rfl rfl (eU rfl rfl (Ht rfl) (fun h=>eJ oI (Ht rfl) rfl)) ?_))))
 refine fX rfl rfl (eU rfl rfl (Ht rfl) (fun h=>fQ A_30 Z_30 (fV rfl h) (i:=1) rfl rfl)) (fX rfl rfl (eU rfl rfl (Ht rfl) (fun h=>cZ (Ht rfl))) (fX rfl rfl (eU rfl rfl (Ht rfl) (fun h=>cJ Tryz.call153 (Uc hs hs2 e1 e2 e3 e4) ⟨(fV rfl h),(fV rfl h),(fV rfl h),trivial⟩)) (ro rfl (dM (Ht rfl) (fun h=>(fV rfl h))) (ra rfl (eZ (fG rfl (fZ (eY rfl) ?_)))))))
 exact (dN rfl)
theorem tJ {z z':List Qi} {s s' c c':List (List Qi)} {L:Nat} (hz:cH z L) (hz2:cH z' L) (hs:bB s L) (hs2:bB s' L) (hL:1 ≤ L) (h:L ≤ 8796093022208) (hsh:cP s z.length z.length) (hsh2:cP s' z'.length z'.length) (hl:z.length ≤ 1000) (hl2:z'.length ≤ 1000) (hc:bB c L) (hc2:bB c' L) (hch:cP c z.length z.length) (hch2:cP c' z'.length z'.length):bL Tryz.prog 52 [eR z s c,eR z' s' c'] (aH (Vy z z' s s' && decide (c = c'))):=by
 have e1:∀ r,r ∈ c → r.length ≤ 1000:=fun r hr=>by rw [hch.2 r hr]; exact hl
 have e2:∀ r,r ∈ c' → r.length ≤ 1000:=fun r hr=>by rw [hch2.2 r hr]; exact hl2
 have e3:c.length ≤ 1000:=by rw [hch.1]; exact hl
 have e4:c'.length ≤ 1000:=by rw [hch2.1]; exact hl2
 refine bL.intro Tryz.func52 rfl Tryz.ntmps52 rfl (fun cx=>(ts (rn rfl (fK (Ht rfl)) fun B2=>(rn rfl (fK (Ht rfl)) fun B3=>(ro rfl (cX cW) (eZ (ts (rn rfl (eG (Ts:=[Is (.nilFunc)]) Tryz.zeroValue205 rfl (fun V=>aW zd (aG))) fun B5=>(lQ Tryz.sizeOf205 (Ht rfl) (bH.fn Tryz.call152 (γ:={x:Qi × Qi // aM x.1 L ∧ aM x.2 L}) (Ts:=fun x=>[aF x.1.1,aF x.1.2]) (U:=fun x=>aH (decide (x.1.1 = x.1.2))) (fun x=>haveI:=x.2.1; haveI:=x.2.2; a0v (L:=L) h)) (i:=2) rfl (aK rfl) rfl ?_)))))))))
 refine eZ (cU (gV (i:=2) (tt:=5) rfl rfl nD (dQ (ro rfl (eJ oJ (Ht rfl) rfl) (ro rfl (eW A_32 Z_32 (Ht rfl) (i:=0) rfl rfl rfl) (ro rfl (eJ oJ (Ht rfl) rfl) (ro rfl (eW A_32 Z_32 (Ht rfl) (i:=1) rfl rfl rfl) (ro rfl (cJ Tryz.call113 (Rj hz hz2 hs hs2 hL h hsh hsh2 hl hl2) ⟨(Ht rfl),(Ht rfl),trivial⟩) (rm rfl (fX rfl rfl (eU rfl rfl (Ht rfl) (fun h=>eJ kI (Ht rfl) rfl)) (fX rfl rfl (eU rfl rfl (Ht rfl) (fun h=>fQ A_30 Z_30 (fV rfl h) (i:=0) rfl rfl)) ?_)))))))))))
 refine fX rfl rfl (eU rfl rfl (Ht rfl) (fun h=>eJ kI (Ht rfl) rfl)) (fX rfl rfl (eU rfl rfl (Ht rfl) (fun h=>fQ A_30 Z_30 (fV rfl h) (i:=1) rfl rfl)) (fX rfl rfl (eU rfl rfl (Ht rfl) (fun h=>pO (γ:={x:List Qi × List Qi // (cH x.1 L ∧ x.1.length ≤ 1000) ∧ cH x.2 L ∧ x.2.length ≤ 1000}) (Ts:=fun x=>[aR x.1.1,aR x.1.2]) (U:=fun x=>aH (decide (x.1.1 = x.1.2))) Tryz.call154 (fun x=>a0w x.2.1.1 x.2.2.1 hL x.2.1.2 x.2.2.2) ⟨(Ht rfl),trivial⟩)) (fX rfl rfl (eU rfl rfl (Ht rfl) (fun h=>cJ Tryz.call153 (Uc hc hc2 e1 e2 e3 e4) ⟨(fV rfl h),(fV rfl h),(fV rfl h),trivial⟩)) ?_)))
 refine ro rfl (dM (Ht rfl) (fun h=>(fV rfl h))) (ra rfl (eZ ?_))
 exact fG rfl (eY rfl)
end
section
open Go Go.RowKit
namespace Qi
end Qi
def jQ (f : Nat → Int) : Nat → Int
 | 0=>0
 | n + 1=>if jQ f n ≠ 0 then jQ f n else f n
theorem pV {f:Nat → Int} {k:Nat} (h:∀ i,i < k → f i = 0) (hk:f k ≠ 0):∀ {n:Nat},k < n → jQ f n = f k:=by
 have hz : jQ f k = 0 := by
  clear hk
  induction k with
  | zero=>rfl
  | succ k ih=>rw [jQ,ih (fun i hi=>h i zo),if_neg (by simp),h k zo]
 intro n
 induction n with
 | zero=>intro h; omega
 | succ n ih =>
  intro hn
  by_cases e:n = k
  ·rw [e,jQ,hz,if_neg (by simp)]
  ·rw [jQ,ih zo,if_pos hk]
theorem gS {f : Nat → Int} : ∀ {n : Nat}, (∀ i, i < n → f i = 0) → jQ f n = 0
 | 0,_=>rfl
 | n + 1,h=>by rw [jQ,gS (fun i hi=>h i zo),if_neg (by simp),h n zo]
theorem gH {f : Nat → Int} : ∀ {n : Nat}, jQ f n = 0 → ∀ i, i < n → f i = 0
 | 0,_,i,hi=>by omega
 | n + 1, h, i, hi => by
  rw [jQ] at h
  split at h
  ·rename_i c; exact absurd h c
  ·rename_i c
   by_cases e:i = n
   ·rw [e]; exact h
   ·exact gH (Decidable.not_not.1 c) i zo
abbrev eF (l:List (Qi × Qi)) (i:Nat):Qi:=(l.getD i (Qi.zero,Qi.zero)).1
abbrev eV (l:List (Qi × Qi)) (i:Nat):Qi:=(l.getD i (Qi.zero,Qi.zero)).2
structure a4y (l:List (Qi × Qi)) (f:Qi):Prop where
 real:∀ i,i < l.length → (eF l i).b = 0 ∧ (eV l i).b = 0
 up:∀ i,0 < i → i < l.length → (eF l (i - 1)).re < (eF l i).re
 fr:f.b = 0
theorem a4y.mono {l : List (Qi × Qi)} {f : Qi} (h : a4y l f) {i : Nat} : ∀ {j : Nat}, i < j → j < l.length → (eF l i).re < (eF l j).re
 | 0,h1,_=>by omega
 | j + 1, h1, h2 => by
  have h3:=h.up (j + 1) zo h2
  rw [Nat.add_sub_cancel] at h3
  by_cases e:i = j
  ·rw [e]; exact h3
  ·have := h.mono (i := i) (j := j) zo zo
   grind
def a6t (l:List (Qi × Qi)) (L:Nat):Prop:=∀ e,e ∈ l → aM e.1 L ∧ aM e.2 L
theorem a6t.get {l:List (Qi × Qi)} {L:Nat} (h:a6t l L) (hL:1 ≤ L) (i:Nat):aM (eF l i) L ∧ aM (eV l i) L:=by
 by_cases hi:i < l.length
 ·have e : l.getD i (Qi.zero, Qi.zero) = l[i] := by simp [List.getD, hi]
  show aM (l.getD i _).1 L ∧ aM (l.getD i _).2 L
  rw [e]; exact h _ (List.getElem_mem hi)
 ·have e : l.getD i (Qi.zero, Qi.zero) = (Qi.zero, Qi.zero) := by simp [List.getD, List.getElem?_eq_none (Nat.le_of_not_lt hi)]
  show aM (l.getD i _).1 L ∧ aM (l.getD i _).2 L
  rw [e]; exact ⟨aM.zero hL,aM.zero hL⟩
end
section
open Go Go.RowKit
abbrev gF (M:List (List Qi)) (i:Nat):List Qi:=M.getD i []
def Zu (M : List (List Qi)) (c n : Nat) : Nat → Nat
 | 0=>n
 | k + 1=>if gm M (n - (k + 1)) c = Qi.zero then Zu M c n k else n - (k + 1)
def pv (M:List (List Qi)) (c n:Nat):Nat:=Zu M c n (n - c)
theorem Pi {M : List (List Qi)} {c n : Nat} : ∀ {k : Nat}, k ≤ n → (∀ r, n - k ≤ r → r < Zu M c n k → gm M r c = Qi.zero) ∧ n - k ≤ Zu M c n k ∧ Zu M c n k ≤ n ∧ (Zu M c n k < n → gm M (Zu M c n k) c ≠ Qi.zero)
 | 0,_=>⟨fun r h1 h2=>by simp [Zu] at h2; omega,by simp [Zu],by simp [Zu],fun h=>by simp [Zu] at h⟩
 | k + 1, hk => by
  obtain ⟨i1,i2,i3,i4⟩:=Pi (M:=M) (c:=c) (n:=n) (k:=k) zo
  unfold Zu
  by_cases e:gm M (n - (k + 1)) c = Qi.zero
  ·rw [if_pos e]
   refine ⟨fun r h1 h2=>?_,by omega,i3,i4⟩
   by_cases e2:r = n - (k + 1)
   ·rw [e2]; exact e
   ·exact i1 r zo h2
  ·rw [if_neg e]
   exact ⟨fun r h1 h2=>by omega,Nat.le_refl _,by omega,fun _=>e⟩
theorem tX {M:List (List Qi)} {c n:Nat} (hc:c ≤ n):(∀ r,c ≤ r → r < pv M c n → gm M r c = Qi.zero) ∧ c ≤ pv M c n ∧ pv M c n ≤ n ∧ (pv M c n < n → gm M (pv M c n) c ≠ Qi.zero):=by
 have h:=Pi (M:=M) (c:=c) (n:=n) (k:=n - c) zo
 rw [show n - (n - c) = c by omega] at h
 exact h
theorem a7a {M:List (List Qi)} {c n p:Nat} (hc:c ≤ p) (hp:p ≤ n) (h1:∀ r,c ≤ r → r < p → gm M r c = Qi.zero) (h2:p < n → gm M p c ≠ Qi.zero):pv M c n = p:=by
 obtain ⟨i1,i2,i3,i4⟩:=tX (M:=M) (n:=n) (show c ≤ n by omega)
 rcases Nat.lt_trichotomy (pv M c n) p with h | h | h
 ·exact absurd (h1 _ i2 h) (i4 zo)
 ·exact h
 ·exact absurd (i1 p hc h) (h2 zo)
def mF (rr rc:List Qi) (c k:Nat):List Qi:=tab rr.length fun j=>if c < j ∧ j < k then gv rr j - gv rr c / gv rc c * gv rc j else gv rr j
def nR (M:List (List Qi)) (c r:Nat):List (List Qi):=tab M.length fun i=>if c < i ∧ i < r then mF (gF M i) (gF M c) c (gF M i).length else gF M i
def dE (M : List (List Qi)) : Nat → List (List Qi) × Nat × Int
 | 0=>(M,0,-1)
 | c + 1 =>
  let s:=dE M c
  if 0 ≤ s.2.2 then s else
  if pv s.1 c M.length = M.length then (s.1,s.2.1,(c:Int)) else
  (nR (if pv s.1 c M.length = c then s.1 else swp [] s.1 (pv s.1 c M.length) c) c M.length,s.2.1 + (if pv s.1 c M.length = c then 0 else 1),-1)
theorem Ix {M : List (List Qi)} {c : Nat} (h : 0 ≤ (dE M c).2.2) : ∀ {d : Nat}, c ≤ d → dE M d = dE M c
 | 0,hd=>by rw [show c = 0 by omega]
 | d + 1, hd => by
  by_cases e:c = d + 1
  ·rw [e]
  ·have := Ix h (d := d) zo
   simp only [dE,this]
   rw [if_pos h]
theorem vE (M:List (List Qi)) (c r:Nat):(nR M c r).length = M.length:=aC _ _
theorem Pn {M:List (List Qi)} {n m c r:Nat} (h:cP M n m):cP (nR M c r) n m:=by
 refine ⟨(vE _ _ _).trans h.1,fun x hx=>?_⟩
 obtain ⟨i,hi,rfl⟩:=iV.1 hx
 have hr:=h.row (i:=i) (by rw [← h.1]; exact hi)
 show (if c < i ∧ i < r then mF (gF M i) (gF M c) c (gF M i).length else gF M i).length = m
 split
 ·rw [mF,aC]; exact hr
 ·exact hr
theorem Dt {M:List (List Qi)} {n m p c:Nat} (h:cP M n m) (hp:p < n) (hc:c < n):cP (swp [] M p c) n m:=by
 refine ⟨(Mr _ _ _ _).trans h.1,fun x hx=>?_⟩
 unfold swp at hx
 rcases List.mem_or_eq_of_mem_set hx with h1 | h1
 ·rcases List.mem_or_eq_of_mem_set h1 with h2 | h2
  ·exact h.2 x h2
  ·rw [h2]; exact h.row hc
 ·rw [h1]; exact h.row hp
theorem sO {M : List (List Qi)} {n m : Nat} (h : cP M n m) : ∀ {c : Nat}, c ≤ n → cP (dE M c).1 n m
 | 0,_=>h
 | c + 1, hc => by
  have ih:=sO h (c:=c) zo
  obtain ⟨_,_,i3,_⟩:=tX (M:=(dE M c).1) (c:=c) (n:=M.length) (by rw [h.1]; omega)
  simp only [dE]
  split
  ·exact ih
  ·split
   ·exact ih
   ·rename_i e
    apply Pn
    split
    ·exact ih
    ·exact Dt ih (by rw [← h.1]; omega) zo
def eD (L : Nat) : Nat → Nat
 | 0=>L
 | c + 1=>6 * eD L c + 4
theorem mV (L : Nat) : ∀ {c d : Nat}, c ≤ d → eD L c ≤ eD L d
 | c,0,h=>by rw [show c = 0 by omega]; exact Nat.le_refl _
 | c, d + 1, h => by
  by_cases e:c = d + 1
  ·rw [e]; exact Nat.le_refl _
  ·have := mV L (c := c) (d := d) zo
   simp only [eD]; omega
theorem wI (L c:Nat):L ≤ eD L c:=mV L (Nat.zero_le c)
theorem a3d {rr rc:List Qi} {L c j:Nat} (h1:cH rr L) (h2:cH rc L) (hL:1 ≤ L) (hp:gv rc c ≠ Qi.zero):aM (gv rr j - gv rr c / gv rc c * gv rc j) (6 * L + 4):=by
 haveI f1:=h1.get hL j; haveI f2:=h1.get hL c; haveI f3:=h2.get hL c; haveI f4:=h2.get hL j
 haveI g:aM (gv rr c / gv rc c) (L + 3 * L + 2):=⟨f2.fit.div f3.fit hp⟩
 have:aM (gv rr j - gv rr c / gv rc c * gv rc j) (L + (L + 3 * L + 2 + L + 1) + 1):=inferInstance
 exact this.le zo
theorem a24 {rr rc : List Qi} {L c k : Nat} (h1 : cH rr L) (h2 : cH rc L) (hL : 1 ≤ L) (hp : gv rc c ≠ Qi.zero) : cH (mF rr rc c k) (6 * L + 4) := cH.tab fun j _ => by
 split
 ·exact a3d h1 h2 hL hp
 ·exact (h1.get hL j).le zo
theorem Pm {M : List (List Qi)} {L c r : Nat} (h : bB M L) (hL : 1 ≤ L) (hp : gm M c c ≠ Qi.zero) : bB (nR M c r) (6 * L + 4) := fun x hx => by
 obtain ⟨i,hi,rfl⟩:=iV.1 hx
 show cH (if c < i ∧ i < r then mF (gF M i) (gF M c) c (gF M i).length else gF M i) _
 split
 ·exact a24 (h.row i) (h.row c) hL hp
 ·exact (h.row i).le zo
theorem Xi {M : List (List Qi)} {L p c : Nat} (h : bB M L) : bB (swp [] M p c) L := fun x hx => by
 unfold swp at hx
 rcases List.mem_or_eq_of_mem_set hx with h1 | h1
 ·rcases List.mem_or_eq_of_mem_set h1 with h2 | h2
  ·exact h x h2
  ·rw [h2]; exact h.row c
 ·rw [h1]; exact h.row p
theorem Mq {M:List (List Qi)} {p c:Nat} (hc:c < M.length):gF (swp [] M p c) c = gF M p:=by
 simp [gF,swp,List.getD,hc]
theorem Ex {M : List (List Qi)} {n m L : Nat} (hs : cP M n m) (h : bB M L) (hL : 1 ≤ L) : ∀ {c : Nat}, c ≤ n → bB (dE M c).1 (eD L c)
 | 0,_=>h
 | c + 1, hc => by
  have ih:=Ex hs h hL (c:=c) zo
  have hg:1 ≤ eD L c:=Nat.le_trans hL (wI L c)
  have sh:=sO hs (c:=c) zo
  obtain ⟨_,i2,i3,i4⟩:=tX (M:=(dE M c).1) (c:=c) (n:=M.length) (by rw [hs.1]; omega)
  simp only [dE,eD]
  split
  ·exact ih.le zo
  ·split
   ·exact ih.le zo
   ·rename_i e
    split
    ·rename_i e2
     refine Pm ih hg ?_
     have:=i4 zo
     rw [e2] at this; exact this
    ·refine Pm (Xi ih) hg ?_
     show gv (gF (swp [] _ _ c) c) c ≠ _
     rw [Mq (by rw [sh.1]; omega)]
     exact i4 zo
theorem Sr {rr rc:List Qi} {c:Nat}:rr = mF rr rc c (c + 1):=by
 unfold mF
 have:(tab rr.length fun j=>if c < j ∧ j < c + 1 then gv rr j - gv rr c / gv rc c * gv rc j else gv rr j) = tab rr.length (gv rr):=eH fun j _=>by rw [if_neg zo]
 rw [this]; exact Fm rfl
theorem zH (rr rc:List Qi) (c k:Nat):(mF rr rc c k).length = rr.length:=aC _ _
theorem Po {rr rc:List Qi} {c k:Nat} (hk:k < rr.length) (h:c < k):gv (mF rr rc c k) k = gv rr k:=by
 rw [mF,kU hk,if_neg zo]
theorem Zc {rr rc:List Qi} {c k:Nat} (hk:k < rr.length) (h:c < k):(mF rr rc c k).set k (gv (mF rr rc c k) k - gv rr c / gv rc c * gv rc k) = mF rr rc c (k + 1):=by
 rw [Po hk h]
 apply List.ext_getElem?
 intro j
 by_cases hj:j < rr.length
 ·by_cases e : j = k
  ·subst e
   rw [List.getElem?_set_self (by rw [zH]; exact hj),mF,dH hj,if_pos zo]
  ·rw [List.getElem?_set_ne (Ne.symm e), mF, mF, dH hj, dH hj]
   by_cases e2:c < j ∧ j < k
   ·rw [if_pos e2,if_pos zo]
   ·rw [if_neg e2,if_neg zo]
 ·rw [List.getElem?_eq_none (by rw [List.length_set,zH]; omega),List.getElem?_eq_none (by rw [zH]; omega)]
theorem Sq {M:List (List Qi)} {c:Nat}:M = nR M c (c + 1):=by
 unfold nR
 have:(tab M.length fun i=>if c < i ∧ i < c + 1 then mF (gF M i) (gF M c) c (gF M i).length else gF M i) = tab M.length (gF M):=eH fun i _=>by rw [if_neg zo]
 rw [this]; exact Ta (h:=rfl)
theorem zG {M:List (List Qi)} {c r i:Nat} (hi:i < M.length) (h:¬ (c < i ∧ i < r)):gF (nR M c r) i = gF M i:=by
 simp only [gF,nR,List.getD]
 rw [dH hi,if_neg h]; rfl
theorem Zb {M:List (List Qi)} {c r:Nat} (hr:r < M.length) (h:c < r):(nR M c r).set r (mF (gF M r) (gF M c) c (gF M r).length) = nR M c (r + 1):=by
 apply List.ext_getElem?
 intro j
 by_cases hj:j < M.length
 ·by_cases e : j = r
  ·subst e
   rw [List.getElem?_set_self (by rw [vE]; exact hj),nR,dH hj,if_pos zo]
  ·rw [List.getElem?_set_ne (Ne.symm e), nR, nR, dH hj, dH hj]
   by_cases e2:c < j ∧ j < r
   ·rw [if_pos e2,if_pos zo]
   ·rw [if_neg e2,if_neg zo]
 ·rw [List.getElem?_eq_none (by rw [List.length_set,vE]; omega),List.getElem?_eq_none (by rw [vE]; omega)]
theorem a2c {M:List (List Qi)} {r:Nat} {x y:List Qi}:(M.set r x).set r y = M.set r y:=List.set_set ..
theorem Mo {M:List (List Qi)} {r:Nat} {x:List Qi} (h:r < M.length):gF (M.set r x) r = x:=by simp [gF,List.getD,h]
theorem Bg {M:List (List Qi)} {r i:Nat} {x:List Qi} (h:r ≠ i):gF (M.set r x) i = gF M i:=by simp [gF,List.getD,List.getElem?_set_ne h]
theorem a6j {M:List (List Qi)} {r:Nat} (h:r < M.length):M.set r (gF M r) = M:=by
 apply List.ext_getElem?
 intro j
 by_cases e:j = r
 ·subst e; rw [List.getElem?_set_self h]; simp [gF,List.getD,h]
 ·rw [List.getElem?_set_ne (Ne.symm e)]
theorem a2k {X : List (List Qi)} {r c k : Nat} (hr : r < X.length) (hne : r ≠ c) (hk : k < (gF X r).length) (hck : c < k) :
  (X.set r (mF (gF X r) (gF X c) c k)).set r ((gF (X.set r (mF (gF X r) (gF X c) c k)) r).set k (gm (X.set r (mF (gF X r) (gF X c) c k)) r k - gm X r c / gm X c c * gm (X.set r (mF (gF X r) (gF X c) c k)) c k)) = X.set r (mF (gF X r) (gF X c) c (k + 1)):=by
 rw [a2c,Mo hr]
 have e1:gm (X.set r (mF (gF X r) (gF X c) c k)) r k = gv (mF (gF X r) (gF X c) c k) k:=by show gv (gF (X.set r _) r) k = _; rw [Mo hr]
 have e2:gm (X.set r (mF (gF X r) (gF X c) c k)) c k = gv (gF X c) k:=by show gv (gF (X.set r _) c) k = _; rw [Bg hne]
 rw [e1,e2]
 exact congrArg _ (Zc hk hck)
theorem a2l {D:List (List Qi)} {r c:Nat} (hr:r < D.length) (hc:c < r):(nR D c r).set r (mF (gF (nR D c r) r) (gF (nR D c r) c) c (gF D r).length) = nR D c (r + 1):=by
 rw [zG hr zo,zG zo zo]
 exact Zb hr hc
theorem a6Y {X:List (List Qi)} {r c k:Nat} (hr:r < X.length) (hk:k < (gF X r).length) (hck:c < k):gm (X.set r (mF (gF X r) (gF X c) c k)) r k = gv (gF X r) k:=by
 show gv (gF (X.set r _) r) k = _; rw [Mo hr,Po hk hck]
theorem a6X {X:List (List Qi)} {r c k:Nat} {y:List Qi} (hne:r ≠ c):gm (X.set r y) c k = gv (gF X c) k:=by show gv (gF (X.set r _) c) k = _; rw [Bg hne]
theorem Yg {M A:List (List Qi)} {n c sw p:Nat} (hl:M.length = n) (h:dE M c = (A,sw,-1)) (hp:pv A c n = p) (hpn:p < n):dE M (c + 1) = (nR (if p = c then A else swp [] A p c) c n,sw + (if p = c then 0 else 1),-1):=by
 simp only [dE,h,hl,hp]
 rw [if_neg (by decide),if_neg zo]
theorem a14 {M A:List (List Qi)} {n c sw:Nat} (hl:M.length = n) (h:dE M c = (A,sw,-1)) (hp:pv A c n = n) (hc:c < n):dE M n = (A,sw,(c:Int)):=by
 have e : dE M (c + 1) = (A, sw, (c : Int)) := by
  simp only [dE,h,hl,hp]
  rw [if_neg (by decide)]; simp
 rw [Ix (c:=c + 1) (by rw [e]; show (0:Int) ≤ (c:Int); omega) hc,e]
end
section
open Go Go.RowKit
theorem Ib (v : Value) (w : World) : (method (Tryz.prog.types.size + Made.depth) 51 v "Clear").run Tryz.prog w = .ok (27, v) w := by kernel_rfl
end
section
open Go Go.RowKit
theorem a2Q {M:List (List Qi)} {n m L B:Nat} (hs:cP M n m) (hf:bB M L) (hL:1 ≤ L) (hg:6 * eD L n + 4 ≤ 17592186044415) (hnm:n ≤ m) (hm:m ≤ 1000):iI Tryz.prog 194 [Is (.slice (some ⟨B,0,none⟩) n n)] [pE B 29 51 5 (bS aF M)] (Unit) (fun _=>fS [NT .i64 (dE M n).2.1,aL .i64 (dE M n).2.2]) (fun _=>[pE B 29 51 5 (bS aF (dE M n).1)]) (fun _=>True):=by
 have hs1:=hs.1
 refine iI.intro Tryz.func194 rfl Tryz.ntmps194 rfl (fun cx Z=>(ts (ro rfl (cX (cV 0)) (ro rfl (cX (cV 0)) (eZ (ts (ro rfl (cX (cV 0)) (eZ (cU (ts (rm rfl (ro rfl (gL U_30 (Ht rfl)) (ro rfl (cZ (cV 0)) (eZ (eK (To 1 rfl (fun vs hvs=>?_)))))))))))))))))
 have hvs2:Hds vs n:=by have h:=hvs; rw [List.length_map,hs1] at h; exact h
 refine yC (fun (c : Nat) (sw : Nat) (vs : List Value) (A : List (List Qi)) => (c ≤ n ∧ sw ≤ c) ∧ dE M c = (A, sw, -1) ∧ Hds vs n) (fun (c : Nat) (sw : Nat) (vs : List Value) (A : List (List Qi)) => n - c) (fun (c : Nat) (sw : Nat) (vs : List Value) (A : List (List Qi)) => [(0, Is (.slice (some ⟨B, 0, none⟩) n n)), (4, NT .i64 sw), (12, NT .i64 n), (13, NT .i64 c)]) (fun (c : Nat) (sw : Nat) (vs : List Value) (A : List (List Qi)) => [Z, kV B 29 51 5 vs vs (bS aF A)]) 0 0 vs M ⟨⟨Nat.zero_le _, Nat.le_refl _⟩, rfl, hvs2⟩
  (zS rfl) (dD.refl _) (fun c sw vs A ⟨⟨hc,hsw⟩,hA,hvs⟩=>?_)
 refine ts (ro rfl (gZ (Ht rfl) (Ht rfl)) (eZ (cU (dX (Ht rfl) (fun hcn=>?_) (fun hcn=>?_)))))
 ·simp only [decide_eq_true_eq] at hcn
  have hvl:=hvs.len
  have hAs:cP A n m:=by have h:=sO hs hc; rw [hA] at h; exact h
  have hAf:bB A (eD L c):=by have h:=Ex hs hf hL hc; rw [hA] at h; exact h
  have hAl:=hAs.1
  have hgr:eD L c ≤ eD L n:=mV L hc
  have hG1:1 ≤ eD L c:=Nat.le_trans hL (wI L c)
  refine cY (cU (eK (ts (rm rfl (ra rfl (eZ (ts (rm rfl (ra rfl (eZ (cU (eK ?_))))))))))))
  refine bP (fun (p : Nat) => (c ≤ p ∧ p ≤ n) ∧ ∀ r, c ≤ r → r < p → gm A r c = Qi.zero) (fun (p : Nat) => n - p) (fun (p : Nat) => [(0, Is (.slice (some ⟨B, 0, none⟩) n n)), (4, NT .i64 sw), (5, NT .i64 c), (6, NT .i64 p), (12, NT .i64 n), (13, NT .i64 c)]) (fun (p : Nat) => [Z, kV B 29 51 5 vs vs (bS aF A)]) c ⟨⟨Nat.le_refl _, hc⟩, fun r h1 h2 => by omega⟩
   (zS rfl) (dD.refl _) (fun p ⟨⟨hcp,hpn⟩,hz⟩=>?_)
  haveI fp:aM (gm A p c) (eD L c):=hAf.get hG1 p c
  refine cU (ts (rm rfl (rm rfl (ro rfl (gL U_30 (Ht rfl)) (ro rfl (gZ (Ht rfl) (Ht rfl)) (rm rfl (fX rfl rfl (eU rfl rfl (Ht rfl) (fun h=>cZ (Ht rfl))) (fX rfl rfl (eU rfl rfl (Ht rfl) (fun h=>cZ (Ht rfl))) (fX rfl rfl (eU rfl rfl (Ht rfl) (fun h=>gQ U_30 Z_29 (fV rfl h) (fV rfl h) rfl (by first | omega | (simp at h; omega)) (by rw [Nat.mul_one,Nat.zero_add]))) ?_)))))))))
  refine fX rfl rfl (eU rfl rfl (Ht rfl) (fun h=>mK A_29 Z_29 (fV rfl h) (j:=1) rfl (by simp at h; omega))) ?_
  refine fX rfl rfl (eU rfl rfl (Ht rfl) (fun h=>cZ (Ht rfl))) (fX rfl rfl (eU rfl rfl (Ht rfl) (fun h=>pP U_29 Z_51 (fV rfl h) (fV rfl h) rfl (j:=1) rfl zo (by simp at h; omega) (by simp at h; rw [hAs.row h]; omega))) ?_)
  refine fX rfl rfl (eU rfl rfl (Ht rfl) (fun h=>vB A_51 Z_51 (fV rfl h) (j:=1) rfl zo (by simp at h; omega) (by simp at h; rw [hAs.row h]; omega))) ?_
  refine fX rfl rfl (eU rfl rfl (Ht rfl) (fun h=>cO eA (fV rfl h))) (fX rfl rfl (eU rfl rfl (Ht rfl) (fun h=>cF Ib Tryz.call27 (Ua (x:=gm A p c) (L:=eD L c) zo) (fV rfl h) trivial)) (fX rfl rfl (eU rfl rfl (Ht rfl) (fun h=>fB (fV rfl h))) (ro rfl (dM (Ht rfl) (fun h=>(fV rfl h))) (eZ (dX (Ht rfl) (fun he=>?_) (fun he=>?_))))))
  ·have he2 : p < n ∧ gm A p c = Qi.zero := by simpa using he
   refine cY (eK (dQ (rm rfl (ro rfl (dW (Ht rfl) (cV 1) z6) (ra rfl (eZ (aT ?_)))))))
   refine fY (p + 1) ⟨⟨by omega, by omega⟩, fun r h1 h2 => by
     by_cases e:r = p
     ·rw [e]; exact he2.2
     ·exact hz r h1 zo⟩ zo (zS rfl) (dD.refl _)
  ·have hpv : pv A c n = p := a7a hcp hpn hz (fun h => by simp at he; exact he h)
   refine gW rfl (cU (ts (rm rfl (rm rfl (ro rfl (gL U_30 (Ht rfl)) (ro rfl (dP (Ht rfl) (Ht rfl)) (eZ (dX (Ht rfl) (fun hp=>?_) (fun hp=>?_)))))))))
   ·have hp2 : p = n := by simpa using hp
    have hend:=a14 hs1 hA (by rw [hpv]; exact hp2) hcn
    refine ts (rm rfl (rm rfl (ra rfl (ra rfl (eZ ?_)))))
    exact jP () trivial [0,1] ⟨⟨_,rfl,fun _ _ _ h=>h⟩,⟨_,rfl,(fun S w V h=>bD (by rw [hend]) S w V (Fo (by rw [List.length_map]; omega) S w V h))⟩,trivial⟩ (by decide) (a4d rfl (fZ (eY rfl) (lK (by rw [hend]))) (fZ (eY rfl) (aO (by rw [hend]))))
   ·have hp2 : p < n := by simp at hp; omega
    have hpz:=(tX (M:=A) (c:=c) (n:=n) hc).2.2.2 (by rw [hpv]; exact hp2)
    rw [hpv] at hpz
    have hnx:=Yg hs1 hA hpv hp2
    refine cY (cU (a2C (fun (q:Nat) (us:List Value) (D:List (List Qi))=>(q = sw + (if p = c then 0 else 1) ∧ D = (if p = c then A else swp [] A p c)) ∧ Hds us n) (fun (q:Nat) (us:List Value) (D:List (List Qi))=>[(0,Is (.slice (some ⟨B,0,none⟩) n n)),(4,NT .i64 q),(5,NT .i64 c),(12,NT .i64 n),(13,NT .i64 c)]) (fun (q:Nat) (us:List Value) (D:List (List Qi))=>[Z,kV B 29 51 5 us us (bS aF D)]) ?_ (fun q us D ⟨⟨hq,hD⟩,hus⟩=>?_)))
    ·refine ts (rm rfl (rm rfl (ro rfl (fT (Ht rfl) (Ht rfl)) (eZ (dX (Ht rfl) (fun hpc => ?_) (fun hpc => ?_))))))
     ·have hpc2 : ¬ p = c := by simpa using hpc
      refine cU (Y.D_start (m:=14) [(13,1,kV B 29 51 5 (vs.set p (hd vs c)) vs (bS aF A))] (Y.D_step (Ei:=[(0,_)]) rfl rfl (bQ (bJ rfl rfl) bX) rfl rfl (by kernel_rfl) (dZ rfl (cZ (Ht rfl))) (Y.D_step (Ei:=[(6,_)]) rfl rfl (bQ (bJ rfl rfl) bX) rfl rfl (by kernel_rfl) (dZ rfl (cZ (Ht rfl))) (cQ (Ei:=[(0,_)]) rfl rfl (bQ (bJ rfl rfl) bX) rfl rfl (dZ rfl (cZ (Ht rfl))) (cQ (Ei:=[(5,_)]) rfl rfl (bQ (bJ rfl rfl) bX) rfl rfl (dZ rfl (cZ (Ht rfl))) ?_)))))
      refine Y.D_step (Ei:=[(0,_)]) rfl rfl (bQ (bJ rfl rfl) bX) rfl rfl (by kernel_rfl) (dZ rfl (cZ (Ht rfl))) (Y.D_step (Ei:=[(5,_)]) rfl rfl (bQ (bJ rfl rfl) bX) rfl rfl (by kernel_rfl) (dZ rfl (cZ (Ht rfl))) (Y.D_step (Ei:=[(48,_),(49,_)]) rfl rfl (bQ (bZ 4 rfl rfl) (bQ (bZ 5 rfl rfl) bX)) rfl rfl (by kernel_rfl) (dZ rfl (gQ U_30 Z_29 (Ht rfl) (Ht rfl) rfl zo (by rw [Nat.mul_one,Nat.zero_add]))) ?_))
      refine Y.D_step (Ei:=[(50,_)]) rfl rfl (bQ (bZ 6 rfl rfl) bX) rfl rfl (by kernel_rfl) (dZ rfl (mK A_29 Z_29 (Ht rfl) (j:=1) rfl zo)) (Y.D_step (Ei:=[(0,_)]) rfl rfl (bQ (bJ rfl rfl) bX) rfl rfl (by kernel_rfl) (dZ rfl (cZ (Ht rfl))) (Y.D_step (Ei:=[(6,_)]) rfl rfl (bQ (bJ rfl rfl) bX) rfl rfl (by kernel_rfl) (dZ rfl (cZ (Ht rfl))) (Y.D_step (Ei:=[(52,_),(53,_)]) rfl rfl (bQ (bZ 8 rfl rfl) (bQ (bZ 9 rfl rfl) bX)) rfl rfl (by kernel_rfl) (dZ rfl (gQ U_30 Z_29 (Ht rfl) (Ht rfl) rfl zo (by rw [Nat.mul_one,Nat.zero_add]))) ?_)))
      refine Y.D_step (Ei:=[(54,_)]) rfl rfl (bQ (bZ 10 rfl rfl) bX) rfl rfl (by kernel_rfl) (dZ rfl (mK A_29 Z_29 (Ht rfl) (j:=1) rfl zo)) (Y.D_step (Ei:=[(44,_),(45,_)]) rfl rfl (bQ (bZ 0 rfl rfl) (bQ (bZ 1 rfl rfl) bX)) rfl rfl (by kernel_rfl) (dZ rfl (gQ U_30 Z_29 (Ht rfl) (Ht rfl) rfl zo (by rw [Nat.mul_one,Nat.zero_add]))) ?_)
      refine Y.D_putI (Ei:=[(56,_),(51,_)]) 1 rfl rfl rfl (bQ (bZ 12 rfl rfl) (bQ (bZ 7 rfl rfl) bX)) (.head _) rfl (Zz Z_29 (Ht rfl) (Ht rfl) (hvs.pl c zo) (i:=p) (hs:=vs) zo) (Y.D_done bA rfl (by kernel_rfl) rfl (by simp [Y.okP]) rfl rfl (bU (bU (bU (bU (bU (bU (bU (bU (bU (bU (bU (bU (bU (Y.F_putI (Y.F_nil ?_))))))))))))))))
      refine ro rfl (gQ U_30 Z_29 (Ht rfl) (Ht rfl) rfl zo (by rw [Nat.mul_one,Nat.zero_add])) ?_
      refine a54 Z_29 (Ht rfl) (Ht rfl) (j:=1) rfl (hvs.pl p zo) (by rw [List.length_set]; omega) rfl ?_
      refine eZ (mQ 1 rfl (Yo (hs:=swp Lr vs p c) (p:=p) (c:=c) zo zo zo) (dQ (rm rfl (ro rfl (dW (Ht rfl) (cV 1) z6) (ra rfl (eZ (bT (sw + 1,swp Lr vs p c,swp [] A p c) ⟨⟨by rw [if_neg hpc2],by rw [if_neg hpc2]⟩,hvs.swp hp2 hcn⟩ (zS rfl) (dD.refl _))))))))
     ·have hpc2 : p = c := by simpa using hpc
      refine cY (bT (sw,vs,A) ⟨⟨by rw [if_pos hpc2]; rfl,by rw [if_pos hpc2]⟩,hvs⟩ (zS rfl) (dD.refl _))
    ·have hul := hus.len
     rw [← hq,← hD] at hnx
     have hDs:cP D n m:=by rw [hD]; split; exact hAs; exact Dt hAs hp2 hcn
     have hDf:bB D (eD L c):=by rw [hD]; split; exact hAf; exact Xi hAf
     have hDl:=hDs.1
     have hDz : gm D c c ≠ Qi.zero := by
      rw [hD]; split
      ·rename_i e; rw [e] at hpz; exact hpz
      ·show gv (gF (swp [] A p c) c) c ≠ _
       rw [Mq zo]; exact hpz
     refine ts (rm rfl (ro rfl (dW (Ht rfl) (cV 1) z6) (ra rfl (eZ (eK ?_)))))
     refine bP (fun (r : Nat) => c < r ∧ r ≤ n) (fun (r : Nat) => n - r) (fun (r : Nat) => [(0, Is (.slice (some ⟨B, 0, none⟩) n n)), (4, NT .i64 q), (5, NT .i64 c), (7, NT .i64 r), (12, NT .i64 n), (13, NT .i64 c)]) (fun (r : Nat) => [Z, kV B 29 51 5 us us (bS aF (nR D c r))]) (c + 1) ⟨Nat.lt_succ_self _, hcn⟩
      (zS rfl) (aU (fun _ _ _ h=>h) (aU (Di (congrArg _ Sq)) aY)) (fun r ⟨hcr,hrn⟩=>?_)
     refine cU (ts (rm rfl (rm rfl (ro rfl (gL U_30 (Ht rfl)) (ro rfl (gZ (Ht rfl) (Ht rfl)) (eZ (dX (Ht rfl) (fun hr=>?_) (fun hr=>?_))))))))
     ·simp only [decide_eq_true_eq] at hr
      obtain ⟨X,hX⟩:∃ X,X = nR D c r:=⟨_,rfl⟩
      have hXr:gF X r = gF D r:=by rw [hX]; exact zG zo zo
      have hXc:gF X c = gF D c:=by rw [hX]; exact zG zo zo
      have hXl:X.length = n:=by rw [hX,vE]; exact hDl
      have hXrl:(gF X r).length = m:=by rw [hXr]; exact hDs.row hr
      have hXcl:(gF X c).length = m:=by rw [hXc]; exact hDs.row hcn
      have hXrg:(X.getD r []).length = m:=hXrl
      have hXcg:(X.getD c []).length = m:=hXcl
      have hXfr:cH (gF X r) (eD L c):=by rw [hXr]; exact hDf.row r
      have hXfc:cH (gF X c) (eD L c):=by rw [hXc]; exact hDf.row c
      haveI g1:aM (gm X r c) (eD L c):=hXfr.get hG1 c
      haveI g2:aM (gm X c c) (eD L c):=hXfc.get hG1 c
      have hXz:gm X c c ≠ Qi.zero:=by show gv (gF X c) c ≠ _; rw [hXc]; exact hDz
      haveI g3:aM (gm X r c / gm X c c) (eD L c + 3 * eD L c + 2):=⟨g1.fit.div g2.fit hXz⟩
      have hend:=a2l (D:=D) (r:=r) (c:=c) zo hcr
      rw [← hX] at hend ⊢
      refine cY (cU (eK (cU (Y.D_start (m:=21) [] (cQ (Ei:=[(0,_)]) rfl rfl (bQ (bJ rfl rfl) bX) rfl rfl (dZ rfl (cZ (Ht rfl))) (cQ (Ei:=[(7,_)]) rfl rfl (bQ (bJ rfl rfl) bX) rfl rfl (dZ rfl (cZ (Ht rfl))) (cQ (Ei:=[(69,_),(70,_)]) rfl rfl (bQ (bZ 0 rfl rfl) (bQ (bZ 1 rfl rfl) bX)) rfl rfl (dZ rfl (gQ U_30 Z_29 (Ht rfl) (Ht rfl) rfl zo (by rw [Nat.mul_one,Nat.zero_add]))) ?_)))))))
      refine cQ (Ei:=[(71,_)]) rfl rfl (bQ (bZ 2 rfl rfl) bX) rfl rfl (dZ rfl (mK A_29 Z_29 (Ht rfl) (j:=1) rfl zo)) (cQ (Ei:=[(5,_)]) rfl rfl (bQ (bJ rfl rfl) bX) rfl rfl (dZ rfl (cZ (Ht rfl))) (cQ (Ei:=[(72,_),(73,_)]) rfl rfl (bQ (bZ 3 rfl rfl) (bQ (bZ 4 rfl rfl) bX)) rfl rfl (dZ rfl (pP U_29 Z_51 (Ht rfl) (Ht rfl) rfl (j:=1) rfl zo zo zo)) (cQ (Ei:=[(74,_)]) rfl rfl (bQ (bZ 5 rfl rfl) bX) rfl rfl (dZ rfl (vB A_51 Z_51 (Ht rfl) (j:=1) rfl zo zo zo)) ?_)))
      refine cQ (Ei:=[(75,_)]) rfl rfl (bQ (bZ 6 rfl rfl) bX) rfl rfl (dZ rfl (cO eA (Ht rfl))) (cQ (Ei:=[(0,_)]) rfl rfl (bQ (bJ rfl rfl) bX) rfl rfl (dZ rfl (cZ (Ht rfl))) (cQ (Ei:=[(5,_)]) rfl rfl (bQ (bJ rfl rfl) bX) rfl rfl (dZ rfl (cZ (Ht rfl))) (cQ (Ei:=[(77,_),(78,_)]) rfl rfl (bQ (bZ 8 rfl rfl) (bQ (bZ 9 rfl rfl) bX)) rfl rfl (dZ rfl (gQ U_30 Z_29 (Ht rfl) (Ht rfl) rfl zo (by rw [Nat.mul_one,Nat.zero_add]))) ?_)))
      refine cQ (Ei:=[(79,_)]) rfl rfl (bQ (bZ 10 rfl rfl) bX) rfl rfl (dZ rfl (mK A_29 Z_29 (Ht rfl) (j:=1) rfl zo)) (cQ (Ei:=[(5,_)]) rfl rfl (bQ (bJ rfl rfl) bX) rfl rfl (dZ rfl (cZ (Ht rfl))) (cQ (Ei:=[(80,_),(81,_)]) rfl rfl (bQ (bZ 11 rfl rfl) (bQ (bZ 12 rfl rfl) bX)) rfl rfl (dZ rfl (pP U_29 Z_51 (Ht rfl) (Ht rfl) rfl (j:=1) rfl zo zo zo)) (cQ (Ei:=[(82,_)]) rfl rfl (bQ (bZ 13 rfl rfl) bX) rfl rfl (dZ rfl (vB A_51 Z_51 (Ht rfl) (j:=1) rfl zo zo zo)) ?_)))
      refine cQ (Ei:=[(76,_),(83,_)]) rfl rfl (bQ (bZ 7 rfl rfl) (bQ (bZ 14 rfl rfl) bX)) rfl rfl (dZ rfl (cF uZ Tryz.call40 (a0k (x:=gm X r c) (y:=gm X c c) (L:=eD L c) (M:=eD L c) zo) (Ht rfl) ⟨(Ht rfl),trivial⟩)) (cQ (Ei:=[(84,_)]) rfl rfl (bQ (bZ 15 rfl rfl) bX) rfl rfl (dZ rfl (cZ (Ht rfl))) (cQ (Ei:=[(68,_)]) rfl rfl (bQ (bZ 16 rfl rfl) bX) rfl rfl (dZ rfl (dU (Ht rfl) rfl)) (cQ (Ei:=[(68,_)]) rfl rfl (bQ (bZ 16 rfl rfl) bX) rfl rfl (dZ rfl (dU (Ht rfl) rfl)) ?_)))
      refine Y.D_newp (Ei:=[]) (fun bb=>box bb 51 [aH (decide ((gm X r c / gm X c c).a < 0)),bC (gm X r c / gm X c c).a.natAbs,aH (decide ((gm X r c / gm X c c).b < 0)),bC (gm X r c / gm X c c).b.natAbs,bC (du (gm X r c / gm X c c))]) 20 rfl rfl rfl bX rfl rfl (by kernel_rfl) (eG (Ts:=[Is (.bool false),Is (.slice none 0 0),Is (.bool false),Is (.slice none 0 0),Is (.slice none 0 0)]) O_51 rfl (fun V=>aW zd (aW zd (aW zd (aW zd (aW zd (aG))))))) ?_
      refine Y.D_putN (Ei:=[(85,_)]) 19 rfl rfl rfl rfl rfl rfl (bQ (bZ 17 rfl rfl) bX) (fun bb=>qB Z_51 (Ht rfl) (Ht rfl) rfl (i:=0) rfl (aK rfl) rfl rfl) (Y.D_done bA rfl (by kernel_rfl) rfl (by simp [Y.okP]) rfl rfl (bU (bU (bU (bU (bU (bU (bU (bU (bU (bU (bU (bU (bU (bU (bU (bU (bU (bU (bU (Y.F_newp (fun B8=>Y.F_putN (Y.F_nil ?_)))))))))))))))))))))))
      refine ra rfl (eZ (ts (rm rfl (ro rfl (dW (Ht rfl) (cV 1) z6) (ra rfl (eZ (eK ?_)))))))
      refine bP (fun (k : Nat) => c < k ∧ k ≤ m) (fun (k : Nat) => m - k) (fun (k : Nat) => [(0, Is (.slice (some ⟨B, 0, none⟩) n n)), (4, NT .i64 q), (5, NT .i64 c), (7, NT .i64 r), (8, bF B8 0), (10, NT .i64 k), (12, NT .i64 n), (13, NT .i64 c)]) (fun (k : Nat) => [Z, kV B 29 51 5 us us (bS aF (X.set r (mF (gF X r) (gF X c) c k))), box B8 51 [aH (decide ((gm X r c / gm X c c).a < 0)), bC (gm X r c / gm X c c).a.natAbs, aH (decide ((gm X r c / gm X c c).b < 0)), bC (gm X r c / gm X c c).b.natAbs, bC (du (gm X r c / gm X c c))]]) (c + 1) ⟨Nat.lt_succ_self _, by omega⟩
       (zS rfl) (aU (fun _ _ _ h=>h) (aU (Di (by rw [← Sr,a6j zo])) (aU (aB rfl) aY))) (fun k ⟨hck,hkm⟩=>?_)
      obtain ⟨Y,hY⟩:∃ Y,Y = (X.set r (mF (gF X r) (gF X c) c k)):=⟨_,rfl⟩
      have hYl:Y.length = n:=by rw [hY,List.length_set]; exact hXl
      have hYrl:(gF Y r).length = m:=by rw [hY,Mo zo,zH]; exact hXrl
      have hYcl:(gF Y c).length = m:=by rw [hY,Bg zo]; exact hXcl
      have hYrg:(Y.getD r []).length = m:=hYrl
      have hYcg:(Y.getD c []).length = m:=hYcl
      rw [← hY]
      refine cU (ts (rm rfl (rm rfl (rm rfl (ro rfl (gQ U_30 Z_29 (Ht rfl) (Ht rfl) rfl zo (by rw [Nat.mul_one,Nat.zero_add])) ?_)))))
      refine ro rfl (mK A_29 Z_29 (Ht rfl) (j:=1) rfl zo) (ro rfl (a3T U_29 (Ht rfl) (j:=1) rfl zo zo) (ro rfl (gZ (Ht rfl) (Ht rfl)) (eZ (dX (Ht rfl) (fun hk=>?_) (fun hk=>?_)))))
      ·have hk2 : k < m := by simp only [decide_eq_true_eq] at hk; omega
       have e1:gm Y r k = gv (gF X r) k:=by rw [hY]; exact a6Y zo zo hck
       have e2:gm Y c k = gv (gF X c) k:=by rw [hY]; exact a6X zo
       haveI y1:aM (gm Y r k) (eD L c):=by rw [e1]; exact hXfr.get hG1 k
       haveI y2:aM (gm Y c k) (eD L c):=by rw [e2]; exact hXfc.get hG1 k
       have hst:=a2k (X:=X) (r:=r) (c:=c) (k:=k) zo zo zo hck
       rw [← hY] at hst
       refine cY (cU (eK (fJ (m:=24) (dp 0 rfl (cZ (Ht rfl)) (dp 7 rfl (cZ (Ht rfl)) (dT 98 0 99 1 rfl (gQ U_30 Z_29 (Ht rfl) (Ht rfl) rfl zo (by rw [Nat.mul_one,Nat.zero_add])) ?_))))))
       refine dq 100 2 rfl (mK A_29 Z_29 (Ht rfl) (j:=1) rfl zo) (dp 10 rfl (cZ (Ht rfl)) (dp 0 rfl (cZ (Ht rfl)) (dp 7 rfl (cZ (Ht rfl)) (dT 103 5 104 6 rfl (gQ U_30 Z_29 (Ht rfl) (Ht rfl) rfl zo (by rw [Nat.mul_one,Nat.zero_add])) ?_))))
       refine dq 105 7 rfl (mK A_29 Z_29 (Ht rfl) (j:=1) rfl zo) (dp 10 rfl (cZ (Ht rfl)) (dT 106 8 107 9 rfl (pP U_29 Z_51 (Ht rfl) (Ht rfl) rfl (j:=1) rfl zo zo zo) (dq 108 10 rfl (vB A_51 Z_51 (Ht rfl) (j:=1) rfl zo zo zo) (dq 109 11 rfl (cO eA (Ht rfl)) (dp 8 rfl (eW A_51 Z_51 (Ht rfl) (i:=2) rfl rfl rfl) (dq 111 13 rfl (cO eA (Ht rfl)) (dp 0 rfl (cZ (Ht rfl)) (dp 5 rfl (cZ (Ht rfl)) (dT 113 15 114 16 rfl (gQ U_30 Z_29 (Ht rfl) (Ht rfl) rfl zo (by rw [Nat.mul_one,Nat.zero_add])) ?_)))))))))
       refine dq 115 17 rfl (mK A_29 Z_29 (Ht rfl) (j:=1) rfl zo) (dp 10 rfl (cZ (Ht rfl)) (dT 116 18 117 19 rfl (pP U_29 Z_51 (Ht rfl) (Ht rfl) rfl (j:=1) rfl zo zo zo) (dq 118 20 rfl (vB A_51 Z_51 (Ht rfl) (j:=1) rfl zo zo zo) (dT 112 14 119 21 rfl (cF gT K_45 (rG (x:=gm X r c / gm X c c) (y:=gm Y c k) (L:=eD L c + 3 * eD L c + 2) (M:=eD L c) zo) (Ht rfl) ⟨(Ht rfl),trivial⟩) (dT 110 12 120 22 rfl (cF lH K_44 (Eh (x:=gm Y r k) (y:=gm X r c / gm X c c * gm Y c k) (L:=eD L c) (M:=eD L c + 3 * eD L c + 2 + eD L c + 1) zo) (Ht rfl) ⟨(Ht rfl),trivial⟩) ?_)))))
       refine fW bA rfl (by kernel_rfl) (zF (zF (zF (zF (zF (zF (aV (ro rfl (pP U_29 Z_51 (Ht rfl) (Ht rfl) rfl (j:=1) rfl zo zo zo) (a6z Z_51 (Ht rfl) (Ht rfl) (j:=1) rfl (El.ag rfl) (F:=aF) (z:=gm Y r k - gm X r c / gm X c c * gm Y c k) zo zo zo rfl (eZ (aT (dQ ?_))))))))))))
       refine rm rfl (ro rfl (dW (Ht rfl) (cV 1) z6) (ra rfl (eZ (fY (k + 1) ⟨by omega,hk2⟩ zo (zS rfl) (aU (fun _ _ _ h=>h) (aU (Di (congrArg _ hst)) (aU (aB rfl) aY)))))))
      ·have hk3 : k = m := by simp only [decide_eq_false_iff_not] at hk; omega
       subst hk3
       refine gW rfl (aT (dQ (rm rfl (ro rfl (dW (Ht rfl) (cV 1) z6) (ra rfl (eZ (bI [0,1] rfl (by decide) (fY (r + 1) ⟨by omega,hr⟩ zo (zS rfl) (aU (fun _ _ _ h=>h) (aU (Di (by rw [hY,← hend,hDs.row hr])) aY))))))))))
     ·simp only [decide_eq_false_iff_not] at hr
      obtain rfl:r = n:=Nat.le_antisymm hrn zo
      refine gW rfl (aT (dQ (ro rfl (dW (Ht rfl) (cV 1) z6) (rm rfl (eZ (fY (c + 1,q,us,nR D c r) ⟨⟨hcn,by show q ≤ c + 1; rw [hq]; split <;> omega⟩,hnx,hus⟩ (by dsimp only; omega) (zS rfl) (dD.refl _)))))))
 ·simp only [decide_eq_false_iff_not] at hcn
  obtain rfl:c = n:=Nat.le_antisymm hc zo
  have hvl:=hvs.len
  have hAs:cP A c m:=by have h:=sO hs hc; rw [hA] at h; exact h
  refine gW rfl (ts (rm rfl (ra rfl (ro rfl (cX cW) (eZ ?_)))))
  exact jP () trivial [0,1] ⟨⟨_,rfl,fun _ _ _ h=>h⟩,⟨_,rfl,(fun S w V h=>bD (by rw [hA]) S w V (Fo (by rw [List.length_map,hAs.1]; exact hvl) S w V h))⟩,trivial⟩ (by decide) (a4d rfl (fZ (eY rfl) (lK (by rw [hA]))) (fZ (eY rfl) (aO (by rw [hA]))))
end
section
open Go Go.RowKit
abbrev Ut (M bs:List (List Qi)) (i:Nat):List Qi:=gF M i ++ bs.map fun b=>gv b i
def nT (M bs:List (List Qi)) (n:Nat):List (List Qi):=tab n (Ut M bs)
theorem a3b {r:List Qi} {bs:List (List Qi)} {i j:Nat} (h:j < bs.length):(r ++ (bs.take j).map fun b=>gv b i) ++ [gv (bs.getD j []) i] = r ++ (bs.take (j + 1)).map fun b=>gv b i:=by
 rw [List.append_assoc,List.take_add_one,List.map_append]
 simp [List.getD,h]
theorem pS {M bs:List (List Qi)} {n m:Nat} (h:cP M n m):cP (nT M bs n) n (m + bs.length):=by
 refine ⟨aC _ _,fun r hr=>?_⟩
 obtain ⟨i,hi,rfl⟩:=iV.1 hr
 rw [List.length_append,List.length_map,h.row hi]
theorem Iq {M bs : List (List Qi)} {n L : Nat} (h : bB M L) (hb : bB bs L) (hL : 1 ≤ L) : bB (nT M bs n) L := fun r hr x hx => by
 obtain ⟨i,hi,rfl⟩:=iV.1 hr
 rcases List.mem_append.1 hx with h1 | h1
 ·exact h.row i x h1
 ·obtain ⟨b, hb1, rfl⟩ := List.mem_map.1 h1
  exact cH.get (hb b hb1) hL i
def pG (U : List (List Qi)) (x : List Qi) (n c : Nat) : Nat → Qi
 | 0=>gm U c n
 | k + 1=>pG U x n c k - gm U c (c + 1 + k) * gv x (c + 1 + k)
def rE (U : List (List Qi)) (n : Nat) : Nat → List Qi
 | 0=>tab n fun _=>Qi.zero
 | j + 1=>(rE U n j).set (n - (j + 1)) (pG U (rE U n j) n (n - (j + 1)) j / gm U (n - (j + 1)) (n - (j + 1)))
theorem Cr (U : List (List Qi)) (n : Nat) : ∀ j, (rE U n j).length = n
 | 0=>aC _ _
 | j + 1=>by rw [rE,List.length_set,Cr U n j]
def wW (M:List (List Qi)) (b:List Qi) (n:Nat):List (List Qi) × Nat × Int:=dE (nT M [b] n) n
def kO (M:List (List Qi)) (b:List Qi) (n:Nat):Int:=if 0 ≤ (wW M b n).2.2 then 6 else 0
def jB (M:List (List Qi)) (b:List Qi) (n:Nat):List Qi:=rE (wW M b n).1 n n
def rX (G : Nat) : Nat → Nat
 | 0=>G
 | j + 1=>j * (rX G j + G + 2) + 4 * G + 2
theorem zN (G j:Nat):rX G j ≤ rX G (j + 1):=by
 cases j with
 | zero=>simp only [rX]; omega
 | succ j =>
  have:rX G (j + 1) + G + 2 ≤ (j + 1) * (rX G (j + 1) + G + 2):=Nat.le_mul_of_pos_left _ zo
  rw [show rX G (j + 1 + 1) = (j + 1) * (rX G (j + 1) + G + 2) + 4 * G + 2 from rfl]
  omega
theorem Hl (G : Nat) : ∀ j, G ≤ rX G j
 | 0=>Nat.le_refl _
 | j + 1=>Nat.le_trans (Hl G j) (zN G j)
theorem vT (G : Nat) : ∀ {i j : Nat}, i ≤ j → rX G i ≤ rX G j
 | i,0,h=>by rw [show i = 0 by omega]; exact Nat.le_refl _
 | i, j + 1, h => by
  by_cases e:i = j + 1
  ·rw [e]; exact Nat.le_refl _
  ·exact Nat.le_trans (vT G (show i ≤ j by omega)) (zN G j)
theorem sN {M : List (List Qi)} {n m : Nat} (hs : cP M n m) : ∀ {c : Nat}, c ≤ n → (dE M c).2.2 < 0 → ∀ i, i < c → gm (dE M c).1 i i ≠ Qi.zero
 | 0,_,_,i,hi=>by omega
 | c + 1, hc, hst, i, hi => by
  have sh:=sO hs (c:=c) zo
  obtain ⟨_,i2,i3,i4⟩:=tX (M:=(dE M c).1) (c:=c) (n:=M.length) (by rw [hs.1]; omega)
  simp only [dE] at hst ⊢
  split at hst
  ·rename_i h0; omega
  ·rename_i h0
   rw [if_neg h0]
   split at hst
   ·simp at hst; omega
   ·rename_i h1
    rw [if_neg h1]
    have ih:=sN hs (c:=c) zo zo
    have hl : ∀ X : List (List Qi), X.length = n → gm (nR X c M.length) i i = gm X i i := fun X hX => by
     show gv (gF (nR X c M.length) i) i = _
     rw [zG zo zo]
    by_cases e:pv (dE M c).1 c M.length = c
    ·rw [if_pos e, hl _ sh.1]
     by_cases e2:i = c
     ·rw [e2]; have:=i4 (by have:=hs.1; omega); rw [e] at this; exact this
     ·exact ih i zo
    ·have hpl : pv (dE M c).1 c M.length < n := by rw [← hs.1]; omega
     rw [if_neg e,hl _ ((Mr _ _ _ _).trans sh.1)]
     by_cases e2:i = c
     ·rw [e2]
      show gv (gF (swp [] _ _ c) c) c ≠ _
      rw [Mq (by rw [sh.1]; omega)]
      exact i4 (by have:=hs.1; omega)
     ·have : gF (swp [] (dE M c).1 (pv (dE M c).1 c M.length) c) i = gF (dE M c).1 i := by
       simp only [gF,swp,List.getD]
       rw [List.getElem?_set_ne (Ne.symm e2),List.getElem?_set_ne zo]
      show gv (gF (swp [] _ _ c) i) i ≠ _
      rw [this]; exact ih i zo
theorem Ds {U : List (List Qi)} {x : List Qi} {n c G X : Nat} (hU : bB U G) (hx : cH x X) (hG : 1 ≤ G) (hX : 1 ≤ X) : ∀ k, aM (pG U x n c k) (G + k * (G + X + 2))
 | 0=>(hU.get hG c n).le zo
 | k + 1 => by
  haveI f1:=Ds (n:=n) (c:=c) hU hx hG hX k
  haveI f2:=hU.get hG c (c + 1 + k)
  haveI f3:=hx.get hX (c + 1 + k)
  have:aM (pG U x n c (k + 1)) (G + k * (G + X + 2) + (G + X + 1) + 1):=by unfold pG; infer_instance
  exact this.le (by rw [Nat.add_mul]; omega)
theorem a5k {U:List (List Qi)} {x:List Qi} {n c G X j:Nat} (hU:bB U G) (hx:cH x X) (hG:1 ≤ G) (hX:1 ≤ X) (hz:gm U c c ≠ Qi.zero):aM (pG U x n c j / gm U c c) (j * (X + G + 2) + 4 * G + 2):=by
 have f1:=Ds (n:=n) (c:=c) hU hx hG hX j
 have f2:=hU.get hG c c
 have:aM (pG U x n c j / gm U c c) (G + j * (G + X + 2) + 3 * G + 2):=⟨f1.fit.div f2.fit hz⟩
 exact this.le (by rw [Nat.add_comm X G]; omega)
theorem Qx {U : List (List Qi)} {n G : Nat} (hU : bB U G) (hG : 1 ≤ G) (hz : ∀ i, i < n → gm U i i ≠ Qi.zero) : ∀ j, j ≤ n → cH (rE U n j) (rX G j)
 | 0,_=>cH.tab fun _ _=>aM.zero hG
 | j + 1, hj => fun y hy => by
  have ih:=Qx hU hG hz j zo
  rcases List.mem_or_eq_of_mem_set hy with h1 | h1
  ·exact (ih y h1).le (zN G j)
  ·rw [h1]; exact a5k hU ih hG (Nat.le_trans hG (Hl G j)) (hz _ zo)
theorem a2g {M:List (List Qi)} {b:List Qi} {n:Nat} (h:cP M n n):cP (wW M b n).1 n (n + 1):=sO (pS h) (Nat.le_refl n)
theorem Qc {M:List (List Qi)} {b:List Qi} {n L:Nat} (h:cP M n n) (hM:bB M L) (hb:cH b L) (hL:1 ≤ L):bB (wW M b n).1 (eD L n):=Ex (pS h) (Iq hM (fun r hr=>by simp at hr; subst hr; exact hb) hL) hL (Nat.le_refl n)
theorem a2h {M : List (List Qi)} {b : List Qi} {n L : Nat} (h : cP M n n) (hM : bB M L) (hb : cH b L) (hL : 1 ≤ L) (hE : (wW M b n).2.2 < 0) : cH (jB M b n) (rX (eD L n) n) :=
 Qx (Qc h hM hb hL) (Nat.le_trans hL (wI L n)) (sN (pS h) (Nat.le_refl n) hE) n (Nat.le_refl n)
def Hj (n i:Nat):List Qi:=(tab n fun _=>Qi.zero).set i (Qi.ofInt 1)
def Df (n:Nat):List (List Qi):=tab n (Hj n)
theorem Lh (n:Nat):cP (Df n) n n:=⟨aC _ _,fun r hr=>by obtain ⟨i,_,rfl⟩:=iV.1 hr; rw [Hj,List.length_set,aC]⟩
theorem yL:aM (Qi.ofInt 1) 1:=⟨Qi.Fit.int (L:=1) (by decide) (by decide)⟩
theorem Zn {n i L : Nat} (h : 1 ≤ L) : cH (Hj n i) L := fun x hx => by
 rcases List.mem_or_eq_of_mem_set hx with h1 | h1
 ·obtain ⟨_,_,rfl⟩:=iV.1 h1; exact aM.zero h
 ·rw [h1]; exact yL.le h
theorem a3n {n L:Nat} (h:1 ≤ L):bB (Df n) L:=fun r hr=>by obtain ⟨i,_,rfl⟩:=iV.1 hr; exact Zn h
theorem a4p {M:List (List Qi)} {b:List Qi} {n:Nat} (h:¬ 0 ≤ (wW M b n).2.2):(wW M b n).2.2 < 0:=by omega
theorem Du (F:Qi → Ty) (n:Nat):List.replicate n (F Qi.zero) = (tab n fun _=>Qi.zero).map F:=by rw [oO,zI]
theorem a6H {n j:Nat} (h:(0:Int) ≤ (n:Int) - 1 - (j:Int)):j < n:=by omega
theorem a6I {n j:Nat} (h:(n:Int) - 1 - (j:Int) < 0):n ≤ j:=by omega
theorem a0f {G X k j:Nat} (h:k < j):k * (G + X + 2) + (G + X + 2) ≤ j * (X + G + 2):=by
 rw [Nat.add_comm X G,← Nat.succ_mul]; exact Nat.mul_le_mul_right _ h
end
section
open Go Go.RowKit
theorem a0D {M:List (List Qi)} {n:Nat} (h:cP M n n) (h1:1 ≤ n) (hn:n ≤ 32):bL Tryz.prog 174 [bM M] (aH true):=by
 have hl:=h.1
 refine bL.intro Tryz.func174 rfl Tryz.ntmps174 rfl (fun cx=>(ts (ro rfl (cX cW) (eZ (ts (rm rfl (ro rfl (cJ Tryz.call240 (vZ h h1 hn hn) ⟨(Ht rfl),trivial⟩) (rm rfl (ro rfl (dU (Ht rfl) rfl) (ro rfl (dU (Ht rfl) rfl) (ra rfl (ra rfl (eZ (ts (rm rfl (rm rfl (fX rfl rfl (eU rfl rfl (Ht rfl) (fun h=>cZ (Ht rfl))) (fX rfl rfl (eU rfl rfl (Ht rfl) (fun h=>cZ (Ht rfl))) (fX rfl rfl (eU rfl rfl (Ht rfl) (fun h=>dK U_30 (fV rfl h) aA)) (fX rfl rfl (eU rfl rfl (Ht rfl) (fun h=>dP (fV rfl h) (fV rfl h))) ?_))))))))))))))))))))
 refine ro rfl (dM (Ht rfl) (fun h=>(fV rfl h))) (ra rfl (eZ (fG rfl (fZ (eY rfl) ?_))))
 exact (dN (by simp [hl]))
theorem Xv {M bs:List (List Qi)} {n m:Nat} (hM:cP M n m) (hb:∀ b,b ∈ bs → n ≤ b.length) (hn:n ≤ 1000) (hm:m ≤ 1000) (hbl:bs.length ≤ 1000):iI Tryz.prog 193 [bM M,bM bs] [] (Nat) (fun B=>Is (.slice (some ⟨B,0,none⟩) n n)) (fun B=>[pE B 29 51 5 (bS aF (nT M bs n))]) (fun _=>True):=by
 have hMl:=hM.1
 refine iI.intro Tryz.func193 rfl Tryz.ntmps193 rfl (fun cx Z=>(ts (ro rfl (cX cW) (eZ (ts (rm rfl (ro rfl (dK U_30 (Ht rfl) aA) (rn rfl (eS (T:=Is (.slice none 0 0)) (i:=Tryz.t29) V_30 lV rfl rfl (Ht rfl) rfl (fun _=>rfl) trivial (by show 24 * _ ≤ _; omega) zo) fun B12=>(ra rfl (eZ (cU (ts (rm rfl (ro rfl (dK U_30 (Ht rfl) aA) (ro rfl (cZ (cV 0)) (eZ (eK (mQ 1 rfl (rP (e:=51) (s:=5)) ?_))))))))))))))))))
 refine bP (fun (i : Nat) => i ≤ M.length) (fun (i : Nat) => M.length - i) (fun (i : Nat) => [(0, bM M), (1, bM bs), (5, Is (.slice (some ⟨B12, 0, none⟩) M.length M.length)), (13, bM M), (14, NT .i64 M.length), (15, NT .i64 i)]) (fun (i : Nat) => [Z, pE B12 29 51 5 (bS aF (iP (Ut M bs) [] M.length i))]) 0 (Nat.zero_le _)
  (zS rfl) (aU (fun _ _ _ h=>h) (aU (bD (by rw [← fF,kT]; exact lM aF M.length)) aY)) (fun i hi=>?_)
 refine ts (ro rfl (gZ (Ht rfl) (Ht rfl)) (eZ (cU (dX (Ht rfl) (fun hd0=>?_) (fun hd0=>?_)))))
 ·simp only [decide_eq_true_eq] at hd0
  have hrl:(gF M i).length = m:=hM.row zo
  have hrl2:(M.getD i []).length = m:=hrl
  refine oH 1 (i) rfl (iB hd0) (fun v0=>(cY (cU (eK (ts (rm rfl (ro rfl (dJ U_30 Z_29 (Ht rfl) (Ht rfl) rfl (eQ (dY (d:=[]) hd0))) (ro rfl (dV A_29 Z_29 (Ht rfl)) (ra rfl (ra rfl (eZ (ts (rm rfl (rm rfl (rm rfl (kZ Tryz.call158 (Nc (l:=M.getD i []) zo) ⟨(Ht rfl),trivial⟩ rfl (fun v1 _=>(ro rfl (gQ U_30 Z_29 (Ht rfl) (Ht rfl) rfl zo (by rw [Nat.mul_one,Nat.zero_add])) ?_))))))))))))))))))
  refine sH Z_29 (Ht rfl) (Ht rfl) (by simp only [bS,List.length_map,cL]; omega) (j:=1) (l:=3) rfl rfl rfl ?_
  refine eZ (ts (rm rfl (ro rfl (dK U_30 (Ht rfl) aA) (ro rfl (cZ (cV 0)) (eZ (eK (bI [0,1,3] rfl (by decide) ?_)))))))
  refine eO (fun (j : Nat) (v : Value) => j ≤ bs.length) (fun (j : Nat) (v : Value) => bs.length - j) (fun (j : Nat) (v : Value) => [(0, bM M), (1, bM bs), (5, Is (.slice (some ⟨B12, 0, none⟩) M.length M.length)), (6, NT .i64 i), (13, bM M), (14, NT .i64 M.length), (15, NT .i64 i), (25, bM bs), (26, NT .i64 bs.length), (27, NT .i64 j)]) (fun (j : Nat) (v : Value) => [Z, Lp B12 29 51 5 (bS aF (iP (Ut M bs) [] M.length i)) i v, bN 51 5 v ((gF M i ++ (bs.take j).map fun b => gv b i).map aF)]) 0 v1 (Nat.zero_le _)
   (zS rfl) (aU (fun _ _ _ h=>h) (aU (fun _ _ _ h=>h) (aU (aN (by simp)) aY))) (fun j v hj=>?_)
  refine ts (ro rfl (gZ (Ht rfl) (Ht rfl)) (eZ (cU (dX (Ht rfl) (fun he=>?_) (fun he=>?_)))))
  ·simp only [decide_eq_true_eq] at he
   have hbj:i < (bs.getD j []).length:=by have h1:=hb (bs.getD j []) (by rw [Lc he]; exact List.getElem_mem _); omega
   refine cY (cU (eK (ts (ro rfl (dJ U_30 Z_29 (Ht rfl) (Ht rfl) rfl (eQ (dY (d:=[]) he))) (ro rfl (dV A_29 Z_29 (Ht rfl)) (ra rfl (eZ (Y.D_startA (m:=12) [] 11 2 rfl rfl (cQ (Ei:=[(5,_)]) rfl rfl (bQ (bJ rfl rfl) bX) rfl rfl (dZ rfl (cZ (Ht rfl))) (cQ (Ei:=[(6,_)]) rfl rfl (bQ (bJ rfl rfl) bX) rfl rfl (dZ rfl (cZ (Ht rfl))) (cQ (Ei:=[(5,_)]) rfl rfl (bQ (bJ rfl rfl) bX) rfl rfl (dZ rfl (cZ (Ht rfl))) ?_)))))))))))
   refine cQ (Ei:=[(6,_)]) rfl rfl (bQ (bJ rfl rfl) bX) rfl rfl (dZ rfl (cZ (Ht rfl))) (cQ (Ei:=[(33,_),(34,_)]) rfl rfl (bQ (bZ 2 rfl rfl) (bQ (bZ 3 rfl rfl) bX)) rfl rfl (dZ rfl (gQ U_30 Z_29 (Ht rfl) (Ht rfl) rfl zo (by rw [Nat.mul_one,Nat.zero_add]))) ?_)
   refine cQ (Ei:=[(35,_)]) rfl rfl (bQ (bZ 4 rfl rfl) bX) rfl rfl (dZ rfl (gM A_29 Z_29 (Ht rfl) (j:=1) rfl)) (cQ (Ei:=[(9,_)]) rfl rfl (bQ (bJ rfl rfl) bX) rfl rfl (dZ rfl (cZ (Ht rfl))) (cQ (Ei:=[(6,_)]) rfl rfl (bQ (bJ rfl rfl) bX) rfl rfl (dZ rfl (cZ (Ht rfl))) (cQ (Ei:=[(37,_),(38,_)]) rfl rfl (bQ (bZ 6 rfl rfl) (bQ (bZ 7 rfl rfl) bX)) rfl rfl (dZ rfl (dJ U_29 Z_51 (Ht rfl) (Ht rfl) rfl (eQ (dY (d:=Qi.zero) hbj)))) ?_)))
   refine cQ (Ei:=[(39,_)]) rfl rfl (bQ (bZ 8 rfl rfl) bX) rfl rfl (dZ rfl (dV A_51 Z_51 (Ht rfl))) (cQ (Ei:=[(40,_)]) rfl rfl (bQ (bZ 9 rfl rfl) bX) rfl rfl (dZ rfl (cA (xs:=[.tmp 40]) U_29 Z_51 O_51 (cG (Ht rfl) cK) rfl rfl rfl)) (Y.D_app (Ei:=[(36,_),(41,_)]) rfl rfl rfl rfl (bQ (bZ 5 rfl rfl) (bQ (bZ 10 rfl rfl) bX)) rfl (qA (inf:=Tryz.t51) kX jD rfl rfl rfl (Ht rfl) (Ht rfl) (by simp) (fun T hT=>by simp at hT; subst hT; exact El.ag rfl) (by show _ * 88 ≤ _; simp only [List.length_map,List.length_append,List.length_take,List.length_cons,List.length_nil]; omega) (by simp only [List.length_map,List.length_append,List.length_take,List.length_cons,List.length_nil]; omega)) ?_))
   refine Y.D_done bA rfl (by kernel_rfl) rfl (by simp [Y.okP]) rfl rfl (bU (bU (bU (bU (bU (bU (bU (bU (bU (bU (bU (Y.F_app (fun v2=>Y.F_nil ?_)))))))))))))
   refine ro rfl (gQ U_30 Z_29 (Ht rfl) (Ht rfl) rfl zo (by rw [Nat.mul_one,Nat.zero_add])) ?_
   refine sH Z_29 (Ht rfl) (Ht rfl) (by simp only [bS,List.length_map,cL]; omega) (j:=1) (l:=3) rfl rfl rfl ?_
   refine eZ (aT (dQ (ro rfl (dW (Ht rfl) (cV 1) z6) (rm rfl (eZ (bI [0,1,3] rfl (by decide) (fY (j + 1,v2) he (by dsimp only; omega) (zS rfl) (aU (fun _ _ _ h=>h) (aU (fun _ _ _ h=>h) (aU (aN ((sL aF _ (gv (bs.getD j []) i)).trans (congrArg _ (a3b he)))) aY))))))))))
  ·simp only [decide_eq_false_iff_not] at he
   obtain rfl:bs.length = j:=Nat.le_antisymm zo hj
   refine gW rfl (aT (dI 1 2 rfl rfl (by decide) (by simp only [bS,List.length_map,cL]; omega) ?_))
   refine dQ (ro rfl (dW (Ht rfl) (cV 1) z6) (rm rfl (eZ (bI [0,1] rfl (by decide) (fY (i + 1) hd0 zo (zS rfl) (aU (fun _ _ _ h=>h) (aU (bD (by rw [List.take_length,eN,← fR (f:=Ut M bs)])) aY)))))))
 ·simp only [decide_eq_false_iff_not] at hd0
  obtain rfl:i = M.length:=Nat.le_antisymm hi zo
  subst hMl
  refine gW rfl (ts (rm rfl (ra rfl (eZ ?_))))
  exact jP B12 trivial [0,1] ⟨⟨_,rfl,fun _ _ _ h=>h⟩,⟨_,rfl,(bD (by rw [gO]; rfl))⟩,trivial⟩ (by decide) (vN rfl (eY rfl))
end
section
open Go Go.RowKit
theorem a6L {n:Nat} (hn:n ≤ 32):iI Tryz.prog 94 [NT .i64 n] [] (Nat) (fun B=>Is (.slice (some ⟨B,0,none⟩) n n)) (fun B=>[kK eM B 29 51 5 (bS aF (Df n))]) (fun _=>True):=by
 refine iI.intro Tryz.func94 rfl Tryz.ntmps94 rfl (fun cx Z=>(ts (ro rfl (cX cW) (eZ (ts (rn rfl (eG (Ts:=[Is (.bool false),Is (.slice none 0 0),Is (.bool false),Is (.slice none 0 0),Is (.slice none 0 0)]) O_51 rfl (fun V=>aW zd (aW zd (aW zd (aW zd (aW zd (aG))))))) fun B3=>(eZ (ts (rm rfl (ro rfl (aI.nat (a3V (Ht rfl) (cV 0)) (show max n 0 = n by omega)) (ro rfl (aI.nat (Wn (Ht rfl) (cV 32)) (show min n 32 = n by omega)) ?_)))))))))))
 refine rn rfl (eS (T:=Is (.slice none 0 0)) (i:=Tryz.t29) V_30 lV rfl rfl (Ht rfl) rfl (fun _=>rfl) trivial (by show 24 * _ ≤ _; omega) zo) fun B9=>ra rfl (eZ (cU (ts (rm rfl (ro rfl (gL U_30 (Ht rfl)) (ro rfl (cZ (cV 0)) (eZ (eK (mQ 2 rfl (uX eM ⟨none,0,rfl⟩ (e:=51) (s:=5)) ?_)))))))))
 refine bP (fun (k : Nat) => k ≤ n) (fun (k : Nat) => n - k) (fun (k : Nat) => [(3, bF B3 0), (4, Is (.slice (some ⟨B9, 0, none⟩) n n)), (11, NT .i64 n), (12, NT .i64 k)]) (fun (k : Nat) => [Z, box B3 51 [Is (.bool false), Is (.slice none 0 0), Is (.bool false), Is (.slice none 0 0), Is (.slice none 0 0)], kK eM B9 29 51 5 (bS aF (iP (Hj n) [] n k))]) 0 (Nat.zero_le _)
  (zS rfl) (aU (fun _ _ _ h=>h) (aU (fun _ _ _ h=>h) (aU (bD (by rw [← fF,kT]; exact lM aF n)) aY))) (fun k hk=>?_)
 refine ts (ro rfl (gZ (Ht rfl) (Ht rfl)) (eZ (cU (dX (Ht rfl) (fun hd=>?_) (fun hd=>?_)))))
 ·simp only [decide_eq_true_eq] at hd
  refine iS 2 (k) rfl (iB hd) (fun v hv=>(cY (cU (eK (ts (rm rfl (ra rfl (eZ (cU (fJ (m:=10) (dp 4 rfl (cZ (Ht rfl)) (dp 5 rfl (cZ (Ht rfl)) (dp 3 rfl (eW A_51 Z_51 (Ht rfl) (i:=1) rfl rfl rfl) (dq 17 2 rfl (cO eA (Ht rfl)) (d0 rfl (cJ K_77 (uE (n:=0) (by decide) (by decide)) ⟨(cV 0),trivial⟩) (dT 18 3 19 4 rfl (cF tT Tryz.call302 Ud (Ht rfl) ⟨(Ht rfl),trivial⟩) (dq 20 5 rfl (cA (xs:=[.tmp 20]) U_29 Z_51 O_51 (cG (Ht rfl) cK) rfl rfl rfl) ?_)))))))))))))))))
  refine dp 4 rfl (cZ (Ht rfl)) (dq 22 7 rfl (gL U_30 (Ht rfl)) (C.D_new (Ei:=[(21,_),(23,_)]) rfl rfl rfl (bV (bG 6 rfl rfl) (bV (bG 8 rfl rfl) bW)) (nZ Tryz.call191 (Re (m:=n) zo zo) ⟨(Ht rfl),(Ht rfl),trivial⟩) (fW bA rfl (by kernel_rfl) (zF (zF (aJ (C.F_new (fun B24=>aV (ro rfl (gQ U_30 Z_29 (Ht rfl) (Ht rfl) rfl zo (by rw [Nat.mul_one,Nat.zero_add])) ?_)))))))))
  refine sH Z_29 (Ht rfl) (Ht rfl) (by simp only [bS,List.length_map,cL]; omega) (j:=2) (l:=4) rfl rfl rfl ?_
  refine eZ ?_
  have hB24:=B24.1.2
  refine fJ (m:=9) (dp 4 rfl (cZ (Ht rfl)) (dp 5 rfl (cZ (Ht rfl)) (dT 26 0 27 1 rfl (gQ U_30 Z_29 (Ht rfl) (Ht rfl) rfl zo (by rw [Nat.mul_one,Nat.zero_add])) ?_)))
  refine dq 28 2 rfl (gM A_29 Z_29 (Ht rfl) (j:=2) rfl) (dp 5 rfl (cZ (Ht rfl)) (dp 3 rfl (eW A_51 Z_51 (Ht rfl) (i:=1) rfl rfl rfl) (dq 31 5 rfl (cO eA (Ht rfl)) (d0 rfl (cJ K_77 (uE (n:=1) (by decide) (by decide)) ⟨(cV 1),trivial⟩) (dT 32 6 33 7 rfl (cF tT Tryz.call302 Ud (Ht rfl) ⟨(Ht rfl),trivial⟩) (fW bA rfl (by kernel_rfl) (zF (zF (aJ (aV (ro rfl (cR U_29 Z_51 (Ht rfl) (Ht rfl) rfl (i:=4) rfl (by simp only [List.length_map,aC]; omega) rfl) ?_)))))))))))
  refine jS Z_51 (Ht rfl) (Ht rfl) (El.ag rfl) (i:=4) rfl rfl (by simp only [List.length_map,aC]; omega) rfl ?_
  refine eZ (aT (dI 2 4 rfl rfl (by decide) (by simp only [bS,List.length_map,cL]; omega) ?_))
  refine dQ (ro rfl (dW (Ht rfl) (cV 1) z6) (rm rfl (eZ (bI [0,1,2] rfl (by decide) (fY (k + 1) hd zo (zS rfl) (aU (fun _ _ _ h=>h) (aU (fun _ _ _ h=>h) (aU (bD (by rw [← fR (f:=Hj n),← eN,Hj,← fI])) aY))))))))
 ·simp only [decide_eq_false_iff_not] at hd
  obtain rfl:n = k:=Nat.le_antisymm zo hk
  refine gW rfl (ts (rm rfl (ra rfl (eZ ?_))))
  exact jP B9 trivial [0,2] ⟨⟨_,rfl,fun _ _ _ h=>h⟩,⟨_,rfl,(bD (by rw [gO]; rfl))⟩,trivial⟩ (by decide) (vN rfl (eY rfl))
theorem Uf {M:List (List Qi)} {b:List Qi} {n L:Nat} (hM:cP M n n) (hb:b.length = n) (hf:bB M L) (hfb:cH b L) (hL:1 ≤ L) (h1:1 ≤ n) (hn:n ≤ 32) (hg:6 * eD L n + 4 ≤ 17592186044415) (hx:rX (eD L n) (n + 1) ≤ 17592186044415):bL Tryz.prog 96 [bM M,aR b] (fS [aR (cD (kO M b n) (jB M b n)),aL .i64 (kO M b n)]):=by
 have hMl:=hM.1
 have hcs:cP (nT M [b] n) n (n + 1):=pS hM
 have hcf:bB (nT M [b] n) L:=Iq hf (fun r hr=>by simp at hr; subst hr; exact hfb) hL
 obtain ⟨U,hU⟩:∃ U,U = (wW M b n).1:=⟨_,rfl⟩
 have hUs:cP U n (n + 1):=by rw [hU]; exact a2g hM
 have hUl:=hUs.1
 have hUf:bB U (eD L n):=by rw [hU]; exact Qc hM hf hfb hL
 have hG1:1 ≤ eD L n:=Nat.le_trans hL (wI L n)
 refine bL.intro Tryz.func96 rfl Tryz.ntmps96 rfl (fun cx=>(ts (ro rfl (cX cW) (ro rfl (cX (cV 0)) (eZ (cU (ts (rm rfl (ro rfl (cJ Tryz.call174 (a0D hM h1 hn) ⟨(Ht rfl),trivial⟩) (ro rfl (fB (Ht rfl)) (rm rfl (fX rfl rfl (eU rfl rfl (Ht rfl) (fun h=>cZ (Ht rfl))) (fX rfl rfl (eU rfl rfl (Ht rfl) (fun h=>dK U_29 (fV rfl h) aA)) (fX rfl rfl (eU rfl rfl (Ht rfl) (fun h=>cZ (Ht rfl))) (fX rfl rfl (eU rfl rfl (Ht rfl) (fun h=>dK U_30 (fV rfl h) aA)) ?_)))))))))))))))
 refine fX rfl rfl (eU rfl rfl (Ht rfl) (fun h=>fT (fV rfl h) (fV rfl h))) (ro rfl (fO (Ht rfl) (fun h=>(fV rfl h))) (eZ (kF (Ht rfl) (by simp [hMl,hb]) ?_)))
 refine cY (ts (rm rfl (ro rfl (dK U_30 (Ht rfl) (by rw [List.length_map,hMl])) ?_)))
 refine ra rfl (eZ (ts (rm rfl (rm rfl (ro rfl (cA (xs:=[.tmp 26]) U_30 Z_29 O_29 (cG (Ht rfl) cK) rfl rfl rfl) (kZ Tryz.call193 (Xv (M:=M) (bs:=[b]) (n:=n) (m:=n) hM (fun r hr=>by simp at hr; subst hr; omega) zo zo (by simp)) ⟨(Ht rfl),(Ht rfl),trivial⟩ rfl (fun B28 _=>?_)))))))
 refine ra rfl (eZ (cU (ts (rm rfl (Kd Tryz.call194 (a2Q (n:=n) (m:=n + 1) (L:=L) hcs hcf hL hg zo zo) (i:=0) rfl ⟨(Ht rfl),trivial⟩ rfl (fun uu _=>(rm rfl (ro rfl (dU (Ht rfl) rfl) (ro rfl (dU (Ht rfl) rfl) (ra rfl (ra rfl (eZ (ts (rm rfl (ro rfl (mS (Ht rfl) cW) (eZ (dX (Ht rfl) (fun hs=>?_) (fun hs=>?_))))))))))))))))))
 ·have he : kO M b n = 6 := by rw [kO, if_pos (show 0 ≤ (wW M b n).2.2 from of_decide_eq_true hs)]
  refine ts (ro rfl (cX cW) (ro rfl (cX (cV 6)) (eZ (bR rfl (fZ (eY rfl) ?_) (fZ (eY rfl) ?_)))))
  ·exact (fun v V k=>by rw [he]; exact jM v V k)
  ·exact (aO he.symm)
 ·have hst : ¬ 0 ≤ (wW M b n).2.2 := of_decide_eq_false hs
  have he:kO M b n = 0:=by rw [kO,if_neg hst]
  have hdz:∀ i,i < n → gm U i i ≠ Qi.zero:=by rw [hU]; exact sN hcs (Nat.le_refl n) (a4p hst)
  refine cY (ts (rm rfl (rn rfl (kS (T:=aF Qi.zero) (i:=Tryz.t51) kX jD rfl rfl (Ht rfl) rfl kM (El.ag rfl) (by show 88 * _ ≤ _; omega) zo) fun B37=>(ra rfl (eZ (cU (ts (rm rfl (ro rfl (dG (Ht rfl) (cV 1) zo z6) (ra rfl (eZ (eK (mQ 0 rfl (bD (show bS aF (dE (nT M [b] n) n).1 = bS aF U by rw [hU]; rfl)) (To 0 rfl (fun vs hvs=>?_)))))))))))))))
  have hvl:vs.length = n:=by have h:=hvs.len; rw [List.length_map,hUl] at h; exact h
  refine bP (fun (j : Nat) => j ≤ n) (fun (j : Nat) => n - j) (fun (j : Nat) => [(0, Is (.slice (some ⟨B28, 0, none⟩) n n)), (6, NT .i64 n), (9, Is B37), (10, aL .i64 ((n : Int) - 1 - (j : Int)))]) (fun (j : Nat) => [kV B28 29 51 5 vs vs (bS aF U), bN 51 5 B37 ((rE U n j).map aF)]) 0 (Nat.zero_le _)
   (aQ rfl (aQ rfl (aQ rfl (aZ rfl (aO zo) aX)))) (aU (fun _ _ _ h=>h) (aU (aN (by rw [rE]; exact Du aF n)) aY)) (fun j hj=>?_)
  refine cU (ts (rm rfl (ro rfl (mS (Ht rfl) cW) (eZ (dX (Ht rfl) (fun hc=>?_) (fun hc=>?_))))))
  ·have hjn : j < n := a6H (of_decide_eq_true hc)
   obtain ⟨q,hq⟩:∃ q,q = n - (j + 1):=⟨_,rfl⟩
   have hqi:(n:Int) - 1 - (j:Int) = (q:Int):=by omega
   have hqr:(U.getD q []).length = n + 1:=hUs.row zo
   have hXf:=Qx hUf hG1 hdz j hj
   have hXl:=Cr U n j
   have hX1:1 ≤ rX (eD L n) j:=Nat.le_trans hG1 (Hl _ _)
   have hxm:=vT (eD L n) (show j + 1 ≤ n + 1 by omega)
   refine cY (cU (eK (ts (rm rfl (rm rfl (ro rfl (gQ U_30 Z_29 (Ht rfl) (Ht rfl) hqi zo (by rw [Nat.mul_one,Nat.zero_add])) ?_))))))
   refine ro rfl (mK A_29 Z_29 (Ht rfl) (j:=0) rfl zo) (rm rfl (ro rfl (pP U_29 Z_51 (Ht rfl) (Ht rfl) rfl (j:=0) rfl zo zo zo) (ro rfl (vB A_51 Z_51 (Ht rfl) (j:=0) rfl zo zo zo) (rn rfl (eG (Ts:=[Is (.bool false),Is (.slice none 0 0),Is (.bool false),Is (.slice none 0 0),Is (.slice none 0 0)]) O_51 rfl (fun V=>aW zd (aW zd (aW zd (aW zd (aW zd (aG))))))) fun B11=>?_))))
   refine gX Z_51 (Ht rfl) (Ht rfl) rfl (i:=2) rfl (aK rfl) rfl rfl (eZ (cU (ts (rm rfl (ro rfl (Sh (Ht rfl) cW (r:=((q + 1:Nat):Int)) ((yA (z:=(n:Int) - 1 - (j:Int) + 1) zo).trans zo)) ?_)))))
   refine ra rfl (eZ (eK ?_))
   refine bP (fun (k : Nat) => k ≤ j) (fun (k : Nat) => j - k) (fun (k : Nat) => [(0, Is (.slice (some ⟨B28, 0, none⟩) n n)), (6, NT .i64 n), (9, Is B37), (10, aL .i64 ((n : Int) - 1 - (j : Int))), (11, bF B11 0), (12, NT .i64 (q + 1 + k))]) (fun (k : Nat) => [kV B28 29 51 5 vs vs (bS aF U), bN 51 5 B37 ((rE U n j).map aF), box B11 51 [aH (decide ((pG U (rE U n j) n q k).a < 0)), bC (pG U (rE U n j) n q k).a.natAbs, aH (decide ((pG U (rE U n j) n q k).b < 0)), bC (pG U (rE U n j) n q k).b.natAbs, bC (du (pG U (rE U n j) n q k))]]) 0 (Nat.zero_le _)
    (zS rfl) (aU (fun _ _ _ h=>h) (aU (fun _ _ _ h=>h) (aU (aB rfl) aY))) (fun k hk=>?_)
   refine cU (ts (rm rfl (rm rfl (ro rfl (gZ (Ht rfl) (Ht rfl)) (eZ (dX (Ht rfl) (fun hf=>?_) (fun hf=>?_)))))))
   ·have hkj : k < j := by simp only [decide_eq_true_eq] at hf; omega
    haveI f1:aM (pG U (rE U n j) n q k) (eD L n + k * (eD L n + rX (eD L n) j + 2)):=Ds hUf hXf hG1 hX1 k
    haveI f2:aM (gm U q (q + 1 + k)) (eD L n):=hUf.get hG1 _ _
    haveI f3:aM (gv (rE U n j) (q + 1 + k)) (rX (eD L n) j):=hXf.get hX1 _
    have hb1:=a0f (G:=eD L n) (X:=rX (eD L n) j) hkj
    have hb2:rX (eD L n) (j + 1) = j * (rX (eD L n) j + eD L n + 2) + 4 * eD L n + 2:=rfl
    refine cY (cU (eK (fJ (m:=15) (dp 11 rfl (eW A_51 Z_51 (Ht rfl) (i:=2) rfl rfl rfl) (dq 58 0 rfl (cO eA (Ht rfl)) (dp 0 rfl (cZ (Ht rfl)) (dp 10 rfl (cZ (Ht rfl)) (dT 60 2 61 3 rfl (gQ U_30 Z_29 (Ht rfl) (Ht rfl) hqi zo (by rw [Nat.mul_one,Nat.zero_add])) ?_))))))))
    refine dq 62 4 rfl (mK A_29 Z_29 (Ht rfl) (j:=0) rfl zo) (dp 12 rfl (cZ (Ht rfl)) (dT 63 5 64 6 rfl (pP U_29 Z_51 (Ht rfl) (Ht rfl) rfl (j:=0) rfl zo zo zo) (dq 65 7 rfl (vB A_51 Z_51 (Ht rfl) (j:=0) rfl zo zo zo) (dq 66 8 rfl (cO eA (Ht rfl)) (dp 9 rfl (cZ (Ht rfl)) (dp 12 rfl (cZ (Ht rfl)) (dT 68 10 69 11 rfl (cR U_29 Z_51 (Ht rfl) (Ht rfl) rfl (i:=1) rfl (by rw [List.length_map]; omega) rfl) ?_)))))))
    refine dq 70 12 rfl (sD A_51 Z_51 (Ht rfl) (i:=1) rfl rfl (eQ (dY (d:=Qi.zero) zo))) (dT 67 9 71 13 rfl (cF gT K_45 (rG (x:=gm U q (q + 1 + k)) (y:=gv (rE U n j) (q + 1 + k)) (L:=eD L n) (M:=rX (eD L n) j) zo) (Ht rfl) ⟨(Ht rfl),trivial⟩) (fW bA rfl (by kernel_rfl) (zF (zF (zF (aJ (aJ (aJ (aV (ro rfl (cF lH K_44 (Eh (x:=(pG U (rE U n j) n q k)) (y:=gm U q (q + 1 + k) * gv (rE U n j) (q + 1 + k)) (L:=eD L n + k * (eD L n + rX (eD L n) j + 2)) (M:=eD L n + rX (eD L n) j + 1) zo) (Ht rfl) ⟨(Ht rfl),trivial⟩) ?_))))))))))
    refine gX Z_51 (Ht rfl) (Ht rfl) rfl (i:=2) rfl (aK rfl) rfl rfl (eZ (aT (dQ (rm rfl (ro rfl (dW (Ht rfl) (cV 1) z6) (ra rfl (eZ (fY (k + 1) hkj zo (zS rfl) (aU (fun _ _ _ h=>h) (aU (fun _ _ _ h=>h) (aU (aB rfl) aY)))))))))))
   ·obtain rfl : k = j := Nat.le_antisymm hk (by simp only [decide_eq_false_iff_not] at hf; omega)
    haveI f1:aM (pG U (rE U n k) n q k) (eD L n + k * (eD L n + rX (eD L n) k + 2)):=Ds hUf hXf hG1 hX1 k
    haveI f2:aM (gm U q q) (eD L n):=hUf.get hG1 _ _
    have hb3:k * (rX (eD L n) k + eD L n + 2) = k * (eD L n + rX (eD L n) k + 2):=by rw [Nat.add_comm (rX _ _)]
    have hb2:rX (eD L n) (k + 1) = k * (rX (eD L n) k + eD L n + 2) + 4 * eD L n + 2:=rfl
    refine gW rfl (Y.D_start (m:=17) [(16,1,bN 51 5 B37 (((rE U n k).map aF).set q (aF ((pG U (rE U n k) n q k) / gm U q q))))] (Y.D_step (Ei:=[(9,_)]) rfl rfl (bQ (bJ rfl rfl) bX) rfl rfl (by kernel_rfl) (dZ rfl (cZ (Ht rfl))) (Y.D_step (Ei:=[(10,_)]) rfl rfl (bQ (bJ rfl rfl) bX) rfl rfl (by kernel_rfl) (dZ rfl (cZ (Ht rfl))) (Y.D_step (Ei:=[(11,_)]) rfl rfl (bQ (bJ rfl rfl) bX) rfl rfl (by kernel_rfl) (dZ rfl (eW A_51 Z_51 (Ht rfl) (i:=2) rfl rfl rfl)) ?_))))
    refine Y.D_step (Ei:=[(77,_)]) rfl rfl (bQ (bZ 2 rfl rfl) bX) rfl rfl (by kernel_rfl) (dZ rfl (cO eA (Ht rfl))) (Y.D_step (Ei:=[(0,_)]) rfl rfl (bQ (bJ rfl rfl) bX) rfl rfl (by kernel_rfl) (dZ rfl (cZ (Ht rfl))) (Y.D_step (Ei:=[(10,_)]) rfl rfl (bQ (bJ rfl rfl) bX) rfl rfl (by kernel_rfl) (dZ rfl (cZ (Ht rfl))) (Y.D_step (Ei:=[(79,_),(80,_)]) rfl rfl (bQ (bZ 4 rfl rfl) (bQ (bZ 5 rfl rfl) bX)) rfl rfl (by kernel_rfl) (dZ rfl (gQ U_30 Z_29 (Ht rfl) (Ht rfl) hqi zo (by rw [Nat.mul_one,Nat.zero_add]))) ?_)))
    refine Y.D_step (Ei:=[(81,_)]) rfl rfl (bQ (bZ 6 rfl rfl) bX) rfl rfl (by kernel_rfl) (dZ rfl (mK A_29 Z_29 (Ht rfl) (j:=0) rfl zo)) (Y.D_step (Ei:=[(10,_)]) rfl rfl (bQ (bJ rfl rfl) bX) rfl rfl (by kernel_rfl) (dZ rfl (cZ (Ht rfl))) (Y.D_step (Ei:=[(82,_),(83,_)]) rfl rfl (bQ (bZ 7 rfl rfl) (bQ (bZ 8 rfl rfl) bX)) rfl rfl (by kernel_rfl) (dZ rfl (pP U_29 Z_51 (Ht rfl) (Ht rfl) hqi (j:=0) rfl zo zo zo)) ?_))
    refine Y.D_step (Ei:=[(84,_)]) rfl rfl (bQ (bZ 9 rfl rfl) bX) rfl rfl (by kernel_rfl) (dZ rfl (vB A_51 Z_51 (Ht rfl) (j:=0) rfl zo zo zo)) (Y.D_step (Ei:=[(78,_),(85,_)]) rfl rfl (bQ (bZ 3 rfl rfl) (bQ (bZ 10 rfl rfl) bX)) rfl rfl (by kernel_rfl) (dZ rfl (cF uZ Tryz.call40 (a0k (x:=(pG U (rE U n k) n q k)) (y:=gm U q q) (L:=eD L n + k * (eD L n + rX (eD L n) k + 2)) (M:=eD L n) zo) (Ht rfl) ⟨(Ht rfl),trivial⟩)) (Y.D_step (Ei:=[(86,_)]) rfl rfl (bQ (bZ 11 rfl rfl) bX) rfl rfl (by kernel_rfl) (dZ rfl (cZ (Ht rfl))) ?_))
    refine Y.D_step (Ei:=[(74,_)]) rfl rfl (bQ (bZ 12 rfl rfl) bX) rfl rfl (by kernel_rfl) (dZ rfl (dU (Ht rfl) rfl)) (cQ (Ei:=[(74,_)]) rfl rfl (bQ (bZ 12 rfl rfl) bX) rfl rfl (dZ rfl (dU (Ht rfl) rfl)) (Y.D_step (Ei:=[(75,_),(76,_)]) rfl rfl (bQ (bZ 0 rfl rfl) (bQ (bZ 1 rfl rfl) bX)) rfl rfl (by kernel_rfl) (dZ rfl (cR U_29 Z_51 (Ht rfl) (Ht rfl) hqi (i:=1) rfl (by rw [List.length_map]; omega) rfl)) ?_))
    refine Y.D_putI (Ei:=[(89,_),(87,_)]) 1 rfl rfl rfl (bQ (bZ 15 rfl rfl) (bQ (bZ 13 rfl rfl) bX)) (.head _) rfl (Tl Z_51 (Ht rfl) (Ht rfl) (El.ag rfl) (i:=0) rfl rfl (by rw [List.length_map]; omega)) ?_
    refine Y.D_done bA rfl (by kernel_rfl) rfl (by simp [Y.okP]) rfl rfl (bU (bU (bU (bU (bU (bU (bU (bU (bU (bU (bU (bU (bU (bU (bU (bU (Y.F_putI (Y.F_nil ?_))))))))))))))))))
    refine eZ (aT (dQ (rm rfl (ro rfl (gE (Ht rfl) cW (yA zo)) (ra rfl (eZ (bI [0,1] rfl (by decide) (fY (k + 1) hjn zo (aQ rfl (aQ rfl (aQ rfl (aZ rfl (aO zo) aX)))) (aU (fun _ _ _ h=>h) (aU (aN (by rw [fI,rE,← hq])) aY))))))))))
  ·obtain rfl : j = n := Nat.le_antisymm hj (a6I (by have h := of_decide_eq_false hc; omega))
   refine gV (i:=1) (tt:=9) rfl rfl gK (gW rfl (ts (rm rfl (ra rfl (ro rfl (cX (cV 0)) (eZ (bR rfl (fZ (eY rfl) ?_) (fZ (eY rfl) ?_))))))))
   ·exact (mB (by rw [he,jB,← hU]; rfl))
   ·exact (aO he.symm)
end
section
open Go Go.RowKit
abbrev ek (n k:Nat):List Qi:=(Df n).getD k []
theorem a12 {n k L:Nat} (h:1 ≤ L):cH (ek n k) L:=(a3n h).row k
def Rv (M:List (List Qi)) (n:Nat):Int:=jQ (fun k=>kO M (ek n k) n) n
def Ol (M:List (List Qi)) (n:Nat):List (List Qi):=tab n fun r=>tab n fun j=>gv (jB M (ek n j) n) r
theorem vS {α:Type} {n i:Nat} {f:Nat → α} {d:α} (h:i < n):(tab n f).getD i d = f i:=by simp [List.getD,dH h]
end
section
open Go Go.RowKit
section
variable {P:Program} {R:iO} {cx:Cx} {n:Nat} {k:List It} {E:dB} {H:Hp}
theorem qE (i l off : Nat) {B : Nat} {BT : TypeId} {Us : List Ty} {v : Value} {A : SA} {T : Ty} (hB : H[i]? = some (box B BT Us)) (hU : Us[off]? = some (Is v)) (hL : H[l]? = some A) (hne : i ≠ l) (hT : ∀ S V, A.h S V V → T.p v V)
  (h:Tr P R cx n k E ((H.set l SA.emp).set i (box B BT (Us.set off T)))):Tr P R cx n k E H:=fun a w ⟨V,hi,hs⟩=>by
 obtain ⟨V',S,hle,hi',hA⟩:=hi.freeze hL
 have hT:=hT S V' hA
 refine h a w ⟨V',hi'.withHH ?_,hs.mono hle⟩
 obtain ⟨F,h1,h2⟩:=hi'.hp
 have hB':(H.set l SA.emp)[i]? = some (box B BT Us):=by rw [List.getElem?_set_ne (Ne.symm hne)]; exact hB
 have hil:=(List.getElem?_eq_some_iff.1 hB').1
 refine ⟨F,fun q A hq=>?_,fun q r b hq hr=>h2 q r b (by simpa using hq) (by simpa using hr)⟩
 by_cases c:i = q
 ·subst c
  rw [List.getElem?_set_self hil] at hq
  obtain rfl:=Option.some.inj hq
  obtain ⟨⟨k1,cs,k2,k3⟩,k4⟩:=h1 i _ hB'
  obtain ⟨u,u1,u2⟩:=k3.get hU
  obtain rfl:u = v:=u2
  have hset : cs.set off u = cs := by
   apply List.ext_getElem?
   intro j
   by_cases cj:off = j
   ·subst cj; rw [List.getElem?_set_self (List.getElem?_eq_some_iff.1 u1).1,u1]
   ·rw [List.getElem?_set_ne cj]
  refine ⟨⟨k1,cs,k2,?_⟩,k4⟩
  have:=k3.set off (v:=u) hT (k3.pl u (List.mem_of_getElem? u1))
  rwa [hset] at this
 ·rw [List.getElem?_set_ne c] at hq
  exact h1 q A hq
theorem a3h {B e l : Nat} {BT : TypeId} {F : Qi → Ty} {q : Value → Prop} {M : List (List Qi)} (hl : l = M.length) : ∀ S V, (kK q B BT e 5 (bS F M)).h S V V → (jA 1 (M.map fun r => jA 5 (r.map F))).p (.slice (some ⟨B, 0, none⟩) l l) V := fun S V h =>
 iT (s:=5) (M:=M) hl _ S V rfl h
end
abbrev fN (l:List Nat):Ty:=jA 1 (l.map (NT .i64))
end
section
open Go Go.RowKit
abbrev gnI (G:List Nat):List Int:=G.map fun (q:Nat)=>(q:Int) + 1
def dO (G : List Nat) : Nat → List Nat
 | 0=>[]
 | k + 1=>dO G k ++ (if k ∈ G then [] else [k])
theorem wL (G : List Nat) : ∀ k, (dO G k).length ≤ k
 | 0=>Nat.le_refl _
 | k + 1 => by
  have:=wL G k
  simp only [dO,List.length_append]
  split
  ·simp; omega
  ·simp; omega
theorem qL {G : List Nat} : ∀ {k x : Nat}, x ∈ dO G k → x < k
 | 0,x,h=>by cases h
 | k + 1, x, h => by
  rcases List.mem_append.1 h with h1 | h1
  ·have:=qL h1; omega
  ·split at h1
   ·cases h1
   ·have:=List.mem_singleton.1 h1; omega
theorem a1e {G:List Nat} {i:Nat}:((gnI G).any fun x=>decide (((i + 1:Nat):Int) = x)) = decide (i ∈ G):=by
 rw [Bool.eq_iff_iff]
 simp only [gnI,List.any_map,List.any_eq_true,Function.comp,decide_eq_true_eq]
 constructor
 ·rintro ⟨q, h1, h2⟩
  obtain rfl:i = q:=by omega
  exact h1
 ·intro h; exact ⟨i,h,by omega⟩
abbrev cB (Q:List Nat) (i:Nat):Nat:=Q.getD i 0
def pH (z:List Qi) (Q:List Nat):List Qi:=tab Q.length fun i=>gv z (cB Q i)
def sG (s:List (List Qi)) (Q:List Nat):List (List Qi):=tab Q.length fun i=>tab Q.length fun j=>gm s (cB Q i) (cB Q j)
theorem oB {Q:List Nat} {n i:Nat} (h:∀ x,x ∈ Q → x < n) (hi:i < Q.length):cB Q i < n:=h _ (by rw [show cB Q i = Q[i] by simp [cB,List.getD,hi]]; exact List.getElem_mem hi)
theorem mN {Q:List Nat} {i:Nat} (h:i < Q.length):(Q.map Nat.succ)[i]? = some (cB Q i + 1):=by simp [cB,List.getD,h]
end
section
open Go Go.RowKit
theorem Fe:Tryz.prog.info? 3 = some Tryz.t3:=by kernel_rfl
theorem Hi:Tryz.prog.underlying 72 = some (.slice 3):=by kernel_rfl
end
section
open Go Go.RowKit
theorem Ra {l:List Int} {v:Int} (hl:l.length ≤ 1000000):bL Tryz.prog 192 [jA 1 (l.map (aL .i64)),aL .i64 v] (aL .i64 (Li (fun x=>decide (v = x)) l)):=by
 refine bL.intro Tryz.func192 rfl Tryz.ntmps192 rfl (fun cx=>(ts (ro rfl (cX (cV 0)) (eZ (cU (ts (rm rfl (ro rfl (dK U_72 (Ht rfl) aA) (ro rfl (cZ (cV 0)) (eZ (eK ?_)))))))))))
 refine bP (fun (k : Nat) => k ≤ l.length ∧ ∀ (i : Nat) (x : Int), i < k → l[i]? = some x → decide (v = x) = false) (fun (k : Nat) => l.length - k) (fun (k : Nat) => [(0, jA 1 (l.map (aL .i64))), (1, aL .i64 v), (7, NT .i64 l.length), (8, NT .i64 k)]) (fun (k : Nat) => []) 0 ⟨Nat.zero_le _, fun i x h => by omega⟩
  (zS rfl) aY (fun k ⟨hk,hn⟩=>?_)
 refine ts (ro rfl (gZ (Ht rfl) (Ht rfl)) (eZ (cU (dX (Ht rfl) (fun hb=>?_) (fun hb=>?_)))))
 ·simp only [decide_eq_true_eq] at hb
  refine cY (cU (eK (ts (rm rfl (ra rfl (eZ (ts (rm rfl (rm rfl (rm rfl (ro rfl (dJ U_72 Z_3 (Ht rfl) (Ht rfl) rfl (eQ (nY hb))) (ro rfl (dV A_3 Z_3 (Ht rfl)) (ro rfl (iQ (Ht rfl) (Ht rfl)) (eZ (dX (Ht rfl) (fun hc=>?_) (fun hc=>?_))))))))))))))))
  ·refine ts (rm rfl (ra rfl (eZ (fG rfl (fZ (eY rfl) ?_)))))
   exact (aO (Lj (p:=fun x=>decide (v = x)) (nY hb) hc hn).symm)
  ·refine cY (aT (dQ (ro rfl (dW (Ht rfl) (cV 1) z6) (rm rfl (eZ ?_)))))
   refine fY (k + 1) ⟨hb, fun i x h1 h2 => by
    by_cases e:i = k
    ·subst e; rw [nY hb] at h2; obtain rfl:=Option.some.inj h2; exact hc
    ·exact hn i x zo h2⟩ zo (zS rfl) aY
 ·simp only [decide_eq_false_iff_not] at hb
  refine gW rfl (ts (ro rfl (cX cW) (eZ (fG rfl (fZ (eY rfl) ?_)))))
  exact (aO (Ad (p:=fun x=>decide (v = x)) (fun i x h=>hn i x (by have:=(List.getElem?_eq_some_iff.1 h).1; omega) h)).symm)
theorem sA {l:List Int} {v:Int} (hl:l.length ≤ 1000000):bL Tryz.prog 95 [jA 1 (l.map (aL .i64)),aL .i64 v] (aH (l.any fun x=>decide (v = x))):=by
 refine bL.intro Tryz.func95 rfl Tryz.ntmps95 rfl (fun cx=>(ts (ro rfl (cX cW) (eZ (ts (rm rfl (rm rfl (ro rfl (cJ Tryz.call192 (Ra zo) ⟨(Ht rfl),(Ht rfl),trivial⟩) (ro rfl (mS (Ht rfl) cW) (ra rfl (eZ (fG rfl (fZ (eY rfl) ?_)))))))))))))
 exact (dN (Fc _ l))
theorem a2T {z:List Qi} {s:List (List Qi)} {G:List Nat} (hl:z.length ≤ 1000) (hG:G.length ≤ 1000):bL Tryz.prog 121 [jI z s,jA 1 ((gnI G).map (aL .i64))] (fN ((dO G z.length).map Nat.succ)):=by
 refine bL.intro Tryz.func121 rfl Tryz.ntmps121 rfl (fun cx=>(ts (rn rfl (fK (Ht rfl)) fun B2=>(ro rfl (cX cW) (eZ (ts (ro rfl (cX cW) (eZ (cU (ts (ro rfl (cX (cV 1)) (eZ (eK (rC 3 1 ?_))))))))))))))
 refine eO (fun (i : Nat) (v : Value) => i ≤ z.length) (fun (i : Nat) (v : Value) => z.length - i) (fun (i : Nat) (v : Value) => [(1, jA 1 ((gnI G).map (aL .i64))), (2, bF B2 0), (5, Is v), (6, NT .i64 (i + 1))]) (fun (i : Nat) (v : Value) => [box B2 32 [aR z, bM s], bN 3 1 v (((dO G i).map Nat.succ).map (NT .i64))]) 0 (.slice none 0 0) (Nat.zero_le _)
  (zS rfl) (aU (aB rfl) (aU (aN rfl) aY)) (fun i v hi=>?_)
 refine cU (ts (rm rfl (ro rfl (eJ jV (Ht rfl) rfl) (ro rfl (fQ A_29 Z_29 (Ht rfl) (i:=0) rfl rfl) (ro rfl (dK U_29 (Ht rfl) aA) (ro rfl (Dl (Ht rfl) (Ht rfl)) (eZ (dX (Ht rfl) (fun hd=>?_) (fun hd=>?_)))))))))
 ·simp only [decide_eq_true_eq] at hd
  have hcl:=wL G i
  refine cY (cU (eK (lD (fun (v2:Value)=>True) (fun (v2:Value)=>[(1,jA 1 ((gnI G).map (aL .i64))),(2,bF B2 0),(5,Is v2),(6,NT .i64 (i + 1))]) (fun (v2:Value)=>[box B2 32 [aR z,bM s],bN 3 1 v2 (((dO G (i + 1)).map Nat.succ).map (NT .i64))]) ?_ (fun v2 _=>?_))))
  ·refine ts (rm rfl (rm rfl (ro rfl (cJ Tryz.call95 (sA (l := gnI G) (v := ((i + 1 : Nat) : Int)) (by rw [List.length_map]; omega)) ⟨(Ht rfl), (Ht rfl), trivial⟩) ?_)))
   refine ro rfl (fB (Ht rfl)) (eZ (dX (Ht rfl) (fun he=>?_) (fun he=>?_)))
   ·rw [a1e] at he
    have he2:i ∉ G:=by simpa using he
    have hnx:dO G (i + 1) = dO G i ++ [i]:=by rw [dO,if_neg he2]
    refine dQ (rm rfl (rm rfl (ro rfl (cA (xs:=[.tmp 19]) U_72 Z_3 O_3 (cG (Ht rfl) cK) rfl rfl rfl) (lC (inf:=Tryz.t3) Hi Fe rfl rfl rfl (Ht rfl) (Ht rfl) (i:=1) rfl (by simp) (fun T hT=>by simp at hT; subst hT; exact El.one) (by show _ * 8 ≤ _; simp only [List.length_map,List.length_cons,List.length_nil]; omega) (by simp only [List.length_map,List.length_cons,List.length_nil]; omega) rfl (fun v3=>?_)))))
    refine ra rfl (eZ (bT v3 trivial (zS rfl) (aU (aB rfl) (aU (aN (by rw [hnx,List.map_append,List.map_append]; rfl)) aY))))
   ·rw [a1e] at he
    have he2:i ∈ G:=by simpa using he
    have hnx:dO G (i + 1) = dO G i:=by rw [dO,if_pos he2,List.append_nil]
    refine cY (bT v trivial (zS rfl) (aU (aB rfl) (aU (aN (by rw [hnx])) aY)))
  ·refine aT (dQ (rm rfl (ro rfl (dW (Ht rfl) (cV 1) z6) (ra rfl (eZ (fY (i + 1,v2) hd (by dsimp only; omega) (zS rfl) (dD.refl _)))))))
 ·simp only [decide_eq_false_iff_not] at hd
  obtain rfl:z.length = i:=Nat.le_antisymm zo hi
  refine gW rfl (gV (i:=1) (tt:=5) rfl rfl gK (ts (rm rfl (ra rfl (eZ ?_)))))
  exact fG rfl (eY rfl)
theorem a2V {z:List Qi} {s:List (List Qi)} {Q:List Nat} {m:Nat} (hs:cP s z.length z.length) (hQ:∀ x,x ∈ Q → x < z.length) (hm:Q.length = m) (hm2:m ≤ 1000) (hl:z.length ≤ 1000) {i j:Nat} (hi:i < m) (hj:j < m):bL Tryz.prog 206 [NT .i64 i,NT .i64 j,PT (jI z s),PT (fN (Q.map Nat.succ))] (aF (gm s (cB Q i) (cB Q j))):=by
 have hki:cB Q i < z.length:=oB hQ zo
 have hkj:cB Q j < z.length:=oB hQ zo
 have hsl:=hs.1
 have hsr:=hs.row hki
 refine bL.intro Tryz.func206 rfl Tryz.ntmps206 rfl (fun cx=>(ts (rn rfl (eG (Ts:=[Is (.bool false),Is (.slice none 0 0),Is (.bool false),Is (.slice none 0 0),Is (.slice none 0 0)]) O_51 rfl (fun V=>aW zd (aW zd (aW zd (aW zd (aW zd (aG))))))) fun B6=>(eZ (cU (fJ (m:=14) (dp 2 rfl (rV oI (Ht rfl) rfl) (dq 7 0 rfl (dV A_30 Z_30 (Ht rfl)) (dp 3 rfl (dV A_72 Z_72 (Ht rfl)) (dp 0 rfl (cZ (Ht rfl)) ?_))))))))))
 refine dT 9 2 10 3 rfl (dJ U_72 Z_3 (Ht rfl) (Ht rfl) rfl (eQ (mN zo))) (dq 11 4 rfl (dV A_3 Z_3 (Ht rfl)) (dq 12 5 rfl (aI.nat (dG (Ht rfl) (cV 1) zo z6) (show cB Q i + 1 - 1 = cB Q i by omega)) (dT 8 1 13 6 rfl (dJ U_30 Z_29 (Ht rfl) (Ht rfl) rfl (eQ (dY (d:=[]) zo))) (dq 14 7 rfl (dV A_29 Z_29 (Ht rfl)) (dp 3 rfl (dV A_72 Z_72 (Ht rfl)) ?_)))))
 refine dp 1 rfl (cZ (Ht rfl)) (dT 16 9 17 10 rfl (dJ U_72 Z_3 (Ht rfl) (Ht rfl) rfl (eQ (mN zo))) (dq 18 11 rfl (dV A_3 Z_3 (Ht rfl)) (dq 19 12 rfl (aI.nat (dG (Ht rfl) (cV 1) zo z6) (show cB Q j + 1 - 1 = cB Q j by omega)) (fW bA rfl (by kernel_rfl) (zF (zF (zF (aJ (aJ (aV (ro rfl (dJ U_29 Z_51 (Ht rfl) (Ht rfl) rfl (eQ (dY (d:=Qi.zero) zo))) ?_)))))))))))
 refine ro rfl (dV A_51 Z_51 (Ht rfl)) (gX Z_51 (Ht rfl) (Ht rfl) rfl (i:=0) rfl (aK rfl) rfl rfl (eZ ?_))
 exact fG rfl (fU A_51 Z_51 rfl (i:=0) rfl rfl)
theorem Uk {z:List Qi} {s:List (List Qi)} {Q:List Nat} {m:Nat} (hs:cP s z.length z.length) (hQ:∀ x,x ∈ Q → x < z.length) (hm:Q.length = m) (hm2:m ≤ 1000) (hl:z.length ≤ 1000):iI Tryz.prog 122 [jI z s,fN (Q.map Nat.succ)] [] (Nat) (fun B=>eI [aR (pH z Q),Is (.slice (some ⟨B,0,none⟩) m m)]) (fun B=>[pE B 29 51 5 (bS aF (sG s Q))]) (fun _=>True):=by
 have hll:(Q.map Nat.succ).length = m:=by rw [List.length_map]; exact hm
 refine iI.intro Tryz.func122 rfl Tryz.ntmps122 rfl (fun cx Z=>(ts (rn rfl (fK (Ht rfl)) fun B2=>(rn rfl (Fr (Ht rfl)) fun B3=>(rn rfl (eG (Ts:=[Is (.slice none 0 0),Is (.slice none 0 0)]) O_32 rfl (fun V=>aW zd (aW zd (aG)))) fun B4=>(eZ (cU (gV (i:=1) (tt:=2) rfl rfl yN (gV (i:=2) (tt:=3) rfl rfl nD (dQ (ro rfl (dV A_72 Z_72 (Ht rfl)) (ro rfl (dK U_72 (Ht rfl) (by rw [List.length_map,hll])) ?_))))))))))))
 refine rn rfl (kS (T:=aF Qi.zero) (i:=Tryz.t51) kX jD rfl rfl (Ht rfl) rfl kM (El.ag rfl) (by show 88 * _ ≤ _; omega) zo) fun B10=>ra rfl (eZ (cU (ts (ro rfl (dV A_72 Z_72 (Ht rfl)) (ro rfl (dK U_72 (Ht rfl) (by rw [List.length_map,hll])) ?_)))))
 refine ro rfl (cZ (cV 0)) (eZ (eK (bI [0,3,4] rfl (by decide) ?_)))
 refine bP (fun (i : Nat) => i ≤ m) (fun (i : Nat) => m - i) (fun (i : Nat) => [(2, PT (jI z s)), (3, PT (fN (Q.map Nat.succ))), (4, bF B4 0), (5, Is B10), (11, fN (Q.map Nat.succ)), (12, NT .i64 m), (13, NT .i64 i)]) (fun (i : Nat) => [Z, box B4 32 [Is (.slice none 0 0), Is (.slice none 0 0)], bN 51 5 B10 ((iP (fun i => gv z (cB Q i)) Qi.zero m i).map aF)]) 0 (Nat.zero_le _)
  (zS rfl) (aU (fun _ _ _ h=>h) (aU (fun _ _ _ h=>h) (aU (aN (by rw [← fF]; exact Du aF m)) aY))) (fun i hi=>?_)
 refine ts (ro rfl (gZ (Ht rfl) (Ht rfl)) (eZ (cU (dX (Ht rfl) (fun hd=>?_) (fun hd=>?_)))))
 ·simp only [decide_eq_true_eq] at hd
  have hki:cB Q i < z.length:=oB hQ zo
  refine cY (cU (eK (ts (rm rfl (ro rfl (dJ U_72 Z_3 (Ht rfl) (Ht rfl) rfl (eQ (mN zo))) (ro rfl (dV A_3 Z_3 (Ht rfl)) (ra rfl (ra rfl (eZ (dQ (rm rfl (rm rfl (ro rfl (rV jV (Ht rfl) rfl) (ro rfl (dV A_29 Z_29 (Ht rfl)) (rm rfl (ro rfl (aI.nat (dG (Ht rfl) (cV 1) zo z6) (show cB Q i + 1 - 1 = cB Q i by omega)) (ro rfl (dJ U_29 Z_51 (Ht rfl) (Ht rfl) rfl (eQ (dY (d:=Qi.zero) hki))) ?_)))))))))))))))))
  refine ro rfl (dV A_51 Z_51 (Ht rfl)) (ro rfl (cR U_29 Z_51 (Ht rfl) (Ht rfl) rfl (i:=2) rfl (by rw [List.length_map,cL]; omega) rfl) ?_)
  refine jS Z_51 (Ht rfl) (Ht rfl) (El.ag rfl) (i:=2) rfl rfl (by rw [List.length_map,cL]; omega) rfl ?_
  refine eZ (aT (dQ (ro rfl (dW (Ht rfl) (cV 1) z6) (rm rfl (eZ (fY (i + 1) hd zo (zS rfl) (aU (fun _ _ _ h=>h) (aU (fun _ _ _ h=>h) (aU (aN (by rw [fI,← fR (f:=(fun i=>gv z (cB Q i)))])) aY)))))))))
 ·simp only [decide_eq_false_iff_not] at hd
  obtain rfl:m = i:=Nat.le_antisymm zo hi
  rw [gO]
  refine gW rfl (gV (i:=2) (tt:=5) rfl rfl gK ?_)
  rw [show pH z Q = tab m fun i=>gv z (cB Q i) from by rw [pH,hm],show sG s Q = tab m fun i=>tab m fun j=>gm s (cB Q i) (cB Q j) from by rw [sG,hm]]
  refine ts (rm rfl (ro rfl (dV A_72 Z_72 (Ht rfl)) (ro rfl (dK U_72 (Ht rfl) (by rw [List.length_map,hll])) ?_)))
  refine ro rfl (pO (γ:=Fin m × Fin m) (Ts:=fun x=>[NT .i64 x.1.1,NT .i64 x.2.1]) (U:=fun x=>aF (gm s (cB Q x.1.1) (cB Q x.2.1))) Tryz.call206 (fun x=>a2V hs hQ hm hm2 hl x.1.2 x.2.2) ⟨(Ht rfl),(Ht rfl),trivial⟩) (kZ Tryz.call114 (Uh (n:=m) (f:=fun i j=>gm s (cB Q i) (cB Q j)) zo) ⟨(Ht rfl),(Ht rfl),trivial⟩ rfl (fun B32 _=>(ro rfl (xH (Ht rfl) (Ht rfl)) (gX Z_32 (Ht rfl) (Ht rfl) rfl (i:=1) rfl (aK rfl) rfl rfl (eZ ?_)))))
  exact jP B32 trivial [0,3] ⟨⟨_,rfl,fun _ _ _ h=>h⟩,⟨_,rfl,fun _ _ _ h=>h⟩,trivial⟩ (by decide) (vN rfl (fU A_32 Z_32 rfl (i:=1) rfl rfl))
theorem Kv {n:Int} (h1:-9223372036854775808 ≤ n) (h2:n ≤ 9223372036854775807):bL Tryz.prog 109 [aL .i64 n] (aF (Qi.ofInt n)):=by
 refine bL.intro Tryz.func109 rfl Tryz.ntmps109 rfl (fun cx=>(ts (rn rfl (eG (Ts:=[Is (.bool false),Is (.slice none 0 0),Is (.bool false),Is (.slice none 0 0),Is (.slice none 0 0)]) O_51 rfl (fun V=>aW zd (aW zd (aW zd (aW zd (aW zd (aG))))))) fun B2=>(eZ (ts (rn rfl (eG (Ts:=[Is (.bool false),Is (.slice none 0 0),Is (.bool false),Is (.slice none 0 0),Is (.slice none 0 0)]) O_51 rfl (fun V=>aW zd (aW zd (aW zd (aW zd (aW zd (aG))))))) fun B3=>?_))))))
 refine eZ (cU (fJ (m:=4) (dp 3 rfl (eW A_51 Z_51 (Ht rfl) (i:=1) rfl rfl rfl) (dq 4 0 rfl (cO eA (Ht rfl)) (dp 0 rfl (cZ (Ht rfl)) (dq 6 2 rfl (cJ K_77 (uE (n:=n) h1 h2) ⟨(Ht rfl),trivial⟩) (fW bA rfl (by kernel_rfl) (zF (aV (ro rfl (cF tT Tryz.call302 Ud (Ht rfl) ⟨(Ht rfl),trivial⟩) (gX Z_51 (Ht rfl) (Ht rfl) rfl (i:=0) rfl (aK rfl) rfl rfl (eZ ?_))))))))))))
 exact fG rfl (fU A_51 Z_51 rfl (i:=0) rfl rfl)
end
section
open Go Go.RowKit
def wV (x : Qi) (l m : List Qi) : Nat → Qi
 | 0=>x
 | k + 1=>wV x l m k + gv l k * gv m k
theorem yI {x : Qi} {l m : List Qi} {L M : Nat} (hx : aM x M) (hl : cH l L) (hm : cH m L) (hL : 1 ≤ L) : ∀ k, aM (wV x l m k) (M + k * (2 * L + 2))
 | 0=>hx.le zo
 | k + 1 => by
  haveI f1:=yI hx hl hm hL k
  haveI f2:=hl.get hL k
  haveI f3:=hm.get hL k
  have:aM (wV x l m (k + 1)) (M + k * (2 * L + 2) + (L + L + 1) + 1):=by unfold wV; infer_instance
  exact this.le (by rw [Nat.add_mul]; omega)
end
section
open Go Go.RowKit
theorem a6P {x:Qi} {l m:List Qi} {L M n:Nat} (hx:aM x M) (hl:cH l L) (hm:cH m L) (hL:1 ≤ L) (hll:l.length = n) (hml:m.length = n) (hn:n ≤ 1000) (hb:M + n * (2 * L + 2) ≤ 17592186044415):bL Tryz.prog 123 [aF x,aR l,aR m] (aF (wV x l m n)):=by
 refine bL.intro Tryz.func123 rfl Tryz.ntmps123 rfl (fun cx=>(ts (rn rfl (fK (Ht rfl)) fun B3=>(rn rfl (eG (Ts:=[Is (.bool false),Is (.slice none 0 0),Is (.bool false),Is (.slice none 0 0),Is (.slice none 0 0)]) O_51 rfl (fun V=>aW zd (aW zd (aW zd (aW zd (aW zd (aG))))))) fun B6=>(eZ (cU (ts (rm rfl (ro rfl (dK U_29 (Ht rfl) (by rw [List.length_map,hll])) ?_)))))))))
 refine ro rfl (cZ (cV 0)) (eZ (eK ?_))
 refine bP (fun (k : Nat) => k ≤ n) (fun (k : Nat) => n - k) (fun (k : Nat) => [(1, aR l), (2, aR m), (3, bF B3 0), (6, bF B6 0), (9, NT .i64 n), (10, NT .i64 k)]) (fun (k : Nat) => [box B3 51 [aH (decide ((wV x l m k).a < 0)), bC (wV x l m k).a.natAbs, aH (decide ((wV x l m k).b < 0)), bC (wV x l m k).b.natAbs, bC (du (wV x l m k))], box B6 51 [Is (.bool false), Is (.slice none 0 0), Is (.bool false), Is (.slice none 0 0), Is (.slice none 0 0)]]) 0 (Nat.zero_le _)
  (zS rfl) (dD.refl _) (fun k hk=>?_)
 refine ts (ro rfl (gZ (Ht rfl) (Ht rfl)) (eZ (cU (dX (Ht rfl) (fun hd=>?_) (fun hd=>?_)))))
 ·simp only [decide_eq_true_eq] at hd
  haveI f1:=yI hx hl hm hL k
  haveI f2:=hl.get hL k
  haveI f3:=hm.get hL k
  have hkn:(k + 1) * (2 * L + 2) ≤ n * (2 * L + 2):=Nat.mul_le_mul_right _ hd
  rw [Nat.add_mul] at hkn
  refine cY (cU (eK (ts (rm rfl (ra rfl (eZ (fJ (m:=12) (dp 3 rfl (eW A_51 Z_51 (Ht rfl) (i:=0) rfl rfl rfl) (dq 13 0 rfl (cO eA (Ht rfl)) (dp 1 rfl (cZ (Ht rfl)) (dp 7 rfl (cZ (Ht rfl)) (dT 15 2 16 3 rfl (dJ U_29 Z_51 (Ht rfl) (Ht rfl) rfl (eQ (dY (d:=Qi.zero) zo))) (dq 17 4 rfl (dV A_51 Z_51 (Ht rfl)) (dq 18 5 rfl (cO eA (Ht rfl)) (dp 2 rfl (cZ (Ht rfl)) (dp 7 rfl (cZ (Ht rfl)) (dT 20 7 21 8 rfl (dJ U_29 Z_51 (Ht rfl) (Ht rfl) rfl (eQ (dY (d:=Qi.zero) zo))) ?_)))))))))))))))))
  refine dq 22 9 rfl (dV A_51 Z_51 (Ht rfl)) (dT 19 6 23 10 rfl (cF gT K_45 (rG (x:=gv l k) (y:=gv m k) (L:=L) (M:=L) zo) (Ht rfl) ⟨(Ht rfl),trivial⟩) (fW bA rfl (by kernel_rfl) (zF (zF (zF (aV (ro rfl (cF uY Tryz.call46 (Nb (x:=wV x l m k) (y:=gv l k * gv m k) (L:=M + k * (2 * L + 2)) (M:=L + L + 1) zo) (Ht rfl) ⟨(Ht rfl),trivial⟩) (gX Z_51 (Ht rfl) (Ht rfl) rfl (i:=0) rfl (aK rfl) rfl rfl ?_))))))))
  refine eZ (aT (dQ (ro rfl (dW (Ht rfl) (cV 1) z6) (rm rfl (eZ (fY (k + 1) hd zo (zS rfl) (dD.refl _)))))))
 ·simp only [decide_eq_false_iff_not] at hd
  obtain rfl:k = n:=Nat.le_antisymm hk zo
  refine gW rfl (ts (ro rfl (eW A_51 Z_51 (Ht rfl) (i:=0) rfl rfl rfl) (gX Z_51 (Ht rfl) (Ht rfl) rfl (i:=1) rfl (aK rfl) rfl rfl (eZ ?_))))
  exact fG rfl (fU A_51 Z_51 rfl (i:=1) rfl rfl)
end
section
open Go Go.RowKit
namespace Qi
def npow' (x : Qi) : Nat → Qi
 | 0=>Qi.ofInt 1
 | k + 1=>npow' x k * x
theorem one_mul2 (x:Qi):Qi.ofInt 1 * x = x:=ext' (by show ((1:Int):Rat) * x.re - 0 * x.im = x.re; grind) (by show ((1:Int):Rat) * x.im + 0 * x.re = x.im; grind)
theorem mul_one2 (x:Qi):x * Qi.ofInt 1 = x:=by rw [mul_comm',one_mul2]
end Qi
instance qiField:Lean.Grind.CommRing Qi where
 natCast:=⟨fun n=>Qi.ofInt n⟩
 ofNat n:=⟨Qi.ofInt n⟩
 nsmul:=⟨fun n x=>Qi.ofInt n * x⟩
 npow:=⟨Qi.npow'⟩
 add_zero:=Qi.add_zero'
 add_comm:=Qi.add_comm'
 add_assoc:=Qi.add_assoc'
 mul_assoc:=Qi.mul_assoc'
 mul_comm:=Qi.mul_comm'
 mul_one:=Qi.mul_one2
 one_mul:=Qi.one_mul2
 left_distrib:=Qi.mul_add'
 right_distrib:=Qi.add_mul'
 zero_mul:=Qi.zero_mul'
 mul_zero:=Qi.mul_zero'
 pow_zero _:=rfl
 pow_succ _ _:=rfl
 ofNat_succ n:=Qi.ext' (by show (((n + 1:Nat):Int):Rat) = ((n:Int):Rat) + ((1:Int):Rat); rw [Int.natCast_add,Rat.intCast_add]; rfl) (by show (0:Rat) = 0 + 0; grind)
 intCast:=⟨Qi.ofInt⟩
 zsmul:=⟨fun n x=>Qi.ofInt n * x⟩
 neg_add_cancel x:=Qi.ext' (by show -x.re + x.re = ((0:Int):Rat); grind) (by show -x.im + x.im = 0; grind)
 sub_eq_add_neg:=Qi.sub_def
 neg_zsmul i x:=Qi.ext' (by show ((-i:Int):Rat) * x.re - 0 * x.im = -((i:Rat) * x.re - 0 * x.im); rw [Rat.intCast_neg]; grind) (by show ((-i:Int):Rat) * x.im + 0 * x.re = -((i:Rat) * x.im + 0 * x.re); rw [Rat.intCast_neg]; grind)
 intCast_neg i:=Qi.ext' (Rat.intCast_neg i) (by show (0:Rat) = -0; grind)
theorem q0:Qi.zero = 0:=rfl
theorem q1:Qi.ofInt 1 = 1:=rfl
theorem Fp {x:Qi} (h:x ≠ 0):x * Qi.inv x = 1:=by
 have hn:x.nrm ≠ 0:=fun e=>h (Qi.nrm_zero.1 e)
 have e:x.re * x.re + x.im * x.im = x.nrm:=rfl
 refine Qi.ext' ?_ ?_
 ·show x.re * (x.re / x.nrm) - x.im * (-x.im / x.nrm) = ((1 : Int) : Rat)
  grind
 ·show x.re * (-x.im / x.nrm) + x.im * (x.re / x.nrm) = 0
  grind
theorem Ky {x y:Qi} (h:y ≠ 0):x / y * y = x:=by
 rw [Qi.div_def]
 have:=Fp h
 grind
theorem a15 {x y z:Qi} (h:y ≠ 0) (e:x = z * y):x / y = z:=by
 have h1:=Ky (x:=x) h
 have h2:=Fp h
 grind
theorem oX {x y:Qi} (h:x * y = 0):x = 0 ∨ y = 0:=by
 by_cases e:x = 0
 ·exact .inl e
 ·right; have:=Fp e; grind
end
section
open Go Go.RowKit
theorem qV (m:Nat) (f:Qi) (a b:Nat → Qi):aE m (fun k=>a k - f * b k) = aE m a - f * aE m b:=by
 induction m with
 | zero=>simp only [aE,q0]; grind
 | succ m ih=>simp only [aE,ih]; grind
theorem fA {m i:Nat} (hi:i < m) {f:Nat → Qi} (h:∀ k,k < m → k ≠ i → f k = 0):aE m f = f i:=by
 induction m with
 | zero=>omega
 | succ m ih =>
  by_cases e:i = m
  ·subst e
   have : aE i f = 0 := by
    rw [← q0,← Bj i]
    exact aD fun k hk=>h k zo zo
   simp only [aE,this]; grind
  ·have h1 := ih zo (fun k hk => h k zo)
   have h2:=h m zo zo
   simp only [aE,h1,h2]; grind
theorem iN {m:Nat} {f:Nat → Qi} (h:∀ k,k < m → f k = 0):aE m f = 0:=by
 rw [← q0,← Bj m]; exact aD h
def Ker (M:List (List Qi)) (n m:Nat) (x:Nat → Qi):Prop:=∀ i,i < n → aE m (fun k=>gm M i k * x k) = 0
def Pl (rr rc:List Qi) (c k:Nat):List Qi:=tab rr.length fun j=>if c ≤ j ∧ j < k then gv rr j - gv rr c / gv rc c * gv rc j else gv rr j
def If (M:List (List Qi)) (c r:Nat):List (List Qi):=tab M.length fun i=>if i ≠ c ∧ i < r then Pl (gF M i) (gF M c) c (gF M i).length else gF M i
theorem a21 (M:List (List Qi)) (c r:Nat):(If M c r).length = M.length:=aC _ _
theorem Za (rr rc:List Qi) (c k:Nat):(Pl rr rc c k).length = rr.length:=aC _ _
theorem a22 {M:List (List Qi)} {c r i:Nat} (hi:i < M.length):gF (If M c r) i = if i ≠ c ∧ i < r then Pl (gF M i) (gF M c) c (gF M i).length else gF M i:=by
 simp only [gF,If,List.getD]; rw [dH hi]; rfl
theorem a23 {M:List (List Qi)} {n m c r:Nat} (h:cP M n m):cP (If M c r) n m:=by
 refine ⟨(a21 _ _ _).trans h.1,fun x hx=>?_⟩
 obtain ⟨i,hi,rfl⟩:=iV.1 hx
 have hr:=h.row (i:=i) (by rw [← h.1]; exact hi)
 show (if i ≠ c ∧ i < r then Pl (gF M i) (gF M c) c (gF M i).length else gF M i).length = m
 split
 ·rw [Za]; exact hr
 ·exact hr
theorem Do {M:List (List Qi)} {n m c i j:Nat} (h:cP M n m) (hi:i < n) (hj:j < m):gm (If M c n) i j = if i ≠ c ∧ c ≤ j then gm M i j - gm M i c / gm M c c * gm M c j else gm M i j:=by
 have hr:(gF M i).length = m:=h.row hi
 show gv (gF (If M c n) i) j = _
 rw [a22 (by rw [h.1]; exact hi)]
 by_cases e:i = c
 ·rw [if_neg (fun k=>k.1 e),if_neg (fun k=>k.1 e)]
 ·rw [if_pos ⟨e, hi⟩, Pl, kU zo]
  by_cases e2:c ≤ j
  ·rw [if_pos ⟨e2,by omega⟩,if_pos ⟨e,e2⟩]
  ·rw [if_neg (fun k=>e2 k.1),if_neg (fun k=>e2 k.2)]
theorem Sz {M:List (List Qi)} {p c i:Nat} (hp:p < M.length) (hc:c < M.length):gF (swp [] M p c) i = gF M (if i = c then p else if i = p then c else i):=by
 simp only [gF,swp,List.getD]
 by_cases e:i = c
 ·subst e; rw [List.getElem?_set_self (by simpa using hc),if_pos rfl]; rfl
 ·rw [List.getElem?_set_ne (Ne.symm e), if_neg e]
  by_cases e2:i = p
  ·subst e2; rw [List.getElem?_set_self hp,if_pos rfl]; rfl
  ·rw [List.getElem?_set_ne (Ne.symm e2),if_neg e2]
theorem a3w {M:List (List Qi)} {n m p c:Nat} {x:Nat → Qi} (hl:M.length = n) (hp:p < n) (hc:c < n):Ker (swp [] M p c) n m x ↔ Ker M n m x:=by
 have key : ∀ i, gm (swp [] M p c) i = gm M (if i = c then p else if i = p then c else i) := fun i => by
  funext j; exact congrArg (fun r=>gv r j) (Sz zo zo)
 constructor
 ·intro h i hi
  have h1:=h (if i = c then p else if i = p then c else i) (by split <;> (try split) <;> omega)
  rw [key] at h1
  have e : (if (if i = c then p else if i = p then c else i) = c then p else if (if i = c then p else if i = p then c else i) = p then c else (if i = c then p else if i = p then c else i)) = i := by
   by_cases e1:i = c
   ·subst e1; rw [if_pos rfl]
    by_cases e2:p = i
    ·rw [if_pos e2]; exact e2
    ·rw [if_neg e2,if_pos rfl]
   ·rw [if_neg e1]
    by_cases e2:i = p
    ·subst e2; rw [if_pos rfl,if_pos rfl]
    ·rw [if_neg e2,if_neg e1,if_neg e2]
  rw [e] at h1; exact h1
 ·intro h i hi
  rw [key]; exact h _ (by split <;> (try split) <;> omega)
theorem a3v {M:List (List Qi)} {n m c:Nat} {x:Nat → Qi} (hs:cP M n m) (hc:c < n) (hz:∀ j,j < c → gm M c j = 0):Ker (If M c n) n m x ↔ Ker M n m x:=by
 have key : ∀ i, i < n → i ≠ c → aE m (fun k => gm (If M c n) i k * x k) = aE m (fun k => gm M i k * x k) - gm M i c / gm M c c * aE m (fun k => gm M c k * x k) := fun i hi e => by
  rw [← qV]
  refine aD fun k hk=>?_
  rw [Do hs hi hk]
  by_cases e2:c ≤ k
  ·rw [if_pos ⟨e,e2⟩]; grind
  ·rw [if_neg (fun h=>e2 h.2),hz k zo]; grind
 have keyc:aE m (fun k=>gm (If M c n) c k * x k) = aE m (fun k=>gm M c k * x k):=aD fun k hk=>by rw [Do hs hc hk,if_neg (fun h=>h.1 rfl)]
 constructor
 ·intro h i hi
  have h0:=h c hc
  rw [keyc] at h0
  by_cases e:i = c
  ·rw [e]; exact h0
  ·have h1 := h i hi
   rw [key i hi e,h0] at h1
   grind
 ·intro h i hi
  have h0:=h c hc
  by_cases e:i = c
  ·rw [e,keyc]; exact h0
  ·rw [key i hi e,h0,h i hi]; grind
structure GJ (M A:List (List Qi)) (n m c:Nat):Prop where
 sh:cP A n m
 ker:∀ x,Ker A n m x ↔ Ker M n m x
 off:∀ j,j < c → ∀ i,i < n → i ≠ j → gm A i j = 0
 dg:∀ j,j < c → gm A j j ≠ 0
theorem GJ.next {M A:List (List Qi)} {n m c p:Nat} (h:GJ M A n m c) (hc:c < n) (hnm:n ≤ m) (hcp:c ≤ p) (hp:p < n) (hz:gm A p c ≠ 0):GJ M (If (swp [] A p c) c n) n m (c + 1):=by
 have hs:cP (swp [] A p c) n m:=Dt h.sh hp hc
 have hl:=h.sh.1
 have key : ∀ i, gm (swp [] A p c) i = gm A (if i = c then p else if i = p then c else i) := fun i => by
  funext j; exact congrArg (fun r=>gv r j) (Sz zo zo)
 have hcc:gm (swp [] A p c) c c ≠ 0:=by rw [key,if_pos rfl]; exact hz
 have hoff : ∀ j, j < c → ∀ i, i < n → i ≠ j → gm (swp [] A p c) i j = 0 := fun j hj i hi hij => by
  rw [key]
  by_cases e1:i = c
  ·rw [if_pos e1]; exact h.off j hj p hp zo
  ·rw [if_neg e1]
   by_cases e2:i = p
   ·rw [if_pos e2]; exact h.off j hj c hc zo
   ·rw [if_neg e2]; exact h.off j hj i hi hij
 refine ⟨a23 hs,fun x=>(a3v hs hc (fun j hj=>hoff j hj c hc zo)).trans ((a3w hl hp hc).trans (h.ker x)),fun j hj i hi hij=>?_,fun j hj=>?_⟩
 ·rw [Do hs hi zo]
  by_cases e:j = c
  ·subst e
   rw [if_pos ⟨hij,Nat.le_refl _⟩]
   have:=Ky (x:=gm (swp [] A p j) i j) hcc
   grind
  ·rw [if_neg (fun k=>by omega)]; exact hoff j zo i hi hij
 ·rw [Do hs zo zo]
  by_cases e:j = c
  ·subst e; rw [if_neg (fun k=>k.1 rfl)]; exact hcc
  ·rw [if_neg (fun k=>by omega),key,if_neg zo,if_neg zo]; exact h.dg j zo
theorem a5J {l:List Qi} {z:Qi} {k:Nat} (h:k < l.length):gv (l ++ [z]) k = gv l k:=by
 simp only [gv,List.getD]; rw [List.getElem?_append_left h]
theorem a5K {l:List Qi} {z:Qi}:gv (l ++ [z]) l.length = z:=by
 simp [gv,List.getD]
theorem a6U {M:List (List Qi)} {b:List Qi} {n i:Nat} (h:cP M n n) (hi:i < n):(∀ k,k < n → gm (nT M [b] n) i k = gm M i k) ∧ gm (nT M [b] n) i n = gv b i:=by
 obtain ⟨r,hr⟩:∃ r,r = gF M i:=⟨_,rfl⟩
 have hl:r.length = n:=by rw [hr]; exact h.row hi
 have e : gF (nT M [b] n) i = r ++ [gv b i] := by
  rw [hr]; simp only [gF,nT,List.getD]; rw [dH hi]; rfl
 refine ⟨fun k hk=>?_,?_⟩
 ·show gv (gF (nT M [b] n) i) k = gv (gF M i) k
  rw [e,← hr,a5J zo]
 ·show gv (gF (nT M [b] n) i) n = gv b i
  rw [e,← hl,a5K]
theorem Ro {M:List (List Qi)} {b:List Qi} {n i:Nat} (h:cP M n n) (hi:i < n) (x:Nat → Qi):aE (n + 1) (fun k=>gm (nT M [b] n) i k * x k) = aE n (fun k=>gm M i k * x k) + gv b i * x n:=by
 obtain ⟨h1,h2⟩:=a6U (b:=b) h hi
 simp only [aE,h2]
 rw [aD (fun k hk=>by rw [h1 k hk])]
end
section
open Go Go.RowKit
def mG (a b:List (List Qi)) (x y i:Nat):List Qi:=tab (x + y) fun j=>if i < x then (if j < x then gm a i j else Qi.zero) else (if x ≤ j then gm b (i - x) (j - x) else Qi.zero)
def mA (a b:List (List Qi)) (x y:Nat):List (List Qi):=tab (x + y) (mG a b x y)
theorem qU (a b:List (List Qi)) (x y:Nat):cP (mA a b x y) (x + y) (x + y):=⟨aC _ _,fun r hr=>by obtain ⟨i,_,rfl⟩:=iV.1 hr; exact aC _ _⟩
theorem Gv {a b : List (List Qi)} {x y L : Nat} (ha : bB a L) (hb : bB b L) (hL : 1 ≤ L) : bB (mA a b x y) L := fun r hr => by
 obtain ⟨i,_,rfl⟩:=iV.1 hr
 refine cH.tab fun j _=>?_
 split
 ·split
  ·exact ha.get hL _ _
  ·exact aM.zero hL
 ·split
  ·exact hb.get hL _ _
  ·exact aM.zero hL
theorem nN {a b:List (List Qi)} {x y i j:Nat} (hi:i < x + y) (hj:j < x + y):gm (mA a b x y) i j = if i < x then (if j < x then gm a i j else Qi.zero) else (if x ≤ j then gm b (i - x) (j - x) else Qi.zero):=by
 have e:(mA a b x y).getD i [] = mG a b x y i:=by rw [mA,List.getD,dH hi]; rfl
 show gv ((mA a b x y).getD i []) j = _
 rw [e,mG,kU hj]
def Be (f:Nat → Qi) (lo hi n:Nat):List Qi:=tab n fun k=>if lo ≤ k ∧ k < hi then f k else Qi.zero
theorem lN (f:Nat → Qi) (lo hi n:Nat):(Be f lo hi n).length = n:=aC _ _
theorem tZ (f:Nat → Qi) (lo n:Nat):(tab n fun _=>Qi.zero) = Be f lo lo n:=eH fun k _=>by rw [if_neg zo]
theorem wP {f:Nat → Qi} {lo hi n:Nat} (h:lo ≤ hi):(Be f lo hi n).set hi (f hi) = Be f lo (hi + 1) n:=by
 apply List.ext_getElem?
 intro j
 by_cases hj:j < n
 ·by_cases e : j = hi
  ·subst e; rw [List.getElem?_set_self (by rw [lN]; exact hj),Be,dH hj,if_pos zo]
  ·rw [List.getElem?_set_ne (Ne.symm e), Be, Be, dH hj, dH hj]
   by_cases e2:lo ≤ j ∧ j < hi
   ·rw [if_pos e2,if_pos zo]
   ·rw [if_neg e2,if_neg zo]
 ·rw [List.getElem?_eq_none (by rw [List.length_set,lN]; omega),List.getElem?_eq_none (by rw [lN]; omega)]
theorem Pt {a b : List (List Qi)} {x y i : Nat} (h : i < x) : Be (gm a i) 0 x (x + y) = mG a b x y i := eH fun k _ => by
 rw [if_pos h]
 by_cases e:k < x
 ·rw [if_pos ⟨Nat.zero_le _,e⟩,if_pos e]
 ·rw [if_neg (fun k=>e k.2),if_neg e]
theorem Pu {a b : List (List Qi)} {x y i : Nat} : Be (fun k => gm b i (k - x)) x (x + y) (x + y) = mG a b x y (x + i) := eH fun k hk => by
 rw [if_neg (show ¬ x + i < x by omega),show x + i - x = i by omega]
 by_cases e:x ≤ k
 ·rw [if_pos ⟨e,hk⟩,if_pos e]
 ·rw [if_neg (fun k=>e k.1),if_neg e]
end
section
open Go Go.RowKit
theorem a4V {Ts:List Ty} {T:Ty} {z:List Qi} (h:Ts = z.map QT):∀ v V,(eI [jA 5 Ts,T]).p v V → (eI [jA 5 (z.map QT),T]).p v V:=fun _ _ k=>h ▸ k
end
section
open Go Go.RowKit
abbrev pA (ps:List (Nat × Nat)) (k:Nat):Nat:=(ps.getD k (0,0)).1
abbrev pB (ps:List (Nat × Nat)) (k:Nat):Nat:=(ps.getD k (0,0)).2
end
section
open Go Go.RowKit
theorem Ac {l:List Qi} {t k:Nat} {v:Qi} (ht:t < l.length):gv (l.set t v) k = if k = t then v else gv l k:=by
 simp only [gv,List.getD]
 by_cases e:k = t
 ·subst e; rw [if_pos rfl,List.getElem?_set_self ht]; rfl
 ·rw [if_neg e,List.getElem?_set_ne (Ne.symm e)]
end
section
open Go Go.RowKit
theorem Fd:Tryz.prog.info? 102 = some Tryz.t102:=by kernel_rfl
theorem a3o:Tryz.prog.info? 22 = some Tryz.t22:=by kernel_rfl
theorem Tf:Tryz.prog.underlying 22 = some (.slice 102):=by kernel_rfl
end
section
open Go Go.RowKit
theorem a6g:∀ V,(uF default).p (.agg #[.int .i64 0,.int .i64 0,.int .i64 0]) V:=fun V=>⟨[.int .i64 0,.int .i64 0,.int .i64 0],rfl,aW zd (aW zd (aW zd aG))⟩
theorem a7n {B e s l:Nat} {BT:TypeId} {Rs:List (List Ty)} {q:Value → Prop} (hl:l = Rs.length):∀ u S V,(Is (.slice (some ⟨B,0,none⟩) l l)).p u V → (kK q B BT e s Rs).h S V V → (jA 1 (Rs.map (jA s))).p u V:=fun u S V h1 h2=>Lb hl (Nat.le_refl _) u S V h1 h2
end
section
open Go Go.RowKit
def xZ (A:List (List Qi)) (c i j:Nat):Qi:=if j < c ∧ j < i then 0 else gm A i j
def yB (F:Nat → Nat → Qi) (n m:Nat) (x:Nat → Qi):Prop:=∀ i,i < n → aE m (fun k=>F i k * x k) = 0
theorem Fl {F G:Nat → Nat → Qi} {n m:Nat} {x:Nat → Qi} (h:∀ i,i < n → ∀ j,j < m → F i j = G i j):yB F n m x ↔ yB G n m x:=by
 have e:∀ i,i < n → aE m (fun k=>F i k * x k) = aE m (fun k=>G i k * x k):=fun i hi=>aD fun k hk=>by rw [h i hi k hk]
 exact ⟨fun k i hi=>by rw [← e i hi]; exact k i hi,fun k i hi=>by rw [e i hi]; exact k i hi⟩
def Xk (p c i:Nat):Nat:=if i = c then p else if i = p then c else i
theorem Ms {p c i n:Nat} (hp:p < n) (hc:c < n) (hi:i < n):Xk p c i < n:=by unfold Xk; split <;> (try split) <;> omega
theorem Xl (p c i:Nat):Xk p c (Xk p c i) = i:=by
 unfold Xk
 by_cases e1:i = c
 ·subst e1
  rw [if_pos rfl]
  by_cases e2:p = i
  ·rw [if_pos e2]; exact e2
  ·rw [if_neg e2,if_pos rfl]
 ·rw [if_neg e1]
  by_cases e2:i = p
  ·subst e2; rw [if_pos rfl,if_pos rfl]
  ·rw [if_neg e2,if_neg e1,if_neg e2]
theorem Ov {F : Nat → Nat → Qi} {n m p c : Nat} {x : Nat → Qi} (hp : p < n) (hc : c < n) : yB (fun i => F (Xk p c i)) n m x ↔ yB F n m x :=
 ⟨fun h i hi=>by have:=h _ (Ms hp hc hi); simp only [Xl] at this; exact this,fun h i hi=>h _ (Ms hp hc hi)⟩
theorem a1v {F G:Nat → Nat → Qi} {n m c:Nat} {x f:Nat → Qi} (hc:c < n) (hG:∀ i,i < n → ∀ j,j < m → G i j = if c < i then F i j - f i * F c j else F i j):yB G n m x ↔ yB F n m x:=by
 have key : ∀ i, i < n → aE m (fun k => G i k * x k) = if c < i then aE m (fun k => F i k * x k) - f i * aE m (fun k => F c k * x k) else aE m (fun k => F i k * x k) := fun i hi => by
  by_cases e:c < i
  ·rw [if_pos e, ← qV]
   exact aD fun k hk=>by rw [hG i hi k hk,if_pos e]; grind
  ·rw [if_neg e]
   exact aD fun k hk=>by rw [hG i hi k hk,if_neg e]
 have kc:=key c hc
 rw [if_neg zo] at kc
 constructor
 ·intro h i hi
  have h0:=h c hc
  rw [kc] at h0
  have h1:=h i hi
  rw [key i hi] at h1
  by_cases e:c < i
  ·rw [if_pos e,h0] at h1; grind
  ·rw [if_neg e] at h1; exact h1
 ·intro h i hi
  rw [key i hi]
  by_cases e:c < i
  ·rw [if_pos e,h i hi,h c hc]; grind
  ·rw [if_neg e]; exact h i hi
theorem a49 {M:List (List Qi)} {n m c i j:Nat} (h:cP M n m) (hi:i < n) (hj:j < m):gm (nR M c n) i j = if c < i ∧ c < j then gm M i j - gm M i c / gm M c c * gm M c j else gm M i j:=by
 have hr:(gF M i).length = m:=h.row hi
 have e0 : gF (nR M c n) i = if c < i ∧ i < n then mF (gF M i) (gF M c) c (gF M i).length else gF M i := by
  simp only [gF,nR,List.getD]; rw [dH (by rw [h.1]; exact hi)]; rfl
 show gv (gF (nR M c n) i) j = _
 rw [e0]
 by_cases e:c < i
 ·rw [if_pos ⟨e, hi⟩, mF, kU zo]
  by_cases e2:c < j
  ·rw [if_pos ⟨e2,by omega⟩,if_pos ⟨e,e2⟩]
  ·rw [if_neg (fun k=>e2 k.1),if_neg (fun k=>e2 k.2)]
 ·rw [if_neg (fun k=>e k.1),if_neg (fun k=>e k.1)]
theorem a35 {A:List (List Qi)} {p c i j:Nat} (hc:c < A.length) (hp:p < A.length) (hcp:c ≤ p):xZ (swp [] A p c) c i j = xZ A c (Xk p c i) j:=by
 have key:gm (swp [] A p c) i j = gm A (Xk p c i) j:=congrArg (fun r=>gv r j) (Sz zo zo)
 unfold xZ
 rw [key]
 have e:(j < c ∧ j < i) ↔ (j < c ∧ j < Xk p c i):=by unfold Xk; split <;> (try split) <;> omega
 by_cases h:j < c ∧ j < i
 ·rw [if_pos h,if_pos (e.1 h)]
 ·rw [if_neg h,if_neg (fun k=>h (e.2 k))]
structure EL (M A:List (List Qi)) (n m c:Nat):Prop where
 sh:cP A n m
 ker:∀ x,yB (xZ A c) n m x ↔ yB (gm M) n m x
theorem EL.next {M A:List (List Qi)} {n m c p:Nat} (h:EL M A n m c) (hc:c < n) (hcm:c < m) (hcp:c ≤ p) (hp:p < n) (hz:gm A p c ≠ 0):EL M (nR (if p = c then A else swp [] A p c) c n) n m (c + 1):=by
 have hl:=h.sh.1
 obtain ⟨B,hB⟩:∃ B,B = if p = c then A else swp [] A p c:=⟨_,rfl⟩
 have hs : cP B n m := by
  rw [hB]; split
  ·exact h.sh
  ·exact Dt h.sh hp hc
 have hBk : ∀ x, yB (xZ B c) n m x ↔ yB (gm M) n m x := fun x => by
  rw [hB]; split
  ·exact h.ker x
  ·exact (Fl (G:=fun i=>xZ A c (Xk p c i)) fun i hi j hj=>a35 zo zo hcp).trans ((Ov hp hc).trans (h.ker x))
 have hBz : gm B c c ≠ 0 := by
  rw [hB]; split
  ·rename_i e; rw [← e] at hz ⊢; exact hz
  ·show gv (gF (swp [] A p c) c) c ≠ 0
   rw [Mq zo]; exact hz
 rw [← hB]
 refine ⟨Pn hs,fun x=>(a1v (f:=fun i=>gm B i c / gm B c c) hc fun i hi j hj=>?_).trans (hBk x)⟩
 have hd:=Ky (x:=gm B i c) hBz
 unfold xZ
 rw [a49 hs hi hj]
 by_cases e:c < i
 ·rw [if_pos e]
  by_cases e1:j < c
  ·rw [if_pos zo,if_pos zo,if_pos zo]; grind
  ·by_cases e2 : j = c
   ·subst e2
    rw [if_pos zo,if_neg zo,if_neg zo]; grind
   ·rw [if_neg zo,if_pos zo,if_neg zo,if_neg zo]
 ·rw [if_neg e, if_neg (show ¬ (c < i ∧ c < j) from fun k => e k.1)]
  by_cases e1:j < i
  ·rw [if_pos (show j < c + 1 ∧ j < i by omega),if_pos (show j < c ∧ j < i by omega)]
  ·rw [if_neg (show ¬ (j < c + 1 ∧ j < i) by omega),if_neg (show ¬ (j < c ∧ j < i) by omega)]
theorem La {M : List (List Qi)} {n m : Nat} (hs : cP M n m) (hnm : n ≤ m) : ∀ {c : Nat}, c ≤ n → (dE M c).2.2 < 0 → EL M (dE M c).1 n m c
 | 0,_,_=>⟨hs,fun x=>Fl fun i _ j _=>by unfold xZ; rw [if_neg zo]; rfl⟩
 | c + 1, hc, h => by
  obtain ⟨i1,i2,i3,i4⟩:=tX (M:=(dE M c).1) (c:=c) (n:=M.length) (by rw [hs.1]; omega)
  simp only [dE] at h ⊢
  by_cases e:0 ≤ (dE M c).2.2
  ·rw [if_pos e] at h; omega
  ·rw [if_neg e] at h ⊢
   have ih:=La hs hnm (c:=c) zo zo
   by_cases e2:pv (dE M c).1 c M.length = M.length
   ·rw [if_pos e2] at h; simp only at h; omega
   ·rw [if_neg e2]
    rw [hs.1] at i3 i4 e2 ⊢
    exact ih.next zo zo (by rw [hs.1] at i2; exact i2) zo (i4 zo)
theorem Iw {M : List (List Qi)} : ∀ {n : Nat}, 0 ≤ (dE M n).2.2 → ∃ c, c < n ∧ (dE M c).2.2 < 0 ∧ pv (dE M c).1 c M.length = M.length
 | 0,h=>absurd h (by show ¬ (0:Int) ≤ -1; omega)
 | c + 1, h => by
  by_cases e:0 ≤ (dE M c).2.2
  ·obtain ⟨d, h1, h2⟩ := Iw e
   exact ⟨d,by omega,h2⟩
  ·simp only [dE] at h
   rw [if_neg e] at h
   by_cases e2:pv (dE M c).1 c M.length = M.length
   ·exact ⟨c,by omega,by omega,e2⟩
   ·rw [if_neg e2] at h; simp only at h; omega
theorem xX {U : List (List Qi)} {x y : List Qi} {n c : Nat} : ∀ {K : Nat}, (∀ k, k < K → gv x (c + 1 + k) = gv y (c + 1 + k)) → pG U x n c K = pG U y n c K
 | 0,_=>rfl
 | K + 1,h=>by rw [pG,pG,xX (fun k hk=>h k zo),h K zo]
theorem Qj (U : List (List Qi)) (x : List Qi) (n c : Nat) : ∀ K, pG U x n c K = gm U c n - aE K (fun k => gm U c (c + 1 + k) * gv x (c + 1 + k))
 | 0=>by simp only [pG,aE,q0]; grind
 | K + 1=>by simp only [pG,aE,Qj U x n c K]; grind
theorem a0e {U : List (List Qi)} {n : Nat} : ∀ {j : Nat}, j ≤ n → ∀ c, n - j ≤ c → c < n → gv (rE U n j) c = pG U (rE U n j) n c (n - 1 - c) / gm U c c
 | 0,_,c,h1,h2=>by omega
 | j + 1, hj, c, h1, h2 => by
  have hl:=Cr U n j
  rw [rE]
  by_cases e:c = n - (j + 1)
  ·subst e
   rw [Ac zo,if_pos rfl,show n - 1 - (n - (j + 1)) = j by omega]
   rw [xX (x:=(rE U n j).set _ _) (y:=rE U n j) fun k hk=>by rw [Ac zo,if_neg zo]]
  ·rw [Ac zo, if_neg e, a0e (j := j) zo c zo h2]
   rw [xX (x:=(rE U n j).set _ _) (y:=rE U n j) fun k hk=>by rw [Ac zo,if_neg zo]]
theorem tE (a : Nat) (f : Nat → Qi) : ∀ b, aE (a + b) f = aE a f + aE b fun k => f (a + k)
 | 0=>by simp only [aE,q0,Nat.add_zero]; grind
 | b + 1=>by rw [← Nat.add_assoc]; simp only [aE,tE a f b]; grind
theorem Xn {U:List (List Qi)} {n i:Nat} (hi:i < n) (y:Nat → Qi):aE n (fun k=>xZ U n i k * y k) = gm U i i * y i + aE (n - 1 - i) fun k=>gm U i (i + 1 + k) * y (i + 1 + k):=by
 have e:n = i + 1 + (n - 1 - i):=by omega
 have h1:aE i (fun k=>xZ U n i k * y k) = 0:=iN fun k hk=>by unfold xZ; rw [if_pos zo]; grind
 have h2:xZ U n i i = gm U i i:=by unfold xZ; rw [if_neg zo]
 have h3:aE (n - 1 - i) (fun k=>xZ U n i (i + 1 + k) * y (i + 1 + k)) = aE (n - 1 - i) fun k=>gm U i (i + 1 + k) * y (i + 1 + k):=aD fun k hk=>by unfold xZ; rw [if_neg zo]
 have h4:=tE (i + 1) (fun k=>xZ U n i k * y k) (n - 1 - i)
 rw [← e] at h4
 rw [h4,h3]
 simp only [aE,h1,h2]; grind
theorem Xm {U:List (List Qi)} {n i:Nat} (hd:∀ j,j < n → gm U j j ≠ 0) (hi:i < n):aE n (fun k=>xZ U n i k * gv (rE U n n) k) = gm U i n:=by
 rw [Xn hi,a0e (Nat.le_refl n) i zo hi,Qj]
 have:=Ky (x:=gm U i n - aE (n - 1 - i) (fun k=>gm U i (i + 1 + k) * gv (rE U n n) (i + 1 + k))) (hd i hi)
 grind
theorem Qm {U : List (List Qi)} {n : Nat} (hd : ∀ j, j < n → gm U j j ≠ 0) {y : Nat → Qi} (h : ∀ i, i < n → aE n (fun k => xZ U n i k * y k) = 0) : ∀ t k, n - t ≤ k → k < n → y k = 0
 | 0,k,h1,h2=>by omega
 | t + 1, k, h1, h2 => by
  have h3:=h k h2
  rw [Xn h2,iN (fun j hj=>by rw [Qm hd h t (k + 1 + j) zo zo]; grind)] at h3
  rcases oX (x:=gm U k k) (y:=y k) (by grind) with h4 | h4
  ·exact absurd h4 (hd k h2)
  ·exact h4
theorem kQ {M:List (List Qi)} {b:List Qi} {n:Nat} (h:cP M n n) (hE:kO M b n = 0):(∀ i,i < n → aE n (fun k=>gm M i k * gv (jB M b n) k) = gv b i) ∧ ∀ y:Nat → Qi,(∀ i,i < n → aE n (fun k=>gm M i k * y k) = 0) → ∀ k,k < n → y k = 0:=by
 have hcs:cP (nT M [b] n) n (n + 1):=pS h
 have hst : (wW M b n).2.2 < 0 := by
  unfold kO at hE
  by_cases e:0 ≤ (wW M b n).2.2
  ·rw [if_pos e] at hE; omega
  ·omega
 have hg:=La hcs (Nat.le_succ n) (Nat.le_refl n) hst
 have hd:=sN hcs (Nat.le_refl n) hst
 obtain ⟨U,hU⟩:∃ U,U = (wW M b n).1:=⟨_,rfl⟩
 have hX:jB M b n = rE U n n:=by rw [hU]; rfl
 have hU2:(dE (nT M [b] n) n).1 = U:=hU.symm
 rw [hU2] at hg hd
 rw [hX]
 refine ⟨fun i hi=>?_,fun y hy k hk=>?_⟩
 ·have h1 := (hg.ker fun k => if k < n then gv (rE U n n) k else -1).1 (fun i hi => by
   simp only [aE]
   rw [aD (g:=fun k=>xZ U n i k * gv (rE U n n) k) (fun k hk=>by rw [if_pos hk]),Xm hd hi,if_neg zo,show xZ U n i n = gm U i n by unfold xZ; rw [if_neg zo]]
   grind) i hi
  rw [Ro h hi,aD (g:=fun k=>gm M i k * gv (rE U n n) k) (fun k hk=>by rw [if_pos hk]),if_neg zo] at h1
  grind
 ·have h1 := (hg.ker fun k => if k < n then y k else 0).2 (fun i hi => by
   rw [Ro h hi,aD (g:=fun k=>gm M i k * y k) (fun k hk=>by rw [if_pos hk]),if_neg zo,hy i hi]; grind)
  refine Qm (y:=y) hd (fun i hi=>?_) n k zo hk
  have h2:=h1 i hi
  simp only [aE] at h2
  rw [aD (g:=fun k=>xZ U n i k * y k) (fun k hk=>by rw [if_pos hk]),if_neg zo] at h2
  grind
theorem Qd {M:List (List Qi)} {b:List Qi} {n:Nat} (h:cP M n n) (hE:kO M b n ≠ 0):∃ y:Nat → Qi,(∀ i,i < n → aE n (fun k=>gm M i k * y k) = 0) ∧ ∃ k,k < n ∧ y k ≠ 0:=by
 have hcs:cP (nT M [b] n) n (n + 1):=pS h
 have hst : 0 ≤ (wW M b n).2.2 := by
  unfold kO at hE
  by_cases e:0 ≤ (wW M b n).2.2
  ·exact e
  ·rw [if_neg e] at hE; exact absurd rfl hE
 obtain ⟨c,hc,hA,hp⟩:=Iw hst
 have hg:=La hcs (Nat.le_succ n) zo hA
 have hd:=sN hcs zo hA
 obtain ⟨U,hU⟩:∃ U,U = (dE (nT M [b] n) c).1:=⟨_,rfl⟩
 rw [← hU] at hg hd hp
 rw [hcs.1] at hp
 have hz:=(tX (M:=U) (c:=c) (n:=n) zo).1
 rw [hp] at hz
 have key := (hg.ker fun k => if k < c then gv (rE U c c) k else if k = c then -1 else 0).1 (fun i hi => by
  have e:n + 1 = c + (1 + (n - c)):=by omega
  rw [e,tE,tE]
  have z3:aE (n - c) (fun k=>xZ U c i (c + (1 + k)) * (if c + (1 + k) < c then gv (rE U c c) (c + (1 + k)) else if c + (1 + k) = c then -1 else 0)) = 0:=iN fun k hk=>by rw [if_neg zo,if_neg zo]; grind
  have z2 : aE 1 (fun k => xZ U c i (c + k) * (if c + k < c then gv (rE U c c) (c + k) else if c + k = c then -1 else 0)) = xZ U c i c * -1 := by
   rw [Ha,if_neg zo,if_pos zo]; rfl
  have z1:aE c (fun k=>xZ U c i k * (if k < c then gv (rE U c c) k else if k = c then -1 else 0)) = aE c (fun k=>xZ U c i k * gv (rE U c c) k):=aD fun k hk=>by rw [if_pos hk]
  rw [z1,z2,z3]
  have zc:xZ U c i c = gm U i c:=by unfold xZ; rw [if_neg zo]
  rw [zc]
  by_cases e2:i < c
  ·rw [Xm hd e2]; grind
  ·rw [hz i zo hi,iN (fun k hk=>by unfold xZ; rw [if_pos zo]; grind),q0]; grind)
 refine ⟨fun k=>if k < c then gv (rE U c c) k else if k = c then -1 else 0,fun i hi=>?_,c,hc,?_⟩
 ·have h1 := key i hi
  rw [Ro h hi,if_neg zo,if_neg zo] at h1
  grind
 ·show (if c < c then gv (rE U c c) c else if c = c then (-1 : Qi) else 0) ≠ 0
  rw [if_neg zo,if_pos rfl]
  intro e
  exact absurd (congrArg Qi.re e) (by decide)
end
section
open Go Go.RowKit
def gq (ps:List (Nat × Nat)) (x:Nat):Nat:=if x % 2 = 0 then pA ps (x / 2) else pB ps (x / 2)
def gC (x:Nat):Nat:=if x % 2 = 0 then x + 1 else x - 1
theorem tW (x:Nat):gC (gC x) = x:=by unfold gC; split <;> split <;> omega
theorem kW {x k:Nat} (h:x < 2 * k):gC x < 2 * k:=by unfold gC; split <;> omega
theorem a3m (ps:List (Nat × Nat)) (k:Nat):gq ps (2 * k) = pA ps k:=by unfold gq; rw [if_pos zo,show 2 * k / 2 = k by omega]
theorem a5I (ps:List (Nat × Nat)) (k:Nat):gq ps (2 * k + 1) = pB ps k:=by unfold gq; rw [if_neg zo,show (2 * k + 1) / 2 = k by omega]
structure Jn (ps:List (Nat × Nat)) (n K:Nat):Prop where
 lt:∀ x,x < 2 * K → gq ps x < n
 inj:∀ x y,x < 2 * K → y < 2 * K → gq ps x = gq ps y → x = y
theorem Jn.le {ps:List (Nat × Nat)} {n K k:Nat} (h:Jn ps n K) (hk:k ≤ K):Jn ps n k:=⟨fun x hx=>h.lt x zo,fun x y hx hy=>h.inj x y zo zo⟩
def lW (S:List (List Qi)) (ps:List (Nat × Nat)) (m:Nat):List (List Qi):=tab m fun x=>tab m fun y=>(if x = y then Qi.ofInt 1 else Qi.ofInt 0) - gm S (gq ps (gC x)) (gq ps y)
def uG (S:List (List Qi)) (ps:List (Nat × Nat)) (m b:Nat):List Qi:=tab m fun x=>gm S (gq ps (gC x)) b
theorem jW (S:List (List Qi)) (ps:List (Nat × Nat)) (m:Nat):cP (lW S ps m) m m:=cP.tab
theorem wJ {S:List (List Qi)} {ps:List (Nat × Nat)} {m x:Nat} (hx:x < m) (v:Nat → Qi):aE m (fun y=>gm (lW S ps m) x y * v y) = v x - aE m fun y=>gm S (gq ps (gC x)) (gq ps y) * v y:=by
 have e : ∀ y, y < m → gm (lW S ps m) x y * v y = (if y = x then v x else 0) - 1 * (gm S (gq ps (gC x)) (gq ps y) * v y) := fun y hy => by
  have : gm (lW S ps m) x y = (if x = y then Qi.ofInt 1 else Qi.ofInt 0) - gm S (gq ps (gC x)) (gq ps y) := by
   show gv ((lW S ps m).getD x []) y = _
   rw [lW,vS hx,kU hy]
  rw [this]
  by_cases c:y = x
  ·subst c; rw [if_pos rfl,if_pos rfl,q1]; grind
  ·rw [if_neg c,if_neg (Ne.symm c),show Qi.ofInt 0 = (0:Qi) from rfl]; grind
 rw [aD e,qV,fA hx (fun k _ hk=>if_neg hk),if_pos rfl]; grind
theorem xP {S:List (List Qi)} {ps:List (Nat × Nat)} {m b x:Nat} (hx:x < m):gv (uG S ps m b) x = gm S (gq ps (gC x)) b:=kU hx
def uJ (S:List (List Qi)) (ps:List (Nat × Nat)) (m a b:Nat):Qi:=gm S a b + aE m fun y=>gm S a (gq ps y) * gv (jB (lW S ps m) (uG S ps m b) m) y
end
section
open Go Go.RowKit
def Bh (x y:Nat):Int:=if 8 < x + y then 4 else 0
def tD (z zb:List Qi):List Qi:=cD (Bh z.length zb.length) (z ++ zb)
def nS (z zb:List Qi) (a b:List (List Qi)):List (List Qi):=cD (Bh z.length zb.length) (mA a b z.length zb.length)
theorem Xg {x y:Nat} (h:8 < x + y):Bh x y = 4:=if_pos h
theorem Sw {x y:Nat} (h:¬ 8 < x + y):Bh x y = 0:=if_neg h
theorem Xh (z zb:List Qi) (a b:List (List Qi)):cP (nS z zb a b) (tD z zb).length (tD z zb).length ∧ (tD z zb).length ≤ z.length + zb.length:=by
 by_cases h:Bh z.length zb.length = 0
 ·rw [nS,tD,cD,cD,h,if_pos rfl,if_pos rfl,List.length_append]; exact ⟨qU _ _ _ _,Nat.le_refl _⟩
 ·rw [nS,tD,cD,cD,if_neg h,if_neg h]; exact ⟨⟨rfl,fun r hr=>by cases hr⟩,Nat.zero_le _⟩
theorem Qf {z zb:List Qi} {a b:List (List Qi)} {L:Nat} (ha:bB a L) (hb:bB b L) (hL:1 ≤ L):bB (nS z zb a b) L:=nH (Gv ha hb hL)
theorem Oe {z zb:List Qi} {L:Nat} (hz:cH z L) (hb:cH zb L):cH (z ++ zb) L:=fun x hx=>(List.mem_append.1 hx).elim (hz x) (hb x)
theorem a2m {z zb:List Qi} {L:Nat} (hz:cH z L) (hb:cH zb L):cH (tD z zb) L:=yX (Oe hz hb)
def dR (n:Nat) (p:Int) (o:List Int):Int:=if ¬ (1 ≤ p ∧ p ≤ n) then 1 else if (o.any fun x=>decide (p = x)) = true then 8 else 0
def qR (n:Nat) (l:List Int):Int:=jQ (fun i=>dR n (l.getD i 0) (l.take i)) l.length
def oA (l:List Int):List Nat:=l.map fun p=>(p - 1).toNat
theorem qQ (l:List Int):(oA l).length = l.length:=by rw [oA,List.length_map]
theorem yM {n:Nat} {p:Int} {o:List Int} (h:dR n p o = 0):1 ≤ p ∧ p ≤ n:=by
 unfold dR at h
 split at h
 ·omega
 ·rename_i c; exact Decidable.not_not.1 c
theorem Bd {n : Nat} {l : List Int} (h : qR n l = 0) : ∀ x, x ∈ l → 1 ≤ x ∧ x ≤ n := fun x hx => by
 obtain ⟨i,hi,e⟩:=List.getElem_of_mem hx
 have:=yM (gH h i hi)
 rw [show l.getD i 0 = x by rw [List.getD,List.getElem?_eq_getElem hi,e]; rfl] at this
 exact this
theorem Ml {n : Nat} {l : List Int} (h : qR n l = 0) : ∀ x, x ∈ oA l → x < n := fun x hx => by
 obtain ⟨p,hp,rfl⟩:=List.mem_map.1 hx
 have:=Bd h p hp; omega
theorem zC {n:Nat} {l:List Int} (h:qR n l = 0):l.map (aL .i64) = ((oA l).map Nat.succ).map (NT .i64):=by
 rw [oA,List.map_map,List.map_map]
 refine List.map_congr_left fun p hp=>?_
 have:=Bd h p hp
 show aL .i64 p = aL .i64 (((p - 1).toNat + 1:Nat):Int)
 congr 1; omega
theorem a43 {n:Nat} {l:List Int} (h:qR n l = 0) {i:Nat} (hi:i < l.length):cB (oA l) i = (l.getD i 0 - 1).toNat ∧ 1 ≤ l.getD i 0:=by
 have h1:=Bd h (l.getD i 0) (by rw [show l.getD i 0 = l[i] by simp [List.getD,hi]]; exact List.getElem_mem hi)
 refine ⟨?_,h1.1⟩
 simp [cB,oA,List.getD,hi]
def vJ (n:Nat) (l:List Int):Int:=if l.length ≠ n then 4 else qR n l
def rA (z:List Qi) (l:List Int):List Qi:=cD (vJ z.length l) (pH z (oA l))
def nM (z:List Qi) (s:List (List Qi)) (l:List Int):List (List Qi):=cD (vJ z.length l) (sG s (oA l))
theorem Gp {n:Nat} {l:List Int} (h:l.length ≠ n):vJ n l = 4:=if_pos h
theorem Ss {n:Nat} {l:List Int} (h:l.length = n):vJ n l = qR n l:=if_neg (fun k=>k h)
theorem Gy (z:List Qi) (Q:List Nat):(pH z Q).length = Q.length:=aC _ _
theorem Qh (s:List (List Qi)) (Q:List Nat):cP (sG s Q) Q.length Q.length:=cP.tab
theorem Wz (z:List Qi) (s:List (List Qi)) (l:List Int):cP (nM z s l) (rA z l).length (rA z l).length ∧ (rA z l).length ≤ l.length:=by
 by_cases h:vJ z.length l = 0
 ·rw [nM,rA,cD,cD,h,if_pos rfl,if_pos rfl,Gy]; exact ⟨Qh _ _,by rw [qQ]; exact Nat.le_refl _⟩
 ·rw [nM,rA,cD,cD,if_neg h,if_neg h]; exact ⟨⟨rfl,fun r hr=>by cases hr⟩,Nat.zero_le _⟩
theorem Qk {z:List Qi} {Q:List Nat} {L:Nat} (h:cH z L) (hL:1 ≤ L):cH (pH z Q) L:=cH.tab fun i _=>h.get hL _
theorem Qg {s:List (List Qi)} {Q:List Nat} {L:Nat} (h:bB s L) (hL:1 ≤ L):bB (sG s Q) L:=bB.tab fun i j _ _=>h.get hL _ _
end
end Go.Proofs.YteohomnhncjcnaaGreat
