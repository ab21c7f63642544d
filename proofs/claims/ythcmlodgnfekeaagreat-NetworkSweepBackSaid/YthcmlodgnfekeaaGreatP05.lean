/- What functions of the program compute, proved by walks over their code, and the plain mathematics of it; a part of the proof in the last text. -/
import Derived.Test.YthcmlodgnfekeaaGreatP04
set_option linter.unusedVariables false
set_option linter.unusedSimpArgs false
set_option maxRecDepth 100000
set_option maxHeartbeats 4000000
namespace Go.Proofs.YthcmlodgnfekeaaGreat
section
open Go Go.RowKit
open Fl
theorem Kj {α:Type} {l:List α} {k:Nat} (d:α) (h:k < l.length):l.take k ++ [l.getD k d] = l.take (k + 1):=by
 rw [List.take_succ_eq_append_getElem h]; simp [List.getD,List.getElem?_eq_getElem h]
theorem Gw (f:List Qi) (l:List NP) (xs:List Qi):(Mf f l xs).length = xs.length:=List.length_map _
theorem Wd {f:List Qi} {l:List NP} {xs:List Qi} {k:Nat} (h:k < xs.length):(Mf f l xs).take k ++ [(vB f l (gv xs k)).1] = (Mf f l xs).take (k + 1):=by
 rw [← Kj jB (show k < (Mf f l xs).length by rw [Gw]; exact h)]
 congr 2
 simp [Mf,gv,List.getD,h]
theorem Fx {f xs:List Qi} {l:List NP} {L:Nat} (ok:qX f l) (hf:SwF f l L) (hx:dA xs L) (hn:xs.length ≤ 1000) (hL1:1 ≤ L) (hL:L ≤ 1000):aT Tryz.prog 57 [Hr f l,bP xs] (fB [Hr (kP (Gv f l xs) xs) (kP (Gv f l xs) (Mf f l xs)),aI .i64 (Gv f l xs)]):=by
 refine aT.intro Tryz.func57 rfl Tryz.ntmps57 rfl (fun cx=>(ts (rn rfl (fG (Ht rfl)) fun B2=>(rn rfl (eW (Ts:=[Is (.slice none 0 0),Is (.slice none 0 0)]) O_108 rfl (fun V=>aW zd (aW zd (aG)))) fun B4=>(ro rfl (cQ (cJ 0)) (eX (cK (ts (rm rfl (ro rfl (dG U_54 (Ht rfl) aA) (ro rfl (dE (Ht rfl) (cJ 1024)) (eX (dQ (Ht rfl) (fun hb=>?_) (fun hb=>?_))))))))))))))
 ·have he : Gv f l xs = 4 := Wg (by simpa using hb)
  have hne0:(4:Int) ≠ 0:=by decide
  refine ts (ro rfl (aD.imp (lN ) qA) (gX Z_108 (Ht rfl) (Ht rfl) rfl (i:=1) rfl (aK rfl) rfl rfl (ro rfl (cQ (cJ 4)) (eX (bE rfl (fX (fU A_108 Z_108 rfl (i:=1) rfl rfl) ?_) (fX (eU rfl) ?_))))))
  ·exact (fun v V h=>by rw [kP,kP,if_neg (by rw [he]; exact hne0),if_neg (by rw [he]; exact hne0)]; exact h)
  ·exact (aN he.symm)
 ·have hne : ¬ 1024 < xs.length := by simpa using hb
  refine cU (ts (rn rfl (eW (Ts:=[Is (.slice none 0 0),Is (.slice none 0 0)]) O_108 rfl (fun V=>aW zd (aW zd (aG)))) fun B6=>(eX (cK (ts (rm rfl (ro rfl (dG U_54 (Ht rfl) aA) (ro rfl (cX (cJ 0)) (eX (eG (wK 32 5 (wK 80 2 (eR [0,1,2,3,4] rfl (by decide) ?_)))))))))))))
  refine jV (fun (k : Nat) (v : Value) (u : Value) => k ≤ xs.length ∧ ∀ i, i < k → Me f l xs i = 0) (fun (k : Nat) (v : Value) (u : Value) => xs.length - k) (fun (k : Nat) (v : Value) (u : Value) => [(1, bP xs), (2, cH B2 0), (4, cH B4 0), (6, cH B6 0), (15, bP xs), (16, NT .i64 xs.length), (17, NT .i64 k)]) (fun (k : Nat) (v : Value) (u : Value) => [box B2 108 [bP f, Sg l], box B4 108 [Is (.slice none 0 0), Is (.slice none 0 0)], box B6 108 [Is v, Is u], bH 32 5 v ((xs.take k).map aL), bH 80 2 u (((Mf f l xs).take k).map fun n => eL n.1 n.2)]) 0 (.slice none 0 0) (.slice none 0 0) ⟨Nat.zero_le _, fun i h => by omega⟩
   (zS rfl) (cA.refl _) (fun k v u ⟨hk,h0⟩=>?_)
  refine ts (ro rfl (gZ (Ht rfl) (Ht rfl)) (eX (cK (dQ (Ht rfl) (fun hc=>?_) (fun hc=>?_)))))
  ·have hc2 : k < xs.length := by simpa using hc
   haveI g1:aP (gv xs k) L:=hx.get hL1 k
   haveI g2:aP (gv xs (k - 1)) L:=hx.get hL1 (k - 1)
   have hrl:=Gw f l xs
   refine cU (cK (eG (ts (rm rfl (ro rfl (dZ U_54 Z_32 (Ht rfl) (Ht rfl) rfl (dY (dU (d:=Qi.zero) hc2))) (ro rfl (dJ A_32 Z_32 (Ht rfl)) (rn rfl (eW (Ts:=[Is (.bool false),Is (.slice none 0 0),Is (.bool false),Is (.slice none 0 0),Is (.slice none 0 0)]) O_32 rfl (fun V=>aW zd (aW zd (aW zd (aW zd (aW zd (aG))))))) fun B8=>(ra rfl (gX Z_32 (Ht rfl) (Ht rfl) rfl (i:=5) rfl (aK rfl) rfl rfl ?_)))))))))
   refine eX (ts (ro rfl (eJ A_108 Z_108 (Ht rfl) (i:=0) rfl rfl rfl) (ro rfl (eJ A_32 Z_32 (Ht rfl) (i:=5) rfl rfl rfl) (ro rfl (cZ Tryz.call55 (yV (f:=f) (l:=l) (x:=gv xs k) (L:=L) ok hf g1 hL1 hL) ⟨(Ht rfl),(Ht rfl),trivial⟩) (rm rfl (ro rfl (dK (Ht rfl) rfl) (ro rfl (dK (Ht rfl) rfl) (rn rfl (eW (Ts:=[Is (.slice none 0 0),Is (.slice none 0 0)]) O_80 rfl (fun V=>aW zd (aW zd (aG)))) fun B9=>(gX Z_80 (Ht rfl) (Ht rfl) rfl (i:=6) rfl (aK rfl) rfl rfl ?_)))))))))
   refine ra rfl (eX (cK (eG (ts (rm rfl (ro rfl (kT (Ht rfl) cV) (ra rfl (eX (dQ (Ht rfl) (fun hd=>?_) (fun hd=>?_))))))))))
   ·have hd2 : (vB f l (gv xs k)).2 ≠ 0 := by have h := hd; simp only [Bool.not_eq_true', decide_eq_false_iff_not] at h; exact h
    have he:Gv f l xs = (vB f l (gv xs k)).2:=Ya hne hc2 h0 (Kd hd2) hd2
    have hne0:=hd2
    refine ts (ro rfl (aD.imp (lN ) qA) (rm rfl (gX Z_108 (Ht rfl) (Ht rfl) rfl (i:=1) rfl (aK rfl) rfl rfl (ra rfl (eX (bE rfl (fX (fU A_108 Z_108 rfl (i:=1) rfl rfl) ?_) (fX (eU rfl) ?_)))))))
    ·exact (fun v V h=>by rw [kP,kP,if_neg (by rw [he]; exact hne0),if_neg (by rw [he]; exact hne0)]; exact h)
    ·exact (aN he.symm)
   ·have hd2 : (vB f l (gv xs k)).2 = 0 := by have h := hd; simp only [Bool.not_eq_false', decide_eq_true_eq] at h; exact h
    have r1:=Nv hd2
    have hpr : 0 < k → Re (gv xs (k - 1)) := fun h => Nv (by
     have h1:=h0 (k - 1) zo
     refine Classical.byContradiction fun z=>?_
     rw [Kd z] at h1; exact z h1)
    refine cK (fZ (m:=9) (dp 7 rfl (cX (Ht rfl)) (dq 34 0 rfl (dE (Ht rfl) (cJ 0)) (dq 35 1 rfl (cX (Ht rfl)) (C.D_step (Ei:=[(8,_),(36,_)]) rfl rfl (bV (bK rfl rfl) (bV (bG 2 rfl rfl) bW)) (eK rfl rfl (Ht rfl) (fun h=>eJ A_32 Z_32 (Ht rfl) (i:=5) rfl rfl rfl)) (C.D_step (Ei:=[(1,_),(36,_)]) rfl rfl (bV (bK rfl rfl) (bV (bG 2 rfl rfl) bW)) (eK rfl rfl (Ht rfl) (fun h=>cX (Ht rfl))) (C.D_step (Ei:=[(7,_),(36,_)]) rfl rfl (bV (bK rfl rfl) (bV (bG 2 rfl rfl) bW)) (eK rfl rfl (Ht rfl) (fun h=>cX (Ht rfl))) ?_)))))))
    refine C.D_step (Ei:=[(39,_),(36,_)]) rfl rfl (bV (bG 5 rfl rfl) (bV (bG 2 rfl rfl) bW)) (eK rfl rfl (Ht rfl) (fun h=>dW (fJ rfl h) (cJ 1) (by first | omega | (simp at h; omega)) (by show _ < 9223372036854775808; first | omega | (simp at h; omega)))) (C.D_step (Ei:=[(38,_),(40,_),(36,_)]) rfl rfl (bV (bG 4 rfl rfl) (bV (bG 6 rfl rfl) (bV (bG 2 rfl rfl) bW))) (eK rfl rfl (Ht rfl) (fun h=>dZ U_54 Z_32 (fJ rfl h) (fJ rfl h) rfl (dY (dU (d:=Qi.zero) zo)))) ?_)
    refine C.D_step (Ei:=[(41,_),(36,_)]) rfl rfl (bV (bG 7 rfl rfl) (bV (bG 2 rfl rfl) bW)) (eK rfl rfl (Ht rfl) (fun h=>dJ A_32 Z_32 (fJ rfl h))) (fV bB rfl (by kernel_rfl) (zF (zF (aJ (aV (fQ rfl rfl (eK rfl rfl (Ht rfl) (fun h=>cZ Tryz.call30 (If (x:=gv xs k) (y:=gv xs (k - 1)) (L:=L) (M:=L) zo) ⟨(fJ rfl h),(fJ rfl h),trivial⟩)) (fQ rfl rfl (eK rfl rfl (Ht rfl) (fun h=>Bj (fJ rfl h) cV)) ?_)))))))
    refine ro rfl (eS (Ht rfl) (fun h=>(fJ rfl h))) (ra rfl (eX (dQ (Ht rfl) (fun he=>?_) (fun he=>?_))))
    ·have he2 : 0 < k ∧ pF (gv xs k) (gv xs (k - 1)) ≤ 0 := by have h := he; simp only [Bool.and_eq_true, decide_eq_true_eq] at h; exact h
     rw [mI r1.b (hpr he2.1).b] at he2
     have he:Gv f l xs = 7:=Ya hne hc2 h0 (Wb hd2 he2) (by decide)
     have hne0:(7:Int) ≠ 0:=by decide
     refine ts (ro rfl (aD.imp (lN ) qA) (gX Z_108 (Ht rfl) (Ht rfl) rfl (i:=1) rfl (aK rfl) rfl rfl (ro rfl (cQ (cJ 7)) (eX (bE rfl (fX (fU A_108 Z_108 rfl (i:=1) rfl rfl) ?_) (fX (eU rfl) ?_))))))
     ·exact (fun v V h=>by rw [kP,kP,if_neg (by rw [he]; exact hne0),if_neg (by rw [he]; exact hne0)]; exact h)
     ·exact (aN he.symm)
    ·have he2 : ¬ (0 < k ∧ nD (gv xs k) (gv xs (k - 1)) ≤ 0) := by
      rintro ⟨a1,a2⟩
      have h:=he
      simp only [Bool.and_eq_false_iff,decide_eq_false_iff_not] at h
      rcases h with h | h
      ·exact h a1
      ·exact h (by rw [mI r1.b (hpr a1).b]; exact a2)
     have hk0:Me f l xs k = 0:=Qz hd2 he2
     refine cU (T_blk (Y.D_startAA (m:=11) [] 4 3 9 4 rfl rfl rfl rfl rfl (bY (Ei:=[(6,_)]) rfl rfl (bQ (bJ rfl rfl) bX) rfl rfl (dX rfl (eZ iN (Ht rfl) rfl)) (bY (Ei:=[(47,_)]) rfl rfl (bQ (bZ 0 rfl rfl) bX) rfl rfl (dX rfl (vQ A_54 Z_54 (Ht rfl) (i:=2) rfl rfl)) (bY (Ei:=[(8,_)]) rfl rfl (bQ (bJ rfl rfl) bX) rfl rfl (dX rfl (eJ A_32 Z_32 (Ht rfl) (i:=5) rfl rfl rfl)) (bY (Ei:=[(49,_)]) rfl rfl (bQ (bZ 2 rfl rfl) bX) rfl rfl (dX rfl (dT (xs:=[.tmp 49]) U_54 Z_32 O_32 (cW (Ht rfl) cG) rfl rfl rfl)) ?_))))))
     refine Y.D_app (Ei:=[(48,_),(50,_)]) rfl rfl rfl rfl (bQ (bZ 1 rfl rfl) (bQ (bZ 3 rfl rfl) bX)) rfl (wA (inf:=Tryz.t32) oP lX rfl rfl rfl (Ht rfl) (Ht rfl) (by simp) (fun T hT=>by simp at hT; subst hT; exact El.ag rfl) (by show _ * 88 ≤ _; simp only [List.length_map,List.length_take,List.length_cons,List.length_nil]; omega) (by simp only [List.length_map,List.length_take,List.length_cons,List.length_nil]; omega)) ?_
     refine bY (Ei:=[(6,_)]) rfl rfl (bQ (bJ rfl rfl) bX) rfl rfl (dX rfl (eZ mS (Ht rfl) rfl)) (bY (Ei:=[(52,_)]) rfl rfl (bQ (bZ 5 rfl rfl) bX) rfl rfl (dX rfl (vQ A_98 Z_98 (Ht rfl) (i:=2) rfl rfl)) (bY (Ei:=[(9,_)]) rfl rfl (bQ (bJ rfl rfl) bX) rfl rfl (dX rfl (eJ A_80 Z_80 (Ht rfl) (i:=6) rfl rfl rfl)) (bY (Ei:=[(54,_)]) rfl rfl (bQ (bZ 7 rfl rfl) bX) rfl rfl (dX rfl (dT (xs:=[.tmp 54]) U_98 Z_80 O_80 (cW (Ht rfl) cG) rfl rfl rfl)) ?_)))
     refine Y.D_app (Ei:=[(53,_),(55,_)]) rfl rfl rfl rfl (bQ (bZ 6 rfl rfl) (bQ (bZ 8 rfl rfl) bX)) rfl (wA (inf:=Tryz.t80) Hh Az rfl rfl rfl (Ht rfl) (Ht rfl) (by simp) (fun T hT=>by simp at hT; subst hT; exact El.ag rfl) (by show _ * 48 ≤ _; simp only [List.length_map,List.length_take,List.length_cons,List.length_nil]; omega) (by simp only [List.length_map,List.length_take,List.length_cons,List.length_nil]; omega)) ?_
     refine bY (Ei:=[(6,_)]) rfl rfl (bQ (bJ rfl rfl) bX) rfl rfl (dX rfl (eZ iN (Ht rfl) rfl)) (Y.D_done bB rfl (by kernel_rfl) rfl (by simp [Y.okP]) rfl rfl (bU (bU (bU (bU (Y.F_app (fun v2=>bU (bU (bU (bU (Y.F_app (fun u2=>bU (Y.F_nil ?_)))))))))))))
     refine Nb (l:=7) Z_54 (Ht rfl) (Ht rfl) (i:=2) rfl rfl (aK rfl) rfl (ro rfl (eZ mS (Ht rfl) rfl) (Nb (l:=8) Z_98 (Ht rfl) (Ht rfl) (i:=2) rfl rfl (aK rfl) rfl (eX (T_blk (cY (ro rfl (dV (Ht rfl) (cJ 1) z6) (rm rfl (eX (eR [0,1,2,7,8] rfl (by decide) ?_)))))))))
     refine fY (k + 1, v2, u2) ⟨hc2, fun i h => by
       by_cases e:i = k
       ·rw [e]; exact hk0
       ·exact h0 i zo⟩ (by dsimp only; omega) (zS rfl) (aU (aR rfl) (aU (aR rfl) (aU (aR rfl) (aU (bN ((wL aL _ (gv xs k)).trans (congrArg _ (Kj Qi.zero hc2)))) (aU (bN ((wL (fun n:NP=>eL n.1 n.2) _ (vB f l (gv xs k)).1).trans (congrArg _ (Wd hc2)))) aY)))))
  ·have hc2 : xs.length ≤ k := by simpa using hc
   have he:Gv f l xs = 0:=Yb hne (fun i h=>h0 i zo)
   have hrl:=Gw f l xs
   rw [List.take_of_length_le hc2,List.take_of_length_le (show (Mf f l xs).length ≤ k by omega)]
   refine gW rfl (qD 2 3 0 rfl rfl rfl (by decide) (qD 2 4 1 rfl rfl rfl (by decide) (ts (ro rfl (eJ A_108 Z_108 (Ht rfl) (i:=2) rfl rfl rfl) (gX Z_108 (Ht rfl) (Ht rfl) rfl (i:=1) rfl (aK rfl) rfl rfl (ro rfl (cQ (cJ 0)) (eX (bE rfl (fX (fU A_108 Z_108 rfl (i:=1) rfl rfl) ?_) (fX (eU rfl) ?_)))))))))
   ·exact (fun v V h=>by rw [he,kP,kP,if_pos rfl,if_pos rfl]; exact h)
   ·exact (aN he.symm)
end
section
open Go Go.RowKit
theorem xD (a:Addr) (w:World):(Instr.fieldAt 101 (.pointer (some a)) 0).run Tryz.prog w = .ok (.pointer (some (a.add 0))) w:=by
 simp [Instr.fieldAt,Instr.sureAddr,fieldPlace,Sem.run_bind,Result.andThen,U_101,Z_5]
theorem Df (a:Addr) (w:World):(Instr.fieldAt 101 (.pointer (some a)) 1).run Tryz.prog w = .ok (.pointer (some (a.add 1))) w:=by
 simp [Instr.fieldAt,Instr.sureAddr,fieldPlace,Sem.run_bind,Result.andThen,U_101,Z_77]
theorem Pd (a:Addr) (w:World):(Instr.fieldAt 101 (.pointer (some a)) 2).run Tryz.prog w = .ok (.pointer (some (a.add 2))) w:=by
 simp [Instr.fieldAt,Instr.sureAddr,fieldPlace,Sem.run_bind,Result.andThen,U_101,Z_77]
theorem Jg:Tryz.prog.info? 23 = some Tryz.t23:=by kernel_rfl
theorem Ui:Tryz.prog.info? 77 = some Tryz.t77:=by kernel_rfl
theorem Sd:Tryz.prog.underlying 77 = some (.slice 23):=by kernel_rfl
end
section
open Go Go.RowKit
abbrev Hn (a:Nat) (zl sl:List Rt):Ty:=eB [NT .u8 a,kG zl,kG sl]
theorem Qr:∀ V,(jQ default).p (.agg #[.int .i64 0,.int .i64 0,.int .i64 0]) V:=fun V=>⟨[.int .i64 0,.int .i64 0,.int .i64 0],rfl,aW zd (aW zd (aW zd aG))⟩
theorem a1N {B e s l:Nat} {BT:TypeId} {Rs:List (List Ty)} {q:Value → Prop} (hl:l = Rs.length):∀ u S V,(Is (.slice (some ⟨B,0,none⟩) l l)).p u V → (qZ q B BT e s Rs).h S V V → (iE 1 (Rs.map (iE s))).p u V:=fun u S V h1 h2=>Av hl (Nat.le_refl _) u S V h1 h2
theorem Qm (a:Nat) (sl:List Rt):(tab (kW a) fun i=>tab (kW a) fun j=>jQ (yH (Gq sl (kW a * i + j)))).map (iE 3) = (tB a sl).map kG:=by
 rw [tB,mD,mD]
 refine eA fun i _=>?_
 rw [kG,mD]
theorem Nz {a:Nat} {zl sl:List Rt} (ha:a < 256):iC Tryz.prog 132 [Hn a zl sl] [] (Nat) (fun B=>fB [kG (tK a zl),Is (.slice (some ⟨B,0,none⟩) (kW a) (kW a))]) (fun B=>[qY B 77 23 3 (tab (kW a) (fun i=>tab (kW a) fun j=>jQ (yH (Gq sl (kW a * i + j)))))]) (fun _=>True):=by
 have hn:kW a ≤ 4:=by unfold kW; omega
 have hn0:a % 4 + 1 = kW a:=rfl
 refine iC.intro Tryz.func132 rfl Tryz.ntmps132 rfl (fun cx Z=>(ts (rn rfl (fG (Ht rfl)) fun B1=>(ro rfl (cQ cV) (ro rfl (cQ cV) (eX (ts (ro rfl (eZ xD (Ht rfl) rfl) (ro rfl (eY A_5 Z_5 (Ht rfl) (i:=1) rfl rfl) (ro rfl (iK (Ht rfl) (cJ 4) zo) (ro rfl (gJ U_5 U_3 (Ht rfl) z6) (ro rfl (aD.nat (dV (Ht rfl) (cJ 1) z6) hn0) ?_))))))))))))
 refine ra rfl (eX (cK (fZ (m:=5) (dp 4 rfl (cX (Ht rfl)) (C.D_new (Ei:=[(14,_)]) rfl rfl rfl (bV (bG 0 rfl rfl) bW) (iB (T:=jQ default) (i:=Tryz.t23) Sd Jg rfl rfl (Ht rfl) rfl Qr (El.ag rfl) (by show 24 * _ ≤ _; omega) zo) (dp 4 rfl (cX (Ht rfl)) (C.D_new (Ei:=[(16,_)]) rfl rfl rfl (bV (bG 2 rfl rfl) bW) (gB (T:=Is (.slice none 0 0)) (i:=Tryz.t77) Tryz.underlying181 Ui rfl rfl (Ht rfl) rfl (fun _=>rfl) trivial (by show 24 * _ ≤ _; omega) zo) (C.D_cpy 1 rfl rfl rfl rfl rfl C.cpy_assign ?_))))))))
 refine fV bB rfl (by kernel_rfl) (aJ (C.F_new (fun B15=>aJ (C.F_new (fun B17=>C.F_cpy rfl (aV (ra rfl (eX (cK (ts (rm rfl (ro rfl (qR U_77 (Ht rfl) (i:=2) rfl (show ((List.replicate (kW a) (jQ default)).length:Int) = ((kW a:Nat):Int) from by simp)) (ro rfl (cX (cJ 0)) (eX (eG (oZ 3 rfl (Bc (e:=23) (s:=3)) ?_))))))))))))))))
 refine dB (fun (i : Nat) => i ≤ kW a) (fun (i : Nat) => kW a - i) (fun (i : Nat) => [(1, cH B1 0), (4, NT .i64 (kW a)), (5, Is B15), (6, Is (.slice (some ⟨B17, 0, none⟩) (kW a) (kW a))), (19, NT .i64 (kW a)), (20, NT .i64 i)]) (fun (i : Nat) => [Z, box B1 101 [NT .u8 a, kG zl, kG sl], bH 23 3 B15 (lT (fun i => jQ (Ay (Gq zl i))) (jQ default) (kW a) i), qY B17 77 23 3 (lT (fun i => tab (kW a) fun j => jQ (yH (Gq sl (kW a * i + j)))) [] (kW a) i)]) 0 (Nat.zero_le _)
  (aQ rfl (aQ rfl (aQ rfl (aQ rfl (aZ rfl (kJ (by simp)) (zS rfl)))))) (aU (fun _ _ _ h=>h) (aU (aR rfl) (aU (bN (by rw [← kR]; exact oO _ _)) (aU (gH (by rw [← kR]; exact oO _ _)) aY)))) (fun i hi=>?_)
 refine ts (ro rfl (gZ (Ht rfl) (Ht rfl)) (eX (cK (dQ (Ht rfl) (fun hd=>?_) (fun hd=>?_)))))
 ·simp only [decide_eq_true_eq] at hd
  have hni:kW a * i ≤ 4 * 4:=Nat.mul_le_mul hn zo
  refine sP 3 (i) rfl (Jp hd) (fun v0=>(cU (cK (eG (ts (rm rfl (ra rfl (eX (ts (rm rfl (rm rfl (ro rfl (eZ Df (Ht rfl) rfl) (ro rfl (eY A_77 Z_77 (Ht rfl) (i:=1) rfl rfl) (rm rfl (ro rfl (cZ Tryz.call221 Oh ⟨(Ht rfl),(Ht rfl),trivial⟩) (ro rfl (cZ Tryz.call61 Im ⟨(Ht rfl),trivial⟩) (ro rfl (eO U_77 Z_23 (Ht rfl) (Ht rfl) rfl (i:=2) rfl (by rw [fH]; omega) rfl) ?_)))))))))))))))))
  refine mN Z_23 (Ht rfl) (Ht rfl) (El.ag rfl) (i:=2) rfl rfl (by rw [fH]; omega) rfl ?_
  refine eX (ts (rm rfl (rm rfl (rm rfl (rn rfl (iB (T:=jQ default) (i:=Tryz.t23) Sd Jg rfl rfl (Ht rfl) rfl Qr (El.ag rfl) (by show 24 * _ ≤ _; omega) zo) fun B34=>(ro rfl (gQ U_181 Z_77 (Ht rfl) (Ht rfl) rfl zo (by rw [Nat.mul_one,Nat.zero_add])) ?_))))))
  refine Ca Z_77 (Ht rfl) (Ht rfl) (by rw [fH]; omega) (j:=3) (l:=5) rfl rfl rfl ?_
  refine eX (cK (eR [0,1,2,3,5] rfl (by decide) (cY (rm rfl (rm rfl (ro rfl (gQ U_181 Z_77 (Ht rfl) (Ht rfl) rfl zo (by rw [Nat.mul_one,Nat.zero_add])) ?_))))))
  refine ro rfl (oM A_77 Z_77 (Ht rfl) (j:=3) rfl) (ro rfl (qR U_77 (Ht rfl) (i:=4) rfl (show ((List.replicate (kW a) (jQ default)).length:Int) = ((kW a:Nat):Int) from by simp)) (ro rfl (cX (cJ 0)) (eX (eG ?_))))
  refine dB (fun (j : Nat) => j ≤ kW a) (fun (j : Nat) => kW a - j) (fun (j : Nat) => [(1, cH B1 0), (4, NT .i64 (kW a)), (5, Is B15), (6, Is (.slice (some ⟨B17, 0, none⟩) (kW a) (kW a))), (7, NT .i64 i), (19, NT .i64 (kW a)), (20, NT .i64 i), (40, NT .i64 (kW a)), (41, NT .i64 j)]) (fun (j : Nat) => [Z, box B1 101 [NT .u8 a, kG zl, kG sl], bH 23 3 B15 (lT (fun i => jQ (Ay (Gq zl i))) (jQ default) (kW a) (i + 1)), Uq B17 77 23 3 (lT (fun i => tab (kW a) fun j => jQ (yH (Gq sl (kW a * i + j)))) [] (kW a) i) i B34, bH 23 3 B34 (lT (fun j => jQ (yH (Gq sl (kW a * i + j)))) (jQ default) (kW a) j)]) 0 (Nat.zero_le _)
   (zS rfl) (aU (fun _ _ _ h=>h) (aU (aR rfl) (aU (bN (mA (f:=(fun i=>jQ (Ay (Gq zl i)))))) (aU (fun _ _ _ h=>h) (aU (bN (by rw [← kR]; exact oO _ _)) aY))))) (fun j hj=>?_)
  refine ts (ro rfl (gZ (Ht rfl) (Ht rfl)) (eX (cK (dQ (Ht rfl) (fun he=>?_) (fun he=>?_)))))
  ·simp only [decide_eq_true_eq] at he
   refine cU (cK (eG (ts (rm rfl (ra rfl (eX (fZ (m:=14) (dp 6 rfl (cX (Ht rfl)) (dp 7 rfl (cX (Ht rfl)) (eE 44 0 45 1 rfl (gQ U_181 Z_77 (Ht rfl) (Ht rfl) rfl zo (by rw [Nat.mul_one,Nat.zero_add])) ?_))))))))))
   refine dq 46 2 rfl (oM A_77 Z_77 (Ht rfl) (j:=3) rfl) (dp 8 rfl (cX (Ht rfl)) (dp 1 rfl (eZ Pd (Ht rfl) rfl) (dq 49 5 rfl (eY A_77 Z_77 (Ht rfl) (i:=1) rfl rfl) (dp 4 rfl (cX (Ht rfl)) (dp 7 rfl (cX (Ht rfl)) (eE 51 7 52 8 rfl (jK (Ht rfl) (Ht rfl) (by show _ < 9223372036854775808; omega)) (dp 8 rfl (cX (Ht rfl)) (eE 53 9 54 10 rfl (dV (Ht rfl) (Ht rfl) (by show _ < 9223372036854775808; omega)) (eE 50 6 55 11 rfl (cZ Tryz.call221 Oh ⟨(Ht rfl),(Ht rfl),trivial⟩) (dq 56 12 rfl (cZ Tryz.call146 Iv ⟨(Ht rfl),trivial⟩) ?_))))))))))
   refine fV bB rfl (by kernel_rfl) (zF (zF (zF (aJ (aJ (aV (ro rfl (eO U_77 Z_23 (Ht rfl) (Ht rfl) rfl (i:=4) rfl (by rw [fH]; omega) rfl) ?_)))))))
   refine mN Z_23 (Ht rfl) (Ht rfl) (El.ag rfl) (i:=4) rfl rfl (by rw [fH]; omega) rfl ?_
   refine eX (T_blk (cY (ro rfl (dV (Ht rfl) (cJ 1) z6) (rm rfl (eX (fY (j + 1) he zo (zS rfl) (aU (fun _ _ _ h=>h) (aU (aR rfl) (aU (fun _ _ _ h=>h) (aU (fun _ _ _ h=>h) (aU (bN (mA (f:=fun j=>jQ (yH (Gq sl (kW a * i + j)))))) aY)))))))))))
  ·simp only [decide_eq_false_iff_not] at he
   have hjn:j = kW a:=Nat.le_antisymm hj zo
   rw [hjn,lZ]
   refine gW rfl (T_blk (mG 3 4 rfl rfl (by decide) (by rw [fH]; omega) ?_))
   refine cY (ro rfl (dV (Ht rfl) (cJ 1) z6) (rm rfl (eX (eR [0,1,2,3] rfl (by decide) (fY (i + 1) hd zo (zS rfl) (aU (fun _ _ _ h=>h) (aU (aR rfl) (aU (fun _ _ _ h=>h) (aU (gH (mA (f:=(fun i=>tab (kW a) fun j=>jQ (yH (Gq sl (kW a * i + j))))))) aY)))))))))
 ·simp only [decide_eq_false_iff_not] at hd
  have hin:i = kW a:=Nat.le_antisymm hi zo
  rw [hin,lZ,lZ]
  refine gW rfl (gV (i:=2) (tt:=5) rfl rfl iZ (ts (rm rfl (rm rfl (ra rfl (ra rfl (eX ?_)))))))
  exact kX B17 trivial [0,3] ⟨⟨_,rfl,fun _ _ _ h=>h⟩,⟨_,rfl,fun _ _ _ h=>h⟩,trivial⟩ (by decide) (a0s rfl (fX (eU rfl) (lB (by rw [tK,mD]))) (eU rfl))
theorem a1X {T U U':Ty} {v:Value} {V:aE} (h:(fB [T,U]).p v V) (hU:∀ u,U.p u V → U'.p u V):(fB [T,U']).p v V:=by
 obtain ⟨vs,h1,h2⟩:=h
 match vs,h2 with
 | [x,y],⟨a,b,c⟩=>exact ⟨[x,y],h1,a,hU y b,c⟩
theorem Sz {a : Nat} {zl sl : List Rt} (ha : a < 256) : aT Tryz.prog 132 [Hn a zl sl] (fB [kG (tK a zl), Nc (tB a sl)]) := (Nz ha).fun fun B _ v S V h1 h2 => a1X h1 fun u hu => by
 exact lB (Qm a sl) u V (a1N (bF _ _).symm u S V hu h2)
theorem Sw {a:Nat} {zl sl:List Rt} (ha:a < 256):aT Tryz.prog 48 [Hn a zl sl] (fB [eL ((tK a zl).map Rt.q) (rq (tB a sl)),rS ((tK a zl).map Rt.q) (rq (tB a sl)),aC true]):=by
 have hn:kW a ≤ 4:=by unfold kW; omega
 have herr:=Qn a zl sl
 have hzl:(tK a zl).length = kW a:=bF _ _
 have hsl:(tB a sl).length = kW a:=bF _ _
 have hall:∀ r,r ∈ tB a sl → r.length ≤ 1000:=fun r hr=>by obtain ⟨i,_,rfl⟩:=gS.1 hr; rw [bF]; omega
 have hsh:=(qN herr).2.2.1
 have z1:((tK a zl).map Rt.q).length ≤ 1000:=by rw [List.length_map,hzl]; omega
 have s1:(rq (tB a sl)).length ≤ 1000:=by rw [List.length_map,hsl]; omega
 have hcv:∀ v V,(fB [eL (kP (cC ((tK a zl).map Rt.q) (rq (tB a sl))) ((tK a zl).map Rt.q)) (kP (cC ((tK a zl).map Rt.q) (rq (tB a sl))) (rq (tB a sl))),aI .i64 (cC ((tK a zl).map Rt.q) (rq (tB a sl)))]).p v V → (fB [eL ((tK a zl).map Rt.q) (rq (tB a sl)),aI .i64 0]).p v V:=by rw [herr]; exact fun _ _ h=>h
 have hcv2:∀ v V,(fB [rS (kP (cC ((tK a zl).map Rt.q) (rq (tB a sl))) ((tK a zl).map Rt.q)) (kP (cC ((tK a zl).map Rt.q) (rq (tB a sl))) (rq (tB a sl))),aI .i64 (cC ((tK a zl).map Rt.q) (rq (tB a sl)))]).p v V → (fB [rS ((tK a zl).map Rt.q) (rq (tB a sl)),aI .i64 0]).p v V:=by rw [herr]; exact fun _ _ h=>h
 refine aT.intro Tryz.func48 rfl Tryz.ntmps48 rfl (fun cx=>(ts (rn rfl (fG (Ht rfl)) fun B1=>(rn rfl (eW (Ts:=[Is (.slice none 0 0),Is (.slice none 0 0)]) O_80 rfl (fun V=>aW zd (aW zd (aG)))) fun B2=>(rn rfl (eW (Ts:=[Is (.slice none 0 0),Is (.slice none 0 0)]) O_104 rfl (fun V=>aW zd (aW zd (aG)))) fun B3=>(ro rfl (cQ cV) (eX (ts (ro rfl (eJ Tryz.isAgg101 Z_101 (Ht rfl) (i:=0) rfl rfl rfl) (ro rfl (cZ Tryz.call132 (Sz ha) ⟨(Ht rfl),trivial⟩) ?_))))))))))
 refine rm rfl (ro rfl (dK (Ht rfl) rfl) (ro rfl (dK (Ht rfl) rfl) (ra rfl (ra rfl (eX (ts (rm rfl (ro rfl (cZ Tryz.call50 (tO zo) ⟨(Ht rfl),trivial⟩) (rm rfl (ro rfl (cZ Tryz.call99 (yX zo hall) ⟨(Ht rfl),trivial⟩) (ro rfl (cZ Tryz.call98 (eQ (Cp (z:=((tK a zl).map Rt.q)) (s:=(rq (tB a sl))) (L:=2) dA.rt (by decide) z1 s1) hcv) ⟨(Ht rfl),(Ht rfl),trivial⟩) (rm rfl (ro rfl (dK (Ht rfl) rfl) (ro rfl (dK (Ht rfl) rfl) (rn rfl (eW (Ts:=[Is (.slice none 0 0),Is (.slice none 0 0)]) O_80 rfl (fun V=>aW zd (aW zd (aG)))) fun B7=>?_)))))))))))))))
 refine gX Z_80 (Ht rfl) (Ht rfl) rfl (i:=3) rfl (aK rfl) rfl rfl (ra rfl (eX (ts (rm rfl (ro rfl (cZ Tryz.call52 (wT zo) ⟨(Ht rfl),trivial⟩) (rm rfl (ro rfl (cZ Tryz.call134 (Ge zo hall) ⟨(Ht rfl),trivial⟩) (ro rfl (cZ Tryz.call133 (eQ (Kw (z:=((tK a zl).map Rt.q)) (s:=(rq (tB a sl))) (L:=2) dA.rt (by decide) z1 s1) hcv2) ⟨(Ht rfl),(Ht rfl),trivial⟩) (rm rfl (ro rfl (dK (Ht rfl) rfl) (ro rfl (dK (Ht rfl) rfl) (rn rfl (eW (Ts:=[Is (.slice none 0 0),Is (.slice none 0 0)]) O_104 rfl (fun V=>aW zd (aW zd (aG)))) fun B9=>?_))))))))))))
 refine gX Z_104 (Ht rfl) (Ht rfl) rfl (i:=4) rfl (aK rfl) rfl rfl (ra rfl (eX (cK (Y.D_start (m:=11) [(9,1,box B2 80 [bP ((tK a zl).map Rt.q),fC (rq (tB a sl))]),(10,2,box B3 104 [Bv ((tK a zl).map Rt.q),QM (rq (tB a sl))])] (Y.D_step (Ei:=[(7,_)]) rfl rfl (bQ (bJ rfl rfl) bX) rfl rfl (by kernel_rfl) (dX rfl (eJ A_80 Z_80 (Ht rfl) (i:=3) rfl rfl rfl)) (bY (Ei:=[(9,_)]) rfl rfl (bQ (bJ rfl rfl) bX) rfl rfl (dX rfl (eJ A_104 Z_104 (Ht rfl) (i:=4) rfl rfl rfl)) ?_))))))
 refine Y.D_step (Ei:=[(8,_)]) rfl rfl (bQ (bJ rfl rfl) bX) rfl rfl (by kernel_rfl) (dX rfl (cX (Ht rfl))) (Y.D_step (Ei:=[(34,_)]) rfl rfl (bQ (bZ 2 rfl rfl) bX) rfl rfl (by kernel_rfl) (dX rfl (jO (Ht rfl) cV)) (Y.D_step (Ei:=[(35,_)]) rfl rfl (bQ (bZ 3 rfl rfl) bX) rfl rfl (by kernel_rfl) (dX rfl (cX (Ht rfl))) (Y.D_step (Ei:=[(7,_),(36,_)]) rfl rfl (bQ (bJ rfl rfl) (bQ (bZ 4 rfl rfl) bX)) rfl rfl (by kernel_rfl) (eK rfl rfl (Ht rfl) (fun h=>eJ A_80 Z_80 (Ht rfl) (i:=3) rfl rfl rfl)) ?_)))
 refine Y.D_step (Ei:=[(9,_),(36,_)]) rfl rfl (bQ (bJ rfl rfl) (bQ (bZ 4 rfl rfl) bX)) rfl rfl (by kernel_rfl) (eK rfl rfl (Ht rfl) (fun h=>eJ A_104 Z_104 (Ht rfl) (i:=4) rfl rfl rfl)) (Y.D_step (Ei:=[(37,_),(38,_),(36,_)]) rfl rfl (bQ (bZ 5 rfl rfl) (bQ (bZ 6 rfl rfl) (bQ (bZ 4 rfl rfl) bX))) rfl rfl (by kernel_rfl) (eK rfl rfl (Ht rfl) (fun h=>cZ Tryz.call135 (a1b (z:=((tK a zl).map Rt.q)) (s:=(rq (tB a sl))) (L:=2) dA.rt dM.rt (by decide) (by decide) hsh z1) ⟨(fJ rfl h),(fJ rfl h),trivial⟩)) ?_)
 refine bY (Ei:=[(36,_),(39,_)]) rfl rfl (bQ (bZ 4 rfl rfl) (bQ (bZ 7 rfl rfl) bX)) rfl rfl (dX rfl (eS (Ht rfl) (fun h=>(fJ rfl h)))) (Y.D_putI (Ei:=[(2,_),(32,_)]) 1 rfl rfl rfl (bQ (bJ rfl rfl) (bQ (bZ 0 rfl rfl) bX)) (.head _) rfl (rR Z_80 (Ht rfl) (Ht rfl) rfl (i:=0) rfl (aK rfl) rfl rfl) (Y.D_putI (Ei:=[(3,_),(33,_)]) 2 rfl rfl rfl (bQ (bJ rfl rfl) (bQ (bZ 1 rfl rfl) bX)) (.tail _ (.head _)) rfl (rR Z_104 (Ht rfl) (Ht rfl) rfl (i:=0) rfl (aK rfl) rfl rfl) ?_))
 refine Y.D_done bB rfl (by kernel_rfl) rfl (by simp [Y.okP]) rfl rfl (bU (bU (bU (bU (bU (bU (bU (bU (bU (Y.F_putI (Y.F_putI (Y.F_nil ?_))))))))))))
 refine ra rfl (eX (Fo rfl (fU A_80 Z_80 rfl (i:=1) rfl rfl) (fU A_104 Z_104 rfl (i:=2) rfl rfl) (fX (eU rfl) ?_)))
 exact (cT (by simp))
end
section
open Go Go.RowKit
open Fl
theorem Lq:∀ V,(eL [] []).p (.agg #[.slice none 0 0,.slice none 0 0]) V:=fun V=>lE _ V ⟨[.slice none 0 0,.slice none 0 0],rfl,aW zd (aW zd aG)⟩
theorem a0A {l:List NP} (F:NP → Ty):tab l.length (fun i=>F (l.getD i jB)) = l.map F:=by
 apply List.ext_getElem?
 intro i
 by_cases h:i < l.length
 ·rw [cE h]; simp [List.getD,h]
 ·rw [List.getElem?_eq_none (by rw [bF]; omega),List.getElem?_eq_none (by simp; omega)]
structure Fj (n:NP) (K:Nat):Prop where
 fz:dA n.1 K
 fs:dM n.2 K
 sh:iL n.2 n.1.length n.1.length
 h8:n.1.length ≤ 8
theorem Qc {K:Nat}:Fj jB K:=⟨dA.nil,dM.nil,⟨rfl,fun r hr=>by cases hr⟩,by decide⟩
theorem a0z {f : List Qi} {l : List NP} {L : Nat} (hf : dA f L) (h : ∀ i, Fj (l.getD i jB) L) (h1 : f.length ≤ 1000) (h2 : l.length ≤ 1000) : SwF f l L :=
 ⟨hf,fun i=>(h i).fz,fun i=>(h i).fs,fun i=>(h i).sh,fun i=>(h i).h8,h2,h1⟩
abbrev PE:=Nat × List Rt × List Rt
abbrev sM (q:PE):Ty:=eB [NT .u8 q.1,kG q.2.1,kG q.2.2]
end
section
open Go Go.RowKit
def l4 (a b c d : Nat) : Nat → Nat
 | 0=>a
 | 1=>b
 | 2=>c
 | _=>d
end
section
open Go Go.RowKit
theorem Tc {a:Nat} {zl sl:List Rt} {r:Rt} (ha:a < 256):aT Tryz.prog 60 [Hn a zl sl,jQ r] (fB [eL ((tK a [r]).map Rt.q) (rq (tB a sl)),aC true]):=by
 have hB:=Sw (a:=a) (zl:=[r]) (sl:=sl) ha
 refine aT.intro Tryz.func60 rfl Tryz.ntmps60 rfl (fun cx=>(ts (rn rfl (fG (Ht rfl)) fun B2=>(rn rfl (fG (Ht rfl)) fun B3=>(rn rfl (eW (Ts:=[Is (.slice none 0 0),Is (.slice none 0 0)]) O_80 rfl (fun V=>aW zd (aW zd (aG)))) fun B4=>(ro rfl (cQ cV) (eX (ts (ro rfl (eJ A_23 Z_23 (Ht rfl) (i:=1) rfl rfl rfl) (ro rfl (dT (xs:=[.tmp 9]) U_77 Z_23 O_23 (cW (Ht rfl) cG) rfl rfl rfl) (ro rfl (eZ Df (Ht rfl) rfl) ?_)))))))))))
 refine iD Z_77 (Ht rfl) (Ht rfl) (i:=0) rfl (aK rfl) rfl (eX (ts (ro rfl (eJ Tryz.isAgg101 Z_101 (Ht rfl) (i:=0) rfl rfl rfl) (ro rfl (cZ Tryz.call48 hB ⟨(Ht rfl),trivial⟩) (rm rfl (ro rfl (dK (Ht rfl) rfl) (ro rfl (dK (Ht rfl) rfl) (ro rfl (dK (Ht rfl) rfl) (rn rfl (eW (Ts:=[Is (.slice none 0 0),Is (.slice none 0 0)]) O_80 rfl (fun V=>aW zd (aW zd (aG)))) fun B6=>(rn rfl (eW (Ts:=[Is (.slice none 0 0),Is (.slice none 0 0)]) O_104 rfl (fun V=>aW zd (aW zd (aG)))) fun B7=>?_))))))))))
 refine gX Z_80 (Ht rfl) (Ht rfl) rfl (i:=3) rfl (aK rfl) rfl rfl (gX Z_104 (Ht rfl) (Ht rfl) rfl (i:=4) rfl (aK rfl) rfl rfl (ra rfl (eX (ts (ro rfl (eJ A_80 Z_80 (Ht rfl) (i:=3) rfl rfl rfl) (rm rfl (gX Z_80 (Ht rfl) (Ht rfl) rfl (i:=2) rfl (aK rfl) rfl rfl (ra rfl (eX ?_)))))))))
 exact bE rfl (fU A_80 Z_80 rfl (i:=2) rfl rfl) (eU rfl)
end
section
open Fl
section
variable {f:List Qi} {l:List NP}
theorem a03 (h : qX f l) {i : Nat} (hi : i < f.length) : Bw f (gv f i) = i :=
 Pr zo (fun j hj=>h.lt hj hi) fun _=>Rat.le_refl
theorem Ah (h : qX f l) {i : Nat} (hi : i < f.length) : vB f l (gv f i) = (l.getD i jB, 0) :=
 Nt (h.re hi).b (a03 h hi) ⟨hi,rfl⟩
theorem Wc (h:qX f l) {i:Nat} (hi:i < f.length):Me f l f i = 0:=by
 refine Qz (by rw [Ah h hi]) fun k=>?_
 have h1:=h.up i k.1 hi
 rw [An] at k
 exact absurd h1 (Rat.not_lt.2 k.2)
theorem We (h:qX f l):Gv f l f = 0:=Yb (by have:=h.n1; omega) fun i hi=>Wc h hi
theorem Wf (h:qX f l):Mf f l f = l:=by
 refine List.ext_getElem (by simp [Mf,h.len]) fun i h1 h2=>?_
 have hi:i < f.length:=by simpa [Mf] using h1
 have hl:i < l.length:=h2
 have:=Ah h hi
 rw [show gv f i = f[i] by simp [gv,List.getD,hi]] at this
 simp only [Mf,List.getElem_map,this]
 simp [List.getD,hl]
end
def Yh (c:Qi) (n:Nat):List Qi:=tab n fun k=>c * Qi.ofInt ((k:Int) + 1)
theorem mE (c:Qi) (n:Nat):(Yh c n).length = n:=bF ..
theorem vY {c:Qi} {n i:Nat} (h:i < n):gv (Yh c n) i = c * Qi.ofInt ((i:Int) + 1):=by
 unfold Yh; rw [xG h]
theorem Vt {x:Qi} (h:Re x) (k:0 < x.re):gI x = true:=by
 simp only [gI,decide_eq_true_eq]; exact ⟨h.b,Qi.a_pos.2 k⟩
theorem a0J {c:Qi} {n:Nat} {l:List NP} (hc:gI c = true) (hn:n ≤ 1000) (hl:l.length = n) (hz:∀ i,i < n → nz l i = nz l 0):qX (Yh c n) l:=by
 have hr:=Fl.pos_re hc
 have hp:=Qo hc
 have e : ∀ i, i < n → (gv (Yh c n) i).re = c.re * (((i : Int) + 1 : Int) : Rat) := fun i hi => by
  rw [vY hi,hr.rmul]; rfl
 have pos : ∀ i : Nat, (0 : Rat) < (((i : Int) + 1 : Int) : Rat) := fun i => by
  have:((0:Int):Rat) < (((i:Int) + 1:Int):Rat):=Rat.intCast_lt_intCast.2 zo
  exact this
 refine ⟨by rw [mE,hl],by rw [mE]; omega,fun i hi=>?_,fun i h0 hi=>?_,fun i hi=>hz i (by rwa [mE] at hi)⟩
 ·rw [mE] at hi
  refine Vt (by rw [vY hi]; exact hr.mul ⟨rfl⟩) ?_
  rw [e i hi]; exact Rat.mul_pos hp (pos i)
 ·rw [mE] at hi
  rw [e i hi,e (i - 1) zo]
  have:((((i - 1:Nat):Int) + 1:Int):Rat) < (((i:Int) + 1:Int):Rat):=Rat.intCast_lt_intCast.2 zo
  exact Rat.mul_lt_mul_of_pos_left this hp
theorem a0y {f:List Qi} {l:List NP} (h:qX f l):Ez f l = 0:=by
 refine Yd (by have:=h.len; have:=h.n1; omega) fun i hi=>?_
 refine Rn (h.pos i hi) (fun k=>?_) (h.zs i hi)
 have h1:=h.up i k.1 hi
 have h2:=k.2
 rw [An] at h2
 exact absurd h1 (Rat.not_lt.2 h2)
end
section
open Go Go.RowKit
namespace Q
inductive Ob:Type 1 where
 | val (T:Ty)
 | new (γ:Type) (T:γ → Ty) (A:γ → SA)
 | newq (γ:Type) (T:γ → Ty) (A:γ → SA) (p q:Nat) (G:γ → Ty → SA)
 | putq (j q:Nat)
def Ob.isPut : Ob → Bool
 | .putq _ _=>true
 | _=>false
def Src (ops : List Oper) (m : Nat) (E0 : bD) (prev : List (Nat × Ob)) (o : Oper) (t : Nat) (T : Ty) : Prop :=
 (cL E0 t = some T ∧ ((List.range m).all fun j=>!(cP ops j == some t)) = true) ∨
 ∃ j,prev.reverse[j]? = some (t,.val T) ∧ (o.after.toList.any fun e=>Nat.beq e.on j && Region.binds .any e) = true
theorem Src.pre {ops:List Oper} {m:Nat} {E0:bD} {prev:List (Nat × Ob)} {o:Oper} {t:Nat} {T:Ty} (h:cL E0 t = some T) (h':((List.range m).all fun j=>!(cP ops j == some t)) = true):Src ops m E0 prev o t T:=.inl ⟨h,h'⟩
theorem Src.op {ops:List Oper} {m:Nat} {E0:bD} {prev:List (Nat × Ob)} {o:Oper} {t:Nat} {T:Ty} (j:Nat) (h:prev.reverse[j]? = some (t,.val T)) (h':(o.after.toList.any fun e=>Nat.beq e.on j && Region.binds .any e) = true):Src ops m E0 prev o t T:=.inr ⟨j,h,h'⟩
def Srcs (ops:List Oper) (m:Nat) (E0:bD) (prev:List (Nat × Ob)) (o:Oper) (Ei:bD):Prop:=∀ t T,cL Ei t = some T → Src ops m E0 prev o t T
theorem Srcs.nil {ops:List Oper} {m:Nat} {E0:bD} {prev:List (Nat × Ob)} {o:Oper}:Srcs ops m E0 prev o []:=fun t T h=>by cases h
theorem Srcs.cons {ops : List Oper} {m : Nat} {E0 Ei : bD} {prev : List (Nat × Ob)} {o : Oper} {t : Nat} {T : Ty} (h : Src ops m E0 prev o t T) (k : Srcs ops m E0 prev o Ei) : Srcs ops m E0 prev o ((t, T) :: Ei) := fun u U hl => by
 rw [bA] at hl
 by_cases e:t = u
 ·subst e; rw [if_pos rfl] at hl; obtain rfl:=Option.some.inj hl; exact h
 ·rw [if_neg e] at hl; exact k u U hl
section
variable {P:Program} {R:cO} {cx:Cx} {n:Nat} {k:List It} {E:bD} {H:Hp}
def qW (P : Program) (n : Nat) (ops : List Oper) (m : Nat) (E0 : bD) (H : Hp) (prev : List (Nat × Ob)) (d : Nat) (o : Oper) : Ob → Prop
 | .val T=>(o.dst = some d ∧ d < n) ∧ ∃ Ei,Srcs ops m E0 prev o Ei ∧ fD P n ops.toArray Ei H o T
 | .new γ T A=>(o.dst = some d ∧ d < n) ∧ o.guard = none ∧ ∃ Ei,Srcs ops m E0 prev o Ei ∧ fS P n Ei H o γ T A
 | .newq γ T A p q _=>(o.dst = some d ∧ d < n) ∧ o.guard = none ∧ prev.length < p ∧ q < prev.length ∧ ∃ Ei,Srcs ops m E0 prev o Ei ∧ fS P n Ei H o γ T A
 | .putq j q => o.guard = none ∧ o.dst = none ∧ (o.after.toList.any fun e => Nat.beq e.on j && Region.binds .any e) = true ∧ (o.after.toList.any fun e => Nat.beq e.on q && Region.binds .any e) = true ∧
   ∃ (dj : Nat) (γ : Type) (T : γ → Ty) (A : γ → SA) (G : γ → Ty → SA) (dq : Nat) (γq : Type) (Tq : γq → Ty) (Aq : γq → SA), prev.reverse[j]? = some (dj, .newq γ T A prev.length q G) ∧ prev.reverse[q]? = some (dq, .new γq Tq Aq) ∧
    ∀ x y,W.PutTy P n [(dj,T x),(dq,Tq y)] [A x] [G x (Tq y)] o
def iR (P : Program) (n : Nat) (ops : List Oper) (m : Nat) (E0 : bD) (H : Hp) : List (Nat × Ob) → Prop
 | []=>True
 | (d,b) :: prev=>(∃ o,ops[prev.length]? = some o ∧ qW P n ops m E0 H prev d o b) ∧ iR P n ops m E0 H prev
def Dr (P : Program) (R : cO) (cx : Cx) (n : Nat) (ops : List Oper) (m : Nat) (k : List It) (E0 : bD) (H : Hp) (l : List Oper) (acc : List (Nat × Ob)) : Prop :=
 ops = (ops.take acc.length) ++ l → iR P n ops m E0 H acc → ∀ id,Go.Proofs.YthcmlodgnfekeaaGreat.Tr P R cx n (.code (.region id ops.toArray true) :: k) E0 H
def Fin' (P : Program) (R : cO) (cx : Cx) (n : Nat) (ops : Array Oper) (l : List Oper) (k : List It) : List (Nat × Ob) → List Ty → bD → Hp → Prop
 | [],_,E,H=>Rg P R cx n ops l k E H
 | (d,.val T) :: r,Us,E,H=>Fin' P R cx n ops l k r (Us ++ [T]) ((d,T) :: E) H
 | (d,.new γ T A) :: r,Us,E,H=>∀ x:γ,Fin' P R cx n ops l k r (Us ++ [T x]) ((d,T x) :: E) (H ++ [A x])
 | (d,.newq γ T _ _ q G) :: r,Us,E,H=>∀ x:γ,Fin' P R cx n ops l k r (Us ++ [T x]) ((d,T x) :: E) (H ++ [G x (Us.getD q iM)])
 | (_,.putq _ _) :: r,Us,E,H=>Fin' P R cx n ops l k r (Us ++ [iM]) E H
theorem D_start {ops:List Oper} {m:Nat} {id:Nat} (h:Dr P R cx n ops m k E H ops []):Go.Proofs.YthcmlodgnfekeaaGreat.Tr P R cx n (.code (.region id ops.toArray true) :: k) E H:=h (by simp) trivial id
theorem oR {ops l : List Oper} {m : Nat} {o : Oper} {acc : List (Nat × Ob)} (d : Nat) (b : Ob) (hob : qW P n ops m E H acc d o b) (h : Dr P R cx n ops m k E H l ((d, b) :: acc)) : Dr P R cx n ops m k E H (o :: l) acc := fun hops hobs => by
 have hlen : acc.length ≤ ops.length := by
  have:=congrArg List.length hops
  simp at this; omega
 have ho : ops[acc.length]? = some o := by
  rw [hops,List.getElem?_append_right (by simp; omega)]
  simp [Nat.min_eq_left hlen]
 have hlt:acc.length < ops.length:=(List.getElem?_eq_some_iff.1 ho).1
 refine h ?_ ⟨⟨o,ho,hob⟩,hobs⟩
 rw [List.length_cons,List.take_succ_eq_append_getElem hlt]
 have:ops[acc.length] = o:=by simpa [hlt] using ho
 rw [this]
 simpa using hops
theorem D_step {ops l : List Oper} {m : Nat} {o : Oper} {acc : List (Nat × Ob)} {d : Nat} {T : Ty} {Ei : bD} (hd : o.dst = some d) (hn : Nat.blt d n = true) (hs : Srcs ops m E acc o Ei) (hst : fD P n ops.toArray Ei H o T)
  (h:Dr P R cx n ops m k E H l ((d,.val T) :: acc)):Dr P R cx n ops m k E H (o :: l) acc:=oR d (.val T) ⟨⟨hd,Nat.le_of_ble_eq_true hn⟩,Ei,hs,hst⟩ h
theorem D_new {ops l : List Oper} {m : Nat} {o : Oper} {acc : List (Nat × Ob)} {d : Nat} {γ : Type} {T : γ → Ty} {A : γ → SA} {Ei : bD} (hg : o.guard = none) (hd : o.dst = some d) (hn : Nat.blt d n = true) (hs : Srcs ops m E acc o Ei) (hst : fS P n Ei H o γ T A)
  (h:Dr P R cx n ops m k E H l ((d,.new γ T A) :: acc)):Dr P R cx n ops m k E H (o :: l) acc:=oR d (.new γ T A) ⟨⟨hd,Nat.le_of_ble_eq_true hn⟩,hg,Ei,hs,hst⟩ h
theorem D_newq {ops l : List Oper} {m : Nat} {o : Oper} {acc : List (Nat × Ob)} {d : Nat} {γ : Type} {T : γ → Ty} {A : γ → SA} {Ei : bD} (G : γ → Ty → SA) (p q : Nat) (hg : o.guard = none) (hd : o.dst = some d) (hn : Nat.blt d n = true) (hp : Nat.blt acc.length p = true) (hq : Nat.blt q acc.length = true) (hs : Srcs ops m E acc o Ei) (hst : fS P n Ei H o γ T A)
  (h:Dr P R cx n ops m k E H l ((d,.newq γ T A p q G) :: acc)):Dr P R cx n ops m k E H (o :: l) acc:=oR d (.newq γ T A p q G) ⟨⟨hd,Nat.le_of_ble_eq_true hn⟩,hg,Nat.le_of_ble_eq_true hp,Nat.le_of_ble_eq_true hq,Ei,hs,hst⟩ h
theorem D_putq {ops l : List Oper} {m : Nat} {o : Oper} {acc : List (Nat × Ob)} (j q : Nat) {dj dq : Nat} {γ γq : Type} {T : γ → Ty} {A : γ → SA} {G : γ → Ty → SA} {Tq : γq → Ty} {Aq : γq → SA} (hg : o.guard = none) (hd : o.dst = none)
  (he:(o.after.toList.any fun e=>Nat.beq e.on j && Region.binds .any e) = true) (he2:(o.after.toList.any fun e=>Nat.beq e.on q && Region.binds .any e) = true) (hj:acc.reverse[j]? = some (dj,.newq γ T A acc.length q G)) (hq:acc.reverse[q]? = some (dq,.new γq Tq Aq))
  (hst:∀ x y,W.PutTy P n [(dj,T x),(dq,Tq y)] [A x] [G x (Tq y)] o) (h:Dr P R cx n ops m k E H l ((n,.putq j q) :: acc)):Dr P R cx n ops m k E H (o :: l) acc :=
 oR n (.putq j q) ⟨hg,hd,he,he2,dj,γ,T,A,G,dq,γq,Tq,Aq,hj,hq,hst⟩ h
def eM (L : Nat → Bool) (C : Nat → Ty × SA) (i : Nat) : Ob → Prop
 | .val T=>C i = (T,SA.emp)
 | .new γ T A=>∃ x:γ,C i = (T x,A x)
 | .newq γ T A p q G=>∃ x:γ,(C i).1 = T x ∧ (L p = false → (C i).2 = A x) ∧ (L p = true → (C i).2 = G x (C q).1)
 | .putq _ _=>C i = (iM,SA.emp)
theorem iR.get {ops : List Oper} {m : Nat} : ∀ {acc : List (Nat × Ob)}, iR P n ops m E H acc → ∀ {i : Nat} {d : Nat} {b : Ob}, acc.reverse[i]? = some (d, b) →
  ∃ o,ops[i]? = some o ∧ qW P n ops m E H ((acc.reverse.take i).reverse) d o b
 | [],_,i,d,b,h=>by simp at h
 | (d', b') :: prev, ⟨⟨o, h1, h4⟩, hp⟩, i, d, b, h => by
  rw [List.reverse_cons] at h
  by_cases e:i < prev.reverse.length
  ·rw [List.getElem?_append_left e] at h
   obtain ⟨o',q1,q4⟩:=hp.get h
   refine ⟨o',q1,?_⟩
   rw [List.reverse_cons,List.take_append_of_le_length zo]; exact q4
  ·have hi : i = prev.length := by
    have:=(List.getElem?_eq_some_iff.1 h).1
    simp at this e; omega
   subst hi
   rw [List.getElem?_append_right (by simp)] at h
   simp at h
   obtain ⟨rfl,rfl⟩:=h
   refine ⟨o,h1,?_⟩
   rw [List.reverse_cons,List.take_append_of_le_length (by simp),List.take_of_length_le (by simp),List.reverse_reverse]
   exact h4
theorem iR.len {ops : List Oper} {m : Nat} : ∀ {acc : List (Nat × Ob)}, iR P n ops m E H acc → ∀ i (h : i < acc.length), ∃ d b, acc.reverse[i]? = some (d, b) := fun {acc} _ i h =>
 ⟨_,_,by rw [List.getElem?_eq_getElem (by simpa using h)]⟩
structure oA (cx:Cx) (n:Nat) (ops:List Oper) (m:Nat) (E0:bD) (H:Hp) (L:Nat → Bool) (C:Nat → Ty × SA) (V:aE) (a:Act) (w:World):Prop where
 inv:Inv cx V (H ++ (List.range m).map fun i=>if L i then (C i).2 else SA.emp) w
 df:Kn n a.defers V
 sz:a.tmps.size = n
 old:∀ t T,cL E0 t = some T → (∀ j,j < m → cP ops j ≠ some t) → ∃ v,a.tmps[t]? = some v ∧ T.p v V
 now:∀ j d,j < m → L j = true → cP ops j = some d → ∃ v,a.tmps[d]? = some v ∧ (C j).1.p v V
theorem iR.dst {ops:List Oper} {m:Nat} {acc:List (Nat × Ob)} (h:iR P n ops m E H acc) {i d:Nat} {b:Ob} (hi:acc.reverse[i]? = some (d,b)) (hb:b.isPut = false):cP ops i = some d:=by
 obtain ⟨o,h1,h2⟩:=h.get hi
 cases b with
 | val T=>simp [cP,h1,h2.1.1]
 | new γ T A=>simp [cP,h1,h2.1.1]
 | newq γ T A p q G=>simp [cP,h1,h2.1.1]
 | putq j q=>cases hb
theorem iR.dst0 {ops:List Oper} {m:Nat} {acc:List (Nat × Ob)} (h:iR P n ops m E H acc) {i d:Nat} {b:Ob} (hi:acc.reverse[i]? = some (d,b)) (hb:b.isPut = true):cP ops i = none:=by
 obtain ⟨o,h1,h2⟩:=h.get hi
 cases b with
 | val T=>cases hb
 | new γ T A=>cases hb
 | newq γ T A p q G=>cases hb
 | putq j q=>simp [cP,h1,h2.2.1]
theorem fF {ops : List Oper} {l : List Oper} : ∀ (r : List (Nat × Ob)) (Us : List Ty) (E : bD) (H : Hp), Fin' P R cx n ops.toArray l k r Us E H → ∀ (C : Nat → Ty × SA) (i0 : Nat), Us.length = i0 → (∀ i, i < i0 → Us.getD i iM = (C i).1) → (∀ (i d : Nat) (b : Ob), r[i]? = some (d, b) → eM (fun _ => true) C (i0 + i) b) →
  (∀ (i d:Nat) (γ:Type) (T:γ → Ty) (A:γ → SA) (p q:Nat) (G:γ → Ty → SA),r[i]? = some (d,.newq γ T A p q G) → q < i0 + i) →
  ∃ E' H', Rg P R cx n ops.toArray l k E' H' ∧ (∀ t T, cL E' t = some T → (cL E t = some T ∧ ∀ (i d : Nat) (b : Ob), r[i]? = some (d, b) → b.isPut = false → d ≠ t) ∨ ∃ (i d : Nat) (b : Ob), r[i]? = some (d, b) ∧ b.isPut = false ∧ d = t ∧ T = (C (i0 + i)).1) ∧
   List.Sublist H' (H ++ (List.range r.length).map fun i=>(C (i0 + i)).2)
 | [],_,E,H,h,_,_,_,_,_,_=>⟨E,H,h,fun t T hT=>.inl ⟨hT,fun i d b hb _=>by simp at hb⟩,by simp⟩
 | (d, b0) :: r, Us, E, H, h, C, i0, hl0, hU, hC, hQ => by
  have hC':∀ (i d:Nat) (b:Ob),r[i]? = some (d,b) → eM (fun _=>true) C (i0 + 1 + i) b:=fun i d b hb=>by have:=hC (i + 1) d b (by simpa using hb); rwa [show i0 + (i + 1) = i0 + 1 + i by omega] at this
  have hfun : (fun i => (C (i0 + 1 + i)).2) = ((fun i => (C (i0 + i)).2) ∘ Nat.succ) := by
   funext i; simp [show i0 + (i + 1) = i0 + 1 + i by omega]
  -- a slot is written
  have slot : ∀ (E' : bD) (T0 : Ty), (C i0).1 = T0 → b0.isPut = false → (∀ t T, cL E' t = some T → (cL ((d, T0) :: E) t = some T ∧ ∀ (i d : Nat) (b : Ob), r[i]? = some (d, b) → b.isPut = false → d ≠ t) ∨ ∃ (i d : Nat) (b : Ob), r[i]? = some (d, b) ∧ b.isPut = false ∧ d = t ∧ T = (C (i0 + 1 + i)).1) →
    ∀ t T,cL E' t = some T → (cL E t = some T ∧ ∀ (i d':Nat) (b:Ob),((d,b0) :: r)[i]? = some (d',b) → b.isPut = false → d' ≠ t) ∨ ∃ (i d':Nat) (b:Ob),((d,b0) :: r)[i]? = some (d',b) ∧ b.isPut = false ∧ d' = t ∧ T = (C (i0 + i)).1:=fun E' T0 h0 hb0 h2 t T hT=>by
   rcases h2 t T hT with ⟨q1,q2⟩ | ⟨i,d',b,q1,q0,q2,q3⟩
   ·rw [bA] at q1
    by_cases e:d = t
    ·rw [if_pos e] at q1; obtain rfl := Option.some.inj q1
     exact .inr ⟨0,d,_,rfl,hb0,e,by rw [Nat.add_zero,h0]⟩
    ·rw [if_neg e] at q1
     refine .inl ⟨q1,fun i d' b hb hnp=>?_⟩
     cases i with
     | zero=>simp at hb; exact hb.1 ▸ e
     | succ i=>exact q2 i d' b (by simpa using hb) hnp
   ·exact .inr ⟨i + 1,d',b,by simpa using q1,q0,q2,by rw [q3,show i0 + (i + 1) = i0 + 1 + i by omega]⟩
  have slot0 : ∀ (E' : bD), b0.isPut = true → (∀ t T, cL E' t = some T → (cL E t = some T ∧ ∀ (i d : Nat) (b : Ob), r[i]? = some (d, b) → b.isPut = false → d ≠ t) ∨ ∃ (i d : Nat) (b : Ob), r[i]? = some (d, b) ∧ b.isPut = false ∧ d = t ∧ T = (C (i0 + 1 + i)).1) →
    ∀ t T,cL E' t = some T → (cL E t = some T ∧ ∀ (i d':Nat) (b:Ob),((d,b0) :: r)[i]? = some (d',b) → b.isPut = false → d' ≠ t) ∨ ∃ (i d':Nat) (b:Ob),((d,b0) :: r)[i]? = some (d',b) ∧ b.isPut = false ∧ d' = t ∧ T = (C (i0 + i)).1:=fun E' hb0 h2 t T hT=>by
   rcases h2 t T hT with ⟨q1,q2⟩ | ⟨i,d',b,q1,q0,q2,q3⟩
   ·refine .inl ⟨q1, fun i d' b hb hnp => ?_⟩
    cases i with
    | zero=>simp at hb; rw [← hb.2,hb0] at hnp; cases hnp
    | succ i=>exact q2 i d' b (by simpa using hb) hnp
   ·exact .inr ⟨i + 1,d',b,by simpa using q1,q0,q2,by rw [q3,show i0 + (i + 1) = i0 + 1 + i by omega]⟩
  have Ha : ∀ H', List.Sublist H' (H ++ (List.range r.length).map fun i => (C (i0 + 1 + i)).2) → List.Sublist H' (H ++ (List.range ((d, b0) :: r).length).map fun i => (C (i0 + i)).2) := fun H' h3 => by
   refine h3.trans ?_
   simp only [List.length_cons,List.range_succ_eq_map,List.map_cons,List.map_map]
   refine List.Sublist.append (List.Sublist.refl H) (List.Sublist.cons _ ?_)
   rw [hfun]; exact List.Sublist.refl _
  have sub1 : ∀ H' (A0 : SA), (C i0).2 = A0 → List.Sublist H' ((H ++ [A0]) ++ (List.range r.length).map fun i => (C (i0 + 1 + i)).2) → List.Sublist H' (H ++ (List.range ((d, b0) :: r).length).map fun i => (C (i0 + i)).2) := fun H' A0 e3 h3 => by
   refine h3.trans ?_
   simp only [List.length_cons,List.range_succ_eq_map,List.map_cons,List.map_map,List.append_assoc]
   refine List.Sublist.append (List.Sublist.refl H) ?_
   rw [hfun]
   simp only [Nat.add_zero,e3]
   exact List.Sublist.refl _
  have hQ':∀ (i d:Nat) (γ:Type) (T:γ → Ty) (A:γ → SA) (p q:Nat) (G:γ → Ty → SA),r[i]? = some (d,.newq γ T A p q G) → q < i0 + 1 + i:=fun i d γ T A p q G hb=>by have:=hQ (i + 1) d γ T A p q G (by simpa using hb); omega
  have hU' : ∀ T0 : Ty, (C i0).1 = T0 → ∀ i, i < i0 + 1 → (Us ++ [T0]).getD i iM = (C i).1 := fun T0 h0 i hi => by
   by_cases e:i < i0
   ·rw [← hU i e]; simp [List.getD,List.getElem?_append_left (show i < Us.length by omega)]
   ·have : i = i0 := by omega
    subst this; rw [h0]; simp [List.getD,← hl0]
  have hl1:∀ T0:Ty,(Us ++ [T0]).length = i0 + 1:=fun T0=>by simp [hl0]
  cases b0 with
  | val T0 =>
   have h0:C i0 = (T0,SA.emp):=hC 0 d (.val T0) rfl
   obtain ⟨E',H',h1,h2,h3⟩:=fF r _ _ H h C (i0 + 1) (hl1 _) (hU' T0 (by rw [h0])) hC' hQ'
   exact ⟨E',H',h1,slot E' T0 (by rw [h0]) rfl h2,Ha H' h3⟩
  | new γ T0 A0 =>
   obtain ⟨x,h0⟩:∃ x:γ,C i0 = (T0 x,A0 x):=hC 0 d (.new γ T0 A0) rfl
   obtain ⟨E',H',h1,h2,h3⟩:=fF r _ _ _ (h x) C (i0 + 1) (hl1 _) (hU' (T0 x) (by rw [h0])) hC' hQ'
   exact ⟨E',H',h1,slot E' (T0 x) (by rw [h0]) rfl h2,sub1 H' (A0 x) (by rw [h0]) h3⟩
  | newq γ T0 A0 p q G =>
   obtain ⟨x,h0,_,h00⟩:∃ x:γ,(C i0).1 = T0 x ∧ (true = false → (C i0).2 = A0 x) ∧ (true = true → (C i0).2 = G x (C q).1):=hC 0 d (.newq γ T0 A0 p q G) rfl
   have hq:Us.getD q iM = (C q).1:=hU q (by have:=hQ 0 d γ T0 A0 p q G rfl; omega)
   obtain ⟨E',H',h1,h2,h3⟩:=fF r _ _ _ (h x) C (i0 + 1) (hl1 _) (hU' (T0 x) h0) hC' hQ'
   exact ⟨E',H',h1,slot E' (T0 x) h0 rfl h2,sub1 H' _ (by rw [h00 rfl,hq]) h3⟩
  | putq j q =>
   have h0:C i0 = (iM,SA.emp):=hC 0 d (.putq j q) rfl
   obtain ⟨E',H',h1,h2,h3⟩:=fF r _ _ H h C (i0 + 1) (hl1 _) (hU' iM (by rw [h0])) hC' hQ'
   exact ⟨E',H',h1,slot0 E' rfl h2,Ha H' h3⟩
theorem lD {ops l : List Oper} {m : Nat} {acc : List (Nat × Ob)} {E0 : bD} (hlen : acc.length = m) (hobs : iR P n ops m E0 H acc) (hfin : Fin' P R cx n ops.toArray l k acc.reverse [] E0 H)
  {L:Nat → Bool} {a:Act} {w:World} {V:aE} {C:Nat → Ty × SA} (hall:∀ i,i < m → L i = true) (hC:∀ (i d:Nat) (b:Ob),acc.reverse[i]? = some (d,b) → eM (fun _=>true) C i b) (hM:oA cx n ops m E0 H L C V a w) :
  wpList P ops.toArray (den P R k) l a w:=by
 obtain ⟨E', H', h1, h2, h3⟩ := fF acc.reverse [] E0 H hfin C 0 rfl (fun i hi => by omega) (fun i d b hb => by rw [Nat.zero_add]; exact hC i d b hb) (fun i d γ T A p q G hb => by
  obtain ⟨o,_,h⟩:=hobs.get hb
  have:=h.2.2.2.1
  simp at this
  have hi:=(List.getElem?_eq_some_iff.1 hb).1
  simp at hi; omega)
 refine h1 a w ⟨V,hM.inv.hp_of (fun hh=>?_),hM.df,hM.sz,fun t T hT=>?_⟩
 ·refine HH.sublist (h3.trans ?_) hh
  rw [List.length_reverse,hlen]
  have : (List.range m).map (fun i => (C (0 + i)).2) = (List.range m).map fun i => if L i then (C i).2 else SA.emp := by
   apply List.map_congr_left
   intro i hi
   rw [hall i (List.mem_range.1 hi)]; simp
  rw [this]; exact List.Sublist.refl _
 ·rcases h2 t T hT with ⟨q1, q2⟩ | ⟨i, d, b, q1, q0, q2, q3⟩
  ·refine hM.old t T q1 (fun j hj => ?_)
   obtain ⟨d,b,hb⟩:=iR.len hobs j zo
   cases hbp:b.isPut with
   | true=>rw [hobs.dst0 hb hbp]; simp
   | false =>
    rw [hobs.dst hb hbp]
    intro e; exact q2 j d b hb hbp (Option.some.inj e)
  ·have hi : i < m := by have := (List.getElem?_eq_some_iff.1 q1).1; simpa [hlen] using this
   subst q2; rw [q3,Nat.zero_add]
   exact hM.now i d hi (hall i hi) (hobs.dst q1 q0)
theorem oA.next {ops : List Oper} {m : Nat} {E0 : bD} (hd : yG ops m) {listed : Array Bool} {a : Act} {w w' : World} {V V' : aE} {C : Nat → Ty × SA} (hsz : listed.size = ops.length) (hM : oA cx n ops m E0 H (fun i => listed[i]? == some true) C V a w) {i d : Nat} (hi : i < m)
  (hdst:cP ops i = some d) (hdn:d < n) (hli:listed[i]? = some false) {T:Ty} {A:SA} {v:Value} (hv:T.p v V') (hle:jR V V')
  (hinv:Inv cx V' (H ++ ((List.range m).map fun i=>if (listed[i]? == some true) = true then (C i).2 else SA.emp).set i A) w') :
  oA cx n ops m E0 H (fun j=>(listed.setIfInBounds i true)[j]? == some true) (fun j=>if j = i then (T,A) else C j) V' (a.put (some d) v) w':=by
 have hil:i < listed.size:=(Array.getElem?_eq_some_iff.1 hli).1
 refine ⟨?_,hM.df.mono hle,by simp [Act.put,hM.sz],fun t U hU hn=>?_,fun j d' hj hL hdj=>?_⟩
 ·rw [jI hi] at hinv
  have e : ((List.range m).map fun j => if j = i then A else if (listed[j]? == some true) = true then (C j).2 else SA.emp) = (List.range m).map fun j => if ((listed.setIfInBounds i true)[j]? == some true) = true then (if j = i then (T, A) else C j).2 else SA.emp := by
   apply List.map_congr_left
   intro j _
   by_cases e:j = i
   ·subst e; simp [hil]
   ·rw [Array.getElem?_setIfInBounds_ne (fun x => e x.symm)]
    simp [e]
  rw [e] at hinv; exact hinv
 ·obtain ⟨u, h1, h2⟩ := hM.old t U hU hn
  refine ⟨u,?_,U.mono h2 hle⟩
  rw [jG _ _ _ _ (fun e=>hn i hi (by rw [hdst,e]))]; exact h1
 ·by_cases e : j = i
  ·subst e
   rw [hdst] at hdj; obtain rfl:=Option.some.inj hdj
   exact ⟨v,by simp [Act.put,hM.sz,hdn],by simpa using hv⟩
  ·rw [Array.getElem?_setIfInBounds_ne (fun x => e x.symm)] at hL
   obtain ⟨u,h1,h2⟩:=hM.now j d' hj hL hdj
   refine ⟨u,?_,by simpa [e] using Ty.mono _ h2 hle⟩
   rw [jG _ _ _ _ (fun x=>?_)]
   ·exact h1
   ·subst x
    rcases Nat.lt_or_ge j i with q | q
    ·exact hd.dst i j hi q _ hdst hdj
    ·exact hd.dst j i hj zo _ hdj hdst
theorem jM {ops : List Oper} {m : Nat} {acc : List (Nat × Ob)} {E0 : bD} (hd : yG ops m) (hlen : acc.length = m) (hobs : iR P n ops m E0 H acc) (hokq : ∀ (i d : Nat) (γ : Type) (T : γ → Ty) (A : γ → SA) (p q : Nat) (G : γ → Ty → SA), acc.reverse[i]? = some (d, .newq γ T A p q G) → ∃ d', acc.reverse[p]? = some (d', .putq i q)) (hfin : Fin' P R cx n ops.toArray (ops.drop m) k acc.reverse [] E0 H) :
  ∀ (fuel : Nat) (listed : Array Bool) (a : Act) (w : World) (V : aE) (C : Nat → Ty × SA), LI ops listed → fN listed.toList ≤ fuel → (∀ i : Nat, m ≤ i → i < ops.length → listed[i]? = some false) →
   (∀ (i d:Nat) (b:Ob),acc.reverse[i]? = some (d,b) → listed[i]? = some true → eM (fun i=>listed[i]? == some true) C i b) → oA cx n ops m E0 H (fun i=>listed[i]? == some true) C V a w → wpAny P .any ops.toArray (den P R k) fuel listed a w:=by
 intro fuel
 have done : ∀ (listed : Array Bool) (a : Act) (w : World) (V : aE) (C : Nat → Ty × SA), LI ops listed → ∀ fuel, fN listed.toList ≤ fuel → (∀ i : Nat, m ≤ i → i < ops.length → listed[i]? = some false) →
   (∀ (i d:Nat) (b:Ob),acc.reverse[i]? = some (d,b) → listed[i]? = some true → eM (fun i=>listed[i]? == some true) C i b) → oA cx n ops m E0 H (fun i=>listed[i]? == some true) C V a w → (∀ i:Nat,i < m → listed[i]? = some true) → wpAny P .any ops.toArray (den P R k) fuel listed a w:=by
  intro listed a w V C hL fuel hc hl hC hM hall
  have hge:=qH listed.toList m (by simpa [hL.sz] using hd.le) (fun i h1 h2=>by simpa using hl i h1 (by simpa [hL.sz] using h2))
  refine mM hd fuel m listed a w (Nat.le_refl m) hd.le (by simp [hL.sz] at hge; omega) hL (fun i hi=>?_) ?_
  ·by_cases e : i < m
   ·rw [hall i e]; simp [e]
   ·rw [hl i zo hi]; simp; omega
  ·refine lD hlen hobs hfin (fun i hi => by rw [hall i hi]; rfl) (fun i d b hb => ?_) hM
   have hi:i < m:=by have:=(List.getElem?_eq_some_iff.1 hb).1; simpa [hlen] using this
   have ht:=hC i d b hb (hall i hi)
   cases b with
   | val T=>exact ht
   | new γ T A=>exact ht
   | putq j q=>exact ht
   | newq γ T A p q G =>
    obtain ⟨x,t1,_,t3⟩:=ht
    obtain ⟨d',hp⟩:=hokq _ _ _ _ _ _ _ _ hb
    have hp':=(List.getElem?_eq_some_iff.1 hp).1
    exact ⟨x,t1,(fun e=>by cases e),fun _=>t3 (by show (listed[p]? == some true) = true; rw [hall p (by simpa [hlen] using hp')]; rfl)⟩
 induction fuel with
 | zero =>
  intro listed a w V C hL hc hl hC hM
  refine done listed a w V C hL 0 hc hl hC hM (fun i hi=>?_)
  have hil:i < listed.size:=by rw [hL.sz]; have:=hd.le; omega
  cases hb:listed[i] with
  | true=>simp [hil,hb]
  | false =>
   have:=mP listed.toList i (by simp [hil,hb])
   omega
 | succ fuel ih =>
  intro listed a w V C hL hc hl hC hM
  by_cases hall:∀ i:Nat,i < m → listed[i]? = some true
  ·exact done listed a w V C hL _ hc hl hC hM hall
  refine ⟨fun hr=>absurd (fun i hi=>kL hr hL.sz hd.back i (by have:=hd.le; omega)) hall,fun i hi=>?_⟩
  obtain ⟨o,h1,h2,h3⟩:=iS hi hL.sz
  have him : i < m := by
   rcases Nat.lt_or_ge i m with hx | hx
   ·exact hx
   ·exact absurd (fun j hj=>hL.before hd h1 h3 hx j zo) hall
  obtain ⟨d,b,hb⟩:=iR.len hobs i zo
  obtain ⟨o',q1,q4⟩:=hobs.get hb
  rw [h1] at q1; obtain rfl:=Option.some.inj q1
  have hpl:(acc.reverse.take i).reverse.length = i:=by simp; omega
  have slots : ∀ Ei, Srcs ops m E0 (acc.reverse.take i).reverse o Ei → bR n Ei V a := fun Ei hS => by
   refine ⟨hM.df,hM.sz,fun t T hT=>?_⟩
   rcases hS t T hT with ⟨r1,r2⟩ | ⟨j,r1,r2⟩
   ·refine hM.old t T r1 (fun j hj e => ?_)
    have:=List.all_eq_true.1 r2 j (List.mem_range.2 hj)
    simp [e] at this
   ·rw [List.reverse_reverse, List.getElem?_take] at r1
    split at r1
    case isFalse=>cases r1
    case isTrue hji =>
    obtain ⟨e,he,hb'⟩:=List.any_eq_true.1 r2
    simp only [Bool.and_eq_true] at hb'
    have hon:e.on = j:=Nat.eq_of_beq_eq_true hb'.1
    have hlj:=h3 e he hb'.2
    rw [hon] at hlj
    have hc':C j = (T,SA.emp):=hC j t (.val T) r1 hlj
    obtain ⟨v,s1,s2⟩:=hM.now j t zo (by rw [hlj]; rfl) (hobs.dst r1 rfl)
    exact ⟨v,s1,by rw [hc'] at s2; exact s2⟩
  have hcnt : fN (listed.setIfInBounds i true).toList ≤ fuel := by
   have:=mQ listed.toList i (by simpa using h2)
   rw [Array.toList_setIfInBounds]; omega
  have hl' : ∀ j : Nat, m ≤ j → j < ops.length → (listed.setIfInBounds i true)[j]? = some false := fun j hj hjl => by
   rw [Array.getElem?_setIfInBounds_ne zo]; exact hl j hj hjl
  have hil:i < listed.size:=(Array.getElem?_eq_some_iff.1 h2).1
  have edgeL : ∀ {o' : Oper} {i' j' : Nat}, ops[i']? = some o' → listed[i']? = some true → (o'.after.toList.any fun e => Nat.beq e.on j' && Region.binds .any e) = true → listed[j']? = some true := fun ho hl he => by
   obtain ⟨e,he1,he2⟩:=List.any_eq_true.1 he
   simp only [Bool.and_eq_true] at he2
   have:=hL.cl _ _ ho hl e he1 he2.2
   rwa [Nat.eq_of_beq_eq_true he2.1] at this
  have putL : ∀ {j' d' : Nat} {γ : Type} {T : γ → Ty} {A : γ → SA} {p q : Nat} {G : γ → Ty → SA}, acc.reverse[j']? = some (d', .newq γ T A p q G) → listed[p]? = some true → listed[j']? = some true ∧ listed[q]? = some true := fun hj hp => by
   obtain ⟨d2,hp2⟩:=hokq _ _ _ _ _ _ _ _ hj
   obtain ⟨op,ho,hob⟩:=hobs.get hp2
   exact ⟨edgeL ho hp hob.2.2.1,edgeL ho hp hob.2.2.2.1⟩
  have keep : ∀ (c : Ty × SA), b.isPut = false → ∀ (j d' : Nat) (b' : Ob), j ≠ i → acc.reverse[j]? = some (d', b') → listed[j]? = some true → eM (fun q => (listed.setIfInBounds i true)[q]? == some true) (fun l => if l = i then c else C l) j b' := fun c hbp j d' b' hne hb' hj => by
   have ht:=hC j d' b' hb' hj
   cases b' with
   | val T=>simpa [eM,hne] using ht
   | new γ T A=>simpa [eM,hne] using ht
   | putq j2 q2=>simpa [eM,hne] using ht
   | newq γ T A p q G =>
    obtain ⟨x,t1,t2,t3⟩:=ht
    have hpi : p ≠ i := fun e => by
     obtain ⟨d2,hp2⟩:=hokq _ _ _ _ _ _ _ _ hb'
     rw [e,hb] at hp2; simp at hp2; rw [hp2.2] at hbp; cases hbp
    have hset:(listed.setIfInBounds i true)[p]? = listed[p]?:=Array.getElem?_setIfInBounds_ne (Ne.symm hpi)
    refine ⟨x,by simpa [hne] using t1,fun e=>?_,fun e=>?_⟩
    ·simp only [hset] at e; simpa [hne] using t2 e
    ·simp only [hset] at e
     have hq:=(putL hb' (by simpa using e)).2
     have hqi:q ≠ i:=fun e'=>by rw [e',h2] at hq; simp at hq
     simpa [hne,hqi] using t3 e
  have took : ∀ (c : Ty × SA), b.isPut = false → eM (fun q => (listed.setIfInBounds i true)[q]? == some true) (fun l => if l = i then c else C l) i b → ∀ (j d' : Nat) (b' : Ob), acc.reverse[j]? = some (d', b') → (listed.setIfInBounds i true)[j]? = some true →
    eM (fun q=>(listed.setIfInBounds i true)[q]? == some true) (fun l=>if l = i then c else C l) j b':=fun c hbp hs j d' b' hb' hj=>by
   by_cases e:j = i
   ·subst e
    rw [hb] at hb'; simp at hb'
    exact hb'.2 ▸ hs
   ·rw [Array.getElem?_setIfInBounds_ne (fun x => e x.symm)] at hj
    exact keep c hbp j d' b' e hb' hj
  have hx : ((List.range m).map fun i => if (listed[i]? == some true) = true then (C i).2 else SA.emp).set i SA.emp = (List.range m).map fun i => if (listed[i]? == some true) = true then (C i).2 else SA.emp := by
   rw [jI him]
   apply List.map_congr_left
   intro j _
   by_cases e:j = i
   ·subst e; simp [h2]
   ·simp [e]
  unfold wpOp
  simp only [List.getElem?_toArray,h1]
  cases b with
  | val T =>
   obtain ⟨⟨q2,q3⟩,Ei,hS,hst⟩:=q4
   have hdst:=hobs.dst hb rfl
   have := hst cx _ a w V hM.inv (slots Ei hS) (wpAny P .any ops.toArray (den P R k) fuel (listed.setIfInBounds i true)) (den P R k) (fun v w' V' hi' hle hv => by
    rw [q2]
    exact ih _ _ _ V' _ (hL.set h1 h3) hcnt hl' (took (T,SA.emp) rfl (by simp [eM])) (hM.next hd hL.sz him hdst q3 h2 hv hle (by rw [hx]; exact hi')))
   split
   ·rename_i hw; rw [if_pos hw] at this; exact .inl this
   ·rename_i hw; rw [if_neg hw] at this; exact this
  | new γ T A =>
   obtain ⟨⟨q2,q3⟩,hg,Ei,hS,hst⟩:=q4
   have hdst:=hobs.dst hb rfl
   rw [if_pos (by simp [Region.wanted,hg])]
   left
   refine hst cx _ a w V hM.inv (slots Ei hS) _ _ fun x v w' V' e3 hle e2=>?_
   rw [q2]
   refine ih _ _ _ V' _ (hL.set h1 h3) hcnt hl' (took (T x,A x) rfl ⟨x,by simp⟩) (hM.next hd hL.sz him hdst q3 h2 e2 hle (e3.hp_of (fun hh=>?_)))
   have:=HH.move (p:=H.length + i) hh (by simp; omega)
   rw [List.set_append_right _ _ zo,show H.length + i - H.length = i by omega] at this
   exact this
  | newq γ T A p q G =>
   obtain ⟨⟨q2,q3⟩,hg,_,_,Ei,hS,hst⟩:=q4
   have hdst:=hobs.dst hb rfl
   rw [if_pos (by simp [Region.wanted,hg])]
   left
   refine hst cx _ a w V hM.inv (slots Ei hS) _ _ fun x v w' V' e3 hle e2=>?_
   rw [q2]
   refine ih _ _ _ V' _ (hL.set h1 h3) hcnt hl' (took (T x,A x) rfl ⟨x,by simp,fun _=>by simp,fun e=>?_⟩) (hM.next hd hL.sz him hdst q3 h2 e2 hle (e3.hp_of (fun hh=>?_)))
   ·exfalso
    by_cases c:p = i
    ·obtain ⟨d', hp⟩ := hokq _ _ _ _ _ _ _ _ hb
     rw [c,hb] at hp; simp at hp
    ·have e' : ((listed.setIfInBounds i true)[p]? == some true) = true := e
     rw [Array.getElem?_setIfInBounds_ne (Ne.symm c)] at e'
     have:=(putL hb (by simpa using e')).1
     rw [h2] at this; simp at this
   ·have := HH.move (p := H.length + i) hh (by simp; omega)
    rw [List.set_append_right _ _ zo,show H.length + i - H.length = i by omega] at this
    exact this
  | putq j q =>
   obtain ⟨hg,hdn,he1,he2,dj,γ,T,A,G,dq,γq,Tq,Aq,hj,hq,hst⟩:=q4
   rw [hpl,List.reverse_reverse,List.getElem?_take] at hj
   rw [List.reverse_reverse,List.getElem?_take] at hq
   split at hj
   case isFalse=>cases hj
   case isTrue hji =>
   split at hq
   case isFalse=>cases hq
   case isTrue hqi =>
   have edge0 : ∀ {j' : Nat}, (o.after.toList.any fun e => Nat.beq e.on j' && Region.binds .any e) = true → listed[j']? = some true := fun he => by
    obtain ⟨e,he1,he2⟩:=List.any_eq_true.1 he
    simp only [Bool.and_eq_true] at he2
    have:=h3 e he1 he2.2
    rwa [Nat.eq_of_beq_eq_true he2.1] at this
   have hlj:=edge0 he1
   have hlq:=edge0 he2
   obtain ⟨x,t1,t2,_⟩:=hC j dj _ hj hlj
   have hCj:(C j).2 = A x:=t2 (by show (listed[i]? == some true) = false; rw [h2]; rfl)
   obtain ⟨y,ty⟩:=hC q dq _ hq hlq
   have hjq:j ≠ q:=fun e=>by subst e; rw [hj] at hq; simp at hq
   obtain ⟨v,s1,s2⟩:=hM.now j dj zo (by rw [hlj]; rfl) (hobs.dst hj rfl)
   obtain ⟨u,r1,r2⟩:=hM.now q dq zo (by rw [hlq]; rfl) (hobs.dst hq rfl)
   have hsl : bR n [(dj, T x), (dq, Tq y)] V a := by
    refine ⟨hM.df,hM.sz,fun t U hU=>?_⟩
    rw [bA] at hU
    by_cases e:dj = t
    ·subst e; rw [if_pos rfl] at hU; obtain rfl := Option.some.inj hU
     exact ⟨v,s1,by rw [t1] at s2; exact s2⟩
    ·rw [if_neg e, bA] at hU
     by_cases e':dq = t
     ·subst e'; rw [if_pos rfl] at hU; obtain rfl := Option.some.inj hU
      exact ⟨u,r1,by rw [ty] at r2; exact r2⟩
     ·rw [if_neg e'] at hU; cases hU
   have hAe : (H ++ (List.range m).map fun i => if (listed[i]? == some true) = true then (C i).2 else SA.emp)[H.length + j]? = some (A x) := by
    rw [List.getElem?_append_right zo,show H.length + j - H.length = j by omega,List.getElem?_map,List.getElem?_range zo]
    simp [hlj,hCj]
   obtain ⟨w',e1,e3⟩:=putAt (hst x y) hM.inv hAe hsl
   rw [if_pos (by simp [Region.wanted,hg])]
   left
   simp only [Oper.wp,e1,Oper.upon_skip]
   have ep:a.put o.dst undef = a:=by rw [hdn]; rfl
   rw [ep]
   rw [List.set_append_right _ _ zo,show H.length + j - H.length = j by omega] at e3
   have hd0:=hobs.dst0 hb rfl
   have e4 : ((List.range m).map fun i => if (listed[i]? == some true) = true then (C i).2 else SA.emp).set j (G x (Tq y)) =
     (List.range m).map fun l=>if ((listed.setIfInBounds i true)[l]? == some true) = true then (if l = j then ((C j).1,G x (Tq y)) else if l = i then (iM,SA.emp) else C l:Ty × SA).2 else SA.emp:=by
    rw [jI (by omega:j < m)]
    apply List.map_congr_left
    intro l _
    by_cases c1:l = j
    ·rw [if_pos c1,if_pos c1,c1,Array.getElem?_setIfInBounds_ne (show i ≠ j by omega),hlj]; rfl
    ·rw [if_neg c1, if_neg c1]
     by_cases c2:l = i
     ·rw [if_pos c2,c2,h2]; simp
     ·rw [if_neg c2,Array.getElem?_setIfInBounds_ne (Ne.symm c2)]
   refine ih _ _ _ V (fun l=>if l = j then ((C j).1,G x (Tq y)) else if l = i then (iM,SA.emp) else C l) (hL.set h1 h3) hcnt hl' (fun l d' b' hb' hll=>?_) ⟨by rw [← e4]; exact e3,hM.df,hM.sz,hM.old,fun l d' hl2 hLl hdl=>?_⟩
   ·by_cases c2 : l = i
    ·subst c2
     rw [hb] at hb'; simp at hb'
     rw [← hb'.2]
     simp [eM,show l ≠ j by omega]
    ·have hll0 : listed[l]? = some true := by rwa [Array.getElem?_setIfInBounds_ne (Ne.symm c2)] at hll
     have ht:=hC l d' b' hb' hll0
     by_cases c1:l = j
     ·subst c1
      rw [hj] at hb'; simp at hb'
      rw [← hb'.2]
      refine ⟨x,by simpa using t1,fun e=>?_,fun _=>?_⟩
      ·exfalso; simp [hil] at e
      ·simp [Ne.symm hjq,show q ≠ i by omega,ty]
     ·cases b' with
      | val T=>simpa [eM,c1,c2] using ht
      | new γ T A=>simpa [eM,c1,c2] using ht
      | putq j2 q2=>simpa [eM,c1,c2] using ht
      | newq γ T A p q2 G =>
       obtain ⟨z,z1,z2,z3⟩:=ht
       have hpi : p ≠ i := fun e => by
        obtain ⟨d2,hp2⟩:=hokq _ _ _ _ _ _ _ _ hb'
        rw [e,hb] at hp2; simp at hp2; exact c1 hp2.2.1.symm
       have hset:(listed.setIfInBounds i true)[p]? = listed[p]?:=Array.getElem?_setIfInBounds_ne (Ne.symm hpi)
       refine ⟨z,by simpa [c1,c2] using z1,fun e=>?_,fun e=>?_⟩
       ·simp only [hset] at e; simpa [c1,c2] using z2 e
       ·simp only [hset] at e
        have hq2:=(putL hb' (by simpa using e)).2
        have hqi2:q2 ≠ i:=fun e'=>by rw [e',h2] at hq2; simp at hq2
        have:=z3 e
        by_cases c3:q2 = j
        ·simpa [c1,c2,c3] using this
        ·simpa [c1,c2,c3,hqi2] using this
   ·by_cases c2 : l = i
    ·subst c2; rw [hd0] at hdl; cases hdl
    ·have hll0 : (listed[l]? == some true) = true := by rwa [Array.getElem?_setIfInBounds_ne (Ne.symm c2)] at hLl
     by_cases c1:l = j
     ·have := hM.now l d' hl2 hll0 hdl
      simpa [c1] using this
     ·simpa [c1,c2] using hM.now l d' hl2 hll0 hdl
def Va (l:List (Nat × Ob)):Prop:=∀ (i d:Nat) (γ:Type) (T:γ → Ty) (A:γ → SA) (p q:Nat) (G:γ → Ty → SA),l[i]? = some (d,.newq γ T A p q G) → ∃ d',l[p]? = some (d',.putq i q)
def wU (l : List (Nat × Ob)) (j : Nat) : Ob → Bool
 | .newq _ _ _ p q _ => match l[p]? with
  | some (_,.putq j' q')=>Nat.beq j' j && Nat.beq q' q
  | _=>false
 | _=>true
def pE (l : List (Nat × Ob)) : Nat → List (Nat × Ob) → Bool
 | _,[]=>true
 | j,(_,b) :: r=>wU l j b && pE l (j + 1) r
theorem pE.ok {l : List (Nat × Ob)} : ∀ (r : List (Nat × Ob)) (j : Nat), pE l j r = true → ∀ (i d : Nat) (b : Ob), r[i]? = some (d, b) → wU l (j + i) b = true
 | [],_,_,i,d,b,h=>by simp at h
 | (d', b') :: r, j, hc, i, d, b, h => by
  simp only [pE,Bool.and_eq_true] at hc
  cases i with
  | zero=>simp at h; obtain ⟨rfl,rfl⟩:=h; exact hc.1
  | succ i=>have:=pE.ok r (j + 1) hc.2 i d b (by simpa using h); rwa [show j + (i + 1) = j + 1 + i by omega]
theorem Va.of {l : List (Nat × Ob)} (h : pE l 0 l = true) : Va l := fun j d γ T A p q G hj => by
 have:=pE.ok l 0 h j d _ hj
 rw [Nat.zero_add] at this
 simp only [wU] at this
 split at this
 ·rename_i d' j' q' hp
  simp only [Bool.and_eq_true] at this
  exact ⟨d',by rw [hp,Nat.eq_of_beq_eq_true this.1,Nat.eq_of_beq_eq_true this.2]⟩
 ·cases this
theorem D_done {ops l : List Oper} {m : Nat} {acc : List (Nat × Ob)} (hP : P.follows .mixedOrders = true) (hm : acc.length = m) (hchk : pJ ops m = true) (hokq : pE acc.reverse 0 acc.reverse = true) (h : Fin' P R cx n ops.toArray l k acc.reverse [] E H) : Dr P R cx n ops m k E H l acc := fun hops hobs id a w ⟨V, hi, hs⟩ => by
 have hd:=yG.of hchk
 have hl : ops.drop m = l := by
  conv=>lhs; rw [hops]
  rw [List.drop_append,List.drop_of_length_le (by simp; omega)]
  simp [hm,Nat.min_eq_left hd.le]
 refine wp_region_any hP ?_
 have hnone : ∀ i : Nat, (Array.replicate ops.toArray.size false)[i]? ≠ some true := fun i h => by
  rw [Array.getElem?_replicate] at h; split at h <;> simp at h
 refine jM (cx:=cx) (n:=n) (E0:=E) (H:=H) hd hm hobs (Va.of hokq) (by rw [hl]; exact h) _ _ a _ V (fun _=>(iM,SA.emp)) ⟨by simp,fun i o ho h=>absurd h (hnone i)⟩ ?_ (fun i h1 h2=>by simp [h2]) (fun i d b _ h=>absurd h (hnone i)) ?_
 ·have : ∀ j, fN (List.replicate j false) ≤ j := fun j => by
   induction j with
   | zero=>simp [fN]
   | succ j ih=>simp only [List.replicate_succ,fN]; simp; omega
  simpa using this _
 ·refine ⟨?_, hs.1, hs.2.1, fun t T hT _ => hs.2.2 t T hT, fun j d hj hL => ?_⟩
  ·have e : ((List.range m).map fun i => if ((Array.replicate ops.toArray.size false)[i]? == some true) = true then ((fun _ => (iM, SA.emp)) i : Ty × SA).2 else SA.emp) = (List.range m).map fun _ => SA.emp := by
    apply List.map_congr_left; intro i _; split <;> rfl
   rw [e]
   have:=hi.drew
   refine this.hp_of (fun hh=>?_)
   obtain ⟨F,f1,f2⟩:=hh
   refine ⟨fun i=>if i < H.length then F i else [],fun i A hA=>?_,fun i j b hi hj hbi hbj=>?_⟩
   ·by_cases e : i < H.length
    ·rw [List.getElem?_append_left e] at hA
     simp only [if_pos e]; exact f1 i A hA
    ·rw [List.getElem?_append_right zo] at hA
     have : A = SA.emp := by
      rw [List.getElem?_map] at hA
      cases hq:(List.range m)[i - H.length]? with
      | none=>rw [hq] at hA; cases hA
      | some q=>rw [hq] at hA; simpa using hA.symm
     subst this
     simp only [if_neg e]
     exact ⟨rfl,fun b hb=>by simp at hb⟩
   ·by_cases e : i < H.length <;> by_cases e' : j < H.length
    ·simp only [if_pos e,if_pos e'] at hbi hbj; exact f2 i j b e e' hbi hbj
    ·simp [e'] at hbj
    ·simp [e] at hbi
    ·simp [e] at hbi
  ·exact absurd (by simpa using hL) (hnone j)
theorem F_nil {ops:Array Oper} {l:List Oper} {Us:List Ty} (h:Rg P R cx n ops l k E H):Fin' P R cx n ops l k [] Us E H:=h
theorem F_val {ops:Array Oper} {l:List Oper} {Us:List Ty} {d:Nat} {T:Ty} {r:List (Nat × Ob)} (h:Fin' P R cx n ops l k r (Us ++ [T]) ((d,T) :: E) H):Fin' P R cx n ops l k ((d,.val T) :: r) Us E H:=h
theorem F_new {ops:Array Oper} {l:List Oper} {Us:List Ty} {d:Nat} {γ:Type} {T:γ → Ty} {A:γ → SA} {r:List (Nat × Ob)} (h:∀ x:γ,Fin' P R cx n ops l k r (Us ++ [T x]) ((d,T x) :: E) (H ++ [A x])):Fin' P R cx n ops l k ((d,.new γ T A) :: r) Us E H:=h
theorem F_newq {ops:Array Oper} {l:List Oper} {Us:List Ty} {d p q:Nat} {γ:Type} {T:γ → Ty} {A:γ → SA} {G:γ → Ty → SA} {r:List (Nat × Ob)} (h:∀ x:γ,Fin' P R cx n ops l k r (Us ++ [T x]) ((d,T x) :: E) (H ++ [G x (Us.getD q iM)])):Fin' P R cx n ops l k ((d,.newq γ T A p q G) :: r) Us E H:=h
theorem F_putq {ops:Array Oper} {l:List Oper} {Us:List Ty} {d j q:Nat} {r:List (Nat × Ob)} (h:Fin' P R cx n ops l k r (Us ++ [iM]) E H):Fin' P R cx n ops l k ((d,.putq j q) :: r) Us E H:=h
end
def boxV (BT:TypeId) (B:Nat) (U:Ty):SA where
 h S m V:=∃ v,U = Is v ∧ (box B BT [Is v]).h S m V
 loc h k:=let ⟨v,e,h⟩:=h; ⟨v,e,(box B BT [Is v]).loc h k⟩
 mono h k:=let ⟨v,e,h⟩:=h; ⟨v,e,(box B BT [Is v]).mono h k⟩
theorem boxV_is {BT : TypeId} {B : Nat} {v : Value} : ∀ S m V, (boxV BT B (Is v)).h S m V → (box B BT [Is v]).h S m V := fun S m V ⟨u, e, h⟩ => by
 have:(Is v).p v V:=rfl
 rw [e] at this
 have:v = u:=this
 rw [this]; exact h
end Q
end
section
open Go Go.RowKit
namespace Q
section
variable {P:Program} {cx:Cx} {n:Nat} {E:bD} {H:Hp} {o:Oper}
theorem Lw {e s:Nat} {v:Value} {Ts:List Ty} {S:List Nat} {m V:aE} (h:(bH e s v Ts).h S m V):gE v:=by
 obtain ⟨xs,_,h⟩:=h
 rcases h with ⟨rfl,_⟩ | ⟨g,cap,cur,rfl,_⟩ <;> trivial
theorem new_plain {e s : Nat} {Ts : List Ty} (h : fS P n E H o Value (fun v => Is v) (fun v => bH e s v Ts)) : fS P n E H o {v : Value // gE v} (fun v => Is v.1) (fun v => bH e s v.1 Ts) := fun cx X a w V hi hs K Q hK =>
 h cx X a w V hi hs K Q fun x v w' V' hinv hle ht => hK ⟨x, by
  obtain ⟨F,f1,_⟩:=hinv.hp
  exact Lw (f1 (H ++ X).length (bH e s x Ts) (by simp)).1⟩ v w' V' hinv hle ht
theorem putq_st {s t : Nat} {BT tt : TypeId} {pos : String} {af : Array Edge} {T0 : Ty} (hS : ∀ w, (sizeOf BT).run P w = .ok 1 w) (hne : Nat.beq s t = false) (x : Nat) (y : {v : Value // gE v}) :
  W.PutTy P n [(s,cH x 0),(t,Is y.1)] [box x BT [T0]] [boxV BT x (Is y.1)] ⟨none,.store BT (.tmp s) (.tmp t),tt,pos,af,none⟩:=fun cx X a w V hi hs=>by
 haveI:bT (Is y.1) 1 false:=eN fun v V h=>by cases h; exact y.2
 obtain ⟨w',e1,e2⟩:=Gz (cx:=cx) (n:=n) (E:=[(s,cH x 0),(t,Is y.1)]) (x:=.tmp s) (y:=.tmp t) (B:=x) (o':=0) (BT:=BT) (Ts:=[T0]) (i:=0) (T:=Is y.1) hS (aB.t (by rw [bA]; simp)) (aB.t (by rw [bA,if_neg (fun e=>by subst e; simp at hne),bA]; simp)) (H:=[box x BT [T0]] ++ X) rfl (by simp) rfl a w V hi hs
 refine ⟨w',e1,e2.sub ⟨rfl,fun i A hA=>?_⟩⟩
 cases i with
 | zero =>
  simp at hA; subst hA
  exact ⟨_,rfl,fun S m V h=>⟨_,rfl,h⟩⟩
 | succ i=>exact ⟨A,by simpa using hA,fun _ _ _ h=>h⟩
end
end Q
end
section
open Go Go.RowKit
def Ms (r:Rt) (a:Nat) (q:PE):NP:=((tK a [r]).map Rt.q,rq (tB a q.2.2))
theorem a1S (r:Rt) (a:Nat) (q:PE):Fj (Ms r a q) 2 ∧ 1 ≤ (Ms r a q).1.length:=by
 have herr:=Qn a [r] q.2.2
 obtain ⟨a1,a2,hsh,_⟩:=qN herr
 exact ⟨⟨dA.rt,dM.rt,hsh,a2⟩,a1⟩
theorem Gp {ps:List PE} {r:Rt} {a k:Nat} (h:k < ps.length):(ps.map (Ms r a)).getD k jB = Ms r a (ps.getD k (0,[],[])):=by simp [List.getD,h]
theorem a0j (ps:List PE) (r:Rt) (a i:Nat):Fj ((ps.map (Ms r a)).getD i jB) 2:=by
 by_cases h:i < ps.length
 ·rw [Gp h]; exact (a1S r a _).1
 ·have e : (ps.map (Ms r a)).getD i jB = jB := by simp [List.getD, Nat.not_lt.1 h]
  rw [e]; exact Qc
theorem a1T (ps:List PE) (r:Rt) (a i:Nat) (h:i < ps.length):nz (ps.map (Ms r a)) i = nz (ps.map (Ms r a)) 0:=by
 show ((ps.map (Ms r a)).getD i jB).1 = ((ps.map (Ms r a)).getD 0 jB).1
 rw [Gp h,Gp (show 0 < ps.length by omega)]; rfl
theorem zD {k:Nat} (h:k < 5):aP (Qi.ofInt ((k + 1:Nat):Int)) 2:=by
 have:k = 0 ∨ k = 1 ∨ k = 2 ∨ k = 3 ∨ k = 4:=by omega
 rcases this with rfl | rfl | rfl | rfl | rfl <;> exact fitInt.le (by decide)
theorem a1I {l:List Qi} (F:Qi → Ty):tab l.length (fun i=>F (gv l i)) = l.map F:=by
 refine List.ext_getElem (by simp [tab]) fun i h1 h2=>?_
 have hi:i < l.length:=by simpa using h2
 simp [tab,gv,List.getD,hi]
theorem Uw {n:NP} {K L:Nat} (h:Fj n K) (k:K ≤ L):Fj n L:=⟨h.fz.le k,h.fs.le k,h.sh,h.h8⟩
theorem a0t {f:List Qi} {r:Rt} {n:Nat} (hf:f = Yh (Ay r).q n) (hn:n ≤ 5):dA f 5:=by
 subst hf
 intro x hx
 obtain ⟨i,hi,rfl⟩:=List.getElem_of_mem hx
 rw [mE] at hi
 have e : (Yh (Ay r).q n)[i]'(by rw [mE]; exact hi) = (Ay r).q * Qi.ofInt ((i : Int) + 1) := by
  rw [← vY hi]; simp [gv,List.getD,mE,hi]
 rw [e]
 have fI:aP (Ay r).q 2:=inferInstance
 have fK:aP (Qi.ofInt ((i:Int) + 1)) 2:=by have:=zD (k:=i) zo; rwa [show (((i + 1:Nat)):Int) = (i:Int) + 1 by push_cast; rfl] at this
 exact @fitMul _ _ _ _ fI fK
theorem a1E {ps:List PE} {r:Rt} {st:Nat}:∀ T,T ∈ [iE 3 (ps.map sM),jQ r,NT .u8 st] → Cl T:=by
 have hr : ∀ l : List Rt, Cl (kG l) := fun l => a1g fun T hT => by
  obtain ⟨x,_,rfl⟩:=List.mem_map.1 hT
  exact Om fun T hT=>by simp only [List.mem_cons,List.not_mem_nil,or_false] at hT; rcases hT with rfl | rfl | rfl <;> exact clIs _
 intro T hT
 simp only [List.mem_cons,List.not_mem_nil,or_false] at hT
 rcases hT with rfl | rfl | rfl
 ·refine a1g fun T hT => ?_
  obtain ⟨x,_,rfl⟩:=List.mem_map.1 hT
  exact Om fun T hT => by
   simp only [List.mem_cons,List.not_mem_nil,or_false] at hT
   rcases hT with rfl | rfl | rfl
   ·exact clIs _
   ·exact hr _
   ·exact hr _
 ·exact Om fun T hT=>by simp only [List.mem_cons,List.not_mem_nil,or_false] at hT; rcases hT with rfl | rfl | rfl <;> exact clIs _
 ·exact clIs _
theorem sE {ps:List PE} {r:Rt} {st:Nat} (hps:∀ q ∈ ps,q.1 < 256) (hst:st < 256):aT Tryz.prog 8 [iE 3 (ps.map sM),jQ r,NT .u8 st] (aC true):=by
 refine aT.introM Tryz.func8 rfl Tryz.ntmps8 rfl a1E (fun cx hcx=>?_)
 refine cK ?_
 refine cY ?_
 refine nP rfl rfl rfl (fG (aB.t rfl)) (fun B4=>?_)
 refine nP rfl rfl rfl (nY (aB.t rfl)) (fun B5=>?_)
 refine nP rfl rfl rfl (eW (Ts:=[Is (.bool false)]) Tryz.zeroValue4 rfl (fun V=>aW zd (aG))) (fun B6=>?_)
 refine eX ?_
 refine cK ?_
 refine cK ?_
 refine cY ?_
 refine bM rfl rfl rfl (cX (aB.t rfl)) ?_
 refine bM rfl rfl rfl (dG U_97 (aB.t rfl) aA) ?_
 refine bM rfl rfl rfl (dE (aB.t rfl) (cJ 5)) ?_
 refine eX ?_
 refine dQ (aB.t rfl) (fun hb=>?_) (fun hb=>?_)
 ·refine cK ?_
  refine cY ?_
  refine bM rfl rfl rfl (cZ Tryz.call47 Cm trivial) ?_
  refine iD Z_4 (aB.t rfl) (aB.t rfl) (i:=2) rfl (aK rfl) rfl ?_
  refine eX ?_
  exact Nk hcx rfl A_4 Z_4 rfl (i:=2) rfl
 ·have hb2 : ps.length ≤ 5 := by have h := hb; simp only [decide_eq_false_iff_not, Nat.not_lt] at h; exact h
  refine cU ?_
  refine cK ?_
  refine Q.D_start (m:=9) ?_
  refine Q.D_step (Ei:=[(0,_)]) rfl rfl (Q.Srcs.cons (Q.Src.pre rfl rfl) Q.Srcs.nil) (dX rfl (cX (aB.t rfl))) ?_
  refine Q.D_step (Ei:=[(31,_)]) rfl rfl (Q.Srcs.cons (Q.Src.op 0 rfl rfl) Q.Srcs.nil) (dX rfl (dG U_97 (aB.t rfl) aA)) ?_
  refine Q.D_new (Ei:=[(32,_)]) rfl rfl rfl (Q.Srcs.cons (Q.Src.op 1 rfl rfl) Q.Srcs.nil) (Q.new_plain (iB (T:=aL Qi.zero) (i:=Tryz.t32) oP lX rfl rfl (aB.t rfl) rfl kC (El.ag rfl) (by show 88 * _ ≤ _; omega) zo)) ?_
  refine Q.D_step (Ei:=[(0,_)]) rfl rfl (Q.Srcs.cons (Q.Src.pre rfl rfl) Q.Srcs.nil) (dX rfl (cX (aB.t rfl))) ?_
  refine Q.D_step (Ei:=[(34,_)]) rfl rfl (Q.Srcs.cons (Q.Src.op 3 rfl rfl) Q.Srcs.nil) (dX rfl (dG U_97 (aB.t rfl) aA)) ?_
  refine Q.D_new (Ei:=[(35,_)]) rfl rfl rfl (Q.Srcs.cons (Q.Src.op 4 rfl rfl) Q.Srcs.nil) (Q.new_plain (iB (T:=eL [] []) (i:=Tryz.t80) Hh Az rfl rfl (aB.t rfl) rfl Lq (El.ag rfl) (by show 48 * _ ≤ _; omega) zo)) ?_
  refine Q.D_newq (Ei:=[]) (fun B U=>Q.boxV 54 B U) 8 2 rfl rfl rfl rfl rfl Q.Srcs.nil (eW (Ts:=[Is (.slice none 0 0)]) Tryz.zeroValue54 rfl (fun V=>aW zd (aG))) ?_
  refine Q.D_new (Ei:=[]) rfl rfl rfl Q.Srcs.nil (eW (Ts:=[Is (.slice none 0 0)]) Tryz.zeroValue98 rfl (fun V=>aW zd (aG))) ?_
  refine Q.D_putq 6 2 rfl rfl (by rfl) (by rfl) rfl rfl (Q.putq_st Z_54 rfl) ?_
  refine Q.D_done bB rfl (by kernel_rfl) (by rfl) (Q.F_val (Q.F_val (Q.F_new (fun q33=>Q.F_val (Q.F_val (Q.F_new (fun q36=>Q.F_newq (fun B7=>Q.F_new (fun B8=>Q.F_putq (Q.F_nil ?_))))))))))
  obtain ⟨B33,hB33⟩:=q33
  obtain ⟨B36,hB36⟩:=q36
  refine Nb (l:=4) Z_98 (aB.t rfl) (aB.t rfl) (i:=6) rfl rfl (aK rfl) rfl ?_
  refine eX ?_
  refine oZ 5 rfl Q.boxV_is ?_
  refine cK ?_
  refine cK ?_
  refine cY ?_
  refine bM rfl rfl rfl (cX (aB.t rfl)) ?_
  refine bM rfl rfl rfl (dG U_97 (aB.t rfl) aA) ?_
  refine bM rfl rfl rfl (cX (cJ 0)) ?_
  refine eX ?_
  refine eG ?_
  obtain ⟨q0,hq0⟩:∃ q,q = ps.getD 0 (0,[],[]):=⟨_,rfl⟩
  obtain ⟨l,hl⟩:∃ l,l = ps.map (Ms r (q0.1 % 2)):=⟨_,rfl⟩
  have hll:l.length = ps.length:=by rw [hl,List.length_map]
  obtain ⟨f,hf⟩:∃ f,f = Yh (Ay r).q ps.length:=⟨_,rfl⟩
  have hfl:f.length = ps.length:=by rw [hf,mE]
  refine dB (fun (k : Nat) => k ≤ ps.length) (fun (k : Nat) => ps.length - k) (fun (k : Nat) => [(0, iE 3 (ps.map sM)), (4, cH B4 0), (5, cH B5 0), (6, cH B6 0), (7, cH B7 0), (8, cH B8 0), (37, iE 3 (ps.map sM)), (38, NT .i64 ps.length), (39, NT .i64 k)]) (fun (k : Nat) => [box B4 23 [aI .i64 r.re, aI .i64 r.im, aI .i64 r.den], box B5 5 [NT .u8 st], box B6 4 [Is (.bool false)], bH 32 5 B33 (lT (fun i => aL (gv f i)) (aL Qi.zero) ps.length k), bH 80 2 B36 (lT (fun i => eL (nz l i) (ns l i)) (eL [] []) ps.length k), box B7 54 [Is B33], box B8 98 [Is B36]]) 0 (Nat.zero_le _)
   (zS rfl) (aU (fun _ _ _ h=>h) (aU (fun _ _ _ h=>h) (aU (fun _ _ _ h=>h) (aU (bN (by rw [← kR]; exact oO ps.length (aL Qi.zero))) (aU (bN (by rw [← kR]; exact oO ps.length (eL [] []))) (aU (fun _ _ _ h=>h) (aU (fun _ _ _ h=>h) aY))))))) (fun k hk=>?_)
  refine cK ?_
  refine cY ?_
  refine bM rfl rfl rfl (gZ (aB.t rfl) (aB.t rfl)) ?_
  refine eX ?_
  refine cK ?_
  refine dQ (aB.t rfl) (fun hc=>?_) (fun hc=>?_)
  ·have hc2 : k < ps.length := by simpa using hc
   obtain ⟨q,hq⟩:∃ q,q = ps.getD k (0,[],[]):=⟨_,rfl⟩
   have hqm:q0.1 < 256:=hps q0 (by rw [hq0,vJ (show 0 < ps.length by omega)]; exact List.getElem_mem _)
   have hqn:l.getD k jB = Ms r (q0.1 % 2) q:=by rw [hl,hq]; simp [List.getD,hc2]
   have hz1:nz l k = (tK (q0.1 % 2) [r]).map Rt.q:=congrArg Prod.fst hqn
   have hs1:ns l k = rq (tB (q0.1 % 2) q.2.2):=congrArg Prod.snd hqn
   have hfk:gv f k = (Ay r).q * Qi.ofInt ((k + 1:Nat):Int):=by rw [hf,vY hc2]; push_cast; rfl
   have fI:aP (Ay r).q 2:=inferInstance
   have fK:aP (Qi.ofInt ((k + 1:Nat):Int)) 2:=zD zo
   refine cU ?_
   refine cK ?_
   refine eG ?_
   refine cK ?_
   refine cY ?_
   refine bM rfl rfl rfl (cX (aB.t rfl)) ?_
   refine bM rfl rfl rfl (dZ U_97 Z_101 (aB.t rfl) (aB.t rfl) rfl (dY (show ps[k]? = some q by rw [hq]; exact dU (d:=(0,[],[])) hc2))) ?_
   refine bM rfl rfl rfl (dJ Tryz.isAgg101 Z_101 (aB.t rfl)) ?_
   refine nP rfl rfl rfl (eW (Ts:=[Is (.int .u8 0),Is (.slice none 0 0),Is (.slice none 0 0)]) Tryz.zeroValue101 rfl (fun V=>aW zd (aW zd (aW zd (aG))))) (fun B10=>?_)
   refine bM rfl rfl rfl (cQ (aB.t rfl)) ?_
   refine gX Z_101 (aB.t rfl) (aB.t rfl) rfl (i:=7) rfl (aK rfl) rfl rfl ?_
   refine eX ?_
   refine cK ?_
   refine cY ?_
   refine bM rfl rfl rfl (cX (aB.t rfl)) ?_
   refine bM rfl rfl rfl (dZ U_97 Z_101 (aB.t rfl) (cJ 0) rfl (dY (show ps[0]? = some q0 by rw [hq0]; exact dU (d:=(0,[],[])) (show 0 < ps.length by omega)))) ?_
   refine bM rfl rfl rfl (iJ xD (aB.t rfl) rfl) ?_
   refine bM rfl rfl rfl (dJ A_5 Z_5 (aB.t rfl)) ?_
   refine bM rfl rfl rfl (iK (aB.t rfl) (cJ 2) zo) ?_
   refine bM rfl rfl rfl (eZ xD (aB.t rfl) rfl) ?_
   refine iD Z_5 (aB.t rfl) (aB.t rfl) (i:=7) rfl (aK rfl) rfl ?_
   refine eX ?_
   refine cK ?_
   refine cY ?_
   refine bM rfl rfl rfl (eJ Tryz.isAgg101 Z_101 (aB.t rfl) (i:=7) rfl rfl rfl) ?_
   refine bM rfl rfl rfl (eJ A_23 Z_23 (aB.t rfl) (i:=0) rfl rfl rfl) ?_
   refine bM rfl rfl rfl (cZ Tryz.call60 (eQ (Tc (a:=q0.1 % 2) (zl:=q.2.1) (sl:=q.2.2) (r:=r) zo) (qU (Us:=[eL (nz l k) (ns l k),aC true]) (by rw [hz1,hs1]))) ⟨(aB.t rfl),(aB.t rfl),trivial⟩) ?_
   refine bM rfl rfl rfl (cX (aB.t rfl)) ?_
   refine bM rfl rfl rfl (dK (aB.t rfl) rfl) ?_
   refine bM rfl rfl rfl (dK (aB.t rfl) rfl) ?_
   refine nP rfl rfl rfl (eW (Ts:=[Is (.slice none 0 0),Is (.slice none 0 0)]) O_80 rfl (fun V=>aW zd (aW zd (aG)))) (fun B11=>?_)
   refine gX Z_80 (aB.t rfl) (aB.t rfl) rfl (i:=8) rfl (aK rfl) rfl rfl ?_
   refine bM rfl rfl rfl (cQ (aB.t rfl)) ?_
   refine eX ?_
   refine cK ?_
   refine cK ?_
   refine cY ?_
   refine bM rfl rfl rfl (cX (aB.t rfl)) ?_
   refine bM rfl rfl rfl (eC (aB.t rfl)) ?_
   refine eX ?_
   refine iW (aB.t rfl) (by rfl) ?_
   refine cU ?_
   refine cK ?_
   refine cY ?_
   refine bM rfl rfl rfl (vQ A_98 Z_98 (aB.t rfl) (i:=6) rfl rfl) ?_
   refine bM rfl rfl rfl (cX (aB.t rfl)) ?_
   refine bM rfl rfl rfl (eJ A_80 Z_80 (aB.t rfl) (i:=8) rfl rfl rfl) ?_
   refine bM rfl rfl rfl (eO U_98 Z_80 (aB.t rfl) (aB.t rfl) rfl (i:=4) rfl (by rw [fH]; omega) rfl) ?_
   refine mN Z_80 (aB.t rfl) (aB.t rfl) (El.ag rfl) (i:=4) rfl rfl (by rw [fH]; omega) rfl ?_
   refine eX ?_
   refine fZ (m:=9) ?_
   refine C.D_step (Ei:=[(7,_)]) rfl rfl (bV (bK rfl rfl) bW) (dX rfl (vQ A_54 Z_54 (aB.t rfl) (i:=5) rfl rfl)) ?_
   refine C.D_step (Ei:=[(9,_)]) rfl rfl (bV (bK rfl rfl) bW) (dX rfl (cX (aB.t rfl))) ?_
   refine C.D_step (Ei:=[(4,_)]) rfl rfl (bV (bK rfl rfl) bW) (dX rfl (eJ A_23 Z_23 (aB.t rfl) (i:=0) rfl rfl rfl)) ?_
   refine C.D_step (Ei:=[(64,_)]) rfl rfl (bV (bG 2 rfl rfl) bW) (dX rfl (cZ Tryz.call61 Im ⟨(aB.t rfl),trivial⟩)) ?_
   refine C.D_step (Ei:=[(65,_)]) rfl rfl (bV (bG 3 rfl rfl) bW) (dX rfl (cZ Tryz.call14 Io ⟨(aB.t rfl),trivial⟩)) ?_
   refine C.D_step (Ei:=[(9,_)]) rfl rfl (bV (bK rfl rfl) bW) (dX rfl (cX (aB.t rfl))) ?_
   refine C.D_step (Ei:=[(67,_)]) rfl rfl (bV (bG 5 rfl rfl) bW) (dX rfl (dV (aB.t rfl) (cJ 1) z6)) ?_
   refine C.D_step (Ei:=[(68,_)]) rfl rfl (bV (bG 6 rfl rfl) bW) (dX rfl (cZ Tryz.call36 (Cj (n:=((k + 1:Nat):Int)) zo zo) ⟨(aB.t rfl),trivial⟩)) ?_
   refine C.D_step (Ei:=[(66,_),(69,_)]) rfl rfl (bV (bG 4 rfl rfl) (bV (bG 7 rfl rfl) bW)) (dX rfl (cZ K_29 (eQ (uM (x:=(Ay r).q) (y:=Qi.ofInt ((k + 1:Nat):Int)) (L:=2) (M:=2) zo) (jD hfk.symm)) ⟨(aB.t rfl),(aB.t rfl),trivial⟩)) ?_
   refine fV bB rfl (by kernel_rfl) (zF (zF (aJ (aV ?_))))
   refine bM rfl rfl rfl (eO U_54 Z_32 (aB.t rfl) (aB.t rfl) rfl (i:=3) rfl (by rw [fH]; omega) rfl) ?_
   refine mN Z_32 (aB.t rfl) (aB.t rfl) (El.ag rfl) (i:=3) rfl rfl (by rw [fH]; omega) rfl ?_
   refine eX ?_
   refine T_blk ?_
   refine cY ?_
   refine bM rfl rfl rfl (dV (aB.t rfl) (cJ 1) z6) ?_
   refine bM rfl rfl rfl (cX (aB.t rfl)) ?_
   refine eX ?_
   refine eR [0,1,2,3,4,5,6] rfl (by decide) ?_
   refine fY (k + 1) hc2 zo (zS rfl) (aU (fun _ _ _ h=>h) (aU (fun _ _ _ h=>h) (aU (fun _ _ _ h=>h) (aU (bN (mA (f:=(fun i=>aL (gv f i))))) (aU (bN (mA (f:=(fun i=>eL (nz l i) (ns l i))))) (aU (fun _ _ _ h=>h) (aU (fun _ _ _ h=>h) aY)))))))
  ·obtain rfl : k = ps.length := by have h := hc; simp only [decide_eq_false_iff_not] at h; omega
   have e1:lT (fun i=>aL (gv f i)) (aL Qi.zero) ps.length ps.length = f.map aL:=by rw [lZ,← hfl]; exact a1I aL
   have e2:lT (fun i=>eL (nz l i) (ns l i)) (eL [] []) ps.length ps.length = l.map fun n=>eL n.1 n.2:=by rw [lZ,← hll]; exact a0A (fun n=>eL n.1 n.2)
   rw [e1,e2]
   refine gW rfl ?_
   refine qD 5 3 0 rfl rfl rfl (by decide) ?_
   refine qD 6 4 0 rfl rfl rfl (by decide) ?_
   refine gV (i:=5) (tt:=7) rfl rfl jT ?_
   refine gV (i:=6) (tt:=8) rfl rfl jT ?_
   refine gV (i:=0) (tt:=4) rfl rfl nI ?_
   refine gV (i:=1) (tt:=5) rfl rfl jT ?_
   refine eR [2] rfl (by decide) ?_
   have fI:aP (Ay r).q 2:=inferInstance
   have ff:dA f 5:=a0t hf hb2
   have hnk:∀ i,Fj (l.getD i jB) 2:=fun i=>by rw [hl]; exact a0j _ _ _ i
   have swf:SwF f l 5:=a0z ff (fun i=>Uw (hnk i) (by decide)) zo zo
   have ok:qX f l:=by rw [hf]; exact a0J (Jf r) zo hll (fun i hi=>by rw [hl]; exact a1T _ _ _ _ hi)
   have he:Ez f l = 0:=a0y ok
   refine cK ?_
   refine cY ?_
   refine bM rfl rfl rfl (dJ A_54 Z_54 (aB.t rfl)) ?_
   refine bM rfl rfl rfl (dJ A_98 Z_98 (aB.t rfl)) ?_
   refine bM rfl rfl rfl (cZ Tryz.call49 (eQ (Fv (f:=f) (l:=l) (L:=5) swf (by decide) (by decide)) (qU (Us:=[Hr f l,aI .i64 0]) (by rw [he]; rfl))) ⟨(aB.t rfl),(aB.t rfl),trivial⟩) ?_
   refine bM rfl rfl rfl (cX (aB.t rfl)) ?_
   refine bM rfl rfl rfl (dK (aB.t rfl) rfl) ?_
   refine bM rfl rfl rfl (dK (aB.t rfl) rfl) ?_
   refine nP rfl rfl rfl (eW (Ts:=[Is (.slice none 0 0),Is (.slice none 0 0)]) O_108 rfl (fun V=>aW zd (aW zd (aG)))) (fun B13=>?_)
   refine gX Z_108 (aB.t rfl) (aB.t rfl) rfl (i:=1) rfl (aK rfl) rfl rfl ?_
   refine bM rfl rfl rfl (cQ (aB.t rfl)) ?_
   refine eX ?_
   refine cK ?_
   refine cK ?_
   refine cY ?_
   refine bM rfl rfl rfl (cX (aB.t rfl)) ?_
   refine bM rfl rfl rfl (kT (aB.t rfl) cV) ?_
   refine bM rfl rfl rfl (cX (aB.t rfl)) ?_
   refine fQ rfl rfl (eK rfl rfl (aB.t rfl) (fun h=>eJ A_108 Z_108 (aB.t rfl) (i:=1) rfl rfl rfl)) ?_
   refine fQ rfl rfl (eK rfl rfl (aB.t rfl) (fun h=>cZ Tryz.call62 Ck ⟨(fJ rfl h),trivial⟩)) ?_
   refine fQ rfl rfl (eK rfl rfl (aB.t rfl) (fun h=>cX (aB.t rfl))) ?_
   refine fQ rfl rfl (eK rfl rfl (aB.t rfl) (fun h=>dG U_97 (fJ rfl h) aA)) ?_
   refine fQ rfl rfl (eK rfl rfl (aB.t rfl) (fun h=>fL (fJ rfl h) (fJ rfl h))) ?_
   refine bM rfl rfl rfl (iF (aB.t rfl) (fun h=>(fJ rfl h))) ?_
   refine eX ?_
   refine iW (aB.t rfl) (by simp [hfl]) ?_
   refine gV (i:=1) (tt:=13) rfl rfl nI ?_
   refine cU ?_
   refine cK ?_
   refine cY ?_
   refine nP rfl rfl rfl (eW (Ts:=[Is (.int .i64 0)]) O_3 rfl (fun V=>aW zd (aG))) (fun B15=>?_)
   refine iD Z_3 (aB.t rfl) (cJ 0) (i:=2) rfl (aK rfl) rfl ?_
   refine eX ?_
   refine cK ?_
   refine eR [0,2] rfl (by decide) ?_
   refine iA (fun (κ:Nat)=>κ = min (st % 6) ps.length) (fun (κ:Nat)=>[(0,iE 3 (ps.map sM)),(5,PT (NT .u8 st)),(6,cH B6 0),(7,PT (bP f)),(8,PT (Sg l)),(13,PT (Hr f l)),(15,cH B15 0)]) (fun (κ:Nat)=>[box B6 4 [Is (.bool false)],box B15 3 [NT .i64 κ]]) ?_ (fun κ hκ=>?_)
   ·refine cK ?_
    refine cY ?_
    refine bM rfl rfl rfl (dJ A_108 Z_108 (aB.t rfl)) ?_
    refine bM rfl rfl rfl (cZ Tryz.call63 (Xk (f:=f) (l:=l) (N:=ps.length) hfl hll zo) ⟨(aB.t rfl),trivial⟩) ?_
    refine eX ?_
    refine eG ?_
    refine rT (E':=[(0,_),(5,_),(6,_),(7,_),(8,_),(13,_),(15,_),(89,_)]) (zS rfl) ?_
    have hT1 : ∀ (i : Nat) (v : Value) (V : aE), (aL (gv f i)).p v V → ∃ cs : List Value, v = .agg cs.toArray ∧ (∀ u, u ∈ cs → gE u) ∧ cs.length = 5 := fun i v V h => by
     obtain ⟨cs,e,h⟩:=h
     exact ⟨cs,e,h.pl,by simpa using h.length⟩
    have hT2 : ∀ (i : Nat) (v : Value) (V : aE), (eL (nz l i) (ns l i)).p v V → ∃ cs : List Value, v = .agg cs.toArray ∧ (∀ u, u ∈ cs → gE u) ∧ cs.length = 2 := fun i v V h => by
     obtain ⟨cs,e,h⟩:=h
     exact ⟨cs,e,h.pl,by simpa using h.length⟩
    refine a0U (N := ps.length) (T1 := fun i => aL (gv f i)) (T2 := fun i => eL (nz l i) (ns l i)) [(B6, 4, fun _ => .bool false), (B15, 3, fun j => .int .i64 (j : Int))] (fun j => ∀ i, i < j → i ≠ st % 6) (fun id _ j => id = 2 ∧ j = st % 6)
     O_32 rfl rfl Z_32 O_80 rfl rfl Z_80 hT1 hT2 rfl (by decide) (by decide) ⟨rfl,rfl,rfl,rfl⟩ (aB.t rfl) (fun i hi=>by omega) (fun lp j x cx' R' hj hx hJ h1 h2 h3=>?_) ?_ (fun hJ=>?_)
    ·refine I.T_block ?_
     refine I.T_seq ?_
     refine I.T_seq ?_
     refine I.T_region rfl ?_
     refine bM rfl rfl rfl (eY A_3 Z_3 (aB.t rfl) (i:=1) rfl rfl) ?_
     refine bM rfl rfl rfl (dJ A_5 Z_5 (aB.t rfl)) ?_
     refine bM rfl rfl rfl (gJ U_5 U_3 (aB.t rfl) z6) ?_
     refine bM rfl rfl rfl (iK (aB.t rfl) (cJ 6) zo) ?_
     refine bM rfl rfl rfl (cD (aB.t rfl) (aB.t rfl)) ?_
     refine eX (I.R_on ?_)
     refine I.T_cond (aB.t rfl) (fun hs=>?_) (fun hs=>?_)
     ·exact I.T_out rfl fun a w ⟨V,hi,hs2⟩=>h2 2 ⟨rfl,by simpa using hs⟩ a w ⟨V,hi,hs2.sub aX⟩
     ·have hs2 : j ≠ st % 6 := by simpa using hs
      haveI g1:aP (gv f x) 5:=ff.get (by decide) x
      haveI g2:aP (gv f j) 5:=ff.get (by decide) j
      refine I.T_skip ?_
      refine I.T_seq ?_
      refine I.T_seq ?_
      refine I.T_draw (q:=13) rfl ?_
      refine Go.Proofs.YthcmlodgnfekeaaGreat.D_step (Ei:=[(16,_)]) rfl rfl (Srcs.cons (Src.pre rfl rfl) Srcs.nil) (dX rfl (dJ A_32 Z_32 (aB.t rfl))) ?_
      refine Go.Proofs.YthcmlodgnfekeaaGreat.D_step (Ei:=[(7,_)]) rfl rfl (Srcs.cons (Src.pre rfl rfl) Srcs.nil) (dX rfl (dJ A_54 Z_54 (aB.t rfl))) ?_
      refine Go.Proofs.YthcmlodgnfekeaaGreat.D_step (Ei:=[(15,_)]) rfl rfl (Srcs.cons (Src.pre rfl rfl) Srcs.nil) (dX rfl (eY A_3 Z_3 (aB.t rfl) (i:=1) rfl rfl)) ?_
      refine Go.Proofs.YthcmlodgnfekeaaGreat.D_step (Ei:=[(98,_),(99,_)]) rfl rfl (Srcs.cons (Src.op 1 rfl rfl) (Srcs.cons (Src.op 2 rfl rfl) Srcs.nil)) (dX rfl (dZ U_54 Z_32 (aB.t rfl) (aB.t rfl) rfl (dY (dU (d:=Qi.zero) (show j < f.length by omega))))) ?_
      refine Go.Proofs.YthcmlodgnfekeaaGreat.D_step (Ei:=[(100,_)]) rfl rfl (Srcs.cons (Src.op 3 rfl rfl) Srcs.nil) (dX rfl (dJ A_32 Z_32 (aB.t rfl))) ?_
      refine Go.Proofs.YthcmlodgnfekeaaGreat.D_step (Ei:=[(97,_),(101,_)]) rfl rfl (Srcs.cons (Src.op 0 rfl rfl) (Srcs.cons (Src.op 4 rfl rfl) Srcs.nil)) (dX rfl (cZ Tryz.call45 (wO (x:=gv f x) (y:=gv f j) (L:=5) (M:=5) zo zo) ⟨(aB.t rfl),(aB.t rfl),trivial⟩)) ?_
      refine Go.Proofs.YthcmlodgnfekeaaGreat.D_step (Ei:=[(102,_)]) rfl rfl (Srcs.cons (Src.op 5 rfl rfl) Srcs.nil) (dX rfl (eC (aB.t rfl))) ?_
      refine Go.Proofs.YthcmlodgnfekeaaGreat.D_step (Ei:=[(103,_)]) rfl rfl (Srcs.cons (Src.op 6 rfl rfl) Srcs.nil) (dX rfl (cX (aB.t rfl))) ?_
      refine Go.Proofs.YthcmlodgnfekeaaGreat.D_step (Ei:=[(17,_),(104,_)]) rfl rfl (Srcs.cons (Src.pre rfl rfl) (Srcs.cons (Src.op 7 rfl rfl) Srcs.nil)) (eK rfl rfl (aB.t rfl) (fun h=>dJ A_80 Z_80 (aB.t rfl))) ?_
      refine Go.Proofs.YthcmlodgnfekeaaGreat.D_step (Ei:=[(8,_),(104,_)]) rfl rfl (Srcs.cons (Src.pre rfl rfl) (Srcs.cons (Src.op 7 rfl rfl) Srcs.nil)) (eK rfl rfl (aB.t rfl) (fun h=>dJ A_98 Z_98 (aB.t rfl))) ?_
      refine Go.Proofs.YthcmlodgnfekeaaGreat.D_step (Ei:=[(15,_),(104,_)]) rfl rfl (Srcs.cons (Src.pre rfl rfl) (Srcs.cons (Src.op 7 rfl rfl) Srcs.nil)) (eK rfl rfl (aB.t rfl) (fun h=>eY A_3 Z_3 (aB.t rfl) (i:=1) rfl rfl)) ?_
      refine Go.Proofs.YthcmlodgnfekeaaGreat.D_step (Ei:=[(106,_),(107,_),(104,_)]) rfl rfl (Srcs.cons (Src.op 9 rfl rfl) (Srcs.cons (Src.op 10 rfl rfl) (Srcs.cons (Src.op 7 rfl rfl) Srcs.nil))) (eK rfl rfl (aB.t rfl) (fun h=>dZ U_98 Z_80 (fJ rfl h) (fJ rfl h) rfl (dY (dU (d:=jB) (show j < l.length by omega))))) ?_
      refine Go.Proofs.YthcmlodgnfekeaaGreat.D_step (Ei:=[(108,_),(104,_)]) rfl rfl (Srcs.cons (Src.op 11 rfl rfl) (Srcs.cons (Src.op 7 rfl rfl) Srcs.nil)) (eK rfl rfl (aB.t rfl) (fun h=>dJ A_80 Z_80 (fJ rfl h))) ?_
      refine D_done bB rfl (by kernel_rfl) (F_val (F_val (F_val (F_val (F_val (F_val (F_val (F_val (F_val (F_val (F_val (F_val (F_val (F_nil ?_))))))))))))))
      refine fQ rfl rfl (eK rfl rfl (aB.t rfl) (fun h=>cZ Tryz.call64 (sF (swf.fz x) (swf.fz j) (swf.fs x) (swf.fs j) (by decide) (by decide) (swf.sh x) (swf.sh j) (by have:=swf.h8 x; omega) (by have:=swf.h8 j; omega)) ⟨(fJ rfl h),(fJ rfl h),trivial⟩)) ?_
      refine fQ rfl rfl (eK rfl rfl (aB.t rfl) (fun h=>eC (fJ rfl h))) ?_
      refine bM rfl rfl rfl (iF (aB.t rfl) (fun h=>(fJ rfl h))) ?_
      refine eX (I.R_on ?_)
      refine I.T_cond (aB.t rfl) (fun hd=>?_) (fun hd=>?_)
      ·have hne : x ≠ j := fun e => by subst e; simp [xN] at hd
       refine I.T_seq ?_
       refine I.T_region rfl ?_
       refine iD Z_4 (aB.t rfl) cV (i:=0) rfl (aK rfl) rfl ?_
       refine eX (I.R_on ?_)
       exact I.T_ret fun a w ⟨V,hi,hs2⟩=>h3 hne a w ⟨V,hi.hp_of (HH.sublist (List.nil_sublist _)),hs2.sub aX⟩
      ·refine I.T_skip ?_
       refine I.T_region rfl ?_
       refine bM rfl rfl rfl (eY A_3 Z_3 (aB.t rfl) (i:=1) rfl rfl) ?_
       refine bM rfl rfl rfl (dV (aB.t rfl) (cJ 1) z6) ?_
       refine iD Z_3 (aB.t rfl) (aB.t rfl) (i:=1) rfl (aK rfl) rfl ?_
       refine eX (I.R_on ?_)
       refine I.T_blk ?_
       exact I.T_end fun a w ⟨V,hi,hs2⟩=>h1 (fun i hi=>by have:=hJ i; omega) a w ⟨V,hi,hs2.sub aX⟩
    ·rintro id j hj hJ ⟨rfl, hx⟩
     exact ⟨_,rfl,aO j zo (zS rfl) (cA.refl _)⟩
    ·have hN : ps.length ≤ st % 6 := Nat.le_of_not_lt fun h => hJ _ h rfl
     exact T_blk (aO ps.length zo (zS rfl) (cA.refl _))
   ·refine cK ?_
    refine cY ?_
    refine nP rfl rfl rfl (eW (Ts:=[Is (.int .i64 0)]) O_3 rfl (fun V=>aW zd (aG))) (fun B18=>?_)
    refine iD Z_3 (aB.t rfl) (cJ 0) (i:=2) rfl (aK rfl) rfl ?_
    refine eX ?_
    refine cK ?_
    refine cK ?_
    refine cY ?_
    refine bM rfl rfl rfl (dJ A_108 Z_108 (aB.t rfl)) ?_
    refine bM rfl rfl rfl (cZ Tryz.call63 (Xk (f:=f) (l:=l) (N:=ps.length) hfl hll zo) ⟨(aB.t rfl),trivial⟩) ?_
    refine eX ?_
    refine eG ?_
    refine eR [0,1,2] rfl (by decide) ?_
    refine rT (E':=[(0,_),(5,_),(6,_),(7,_),(8,_),(13,_),(15,_),(18,_),(116,_)]) (zS rfl) ?_
    refine a0T (N:=ps.length) (T1:=fun i=>aL (gv f i)) (T2:=fun i=>eL (nz l i) (ns l i)) [(B6,4,fun _=>.bool false),(B15,3,fun _=>.int .i64 (κ:Int)),(B18,3,fun j=>.int .i64 (j:Int))] rfl ⟨rfl,rfl⟩ (aB.t rfl) (fun lp j cx' R' hj h1=>?_) ?_
    ·refine I.T_block ?_
     refine I.T_region rfl ?_
     refine bM rfl rfl rfl (eY A_3 Z_3 (aB.t rfl) (i:=2) rfl rfl) ?_
     refine bM rfl rfl rfl (dV (aB.t rfl) (cJ 1) z6) ?_
     refine iD Z_3 (aB.t rfl) (aB.t rfl) (i:=2) rfl (aK rfl) rfl ?_
     refine eX (I.R_on ?_)
     refine I.T_blk ?_
     exact I.T_end fun a w ⟨V,hi,hs2⟩=>h1 a w ⟨V,hi,hs2.sub aX⟩
    have rE:Gv f l f = 0:=We ok
    have rL:Mf f l f = l:=Wf ok
    have swx:=swf.fz
    refine T_blk ?_
    refine cK ?_
    refine cK ?_
    refine cY ?_
    refine bM rfl rfl rfl (eY A_3 Z_3 (aB.t rfl) (i:=2) rfl rfl) ?_
    refine bM rfl rfl rfl (cX (aB.t rfl)) ?_
    refine bM rfl rfl rfl (dG U_97 (aB.t rfl) aA) ?_
    refine bM rfl rfl rfl (fL (aB.t rfl) (aB.t rfl)) ?_
    refine bM rfl rfl rfl (cX (aB.t rfl)) ?_
    refine fQ rfl rfl (eK rfl rfl (aB.t rfl) (fun h=>eY A_3 Z_3 (aB.t rfl) (i:=1) rfl rfl)) ?_
    refine fQ rfl rfl (eK rfl rfl (aB.t rfl) (fun h=>dJ A_5 Z_5 (aB.t rfl))) ?_
    refine fQ rfl rfl (eK rfl rfl (aB.t rfl) (fun h=>gJ U_5 U_3 (fJ rfl h) (by show _ < 9223372036854775808; first | omega | (simp at h; omega)))) ?_
    refine fQ rfl rfl (eK rfl rfl (aB.t rfl) (fun h=>iK (fJ rfl h) (cJ 6) (by first | omega | (simp at h; omega)))) ?_
    refine fQ rfl rfl (eK rfl rfl (aB.t rfl) (fun h=>cX (aB.t rfl))) ?_
    refine fQ rfl rfl (eK rfl rfl (aB.t rfl) (fun h=>dG U_97 (fJ rfl h) aA)) ?_
    refine fQ rfl rfl (eK rfl rfl (aB.t rfl) (fun h=>Bk (fJ rfl h) (fJ rfl h))) ?_
    refine fQ rfl rfl (eK rfl rfl (aB.t rfl) (fun h=>fL (fJ rfl h) (fJ rfl h))) ?_
    refine bM rfl rfl rfl (iF (aB.t rfl) (fun h=>(fJ rfl h))) ?_
    refine eX ?_
    refine iW (aB.t rfl) (by simp [hκ]) ?_
    refine cU ?_
    refine cK ?_
    refine cY ?_
    refine bM rfl rfl rfl (dJ A_108 Z_108 (aB.t rfl)) ?_
    refine bM rfl rfl rfl (dJ A_54 Z_54 (aB.t rfl)) ?_
    refine bM rfl rfl rfl (cZ Tryz.call57 (eQ (Fx (f:=f) (l:=l) (xs:=f) (L:=5) ok swf ff zo (by decide) (by decide)) (qU (Us:=[Hr f l,aI .i64 0]) (by rw [rE,rL]; rfl))) ⟨(aB.t rfl),(aB.t rfl),trivial⟩) ?_
    refine bM rfl rfl rfl (cX (aB.t rfl)) ?_
    refine bM rfl rfl rfl (dK (aB.t rfl) rfl) ?_
    refine bM rfl rfl rfl (dK (aB.t rfl) rfl) ?_
    refine nP rfl rfl rfl (eW (Ts:=[Is (.slice none 0 0),Is (.slice none 0 0)]) O_108 rfl (fun V=>aW zd (aW zd (aG)))) (fun B19=>?_)
    refine gX Z_108 (aB.t rfl) (aB.t rfl) rfl (i:=3) rfl (aK rfl) rfl rfl ?_
    refine bM rfl rfl rfl (cQ (aB.t rfl)) ?_
    refine eX ?_
    refine cK ?_
    refine cK ?_
    refine cY ?_
    refine bM rfl rfl rfl (cX (aB.t rfl)) ?_
    refine bM rfl rfl rfl (kT (aB.t rfl) cV) ?_
    refine bM rfl rfl rfl (cX (aB.t rfl)) ?_
    refine fQ rfl rfl (eK rfl rfl (aB.t rfl) (fun h=>eJ A_108 Z_108 (aB.t rfl) (i:=3) rfl rfl rfl)) ?_
    refine fQ rfl rfl (eK rfl rfl (aB.t rfl) (fun h=>cZ Tryz.call62 Ck ⟨(fJ rfl h),trivial⟩)) ?_
    refine fQ rfl rfl (eK rfl rfl (aB.t rfl) (fun h=>cX (aB.t rfl))) ?_
    refine fQ rfl rfl (eK rfl rfl (aB.t rfl) (fun h=>dG U_97 (fJ rfl h) aA)) ?_
    refine fQ rfl rfl (eK rfl rfl (aB.t rfl) (fun h=>fL (fJ rfl h) (fJ rfl h))) ?_
    refine bM rfl rfl rfl (iF (aB.t rfl) (fun h=>(fJ rfl h))) ?_
    refine eX ?_
    refine iW (aB.t rfl) (by simp [hfl]) ?_
    refine gV (i:=3) (tt:=19) rfl rfl nI ?_
    refine cU ?_
    refine cK ?_
    refine cK ?_
    refine cY ?_
    refine bM rfl rfl rfl (cX (aB.t rfl)) ?_
    refine bM rfl rfl rfl (dG U_97 (aB.t rfl) aA) ?_
    refine bM rfl rfl rfl (cX (cJ 0)) ?_
    refine eX ?_
    refine eG ?_
    refine eR [0] rfl (by decide) ?_
    refine dB (fun (k : Nat) => k ≤ ps.length) (fun (k : Nat) => ps.length - k) (fun (k : Nat) => [(6, cH B6 0), (7, PT (bP f)), (8, PT (Sg l)), (13, PT (Hr f l)), (19, PT (Hr f l)), (151, NT .i64 ps.length), (152, NT .i64 k)]) (fun (k : Nat) => [box B6 4 [Is (.bool false)]]) 0 (Nat.zero_le _)
     (zS rfl) (cA.refl _) (fun k hk2=>?_)
    refine cK ?_
    refine cY ?_
    refine bM rfl rfl rfl (gZ (aB.t rfl) (aB.t rfl)) ?_
    refine eX ?_
    refine cK ?_
    refine dQ (aB.t rfl) (fun hc2=>?_) (fun hc2=>?_)
    ·have hk3 : k < ps.length := by simpa using hc2
     have hkf:k < f.length:=by omega
     haveI g1:aP (gv f k) 5:=ff.get (by decide) k
     refine cU ?_
     refine cK ?_
     refine eG ?_
     refine cK ?_
     refine cY ?_
     refine bM rfl rfl rfl (cX (aB.t rfl)) ?_
     refine bM rfl rfl rfl (cQ (aB.t rfl)) ?_
     refine eX ?_
     refine cK ?_
     refine cY ?_
     refine bM rfl rfl rfl (dJ A_108 Z_108 (aB.t rfl)) ?_
     refine bM rfl rfl rfl (cX (aB.t rfl)) ?_
     refine bM rfl rfl rfl (cZ Tryz.call54 (eQ (Ta (f:=f) (l:=l) (i:=(k:Int)) ok.len) (qU (Us:=[aL (gv f k),eL (nz l k) (ns l k),aI .i64 0]) (by rw [Xz (l:=l) hkf]))) ⟨(aB.t rfl),(aB.t rfl),trivial⟩) ?_
     refine bM rfl rfl rfl (cX (aB.t rfl)) ?_
     refine bM rfl rfl rfl (dK (aB.t rfl) rfl) ?_
     refine bM rfl rfl rfl (dK (aB.t rfl) rfl) ?_
     refine bM rfl rfl rfl (dK (aB.t rfl) rfl) ?_
     refine nP rfl rfl rfl (eW (Ts:=[Is (.bool false),Is (.slice none 0 0),Is (.bool false),Is (.slice none 0 0),Is (.slice none 0 0)]) O_32 rfl (fun V=>aW zd (aW zd (aW zd (aW zd (aW zd (aG))))))) (fun B22=>?_)
     refine nP rfl rfl rfl (eW (Ts:=[Is (.slice none 0 0),Is (.slice none 0 0)]) O_80 rfl (fun V=>aW zd (aW zd (aG)))) (fun B23=>?_)
     refine gX Z_32 (aB.t rfl) (aB.t rfl) rfl (i:=1) rfl (aK rfl) rfl rfl ?_
     refine gX Z_80 (aB.t rfl) (aB.t rfl) rfl (i:=2) rfl (aK rfl) rfl rfl ?_
     refine bM rfl rfl rfl (cQ (aB.t rfl)) ?_
     refine eX ?_
     refine cK ?_
     refine Y.D_start (m:=11) [] ?_
     refine bY (Ei:=[(13,_)]) rfl rfl (bQ (bJ rfl rfl) bX) rfl rfl (dX rfl (dJ A_108 Z_108 (aB.t rfl))) ?_
     refine bY (Ei:=[(7,_)]) rfl rfl (bQ (bJ rfl rfl) bX) rfl rfl (dX rfl (dJ A_54 Z_54 (aB.t rfl))) ?_
     refine bY (Ei:=[(21,_)]) rfl rfl (bQ (bJ rfl rfl) bX) rfl rfl (dX rfl (cX (aB.t rfl))) ?_
     refine bY (Ei:=[(164,_),(165,_)]) rfl rfl (bQ (bZ 1 rfl rfl) (bQ (bZ 2 rfl rfl) bX)) rfl rfl (dX rfl (dZ U_54 Z_32 (aB.t rfl) (aB.t rfl) rfl (dY (dU (d:=Qi.zero) hkf)))) ?_
     refine bY (Ei:=[(166,_)]) rfl rfl (bQ (bZ 3 rfl rfl) bX) rfl rfl (dX rfl (dJ A_32 Z_32 (aB.t rfl))) ?_
     refine bY (Ei:=[(163,_),(167,_)]) rfl rfl (bQ (bZ 0 rfl rfl) (bQ (bZ 4 rfl rfl) bX)) rfl rfl (dX rfl (cZ Tryz.call55 (eQ (yV (f:=f) (l:=l) (x:=gv f k) (L:=5) ok swf (ff.get (by decide) k) (by decide) (by decide)) (qU (Us:=[eL (nz l k) (ns l k),aI .i64 0]) (by rw [Ah ok hkf]))) ⟨(aB.t rfl),(aB.t rfl),trivial⟩)) ?_
     refine bY (Ei:=[(168,_)]) rfl rfl (bQ (bZ 5 rfl rfl) bX) rfl rfl (dX rfl (cX (aB.t rfl))) ?_
     refine bY (Ei:=[(162,_)]) rfl rfl (bQ (bZ 6 rfl rfl) bX) rfl rfl (dX rfl (dK (aB.t rfl) rfl)) ?_
     refine bY (Ei:=[(162,_)]) rfl rfl (bQ (bZ 6 rfl rfl) bX) rfl rfl (dX rfl (dK (aB.t rfl) rfl)) ?_
     refine Y.D_newp (Ei:=[]) (fun bb=>box bb 80 [bP (nz l k),fC (ns l k)]) 10 rfl rfl rfl bX rfl rfl (by kernel_rfl) (eW (Ts:=[Is (.slice none 0 0),Is (.slice none 0 0)]) O_80 rfl (fun V=>aW zd (aW zd (aG)))) ?_
     refine Y.D_putN (Ei:=[(169,_)]) 9 rfl rfl rfl rfl rfl rfl (bQ (bZ 7 rfl rfl) bX) (fun bb=>rR Z_80 (aB.t rfl) (aB.t rfl) rfl (i:=0) rfl (aK rfl) rfl rfl) ?_
     refine Y.D_done bB rfl (by kernel_rfl) rfl (by simp [Y.okP]) rfl rfl (bU (bU (bU (bU (bU (bU (bU (bU (bU (Y.F_newp (fun B25=>Y.F_putN (Y.F_nil ?_))))))))))))
     refine bM rfl rfl rfl (cQ (aB.t rfl)) ?_
     refine eX ?_
     refine cK ?_
     refine fZ (m:=30) ?_
     refine C.D_step (Ei:=[(24,_)]) rfl rfl (bV (bK rfl rfl) bW) (dX rfl (cX (aB.t rfl))) ?_
     refine C.D_step (Ei:=[(171,_)]) rfl rfl (bV (bG 0 rfl rfl) bW) (dX rfl (kT (aB.t rfl) cV)) ?_
     refine C.D_step (Ei:=[(172,_)]) rfl rfl (bV (bG 1 rfl rfl) bW) (dX rfl (cX (aB.t rfl))) ?_
     refine C.D_step (Ei:=[(26,_),(173,_)]) rfl rfl (bV (bK rfl rfl) (bV (bG 2 rfl rfl) bW)) (eK rfl rfl (aB.t rfl) (fun h=>cX (aB.t rfl))) ?_
     refine C.D_step (Ei:=[(174,_),(173,_)]) rfl rfl (bV (bG 3 rfl rfl) (bV (bG 2 rfl rfl) bW)) (eK rfl rfl (aB.t rfl) (fun h=>kT (fJ rfl h) cV)) ?_
     refine C.D_step (Ei:=[(173,_),(175,_)]) rfl rfl (bV (bG 2 rfl rfl) (bV (bG 4 rfl rfl) bW)) (dX rfl (iF (aB.t rfl) (fun h=>(fJ rfl h)))) ?_
     refine C.D_step (Ei:=[(176,_)]) rfl rfl (bV (bG 5 rfl rfl) bW) (dX rfl (cX (aB.t rfl))) ?_
     refine C.D_step (Ei:=[(22,_),(177,_)]) rfl rfl (bV (bK rfl rfl) (bV (bG 6 rfl rfl) bW)) (eK rfl rfl (aB.t rfl) (fun h=>eJ A_32 Z_32 (aB.t rfl) (i:=1) rfl rfl rfl)) ?_
     refine C.D_step (Ei:=[(7,_),(177,_)]) rfl rfl (bV (bK rfl rfl) (bV (bG 6 rfl rfl) bW)) (eK rfl rfl (aB.t rfl) (fun h=>dJ A_54 Z_54 (aB.t rfl))) ?_
     refine C.D_step (Ei:=[(21,_),(177,_)]) rfl rfl (bV (bK rfl rfl) (bV (bG 6 rfl rfl) bW)) (eK rfl rfl (aB.t rfl) (fun h=>cX (aB.t rfl))) ?_
     refine C.D_step (Ei:=[(179,_),(180,_),(177,_)]) rfl rfl (bV (bG 8 rfl rfl) (bV (bG 9 rfl rfl) (bV (bG 6 rfl rfl) bW))) (eK rfl rfl (aB.t rfl) (fun h=>dZ U_54 Z_32 (fJ rfl h) (fJ rfl h) rfl (dY (dU (d:=Qi.zero) hkf)))) ?_
     refine C.D_step (Ei:=[(181,_),(177,_)]) rfl rfl (bV (bG 10 rfl rfl) (bV (bG 6 rfl rfl) bW)) (eK rfl rfl (aB.t rfl) (fun h=>dJ A_32 Z_32 (fJ rfl h))) ?_
     refine C.D_step (Ei:=[(178,_),(182,_),(177,_)]) rfl rfl (bV (bG 7 rfl rfl) (bV (bG 11 rfl rfl) (bV (bG 6 rfl rfl) bW))) (eK rfl rfl (aB.t rfl) (fun h=>cZ Tryz.call45 (wO (x:=gv f k) (y:=gv f k) (L:=5) (M:=5) zo zo) ⟨(fJ rfl h),(fJ rfl h),trivial⟩)) ?_
     refine C.D_step (Ei:=[(183,_),(177,_)]) rfl rfl (bV (bG 12 rfl rfl) (bV (bG 6 rfl rfl) bW)) (eK rfl rfl (aB.t rfl) (fun h=>eC (fJ rfl h))) ?_
     refine C.D_step (Ei:=[(177,_),(184,_)]) rfl rfl (bV (bG 6 rfl rfl) (bV (bG 13 rfl rfl) bW)) (dX rfl (iF (aB.t rfl) (fun h=>(fJ rfl h)))) ?_
     refine C.D_step (Ei:=[(185,_)]) rfl rfl (bV (bG 14 rfl rfl) bW) (dX rfl (cX (aB.t rfl))) ?_
     refine C.D_step (Ei:=[(23,_),(186,_)]) rfl rfl (bV (bK rfl rfl) (bV (bG 15 rfl rfl) bW)) (eK rfl rfl (aB.t rfl) (fun h=>eJ A_80 Z_80 (aB.t rfl) (i:=2) rfl rfl rfl)) ?_
     refine C.D_step (Ei:=[(8,_),(186,_)]) rfl rfl (bV (bK rfl rfl) (bV (bG 15 rfl rfl) bW)) (eK rfl rfl (aB.t rfl) (fun h=>dJ A_98 Z_98 (aB.t rfl))) ?_
     refine C.D_step (Ei:=[(21,_),(186,_)]) rfl rfl (bV (bK rfl rfl) (bV (bG 15 rfl rfl) bW)) (eK rfl rfl (aB.t rfl) (fun h=>cX (aB.t rfl))) ?_
     refine C.D_step (Ei:=[(188,_),(189,_),(186,_)]) rfl rfl (bV (bG 17 rfl rfl) (bV (bG 18 rfl rfl) (bV (bG 15 rfl rfl) bW))) (eK rfl rfl (aB.t rfl) (fun h=>dZ U_98 Z_80 (fJ rfl h) (fJ rfl h) rfl (dY (dU (d:=jB) (show k < l.length by omega))))) ?_
     refine C.D_step (Ei:=[(190,_),(186,_)]) rfl rfl (bV (bG 19 rfl rfl) (bV (bG 15 rfl rfl) bW)) (eK rfl rfl (aB.t rfl) (fun h=>dJ A_80 Z_80 (fJ rfl h))) ?_
     refine C.D_step (Ei:=[(187,_),(191,_),(186,_)]) rfl rfl (bV (bG 16 rfl rfl) (bV (bG 20 rfl rfl) (bV (bG 15 rfl rfl) bW))) (eK rfl rfl (aB.t rfl) (fun h=>cZ Tryz.call64 (sF (swf.fz k) (swf.fz k) (swf.fs k) (swf.fs k) (by decide) (by decide) (swf.sh k) (swf.sh k) (by have:=swf.h8 k; omega) (by have:=swf.h8 k; omega)) ⟨(fJ rfl h),(fJ rfl h),trivial⟩)) ?_
     refine C.D_step (Ei:=[(192,_),(186,_)]) rfl rfl (bV (bG 21 rfl rfl) (bV (bG 15 rfl rfl) bW)) (eK rfl rfl (aB.t rfl) (fun h=>eC (fJ rfl h))) ?_
     refine C.D_step (Ei:=[(186,_),(193,_)]) rfl rfl (bV (bG 15 rfl rfl) (bV (bG 22 rfl rfl) bW)) (dX rfl (iF (aB.t rfl) (fun h=>(fJ rfl h)))) ?_
     refine C.D_step (Ei:=[(194,_)]) rfl rfl (bV (bG 23 rfl rfl) bW) (dX rfl (cX (aB.t rfl))) ?_
     refine C.D_step (Ei:=[(25,_),(195,_)]) rfl rfl (bV (bK rfl rfl) (bV (bG 24 rfl rfl) bW)) (eK rfl rfl (aB.t rfl) (fun h=>eJ A_80 Z_80 (aB.t rfl) (i:=3) rfl rfl rfl)) ?_
     refine C.D_step (Ei:=[(8,_),(195,_)]) rfl rfl (bV (bK rfl rfl) (bV (bG 24 rfl rfl) bW)) (eK rfl rfl (aB.t rfl) (fun h=>dJ A_98 Z_98 (aB.t rfl))) ?_
     refine C.D_step (Ei:=[(21,_),(195,_)]) rfl rfl (bV (bK rfl rfl) (bV (bG 24 rfl rfl) bW)) (eK rfl rfl (aB.t rfl) (fun h=>cX (aB.t rfl))) ?_
     refine C.D_step (Ei:=[(197,_),(198,_),(195,_)]) rfl rfl (bV (bG 26 rfl rfl) (bV (bG 27 rfl rfl) (bV (bG 24 rfl rfl) bW))) (eK rfl rfl (aB.t rfl) (fun h=>dZ U_98 Z_80 (fJ rfl h) (fJ rfl h) rfl (dY (dU (d:=jB) (show k < l.length by omega))))) ?_
     refine C.D_step (Ei:=[(199,_),(195,_)]) rfl rfl (bV (bG 28 rfl rfl) (bV (bG 24 rfl rfl) bW)) (eK rfl rfl (aB.t rfl) (fun h=>dJ A_80 Z_80 (fJ rfl h))) ?_
     refine fV bB rfl (by kernel_rfl) (zF (zF (zF (zF (zF (zF (zF (aJ (aJ (aV ?_))))))))))
     refine fQ rfl rfl (eK rfl rfl (aB.t rfl) (fun h=>cZ Tryz.call64 (sF (swf.fz k) (swf.fz k) (swf.fs k) (swf.fs k) (by decide) (by decide) (swf.sh k) (swf.sh k) (by have:=swf.h8 k; omega) (by have:=swf.h8 k; omega)) ⟨(fJ rfl h),(fJ rfl h),trivial⟩)) ?_
     refine fQ rfl rfl (eK rfl rfl (aB.t rfl) (fun h=>eC (fJ rfl h))) ?_
     refine bM rfl rfl rfl (iF (aB.t rfl) (fun h=>(fJ rfl h))) ?_
     refine eX ?_
     refine iW (aB.t rfl) (by simp [xN]) ?_
     refine cU ?_
     refine T_blk ?_
     refine cY ?_
     refine bM rfl rfl rfl (dV (aB.t rfl) (cJ 1) z6) ?_
     refine bM rfl rfl rfl (cX (aB.t rfl)) ?_
     refine eX ?_
     refine eR [0] rfl (by decide) ?_
     refine fY (k + 1) hk3 zo (zS rfl) (cA.refl _)
    ·refine gW rfl ?_
     refine cK ?_
     refine cY ?_
     refine bM rfl rfl rfl (cZ Tryz.call47 Cm trivial) ?_
     refine iD Z_4 (aB.t rfl) (aB.t rfl) (i:=0) rfl (aK rfl) rfl ?_
     refine eX ?_
     exact Nk hcx rfl A_4 Z_4 rfl (i:=0) rfl
end
section
open Go Go.ChangeShapes Go.WideShapes Go.ChangeAt Go.RowKit
section
variable {H:Type} {enc:TypeId × Value → H} {W:World} {base:Nat} {sp:Nat → Bool} {held:Bool}
theorem zL {n : Nat} {cs : List Value} {y : DataW H × List MemPlace} (h : DataW.trod enc Tryz.prog W base sp held n 77 cs = some y) : ∃ (v : Value) (l : List Rt), cs = [v] ∧ (kG l).p v (hv W) :=
 Ka (F:=jQ) Tryz.underlying77 (by kernel_rfl) (by decide) (fun n cs y h=>Ql h) h
theorem Ew {s:Nat} {Ts:List Ty} {v:Value} {V:aE} (h:(iE s Ts).p v V):v.cells.toList = [v] ∧ gE v:=by obtain ⟨a,cap,rfl,_⟩:=h; exact ⟨rfl,trivial⟩
end
end
section
open Go Go.ChangeShapes Go.WideShapes Go.ChangeAt Go.RowKit Go.Deep
section
variable {H:Type} {enc:TypeId × Value → H} {W:World} {base:Nat} {sp:Nat → Bool} {held:Bool}
theorem a1V:S3 Tryz.prog 101 5 77 77:=⟨⟨_,_,_,Tryz.underlying101,rfl,rfl,rfl,rfl,rfl,rfl⟩,by kernel_rfl,by kernel_rfl,by kernel_rfl,by kernel_rfl⟩
end
end
section
open Go Go.ChangeShapes Go.WideShapes Go.ChangeAt Go.RowKit Go.Deep
section
variable {H:Type} {enc:TypeId × Value → H} {W:World} {base:Nat} {sp:Nat → Bool} {held:Bool}
abbrev PB:={q:PE // q.1 < 256}
instance : Inhabited PB:=⟨⟨(0,[],[]),by decide⟩⟩
theorem a0Z:Tryz.prog.cellsOf 101 = 3:=by kernel_rfl
theorem Lu {n:Nat} {cs:List Value} {y:DataW H × List MemPlace} (h:DataW.trod enc Tryz.prog W base sp held n 101 cs = some y):∃ (e:PB) (x:Value),x.cells.toList = cs ∧ (sM e.1).p x (hv W):=by
 obtain ⟨x0,x1,x2,m,y0,y1,y2,hcs,h0,h1,h2⟩:=a1V.open h
 obtain ⟨i,e0,_,w⟩:=DataW.trod_int Tryz.underlying5 h0
 obtain ⟨v1,z,e1,k1⟩:=zL h1
 obtain ⟨v2,s,e2,k2⟩:=zL h2
 simp only [List.cons.injEq,and_true] at e0 e1 e2
 subst e0 e1 e2
 have hw:=Yj w
 have e:((i.toNat:Nat):Int) = i:=by omega
 have hi:∀ V,(NT .u8 i.toNat).p (.int .u8 i) V:=fun V=>by rw [show NT .u8 i.toNat = aI .u8 i from congrArg (aI .u8) e]; rfl
 exact ⟨⟨(i.toNat,z,s),by show i.toNat < 256; omega⟩,.agg #[.int .u8 i,x1,x2],hcs.symm ▸ rfl,[.int .u8 i,x1,x2],rfl,aW ⟨hi _,trivial⟩ (aW ⟨k1,(Ew k1).2⟩ (aW ⟨k2,(Ew k2).2⟩ aG))⟩
theorem Gn {n : Nat} {cs : List Value} {y : DataW H × List MemPlace} (h : DataW.trod enc Tryz.prog W base sp held n 97 cs = some y) : ∃ (v : Value) (l : List PB), cs = [v] ∧ (iE 3 (l.map fun e => sM e.1)).p v (hv W) :=
 Ka (F:=fun e:PB=>sM e.1) Tryz.underlying97 a0Z (by decide) (fun n cs y h=>Lu h) h
theorem Fc {b0:Nat} {v:Value} {d:DataW H} {p:List MemPlace} (ho:Value.okWide Tryz.prog W .any b0 97 v) (h:DataW.Trod enc Tryz.prog W base sp held 97 v d p):∃ l:List PE,(iE 3 (l.map sM)).p v (hv W) ∧ ∀ q ∈ l,q.1 < 256:=by
 obtain ⟨a,n,k,rfl⟩:=okWide_slice Tryz.underlying97 ho
 obtain ⟨m,hm⟩:=h
 obtain ⟨v,l,e,hl⟩:=Gn hm
 have:[Value.slice a n k] = [v]:=e
 simp only [List.cons.injEq,and_true] at this
 subst this
 refine ⟨l.map Subtype.val,?_,fun q hq=>?_⟩
 ·rw [List.map_map]; exact hl
 ·obtain ⟨e, _, rfl⟩ := List.mem_map.1 hq
  exact e.2
end
end
end Go.Proofs.YthcmlodgnfekeaaGreat
