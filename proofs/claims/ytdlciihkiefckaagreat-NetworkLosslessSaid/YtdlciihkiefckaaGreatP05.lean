/- What functions of the program compute, proved by walks over their code, and the plain mathematics of it; a part of the proof in the last text. -/
import Derived.Test.YtdlciihkiefckaaGreatP04
set_option linter.unusedVariables false
set_option linter.unusedSimpArgs false
set_option maxRecDepth 100000
set_option maxHeartbeats 4000000
namespace Go.Proofs.YtdlciihkiefckaaGreat
section
open Go Go.RowKit
theorem Wh {i j:Nat}:bF Tryz.prog 214 [NT .i64 i,NT .i64 j] (NT .i64 j):=by
 refine bF.intro Tryz.func214 rfl Tryz.ntmps214 rfl (fun cx=>(ts (ro rfl (cQ (cJ 0)) (eX (ts (rm rfl (ra rfl (eX ?_))))))))
 exact fW rfl (eU rfl)
theorem Sj {x y:Qi} {L M:Nat} [hx:aH x L] [hy:aH y M] (h:L + 3 * M + 2 ≤ 17592186044415):bF Tryz.prog 217 [aE x,aE y] (eD [aE (x / y),aL .i64 (if y = Qi.zero then 3 else 0)]):=by
 refine bF.intro Tryz.func217 rfl Tryz.ntmps217 rfl (fun cx=>(ts (rn rfl (fG (Ht rfl)) fun B2=>(rn rfl (fG (Ht rfl)) fun B3=>(rn rfl (eW (Ts:=[Is (.bool false),Is (.slice none 0 0),Is (.bool false),Is (.slice none 0 0),Is (.slice none 0 0)]) O_60 rfl (fun V=>aW zd (aW zd (aW zd (aW zd (aW zd (aG))))))) fun B4=>(ro rfl (cQ (cJ 0)) (eX (ts (ro rfl (eJ A_60 Z_60 (Ht rfl) (i:=0) rfl rfl rfl) (ro rfl (bE bP (Ht rfl)) ?_))))))))))
 refine ro rfl (eJ A_60 Z_60 (Ht rfl) (i:=1) rfl rfl rfl) (ro rfl (aR kO K_64 (qR (x:=x) (y:=y) (L:=L) (M:=M) h) (Ht rfl) ⟨(Ht rfl),trivial⟩) (ro rfl (dK (Ht rfl) rfl) (ro rfl (dK (Ht rfl) rfl) (gQ Z_60 (Ht rfl) (Ht rfl) rfl (i:=2) rfl (aK rfl) rfl rfl (ra rfl (eX ?_))))))
 exact bL rfl (fK A_60 Z_60 rfl (i:=2) rfl rfl) (eU rfl)
theorem Sn {m:List (List Qi)} {n i j:Nat} (hm:cB m n n) (hi:i < n) (hj:j < n):bF Tryz.prog 259 [NT .i64 i,NT .i64 j,PT (cH m)] (aE (gm m i j)):=by
 have hml:=hm.1
 have hmr:=hm.row hi
 refine bF.intro Tryz.func259 rfl Tryz.ntmps259 rfl (fun cx=>(ts (rn rfl (eW (Ts:=[Is (.bool false),Is (.slice none 0 0),Is (.bool false),Is (.slice none 0 0),Is (.slice none 0 0)]) O_60 rfl (fun V=>aW zd (aW zd (aW zd (aW zd (aW zd (aG))))))) fun B5=>(eX (ts (ro rfl (dJ A_26 Z_26 (Ht rfl)) (rm rfl (ro rfl (dZ U_26 Z_25 (Ht rfl) (Ht rfl) rfl (dY (dU (d:=[]) zo))) (ro rfl (dJ A_25 Z_25 (Ht rfl)) ?_)))))))))
 refine rm rfl (ro rfl (dZ U_25 Z_60 (Ht rfl) (Ht rfl) rfl (dY (dU (d:=Qi.zero) zo))) (ro rfl (dJ A_60 Z_60 (Ht rfl)) (gQ Z_60 (Ht rfl) (Ht rfl) rfl (i:=0) rfl (aK rfl) rfl rfl (eX ?_))))
 exact fW rfl (fK A_60 Z_60 rfl (i:=0) rfl rfl)
theorem Jj {m:List (List Qi)} {z:List Qi} {n L M:Nat} {ak:Nat → Nat → Nat} {op:Qi → Qi → Qi} (hm:cB m n n) (hz:z.length = n) (hf:bA m L) (hfz:bH z M) (hp:z.all eS = true) (hL:1 ≤ L) (hM:1 ≤ M) (hn:n ≤ 1000) (ha:∀ i j,i < n → j < n → ak i j < n):bF Tryz.prog 213 [cH m,aN z,yU Tryz.prog (Nat × Nat) (fun x=>[NT .i64 x.1,NT .i64 x.2]) (fun x=>NT .i64 (ak x.1 x.2)),yU Tryz.prog {p:Qi × Qi // aH p.1 L ∧ aH p.2 M ∧ p.2 ≠ 0} (fun p=>[aE p.1.1,aE p.1.2]) (fun p=>eD [aE (op p.1.1 p.1.2),aL .i64 0])] (eD [cH (tab n fun i=>tab n fun j=>op (gm m i j) (gv z (ak i j))),aL .i64 0]):=by
 have hml:=hm.1
 refine bF.intro Tryz.func213 rfl Tryz.ntmps213 rfl (fun cx=>(ts (rn rfl (mB (Ht rfl)) fun B4=>(ro rfl (cQ cV) (ro rfl (cQ (cJ 0)) (eX (cK (gJ (i:=0) (tt:=4) rfl rfl gY (cY (ro rfl (dJ A_26 Z_26 (Ht rfl)) (ro rfl (dG U_26 (Ht rfl) (by rw [List.length_map,hml])) ?_)))))))))))
 refine ro rfl (lR (γ:=Fin n × Fin n) (Ts:=fun x=>[NT .i64 x.1.1,NT .i64 x.2.1]) (U:=fun x=>aE (gm m x.1.1 x.2.1)) Tryz.call259 (fun x=>Sn hm x.1.2 x.2.2) ⟨(Ht rfl),trivial⟩) (mW K_110 (zO (n:=n) (f:=fun i j=>gm m i j) hn) ⟨(Ht rfl),(Ht rfl),trivial⟩ rfl (fun B18 _=>(ra rfl (eX (cK (ts (rm rfl (ro rfl (jB U_26 (Ht rfl)) (ro rfl (cX (cJ 0)) (eX (eG (cM [1] rfl (by decide) ?_))))))))))))
 refine cI (fun (i : Nat) => i ≤ n) (fun (i : Nat) => n - i) (fun (i : Nat) => [(1, aN z), (2, yU Tryz.prog (Nat × Nat) (fun x => [NT .i64 x.1, NT .i64 x.2]) (fun x => NT .i64 (ak x.1 x.2))), (3, yU Tryz.prog {p : Qi × Qi // aH p.1 L ∧ aH p.2 M ∧ p.2 ≠ 0} (fun p => [aE p.1.1, aE p.1.2]) (fun p => eD [aE (op p.1.1 p.1.2), aL .i64 0])), (10, Is (.slice (some ⟨B18, 0, none⟩) n n)), (20, NT .i64 n), (21, NT .i64 i)]) (fun (i : Nat) => [oE B18 25 60 5 (cO aE (mI (fun i => tab n fun j => op (gm m i j) (gv z (ak i j))) (fun i => tab n fun j => gm m i j) n i))]) 0 (Nat.zero_le _)
  (zS rfl) (aU (eB (by rw [← pJ])) aY) (fun i hi=>?_)
 refine ts (ro rfl (gX (Ht rfl) (Ht rfl)) (eX (cK (dQ (Ht rfl) (fun hc=>?_) (fun hc=>?_)))))
 ·have hin : i < n := by simp only [decide_eq_true_eq] at hc; omega
  have hrt:=aF n fun j=>gm m i j
  refine oV 0 (i) rfl (yG hin) (fun v0=>(cU (cK (eG (ts (rm rfl (ra rfl (eX (ts (rm rfl (rm rfl (ro rfl (fY U_26 Z_25 (Ht rfl) (Ht rfl) rfl zo (by rw [Nat.mul_one,Nat.zero_add])) ?_))))))))))))
  refine ro rfl (lI A_25 Z_25 (Ht rfl) (j:=0) rfl) (ro rfl (nW U_25 (Ht rfl) (i:=1) rfl (by rw [List.length_map,hrt])) ?_)
  refine ro rfl (cX (cJ 0)) (eX (eG ?_))
  refine cI (fun (j : Nat) => j ≤ n) (fun (j : Nat) => n - j) (fun (j : Nat) => [(1, aN z), (2, yU Tryz.prog (Nat × Nat) (fun x => [NT .i64 x.1, NT .i64 x.2]) (fun x => NT .i64 (ak x.1 x.2))), (3, yU Tryz.prog {p : Qi × Qi // aH p.1 L ∧ aH p.2 M ∧ p.2 ≠ 0} (fun p => [aE p.1.1, aE p.1.2]) (fun p => eD [aE (op p.1.1 p.1.2), aL .i64 0])), (10, Is (.slice (some ⟨B18, 0, none⟩) n n)), (11, NT .i64 i), (20, NT .i64 n), (21, NT .i64 i), (28, NT .i64 n), (29, NT .i64 j)]) (fun (j : Nat) => [He B18 25 60 5 (cO aE (mI (fun i => tab n fun j => op (gm m i j) (gv z (ak i j))) (fun i => tab n fun j => gm m i j) n i)) i v0, bI 60 5 v0 ((mI (fun j => op (gm m i j) (gv z (ak i j))) (fun j => gm m i j) n j).map aE)]) 0 (Nat.zero_le _)
   (zS rfl) (aU (fun _ _ _ h=>h) (aU (aP (by rw [← pJ])) aY)) (fun j hj=>?_)
  refine ts (ro rfl (gX (Ht rfl) (Ht rfl)) (eX (cK (dQ (Ht rfl) (fun hd=>?_) (fun hd=>?_)))))
  ·have hjn : j < n := by simp only [decide_eq_true_eq] at hd; omega
   have hrl:=mZ (fun j=>op (gm m i j) (gv z (ak i j))) (fun j=>gm m i j) n j
   have hak:=ha i j hin hjn
   haveI g1:aH (gm m i j) L:=hf.get hL i j
   haveI g2:aH (gv z (ak i j)) M:=hfz.get hM _
   have hzn:=oL hp (show ak i j < z.length by omega)
   refine cU (cK (eG (ts (rm rfl (ra rfl (eX (cK (Y.D_start (m:=30) [] (bY (Ei:=[(3,_)]) rfl rfl (bQ (bJ rfl rfl) bX) rfl rfl (dX rfl (cX (Ht rfl))) (bY (Ei:=[(10,_)]) rfl rfl (bQ (bJ rfl rfl) bX) rfl rfl (dX rfl (cX (Ht rfl))) (bY (Ei:=[(11,_)]) rfl rfl (bQ (bJ rfl rfl) bX) rfl rfl (dX rfl (cX (Ht rfl))) (bY (Ei:=[(34,_),(35,_)]) rfl rfl (bQ (bZ 1 rfl rfl) (bQ (bZ 2 rfl rfl) bX)) rfl rfl (dX rfl (fY U_26 Z_25 (Ht rfl) (Ht rfl) rfl zo (by rw [Nat.mul_one,Nat.zero_add]))) ?_))))))))))))
   refine bY (Ei:=[(36,_)]) rfl rfl (bQ (bZ 3 rfl rfl) bX) rfl rfl (dX rfl (lI A_25 Z_25 (Ht rfl) (j:=0) rfl)) (bY (Ei:=[(12,_)]) rfl rfl (bQ (bJ rfl rfl) bX) rfl rfl (dX rfl (cX (Ht rfl))) (bY (Ei:=[(37,_),(38,_)]) rfl rfl (bQ (bZ 4 rfl rfl) (bQ (bZ 5 rfl rfl) bX)) rfl rfl (dX rfl (dA U_25 Z_60 (Ht rfl) (Ht rfl) rfl (i:=1) rfl (by rw [List.length_map,hrl]; exact hjn) rfl)) ?_))
   refine bY (Ei:=[(39,_)]) rfl rfl (bQ (bZ 6 rfl rfl) bX) rfl rfl (dX rfl (oN A_60 Z_60 (Ht rfl) (i:=1) rfl rfl (dY (tC hjn)))) (bY (Ei:=[(10,_)]) rfl rfl (bQ (bJ rfl rfl) bX) rfl rfl (dX rfl (cX (Ht rfl))) (bY (Ei:=[(11,_)]) rfl rfl (bQ (bJ rfl rfl) bX) rfl rfl (dX rfl (cX (Ht rfl))) (bY (Ei:=[(41,_),(42,_)]) rfl rfl (bQ (bZ 8 rfl rfl) (bQ (bZ 9 rfl rfl) bX)) rfl rfl (dX rfl (fY U_26 Z_25 (Ht rfl) (Ht rfl) rfl zo (by rw [Nat.mul_one,Nat.zero_add]))) ?_)))
   refine bY (Ei:=[(43,_)]) rfl rfl (bQ (bZ 10 rfl rfl) bX) rfl rfl (dX rfl (lI A_25 Z_25 (Ht rfl) (j:=0) rfl)) (bY (Ei:=[(12,_)]) rfl rfl (bQ (bJ rfl rfl) bX) rfl rfl (dX rfl (cX (Ht rfl))) (bY (Ei:=[(44,_),(45,_)]) rfl rfl (bQ (bZ 11 rfl rfl) (bQ (bZ 12 rfl rfl) bX)) rfl rfl (dX rfl (dA U_25 Z_60 (Ht rfl) (Ht rfl) rfl (i:=1) rfl (by rw [List.length_map,hrl]; exact hjn) rfl)) ?_))
   refine bY (Ei:=[(46,_)]) rfl rfl (bQ (bZ 13 rfl rfl) bX) rfl rfl (dX rfl (oN A_60 Z_60 (Ht rfl) (i:=1) rfl rfl (dY (tC hjn)))) (bY (Ei:=[(47,_)]) rfl rfl (bQ (bZ 14 rfl rfl) bX) rfl rfl (dX rfl (bE bP (Ht rfl))) (bY (Ei:=[(1,_)]) rfl rfl (bQ (bJ rfl rfl) bX) rfl rfl (dX rfl (cX (Ht rfl))) (bY (Ei:=[(2,_)]) rfl rfl (bQ (bJ rfl rfl) bX) rfl rfl (dX rfl (cX (Ht rfl))) (bY (Ei:=[(11,_)]) rfl rfl (bQ (bJ rfl rfl) bX) rfl rfl (dX rfl (cX (Ht rfl))) ?_))))
   refine bY (Ei:=[(12,_)]) rfl rfl (bQ (bJ rfl rfl) bX) rfl rfl (dX rfl (cX (Ht rfl))) (bY (Ei:=[(50,_),(51,_),(52,_)]) rfl rfl (bQ (bZ 17 rfl rfl) (bQ (bZ 18 rfl rfl) (bQ (bZ 19 rfl rfl) bX))) rfl rfl (dX rfl (nC (i,j) (Ht rfl) ⟨(Ht rfl),(Ht rfl),trivial⟩)) (bY (Ei:=[(49,_),(53,_)]) rfl rfl (bQ (bZ 16 rfl rfl) (bQ (bZ 20 rfl rfl) bX)) rfl rfl (dX rfl (dZ U_25 Z_60 (Ht rfl) (Ht rfl) rfl (dY (dU (d:=Qi.zero) (show ak i j < z.length by omega))))) ?_))
   refine bY (Ei:=[(54,_)]) rfl rfl (bQ (bZ 21 rfl rfl) bX) rfl rfl (dX rfl (dJ A_60 Z_60 (Ht rfl))) (bY (Ei:=[(48,_),(55,_)]) rfl rfl (bQ (bZ 15 rfl rfl) (bQ (bZ 22 rfl rfl) bX)) rfl rfl (dX rfl (aR nL K_304 a6I (Ht rfl) ⟨(Ht rfl),trivial⟩)) (bY (Ei:=[(33,_),(40,_),(56,_)]) rfl rfl (bQ (bZ 0 rfl rfl) (bQ (bZ 7 rfl rfl) (bQ (bZ 23 rfl rfl) bX))) rfl rfl (dX rfl (nC ⟨(gm m i j,gv z (ak i j)),g1,g2,hzn⟩ (Ht rfl) ⟨(Ht rfl),(Ht rfl),trivial⟩)) ?_))
   refine bY (Ei:=[(57,_)]) rfl rfl (bQ (bZ 24 rfl rfl) bX) rfl rfl (dX rfl (cX (Ht rfl))) (bY (Ei:=[(32,_)]) rfl rfl (bQ (bZ 25 rfl rfl) bX) rfl rfl (dX rfl (dK (Ht rfl) rfl)) (bY (Ei:=[(32,_)]) rfl rfl (bQ (bZ 25 rfl rfl) bX) rfl rfl (dX rfl (dK (Ht rfl) rfl)) (Y.D_newp (Ei:=[]) (fun bb=>box bb 60 [aI (decide ((op (gm m i j) (gv z (ak i j))).a < 0)),aS (op (gm m i j) (gv z (ak i j))).a.natAbs,aI (decide ((op (gm m i j) (gv z (ak i j))).b < 0)),aS (op (gm m i j) (gv z (ak i j))).b.natAbs,aS (du (op (gm m i j) (gv z (ak i j))))]) 29 rfl rfl rfl bX rfl rfl (by kernel_rfl) (eW (Ts:=[Is (.bool false),Is (.slice none 0 0),Is (.bool false),Is (.slice none 0 0),Is (.slice none 0 0)]) O_60 rfl (fun V=>aW zd (aW zd (aW zd (aW zd (aW zd (aG))))))) ?_)))
   refine Y.D_putN (Ei:=[(58,_)]) 28 rfl rfl rfl rfl rfl rfl (bQ (bZ 26 rfl rfl) bX) (fun bb=>mK Z_60 (Ht rfl) (Ht rfl) rfl (i:=0) rfl (aK rfl) rfl rfl) (Y.D_done bB rfl (by kernel_rfl) rfl (by simp [Y.okP]) rfl rfl (bU (bU (bU (bU (bU (bU (bU (bU (bU (bU (bU (bU (bU (bU (bU (bU (bU (bU (bU (bU (bU (bU (bU (bU (bU (bU (bU (bU (Y.F_newp (fun B13=>Y.F_putN (Y.F_nil ?_))))))))))))))))))))))))))))))))
   refine ra rfl (eX (cK (ts (rm rfl (ro rfl (fM (Ht rfl) cV) (eX (kP (Ht rfl) (by rfl) ?_)))))))
   refine cU (fZ (m:=6) (dp 10 rfl (cX (Ht rfl)) (dp 11 rfl (cX (Ht rfl)) (dH 62 0 63 1 rfl (fY U_26 Z_25 (Ht rfl) (Ht rfl) rfl zo (by rw [Nat.mul_one,Nat.zero_add])) ?_))))
   refine dq 64 2 rfl (lI A_25 Z_25 (Ht rfl) (j:=0) rfl) (dp 12 rfl (cX (Ht rfl)) (dp 13 rfl (eJ A_60 Z_60 (Ht rfl) (i:=2) rfl rfl rfl) (fV bB rfl (by kernel_rfl) (zF (aJ (aJ (aV (ro rfl (dA U_25 Z_60 (Ht rfl) (Ht rfl) rfl (i:=1) rfl (by rw [List.length_map,hrl]; exact hjn) rfl) ?_))))))))
   refine lZ Z_60 (Ht rfl) (Ht rfl) (El.ag rfl) (i:=1) rfl rfl (by rw [List.length_map,hrl]; exact hjn) rfl ?_
   refine eX (bN (cY (ro rfl (dV (Ht rfl) (cJ 1) z6) (rm rfl (eX (cM [0,1] rfl (by decide) (fU (j + 1) hjn zo (zS rfl) (aU (fun _ _ _ h=>h) (aU (aP (show (List.map aE (mI (fun j=>op (gm m i j) (gv z (ak i j))) (fun j=>gm m i j) n j)).set j (aE (op (gm m i j) (gv z (ak i j)))) = List.map aE (mI (fun j=>op (gm m i j) (gv z (ak i j))) (fun j=>gm m i j) n (j + 1)) from by rw [gI]; exact congrArg _ (rD (f:=(fun j=>op (gm m i j) (gv z (ak i j))))))) aY)))))))))
  ·have hjn : j = n := by simp only [decide_eq_false_iff_not] at hd; omega
   rw [hjn,rC]
   refine gV rfl (bN (kU 0 1 rfl rfl (by decide) (by simp only [cO,List.length_map,mZ]; omega) ?_))
   refine cY (ro rfl (dV (Ht rfl) (cJ 1) z6) (rm rfl (eX (cM [0] rfl (by decide) (fU (i + 1) hin zo (zS rfl) (aU (eB (by rw [lK]; exact congrArg _ (rD (f:=(fun i=>tab n fun j=>op (gm m i j) (gv z (ak i j))))))) aY))))))
 ·have hin : i = n := by simp only [decide_eq_false_iff_not] at hc; omega
  rw [hin,rC]
  refine gV rfl (gJ (i:=0) (tt:=10) rfl rfl (qY (s:=5) (M:=tab n fun i=>tab n fun j=>op (gm m i j) (gv z (ak i j))) (aF _ _).symm) (ts (rm rfl (ra rfl (ro rfl (cQ (cJ 0)) (eX ?_))))))
  exact bL rfl (eU rfl) (eU rfl)
theorem Se {z:List Qi} {m:List (List Qi)} {L:Nat} (hf:bA m L) (hfz:bH z L) (hL:1 ≤ L) (hLb:L ≤ 1000) (hzl:z.length ≤ 1000) (hml:m.length ≤ 1000) (hg:6 * jQ (4 * L + 6) z.length + 4 ≤ 17592186044415) (hx:uG (jQ (4 * L + 6) z.length) (z.length + 1) ≤ 900000000000):bF Tryz.prog 116 [aN z,cH m] (eD [dC (frZ z m (Gs z m)) (frS z m (Gs z m) (kL (-1) 1 (Gs z m) z.length)),aL .i64 (frE z m (Gs z m))]):=by
 refine bF.intro Tryz.func116 rfl Tryz.ntmps116 rfl (fun cx=>(ts (rn rfl (eW (Ts:=[Is (.slice none 0 0),Is (.slice none 0 0)]) O_28 rfl (fun V=>aW zd (aW zd (aG)))) fun B4=>(ro rfl (cQ (cJ 0)) (eX (ts (rm rfl (rm rfl (ro rfl (cZ Tryz.call93 (Ji (z:=z) (s:=m) (L:=L) hfz zo hzl hml) ⟨(Ht rfl),(Ht rfl),trivial⟩) (rm rfl (ro rfl (dK (Ht rfl) rfl) (ro rfl (dK (Ht rfl) rfl) (rn rfl (eW (Ts:=[Is (.slice none 0 0),Is (.slice none 0 0)]) O_28 rfl (fun V=>aW zd (aW zd (aG)))) fun B6=>?_)))))))))))))
 refine gQ Z_28 (Ht rfl) (Ht rfl) rfl (i:=1) rfl (aK rfl) rfl rfl (ra rfl (eX (cK (ts (rm rfl (ro rfl (fM (Ht rfl) cV) (eX (dQ (Ht rfl) (fun he=>?_) (fun he=>?_)))))))))
 ·have hn : fD z m ≠ 0 := by simpa using he
  have hfr:=a4q (q:=Gs z m) hn
  refine ts (ro rfl (aM.imp (jF ) jM) (rm rfl (gQ Z_28 (Ht rfl) (Ht rfl) rfl (i:=0) rfl (aK rfl) rfl rfl (ra rfl (eX (bL rfl (fX (fK A_28 Z_28 rfl (i:=0) rfl rfl) ?_) (fX (eU rfl) ?_)))))))
  ·exact (fun v V h=>by rw [frZ,frS,iC,iC,hfr,if_neg hn,if_neg hn]; exact h)
  ·exact (aT hfr.symm)
 ·have hn : fD z m = 0 := by simpa using he
  have hfr:=a3A (q:=Gs z m) hn
  obtain ⟨h1,h8,hs,hp2⟩:=yL hn
  have hqs:cB (Gs z m) z.length z.length:=cB.tab
  have hqf:bA (Gs z m) (4 * L + 2):=((Pw hfz hf hL hL hp2)).le zo
  have hok:iC (fD z m) z = z:=by rw [hn]; rfl
  have hokm:iC (fD z m) m = m:=by rw [hn]; rfl
  have hid:=mY z.length
  have hif:bA (qP z.length) 1:=Ac (Nat.le_refl 1)
  rw [hok,hokm]
  refine cU (ts (ro rfl (eZ cT (Ht rfl) rfl) (ro rfl (eY A_26 Z_26 (Ht rfl) (i:=1) rfl rfl) (ro rfl (eZ dS (Ht rfl) rfl) (ro rfl (eY A_25 Z_25 (Ht rfl) (i:=1) rfl rfl) (ro rfl (cZ Tryz.call213 (Jj (m:=m) (z:=z) (n:=z.length) (L:=L) (M:=L) (ak:=fun i j=>j) (op:=fun x y=>x / y) hs rfl hf hfz hp2 hL hL zo (fun i j hi hj=>hj)) ⟨(Ht rfl),(Ht rfl),(bC.fn Tryz.call214 (γ:=Nat × Nat) (Ts:=fun x=>[NT .i64 x.1,NT .i64 x.2]) (U:=fun x=>NT .i64 x.2) (fun x=>Wh)),(bC.fn Tryz.call217 (γ:={p:Qi × Qi // aH p.1 L ∧ aH p.2 L ∧ p.2 ≠ 0}) (Ts:=fun p=>[aE p.1.1,aE p.1.2]) (U:=fun p=>eD [aE (p.1.1 / p.1.2),aL .i64 0]) (fun p=>haveI:=p.2.1; haveI:=p.2.2.1; (eQ (Sj (x:=p.1.1) (y:=p.1.2) zo) (by rw [if_neg (show ¬ p.1.2 = Qi.zero from p.2.2.2)]; exact fun _ _ h=>h)))),trivial⟩) ?_))))))
  refine rm rfl (ro rfl (dK (Ht rfl) rfl) (ro rfl (dK (Ht rfl) rfl) (ra rfl (ra rfl (eX (cK (ts (rm rfl (ro rfl (fM (Ht rfl) cV) (eX (kP (Ht rfl) (by rfl) ?_)))))))))))
  refine cU (ts (rm rfl (ro rfl (dG U_25 (Ht rfl) aC) (ro rfl (cZ Tryz.call144 (a3Z (n:=z.length) zo) ⟨(Ht rfl),trivial⟩) (ra rfl (eX (ts (rm rfl (rm rfl (ro rfl (cZ Tryz.call212 (eQ (Pk (m:=false) (n:=z.length) (L:=4 * L + 2) (M:=1) hqs hid hqf hif zo (Nat.le_refl 1) zo zo) (by rw [a04]; exact fun _ _ h=>h)) ⟨(Ht rfl),(Ht rfl),cV,trivial⟩) ?_))))))))))
  refine rm rfl (rm rfl (ro rfl (cZ Tryz.call212 (eQ (Pk (m:=true) (n:=z.length) (L:=4 * L + 2) (M:=1) hqs hid hqf hif zo (Nat.le_refl 1) zo zo) (by rw [Ua]; exact fun _ _ h=>h)) ⟨(Ht rfl),(Ht rfl),cV,trivial⟩) ?_))
  refine ro rfl (cZ Tryz.call218 (Mp (M:=(kL 1 1 (Gs z m) z.length)) (Y:=(kL (-1) 1 (Gs z m) z.length)) (n:=z.length) (L:=4 * L + 6) (K:=4 * L + 6) (qK _ _ _ _) (qK _ _ _ _) (Aj hqf zo Xu yF) (Aj hqf zo yF yF) zo zo zo h1 h8 hg hx) ⟨(Ht rfl),(Ht rfl),trivial⟩) (rm rfl (ro rfl (dK (Ht rfl) rfl) (ro rfl (dK (Ht rfl) rfl) (ro rfl (eZ cT (Ht rfl) rfl) (oK Z_26 (Ht rfl) (Ht rfl) (i:=1) rfl (aK rfl) rfl (ra rfl (eX (cK (ts (rm rfl ?_))))))))))
  refine ro rfl (fM (Ht rfl) cV) (eX (dQ (Ht rfl) (fun hf2=>?_) (fun hf2=>?_)))
  ·have ho : Fj (kL 1 1 (Gs z m) z.length) z.length ≠ 0 := by simpa using hf2
   refine ts (ro rfl (aM.imp (jF ) jM) (rm rfl (gQ Z_28 (Ht rfl) (Ht rfl) rfl (i:=0) rfl (aK rfl) rfl rfl (ra rfl (eX (bL rfl (fX (fK A_28 Z_28 rfl (i:=0) rfl rfl) ?_) (fX (eU rfl) ?_)))))))
   ·exact (fun v V h=>by rw [frZ,frS,iC,iC,hfr,if_neg ho,if_neg ho]; exact h)
   ·exact (aT hfr.symm)
  ·have ho : Fj (kL 1 1 (Gs z m) z.length) z.length = 0 := by simpa using hf2
   refine cU (ts (ro rfl (eJ A_28 Z_28 (Ht rfl) (i:=1) rfl rfl rfl) (gQ Z_28 (Ht rfl) (Ht rfl) rfl (i:=0) rfl (aK rfl) rfl rfl (ro rfl (cQ (cJ 0)) (eX (bL rfl (fX (fK A_28 Z_28 rfl (i:=0) rfl rfl) ?_) (fX (eU rfl) ?_)))))))
   ·exact (fun v V h=>by rw [frZ,frS,iC,iC,hfr,if_pos ho,if_pos ho]; rw [unX,iC,if_pos ho] at h; exact h)
   ·exact (aT (hfr.trans ho).symm)
end
section
open Go Go.RowKit
theorem a6C:Tryz.prog.underlying 3 = some (.int .i64):=by kernel_rfl
end
section
open Go Go.RowKit
theorem a1c {m:Nat} (hm:m ≤ 1000):iV Tryz.prog 219 [Is (.slice none 0 0),NT .i64 m] [] (Value) (fun v=>Is v) (fun v=>[bI 60 5 v []]) (fun _=>True):=by
 refine iV.intro Tryz.func219 rfl Tryz.ntmps219 rfl (fun cx Z=>(ts (ro rfl (cQ cV) (eX (cK (ts (rm rfl (ro rfl (gX (Ht rfl) (cJ 0)) (eX (kP (Ht rfl) (by simp) ?_))))))))))
 refine cU (cK (ts (rm rfl (rm rfl (ro rfl (Qt U_25 (Ht rfl)) (rm rfl (ro rfl (jB U_25 (Ht rfl)) (ro rfl (dW (Ht rfl) (Ht rfl) zo z6) (ro rfl (dW (Ht rfl) (Ht rfl) zo z6) (ra rfl (eX (ts (rm rfl (ro rfl (jV (Ht rfl) (cJ 0)) (eX (dQ (Ht rfl) (fun hb=>?_) (fun hb=>?_)))))))))))))))))
 ·have h0 : 0 < m := by simp only [decide_eq_true_eq] at hb; omega
  refine cY (rm rfl (rm rfl (ro rfl (Qt U_25 (Ht rfl)) (ro rfl (Fh U_25 Z_60 (Ht rfl) (Ht rfl) (Nat.le_refl _)) (rm rfl (rn rfl (Tt (i:=Tryz.t60) jS a6C gU rfl rfl rfl (by decide) (Ht rfl) (Ht rfl) zo (by show _ * 88 ≤ _; omega) zo) fun q22=>(rm rfl (ro rfl (jB U_25 (Ht rfl)) (ro rfl (Fh U_25 Z_60 (Ht rfl) (Ht rfl) (Nat.zero_le _)) (ra rfl (eX (ts (rm rfl (ra rfl (eX ?_)))))))))))))))
  exact kW _ trivial [0,1] ⟨⟨_,rfl,fun _ _ _ h=>h⟩,⟨_,rfl,fun _ _ _ h=>h⟩,trivial⟩ (by decide) (xP rfl (eU rfl))
 ·obtain rfl : m = 0 := by simp only [decide_eq_false_iff_not] at hb; omega
  refine uL 60 5 (cU (ts (rm rfl (ra rfl (eX ?_)))))
  exact kW _ trivial [0,1] ⟨⟨_,rfl,fun _ _ _ h=>h⟩,⟨_,rfl,fun _ _ _ h=>h⟩,trivial⟩ (by decide) (xP rfl (eU rfl))
abbrev cat (ls:List (List Qi)) (i:Nat):List Qi:=(ls.take i).flatten
theorem Jm {ls:List (List Qi)} {i:Nat} (h:i < ls.length):cat ls (i + 1) = cat ls i ++ ls.getD i []:=by
 simp only [cat]
 rw [List.take_succ_eq_append_getElem h,List.flatten_append]
 simp [List.getD,h]
theorem Pl (ls:List (List Qi)):cat ls ls.length = ls.flatten:=by rw [cat,List.take_length]
theorem Wm {ls:List (List Qi)} {i:Nat} (h:i ≤ ls.length):(cat ls i).length ≤ ls.flatten.length:=by
 have e:ls.flatten = (ls.take i).flatten ++ (ls.drop i).flatten:=by rw [← List.flatten_append,List.take_append_drop]
 show (ls.take i).flatten.length ≤ _
 rw [e,List.length_append]; omega
theorem Vw {ls:List (List Qi)} (hl:ls.length ≤ 1000) (hf:ls.flatten.length ≤ 1000):bF Tryz.prog 119 [kM 1 (ls.map aN)] (aN ls.flatten):=by
 refine bF.intro Tryz.func119 rfl Tryz.ntmps119 rfl (fun cx=>(ts (ro rfl (cQ cV) (eX (ts (ro rfl (cQ (cJ 0)) (eX (cK (ts (rm rfl (ro rfl (dG U_26 (Ht rfl) aC) (ro rfl (cX (cJ 0)) (eX (eG ?_))))))))))))))
 refine cI (fun (i : Nat) => i ≤ ls.length) (fun (i : Nat) => ls.length - i) (fun (i : Nat) => [(0, kM 1 (ls.map aN)), (3, NT .i64 (cat ls i).length), (9, kM 1 (ls.map aN)), (10, NT .i64 ls.length), (11, NT .i64 i)]) (fun (i : Nat) => []) 0 (Nat.zero_le _)
  (zS rfl) aY (fun i hi=>?_)
 refine ts (ro rfl (gX (Ht rfl) (Ht rfl)) (eX (cK (dQ (Ht rfl) (fun hd=>?_) (fun hd=>?_)))))
 ·have hin : i < ls.length := by simp only [decide_eq_true_eq] at hd; omega
  have hcn:=Jm hin
  have hcl:=Wm (ls:=ls) (i:=i + 1) hin
  rw [hcn,List.length_append] at hcl
  refine cU (cK (eG (ts (ro rfl (dZ U_26 Z_25 (Ht rfl) (Ht rfl) rfl (dY (dU (d:=[]) zo))) (ro rfl (dJ A_25 Z_25 (Ht rfl)) (ra rfl (eX (ts (rm rfl (rm rfl (ro rfl (dG U_25 (Ht rfl) aC) (ro rfl (dV (Ht rfl) (Ht rfl) (by show _ < 9223372036854775808; omega)) (ra rfl (eX (ts (rm rfl (ro rfl (gX (Ht rfl) (cJ 0)) (eX (kP (Ht rfl) (by simp) ?_)))))))))))))))))))
  refine cU (bN (cY (ro rfl (dV (Ht rfl) (cJ 1) z6) (rm rfl (eX (fU (i + 1) hin zo (aQ rfl (aZ rfl (nB (by rw [hcn,List.length_append])) (zS rfl))) aY))))))
 ·have hin : i = ls.length := by simp only [decide_eq_false_iff_not] at hd; omega
  rw [hin,Pl]
  refine gV rfl (ts (rm rfl (mW Tryz.call219 (a1c (m:=ls.flatten.length) hf) ⟨cV,(Ht rfl),trivial⟩ rfl (fun v24 _=>(ra rfl (eX (cK (ts (rm rfl (ro rfl (dG U_26 (Ht rfl) aC) (ro rfl (cX (cJ 0)) (eX (eG ?_)))))))))))))
  refine jE (fun (j : Nat) (v : Value) => j ≤ ls.length) (fun (j : Nat) (v : Value) => ls.length - j) (fun (j : Nat) (v : Value) => [(0, kM 1 (ls.map aN)), (6, Is v), (25, kM 1 (ls.map aN)), (26, NT .i64 ls.length), (27, NT .i64 j)]) (fun (j : Nat) (v : Value) => [bI 60 5 v ((cat ls j).map aE)]) 0 _ (Nat.zero_le _)
   (zS rfl) (aU (aP rfl) aY) (fun j v hj=>?_)
  refine ts (ro rfl (gX (Ht rfl) (Ht rfl)) (eX (cK (dQ (Ht rfl) (fun he=>?_) (fun he=>?_)))))
  ·have hjn : j < ls.length := by simp only [decide_eq_true_eq] at he; omega
   have hcn:=Jm hjn
   have hcl:=Wm (ls:=ls) (i:=j + 1) hjn
   rw [hcn,List.length_append] at hcl
   refine cU (cK (eG (ts (ro rfl (dZ U_26 Z_25 (Ht rfl) (Ht rfl) rfl (dY (dU (d:=[]) zo))) (ro rfl (dJ A_25 Z_25 (Ht rfl)) (ra rfl (eX (cY (rm rfl (rm rfl (Ed (inf:=Tryz.t60) jS gU rfl rfl rfl (Ht rfl) (Ht rfl) (i:=0) rfl (fun T hT=>by obtain ⟨x,_,rfl⟩:=List.mem_map.1 hT; exact El.ag rfl) (by show _ * 88 ≤ _; simp only [List.length_map]; omega) (by simp only [List.length_map]; omega) rfl (fun v2=>?_))))))))))))
   refine ra rfl (eX (bN (cY (ro rfl (dV (Ht rfl) (cJ 1) z6) (rm rfl (eX (fU (j + 1,v2) hjn (by dsimp only; omega) (zS rfl) (aU (aP (by rw [hcn,List.map_append])) aY))))))))
  ·have hjn : j = ls.length := by simp only [decide_eq_false_iff_not] at he; omega
   rw [hjn,Pl]
   refine gV rfl (gJ (i:=0) (tt:=6) rfl rfl gE (ts (rm rfl (ra rfl (eX ?_)))))
   exact fW rfl (eU rfl)
theorem Wf {z zb:List Qi} {a b:List (List Qi)} {x y i j:Nat} (ha:cB a x x) (hb:cB b y y) (hx:x ≤ 100) (hy:y ≤ 100) (hi:i < x + y) (hj:j < x + y):bF Tryz.prog 117 [NT .i64 i,NT .i64 j,PT (NT .i64 x),PT (dC z a),PT (dC zb b)] (aE (gm (rG a b x y) i j)):=by
 have hal:=ha.1
 have hbl:=hb.1
 rw [iQ hi hj]
 refine bF.intro Tryz.func117 rfl Tryz.ntmps117 rfl (fun cx=>(ts (rn rfl (eW (Ts:=[Is (.bool false),Is (.slice none 0 0),Is (.bool false),Is (.slice none 0 0),Is (.slice none 0 0)]) O_60 rfl (fun V=>aW zd (aW zd (aW zd (aW zd (aW zd (aG))))))) fun B7=>(eX (cK (eG (ts (rm rfl (ro rfl (dJ A_3 Z_3 (Ht rfl)) (ro rfl (gX (Ht rfl) (Ht rfl)) (rm rfl (fQ rfl rfl (eK rfl rfl (Ht rfl) (fun h=>cX (Ht rfl))) ?_))))))))))))
 refine fQ rfl rfl (eK rfl rfl (Ht rfl) (fun h=>dJ A_3 Z_3 (Ht rfl))) (fQ rfl rfl (eK rfl rfl (Ht rfl) (fun h=>gX (fJ rfl h) (fJ rfl h))) (ro rfl (gS (Ht rfl) (fun h=>(fJ rfl h))) (ra rfl (eX (dQ (Ht rfl) (fun h1=>?_) (fun h1=>?_))))))
 ·have h2 : i < x ∧ j < x := by simpa using h1
  have har:=ha.row h2.1
  refine ts (ro rfl (gO cT (Ht rfl) rfl) (ro rfl (dJ A_26 Z_26 (Ht rfl)) (rm rfl (ro rfl (dZ U_26 Z_25 (Ht rfl) (Ht rfl) rfl (dY (dU (d:=[]) zo))) (ro rfl (dJ A_25 Z_25 (Ht rfl)) (rm rfl (ro rfl (dZ U_25 Z_60 (Ht rfl) (Ht rfl) rfl (dY (dU (d:=Qi.zero) zo))) (ro rfl (dJ A_60 Z_60 (Ht rfl)) (gQ Z_60 (Ht rfl) (Ht rfl) rfl (i:=0) rfl (aK rfl) rfl rfl (eX (fW rfl (fX (fK A_60 Z_60 rfl (i:=0) rfl rfl) ?_))))))))))))
  exact (iZ (by rw [if_pos h2.1,if_pos h2.2]))
 ·have h2 : ¬ (i < x ∧ j < x) := by simpa using h1
  refine ts (rm rfl (ro rfl (dJ A_3 Z_3 (Ht rfl)) (ro rfl (rZ (Ht rfl) (Ht rfl)) (rm rfl (fQ rfl rfl (eK rfl rfl (Ht rfl) (fun h=>cX (Ht rfl))) (fQ rfl rfl (eK rfl rfl (Ht rfl) (fun h=>dJ A_3 Z_3 (Ht rfl))) (fQ rfl rfl (eK rfl rfl (Ht rfl) (fun h=>rZ (fJ rfl h) (fJ rfl h))) (ro rfl (gS (Ht rfl) (fun h=>(fJ rfl h))) (ra rfl (eX (dQ (Ht rfl) (fun h3=>?_) (fun h3=>?_))))))))))))
  ·have h4 : x ≤ i ∧ x ≤ j := by simpa using h3
   have hbr:=hb.row (i:=i - x) zo
   refine cK (fZ (m:=10) (dp 4 rfl (gO cT (Ht rfl) rfl) (dq 34 0 rfl (dJ A_26 Z_26 (Ht rfl)) (dp 0 rfl (cX (Ht rfl)) (dp 2 rfl (dJ A_3 Z_3 (Ht rfl)) (dH 36 2 37 3 rfl (dW (Ht rfl) (Ht rfl) zo z6) (dH 35 1 38 4 rfl (dZ U_26 Z_25 (Ht rfl) (Ht rfl) rfl (dY (dU (d:=[]) zo))) (dq 39 5 rfl (dJ A_25 Z_25 (Ht rfl)) (dp 1 rfl (cX (Ht rfl)) (dp 2 rfl (dJ A_3 Z_3 (Ht rfl)) ?_))))))))))
   refine dH 41 7 42 8 rfl (dW (Ht rfl) (Ht rfl) zo z6) (fV bB rfl (by kernel_rfl) (zF (zF (aJ (aJ (aV (ro rfl (dZ U_25 Z_60 (Ht rfl) (Ht rfl) rfl (dY (dU (d:=Qi.zero) zo))) (ro rfl (dJ A_60 Z_60 (Ht rfl)) (gQ Z_60 (Ht rfl) (Ht rfl) rfl (i:=0) rfl (aK rfl) rfl rfl (eX (fW rfl (fX (fK A_60 Z_60 rfl (i:=0) rfl rfl) ?_))))))))))))
   exact (iZ (by rw [if_neg zo,if_pos h4.2]))
  ·have h4 : ¬ (x ≤ i ∧ x ≤ j) := by simpa using h3
   have h5 : Qi.ofInt (0 : Nat) = (if i < x then if j < x then gm a i j else Qi.zero else if x ≤ j then gm b (i - x) (j - x) else Qi.zero) := by
    by_cases e:i < x
    ·rw [if_pos e,if_neg zo]; rfl
    ·rw [if_neg e,if_neg zo]; rfl
   refine cU (bN (ts (ro rfl (cZ K_118 (rQ (n:=0) (by decide) (by decide)) ⟨(cJ 0),trivial⟩) (gQ Z_60 (Ht rfl) (Ht rfl) rfl (i:=0) rfl (aK rfl) rfl rfl (eX (fW rfl (fX (fK A_60 Z_60 rfl (i:=0) rfl rfl) ?_)))))))
   exact (iZ h5)
theorem a1h {z zb:List Qi} {a b:List (List Qi)} (ha:cB a z.length z.length) (hb:cB b zb.length zb.length) (hx:z.length ≤ 100) (hy:zb.length ≤ 100):bF Tryz.prog 29 [dC z a,dC zb b] (eD [dC (a3d z zb) (a3c z zb a b),aL .i64 (a0G z.length zb.length)]):=by
 refine bF.intro Tryz.func29 rfl Tryz.ntmps29 rfl (fun cx=>(ts (rn rfl (fG (Ht rfl)) fun B2=>(rn rfl (fG (Ht rfl)) fun B3=>(rn rfl (eW (Ts:=[Is (.slice none 0 0),Is (.slice none 0 0)]) O_28 rfl (fun V=>aW zd (aW zd (aG)))) fun B4=>(ro rfl (cQ (cJ 0)) (eX (cK (Y.D_start (m:=12) [] (bY (Ei:=[(2,_)]) rfl rfl (bQ (bJ rfl rfl) bX) rfl rfl (dX rfl (eZ dS (Ht rfl) rfl)) (bY (Ei:=[(9,_)]) rfl rfl (bQ (bZ 0 rfl rfl) bX) rfl rfl (dX rfl (eY A_25 Z_25 (Ht rfl) (i:=0) rfl rfl)) ?_)))))))))))
 refine bY (Ei:=[(10,_)]) rfl rfl (bQ (bZ 1 rfl rfl) bX) rfl rfl (dX rfl (dG U_25 (Ht rfl) aC)) (bY (Ei:=[(2,_)]) rfl rfl (bQ (bJ rfl rfl) bX) rfl rfl (dX rfl (eZ dS (Ht rfl) rfl)) (bY (Ei:=[(12,_)]) rfl rfl (bQ (bZ 3 rfl rfl) bX) rfl rfl (dX rfl (eY A_25 Z_25 (Ht rfl) (i:=0) rfl rfl)) (bY (Ei:=[(13,_)]) rfl rfl (bQ (bZ 4 rfl rfl) bX) rfl rfl (dX rfl (dG U_25 (Ht rfl) aC)) ?_)))
 refine bY (Ei:=[(3,_)]) rfl rfl (bQ (bJ rfl rfl) bX) rfl rfl (dX rfl (eZ dS (Ht rfl) rfl)) (bY (Ei:=[(15,_)]) rfl rfl (bQ (bZ 6 rfl rfl) bX) rfl rfl (dX rfl (eY A_25 Z_25 (Ht rfl) (i:=1) rfl rfl)) (bY (Ei:=[(16,_)]) rfl rfl (bQ (bZ 7 rfl rfl) bX) rfl rfl (dX rfl (dG U_25 (Ht rfl) aC)) (bY (Ei:=[(14,_),(17,_)]) rfl rfl (bQ (bZ 5 rfl rfl) (bQ (bZ 8 rfl rfl) bX)) rfl rfl (dX rfl (dV (Ht rfl) (Ht rfl) z6)) ?_)))
 refine Y.D_newp (Ei:=[]) (fun bb=>box bb 3 [NT .i64 z.length]) 11 rfl rfl rfl bX rfl rfl (by kernel_rfl) (eW (Ts:=[Is (.int .i64 0)]) O_3 rfl (fun V=>aW zd (aG))) (Y.D_putN (Ei:=[(11,_)]) 10 rfl rfl rfl rfl rfl rfl (bQ (bZ 2 rfl rfl) bX) (fun bb=>Eb Z_3 (Ht rfl) (Ht rfl) (i:=0) rfl (aK rfl) rfl rfl) (Y.D_done bB rfl (by kernel_rfl) rfl (by simp [Y.okP]) rfl rfl (bU (bU (bU (bU (bU (bU (bU (bU (bU (bU (Y.F_newp (fun B6=>Y.F_putN (Y.F_nil ?_)))))))))))))))
 refine ra rfl (eX (cK (ts (rm rfl (ro rfl (jV (Ht rfl) (cJ 8)) (eX (dQ (Ht rfl) (fun hb1=>?_) (fun hb1=>?_))))))))
 ·have h2 : 8 < z.length + zb.length := by simpa using hb1
  have he:=a3e h2
  refine ts (ro rfl (aM.imp (jF ) jM) (gQ Z_28 (Ht rfl) (Ht rfl) rfl (i:=2) rfl (aK rfl) rfl rfl (ro rfl (cQ (cJ 4)) (eX (bL rfl (fX (fK A_28 Z_28 rfl (i:=2) rfl rfl) ?_) (fX (eU rfl) ?_))))))
  ·exact (fun v V h=>by rw [a3d,a3c,iC,iC,he]; exact h)
  ·exact (aT he.symm)
 ·have h2 : ¬ 8 < z.length + zb.length := by simpa using hb1
  have he:=a0H h2
  refine cU (cK (gJ (i:=0) (tt:=2) rfl rfl jJ (gJ (i:=1) (tt:=3) rfl rfl jJ (gJ (i:=3) (tt:=6) rfl rfl gY (cY (rm rfl (ro rfl (lR (γ:=Fin (z.length + zb.length) × Fin (z.length + zb.length)) (Ts:=fun x=>[NT .i64 x.1.1,NT .i64 x.2.1]) (U:=fun x=>aE (gm (rG a b z.length zb.length) x.1.1 x.2.1)) Tryz.call117 (fun x=>Wf ha hb hx hy x.1.2 x.2.2) ⟨(Ht rfl),(Ht rfl),(Ht rfl),trivial⟩) (ro rfl (cZ K_110 (eQ (uY (n:=z.length + zb.length) (f:=fun i j=>gm (rG a b z.length zb.length) i j) zo) (jC (congrArg _ (tX (oJ a b z.length zb.length)).symm))) ⟨(Ht rfl),(Ht rfl),trivial⟩) ?_))))))))
  refine ra rfl (eX (ts (ro rfl (gO dS (Ht rfl) rfl) (ro rfl (dJ A_25 Z_25 (Ht rfl)) (ro rfl (gO dS (Ht rfl) rfl) (ro rfl (dJ A_25 Z_25 (Ht rfl)) (ro rfl (eH (xs:=[.tmp 26,.tmp 28]) U_26 Z_25 O_25 (cW (Ht rfl) (cW (Ht rfl) cG)) rfl rfl rfl) (ro rfl (cZ Tryz.call119 (eQ (Vw (ls:=[z,zb]) (by simp) (by simp; omega)) (jC (Us:=(z ++ zb).map aE) (by simp))) ⟨(Ht rfl),trivial⟩) ?_))))))))
  refine rm rfl (ro rfl (pO (Ht rfl) (Ht rfl)) (gQ Z_28 (Ht rfl) (Ht rfl) rfl (i:=2) rfl (aK rfl) rfl rfl (ro rfl (cQ (cJ 0)) (eX (bL rfl (fX (fK A_28 Z_28 rfl (i:=2) rfl rfl) ?_) (fX (eU rfl) ?_))))))
  ·exact (fun v V h=>by rw [a3d,a3c,iC,iC,he]; exact h)
  ·exact (aT he.symm)
theorem a1l {z:List Qi} {s:List (List Qi)} {q:Int} {o:List Int} (hl:z.length ≤ 1000) (ho:o.length ≤ 1000):bF Tryz.prog 181 [dC z s,aL .i64 q,kM 1 (o.map (aL .i64))] (aL .i64 (eR z.length q o)):=by
 refine bF.intro Tryz.func181 rfl Tryz.ntmps181 rfl (fun cx=>(ts (rn rfl (fG (Ht rfl)) fun B3=>(ro rfl (cQ (cJ 0)) (eX (cK (eG (ts (ro rfl (eJ A_28 Z_28 (Ht rfl) (i:=0) rfl rfl rfl) (rm rfl (ro rfl (cZ Tryz.call138 Jh ⟨(Ht rfl),(Ht rfl),trivial⟩) (ro rfl (gG (Ht rfl)) (ra rfl (eX (dQ (Ht rfl) (fun hb1=>?_) (fun hb1=>?_))))))))))))))))
 ·have h2 : ¬ (1 ≤ q ∧ q ≤ (z.length : Int)) := by simpa only [Bool.not_eq_true', decide_eq_false_iff_not] using hb1
  refine ts (ro rfl (cQ (cJ 1)) (eX (fW rfl (fX (eU rfl) ?_))))
  exact (aT (if_pos h2).symm)
 ·have h2 : 1 ≤ q ∧ q ≤ (z.length : Int) := by simpa using hb1
  refine ts (rm rfl (rm rfl (ro rfl (cZ Tryz.call145 (uM (l:=o) (v:=q) zo) ⟨(Ht rfl),(Ht rfl),trivial⟩) (ra rfl (eX (dQ (Ht rfl) (fun hb2=>?_) (fun hb2=>?_)))))))
  ·refine ts (ro rfl (cQ (cJ 8)) (eX (fW rfl (fX (eU rfl) ?_))))
   exact (aT (by rw [eR,if_neg (fun k=>k h2),if_pos hb2]; rfl))
  ·refine cU (bN (ts (ro rfl (cQ (cJ 0)) (eX (fW rfl (fX (eU rfl) ?_))))))
   exact (aT (by rw [eR,if_neg (fun k=>k h2),if_neg (by rw [hb2]; decide)]; rfl))
end
section
open Go Go.RowKit
theorem Wi {z:List Qi} {S:List (List Qi)} {js:List (Int × Int)} {L:Nat} (hfz:bH z L) (hL:1 ≤ L) (hLb:L ≤ 1000000) (hz:z.length ≤ 1000) (hj:js.length ≤ 100):bF Tryz.prog 120 [dC z S,JsT js] (eD [kM 1 ((jeL z js).map (aL .i64)),aL .i64 (Dq z js)]):=by
 refine bF.intro Tryz.func120 rfl Tryz.ntmps120 rfl (fun cx=>(ts (rn rfl (fG (Ht rfl)) fun B2=>(ro rfl (cQ cV) (ro rfl (cQ (cJ 0)) (eX (ts (ro rfl (cQ cV) (eX (cK (cK (uL 3 1 (cY (rm rfl (ro rfl (dG U_65 (Ht rfl) aC) (ro rfl (cX (cJ 0)) (eX (eG ?_))))))))))))))))))
 refine jE (fun (k : Nat) (vG : Value) => k ≤ js.length ∧ ∀ j, j < k → xB z js j = 0) (fun (k : Nat) (vG : Value) => js.length - k) (fun (k : Nat) (vG : Value) => [(1, JsT js), (2, cA B2 0), (6, Is vG), (12, JsT js), (13, NT .i64 js.length), (14, NT .i64 k)]) (fun (k : Nat) (vG : Value) => [box B2 28 [aN z, cH S], bI 3 1 vG ((nT (js.take k)).map (aL .i64))]) 0 _ ⟨Nat.zero_le _, fun j h => by omega⟩
  (zS rfl) (aU (aD rfl) (aU (aP rfl) aY)) (fun k vG ⟨hk,h0⟩=>?_)
 refine ts (ro rfl (gX (Ht rfl) (Ht rfl)) (eX (cK (dQ (Ht rfl) (fun hd=>?_) (fun hd=>?_)))))
 ·have hkn : k < js.length := by simp only [decide_eq_true_eq] at hd; omega
  have hjk:=oX (js.take k)
  refine cU (cK (eG (ts (ro rfl (dZ U_65 Z_64 (Ht rfl) (Ht rfl) rfl (dY (dU (d:=(0,0)) hkn))) (ro rfl (dJ Tryz.isAgg64 Z_64 (Ht rfl)) (rn rfl (eW (Ts:=[Is (.int .i64 0),Is (.int .i64 0)]) Tryz.zeroValue64 rfl (fun V=>aW zd (aW zd (aG)))) fun B8=>(gQ Z_64 (Ht rfl) (Ht rfl) rfl (i:=2) rfl (aK rfl) rfl rfl (eX (cK (cK (gJ (i:=2) (tt:=8) rfl rfl jJ (cY (ro rfl (dJ Tryz.isAgg64 Z_64 (Ht rfl)) ?_)))))))))))))
  refine ro rfl (cX (cJ 0)) (eX (eG (cM [0,1] rfl (by decide) ?_)))
  refine jE (fun (i : Nat) (vI : Value) => i ≤ 2 ∧ ∀ x, x < i → Hc z js k x = 0) (fun (i : Nat) (vI : Value) => 2 - i) (fun (i : Nat) (vI : Value) => [(1, JsT js), (2, cA B2 0), (6, Is vI), (8, PT (JT (mU js k))), (12, JsT js), (13, NT .i64 js.length), (14, NT .i64 k), (18, JT (mU js k)), (19, NT .i64 i)]) (fun (i : Nat) (vI : Value) => [box B2 28 [aN z, cH S], bI 3 1 vI ((nT (js.take k) ++ (Ks (mU js k)).take i).map (aL .i64))]) 0 _ ⟨Nat.zero_le _, fun x h => by omega⟩
   (zS rfl) (aU (aD rfl) (aU (aP (by rw [List.take_zero,List.append_nil])) aY)) (fun i vI ⟨hi,h1⟩=>?_)
  refine ts (ro rfl (gX (Ht rfl) (cJ 2)) (eX (cK (dQ (Ht rfl) (fun he=>?_) (fun he=>?_)))))
  ·have hi2 : i < 2 := by simp only [decide_eq_true_eq] at he; omega
   have hol:(nT (js.take k) ++ (Ks (mU js k)).take i).length ≤ 300:=by rw [List.length_append,hjk,List.length_take,List.length_take]; omega
   refine cU (cK (eG (ts (ro rfl (Tw U_64 Z_3 A_3 (Ht rfl) (Ht rfl) zo (a2M hi2)) (ra rfl (eX (cK (ts (ro rfl (eJ A_28 Z_28 (Ht rfl) (i:=0) rfl rfl rfl) (rm rfl (rm rfl (ro rfl (Zr Tryz.call181 (a1l (z:=z) (s:=S) (q:=(Ks (mU js k)).getD i 0) (o:=nT (js.take k) ++ (Ks (mU js k)).take i) hz zo) (j:=1) (tt:=24) rfl rfl gE (fun _ _ _ h=>h) ⟨(Ht rfl),(Ht rfl),(Ht rfl),trivial⟩) (ra rfl (eX (ts (rm rfl (ro rfl (fM (Ht rfl) cV) (eX (dQ (Ht rfl) (fun hf=>?_) (fun hf=>?_))))))))))))))))))))
   ·have h3 : Hc z js k i ≠ 0 := by simp only [Bool.not_eq_true', decide_eq_false_iff_not] at hf; exact hf
    have h4:=a6f hi2 h1 h3
    have h5:zK z js = Hc z js k i:=(tS h0 (by rw [h4]; exact h3) hkn).trans h4
    have h6:Dq z js = Hc z js k i:=(Ys (by rw [h5]; exact h3)).trans h5
    refine ts (rm rfl (ro rfl (cQ cV) (ra rfl (eX (bL rfl (fX (eU rfl) ?_) (fX (eU rfl) ?_))))))
    ·exact (fun v V h=>by rw [jeL,iC,h6,if_neg h3]; exact iP v V h)
    ·exact (aT h6.symm)
   ·have h3 : Hc z js k i = 0 := by simp only [Bool.not_eq_false', decide_eq_true_eq] at hf; exact hf
    refine cU (cY (rm rfl (rm rfl (ro rfl (eH (xs:=[.tmp 30]) U_103 Z_3 O_3 (cW (Ht rfl) cG) rfl rfl rfl) (sJ (inf:=Tryz.t3) Rr Yj rfl rfl rfl (Ht rfl) (Ht rfl) (i:=1) rfl (by simp) (fun T hT=>by simp at hT; subst hT; exact El.one) (by show _ * 8 ≤ _; simp only [List.length_map,List.length_cons,List.length_nil]; omega) (by simp only [List.length_map,List.length_cons,List.length_nil]; omega) rfl (fun v2=>?_))))))
    refine ra rfl (eX (bN (cY (ro rfl (dV (Ht rfl) (cJ 1) z6) (rm rfl (eX ?_))))))
    refine fU (i + 1, v2) ⟨hi2, fun x hx => by
      by_cases e:x = i
      ·rw [e]; exact h3
      ·exact h1 x zo⟩ (by dsimp only; omega) (zS rfl) (aU (aD rfl) (aU (aP (by rw [a01 hi2,← List.append_assoc,List.map_append (l₁:=nT (js.take k) ++ (Ks (mU js k)).take i)]; rfl)) aY))
  ·obtain rfl : i = 2 := by simp only [decide_eq_false_iff_not] at he; omega
   obtain ⟨⟨p1,p2⟩,⟨p3,p4⟩,h3⟩:=a6g h1
   have hrow:nT (js.take (k + 1)) = nT (js.take k) ++ (Ks (mU js k)).take 2:=Ke hkn
   haveI g1:=hfz.get hL ((mU js k).1 - 1).toNat
   haveI g2:=hfz.get hL ((mU js k).2 - 1).toNat
   refine gV rfl (cK (fZ (m:=14) (dp 2 rfl (eZ dS (Ht rfl) rfl) (dq 34 0 rfl (eY A_25 Z_25 (Ht rfl) (i:=0) rfl rfl) (dp 8 rfl (Qv U_64 Z_3 (Ht rfl) cV rfl (by decide) rfl) (dq 36 2 rfl (dJ A_3 Z_3 (Ht rfl)) (dq 37 3 rfl (kX (Ht rfl) cV (r:=((((mU js k).1 - 1).toNat:Nat):Int)) ((Ea (z:=(mU js k).1 - 1) zo).trans zo)) ?_)))))))
   refine dH 35 1 38 4 rfl (dZ U_25 Z_60 (Ht rfl) (Ht rfl) rfl (dY (dU (d:=Qi.zero) zo))) (dq 39 5 rfl (dJ A_60 Z_60 (Ht rfl)) (dp 2 rfl (eZ dS (Ht rfl) rfl) (dq 41 7 rfl (eY A_25 Z_25 (Ht rfl) (i:=0) rfl rfl) (dp 8 rfl (Qv U_64 Z_3 (Ht rfl) cV rfl (by decide) rfl) (dq 43 9 rfl (dJ A_3 Z_3 (Ht rfl)) (dq 44 10 rfl (kX (Ht rfl) cV (r:=((((mU js k).2 - 1).toNat:Nat):Int)) ((Ea (z:=(mU js k).2 - 1) zo).trans zo)) ?_))))))
   refine dH 42 8 45 11 rfl (dZ U_25 Z_60 (Ht rfl) (Ht rfl) rfl (dY (dU (d:=Qi.zero) zo))) (dq 46 12 rfl (dJ A_60 Z_60 (Ht rfl)) (fV bB rfl (by kernel_rfl) (zF (zF (zF (aJ (aJ (aV (ro rfl (cZ Tryz.call100 (Gd (x:=gv z ((mU js k).1 - 1).toNat) (y:=gv z ((mU js k).2 - 1).toNat) (L:=L) (M:=L) zo zo) ⟨(Ht rfl),(Ht rfl),trivial⟩) (ro rfl (gG (Ht rfl)) ?_))))))))))
   refine eX (dQ (Ht rfl) (fun hg=>?_) (fun hg=>?_))
   ·have h4 : xB z js k = 40 := by rw [h3, if_neg (by simpa using hg)]
    have h5:zK z js = 40:=(tS h0 (by rw [h4]; decide) hkn).trans h4
    have h6:Dq z js = 40:=(Ys (by rw [h5]; decide)).trans h5
    refine ts (ro rfl (cQ cV) (ro rfl (cQ (cJ 40)) (eX (bL rfl (fX (eU rfl) ?_) (fX (eU rfl) ?_)))))
    ·exact (fun v V h=>by rw [jeL,iC,h6]; exact iP v V h)
    ·exact (aT h6.symm)
   ·have h4 : xB z js k = 0 := by rw [h3, if_pos (by simpa using hg)]
    refine cU (bN (cY (ro rfl (dV (Ht rfl) (cJ 1) z6) (rm rfl (eX ?_)))))
    refine fU (k + 1, vI) ⟨hkn, fun j h => by
      by_cases e:j = k
      ·rw [e]; exact h4
      ·exact h0 j zo⟩ (by dsimp only; omega) (zS rfl) (aU (aD rfl) (aU (aP (by rw [hrow])) aY))
 ·obtain rfl : k = js.length := by simp only [decide_eq_false_iff_not] at hd; omega
  have h2:zK z js = 0:=gL h0
  have hll:=oX js
  rw [List.take_length]
  refine gV rfl (cK (ts (rm rfl (ro rfl (nW U_103 (Ht rfl) (i:=1) rfl aC) (ro rfl (jV (Ht rfl) (cJ 0)) (rm rfl (fQ rfl rfl (eK rfl rfl (Ht rfl) (fun h=>cX (Ht rfl))) (fQ rfl rfl (eK rfl rfl (Ht rfl) (fun h=>nW U_103 (fJ rfl h) (i:=1) rfl aC)) (fQ rfl rfl (eK rfl rfl (Ht rfl) (fun h=>eZ dS (Ht rfl) rfl)) (fQ rfl rfl (eK rfl rfl (Ht rfl) (fun h=>eY A_25 Z_25 (fJ rfl h) (i:=0) rfl rfl)) (fQ rfl rfl (eK rfl rfl (Ht rfl) (fun h=>dG U_25 (fJ rfl h) aC)) ?_)))))))))))
  refine fQ rfl rfl (eK rfl rfl (Ht rfl) (fun h=>eC (fJ rfl h) (fJ rfl h))) (ro rfl (gS (Ht rfl) (fun h=>(fJ rfl h))) (eX (dQ (Ht rfl) (fun hc=>?_) (fun hc=>?_))))
  ·have h3 : 0 < 2 * js.length ∧ 2 * js.length = z.length := by simpa [hll] using hc
   have h6:Dq z js = 4:=a20 h2 h3
   refine ts (ro rfl (cQ cV) (ro rfl (cQ (cJ 4)) (eX (bL rfl (fX (eU rfl) ?_) (fX (eU rfl) ?_)))))
   ·exact (fun v V h=>by rw [jeL,iC,h6]; exact iP v V h)
   ·exact (aT h6.symm)
  ·have h3 : ¬ (0 < 2 * js.length ∧ 2 * js.length = z.length) := by simpa [hll] using hc
   have h6:Dq z js = 0:=a3H h2 h3
   refine gJ (i:=1) (tt:=6) rfl rfl gE (cU (ts (rm rfl (ra rfl (ro rfl (cQ (cJ 0)) (eX (bL rfl (fX (eU rfl) ?_) (fX (eU rfl) ?_))))))))
   ·exact (jC (by rw [jeL,iC,h6]; rfl))
   ·exact (aT h6.symm)
end
section
open Go Go.RowKit
theorem a71 {x : Nat} (h : x < 20) : IntKind.wrap .i64 ((BitVec.ofInt (IntKind.bits .i64) (x : Int) ^^^ BitVec.ofInt (IntKind.bits .i64) ((1 : Nat) : Int)).toNat : Nat) = ((jW x : Nat) : Int) :=
 (by decide +kernel:∀ x:Nat,x < 20 → IntKind.wrap .i64 ((BitVec.ofInt (IntKind.bits .i64) (x:Int) ^^^ BitVec.ofInt (IntKind.bits .i64) ((1:Nat):Int)).toNat:Nat) = ((jW x:Nat):Int)) x h
theorem a1m {z:List Qi} {S:List (List Qi)} {js:List (Int × Int)} {x:Nat} (hS:cB S z.length z.length) (hd:zK z js = 0) (hx:x < 2 * js.length) (hm:2 * js.length ≤ 18) (hz:z.length ≤ 1000):bF Tryz.prog 121 [NT .i64 x,PT (dC z S),PT (iM ((iL js).map Nat.succ))] (aN (S.getD (gq (cL js) (jW x)) [])):=by
 have hpx:jW x < 2 * js.length:=oO hx
 have hgq:=(Ce hd).lt (jW x) hpx
 have hSl:=hS.1
 have hJl:=Ha js
 have hat:cD (iL js) (jW x) = gq (cL js) (jW x):=Nb hpx
 refine bF.intro Tryz.func121 rfl Tryz.ntmps121 rfl (fun cx=>(ts (ro rfl (cQ cV) (eX (cK (fZ (m:=8) (dp 1 rfl (gO cT (Ht rfl) rfl) (dq 5 0 rfl (dJ A_26 Z_26 (Ht rfl)) (dp 2 rfl (dJ A_103 Z_103 (Ht rfl)) (dp 0 rfl (cX (Ht rfl)) (dq 8 3 rfl (Qw (Ht rfl) (cJ 1) (a71 zo)) (dH 7 2 9 4 rfl (dZ U_103 Z_3 (Ht rfl) (Ht rfl) rfl (dY (pG zo))) (dq 10 5 rfl (dJ A_3 Z_3 (Ht rfl)) (dq 11 6 rfl (aM.nat (dW (Ht rfl) (cJ 1) zo z6) (show cD (iL js) (jW x) + 1 - 1 = gq (cL js) (jW x) by omega)) ?_))))))))))))))
 refine fV bB rfl (by kernel_rfl) (zF (zF (aV (ro rfl (dZ U_26 Z_25 (Ht rfl) (Ht rfl) rfl (dY (dU (d:=[]) zo))) (ro rfl (dJ A_25 Z_25 (Ht rfl)) (ra rfl (eX ?_)))))))
 exact fW rfl (eU rfl)
theorem a4d {x y:Nat}:bF Tryz.prog 123 [NT .i64 x,NT .i64 y] (aE (if x = y then Qi.ofInt 1 else Qi.ofInt 0)):=by
 refine bF.intro Tryz.func123 rfl Tryz.ntmps123 rfl (fun cx=>(ts (rn rfl (eW (Ts:=[Is (.bool false),Is (.slice none 0 0),Is (.bool false),Is (.slice none 0 0),Is (.slice none 0 0)]) O_60 rfl (fun V=>aW zd (aW zd (aW zd (aW zd (aW zd (aG))))))) fun B4=>(eX (cK (ts (rm rfl (rm rfl (ro rfl (eC (Ht rfl) (Ht rfl)) (eX (dQ (Ht rfl) (fun hb=>?_) (fun hb=>?_))))))))))))
 ·have h2 : x = y := by simpa using hb
  refine ts (ro rfl (cZ K_118 (rQ (n:=1) (by decide) (by decide)) ⟨(cJ 1),trivial⟩) (gQ Z_60 (Ht rfl) (Ht rfl) rfl (i:=0) rfl (aK rfl) rfl rfl (eX (fW rfl (fX (fK A_60 Z_60 rfl (i:=0) rfl rfl) ?_)))))
  exact (iZ (if_pos h2).symm)
 ·have h2 : ¬ x = y := by simpa using hb
  refine cU (ts (ro rfl (cZ K_118 (rQ (n:=0) (by decide) (by decide)) ⟨(cJ 0),trivial⟩) (gQ Z_60 (Ht rfl) (Ht rfl) rfl (i:=0) rfl (aK rfl) rfl rfl (eX (fW rfl (fX (fK A_60 Z_60 rfl (i:=0) rfl rfl) ?_))))))
  exact (iZ (if_neg h2).symm)
theorem a1n {z:List Qi} {S:List (List Qi)} {js:List (Int × Int)} {x y L:Nat} (hS:cB S z.length z.length) (hf:bA S L) (hL:1 ≤ L) (hLb:L ≤ 1000000) (hd:zK z js = 0) (hx:x < 2 * js.length) (hy:y < 2 * js.length) (hm:2 * js.length ≤ 18) (hz:z.length ≤ 1000):bF Tryz.prog 122 [NT .i64 x,NT .i64 y,PT (yU Tryz.prog (Fin (2 * js.length)) (fun x=>[NT .i64 x.1]) (fun x=>aN (S.getD (gq (cL js) (jW x.1)) []))),PT (iM ((iL js).map Nat.succ))] (aE ((if x = y then Qi.ofInt 1 else Qi.ofInt 0) - gm S (gq (cL js) (jW x)) (gq (cL js) y))):=by
 have hpx:jW x < 2 * js.length:=oO hx
 have hgx:=(Ce hd).lt (jW x) hpx
 have hgy:=(Ce hd).lt y hy
 have hSl:=hS.1
 have hSr:=hS.row hgx
 have hJl:=Ha js
 have hat:cD (iL js) y = gq (cL js) y:=Nb hy
 haveI g1:aH (gm S (gq (cL js) (jW x)) (gq (cL js) y)) L:=hf.get hL _ _
 haveI g2 : aH (if x = y then Qi.ofInt 1 else Qi.ofInt 0) 1 := by
  split
  ·exact jH
  ·exact (aH.zero (Nat.le_refl 1):aH Qi.zero 1)
 refine bF.intro Tryz.func122 rfl Tryz.ntmps122 rfl (fun cx=>(ts (rn rfl (eW (Ts:=[Is (.bool false),Is (.slice none 0 0),Is (.bool false),Is (.slice none 0 0),Is (.slice none 0 0)]) O_60 rfl (fun V=>aW zd (aW zd (aW zd (aW zd (aW zd (aG))))))) fun B6=>(eX (cK (fZ (m:=14) (dp 0 rfl (cX (Ht rfl)) (dp 1 rfl (cX (Ht rfl)) (dH 7 0 8 1 rfl (cZ Tryz.call123 (a4d (x:=x) (y:=y)) ⟨(Ht rfl),(Ht rfl),trivial⟩) (dq 9 2 rfl (bE bP (Ht rfl)) ?_))))))))))
 refine dp 2 rfl (dJ Tryz.isAgg182 Tryz.sizeOf182 (Ht rfl)) (dp 0 rfl (cX (Ht rfl)) (dH 11 4 12 5 rfl (nC (Ts:=fun x:Fin (2 * js.length)=>[NT .i64 x.1]) ⟨x,hx⟩ (Ht rfl) ⟨(Ht rfl),trivial⟩) (dp 3 rfl (dJ A_103 Z_103 (Ht rfl)) (dp 1 rfl (cX (Ht rfl)) (dH 14 7 15 8 rfl (dZ U_103 Z_3 (Ht rfl) (Ht rfl) rfl (dY (pG zo))) (dq 16 9 rfl (dJ A_3 Z_3 (Ht rfl)) (dq 17 10 rfl (aM.nat (dW (Ht rfl) (cJ 1) zo z6) (show cD (iL js) y + 1 - 1 = gq (cL js) y by omega)) ?_)))))))
 refine dH 13 6 18 11 rfl (dZ U_25 Z_60 (Ht rfl) (Ht rfl) rfl (dY (dU (d:=Qi.zero) (show gq (cL js) y < (S.getD (gq (cL js) (jW x)) []).length by omega)))) (dq 19 12 rfl (dJ A_60 Z_60 (Ht rfl)) (fV bB rfl (by kernel_rfl) (zF (zF (zF (aJ (aJ (aV (ro rfl (aR lG K_69 (uO (x:=if x = y then Qi.ofInt 1 else Qi.ofInt 0) (y:=gm S (gq (cL js) (jW x)) (gq (cL js) y)) (L:=1) (M:=L) zo) (Ht rfl) ⟨(Ht rfl),trivial⟩) ?_)))))))))
 refine gQ Z_60 (Ht rfl) (Ht rfl) rfl (i:=0) rfl (aK rfl) rfl rfl (eX ?_)
 exact fW rfl (fK A_60 Z_60 rfl (i:=0) rfl rfl)
theorem a41 {z:List Qi} {S:List (List Qi)} {js:List (Int × Int)} {L:Nat} (hS:cB S z.length z.length) (hf:bA S L) (hfz:bH z L) (hL:1 ≤ L) (hLb:L ≤ 1000000) (hz:z.length ≤ 18) (hj:js.length ≤ 100) (hg:∀ k,2 * k < z.length → 6 * jQ (L + 2) (2 * k) + 4 ≤ 17592186044415) (hx:∀ k,2 * k < z.length → uG (jQ (L + 2) (2 * k)) (2 * k + 1) ≤ 100000000000):bF Tryz.prog 32 [dC z S,JsT js] (eD [dC (tV z S js) (Cd z S js),aL .i64 (vF z S js)]):=by
 have hll:=oX js
 have hJl:=Ha js
 have hSl:=hS.1
 refine bF.intro Tryz.func32 rfl Tryz.ntmps32 rfl (fun cx=>(ts (rn rfl (fG (Ht rfl)) fun B2=>(rn rfl (eW (Ts:=[Is (.slice none 0 0),Is (.slice none 0 0)]) O_28 rfl (fun V=>aW zd (aW zd (aG)))) fun B4=>(ro rfl (cQ (cJ 0)) (eX (ts (ro rfl (eJ A_28 Z_28 (Ht rfl) (i:=0) rfl rfl rfl) (rm rfl (ro rfl (cZ Tryz.call120 (Wi (z:=z) (S:=S) (js:=js) (L:=L) hfz hL zo zo hj) ⟨(Ht rfl),(Ht rfl),trivial⟩) (rm rfl (ro rfl (dK (Ht rfl) rfl) ?_))))))))))))
 refine ro rfl (dK (Ht rfl) rfl) (rn rfl (eW (Ts:=[Is (.slice none 0 0)]) Tryz.zeroValue103 rfl (fun V=>aW zd (aG))) fun B6=>(oK Z_103 (Ht rfl) (Ht rfl) (i:=2) rfl (aK rfl) rfl (ra rfl (eX (cK (ts (rm rfl (ro rfl (fM (Ht rfl) cV) (eX (dQ (Ht rfl) (fun hc=>?_) (fun hc=>?_)))))))))))
 ·have h3 : Dq z js ≠ 0 := by simpa using hc
  have he:vF z S js = Dq z js:=a6d h3
  refine ts (ro rfl (aM.imp (jF ) jM) (rm rfl (gQ Z_28 (Ht rfl) (Ht rfl) rfl (i:=1) rfl (aK rfl) rfl rfl (ra rfl (eX (bL rfl (fX (fK A_28 Z_28 rfl (i:=1) rfl rfl) ?_) (fX (eU rfl) ?_)))))))
  ·exact (fun v V h=>by rw [tV,Cd,iC,iC,he,if_neg h3,if_neg h3]; exact h)
  ·exact (aT he.symm)
 ·have h3 : Dq z js = 0 := by simpa using hc
  obtain ⟨hd,hne⟩:=Gz h3
  have hok:jeL z js = nT js:=by rw [jeL,iC,if_pos h3]
  rw [hok]
  refine cU (cK (ts (ro rfl (eY A_103 Z_103 (Ht rfl) (i:=2) rfl rfl) (ro rfl (dG U_103 (Ht rfl) (by rw [List.length_map,hll])) ?_))))
  refine ro rfl (eC (Ht rfl) (cJ 0)) (eX (dQ (Ht rfl) (fun hc2=>?_) (fun hc2=>?_)))
  ·have h4 : js.length = 0 := by simp only [decide_eq_true_eq] at hc2; omega
   have he:vF z S js = 0:=a27 h3 h4
   refine ts (ro rfl (eJ A_28 Z_28 (Ht rfl) (i:=0) rfl rfl rfl) (gQ Z_28 (Ht rfl) (Ht rfl) rfl (i:=1) rfl (aK rfl) rfl rfl (ro rfl (cQ (cJ 0)) (eX (bL rfl (fX (fK A_28 Z_28 rfl (i:=1) rfl rfl) ?_) (fX (eU rfl) ?_))))))
   ·exact (fun v V h=>by rw [tV,Cd,iC,iC,he,if_pos h4,if_pos h4]; exact h)
   ·exact (aT he.symm)
  ·have h4 : js.length ≠ 0 := by simp only [decide_eq_false_iff_not] at hc2; omega
   have hj:=Ce hd
   have hjl:=Yu hd
   have hm1:2 * js.length < z.length:=by omega
   obtain ⟨m,hm⟩:∃ m,m = 2 * js.length:=⟨_,rfl⟩
   have hg2:=hg js.length hm1
   have hx2:=hx js.length hm1
   have hxn:=Nat.le_trans (tM (jQ (L + 2) (2 * js.length)) (2 * js.length)) hx2
   have Ab:=Gf (z:=z) (s:=S) (G:=iL js) zo zo
   rw [Ye] at Ab
   have hfl:(dO z js).length ≤ z.length:=Af _ _
   have hfx:∀ x,x ∈ dO z js → x < z.length:=fun x h=>yJ h
   rw [Yt hd]
   refine cU (cK (gJ (i:=0) (tt:=2) rfl rfl jJ (gJ (i:=2) (tt:=6) rfl rfl gY (cY (ro rfl (lR (γ:=Fin (2 * js.length)) (Ts:=fun x=>[NT .i64 x.1]) (U:=fun x=>aN (S.getD (gq (cL js) (jW x.1)) [])) Tryz.call121 (fun x=>a1m hS hd x.2 zo zo) ⟨(Ht rfl),(Ht rfl),trivial⟩) (rn rfl (eW (Ts:=[Is (.nilFunc)]) Tryz.zeroValue182 rfl (fun V=>aW zd (aG))) fun B8=>(oK Tryz.sizeOf182 (Ht rfl) (Ht rfl) (i:=3) rfl (aK rfl) rfl (eX (cK (gJ (i:=3) (tt:=8) rfl rfl gY ?_))))))))))
   refine cY (ro rfl (dJ A_103 Z_103 (Ht rfl)) (ro rfl (dG U_103 (Ht rfl) (by rw [List.length_map,List.length_map,hJl])) ?_))
   refine ro rfl (lR (γ:=Fin (2 * js.length) × Fin (2 * js.length)) (Ts:=fun x=>[NT .i64 x.1.1,NT .i64 x.2.1]) (U:=fun x=>aE ((if x.1.1 = x.2.1 then Qi.ofInt 1 else Qi.ofInt 0) - gm S (gq (cL js) (jW x.1.1)) (gq (cL js) x.2.1))) Tryz.call122 (fun x=>a1n hS hf hL hLb hd x.1.2 x.2.2 zo zo) ⟨(Ht rfl),(Ht rfl),trivial⟩) (ro rfl (cZ K_110 (uY (n:=2 * js.length) (f:=fun x y=>(if x = y then Qi.ofInt 1 else Qi.ofInt 0) - gm S (gq (cL js) (jW x)) (gq (cL js) y)) zo) ⟨(Ht rfl),(Ht rfl),trivial⟩) (ra rfl (eX (ts (ro rfl (dJ A_28 Z_28 (Ht rfl)) ?_)))))
   refine ro rfl (dJ A_103 Z_103 (Ht rfl)) (ro rfl (cZ Tryz.call124 Ab ⟨(Ht rfl),(Ht rfl),trivial⟩) (ra rfl (eX (ts (ro rfl (dJ A_28 Z_28 (Ht rfl)) (rm rfl (mW Tryz.call125 (Pg (Q:=dO z js) (m:=(dO z js).length) hS hfx rfl zo zo) ⟨(Ht rfl),(Ht rfl),trivial⟩ rfl (fun B47 _=>(rn rfl (eW (Ts:=[Is (.slice none 0 0),Is (.slice none 0 0)]) O_28 rfl (fun V=>aW zd (aW zd (aG)))) fun B11=>(gQ Z_28 (Ht rfl) (Ht rfl) rfl (i:=5) rfl (aK rfl) rfl rfl ?_))))))))))
   refine eX (cK (ts (rm rfl (ro rfl (dG U_103 (Ht rfl) (by rw [List.length_map,List.length_map])) ?_))))
   refine ro rfl (cX (cJ 0)) (eX (eG (cM [1,4,5] rfl (by decide) ?_)))
   refine cI (fun (j : Nat) => j ≤ (dO z js).length ∧ ∀ y, y < j → jA (nU S (cL js) (2 * js.length)) (zA S (cL js) (2 * js.length) ((dO z js).getD y 0)) (2 * js.length) = 0) (fun (j : Nat) => (dO z js).length - j) (fun (j : Nat) => [(2, PT (dC z S)), (4, cA B4 0), (6, PT (iM ((iL js).map Nat.succ))), (8, PT (yU Tryz.prog (Fin (2 * js.length)) (fun x => [NT .i64 x.1]) (fun x => aN (S.getD (gq (cL js) (jW x.1)) [])))), (9, cH (nU S (cL js) (2 * js.length))), (10, iM ((dO z js).map Nat.succ)), (11, cA B11 0), (48, iM ((dO z js).map Nat.succ)), (49, NT .i64 ((dO z js).length)), (50, NT .i64 j)]) (fun (j : Nat) => [box B4 28 [Is (.slice none 0 0), Is (.slice none 0 0)], oE B47 25 60 5 (cO aE (tab ((dO z js).length) fun i => (mI (fun y => xA S (cL js) (2 * js.length) (cD (dO z js) i) (cD (dO z js) y)) (fun y => gm S (cD (dO z js) i) (cD (dO z js) y)) (dO z js).length j))), box B11 28 [aN (mF z (dO z js)), Is (.slice (some ⟨B47, 0, none⟩) ((dO z js).length) ((dO z js).length))]]) 0 ⟨Nat.zero_le _, fun y h => by omega⟩
    (zS rfl) (aU (aD rfl) (aU (eB (congrArg (cO aE) (bT fun i _=>pJ _ _ _))) (aU (aD rfl) aY))) (fun j ⟨hjq,h0⟩=>?_)
   refine ts (ro rfl (gX (Ht rfl) (Ht rfl)) (eX (cK (dQ (Ht rfl) (fun hd1=>?_) (fun hd1=>?_)))))
   ·have hjn : j < (dO z js).length := by simp only [decide_eq_true_eq] at hd1; omega
    have hFj:cD (dO z js) j < z.length:=Na hjn
    have hbf:bH (zA S (cL js) (2 * js.length) ((dO z js).getD j 0)) L:=Qe hf hL
    refine cU (cK (eG (ts (rm rfl (ro rfl (dZ U_103 Z_3 (Ht rfl) (Ht rfl) rfl (dY (pG hjn))) (ro rfl (dJ A_3 Z_3 (Ht rfl)) (ra rfl (ra rfl (eX (ts (ro rfl (dJ A_103 Z_103 (Ht rfl)) (ro rfl (dG U_103 (Ht rfl) (by rw [List.length_map,List.length_map,hJl])) ?_))))))))))))
    refine rn rfl (iG (T:=aE Qi.zero) (i:=Tryz.t60) jS gU rfl rfl (Ht rfl) rfl gF (El.ag rfl) (by show 88 * _ ≤ _; omega) zo) fun B57=>ra rfl (eX (cK (ts (rm rfl (ro rfl (nW U_25 (Ht rfl) (i:=3) rfl (show ((List.replicate (2 * js.length) (aE Qi.zero)).length:Int) = ((2 * js.length:Nat):Int) from by simp)) (ro rfl (cX (cJ 0)) (eX (eG ?_))))))))
    refine cI (fun (x : Nat) => x ≤ 2 * js.length) (fun (x : Nat) => 2 * js.length - x) (fun (x : Nat) => [(2, PT (dC z S)), (4, cA B4 0), (6, PT (iM ((iL js).map Nat.succ))), (8, PT (yU Tryz.prog (Fin (2 * js.length)) (fun x => [NT .i64 x.1]) (fun x => aN (S.getD (gq (cL js) (jW x.1)) [])))), (9, cH (nU S (cL js) (2 * js.length))), (10, iM ((dO z js).map Nat.succ)), (11, cA B11 0), (12, NT .i64 j), (13, NT .i64 (cD (dO z js) j + 1)), (14, Is B57), (48, iM ((dO z js).map Nat.succ)), (49, NT .i64 ((dO z js).length)), (50, NT .i64 j), (59, NT .i64 (2 * js.length)), (60, NT .i64 x)]) (fun (x : Nat) => [box B4 28 [Is (.slice none 0 0), Is (.slice none 0 0)], oE B47 25 60 5 (cO aE (tab ((dO z js).length) fun i => (mI (fun y => xA S (cL js) (2 * js.length) (cD (dO z js) i) (cD (dO z js) y)) (fun y => gm S (cD (dO z js) i) (cD (dO z js) y)) (dO z js).length j))), box B11 28 [aN (mF z (dO z js)), Is (.slice (some ⟨B47, 0, none⟩) ((dO z js).length) ((dO z js).length))], bI 60 5 B57 ((kS (fun x => gm S (gq (cL js) (jW x)) (cD (dO z js) j)) Qi.zero (2 * js.length) x).map aE)]) 0 (Nat.zero_le _)
     (zS rfl) (aU (aD rfl) (aU (fun _ _ _ h=>h) (aU (aD rfl) (aU (aP (by rw [← iN]; exact nY aE _)) aY)))) (fun x hx1=>?_)
    refine ts (ro rfl (gX (Ht rfl) (Ht rfl)) (eX (cK (dQ (Ht rfl) (fun hd2=>?_) (fun hd2=>?_)))))
    ·have hxm : x < 2 * js.length := by simp only [decide_eq_true_eq] at hd2; omega
     have hgx:=hj.lt (jW x) (oO hxm)
     have hSr:=hS.row hgx
     refine cU (cK (eG (ts (rm rfl (ra rfl (eX (cY (rm rfl (rm rfl (ro rfl (dJ Tryz.isAgg182 Tryz.sizeOf182 (Ht rfl)) (rm rfl (ro rfl (nC (Ts:=fun x:Fin (2 * js.length)=>[NT .i64 x.1]) ⟨x,hxm⟩ (Ht rfl) ⟨(Ht rfl),trivial⟩) (rm rfl (ro rfl (aM.nat (dW (Ht rfl) (cJ 1) zo z6) (show cD (dO z js) j + 1 - 1 = cD (dO z js) j by omega)) (ro rfl (dZ U_25 Z_60 (Ht rfl) (Ht rfl) rfl (dY (dU (d:=Qi.zero) (show cD (dO z js) j < (S.getD (gq (cL js) (jW x)) []).length by omega)))) ?_)))))))))))))))
     refine ro rfl (dJ A_60 Z_60 (Ht rfl)) (ro rfl (dA U_25 Z_60 (Ht rfl) (Ht rfl) rfl (i:=3) rfl (by rw [List.length_map,dE]; omega) rfl) ?_)
     refine lZ Z_60 (Ht rfl) (Ht rfl) (El.ag rfl) (i:=3) rfl rfl (by rw [List.length_map,dE]; omega) rfl ?_
     refine eX (bN (cY (ro rfl (dV (Ht rfl) (cJ 1) z6) (rm rfl (eX (fU (x + 1) hxm zo (zS rfl) (aU (aD rfl) (aU (fun _ _ _ h=>h) (aU (aD rfl) (aU (aP (by rw [gI]; exact congrArg _ (jU (f:=(fun x=>gm S (gq (cL js) (jW x)) (cD (dO z js) j)))))) aY))))))))))
    ·have hxm : x = 2 * js.length := by simp only [decide_eq_false_iff_not] at hd2; omega
     rw [hxm,jT]
     refine gV rfl (gJ (i:=3) (tt:=14) rfl rfl gE (ts (rm rfl (rm rfl (ro rfl (cZ Tryz.call126 (a1g (M:=nU S (cL js) (2 * js.length)) (b:=zA S (cL js) (2 * js.length) ((dO z js).getD j 0)) (n:=2 * js.length) (L:=L + 2) (nV _ _ _) (aF _ _) (Hb hf hL) (hbf.le zo) zo zo zo hg2 zo) ⟨(Ht rfl),(Ht rfl),trivial⟩) (rm rfl (ro rfl (dK (Ht rfl) rfl) (ro rfl (dK (Ht rfl) rfl) (ra rfl (ra rfl (eX (cK (ts (rm rfl (ro rfl (fM (Ht rfl) cV) (eX (dQ (Ht rfl) (fun hc3=>?_) (fun hc3=>?_))))))))))))))))))
     ·have h5 : jA (nU S (cL js) (2 * js.length)) (zA S (cL js) (2 * js.length) ((dO z js).getD j 0)) (2 * js.length) ≠ 0 := by simpa using hc3
      have h6:Ni z S js ≠ 0:=fun k=>h5 (gM k j hjn)
      have he:vF z S js = 6:=(Ng h3 h4).trans (if_neg h6)
      refine ts (ro rfl (aM.imp (jF ) jM) (gQ Z_28 (Ht rfl) (Ht rfl) rfl (i:=0) rfl (aK rfl) rfl rfl (ro rfl (cQ (cJ 6)) (eX (bL rfl (fX (fK A_28 Z_28 rfl (i:=0) rfl rfl) ?_) (fX (eU rfl) ?_))))))
      ·exact (fun v V h=>by rw [tV,Cd,iC,iC,he]; exact h)
      ·exact (aT he.symm)
     ·have h5 : jA (nU S (cL js) (2 * js.length)) (zA S (cL js) (2 * js.length) ((dO z js).getD j 0)) (2 * js.length) = 0 := by simpa using hc3
      have hxf:=Rk (nV S (cL js) (2 * js.length)) (Hb hf hL) (hbf.le zo) zo h5
      have hxl:(iE (nU S (cL js) (2 * js.length)) (zA S (cL js) (2 * js.length) ((dO z js).getD j 0)) (2 * js.length)).length = 2 * js.length:=tL _ _ _
      have hGe:L + 2 ≤ uG (jQ (L + 2) (2 * js.length)) (2 * js.length):=Nat.le_trans (qH (L + 2) (2 * js.length)) (Dn _ _)
      obtain ⟨G,hG⟩:∃ G,G = uG (jQ (L + 2) (2 * js.length)) (2 * js.length):=⟨_,rfl⟩
      rw [← hG] at hxf hGe hxn
      have hmG:2 * js.length * (2 * G + 2) ≤ 18 * (2 * G + 2):=Nat.mul_le_mul_right _ zo
      have hokx:iC (jA (nU S (cL js) (2 * js.length)) (zA S (cL js) (2 * js.length) ((dO z js).getD j 0)) (2 * js.length)) (iE (nU S (cL js) (2 * js.length)) (zA S (cL js) (2 * js.length) ((dO z js).getD j 0)) (2 * js.length)) = iE (nU S (cL js) (2 * js.length)) (zA S (cL js) (2 * js.length) ((dO z js).getD j 0)) (2 * js.length):=by rw [iC,if_pos h5]
      rw [hokx]
      refine cU (ts (rm rfl (ro rfl (dG U_103 (Ht rfl) (by rw [List.length_map,List.length_map])) ?_)))
      refine ro rfl (cX (cJ 0)) (eX (eG (cM [0,1,2] rfl (by decide) ?_)))
      refine cI (fun (i : Nat) => i ≤ (dO z js).length) (fun (i : Nat) => (dO z js).length - i) (fun (i : Nat) => [(2, PT (dC z S)), (4, cA B4 0), (6, PT (iM ((iL js).map Nat.succ))), (8, PT (yU Tryz.prog (Fin (2 * js.length)) (fun x => [NT .i64 x.1]) (fun x => aN (S.getD (gq (cL js) (jW x.1)) [])))), (9, cH (nU S (cL js) (2 * js.length))), (10, iM ((dO z js).map Nat.succ)), (11, cA B11 0), (12, NT .i64 j), (16, aN (iE (nU S (cL js) (2 * js.length)) (zA S (cL js) (2 * js.length) ((dO z js).getD j 0)) (2 * js.length))), (48, iM ((dO z js).map Nat.succ)), (49, NT .i64 ((dO z js).length)), (50, NT .i64 j), (83, iM ((dO z js).map Nat.succ)), (84, NT .i64 ((dO z js).length)), (85, NT .i64 i)]) (fun (i : Nat) => [box B4 28 [Is (.slice none 0 0), Is (.slice none 0 0)], oE B47 25 60 5 (cO aE (mI (fun i => (mI (fun y => xA S (cL js) (2 * js.length) (cD (dO z js) i) (cD (dO z js) y)) (fun y => gm S (cD (dO z js) i) (cD (dO z js) y)) (dO z js).length (j + 1))) (fun i => (mI (fun y => xA S (cL js) (2 * js.length) (cD (dO z js) i) (cD (dO z js) y)) (fun y => gm S (cD (dO z js) i) (cD (dO z js) y)) (dO z js).length j)) ((dO z js).length) i)), box B11 28 [aN (mF z (dO z js)), Is (.slice (some ⟨B47, 0, none⟩) ((dO z js).length) ((dO z js).length))]]) 0 (Nat.zero_le _)
       (zS rfl) (aU (aD rfl) (aU (eB (congrArg (cO aE) (pJ _ _ _))) (aU (aD rfl) aY))) (fun i hi=>?_)
      refine ts (ro rfl (gX (Ht rfl) (Ht rfl)) (eX (cK (dQ (Ht rfl) (fun hd4=>?_) (fun hd4=>?_)))))
      ·have hin : i < (dO z js).length := by simp only [decide_eq_true_eq] at hd4; omega
       have hFi:cD (dO z js) i < z.length:=Na hin
       have hSr:=hS.row hFi
       refine cU (cK (eG (ts (rm rfl (ro rfl (dZ U_103 Z_3 (Ht rfl) (Ht rfl) rfl (dY (pG hin))) (ro rfl (dJ A_3 Z_3 (Ht rfl)) (ra rfl (ra rfl (eX (ts (ro rfl (dJ A_103 Z_103 (Ht rfl)) (ro rfl (dG U_103 (Ht rfl) (by rw [List.length_map,List.length_map,hJl])) ?_))))))))))))
       refine rn rfl (iG (T:=aE Qi.zero) (i:=Tryz.t60) jS gU rfl rfl (Ht rfl) rfl gF (El.ag rfl) (by show 88 * _ ≤ _; omega) zo) fun B92=>ra rfl (eX (cK (ts (ro rfl (dJ A_103 Z_103 (Ht rfl)) (ro rfl (dG U_103 (Ht rfl) (by rw [List.length_map,List.length_map,hJl])) ?_)))))
       refine ro rfl (cX (cJ 0)) (eX (eG ?_))
       refine cI (fun (x : Nat) => x ≤ 2 * js.length) (fun (x : Nat) => 2 * js.length - x) (fun (x : Nat) => [(2, PT (dC z S)), (4, cA B4 0), (6, PT (iM ((iL js).map Nat.succ))), (8, PT (yU Tryz.prog (Fin (2 * js.length)) (fun x => [NT .i64 x.1]) (fun x => aN (S.getD (gq (cL js) (jW x.1)) [])))), (9, cH (nU S (cL js) (2 * js.length))), (10, iM ((dO z js).map Nat.succ)), (11, cA B11 0), (12, NT .i64 j), (16, aN (iE (nU S (cL js) (2 * js.length)) (zA S (cL js) (2 * js.length) ((dO z js).getD j 0)) (2 * js.length))), (18, NT .i64 i), (19, NT .i64 (cD (dO z js) i + 1)), (20, Is B92), (48, iM ((dO z js).map Nat.succ)), (49, NT .i64 ((dO z js).length)), (50, NT .i64 j), (83, iM ((dO z js).map Nat.succ)), (84, NT .i64 ((dO z js).length)), (85, NT .i64 i), (93, iM ((iL js).map Nat.succ)), (94, NT .i64 (2 * js.length)), (95, NT .i64 x)]) (fun (x : Nat) => [box B4 28 [Is (.slice none 0 0), Is (.slice none 0 0)], oE B47 25 60 5 (cO aE (mI (fun i => (mI (fun y => xA S (cL js) (2 * js.length) (cD (dO z js) i) (cD (dO z js) y)) (fun y => gm S (cD (dO z js) i) (cD (dO z js) y)) (dO z js).length (j + 1))) (fun i => (mI (fun y => xA S (cL js) (2 * js.length) (cD (dO z js) i) (cD (dO z js) y)) (fun y => gm S (cD (dO z js) i) (cD (dO z js) y)) (dO z js).length j)) ((dO z js).length) i)), box B11 28 [aN (mF z (dO z js)), Is (.slice (some ⟨B47, 0, none⟩) ((dO z js).length) ((dO z js).length))], bI 60 5 B92 ((kS (fun x => gm S (cD (dO z js) i) (gq (cL js) x)) Qi.zero (2 * js.length) x).map aE)]) 0 (Nat.zero_le _)
        (zS rfl) (aU (aD rfl) (aU (fun _ _ _ h=>h) (aU (aD rfl) (aU (aP (by rw [← iN]; exact nY aE _)) aY)))) (fun x hx1=>?_)
       refine ts (ro rfl (gX (Ht rfl) (Ht rfl)) (eX (cK (dQ (Ht rfl) (fun hd5=>?_) (fun hd5=>?_)))))
       ·have hxm : x < 2 * js.length := by simp only [decide_eq_true_eq] at hd5; omega
        have hat:cD (iL js) x = gq (cL js) x:=Nb hxm
        have hgx:=hj.lt x hxm
        refine cU (cK (eG (ts (rm rfl (ro rfl (dZ U_103 Z_3 (Ht rfl) (Ht rfl) rfl (dY (pG zo))) (ro rfl (dJ A_3 Z_3 (Ht rfl)) (ra rfl (ra rfl (eX (cY (rm rfl (rm rfl (ro rfl (gO cT (Ht rfl) rfl) (ro rfl (dJ A_26 Z_26 (Ht rfl)) (rm rfl (ro rfl (aM.nat (dW (Ht rfl) (cJ 1) zo z6) (show cD (dO z js) i + 1 - 1 = cD (dO z js) i by omega)) (ro rfl (dZ U_26 Z_25 (Ht rfl) (Ht rfl) rfl (dY (dU (d:=[]) (show cD (dO z js) i < S.length by omega)))) ?_)))))))))))))))))
        refine ro rfl (dJ A_25 Z_25 (Ht rfl)) (rm rfl (ro rfl (aM.nat (dW (Ht rfl) (cJ 1) zo z6) (show cD (iL js) x + 1 - 1 = gq (cL js) x by omega)) (ro rfl (dZ U_25 Z_60 (Ht rfl) (Ht rfl) rfl (dY (dU (d:=Qi.zero) (show gq (cL js) x < (S.getD (cD (dO z js) i) []).length by omega)))) (ro rfl (dJ A_60 Z_60 (Ht rfl)) (ro rfl (dA U_25 Z_60 (Ht rfl) (Ht rfl) rfl (i:=3) rfl (by rw [List.length_map,dE]; omega) rfl) ?_)))))
        refine lZ Z_60 (Ht rfl) (Ht rfl) (El.ag rfl) (i:=3) rfl rfl (by rw [List.length_map,dE]; omega) rfl ?_
        refine eX (bN (cY (ro rfl (dV (Ht rfl) (cJ 1) z6) (rm rfl (eX (fU (x + 1) hxm zo (zS rfl) (aU (aD rfl) (aU (fun _ _ _ h=>h) (aU (aD rfl) (aU (aP (by rw [gI]; exact congrArg _ (jU (f:=(fun x=>gm S (cD (dO z js) i) (gq (cL js) x)))))) aY))))))))))
       ·have hxm : x = 2 * js.length := by simp only [decide_eq_false_iff_not] at hd5; omega
        rw [hxm,jT]
        refine gV rfl (gJ (i:=3) (tt:=20) rfl rfl gE (cM [0,1,2] rfl (by decide) (oV 1 (i) rfl (yG hin) (fun v0=>?_))))
        have hrl:=mZ (fun y=>xA S (cL js) (2 * js.length) (cD (dO z js) i) (cD (dO z js) y)) (fun y=>gm S (cD (dO z js) i) (cD (dO z js) y)) ((dO z js).length) j
        have hrf:bH (tab (2 * js.length) (fun x=>gm S (cD (dO z js) i) (gq (cL js) x))) G:=bH.tab fun x _=>(hf.get hL _ _).le zo
        have hro : ((mI (fun y => xA S (cL js) (2 * js.length) (cD (dO z js) i) (cD (dO z js) y)) (fun y => gm S (cD (dO z js) i) (cD (dO z js) y)) (dO z js).length j)).set j (uJ (gm S (cD (dO z js) i) (cD (dO z js) j)) (tab (2 * js.length) (fun x => gm S (cD (dO z js) i) (gq (cL js) x))) (iE (nU S (cL js) (2 * js.length)) (zA S (cL js) (2 * js.length) ((dO z js).getD j 0)) (2 * js.length)) (2 * js.length)) = (mI (fun y => xA S (cL js) (2 * js.length) (cD (dO z js) i) (cD (dO z js) y)) (fun y => gm S (cD (dO z js) i) (cD (dO z js) y)) (dO z js).length (j + 1)) := by
         rw [Xk]; exact rD (f:=fun y=>xA S (cL js) (2 * js.length) (cD (dO z js) i) (cD (dO z js) y))
        refine fZ (m:=17) (dp 11 rfl (eZ cT (Ht rfl) rfl) (dq 114 0 rfl (eY A_26 Z_26 (Ht rfl) (i:=2) rfl rfl) (dp 18 rfl (cX (Ht rfl)) (dH 115 1 116 2 rfl (fY U_26 Z_25 (Ht rfl) (Ht rfl) rfl zo (by rw [Nat.mul_one,Nat.zero_add])) ?_))))
        refine dq 117 3 rfl (lI A_25 Z_25 (Ht rfl) (j:=1) rfl) (dp 12 rfl (cX (Ht rfl)) (dp 11 rfl (eZ cT (Ht rfl) rfl) (dq 120 6 rfl (eY A_26 Z_26 (Ht rfl) (i:=2) rfl rfl) (dp 18 rfl (cX (Ht rfl)) (dH 121 7 122 8 rfl (fY U_26 Z_25 (Ht rfl) (Ht rfl) rfl zo (by rw [Nat.mul_one,Nat.zero_add])) ?_)))))
        refine dq 123 9 rfl (lI A_25 Z_25 (Ht rfl) (j:=1) rfl) (dp 12 rfl (cX (Ht rfl)) (dH 124 10 125 11 rfl (dA U_25 Z_60 (Ht rfl) (Ht rfl) rfl (i:=3) rfl (by simp only [List.length_map,hrl]; omega) rfl) ?_))
        refine dq 126 12 rfl (oN A_60 Z_60 (Ht rfl) (i:=3) rfl rfl (dY (tC hjn))) (dp 20 rfl (cX (Ht rfl)) (dp 16 rfl (cX (Ht rfl)) (C.D_step (Ei:=[(127,_),(128,_),(129,_)]) rfl rfl (bV (bG 13 rfl rfl) (bV (bG 14 rfl rfl) (bV (bG 15 rfl rfl) bW))) (dX rfl (cZ Tryz.call127 (a5Z (x:=gm S (cD (dO z js) i) (cD (dO z js) j)) (l:=tab (2 * js.length) (fun x=>gm S (cD (dO z js) i) (gq (cL js) x))) (m:=iE (nU S (cL js) (2 * js.length)) (zA S (cL js) (2 * js.length) ((dO z js).getD j 0)) (2 * js.length)) (L:=G) (M:=L) (n:=2 * js.length) (hf.get hL _ _) hrf hxf zo (aF _ _) hxl zo zo) ⟨(Ht rfl),(Ht rfl),(Ht rfl),trivial⟩)) ?_)))
        refine fV bB rfl (by kernel_rfl) (zF (zF (zF (zF (aJ (aV (ro rfl (dA U_25 Z_60 (Ht rfl) (Ht rfl) rfl (i:=3) rfl (by simp only [List.length_map,hrl]; omega) rfl) ?_)))))))
        refine lZ Z_60 (Ht rfl) (Ht rfl) (El.ag rfl) (i:=3) rfl rfl (by simp only [List.length_map,hrl]; omega) rfl ?_
        refine eX (kU 1 3 rfl rfl (by decide) (by simp only [cO,List.length_map,mZ]; omega) ?_)
        refine bN (cY (ro rfl (dV (Ht rfl) (cJ 1) z6) (rm rfl (eX (cM [0,1,2] rfl (by decide) (fU (i + 1) hin zo (zS rfl) (aU (aD rfl) (aU (eB (by rw [gI,hro,lK]; exact congrArg _ (rD (f:=fun i=>(mI (fun y=>xA S (cL js) (2 * js.length) (cD (dO z js) i) (cD (dO z js) y)) (fun y=>gm S (cD (dO z js) i) (cD (dO z js) y)) (dO z js).length (j + 1)))))) (aU (aD rfl) aY)))))))))
      ·have hin : i = (dO z js).length := by simp only [decide_eq_false_iff_not] at hd4; omega
       rw [hin,rC]
       refine gV rfl (bN (cY (ro rfl (dV (Ht rfl) (cJ 1) z6) (rm rfl (eX ?_)))))
       refine fU (j + 1) ⟨hjn, fun y h => by
         by_cases e:y = j
         ·rw [e]; exact h5
         ·exact h0 y zo⟩ zo (zS rfl) (aU (aD rfl) (aU (fun _ _ _ h=>h) (aU (aD rfl) aY)))
   ·have hjn : j = (dO z js).length := by simp only [decide_eq_false_iff_not] at hd1; omega
    rw [hjn] at h0
    have h6:Ni z S js = 0:=gL h0
    have he:vF z S js = 0:=(Ng h3 h4).trans (if_pos h6)
    rw [hjn,show (tab ((dO z js).length) fun i=>(mI (fun y=>xA S (cL js) (2 * js.length) (cD (dO z js) i) (cD (dO z js) y)) (fun y=>gm S (cD (dO z js) i) (cD (dO z js) y)) (dO z js).length (dO z js).length)) = zL z S js from bT fun i _=>rC _ _ _]
    refine gV rfl (cK (Be 2 1 1 rfl rfl rfl (by decide) (a67 (q:=fun _=>True) (M:=zL z S js) (aF _ _).symm) (cY (ro rfl (eJ A_28 Z_28 (Ht rfl) (i:=2) rfl rfl rfl) (gQ Z_28 (Ht rfl) (Ht rfl) rfl (i:=0) rfl (aK rfl) rfl rfl (ro rfl (cQ (cJ 0)) (eX (bL rfl (fX (fK A_28 Z_28 rfl (i:=0) rfl rfl) ?_) (fX (eU rfl) ?_)))))))))
    ·exact (fun v V h=>by rw [tV,Cd,iC,iC,he,if_neg h4,if_neg h4]; exact h)
    ·exact (aT he.symm)
end
section
open Go Go.RowKit
theorem a1s {z:List Qi} {s:List (List Qi)} {Q:List Nat} {m:Nat} (hs:cB s z.length z.length) (hQ:∀ x,x ∈ Q → x < z.length) (hm:Q.length = m) (hm2:m ≤ 1000) (hl:z.length ≤ 1000):iV Tryz.prog 125 [dC z s,iM (Q.map Nat.succ)] [] (Nat × Nat) (fun B=>fS [Is (.slice (some ⟨B.1,0,none⟩) m m),Is (.slice (some ⟨B.2,0,none⟩) m m)]) (fun B=>[bI 60 5 (.slice (some ⟨B.1,0,none⟩) m m) ((mF z Q).map aE),oE B.2 25 60 5 (cO aE (pF s Q))]) (fun _=>True):=by
 have hll:(Q.map Nat.succ).length = m:=by rw [List.length_map]; exact hm
 refine iV.intro Tryz.func125 rfl Tryz.ntmps125 rfl (fun cx Z=>(ts (rn rfl (fG (Ht rfl)) fun B2=>(rn rfl (mB (Ht rfl)) fun B3=>(rn rfl (eW (Ts:=[Is (.slice none 0 0),Is (.slice none 0 0)]) O_28 rfl (fun V=>aW zd (aW zd (aG)))) fun B4=>(eX (cK (gJ (i:=1) (tt:=2) rfl rfl jJ (gJ (i:=2) (tt:=3) rfl rfl gY (cY (ro rfl (dJ A_103 Z_103 (Ht rfl)) (ro rfl (dG U_103 (Ht rfl) (by rw [List.length_map,hll])) ?_))))))))))))
 refine rn rfl (Tv (T:=aE Qi.zero) (i:=Tryz.t60) jS gU rfl rfl (Ht rfl) rfl gF (El.ag rfl) (by show 88 * _ ≤ _; omega) zo) fun B10=>ra rfl (eX (cK (ts (ro rfl (dJ A_103 Z_103 (Ht rfl)) (ro rfl (dG U_103 (Ht rfl) (by rw [List.length_map,hll])) ?_)))))
 refine ro rfl (cX (cJ 0)) (eX (eG (cM [0,3,4] rfl (by decide) ?_)))
 refine cI (fun (i : Nat) => i ≤ m) (fun (i : Nat) => m - i) (fun (i : Nat) => [(2, PT (dC z s)), (3, PT (iM (Q.map Nat.succ))), (4, cA B4 0), (5, Is (.slice (some ⟨B10, 0, none⟩) m m)), (11, iM (Q.map Nat.succ)), (12, NT .i64 m), (13, NT .i64 i)]) (fun (i : Nat) => [Z, box B4 28 [Is (.slice none 0 0), Is (.slice none 0 0)], bI 60 5 (.slice (some ⟨B10, 0, none⟩) m m) ((kS (fun i => gv z (cD Q i)) Qi.zero m i).map aE)]) 0 (Nat.zero_le _)
  (zS rfl) (aU (fun _ _ _ h=>h) (aU (fun _ _ _ h=>h) (aU (aP (by rw [← iN]; exact nY aE m)) aY))) (fun i hi=>?_)
 refine ts (ro rfl (gX (Ht rfl) (Ht rfl)) (eX (cK (dQ (Ht rfl) (fun hd=>?_) (fun hd=>?_)))))
 ·simp only [decide_eq_true_eq] at hd
  have hki:cD Q i < z.length:=pU hQ zo
  refine cU (cK (eG (ts (rm rfl (ro rfl (dZ U_103 Z_3 (Ht rfl) (Ht rfl) rfl (dY (pG zo))) (ro rfl (dJ A_3 Z_3 (Ht rfl)) (ra rfl (ra rfl (eX (cY (rm rfl (rm rfl (ro rfl (gO dS (Ht rfl) rfl) (ro rfl (dJ A_25 Z_25 (Ht rfl)) (rm rfl (ro rfl (aM.nat (dW (Ht rfl) (cJ 1) zo z6) (show cD Q i + 1 - 1 = cD Q i by omega)) (ro rfl (dZ U_25 Z_60 (Ht rfl) (Ht rfl) rfl (dY (dU (d:=Qi.zero) hki))) ?_)))))))))))))))))
  refine ro rfl (dJ A_60 Z_60 (Ht rfl)) (ro rfl (dA U_25 Z_60 (Ht rfl) (Ht rfl) rfl (i:=2) rfl (by rw [List.length_map,dE]; omega) rfl) ?_)
  refine lZ Z_60 (Ht rfl) (Ht rfl) (El.ag rfl) (i:=2) rfl rfl (by rw [List.length_map,dE]; omega) rfl ?_
  refine eX (bN (cY (ro rfl (dV (Ht rfl) (cJ 1) z6) (rm rfl (eX (fU (i + 1) hd zo (zS rfl) (aU (fun _ _ _ h=>h) (aU (fun _ _ _ h=>h) (aU (aP (by rw [gI,← jU (f:=(fun i=>gv z (cD Q i)))])) aY)))))))))
 ·simp only [decide_eq_false_iff_not] at hd
  obtain rfl:m = i:=Nat.le_antisymm zo hi
  rw [jT]
  rw [show mF z Q = tab m fun i=>gv z (cD Q i) from by rw [mF,hm],show pF s Q = tab m fun i=>tab m fun j=>gm s (cD Q i) (cD Q j) from by rw [pF,hm]]
  refine gV rfl (ts (rm rfl (ro rfl (dJ A_103 Z_103 (Ht rfl)) (ro rfl (dG U_103 (Ht rfl) (by rw [List.length_map,hll])) ?_))))
  refine ro rfl (lR (γ:=Fin m × Fin m) (Ts:=fun x=>[NT .i64 x.1.1,NT .i64 x.2.1]) (U:=fun x=>aE (gm s (cD Q x.1.1) (cD Q x.2.1))) Tryz.call220 (fun x=>Pf hs hQ hm hm2 hl x.1.2 x.2.2) ⟨(Ht rfl),(Ht rfl),trivial⟩) (mW K_110 (zO (n:=m) (f:=fun i j=>gm s (cD Q i) (cD Q j)) zo) ⟨(Ht rfl),(Ht rfl),trivial⟩ rfl (fun B32 _=>(ro rfl (pO (Ht rfl) (Ht rfl)) (gQ Z_28 (Ht rfl) (Ht rfl) rfl (i:=1) rfl (aK rfl) rfl rfl (eX ?_)))))
  exact kW (B10,B32) trivial [0,2,3] ⟨⟨_,rfl,fun _ _ _ h=>h⟩,⟨_,rfl,fun _ _ _ h=>h⟩,⟨_,rfl,fun _ _ _ h=>h⟩,trivial⟩ (by decide) (xP rfl (fK A_28 Z_28 rfl (i:=1) rfl rfl))
end
section
open Go Go.RowKit
theorem a1o {z : List Qi} {s : List (List Qi)} (hl : z.length ≤ 1000) : bF Tryz.prog 124 [dC z s, Is (.slice none 0 0)] (iM ((eO [] z.length).map Nat.succ)) :=
 (Gf (z := z) (s := s) (G := []) hl (by simp)).arg fun vs V h => match vs, h with
  | [_,b],⟨h1,h2,_⟩=>⟨h1,iP b V h2,trivial⟩
end
section
open Go Go.RowKit
abbrev nb (x:Qi):List Ty:=[aI (decide (x.a < 0)),aS x.a.natAbs,aI (decide (x.b < 0)),aS x.b.natAbs,aS (du x)]
abbrev nbZ:List Ty:=[Is (.bool false),Is (.slice none 0 0),Is (.bool false),Is (.slice none 0 0),Is (.slice none 0 0)]
def fxC (f : List (List Qi)) : Nat → List Ty
 | 0=>nbZ ++ nbZ ++ (nbZ ++ nbZ)
 | 1=>nb (gm f 0 0) ++ nb (gm f 0 1) ++ (nbZ ++ nbZ)
 | _=>nb (gm f 0 0) ++ nb (gm f 0 1) ++ (nb (gm f 1 0) ++ nb (gm f 1 1))
theorem a1R (f : List (List Qi)) : ∀ i, (fxC f i).length = 20
 | 0=>rfl
 | 1=>rfl
 | _ + 2=>rfl
theorem Ya (f : List (List Qi)) : ∀ {i : Nat}, i < 2 → (fxC f i).take (0 + i * 10) ++ (nb (gm f i 0) ++ nb (gm f i 1)) ++ (fxC f i).drop (0 + i * 10 + 10) = fxC f (i + 1)
 | 0,_=>rfl
 | 1,_=>rfl
theorem a6T {f:List (List Qi)} (h:cB f 2 2) {i:Nat} (hi:i < 2):(f.getD i []).map aE = [aE (gm f i 0),aE (gm f i 1)]:=by
 have hl:=h.row hi
 show (f.getD i []).map aE = [aE (gv (f.getD i []) 0),aE (gv (f.getD i []) 1)]
 generalize f.getD i [] = l at hl
 match l,hl with
 | [a,b],_=>rfl
theorem a6N {z fz:List Qi} {port:Int} {x:Nat} (h:fz.length ≠ 2):Dp z fz port x = 4:=if_pos h
theorem a6M {z fz:List Qi} {port:Int} {x:Nat} (h:fz.length = 2) (h2:¬ (1 ≤ port ∧ port ≤ (z.length:Int))):Dp z fz port x = 1:=by rw [Dp,if_neg (fun k=>k h),if_pos h2]
theorem a6O {z fz:List Qi} {port:Int} {x:Nat} (h:fz.length = 2) (h2:1 ≤ port ∧ port ≤ (z.length:Int)):Dp z fz port x = if gv fz (x - 1) = gv z (port - 1).toNat then 0 else 40:=by rw [Dp,if_neg (fun k=>k h),if_neg (fun k=>k h2)]
theorem Mn {fz:List Qi} {f:List (List Qi)} (h2:fz.length = 2) (hf:cB f 2 2):bF Tryz.prog 225 [dC fz f] (eD [fS (fxC f 2),aL .i64 0]):=by
 have hfl:=hf.1
 refine bF.intro Tryz.func225 rfl Tryz.ntmps225 rfl (fun cx=>(ts (rn rfl (fG (Ht rfl)) fun B1=>(rn rfl (eW (Ts:=[Is (.bool false),Is (.slice none 0 0),Is (.bool false),Is (.slice none 0 0),Is (.slice none 0 0),Is (.bool false),Is (.slice none 0 0),Is (.bool false),Is (.slice none 0 0),Is (.slice none 0 0),Is (.bool false),Is (.slice none 0 0),Is (.bool false),Is (.slice none 0 0),Is (.slice none 0 0),Is (.bool false),Is (.slice none 0 0),Is (.bool false),Is (.slice none 0 0),Is (.slice none 0 0)]) O_191 rfl (fun V=>aW zd (aW zd (aW zd (aW zd (aW zd (aW zd (aW zd (aW zd (aW zd (aW zd (aW zd (aW zd (aW zd (aW zd (aW zd (aW zd (aW zd (aW zd (aW zd (aW zd (aG)))))))))))))))))))))) fun B2=>?_))))
 refine ro rfl (cQ (cJ 0)) (eX (ts (rn rfl (eW (Ts:=[Is (.bool false),Is (.slice none 0 0),Is (.bool false),Is (.slice none 0 0),Is (.slice none 0 0),Is (.bool false),Is (.slice none 0 0),Is (.bool false),Is (.slice none 0 0),Is (.slice none 0 0),Is (.bool false),Is (.slice none 0 0),Is (.bool false),Is (.slice none 0 0),Is (.slice none 0 0),Is (.bool false),Is (.slice none 0 0),Is (.bool false),Is (.slice none 0 0),Is (.slice none 0 0)]) O_191 rfl (fun V=>aW zd (aW zd (aW zd (aW zd (aW zd (aW zd (aW zd (aW zd (aW zd (aW zd (aW zd (aW zd (aW zd (aW zd (aW zd (aW zd (aW zd (aW zd (aW zd (aW zd (aG)))))))))))))))))))))) fun B4=>?_)))
 refine eX (cK (ts (ro rfl (eZ dS (Ht rfl) rfl) (ro rfl (eY A_25 Z_25 (Ht rfl) (i:=0) rfl rfl) (ro rfl (dG U_25 (Ht rfl) aC) (ro rfl (lS (Ht rfl) (cJ 2)) (eX (kP (Ht rfl) (by simp [h2]) ?_))))))))
 refine cU (cK (ts (ro rfl (cX (cJ 0)) (eX (eG ?_)))))
 refine cI (fun (i : Nat) => i ≤ 2) (fun (i : Nat) => 2 - i) (fun (i : Nat) => [(1, cA B1 0), (2, cA B2 0), (4, cA B4 0), (11, NT .i64 i)]) (fun (i : Nat) => [box B1 28 [aN fz, cH f], box B2 191 (nbZ ++ nbZ ++ (nbZ ++ nbZ)), box B4 191 (fxC f i)]) 0 (Nat.zero_le _)
  (zS rfl) (aU (aD rfl) (aU (aD rfl) (aU (aD rfl) aY))) (fun i hi=>?_)
 refine ts (ro rfl (gX (Ht rfl) (cJ 2)) (eX (cK (dQ (Ht rfl) (fun hd=>?_) (fun hd=>?_)))))
 ·have hi2 : i < 2 := by simp only [decide_eq_true_eq] at hd; omega
  have hxl:=a1R f i
  refine cU (cK (eG (ts (rm rfl (ra rfl (eX (cY (rm rfl (ro rfl (eZ cT (Ht rfl) rfl) (ro rfl (eY A_26 Z_26 (Ht rfl) (i:=0) rfl rfl) (rm rfl (ro rfl (dZ U_26 Z_25 (Ht rfl) (Ht rfl) rfl (dY (dU (d:=[]) zo))) (ro rfl (dJ A_25 Z_25 (Ht rfl)) (ro rfl (a2B U_190 (bC.to (Ht rfl) (jC (a6T hf hi2))) rfl) (ro rfl (dJ Tryz.isAgg190 Z_190 (Ht rfl)) (ro rfl (kF U_191 Z_190 (Ht rfl) (Ht rfl) rfl zo rfl) ?_))))))))))))))))
  refine gQ Z_190 (Ht rfl) (Ht rfl) rfl (i:=2) rfl (by rw [hxl]; omega) rfl rfl ?_
  refine eX (bN (cY (ro rfl (dV (Ht rfl) (cJ 1) z6) (rm rfl (eX (fU (i + 1) hi2 zo (zS rfl) (aU (aD rfl) (aU (aD rfl) (aU (aD (Ya f hi2)) aY)))))))))
 ·obtain rfl : i = 2 := by simp only [decide_eq_false_iff_not] at hd; omega
  refine gV rfl (ts (ro rfl (eJ A_191 Z_191 (Ht rfl) (i:=2) rfl rfl rfl) (gQ Z_191 (Ht rfl) (Ht rfl) rfl (i:=1) rfl (aK rfl) rfl rfl (ro rfl (cQ (cJ 0)) (eX ?_)))))
  exact bL rfl (fK A_191 Z_191 rfl (i:=1) rfl rfl) (eU rfl)
theorem Mm {fz:List Qi} {f:List (List Qi)} (h2:fz.length ≠ 2):bF Tryz.prog 225 [dC fz f] (eD [fS (fxC [] 0),aL .i64 4]):=by
 refine bF.intro Tryz.func225 rfl Tryz.ntmps225 rfl (fun cx=>(ts (rn rfl (fG (Ht rfl)) fun B1=>(rn rfl (eW (Ts:=[Is (.bool false),Is (.slice none 0 0),Is (.bool false),Is (.slice none 0 0),Is (.slice none 0 0),Is (.bool false),Is (.slice none 0 0),Is (.bool false),Is (.slice none 0 0),Is (.slice none 0 0),Is (.bool false),Is (.slice none 0 0),Is (.bool false),Is (.slice none 0 0),Is (.slice none 0 0),Is (.bool false),Is (.slice none 0 0),Is (.bool false),Is (.slice none 0 0),Is (.slice none 0 0)]) O_191 rfl (fun V=>aW zd (aW zd (aW zd (aW zd (aW zd (aW zd (aW zd (aW zd (aW zd (aW zd (aW zd (aW zd (aW zd (aW zd (aW zd (aW zd (aW zd (aW zd (aW zd (aW zd (aG)))))))))))))))))))))) fun B2=>?_))))
 refine ro rfl (cQ (cJ 0)) (eX (ts (rn rfl (eW (Ts:=[Is (.bool false),Is (.slice none 0 0),Is (.bool false),Is (.slice none 0 0),Is (.slice none 0 0),Is (.bool false),Is (.slice none 0 0),Is (.bool false),Is (.slice none 0 0),Is (.slice none 0 0),Is (.bool false),Is (.slice none 0 0),Is (.bool false),Is (.slice none 0 0),Is (.slice none 0 0),Is (.bool false),Is (.slice none 0 0),Is (.bool false),Is (.slice none 0 0),Is (.slice none 0 0)]) O_191 rfl (fun V=>aW zd (aW zd (aW zd (aW zd (aW zd (aW zd (aW zd (aW zd (aW zd (aW zd (aW zd (aW zd (aW zd (aW zd (aW zd (aW zd (aW zd (aW zd (aW zd (aW zd (aG)))))))))))))))))))))) fun B4=>?_)))
 refine eX (cK (ts (ro rfl (eZ dS (Ht rfl) rfl) (ro rfl (eY A_25 Z_25 (Ht rfl) (i:=0) rfl rfl) (ro rfl (dG U_25 (Ht rfl) aC) (ro rfl (lS (Ht rfl) (cJ 2)) (eX (qA (Ht rfl) (by simp; omega) ?_))))))))
 refine ts (ro rfl (eJ A_191 Z_191 (Ht rfl) (i:=2) rfl rfl rfl) (gQ Z_191 (Ht rfl) (Ht rfl) rfl (i:=1) rfl (aK rfl) rfl rfl (ro rfl (cQ (cJ 4)) (eX ?_))))
 exact bL rfl (fK A_191 Z_191 rfl (i:=1) rfl rfl) (eU rfl)
theorem Si {z fz:List Qi} {s f:List (List Qi)} {port:Int} {x L:Nat} (h2:fz.length = 2) (hf:cB f 2 2) (hx:x = 1 ∨ x = 2) (hfz:bH z L) (hff:bH fz L) (hL:1 ≤ L) (hLb:L ≤ 1000000) (hl:z.length ≤ 1000):bF Tryz.prog 133 [dC z s,aL .i64 port,dC fz f,NT .i64 x] (eD [fS (fxC f 2),aL .i64 (Dp z fz port x)]):=by
 refine bF.intro Tryz.func133 rfl Tryz.ntmps133 rfl (fun cx=>(ts (rn rfl (fG (Ht rfl)) fun B4=>(rn rfl (fG (Ht rfl)) fun B6=>(rn rfl (eW (Ts:=[Is (.bool false),Is (.slice none 0 0),Is (.bool false),Is (.slice none 0 0),Is (.slice none 0 0),Is (.bool false),Is (.slice none 0 0),Is (.bool false),Is (.slice none 0 0),Is (.slice none 0 0),Is (.bool false),Is (.slice none 0 0),Is (.bool false),Is (.slice none 0 0),Is (.slice none 0 0),Is (.bool false),Is (.slice none 0 0),Is (.bool false),Is (.slice none 0 0),Is (.slice none 0 0)]) O_191 rfl (fun V=>aW zd (aW zd (aW zd (aW zd (aW zd (aW zd (aW zd (aW zd (aW zd (aW zd (aW zd (aW zd (aW zd (aW zd (aW zd (aW zd (aW zd (aW zd (aW zd (aW zd (aG)))))))))))))))))))))) fun B8=>?_)))))
 refine ro rfl (cQ (cJ 0)) (eX (ts (ro rfl (eJ A_28 Z_28 (Ht rfl) (i:=1) rfl rfl rfl) (ro rfl (cZ Tryz.call225 (Mn h2 hf) ⟨(Ht rfl),trivial⟩) (rm rfl (ro rfl (dK (Ht rfl) rfl) (ro rfl (dK (Ht rfl) rfl) (rn rfl (eW (Ts:=[Is (.bool false),Is (.slice none 0 0),Is (.bool false),Is (.slice none 0 0),Is (.slice none 0 0),Is (.bool false),Is (.slice none 0 0),Is (.bool false),Is (.slice none 0 0),Is (.slice none 0 0),Is (.bool false),Is (.slice none 0 0),Is (.bool false),Is (.slice none 0 0),Is (.slice none 0 0),Is (.bool false),Is (.slice none 0 0),Is (.bool false),Is (.slice none 0 0),Is (.slice none 0 0)]) O_191 rfl (fun V=>aW zd (aW zd (aW zd (aW zd (aW zd (aW zd (aW zd (aW zd (aW zd (aW zd (aW zd (aW zd (aW zd (aW zd (aW zd (aW zd (aW zd (aW zd (aW zd (aW zd (aG)))))))))))))))))))))) fun B10=>?_))))))))
 refine gQ Z_191 (Ht rfl) (Ht rfl) rfl (i:=3) rfl (aK rfl) rfl rfl (ra rfl (eX (cK (eG (ts (rm rfl (ro rfl (fM (Ht rfl) cV) (ra rfl (eX (kP (Ht rfl) (by rfl) ?_))))))))))
 refine ts (ro rfl (eJ A_28 Z_28 (Ht rfl) (i:=0) rfl rfl rfl) (rm rfl (ro rfl (cZ Tryz.call138 Jh ⟨(Ht rfl),(Ht rfl),trivial⟩) (ro rfl (gG (Ht rfl)) (ra rfl (eX (dQ (Ht rfl) (fun hb=>?_) (fun hb=>?_))))))))
 ·have he := a6M (x := x) h2 (by simpa only [Bool.not_eq_true', decide_eq_false_iff_not] using hb : ¬ (1 ≤ port ∧ port ≤ (z.length : Int)))
  refine ts (ro rfl (eJ A_191 Z_191 (Ht rfl) (i:=3) rfl rfl rfl) (gQ Z_191 (Ht rfl) (Ht rfl) rfl (i:=2) rfl (aK rfl) rfl rfl (ro rfl (cQ (cJ 1)) (eX (bL rfl (fK A_191 Z_191 rfl (i:=2) rfl rfl) (fX (eU rfl) ?_))))))
  exact (aT he.symm)
 ·have hb2 : 1 ≤ port ∧ port ≤ (z.length : Int) := by simpa using hb
  have hd:=a6O (x:=x) h2 hb2
  haveI g1:aH (gv fz (x - 1)) L:=hff.get hL _
  haveI g2:aH (gv z (port - 1).toNat) L:=hfz.get hL _
  refine cK (fZ (m:=12) (dp 6 rfl (eZ dS (Ht rfl) rfl) (dq 29 0 rfl (eY A_25 Z_25 (Ht rfl) (i:=1) rfl rfl) (dp 3 rfl (cX (Ht rfl)) (dq 31 2 rfl (dW (Ht rfl) (cJ 1) zo z6) (dH 30 1 32 3 rfl (dZ U_25 Z_60 (Ht rfl) (Ht rfl) rfl (dY (dU (d:=Qi.zero) zo))) (dq 33 4 rfl (dJ A_60 Z_60 (Ht rfl)) (dp 4 rfl (eZ dS (Ht rfl) rfl) (dq 35 6 rfl (eY A_25 Z_25 (Ht rfl) (i:=0) rfl rfl) ?_)))))))))
  refine dp 1 rfl (cX (Ht rfl)) (dq 37 8 rfl (kX (Ht rfl) cV (r:=(((port - 1).toNat:Nat):Int)) ((Ea (z:=port - 1) zo).trans zo)) ?_)
  refine dH 36 7 38 9 rfl (dZ U_25 Z_60 (Ht rfl) (Ht rfl) rfl (dY (dU (d:=Qi.zero) zo))) (dq 39 10 rfl (dJ A_60 Z_60 (Ht rfl)) (fV bB rfl (by kernel_rfl) (zF (zF (zF (aV (ro rfl (cZ Tryz.call100 (Gd (x:=gv fz (x - 1)) (y:=gv z (port - 1).toNat) (L:=L) (M:=L) zo zo) ⟨(Ht rfl),(Ht rfl),trivial⟩) (ro rfl (gG (Ht rfl)) (ra rfl (eX (dQ (Ht rfl) (fun hc=>?_) (fun hc=>?_))))))))))))
  ·have he : Dp z fz port x = 40 := by rw [hd, if_neg (by simpa using hc)]
   refine ts (ro rfl (eJ A_191 Z_191 (Ht rfl) (i:=3) rfl rfl rfl) (gQ Z_191 (Ht rfl) (Ht rfl) rfl (i:=2) rfl (aK rfl) rfl rfl (ro rfl (cQ (cJ 40)) (eX (bL rfl (fK A_191 Z_191 rfl (i:=2) rfl rfl) (fX (eU rfl) ?_))))))
   exact (aT he.symm)
  ·have he : Dp z fz port x = 0 := by rw [hd, if_pos (by simpa using hc)]
   refine cU (bN (ts (ro rfl (eJ A_191 Z_191 (Ht rfl) (i:=3) rfl rfl rfl) (gQ Z_191 (Ht rfl) (Ht rfl) rfl (i:=2) rfl (aK rfl) rfl rfl (ro rfl (cQ (cJ 0)) (eX (bL rfl (fK A_191 Z_191 rfl (i:=2) rfl rfl) (fX (eU rfl) ?_))))))))
   exact (aT he.symm)
theorem Sh {z fz:List Qi} {s f:List (List Qi)} {port:Int} {x:Nat} (h2:fz.length ≠ 2):bF Tryz.prog 133 [dC z s,aL .i64 port,dC fz f,NT .i64 x] (eD [fS (fxC [] 0),aL .i64 4]):=by
 refine bF.intro Tryz.func133 rfl Tryz.ntmps133 rfl (fun cx=>(ts (rn rfl (fG (Ht rfl)) fun B4=>(rn rfl (fG (Ht rfl)) fun B6=>(rn rfl (eW (Ts:=[Is (.bool false),Is (.slice none 0 0),Is (.bool false),Is (.slice none 0 0),Is (.slice none 0 0),Is (.bool false),Is (.slice none 0 0),Is (.bool false),Is (.slice none 0 0),Is (.slice none 0 0),Is (.bool false),Is (.slice none 0 0),Is (.bool false),Is (.slice none 0 0),Is (.slice none 0 0),Is (.bool false),Is (.slice none 0 0),Is (.bool false),Is (.slice none 0 0),Is (.slice none 0 0)]) O_191 rfl (fun V=>aW zd (aW zd (aW zd (aW zd (aW zd (aW zd (aW zd (aW zd (aW zd (aW zd (aW zd (aW zd (aW zd (aW zd (aW zd (aW zd (aW zd (aW zd (aW zd (aW zd (aG)))))))))))))))))))))) fun B8=>?_)))))
 refine ro rfl (cQ (cJ 0)) (eX (ts (ro rfl (eJ A_28 Z_28 (Ht rfl) (i:=1) rfl rfl rfl) (ro rfl (cZ Tryz.call225 (Mm h2) ⟨(Ht rfl),trivial⟩) (rm rfl (ro rfl (dK (Ht rfl) rfl) (ro rfl (dK (Ht rfl) rfl) (rn rfl (eW (Ts:=[Is (.bool false),Is (.slice none 0 0),Is (.bool false),Is (.slice none 0 0),Is (.slice none 0 0),Is (.bool false),Is (.slice none 0 0),Is (.bool false),Is (.slice none 0 0),Is (.slice none 0 0),Is (.bool false),Is (.slice none 0 0),Is (.bool false),Is (.slice none 0 0),Is (.slice none 0 0),Is (.bool false),Is (.slice none 0 0),Is (.bool false),Is (.slice none 0 0),Is (.slice none 0 0)]) O_191 rfl (fun V=>aW zd (aW zd (aW zd (aW zd (aW zd (aW zd (aW zd (aW zd (aW zd (aW zd (aW zd (aW zd (aW zd (aW zd (aW zd (aW zd (aW zd (aW zd (aW zd (aW zd (aG)))))))))))))))))))))) fun B10=>?_))))))))
 refine gQ Z_191 (Ht rfl) (Ht rfl) rfl (i:=3) rfl (aK rfl) rfl rfl (ra rfl (eX (cK (eG (ts (rm rfl (ro rfl (fM (Ht rfl) cV) (ra rfl (eX (qA (Ht rfl) (by rfl) ?_))))))))))
 refine ts (ro rfl (eJ A_191 Z_191 (Ht rfl) (i:=3) rfl rfl rfl) (rm rfl (gQ Z_191 (Ht rfl) (Ht rfl) rfl (i:=2) rfl (aK rfl) rfl rfl (ra rfl (eX ?_)))))
 exact bL rfl (fK A_191 Z_191 rfl (i:=2) rfl rfl) (eU rfl)
theorem Sl {z:List Qi} {s:List (List Qi)} {p:Nat} {e:Qi} {L M:Nat} (hs:cB s z.length z.length) (hp:p < z.length) (hz:z.length ≤ 1000) (hf:bA s L) (he2:aH e M) (hL:1 ≤ L) (hLb:L + 3 * M + 2 ≤ 1000000) (he:e = Qi.zero):bF Tryz.prog 134 [dC z s,NT .i64 p,aE e] (eD [aN [],aN [],aL .i64 6]):=by
 have hsl:=hs.1
 have hspr:=hs.row hp
 haveI:=he2
 refine bF.intro Tryz.func134 rfl Tryz.ntmps134 rfl (fun cx=>(ts (rn rfl (fG (Ht rfl)) fun B3=>(rn rfl (fG (Ht rfl)) fun B5=>(ro rfl (cQ cV) (ro rfl (cQ cV) (ro rfl (cQ (cJ 0)) (eX (cK (cK (uL 60 5 (uL 60 5 (cY (ro rfl (eZ cT (Ht rfl) rfl) (ro rfl (eY A_26 Z_26 (Ht rfl) (i:=0) rfl rfl) (ro rfl (dG U_26 (Ht rfl) (by rw [List.length_map,hsl])) ?_))))))))))))))))
 refine ro rfl (cX (cJ 0)) (eX (eG ?_))
 refine oW (fun (i : Nat) (vU : Value) (vV : Value) => i = 0) (fun (i : Nat) (vU : Value) (vV : Value) => z.length - i) (fun (i : Nat) (vU : Value) (vV : Value) => [(1, NT .i64 p), (3, cA B3 0), (5, cA B5 0), (6, Is vU), (7, Is vV), (8, NT .i64 0), (16, NT .i64 z.length), (17, NT .i64 i)]) (fun (i : Nat) (vU : Value) (vV : Value) => [box B3 28 [aN z, cH s], box B5 60 (nb e), bI 60 5 vU ((tab i (fun i => gm s i p / e)).map aE), bI 60 5 vV ((tab i (fun i => gm s p i / e)).map aE)]) 0 _ _ rfl
  (zS rfl) (aU (aD rfl) (aU (aD rfl) (aU (aP rfl) (aU (aP rfl) aY)))) (fun i vU vV hi=>?_)
 refine ts (ro rfl (gX (Ht rfl) (Ht rfl)) (eX (cK (dQ (Ht rfl) (fun hd=>?_) (fun hd=>?_)))))
 ·have hin : i < z.length := by simp only [decide_eq_true_eq] at hd; omega
  have hsr:=hs.row hin
  haveI g1:aH (gm s i p) L:=hf.get hL _ _
  haveI g2:aH (gm s p i) L:=hf.get hL _ _
  refine cU (cK (eG (ts (rm rfl (ra rfl (eX (cK (Y.D_start (m:=16) [] (bY (Ei:=[(3,_)]) rfl rfl (bQ (bJ rfl rfl) bX) rfl rfl (dX rfl (eZ cT (Ht rfl) rfl)) (bY (Ei:=[(21,_)]) rfl rfl (bQ (bZ 0 rfl rfl) bX) rfl rfl (dX rfl (eY A_26 Z_26 (Ht rfl) (i:=0) rfl rfl)) (bY (Ei:=[(9,_)]) rfl rfl (bQ (bJ rfl rfl) bX) rfl rfl (dX rfl (cX (Ht rfl))) (bY (Ei:=[(22,_),(23,_)]) rfl rfl (bQ (bZ 1 rfl rfl) (bQ (bZ 2 rfl rfl) bX)) rfl rfl (dX rfl (dZ U_26 Z_25 (Ht rfl) (Ht rfl) rfl (dY (dU (d:=[]) zo)))) ?_))))))))))))
  refine bY (Ei:=[(24,_)]) rfl rfl (bQ (bZ 3 rfl rfl) bX) rfl rfl (dX rfl (dJ A_25 Z_25 (Ht rfl))) (bY (Ei:=[(1,_)]) rfl rfl (bQ (bJ rfl rfl) bX) rfl rfl (dX rfl (cX (Ht rfl))) (bY (Ei:=[(25,_),(26,_)]) rfl rfl (bQ (bZ 4 rfl rfl) (bQ (bZ 5 rfl rfl) bX)) rfl rfl (dX rfl (dZ U_25 Z_60 (Ht rfl) (Ht rfl) rfl (dY (dU (d:=Qi.zero) zo)))) (bY (Ei:=[(27,_)]) rfl rfl (bQ (bZ 6 rfl rfl) bX) rfl rfl (dX rfl (dJ A_60 Z_60 (Ht rfl))) ?_)))
  refine bY (Ei:=[(28,_)]) rfl rfl (bQ (bZ 7 rfl rfl) bX) rfl rfl (dX rfl (bE bP (Ht rfl))) (bY (Ei:=[(5,_)]) rfl rfl (bQ (bJ rfl rfl) bX) rfl rfl (dX rfl (eJ A_60 Z_60 (Ht rfl) (i:=1) rfl rfl rfl)) (bY (Ei:=[(29,_),(30,_)]) rfl rfl (bQ (bZ 8 rfl rfl) (bQ (bZ 9 rfl rfl) bX)) rfl rfl (dX rfl (aR kO K_64 (qR (x:=gm s i p) (y:=e) (L:=L) (M:=M) zo) (Ht rfl) ⟨(Ht rfl),trivial⟩)) (bY (Ei:=[(31,_)]) rfl rfl (bQ (bZ 10 rfl rfl) bX) rfl rfl (dX rfl (cX (Ht rfl))) ?_)))
  refine bY (Ei:=[(20,_)]) rfl rfl (bQ (bZ 11 rfl rfl) bX) rfl rfl (dX rfl (dK (Ht rfl) rfl)) (bY (Ei:=[(20,_)]) rfl rfl (bQ (bZ 11 rfl rfl) bX) rfl rfl (dX rfl (dK (Ht rfl) rfl)) (Y.D_newp (Ei:=[]) (fun bb=>box bb 60 (nb (gm s i p / e))) 15 rfl rfl rfl bX rfl rfl (by kernel_rfl) (eW (Ts:=[Is (.bool false),Is (.slice none 0 0),Is (.bool false),Is (.slice none 0 0),Is (.slice none 0 0)]) O_60 rfl (fun V=>aW zd (aW zd (aW zd (aW zd (aW zd (aG))))))) ?_))
  refine Y.D_putN (Ei:=[(32,_)]) 14 rfl rfl rfl rfl rfl rfl (bQ (bZ 12 rfl rfl) bX) (fun bb=>mK Z_60 (Ht rfl) (Ht rfl) rfl (i:=0) rfl (aK rfl) rfl rfl) (Y.D_done bB rfl (by kernel_rfl) rfl (by simp [Y.okP]) rfl rfl (bU (bU (bU (bU (bU (bU (bU (bU (bU (bU (bU (bU (bU (bU (Y.F_newp (fun B10=>Y.F_putN (Y.F_nil ?_))))))))))))))))))
  refine ra rfl (eX (cK (gJ (i:=4) (tt:=10) rfl rfl jJ (cM [0,1,2,3] rfl (by decide) (Y.D_start (m:=16) [] (bY (Ei:=[(3,_)]) rfl rfl (bQ (bJ rfl rfl) bX) rfl rfl (dX rfl (eZ cT (Ht rfl) rfl)) (bY (Ei:=[(35,_)]) rfl rfl (bQ (bZ 0 rfl rfl) bX) rfl rfl (dX rfl (eY A_26 Z_26 (Ht rfl) (i:=0) rfl rfl)) (bY (Ei:=[(1,_)]) rfl rfl (bQ (bJ rfl rfl) bX) rfl rfl (dX rfl (cX (Ht rfl))) (bY (Ei:=[(36,_),(37,_)]) rfl rfl (bQ (bZ 1 rfl rfl) (bQ (bZ 2 rfl rfl) bX)) rfl rfl (dX rfl (dZ U_26 Z_25 (Ht rfl) (Ht rfl) rfl (dY (dU (d:=[]) zo)))) ?_)))))))))
  refine bY (Ei:=[(38,_)]) rfl rfl (bQ (bZ 3 rfl rfl) bX) rfl rfl (dX rfl (dJ A_25 Z_25 (Ht rfl))) (bY (Ei:=[(9,_)]) rfl rfl (bQ (bJ rfl rfl) bX) rfl rfl (dX rfl (cX (Ht rfl))) (bY (Ei:=[(39,_),(40,_)]) rfl rfl (bQ (bZ 4 rfl rfl) (bQ (bZ 5 rfl rfl) bX)) rfl rfl (dX rfl (dZ U_25 Z_60 (Ht rfl) (Ht rfl) rfl (dY (dU (d:=Qi.zero) zo)))) (bY (Ei:=[(41,_)]) rfl rfl (bQ (bZ 6 rfl rfl) bX) rfl rfl (dX rfl (dJ A_60 Z_60 (Ht rfl))) ?_)))
  refine bY (Ei:=[(42,_)]) rfl rfl (bQ (bZ 7 rfl rfl) bX) rfl rfl (dX rfl (bE bP (Ht rfl))) (bY (Ei:=[(5,_)]) rfl rfl (bQ (bJ rfl rfl) bX) rfl rfl (dX rfl (eJ A_60 Z_60 (Ht rfl) (i:=1) rfl rfl rfl)) (bY (Ei:=[(43,_),(44,_)]) rfl rfl (bQ (bZ 8 rfl rfl) (bQ (bZ 9 rfl rfl) bX)) rfl rfl (dX rfl (aR kO K_64 (qR (x:=gm s p i) (y:=e) (L:=L) (M:=M) zo) (Ht rfl) ⟨(Ht rfl),trivial⟩)) (bY (Ei:=[(45,_)]) rfl rfl (bQ (bZ 10 rfl rfl) bX) rfl rfl (dX rfl (cX (Ht rfl))) ?_)))
  refine bY (Ei:=[(34,_)]) rfl rfl (bQ (bZ 11 rfl rfl) bX) rfl rfl (dX rfl (dK (Ht rfl) rfl)) (bY (Ei:=[(34,_)]) rfl rfl (bQ (bZ 11 rfl rfl) bX) rfl rfl (dX rfl (dK (Ht rfl) rfl)) (Y.D_newp (Ei:=[]) (fun bb=>box bb 60 (nb (gm s p i / e))) 15 rfl rfl rfl bX rfl rfl (by kernel_rfl) (eW (Ts:=[Is (.bool false),Is (.slice none 0 0),Is (.bool false),Is (.slice none 0 0),Is (.slice none 0 0)]) O_60 rfl (fun V=>aW zd (aW zd (aW zd (aW zd (aW zd (aG))))))) ?_))
  refine Y.D_putN (Ei:=[(46,_)]) 14 rfl rfl rfl rfl rfl rfl (bQ (bZ 12 rfl rfl) bX) (fun bb=>mK Z_60 (Ht rfl) (Ht rfl) rfl (i:=0) rfl (aK rfl) rfl rfl) (Y.D_done bB rfl (by kernel_rfl) rfl (by simp [Y.okP]) rfl rfl (bU (bU (bU (bU (bU (bU (bU (bU (bU (bU (bU (bU (bU (bU (Y.F_newp (fun B12=>Y.F_putN (Y.F_nil ?_))))))))))))))))))
  refine ra rfl (eX (cK (cK (gJ (i:=4) (tt:=12) rfl rfl jJ (cM [0,1,2,3] rfl (by decide) (cY (rm rfl (ro rfl (fM (Ht rfl) cV) (rm rfl (fQ rfl rfl (eK rfl rfl (Ht rfl) (fun h=>cX (Ht rfl))) (fQ rfl rfl (eK rfl rfl (Ht rfl) (fun h=>fM (fJ rfl h) cV)) (ro rfl (nD (Ht rfl) (fun h=>(fJ rfl h))) (eX (qA (Ht rfl) (by simp [he]) ?_))))))))))))))
  refine ts (ro rfl (cQ cV) (ro rfl (cQ cV) (ro rfl (cQ (cJ 6)) (eX (xX rfl (fX (eU rfl) ?_) (fX (eU rfl) ?_) (eU rfl))))))
  ·exact iP
  ·exact iP
 ·exact absurd hd (by simp; omega)
theorem Sm {z:List Qi} {s:List (List Qi)} {p:Nat} {e:Qi} {L M:Nat} (hs:cB s z.length z.length) (hp:p < z.length) (hz:z.length ≤ 1000) (hf:bA s L) (he2:aH e M) (hL:1 ≤ L) (hLb:L + 3 * M + 2 ≤ 1000000) (he:e ≠ Qi.zero):bF Tryz.prog 134 [dC z s,NT .i64 p,aE e] (eD [aN (tab z.length (fun i=>gm s i p / e)),aN (tab z.length (fun i=>gm s p i / e)),aL .i64 0]):=by
 have hsl:=hs.1
 have hspr:=hs.row hp
 haveI:=he2
 refine bF.intro Tryz.func134 rfl Tryz.ntmps134 rfl (fun cx=>(ts (rn rfl (fG (Ht rfl)) fun B3=>(rn rfl (fG (Ht rfl)) fun B5=>(ro rfl (cQ cV) (ro rfl (cQ cV) (ro rfl (cQ (cJ 0)) (eX (cK (cK (uL 60 5 (uL 60 5 (cY (ro rfl (eZ cT (Ht rfl) rfl) (ro rfl (eY A_26 Z_26 (Ht rfl) (i:=0) rfl rfl) (ro rfl (dG U_26 (Ht rfl) (by rw [List.length_map,hsl])) ?_))))))))))))))))
 refine ro rfl (cX (cJ 0)) (eX (eG ?_))
 refine oW (fun (i : Nat) (vU : Value) (vV : Value) => i ≤ z.length) (fun (i : Nat) (vU : Value) (vV : Value) => z.length - i) (fun (i : Nat) (vU : Value) (vV : Value) => [(1, NT .i64 p), (3, cA B3 0), (5, cA B5 0), (6, Is vU), (7, Is vV), (8, NT .i64 0), (16, NT .i64 z.length), (17, NT .i64 i)]) (fun (i : Nat) (vU : Value) (vV : Value) => [box B3 28 [aN z, cH s], box B5 60 (nb e), bI 60 5 vU ((tab i (fun i => gm s i p / e)).map aE), bI 60 5 vV ((tab i (fun i => gm s p i / e)).map aE)]) 0 _ _ (Nat.zero_le _)
  (zS rfl) (aU (aD rfl) (aU (aD rfl) (aU (aP rfl) (aU (aP rfl) aY)))) (fun i vU vV hi=>?_)
 refine ts (ro rfl (gX (Ht rfl) (Ht rfl)) (eX (cK (dQ (Ht rfl) (fun hd=>?_) (fun hd=>?_)))))
 ·have hin : i < z.length := by simp only [decide_eq_true_eq] at hd; omega
  have hsr:=hs.row hin
  haveI g1:aH (gm s i p) L:=hf.get hL _ _
  haveI g2:aH (gm s p i) L:=hf.get hL _ _
  refine cU (cK (eG (ts (rm rfl (ra rfl (eX (cK (Y.D_start (m:=16) [] (bY (Ei:=[(3,_)]) rfl rfl (bQ (bJ rfl rfl) bX) rfl rfl (dX rfl (eZ cT (Ht rfl) rfl)) (bY (Ei:=[(21,_)]) rfl rfl (bQ (bZ 0 rfl rfl) bX) rfl rfl (dX rfl (eY A_26 Z_26 (Ht rfl) (i:=0) rfl rfl)) (bY (Ei:=[(9,_)]) rfl rfl (bQ (bJ rfl rfl) bX) rfl rfl (dX rfl (cX (Ht rfl))) (bY (Ei:=[(22,_),(23,_)]) rfl rfl (bQ (bZ 1 rfl rfl) (bQ (bZ 2 rfl rfl) bX)) rfl rfl (dX rfl (dZ U_26 Z_25 (Ht rfl) (Ht rfl) rfl (dY (dU (d:=[]) zo)))) ?_))))))))))))
  refine bY (Ei:=[(24,_)]) rfl rfl (bQ (bZ 3 rfl rfl) bX) rfl rfl (dX rfl (dJ A_25 Z_25 (Ht rfl))) (bY (Ei:=[(1,_)]) rfl rfl (bQ (bJ rfl rfl) bX) rfl rfl (dX rfl (cX (Ht rfl))) (bY (Ei:=[(25,_),(26,_)]) rfl rfl (bQ (bZ 4 rfl rfl) (bQ (bZ 5 rfl rfl) bX)) rfl rfl (dX rfl (dZ U_25 Z_60 (Ht rfl) (Ht rfl) rfl (dY (dU (d:=Qi.zero) zo)))) (bY (Ei:=[(27,_)]) rfl rfl (bQ (bZ 6 rfl rfl) bX) rfl rfl (dX rfl (dJ A_60 Z_60 (Ht rfl))) ?_)))
  refine bY (Ei:=[(28,_)]) rfl rfl (bQ (bZ 7 rfl rfl) bX) rfl rfl (dX rfl (bE bP (Ht rfl))) (bY (Ei:=[(5,_)]) rfl rfl (bQ (bJ rfl rfl) bX) rfl rfl (dX rfl (eJ A_60 Z_60 (Ht rfl) (i:=1) rfl rfl rfl)) (bY (Ei:=[(29,_),(30,_)]) rfl rfl (bQ (bZ 8 rfl rfl) (bQ (bZ 9 rfl rfl) bX)) rfl rfl (dX rfl (aR kO K_64 (qR (x:=gm s i p) (y:=e) (L:=L) (M:=M) zo) (Ht rfl) ⟨(Ht rfl),trivial⟩)) (bY (Ei:=[(31,_)]) rfl rfl (bQ (bZ 10 rfl rfl) bX) rfl rfl (dX rfl (cX (Ht rfl))) ?_)))
  refine bY (Ei:=[(20,_)]) rfl rfl (bQ (bZ 11 rfl rfl) bX) rfl rfl (dX rfl (dK (Ht rfl) rfl)) (bY (Ei:=[(20,_)]) rfl rfl (bQ (bZ 11 rfl rfl) bX) rfl rfl (dX rfl (dK (Ht rfl) rfl)) (Y.D_newp (Ei:=[]) (fun bb=>box bb 60 (nb (gm s i p / e))) 15 rfl rfl rfl bX rfl rfl (by kernel_rfl) (eW (Ts:=[Is (.bool false),Is (.slice none 0 0),Is (.bool false),Is (.slice none 0 0),Is (.slice none 0 0)]) O_60 rfl (fun V=>aW zd (aW zd (aW zd (aW zd (aW zd (aG))))))) ?_))
  refine Y.D_putN (Ei:=[(32,_)]) 14 rfl rfl rfl rfl rfl rfl (bQ (bZ 12 rfl rfl) bX) (fun bb=>mK Z_60 (Ht rfl) (Ht rfl) rfl (i:=0) rfl (aK rfl) rfl rfl) (Y.D_done bB rfl (by kernel_rfl) rfl (by simp [Y.okP]) rfl rfl (bU (bU (bU (bU (bU (bU (bU (bU (bU (bU (bU (bU (bU (bU (Y.F_newp (fun B10=>Y.F_putN (Y.F_nil ?_))))))))))))))))))
  refine ra rfl (eX (cK (gJ (i:=4) (tt:=10) rfl rfl jJ (cM [0,1,2,3] rfl (by decide) (Y.D_start (m:=16) [] (bY (Ei:=[(3,_)]) rfl rfl (bQ (bJ rfl rfl) bX) rfl rfl (dX rfl (eZ cT (Ht rfl) rfl)) (bY (Ei:=[(35,_)]) rfl rfl (bQ (bZ 0 rfl rfl) bX) rfl rfl (dX rfl (eY A_26 Z_26 (Ht rfl) (i:=0) rfl rfl)) (bY (Ei:=[(1,_)]) rfl rfl (bQ (bJ rfl rfl) bX) rfl rfl (dX rfl (cX (Ht rfl))) (bY (Ei:=[(36,_),(37,_)]) rfl rfl (bQ (bZ 1 rfl rfl) (bQ (bZ 2 rfl rfl) bX)) rfl rfl (dX rfl (dZ U_26 Z_25 (Ht rfl) (Ht rfl) rfl (dY (dU (d:=[]) zo)))) ?_)))))))))
  refine bY (Ei:=[(38,_)]) rfl rfl (bQ (bZ 3 rfl rfl) bX) rfl rfl (dX rfl (dJ A_25 Z_25 (Ht rfl))) (bY (Ei:=[(9,_)]) rfl rfl (bQ (bJ rfl rfl) bX) rfl rfl (dX rfl (cX (Ht rfl))) (bY (Ei:=[(39,_),(40,_)]) rfl rfl (bQ (bZ 4 rfl rfl) (bQ (bZ 5 rfl rfl) bX)) rfl rfl (dX rfl (dZ U_25 Z_60 (Ht rfl) (Ht rfl) rfl (dY (dU (d:=Qi.zero) zo)))) (bY (Ei:=[(41,_)]) rfl rfl (bQ (bZ 6 rfl rfl) bX) rfl rfl (dX rfl (dJ A_60 Z_60 (Ht rfl))) ?_)))
  refine bY (Ei:=[(42,_)]) rfl rfl (bQ (bZ 7 rfl rfl) bX) rfl rfl (dX rfl (bE bP (Ht rfl))) (bY (Ei:=[(5,_)]) rfl rfl (bQ (bJ rfl rfl) bX) rfl rfl (dX rfl (eJ A_60 Z_60 (Ht rfl) (i:=1) rfl rfl rfl)) (bY (Ei:=[(43,_),(44,_)]) rfl rfl (bQ (bZ 8 rfl rfl) (bQ (bZ 9 rfl rfl) bX)) rfl rfl (dX rfl (aR kO K_64 (qR (x:=gm s p i) (y:=e) (L:=L) (M:=M) zo) (Ht rfl) ⟨(Ht rfl),trivial⟩)) (bY (Ei:=[(45,_)]) rfl rfl (bQ (bZ 10 rfl rfl) bX) rfl rfl (dX rfl (cX (Ht rfl))) ?_)))
  refine bY (Ei:=[(34,_)]) rfl rfl (bQ (bZ 11 rfl rfl) bX) rfl rfl (dX rfl (dK (Ht rfl) rfl)) (bY (Ei:=[(34,_)]) rfl rfl (bQ (bZ 11 rfl rfl) bX) rfl rfl (dX rfl (dK (Ht rfl) rfl)) (Y.D_newp (Ei:=[]) (fun bb=>box bb 60 (nb (gm s p i / e))) 15 rfl rfl rfl bX rfl rfl (by kernel_rfl) (eW (Ts:=[Is (.bool false),Is (.slice none 0 0),Is (.bool false),Is (.slice none 0 0),Is (.slice none 0 0)]) O_60 rfl (fun V=>aW zd (aW zd (aW zd (aW zd (aW zd (aG))))))) ?_))
  refine Y.D_putN (Ei:=[(46,_)]) 14 rfl rfl rfl rfl rfl rfl (bQ (bZ 12 rfl rfl) bX) (fun bb=>mK Z_60 (Ht rfl) (Ht rfl) rfl (i:=0) rfl (aK rfl) rfl rfl) (Y.D_done bB rfl (by kernel_rfl) rfl (by simp [Y.okP]) rfl rfl (bU (bU (bU (bU (bU (bU (bU (bU (bU (bU (bU (bU (bU (bU (Y.F_newp (fun B12=>Y.F_putN (Y.F_nil ?_))))))))))))))))))
  refine ra rfl (eX (cK (cK (gJ (i:=4) (tt:=12) rfl rfl jJ (cM [0,1,2,3] rfl (by decide) (cY (rm rfl (ro rfl (fM (Ht rfl) cV) (rm rfl (fQ rfl rfl (eK rfl rfl (Ht rfl) (fun h=>cX (Ht rfl))) (fQ rfl rfl (eK rfl rfl (Ht rfl) (fun h=>fM (fJ rfl h) cV)) (ro rfl (nD (Ht rfl) (fun h=>(fJ rfl h))) (eX (kP (Ht rfl) (by simp [he]) ?_))))))))))))))
  refine cU (Y.D_startA (m:=7) [] 3 2 rfl rfl (bY (Ei:=[(6,_)]) rfl rfl (bQ (bJ rfl rfl) bX) rfl rfl (dX rfl (cX (Ht rfl))) (bY (Ei:=[(10,_)]) rfl rfl (bQ (bJ rfl rfl) bX) rfl rfl (dX rfl (dJ A_60 Z_60 (Ht rfl))) (bY (Ei:=[(55,_)]) rfl rfl (bQ (bZ 1 rfl rfl) bX) rfl rfl (dX rfl (eH (xs:=[.tmp 55]) U_25 Z_60 O_60 (cW (Ht rfl) cG) rfl rfl rfl)) (Y.D_app (Ei:=[(54,_),(56,_)]) rfl rfl rfl rfl (bQ (bZ 0 rfl rfl) (bQ (bZ 2 rfl rfl) bX)) rfl (Ay (inf:=Tryz.t60) jS gU rfl rfl rfl (Ht rfl) (Ht rfl) (by simp) (fun T hT=>by simp at hT; subst hT; exact El.ag rfl) (by show _ * 88 ≤ _; simp only [List.length_map,aF,List.length_cons,List.length_nil]; omega) (by simp only [List.length_map,aF,List.length_cons,List.length_nil]; omega)) ?_)))))
  refine bY (Ei:=[(7,_)]) rfl rfl (bQ (bJ rfl rfl) bX) rfl rfl (dX rfl (cX (Ht rfl))) (bY (Ei:=[(12,_)]) rfl rfl (bQ (bJ rfl rfl) bX) rfl rfl (dX rfl (dJ A_60 Z_60 (Ht rfl))) (bY (Ei:=[(59,_)]) rfl rfl (bQ (bZ 5 rfl rfl) bX) rfl rfl (dX rfl (eH (xs:=[.tmp 59]) U_25 Z_60 O_60 (cW (Ht rfl) cG) rfl rfl rfl)) (Y.D_done bB rfl (by kernel_rfl) rfl (by simp [Y.okP]) rfl rfl (bU (bU (bU (Y.F_app (fun v2=>bU (bU (bU (Y.F_nil ?_)))))))))))
  refine sJ (inf:=Tryz.t60) jS gU rfl rfl rfl (Ht rfl) (Ht rfl) (i:=3) rfl (by simp) (fun T hT=>by simp at hT; subst hT; exact El.ag rfl) (by show _ * 88 ≤ _; simp only [List.length_map,aF,List.length_cons,List.length_nil]; omega) (by simp only [List.length_map,aF,List.length_cons,List.length_nil]; omega) rfl (fun v3=>?_)
  refine ra rfl (ra rfl (eX (bN (cY (ro rfl (dV (Ht rfl) (cJ 1) z6) (rm rfl (eX ?_)))))))
  refine cM [0,1,4,3] rfl (by decide) (fU (i + 1,v2,v3) hin (by dsimp only; omega) (zS rfl) (aU (aD rfl) (aU (aD rfl) (aU (aP (by rw [lM,List.map_append]; rfl)) (aU (aP (by rw [lM,List.map_append]; rfl)) aY)))))
 ·obtain rfl : i = z.length := by simp only [decide_eq_false_iff_not] at hd; omega
  refine gV rfl (cK (gJ (i:=2) (tt:=6) rfl rfl gE (gJ (i:=3) (tt:=7) rfl rfl gE (cY (rm rfl (rm rfl (ra rfl (ra rfl (ro rfl (cQ (cJ 0)) (eX ?_))))))))))
  exact xX rfl (eU rfl) (eU rfl) (eU rfl)
theorem a4e {z:List Qi} {s:List (List Qi)} {p:Nat} {x:Qi} {F:Nat → Nat → Qi} (hs:cB s z.length z.length) (hp:p < z.length) (hz:z.length ≤ 1000):bF Tryz.prog 135 [dC z s,NT .i64 p,aE x,yU Tryz.prog (Fin z.length × Fin z.length) (fun x=>[NT .i64 x.1.1,NT .i64 x.2.1]) (fun x=>aE (F x.1.1 x.2.1))] (dC (z.set p x) (tab z.length fun i=>tab z.length fun j=>F i j)):=by
 refine bF.intro Tryz.func135 rfl Tryz.ntmps135 rfl (fun cx=>(ts (rn rfl (fG (Ht rfl)) fun B4=>(rn rfl (fG (Ht rfl)) fun B6=>(rn rfl (eW (Ts:=[Is (.slice none 0 0),Is (.slice none 0 0)]) O_28 rfl (fun V=>aW zd (aW zd (aG)))) fun B8=>(eX (cK (fZ (m:=5) (dp 4 rfl (eJ A_28 Z_28 (Ht rfl) (i:=0) rfl rfl rfl) (dp 4 rfl (eJ A_28 Z_28 (Ht rfl) (i:=0) rfl rfl rfl) (dq 11 1 rfl (cZ Tryz.call124 (a1o (z:=z) (s:=s) zo) ⟨(Ht rfl),cV,trivial⟩) ?_)))))))))))
 refine C.D_new (Ei:=[(10,_),(12,_)]) rfl rfl rfl (bV (bG 0 rfl rfl) (bV (bG 2 rfl rfl) bW)) (Fd Tryz.call125 (iV.pack (a1s (z:=z) (s:=s) (Q:=eO [] z.length) (m:=z.length) hs (fun x h=>yJ h) (Ot _) zo zo)) ⟨(Ht rfl),(Ht rfl),trivial⟩) (C.D_new (Ei:=[]) rfl rfl rfl bW (eW (Ts:=[Is (.slice none 0 0),Is (.slice none 0 0)]) O_28 rfl (fun V=>aW zd (aW zd (aG)))) (fV bB rfl (by kernel_rfl) (aJ (aJ (aJ (C.F_new (fun B13=>C.F_new (fun B9=>aV ?_))))))))
 refine gQ Z_28 (Ht rfl) (Ht rfl) rfl (i:=4) rfl (aK rfl) rfl rfl (eX (cK (cM [3,0,1,2,4] rfl (by decide) ?_)))
 obtain ⟨⟨vZ,bS⟩,hQ⟩:=B13
 refine a3X (X:=[SA.emp,bI 60 5 (.slice (some ⟨vZ,0,none⟩) z.length z.length) ((mF z (eO [] z.length)).map aE),oE bS 25 60 5 (cO aE (pF s (eO [] z.length)))]) (Y:=[box B4 28 [aN z,cH s],box B6 60 (nb x),box B8 28 [Is (.slice none 0 0),Is (.slice none 0 0)],box B9 28 [Is (.slice (some ⟨vZ,0,none⟩) z.length z.length),Is (.slice (some ⟨bS,0,none⟩) z.length z.length)]]) (cM [1,3,4,5,6] rfl (by decide) (pN 0 rfl (aP (congrArg (List.map aE) a18)) (cY (ro rfl (eZ dS (Ht rfl) rfl) (ro rfl (a2x A_25 Z_25 (Ht rfl) (i:=4) rfl rfl) ?_)))))
 refine rm rfl (ro rfl (eJ A_60 Z_60 (Ht rfl) (i:=2) rfl rfl rfl) (ro rfl (dA U_25 Z_60 (Ht rfl) (Ht rfl) rfl (i:=0) rfl (by rw [List.length_map]; omega) rfl) ?_))
 refine lZ Z_60 (Ht rfl) (Ht rfl) (El.ag rfl) (i:=0) rfl rfl (by rw [List.length_map]; omega) rfl ?_
 refine eX (ts (ro rfl (eZ dS (Ht rfl) rfl) (ro rfl (eY A_25 Z_25 (Ht rfl) (i:=1) rfl rfl) (ro rfl (dG U_25 (Ht rfl) aC) (rm rfl (ro rfl (cZ K_110 (uY (n:=z.length) (f:=F) zo) ⟨(Ht rfl),(Ht rfl),trivial⟩) (ro rfl (eZ cT (Ht rfl) rfl) (oK Z_26 (Ht rfl) (Ht rfl) (i:=4) rfl (aK rfl) rfl (eX (cK (pN 0 rfl (aP (gI aE z p x)) (Sb 4 0 0 rfl rfl rfl (by decide) (cY (ro rfl (eJ A_28 Z_28 (Ht rfl) (i:=4) rfl rfl rfl) ?_))))))))))))))
 refine gQ Z_28 (Ht rfl) (Ht rfl) rfl (i:=3) rfl (aK rfl) rfl rfl (eX ?_)
 exact fW rfl (fK A_28 Z_28 rfl (i:=3) rfl rfl)
end
section
open Go Go.RowKit
theorem a0N {n i:Nat} {f:Nat → Qi} (h:i < n):(tab n f).getD i Qi.zero = f i:=fC h
theorem Gp {s f:List (List Qi)} {p L:Nat} (hs:bA s L) (hf:bA f L) (hL:1 ≤ L):aH (nF s f p) (2 * L + 3):=by
 haveI:=hs.get hL p p; haveI:=hf.get hL 1 1; haveI:=jH
 exact (inferInstance:aH (Qi.ofInt 1 - gm f 1 1 * gm s p p) (1 + (L + L + 1) + 1)).le zo
theorem Xs {s f:List (List Qi)} {p i j L:Nat} (hs:bA s L) (hf:bA f L) (hL:1 ≤ L) (hd:nF s f p ≠ Qi.zero):aH (vE s f p i j) (20 * L + 20):=by
 haveI e:=Gp (p:=p) hs hf hL
 have q:∀ a b,aH (gm s a b / nF s f p) (7 * L + 11):=fun a b=>(nS (hs.get hL a b) e hd).le zo
 haveI q1:=q p p; haveI q2:=q i p; haveI q3:=q p j
 haveI:=hs.get hL i j; haveI:=hs.get hL p j; haveI:=hf.get hL 1 1; haveI:=hf.get hL 0 0; haveI:=hf.get hL 0 1; haveI:=hf.get hL 1 0
 rw [vE]
 split
 ·exact (inferInstance:aH (_ + _ * (_ * _)) (L + (L + (L + (7 * L + 11) + 1) + 1) + 1)).le zo
 ·split
  ·exact (inferInstance:aH (_ * _) ((7 * L + 11) + L + 1)).le zo
  ·split
   ·exact (inferInstance:aH (_ * _) (L + (7 * L + 11) + 1)).le zo
   ·exact (inferInstance:aH (_ + _ * (_ * _)) (L + ((7 * L + 11) + (L + L + 1) + 1) + 1)).le zo
theorem Xr {s f:List (List Qi)} {p n L:Nat} (hs:bA s L) (hf:bA f L) (hL:1 ≤ L) (hd:nF s f p ≠ Qi.zero):bA (Ta s f p n) (20 * L + 20):=bA.tab fun i j _ _=>Xs hs hf hL hd
theorem xR {n i:Nat} {f:Nat → Qi} (h:i < n):((tab n f).map aE)[i]? = some (aE (f i)):=by rw [List.getElem?_map,bR h]; rfl
theorem Vz {z:List Qi} {s f:List (List Qi)} {p i j L:Nat} (hs:cB s z.length z.length) (hp:p < z.length) (hi:i < z.length) (hj:j < z.length) (hz:z.length ≤ 1000) (hfs:bA s L) (hff:bA f L) (hL:1 ≤ L) (hLb:L ≤ 60000) (hd:nF s f p ≠ Qi.zero):bF Tryz.prog 136 [NT .i64 i,NT .i64 j,PT (NT .i64 p),PT (aE (gm f 0 0)),PT (aE (gm f 0 1)),PT (aE (gm f 1 0)),PT (aN (tab z.length fun j=>gm s p j / nF s f p)),PT (aN (tab z.length fun i=>gm s i p / nF s f p)),PT (dC z s),PT (aE (gm f 1 1))] (aE (vE s f p i j)):=by
 have hsl:=hs.1
 have hsi:=hs.row hi
 have hsp:=hs.row hp
 haveI e:=Gp (p:=p) hfs hff hL
 have q:∀ a b,aH (gm s a b / nF s f p) (7 * L + 11):=fun a b=>(nS (hfs.get hL a b) e hd).le zo
 have hU:∀ k,k < z.length → (tab z.length fun i=>gm s i p / nF s f p).getD k Qi.zero = gm s k p / nF s f p:=fun k h=>a0N h
 have hV:∀ k,k < z.length → (tab z.length fun j=>gm s p j / nF s f p).getD k Qi.zero = gm s p k / nF s f p:=fun k h=>a0N h
 haveI:=q p p; haveI:=q i p; haveI:=q p j
 haveI:=hfs.get hL i j; haveI:=hfs.get hL p j; haveI:=hff.get hL 1 1; haveI:=hff.get hL 0 0; haveI:=hff.get hL 0 1; haveI:=hff.get hL 1 0
 refine bF.intro Tryz.func136 rfl Tryz.ntmps136 rfl (fun cx=>(ts (rn rfl (eW (Ts:=[Is (.bool false),Is (.slice none 0 0),Is (.bool false),Is (.slice none 0 0),Is (.slice none 0 0)]) O_60 rfl (fun V=>aW zd (aW zd (aW zd (aW zd (aW zd (aG))))))) fun B12=>(eX (cK (eG (ts (rm rfl (ro rfl (dJ A_3 Z_3 (Ht rfl)) (ro rfl (eC (Ht rfl) (Ht rfl)) (rm rfl (fQ rfl rfl (eK rfl rfl (Ht rfl) (fun h=>cX (Ht rfl))) ?_))))))))))))
 refine fQ rfl rfl (eK rfl rfl (Ht rfl) (fun h=>dJ A_3 Z_3 (Ht rfl))) (fQ rfl rfl (eK rfl rfl (Ht rfl) (fun h=>eC (fJ rfl h) (fJ rfl h))) (ro rfl (gS (Ht rfl) (fun h=>(fJ rfl h))) (ra rfl (eX (dQ (Ht rfl) (fun hb1=>?_) (fun hb1=>?_))))))
 ·have h2 : i = p ∧ j = p := by simpa using hb1
  refine cK (fZ (m:=12) (dp 3 rfl (dJ A_60 Z_60 (Ht rfl)) (dq 22 0 rfl (bE bP (Ht rfl)) (dp 4 rfl (dJ A_60 Z_60 (Ht rfl)) (dq 24 2 rfl (bE bP (Ht rfl)) (dp 5 rfl (dJ A_60 Z_60 (Ht rfl)) (dq 26 4 rfl (bE bP (Ht rfl)) (dp 6 rfl (dJ A_25 Z_25 (Ht rfl)) (dp 2 rfl (dJ A_3 Z_3 (Ht rfl)) (dH 28 6 29 7 rfl (dZ U_25 Z_60 (Ht rfl) (Ht rfl) rfl (xR hp)) (dq 30 8 rfl (dJ A_60 Z_60 (Ht rfl)) (dH 27 5 31 9 rfl (aR dP K_70 (kY (x:=gm f 1 0) (y:=gm s p p / nF s f p) (L:=L) (M:=(7 * L + 11)) zo) (Ht rfl) ⟨(Ht rfl),trivial⟩) ?_))))))))))))
  refine dH 25 3 32 10 rfl (aR dP K_70 (kY (x:=gm f 0 1) (y:=gm f 1 0 * (gm s p p / nF s f p)) (L:=L) (M:=L + (7 * L + 11) + 1) zo) (Ht rfl) ⟨(Ht rfl),trivial⟩) (fV bB rfl (by kernel_rfl) (zF (zF (zF (aV (ro rfl (aR lF K_71 (sG (x:=gm f 0 0) (y:=gm f 0 1 * (gm f 1 0 * (gm s p p / nF s f p))) (L:=L) (M:=L + (L + (7 * L + 11) + 1) + 1) zo) (Ht rfl) ⟨(Ht rfl),trivial⟩) (gQ Z_60 (Ht rfl) (Ht rfl) rfl (i:=0) rfl (aK rfl) rfl rfl ?_)))))))
  refine eX (fW rfl (fX (fK A_60 Z_60 rfl (i:=0) rfl rfl) ?_))
  exact (iZ (by rw [vE,if_pos h2]))
 ·have h2 : ¬ (i = p ∧ j = p) := by simpa using hb1
  refine ts (rm rfl (ro rfl (dJ A_3 Z_3 (Ht rfl)) (ro rfl (eC (Ht rfl) (Ht rfl)) (ra rfl (eX (dQ (Ht rfl) (fun hb2=>?_) (fun hb2=>?_)))))))
  ·have h3 : j = p := by simpa using hb2
   refine cK (fZ (m:=6) (dp 7 rfl (dJ A_25 Z_25 (Ht rfl)) (dp 0 rfl (cX (Ht rfl)) (dH 39 0 40 1 rfl (dZ U_25 Z_60 (Ht rfl) (Ht rfl) rfl (xR hi)) (dq 41 2 rfl (dJ A_60 Z_60 (Ht rfl)) (dq 42 3 rfl (bE bP (Ht rfl)) (dp 5 rfl (dJ A_60 Z_60 (Ht rfl)) (fV bB rfl (by kernel_rfl) (zF (aJ (aJ (aV (ro rfl (aR dP K_70 (kY (x:=gm s i p / nF s f p) (y:=gm f 1 0) (L:=(7 * L + 11)) (M:=L) zo) (Ht rfl) ⟨(Ht rfl),trivial⟩) ?_)))))))))))))
   refine gQ Z_60 (Ht rfl) (Ht rfl) rfl (i:=0) rfl (aK rfl) rfl rfl (eX (fW rfl (fX (fK A_60 Z_60 rfl (i:=0) rfl rfl) ?_)))
   exact (iZ (by rw [vE,if_neg h2,if_pos h3]))
  ·have h3 : ¬ j = p := by simpa using hb2
   refine ts (rm rfl (ro rfl (dJ A_3 Z_3 (Ht rfl)) (ro rfl (eC (Ht rfl) (Ht rfl)) (ra rfl (eX (dQ (Ht rfl) (fun hb3=>?_) (fun hb3=>?_)))))))
   ·have h4 : i = p := by simpa using hb3
    refine cK (fZ (m:=6) (dp 4 rfl (dJ A_60 Z_60 (Ht rfl)) (dq 50 0 rfl (bE bP (Ht rfl)) (dp 6 rfl (dJ A_25 Z_25 (Ht rfl)) (dp 1 rfl (cX (Ht rfl)) (dH 52 2 53 3 rfl (dZ U_25 Z_60 (Ht rfl) (Ht rfl) rfl (xR hj)) (dq 54 4 rfl (dJ A_60 Z_60 (Ht rfl)) (fV bB rfl (by kernel_rfl) (zF (aJ (aJ (aV (ro rfl (aR dP K_70 (kY (x:=gm f 0 1) (y:=gm s p j / nF s f p) (L:=L) (M:=(7 * L + 11)) zo) (Ht rfl) ⟨(Ht rfl),trivial⟩) ?_)))))))))))))
    refine gQ Z_60 (Ht rfl) (Ht rfl) rfl (i:=0) rfl (aK rfl) rfl rfl (eX (fW rfl (fX (fK A_60 Z_60 rfl (i:=0) rfl rfl) ?_)))
    exact (iZ (by rw [vE,if_neg h2,if_neg h3,if_pos h4]))
   ·have h4 : ¬ i = p := by simpa using hb3
    refine cU (bN (cK (fZ (m:=26) (dp 8 rfl (gO cT (Ht rfl) rfl) (dq 57 0 rfl (dJ A_26 Z_26 (Ht rfl)) (dp 0 rfl (cX (Ht rfl)) (dH 58 1 59 2 rfl (dZ U_26 Z_25 (Ht rfl) (Ht rfl) rfl (dY (dU (d:=[]) zo))) (dq 60 3 rfl (dJ A_25 Z_25 (Ht rfl)) (dp 1 rfl (cX (Ht rfl)) (dH 61 4 62 5 rfl (dZ U_25 Z_60 (Ht rfl) (Ht rfl) rfl (dY (dU (d:=Qi.zero) zo))) (dq 63 6 rfl (dJ A_60 Z_60 (Ht rfl)) (dq 64 7 rfl (bE bP (Ht rfl)) ?_))))))))))))
    refine dp 7 rfl (dJ A_25 Z_25 (Ht rfl)) (dp 0 rfl (cX (Ht rfl)) (dH 66 9 67 10 rfl (dZ U_25 Z_60 (Ht rfl) (Ht rfl) rfl (xR hi)) (dq 68 11 rfl (dJ A_60 Z_60 (Ht rfl)) (dq 69 12 rfl (bE bP (Ht rfl)) (dp 9 rfl (dJ A_60 Z_60 (Ht rfl)) (dq 71 14 rfl (bE bP (Ht rfl)) (dp 8 rfl (gO cT (Ht rfl) rfl) (dq 73 16 rfl (dJ A_26 Z_26 (Ht rfl)) (dp 2 rfl (dJ A_3 Z_3 (Ht rfl)) (dH 74 17 75 18 rfl (dZ U_26 Z_25 (Ht rfl) (Ht rfl) rfl (dY (dU (d:=[]) zo))) ?_))))))))))
    refine dq 76 19 rfl (dJ A_25 Z_25 (Ht rfl)) (dp 1 rfl (cX (Ht rfl)) (dH 77 20 78 21 rfl (dZ U_25 Z_60 (Ht rfl) (Ht rfl) rfl (dY (dU (d:=Qi.zero) zo))) (dq 79 22 rfl (dJ A_60 Z_60 (Ht rfl)) (dH 72 15 80 23 rfl (aR dP K_70 (kY (x:=gm f 1 1) (y:=gm s p j) (L:=L) (M:=L) zo) (Ht rfl) ⟨(Ht rfl),trivial⟩) (dH 70 13 81 24 rfl (aR dP K_70 (kY (x:=gm s i p / nF s f p) (y:=gm f 1 1 * gm s p j) (L:=(7 * L + 11)) (M:=L + L + 1) zo) (Ht rfl) ⟨(Ht rfl),trivial⟩) ?_)))))
    refine fV bB rfl (by kernel_rfl) (zF (zF (zF (zF (zF (zF (aJ (aJ (aV (ro rfl (aR lF K_71 (sG (x:=gm s i j) (y:=gm s i p / nF s f p * (gm f 1 1 * gm s p j)) (L:=L) (M:=(7 * L + 11) + (L + L + 1) + 1) zo) (Ht rfl) ⟨(Ht rfl),trivial⟩) (gQ Z_60 (Ht rfl) (Ht rfl) rfl (i:=0) rfl (aK rfl) rfl rfl ?_)))))))))))
    refine eX (fW rfl (fX (fK A_60 Z_60 rfl (i:=0) rfl rfl) ?_))
    exact (iZ (by rw [vE,if_neg h2,if_neg h3,if_neg h4]))
theorem Vy {z fz:List Qi} {s f:List (List Qi)} {port:Int} {L:Nat} (hs:cB s z.length z.length) (hz1:1 ≤ z.length) (hz:z.length ≤ 1000) (hfs:bA s L) (hff:bA f L) (hfz:bH z L) (hfg:bH fz L) (hL:1 ≤ L) (hLb:L ≤ 60000) (h2:fz.length ≠ 2):bF Tryz.prog 36 [dC z s,aL .i64 port,dC fz f] (eD [dC (Xq z s fz f port) (Xp z s fz f port),aL .i64 (Dx z s fz f port)]):=by
 have hfx:Dp z fz port 2 = 4:=a6N h2
 have he:Dx z s fz f port = 4:=(a3y (by rw [hfx]; decide)).trans hfx
 have hne:Dx z s fz f port ≠ 0:=by rw [he]; decide
 refine bF.intro Tryz.func36 rfl Tryz.ntmps36 rfl (fun cx=>(ts (rn rfl (fG (Ht rfl)) fun B3=>(rn rfl (fG (Ht rfl)) fun B5=>(rn rfl (eW (Ts:=[Is (.slice none 0 0),Is (.slice none 0 0)]) O_28 rfl (fun V=>aW zd (aW zd (aG)))) fun B6=>(ro rfl (cQ (cJ 0)) (eX (ts (ro rfl (eJ A_28 Z_28 (Ht rfl) (i:=0) rfl rfl rfl) (rm rfl (ro rfl (eJ A_28 Z_28 (Ht rfl) (i:=1) rfl rfl rfl) (ro rfl (cZ Tryz.call133 (Sh (x:=2) h2) ⟨(Ht rfl),(Ht rfl),(Ht rfl),(cJ 2),trivial⟩) ?_))))))))))))
 refine rm rfl (ro rfl (dK (Ht rfl) rfl) (ro rfl (dK (Ht rfl) rfl) (rn rfl (eW (Ts:=[Is (.bool false),Is (.slice none 0 0),Is (.bool false),Is (.slice none 0 0),Is (.slice none 0 0),Is (.bool false),Is (.slice none 0 0),Is (.bool false),Is (.slice none 0 0),Is (.slice none 0 0),Is (.bool false),Is (.slice none 0 0),Is (.bool false),Is (.slice none 0 0),Is (.slice none 0 0),Is (.bool false),Is (.slice none 0 0),Is (.bool false),Is (.slice none 0 0),Is (.slice none 0 0)]) O_191 rfl (fun V=>aW zd (aW zd (aW zd (aW zd (aW zd (aW zd (aW zd (aW zd (aW zd (aW zd (aW zd (aW zd (aW zd (aW zd (aW zd (aW zd (aW zd (aW zd (aW zd (aW zd (aG)))))))))))))))))))))) fun B8=>?_)))
 refine gQ Z_191 (Ht rfl) (Ht rfl) rfl (i:=3) rfl (aK rfl) rfl rfl (ra rfl (eX (cK (ts (rm rfl (ro rfl (fM (Ht rfl) cV) (eX (qA (Ht rfl) (by rfl) ?_))))))))
 refine ts (ro rfl (aM.imp (jF ) jM) (rm rfl (gQ Z_28 (Ht rfl) (Ht rfl) rfl (i:=2) rfl (aK rfl) rfl rfl (ra rfl (eX (bL rfl (fX (fK A_28 Z_28 rfl (i:=2) rfl rfl) ?_) (fX (eU rfl) ?_)))))))
 ·exact (fun v V h=>by rw [Xq,Xp,iC,iC,if_neg hne,if_neg hne]; exact h)
 ·exact (aT he.symm)
theorem Wa {z fz:List Qi} {s f:List (List Qi)} {port:Int} {L:Nat} (hs:cB s z.length z.length) (hz1:1 ≤ z.length) (hz:z.length ≤ 1000) (hfs:bA s L) (hff:bA f L) (hfz:bH z L) (hfg:bH fz L) (hL:1 ≤ L) (hLb:L ≤ 60000) (h2:fz.length = 2) (hf:cB f 2 2):bF Tryz.prog 36 [dC z s,aL .i64 port,dC fz f] (eD [dC (Xq z s fz f port) (Xp z s fz f port),aL .i64 (Dx z s fz f port)]):=by
 have hsl:=hs.1
 haveI h1f:=jH
 refine bF.intro Tryz.func36 rfl Tryz.ntmps36 rfl (fun cx=>(ts (rn rfl (fG (Ht rfl)) fun B3=>(rn rfl (fG (Ht rfl)) fun B5=>(rn rfl (eW (Ts:=[Is (.slice none 0 0),Is (.slice none 0 0)]) O_28 rfl (fun V=>aW zd (aW zd (aG)))) fun B6=>(ro rfl (cQ (cJ 0)) (eX (ts (ro rfl (eJ A_28 Z_28 (Ht rfl) (i:=0) rfl rfl rfl) (rm rfl (ro rfl (eJ A_28 Z_28 (Ht rfl) (i:=1) rfl rfl rfl) (ro rfl (cZ Tryz.call133 (Si (x:=2) (L:=L) h2 hf (by decide) hfz hfg hL zo hz) ⟨(Ht rfl),(Ht rfl),(Ht rfl),(cJ 2),trivial⟩) ?_))))))))))))
 refine rm rfl (ro rfl (dK (Ht rfl) rfl) (ro rfl (dK (Ht rfl) rfl) (rn rfl (eW (Ts:=[Is (.bool false),Is (.slice none 0 0),Is (.bool false),Is (.slice none 0 0),Is (.slice none 0 0),Is (.bool false),Is (.slice none 0 0),Is (.bool false),Is (.slice none 0 0),Is (.slice none 0 0),Is (.bool false),Is (.slice none 0 0),Is (.bool false),Is (.slice none 0 0),Is (.slice none 0 0),Is (.bool false),Is (.slice none 0 0),Is (.bool false),Is (.slice none 0 0),Is (.slice none 0 0)]) O_191 rfl (fun V=>aW zd (aW zd (aW zd (aW zd (aW zd (aW zd (aW zd (aW zd (aW zd (aW zd (aW zd (aW zd (aW zd (aW zd (aW zd (aW zd (aW zd (aW zd (aW zd (aW zd (aG)))))))))))))))))))))) fun B8=>?_)))
 refine gQ Z_191 (Ht rfl) (Ht rfl) rfl (i:=3) rfl (aK rfl) rfl rfl (ra rfl (eX (cK (ts (rm rfl (ro rfl (fM (Ht rfl) cV) (eX (dQ (Ht rfl) (fun hc=>?_) (fun hc=>?_)))))))))
 ·have hfx : Dp z fz port 2 ≠ 0 := by simpa using hc
  have he:Dx z s fz f port = Dp z fz port 2:=a3y hfx
  have hne:Dx z s fz f port ≠ 0:=by rw [he]; exact hfx
  refine ts (ro rfl (aM.imp (jF ) jM) (rm rfl (gQ Z_28 (Ht rfl) (Ht rfl) rfl (i:=2) rfl (aK rfl) rfl rfl (ra rfl (eX (bL rfl (fX (fK A_28 Z_28 rfl (i:=2) rfl rfl) ?_) (fX (eU rfl) ?_)))))))
  ·exact (fun v V h=>by rw [Xq,Xp,iC,iC,if_neg hne,if_neg hne]; exact h)
  ·exact (aT he.symm)
 ·have hfx : Dp z fz port 2 = 0 := by simpa using hc
  obtain ⟨_,hb2,hzz⟩:=a6a hfx
  obtain ⟨p,hp⟩:∃ p,p = (port - 1).toNat:=⟨_,rfl⟩
  have hpe:port - 1 = (p:Int):=by omega
  have hpl:p < z.length:=by omega
  have hspr:=hs.row hpl
  haveI:=hfs.get hL p p; haveI:=hff.get hL 1 1; haveI:=hff.get hL 0 0; haveI:=hff.get hL 0 1; haveI:=hff.get hL 1 0
  refine cU (cK (Y.D_start (m:=23) [] (bY (Ei:=[(8,_)]) rfl rfl (bQ (bJ rfl rfl) bX) rfl rfl (dX rfl (kF U_191 Z_190 (Ht rfl) (cJ 0) rfl (by decide) rfl)) (bY (Ei:=[(28,_)]) rfl rfl (bQ (bZ 0 rfl rfl) bX) rfl rfl (dX rfl (kF U_190 Z_60 (Ht rfl) (cJ 0) rfl (by decide) rfl)) (bY (Ei:=[(29,_)]) rfl rfl (bQ (bZ 1 rfl rfl) bX) rfl rfl (dX rfl (eJ A_60 Z_60 (Ht rfl) (i:=3) rfl rfl rfl)) ?_)))))
  refine bY (Ei:=[(8,_)]) rfl rfl (bQ (bJ rfl rfl) bX) rfl rfl (dX rfl (kF U_191 Z_190 (Ht rfl) (cJ 0) rfl (by decide) rfl)) (bY (Ei:=[(31,_)]) rfl rfl (bQ (bZ 3 rfl rfl) bX) rfl rfl (dX rfl (kF U_190 Z_60 (Ht rfl) (cJ 1) rfl (by decide) rfl)) (bY (Ei:=[(32,_)]) rfl rfl (bQ (bZ 4 rfl rfl) bX) rfl rfl (dX rfl (eJ A_60 Z_60 (Ht rfl) (i:=3) rfl rfl rfl)) (bY (Ei:=[(8,_)]) rfl rfl (bQ (bJ rfl rfl) bX) rfl rfl (dX rfl (kF U_191 Z_190 (Ht rfl) (cJ 1) rfl (by decide) rfl)) ?_)))
  refine bY (Ei:=[(34,_)]) rfl rfl (bQ (bZ 6 rfl rfl) bX) rfl rfl (dX rfl (kF U_190 Z_60 (Ht rfl) (cJ 0) rfl (by decide) rfl)) (bY (Ei:=[(35,_)]) rfl rfl (bQ (bZ 7 rfl rfl) bX) rfl rfl (dX rfl (eJ A_60 Z_60 (Ht rfl) (i:=3) rfl rfl rfl)) (bY (Ei:=[(8,_)]) rfl rfl (bQ (bJ rfl rfl) bX) rfl rfl (dX rfl (kF U_191 Z_190 (Ht rfl) (cJ 1) rfl (by decide) rfl)) (bY (Ei:=[(37,_)]) rfl rfl (bQ (bZ 9 rfl rfl) bX) rfl rfl (dX rfl (kF U_190 Z_60 (Ht rfl) (cJ 1) rfl (by decide) rfl)) ?_)))
  refine bY (Ei:=[(38,_)]) rfl rfl (bQ (bZ 10 rfl rfl) bX) rfl rfl (dX rfl (eJ A_60 Z_60 (Ht rfl) (i:=3) rfl rfl rfl)) (bY (Ei:=[(1,_)]) rfl rfl (bQ (bJ rfl rfl) bX) rfl rfl (dX rfl (cX (Ht rfl))) (bY (Ei:=[(40,_)]) rfl rfl (bQ (bZ 12 rfl rfl) bX) rfl rfl (dX rfl (kX (Ht rfl) cV (r:=((p:Nat):Int)) ((Ea (z:=port - 1) zo).trans zo))) ?_))
  refine Y.D_newp (Ei:=[]) (fun bb=>box bb 60 (nb (gm f 0 0))) 19 rfl rfl rfl bX rfl rfl (by kernel_rfl) (eW (Ts:=[Is (.bool false),Is (.slice none 0 0),Is (.bool false),Is (.slice none 0 0),Is (.slice none 0 0)]) O_60 rfl (fun V=>aW zd (aW zd (aW zd (aW zd (aW zd (aG))))))) (Y.D_newp (Ei:=[]) (fun bb=>box bb 60 (nb (gm f 0 1))) 20 rfl rfl rfl bX rfl rfl (by kernel_rfl) (eW (Ts:=[Is (.bool false),Is (.slice none 0 0),Is (.bool false),Is (.slice none 0 0),Is (.slice none 0 0)]) O_60 rfl (fun V=>aW zd (aW zd (aW zd (aW zd (aW zd (aG))))))) ?_)
  refine Y.D_newp (Ei:=[]) (fun bb=>box bb 60 (nb (gm f 1 0))) 21 rfl rfl rfl bX rfl rfl (by kernel_rfl) (eW (Ts:=[Is (.bool false),Is (.slice none 0 0),Is (.bool false),Is (.slice none 0 0),Is (.slice none 0 0)]) O_60 rfl (fun V=>aW zd (aW zd (aW zd (aW zd (aW zd (aG))))))) (Y.D_newp (Ei:=[]) (fun bb=>box bb 60 (nb (gm f 1 1))) 22 rfl rfl rfl bX rfl rfl (by kernel_rfl) (eW (Ts:=[Is (.bool false),Is (.slice none 0 0),Is (.bool false),Is (.slice none 0 0),Is (.slice none 0 0)]) O_60 rfl (fun V=>aW zd (aW zd (aW zd (aW zd (aW zd (aG))))))) ?_)
  refine Y.D_new (Ei:=[]) rfl rfl rfl bX rfl rfl (eW (Ts:=[Is (.int .i64 0)]) O_3 rfl (fun V=>aW zd (aG))) (Y.D_putN (Ei:=[(30,_)]) 14 rfl rfl rfl rfl rfl rfl (bQ (bZ 2 rfl rfl) bX) (fun bb=>mK Z_60 (Ht rfl) (Ht rfl) rfl (i:=0) rfl (aK rfl) rfl rfl) (Y.D_putN (Ei:=[(33,_)]) 15 rfl rfl rfl rfl rfl rfl (bQ (bZ 5 rfl rfl) bX) (fun bb=>mK Z_60 (Ht rfl) (Ht rfl) rfl (i:=0) rfl (aK rfl) rfl rfl) (Y.D_putN (Ei:=[(36,_)]) 16 rfl rfl rfl rfl rfl rfl (bQ (bZ 8 rfl rfl) bX) (fun bb=>mK Z_60 (Ht rfl) (Ht rfl) rfl (i:=0) rfl (aK rfl) rfl rfl) ?_)))
  refine Y.D_putN (Ei:=[(39,_)]) 17 rfl rfl rfl rfl rfl rfl (bQ (bZ 11 rfl rfl) bX) (fun bb=>mK Z_60 (Ht rfl) (Ht rfl) rfl (i:=0) rfl (aK rfl) rfl rfl) (Y.D_done bB rfl (by kernel_rfl) rfl (by simp [Y.okP]) rfl rfl (bU (bU (bU (bU (bU (bU (bU (bU (bU (bU (bU (bU (bU (bU (Y.F_newp (fun B10=>Y.F_newp (fun B11=>Y.F_newp (fun B12=>Y.F_newp (fun B13=>Y.F_new (fun B14=>Y.F_putN (Y.F_putN (Y.F_putN (Y.F_putN (Y.F_nil ?_)))))))))))))))))))))))))
  refine oK Z_3 (Ht rfl) (Ht rfl) (i:=8) rfl (aK rfl) rfl (eX (cK (gJ (i:=4) (tt:=10) rfl rfl jJ (gJ (i:=5) (tt:=11) rfl rfl jJ (gJ (i:=6) (tt:=12) rfl rfl jJ (gJ (i:=7) (tt:=13) rfl rfl jJ (gJ (i:=8) (tt:=14) rfl rfl gY (gJ (i:=0) (tt:=3) rfl rfl jJ (cM [1,2] rfl (by decide) ?_)))))))))
  have hDf:=Gp (p:=p) hfs hff hL
  by_cases hD:nF s f p = Qi.zero
  ·refine Y.D_start (m := 25) [] (bY (Ei := [(3, _)]) rfl rfl (bQ (bJ rfl rfl) bX) rfl rfl (dX rfl (dJ A_28 Z_28 (Ht rfl))) (bY (Ei := [(14, _)]) rfl rfl (bQ (bJ rfl rfl) bX) rfl rfl (dX rfl (dJ A_3 Z_3 (Ht rfl))) (bY (Ei := []) rfl rfl bX rfl rfl (dX rfl (cZ K_118 (rQ (n := 1) (by decide) (by decide)) ⟨(cJ 1), trivial⟩)) (bY (Ei := [(45, _)]) rfl rfl (bQ (bZ 2 rfl rfl) bX) rfl rfl (dX rfl (bE bP (Ht rfl))) ?_))))
   refine bY (Ei:=[(13,_)]) rfl rfl (bQ (bJ rfl rfl) bX) rfl rfl (dX rfl (dJ A_60 Z_60 (Ht rfl))) (bY (Ei:=[(47,_)]) rfl rfl (bQ (bZ 4 rfl rfl) bX) rfl rfl (dX rfl (bE bP (Ht rfl))) (bY (Ei:=[(3,_)]) rfl rfl (bQ (bJ rfl rfl) bX) rfl rfl (dX rfl (gO cT (Ht rfl) rfl)) (bY (Ei:=[(49,_)]) rfl rfl (bQ (bZ 6 rfl rfl) bX) rfl rfl (dX rfl (dJ A_26 Z_26 (Ht rfl))) (bY (Ei:=[(14,_)]) rfl rfl (bQ (bJ rfl rfl) bX) rfl rfl (dX rfl (dJ A_3 Z_3 (Ht rfl))) ?_))))
   refine bY (Ei:=[(50,_),(51,_)]) rfl rfl (bQ (bZ 7 rfl rfl) (bQ (bZ 8 rfl rfl) bX)) rfl rfl (dX rfl (dZ U_26 Z_25 (Ht rfl) (Ht rfl) rfl (dY (dU (d:=[]) zo)))) (bY (Ei:=[(52,_)]) rfl rfl (bQ (bZ 9 rfl rfl) bX) rfl rfl (dX rfl (dJ A_25 Z_25 (Ht rfl))) (bY (Ei:=[(14,_)]) rfl rfl (bQ (bJ rfl rfl) bX) rfl rfl (dX rfl (dJ A_3 Z_3 (Ht rfl))) (bY (Ei:=[(53,_),(54,_)]) rfl rfl (bQ (bZ 10 rfl rfl) (bQ (bZ 11 rfl rfl) bX)) rfl rfl (dX rfl (dZ U_25 Z_60 (Ht rfl) (Ht rfl) rfl (dY (dU (d:=Qi.zero) zo)))) ?_)))
   refine bY (Ei:=[(55,_)]) rfl rfl (bQ (bZ 12 rfl rfl) bX) rfl rfl (dX rfl (dJ A_60 Z_60 (Ht rfl))) (bY (Ei:=[(48,_),(56,_)]) rfl rfl (bQ (bZ 5 rfl rfl) (bQ (bZ 13 rfl rfl) bX)) rfl rfl (dX rfl (aR dP K_70 (kY (x:=gm f 1 1) (y:=gm s p p) (L:=L) (M:=L) zo) (Ht rfl) ⟨(Ht rfl),trivial⟩)) (bY (Ei:=[(46,_),(57,_)]) rfl rfl (bQ (bZ 3 rfl rfl) (bQ (bZ 14 rfl rfl) bX)) rfl rfl (dX rfl (aR lG K_69 (uO (x:=Qi.ofInt 1) (y:=gm f 1 1 * gm s p p) (L:=1) (M:=L + L + 1) zo) (Ht rfl) ⟨(Ht rfl),trivial⟩)) ?_))
   refine bY (Ei:=[(43,_),(44,_),(58,_)]) rfl rfl (bQ (bZ 0 rfl rfl) (bQ (bZ 1 rfl rfl) (bQ (bZ 15 rfl rfl) bX))) rfl rfl (dX rfl (cZ Tryz.call134 (Sl (z:=z) (s:=s) (p:=p) (e:=nF s f p) (L:=L) (M:=2 * L + 3) hs hpl hz hfs hDf hL zo hD) ⟨(Ht rfl),(Ht rfl),(Ht rfl),trivial⟩)) (bY (Ei:=[(59,_)]) rfl rfl (bQ (bZ 16 rfl rfl) bX) rfl rfl (dX rfl (cX (Ht rfl))) (bY (Ei:=[(42,_)]) rfl rfl (bQ (bZ 17 rfl rfl) bX) rfl rfl (dX rfl (dK (Ht rfl) rfl)) ?_))
   refine bY (Ei:=[(42,_)]) rfl rfl (bQ (bZ 17 rfl rfl) bX) rfl rfl (dX rfl (dK (Ht rfl) rfl)) (bY (Ei:=[(42,_)]) rfl rfl (bQ (bZ 17 rfl rfl) bX) rfl rfl (dX rfl (dK (Ht rfl) rfl)) (Y.D_newp (Ei:=[]) (fun bb=>box bb 25 [aN []]) 23 rfl rfl rfl bX rfl rfl (by kernel_rfl) (eW (Ts:=[Is (.slice none 0 0)]) O_25 rfl (fun V=>aW zd (aG))) (Y.D_newp (Ei:=[]) (fun bb=>box bb 25 [aN []]) 24 rfl rfl rfl bX rfl rfl (by kernel_rfl) (eW (Ts:=[Is (.slice none 0 0)]) O_25 rfl (fun V=>aW zd (aG))) ?_)))
   refine Y.D_putN (Ei:=[(60,_)]) 21 rfl rfl rfl rfl rfl rfl (bQ (bZ 18 rfl rfl) bX) (fun bb=>Eb Z_25 (Ht rfl) (Ht rfl) (i:=0) rfl (aK rfl) rfl rfl) (Y.D_putN (Ei:=[(61,_)]) 22 rfl rfl rfl rfl rfl rfl (bQ (bZ 19 rfl rfl) bX) (fun bb=>Eb Z_25 (Ht rfl) (Ht rfl) (i:=0) rfl (aK rfl) rfl rfl) (Y.D_done bB rfl (by kernel_rfl) rfl (by simp [Y.okP]) rfl rfl (bU (bU (bU (bU (bU (bU (bU (bU (bU (bU (bU (bU (bU (bU (bU (bU (bU (bU (bU (bU (bU (Y.F_newp (fun B15=>Y.F_newp (fun B16=>Y.F_putN (Y.F_putN (Y.F_nil ?_))))))))))))))))))))))))))))
   refine ra rfl (eX (cK (cK ?_)))
   have he:Dx z s fz f port = 6:=a3z hfx (by rw [← hp]; exact hD)
   have hne:Dx z s fz f port ≠ 0:=by rw [he]; decide
   refine cY (rm rfl (ro rfl (fM (Ht rfl) cV) (eX (qA (Ht rfl) (by rfl) ?_))))
   refine ts (ro rfl (aM.imp (jF ) jM) (rm rfl (gQ Z_28 (Ht rfl) (Ht rfl) rfl (i:=1) rfl (aK rfl) rfl rfl (ra rfl (eX (bL rfl (fX (fK A_28 Z_28 rfl (i:=1) rfl rfl) ?_) (fX (eU rfl) ?_)))))))
   ·exact (fun v V h=>by rw [Xq,Xp,iC,iC,if_neg hne,if_neg hne]; exact h)
   ·exact (aT he.symm)
  ·refine Y.D_start (m := 25) [] (bY (Ei := [(3, _)]) rfl rfl (bQ (bJ rfl rfl) bX) rfl rfl (dX rfl (dJ A_28 Z_28 (Ht rfl))) (bY (Ei := [(14, _)]) rfl rfl (bQ (bJ rfl rfl) bX) rfl rfl (dX rfl (dJ A_3 Z_3 (Ht rfl))) (bY (Ei := []) rfl rfl bX rfl rfl (dX rfl (cZ K_118 (rQ (n := 1) (by decide) (by decide)) ⟨(cJ 1), trivial⟩)) (bY (Ei := [(45, _)]) rfl rfl (bQ (bZ 2 rfl rfl) bX) rfl rfl (dX rfl (bE bP (Ht rfl))) ?_))))
   refine bY (Ei:=[(13,_)]) rfl rfl (bQ (bJ rfl rfl) bX) rfl rfl (dX rfl (dJ A_60 Z_60 (Ht rfl))) (bY (Ei:=[(47,_)]) rfl rfl (bQ (bZ 4 rfl rfl) bX) rfl rfl (dX rfl (bE bP (Ht rfl))) (bY (Ei:=[(3,_)]) rfl rfl (bQ (bJ rfl rfl) bX) rfl rfl (dX rfl (gO cT (Ht rfl) rfl)) (bY (Ei:=[(49,_)]) rfl rfl (bQ (bZ 6 rfl rfl) bX) rfl rfl (dX rfl (dJ A_26 Z_26 (Ht rfl))) (bY (Ei:=[(14,_)]) rfl rfl (bQ (bJ rfl rfl) bX) rfl rfl (dX rfl (dJ A_3 Z_3 (Ht rfl))) ?_))))
   refine bY (Ei:=[(50,_),(51,_)]) rfl rfl (bQ (bZ 7 rfl rfl) (bQ (bZ 8 rfl rfl) bX)) rfl rfl (dX rfl (dZ U_26 Z_25 (Ht rfl) (Ht rfl) rfl (dY (dU (d:=[]) zo)))) (bY (Ei:=[(52,_)]) rfl rfl (bQ (bZ 9 rfl rfl) bX) rfl rfl (dX rfl (dJ A_25 Z_25 (Ht rfl))) (bY (Ei:=[(14,_)]) rfl rfl (bQ (bJ rfl rfl) bX) rfl rfl (dX rfl (dJ A_3 Z_3 (Ht rfl))) (bY (Ei:=[(53,_),(54,_)]) rfl rfl (bQ (bZ 10 rfl rfl) (bQ (bZ 11 rfl rfl) bX)) rfl rfl (dX rfl (dZ U_25 Z_60 (Ht rfl) (Ht rfl) rfl (dY (dU (d:=Qi.zero) zo)))) ?_)))
   refine bY (Ei:=[(55,_)]) rfl rfl (bQ (bZ 12 rfl rfl) bX) rfl rfl (dX rfl (dJ A_60 Z_60 (Ht rfl))) (bY (Ei:=[(48,_),(56,_)]) rfl rfl (bQ (bZ 5 rfl rfl) (bQ (bZ 13 rfl rfl) bX)) rfl rfl (dX rfl (aR dP K_70 (kY (x:=gm f 1 1) (y:=gm s p p) (L:=L) (M:=L) zo) (Ht rfl) ⟨(Ht rfl),trivial⟩)) (bY (Ei:=[(46,_),(57,_)]) rfl rfl (bQ (bZ 3 rfl rfl) (bQ (bZ 14 rfl rfl) bX)) rfl rfl (dX rfl (aR lG K_69 (uO (x:=Qi.ofInt 1) (y:=gm f 1 1 * gm s p p) (L:=1) (M:=L + L + 1) zo) (Ht rfl) ⟨(Ht rfl),trivial⟩)) ?_))
   refine bY (Ei:=[(43,_),(44,_),(58,_)]) rfl rfl (bQ (bZ 0 rfl rfl) (bQ (bZ 1 rfl rfl) (bQ (bZ 15 rfl rfl) bX))) rfl rfl (dX rfl (cZ Tryz.call134 (Sm (z:=z) (s:=s) (p:=p) (e:=nF s f p) (L:=L) (M:=2 * L + 3) hs hpl hz hfs hDf hL zo hD) ⟨(Ht rfl),(Ht rfl),(Ht rfl),trivial⟩)) (bY (Ei:=[(59,_)]) rfl rfl (bQ (bZ 16 rfl rfl) bX) rfl rfl (dX rfl (cX (Ht rfl))) (bY (Ei:=[(42,_)]) rfl rfl (bQ (bZ 17 rfl rfl) bX) rfl rfl (dX rfl (dK (Ht rfl) rfl)) ?_))
   refine bY (Ei:=[(42,_)]) rfl rfl (bQ (bZ 17 rfl rfl) bX) rfl rfl (dX rfl (dK (Ht rfl) rfl)) (bY (Ei:=[(42,_)]) rfl rfl (bQ (bZ 17 rfl rfl) bX) rfl rfl (dX rfl (dK (Ht rfl) rfl)) (Y.D_newp (Ei:=[]) (fun bb=>box bb 25 [aN (tab z.length fun i=>gm s i p / nF s f p)]) 23 rfl rfl rfl bX rfl rfl (by kernel_rfl) (eW (Ts:=[Is (.slice none 0 0)]) O_25 rfl (fun V=>aW zd (aG))) (Y.D_newp (Ei:=[]) (fun bb=>box bb 25 [aN (tab z.length fun j=>gm s p j / nF s f p)]) 24 rfl rfl rfl bX rfl rfl (by kernel_rfl) (eW (Ts:=[Is (.slice none 0 0)]) O_25 rfl (fun V=>aW zd (aG))) ?_)))
   refine Y.D_putN (Ei:=[(60,_)]) 21 rfl rfl rfl rfl rfl rfl (bQ (bZ 18 rfl rfl) bX) (fun bb=>Eb Z_25 (Ht rfl) (Ht rfl) (i:=0) rfl (aK rfl) rfl rfl) (Y.D_putN (Ei:=[(61,_)]) 22 rfl rfl rfl rfl rfl rfl (bQ (bZ 19 rfl rfl) bX) (fun bb=>Eb Z_25 (Ht rfl) (Ht rfl) (i:=0) rfl (aK rfl) rfl rfl) (Y.D_done bB rfl (by kernel_rfl) rfl (by simp [Y.okP]) rfl rfl (bU (bU (bU (bU (bU (bU (bU (bU (bU (bU (bU (bU (bU (bU (bU (bU (bU (bU (bU (bU (bU (Y.F_newp (fun B15=>Y.F_newp (fun B16=>Y.F_putN (Y.F_putN (Y.F_nil ?_))))))))))))))))))))))))))))
   refine ra rfl (eX (cK (cK ?_)))
   have he:Dx z s fz f port = 0:=a4p hfx (by rw [← hp]; exact hD)
   refine gJ (i:=2) (tt:=15) rfl rfl gY (gJ (i:=3) (tt:=16) rfl rfl gY (cY (rm rfl (ro rfl (fM (Ht rfl) cV) (eX (kP (Ht rfl) (by rfl) ?_))))))
   refine cU (cK (fZ (m:=7) (dp 3 rfl (dJ A_28 Z_28 (Ht rfl)) (dp 14 rfl (dJ A_3 Z_3 (Ht rfl)) (dp 5 rfl (eZ dS (Ht rfl) rfl) (dq 69 2 rfl (eY A_25 Z_25 (Ht rfl) (i:=0) rfl rfl) (dq 70 3 rfl (dZ U_25 Z_60 (Ht rfl) (cJ 0) rfl (dY (dU (d:=Qi.zero) zo))) (dq 71 4 rfl (dJ A_60 Z_60 (Ht rfl)) (C.D_step (Ei:=[(14,_),(10,_),(11,_),(12,_),(16,_),(15,_),(3,_),(13,_)]) rfl rfl (bV (bK rfl rfl) (bV (bK rfl rfl) (bV (bK rfl rfl) (bV (bK rfl rfl) (bV (bK rfl rfl) (bV (bK rfl rfl) (bV (bK rfl rfl) (bV (bK rfl rfl) bW)))))))) (dX rfl (lR (γ:=Fin z.length × Fin z.length) (Ts:=fun x=>[NT .i64 x.1.1,NT .i64 x.2.1]) (U:=fun x=>aE (vE s f p x.1.1 x.2.1)) Tryz.call136 (fun x=>Vz (z:=z) (s:=s) (f:=f) (p:=p) (L:=L) hs hpl x.1.2 x.2.2 hz hfs hff hL hLb hD) ⟨(Ht rfl),(Ht rfl),(Ht rfl),(Ht rfl),(Ht rfl),(Ht rfl),(Ht rfl),(Ht rfl),trivial⟩)) ?_)))))))))
   refine fV bB rfl (by kernel_rfl) (zF (aJ (aJ (aJ (aV (ro rfl (cZ Tryz.call135 (a4e (z:=z) (s:=s) (p:=p) (x:=gv fz 0) (F:=fun i j=>vE s f p i j) hs hpl hz) ⟨(Ht rfl),(Ht rfl),(Ht rfl),(Ht rfl),trivial⟩) (gQ Z_28 (Ht rfl) (Ht rfl) rfl (i:=1) rfl (aK rfl) rfl rfl (ro rfl (cQ (cJ 0)) (eX (bL rfl (fX (fK A_28 Z_28 rfl (i:=1) rfl rfl) ?_) (fX (eU rfl) ?_)))))))))))
   ·exact (fun v V h=>by rw [Xq,Xp,iC,iC,if_pos he,if_pos he,← hp]; exact h)
   ·exact (aT he.symm)
theorem a1b {z fz:List Qi} {s f:List (List Qi)} {port:Int} {L:Nat} (hs:cB s z.length z.length) (hz1:1 ≤ z.length) (hz:z.length ≤ 1000) (hfs:bA s L) (hff:bA f L) (hfz:bH z L) (hfg:bH fz L) (hL:1 ≤ L) (hLb:L ≤ 60000) (hf:fz.length = 2 → cB f 2 2):bF Tryz.prog 36 [dC z s,aL .i64 port,dC fz f] (eD [dC (Xq z s fz f port) (Xp z s fz f port),aL .i64 (Dx z s fz f port)]):=by
 by_cases h2:fz.length = 2
 ·exact Wa hs hz1 hz hfs hff hfz hfg hL hLb h2 (hf h2)
 ·exact Vy hs hz1 hz hfs hff hfz hfg hL hLb h2
end
section
open Go Go.RowKit
section
variable {s f:List (List Qi)} {p n:Nat}
theorem sd4 (hp:p < n):gm (wR s f n) (n + 1) p = 0 ∧ gm (wR s f n) (n + 1) (n + 1) = gm f 1 1 ∧ gm (wR s f n) p (n + 1) = 0 ∧ gm (wR s f n) p p = gm s p p:=by
 refine ⟨?_,?_,?_,?_⟩
 ·rw [iQ zo zo,if_neg zo,if_neg zo]; rfl
 ·rw [iQ zo zo,if_neg zo,if_pos zo,show n + 1 - n = 1 by omega]
 ·rw [iQ zo zo,if_pos hp,if_neg zo]; rfl
 ·rw [iQ zo zo,if_pos hp,if_pos hp]
theorem Nx (hp:p < n):a0X (gm (wR s f n)) p (n + 1) ↔ nF s f p ≠ 0:=by
 obtain ⟨b1,b2,b3,b4⟩:=sd4 (s:=s) (f:=f) hp
 have e:nF s f p = 1 - gm f 1 1 * gm s p p:=rfl
 constructor
 ·intro h hz
  rw [e] at hz
  obtain ⟨a1,a2⟩:=h (gm f 1 1) 1 (by rw [b1,b2]; grind) (by rw [b3,b4]; grind)
  have:=congrArg Qi.re a2; revert this; decide
 ·intro hD v0 v1 h0 h1
  rw [b1,b2] at h0
  rw [b3,b4] at h1
  have e2:v1 * nF s f p = 0:=by rw [e]; grind
  rcases iS e2 with k | k
  ·exact ⟨by rw [h0,k]; grind,k⟩
  ·exact absurd k hD
theorem a6W {x y:Nat} (hp:p < n) (hD:nF s f p ≠ 0) (hx:x < n) (hy:y < n):xA (wR s f n) [(p,n + 1)] 2 (if x = p then n else x) (if y = p then n else y) = vE s f p x y:=by
 obtain ⟨b1,b2,b3,b4⟩:=sd4 (s:=s) (f:=f) hp
 obtain ⟨v0,v1,⟨h0,h1⟩,hX⟩:=a6l (b:=if y = p then n else y) ((Nx (s:=s) (f:=f) hp).2 hD)
 rw [hX]
 have e:nF s f p = 1 - gm f 1 1 * gm s p p:=rfl
 have u:=oF hD
 rw [b1,b2] at h0
 rw [b3,b4] at h1
 have gA : ∀ b, b < n + 2 → gm (wR s f n) (n + 1) b = if b < n then 0 else gm f 1 (b - n) := fun b hb => by
  rw [iQ zo hb,if_neg zo]
  by_cases c:b < n
  ·rw [if_neg zo,if_pos c]; rfl
  ·rw [if_pos zo,if_neg c,show n + 1 - n = 1 by omega]
 have gB : ∀ a b, a < n → b < n + 2 → gm (wR s f n) a b = if b < n then gm s a b else 0 := fun a b ha hb => by
  rw [iQ zo hb,if_pos ha]
  by_cases c:b < n
  ·rw [if_pos c,if_pos c]
  ·rw [if_neg c,if_neg c]; rfl
 have gC : ∀ b, b < n + 2 → gm (wR s f n) n b = if b < n then 0 else gm f 0 (b - n) := fun b hb => by
  rw [iQ zo hb,if_neg zo]
  by_cases c:b < n
  ·rw [if_neg zo,if_pos c]; rfl
  ·rw [if_pos zo,if_neg c,Nat.sub_self]
 by_cases b:y = p
 ·rw [if_pos b] at h0 h1 ⊢
  rw [gA n zo,if_neg zo,Nat.sub_self] at h0
  rw [gB p n hp zo,if_neg zo] at h1
  have v0e : v0 = gm f 1 0 * Qi.inv (nF s f p) := by
   have k:v0 * nF s f p = gm f 1 0:=by rw [e]; clear u hX gA gB gC; grind
   rw [← k]
   have k2:v0 * nF s f p * Qi.inv (nF s f p) = v0 * (nF s f p * Qi.inv (nF s f p)):=by grind
   rw [k2,u]; grind
  have v1e:v1 = gm s p p * (gm f 1 0 * Qi.inv (nF s f p)):=by rw [h1,v0e]; grind
  by_cases a:x = p
  ·rw [if_pos a, gC n zo, gC p zo, gC (n + 1) zo, if_neg zo, if_pos hp, if_neg zo, Nat.sub_self, show n + 1 - n = 1 by omega, vE, if_pos ⟨a, b⟩, v0e, v1e, Qi.div_def]
   clear u h0 h1 hX v0e v1e; grind
  ·rw [if_neg a, gB x n hx zo, gB x p hx zo, gB x (n + 1) hx zo, if_neg zo, if_pos hp, if_neg zo, vE, if_neg (fun k => a k.1), if_pos b, v0e, Qi.div_def]
   clear u h0 h1 hX v0e v1e; grind
 ·rw [if_neg b] at h0 h1 ⊢
  rw [gA y zo,if_pos hy] at h0
  rw [gB p y hp zo,if_pos hy] at h1
  have v1e : v1 = gm s p y * Qi.inv (nF s f p) := by
   have k:v1 * nF s f p = gm s p y:=by rw [e]; clear u hX gA gB gC; grind
   rw [← k]
   have k2:v1 * nF s f p * Qi.inv (nF s f p) = v1 * (nF s f p * Qi.inv (nF s f p)):=by grind
   rw [k2,u]; grind
  have v0e:v0 = gm f 1 1 * (gm s p y * Qi.inv (nF s f p)):=by rw [h0,v1e]; grind
  by_cases a:x = p
  ·rw [if_pos a, gC y zo, gC p zo, gC (n + 1) zo, if_pos hy, if_pos hp, if_neg zo, show n + 1 - n = 1 by omega, vE, if_neg (fun k => b k.2), if_neg b, if_pos a, v1e, Qi.div_def]
   clear u h0 h1 hX v0e v1e; grind
  ·rw [if_neg a, gB x y hx zo, gB x p hx zo, gB x (n + 1) hx zo, if_pos hy, if_pos hp, if_neg zo, vE, if_neg (fun k => a k.1), if_neg b, if_neg a, v0e, Qi.div_def]
   clear u h0 h1 hX v0e v1e; grind
end
theorem Yx {n p:Nat} (hp:p < n):eO [p,n + 1] (n + 2) = tab n (nP p):=by
 rw [eO,if_pos (by simp),List.append_nil]
 have : ∀ k, k ≤ n + 1 → eO [p, n + 1] k = eO [p] k := fun k => by
  induction k with
  | zero=>intro _; rfl
  | succ k ih =>
   intro hk
   rw [eO,eO,ih zo]
   have e:(k ∈ [p,n + 1]) ↔ (k ∈ [p]):=by simp; omega
   by_cases c:k ∈ [p]
   ·rw [if_pos c,if_pos (e.2 c)]
   ·rw [if_neg c,if_neg fun h=>c (e.1 h)]
 rw [this (n + 1) (Nat.le_refl _),Hd,Pn zo]; rfl
section
variable {z fz:List Qi} {s f:List (List Qi)} {p n:Nat} (hz:z.length = n) (hfl:fz.length = 2) (hp:p < n) (hpz:gv fz 1 = gv z p)
theorem a6x (hz : z.length = n) (hfl : fz.length = 2) (hp : p < n) (hpz : gv fz 1 = gv z p) : zK (z ++ fz) (J1 p (n + 1)) = 0 := gL fun i hi => by
 obtain rfl:i = 0:=by simp at hi; omega
 refine a4K (l:=[]) rfl rfl (by rw [List.length_append]; omega) (by rw [List.length_append]; omega) (by simp) (by simp) zo ?_
 have e1:gv (z ++ fz) p = gv z p:=by simp [gv,List.getD,List.getElem?_append_left (show p < z.length by omega)]
 have e2 : gv (z ++ fz) (n + 1) = gv fz 1 := by
  subst hz
  simp only [gv,List.getD]
  rw [List.getElem?_append_right zo,show z.length + 1 - z.length = 1 by omega]
 rw [e1,e2,hpz]
theorem a6w (hz:z.length = n) (hfl:fz.length = 2) (hp:p < n) (hpz:gv fz 1 = gv z p):vF (z ++ fz) (wR s f n) (J1 p (n + 1)) = if nF s f p = 0 then 6 else 0:=by
 have hl:(z ++ fz).length = n + 2:=by rw [List.length_append]; omega
 have hj:Dq (z ++ fz) (J1 p (n + 1)) = 0:=a3H (a6x hz hfl hp hpz) (by rw [hl]; show ¬ (0 < 2 * 1 ∧ 2 * 1 = n + 2); omega)
 have hs:=Ng (S:=wR s f n) hj (by simp)
 have hi : Ni (z ++ fz) (wR s f n) (J1 p (n + 1)) = 0 ↔ a0X (gm (wR s f n)) p (n + 1) := by
  have e:Ni (z ++ fz) (wR s f n) (J1 p (n + 1)) = jZ (fun y=>jA (nU (wR s f n) (cL (J1 p (n + 1))) 2) (zA (wR s f n) (cL (J1 p (n + 1))) 2 ((dO (z ++ fz) (J1 p (n + 1))).getD y 0)) 2) (dO (z ++ fz) (J1 p (n + 1))).length:=rfl
  rw [e,a4H,hl,Yx hp,aF]
  exact Tb zo fun i=>by rw [a6e]; exact Qs
 rw [hs]
 by_cases c:nF s f p = 0
 ·rw [if_pos c,if_neg fun k=>(Nx hp).1 (hi.1 k) c]
 ·rw [if_neg c,if_pos (hi.2 ((Nx hp).2 c))]
theorem Ny (hz : z.length = n) (hfl : fz.length = 2) (hp : p < n) (hpz : gv fz 1 = gv z p) (hD : nF s f p ≠ 0) :
  pF (Cd (z ++ fz) (wR s f n) (J1 p (n + 1))) (Gr n p) = Ta s f p n ∧ mF (tV (z ++ fz) (wR s f n) (J1 p (n + 1))) (Gr n p) = z.set p (gv fz 0) ∧ (tV (z ++ fz) (wR s f n) (J1 p (n + 1))).length = n:=by
 have hl:(z ++ fz).length = n + 2:=by rw [List.length_append]; omega
 have hE:vF (z ++ fz) (wR s f n) (J1 p (n + 1)) = 0:=by rw [a6w hz hfl hp hpz,if_neg hD]
 obtain ⟨hS,hZ⟩:=a6v hE
 rw [hl,Yx hp,aF] at hS
 rw [hl,Yx hp] at hZ
 have hql:(Gr n p).length = n:=by rw [Bu hp,aF]
 have hqa:∀ x,x < n → cD (Gr n p) x = Bs p x n:=fun x hx=>by rw [Bu hp]; exact kJ hx
 have hsk:∀ x,x < n → cD (tab n (nP p)) (Bs p x n) = if x = p then n else x:=fun x hx=>by rw [show cD (tab n (nP p)) (Bs p x n) = nP p (Bs p x n) from kJ (Bt hx),Gq hp hx]
 refine ⟨?_,?_,by rw [hZ,show (mF (z ++ fz) (tab n (nP p))).length = (tab n (nP p)).length from aF _ _,aF]⟩
 ·rw [pF, hql]
  refine bT fun x hx=>bT fun y hy=>?_
  rw [hqa x hx,hqa y hy,hS,dD (Bt hx) (Bt hy),hsk x hx,hsk y hy]
  exact a6W hp hD hx hy
 ·rw [mF, hql]
  refine List.ext_getElem (by rw [aF,List.length_set,hz]) fun x h1 h2=>?_
  rw [aF] at h1
  rw [List.getElem_set]
  have e:(tab n fun i=>gv (tV (z ++ fz) (wR s f n) (J1 p (n + 1))) (cD (Gr n p) i))[x]'(by rw [aF]; exact h1) = gv (tV (z ++ fz) (wR s f n) (J1 p (n + 1))) (cD (Gr n p) x):=by simp [tab]
  rw [e,hqa x h1,hZ,mF,fC (by rw [aF]; exact Bt h1),hsk x h1]
  by_cases c:p = x
  ·rw [if_pos c,if_pos c.symm]; subst hz; simp only [gv,List.getD]; rw [List.getElem?_append_right (Nat.le_refl _),Nat.sub_self]
  ·rw [if_neg c,if_neg (Ne.symm c)]; simp [gv,List.getD,List.getElem?_append_left (show x < z.length by omega),show x < z.length by omega]
end
end
section
open Go Go.RowKit
theorem mX {n m i j:Nat} (hi:i < n) (hj:j < m):gm (fB n m) i j = 0:=dD hi hj
section
variable {z:List Qi} {s:List (List Qi)}
theorem a5a (hs:cB s z.length z.length) (hp:z.all eS = true) (h:lB z s = fB z.length z.length):Lt z s = fB z.length z.length:=by
 have hne:∀ {i},i < z.length → gv z i ≠ 0:=fun hi=>oL hp hi
 have ho : ∀ {i k}, i < z.length → k < z.length → (aB z.length fun m => gm s i m * gv z m * (gm s k m).conj) = if i = k then gv z i else 0 := fun {i k} hi hk => by
  have e:=pT (s:=s) (z:=z) hs.1 hi hk
  rw [h,mX hi hk] at e
  grind
 have hm : gR s (tab z.length fun m => tab z.length fun k => gv z m * (gm s k m).conj / gv z k) z.length z.length z.length = qP z.length := fH iA (mY _) fun i hi k hk => by
  rw [jR hi hk,uP hi hk]
  have t : ∀ m, m < z.length → gm s i m * gm (tab z.length fun m => tab z.length fun k => gv z m * (gm s k m).conj / gv z k) m k = (gm s i m * gv z m * (gm s k m).conj) * Qi.inv (gv z k) := fun m hm => by
   rw [dD hm hk,Qi.div_def]; grind
  rw [aA t,iB,ho hi hk]
  have hk1:=oF (hne hk)
  by_cases c:i = k
  ·rw [if_pos c,if_pos c,c]; exact hk1
  ·rw [if_neg c,if_neg c]; grind
 have hr:=Ib hs cB.tab hm
 refine fH cB.tab (mQ _ _) fun i hi k hk=>?_
 rw [mX hi hk,show gm (Lt z s) i k = Cr z s i k z.length from dD hi hk,Cr]
 have e:gm (qP z.length) i k = if i = k then 1 else 0:=uP hi hk
 rw [← hr,jR hi hk] at e
 have t : ∀ m, m < z.length → gm (tab z.length fun m => tab z.length fun k => gv z m * (gm s k m).conj / gv z k) i m * gm s m k = gv z i * ((gm s m i).conj * gm s m k / gv z m) := fun m hm => by
  rw [dD hi hm,Qi.div_def,Qi.div_def]; grind
 rw [aA t,iY] at e
 have hk1:=oF (hne hi)
 generalize (aB z.length fun m=>(gm s m i).conj * gm s m k / gv z m) = X at *
 have e3 : X = (if i = k then 1 else 0) * Qi.inv (gv z i) := by
  rw [← e]
  have:gv z i * X * Qi.inv (gv z i) = (gv z i * Qi.inv (gv z i)) * X:=by grind
  rw [this,hk1]; grind
 rw [e3]
 by_cases c:i = k
 ·rw [if_pos c,if_pos c,Qi.div_def]; grind
 ·rw [if_neg c,if_neg c]; grind
theorem a2e (h:Lt z s = fB z.length z.length):Qm z s = true:=by
 rw [Qm,h,List.all_eq_true]
 intro r hr
 obtain ⟨i,hi,rfl⟩:=dN.1 hr
 rw [Bool.not_eq_true',List.any_eq_false]
 intro x hx
 obtain ⟨k,hk,rfl⟩:=dN.1 hx
 have:(Qi.zero:Qi) = 0:=rfl
 simp [this]
end
theorem Fb (n:Nat):yY (fB n n) n = true:=decide_eq_true fun i hi k hk=>by rw [mX hi hk,mX hk hi,mL]
theorem wP (n : Nat) : ∀ i, i ≤ n → qW (fB n n) n i = (fB n n, qP n)
 | 0,_=>rfl
 | i + 1, hi => by
  have ih:=wP n i zo
  rw [Jt (by rw [ih]; exact mX zo zo),ih]
theorem Zf:Ze (0:Qi) = false:=by decide +kernel
theorem Wx {V:List (List Qi)} {n i:Nat} (hi:i < n):Iu (fB n n) V n i = []:=by
 have hk:crK (fB n n) n i = n ∨ n < crK (fB n n) n i ∨ crK (fB n n) n i < n:=by omega
 rw [Iu,if_pos (mX hi hi)]
 obtain ⟨⟨a1,a2⟩,-,a4⟩:=Ey (p:=fun k=>!decide (gm (fB n n) i k = 0)) (f:=n - (i + 1)) (k:=i + 1)
 refine if_neg fun h=>?_
 have h2:wX (fun k=>!decide (gm (fB n n) i k = 0)) (n - (i + 1)) (i + 1) < n:=h
 have:=a4 zo
 rw [mX hi h2] at this
 simp at this
theorem Bn (n : Nat) : ∀ f i, i + f = n → Ls (fB n n) n f i = (true, [])
 | 0,_,_=>rfl
 | f + 1, i, h => by
  rw [Ls,wP n i zo]
  show (if Ze (gm (fB n n) i i) = true then _ else if Iu (fB n n) (qP n) n i ≠ [] then _ else Ls (fB n n) n f (i + 1)) = _
  rw [mX zo zo,if_neg (by rw [Zf]; simp),Wx zo,if_neg (fun k=>k rfl),Bn n f (i + 1) zo]
theorem Wy (n:Nat):dfB (fB n n) n = true:=by rw [dfB,if_pos (Fb n),Bn n n 0 zo]
theorem Xa (n:Nat):dfW (fB n n) n = []:=by rw [dfW,if_pos (Fb n),Bn n n 0 zo]
theorem a0M (n:Nat):SzD (fB n n) n 1 1:=⟨fun i hi=>by rw [wP n i hi]; exact Uy (Nat.le_refl 1),fun i hi=>by rw [wP n i hi]; exact Ac (Nat.le_refl 1),Nat.le_refl 1,Nat.le_refl 1,by omega⟩
def Ir (z:List Qi) (s:List (List Qi)) (n:Nat):Prop:=∀ i,i < n → ∀ j,j < n → gm s i j * gv z j = gm s j i * gv z i
theorem Ou {N : Nat} {p q d : Nat → Qi} {S : Nat → Nat → Qi} (h : ∀ i, i < N → ∀ j, j < N → S i j * d j = S j i * d i) :
  (aB N fun l=>(aB N fun k=>p k * S k l) * d l * q l) = aB N fun l=>(aB N fun k=>q k * S k l) * d l * p l:=by
 have e : ∀ (p q : Nat → Qi), (aB N fun l => (aB N fun k => p k * S k l) * d l * q l) = aB N fun l => aB N fun k => p k * (S k l * d l) * q l := fun p q => aA fun l _ => by
  rw [show (aB N fun k=>p k * S k l) * d l * q l = (aB N fun k=>p k * S k l) * (d l * q l) by grind,← iB]
  exact aA fun k _=>by grind
 rw [e,e,iI]
 exact aA fun k hk=>aA fun l hl=>by rw [h k hk l hl]; grind
section
variable {z:List Qi} {S:List (List Qi)} {js:List (Int × Int)}
theorem a0d (hS : cB S z.length z.length) (hj : Jn (cL js) z.length js.length) (hk : JK S js) (hz : ∀ y, y < 2 * js.length → gv z (gq (cL js) y) = gv z (gq (cL js) (jW y))) (h : Ir z S z.length) :
  Ir (rW z js) (zL z S js) (rW z js).length:=fun a ha b hb=>by
 have hzl:(rW z js).length = (eO (iL js) z.length).length:=aF _ _
 rw [hzl] at ha hb
 have fa:=oC ha
 have fb:=oC hb
 have la:=xC ha
 have lb:=xC hb
 have e1:∀ a k,a < (eO (iL js) z.length).length → k < (eO (iL js) z.length).length → gm (zL z S js) a k = xA S (cL js) (2 * js.length) (cD (eO (iL js) z.length) a) (cD (eO (iL js) z.length) k):=fun a k ha hk=>dD ha hk
 have e3:∀ k,k < (eO (iL js) z.length).length → gv (rW z js) k = gv z (cD (eO (iL js) z.length) k):=fun k hk=>fC hk
 rw [e1 a b ha hb,e1 b a hb ha,e3 a ha,e3 b hb]
 have key : ∀ a b, a < (eO (iL js) z.length).length → b < (eO (iL js) z.length).length →
   (aB z.length fun l=>(aB z.length fun k=>sH S js (cD (eO (iL js) z.length) a) k * gm S k l) * gv z l * sH S js (cD (eO (iL js) z.length) b) l)
   = xA S (cL js) (2 * js.length) (cD (eO (iL js) z.length) a) (cD (eO (iL js) z.length) b) * gv z (cD (eO (iL js) z.length) b)
    + aB (2 * js.length) fun y=>sH S js (cD (eO (iL js) z.length) a) (gq (cL js) (jW y)) * gv z (gq (cL js) y) * sH S js (cD (eO (iL js) z.length) b) (gq (cL js) y):=fun a b ha hb=>by
  have fa:=oC ha
  have fb:=oC hb
  have la:=xC ha
  rw [Cf hj]
  congr 1
  ·rw [bM hb fun k hk hne => by rw [rA (oC hk), if_neg fun e => hne (Ch hk hb e)]; grind]
   rw [rA (i:=cD (eO (iL js) z.length) b) fb,if_pos rfl,a4y hj hk la fa]; grind
  ·exact aA fun y hy=>by rw [a4x hj hk la fa hy]
 have hh:=Ou (p:=sH S js (cD (eO (iL js) z.length) a)) (q:=sH S js (cD (eO (iL js) z.length) b)) (d:=gv z) (S:=gm S) h
 rw [key a b ha hb,key b a hb ha] at hh
 have e2 : (aB (2 * js.length) fun y => sH S js (cD (eO (iL js) z.length) b) (gq (cL js) (jW y)) * gv z (gq (cL js) y) * sH S js (cD (eO (iL js) z.length) a) (gq (cL js) y))
   = aB (2 * js.length) fun y=>sH S js (cD (eO (iL js) z.length) a) (gq (cL js) (jW y)) * gv z (gq (cL js) y) * sH S js (cD (eO (iL js) z.length) b) (gq (cL js) y):=by
  rw [← Hw (fun y=>sH S js (cD (eO (iL js) z.length) b) (gq (cL js) (jW y)) * gv z (gq (cL js) y) * sH S js (cD (eO (iL js) z.length) a) (gq (cL js) y))]
  exact aA fun y hy=>by rw [sA,← hz y hy]; grind
 rw [e2] at hh
 grind
theorem a0c (hS:cB S z.length z.length) (hE:vF z S js = 0) (hl:z.length ≤ 8) (h:Ir z S z.length):Ir (tV z S js) (Cd z S js) (tV z S js).length:=by
 obtain ⟨hd,hj6,hk,hne⟩:=Cn hE hl
 rw [tV,Cd,iC,iC,if_pos hE,if_pos hE]
 by_cases h0:js.length = 0
 ·rw [if_pos h0,if_pos h0]; exact h
 ·rw [if_neg h0, if_neg h0]
  exact a0d hS (Ce hd) hk (fun y hy=>a6b hd hy) h
end
theorem a2R {x a b y r z w h:Qi} (h4:h * h * 4 = 1) (e:r * z = w):(h * (x * (1 + r) - a * (1 - r))) * z * (b * ((1 + r) * h) - y * ((1 - r) * h)) - (h * (y * (1 + r) - b * (1 - r))) * z * (a * ((1 + r) * h) - x * ((1 - r) * h)) = (x * b - y * a) * w:=by
 subst e; grind
section
variable {z w:List Qi} {s:List (List Qi)} {n:Nat}
theorem Ns (hz : z.length = n) (hw : w.length = n) (hs : cB s n n) (hp : z.all eS = true) (h : Ic z w s = 0) (hr : Ir z s n) : Ir w (mV z w s) n := fun i hi j hj => by
 obtain ⟨hq,-,hS,-⟩:=Ao hz hw h
 have hh:=Ou (p:=Fe z w (mV z w s) i) (q:=Fe z w (mV z w s) j) (d:=gv z) (S:=gm s) hr
 have h2 : (aB n fun l => (gm (mV z w s) i l * dl j l - gm (mV z w s) j l * dl i l) * gv w l) = 0 := by
  have t : ∀ l, l < n → (gm (mV z w s) i l * dl j l - gm (mV z w s) j l * dl i l) * gv w l = (aB n fun k => Fe z w (mV z w s) i k * gm s k l) * gv z l * Fe z w (mV z w s) j l - (aB n fun k => Fe z w (mV z w s) j k * gm s k l) * gv z l * Fe z w (mV z w s) i l := fun l hl => by
   obtain ⟨rc,re⟩:=Cw hz hw hp hq hl
   rw [Qq hz hw h hi hl,Qq hz hw h hj hl,Hm,Hm,a2R Kd re]
  rw [aA t,← uF,hh]; grind
 have t : ∀ l, l < n → (gm (mV z w s) i l * dl j l - gm (mV z w s) j l * dl i l) * gv w l = (if l = j then gm (mV z w s) i l * gv w l else 0) - 1 * (if l = i then gm (mV z w s) j l * gv w l else 0) := fun l _ => by
  unfold dl
  by_cases c:l = j
  ·by_cases d : l = i
   ·rw [if_pos c,if_pos d,if_pos c.symm,if_pos d.symm]; grind
   ·rw [if_pos c,if_neg d,if_pos c.symm,if_neg (Ne.symm d)]; grind
  ·by_cases d : l = i
   ·rw [if_neg c,if_pos d,if_neg (Ne.symm c),if_pos d.symm]; grind
   ·rw [if_neg c,if_neg d,if_neg (Ne.symm c),if_neg (Ne.symm d)]; grind
 rw [aA t,lL,bM hj (fun u _ hne=>if_neg hne),if_pos rfl,bM hi (fun u _ hne=>if_neg hne),if_pos rfl] at h2
 grind
end
theorem Kx {z zb : List Qi} {a b : List (List Qi)} (ha : Ir z a z.length) (hb : Ir zb b zb.length) : Ir (z ++ zb) (rG a b z.length zb.length) (z ++ zb).length := fun i hi j hj => by
 rw [List.length_append] at hi hj
 have z0:Qi.zero = (0:Qi):=rfl
 rw [iQ hi hj,iQ hj hi,z0]
 by_cases ci:i < z.length
 ·by_cases cj : j < z.length
  ·rw [if_pos ci,if_pos cj,if_pos cj,if_pos ci,zY ci,zY cj]; exact ha i ci j cj
  ·rw [if_pos ci,if_neg cj,if_neg cj,if_neg zo]; grind
 ·by_cases cj : j < z.length
  ·rw [if_neg ci,if_pos cj,if_neg ci,if_neg zo]; grind
  ·obtain ⟨i', rfl⟩ : ∃ i', i = z.length + i' := ⟨i - z.length, by omega⟩
   obtain ⟨j',rfl⟩:∃ j',j = z.length + j':=⟨j - z.length,by omega⟩
   rw [if_neg ci,if_neg cj,if_pos zo,if_pos zo,zZ,zZ,Nat.add_sub_cancel_left,Nat.add_sub_cancel_left]; exact hb i' zo j' zo
section
variable {z:List Qi} {s:List (List Qi)} {Q:List Nat}
theorem a2S (hl : Q.length = z.length) (hlt : ∀ x, x ∈ Q → x < z.length) (h : Ir z s z.length) : Ir (mF z Q) (pF s Q) Q.length := fun i hi j hj => by
 have e1:gm (pF s Q) i j = gm s (cD Q i) (cD Q j):=dD hi hj
 have e2:gm (pF s Q) j i = gm s (cD Q j) (cD Q i):=dD hj hi
 have e3:∀ k,k < Q.length → gv (mF z Q) k = gv z (cD Q k):=fun k hk=>fC hk
 rw [e1,e2,e3 i hi,e3 j hj]; exact h _ (pU hlt hi) _ (pU hlt hj)
theorem a0o (hs:cB s z.length z.length) (hl:Q.length = z.length) (hlt:∀ x,x ∈ Q → x < z.length) (hinj:∀ i j,i < z.length → j < z.length → cD Q i = cD Q j → i = j):pF (lB z s) Q = lB (mF z Q) (pF s Q):=by
 have hq:∀ i,i < z.length → cD Q i < z.length:=fun i hi=>pU hlt zo
 refine fH (n:=z.length) (m:=z.length) (by rw [← hl]; exact Dd _ _) (by have:=mD (mF z Q) (pF s Q); rwa [rH,hl] at this) fun i hi j hj=>?_
 rw [pT (by rw [(Dd s Q).1,rH]) (by rw [rH,hl]; exact hi) (by rw [rH,hl]; exact hj),rH,hl]
 have e1:gm (pF (lB z s) Q) i j = gm (lB z s) (cD Q i) (cD Q j):=dD zo zo
 have e2:∀ a k,a < z.length → k < z.length → gm (pF s Q) a k = gm s (cD Q a) (cD Q k):=fun a k ha hk=>dD zo zo
 have e3:∀ k,k < z.length → gv (mF z Q) k = gv z (cD Q k):=fun k hk=>fC zo
 have e4 : (aB z.length fun k => gm (pF s Q) i k * gv (mF z Q) k * (gm (pF s Q) j k).conj) = aB z.length fun k => gm s (cD Q i) k * gv z k * (gm s (cD Q j) k).conj := by
  rw [← a00 hl hlt hinj (fun k=>gm s (cD Q i) k * gv z k * (gm s (cD Q j) k).conj)]
  exact aA fun k hk=>by rw [e2 i k hi hk,e2 j k hj hk,e3 k hk]
 rw [e1,pT hs.1 (hq i hi) (hq j hj),e4,e3 i hi]
 congr 1
 by_cases c:i = j
 ·rw [if_pos c,if_pos (by rw [c])]
 ·rw [if_neg c,if_neg fun e=>c (hinj i j hi hj e)]
end
theorem Lm (y : Nat → Qi) : ∀ n, 0 ≤ (aB n fun i => (y i).conj * y i).re ∧ ((aB n fun i => (y i).conj * y i).re = 0 → ∀ i, i < n → y i = 0)
 | 0=>⟨by show (0:Rat) ≤ (0:Qi).re; decide +kernel,fun _ i hi=>by omega⟩
 | n + 1 => by
  obtain ⟨a1,a2⟩:=Lm y n
  have e : (aB (n + 1) fun i => (y i).conj * y i).re = (aB n fun i => (y i).conj * y i).re + ((y n).re * (y n).re + (y n).im * (y n).im) := by
   rw [iX]
   show _ + ((y n).re * (y n).re - -(y n).im * (y n).im) = _
   grind
  have p1:=kH (y n).re
  have p2:=kH (y n).im
  rw [e]
  refine ⟨by grind,fun h i hi=>?_⟩
  have q0:(aB n fun i=>(y i).conj * y i).re = 0:=by grind
  have q1:(y n).re * (y n).re = 0:=by grind
  have q2:(y n).im * (y n).im = 0:=by grind
  by_cases c:i = n
  ·subst c
   have r1:(y i).re = 0:=by rcases Rat.mul_eq_zero.1 q1 with k | k <;> exact k
   have r2:(y i).im = 0:=by rcases Rat.mul_eq_zero.1 q2 with k | k <;> exact k
   exact Qi.ext' r1 r2
  ·exact a2 q0 i zo
structure Rea (q:List (List Qi)) (n:Nat):Prop where
 im:∀ i,i < n → ∀ j,j < n → (gm q i j).conj = -gm q i j
 sy:∀ i,i < n → ∀ j,j < n → gm q i j = gm q j i
section
variable {q:List (List Qi)} {n:Nat}
theorem a03 {i j:Nat} (hi:i < n) (hj:j < n):gm (kL 1 1 q n) i j = gm q i j + if i = j then 1 else 0:=by
 rw [Hu hi hj,show Qi.ofInt 1 = (1:Qi) from rfl]; grind
theorem a4S {i j:Nat} (hi:i < n) (hj:j < n):gm (kL (-1) 1 q n) i j = gm q i j - if i = j then 1 else 0:=by
 rw [Hu hi hj,show Qi.ofInt 1 = (1:Qi) from rfl,show Qi.ofInt (-1) = (-1:Qi) from rfl]
 by_cases c:i = j
 ·rw [if_pos c,if_pos c]; grind
 ·rw [if_neg c,if_neg c]; grind
theorem a2U (h:Rea q n) {y:Nat → Qi} (hy:∀ i,i < n → aB n (fun k=>gm (kL 1 1 q n) i k * y k) = 0):∀ k,k < n → y k = 0:=by
 have e1 : ∀ i, i < n → aB n (fun k => gm (kL 1 1 q n) i k * y k) = y i + aB n fun k => gm q i k * y k := fun i hi => by
  rw [aA (g := fun k => (if k = i then y k else 0) + gm q i k * y k) (fun k hk => by
   rw [a03 hi hk]
   by_cases c:i = k
   ·rw [if_pos c,if_pos c.symm]; grind
   ·rw [if_neg c,if_neg (Ne.symm c)]; grind),kI,bM hi (fun u _ hne=>if_neg hne),if_pos rfl]
 have e2 : (aB n fun i => (y i).conj * y i) + (aB n fun i => aB n fun k => (y i).conj * gm q i k * y k) = 0 := by
  rw [← kI]
  refine dT fun i hi=>?_
  have:=hy i hi
  rw [e1 i hi] at this
  have e : (aB n fun k => (y i).conj * gm q i k * y k) = (y i).conj * aB n fun k => gm q i k * y k := by
   rw [← iY]; exact aA fun k _=>by grind
  rw [e]
  generalize (aB n fun k=>gm q i k * y k) = u at *
  have e3:(y i).conj * y i + (y i).conj * u = (y i).conj * (y i + u):=by grind
  rw [e3,this]; grind
 have e3 : (aB n fun i => aB n fun k => (y i).conj * gm q i k * y k).conj = -(aB n fun i => aB n fun k => (y i).conj * gm q i k * y k) := by
  rw [qV]
  have e : ∀ i, i < n → (aB n fun k => (y i).conj * gm q i k * y k).conj = aB n fun k => (-1) * ((y k).conj * gm q k i * y i) := fun i hi => by
   rw [qV]
   exact aA fun k hk=>by rw [jY,jY,qU,h.im i hi k hk,h.sy i hi k hk]; grind
  rw [aA e,iI]
  have e':∀ j,j < n → (aB n fun i=>(-1) * ((y j).conj * gm q j i * y i)) = (-1) * aB n fun i=>(y j).conj * gm q j i * y i:=fun j _=>iY _ _ _
  rw [aA e',iY]; grind
 have e4 : (aB n fun i => (y i).conj * y i).conj = aB n fun i => (y i).conj * y i := by
  rw [qV]; exact aA fun i _=>by rw [jY,qU]; grind
 refine (Lm y n).2 ?_
 generalize (aB n fun i=>aB n fun k=>(y i).conj * gm q i k * y k) = U at *
 generalize (aB n fun i=>(y i).conj * y i) = V at *
 have e5:=congrArg Qi.conj e2
 rw [qT,e3,e4,mL] at e5
 have e6 : V = 0 := by
  have:V + V = 0:=by grind
  refine Qi.ext' ?_ ?_
  ·have := congrArg Qi.re this
   have e:V.re + V.re = 0:=this
   show V.re = 0; grind
  ·have := congrArg Qi.im this
   have e:V.im + V.im = 0:=this
   show V.im = 0; grind
 rw [e6]; rfl
theorem Hz (h : Rea q n) : nK (kL 1 1 q n) n = 0 := gL fun k hk => by
 apply Classical.byContradiction; intro e
 obtain ⟨y,hy,k,hk,hne⟩:=xQ (qK 1 1 q n) e
 exact hne (a2U h hy k hk)
theorem dsy (i j:Nat):(if i = j then (1:Qi) else 0) = if j = i then 1 else 0:=by
 by_cases c:i = j
 ·rw [if_pos c,if_pos c.symm]
 ·rw [if_neg c,if_neg (Ne.symm c)]
theorem a6s (h : Rea q n) : (∀ i, i < n → ∀ j, j < n → gm (gR (jK (kL 1 1 q n) n) (kL (-1) 1 q n) n n n) i j = gm (gR (jK (kL 1 1 q n) n) (kL (-1) 1 q n) n n n) j i)
  ∧ ∀ i,i < n → ∀ j,j < n → (aB n fun k=>gm (gR (jK (kL 1 1 q n) n) (kL (-1) 1 q n) n n n) i k * (gm (gR (jK (kL 1 1 q n) n) (kL (-1) 1 q n) n n n) j k).conj) = if i = j then 1 else 0:=by
 have hP:=qK 1 1 q n
 have hM:=qK (-1) 1 q n
 have hI:=Hz h
 have r:=Yo hP hI
 have l:=Yn hP hI
 have hX:=sZ (kL 1 1 q n) n
 have pg:=fun i hi j hj=>a03 (q:=q) (n:=n) (i:=i) (j:=j) hi hj
 have mg:=fun i hi j hj=>a4S (q:=q) (n:=n) (i:=i) (j:=j) hi hj
 have comm : gR (kL (-1) 1 q n) (kL 1 1 q n) n n n = gR (kL 1 1 q n) (kL (-1) 1 q n) n n n := fH iA iA fun i hi j hj => by
  rw [jR hi hj,jR hi hj]
  have a : ∀ k, k < n → gm (kL (-1) 1 q n) i k * gm (kL 1 1 q n) k j = (gm q i k * gm q k j + (if k = j then gm q i k else 0)) - 1 * ((if k = i then gm q k j else 0) + if k = i then (if i = j then 1 else 0) else 0) := fun k hk => by
   rw [mg i hi k hk,pg k hk j hj]
   by_cases c:k = j <;> by_cases d:k = i
   ·subst c; subst d; simp only [if_pos]; grind
   ·rw [if_pos c,if_pos c,if_neg d,if_neg d,if_neg (Ne.symm d)]; grind
   ·subst d; simp only [c,if_true,if_false]; grind
   ·rw [if_neg c,if_neg c,if_neg d,if_neg d,if_neg (Ne.symm d)]; grind
  have b : ∀ k, k < n → gm (kL 1 1 q n) i k * gm (kL (-1) 1 q n) k j = (gm q i k * gm q k j + (if k = i then gm q k j else 0)) - 1 * ((if k = j then gm q i k else 0) + if k = i then (if i = j then 1 else 0) else 0) := fun k hk => by
   rw [pg i hi k hk,mg k hk j hj]
   by_cases c:k = j <;> by_cases d:k = i
   ·subst c; subst d; simp only [if_pos]; grind
   ·rw [if_pos c,if_pos c,if_neg d,if_neg d,if_neg (Ne.symm d)]; grind
   ·subst d; simp only [c,if_true,if_false]; grind
   ·rw [if_neg c,if_neg c,if_neg d,if_neg d,if_neg (Ne.symm d)]; grind
  rw [aA a,aA b,lL,lL,kI,kI,kI,kI,bM hj (fun u _ hne=>if_neg hne),if_pos rfl,bM hi (f:=fun k=>if k = i then gm q k j else 0) (fun u _ hne=>if_neg hne),if_pos rfl]
 have hPS:gR (kL 1 1 q n) (gR (jK (kL 1 1 q n) n) (kL (-1) 1 q n) n n n) n n n = kL (-1) 1 q n:=by rw [← mJ,r,Hg hM]
 have hSM : gR (jK (kL 1 1 q n) n) (kL (-1) 1 q n) n n n = gR (kL (-1) 1 q n) (jK (kL 1 1 q n) n) n n n := by
  have e:gR (gR (jK (kL 1 1 q n) n) (kL (-1) 1 q n) n n n) (kL 1 1 q n) n n n = kL (-1) 1 q n:=by rw [mJ,comm,← mJ,l,Hg hM]
  rw [← e,mJ (C:=jK (kL 1 1 q n) n),r,e,Hh iA]
 have hS:=iA (a:=jK (kL 1 1 q n) n) (b:=kL (-1) 1 q n) (n:=n) (k:=n) (m:=n)
 have hSS:gR (jK (kL 1 1 q n) n) (kL (-1) 1 q n) n n n = gR (jK (kL 1 1 q n) n) (kL (-1) 1 q n) n n n:=rfl
 generalize hG:gR (jK (kL 1 1 q n) n) (kL (-1) 1 q n) n n n = S at *
 have hsym : ∀ i, i < n → ∀ j, j < n → gm S i j = gm S j i := by
  have e : gR (tab n fun i => tab n fun j => gm S j i) (kL 1 1 q n) n n n = kL (-1) 1 q n := fH iA hM fun i hi j hj => by
   rw [jR hi hj]
   have e2:gm (gR (kL 1 1 q n) S n n n) j i = gm (kL (-1) 1 q n) j i:=by rw [hPS]
   rw [jR hj hi,mg j hj i hi,h.sy j hj i hi] at e2
   rw [mg i hi j hj,dsy i j,← e2]
   exact aA fun k hk => by
    rw [dD hi hk,pg k hk j hj,pg j hj k hk,h.sy k hk j hj,dsy k j]; grind
  have e2 : (tab n fun i => tab n fun j => gm S j i) = S := by
   have k:=hSM
   rw [← e,mJ,r,Hh cB.tab] at k
   exact k.symm
  intro i hi j hj
  have:=congrArg (fun M=>gm M j i) e2
  rw [show gm (tab n fun i=>tab n fun j=>gm S j i) j i = gm S i j from dD hj hi] at this
  exact this
 refine ⟨hsym,fun i hi j hj=>?_⟩
 have hc : gR (kL (-1) 1 q n) (tab n fun i => tab n fun j => (gm S i j).conj) n n n = kL 1 1 q n := fH iA hP fun i hi j hj => by
  rw [jR hi hj]
  have e2:(gm (gR (kL 1 1 q n) S n n n) i j).conj = (gm (kL (-1) 1 q n) i j).conj:=by rw [hPS]
  have dc:∀ i j:Nat,(if i = j then (1:Qi) else 0).conj = if i = j then 1 else 0:=fun i j=>Pr i j
  rw [jR hi hj,qV,mg i hi j hj,wL,h.im i hi j hj,dc] at e2
  have e3 : (aB n fun k => gm (kL (-1) 1 q n) i k * gm (tab n fun i => tab n fun j => (gm S i j).conj) k j) = (-1) * aB n fun k => (gm (kL 1 1 q n) i k * gm S k j).conj := by
   rw [← iY]
   exact aA fun k hk => by
    rw [dD hk hj,jY,pg i hi k hk,mg i hi k hk,qT,dc,h.im i hi k hk]; grind
  rw [e3,e2,pg i hi j hj]; grind
 have hu:gR S (tab n fun i=>tab n fun j=>(gm S i j).conj) n n n = qP n:=by rw [← hG,mJ,hG,hc,l]
 have e:=congrArg (fun M=>gm M i j) hu
 rw [show gm (qP n) i j = if i = j then 1 else 0 from uP hi hj] at e
 rw [← e]
 show _ = gm (gR S _ n n n) i j
 rw [jR hi hj]
 exact aA fun k hk=>by rw [dD hk hj,hsym j hj k hk]
end
theorem a2V {z : List Qi} {q : List (List Qi)} {ζ : Qi} (hz : ∀ i, i < z.length → gv z i = ζ) (h : Rea q z.length) :
  lB z (gR (jK (kL 1 1 q z.length) z.length) (kL (-1) 1 q z.length) z.length z.length z.length) = fB z.length z.length
  ∧ Ir z (gR (jK (kL 1 1 q z.length) z.length) (kL (-1) 1 q z.length) z.length z.length z.length) z.length:=by
 obtain ⟨h1,h2⟩:=a6s h
 have hS:=iA (a:=jK (kL 1 1 q z.length) z.length) (b:=kL (-1) 1 q z.length) (n:=z.length) (k:=z.length) (m:=z.length)
 generalize gR (jK (kL 1 1 q z.length) z.length) (kL (-1) 1 q z.length) z.length z.length z.length = S at *
 refine ⟨fH (mD _ _) (mQ _ _) fun i hi j hj=>?_,fun i hi j hj=>by rw [hz i hi,hz j hj,h1 i hi j hj]⟩
 rw [pT hS.1 hi hj,mX hi hj,aA (g:=fun k=>gm S i k * (gm S j k).conj * ζ) (fun k hk=>by rw [hz k hk]; grind),iB,h2 i hi j hj,hz i hi]
 by_cases c:i = j
 ·rw [if_pos c,if_pos c]; grind
 ·rw [if_neg c,if_neg c]; grind
end
section
open Go Go.RowKit
theorem Mw {t y z:Qi} (h:t * y = z) (hy:¬ y = Qi.zero):z / y = t:=by
 have e:=sU (x:=z) (y:=y) hy
 have e2:(z / y - t) * y = 0:=by grind
 rcases iS e2 with k | k
 ·grind
 ·exact absurd k hy
section
variable (c x:List (List Qi)) (n:Nat)
end
section
variable {c x:List (List Qi)} {n:Nat}
end
section
variable (c x:List (List Qi)) (n:Nat)
end
section
variable {c x:List (List Qi)} {n:Nat}
end
section
variable {h:List (List Qi)} {n G V:Nat}
end
end
section
open Go Go.RowKit
theorem Wr {x y:Qi} (hy:y.conj = y) (hne:¬ y = Qi.zero):(x / y).conj = x.conj / y:=by
 have e:=congrArg Qi.conj (sU (x:=x) hne)
 rw [jY,hy] at e
 exact (Mw e hne).symm
end
section
open Go Go.RowKit
def Psd (n:Nat) (C:Nat → Nat → Qi):Prop:=∀ x:Nat → Qi,0 ≤ (lC n x x C).re
theorem a2O {x:Qi} (h:eS x = true):0 ≤ x.re:=by
 obtain ⟨d1,d2⟩:=Gk x
 have dp:=Js x
 have ha:0 < x.a:=by simp only [eS,decide_eq_true_eq] at h; exact h.2
 have hb:(0:Rat) < ((x.a:Int):Rat):=by exact_mod_cast ha
 rcases Rat.le_total (a:=0) (b:=x.re) with k | k
 ·exact k
 ·have := Rat.mul_nonneg (show (0 : Rat) ≤ ((x.den : Int) : Rat) by grind) (show (0 : Rat) ≤ -x.re by grind)
  grind
def Wt (n:Nat) (d:Nat → Qi):Prop:=∀ i,i < n → (d i).conj = d i ∧ 0 ≤ (d i).re
theorem Nk {x y:Qi} (hx:x.conj = x) (h1:0 ≤ x.re) (h2:0 ≤ y.re):0 ≤ (x * y).re:=by
 have e:x.im = 0:=Ia hx.symm
 have:(x * y).re = x.re * y.re - x.im * y.im:=rfl
 rw [this,e]
 have:=Rat.mul_nonneg h1 h2
 grind
theorem a4W (y:Qi):0 ≤ (y * y.conj).re:=by
 have:(y * y.conj).re = y.re * y.re - y.im * -y.im:=rfl
 have p1:=kH y.re
 have p2:=kH y.im
 rw [this]; grind
theorem a0L (f : Nat → Qi) : ∀ n, (∀ i, i < n → 0 ≤ (f i).re) → 0 ≤ (aB n f).re
 | 0,_=>by show (0:Rat) ≤ (0:Qi).re; decide +kernel
 | n + 1, h => by
  rw [iX]
  have a:=a0L f n fun i hi=>h i zo
  have b:=h n zo
  show 0 ≤ (aB n f).re + (f n).re
  grind
def nmW (n:Nat) (d x:Nat → Qi):Qi:=aB n fun k=>x k * d k * (x k).conj
theorem Ud {n:Nat} {d x:Nat → Qi} {r:Nat → Nat → Qi}:lC n x x (fun a b=>(if a = b then d a else 0) - lC n (r a) (r b) (fun u v=>if u = v then d u else 0)) = nmW n d x - nmW n d fun u=>aB n fun a=>x a * r a u:=by
 rw [Cv,kV,Cu,kV]; rfl
section
variable {z:List Qi} {s:List (List Qi)}
theorem a2Q {x:Nat → Qi}:lC z.length x x (gm (Lt z s)) = nmW z.length (fun i=>Qi.inv (gv z i)) x - nmW z.length (fun i=>Qi.inv (gv z i)) fun u=>aB z.length fun a=>x a * (gm s u a).conj:=by
 rw [← Ud (r:=fun a u=>(gm s u a).conj)]
 refine pV (fun _ _=>rfl) (fun _ _=>rfl) fun a b ha hb=>?_
 rw [kV,show gm (Lt z s) a b = Cr z s a b z.length from dD ha hb,Cr]
 congr 1
 ·by_cases c : a = b
  ·rw [if_pos c,if_pos c,Qi.div_def]; grind
  ·rw [if_neg c,if_neg c]
 ·exact aA fun m _=>by rw [qU,Qi.div_def]; grind
theorem a5K (hp : z.all eS = true) : Wt z.length (gv z) := fun i hi => by
 have h:eS (gv z i) = true:=List.all_eq_true.1 hp _ (by rw [show gv z i = z[i] by simp [gv,List.getD,hi]]; exact List.getElem_mem hi)
 exact ⟨uA h,a2O h⟩
theorem a5J (hp : z.all eS = true) : Wt z.length fun i => Qi.inv (gv z i) := fun i hi => by
 obtain ⟨h1,h2⟩:=a5K hp i hi
 have e:=oF (oL hp hi)
 have e2:=congrArg Qi.conj e
 rw [jY,h1,sO] at e2
 have hc : (Qi.inv (gv z i)).conj = Qi.inv (gv z i) := by
  generalize (Qi.inv (gv z i)).conj = w at *
  generalize Qi.inv (gv z i) = v at *
  have:w = w * (gv z i * v):=by rw [e]; grind
  rw [this,show w * (gv z i * v) = (gv z i * w) * v by grind,e2]; grind
 refine ⟨hc,?_⟩
 have hi0:(Qi.inv (gv z i)).im = 0:=Ia hc.symm
 have e3:=congrArg Qi.re e
 have e4:(gv z i * Qi.inv (gv z i)).re = (gv z i).re * (Qi.inv (gv z i)).re - (gv z i).im * (Qi.inv (gv z i)).im:=rfl
 rw [e4,hi0] at e3
 have e5:(1:Qi).re = 1:=rfl
 rw [e5] at e3
 rcases Rat.le_total (a:=0) (b:=(Qi.inv (gv z i)).re) with k | k
 ·exact k
 ·have:=Rat.mul_nonneg h2 (show (0:Rat) ≤ -(Qi.inv (gv z i)).re by grind); grind
end
section
variable {z w:List Qi} {S:List (List Qi)} {js:List (Int × Int)} {n:Nat}
theorem Zy (hS:cB S z.length z.length) (hE:vF z S js = 0) (hl:z.length ≤ 8) (h:lB z S = fB z.length z.length):lB (tV z S js) (Cd z S js) = fB (tV z S js).length (tV z S js).length:=by
 have:=a4T (t:=1) hS hE hl
 have e1:∀ {M:List (List Qi)} {k:Nat},cB M k k → Ii 1 M k = M:=fun {M k} hM=>fH Ld hM fun i hi j hj=>by rw [Ii,dD hi hj]; grind
 rw [e1 (mD _ _),e1 (mD _ _)] at this
 rw [← this,h,njC,tV,iC,iC,if_pos hE,if_pos hE]
 refine fH (n:=(if js.length = 0 then z else rW z js).length) (m:=(if js.length = 0 then z else rW z js).length) ?_ (mQ _ _) fun i hi j hj=>?_
 ·have hsh := qS (p := Bx S js z.length) (c := fB z.length z.length)
  have : (Bx S js z.length).length = (if js.length = 0 then z else rW z js).length := by
   by_cases h0:js.length = 0
   ·obtain rfl : js = [] := List.length_eq_zero_iff.1 h0
    rw [if_pos h0,Bx,List.length_map]
    have:eO (iL []) z.length = eO [] z.length:=rfl
    rw [this]
    have : ∀ n, (eO [] n).length = n := fun n => by
     induction n with
     | zero=>rfl
     | succ n ih=>rw [eO,if_neg (by simp),List.length_append,ih]; rfl
    exact this _
   ·rw [if_neg h0,Bx,List.length_map,rW,mF,aF]; rfl
  rwa [this] at hsh
 ·have hl2 : (Bx S js z.length).length = (if js.length = 0 then z else rW z js).length := by
   by_cases h0:js.length = 0
   ·obtain rfl : js = [] := List.length_eq_zero_iff.1 h0
    rw [if_pos h0,Bx,List.length_map]
    have:eO (iL []) z.length = eO [] z.length:=rfl
    rw [this]
    have : ∀ n, (eO [] n).length = n := fun n => by
     induction n with
     | zero=>rfl
     | succ n ih=>rw [eO,if_neg (by simp),List.length_append,ih]; rfl
    exact this _
   ·rw [if_neg h0,Bx,List.length_map,rW,mF,aF]; rfl
  rw [nI (N:=z.length) (mQ _ _).1 zo zo,mX hi hj,lC]
  exact dT fun a ha=>dT fun b hb=>by rw [mX ha hb]; grind
theorem a5b (hz:z.length = n) (hw:w.length = n) (hs:cB S n n) (hp:z.all eS = true) (h:Ic z w S = 0) (hc:lB z S = fB n n):lB w (mV z w S) = fB n n:=by
 rw [← a4V hz hw hs hp h,hc]
 have hl:=(Qp z w (mV z w S) n).1
 refine fH (n:=n) (m:=n) (by have:=qS (p:=nrM z w (mV z w S) n) (c:=fB n n); rwa [hl] at this) (mQ _ _) fun i hi j hj=>?_
 rw [nI (N:=n) (mQ _ _).1 zo zo,mX hi hj,lC]
 exact dT fun a ha=>dT fun b hb=>by rw [mX ha hb]; grind
theorem Fk {zb:List Qi} {a b:List (List Qi)} (ha:a.length = z.length) (hb:b.length = zb.length) (h1:lB z a = fB z.length z.length) (h2:lB zb b = fB zb.length zb.length):lB (z ++ zb) (rG a b z.length zb.length) = fB (z ++ zb).length (z ++ zb).length:=by
 rw [Zz ha hb,h1,h2,List.length_append]
 refine fH (oJ _ _ _ _) (mQ _ _) fun i hi j hj=>?_
 have z0:Qi.zero = (0:Qi):=rfl
 rw [iQ hi hj,mX hi hj,z0]
 by_cases ci:i < z.length
 ·by_cases cj : j < z.length
  ·rw [if_pos ci,if_pos cj,mX ci cj]
  ·rw [if_pos ci,if_neg cj]
 ·by_cases cj : z.length ≤ j
  ·rw [if_neg ci,if_pos cj,mX zo zo]
  ·rw [if_neg ci,if_neg cj]
end
section
variable {z fz:List Qi} {s f:List (List Qi)} {p n:Nat}
theorem Bv (hz : z.length = n) (hfl : fz.length = 2) (hp : p < n) (h8 : n + 2 ≤ 8) (hpz : gv fz 1 = gv z p) (hD : nF s f p ≠ 0) (hs : cB s n n) :
  vF (z ++ fz) (wR s f n) (J1 p (n + 1)) = 0 ∧ cB (Cd (z ++ fz) (wR s f n) (J1 p (n + 1))) n n ∧ (tV (z ++ fz) (wR s f n) (J1 p (n + 1))).length = n
  ∧ (Gr n p).length = n ∧ (∀ x,x ∈ Gr n p → x < n) ∧ (∀ i j,i < n → j < n → cD (Gr n p) i = cD (Gr n p) j → i = j):=by
 have hE:vF (z ++ fz) (wR s f n) (J1 p (n + 1)) = 0:=by rw [a6w hz hfl hp hpz,if_neg hD]
 obtain ⟨-,-,hl⟩:=Ny (s:=s) (f:=f) hz hfl hp hpz hD
 have hzl:(z ++ fz).length = n + 2:=by rw [List.length_append]; omega
 have hJ:=(Yv (z:=z ++ fz) (S:=wR s f n) (js:=J1 p (n + 1)) (by rw [hzl]; exact oJ _ _ _ _)).1
 rw [hl] at hJ
 have hq:∀ i,i < n → cD (Gr n p) i = Bs p i n:=fun i hi=>by rw [Bu hp]; exact kJ hi
 refine ⟨hE,hJ,hl,by rw [Bu hp,aF],fun x hx=>?_,fun i j hi hj e=>?_⟩
 ·rw [Bu hp] at hx
  obtain ⟨i,hi,rfl⟩:=dN.1 hx
  exact Bt hi
 ·rw [hq i hi, hq j hj] at e
  have a:=Gq hp hi
  have b:=Gq hp hj
  rw [e] at a
  have:(if i = p then n else i) = if j = p then n else j:=a.symm.trans b
  by_cases c:i = p
  ·by_cases d : j = p
   ·omega
   ·rw [if_pos c,if_neg d] at this; omega
  ·by_cases d : j = p
   ·rw [if_neg c,if_pos d] at this; omega
   ·rw [if_neg c,if_neg d] at this; omega
theorem a59 (hz : z.length = n) (hfl : fz.length = 2) (hp : p < n) (h8 : n + 2 ≤ 8) (hpz : gv fz 1 = gv z p) (hD : nF s f p ≠ 0) (hs : cB s n n) :
  lB (z.set p (gv fz 0)) (Ta s f p n) = pF (lB (tV (z ++ fz) (wR s f n) (J1 p (n + 1))) (Cd (z ++ fz) (wR s f n) (J1 p (n + 1)))) (Gr n p):=by
 obtain ⟨hE,hJ,hl,q1,q2,q3⟩:=Bv hz hfl hp h8 hpz hD hs
 obtain ⟨g1,g2,-⟩:=Ny (s:=s) (f:=f) hz hfl hp hpz hD
 rw [a0o (by rw [hl]; exact hJ) (by rw [hl]; exact q1) (by rw [hl]; exact q2) (by rw [hl]; exact q3),g1,g2]
theorem a2L (hz : z.length = n) (hfl : fz.length = 2) (hp : p < n) (h8 : n + 2 ≤ 8) (hpz : gv fz 1 = gv z p) (hD : nF s f p ≠ 0) (hs : cB s n n) (hf : cB f 2 2)
  (h1:lB z s = fB n n) (h2:lB fz f = fB 2 2):lB (z.set p (gv fz 0)) (Ta s f p n) = fB n n:=by
 obtain ⟨hE,hJ,hl,q1,q2,q3⟩:=Bv hz hfl hp h8 hpz hD hs
 have hzl:(z ++ fz).length = n + 2:=by rw [List.length_append]; omega
 rw [a59 hz hfl hp h8 hpz hD hs]
 have a:=Fk (z:=z) (zb:=fz) (a:=s) (b:=f) (by rw [hs.1,hz]) (by rw [hf.1,hfl]) (by rw [hz]; exact h1) (by rw [hfl]; exact h2)
 rw [hz,hfl] at a
 have b:=Zy (js:=J1 p (n + 1)) (by rw [hzl]; exact oJ _ _ _ _) hE zo a
 rw [b,hl]
 have hs2:=Dd (fB n n) (Gr n p)
 rw [q1] at hs2
 refine fH hs2 (mQ _ _) fun i hi j hj=>?_
 rw [mX hi hj,show gm (pF (fB n n) (Gr n p)) i j = gm (fB n n) (cD (Gr n p) i) (cD (Gr n p) j) from dD zo zo]
 exact mX (pU q2 zo) (pU q2 zo)
theorem a5f (hz : z.length = n) (hfl : fz.length = 2) (hp : p < n) (h8 : n + 2 ≤ 8) (hpz : gv fz 1 = gv z p) (hD : nF s f p ≠ 0) (hs : cB s n n)
  (h1:Ir z s n) (h2:Ir fz f 2):Ir (z.set p (gv fz 0)) (Ta s f p n) n:=by
 obtain ⟨hE,hJ,hl,q1,q2,q3⟩:=Bv hz hfl hp h8 hpz hD hs
 obtain ⟨g1,g2,-⟩:=Ny (s:=s) (f:=f) hz hfl hp hpz hD
 have hzl:(z ++ fz).length = n + 2:=by rw [List.length_append]; omega
 have a:=Kx (z:=z) (zb:=fz) (a:=s) (b:=f) (by rw [hz]; exact h1) (by rw [hfl]; exact h2)
 rw [hz,hfl] at a
 have b:=a0c (js:=J1 p (n + 1)) (by rw [hzl]; exact oJ _ _ _ _) hE zo a
 have d:=a2S (Q:=Gr n p) (by rw [hl]; exact q1) (by rw [hl]; exact q2) b
 rw [g1,g2,q1] at d
 exact d
end
section
variable {z:List Qi} {s:List (List Qi)} {g:Qi} {p n:Nat}
end
end
section
open Go Go.RowKit
def Th (r:Rt):Rt where
 re:=0
 im:=r.re
 den:=0
 h1:=by decide
 h2:=by decide
 h3:=r.h1
 h4:=r.h2
 h5:=by decide
 h6:=by decide
def Ky (sl:List Rt) (a i j:Nat):Rt:=if j < i then uQ (zN sl (fA a * j + i)) else uQ (zN sl (fA a * i + j))
def Nt (sl:List Rt) (a:Nat):List (List Qi):=tab (fA a) fun i=>tab (fA a) fun j=>(Th (Ky sl a i j)).q
def xL (r:Rt) (a:Nat):List Qi:=tab (fA a) fun _=>(yZ r).q
def reQ (sl:List Rt) (r:Rt) (a:Nat):List (List Qi):=Gs (xL r a) (Nt sl a)
def Vc (sl:List Rt) (r:Rt) (a:Nat):List (List Qi):=gR (jK (kL 1 1 (reQ sl r a) (fA a)) (fA a)) (kL (-1) 1 (reQ sl r a) (fA a)) (fA a) (fA a) (fA a)
theorem pE (r:Rt) (a:Nat):(xL r a).length = fA a:=aF _ _
theorem a2T (sl:List Rt) (a i j:Nat):Ky sl a i j = Ky sl a j i:=by
 unfold Ky
 by_cases c:j < i
 ·rw [if_pos c,if_neg zo]
 ·by_cases d : i < j
  ·rw [if_neg c,if_pos d]
  ·obtain rfl : i = j := by omega
   rfl
theorem Yi (r:Rt):(Th r).q.conj = -(Th r).q:=by
 refine Qi.ext' ?_ rfl
 show ((0:Int):Rat) / _ = -(((0:Int):Rat) / _)
 have:((0:Int):Rat) = 0:=rfl
 rw [this]; grind
theorem Ak (r:Rt) (a:Nat):(xL r a).all eS = true:=by
 rw [List.all_eq_true]
 intro x hx
 obtain ⟨i,hi,rfl⟩:=dN.1 hx
 exact Ad r
theorem Hy (sl:List Rt) (a:Nat):cB (Nt sl a) (fA a) (fA a):=cB.tab
theorem a5g (sl:List Rt) (r:Rt) (a:Nat):fD (xL r a) (Nt sl a) = 0:=by
 have hn:1 ≤ fA a ∧ fA a ≤ 4:=by unfold fA; omega
 have hs:=Hy sl a
 have hl:=pE r a
 rw [fD,if_neg,if_pos (Ak r a)]
 rintro (h | h | h | h)
 ·omega
 ·omega
 ·exact h (by rw [hs.1,hl])
 ·obtain ⟨x, hx, h2⟩ := List.any_eq_true.1 h
  simp [hs.2 x hx,hl] at h2
theorem Nu (sl:List Rt) (r:Rt) (a:Nat):Rea (reQ sl r a) (fA a):=by
 have hl:=pE r a
 have hz:∀ i,i < fA a → gv (xL r a) i = (yZ r).q:=fun i hi=>fC hi
 have hg : ∀ i j, i < fA a → j < fA a → gm (reQ sl r a) i j = (Th (Ky sl a i j)).q / (yZ r).q := fun i j hi hj => by
  rw [reQ,Gs,dD zo zo,hz j hj,Nt,dD hi hj]
 have hc:=uA (Ad r)
 have hne:=a06 (Ad r)
 refine ⟨fun i hi j hj=>?_,fun i hi j hj=>?_⟩
 ·rw [hg i j hi hj,Wr hc hne,Yi,Qi.div_def,Qi.div_def]; grind
 ·rw [hg i j hi hj,hg j i hj hi,a2T]
theorem a0f (sl:List Rt) (r:Rt) (a:Nat):frE (xL r a) (Nt sl a) (Gs (xL r a) (Nt sl a)) = 0:=by
 rw [a3A (a5g sl r a),pE]
 exact Zx (Hz (Nu sl r a))
theorem a0g (sl : List Rt) (r : Rt) (a : Nat) : frZ (xL r a) (Nt sl a) (Gs (xL r a) (Nt sl a)) = xL r a
  ∧ frS (xL r a) (Nt sl a) (Gs (xL r a) (Nt sl a)) (kL (-1) 1 (Gs (xL r a) (Nt sl a)) (xL r a).length) = Vc sl r a:=by
 refine ⟨by rw [frZ,iC,if_pos (a0f sl r a)],?_⟩
 rw [frS,iC,if_pos (a0f sl r a),frM,pE]; rfl
theorem uB (r:Rt) (a:Nat):bH (xL r a) 2:=bH.tab fun _ _=>fitRt
theorem Rf (sl:List Rt) (a:Nat):bA (Nt sl a) 2:=bA.tab fun _ _ _ _=>fitRt
theorem a0h (sl:List Rt) (r:Rt) (a:Nat):cB (Vc sl r a) (fA a) (fA a):=iA
theorem a0e (sl:List Rt) (r:Rt) (a:Nat):bA (Vc sl r a) 33777:=by
 have hn:fA a ≤ 4:=by unfold fA; omega
 have hq:bA (reQ sl r a) 10:=(Pw (uB r a) (Rf sl a) (by decide) (by decide) (Ak r a)).le (by decide)
 have h1:bA (kL 1 1 (reQ sl r a) (fA a)) 14:=Aj hq (by decide) yF yF
 have h2:bA (kL (-1) 1 (reQ sl r a) (fA a)) 14:=Aj hq (by decide) Xu yF
 have h3:=Tl (qK 1 1 (reQ sl r a) (fA a)) h1 (by decide) hn (Hz (Nu sl r a))
 exact (Km (L:=a0y 14) (M:=14) h3 h2 (by decide) (by decide) zo).le (by decide)
theorem Rh (sl:List Rt) (r:Rt) (a:Nat):lB (xL r a) (Vc sl r a) = fB (fA a) (fA a) ∧ Ir (xL r a) (Vc sl r a) (fA a):=by
 have hl:=pE r a
 have h:=a2V (z:=xL r a) (q:=reQ sl r a) (ζ:=(yZ r).q) (fun i hi=>fC zo) (by rw [hl]; exact Nu sl r a)
 rw [hl] at h
 exact h
end
section
open Go Go.RowKit
theorem a08 (n : Nat) : Psd n (gm (fB n n)) := fun x => by
 have:lC n x x (gm (fB n n)) = 0:=dT fun a ha=>dT fun b hb=>by rw [mX ha hb]; grind
 rw [this]; show (0:Rat) ≤ (0:Qi).re; decide +kernel
theorem Ln (f : Nat → Qi) : ∀ n, (∀ i, i < n → 0 ≤ (f i).re) → (aB n f).re ≤ 0 → ∀ i, i < n → (f i).re = 0
 | 0,_,_,i,hi=>by omega
 | n + 1, h, h0, i, hi => by
  have a:=a0L f n fun i hi=>h i zo
  have b:=h n zo
  rw [iX] at h0
  have e:(aB n f + f n).re = (aB n f).re + (f n).re:=rfl
  rw [e] at h0
  by_cases c:i = n
  ·subst c; grind
  ·exact Ln f n (fun i hi=>h i zo) (by grind) i zo
section
variable {z w:List Qi} {s:List (List Qi)} {n:Nat}
theorem a30 (hz:z.length = n) (hw:w.length = n) (hp:z.all eS = true) (hq:w.all eS = true) (h:Psd n (gm (Lt z s))):Ic z w s = 0:=by
 rw [a0q (by rw [hw,hz]) hq]
 refine Zx (gL fun k hk=>?_)
 apply Classical.byContradiction; intro e
 obtain ⟨y,hy,k,hk,hne⟩:=xQ (xF _ _ _ _) e
 rw [hw] at hy hk
 obtain ⟨b,hb⟩:∃ b:Nat → Qi,b = fun i=>aB n fun j=>gm s i j * y j:=⟨_,rfl⟩
 have h1 : ∀ i, i < n → (1 + lJ z w i) * y i + (1 - lJ z w i) * b i = 0 := fun i hi => by
  rw [← hy i hi,hb]
  show _ + (1 - lJ z w i) * (aB n fun j=>gm s i j * y j) = _
  have hB:yN z w s = mxM (Ve z w) (Vd z w) s n:=by rw [← hw]
  have t : ∀ j, j < n → gm (mxM (Ve z w) (Vd z w) s n) i j * y j = (if j = i then (1 + lJ z w i) * y j else 0) + (1 - lJ z w i) * (gm s i j * y j) := fun j hj => by
   rw [← hB,a0p hw hi hj]
   by_cases c:i = j
   ·rw [if_pos c,if_pos c.symm]; grind
   ·rw [if_neg c,if_neg (Ne.symm c)]; grind
  rw [aA t,kI,bM hi (fun u _ hne=>if_neg hne),if_pos rfl,iY]
 have hwt:=a5K hp
 have hiv:=a5J hp
 have hv2:=a5K hq
 rw [hz] at hwt hiv
 rw [hw] at hv2
 have hrr:∀ i,i < n → (lJ z w i).conj = lJ z w i ∧ lJ z w i * gv z i = gv w i:=fun i hi=>Cw hz hw hp hq hi
 have hrn : ∀ i, i < n → 0 ≤ (lJ z w i).re := fun i hi => by
  obtain ⟨c1,c2⟩:=hrr i hi
  have e1:lJ z w i = gv w i * Qi.inv (gv z i):=by rw [lJ,Qi.div_def]
  rw [e1]; exact Nk (hv2 i hi).1 (hv2 i hi).2 (hiv i hi).2
 have hx:=h fun a=>(y a).conj
 subst hz
 rw [a2Q] at hx
 have hT : nmW z.length (fun i => Qi.inv (gv z i)) (fun a => (y a).conj) - nmW z.length (fun i => Qi.inv (gv z i)) (fun u => aB z.length fun a => (y a).conj * (gm s u a).conj) = aB z.length fun i => -(Qi.inv (gv z i) * lJ z w i * ((y i - b i) * (y i - b i).conj)) := by
  rw [nmW,nmW,uF]
  refine aA fun i hi=>?_
  have eb : (aB z.length fun a => (y a).conj * (gm s i a).conj) = (b i).conj := by
   rw [hb,qV]; exact aA fun a _=>by rw [jY]; grind
  rw [eb,qU,qU,wL]
  have a1:=h1 i hi
  have a2:=congrArg Qi.conj a1
  rw [qT,jY,jY,qT,wL,sO,(hrr i hi).1,mL] at a2
  generalize (y i).conj = Y at *
  generalize (b i).conj = B at *
  generalize lJ z w i = r at *
  generalize Qi.inv (gv z i) = v
  generalize y i = y0 at *
  generalize b i = b0 at *
  clear hx h hy
  have c1:y0 + b0 = -(r * (y0 - b0)):=by grind
  have c2:Y + B = -(r * (Y - B)):=by grind
  have c3:(Y * v * y0 - B * v * b0) + (Y * v * y0 - B * v * b0) = v * ((y0 + b0) * (Y - B) + (Y + B) * (y0 - b0)):=by grind
  rw [c1,c2] at c3
  have c4:(Y * v * y0 - B * v * b0) + (Y * v * y0 - B * v * b0) = -(v * r * ((y0 - b0) * (Y - B))) + -(v * r * ((y0 - b0) * (Y - B))):=by rw [c3]; grind
  generalize Y * v * y0 - B * v * b0 = P at *
  generalize -(v * r * ((y0 - b0) * (Y - B))) = Q at *
  refine Qi.ext' ?_ ?_
  ·have := congrArg Qi.re c4
   have e1:(P + P).re = P.re + P.re:=rfl
   have e2:(Q + Q).re = Q.re + Q.re:=rfl
   grind
  ·have := congrArg Qi.im c4
   have e1:(P + P).im = P.im + P.im:=rfl
   have e2:(Q + Q).im = Q.im + Q.im:=rfl
   grind
 rw [hT] at hx
 have hneg : ∀ (f : Nat → Qi) n, (aB n fun i => -(f i)) = -(aB n f) := fun f n => by
  induction n with
  | zero=>show (0:Qi) = -0; grind
  | succ n ih=>rw [iX,iX,ih]; grind
 rw [hneg] at hx
 have hx2 : (aB z.length fun i => Qi.inv (gv z i) * lJ z w i * ((y i - b i) * (y i - b i).conj)).re ≤ 0 := by
  have:∀ Q:Qi,(-Q).re = -Q.re:=fun _=>rfl
  rw [this] at hx; grind
 have hk1:∀ i,i < z.length → (Qi.inv (gv z i) * lJ z w i).conj = Qi.inv (gv z i) * lJ z w i ∧ 0 ≤ (Qi.inv (gv z i) * lJ z w i).re:=fun i hi=>⟨by rw [jY,(hiv i hi).1,(hrr i hi).1],Nk (hiv i hi).1 (hiv i hi).2 (hrn i hi)⟩
 have hzr:=Ln _ z.length (fun i hi=>Nk (hk1 i hi).1 (hk1 i hi).2 (a4W (y i - b i))) hx2 k hk
 have hkk:=hk1 k hk
 have hnz : Qi.inv (gv z k) * lJ z w k ≠ 0 := fun e0 => by
  have e1:=oF (oL hp hk)
  have e2:=(hrr k hk).2
  have e3:=oL hq (show k < w.length by omega)
  have : gv w k = 0 := by
   have:gv w k = (gv z k * Qi.inv (gv z k)) * gv w k:=by rw [e1]; grind
   rw [this,← e2]
   have:gv z k * Qi.inv (gv z k) * (lJ z w k * gv z k) = gv z k * gv z k * (Qi.inv (gv z k) * lJ z w k):=by grind
   rw [this,e0]; grind
  exact e3 this
 have hc0 : y k - b k = 0 := by
  generalize Qi.inv (gv z k) * lJ z w k = K at *
  generalize y k - b k = c at *
  have hi0:K.im = 0:=Ia hkk.1.symm
  have e1:(K * (c * c.conj)).re = K.re * (c.re * c.re - c.im * -c.im) - K.im * (c * c.conj).im:=rfl
  rw [e1,hi0] at hzr
  have hr:K.re ≠ 0:=fun e=>hnz (Qi.ext' e hi0)
  have e2:K.re * (c.re * c.re + c.im * c.im) = 0:=by grind
  rcases Rat.mul_eq_zero.1 e2 with q | q
  ·exact absurd q hr
  ·have p1 := kH c.re
   have p2:=kH c.im
   have q1:c.re * c.re = 0:=by grind
   have q2:c.im * c.im = 0:=by grind
   refine Qi.ext' ?_ ?_
   ·rcases Rat.mul_eq_zero.1 q1 with k | k <;> exact k
   ·rcases Rat.mul_eq_zero.1 q2 with k | k <;> exact k
 have a1:=h1 k hk
 have : y k + y k = 0 := by
  have:b k = y k:=by grind
  rw [this] at a1; grind
 refine hne (Qi.ext' ?_ ?_)
 ·have e := congrArg Qi.re this
  have e2:(y k + y k).re = (y k).re + (y k).re:=rfl
  have e3:(0:Qi).re = 0:=rfl
  grind
 ·have e := congrArg Qi.im this
  have e2:(y k + y k).im = (y k).im + (y k).im:=rfl
  have e3:(0:Qi).im = 0:=rfl
  grind
end
end
section
open Go Go.RowKit
theorem Md {n : Nat} {E : cP} {H : Hp} {d : Option Tmp} {t : TypeId} {pos : String} {af : Array Edge} {g : Option (Nat × Bool)} {x0 x1 : Operand} {T0 T1 : Ty} [s0 : dF T0 1 false] (h0 : bC E x0 T0) [s1 : dF T1 1 false] (h1 : bC E x1 T1) :
  aM Tryz.prog n E H ⟨d,.build 64 #[(0,x0),(1,x1)],t,pos,af,g⟩ (fS [T0,T1]) :=
 kD (parts := [(0, x0), (1, x1)]) fun a V w hs => by
  have p0:=h0 n V a hs
  generalize e0:a.eval x0 = v0 at p0
  have q0:=(s0.ok v0 V p0).2.2 rfl
  have p1:=h1 n V a hs
  generalize e1:a.eval x1 = v1 at p1
  have q1:=(s1.ok v1 V p1).2.2 rfl
  refine ⟨.agg #[v0,v1],?_,[v0,v1],rfl,aW (⟨p0,q0⟩) (aW (⟨p1,q1⟩) (aG))⟩
  simp [e0,e1,Instr.build,Instr.fill,Sem.run_bind,Result.andThen,iW,q0.cells,q1.cells,Tryz.zeroValue64,U_64,Z_3]
end
section
open Go Go.RowKit
theorem Vt {n : Nat} {E : cP} {H : Hp} {d : Option Tmp} {t : TypeId} {pos : String} {af : Array Edge} {g : Option (Nat × Bool)} {x1 : Operand} {T1 : Ty} [s1 : dF T1 1 false] (h1 : bC E x1 T1) :
  aM Tryz.prog n E H ⟨d,.build 48 #[(1,x1)],t,pos,af,g⟩ (fS [Is (.int .i64 0),T1,Is (.int .i64 0)]) :=
 kD (parts := [(1, x1)]) fun a V w hs => by
  have p1:=h1 n V a hs
  generalize e1:a.eval x1 = v1 at p1
  have q1:=(s1.ok v1 V p1).2.2 rfl
  refine ⟨.agg #[(.int .i64 0),v1,(.int .i64 0)],?_,[(.int .i64 0),v1,(.int .i64 0)],rfl,aW (⟨rfl,trivial⟩) (aW (⟨p1,q1⟩) (aW (⟨rfl,trivial⟩) (aG)))⟩
  simp [e1,Instr.build,Instr.fill,Sem.run_bind,Result.andThen,iW,q1.cells,O_48,U_48,Z_2]
end
section
open Go Go.RowKit
structure uU (z:List Qi) (s:List (List Qi)) (L:Nat):Prop where
 fz:bH z L
 fs:bA s L
 hL:1 ≤ L
 hb:L ≤ 10000000000
 sh:cB s z.length z.length
 h8:z.length ≤ 8
 pos:z.all eS = true
 own:lB z s = fB z.length z.length
 rc:Ir z s z.length
theorem uU.pw {z:List Qi} {s:List (List Qi)} {L:Nat} (k:uU z s L):Lt z s = fB z.length z.length:=a5a k.sh k.pos k.own
theorem uU.le {z:List Qi} {s:List (List Qi)} {L M:Nat} (k:uU z s L) (h:L ≤ M) (h2:M ≤ 10000000000):uU z s M:=⟨k.fz.le h,k.fs.le h,by have:=k.hL; omega,h2,k.sh,k.h8,k.pos,k.own,k.rc⟩
theorem Bh {z:List Qi} {s:List (List Qi)} {e:Int} {L:Nat} (h:e = 0 → uU z s L):bF Tryz.prog 30 [dC z s,aL .i64 e] (aI true):=by
 refine bF.intro Tryz.func30 rfl Tryz.ntmps30 rfl (fun cx=>(ts (rn rfl (fG (Ht rfl)) fun B2=>(ro rfl (cQ cV) (eX (cK (ts (rm rfl (ro rfl (fM (Ht rfl) cV) (eX (dQ (Ht rfl) (fun hc=>?_) (fun hc=>?_))))))))))))
 ·refine ts (ro rfl (cQ cV) (eX ?_))
  exact fW rfl (eU rfl)
 ·have he : e = 0 := by simpa using hc
  have k:=h he
  have hP:=Sf k.fz k.fs k.hL k.hb k.sh k.h8 k.pos (fun _=>by rw [k.pw]; exact a0M _)
  rw [k.pw,Wy,Xa] at hP
  have hLo:=Mj k.fz k.fs k.hL (Nat.le_trans k.hb (by decide)) k.pos k.sh k.h8
  rw [a2e k.pw] at hLo
  have hRe:=a1f k.fz k.fs k.hL (Nat.le_trans k.hb (by decide)) k.sh k.h8
  rw [show a0i z s = true from decide_eq_true fun i hi j hj=>k.rc i hi j zo] at hRe
  refine cU (ts (ro rfl (eJ A_28 Z_28 (Ht rfl) (i:=0) rfl rfl rfl) (ro rfl (cZ Tryz.call16 hP ⟨(Ht rfl),trivial⟩) (rm rfl (ro rfl (dK (Ht rfl) rfl) (ro rfl (dK (Ht rfl) rfl) (ra rfl (ra rfl (eX (ts (rm rfl (rm rfl (fQ rfl rfl (eK rfl rfl (Ht rfl) (fun h=>eJ A_28 Z_28 (Ht rfl) (i:=0) rfl rfl rfl)) (fQ rfl rfl (eK rfl rfl (Ht rfl) (fun h=>cZ Tryz.call19 hLo ⟨(fJ rfl h),trivial⟩)) (ro rfl (gS (Ht rfl) (fun h=>(fJ rfl h))) (rm rfl (fQ rfl rfl (eK rfl rfl (Ht rfl) (fun h=>eJ A_28 Z_28 (Ht rfl) (i:=0) rfl rfl rfl)) ?_)))))))))))))))))
  refine fQ rfl rfl (eK rfl rfl (Ht rfl) (fun h=>cZ Tryz.call17 hRe ⟨(fJ rfl h),trivial⟩)) (ro rfl (gS (Ht rfl) (fun h=>(fJ rfl h))) (ra rfl (eX (fW rfl (fX (eU rfl) ?_)))))
  exact (fO (by simp))
theorem Bk {a:Nat} {zl sl:List Rt} {r:Rt} (ha:a < 256):bF Tryz.prog 28 [Iw a zl sl,mS r] (eD [dC (xL r a) (Vc sl r a),aI true]):=by
 have hn:1 ≤ fA a ∧ fA a ≤ 4:=by unfold fA; omega
 have hzl:=pE r a
 have hFI : bF Tryz.prog 116 [aN (xL r a), cH (Nt sl a)] (eD [dC (xL r a) (Vc sl r a), aL .i64 0]) := by
  have h:=Se (z:=xL r a) (m:=Nt sl a) (L:=2) (Rf sl a) (uB r a) (by decide) (by decide) zo (by rw [(Hy sl a).1]; omega) (by rw [hzl]; exact Nat.le_trans (Nat.add_le_add_right (Nat.mul_le_mul_left 6 (mO _ hn.2)) 4) (by decide)) (by rw [hzl]; exact Nat.le_trans (Nat.le_trans (yT (mO _ hn.2) _) (xU _ (Nat.succ_le_succ hn.2))) (by decide))
  rw [(a0g sl r a).1,(a0g sl r a).2,a0f] at h; exact h
 obtain ⟨o1,o2⟩:=Rh sl r a
 have hcm:=Bh (z:=xL r a) (s:=Vc sl r a) (e:=0) (L:=33777) (fun _=>⟨(uB r a).le (by decide),a0e sl r a,by decide,by decide,by rw [hzl]; exact a0h sl r a,by omega,Ak r a,by rw [hzl]; exact o1,by rw [hzl]; exact o2⟩)
 refine bF.intro Tryz.func28 rfl Tryz.ntmps28 rfl (fun cx=>(ts (rn rfl (fG (Ht rfl)) fun B2=>(rn rfl (fG (Ht rfl)) fun B3=>(rn rfl (eW (Ts:=[Is (.slice none 0 0),Is (.slice none 0 0)]) O_28 rfl (fun V=>aW zd (aW zd (aG)))) fun B4=>(ro rfl (cQ cV) (eX (ts (ro rfl (eJ Tryz.isAgg24 Tryz.sizeOf24 (Ht rfl) (i:=0) rfl rfl rfl) (ro rfl (cZ Tryz.call92 (a1e ha) ⟨(Ht rfl),trivial⟩) (rm rfl (ro rfl (dK (Ht rfl) rfl) (ro rfl (dK (Ht rfl) rfl) (ra rfl (ra rfl ?_)))))))))))))))
 refine eX (ts (rm rfl (ro rfl (dG U_75 (Ht rfl) (by rw [List.length_map,Va,aF])) ?_)))
 refine rn rfl (jN (T:=Is (.slice none 0 0)) (i:=Tryz.t25) V_26 tU rfl rfl (Ht rfl) rfl (fun _=>rfl) trivial (by show 24 * _ ≤ _; omega) zo) fun B22=>ra rfl (eX (ts (rm rfl (ro rfl (dG U_22 (Ht rfl) (by rw [List.length_map,plZ,aF])) ?_))))
 refine rn rfl (iG (T:=aE Qi.zero) (i:=Tryz.t60) jS gU rfl rfl (Ht rfl) rfl gF (El.ag rfl) (by show 88 * _ ≤ _; omega) zo) fun B25=>ra rfl (eX (cK (ts (rm rfl (ro rfl (dG U_75 (Ht rfl) (by rw [List.length_map,Va,aF])) ?_)))))
 refine ro rfl (cX (cJ 0)) (eX (eG (pN 3 rfl (xE (e:=60) (s:=5)) (cM [1,2,3,4] rfl (by decide) ?_))))
 refine cI (fun (i : Nat) => i ≤ fA a) (fun (i : Nat) => fA a - i) (fun (i : Nat) => [(3, cA B3 0), (4, cA B4 0), (6, lW (plZ a zl)), (7, Ry (Va a sl)), (8, Is (.slice (some ⟨B22, 0, none⟩) (fA a) (fA a))), (9, Is B25), (27, NT .i64 (fA a)), (28, NT .i64 i)]) (fun (i : Nat) => [box B3 48 [aL .i64 r.re, aL .i64 r.im, aL .i64 r.den], box B4 28 [Is (.slice none 0 0), Is (.slice none 0 0)], oE B22 25 60 5 (cO aE (kS (fun i => tab (fA a) fun j => (Th (Ky sl a i j)).q) [] (fA a) i)), bI 60 5 B25 ((kS (fun _ => (yZ r).q) Qi.zero (fA a) i).map aE)]) 0 (Nat.zero_le _)
  (zS rfl) (aU (aD rfl) (aU (aD rfl) (aU (eB (by rw [← iN,rJ]; exact tF aE _)) (aU (aP (by rw [← iN]; exact nY aE _)) aY)))) (fun i hi=>?_)
 refine ts (ro rfl (gX (Ht rfl) (Ht rfl)) (eX (cK (dQ (Ht rfl) (fun hd=>?_) (fun hd=>?_)))))
 ·have hin : i < fA a := by simp only [decide_eq_true_eq] at hd; omega
  refine cU (cK (eG (ts (rm rfl (ra rfl (eX (cK (oV 2 (i) rfl (wW hin) (fun v0=>(cY (rm rfl (rm rfl (rm rfl (ro rfl (dG U_75 (Ht rfl) (by rw [List.length_map,Va,aF])) ?_))))))))))))))
  refine rn rfl (iG (T:=aE Qi.zero) (i:=Tryz.t60) jS gU rfl rfl (Ht rfl) rfl gF (El.ag rfl) (by show 88 * _ ≤ _; omega) zo) fun B35=>ro rfl (fY U_26 Z_25 (Ht rfl) (Ht rfl) rfl zo (by rw [Nat.mul_one,Nat.zero_add])) ?_
  refine Bd Z_25 (Ht rfl) (Ht rfl) (by simp only [cO,List.length_map,dE]; omega) (j:=2) (l:=5) rfl rfl rfl ?_
  refine eX (cK (cM [0,1,2,3,5] rfl (by decide) (cY (rm rfl (rm rfl (ro rfl (eJ A_48 Z_48 (Ht rfl) (i:=0) rfl rfl rfl) (ro rfl (cZ Tryz.call34 (Ge (r:=r)) ⟨(Ht rfl),trivial⟩) ?_)))))))
  refine ro rfl (cZ Tryz.call33 (zP (r:=yZ r)) ⟨(Ht rfl),trivial⟩) ?_
  refine ro rfl (dA U_25 Z_60 (Ht rfl) (Ht rfl) rfl (i:=3) rfl (by rw [List.length_map,dE]; omega) rfl) ?_
  refine lZ Z_60 (Ht rfl) (Ht rfl) (El.ag rfl) (i:=3) rfl rfl (by rw [List.length_map,dE]; omega) rfl ?_
  refine eX (cK (pN 3 rfl (aP (by rw [gI,jU (f:=(fun _=>(yZ r).q))])) ?_))
  refine cY (rm rfl (ro rfl (dG U_75 (Ht rfl) (by rw [List.length_map,Va,aF])) ?_))
  refine ro rfl (cX (cJ 0)) (eX (eG ?_))
  refine cI (fun (j : Nat) => j ≤ fA a) (fun (j : Nat) => fA a - j) (fun (j : Nat) => [(3, cA B3 0), (4, cA B4 0), (6, lW (plZ a zl)), (7, Ry (Va a sl)), (8, Is (.slice (some ⟨B22, 0, none⟩) (fA a) (fA a))), (9, Is B25), (10, NT .i64 i), (27, NT .i64 (fA a)), (28, NT .i64 i), (44, NT .i64 (fA a)), (45, NT .i64 j)]) (fun (j : Nat) => [box B3 48 [aL .i64 r.re, aL .i64 r.im, aL .i64 r.den], box B4 28 [Is (.slice none 0 0), Is (.slice none 0 0)], He B22 25 60 5 (cO aE (kS (fun i => tab (fA a) fun j => (Th (Ky sl a i j)).q) [] (fA a) i)) i B35, bI 60 5 B25 ((kS (fun _ => (yZ r).q) Qi.zero (fA a) (i + 1)).map aE), bI 60 5 B35 ((kS (fun j => (Th (Ky sl a i j)).q) Qi.zero (fA a) j).map aE)]) 0 (Nat.zero_le _)
   (zS rfl) (aU (aD rfl) (aU (aD rfl) (aU (fun _ _ _ h=>h) (aU (fun _ _ _ h=>h) (aU (aP (by rw [← iN]; exact nY aE _)) aY))))) (fun j hj=>?_)
  refine ts (ro rfl (gX (Ht rfl) (Ht rfl)) (eX (cK (dQ (Ht rfl) (fun he=>?_) (fun he=>?_)))))
  ·have hjn : j < fA a := by simp only [decide_eq_true_eq] at he; omega
   refine cU (cK (eG (ts (rm rfl (ra rfl (eX (ts (rm rfl (rm rfl (ro rfl (dZ U_75 Z_22 (Ht rfl) (Ht rfl) rfl (dY (show (Va a sl)[i]? = some (tab (fA a) fun m=>uQ (zN sl (fA a * i + m))) from bR hin))) (ro rfl (dJ A_22 Z_22 (Ht rfl)) (rm rfl (ro rfl (dZ U_22 Z_48 (Ht rfl) (Ht rfl) rfl (dY (show (tab (fA a) fun m=>uQ (zN sl (fA a * i + m)))[j]? = some (uQ (zN sl (fA a * i + j))) from bR hjn))) (ro rfl (gO qE (Ht rfl) rfl) (ro rfl (dJ A_2 Z_2 (Ht rfl)) ?_)))))))))))))))
   refine ra rfl (eX (cK (kQ (fun (x:Rt)=>x = Ky sl a i j) (fun (x:Rt)=>[(3,cA B3 0),(4,cA B4 0),(6,lW (plZ a zl)),(7,Ry (Va a sl)),(8,Is (.slice (some ⟨B22,0,none⟩) (fA a) (fA a))),(9,Is B25),(10,NT .i64 i),(11,NT .i64 j),(12,aL .i64 x.re),(27,NT .i64 (fA a)),(28,NT .i64 i),(44,NT .i64 (fA a)),(45,NT .i64 j)]) (fun (x:Rt)=>[box B3 48 [aL .i64 r.re,aL .i64 r.im,aL .i64 r.den],box B4 28 [Is (.slice none 0 0),Is (.slice none 0 0)],He B22 25 60 5 (cO aE (kS (fun i=>tab (fA a) fun j=>(Th (Ky sl a i j)).q) [] (fA a) i)) i B35,bI 60 5 B25 ((kS (fun _=>(yZ r).q) Qi.zero (fA a) (i + 1)).map aE),bI 60 5 B35 ((kS (fun j=>(Th (Ky sl a i j)).q) Qi.zero (fA a) j).map aE)]) ?_ (fun x hx=>?_))))
   ·refine ts (rm rfl (rm rfl (ro rfl (gX (Ht rfl) (Ht rfl)) (eX (dQ (Ht rfl) (fun hji => ?_) (fun hji => ?_))))))
    ·have hji2 : j < i := by simpa using hji
     refine cY (rm rfl (rm rfl (ro rfl (dZ U_75 Z_22 (Ht rfl) (Ht rfl) rfl (dY (show (Va a sl)[j]? = some (tab (fA a) fun m=>uQ (zN sl (fA a * j + m))) from bR hjn))) (ro rfl (dJ A_22 Z_22 (Ht rfl)) (rm rfl (ro rfl (dZ U_22 Z_48 (Ht rfl) (Ht rfl) rfl (dY (show (tab (fA a) fun m=>uQ (zN sl (fA a * j + m)))[i]? = some (uQ (zN sl (fA a * j + i))) from bR hin))) (ro rfl (gO qE (Ht rfl) rfl) (ro rfl (dJ A_2 Z_2 (Ht rfl)) (ra rfl (eX (bD (uQ (zN sl (fA a * j + i))) (by rw [Ky,if_pos hji2]) (zS rfl) (aU (aD rfl) (aU (aD rfl) (aU (fun _ _ _ h=>h) (aU (fun _ _ _ h=>h) (aU (fun _ _ _ h=>h) aY))))))))))))))))
    ·have hji2 : ¬ j < i := by simpa using hji
     refine cU (bD (uQ (zN sl (fA a * i + j))) (by rw [Ky,if_neg hji2]) (zS rfl) (aU (aD rfl) (aU (aD rfl) (aU (fun _ _ _ h=>h) (aU (fun _ _ _ h=>h) (aU (fun _ _ _ h=>h) aY))))))
   ·subst hx
    refine fZ (m:=8) (dp 8 rfl (cX (Ht rfl)) (dp 10 rfl (cX (Ht rfl)) (dH 67 0 68 1 rfl (fY U_26 Z_25 (Ht rfl) (Ht rfl) rfl zo (by rw [Nat.mul_one,Nat.zero_add])) ?_)))
    refine dq 69 2 rfl (lI A_25 Z_25 (Ht rfl) (j:=2) rfl) (dp 11 rfl (cX (Ht rfl)) (dp 12 rfl (cX (Ht rfl)) (dq 72 5 rfl (Vt (Ht rfl)) (dq 73 6 rfl (cZ Tryz.call33 (zP (r:=Th (Ky sl a i j))) ⟨(Ht rfl),trivial⟩) ?_))))
    refine fV bB rfl (by kernel_rfl) (zF (zF (aV (ro rfl (dA U_25 Z_60 (Ht rfl) (Ht rfl) rfl (i:=4) rfl (by rw [List.length_map,dE]; omega) rfl) ?_))))
    refine lZ Z_60 (Ht rfl) (Ht rfl) (El.ag rfl) (i:=4) rfl rfl (by rw [List.length_map,dE]; omega) rfl ?_
    refine eX (bN (cY (ro rfl (dV (Ht rfl) (cJ 1) z6) (rm rfl (eX (fU (j + 1) hjn zo (zS rfl) (aU (aD rfl) (aU (aD rfl) (aU (fun _ _ _ h=>h) (aU (fun _ _ _ h=>h) (aU (aP (by rw [gI]; exact congrArg _ (jU (f:=(fun j=>(Th (Ky sl a i j)).q))))) aY)))))))))))
  ·obtain rfl : j = fA a := by simp only [decide_eq_false_iff_not] at he; omega
   rw [jT (fun j=>(Th (Ky sl a i j)).q)]
   refine gV rfl (bN (kU 2 4 rfl rfl (by decide) (by simp only [cO,List.length_map,dE]; omega) ?_))
   refine cY (ro rfl (dV (Ht rfl) (cJ 1) z6) (rm rfl (eX (cM [0,1,2,3] rfl (by decide) (fU (i + 1) hin zo (zS rfl) (aU (aD rfl) (aU (aD rfl) (aU (eB (by rw [lK]; exact congrArg _ (jU (f:=(fun i=>tab (fA a) fun j=>(Th (Ky sl a i j)).q))))) (aU (fun _ _ _ h=>h) aY)))))))))
 ·obtain rfl : i = fA a := by simp only [decide_eq_false_iff_not] at hd; omega
  rw [jT,jT]
  refine gV rfl (cK (gJ (i:=3) (tt:=9) rfl rfl gE (gJ (i:=2) (tt:=8) rfl rfl (qY (s:=5) (M:=Nt sl a) (Hy sl a).1.symm) (cY (rm rfl (rm rfl (ro rfl (cZ Tryz.call116 hFI ⟨(Ht rfl),(Ht rfl),trivial⟩) (rm rfl (ro rfl (dK (Ht rfl) rfl) (ro rfl (dK (Ht rfl) rfl) (rn rfl (eW (Ts:=[Is (.slice none 0 0),Is (.slice none 0 0)]) O_28 rfl (fun V=>aW zd (aW zd (aG)))) fun B13=>(gQ Z_28 (Ht rfl) (Ht rfl) rfl (i:=4) rfl (aK rfl) rfl rfl ?_))))))))))))
  refine ra rfl (eX (cK (Y.D_start (m:=9) [(8,1,box B4 28 [aN (xL r a),cH (Vc sl r a)])] (Y.D_step (Ei:=[(13,_)]) rfl rfl (bQ (bJ rfl rfl) bX) rfl rfl (by kernel_rfl) (dX rfl (eJ A_28 Z_28 (Ht rfl) (i:=4) rfl rfl rfl)) (Y.D_step (Ei:=[(14,_)]) rfl rfl (bQ (bJ rfl rfl) bX) rfl rfl (by kernel_rfl) (dX rfl (cX (Ht rfl))) (Y.D_step (Ei:=[(85,_)]) rfl rfl (bQ (bZ 1 rfl rfl) bX) rfl rfl (by kernel_rfl) (dX rfl (oM (Ht rfl) cV)) (Y.D_step (Ei:=[(86,_)]) rfl rfl (bQ (bZ 2 rfl rfl) bX) rfl rfl (by kernel_rfl) (dX rfl (cX (Ht rfl))) ?_)))))))
  refine Y.D_step (Ei:=[(13,_),(87,_)]) rfl rfl (bQ (bJ rfl rfl) (bQ (bZ 3 rfl rfl) bX)) rfl rfl (by kernel_rfl) (eK rfl rfl (Ht rfl) (fun h=>eJ A_28 Z_28 (Ht rfl) (i:=4) rfl rfl rfl)) (Y.D_step (Ei:=[(14,_),(87,_)]) rfl rfl (bQ (bJ rfl rfl) (bQ (bZ 3 rfl rfl) bX)) rfl rfl (by kernel_rfl) (eK rfl rfl (Ht rfl) (fun h=>cX (Ht rfl))) (Y.D_step (Ei:=[(88,_),(89,_),(87,_)]) rfl rfl (bQ (bZ 4 rfl rfl) (bQ (bZ 5 rfl rfl) (bQ (bZ 3 rfl rfl) bX))) rfl rfl (by kernel_rfl) (eK rfl rfl (Ht rfl) (fun h=>cZ Tryz.call30 hcm ⟨(fJ rfl h),(fJ rfl h),trivial⟩)) ?_))
  refine bY (Ei:=[(87,_),(90,_)]) rfl rfl (bQ (bZ 3 rfl rfl) (bQ (bZ 6 rfl rfl) bX)) rfl rfl (dX rfl (gS (Ht rfl) (fun h=>(fJ rfl h)))) (Y.D_putI (Ei:=[(4,_),(84,_)]) 1 rfl rfl rfl (bQ (bJ rfl rfl) (bQ (bZ 0 rfl rfl) bX)) (.head _) rfl (mK Z_28 (Ht rfl) (Ht rfl) rfl (i:=0) rfl (aK rfl) rfl rfl) (Y.D_done bB rfl (by kernel_rfl) rfl (by simp [Y.okP]) rfl rfl (bU (bU (bU (bU (bU (bU (bU (bU (Y.F_putI (Y.F_nil ?_))))))))))))
  refine ra rfl (eX (bL rfl (fK A_28 Z_28 rfl (i:=1) rfl rfl) (fX (eU rfl) ?_)))
  exact (fO (by simp))
def otR (l2 l3 k:Nat):Rt where
 re:=((l2 % 256 + k % 1000:Nat):Int)
 im:=0
 den:=((l3 % 256:Nat):Int)
 h1:=by omega
 h2:=by omega
 h3:=by decide
 h4:=by decide
 h5:=by omega
 h6:=by omega
def otW (n l2 l3:Nat):List Qi:=tab n fun k=>(yZ (otR l2 l3 k)).q
theorem a2I (n l2 l3:Nat):(otW n l2 l3).length = n:=aF _ _
theorem a2H (n l2 l3:Nat):bH (otW n l2 l3) 2:=bH.tab fun _ _=>fitRt
theorem a2J (n l2 l3:Nat):(otW n l2 l3).all eS = true:=by
 rw [List.all_eq_true]
 intro x hx
 obtain ⟨k,_,rfl⟩:=dN.1 hx
 exact Ad _
theorem a15 {x y:List Qi} (hx:x.all eS = true) (hy:y.all eS = true):(x ++ y).all eS = true:=by
 rw [List.all_append,hx,hy]; rfl
section
variable {z w zf:List Qi} {S F:List (List Qi)} {p q:Nat}
theorem Sq (k:uU z S 33777) (h6:z.length ≤ 6):bF Tryz.prog 32 [dC z S,kM 2 [fS [NT .i64 (p + 1),NT .i64 (q + 1)]]] (eD [dC (tV z S (J1 p q)) (Cd z S (J1 p q)),aL .i64 (vF z S (J1 p q))]) ∧ (vF z S (J1 p q) = 0 → uU (tV z S (J1 p q)) (Cd z S (J1 p q)) 100000000):=by
 have hg:∀ B,6 * jQ 33779 4 + 4 ≤ B → ∀ k,2 * k < z.length → 6 * jQ (33777 + 2) (2 * k) + 4 ≤ B:=fun B h k hk=>Nat.le_trans (Nat.add_le_add_right (Nat.mul_le_mul_left 6 (mO _ (show 2 * k ≤ 4 by omega))) 4) h
 have hx:∀ B,uG (jQ 33779 4) 5 ≤ B → ∀ k,2 * k < z.length → uG (jQ (33777 + 2) (2 * k)) (2 * k + 1) ≤ B:=fun B h k hk=>Nat.le_trans (Nat.le_trans (yT (mO _ (show 2 * k ≤ 4 by omega)) _) (xU _ (show 2 * k + 1 ≤ 5 by omega))) h
 refine ⟨a41 (js:=J1 p q) (L:=33777) k.sh k.fs k.fz (by decide) (by decide) (by have:=k.h8; omega) (by simp) (hg _ (by decide)) (hx _ (by decide)),fun hE=>?_⟩
 obtain ⟨hd,hj6,hk,hne⟩:=Cn hE k.h8
 have h0:(J1 p q).length ≠ 0:=by simp
 have hsh:=(Yv (js:=J1 p q) k.sh)
 refine ⟨a26 k.fz (by decide) (by decide),?_,by decide,by decide,hsh.1,by have:=k.h8; omega,?_,Zy k.sh hE k.h8 k.own,a0c k.sh hE k.h8 k.rc⟩
 ·rw [Cd, iC, if_pos hE, if_neg h0, zL]
  exact bA.tab fun i j _ _=>(a25 (L:=33777) (G:=11000000) k.fs (by decide) (by show uG (jQ 33779 2) 2 ≤ 11000000; decide) (hk _)).le (by show 33777 + 2 * (2 * 11000000 + 2) ≤ 100000000; decide)
 ·rw [tV, iC, if_pos hE, if_neg h0, rW, List.all_eq_true]
  intro x hx
  obtain ⟨i,hi,rfl⟩:=dN.1 hx
  have hlt:cD (dO z (J1 p q)) i < z.length:=Na hi
  generalize cD (dO z (J1 p q)) i = x at *
  exact List.all_eq_true.1 k.pos _ (by rw [show gv z x = z[x] by simp [gv,List.getD,hlt]]; exact List.getElem_mem hlt)
theorem Wk (k:uU z S 33777) (hw:w.length = z.length) (hwf:bH w 2) (hz2:bH z 2) (hq:w.all eS = true):bF Tryz.prog 35 [dC z S,aN w] (eD [dC w (mV z w S),aL .i64 0]) ∧ uU w (mV z w S) 3000000000:=by
 have hE:Ic z w S = 0:=a30 rfl hw k.pos hq (by rw [k.pw]; exact a08 _)
 have hmx:bA (yN z w S) 33803:=Hi (If hz2 hwf (by decide) (by decide) k.pos hw) (Ie hz2 hwf (by decide) (by decide) k.pos hw) k.fs (by decide) (by decide)
 have hma:bA (Uj z w S) 33803:=Hi (Ie hz2 hwf (by decide) (by decide) k.pos hw) (If hz2 hwf (by decide) (by decide) k.pos hw) k.fs (by decide) (by decide)
 have h8:=k.h8
 have hsz:∀ i,i < w.length → Rz (yN z w S) (ek w.length i) w.length (st8 33803) (Lh 33803):=fun i hi=>a6X (xF _ _ _ _) hmx (Gm (by decide)) (by decide) (by decide) zo
 have h:=Sg (z:=z) (w:=w) (s:=S) (L:=2) (M:=2) (K:=33777) k.sh hz2 hwf k.fs (by decide) (by decide) (by decide) (by decide) (by decide) (by decide) k.pos h8 zo (fun _=>hsz) (by decide)
 obtain ⟨q1,q2,q3,q4⟩:=Ao rfl hw hE
 rw [hE,q4] at h
 refine ⟨h,hwf.le (by decide),?_,by decide,by decide,by rw [q3,hw]; exact iA,by omega,hq,by rw [hw]; exact a5b rfl hw k.sh k.pos hE k.own,by rw [hw]; exact Ns rfl hw k.sh k.pos hE k.rc⟩
 rw [mV,iC,if_pos hE]
 rw [← hw] at q2
 exact (Km (L:=33803) (M:=Lh 33803) hma (yI hsz q2) (by decide) (Og _) zo).le (by decide)
theorem a1u (k : uU z S 33777) (m : uU zf F 33777) (h2 : zf.length = 2) (h6 : z.length ≤ 6) (hp : p < z.length) (hpz : gv zf 1 = gv z p) : bF Tryz.prog 36 [dC z S, NT .i64 (p + 1), dC zf F] (eD [dC (Xq z S zf F ((p + 1 : Nat) : Int)) (Xp z S zf F ((p + 1 : Nat) : Int)), aL .i64 (Dx z S zf F ((p + 1 : Nat) : Int))])
  ∧ (Dx z S zf F ((p + 1:Nat):Int) = 0 → uU (Xq z S zf F ((p + 1:Nat):Int)) (Xp z S zf F ((p + 1:Nat):Int)) 1000000):=by
 have hsf:cB F 2 2:=by have:=m.sh; rwa [h2] at this
 refine ⟨a1b (z:=z) (fz:=zf) (s:=S) (f:=F) (port:=((p + 1:Nat):Int)) (L:=33777) k.sh zo zo k.fs m.fs k.fz m.fz (by decide) (by decide) (fun _=>hsf),fun hE=>?_⟩
 have hpi:(((p + 1:Nat):Int) - 1).toNat = p:=by omega
 have hfx : Dp z zf ((p + 1 : Nat) : Int) 2 = 0 := by
  rw [Dp,if_neg (by rw [h2]; simp),if_neg (fun k=>k ⟨by omega,by omega⟩),if_pos]
  rw [hpi]; exact hpz
 have hD : nF S F p ≠ Qi.zero := fun d => by
  have:=a3z (s:=S) (f:=F) hfx (by rw [hpi]; exact d)
  omega
 rw [Xq,Xp,iC,iC,if_pos hE,if_pos hE,hpi]
 have hl:(z.set p (gv zf 0)).length = z.length:=List.length_set
 have g0:eS (gv zf 0) = true:=List.all_eq_true.1 m.pos _ (by rw [show gv zf 0 = zf[0] by simp [gv,List.getD,show 0 < zf.length by omega]]; exact List.getElem_mem _)
 have ho:lB zf F = fB 2 2:=by have:=m.own; rwa [h2] at this
 have hr:Ir zf F 2:=by have:=m.rc; rwa [h2] at this
 refine ⟨fun x hx=>(List.mem_or_eq_of_mem_set hx).elim (fun j=>(k.fz x j).le (by decide)) fun e=>e ▸ (m.fz.get (by decide) 0).le (by decide),(Xr k.fs m.fs (by decide) hD).le (by decide),by decide,by decide,by rw [hl]; exact cB.tab,by have:=k.h8; omega,?_,by rw [hl]; exact a2L rfl h2 hp zo hpz hD k.sh hsf k.own ho,by rw [hl]; exact a5f rfl h2 hp zo hpz hD k.sh k.rc hr⟩
 rw [List.all_eq_true]
 intro x hx
 exact (List.mem_or_eq_of_mem_set hx).elim (fun j=>List.all_eq_true.1 k.pos x j) fun e=>e ▸ g0
end
theorem wK {a m l0 l1 l2 l3:Nat} {zl sl zm sm:List Rt} {r:Rt} (ha:a < 256) (hb:m < 256) (hl0:l0 < 256) (hl1:l1 < 256) (hl2:l2 < 256) (hl3:l3 < 256):bF Tryz.prog 4 [Iw a zl sl,Iw m zm sm,mS r,fS [NT .u8 l0,NT .u8 l1,NT .u8 l2,NT .u8 l3]] (aI true):=by
 have n1:1 ≤ fA (a % 3) ∧ fA (a % 3) ≤ 3:=by unfold fA; omega
 have n2:1 ≤ fA (m % 3) ∧ fA (m % 3) ≤ 3:=by unfold fA; omega
 have hA1:=Bk (a:=a % 3) (zl:=zl) (sl:=sl) (r:=r) zo
 have hA2:=Bk (a:=m % 3) (zl:=zm) (sl:=sm) (r:=r) zo
 have mk : ∀ (x : Nat) (sl : List Rt), uU (xL r x) (Vc sl r x) 33777 := fun x sl => by
  have hzl:=pE r x
  obtain ⟨o1,o2⟩:=Rh sl r x
  exact ⟨(uB r x).le (by decide),a0e sl r x,by decide,by decide,by rw [hzl]; exact a0h sl r x,by rw [hzl]; unfold fA; omega,Ak r x,by rw [hzl]; exact o1,by rw [hzl]; exact o2⟩
 have k1:=mk (a % 3) sl
 have k2:=mk (m % 3) sm
 have g1:∀ i,i < fA (a % 3) → gv (xL r (a % 3)) i = (yZ r).q:=fun i hi=>fC hi
 have g2:∀ i,i < fA (m % 3) → gv (xL r (m % 3)) i = (yZ r).q:=fun i hi=>fC hi
 have e1:=pE r (a % 3)
 have e2:=pE r (m % 3)
 have f1:=uB r (a % 3)
 have f2:=uB r (m % 3)
 generalize xL r (a % 3) = z1 at *
 generalize xL r (m % 3) = z2 at *
 generalize Vc sl r (a % 3) = s1 at *
 generalize Vc sm r (m % 3) = s2 at *
 rw [← e1] at n1 g1
 rw [← e2] at n2 g2
 have hk:=a0H (x:=z1.length) (y:=z2.length) zo
 obtain ⟨z3,hz3⟩:∃ z3,z3 = z1 ++ z2:=⟨_,rfl⟩
 obtain ⟨s3,hs3⟩:∃ s3,s3 = rG s1 s2 z1.length z2.length:=⟨_,rfl⟩
 have hcs : bF Tryz.prog 29 [dC z1 s1, dC z2 s2] (eD [dC z3 s3, aL .i64 0]) := by
  have h:=a1h (z:=z1) (zb:=z2) k1.sh k2.sh zo zo
  rw [a3d,a3c,hk] at h
  rw [hz3,hs3]; exact h
 have hN:z3.length = z1.length + z2.length:=by rw [hz3,List.length_append]
 have f3:bH z3 2:=by rw [hz3]; exact Xt f1 f2
 have k3:uU z3 s3 33777:=⟨f3.le (by decide),by rw [hs3]; exact a0w k1.fs k2.fs (by decide),by decide,by decide,by rw [hN,hs3]; exact oJ _ _ _ _,by omega,by rw [hz3]; exact a15 k1.pos k2.pos,by rw [hz3,hs3]; exact Fk k1.sh.1 k2.sh.1 k1.own k2.own,by rw [hz3,hs3]; exact Kx k1.rc k2.rc⟩
 have hc3:=Bh (e:=0) (fun _=>k3)
 have hN2:2 ≤ z3.length ∧ z3.length ≤ 6:=by omega
 refine bF.intro Tryz.func4 rfl Tryz.ntmps4 rfl (fun cx=>(ts (rn rfl (fG (Ht rfl)) fun B4=>(rn rfl (fG (Ht rfl)) fun B5=>(rn rfl (fG (Ht rfl)) fun B6=>(rn rfl (fG (Ht rfl)) fun B7=>(ro rfl (cQ cV) (eX (cK (Y.D_start (m:=8) [(7,0,box B4 24 [NT .u8 (a % 3),lW zl,lW sl])] (Y.D_step (Ei:=[(4,_)]) rfl rfl (bQ (bJ rfl rfl) bX) rfl rfl (by kernel_rfl) (dX rfl (eZ wS (Ht rfl) rfl)) (Y.D_step (Ei:=[(25,_)]) rfl rfl (bQ (bZ 0 rfl rfl) bX) rfl rfl (by kernel_rfl) (dX rfl (eY A_5 Z_5 (Ht rfl) (i:=0) rfl rfl)) ?_))))))))))))
 refine Y.D_step (Ei:=[(26,_)]) rfl rfl (bQ (bZ 1 rfl rfl) bX) rfl rfl (by kernel_rfl) (dX rfl (lT (Ht rfl) (cJ 3) zo)) (bY (Ei:=[(5,_)]) rfl rfl (bQ (bJ rfl rfl) bX) rfl rfl (dX rfl (eZ wS (Ht rfl) rfl)) (bY (Ei:=[(28,_)]) rfl rfl (bQ (bZ 3 rfl rfl) bX) rfl rfl (dX rfl (eY A_5 Z_5 (Ht rfl) (i:=1) rfl rfl)) (bY (Ei:=[(29,_)]) rfl rfl (bQ (bZ 4 rfl rfl) bX) rfl rfl (dX rfl (lT (Ht rfl) (cJ 3) zo)) ?_)))
 refine Y.D_step (Ei:=[(4,_)]) rfl rfl (bQ (bJ rfl rfl) bX) rfl rfl (by kernel_rfl) (dX rfl (eZ wS (Ht rfl) rfl)) (Y.D_putI (Ei:=[(31,_),(27,_)]) 0 rfl rfl rfl (bQ (bZ 6 rfl rfl) (bQ (bZ 2 rfl rfl) bX)) (.head _) rfl (Eb Z_5 (Ht rfl) (Ht rfl) (i:=0) rfl (aK rfl) rfl rfl) (Y.D_done bB rfl (by kernel_rfl) rfl (by simp [Y.okP]) rfl rfl (bU (bU (bU (bU (bU (bU (bU (Y.F_putI (Y.F_nil ?_)))))))))))
 refine ro rfl (eZ wS (Ht rfl) rfl) (oK Z_5 (Ht rfl) (Ht rfl) (i:=1) rfl (aK rfl) rfl (eX (cK (cM [0,1,2,3] rfl (by decide) (cY (ro rfl (eJ Tryz.isAgg24 Tryz.sizeOf24 (Ht rfl) (i:=0) rfl rfl rfl) (ro rfl (eJ A_48 Z_48 (Ht rfl) (i:=2) rfl rfl rfl) (ro rfl (cZ Tryz.call28 hA1 ⟨(Ht rfl),(Ht rfl),trivial⟩) (rm rfl (ro rfl (dK (Ht rfl) rfl) (ro rfl (dK (Ht rfl) rfl) (rn rfl (eW (Ts:=[Is (.slice none 0 0),Is (.slice none 0 0)]) O_28 rfl (fun V=>aW zd (aW zd (aG)))) fun B9=>?_))))))))))))
 refine gQ Z_28 (Ht rfl) (Ht rfl) rfl (i:=4) rfl (aK rfl) rfl rfl (ra rfl (eX (cK (cM [0,1,2,3,4] rfl (by decide) (cY (ro rfl (eJ Tryz.isAgg24 Tryz.sizeOf24 (Ht rfl) (i:=1) rfl rfl rfl) (ro rfl (eJ A_48 Z_48 (Ht rfl) (i:=2) rfl rfl rfl) (ro rfl (cZ Tryz.call28 hA2 ⟨(Ht rfl),(Ht rfl),trivial⟩) (rm rfl (ro rfl (dK (Ht rfl) rfl) (ro rfl (dK (Ht rfl) rfl) (rn rfl (eW (Ts:=[Is (.slice none 0 0),Is (.slice none 0 0)]) O_28 rfl (fun V=>aW zd (aW zd (aG)))) fun B11=>?_))))))))))))
 refine gQ Z_28 (Ht rfl) (Ht rfl) rfl (i:=5) rfl (aK rfl) rfl rfl (ra rfl (eX (cK (cM [0,1,2,3,4,5] rfl (by decide) (cY (ro rfl (eJ A_28 Z_28 (Ht rfl) (i:=4) rfl rfl rfl) (ro rfl (eJ A_28 Z_28 (Ht rfl) (i:=5) rfl rfl rfl) (ro rfl (cZ Tryz.call29 hcs ⟨(Ht rfl),(Ht rfl),trivial⟩) (rm rfl (ro rfl (dK (Ht rfl) rfl) (ro rfl (dK (Ht rfl) rfl) (rn rfl (eW (Ts:=[Is (.slice none 0 0),Is (.slice none 0 0)]) O_28 rfl (fun V=>aW zd (aW zd (aG)))) fun B13=>?_))))))))))))
 refine gQ Z_28 (Ht rfl) (Ht rfl) rfl (i:=6) rfl (aK rfl) rfl rfl (ra rfl (eX (cK (ts (rm rfl (ro rfl (gG (Ht rfl)) (rm rfl (fQ rfl rfl (eK rfl rfl (Ht rfl) (fun h=>cX (Ht rfl))) (fQ rfl rfl (eK rfl rfl (Ht rfl) (fun h=>gG (fJ rfl h))) (ro rfl (nD (Ht rfl) (fun h=>(fJ rfl h))) (rm rfl (fQ rfl rfl (eK rfl rfl (Ht rfl) (fun h=>cX (Ht rfl))) (fQ rfl rfl (eK rfl rfl (Ht rfl) (fun h=>fM (fJ rfl h) cV)) (ro rfl (nD (Ht rfl) (fun h=>(fJ rfl h))) (rm rfl (fQ rfl rfl (eK rfl rfl (Ht rfl) (fun h=>eJ A_28 Z_28 (Ht rfl) (i:=6) rfl rfl rfl)) ?_))))))))))))))))
 refine fQ rfl rfl (eK rfl rfl (Ht rfl) (fun h=>cX (Ht rfl))) (fQ rfl rfl (eK rfl rfl (Ht rfl) (fun h=>cZ Tryz.call30 hc3 ⟨(fJ rfl h),(fJ rfl h),trivial⟩)) (fQ rfl rfl (eK rfl rfl (Ht rfl) (fun h=>gG (fJ rfl h))) (ro rfl (nD (Ht rfl) (fun h=>(fJ rfl h))) (rm rfl (fQ rfl rfl (eK rfl rfl (Ht rfl) (fun h=>eJ A_28 Z_28 (Ht rfl) (i:=6) rfl rfl rfl)) (fQ rfl rfl (eK rfl rfl (Ht rfl) (fun h=>cZ K_31 qB ⟨(fJ rfl h),trivial⟩)) (fQ rfl rfl (eK rfl rfl (Ht rfl) (fun h=>gX (fJ rfl h) (cJ 2))) ?_)))))))
 refine ro rfl (nD (Ht rfl) (fun h=>(fJ rfl h))) (eX (kP (Ht rfl) (by simp; omega) ?_))
 have hm1:=Nat.mod_lt l0 (show 0 < z3.length by omega)
 have hm2:=Nat.mod_lt l1 (show 0 < z3.length - 1 by omega)
 have hm3:=Nat.mod_lt (l0 % z3.length + 1 + l1 % (z3.length - 1)) (show 0 < z3.length by omega)
 refine cU (cK (fZ (m:=5) (dp 7 rfl (kF U_49 Z_5 (Ht rfl) (cJ 0) rfl (by decide) rfl) (dq 72 0 rfl (eY A_5 Z_5 (Ht rfl) (i:=3) rfl rfl) (dq 73 1 rfl (gZ U_5 U_3 (Ht rfl) z6) (dp 13 rfl (eJ A_28 Z_28 (Ht rfl) (i:=6) rfl rfl rfl) (dq 75 3 rfl (cZ K_31 qB ⟨(Ht rfl),trivial⟩) (fV bB rfl (by kernel_rfl) (zF (aJ (aV ?_)))))))))))
 refine ro rfl (lT (Ht rfl) (Ht rfl) zo) (ro rfl (dV (Ht rfl) (cJ 1) z6) (ra rfl (eX (cK (fZ (m:=11) (dp 15 rfl (cX (Ht rfl)) (dp 7 rfl (kF U_49 Z_5 (Ht rfl) (cJ 1) rfl (by decide) rfl) (dq 80 1 rfl (eY A_5 Z_5 (Ht rfl) (i:=3) rfl rfl) (dq 81 2 rfl (gZ U_5 U_3 (Ht rfl) z6) (dp 13 rfl (eJ A_28 Z_28 (Ht rfl) (i:=6) rfl rfl rfl) ?_))))))))))
 refine dq 83 4 rfl (cZ K_31 qB ⟨(Ht rfl),trivial⟩) (dq 84 5 rfl (dW (Ht rfl) (cJ 1) zo z6) (dH 82 3 85 6 rfl (lT (Ht rfl) (Ht rfl) zo) (dH 79 0 86 7 rfl (dV (Ht rfl) (Ht rfl) z6) (dp 13 rfl (eJ A_28 Z_28 (Ht rfl) (i:=6) rfl rfl rfl) (dq 88 9 rfl (cZ K_31 qB ⟨(Ht rfl),trivial⟩) (fV bB rfl (by kernel_rfl) (zF (zF (aJ (aJ (aJ (aV ?_))))))))))))
 refine ro rfl (lT (Ht rfl) (Ht rfl) zo) (ro rfl (dV (Ht rfl) (cJ 1) z6) (ra rfl (eX (cK (cM [0,1,2,3,4,5,6] rfl (by decide) ?_)))))
 obtain ⟨p,hpd⟩:∃ p,p = l0 % z3.length:=⟨_,rfl⟩
 rw [← hpd] at hm1 hm3 ⊢
 obtain ⟨q,hqd⟩:∃ q,q = (p + 1 + l1 % (z3.length - 1)) % z3.length:=⟨_,rfl⟩
 rw [← hqd] at hm3 ⊢
 obtain ⟨hjn,kA⟩:=Sq (p:=p) (q:=q) k3 hN2.2
 have hcA:=Bh (e:=vF z3 s3 (J1 p q)) kA
 generalize tV z3 s3 (J1 p q) = ZA at *
 generalize Cd z3 s3 (J1 p q) = SA at *
 generalize vF z3 s3 (J1 p q) = EA at *
 obtain ⟨w1,hw1⟩:∃ w1,w1 = otW z3.length l2 l3:=⟨_,rfl⟩
 have hwl:w1.length = z3.length:=by rw [hw1]; exact a2I _ _ _
 obtain ⟨hrn,kB⟩:=Wk (w:=w1) k3 hwl (by rw [hw1]; exact a2H _ _ _) f3 (by rw [hw1]; exact a2J _ _ _)
 have hcB:=Bh (e:=0) (fun _=>kB)
 generalize mV z3 w1 s3 = SB at *
 refine cY (ro rfl (eJ A_28 Z_28 (Ht rfl) (i:=6) rfl rfl rfl) (rm rfl (rm rfl (ro rfl (Md (Ht rfl) (Ht rfl)) (ro rfl (eH (xs:=[.tmp 96]) U_65 Z_64 Tryz.zeroValue64 (cW (Ht rfl) cG) rfl rfl rfl) (ro rfl (cZ Tryz.call32 hjn ⟨(Ht rfl),(Ht rfl),trivial⟩) (rm rfl (ro rfl (dK (Ht rfl) rfl) (ro rfl (dK (Ht rfl) rfl) (rn rfl (eW (Ts:=[Is (.slice none 0 0),Is (.slice none 0 0)]) O_28 rfl (fun V=>aW zd (aW zd (aG)))) fun B17=>?_))))))))))
 refine gQ Z_28 (Ht rfl) (Ht rfl) rfl (i:=7) rfl (aK rfl) rfl rfl (ra rfl (eX (cK (cM [0,1,2,3,4,5,6,7] rfl (by decide) (cY (ro rfl (eJ A_28 Z_28 (Ht rfl) (i:=6) rfl rfl rfl) (ro rfl (cZ K_31 qB ⟨(Ht rfl),trivial⟩) (rn rfl (iG (T:=aE Qi.zero) (i:=Tryz.t60) jS gU rfl rfl (Ht rfl) rfl gF (El.ag rfl) (by show 88 * _ ≤ _; omega) zo) fun B103=>(ra rfl (eX (cK (ts (rm rfl (ro rfl (nW U_25 (Ht rfl) (i:=8) rfl (show ((List.replicate z3.length (aE Qi.zero)).length:Int) = ((z3.length:Nat):Int) from by simp)) ?_))))))))))))))
 refine ro rfl (cX (cJ 0)) (eX (eG (cM [3,4,5,6,7,8] rfl (by decide) ?_)))
 refine cI (fun (k : Nat) => k ≤ z3.length) (fun (k : Nat) => z3.length - k) (fun (k : Nat) => [(7, cA B7 0), (9, cA B9 0), (11, cA B11 0), (13, cA B13 0), (15, NT .i64 (p + 1)), (17, cA B17 0), (18, aL .i64 EA), (19, Is B103), (105, NT .i64 z3.length), (106, NT .i64 k)]) (fun (k : Nat) => [box B7 49 [NT .u8 l0, NT .u8 l1, NT .u8 l2, NT .u8 l3], box B9 28 [aN z1, cH s1], box B11 28 [aN z2, cH s2], box B13 28 [aN z3, cH s3], box B17 28 [aN ZA, cH SA], bI 60 5 B103 ((kS (fun k => (yZ (otR l2 l3 k)).q) Qi.zero z3.length k).map aE)]) 0 (Nat.zero_le _)
  (zS rfl) (aU (aD rfl) (aU (aD rfl) (aU (aD rfl) (aU (aD rfl) (aU (aD rfl) (aU (aP (by rw [← iN]; exact nY aE _)) aY)))))) (fun k hi=>?_)
 refine ts (ro rfl (gX (Ht rfl) (Ht rfl)) (eX (cK (dQ (Ht rfl) (fun hc=>?_) (fun hc=>?_)))))
 ·have hin : k < z3.length := by simp only [decide_eq_true_eq] at hc; omega
  refine cU (cK (eG (ts (rm rfl (ra rfl (eX (cY (rm rfl (rm rfl (ro rfl (kF U_49 Z_5 (Ht rfl) (cJ 2) rfl (by decide) rfl) (ro rfl (eY A_5 Z_5 (Ht rfl) (i:=0) rfl rfl) (ro rfl (gZ U_5 U_2 (Ht rfl) z6) (rm rfl (ro rfl (aM.nat (dV (Ht rfl) (Ht rfl) z6) (show l2 + k = l2 % 256 + k % 1000 from by omega)) (ro rfl (kF U_49 Z_5 (Ht rfl) (cJ 3) rfl (by decide) rfl) ?_)))))))))))))))
  refine ro rfl (eY A_5 Z_5 (Ht rfl) (i:=0) rfl rfl) (ro rfl (aM.nat (gZ U_5 U_2 (Ht rfl) z6) (show l3 = l3 % 256 from by omega)) (ro rfl (uW (Ht rfl) (Ht rfl)) (ro rfl (cZ Tryz.call34 (Ge (r:=otR l2 l3 k)) ⟨(Ht rfl),trivial⟩) ?_)))
  refine ro rfl (cZ Tryz.call33 (zP (r:=yZ (otR l2 l3 k))) ⟨(Ht rfl),trivial⟩) ?_
  refine ro rfl (dA U_25 Z_60 (Ht rfl) (Ht rfl) rfl (i:=5) rfl (by rw [List.length_map,dE]; omega) rfl) ?_
  refine lZ Z_60 (Ht rfl) (Ht rfl) (El.ag rfl) (i:=5) rfl rfl (by rw [List.length_map,dE]; omega) rfl ?_
  refine eX (bN (cY (ro rfl (dV (Ht rfl) (cJ 1) z6) (rm rfl (eX (fU (k + 1) hin zo (zS rfl) (aU (aD rfl) (aU (aD rfl) (aU (aD rfl) (aU (aD rfl) (aU (aD rfl) (aU (aP (by rw [gI]; exact congrArg _ (jU (f:=(fun k=>(yZ (otR l2 l3 k)).q))))) aY))))))))))))
 ·obtain rfl : k = z3.length := by simp only [decide_eq_false_iff_not] at hc; omega
  rw [jT,show tab z3.length (fun k=>(yZ (otR l2 l3 k)).q) = w1 from hw1.symm]
  refine gV rfl (cK (gJ (i:=5) (tt:=19) rfl rfl gE (cY (ro rfl (eJ A_28 Z_28 (Ht rfl) (i:=3) rfl rfl rfl) (rm rfl (ro rfl (cZ Tryz.call35 hrn ⟨(Ht rfl),(Ht rfl),trivial⟩) (rm rfl (ro rfl (dK (Ht rfl) rfl) (ro rfl (dK (Ht rfl) rfl) (rn rfl (eW (Ts:=[Is (.slice none 0 0),Is (.slice none 0 0)]) O_28 rfl (fun V=>aW zd (aW zd (aG)))) fun B21=>(gQ Z_28 (Ht rfl) (Ht rfl) rfl (i:=6) rfl (aK rfl) rfl rfl (ra rfl ?_))))))))))))
  refine eX (cK (cK (cM [0,1,2,3,4,5,6] rfl (by decide) (cY (ro rfl (eJ A_28 Z_28 (Ht rfl) (i:=4) rfl rfl rfl) (rm rfl (ro rfl (cZ Tryz.call30 hcA ⟨(Ht rfl),(Ht rfl),trivial⟩) (ro rfl (gG (Ht rfl)) (rm rfl (fQ rfl rfl (eK rfl rfl (Ht rfl) (fun h=>cX (Ht rfl))) (fQ rfl rfl (eK rfl rfl (Ht rfl) (fun h=>fM (fJ rfl h) cV)) (ro rfl (nD (Ht rfl) (fun h=>(fJ rfl h))) (rm rfl (fQ rfl rfl (eK rfl rfl (Ht rfl) (fun h=>eJ A_28 Z_28 (Ht rfl) (i:=6) rfl rfl rfl)) ?_))))))))))))))
  refine fQ rfl rfl (eK rfl rfl (Ht rfl) (fun h=>cX (Ht rfl))) (fQ rfl rfl (eK rfl rfl (Ht rfl) (fun h=>cZ Tryz.call30 hcB ⟨(fJ rfl h),(fJ rfl h),trivial⟩)) (fQ rfl rfl (eK rfl rfl (Ht rfl) (fun h=>gG (fJ rfl h))) (ro rfl (nD (Ht rfl) (fun h=>(fJ rfl h))) (eX (kP (Ht rfl) (by simp) ?_)))))
  refine cU (cK (ts (ro rfl (eJ A_28 Z_28 (Ht rfl) (i:=2) rfl rfl rfl) (ro rfl (cZ K_31 qB ⟨(Ht rfl),trivial⟩) (ro rfl (lS (Ht rfl) (cJ 2)) (eX (dQ (Ht rfl) (fun hP=>?_) (fun hP=>?_))))))))
  ·refine ts (ro rfl (cZ Tryz.call27 Jf trivial) (ra rfl (eX ?_)))
   exact fW rfl (eU rfl)
  ·have h22 : z2.length = 2 := by simpa using hP
   have hm4:=Nat.mod_lt (p + 1) (show 0 < z1.length by omega)
   obtain ⟨hem,kE⟩:=a1u (p:=(p + 1) % z1.length) k1 k2 h22 zo hm4 ((g2 1 zo).trans (g1 _ hm4).symm)
   have hcE:=Bh (e:=Dx z1 s1 z2 s2 (((p + 1) % z1.length + 1:Nat):Int)) kE
   obtain ⟨o,ho⟩:∃ o,o = (p + 1) % z1.length:=⟨_,rfl⟩
   rw [← ho] at hem hcE hm4
   generalize Xq z1 s1 z2 s2 ((o + 1:Nat):Int) = ZE at *
   generalize Xp z1 s1 z2 s2 ((o + 1:Nat):Int) = SE at *
   generalize Dx z1 s1 z2 s2 ((o + 1:Nat):Int) = EE at *
   refine cU (cK (Y.D_start (m:=13) [] (bY (Ei:=[(9,_)]) rfl rfl (bQ (bJ rfl rfl) bX) rfl rfl (dX rfl (eJ A_28 Z_28 (Ht rfl) (i:=1) rfl rfl rfl)) (bY (Ei:=[(15,_)]) rfl rfl (bQ (bJ rfl rfl) bX) rfl rfl (dX rfl (cX (Ht rfl))) (bY (Ei:=[(9,_)]) rfl rfl (bQ (bJ rfl rfl) bX) rfl rfl (dX rfl (eJ A_28 Z_28 (Ht rfl) (i:=1) rfl rfl rfl)) (bY (Ei:=[(151,_)]) rfl rfl (bQ (bZ 2 rfl rfl) bX) rfl rfl (dX rfl (cZ K_31 qB ⟨(Ht rfl),trivial⟩)) ?_))))))
   refine bY (Ei:=[(150,_),(152,_)]) rfl rfl (bQ (bZ 1 rfl rfl) (bQ (bZ 3 rfl rfl) bX)) rfl rfl (dX rfl (aM.nat (lT (Ht rfl) (Ht rfl) zo) ho.symm)) (bY (Ei:=[(153,_)]) rfl rfl (bQ (bZ 4 rfl rfl) bX) rfl rfl (dX rfl (dV (Ht rfl) (cJ 1) z6)) (bY (Ei:=[(11,_)]) rfl rfl (bQ (bJ rfl rfl) bX) rfl rfl (dX rfl (eJ A_28 Z_28 (Ht rfl) (i:=2) rfl rfl rfl)) (bY (Ei:=[(149,_),(154,_),(155,_)]) rfl rfl (bQ (bZ 0 rfl rfl) (bQ (bZ 5 rfl rfl) (bQ (bZ 6 rfl rfl) bX))) rfl rfl (dX rfl (cZ Tryz.call36 hem ⟨(Ht rfl),(Ht rfl),(Ht rfl),trivial⟩)) ?_)))
   refine bY (Ei:=[(156,_)]) rfl rfl (bQ (bZ 7 rfl rfl) bX) rfl rfl (dX rfl (cX (Ht rfl))) (bY (Ei:=[(148,_)]) rfl rfl (bQ (bZ 8 rfl rfl) bX) rfl rfl (dX rfl (dK (Ht rfl) rfl)) (bY (Ei:=[(148,_)]) rfl rfl (bQ (bZ 8 rfl rfl) bX) rfl rfl (dX rfl (dK (Ht rfl) rfl)) (Y.D_newp (Ei:=[]) (fun bb=>box bb 28 [aN ZE,cH SE]) 12 rfl rfl rfl bX rfl rfl (by kernel_rfl) (eW (Ts:=[Is (.slice none 0 0),Is (.slice none 0 0)]) O_28 rfl (fun V=>aW zd (aW zd (aG)))) ?_)))
   refine Y.D_putN (Ei:=[(157,_)]) 11 rfl rfl rfl rfl rfl rfl (bQ (bZ 9 rfl rfl) bX) (fun bb=>mK Z_28 (Ht rfl) (Ht rfl) rfl (i:=0) rfl (aK rfl) rfl rfl) (Y.D_done bB rfl (by kernel_rfl) rfl (by simp [Y.okP]) rfl rfl (bU (bU (bU (bU (bU (bU (bU (bU (bU (bU (bU (Y.F_newp (fun B23=>Y.F_putN (Y.F_nil ?_)))))))))))))))
   refine ra rfl (eX (cK (cM [0,1,2,3,4,5,6,7] rfl (by decide) (cY (ro rfl (eJ A_28 Z_28 (Ht rfl) (i:=7) rfl rfl rfl) (rm rfl (ro rfl (cZ Tryz.call30 hcE ⟨(Ht rfl),(Ht rfl),trivial⟩) (rm rfl (fQ rfl rfl (eK rfl rfl (Ht rfl) (fun h=>cZ Tryz.call27 Jf trivial)) (ro rfl (gS (Ht rfl) (fun h=>(fJ rfl h))) (ra rfl (eX (fW rfl (fX (eU rfl) ?_))))))))))))))
   exact (fO (by simp))
end
section
open Go Go.ChangeShapes Go.WideShapes Go.ChangeAt Go.RowKit Go.Deep
section
variable {H:Type} {enc:TypeId × Value → H} {W:World} {base:Nat} {sp:Nat → Bool} {held:Bool}
theorem a6V:S3 Tryz.prog 24 5 22 22:=⟨⟨_,_,_,Tryz.underlying24,rfl,rfl,rfl,rfl,rfl,rfl⟩,by kernel_rfl,by kernel_rfl,by kernel_rfl,by kernel_rfl⟩
theorem Dj {b0:Nat} {v:Value} {d:DataW H} {p:List MemPlace} (ho:Value.okWide Tryz.prog W .any b0 24 v) (h:DataW.Trod enc Tryz.prog W base sp held 24 v d p):∃ (a:Nat) (zl sl:List Rt),(fS [NT .u8 a,lW zl,lW sl]).p v (hv W) ∧ a < 256:=by
 obtain ⟨cs,rfl,_⟩:=okWide_struct Tryz.underlying24 ho
 obtain ⟨n,hn⟩:=h
 obtain ⟨x0,x1,x2,m,y0,y1,y2,hcs,h0,h1,h2⟩:=a6V.open hn
 obtain ⟨i,e0,_,w⟩:=DataW.trod_int V_5 h0
 obtain ⟨v1,z,e1,k1⟩:=Fi h1
 obtain ⟨v2,s,e2,k2⟩:=Fi h2
 simp only [List.cons.injEq,and_true] at e0 e1 e2
 subst e0 e1 e2
 have hw:=Lq w
 have e:((i.toNat:Nat):Int) = i:=by omega
 have hi:∀ V,(NT .u8 i.toNat).p (.int .u8 i) V:=fun V=>by rw [show NT .u8 i.toNat = aL .u8 i from congrArg (aL .u8) e]; rfl
 have hcs2:cs.toList = [.int .u8 i,x1,x2]:=hcs
 exact ⟨i.toNat,z,s,⟨cs.toList,rfl,by rw [hcs2]; exact aW ⟨hi _,trivial⟩ (aW ⟨k1,(Lg k1).2⟩ (aW ⟨k2,(Lg k2).2⟩ aG))⟩,by omega⟩
end
end
section
open Go Go.ChangeShapes Go.WideShapes Go.ChangeAt Go.RowKit Go.Deep
section
variable {H:Type} {enc:TypeId × Value → H} {W:World} {base:Nat} {sp:Nat → Bool} {held:Bool}
theorem Nn {P:Program} {w:World} {r:Reach} {base:Nat} {t:TypeId} {v:Value} {n:Nat} {e:TypeId} (ht:P.underlying t = some (.array n e)) (h:Value.okWide P w r base t v):∃ cs,v = .agg cs ∧ cs.size = P.cellsOf t:=by
 simp only [Value.okWide,ht] at h
 obtain ⟨cs,h1,h2,_⟩:=h
 exact ⟨cs,h1,h2⟩
theorem Rq {i : Int} (w : 0 ≤ i ∧ i < 256) : ∀ V, (NT .u8 i.toNat).p (.int .u8 i) V := fun V => by
 have e:((i.toNat:Nat):Int) = i:=by omega
 rw [show NT .u8 i.toNat = aL .u8 i from congrArg (aL .u8) e]; rfl
theorem a0S {b0 : Nat} {v : Value} {d : DataW H} {p : List MemPlace} (ho : Value.okWide Tryz.prog W .any b0 49 v) (h : DataW.Trod enc Tryz.prog W base sp held 49 v d p) :
  ∃ a b c e:Nat,(fS [NT .u8 a,NT .u8 b,NT .u8 c,NT .u8 e]).p v (hv W) ∧ a < 256 ∧ b < 256 ∧ c < 256 ∧ e < 256:=by
 obtain ⟨cs,rfl,_⟩:=Nn Tryz.underlying49 ho
 obtain ⟨n,hn⟩:=h
 obtain ⟨xs,m,_,_,hl,hx,he⟩:=DataW.trod_array Tryz.underlying49 hn
 have hc:Tryz.prog.cellsOf 49 = 4:=by kernel_rfl
 have hi:Tryz.prog.cellsOf 5 = 1:=by kernel_rfl
 rw [hc] at hl
 obtain ⟨cl,hcl⟩:∃ cl,cl = cs.toList:=⟨_,rfl⟩
 have e9:(Value.agg cs).cells.toList = cl:=hcl.symm
 rw [e9] at hl he
 match cl,hl with
 | [c0, c1, c2, c3], _ =>
  match xs,hx with
  | [y0, y1, y2, y3], _ =>
   have e0:=he 0 zo
   have e1:=he 1 zo
   have e2:=he 2 zo
   have e3:=he 3 zo
   rw [hi] at e0 e1 e2 e3
   obtain ⟨i0,q0,_,w0⟩:=DataW.trod_int V_5 (show DataW.trod enc Tryz.prog W base sp held m 5 [c0] = some y0 from e0)
   obtain ⟨i1,q1,_,w1⟩:=DataW.trod_int V_5 (show DataW.trod enc Tryz.prog W base sp held m 5 [c1] = some y1 from e1)
   obtain ⟨i2,q2,_,w2⟩:=DataW.trod_int V_5 (show DataW.trod enc Tryz.prog W base sp held m 5 [c2] = some y2 from e2)
   obtain ⟨i3,q3,_,w3⟩:=DataW.trod_int V_5 (show DataW.trod enc Tryz.prog W base sp held m 5 [c3] = some y3 from e3)
   simp only [List.cons.injEq,and_true] at q0 q1 q2 q3
   subst q0 q1 q2 q3
   have b0:=Lq w0
   have b1:=Lq w1
   have b2:=Lq w2
   have b3:=Lq w3
   exact ⟨i0.toNat,i1.toNat,i2.toNat,i3.toNat,⟨cs.toList,rfl,by rw [← hcl]; exact aW ⟨Rq ⟨by omega,by omega⟩ _,trivial⟩ (aW ⟨Rq ⟨by omega,by omega⟩ _,trivial⟩ (aW ⟨Rq ⟨by omega,by omega⟩ _,trivial⟩ (aW ⟨Rq ⟨by omega,by omega⟩ _,trivial⟩ aG)))⟩,by omega,by omega,by omega,by omega⟩
end
end
end Go.Proofs.YtdlciihkiefckaaGreat
