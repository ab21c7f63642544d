/- What functions of the program compute, proved by walks over their code, and the plain mathematics of it; a part of the proof in the last text. -/
import Derived.Test.YtdlciihkiefckaaGreatP04
set_option linter.unusedVariables false
set_option linter.unusedSimpArgs false
set_option maxRecDepth 100000
set_option maxHeartbeats 4000000
namespace Go.Proofs.YtdlciihkiefckaaGreat
section
open Go Go.RowKit
theorem a1g {m:Nat} (hm:m ≤ 1000):gM Tryz.prog 219 [Is (.slice none 0 0),NT .i64 m] [] (Value) (fun v=>Is v) (fun v=>[bF 60 5 v []]) (fun _=>True):=by
 refine gM.intro Tryz.func219 rfl Tryz.ntmps219 rfl (fun cx Z=>(ts (ro rfl (cQ cV) (eJ (cK (ts (rm rfl (ro rfl (gJ (Ht rfl) (cJ 0)) (eJ (kA (Ht rfl) (by simp) ?_))))))))))
 refine cU (cK (ts (rm rfl (rm rfl (ro rfl (Ru U_25 (Ht rfl)) (rm rfl (ro rfl (gI U_25 (Ht rfl)) (ro rfl (dK (Ht rfl) (Ht rfl) zo z6) (ro rfl (dK (Ht rfl) (Ht rfl) zo z6) (ra rfl (eJ (ts (rm rfl (ro rfl (jU (Ht rfl) (cJ 0)) (eJ (dQ (Ht rfl) (fun hb=>?_) (fun hb=>?_)))))))))))))))))
 ·have h0 : 0 < m := by simp only [decide_eq_true_eq] at hb; omega
  refine cY (rm rfl (rm rfl (ro rfl (Ru U_25 (Ht rfl)) (ro rfl (Fo U_25 Z_60 (Ht rfl) (Ht rfl) (Nat.le_refl _)) (rm rfl (rn rfl (Ul (i:=Tryz.t60) jK a6s iB rfl rfl rfl (by decide) (Ht rfl) (Ht rfl) zo (by show _ * 88 ≤ _; omega) zo) fun q22=>(rm rfl (ro rfl (gI U_25 (Ht rfl)) (ro rfl (Fo U_25 Z_60 (Ht rfl) (Ht rfl) (Nat.zero_le _)) (ra rfl (eJ (ts (rm rfl (ra rfl (eJ ?_)))))))))))))))
  exact jC _ trivial [0,1] ⟨⟨_,rfl,fun _ _ _ h=>h⟩,⟨_,rfl,fun _ _ _ h=>h⟩,trivial⟩ (by decide) (sK rfl (fQ rfl))
 ·obtain rfl : m = 0 := by simp only [decide_eq_false_iff_not] at hb; omega
  refine pU 60 5 (cU (ts (rm rfl (ra rfl (eJ ?_)))))
  exact jC _ trivial [0,1] ⟨⟨_,rfl,fun _ _ _ h=>h⟩,⟨_,rfl,fun _ _ _ h=>h⟩,trivial⟩ (by decide) (sK rfl (fQ rfl))
abbrev cat (ls:List (List Qi)) (i:Nat):List Qi:=(ls.take i).flatten
theorem Ju {ls:List (List Qi)} {i:Nat} (h:i < ls.length):cat ls (i + 1) = cat ls i ++ ls.getD i []:=by
 simp only [cat]
 rw [List.take_succ_eq_append_getElem h,List.flatten_append]
 simp [List.getD,h]
theorem Qd (ls:List (List Qi)):cat ls ls.length = ls.flatten:=by rw [cat,List.take_length]
theorem Xr {ls:List (List Qi)} {i:Nat} (h:i ≤ ls.length):(cat ls i).length ≤ ls.flatten.length:=by
 have e:ls.flatten = (ls.take i).flatten ++ (ls.drop i).flatten:=by rw [← List.flatten_append,List.take_append_drop]
 show (ls.take i).flatten.length ≤ _
 rw [e,List.length_append]; omega
theorem Wn {ls:List (List Qi)} (hl:ls.length ≤ 1000) (hf:ls.flatten.length ≤ 1000):bI Tryz.prog 119 [kB 1 (ls.map aL)] (aL ls.flatten):=by
 refine bI.intro Tryz.func119 rfl Tryz.ntmps119 rfl (fun cx=>(ts (ro rfl (cQ cV) (eJ (ts (ro rfl (cQ (cJ 0)) (eJ (cK (ts (rm rfl (ro rfl (dU U_26 (Ht rfl) aD) (ro rfl (cX (cJ 0)) (eJ (eU ?_))))))))))))))
 refine cB (fun (i : Nat) => i ≤ ls.length) (fun (i : Nat) => ls.length - i) (fun (i : Nat) => [(0, kB 1 (ls.map aL)), (3, NT .i64 (cat ls i).length), (9, kB 1 (ls.map aL)), (10, NT .i64 ls.length), (11, NT .i64 i)]) (fun (i : Nat) => []) 0 (Nat.zero_le _)
  (zS rfl) aY (fun i hi=>?_)
 refine ts (ro rfl (gJ (Ht rfl) (Ht rfl)) (eJ (cK (dQ (Ht rfl) (fun hd=>?_) (fun hd=>?_)))))
 ·have hin : i < ls.length := by simp only [decide_eq_true_eq] at hd; omega
  have hcn:=Ju hin
  have hcl:=Xr (ls:=ls) (i:=i + 1) hin
  rw [hcn,List.length_append] at hcl
  refine cU (cK (eU (ts (ro rfl (dZ U_26 Z_25 (Ht rfl) (Ht rfl) rfl (eX (eQ (d:=[]) zo))) (ro rfl (dJ A_25 Z_25 (Ht rfl)) (ra rfl (eJ (ts (rm rfl (rm rfl (ro rfl (dU U_25 (Ht rfl) aD) (ro rfl (dW (Ht rfl) (Ht rfl) (by show _ < 9223372036854775808; omega)) (ra rfl (eJ (ts (rm rfl (ro rfl (gJ (Ht rfl) (cJ 0)) (eJ (kA (Ht rfl) (by simp) ?_)))))))))))))))))))
  refine cU (bD (cY (ro rfl (dW (Ht rfl) (cJ 1) z6) (rm rfl (eJ (gQ (i + 1) hin zo (aQ rfl (aZ rfl (nQ (by rw [hcn,List.length_append])) (zS rfl))) aY))))))
 ·have hin : i = ls.length := by simp only [decide_eq_false_iff_not] at hd; omega
  rw [hin,Qd]
  refine gG rfl (ts (rm rfl (jZ Tryz.call219 (a1g (m:=ls.flatten.length) hf) ⟨cV,(Ht rfl),trivial⟩ rfl (fun v24 _=>(ra rfl (eJ (cK (ts (rm rfl (ro rfl (dU U_26 (Ht rfl) aD) (ro rfl (cX (cJ 0)) (eJ (eU ?_)))))))))))))
  refine gN (fun (j : Nat) (v : Value) => j ≤ ls.length) (fun (j : Nat) (v : Value) => ls.length - j) (fun (j : Nat) (v : Value) => [(0, kB 1 (ls.map aL)), (6, Is v), (25, kB 1 (ls.map aL)), (26, NT .i64 ls.length), (27, NT .i64 j)]) (fun (j : Nat) (v : Value) => [bF 60 5 v ((cat ls j).map aE)]) 0 _ (Nat.zero_le _)
   (zS rfl) (aU (aO rfl) aY) (fun j v hj=>?_)
  refine ts (ro rfl (gJ (Ht rfl) (Ht rfl)) (eJ (cK (dQ (Ht rfl) (fun he=>?_) (fun he=>?_)))))
  ·have hjn : j < ls.length := by simp only [decide_eq_true_eq] at he; omega
   have hcn:=Ju hjn
   have hcl:=Xr (ls:=ls) (i:=j + 1) hjn
   rw [hcn,List.length_append] at hcl
   refine cU (cK (eU (ts (ro rfl (dZ U_26 Z_25 (Ht rfl) (Ht rfl) rfl (eX (eQ (d:=[]) zo))) (ro rfl (dJ A_25 Z_25 (Ht rfl)) (ra rfl (eJ (cY (rm rfl (rm rfl (Ex (inf:=Tryz.t60) jK iB rfl rfl rfl (Ht rfl) (Ht rfl) (i:=0) rfl (fun T hT=>by obtain ⟨x,_,rfl⟩:=List.mem_map.1 hT; exact El.ag rfl) (by show _ * 88 ≤ _; simp only [List.length_map]; omega) (by simp only [List.length_map]; omega) rfl (fun v2=>?_))))))))))))
   refine ra rfl (eJ (bD (cY (ro rfl (dW (Ht rfl) (cJ 1) z6) (rm rfl (eJ (gQ (j + 1,v2) hjn (by dsimp only; omega) (zS rfl) (aU (aO (by rw [hcn,List.map_append])) aY))))))))
  ·have hjn : j = ls.length := by simp only [decide_eq_false_iff_not] at he; omega
   rw [hjn,Qd]
   refine gG rfl (gW (i:=0) (tt:=6) rfl rfl gH (ts (rm rfl (ra rfl (eJ ?_)))))
   exact fK rfl (fQ rfl)
theorem Wz {z zb:List Qi} {a b:List (List Qi)} {x y i j:Nat} (ha:bT a x x) (hb:bT b y y) (hx:x ≤ 100) (hy:y ≤ 100) (hi:i < x + y) (hj:j < x + y):bI Tryz.prog 117 [NT .i64 i,NT .i64 j,PT (NT .i64 x),PT (dO z a),PT (dO zb b)] (aE (gm (kO a b x y) i j)):=by
 have hal:=ha.1
 have hbl:=hb.1
 rw [iE hi hj]
 refine bI.intro Tryz.func117 rfl Tryz.ntmps117 rfl (fun cx=>(ts (rn rfl (eK (Ts:=[Is (.bool false),Is (.slice none 0 0),Is (.bool false),Is (.slice none 0 0),Is (.slice none 0 0)]) O_60 rfl (fun V=>aW zd (aW zd (aW zd (aW zd (aW zd (aG))))))) fun B7=>(eJ (cK (eU (ts (rm rfl (ro rfl (dJ A_3 Z_3 (Ht rfl)) (ro rfl (gJ (Ht rfl) (Ht rfl)) (rm rfl (fZ rfl rfl (eY rfl rfl (Ht rfl) (fun h=>cX (Ht rfl))) ?_))))))))))))
 refine fZ rfl rfl (eY rfl rfl (Ht rfl) (fun h=>dJ A_3 Z_3 (Ht rfl))) (fZ rfl rfl (eY rfl rfl (Ht rfl) (fun h=>gJ (fW rfl h) (fW rfl h))) (ro rfl (iU (Ht rfl) (fun h=>(fW rfl h))) (ra rfl (eJ (dQ (Ht rfl) (fun h1=>?_) (fun h1=>?_))))))
 ·have h2 : i < x ∧ j < x := by simpa using h1
  have har:=ha.row h2.1
  refine ts (ro rfl (iC fC (Ht rfl) rfl) (ro rfl (dJ A_26 Z_26 (Ht rfl)) (rm rfl (ro rfl (dZ U_26 Z_25 (Ht rfl) (Ht rfl) rfl (eX (eQ (d:=[]) zo))) (ro rfl (dJ A_25 Z_25 (Ht rfl)) (rm rfl (ro rfl (dZ U_25 Z_60 (Ht rfl) (Ht rfl) rfl (eX (eQ (d:=Qi.zero) zo))) (ro rfl (dJ A_60 Z_60 (Ht rfl)) (gZ Z_60 (Ht rfl) (Ht rfl) rfl (i:=0) rfl (aK rfl) rfl rfl (eJ (fK rfl (fJ (fY A_60 Z_60 rfl (i:=0) rfl rfl) ?_))))))))))))
  exact (jE (by rw [if_pos h2.1,if_pos h2.2]))
 ·have h2 : ¬ (i < x ∧ j < x) := by simpa using h1
  refine ts (rm rfl (ro rfl (dJ A_3 Z_3 (Ht rfl)) (ro rfl (sH (Ht rfl) (Ht rfl)) (rm rfl (fZ rfl rfl (eY rfl rfl (Ht rfl) (fun h=>cX (Ht rfl))) (fZ rfl rfl (eY rfl rfl (Ht rfl) (fun h=>dJ A_3 Z_3 (Ht rfl))) (fZ rfl rfl (eY rfl rfl (Ht rfl) (fun h=>sH (fW rfl h) (fW rfl h))) (ro rfl (iU (Ht rfl) (fun h=>(fW rfl h))) (ra rfl (eJ (dQ (Ht rfl) (fun h3=>?_) (fun h3=>?_))))))))))))
  ·have h4 : x ≤ i ∧ x ≤ j := by simpa using h3
   have hbr:=hb.row (i:=i - x) zo
   refine cK (fV (m:=10) (dp 4 rfl (iC fC (Ht rfl) rfl) (dq 34 0 rfl (dJ A_26 Z_26 (Ht rfl)) (dp 0 rfl (cX (Ht rfl)) (dp 2 rfl (dJ A_3 Z_3 (Ht rfl)) (dP 36 2 37 3 rfl (dK (Ht rfl) (Ht rfl) zo z6) (dP 35 1 38 4 rfl (dZ U_26 Z_25 (Ht rfl) (Ht rfl) rfl (eX (eQ (d:=[]) zo))) (dq 39 5 rfl (dJ A_25 Z_25 (Ht rfl)) (dp 1 rfl (cX (Ht rfl)) (dp 2 rfl (dJ A_3 Z_3 (Ht rfl)) ?_))))))))))
   refine dP 41 7 42 8 rfl (dK (Ht rfl) (Ht rfl) zo z6) (fG aT rfl (by kernel_rfl) (zF (zF (aJ (aJ (aV (ro rfl (dZ U_25 Z_60 (Ht rfl) (Ht rfl) rfl (eX (eQ (d:=Qi.zero) zo))) (ro rfl (dJ A_60 Z_60 (Ht rfl)) (gZ Z_60 (Ht rfl) (Ht rfl) rfl (i:=0) rfl (aK rfl) rfl rfl (eJ (fK rfl (fJ (fY A_60 Z_60 rfl (i:=0) rfl rfl) ?_))))))))))))
   exact (jE (by rw [if_neg zo,if_pos h4.2]))
  ·have h4 : ¬ (x ≤ i ∧ x ≤ j) := by simpa using h3
   have h5 : Qi.ofInt (0 : Nat) = (if i < x then if j < x then gm a i j else Qi.zero else if x ≤ j then gm b (i - x) (j - x) else Qi.zero) := by
    by_cases e:i < x
    ·rw [if_pos e,if_neg zo]; rfl
    ·rw [if_neg e,if_neg zo]; rfl
   refine cU (bD (ts (ro rfl (cZ Tryz.call118 (wL (n:=0) (by decide) (by decide)) ⟨(cJ 0),trivial⟩) (gZ Z_60 (Ht rfl) (Ht rfl) rfl (i:=0) rfl (aK rfl) rfl rfl (eJ (fK rfl (fJ (fY A_60 Z_60 rfl (i:=0) rfl rfl) ?_)))))))
   exact (jE h5)
theorem a1j {z zb:List Qi} {a b:List (List Qi)} (ha:bT a z.length z.length) (hb:bT b zb.length zb.length) (hx:z.length ≤ 100) (hy:zb.length ≤ 100):bI Tryz.prog 29 [dO z a,dO zb b] (fE [dO (Mf z zb) (yV z zb a b),aN .i64 (Me z.length zb.length)]):=by
 refine bI.intro Tryz.func29 rfl Tryz.ntmps29 rfl (fun cx=>(ts (rn rfl (fU (Ht rfl)) fun B2=>(rn rfl (fU (Ht rfl)) fun B3=>(rn rfl (eK (Ts:=[Is (.slice none 0 0),Is (.slice none 0 0)]) O_28 rfl (fun V=>aW zd (aW zd (aG)))) fun B4=>(ro rfl (cQ (cJ 0)) (eJ (cK (Y.D_start (m:=12) [] (bY (Ei:=[(2,_)]) rfl rfl (bQ (bJ rfl rfl) bX) rfl rfl (dX rfl (eW eE (Ht rfl) rfl)) (bY (Ei:=[(9,_)]) rfl rfl (bQ (bZ 0 rfl rfl) bX) rfl rfl (dX rfl (fX A_25 Z_25 (Ht rfl) (i:=0) rfl rfl)) ?_)))))))))))
 refine bY (Ei:=[(10,_)]) rfl rfl (bQ (bZ 1 rfl rfl) bX) rfl rfl (dX rfl (dU U_25 (Ht rfl) aD)) (bY (Ei:=[(2,_)]) rfl rfl (bQ (bJ rfl rfl) bX) rfl rfl (dX rfl (eW eE (Ht rfl) rfl)) (bY (Ei:=[(12,_)]) rfl rfl (bQ (bZ 3 rfl rfl) bX) rfl rfl (dX rfl (fX A_25 Z_25 (Ht rfl) (i:=0) rfl rfl)) (bY (Ei:=[(13,_)]) rfl rfl (bQ (bZ 4 rfl rfl) bX) rfl rfl (dX rfl (dU U_25 (Ht rfl) aD)) ?_)))
 refine bY (Ei:=[(3,_)]) rfl rfl (bQ (bJ rfl rfl) bX) rfl rfl (dX rfl (eW eE (Ht rfl) rfl)) (bY (Ei:=[(15,_)]) rfl rfl (bQ (bZ 6 rfl rfl) bX) rfl rfl (dX rfl (fX A_25 Z_25 (Ht rfl) (i:=1) rfl rfl)) (bY (Ei:=[(16,_)]) rfl rfl (bQ (bZ 7 rfl rfl) bX) rfl rfl (dX rfl (dU U_25 (Ht rfl) aD)) (bY (Ei:=[(14,_),(17,_)]) rfl rfl (bQ (bZ 5 rfl rfl) (bQ (bZ 8 rfl rfl) bX)) rfl rfl (dX rfl (dW (Ht rfl) (Ht rfl) z6)) ?_)))
 refine Y.D_newp (Ei:=[]) (fun bb=>box bb 3 [NT .i64 z.length]) 11 rfl rfl rfl bX rfl rfl (by kernel_rfl) (eK (Ts:=[Is (.int .i64 0)]) O_3 rfl (fun V=>aW zd (aG))) (Y.D_putN (Ei:=[(11,_)]) 10 rfl rfl rfl rfl rfl rfl (bQ (bZ 2 rfl rfl) bX) (fun bb=>Jh Z_3 (Ht rfl) (Ht rfl) (i:=0) rfl (aK rfl) rfl rfl) (Y.D_done aT rfl (by kernel_rfl) rfl (by simp [Y.okP]) rfl rfl (bU (bU (bU (bU (bU (bU (bU (bU (bU (bU (Y.F_newp (fun B6=>Y.F_putN (Y.F_nil ?_)))))))))))))))
 refine ra rfl (eJ (cK (ts (rm rfl (ro rfl (jU (Ht rfl) (cJ 8)) (eJ (dQ (Ht rfl) (fun hb1=>?_) (fun hb1=>?_))))))))
 ·have h2 : 8 < z.length + zb.length := by simpa using hb1
  have he:=a3d h2
  refine ts (ro rfl (aM.imp (nA ) nG) (gZ Z_28 (Ht rfl) (Ht rfl) rfl (i:=2) rfl (aK rfl) rfl rfl (ro rfl (cQ (cJ 4)) (eJ (bM rfl (fJ (fY A_28 Z_28 rfl (i:=2) rfl rfl) ?_) (fJ (fQ rfl) ?_))))))
  ·exact (fun v V h=>by rw [Mf,yV,fF,fF,he]; exact h)
  ·exact (bE he.symm)
 ·have h2 : ¬ 8 < z.length + zb.length := by simpa using hb1
  have he:=a0O h2
  refine cU (cK (gW (i:=0) (tt:=2) rfl rfl jH (gW (i:=1) (tt:=3) rfl rfl jH (gW (i:=3) (tt:=6) rfl rfl kQ (cY (rm rfl (ro rfl (lO (γ:=Fin (z.length + zb.length) × Fin (z.length + zb.length)) (Ts:=fun x=>[NT .i64 x.1.1,NT .i64 x.2.1]) (U:=fun x=>aE (gm (kO a b z.length zb.length) x.1.1 x.2.1)) Tryz.call117 (fun x=>Wz ha hb hx hy x.1.2 x.2.2) ⟨(Ht rfl),(Ht rfl),(Ht rfl),trivial⟩) (ro rfl (cZ K_110 (eZ (yC (n:=z.length + zb.length) (f:=fun i j=>gm (kO a b z.length zb.length) i j) zo) (mM (congrArg _ (qQ (mC a b z.length zb.length)).symm))) ⟨(Ht rfl),(Ht rfl),trivial⟩) ?_))))))))
  refine ra rfl (eJ (ts (ro rfl (iC eE (Ht rfl) rfl) (ro rfl (dJ A_25 Z_25 (Ht rfl)) (ro rfl (iC eE (Ht rfl) rfl) (ro rfl (dJ A_25 Z_25 (Ht rfl)) (ro rfl (cI (xs:=[.tmp 26,.tmp 28]) U_26 Z_25 O_25 (cW (Ht rfl) (cW (Ht rfl) cG)) rfl rfl rfl) (ro rfl (cZ Tryz.call119 (eZ (Wn (ls:=[z,zb]) (by simp) (by simp; omega)) (mM (Us:=(z ++ zb).map aE) (by simp))) ⟨(Ht rfl),trivial⟩) ?_))))))))
  refine rm rfl (ro rfl (pV (Ht rfl) (Ht rfl)) (gZ Z_28 (Ht rfl) (Ht rfl) rfl (i:=2) rfl (aK rfl) rfl rfl (ro rfl (cQ (cJ 0)) (eJ (bM rfl (fJ (fY A_28 Z_28 rfl (i:=2) rfl rfl) ?_) (fJ (fQ rfl) ?_))))))
  ·exact (fun v V h=>by rw [Mf,yV,fF,fF,he]; exact h)
  ·exact (bE he.symm)
theorem Pw {z:List Qi} {s:List (List Qi)} {q:Int} {o:List Int} (hl:z.length ≤ 1000) (ho:o.length ≤ 1000):bI Tryz.prog 181 [dO z s,aN .i64 q,kB 1 (o.map (aN .i64))] (aN .i64 (eB z.length q o)):=by
 refine bI.intro Tryz.func181 rfl Tryz.ntmps181 rfl (fun cx=>(ts (rn rfl (fU (Ht rfl)) fun B3=>(ro rfl (cQ (cJ 0)) (eJ (cK (eU (ts (ro rfl (eG A_28 Z_28 (Ht rfl) (i:=0) rfl rfl rfl) (rm rfl (ro rfl (cZ Tryz.call138 Jq ⟨(Ht rfl),(Ht rfl),trivial⟩) (ro rfl (fH (Ht rfl)) (ra rfl (eJ (dQ (Ht rfl) (fun hb1=>?_) (fun hb1=>?_))))))))))))))))
 ·have h2 : ¬ (1 ≤ q ∧ q ≤ (z.length : Int)) := by simpa only [Bool.not_eq_true', decide_eq_false_iff_not] using hb1
  refine ts (ro rfl (cQ (cJ 1)) (eJ (fK rfl (fJ (fQ rfl) ?_))))
  exact (bE (if_pos h2).symm)
 ·have h2 : 1 ≤ q ∧ q ≤ (z.length : Int) := by simpa using hb1
  refine ts (rm rfl (rm rfl (ro rfl (cZ Tryz.call145 (qV (l:=o) (v:=q) zo) ⟨(Ht rfl),(Ht rfl),trivial⟩) (ra rfl (eJ (dQ (Ht rfl) (fun hb2=>?_) (fun hb2=>?_)))))))
  ·refine ts (ro rfl (cQ (cJ 8)) (eJ (fK rfl (fJ (fQ rfl) ?_))))
   exact (bE (by rw [eB,if_neg (fun k=>k h2),if_pos hb2]; rfl))
  ·refine cU (bD (ts (ro rfl (cQ (cJ 0)) (eJ (fK rfl (fJ (fQ rfl) ?_))))))
   exact (bE (by rw [eB,if_neg (fun k=>k h2),if_neg (by rw [hb2]; decide)]; rfl))
theorem a1i {z:List Qi} {s:List (List Qi)} {l:List Int} (hs:bT s z.length z.length) (hl:z.length ≤ 1000) (hll:l.length ≤ 1000):bI Tryz.prog 85 [dO z s,kB 1 (l.map (aN .i64))] (fE [dO (Ir z l) (xL z s l),aN .i64 (zU z.length l)]):=by
 refine bI.intro Tryz.func85 rfl Tryz.ntmps85 rfl (fun cx=>(ts (rn rfl (fU (Ht rfl)) fun B2=>(rn rfl (eK (Ts:=[Is (.slice none 0 0),Is (.slice none 0 0)]) O_28 rfl (fun V=>aW zd (aW zd (aG)))) fun B4=>(ro rfl (cQ (cJ 0)) (eJ (cK (ts (rm rfl (ro rfl (dU U_103 (Ht rfl) aD) (ro rfl (eW eE (Ht rfl) rfl) (ro rfl (fX A_25 Z_25 (Ht rfl) (i:=0) rfl rfl) (ro rfl (dU U_25 (Ht rfl) aD) (ro rfl (kM (Ht rfl) (Ht rfl)) ?_))))))))))))))
 refine eJ (dQ (Ht rfl) (fun hb1=>?_) (fun hb1=>?_))
 ·have h2 : l.length ≠ z.length := by simpa using hb1
  have he:=Lu h2
  refine ts (ro rfl (aM.imp (nA ) nG) (gZ Z_28 (Ht rfl) (Ht rfl) rfl (i:=1) rfl (aK rfl) rfl rfl (ro rfl (cQ (cJ 4)) (eJ (bM rfl (fJ (fY A_28 Z_28 rfl (i:=1) rfl rfl) ?_) (fJ (fQ rfl) ?_))))))
  ·exact (fun v V h=>by rw [Ir,xL,fF,fF,he]; exact h)
  ·exact (bE he.symm)
 ·have h2 : l.length = z.length := by simpa using hb1
  have hok:=Oo h2
  refine cU (cK (ts (rm rfl (ro rfl (dU U_103 (Ht rfl) aD) (ro rfl (cX (cJ 0)) (eJ (eU ?_)))))))
  refine cB (fun (i : Nat) => i ≤ l.length ∧ ∀ j, j < i → (fun i => eB z.length (l.getD i 0) (l.take i)) j = 0) (fun (i : Nat) => l.length - i) (fun (i : Nat) => [(1, kB 1 (l.map (aN .i64))), (2, bO B2 0), (4, bO B4 0), (16, kB 1 (l.map (aN .i64))), (17, NT .i64 l.length), (18, NT .i64 i)]) (fun (i : Nat) => [box B2 28 [aL z, bC s], box B4 28 [Is (.slice none 0 0), Is (.slice none 0 0)]]) 0 ⟨Nat.zero_le _, fun j h => by omega⟩
   (zS rfl) (aU (aB rfl) (aU (aB rfl) aY)) (fun i ⟨hi,h0⟩=>?_)
  refine ts (ro rfl (gJ (Ht rfl) (Ht rfl)) (eJ (cK (dQ (Ht rfl) (fun hd=>?_) (fun hd=>?_)))))
  ·have hin : i < l.length := by simp only [decide_eq_true_eq] at hd; omega
   refine cU (cK (eU (ts (rm rfl (ro rfl (dZ U_103 Z_3 (Ht rfl) (Ht rfl) rfl (eX (eQ (d:=0) zo))) (ro rfl (dJ A_3 Z_3 (Ht rfl)) (ra rfl (ra rfl (eJ (cK (fV (m:=5) (dp 2 rfl (eG A_28 Z_28 (Ht rfl) (i:=0) rfl rfl rfl) (dp 7 rfl (cX (Ht rfl)) (dp 1 rfl (cX (Ht rfl)) (dp 6 rfl (cX (Ht rfl)) (dP 25 2 26 3 rfl (yS U_103 Z_3 (Ht rfl) (Ht rfl) (fun m e=>by cases e) zo (by rw [List.length_map]; omega) (Us:=(l.take i).map (aN .i64)) (by rw [Int.toNat_natCast,List.map_take])) ?_))))))))))))))))
   refine fG aT rfl (by kernel_rfl) (zF (aJ (aV (ro rfl (cZ Tryz.call181 (Pw (q:=l.getD i 0) (o:=l.take i) hl (by rw [List.length_take]; omega)) ⟨(Ht rfl),(Ht rfl),(Ht rfl),trivial⟩) ?_))))
   refine ra rfl (eJ (ts (rm rfl (ro rfl (iH (Ht rfl) cV) (eJ (dQ (Ht rfl) (fun he=>?_) (fun he=>?_)))))))
   ·have h3 : (fun i => eB z.length (l.getD i 0) (l.take i)) i ≠ 0 := by simpa using he
    have he2:zU z.length l = eB z.length (l.getD i 0) (l.take i):=hok.trans (tZ h0 h3 hin)
    refine ts (ro rfl (aM.imp (nA ) nG) (rm rfl (gZ Z_28 (Ht rfl) (Ht rfl) rfl (i:=1) rfl (aK rfl) rfl rfl (ra rfl (eJ (bM rfl (fJ (fY A_28 Z_28 rfl (i:=1) rfl rfl) ?_) (fJ (fQ rfl) ?_)))))))
    ·exact (fun v V h=>by rw [Ir,xL,fF,fF,he2,if_neg h3,if_neg h3]; exact h)
    ·exact (bE he2.symm)
   ·have h3 : (fun i => eB z.length (l.getD i 0) (l.take i)) i = 0 := by simpa using he
    refine cU (bD (cY (ro rfl (dW (Ht rfl) (cJ 1) z6) (rm rfl (eJ (bL [0,1] rfl (by decide) ?_))))))
    refine gQ (i + 1) ⟨hin, fun j h => by
      by_cases e:j = i
      ·rw [e]; exact h3
      ·exact h0 j zo⟩ zo (zS rfl) (aU (aB rfl) (aU (aB rfl) aY))
  ·have hin : i = l.length := by simp only [decide_eq_false_iff_not] at hd; omega
   have h3:sR z.length l = 0:=iM (by rw [hin] at h0; exact h0)
   have he:zU z.length l = 0:=hok.trans h3
   refine gG rfl (ts (ro rfl (eG A_28 Z_28 (Ht rfl) (i:=0) rfl rfl rfl) (ro rfl (cX (bH.to (Ht rfl) (mM (Cv h3)))) (jZ Tryz.call125 (Qa (Q:=uX l) (m:=l.length) hs (a0m h3) (Cu l) hll hl) ⟨(Ht rfl),(Ht rfl),trivial⟩ rfl (fun B36 _=>(gZ Z_28 (Ht rfl) (Ht rfl) rfl (i:=1) rfl (aK rfl) rfl rfl (ro rfl (cQ (cJ 0)) (eJ (Bb 1 2 1 rfl rfl rfl (by decide) (a5Y (q:=fun _=>True) (M:=mX s (uX l)) (by rw [(xO s (uX l)).1,Cu])) ?_)))))))))
   refine bM rfl (fJ (fY A_28 Z_28 rfl (i:=1) rfl rfl) ?_) (fJ (fQ rfl) ?_)
   ·exact (fun v V h=>by rw [Ir,xL,fF,fF,he]; exact h)
   ·exact (bE he.symm)
end
section
open Go Go.RowKit
theorem Xc {z:List Qi} {S:List (List Qi)} {js:List (Int × Int)} {L:Nat} (hfz:bR z L) (hL:1 ≤ L) (hLb:L ≤ 1000000) (hz:z.length ≤ 1000) (hj:js.length ≤ 100):bI Tryz.prog 120 [dO z S,JsT js] (fE [kB 1 ((jeL z js).map (aN .i64)),aN .i64 (Ef z js)]):=by
 refine bI.intro Tryz.func120 rfl Tryz.ntmps120 rfl (fun cx=>(ts (rn rfl (fU (Ht rfl)) fun B2=>(ro rfl (cQ cV) (ro rfl (cQ (cJ 0)) (eJ (ts (ro rfl (cQ cV) (eJ (cK (cK (pU 3 1 (cY (rm rfl (ro rfl (dU U_65 (Ht rfl) aD) (ro rfl (cX (cJ 0)) (eJ (eU ?_))))))))))))))))))
 refine gN (fun (k : Nat) (vG : Value) => k ≤ js.length ∧ ∀ j, j < k → wX z js j = 0) (fun (k : Nat) (vG : Value) => js.length - k) (fun (k : Nat) (vG : Value) => [(1, JsT js), (2, bO B2 0), (6, Is vG), (12, JsT js), (13, NT .i64 js.length), (14, NT .i64 k)]) (fun (k : Nat) (vG : Value) => [box B2 28 [aL z, bC S], bF 3 1 vG ((nE (js.take k)).map (aN .i64))]) 0 _ ⟨Nat.zero_le _, fun j h => by omega⟩
  (zS rfl) (aU (aB rfl) (aU (aO rfl) aY)) (fun k vG ⟨hk,h0⟩=>?_)
 refine ts (ro rfl (gJ (Ht rfl) (Ht rfl)) (eJ (cK (dQ (Ht rfl) (fun hd=>?_) (fun hd=>?_)))))
 ·have hkn : k < js.length := by simp only [decide_eq_true_eq] at hd; omega
  have hjk:=pG (js.take k)
  refine cU (cK (eU (ts (ro rfl (dZ U_65 Z_64 (Ht rfl) (Ht rfl) rfl (eX (eQ (d:=(0,0)) hkn))) (ro rfl (dJ Tryz.isAgg64 Z_64 (Ht rfl)) (rn rfl (eK (Ts:=[Is (.int .i64 0),Is (.int .i64 0)]) O_64 rfl (fun V=>aW zd (aW zd (aG)))) fun B8=>(gZ Z_64 (Ht rfl) (Ht rfl) rfl (i:=2) rfl (aK rfl) rfl rfl (eJ (cK (cK (gW (i:=2) (tt:=8) rfl rfl jH (cY (ro rfl (dJ Tryz.isAgg64 Z_64 (Ht rfl)) ?_)))))))))))))
  refine ro rfl (cX (cJ 0)) (eJ (eU (bL [0,1] rfl (by decide) ?_)))
  refine gN (fun (i : Nat) (vI : Value) => i ≤ 2 ∧ ∀ x, x < i → Ib z js k x = 0) (fun (i : Nat) (vI : Value) => 2 - i) (fun (i : Nat) (vI : Value) => [(1, JsT js), (2, bO B2 0), (6, Is vI), (8, PT (JT (kK js k))), (12, JsT js), (13, NT .i64 js.length), (14, NT .i64 k), (18, JT (kK js k)), (19, NT .i64 i)]) (fun (i : Nat) (vI : Value) => [box B2 28 [aL z, bC S], bF 3 1 vI ((nE (js.take k) ++ (Lk (kK js k)).take i).map (aN .i64))]) 0 _ ⟨Nat.zero_le _, fun x h => by omega⟩
   (zS rfl) (aU (aB rfl) (aU (aO (by rw [List.take_zero,List.append_nil])) aY)) (fun i vI ⟨hi,h1⟩=>?_)
  refine ts (ro rfl (gJ (Ht rfl) (cJ 2)) (eJ (cK (dQ (Ht rfl) (fun he=>?_) (fun he=>?_)))))
  ·have hi2 : i < 2 := by simp only [decide_eq_true_eq] at he; omega
   have hol:(nE (js.take k) ++ (Lk (kK js k)).take i).length ≤ 300:=by rw [List.length_append,hjk,List.length_take,List.length_take]; omega
   refine cU (cK (eU (ts (ro rfl (Uo U_64 Z_3 A_3 (Ht rfl) (Ht rfl) zo (a2M hi2)) (ra rfl (eJ (cK (ts (ro rfl (eG A_28 Z_28 (Ht rfl) (i:=0) rfl rfl rfl) (rm rfl (rm rfl (ro rfl (a0a Tryz.call181 (Pw (z:=z) (s:=S) (q:=(Lk (kK js k)).getD i 0) (o:=nE (js.take k) ++ (Lk (kK js k)).take i) hz zo) (j:=1) (tt:=24) rfl rfl gH (fun _ _ _ h=>h) ⟨(Ht rfl),(Ht rfl),(Ht rfl),trivial⟩) (ra rfl (eJ (ts (rm rfl (ro rfl (iH (Ht rfl) cV) (eJ (dQ (Ht rfl) (fun hf=>?_) (fun hf=>?_))))))))))))))))))))
   ·have h3 : Ib z js k i ≠ 0 := by simp only [Bool.not_eq_true', decide_eq_false_iff_not] at hf; exact hf
    have h4:=a67 hi2 h1 h3
    have h5:zR z js = Ib z js k i:=(tZ h0 (by rw [h4]; exact h3) hkn).trans h4
    have h6:Ef z js = Ib z js k i:=(Zn (by rw [h5]; exact h3)).trans h5
    refine ts (rm rfl (ro rfl (cQ cV) (ra rfl (eJ (bM rfl (fJ (fQ rfl) ?_) (fJ (fQ rfl) ?_))))))
    ·exact (fun v V h=>by rw [jeL,fF,h6,if_neg h3]; exact jT v V h)
    ·exact (bE h6.symm)
   ·have h3 : Ib z js k i = 0 := by simp only [Bool.not_eq_false', decide_eq_true_eq] at hf; exact hf
    refine cU (cY (rm rfl (rm rfl (ro rfl (cI (xs:=[.tmp 30]) U_103 Z_3 O_3 (cW (Ht rfl) cG) rfl rfl rfl) (lE (inf:=Tryz.t3) sN vW rfl rfl rfl (Ht rfl) (Ht rfl) (i:=1) rfl (by simp) (fun T hT=>by simp at hT; subst hT; exact El.one) (by show _ * 8 ≤ _; simp only [List.length_map,List.length_cons,List.length_nil]; omega) (by simp only [List.length_map,List.length_cons,List.length_nil]; omega) rfl (fun v2=>?_))))))
    refine ra rfl (eJ (bD (cY (ro rfl (dW (Ht rfl) (cJ 1) z6) (rm rfl (eJ ?_))))))
    refine gQ (i + 1, v2) ⟨hi2, fun x hx => by
      by_cases e:x = i
      ·rw [e]; exact h3
      ·exact h1 x zo⟩ (by dsimp only; omega) (zS rfl) (aU (aB rfl) (aU (aO (by rw [a0k hi2,← List.append_assoc,List.map_append (l₁:=nE (js.take k) ++ (Lk (kK js k)).take i)]; rfl)) aY))
  ·obtain rfl : i = 2 := by simp only [decide_eq_false_iff_not] at he; omega
   obtain ⟨⟨p1,p2⟩,⟨p3,p4⟩,h3⟩:=a68 h1
   have hrow:nE (js.take (k + 1)) = nE (js.take k) ++ (Lk (kK js k)).take 2:=Kq hkn
   haveI g1:=hfz.get hL ((kK js k).1 - 1).toNat
   haveI g2:=hfz.get hL ((kK js k).2 - 1).toNat
   refine gG rfl (cK (fV (m:=14) (dp 2 rfl (eW eE (Ht rfl) rfl) (dq 34 0 rfl (fX A_25 Z_25 (Ht rfl) (i:=0) rfl rfl) (dp 8 rfl (Rw U_64 Z_3 (Ht rfl) cV rfl (by decide) rfl) (dq 36 2 rfl (dJ A_3 Z_3 (Ht rfl)) (dq 37 3 rfl (jJ (Ht rfl) cV (r:=((((kK js k).1 - 1).toNat:Nat):Int)) ((Ew (z:=(kK js k).1 - 1) zo).trans zo)) ?_)))))))
   refine dP 35 1 38 4 rfl (dZ U_25 Z_60 (Ht rfl) (Ht rfl) rfl (eX (eQ (d:=Qi.zero) zo))) (dq 39 5 rfl (dJ A_60 Z_60 (Ht rfl)) (dp 2 rfl (eW eE (Ht rfl) rfl) (dq 41 7 rfl (fX A_25 Z_25 (Ht rfl) (i:=0) rfl rfl) (dp 8 rfl (Rw U_64 Z_3 (Ht rfl) cV rfl (by decide) rfl) (dq 43 9 rfl (dJ A_3 Z_3 (Ht rfl)) (dq 44 10 rfl (jJ (Ht rfl) cV (r:=((((kK js k).2 - 1).toNat:Nat):Int)) ((Ew (z:=(kK js k).2 - 1) zo).trans zo)) ?_))))))
   refine dP 42 8 45 11 rfl (dZ U_25 Z_60 (Ht rfl) (Ht rfl) rfl (eX (eQ (d:=Qi.zero) zo))) (dq 46 12 rfl (dJ A_60 Z_60 (Ht rfl)) (fG aT rfl (by kernel_rfl) (zF (zF (zF (aJ (aJ (aV (ro rfl (cZ K_100 (yA (x:=gv z ((kK js k).1 - 1).toNat) (y:=gv z ((kK js k).2 - 1).toNat) (L:=L) (M:=L) zo zo) ⟨(Ht rfl),(Ht rfl),trivial⟩) (ro rfl (fH (Ht rfl)) ?_))))))))))
   refine eJ (dQ (Ht rfl) (fun hg=>?_) (fun hg=>?_))
   ·have h4 : wX z js k = 40 := by rw [h3, if_neg (by simpa using hg)]
    have h5:zR z js = 40:=(tZ h0 (by rw [h4]; decide) hkn).trans h4
    have h6:Ef z js = 40:=(Zn (by rw [h5]; decide)).trans h5
    refine ts (ro rfl (cQ cV) (ro rfl (cQ (cJ 40)) (eJ (bM rfl (fJ (fQ rfl) ?_) (fJ (fQ rfl) ?_)))))
    ·exact (fun v V h=>by rw [jeL,fF,h6]; exact jT v V h)
    ·exact (bE h6.symm)
   ·have h4 : wX z js k = 0 := by rw [h3, if_pos (by simpa using hg)]
    refine cU (bD (cY (ro rfl (dW (Ht rfl) (cJ 1) z6) (rm rfl (eJ ?_)))))
    refine gQ (k + 1, vI) ⟨hkn, fun j h => by
      by_cases e:j = k
      ·rw [e]; exact h4
      ·exact h0 j zo⟩ (by dsimp only; omega) (zS rfl) (aU (aB rfl) (aU (aO (by rw [hrow])) aY))
 ·obtain rfl : k = js.length := by simp only [decide_eq_false_iff_not] at hd; omega
  have h2:zR z js = 0:=iM h0
  have hll:=pG js
  rw [List.take_length]
  refine gG rfl (cK (ts (rm rfl (ro rfl (oA U_103 (Ht rfl) (i:=1) rfl aD) (ro rfl (jU (Ht rfl) (cJ 0)) (rm rfl (fZ rfl rfl (eY rfl rfl (Ht rfl) (fun h=>cX (Ht rfl))) (fZ rfl rfl (eY rfl rfl (Ht rfl) (fun h=>oA U_103 (fW rfl h) (i:=1) rfl aD)) (fZ rfl rfl (eY rfl rfl (Ht rfl) (fun h=>eW eE (Ht rfl) rfl)) (fZ rfl rfl (eY rfl rfl (Ht rfl) (fun h=>fX A_25 Z_25 (fW rfl h) (i:=0) rfl rfl)) (fZ rfl rfl (eY rfl rfl (Ht rfl) (fun h=>dU U_25 (fW rfl h) aD)) ?_)))))))))))
  refine fZ rfl rfl (eY rfl rfl (Ht rfl) (fun h=>eH (fW rfl h) (fW rfl h))) (ro rfl (iU (Ht rfl) (fun h=>(fW rfl h))) (eJ (dQ (Ht rfl) (fun hc=>?_) (fun hc=>?_))))
  ·have h3 : 0 < 2 * js.length ∧ 2 * js.length = z.length := by simpa [hll] using hc
   have h6:Ef z js = 4:=a23 h2 h3
   refine ts (ro rfl (cQ cV) (ro rfl (cQ (cJ 4)) (eJ (bM rfl (fJ (fQ rfl) ?_) (fJ (fQ rfl) ?_)))))
   ·exact (fun v V h=>by rw [jeL,fF,h6]; exact jT v V h)
   ·exact (bE h6.symm)
  ·have h3 : ¬ (0 < 2 * js.length ∧ 2 * js.length = z.length) := by simpa [hll] using hc
   have h6:Ef z js = 0:=a3H h2 h3
   refine gW (i:=1) (tt:=6) rfl rfl gH (cU (ts (rm rfl (ra rfl (ro rfl (cQ (cJ 0)) (eJ (bM rfl (fJ (fQ rfl) ?_) (fJ (fQ rfl) ?_))))))))
   ·exact (mM (by rw [jeL,fF,h6]; rfl))
   ·exact (bE h6.symm)
end
section
open Go Go.RowKit
theorem a6M {x : Nat} (h : x < 20) : IntKind.wrap .i64 ((BitVec.ofInt (IntKind.bits .i64) (x : Int) ^^^ BitVec.ofInt (IntKind.bits .i64) ((1 : Nat) : Int)).toNat : Nat) = ((iR x : Nat) : Int) :=
 (by decide +kernel:∀ x:Nat,x < 20 → IntKind.wrap .i64 ((BitVec.ofInt (IntKind.bits .i64) (x:Int) ^^^ BitVec.ofInt (IntKind.bits .i64) ((1:Nat):Int)).toNat:Nat) = ((iR x:Nat):Int)) x h
theorem a1n {z:List Qi} {S:List (List Qi)} {js:List (Int × Int)} {x:Nat} (hS:bT S z.length z.length) (hd:zR z js = 0) (hx:x < 2 * js.length) (hm:2 * js.length ≤ 18) (hz:z.length ≤ 1000):bI Tryz.prog 121 [NT .i64 x,PT (dO z S),PT (eT ((jW js).map Nat.succ))] (aL (S.getD (gq (cF js) (iR x)) [])):=by
 have hpx:iR x < 2 * js.length:=mK hx
 have hgq:=(zE hd).lt (iR x) hpx
 have hSl:=hS.1
 have hJl:=Ah js
 have hat:cO (jW js) (iR x) = gq (cF js) (iR x):=Hw hpx
 refine bI.intro Tryz.func121 rfl Tryz.ntmps121 rfl (fun cx=>(ts (ro rfl (cQ cV) (eJ (cK (fV (m:=8) (dp 1 rfl (iC fC (Ht rfl) rfl) (dq 5 0 rfl (dJ A_26 Z_26 (Ht rfl)) (dp 2 rfl (dJ A_103 Z_103 (Ht rfl)) (dp 0 rfl (cX (Ht rfl)) (dq 8 3 rfl (Rx (Ht rfl) (cJ 1) (a6M zo)) (dP 7 2 9 4 rfl (dZ U_103 Z_3 (Ht rfl) (Ht rfl) rfl (eX (nL zo))) (dq 10 5 rfl (dJ A_3 Z_3 (Ht rfl)) (dq 11 6 rfl (aM.nat (dK (Ht rfl) (cJ 1) zo z6) (show cO (jW js) (iR x) + 1 - 1 = gq (cF js) (iR x) by omega)) ?_))))))))))))))
 refine fG aT rfl (by kernel_rfl) (zF (zF (aV (ro rfl (dZ U_26 Z_25 (Ht rfl) (Ht rfl) rfl (eX (eQ (d:=[]) zo))) (ro rfl (dJ A_25 Z_25 (Ht rfl)) (ra rfl (eJ ?_)))))))
 exact fK rfl (fQ rfl)
theorem a4k {x y:Nat}:bI Tryz.prog 123 [NT .i64 x,NT .i64 y] (aE (if x = y then Qi.ofInt 1 else Qi.ofInt 0)):=by
 refine bI.intro Tryz.func123 rfl Tryz.ntmps123 rfl (fun cx=>(ts (rn rfl (eK (Ts:=[Is (.bool false),Is (.slice none 0 0),Is (.bool false),Is (.slice none 0 0),Is (.slice none 0 0)]) O_60 rfl (fun V=>aW zd (aW zd (aW zd (aW zd (aW zd (aG))))))) fun B4=>(eJ (cK (ts (rm rfl (rm rfl (ro rfl (eH (Ht rfl) (Ht rfl)) (eJ (dQ (Ht rfl) (fun hb=>?_) (fun hb=>?_))))))))))))
 ·have h2 : x = y := by simpa using hb
  refine ts (ro rfl (cZ Tryz.call118 (wL (n:=1) (by decide) (by decide)) ⟨(cJ 1),trivial⟩) (gZ Z_60 (Ht rfl) (Ht rfl) rfl (i:=0) rfl (aK rfl) rfl rfl (eJ (fK rfl (fJ (fY A_60 Z_60 rfl (i:=0) rfl rfl) ?_)))))
  exact (jE (if_pos h2).symm)
 ·have h2 : ¬ x = y := by simpa using hb
  refine cU (ts (ro rfl (cZ Tryz.call118 (wL (n:=0) (by decide) (by decide)) ⟨(cJ 0),trivial⟩) (gZ Z_60 (Ht rfl) (Ht rfl) rfl (i:=0) rfl (aK rfl) rfl rfl (eJ (fK rfl (fJ (fY A_60 Z_60 rfl (i:=0) rfl rfl) ?_))))))
  exact (jE (if_neg h2).symm)
theorem a1o {z:List Qi} {S:List (List Qi)} {js:List (Int × Int)} {x y L:Nat} (hS:bT S z.length z.length) (hf:aS S L) (hL:1 ≤ L) (hLb:L ≤ 1000000) (hd:zR z js = 0) (hx:x < 2 * js.length) (hy:y < 2 * js.length) (hm:2 * js.length ≤ 18) (hz:z.length ≤ 1000):bI Tryz.prog 122 [NT .i64 x,NT .i64 y,PT (xV Tryz.prog (Fin (2 * js.length)) (fun x=>[NT .i64 x.1]) (fun x=>aL (S.getD (gq (cF js) (iR x.1)) []))),PT (eT ((jW js).map Nat.succ))] (aE ((if x = y then Qi.ofInt 1 else Qi.ofInt 0) - gm S (gq (cF js) (iR x)) (gq (cF js) y))):=by
 have hpx:iR x < 2 * js.length:=mK hx
 have hgx:=(zE hd).lt (iR x) hpx
 have hgy:=(zE hd).lt y hy
 have hSl:=hS.1
 have hSr:=hS.row hgx
 have hJl:=Ah js
 have hat:cO (jW js) y = gq (cF js) y:=Hw hy
 haveI g1:aH (gm S (gq (cF js) (iR x)) (gq (cF js) y)) L:=hf.get hL _ _
 haveI g2 : aH (if x = y then Qi.ofInt 1 else Qi.ofInt 0) 1 := by
  split
  ·exact mF
  ·exact (aH.zero (Nat.le_refl 1):aH Qi.zero 1)
 refine bI.intro Tryz.func122 rfl Tryz.ntmps122 rfl (fun cx=>(ts (rn rfl (eK (Ts:=[Is (.bool false),Is (.slice none 0 0),Is (.bool false),Is (.slice none 0 0),Is (.slice none 0 0)]) O_60 rfl (fun V=>aW zd (aW zd (aW zd (aW zd (aW zd (aG))))))) fun B6=>(eJ (cK (fV (m:=14) (dp 0 rfl (cX (Ht rfl)) (dp 1 rfl (cX (Ht rfl)) (dP 7 0 8 1 rfl (cZ Tryz.call123 (a4k (x:=x) (y:=y)) ⟨(Ht rfl),(Ht rfl),trivial⟩) (dq 9 2 rfl (bA bP (Ht rfl)) ?_))))))))))
 refine dp 2 rfl (dJ Tryz.isAgg182 Tryz.sizeOf182 (Ht rfl)) (dp 0 rfl (cX (Ht rfl)) (dP 11 4 12 5 rfl (nI (Ts:=fun x:Fin (2 * js.length)=>[NT .i64 x.1]) ⟨x,hx⟩ (Ht rfl) ⟨(Ht rfl),trivial⟩) (dp 3 rfl (dJ A_103 Z_103 (Ht rfl)) (dp 1 rfl (cX (Ht rfl)) (dP 14 7 15 8 rfl (dZ U_103 Z_3 (Ht rfl) (Ht rfl) rfl (eX (nL zo))) (dq 16 9 rfl (dJ A_3 Z_3 (Ht rfl)) (dq 17 10 rfl (aM.nat (dK (Ht rfl) (cJ 1) zo z6) (show cO (jW js) y + 1 - 1 = gq (cF js) y by omega)) ?_)))))))
 refine dP 13 6 18 11 rfl (dZ U_25 Z_60 (Ht rfl) (Ht rfl) rfl (eX (eQ (d:=Qi.zero) (show gq (cF js) y < (S.getD (gq (cF js) (iR x)) []).length by omega)))) (dq 19 12 rfl (dJ A_60 Z_60 (Ht rfl)) (fG aT rfl (by kernel_rfl) (zF (zF (zF (aJ (aJ (aV (ro rfl (aP jQ K_69 (tB (x:=if x = y then Qi.ofInt 1 else Qi.ofInt 0) (y:=gm S (gq (cF js) (iR x)) (gq (cF js) y)) (L:=1) (M:=L) zo) (Ht rfl) ⟨(Ht rfl),trivial⟩) ?_)))))))))
 refine gZ Z_60 (Ht rfl) (Ht rfl) rfl (i:=0) rfl (aK rfl) rfl rfl (eJ ?_)
 exact fK rfl (fY A_60 Z_60 rfl (i:=0) rfl rfl)
theorem a47 {z:List Qi} {S:List (List Qi)} {js:List (Int × Int)} {L:Nat} (hS:bT S z.length z.length) (hf:aS S L) (hfz:bR z L) (hL:1 ≤ L) (hLb:L ≤ 1000000) (hz:z.length ≤ 18) (hj:js.length ≤ 100) (hg:∀ k,2 * k < z.length → 6 * nP (L + 2) (2 * k) + 4 ≤ 17592186044415) (hx:∀ k,2 * k < z.length → zL (nP (L + 2) (2 * k)) (2 * k + 1) ≤ 100000000000):bI Tryz.prog 32 [dO z S,JsT js] (fE [dO (qX z S js) (vA z S js),aN .i64 (vX z S js)]):=by
 have hll:=pG js
 have hJl:=Ah js
 have hSl:=hS.1
 refine bI.intro Tryz.func32 rfl Tryz.ntmps32 rfl (fun cx=>(ts (rn rfl (fU (Ht rfl)) fun B2=>(rn rfl (eK (Ts:=[Is (.slice none 0 0),Is (.slice none 0 0)]) O_28 rfl (fun V=>aW zd (aW zd (aG)))) fun B4=>(ro rfl (cQ (cJ 0)) (eJ (ts (ro rfl (eG A_28 Z_28 (Ht rfl) (i:=0) rfl rfl rfl) (rm rfl (ro rfl (cZ Tryz.call120 (Xc (z:=z) (S:=S) (js:=js) (L:=L) hfz hL zo zo hj) ⟨(Ht rfl),(Ht rfl),trivial⟩) (rm rfl (ro rfl (dY (Ht rfl) rfl) ?_))))))))))))
 refine ro rfl (dY (Ht rfl) rfl) (rn rfl (eK (Ts:=[Is (.slice none 0 0)]) Tryz.zeroValue103 rfl (fun V=>aW zd (aG))) fun B6=>(oZ Z_103 (Ht rfl) (Ht rfl) (i:=2) rfl (aK rfl) rfl (ra rfl (eJ (cK (ts (rm rfl (ro rfl (iH (Ht rfl) cV) (eJ (dQ (Ht rfl) (fun hc=>?_) (fun hc=>?_)))))))))))
 ·have h3 : Ef z js ≠ 0 := by simpa using hc
  have he:vX z S js = Ef z js:=a65 h3
  refine ts (ro rfl (aM.imp (nA ) nG) (rm rfl (gZ Z_28 (Ht rfl) (Ht rfl) rfl (i:=1) rfl (aK rfl) rfl rfl (ra rfl (eJ (bM rfl (fJ (fY A_28 Z_28 rfl (i:=1) rfl rfl) ?_) (fJ (fQ rfl) ?_)))))))
  ·exact (fun v V h=>by rw [qX,vA,fF,fF,he,if_neg h3,if_neg h3]; exact h)
  ·exact (bE he.symm)
 ·have h3 : Ef z js = 0 := by simpa using hc
  obtain ⟨hd,hne⟩:=Hv h3
  have hok:jeL z js = nE js:=by rw [jeL,fF,if_pos h3]
  rw [hok]
  refine cU (cK (ts (ro rfl (fX A_103 Z_103 (Ht rfl) (i:=2) rfl rfl) (ro rfl (dU U_103 (Ht rfl) (by rw [List.length_map,hll])) ?_))))
  refine ro rfl (eH (Ht rfl) (cJ 0)) (eJ (dQ (Ht rfl) (fun hc2=>?_) (fun hc2=>?_)))
  ·have h4 : js.length = 0 := by simp only [decide_eq_true_eq] at hc2; omega
   have he:vX z S js = 0:=a29 h3 h4
   refine ts (ro rfl (eG A_28 Z_28 (Ht rfl) (i:=0) rfl rfl rfl) (gZ Z_28 (Ht rfl) (Ht rfl) rfl (i:=1) rfl (aK rfl) rfl rfl (ro rfl (cQ (cJ 0)) (eJ (bM rfl (fJ (fY A_28 Z_28 rfl (i:=1) rfl rfl) ?_) (fJ (fQ rfl) ?_))))))
   ·exact (fun v V h=>by rw [qX,vA,fF,fF,he,if_pos h4,if_pos h4]; exact h)
   ·exact (bE he.symm)
  ·have h4 : js.length ≠ 0 := by simp only [decide_eq_false_iff_not] at hc2; omega
   have hj:=zE hd
   have hjl:=Rd hd
   have hm1:2 * js.length < z.length:=by omega
   obtain ⟨m,hm⟩:∃ m,m = 2 * js.length:=⟨_,rfl⟩
   have hg2:=hg js.length hm1
   have hx2:=hx js.length hm1
   have hxn:=Nat.le_trans (xT (nP (L + 2) (2 * js.length)) (2 * js.length)) hx2
   have hlf:=Px (z:=z) (s:=S) (G:=jW js) zo zo
   rw [Zf] at hlf
   have hfl:(dT z js).length ≤ z.length:=uG _ _
   have hfx:∀ x,x ∈ dT z js → x < z.length:=fun x h=>yO h
   rw [Zo hd]
   refine cU (cK (gW (i:=0) (tt:=2) rfl rfl jH (gW (i:=2) (tt:=6) rfl rfl kQ (cY (ro rfl (lO (γ:=Fin (2 * js.length)) (Ts:=fun x=>[NT .i64 x.1]) (U:=fun x=>aL (S.getD (gq (cF js) (iR x.1)) [])) Tryz.call121 (fun x=>a1n hS hd x.2 zo zo) ⟨(Ht rfl),(Ht rfl),trivial⟩) (rn rfl (eK (Ts:=[Is (.nilFunc)]) Tryz.zeroValue182 rfl (fun V=>aW zd (aG))) fun B8=>(oZ Tryz.sizeOf182 (Ht rfl) (Ht rfl) (i:=3) rfl (aK rfl) rfl (eJ (cK (gW (i:=3) (tt:=8) rfl rfl kQ ?_))))))))))
   refine cY (ro rfl (dJ A_103 Z_103 (Ht rfl)) (ro rfl (dU U_103 (Ht rfl) (by rw [List.length_map,List.length_map,hJl])) ?_))
   refine ro rfl (lO (γ:=Fin (2 * js.length) × Fin (2 * js.length)) (Ts:=fun x=>[NT .i64 x.1.1,NT .i64 x.2.1]) (U:=fun x=>aE ((if x.1.1 = x.2.1 then Qi.ofInt 1 else Qi.ofInt 0) - gm S (gq (cF js) (iR x.1.1)) (gq (cF js) x.2.1))) Tryz.call122 (fun x=>a1o hS hf hL hLb hd x.1.2 x.2.2 zo zo) ⟨(Ht rfl),(Ht rfl),trivial⟩) (ro rfl (cZ K_110 (yC (n:=2 * js.length) (f:=fun x y=>(if x = y then Qi.ofInt 1 else Qi.ofInt 0) - gm S (gq (cF js) (iR x)) (gq (cF js) y)) zo) ⟨(Ht rfl),(Ht rfl),trivial⟩) (ra rfl (eJ (ts (ro rfl (dJ A_28 Z_28 (Ht rfl)) ?_)))))
   refine ro rfl (dJ A_103 Z_103 (Ht rfl)) (ro rfl (cZ Tryz.call124 hlf ⟨(Ht rfl),(Ht rfl),trivial⟩) (ra rfl (eJ (ts (ro rfl (dJ A_28 Z_28 (Ht rfl)) (rm rfl (jZ Tryz.call125 (Qa (Q:=dT z js) (m:=(dT z js).length) hS hfx rfl zo zo) ⟨(Ht rfl),(Ht rfl),trivial⟩ rfl (fun B47 _=>(rn rfl (eK (Ts:=[Is (.slice none 0 0),Is (.slice none 0 0)]) O_28 rfl (fun V=>aW zd (aW zd (aG)))) fun B11=>(gZ Z_28 (Ht rfl) (Ht rfl) rfl (i:=5) rfl (aK rfl) rfl rfl ?_))))))))))
   refine eJ (cK (ts (rm rfl (ro rfl (dU U_103 (Ht rfl) (by rw [List.length_map,List.length_map])) ?_))))
   refine ro rfl (cX (cJ 0)) (eJ (eU (bL [1,4,5] rfl (by decide) ?_)))
   refine cB (fun (j : Nat) => j ≤ (dT z js).length ∧ ∀ y, y < j → kY (oF S (cF js) (2 * js.length)) (zT S (cF js) (2 * js.length) ((dT z js).getD y 0)) (2 * js.length) = 0) (fun (j : Nat) => (dT z js).length - j) (fun (j : Nat) => [(2, PT (dO z S)), (4, bO B4 0), (6, PT (eT ((jW js).map Nat.succ))), (8, PT (xV Tryz.prog (Fin (2 * js.length)) (fun x => [NT .i64 x.1]) (fun x => aL (S.getD (gq (cF js) (iR x.1)) [])))), (9, bC (oF S (cF js) (2 * js.length))), (10, eT ((dT z js).map Nat.succ)), (11, bO B11 0), (48, eT ((dT z js).map Nat.succ)), (49, NT .i64 ((dT z js).length)), (50, NT .i64 j)]) (fun (j : Nat) => [box B4 28 [Is (.slice none 0 0), Is (.slice none 0 0)], oH B47 25 60 5 (bN aE (tab ((dT z js).length) fun i => (lX (fun y => zD S (cF js) (2 * js.length) (cO (dT z js) i) (cO (dT z js) y)) (fun y => gm S (cO (dT z js) i) (cO (dT z js) y)) (dT z js).length j))), box B11 28 [aL (mN z (dT z js)), Is (.slice (some ⟨B47, 0, none⟩) ((dT z js).length) ((dT z js).length))]]) 0 ⟨Nat.zero_le _, fun y h => by omega⟩
    (zS rfl) (aU (aB rfl) (aU (cA (congrArg (bN aE) (cR fun i _=>mS _ _ _))) (aU (aB rfl) aY))) (fun j ⟨hjq,h0⟩=>?_)
   refine ts (ro rfl (gJ (Ht rfl) (Ht rfl)) (eJ (cK (dQ (Ht rfl) (fun hd1=>?_) (fun hd1=>?_)))))
   ·have hjn : j < (dT z js).length := by simp only [decide_eq_true_eq] at hd1; omega
    have hFj:cO (dT z js) j < z.length:=Zp hjn
    have hbf:bR (zT S (cF js) (2 * js.length) ((dT z js).getD j 0)) L:=a25 hf hL
    refine cU (cK (eU (ts (rm rfl (ro rfl (dZ U_103 Z_3 (Ht rfl) (Ht rfl) rfl (eX (nL hjn))) (ro rfl (dJ A_3 Z_3 (Ht rfl)) (ra rfl (ra rfl (eJ (ts (ro rfl (dJ A_103 Z_103 (Ht rfl)) (ro rfl (dU U_103 (Ht rfl) (by rw [List.length_map,List.length_map,hJl])) ?_))))))))))))
    refine rn rfl (mT (T:=aE Qi.zero) (i:=Tryz.t60) jK iB rfl rfl (Ht rfl) rfl jF (El.ag rfl) (by show 88 * _ ≤ _; omega) zo) fun B57=>ra rfl (eJ (cK (ts (rm rfl (ro rfl (oA U_25 (Ht rfl) (i:=3) rfl (show ((List.replicate (2 * js.length) (aE Qi.zero)).length:Int) = ((2 * js.length:Nat):Int) from by simp)) (ro rfl (cX (cJ 0)) (eJ (eU ?_))))))))
    refine cB (fun (x : Nat) => x ≤ 2 * js.length) (fun (x : Nat) => 2 * js.length - x) (fun (x : Nat) => [(2, PT (dO z S)), (4, bO B4 0), (6, PT (eT ((jW js).map Nat.succ))), (8, PT (xV Tryz.prog (Fin (2 * js.length)) (fun x => [NT .i64 x.1]) (fun x => aL (S.getD (gq (cF js) (iR x.1)) [])))), (9, bC (oF S (cF js) (2 * js.length))), (10, eT ((dT z js).map Nat.succ)), (11, bO B11 0), (12, NT .i64 j), (13, NT .i64 (cO (dT z js) j + 1)), (14, Is B57), (48, eT ((dT z js).map Nat.succ)), (49, NT .i64 ((dT z js).length)), (50, NT .i64 j), (59, NT .i64 (2 * js.length)), (60, NT .i64 x)]) (fun (x : Nat) => [box B4 28 [Is (.slice none 0 0), Is (.slice none 0 0)], oH B47 25 60 5 (bN aE (tab ((dT z js).length) fun i => (lX (fun y => zD S (cF js) (2 * js.length) (cO (dT z js) i) (cO (dT z js) y)) (fun y => gm S (cO (dT z js) i) (cO (dT z js) y)) (dT z js).length j))), box B11 28 [aL (mN z (dT z js)), Is (.slice (some ⟨B47, 0, none⟩) ((dT z js).length) ((dT z js).length))], bF 60 5 B57 ((kR (fun x => gm S (gq (cF js) (iR x)) (cO (dT z js) j)) Qi.zero (2 * js.length) x).map aE)]) 0 (Nat.zero_le _)
     (zS rfl) (aU (aB rfl) (aU (fun _ _ _ h=>h) (aU (aB rfl) (aU (aO (by rw [← iO]; exact sM aE _)) aY)))) (fun x hx1=>?_)
    refine ts (ro rfl (gJ (Ht rfl) (Ht rfl)) (eJ (cK (dQ (Ht rfl) (fun hd2=>?_) (fun hd2=>?_)))))
    ·have hxm : x < 2 * js.length := by simp only [decide_eq_true_eq] at hd2; omega
     have hgx:=hj.lt (iR x) (mK hxm)
     have hSr:=hS.row hgx
     refine cU (cK (eU (ts (rm rfl (ra rfl (eJ (cY (rm rfl (rm rfl (ro rfl (dJ Tryz.isAgg182 Tryz.sizeOf182 (Ht rfl)) (rm rfl (ro rfl (nI (Ts:=fun x:Fin (2 * js.length)=>[NT .i64 x.1]) ⟨x,hxm⟩ (Ht rfl) ⟨(Ht rfl),trivial⟩) (rm rfl (ro rfl (aM.nat (dK (Ht rfl) (cJ 1) zo z6) (show cO (dT z js) j + 1 - 1 = cO (dT z js) j by omega)) (ro rfl (dZ U_25 Z_60 (Ht rfl) (Ht rfl) rfl (eX (eQ (d:=Qi.zero) (show cO (dT z js) j < (S.getD (gq (cF js) (iR x)) []).length by omega)))) ?_)))))))))))))))
     refine ro rfl (dJ A_60 Z_60 (Ht rfl)) (ro rfl (dM U_25 Z_60 (Ht rfl) (Ht rfl) rfl (i:=3) rfl (by rw [List.length_map,dD]; omega) rfl) ?_)
     refine mY Z_60 (Ht rfl) (Ht rfl) (El.ag rfl) (i:=3) rfl rfl (by rw [List.length_map,dD]; omega) rfl ?_
     refine eJ (bD (cY (ro rfl (dW (Ht rfl) (cJ 1) z6) (rm rfl (eJ (gQ (x + 1) hxm zo (zS rfl) (aU (aB rfl) (aU (fun _ _ _ h=>h) (aU (aB rfl) (aU (aO (by rw [iG]; exact congrArg _ (jI (f:=(fun x=>gm S (gq (cF js) (iR x)) (cO (dT z js) j)))))) aY))))))))))
    ·have hxm : x = 2 * js.length := by simp only [decide_eq_false_iff_not] at hd2; omega
     rw [hxm,jR]
     refine gG rfl (gW (i:=3) (tt:=14) rfl rfl gH (ts (rm rfl (rm rfl (ro rfl (cZ Tryz.call126 (Pu (M:=oF S (cF js) (2 * js.length)) (b:=zT S (cF js) (2 * js.length) ((dT z js).getD j 0)) (n:=2 * js.length) (L:=L + 2) (nZ _ _ _) (aC _ _) (Hx hf hL) (hbf.le zo) zo zo zo hg2 zo) ⟨(Ht rfl),(Ht rfl),trivial⟩) (rm rfl (ro rfl (dY (Ht rfl) rfl) (ro rfl (dY (Ht rfl) rfl) (ra rfl (ra rfl (eJ (cK (ts (rm rfl (ro rfl (iH (Ht rfl) cV) (eJ (dQ (Ht rfl) (fun hc3=>?_) (fun hc3=>?_))))))))))))))))))
     ·have h5 : kY (oF S (cF js) (2 * js.length)) (zT S (cF js) (2 * js.length) ((dT z js).getD j 0)) (2 * js.length) ≠ 0 := by simpa using hc3
      have h6:Nw z S js ≠ 0:=fun k=>h5 (gU k j hjn)
      have he:vX z S js = 6:=(Nu h3 h4).trans (if_neg h6)
      refine ts (ro rfl (aM.imp (nA ) nG) (gZ Z_28 (Ht rfl) (Ht rfl) rfl (i:=0) rfl (aK rfl) rfl rfl (ro rfl (cQ (cJ 6)) (eJ (bM rfl (fJ (fY A_28 Z_28 rfl (i:=0) rfl rfl) ?_) (fJ (fQ rfl) ?_))))))
      ·exact (fun v V h=>by rw [qX,vA,fF,fF,he]; exact h)
      ·exact (bE he.symm)
     ·have h5 : kY (oF S (cF js) (2 * js.length)) (zT S (cF js) (2 * js.length) ((dT z js).getD j 0)) (2 * js.length) = 0 := by simpa using hc3
      have hxf:=a39 (nZ S (cF js) (2 * js.length)) (Hx hf hL) (hbf.le zo) zo h5
      have hxl:(lP (oF S (cF js) (2 * js.length)) (zT S (cF js) (2 * js.length) ((dT z js).getD j 0)) (2 * js.length)).length = 2 * js.length:=xN _ _ _
      have hGe:L + 2 ≤ zL (nP (L + 2) (2 * js.length)) (2 * js.length):=Nat.le_trans (uC (L + 2) (2 * js.length)) (Jd _ _)
      obtain ⟨G,hG⟩:∃ G,G = zL (nP (L + 2) (2 * js.length)) (2 * js.length):=⟨_,rfl⟩
      rw [← hG] at hxf hGe hxn
      have hmG:2 * js.length * (2 * G + 2) ≤ 18 * (2 * G + 2):=Nat.mul_le_mul_right _ zo
      have hokx:fF (kY (oF S (cF js) (2 * js.length)) (zT S (cF js) (2 * js.length) ((dT z js).getD j 0)) (2 * js.length)) (lP (oF S (cF js) (2 * js.length)) (zT S (cF js) (2 * js.length) ((dT z js).getD j 0)) (2 * js.length)) = lP (oF S (cF js) (2 * js.length)) (zT S (cF js) (2 * js.length) ((dT z js).getD j 0)) (2 * js.length):=by rw [fF,if_pos h5]
      rw [hokx]
      refine cU (ts (rm rfl (ro rfl (dU U_103 (Ht rfl) (by rw [List.length_map,List.length_map])) ?_)))
      refine ro rfl (cX (cJ 0)) (eJ (eU (bL [0,1,2] rfl (by decide) ?_)))
      refine cB (fun (i : Nat) => i ≤ (dT z js).length) (fun (i : Nat) => (dT z js).length - i) (fun (i : Nat) => [(2, PT (dO z S)), (4, bO B4 0), (6, PT (eT ((jW js).map Nat.succ))), (8, PT (xV Tryz.prog (Fin (2 * js.length)) (fun x => [NT .i64 x.1]) (fun x => aL (S.getD (gq (cF js) (iR x.1)) [])))), (9, bC (oF S (cF js) (2 * js.length))), (10, eT ((dT z js).map Nat.succ)), (11, bO B11 0), (12, NT .i64 j), (16, aL (lP (oF S (cF js) (2 * js.length)) (zT S (cF js) (2 * js.length) ((dT z js).getD j 0)) (2 * js.length))), (48, eT ((dT z js).map Nat.succ)), (49, NT .i64 ((dT z js).length)), (50, NT .i64 j), (83, eT ((dT z js).map Nat.succ)), (84, NT .i64 ((dT z js).length)), (85, NT .i64 i)]) (fun (i : Nat) => [box B4 28 [Is (.slice none 0 0), Is (.slice none 0 0)], oH B47 25 60 5 (bN aE (lX (fun i => (lX (fun y => zD S (cF js) (2 * js.length) (cO (dT z js) i) (cO (dT z js) y)) (fun y => gm S (cO (dT z js) i) (cO (dT z js) y)) (dT z js).length (j + 1))) (fun i => (lX (fun y => zD S (cF js) (2 * js.length) (cO (dT z js) i) (cO (dT z js) y)) (fun y => gm S (cO (dT z js) i) (cO (dT z js) y)) (dT z js).length j)) ((dT z js).length) i)), box B11 28 [aL (mN z (dT z js)), Is (.slice (some ⟨B47, 0, none⟩) ((dT z js).length) ((dT z js).length))]]) 0 (Nat.zero_le _)
       (zS rfl) (aU (aB rfl) (aU (cA (congrArg (bN aE) (mS _ _ _))) (aU (aB rfl) aY))) (fun i hi=>?_)
      refine ts (ro rfl (gJ (Ht rfl) (Ht rfl)) (eJ (cK (dQ (Ht rfl) (fun hd4=>?_) (fun hd4=>?_)))))
      ·have hin : i < (dT z js).length := by simp only [decide_eq_true_eq] at hd4; omega
       have hFi:cO (dT z js) i < z.length:=Zp hin
       have hSr:=hS.row hFi
       refine cU (cK (eU (ts (rm rfl (ro rfl (dZ U_103 Z_3 (Ht rfl) (Ht rfl) rfl (eX (nL hin))) (ro rfl (dJ A_3 Z_3 (Ht rfl)) (ra rfl (ra rfl (eJ (ts (ro rfl (dJ A_103 Z_103 (Ht rfl)) (ro rfl (dU U_103 (Ht rfl) (by rw [List.length_map,List.length_map,hJl])) ?_))))))))))))
       refine rn rfl (mT (T:=aE Qi.zero) (i:=Tryz.t60) jK iB rfl rfl (Ht rfl) rfl jF (El.ag rfl) (by show 88 * _ ≤ _; omega) zo) fun B92=>ra rfl (eJ (cK (ts (ro rfl (dJ A_103 Z_103 (Ht rfl)) (ro rfl (dU U_103 (Ht rfl) (by rw [List.length_map,List.length_map,hJl])) ?_)))))
       refine ro rfl (cX (cJ 0)) (eJ (eU ?_))
       refine cB (fun (x : Nat) => x ≤ 2 * js.length) (fun (x : Nat) => 2 * js.length - x) (fun (x : Nat) => [(2, PT (dO z S)), (4, bO B4 0), (6, PT (eT ((jW js).map Nat.succ))), (8, PT (xV Tryz.prog (Fin (2 * js.length)) (fun x => [NT .i64 x.1]) (fun x => aL (S.getD (gq (cF js) (iR x.1)) [])))), (9, bC (oF S (cF js) (2 * js.length))), (10, eT ((dT z js).map Nat.succ)), (11, bO B11 0), (12, NT .i64 j), (16, aL (lP (oF S (cF js) (2 * js.length)) (zT S (cF js) (2 * js.length) ((dT z js).getD j 0)) (2 * js.length))), (18, NT .i64 i), (19, NT .i64 (cO (dT z js) i + 1)), (20, Is B92), (48, eT ((dT z js).map Nat.succ)), (49, NT .i64 ((dT z js).length)), (50, NT .i64 j), (83, eT ((dT z js).map Nat.succ)), (84, NT .i64 ((dT z js).length)), (85, NT .i64 i), (93, eT ((jW js).map Nat.succ)), (94, NT .i64 (2 * js.length)), (95, NT .i64 x)]) (fun (x : Nat) => [box B4 28 [Is (.slice none 0 0), Is (.slice none 0 0)], oH B47 25 60 5 (bN aE (lX (fun i => (lX (fun y => zD S (cF js) (2 * js.length) (cO (dT z js) i) (cO (dT z js) y)) (fun y => gm S (cO (dT z js) i) (cO (dT z js) y)) (dT z js).length (j + 1))) (fun i => (lX (fun y => zD S (cF js) (2 * js.length) (cO (dT z js) i) (cO (dT z js) y)) (fun y => gm S (cO (dT z js) i) (cO (dT z js) y)) (dT z js).length j)) ((dT z js).length) i)), box B11 28 [aL (mN z (dT z js)), Is (.slice (some ⟨B47, 0, none⟩) ((dT z js).length) ((dT z js).length))], bF 60 5 B92 ((kR (fun x => gm S (cO (dT z js) i) (gq (cF js) x)) Qi.zero (2 * js.length) x).map aE)]) 0 (Nat.zero_le _)
        (zS rfl) (aU (aB rfl) (aU (fun _ _ _ h=>h) (aU (aB rfl) (aU (aO (by rw [← iO]; exact sM aE _)) aY)))) (fun x hx1=>?_)
       refine ts (ro rfl (gJ (Ht rfl) (Ht rfl)) (eJ (cK (dQ (Ht rfl) (fun hd5=>?_) (fun hd5=>?_)))))
       ·have hxm : x < 2 * js.length := by simp only [decide_eq_true_eq] at hd5; omega
        have hat:cO (jW js) x = gq (cF js) x:=Hw hxm
        have hgx:=hj.lt x hxm
        refine cU (cK (eU (ts (rm rfl (ro rfl (dZ U_103 Z_3 (Ht rfl) (Ht rfl) rfl (eX (nL zo))) (ro rfl (dJ A_3 Z_3 (Ht rfl)) (ra rfl (ra rfl (eJ (cY (rm rfl (rm rfl (ro rfl (iC fC (Ht rfl) rfl) (ro rfl (dJ A_26 Z_26 (Ht rfl)) (rm rfl (ro rfl (aM.nat (dK (Ht rfl) (cJ 1) zo z6) (show cO (dT z js) i + 1 - 1 = cO (dT z js) i by omega)) (ro rfl (dZ U_26 Z_25 (Ht rfl) (Ht rfl) rfl (eX (eQ (d:=[]) (show cO (dT z js) i < S.length by omega)))) ?_)))))))))))))))))
        refine ro rfl (dJ A_25 Z_25 (Ht rfl)) (rm rfl (ro rfl (aM.nat (dK (Ht rfl) (cJ 1) zo z6) (show cO (jW js) x + 1 - 1 = gq (cF js) x by omega)) (ro rfl (dZ U_25 Z_60 (Ht rfl) (Ht rfl) rfl (eX (eQ (d:=Qi.zero) (show gq (cF js) x < (S.getD (cO (dT z js) i) []).length by omega)))) (ro rfl (dJ A_60 Z_60 (Ht rfl)) (ro rfl (dM U_25 Z_60 (Ht rfl) (Ht rfl) rfl (i:=3) rfl (by rw [List.length_map,dD]; omega) rfl) ?_)))))
        refine mY Z_60 (Ht rfl) (Ht rfl) (El.ag rfl) (i:=3) rfl rfl (by rw [List.length_map,dD]; omega) rfl ?_
        refine eJ (bD (cY (ro rfl (dW (Ht rfl) (cJ 1) z6) (rm rfl (eJ (gQ (x + 1) hxm zo (zS rfl) (aU (aB rfl) (aU (fun _ _ _ h=>h) (aU (aB rfl) (aU (aO (by rw [iG]; exact congrArg _ (jI (f:=(fun x=>gm S (cO (dT z js) i) (gq (cF js) x)))))) aY))))))))))
       ·have hxm : x = 2 * js.length := by simp only [decide_eq_false_iff_not] at hd5; omega
        rw [hxm,jR]
        refine gG rfl (gW (i:=3) (tt:=20) rfl rfl gH (bL [0,1,2] rfl (by decide) (qJ 1 (i) rfl (uA hin) (fun v0=>?_))))
        have hrl:=lI (fun y=>zD S (cF js) (2 * js.length) (cO (dT z js) i) (cO (dT z js) y)) (fun y=>gm S (cO (dT z js) i) (cO (dT z js) y)) ((dT z js).length) j
        have hrf:bR (tab (2 * js.length) (fun x=>gm S (cO (dT z js) i) (gq (cF js) x))) G:=bR.tab fun x _=>(hf.get hL _ _).le zo
        have hro : ((lX (fun y => zD S (cF js) (2 * js.length) (cO (dT z js) i) (cO (dT z js) y)) (fun y => gm S (cO (dT z js) i) (cO (dT z js) y)) (dT z js).length j)).set j (uT (gm S (cO (dT z js) i) (cO (dT z js) j)) (tab (2 * js.length) (fun x => gm S (cO (dT z js) i) (gq (cF js) x))) (lP (oF S (cF js) (2 * js.length)) (zT S (cF js) (2 * js.length) ((dT z js).getD j 0)) (2 * js.length)) (2 * js.length)) = (lX (fun y => zD S (cF js) (2 * js.length) (cO (dT z js) i) (cO (dT z js) y)) (fun y => gm S (cO (dT z js) i) (cO (dT z js) y)) (dT z js).length (j + 1)) := by
         rw [a4w]; exact oK (f:=fun y=>zD S (cF js) (2 * js.length) (cO (dT z js) i) (cO (dT z js) y))
        refine fV (m:=17) (dp 11 rfl (eW fC (Ht rfl) rfl) (dq 114 0 rfl (fX A_26 Z_26 (Ht rfl) (i:=2) rfl rfl) (dp 18 rfl (cX (Ht rfl)) (dP 115 1 116 2 rfl (gX U_26 Z_25 (Ht rfl) (Ht rfl) rfl zo (by rw [Nat.mul_one,Nat.zero_add])) ?_))))
        refine dq 117 3 rfl (jY A_25 Z_25 (Ht rfl) (j:=1) rfl) (dp 12 rfl (cX (Ht rfl)) (dp 11 rfl (eW fC (Ht rfl) rfl) (dq 120 6 rfl (fX A_26 Z_26 (Ht rfl) (i:=2) rfl rfl) (dp 18 rfl (cX (Ht rfl)) (dP 121 7 122 8 rfl (gX U_26 Z_25 (Ht rfl) (Ht rfl) rfl zo (by rw [Nat.mul_one,Nat.zero_add])) ?_)))))
        refine dq 123 9 rfl (jY A_25 Z_25 (Ht rfl) (j:=1) rfl) (dp 12 rfl (cX (Ht rfl)) (dP 124 10 125 11 rfl (dM U_25 Z_60 (Ht rfl) (Ht rfl) rfl (i:=3) rfl (by simp only [List.length_map,hrl]; omega) rfl) ?_))
        refine dq 126 12 rfl (oR A_60 Z_60 (Ht rfl) (i:=3) rfl rfl (eX (tQ hjn))) (dp 20 rfl (cX (Ht rfl)) (dp 16 rfl (cX (Ht rfl)) (C.D_step (Ei:=[(127,_),(128,_),(129,_)]) rfl rfl (bV (bG 13 rfl rfl) (bV (bG 14 rfl rfl) (bV (bG 15 rfl rfl) bW))) (dX rfl (cZ Tryz.call127 (a5N (x:=gm S (cO (dT z js) i) (cO (dT z js) j)) (l:=tab (2 * js.length) (fun x=>gm S (cO (dT z js) i) (gq (cF js) x))) (m:=lP (oF S (cF js) (2 * js.length)) (zT S (cF js) (2 * js.length) ((dT z js).getD j 0)) (2 * js.length)) (L:=G) (M:=L) (n:=2 * js.length) (hf.get hL _ _) hrf hxf zo (aC _ _) hxl zo zo) ⟨(Ht rfl),(Ht rfl),(Ht rfl),trivial⟩)) ?_)))
        refine fG aT rfl (by kernel_rfl) (zF (zF (zF (zF (aJ (aV (ro rfl (dM U_25 Z_60 (Ht rfl) (Ht rfl) rfl (i:=3) rfl (by simp only [List.length_map,hrl]; omega) rfl) ?_)))))))
        refine mY Z_60 (Ht rfl) (Ht rfl) (El.ag rfl) (i:=3) rfl rfl (by simp only [List.length_map,hrl]; omega) rfl ?_
        refine eJ (fR 1 3 rfl rfl (by decide) (by simp only [bN,List.length_map,lI]; omega) ?_)
        refine bD (cY (ro rfl (dW (Ht rfl) (cJ 1) z6) (rm rfl (eJ (bL [0,1,2] rfl (by decide) (gQ (i + 1) hin zo (zS rfl) (aU (aB rfl) (aU (cA (by rw [iG,hro,gS]; exact congrArg _ (oK (f:=fun i=>(lX (fun y=>zD S (cF js) (2 * js.length) (cO (dT z js) i) (cO (dT z js) y)) (fun y=>gm S (cO (dT z js) i) (cO (dT z js) y)) (dT z js).length (j + 1)))))) (aU (aB rfl) aY)))))))))
      ·have hin : i = (dT z js).length := by simp only [decide_eq_false_iff_not] at hd4; omega
       rw [hin,oJ]
       refine gG rfl (bD (cY (ro rfl (dW (Ht rfl) (cJ 1) z6) (rm rfl (eJ ?_)))))
       refine gQ (j + 1) ⟨hjn, fun y h => by
         by_cases e:y = j
         ·rw [e]; exact h5
         ·exact h0 y zo⟩ zo (zS rfl) (aU (aB rfl) (aU (fun _ _ _ h=>h) (aU (aB rfl) aY)))
   ·have hjn : j = (dT z js).length := by simp only [decide_eq_false_iff_not] at hd1; omega
    rw [hjn] at h0
    have h6:Nw z S js = 0:=iM h0
    have he:vX z S js = 0:=(Nu h3 h4).trans (if_pos h6)
    rw [hjn,show (tab ((dT z js).length) fun i=>(lX (fun y=>zD S (cF js) (2 * js.length) (cO (dT z js) i) (cO (dT z js) y)) (fun y=>gm S (cO (dT z js) i) (cO (dT z js) y)) (dT z js).length (dT z js).length)) = Hz z S js from cR fun i _=>oJ _ _ _]
    refine gG rfl (cK (Bb 2 1 1 rfl rfl rfl (by decide) (a5Y (q:=fun _=>True) (M:=Hz z S js) (aC _ _).symm) (cY (ro rfl (eG A_28 Z_28 (Ht rfl) (i:=2) rfl rfl rfl) (gZ Z_28 (Ht rfl) (Ht rfl) rfl (i:=0) rfl (aK rfl) rfl rfl (ro rfl (cQ (cJ 0)) (eJ (bM rfl (fJ (fY A_28 Z_28 rfl (i:=0) rfl rfl) ?_) (fJ (fQ rfl) ?_)))))))))
    ·exact (fun v V h=>by rw [qX,vA,fF,fF,he,if_neg h4,if_neg h4]; exact h)
    ·exact (bE he.symm)
end
section
open Go Go.RowKit
theorem a1s {z:List Qi} {s:List (List Qi)} {Q:List Nat} {m:Nat} (hs:bT s z.length z.length) (hQ:∀ x,x ∈ Q → x < z.length) (hm:Q.length = m) (hm2:m ≤ 1000) (hl:z.length ≤ 1000):gM Tryz.prog 125 [dO z s,eT (Q.map Nat.succ)] [] (Nat × Nat) (fun B=>fO [Is (.slice (some ⟨B.1,0,none⟩) m m),Is (.slice (some ⟨B.2,0,none⟩) m m)]) (fun B=>[bF 60 5 (.slice (some ⟨B.1,0,none⟩) m m) ((mN z Q).map aE),oH B.2 25 60 5 (bN aE (mX s Q))]) (fun _=>True):=by
 have hll:(Q.map Nat.succ).length = m:=by rw [List.length_map]; exact hm
 refine gM.intro Tryz.func125 rfl Tryz.ntmps125 rfl (fun cx Z=>(ts (rn rfl (fU (Ht rfl)) fun B2=>(rn rfl (Cn (Ht rfl)) fun B3=>(rn rfl (eK (Ts:=[Is (.slice none 0 0),Is (.slice none 0 0)]) O_28 rfl (fun V=>aW zd (aW zd (aG)))) fun B4=>(eJ (cK (gW (i:=1) (tt:=2) rfl rfl jH (gW (i:=2) (tt:=3) rfl rfl kQ (cY (ro rfl (dJ A_103 Z_103 (Ht rfl)) (ro rfl (dU U_103 (Ht rfl) (by rw [List.length_map,hll])) ?_))))))))))))
 refine rn rfl (Un (T:=aE Qi.zero) (i:=Tryz.t60) jK iB rfl rfl (Ht rfl) rfl jF (El.ag rfl) (by show 88 * _ ≤ _; omega) zo) fun B10=>ra rfl (eJ (cK (ts (ro rfl (dJ A_103 Z_103 (Ht rfl)) (ro rfl (dU U_103 (Ht rfl) (by rw [List.length_map,hll])) ?_)))))
 refine ro rfl (cX (cJ 0)) (eJ (eU (bL [0,3,4] rfl (by decide) ?_)))
 refine cB (fun (i : Nat) => i ≤ m) (fun (i : Nat) => m - i) (fun (i : Nat) => [(2, PT (dO z s)), (3, PT (eT (Q.map Nat.succ))), (4, bO B4 0), (5, Is (.slice (some ⟨B10, 0, none⟩) m m)), (11, eT (Q.map Nat.succ)), (12, NT .i64 m), (13, NT .i64 i)]) (fun (i : Nat) => [Z, box B4 28 [Is (.slice none 0 0), Is (.slice none 0 0)], bF 60 5 (.slice (some ⟨B10, 0, none⟩) m m) ((kR (fun i => gv z (cO Q i)) Qi.zero m i).map aE)]) 0 (Nat.zero_le _)
  (zS rfl) (aU (fun _ _ _ h=>h) (aU (fun _ _ _ h=>h) (aU (aO (by rw [← iO]; exact sM aE m)) aY))) (fun i hi=>?_)
 refine ts (ro rfl (gJ (Ht rfl) (Ht rfl)) (eJ (cK (dQ (Ht rfl) (fun hd=>?_) (fun hd=>?_)))))
 ·simp only [decide_eq_true_eq] at hd
  have hki:cO Q i < z.length:=nU hQ zo
  refine cU (cK (eU (ts (rm rfl (ro rfl (dZ U_103 Z_3 (Ht rfl) (Ht rfl) rfl (eX (nL zo))) (ro rfl (dJ A_3 Z_3 (Ht rfl)) (ra rfl (ra rfl (eJ (cY (rm rfl (rm rfl (ro rfl (iC eE (Ht rfl) rfl) (ro rfl (dJ A_25 Z_25 (Ht rfl)) (rm rfl (ro rfl (aM.nat (dK (Ht rfl) (cJ 1) zo z6) (show cO Q i + 1 - 1 = cO Q i by omega)) (ro rfl (dZ U_25 Z_60 (Ht rfl) (Ht rfl) rfl (eX (eQ (d:=Qi.zero) hki))) ?_)))))))))))))))))
  refine ro rfl (dJ A_60 Z_60 (Ht rfl)) (ro rfl (dM U_25 Z_60 (Ht rfl) (Ht rfl) rfl (i:=2) rfl (by rw [List.length_map,dD]; omega) rfl) ?_)
  refine mY Z_60 (Ht rfl) (Ht rfl) (El.ag rfl) (i:=2) rfl rfl (by rw [List.length_map,dD]; omega) rfl ?_
  refine eJ (bD (cY (ro rfl (dW (Ht rfl) (cJ 1) z6) (rm rfl (eJ (gQ (i + 1) hd zo (zS rfl) (aU (fun _ _ _ h=>h) (aU (fun _ _ _ h=>h) (aU (aO (by rw [iG,← jI (f:=(fun i=>gv z (cO Q i)))])) aY)))))))))
 ·simp only [decide_eq_false_iff_not] at hd
  obtain rfl:m = i:=Nat.le_antisymm zo hi
  rw [jR]
  rw [show mN z Q = tab m fun i=>gv z (cO Q i) from by rw [mN,hm],show mX s Q = tab m fun i=>tab m fun j=>gm s (cO Q i) (cO Q j) from by rw [mX,hm]]
  refine gG rfl (ts (rm rfl (ro rfl (dJ A_103 Z_103 (Ht rfl)) (ro rfl (dU U_103 (Ht rfl) (by rw [List.length_map,hll])) ?_))))
  refine ro rfl (lO (γ:=Fin m × Fin m) (Ts:=fun x=>[NT .i64 x.1.1,NT .i64 x.2.1]) (U:=fun x=>aE (gm s (cO Q x.1.1) (cO Q x.2.1))) Tryz.call220 (fun x=>Pz hs hQ hm hm2 hl x.1.2 x.2.2) ⟨(Ht rfl),(Ht rfl),trivial⟩) (jZ K_110 (Gr (n:=m) (f:=fun i j=>gm s (cO Q i) (cO Q j)) zo) ⟨(Ht rfl),(Ht rfl),trivial⟩ rfl (fun B32 _=>(ro rfl (pV (Ht rfl) (Ht rfl)) (gZ Z_28 (Ht rfl) (Ht rfl) rfl (i:=1) rfl (aK rfl) rfl rfl (eJ ?_)))))
  exact jC (B10,B32) trivial [0,2,3] ⟨⟨_,rfl,fun _ _ _ h=>h⟩,⟨_,rfl,fun _ _ _ h=>h⟩,⟨_,rfl,fun _ _ _ h=>h⟩,trivial⟩ (by decide) (sK rfl (fY A_28 Z_28 rfl (i:=1) rfl rfl))
end
section
open Go Go.RowKit
theorem a1q {z : List Qi} {s : List (List Qi)} (hl : z.length ≤ 1000) : bI Tryz.prog 124 [dO z s, Is (.slice none 0 0)] (eT ((gY [] z.length).map Nat.succ)) :=
 (Px (z := z) (s := s) (G := []) hl (by simp)).arg fun vs V h => match vs, h with
  | [_,b],⟨h1,h2,_⟩=>⟨h1,jT b V h2,trivial⟩
end
section
open Go Go.RowKit
abbrev nb (x:Qi):List Ty:=[aI (decide (x.a < 0)),bB x.a.natAbs,aI (decide (x.b < 0)),bB x.b.natAbs,bB (du x)]
abbrev nbZ:List Ty:=[Is (.bool false),Is (.slice none 0 0),Is (.bool false),Is (.slice none 0 0),Is (.slice none 0 0)]
def fxC (f : List (List Qi)) : Nat → List Ty
 | 0=>nbZ ++ nbZ ++ (nbZ ++ nbZ)
 | 1=>nb (gm f 0 0) ++ nb (gm f 0 1) ++ (nbZ ++ nbZ)
 | _=>nb (gm f 0 0) ++ nb (gm f 0 1) ++ (nb (gm f 1 0) ++ nb (gm f 1 1))
theorem a1V (f : List (List Qi)) : ∀ i, (fxC f i).length = 20
 | 0=>rfl
 | 1=>rfl
 | _ + 2=>rfl
theorem Za (f : List (List Qi)) : ∀ {i : Nat}, i < 2 → (fxC f i).take (0 + i * 10) ++ (nb (gm f i 0) ++ nb (gm f i 1)) ++ (fxC f i).drop (0 + i * 10 + 10) = fxC f (i + 1)
 | 0,_=>rfl
 | 1,_=>rfl
theorem a6G {f:List (List Qi)} (h:bT f 2 2) {i:Nat} (hi:i < 2):(f.getD i []).map aE = [aE (gm f i 0),aE (gm f i 1)]:=by
 have hl:=h.row hi
 show (f.getD i []).map aE = [aE (gv (f.getD i []) 0),aE (gv (f.getD i []) 1)]
 generalize f.getD i [] = l at hl
 match l,hl with
 | [a,b],_=>rfl
theorem a6B {z fz:List Qi} {port:Int} {x:Nat} (h:fz.length ≠ 2):Ae z fz port x = 4:=if_pos h
theorem a6A {z fz:List Qi} {port:Int} {x:Nat} (h:fz.length = 2) (h2:¬ (1 ≤ port ∧ port ≤ (z.length:Int))):Ae z fz port x = 1:=by rw [Ae,if_neg (fun k=>k h),if_pos h2]
theorem a6C {z fz:List Qi} {port:Int} {x:Nat} (h:fz.length = 2) (h2:1 ≤ port ∧ port ≤ (z.length:Int)):Ae z fz port x = if gv fz (x - 1) = gv z (port - 1).toNat then 0 else 40:=by rw [Ae,if_neg (fun k=>k h),if_neg (fun k=>k h2)]
theorem Nf {fz:List Qi} {f:List (List Qi)} (h2:fz.length = 2) (hf:bT f 2 2):bI Tryz.prog 225 [dO fz f] (fE [fO (fxC f 2),aN .i64 0]):=by
 have hfl:=hf.1
 refine bI.intro Tryz.func225 rfl Tryz.ntmps225 rfl (fun cx=>(ts (rn rfl (fU (Ht rfl)) fun B1=>(rn rfl (eK (Ts:=[Is (.bool false),Is (.slice none 0 0),Is (.bool false),Is (.slice none 0 0),Is (.slice none 0 0),Is (.bool false),Is (.slice none 0 0),Is (.bool false),Is (.slice none 0 0),Is (.slice none 0 0),Is (.bool false),Is (.slice none 0 0),Is (.bool false),Is (.slice none 0 0),Is (.slice none 0 0),Is (.bool false),Is (.slice none 0 0),Is (.bool false),Is (.slice none 0 0),Is (.slice none 0 0)]) O_191 rfl (fun V=>aW zd (aW zd (aW zd (aW zd (aW zd (aW zd (aW zd (aW zd (aW zd (aW zd (aW zd (aW zd (aW zd (aW zd (aW zd (aW zd (aW zd (aW zd (aW zd (aW zd (aG)))))))))))))))))))))) fun B2=>?_))))
 refine ro rfl (cQ (cJ 0)) (eJ (ts (rn rfl (eK (Ts:=[Is (.bool false),Is (.slice none 0 0),Is (.bool false),Is (.slice none 0 0),Is (.slice none 0 0),Is (.bool false),Is (.slice none 0 0),Is (.bool false),Is (.slice none 0 0),Is (.slice none 0 0),Is (.bool false),Is (.slice none 0 0),Is (.bool false),Is (.slice none 0 0),Is (.slice none 0 0),Is (.bool false),Is (.slice none 0 0),Is (.bool false),Is (.slice none 0 0),Is (.slice none 0 0)]) O_191 rfl (fun V=>aW zd (aW zd (aW zd (aW zd (aW zd (aW zd (aW zd (aW zd (aW zd (aW zd (aW zd (aW zd (aW zd (aW zd (aW zd (aW zd (aW zd (aW zd (aW zd (aW zd (aG)))))))))))))))))))))) fun B4=>?_)))
 refine eJ (cK (ts (ro rfl (eW eE (Ht rfl) rfl) (ro rfl (fX A_25 Z_25 (Ht rfl) (i:=0) rfl rfl) (ro rfl (dU U_25 (Ht rfl) aD) (ro rfl (kM (Ht rfl) (cJ 2)) (eJ (kA (Ht rfl) (by simp [h2]) ?_))))))))
 refine cU (cK (ts (ro rfl (cX (cJ 0)) (eJ (eU ?_)))))
 refine cB (fun (i : Nat) => i ≤ 2) (fun (i : Nat) => 2 - i) (fun (i : Nat) => [(1, bO B1 0), (2, bO B2 0), (4, bO B4 0), (11, NT .i64 i)]) (fun (i : Nat) => [box B1 28 [aL fz, bC f], box B2 191 (nbZ ++ nbZ ++ (nbZ ++ nbZ)), box B4 191 (fxC f i)]) 0 (Nat.zero_le _)
  (zS rfl) (aU (aB rfl) (aU (aB rfl) (aU (aB rfl) aY))) (fun i hi=>?_)
 refine ts (ro rfl (gJ (Ht rfl) (cJ 2)) (eJ (cK (dQ (Ht rfl) (fun hd=>?_) (fun hd=>?_)))))
 ·have hi2 : i < 2 := by simp only [decide_eq_true_eq] at hd; omega
  have hxl:=a1V f i
  refine cU (cK (eU (ts (rm rfl (ra rfl (eJ (cY (rm rfl (ro rfl (eW fC (Ht rfl) rfl) (ro rfl (fX A_26 Z_26 (Ht rfl) (i:=0) rfl rfl) (rm rfl (ro rfl (dZ U_26 Z_25 (Ht rfl) (Ht rfl) rfl (eX (eQ (d:=[]) zo))) (ro rfl (dJ A_25 Z_25 (Ht rfl)) (ro rfl (a2C U_190 (bH.to (Ht rfl) (mM (a6G hf hi2))) rfl) (ro rfl (dJ Tryz.isAgg190 Z_190 (Ht rfl)) (ro rfl (gP U_191 Z_190 (Ht rfl) (Ht rfl) rfl zo rfl) ?_))))))))))))))))
  refine gZ Z_190 (Ht rfl) (Ht rfl) rfl (i:=2) rfl (by rw [hxl]; omega) rfl rfl ?_
  refine eJ (bD (cY (ro rfl (dW (Ht rfl) (cJ 1) z6) (rm rfl (eJ (gQ (i + 1) hi2 zo (zS rfl) (aU (aB rfl) (aU (aB rfl) (aU (aB (Za f hi2)) aY)))))))))
 ·obtain rfl : i = 2 := by simp only [decide_eq_false_iff_not] at hd; omega
  refine gG rfl (ts (ro rfl (eG A_191 Z_191 (Ht rfl) (i:=2) rfl rfl rfl) (gZ Z_191 (Ht rfl) (Ht rfl) rfl (i:=1) rfl (aK rfl) rfl rfl (ro rfl (cQ (cJ 0)) (eJ ?_)))))
  exact bM rfl (fY A_191 Z_191 rfl (i:=1) rfl rfl) (fQ rfl)
theorem Nd {fz:List Qi} {f:List (List Qi)} (h2:fz.length ≠ 2):bI Tryz.prog 225 [dO fz f] (fE [fO (fxC [] 0),aN .i64 4]):=by
 refine bI.intro Tryz.func225 rfl Tryz.ntmps225 rfl (fun cx=>(ts (rn rfl (fU (Ht rfl)) fun B1=>(rn rfl (eK (Ts:=[Is (.bool false),Is (.slice none 0 0),Is (.bool false),Is (.slice none 0 0),Is (.slice none 0 0),Is (.bool false),Is (.slice none 0 0),Is (.bool false),Is (.slice none 0 0),Is (.slice none 0 0),Is (.bool false),Is (.slice none 0 0),Is (.bool false),Is (.slice none 0 0),Is (.slice none 0 0),Is (.bool false),Is (.slice none 0 0),Is (.bool false),Is (.slice none 0 0),Is (.slice none 0 0)]) O_191 rfl (fun V=>aW zd (aW zd (aW zd (aW zd (aW zd (aW zd (aW zd (aW zd (aW zd (aW zd (aW zd (aW zd (aW zd (aW zd (aW zd (aW zd (aW zd (aW zd (aW zd (aW zd (aG)))))))))))))))))))))) fun B2=>?_))))
 refine ro rfl (cQ (cJ 0)) (eJ (ts (rn rfl (eK (Ts:=[Is (.bool false),Is (.slice none 0 0),Is (.bool false),Is (.slice none 0 0),Is (.slice none 0 0),Is (.bool false),Is (.slice none 0 0),Is (.bool false),Is (.slice none 0 0),Is (.slice none 0 0),Is (.bool false),Is (.slice none 0 0),Is (.bool false),Is (.slice none 0 0),Is (.slice none 0 0),Is (.bool false),Is (.slice none 0 0),Is (.bool false),Is (.slice none 0 0),Is (.slice none 0 0)]) O_191 rfl (fun V=>aW zd (aW zd (aW zd (aW zd (aW zd (aW zd (aW zd (aW zd (aW zd (aW zd (aW zd (aW zd (aW zd (aW zd (aW zd (aW zd (aW zd (aW zd (aW zd (aW zd (aG)))))))))))))))))))))) fun B4=>?_)))
 refine eJ (cK (ts (ro rfl (eW eE (Ht rfl) rfl) (ro rfl (fX A_25 Z_25 (Ht rfl) (i:=0) rfl rfl) (ro rfl (dU U_25 (Ht rfl) aD) (ro rfl (kM (Ht rfl) (cJ 2)) (eJ (rS (Ht rfl) (by simp; omega) ?_))))))))
 refine ts (ro rfl (eG A_191 Z_191 (Ht rfl) (i:=2) rfl rfl rfl) (gZ Z_191 (Ht rfl) (Ht rfl) rfl (i:=1) rfl (aK rfl) rfl rfl (ro rfl (cQ (cJ 4)) (eJ ?_))))
 exact bM rfl (fY A_191 Z_191 rfl (i:=1) rfl rfl) (fQ rfl)
theorem Ti {z fz:List Qi} {s f:List (List Qi)} {port:Int} {x L:Nat} (h2:fz.length = 2) (hf:bT f 2 2) (hx:x = 1 ∨ x = 2) (hfz:bR z L) (hff:bR fz L) (hL:1 ≤ L) (hLb:L ≤ 1000000) (hl:z.length ≤ 1000):bI Tryz.prog 133 [dO z s,aN .i64 port,dO fz f,NT .i64 x] (fE [fO (fxC f 2),aN .i64 (Ae z fz port x)]):=by
 refine bI.intro Tryz.func133 rfl Tryz.ntmps133 rfl (fun cx=>(ts (rn rfl (fU (Ht rfl)) fun B4=>(rn rfl (fU (Ht rfl)) fun B6=>(rn rfl (eK (Ts:=[Is (.bool false),Is (.slice none 0 0),Is (.bool false),Is (.slice none 0 0),Is (.slice none 0 0),Is (.bool false),Is (.slice none 0 0),Is (.bool false),Is (.slice none 0 0),Is (.slice none 0 0),Is (.bool false),Is (.slice none 0 0),Is (.bool false),Is (.slice none 0 0),Is (.slice none 0 0),Is (.bool false),Is (.slice none 0 0),Is (.bool false),Is (.slice none 0 0),Is (.slice none 0 0)]) O_191 rfl (fun V=>aW zd (aW zd (aW zd (aW zd (aW zd (aW zd (aW zd (aW zd (aW zd (aW zd (aW zd (aW zd (aW zd (aW zd (aW zd (aW zd (aW zd (aW zd (aW zd (aW zd (aG)))))))))))))))))))))) fun B8=>?_)))))
 refine ro rfl (cQ (cJ 0)) (eJ (ts (ro rfl (eG A_28 Z_28 (Ht rfl) (i:=1) rfl rfl rfl) (ro rfl (cZ Tryz.call225 (Nf h2 hf) ⟨(Ht rfl),trivial⟩) (rm rfl (ro rfl (dY (Ht rfl) rfl) (ro rfl (dY (Ht rfl) rfl) (rn rfl (eK (Ts:=[Is (.bool false),Is (.slice none 0 0),Is (.bool false),Is (.slice none 0 0),Is (.slice none 0 0),Is (.bool false),Is (.slice none 0 0),Is (.bool false),Is (.slice none 0 0),Is (.slice none 0 0),Is (.bool false),Is (.slice none 0 0),Is (.bool false),Is (.slice none 0 0),Is (.slice none 0 0),Is (.bool false),Is (.slice none 0 0),Is (.bool false),Is (.slice none 0 0),Is (.slice none 0 0)]) O_191 rfl (fun V=>aW zd (aW zd (aW zd (aW zd (aW zd (aW zd (aW zd (aW zd (aW zd (aW zd (aW zd (aW zd (aW zd (aW zd (aW zd (aW zd (aW zd (aW zd (aW zd (aW zd (aG)))))))))))))))))))))) fun B10=>?_))))))))
 refine gZ Z_191 (Ht rfl) (Ht rfl) rfl (i:=3) rfl (aK rfl) rfl rfl (ra rfl (eJ (cK (eU (ts (rm rfl (ro rfl (iH (Ht rfl) cV) (ra rfl (eJ (kA (Ht rfl) (by rfl) ?_))))))))))
 refine ts (ro rfl (eG A_28 Z_28 (Ht rfl) (i:=0) rfl rfl rfl) (rm rfl (ro rfl (cZ Tryz.call138 Jq ⟨(Ht rfl),(Ht rfl),trivial⟩) (ro rfl (fH (Ht rfl)) (ra rfl (eJ (dQ (Ht rfl) (fun hb=>?_) (fun hb=>?_))))))))
 ·have he := a6A (x := x) h2 (by simpa only [Bool.not_eq_true', decide_eq_false_iff_not] using hb : ¬ (1 ≤ port ∧ port ≤ (z.length : Int)))
  refine ts (ro rfl (eG A_191 Z_191 (Ht rfl) (i:=3) rfl rfl rfl) (gZ Z_191 (Ht rfl) (Ht rfl) rfl (i:=2) rfl (aK rfl) rfl rfl (ro rfl (cQ (cJ 1)) (eJ (bM rfl (fY A_191 Z_191 rfl (i:=2) rfl rfl) (fJ (fQ rfl) ?_))))))
  exact (bE he.symm)
 ·have hb2 : 1 ≤ port ∧ port ≤ (z.length : Int) := by simpa using hb
  have hd:=a6C (x:=x) h2 hb2
  haveI g1:aH (gv fz (x - 1)) L:=hff.get hL _
  haveI g2:aH (gv z (port - 1).toNat) L:=hfz.get hL _
  refine cK (fV (m:=12) (dp 6 rfl (eW eE (Ht rfl) rfl) (dq 29 0 rfl (fX A_25 Z_25 (Ht rfl) (i:=1) rfl rfl) (dp 3 rfl (cX (Ht rfl)) (dq 31 2 rfl (dK (Ht rfl) (cJ 1) zo z6) (dP 30 1 32 3 rfl (dZ U_25 Z_60 (Ht rfl) (Ht rfl) rfl (eX (eQ (d:=Qi.zero) zo))) (dq 33 4 rfl (dJ A_60 Z_60 (Ht rfl)) (dp 4 rfl (eW eE (Ht rfl) rfl) (dq 35 6 rfl (fX A_25 Z_25 (Ht rfl) (i:=0) rfl rfl) ?_)))))))))
  refine dp 1 rfl (cX (Ht rfl)) (dq 37 8 rfl (jJ (Ht rfl) cV (r:=(((port - 1).toNat:Nat):Int)) ((Ew (z:=port - 1) zo).trans zo)) ?_)
  refine dP 36 7 38 9 rfl (dZ U_25 Z_60 (Ht rfl) (Ht rfl) rfl (eX (eQ (d:=Qi.zero) zo))) (dq 39 10 rfl (dJ A_60 Z_60 (Ht rfl)) (fG aT rfl (by kernel_rfl) (zF (zF (zF (aV (ro rfl (cZ K_100 (yA (x:=gv fz (x - 1)) (y:=gv z (port - 1).toNat) (L:=L) (M:=L) zo zo) ⟨(Ht rfl),(Ht rfl),trivial⟩) (ro rfl (fH (Ht rfl)) (ra rfl (eJ (dQ (Ht rfl) (fun hc=>?_) (fun hc=>?_))))))))))))
  ·have he : Ae z fz port x = 40 := by rw [hd, if_neg (by simpa using hc)]
   refine ts (ro rfl (eG A_191 Z_191 (Ht rfl) (i:=3) rfl rfl rfl) (gZ Z_191 (Ht rfl) (Ht rfl) rfl (i:=2) rfl (aK rfl) rfl rfl (ro rfl (cQ (cJ 40)) (eJ (bM rfl (fY A_191 Z_191 rfl (i:=2) rfl rfl) (fJ (fQ rfl) ?_))))))
   exact (bE he.symm)
  ·have he : Ae z fz port x = 0 := by rw [hd, if_pos (by simpa using hc)]
   refine cU (bD (ts (ro rfl (eG A_191 Z_191 (Ht rfl) (i:=3) rfl rfl rfl) (gZ Z_191 (Ht rfl) (Ht rfl) rfl (i:=2) rfl (aK rfl) rfl rfl (ro rfl (cQ (cJ 0)) (eJ (bM rfl (fY A_191 Z_191 rfl (i:=2) rfl rfl) (fJ (fQ rfl) ?_))))))))
   exact (bE he.symm)
theorem Th {z fz:List Qi} {s f:List (List Qi)} {port:Int} {x:Nat} (h2:fz.length ≠ 2):bI Tryz.prog 133 [dO z s,aN .i64 port,dO fz f,NT .i64 x] (fE [fO (fxC [] 0),aN .i64 4]):=by
 refine bI.intro Tryz.func133 rfl Tryz.ntmps133 rfl (fun cx=>(ts (rn rfl (fU (Ht rfl)) fun B4=>(rn rfl (fU (Ht rfl)) fun B6=>(rn rfl (eK (Ts:=[Is (.bool false),Is (.slice none 0 0),Is (.bool false),Is (.slice none 0 0),Is (.slice none 0 0),Is (.bool false),Is (.slice none 0 0),Is (.bool false),Is (.slice none 0 0),Is (.slice none 0 0),Is (.bool false),Is (.slice none 0 0),Is (.bool false),Is (.slice none 0 0),Is (.slice none 0 0),Is (.bool false),Is (.slice none 0 0),Is (.bool false),Is (.slice none 0 0),Is (.slice none 0 0)]) O_191 rfl (fun V=>aW zd (aW zd (aW zd (aW zd (aW zd (aW zd (aW zd (aW zd (aW zd (aW zd (aW zd (aW zd (aW zd (aW zd (aW zd (aW zd (aW zd (aW zd (aW zd (aW zd (aG)))))))))))))))))))))) fun B8=>?_)))))
 refine ro rfl (cQ (cJ 0)) (eJ (ts (ro rfl (eG A_28 Z_28 (Ht rfl) (i:=1) rfl rfl rfl) (ro rfl (cZ Tryz.call225 (Nd h2) ⟨(Ht rfl),trivial⟩) (rm rfl (ro rfl (dY (Ht rfl) rfl) (ro rfl (dY (Ht rfl) rfl) (rn rfl (eK (Ts:=[Is (.bool false),Is (.slice none 0 0),Is (.bool false),Is (.slice none 0 0),Is (.slice none 0 0),Is (.bool false),Is (.slice none 0 0),Is (.bool false),Is (.slice none 0 0),Is (.slice none 0 0),Is (.bool false),Is (.slice none 0 0),Is (.bool false),Is (.slice none 0 0),Is (.slice none 0 0),Is (.bool false),Is (.slice none 0 0),Is (.bool false),Is (.slice none 0 0),Is (.slice none 0 0)]) O_191 rfl (fun V=>aW zd (aW zd (aW zd (aW zd (aW zd (aW zd (aW zd (aW zd (aW zd (aW zd (aW zd (aW zd (aW zd (aW zd (aW zd (aW zd (aW zd (aW zd (aW zd (aW zd (aG)))))))))))))))))))))) fun B10=>?_))))))))
 refine gZ Z_191 (Ht rfl) (Ht rfl) rfl (i:=3) rfl (aK rfl) rfl rfl (ra rfl (eJ (cK (eU (ts (rm rfl (ro rfl (iH (Ht rfl) cV) (ra rfl (eJ (rS (Ht rfl) (by rfl) ?_))))))))))
 refine ts (ro rfl (eG A_191 Z_191 (Ht rfl) (i:=3) rfl rfl rfl) (rm rfl (gZ Z_191 (Ht rfl) (Ht rfl) rfl (i:=2) rfl (aK rfl) rfl rfl (ra rfl (eJ ?_)))))
 exact bM rfl (fY A_191 Z_191 rfl (i:=2) rfl rfl) (fQ rfl)
theorem Tk {z:List Qi} {s:List (List Qi)} {p:Nat} {e:Qi} {L M:Nat} (hs:bT s z.length z.length) (hp:p < z.length) (hz:z.length ≤ 1000) (hf:aS s L) (he2:aH e M) (hL:1 ≤ L) (hLb:L + 3 * M + 2 ≤ 1000000) (he:e = Qi.zero):bI Tryz.prog 134 [dO z s,NT .i64 p,aE e] (fE [aL [],aL [],aN .i64 6]):=by
 have hsl:=hs.1
 have hspr:=hs.row hp
 haveI:=he2
 refine bI.intro Tryz.func134 rfl Tryz.ntmps134 rfl (fun cx=>(ts (rn rfl (fU (Ht rfl)) fun B3=>(rn rfl (fU (Ht rfl)) fun B5=>(ro rfl (cQ cV) (ro rfl (cQ cV) (ro rfl (cQ (cJ 0)) (eJ (cK (cK (pU 60 5 (pU 60 5 (cY (ro rfl (eW fC (Ht rfl) rfl) (ro rfl (fX A_26 Z_26 (Ht rfl) (i:=0) rfl rfl) (ro rfl (dU U_26 (Ht rfl) (by rw [List.length_map,hsl])) ?_))))))))))))))))
 refine ro rfl (cX (cJ 0)) (eJ (eU ?_))
 refine nY (fun (i : Nat) (vU : Value) (vV : Value) => i = 0) (fun (i : Nat) (vU : Value) (vV : Value) => z.length - i) (fun (i : Nat) (vU : Value) (vV : Value) => [(1, NT .i64 p), (3, bO B3 0), (5, bO B5 0), (6, Is vU), (7, Is vV), (8, NT .i64 0), (16, NT .i64 z.length), (17, NT .i64 i)]) (fun (i : Nat) (vU : Value) (vV : Value) => [box B3 28 [aL z, bC s], box B5 60 (nb e), bF 60 5 vU ((tab i (fun i => gm s i p / e)).map aE), bF 60 5 vV ((tab i (fun i => gm s p i / e)).map aE)]) 0 _ _ rfl
  (zS rfl) (aU (aB rfl) (aU (aB rfl) (aU (aO rfl) (aU (aO rfl) aY)))) (fun i vU vV hi=>?_)
 refine ts (ro rfl (gJ (Ht rfl) (Ht rfl)) (eJ (cK (dQ (Ht rfl) (fun hd=>?_) (fun hd=>?_)))))
 ·have hin : i < z.length := by simp only [decide_eq_true_eq] at hd; omega
  have hsr:=hs.row hin
  haveI g1:aH (gm s i p) L:=hf.get hL _ _
  haveI g2:aH (gm s p i) L:=hf.get hL _ _
  refine cU (cK (eU (ts (rm rfl (ra rfl (eJ (cK (Y.D_start (m:=16) [] (bY (Ei:=[(3,_)]) rfl rfl (bQ (bJ rfl rfl) bX) rfl rfl (dX rfl (eW fC (Ht rfl) rfl)) (bY (Ei:=[(21,_)]) rfl rfl (bQ (bZ 0 rfl rfl) bX) rfl rfl (dX rfl (fX A_26 Z_26 (Ht rfl) (i:=0) rfl rfl)) (bY (Ei:=[(9,_)]) rfl rfl (bQ (bJ rfl rfl) bX) rfl rfl (dX rfl (cX (Ht rfl))) (bY (Ei:=[(22,_),(23,_)]) rfl rfl (bQ (bZ 1 rfl rfl) (bQ (bZ 2 rfl rfl) bX)) rfl rfl (dX rfl (dZ U_26 Z_25 (Ht rfl) (Ht rfl) rfl (eX (eQ (d:=[]) zo)))) ?_))))))))))))
  refine bY (Ei:=[(24,_)]) rfl rfl (bQ (bZ 3 rfl rfl) bX) rfl rfl (dX rfl (dJ A_25 Z_25 (Ht rfl))) (bY (Ei:=[(1,_)]) rfl rfl (bQ (bJ rfl rfl) bX) rfl rfl (dX rfl (cX (Ht rfl))) (bY (Ei:=[(25,_),(26,_)]) rfl rfl (bQ (bZ 4 rfl rfl) (bQ (bZ 5 rfl rfl) bX)) rfl rfl (dX rfl (dZ U_25 Z_60 (Ht rfl) (Ht rfl) rfl (eX (eQ (d:=Qi.zero) zo)))) (bY (Ei:=[(27,_)]) rfl rfl (bQ (bZ 6 rfl rfl) bX) rfl rfl (dX rfl (dJ A_60 Z_60 (Ht rfl))) ?_)))
  refine bY (Ei:=[(28,_)]) rfl rfl (bQ (bZ 7 rfl rfl) bX) rfl rfl (dX rfl (bA bP (Ht rfl))) (bY (Ei:=[(5,_)]) rfl rfl (bQ (bJ rfl rfl) bX) rfl rfl (dX rfl (eG A_60 Z_60 (Ht rfl) (i:=1) rfl rfl rfl)) (bY (Ei:=[(29,_),(30,_)]) rfl rfl (bQ (bZ 8 rfl rfl) (bQ (bZ 9 rfl rfl) bX)) rfl rfl (dX rfl (aP lH K_64 (tA (x:=gm s i p) (y:=e) (L:=L) (M:=M) zo) (Ht rfl) ⟨(Ht rfl),trivial⟩)) (bY (Ei:=[(31,_)]) rfl rfl (bQ (bZ 10 rfl rfl) bX) rfl rfl (dX rfl (cX (Ht rfl))) ?_)))
  refine bY (Ei:=[(20,_)]) rfl rfl (bQ (bZ 11 rfl rfl) bX) rfl rfl (dX rfl (dY (Ht rfl) rfl)) (bY (Ei:=[(20,_)]) rfl rfl (bQ (bZ 11 rfl rfl) bX) rfl rfl (dX rfl (dY (Ht rfl) rfl)) (Y.D_newp (Ei:=[]) (fun bb=>box bb 60 (nb (gm s i p / e))) 15 rfl rfl rfl bX rfl rfl (by kernel_rfl) (eK (Ts:=[Is (.bool false),Is (.slice none 0 0),Is (.bool false),Is (.slice none 0 0),Is (.slice none 0 0)]) O_60 rfl (fun V=>aW zd (aW zd (aW zd (aW zd (aW zd (aG))))))) ?_))
  refine Y.D_putN (Ei:=[(32,_)]) 14 rfl rfl rfl rfl rfl rfl (bQ (bZ 12 rfl rfl) bX) (fun bb=>pT Z_60 (Ht rfl) (Ht rfl) rfl (i:=0) rfl (aK rfl) rfl rfl) (Y.D_done aT rfl (by kernel_rfl) rfl (by simp [Y.okP]) rfl rfl (bU (bU (bU (bU (bU (bU (bU (bU (bU (bU (bU (bU (bU (bU (Y.F_newp (fun B10=>Y.F_putN (Y.F_nil ?_))))))))))))))))))
  refine ra rfl (eJ (cK (gW (i:=4) (tt:=10) rfl rfl jH (bL [0,1,2,3] rfl (by decide) (Y.D_start (m:=16) [] (bY (Ei:=[(3,_)]) rfl rfl (bQ (bJ rfl rfl) bX) rfl rfl (dX rfl (eW fC (Ht rfl) rfl)) (bY (Ei:=[(35,_)]) rfl rfl (bQ (bZ 0 rfl rfl) bX) rfl rfl (dX rfl (fX A_26 Z_26 (Ht rfl) (i:=0) rfl rfl)) (bY (Ei:=[(1,_)]) rfl rfl (bQ (bJ rfl rfl) bX) rfl rfl (dX rfl (cX (Ht rfl))) (bY (Ei:=[(36,_),(37,_)]) rfl rfl (bQ (bZ 1 rfl rfl) (bQ (bZ 2 rfl rfl) bX)) rfl rfl (dX rfl (dZ U_26 Z_25 (Ht rfl) (Ht rfl) rfl (eX (eQ (d:=[]) zo)))) ?_)))))))))
  refine bY (Ei:=[(38,_)]) rfl rfl (bQ (bZ 3 rfl rfl) bX) rfl rfl (dX rfl (dJ A_25 Z_25 (Ht rfl))) (bY (Ei:=[(9,_)]) rfl rfl (bQ (bJ rfl rfl) bX) rfl rfl (dX rfl (cX (Ht rfl))) (bY (Ei:=[(39,_),(40,_)]) rfl rfl (bQ (bZ 4 rfl rfl) (bQ (bZ 5 rfl rfl) bX)) rfl rfl (dX rfl (dZ U_25 Z_60 (Ht rfl) (Ht rfl) rfl (eX (eQ (d:=Qi.zero) zo)))) (bY (Ei:=[(41,_)]) rfl rfl (bQ (bZ 6 rfl rfl) bX) rfl rfl (dX rfl (dJ A_60 Z_60 (Ht rfl))) ?_)))
  refine bY (Ei:=[(42,_)]) rfl rfl (bQ (bZ 7 rfl rfl) bX) rfl rfl (dX rfl (bA bP (Ht rfl))) (bY (Ei:=[(5,_)]) rfl rfl (bQ (bJ rfl rfl) bX) rfl rfl (dX rfl (eG A_60 Z_60 (Ht rfl) (i:=1) rfl rfl rfl)) (bY (Ei:=[(43,_),(44,_)]) rfl rfl (bQ (bZ 8 rfl rfl) (bQ (bZ 9 rfl rfl) bX)) rfl rfl (dX rfl (aP lH K_64 (tA (x:=gm s p i) (y:=e) (L:=L) (M:=M) zo) (Ht rfl) ⟨(Ht rfl),trivial⟩)) (bY (Ei:=[(45,_)]) rfl rfl (bQ (bZ 10 rfl rfl) bX) rfl rfl (dX rfl (cX (Ht rfl))) ?_)))
  refine bY (Ei:=[(34,_)]) rfl rfl (bQ (bZ 11 rfl rfl) bX) rfl rfl (dX rfl (dY (Ht rfl) rfl)) (bY (Ei:=[(34,_)]) rfl rfl (bQ (bZ 11 rfl rfl) bX) rfl rfl (dX rfl (dY (Ht rfl) rfl)) (Y.D_newp (Ei:=[]) (fun bb=>box bb 60 (nb (gm s p i / e))) 15 rfl rfl rfl bX rfl rfl (by kernel_rfl) (eK (Ts:=[Is (.bool false),Is (.slice none 0 0),Is (.bool false),Is (.slice none 0 0),Is (.slice none 0 0)]) O_60 rfl (fun V=>aW zd (aW zd (aW zd (aW zd (aW zd (aG))))))) ?_))
  refine Y.D_putN (Ei:=[(46,_)]) 14 rfl rfl rfl rfl rfl rfl (bQ (bZ 12 rfl rfl) bX) (fun bb=>pT Z_60 (Ht rfl) (Ht rfl) rfl (i:=0) rfl (aK rfl) rfl rfl) (Y.D_done aT rfl (by kernel_rfl) rfl (by simp [Y.okP]) rfl rfl (bU (bU (bU (bU (bU (bU (bU (bU (bU (bU (bU (bU (bU (bU (Y.F_newp (fun B12=>Y.F_putN (Y.F_nil ?_))))))))))))))))))
  refine ra rfl (eJ (cK (cK (gW (i:=4) (tt:=12) rfl rfl jH (bL [0,1,2,3] rfl (by decide) (cY (rm rfl (ro rfl (iH (Ht rfl) cV) (rm rfl (fZ rfl rfl (eY rfl rfl (Ht rfl) (fun h=>cX (Ht rfl))) (fZ rfl rfl (eY rfl rfl (Ht rfl) (fun h=>iH (fW rfl h) cV)) (ro rfl (lZ (Ht rfl) (fun h=>(fW rfl h))) (eJ (rS (Ht rfl) (by simp [he]) ?_))))))))))))))
  refine ts (ro rfl (cQ cV) (ro rfl (cQ cV) (ro rfl (cQ (cJ 6)) (eJ (xY rfl (fJ (fQ rfl) ?_) (fJ (fQ rfl) ?_) (fQ rfl))))))
  ·exact jT
  ·exact jT
 ·exact absurd hd (by simp; omega)
theorem Tl {z:List Qi} {s:List (List Qi)} {p:Nat} {e:Qi} {L M:Nat} (hs:bT s z.length z.length) (hp:p < z.length) (hz:z.length ≤ 1000) (hf:aS s L) (he2:aH e M) (hL:1 ≤ L) (hLb:L + 3 * M + 2 ≤ 1000000) (he:e ≠ Qi.zero):bI Tryz.prog 134 [dO z s,NT .i64 p,aE e] (fE [aL (tab z.length (fun i=>gm s i p / e)),aL (tab z.length (fun i=>gm s p i / e)),aN .i64 0]):=by
 have hsl:=hs.1
 have hspr:=hs.row hp
 haveI:=he2
 refine bI.intro Tryz.func134 rfl Tryz.ntmps134 rfl (fun cx=>(ts (rn rfl (fU (Ht rfl)) fun B3=>(rn rfl (fU (Ht rfl)) fun B5=>(ro rfl (cQ cV) (ro rfl (cQ cV) (ro rfl (cQ (cJ 0)) (eJ (cK (cK (pU 60 5 (pU 60 5 (cY (ro rfl (eW fC (Ht rfl) rfl) (ro rfl (fX A_26 Z_26 (Ht rfl) (i:=0) rfl rfl) (ro rfl (dU U_26 (Ht rfl) (by rw [List.length_map,hsl])) ?_))))))))))))))))
 refine ro rfl (cX (cJ 0)) (eJ (eU ?_))
 refine nY (fun (i : Nat) (vU : Value) (vV : Value) => i ≤ z.length) (fun (i : Nat) (vU : Value) (vV : Value) => z.length - i) (fun (i : Nat) (vU : Value) (vV : Value) => [(1, NT .i64 p), (3, bO B3 0), (5, bO B5 0), (6, Is vU), (7, Is vV), (8, NT .i64 0), (16, NT .i64 z.length), (17, NT .i64 i)]) (fun (i : Nat) (vU : Value) (vV : Value) => [box B3 28 [aL z, bC s], box B5 60 (nb e), bF 60 5 vU ((tab i (fun i => gm s i p / e)).map aE), bF 60 5 vV ((tab i (fun i => gm s p i / e)).map aE)]) 0 _ _ (Nat.zero_le _)
  (zS rfl) (aU (aB rfl) (aU (aB rfl) (aU (aO rfl) (aU (aO rfl) aY)))) (fun i vU vV hi=>?_)
 refine ts (ro rfl (gJ (Ht rfl) (Ht rfl)) (eJ (cK (dQ (Ht rfl) (fun hd=>?_) (fun hd=>?_)))))
 ·have hin : i < z.length := by simp only [decide_eq_true_eq] at hd; omega
  have hsr:=hs.row hin
  haveI g1:aH (gm s i p) L:=hf.get hL _ _
  haveI g2:aH (gm s p i) L:=hf.get hL _ _
  refine cU (cK (eU (ts (rm rfl (ra rfl (eJ (cK (Y.D_start (m:=16) [] (bY (Ei:=[(3,_)]) rfl rfl (bQ (bJ rfl rfl) bX) rfl rfl (dX rfl (eW fC (Ht rfl) rfl)) (bY (Ei:=[(21,_)]) rfl rfl (bQ (bZ 0 rfl rfl) bX) rfl rfl (dX rfl (fX A_26 Z_26 (Ht rfl) (i:=0) rfl rfl)) (bY (Ei:=[(9,_)]) rfl rfl (bQ (bJ rfl rfl) bX) rfl rfl (dX rfl (cX (Ht rfl))) (bY (Ei:=[(22,_),(23,_)]) rfl rfl (bQ (bZ 1 rfl rfl) (bQ (bZ 2 rfl rfl) bX)) rfl rfl (dX rfl (dZ U_26 Z_25 (Ht rfl) (Ht rfl) rfl (eX (eQ (d:=[]) zo)))) ?_))))))))))))
  refine bY (Ei:=[(24,_)]) rfl rfl (bQ (bZ 3 rfl rfl) bX) rfl rfl (dX rfl (dJ A_25 Z_25 (Ht rfl))) (bY (Ei:=[(1,_)]) rfl rfl (bQ (bJ rfl rfl) bX) rfl rfl (dX rfl (cX (Ht rfl))) (bY (Ei:=[(25,_),(26,_)]) rfl rfl (bQ (bZ 4 rfl rfl) (bQ (bZ 5 rfl rfl) bX)) rfl rfl (dX rfl (dZ U_25 Z_60 (Ht rfl) (Ht rfl) rfl (eX (eQ (d:=Qi.zero) zo)))) (bY (Ei:=[(27,_)]) rfl rfl (bQ (bZ 6 rfl rfl) bX) rfl rfl (dX rfl (dJ A_60 Z_60 (Ht rfl))) ?_)))
  refine bY (Ei:=[(28,_)]) rfl rfl (bQ (bZ 7 rfl rfl) bX) rfl rfl (dX rfl (bA bP (Ht rfl))) (bY (Ei:=[(5,_)]) rfl rfl (bQ (bJ rfl rfl) bX) rfl rfl (dX rfl (eG A_60 Z_60 (Ht rfl) (i:=1) rfl rfl rfl)) (bY (Ei:=[(29,_),(30,_)]) rfl rfl (bQ (bZ 8 rfl rfl) (bQ (bZ 9 rfl rfl) bX)) rfl rfl (dX rfl (aP lH K_64 (tA (x:=gm s i p) (y:=e) (L:=L) (M:=M) zo) (Ht rfl) ⟨(Ht rfl),trivial⟩)) (bY (Ei:=[(31,_)]) rfl rfl (bQ (bZ 10 rfl rfl) bX) rfl rfl (dX rfl (cX (Ht rfl))) ?_)))
  refine bY (Ei:=[(20,_)]) rfl rfl (bQ (bZ 11 rfl rfl) bX) rfl rfl (dX rfl (dY (Ht rfl) rfl)) (bY (Ei:=[(20,_)]) rfl rfl (bQ (bZ 11 rfl rfl) bX) rfl rfl (dX rfl (dY (Ht rfl) rfl)) (Y.D_newp (Ei:=[]) (fun bb=>box bb 60 (nb (gm s i p / e))) 15 rfl rfl rfl bX rfl rfl (by kernel_rfl) (eK (Ts:=[Is (.bool false),Is (.slice none 0 0),Is (.bool false),Is (.slice none 0 0),Is (.slice none 0 0)]) O_60 rfl (fun V=>aW zd (aW zd (aW zd (aW zd (aW zd (aG))))))) ?_))
  refine Y.D_putN (Ei:=[(32,_)]) 14 rfl rfl rfl rfl rfl rfl (bQ (bZ 12 rfl rfl) bX) (fun bb=>pT Z_60 (Ht rfl) (Ht rfl) rfl (i:=0) rfl (aK rfl) rfl rfl) (Y.D_done aT rfl (by kernel_rfl) rfl (by simp [Y.okP]) rfl rfl (bU (bU (bU (bU (bU (bU (bU (bU (bU (bU (bU (bU (bU (bU (Y.F_newp (fun B10=>Y.F_putN (Y.F_nil ?_))))))))))))))))))
  refine ra rfl (eJ (cK (gW (i:=4) (tt:=10) rfl rfl jH (bL [0,1,2,3] rfl (by decide) (Y.D_start (m:=16) [] (bY (Ei:=[(3,_)]) rfl rfl (bQ (bJ rfl rfl) bX) rfl rfl (dX rfl (eW fC (Ht rfl) rfl)) (bY (Ei:=[(35,_)]) rfl rfl (bQ (bZ 0 rfl rfl) bX) rfl rfl (dX rfl (fX A_26 Z_26 (Ht rfl) (i:=0) rfl rfl)) (bY (Ei:=[(1,_)]) rfl rfl (bQ (bJ rfl rfl) bX) rfl rfl (dX rfl (cX (Ht rfl))) (bY (Ei:=[(36,_),(37,_)]) rfl rfl (bQ (bZ 1 rfl rfl) (bQ (bZ 2 rfl rfl) bX)) rfl rfl (dX rfl (dZ U_26 Z_25 (Ht rfl) (Ht rfl) rfl (eX (eQ (d:=[]) zo)))) ?_)))))))))
  refine bY (Ei:=[(38,_)]) rfl rfl (bQ (bZ 3 rfl rfl) bX) rfl rfl (dX rfl (dJ A_25 Z_25 (Ht rfl))) (bY (Ei:=[(9,_)]) rfl rfl (bQ (bJ rfl rfl) bX) rfl rfl (dX rfl (cX (Ht rfl))) (bY (Ei:=[(39,_),(40,_)]) rfl rfl (bQ (bZ 4 rfl rfl) (bQ (bZ 5 rfl rfl) bX)) rfl rfl (dX rfl (dZ U_25 Z_60 (Ht rfl) (Ht rfl) rfl (eX (eQ (d:=Qi.zero) zo)))) (bY (Ei:=[(41,_)]) rfl rfl (bQ (bZ 6 rfl rfl) bX) rfl rfl (dX rfl (dJ A_60 Z_60 (Ht rfl))) ?_)))
  refine bY (Ei:=[(42,_)]) rfl rfl (bQ (bZ 7 rfl rfl) bX) rfl rfl (dX rfl (bA bP (Ht rfl))) (bY (Ei:=[(5,_)]) rfl rfl (bQ (bJ rfl rfl) bX) rfl rfl (dX rfl (eG A_60 Z_60 (Ht rfl) (i:=1) rfl rfl rfl)) (bY (Ei:=[(43,_),(44,_)]) rfl rfl (bQ (bZ 8 rfl rfl) (bQ (bZ 9 rfl rfl) bX)) rfl rfl (dX rfl (aP lH K_64 (tA (x:=gm s p i) (y:=e) (L:=L) (M:=M) zo) (Ht rfl) ⟨(Ht rfl),trivial⟩)) (bY (Ei:=[(45,_)]) rfl rfl (bQ (bZ 10 rfl rfl) bX) rfl rfl (dX rfl (cX (Ht rfl))) ?_)))
  refine bY (Ei:=[(34,_)]) rfl rfl (bQ (bZ 11 rfl rfl) bX) rfl rfl (dX rfl (dY (Ht rfl) rfl)) (bY (Ei:=[(34,_)]) rfl rfl (bQ (bZ 11 rfl rfl) bX) rfl rfl (dX rfl (dY (Ht rfl) rfl)) (Y.D_newp (Ei:=[]) (fun bb=>box bb 60 (nb (gm s p i / e))) 15 rfl rfl rfl bX rfl rfl (by kernel_rfl) (eK (Ts:=[Is (.bool false),Is (.slice none 0 0),Is (.bool false),Is (.slice none 0 0),Is (.slice none 0 0)]) O_60 rfl (fun V=>aW zd (aW zd (aW zd (aW zd (aW zd (aG))))))) ?_))
  refine Y.D_putN (Ei:=[(46,_)]) 14 rfl rfl rfl rfl rfl rfl (bQ (bZ 12 rfl rfl) bX) (fun bb=>pT Z_60 (Ht rfl) (Ht rfl) rfl (i:=0) rfl (aK rfl) rfl rfl) (Y.D_done aT rfl (by kernel_rfl) rfl (by simp [Y.okP]) rfl rfl (bU (bU (bU (bU (bU (bU (bU (bU (bU (bU (bU (bU (bU (bU (Y.F_newp (fun B12=>Y.F_putN (Y.F_nil ?_))))))))))))))))))
  refine ra rfl (eJ (cK (cK (gW (i:=4) (tt:=12) rfl rfl jH (bL [0,1,2,3] rfl (by decide) (cY (rm rfl (ro rfl (iH (Ht rfl) cV) (rm rfl (fZ rfl rfl (eY rfl rfl (Ht rfl) (fun h=>cX (Ht rfl))) (fZ rfl rfl (eY rfl rfl (Ht rfl) (fun h=>iH (fW rfl h) cV)) (ro rfl (lZ (Ht rfl) (fun h=>(fW rfl h))) (eJ (kA (Ht rfl) (by simp [he]) ?_))))))))))))))
  refine cU (Y.D_startA (m:=7) [] 3 2 rfl rfl (bY (Ei:=[(6,_)]) rfl rfl (bQ (bJ rfl rfl) bX) rfl rfl (dX rfl (cX (Ht rfl))) (bY (Ei:=[(10,_)]) rfl rfl (bQ (bJ rfl rfl) bX) rfl rfl (dX rfl (dJ A_60 Z_60 (Ht rfl))) (bY (Ei:=[(55,_)]) rfl rfl (bQ (bZ 1 rfl rfl) bX) rfl rfl (dX rfl (cI (xs:=[.tmp 55]) U_25 Z_60 O_60 (cW (Ht rfl) cG) rfl rfl rfl)) (Y.D_app (Ei:=[(54,_),(56,_)]) rfl rfl rfl rfl (bQ (bZ 0 rfl rfl) (bQ (bZ 2 rfl rfl) bX)) rfl (pS (inf:=Tryz.t60) jK iB rfl rfl rfl (Ht rfl) (Ht rfl) (by simp) (fun T hT=>by simp at hT; subst hT; exact El.ag rfl) (by show _ * 88 ≤ _; simp only [List.length_map,aC,List.length_cons,List.length_nil]; omega) (by simp only [List.length_map,aC,List.length_cons,List.length_nil]; omega)) ?_)))))
  refine bY (Ei:=[(7,_)]) rfl rfl (bQ (bJ rfl rfl) bX) rfl rfl (dX rfl (cX (Ht rfl))) (bY (Ei:=[(12,_)]) rfl rfl (bQ (bJ rfl rfl) bX) rfl rfl (dX rfl (dJ A_60 Z_60 (Ht rfl))) (bY (Ei:=[(59,_)]) rfl rfl (bQ (bZ 5 rfl rfl) bX) rfl rfl (dX rfl (cI (xs:=[.tmp 59]) U_25 Z_60 O_60 (cW (Ht rfl) cG) rfl rfl rfl)) (Y.D_done aT rfl (by kernel_rfl) rfl (by simp [Y.okP]) rfl rfl (bU (bU (bU (Y.F_app (fun v2=>bU (bU (bU (Y.F_nil ?_)))))))))))
  refine lE (inf:=Tryz.t60) jK iB rfl rfl rfl (Ht rfl) (Ht rfl) (i:=3) rfl (by simp) (fun T hT=>by simp at hT; subst hT; exact El.ag rfl) (by show _ * 88 ≤ _; simp only [List.length_map,aC,List.length_cons,List.length_nil]; omega) (by simp only [List.length_map,aC,List.length_cons,List.length_nil]; omega) rfl (fun v3=>?_)
  refine ra rfl (ra rfl (eJ (bD (cY (ro rfl (dW (Ht rfl) (cJ 1) z6) (rm rfl (eJ ?_)))))))
  refine bL [0,1,4,3] rfl (by decide) (gQ (i + 1,v2,v3) hin (by dsimp only; omega) (zS rfl) (aU (aB rfl) (aU (aB rfl) (aU (aO (by rw [gD,List.map_append]; rfl)) (aU (aO (by rw [gD,List.map_append]; rfl)) aY)))))
 ·obtain rfl : i = z.length := by simp only [decide_eq_false_iff_not] at hd; omega
  refine gG rfl (cK (gW (i:=2) (tt:=6) rfl rfl gH (gW (i:=3) (tt:=7) rfl rfl gH (cY (rm rfl (rm rfl (ra rfl (ra rfl (ro rfl (cQ (cJ 0)) (eJ ?_))))))))))
  exact xY rfl (fQ rfl) (fQ rfl) (fQ rfl)
theorem a4l {z:List Qi} {s:List (List Qi)} {p:Nat} {x:Qi} {F:Nat → Nat → Qi} (hs:bT s z.length z.length) (hp:p < z.length) (hz:z.length ≤ 1000):bI Tryz.prog 135 [dO z s,NT .i64 p,aE x,xV Tryz.prog (Fin z.length × Fin z.length) (fun x=>[NT .i64 x.1.1,NT .i64 x.2.1]) (fun x=>aE (F x.1.1 x.2.1))] (dO (z.set p x) (tab z.length fun i=>tab z.length fun j=>F i j)):=by
 refine bI.intro Tryz.func135 rfl Tryz.ntmps135 rfl (fun cx=>(ts (rn rfl (fU (Ht rfl)) fun B4=>(rn rfl (fU (Ht rfl)) fun B6=>(rn rfl (eK (Ts:=[Is (.slice none 0 0),Is (.slice none 0 0)]) O_28 rfl (fun V=>aW zd (aW zd (aG)))) fun B8=>(eJ (cK (fV (m:=5) (dp 4 rfl (eG A_28 Z_28 (Ht rfl) (i:=0) rfl rfl rfl) (dp 4 rfl (eG A_28 Z_28 (Ht rfl) (i:=0) rfl rfl rfl) (dq 11 1 rfl (cZ Tryz.call124 (a1q (z:=z) (s:=s) zo) ⟨(Ht rfl),cV,trivial⟩) ?_)))))))))))
 refine C.D_new (Ei:=[(10,_),(12,_)]) rfl rfl rfl (bV (bG 0 rfl rfl) (bV (bG 2 rfl rfl) bW)) (yQ Tryz.call125 (gM.pack (a1s (z:=z) (s:=s) (Q:=gY [] z.length) (m:=z.length) hs (fun x h=>yO h) (Pj _) zo zo)) ⟨(Ht rfl),(Ht rfl),trivial⟩) (C.D_new (Ei:=[]) rfl rfl rfl bW (eK (Ts:=[Is (.slice none 0 0),Is (.slice none 0 0)]) O_28 rfl (fun V=>aW zd (aW zd (aG)))) (fG aT rfl (by kernel_rfl) (aJ (aJ (aJ (C.F_new (fun B13=>C.F_new (fun B9=>aV ?_))))))))
 refine gZ Z_28 (Ht rfl) (Ht rfl) rfl (i:=4) rfl (aK rfl) rfl rfl (eJ (cK (bL [3,0,1,2,4] rfl (by decide) ?_)))
 obtain ⟨⟨vZ,bS⟩,hQ⟩:=B13
 refine a43 (X:=[SA.emp,bF 60 5 (.slice (some ⟨vZ,0,none⟩) z.length z.length) ((mN z (gY [] z.length)).map aE),oH bS 25 60 5 (bN aE (mX s (gY [] z.length)))]) (Y:=[box B4 28 [aL z,bC s],box B6 60 (nb x),box B8 28 [Is (.slice none 0 0),Is (.slice none 0 0)],box B9 28 [Is (.slice (some ⟨vZ,0,none⟩) z.length z.length),Is (.slice (some ⟨bS,0,none⟩) z.length z.length)]]) (bL [1,3,4,5,6] rfl (by decide) (mH 0 rfl (aO (congrArg (List.map aE) a1e)) (cY (ro rfl (eW eE (Ht rfl) rfl) (ro rfl (a2x A_25 Z_25 (Ht rfl) (i:=4) rfl rfl) ?_)))))
 refine rm rfl (ro rfl (eG A_60 Z_60 (Ht rfl) (i:=2) rfl rfl rfl) (ro rfl (dM U_25 Z_60 (Ht rfl) (Ht rfl) rfl (i:=0) rfl (by rw [List.length_map]; omega) rfl) ?_))
 refine mY Z_60 (Ht rfl) (Ht rfl) (El.ag rfl) (i:=0) rfl rfl (by rw [List.length_map]; omega) rfl ?_
 refine eJ (ts (ro rfl (eW eE (Ht rfl) rfl) (ro rfl (fX A_25 Z_25 (Ht rfl) (i:=1) rfl rfl) (ro rfl (dU U_25 (Ht rfl) aD) (rm rfl (ro rfl (cZ K_110 (yC (n:=z.length) (f:=F) zo) ⟨(Ht rfl),(Ht rfl),trivial⟩) (ro rfl (eW fC (Ht rfl) rfl) (oZ Z_26 (Ht rfl) (Ht rfl) (i:=4) rfl (aK rfl) rfl (eJ (cK (mH 0 rfl (aO (iG aE z p x)) (Td 4 0 0 rfl rfl rfl (by decide) (cY (ro rfl (eG A_28 Z_28 (Ht rfl) (i:=4) rfl rfl rfl) ?_))))))))))))))
 refine gZ Z_28 (Ht rfl) (Ht rfl) rfl (i:=3) rfl (aK rfl) rfl rfl (eJ ?_)
 exact fK rfl (fY A_28 Z_28 rfl (i:=3) rfl rfl)
end
section
open Go Go.RowKit
theorem a0Q {n i:Nat} {f:Nat → Qi} (h:i < n):(tab n f).getD i Qi.zero = f i:=iN h
theorem Hc {s f:List (List Qi)} {p L:Nat} (hs:aS s L) (hf:aS f L) (hL:1 ≤ L):aH (mE s f p) (2 * L + 3):=by
 haveI:=hs.get hL p p; haveI:=hf.get hL 1 1; haveI:=mF
 exact (inferInstance:aH (Qi.ofInt 1 - gm f 1 1 * gm s p p) (1 + (L + L + 1) + 1)).le zo
theorem Yt {s f:List (List Qi)} {p i j L:Nat} (hs:aS s L) (hf:aS f L) (hL:1 ≤ L) (hd:mE s f p ≠ Qi.zero):aH (vQ s f p i j) (20 * L + 20):=by
 haveI e:=Hc (p:=p) hs hf hL
 have q:∀ a b,aH (gm s a b / mE s f p) (7 * L + 11):=fun a b=>(pF (hs.get hL a b) e hd).le zo
 haveI q1:=q p p; haveI q2:=q i p; haveI q3:=q p j
 haveI:=hs.get hL i j; haveI:=hs.get hL p j; haveI:=hf.get hL 1 1; haveI:=hf.get hL 0 0; haveI:=hf.get hL 0 1; haveI:=hf.get hL 1 0
 rw [vQ]
 split
 ·exact (inferInstance:aH (_ + _ * (_ * _)) (L + (L + (L + (7 * L + 11) + 1) + 1) + 1)).le zo
 ·split
  ·exact (inferInstance:aH (_ * _) ((7 * L + 11) + L + 1)).le zo
  ·split
   ·exact (inferInstance:aH (_ * _) (L + (7 * L + 11) + 1)).le zo
   ·exact (inferInstance:aH (_ + _ * (_ * _)) (L + ((7 * L + 11) + (L + L + 1) + 1) + 1)).le zo
theorem Ys {s f:List (List Qi)} {p n L:Nat} (hs:aS s L) (hf:aS f L) (hL:1 ≤ L) (hd:mE s f p ≠ Qi.zero):aS (He s f p n) (20 * L + 20):=aS.tab fun i j _ _=>Yt hs hf hL hd
theorem xP {n i:Nat} {f:Nat → Qi} (h:i < n):((tab n f).map aE)[i]? = some (aE (f i)):=by rw [List.getElem?_map,cP h]; rfl
theorem Wp {z:List Qi} {s f:List (List Qi)} {p i j L:Nat} (hs:bT s z.length z.length) (hp:p < z.length) (hi:i < z.length) (hj:j < z.length) (hz:z.length ≤ 1000) (hfs:aS s L) (hff:aS f L) (hL:1 ≤ L) (hLb:L ≤ 60000) (hd:mE s f p ≠ Qi.zero):bI Tryz.prog 136 [NT .i64 i,NT .i64 j,PT (NT .i64 p),PT (aE (gm f 0 0)),PT (aE (gm f 0 1)),PT (aE (gm f 1 0)),PT (aL (tab z.length fun j=>gm s p j / mE s f p)),PT (aL (tab z.length fun i=>gm s i p / mE s f p)),PT (dO z s),PT (aE (gm f 1 1))] (aE (vQ s f p i j)):=by
 have hsl:=hs.1
 have hsi:=hs.row hi
 have hsp:=hs.row hp
 haveI e:=Hc (p:=p) hfs hff hL
 have q:∀ a b,aH (gm s a b / mE s f p) (7 * L + 11):=fun a b=>(pF (hfs.get hL a b) e hd).le zo
 have hU:∀ k,k < z.length → (tab z.length fun i=>gm s i p / mE s f p).getD k Qi.zero = gm s k p / mE s f p:=fun k h=>a0Q h
 have hV:∀ k,k < z.length → (tab z.length fun j=>gm s p j / mE s f p).getD k Qi.zero = gm s p k / mE s f p:=fun k h=>a0Q h
 haveI:=q p p; haveI:=q i p; haveI:=q p j
 haveI:=hfs.get hL i j; haveI:=hfs.get hL p j; haveI:=hff.get hL 1 1; haveI:=hff.get hL 0 0; haveI:=hff.get hL 0 1; haveI:=hff.get hL 1 0
 refine bI.intro Tryz.func136 rfl Tryz.ntmps136 rfl (fun cx=>(ts (rn rfl (eK (Ts:=[Is (.bool false),Is (.slice none 0 0),Is (.bool false),Is (.slice none 0 0),Is (.slice none 0 0)]) O_60 rfl (fun V=>aW zd (aW zd (aW zd (aW zd (aW zd (aG))))))) fun B12=>(eJ (cK (eU (ts (rm rfl (ro rfl (dJ A_3 Z_3 (Ht rfl)) (ro rfl (eH (Ht rfl) (Ht rfl)) (rm rfl (fZ rfl rfl (eY rfl rfl (Ht rfl) (fun h=>cX (Ht rfl))) ?_))))))))))))
 refine fZ rfl rfl (eY rfl rfl (Ht rfl) (fun h=>dJ A_3 Z_3 (Ht rfl))) (fZ rfl rfl (eY rfl rfl (Ht rfl) (fun h=>eH (fW rfl h) (fW rfl h))) (ro rfl (iU (Ht rfl) (fun h=>(fW rfl h))) (ra rfl (eJ (dQ (Ht rfl) (fun hb1=>?_) (fun hb1=>?_))))))
 ·have h2 : i = p ∧ j = p := by simpa using hb1
  refine cK (fV (m:=12) (dp 3 rfl (dJ A_60 Z_60 (Ht rfl)) (dq 22 0 rfl (bA bP (Ht rfl)) (dp 4 rfl (dJ A_60 Z_60 (Ht rfl)) (dq 24 2 rfl (bA bP (Ht rfl)) (dp 5 rfl (dJ A_60 Z_60 (Ht rfl)) (dq 26 4 rfl (bA bP (Ht rfl)) (dp 6 rfl (dJ A_25 Z_25 (Ht rfl)) (dp 2 rfl (dJ A_3 Z_3 (Ht rfl)) (dP 28 6 29 7 rfl (dZ U_25 Z_60 (Ht rfl) (Ht rfl) rfl (xP hp)) (dq 30 8 rfl (dJ A_60 Z_60 (Ht rfl)) (dP 27 5 31 9 rfl (aP dH K_70 (kD (x:=gm f 1 0) (y:=gm s p p / mE s f p) (L:=L) (M:=(7 * L + 11)) zo) (Ht rfl) ⟨(Ht rfl),trivial⟩) ?_))))))))))))
  refine dP 25 3 32 10 rfl (aP dH K_70 (kD (x:=gm f 0 1) (y:=gm f 1 0 * (gm s p p / mE s f p)) (L:=L) (M:=L + (7 * L + 11) + 1) zo) (Ht rfl) ⟨(Ht rfl),trivial⟩) (fG aT rfl (by kernel_rfl) (zF (zF (zF (aV (ro rfl (aP oI K_71 (wJ (x:=gm f 0 0) (y:=gm f 0 1 * (gm f 1 0 * (gm s p p / mE s f p))) (L:=L) (M:=L + (L + (7 * L + 11) + 1) + 1) zo) (Ht rfl) ⟨(Ht rfl),trivial⟩) (gZ Z_60 (Ht rfl) (Ht rfl) rfl (i:=0) rfl (aK rfl) rfl rfl ?_)))))))
  refine eJ (fK rfl (fJ (fY A_60 Z_60 rfl (i:=0) rfl rfl) ?_))
  exact (jE (by rw [vQ,if_pos h2]))
 ·have h2 : ¬ (i = p ∧ j = p) := by simpa using hb1
  refine ts (rm rfl (ro rfl (dJ A_3 Z_3 (Ht rfl)) (ro rfl (eH (Ht rfl) (Ht rfl)) (ra rfl (eJ (dQ (Ht rfl) (fun hb2=>?_) (fun hb2=>?_)))))))
  ·have h3 : j = p := by simpa using hb2
   refine cK (fV (m:=6) (dp 7 rfl (dJ A_25 Z_25 (Ht rfl)) (dp 0 rfl (cX (Ht rfl)) (dP 39 0 40 1 rfl (dZ U_25 Z_60 (Ht rfl) (Ht rfl) rfl (xP hi)) (dq 41 2 rfl (dJ A_60 Z_60 (Ht rfl)) (dq 42 3 rfl (bA bP (Ht rfl)) (dp 5 rfl (dJ A_60 Z_60 (Ht rfl)) (fG aT rfl (by kernel_rfl) (zF (aJ (aJ (aV (ro rfl (aP dH K_70 (kD (x:=gm s i p / mE s f p) (y:=gm f 1 0) (L:=(7 * L + 11)) (M:=L) zo) (Ht rfl) ⟨(Ht rfl),trivial⟩) ?_)))))))))))))
   refine gZ Z_60 (Ht rfl) (Ht rfl) rfl (i:=0) rfl (aK rfl) rfl rfl (eJ (fK rfl (fJ (fY A_60 Z_60 rfl (i:=0) rfl rfl) ?_)))
   exact (jE (by rw [vQ,if_neg h2,if_pos h3]))
  ·have h3 : ¬ j = p := by simpa using hb2
   refine ts (rm rfl (ro rfl (dJ A_3 Z_3 (Ht rfl)) (ro rfl (eH (Ht rfl) (Ht rfl)) (ra rfl (eJ (dQ (Ht rfl) (fun hb3=>?_) (fun hb3=>?_)))))))
   ·have h4 : i = p := by simpa using hb3
    refine cK (fV (m:=6) (dp 4 rfl (dJ A_60 Z_60 (Ht rfl)) (dq 50 0 rfl (bA bP (Ht rfl)) (dp 6 rfl (dJ A_25 Z_25 (Ht rfl)) (dp 1 rfl (cX (Ht rfl)) (dP 52 2 53 3 rfl (dZ U_25 Z_60 (Ht rfl) (Ht rfl) rfl (xP hj)) (dq 54 4 rfl (dJ A_60 Z_60 (Ht rfl)) (fG aT rfl (by kernel_rfl) (zF (aJ (aJ (aV (ro rfl (aP dH K_70 (kD (x:=gm f 0 1) (y:=gm s p j / mE s f p) (L:=L) (M:=(7 * L + 11)) zo) (Ht rfl) ⟨(Ht rfl),trivial⟩) ?_)))))))))))))
    refine gZ Z_60 (Ht rfl) (Ht rfl) rfl (i:=0) rfl (aK rfl) rfl rfl (eJ (fK rfl (fJ (fY A_60 Z_60 rfl (i:=0) rfl rfl) ?_)))
    exact (jE (by rw [vQ,if_neg h2,if_neg h3,if_pos h4]))
   ·have h4 : ¬ i = p := by simpa using hb3
    refine cU (bD (cK (fV (m:=26) (dp 8 rfl (iC fC (Ht rfl) rfl) (dq 57 0 rfl (dJ A_26 Z_26 (Ht rfl)) (dp 0 rfl (cX (Ht rfl)) (dP 58 1 59 2 rfl (dZ U_26 Z_25 (Ht rfl) (Ht rfl) rfl (eX (eQ (d:=[]) zo))) (dq 60 3 rfl (dJ A_25 Z_25 (Ht rfl)) (dp 1 rfl (cX (Ht rfl)) (dP 61 4 62 5 rfl (dZ U_25 Z_60 (Ht rfl) (Ht rfl) rfl (eX (eQ (d:=Qi.zero) zo))) (dq 63 6 rfl (dJ A_60 Z_60 (Ht rfl)) (dq 64 7 rfl (bA bP (Ht rfl)) ?_))))))))))))
    refine dp 7 rfl (dJ A_25 Z_25 (Ht rfl)) (dp 0 rfl (cX (Ht rfl)) (dP 66 9 67 10 rfl (dZ U_25 Z_60 (Ht rfl) (Ht rfl) rfl (xP hi)) (dq 68 11 rfl (dJ A_60 Z_60 (Ht rfl)) (dq 69 12 rfl (bA bP (Ht rfl)) (dp 9 rfl (dJ A_60 Z_60 (Ht rfl)) (dq 71 14 rfl (bA bP (Ht rfl)) (dp 8 rfl (iC fC (Ht rfl) rfl) (dq 73 16 rfl (dJ A_26 Z_26 (Ht rfl)) (dp 2 rfl (dJ A_3 Z_3 (Ht rfl)) (dP 74 17 75 18 rfl (dZ U_26 Z_25 (Ht rfl) (Ht rfl) rfl (eX (eQ (d:=[]) zo))) ?_))))))))))
    refine dq 76 19 rfl (dJ A_25 Z_25 (Ht rfl)) (dp 1 rfl (cX (Ht rfl)) (dP 77 20 78 21 rfl (dZ U_25 Z_60 (Ht rfl) (Ht rfl) rfl (eX (eQ (d:=Qi.zero) zo))) (dq 79 22 rfl (dJ A_60 Z_60 (Ht rfl)) (dP 72 15 80 23 rfl (aP dH K_70 (kD (x:=gm f 1 1) (y:=gm s p j) (L:=L) (M:=L) zo) (Ht rfl) ⟨(Ht rfl),trivial⟩) (dP 70 13 81 24 rfl (aP dH K_70 (kD (x:=gm s i p / mE s f p) (y:=gm f 1 1 * gm s p j) (L:=(7 * L + 11)) (M:=L + L + 1) zo) (Ht rfl) ⟨(Ht rfl),trivial⟩) ?_)))))
    refine fG aT rfl (by kernel_rfl) (zF (zF (zF (zF (zF (zF (aJ (aJ (aV (ro rfl (aP oI K_71 (wJ (x:=gm s i j) (y:=gm s i p / mE s f p * (gm f 1 1 * gm s p j)) (L:=L) (M:=(7 * L + 11) + (L + L + 1) + 1) zo) (Ht rfl) ⟨(Ht rfl),trivial⟩) (gZ Z_60 (Ht rfl) (Ht rfl) rfl (i:=0) rfl (aK rfl) rfl rfl ?_)))))))))))
    refine eJ (fK rfl (fJ (fY A_60 Z_60 rfl (i:=0) rfl rfl) ?_))
    exact (jE (by rw [vQ,if_neg h2,if_neg h3,if_neg h4]))
theorem Wo {z fz:List Qi} {s f:List (List Qi)} {port:Int} {L:Nat} (hs:bT s z.length z.length) (hz1:1 ≤ z.length) (hz:z.length ≤ 1000) (hfs:aS s L) (hff:aS f L) (hfz:bR z L) (hfg:bR fz L) (hL:1 ≤ L) (hLb:L ≤ 60000) (h2:fz.length ≠ 2):bI Tryz.prog 36 [dO z s,aN .i64 port,dO fz f] (fE [dO (Ke z s fz f port) (Mn z s fz f port),aN .i64 (Bw z s fz f port)]):=by
 have hfx:Ae z fz port 2 = 4:=a6B h2
 have he:Bw z s fz f port = 4:=(a3E (by rw [hfx]; decide)).trans hfx
 have hne:Bw z s fz f port ≠ 0:=by rw [he]; decide
 refine bI.intro Tryz.func36 rfl Tryz.ntmps36 rfl (fun cx=>(ts (rn rfl (fU (Ht rfl)) fun B3=>(rn rfl (fU (Ht rfl)) fun B5=>(rn rfl (eK (Ts:=[Is (.slice none 0 0),Is (.slice none 0 0)]) O_28 rfl (fun V=>aW zd (aW zd (aG)))) fun B6=>(ro rfl (cQ (cJ 0)) (eJ (ts (ro rfl (eG A_28 Z_28 (Ht rfl) (i:=0) rfl rfl rfl) (rm rfl (ro rfl (eG A_28 Z_28 (Ht rfl) (i:=1) rfl rfl rfl) (ro rfl (cZ Tryz.call133 (Th (x:=2) h2) ⟨(Ht rfl),(Ht rfl),(Ht rfl),(cJ 2),trivial⟩) ?_))))))))))))
 refine rm rfl (ro rfl (dY (Ht rfl) rfl) (ro rfl (dY (Ht rfl) rfl) (rn rfl (eK (Ts:=[Is (.bool false),Is (.slice none 0 0),Is (.bool false),Is (.slice none 0 0),Is (.slice none 0 0),Is (.bool false),Is (.slice none 0 0),Is (.bool false),Is (.slice none 0 0),Is (.slice none 0 0),Is (.bool false),Is (.slice none 0 0),Is (.bool false),Is (.slice none 0 0),Is (.slice none 0 0),Is (.bool false),Is (.slice none 0 0),Is (.bool false),Is (.slice none 0 0),Is (.slice none 0 0)]) O_191 rfl (fun V=>aW zd (aW zd (aW zd (aW zd (aW zd (aW zd (aW zd (aW zd (aW zd (aW zd (aW zd (aW zd (aW zd (aW zd (aW zd (aW zd (aW zd (aW zd (aW zd (aW zd (aG)))))))))))))))))))))) fun B8=>?_)))
 refine gZ Z_191 (Ht rfl) (Ht rfl) rfl (i:=3) rfl (aK rfl) rfl rfl (ra rfl (eJ (cK (ts (rm rfl (ro rfl (iH (Ht rfl) cV) (eJ (rS (Ht rfl) (by rfl) ?_))))))))
 refine ts (ro rfl (aM.imp (nA ) nG) (rm rfl (gZ Z_28 (Ht rfl) (Ht rfl) rfl (i:=2) rfl (aK rfl) rfl rfl (ra rfl (eJ (bM rfl (fJ (fY A_28 Z_28 rfl (i:=2) rfl rfl) ?_) (fJ (fQ rfl) ?_)))))))
 ·exact (fun v V h=>by rw [Ke,Mn,fF,fF,if_neg hne,if_neg hne]; exact h)
 ·exact (bE he.symm)
theorem Wq {z fz:List Qi} {s f:List (List Qi)} {port:Int} {L:Nat} (hs:bT s z.length z.length) (hz1:1 ≤ z.length) (hz:z.length ≤ 1000) (hfs:aS s L) (hff:aS f L) (hfz:bR z L) (hfg:bR fz L) (hL:1 ≤ L) (hLb:L ≤ 60000) (h2:fz.length = 2) (hf:bT f 2 2):bI Tryz.prog 36 [dO z s,aN .i64 port,dO fz f] (fE [dO (Ke z s fz f port) (Mn z s fz f port),aN .i64 (Bw z s fz f port)]):=by
 have hsl:=hs.1
 haveI h1f:=mF
 refine bI.intro Tryz.func36 rfl Tryz.ntmps36 rfl (fun cx=>(ts (rn rfl (fU (Ht rfl)) fun B3=>(rn rfl (fU (Ht rfl)) fun B5=>(rn rfl (eK (Ts:=[Is (.slice none 0 0),Is (.slice none 0 0)]) O_28 rfl (fun V=>aW zd (aW zd (aG)))) fun B6=>(ro rfl (cQ (cJ 0)) (eJ (ts (ro rfl (eG A_28 Z_28 (Ht rfl) (i:=0) rfl rfl rfl) (rm rfl (ro rfl (eG A_28 Z_28 (Ht rfl) (i:=1) rfl rfl rfl) (ro rfl (cZ Tryz.call133 (Ti (x:=2) (L:=L) h2 hf (by decide) hfz hfg hL zo hz) ⟨(Ht rfl),(Ht rfl),(Ht rfl),(cJ 2),trivial⟩) ?_))))))))))))
 refine rm rfl (ro rfl (dY (Ht rfl) rfl) (ro rfl (dY (Ht rfl) rfl) (rn rfl (eK (Ts:=[Is (.bool false),Is (.slice none 0 0),Is (.bool false),Is (.slice none 0 0),Is (.slice none 0 0),Is (.bool false),Is (.slice none 0 0),Is (.bool false),Is (.slice none 0 0),Is (.slice none 0 0),Is (.bool false),Is (.slice none 0 0),Is (.bool false),Is (.slice none 0 0),Is (.slice none 0 0),Is (.bool false),Is (.slice none 0 0),Is (.bool false),Is (.slice none 0 0),Is (.slice none 0 0)]) O_191 rfl (fun V=>aW zd (aW zd (aW zd (aW zd (aW zd (aW zd (aW zd (aW zd (aW zd (aW zd (aW zd (aW zd (aW zd (aW zd (aW zd (aW zd (aW zd (aW zd (aW zd (aW zd (aG)))))))))))))))))))))) fun B8=>?_)))
 refine gZ Z_191 (Ht rfl) (Ht rfl) rfl (i:=3) rfl (aK rfl) rfl rfl (ra rfl (eJ (cK (ts (rm rfl (ro rfl (iH (Ht rfl) cV) (eJ (dQ (Ht rfl) (fun hc=>?_) (fun hc=>?_)))))))))
 ·have hfx : Ae z fz port 2 ≠ 0 := by simpa using hc
  have he:Bw z s fz f port = Ae z fz port 2:=a3E hfx
  have hne:Bw z s fz f port ≠ 0:=by rw [he]; exact hfx
  refine ts (ro rfl (aM.imp (nA ) nG) (rm rfl (gZ Z_28 (Ht rfl) (Ht rfl) rfl (i:=2) rfl (aK rfl) rfl rfl (ra rfl (eJ (bM rfl (fJ (fY A_28 Z_28 rfl (i:=2) rfl rfl) ?_) (fJ (fQ rfl) ?_)))))))
  ·exact (fun v V h=>by rw [Ke,Mn,fF,fF,if_neg hne,if_neg hne]; exact h)
  ·exact (bE he.symm)
 ·have hfx : Ae z fz port 2 = 0 := by simpa using hc
  obtain ⟨_,hb2,hzz⟩:=a5Z hfx
  obtain ⟨p,hp⟩:∃ p,p = (port - 1).toNat:=⟨_,rfl⟩
  have hpe:port - 1 = (p:Int):=by omega
  have hpl:p < z.length:=by omega
  have hspr:=hs.row hpl
  haveI:=hfs.get hL p p; haveI:=hff.get hL 1 1; haveI:=hff.get hL 0 0; haveI:=hff.get hL 0 1; haveI:=hff.get hL 1 0
  refine cU (cK (Y.D_start (m:=23) [] (bY (Ei:=[(8,_)]) rfl rfl (bQ (bJ rfl rfl) bX) rfl rfl (dX rfl (gP U_191 Z_190 (Ht rfl) (cJ 0) rfl (by decide) rfl)) (bY (Ei:=[(28,_)]) rfl rfl (bQ (bZ 0 rfl rfl) bX) rfl rfl (dX rfl (gP U_190 Z_60 (Ht rfl) (cJ 0) rfl (by decide) rfl)) (bY (Ei:=[(29,_)]) rfl rfl (bQ (bZ 1 rfl rfl) bX) rfl rfl (dX rfl (eG A_60 Z_60 (Ht rfl) (i:=3) rfl rfl rfl)) ?_)))))
  refine bY (Ei:=[(8,_)]) rfl rfl (bQ (bJ rfl rfl) bX) rfl rfl (dX rfl (gP U_191 Z_190 (Ht rfl) (cJ 0) rfl (by decide) rfl)) (bY (Ei:=[(31,_)]) rfl rfl (bQ (bZ 3 rfl rfl) bX) rfl rfl (dX rfl (gP U_190 Z_60 (Ht rfl) (cJ 1) rfl (by decide) rfl)) (bY (Ei:=[(32,_)]) rfl rfl (bQ (bZ 4 rfl rfl) bX) rfl rfl (dX rfl (eG A_60 Z_60 (Ht rfl) (i:=3) rfl rfl rfl)) (bY (Ei:=[(8,_)]) rfl rfl (bQ (bJ rfl rfl) bX) rfl rfl (dX rfl (gP U_191 Z_190 (Ht rfl) (cJ 1) rfl (by decide) rfl)) ?_)))
  refine bY (Ei:=[(34,_)]) rfl rfl (bQ (bZ 6 rfl rfl) bX) rfl rfl (dX rfl (gP U_190 Z_60 (Ht rfl) (cJ 0) rfl (by decide) rfl)) (bY (Ei:=[(35,_)]) rfl rfl (bQ (bZ 7 rfl rfl) bX) rfl rfl (dX rfl (eG A_60 Z_60 (Ht rfl) (i:=3) rfl rfl rfl)) (bY (Ei:=[(8,_)]) rfl rfl (bQ (bJ rfl rfl) bX) rfl rfl (dX rfl (gP U_191 Z_190 (Ht rfl) (cJ 1) rfl (by decide) rfl)) (bY (Ei:=[(37,_)]) rfl rfl (bQ (bZ 9 rfl rfl) bX) rfl rfl (dX rfl (gP U_190 Z_60 (Ht rfl) (cJ 1) rfl (by decide) rfl)) ?_)))
  refine bY (Ei:=[(38,_)]) rfl rfl (bQ (bZ 10 rfl rfl) bX) rfl rfl (dX rfl (eG A_60 Z_60 (Ht rfl) (i:=3) rfl rfl rfl)) (bY (Ei:=[(1,_)]) rfl rfl (bQ (bJ rfl rfl) bX) rfl rfl (dX rfl (cX (Ht rfl))) (bY (Ei:=[(40,_)]) rfl rfl (bQ (bZ 12 rfl rfl) bX) rfl rfl (dX rfl (jJ (Ht rfl) cV (r:=((p:Nat):Int)) ((Ew (z:=port - 1) zo).trans zo))) ?_))
  refine Y.D_newp (Ei:=[]) (fun bb=>box bb 60 (nb (gm f 0 0))) 19 rfl rfl rfl bX rfl rfl (by kernel_rfl) (eK (Ts:=[Is (.bool false),Is (.slice none 0 0),Is (.bool false),Is (.slice none 0 0),Is (.slice none 0 0)]) O_60 rfl (fun V=>aW zd (aW zd (aW zd (aW zd (aW zd (aG))))))) (Y.D_newp (Ei:=[]) (fun bb=>box bb 60 (nb (gm f 0 1))) 20 rfl rfl rfl bX rfl rfl (by kernel_rfl) (eK (Ts:=[Is (.bool false),Is (.slice none 0 0),Is (.bool false),Is (.slice none 0 0),Is (.slice none 0 0)]) O_60 rfl (fun V=>aW zd (aW zd (aW zd (aW zd (aW zd (aG))))))) ?_)
  refine Y.D_newp (Ei:=[]) (fun bb=>box bb 60 (nb (gm f 1 0))) 21 rfl rfl rfl bX rfl rfl (by kernel_rfl) (eK (Ts:=[Is (.bool false),Is (.slice none 0 0),Is (.bool false),Is (.slice none 0 0),Is (.slice none 0 0)]) O_60 rfl (fun V=>aW zd (aW zd (aW zd (aW zd (aW zd (aG))))))) (Y.D_newp (Ei:=[]) (fun bb=>box bb 60 (nb (gm f 1 1))) 22 rfl rfl rfl bX rfl rfl (by kernel_rfl) (eK (Ts:=[Is (.bool false),Is (.slice none 0 0),Is (.bool false),Is (.slice none 0 0),Is (.slice none 0 0)]) O_60 rfl (fun V=>aW zd (aW zd (aW zd (aW zd (aW zd (aG))))))) ?_)
  refine Y.D_new (Ei:=[]) rfl rfl rfl bX rfl rfl (eK (Ts:=[Is (.int .i64 0)]) O_3 rfl (fun V=>aW zd (aG))) (Y.D_putN (Ei:=[(30,_)]) 14 rfl rfl rfl rfl rfl rfl (bQ (bZ 2 rfl rfl) bX) (fun bb=>pT Z_60 (Ht rfl) (Ht rfl) rfl (i:=0) rfl (aK rfl) rfl rfl) (Y.D_putN (Ei:=[(33,_)]) 15 rfl rfl rfl rfl rfl rfl (bQ (bZ 5 rfl rfl) bX) (fun bb=>pT Z_60 (Ht rfl) (Ht rfl) rfl (i:=0) rfl (aK rfl) rfl rfl) (Y.D_putN (Ei:=[(36,_)]) 16 rfl rfl rfl rfl rfl rfl (bQ (bZ 8 rfl rfl) bX) (fun bb=>pT Z_60 (Ht rfl) (Ht rfl) rfl (i:=0) rfl (aK rfl) rfl rfl) ?_)))
  refine Y.D_putN (Ei:=[(39,_)]) 17 rfl rfl rfl rfl rfl rfl (bQ (bZ 11 rfl rfl) bX) (fun bb=>pT Z_60 (Ht rfl) (Ht rfl) rfl (i:=0) rfl (aK rfl) rfl rfl) (Y.D_done aT rfl (by kernel_rfl) rfl (by simp [Y.okP]) rfl rfl (bU (bU (bU (bU (bU (bU (bU (bU (bU (bU (bU (bU (bU (bU (Y.F_newp (fun B10=>Y.F_newp (fun B11=>Y.F_newp (fun B12=>Y.F_newp (fun B13=>Y.F_new (fun B14=>Y.F_putN (Y.F_putN (Y.F_putN (Y.F_putN (Y.F_nil ?_)))))))))))))))))))))))))
  refine oZ Z_3 (Ht rfl) (Ht rfl) (i:=8) rfl (aK rfl) rfl (eJ (cK (gW (i:=4) (tt:=10) rfl rfl jH (gW (i:=5) (tt:=11) rfl rfl jH (gW (i:=6) (tt:=12) rfl rfl jH (gW (i:=7) (tt:=13) rfl rfl jH (gW (i:=8) (tt:=14) rfl rfl kQ (gW (i:=0) (tt:=3) rfl rfl jH (bL [1,2] rfl (by decide) ?_)))))))))
  have hDf:=Hc (p:=p) hfs hff hL
  by_cases hD:mE s f p = Qi.zero
  ·refine Y.D_start (m := 25) [] (bY (Ei := [(3, _)]) rfl rfl (bQ (bJ rfl rfl) bX) rfl rfl (dX rfl (dJ A_28 Z_28 (Ht rfl))) (bY (Ei := [(14, _)]) rfl rfl (bQ (bJ rfl rfl) bX) rfl rfl (dX rfl (dJ A_3 Z_3 (Ht rfl))) (bY (Ei := []) rfl rfl bX rfl rfl (dX rfl (cZ Tryz.call118 (wL (n := 1) (by decide) (by decide)) ⟨(cJ 1), trivial⟩)) (bY (Ei := [(45, _)]) rfl rfl (bQ (bZ 2 rfl rfl) bX) rfl rfl (dX rfl (bA bP (Ht rfl))) ?_))))
   refine bY (Ei:=[(13,_)]) rfl rfl (bQ (bJ rfl rfl) bX) rfl rfl (dX rfl (dJ A_60 Z_60 (Ht rfl))) (bY (Ei:=[(47,_)]) rfl rfl (bQ (bZ 4 rfl rfl) bX) rfl rfl (dX rfl (bA bP (Ht rfl))) (bY (Ei:=[(3,_)]) rfl rfl (bQ (bJ rfl rfl) bX) rfl rfl (dX rfl (iC fC (Ht rfl) rfl)) (bY (Ei:=[(49,_)]) rfl rfl (bQ (bZ 6 rfl rfl) bX) rfl rfl (dX rfl (dJ A_26 Z_26 (Ht rfl))) (bY (Ei:=[(14,_)]) rfl rfl (bQ (bJ rfl rfl) bX) rfl rfl (dX rfl (dJ A_3 Z_3 (Ht rfl))) ?_))))
   refine bY (Ei:=[(50,_),(51,_)]) rfl rfl (bQ (bZ 7 rfl rfl) (bQ (bZ 8 rfl rfl) bX)) rfl rfl (dX rfl (dZ U_26 Z_25 (Ht rfl) (Ht rfl) rfl (eX (eQ (d:=[]) zo)))) (bY (Ei:=[(52,_)]) rfl rfl (bQ (bZ 9 rfl rfl) bX) rfl rfl (dX rfl (dJ A_25 Z_25 (Ht rfl))) (bY (Ei:=[(14,_)]) rfl rfl (bQ (bJ rfl rfl) bX) rfl rfl (dX rfl (dJ A_3 Z_3 (Ht rfl))) (bY (Ei:=[(53,_),(54,_)]) rfl rfl (bQ (bZ 10 rfl rfl) (bQ (bZ 11 rfl rfl) bX)) rfl rfl (dX rfl (dZ U_25 Z_60 (Ht rfl) (Ht rfl) rfl (eX (eQ (d:=Qi.zero) zo)))) ?_)))
   refine bY (Ei:=[(55,_)]) rfl rfl (bQ (bZ 12 rfl rfl) bX) rfl rfl (dX rfl (dJ A_60 Z_60 (Ht rfl))) (bY (Ei:=[(48,_),(56,_)]) rfl rfl (bQ (bZ 5 rfl rfl) (bQ (bZ 13 rfl rfl) bX)) rfl rfl (dX rfl (aP dH K_70 (kD (x:=gm f 1 1) (y:=gm s p p) (L:=L) (M:=L) zo) (Ht rfl) ⟨(Ht rfl),trivial⟩)) (bY (Ei:=[(46,_),(57,_)]) rfl rfl (bQ (bZ 3 rfl rfl) (bQ (bZ 14 rfl rfl) bX)) rfl rfl (dX rfl (aP jQ K_69 (tB (x:=Qi.ofInt 1) (y:=gm f 1 1 * gm s p p) (L:=1) (M:=L + L + 1) zo) (Ht rfl) ⟨(Ht rfl),trivial⟩)) ?_))
   refine bY (Ei:=[(43,_),(44,_),(58,_)]) rfl rfl (bQ (bZ 0 rfl rfl) (bQ (bZ 1 rfl rfl) (bQ (bZ 15 rfl rfl) bX))) rfl rfl (dX rfl (cZ Tryz.call134 (Tk (z:=z) (s:=s) (p:=p) (e:=mE s f p) (L:=L) (M:=2 * L + 3) hs hpl hz hfs hDf hL zo hD) ⟨(Ht rfl),(Ht rfl),(Ht rfl),trivial⟩)) (bY (Ei:=[(59,_)]) rfl rfl (bQ (bZ 16 rfl rfl) bX) rfl rfl (dX rfl (cX (Ht rfl))) (bY (Ei:=[(42,_)]) rfl rfl (bQ (bZ 17 rfl rfl) bX) rfl rfl (dX rfl (dY (Ht rfl) rfl)) ?_))
   refine bY (Ei:=[(42,_)]) rfl rfl (bQ (bZ 17 rfl rfl) bX) rfl rfl (dX rfl (dY (Ht rfl) rfl)) (bY (Ei:=[(42,_)]) rfl rfl (bQ (bZ 17 rfl rfl) bX) rfl rfl (dX rfl (dY (Ht rfl) rfl)) (Y.D_newp (Ei:=[]) (fun bb=>box bb 25 [aL []]) 23 rfl rfl rfl bX rfl rfl (by kernel_rfl) (eK (Ts:=[Is (.slice none 0 0)]) O_25 rfl (fun V=>aW zd (aG))) (Y.D_newp (Ei:=[]) (fun bb=>box bb 25 [aL []]) 24 rfl rfl rfl bX rfl rfl (by kernel_rfl) (eK (Ts:=[Is (.slice none 0 0)]) O_25 rfl (fun V=>aW zd (aG))) ?_)))
   refine Y.D_putN (Ei:=[(60,_)]) 21 rfl rfl rfl rfl rfl rfl (bQ (bZ 18 rfl rfl) bX) (fun bb=>Jh Z_25 (Ht rfl) (Ht rfl) (i:=0) rfl (aK rfl) rfl rfl) (Y.D_putN (Ei:=[(61,_)]) 22 rfl rfl rfl rfl rfl rfl (bQ (bZ 19 rfl rfl) bX) (fun bb=>Jh Z_25 (Ht rfl) (Ht rfl) (i:=0) rfl (aK rfl) rfl rfl) (Y.D_done aT rfl (by kernel_rfl) rfl (by simp [Y.okP]) rfl rfl (bU (bU (bU (bU (bU (bU (bU (bU (bU (bU (bU (bU (bU (bU (bU (bU (bU (bU (bU (bU (bU (Y.F_newp (fun B15=>Y.F_newp (fun B16=>Y.F_putN (Y.F_putN (Y.F_nil ?_))))))))))))))))))))))))))))
   refine ra rfl (eJ (cK (cK ?_)))
   have he:Bw z s fz f port = 6:=Qq hfx (by rw [← hp]; exact hD)
   have hne:Bw z s fz f port ≠ 0:=by rw [he]; decide
   refine cY (rm rfl (ro rfl (iH (Ht rfl) cV) (eJ (rS (Ht rfl) (by rfl) ?_))))
   refine ts (ro rfl (aM.imp (nA ) nG) (rm rfl (gZ Z_28 (Ht rfl) (Ht rfl) rfl (i:=1) rfl (aK rfl) rfl rfl (ra rfl (eJ (bM rfl (fJ (fY A_28 Z_28 rfl (i:=1) rfl rfl) ?_) (fJ (fQ rfl) ?_)))))))
   ·exact (fun v V h=>by rw [Ke,Mn,fF,fF,if_neg hne,if_neg hne]; exact h)
   ·exact (bE he.symm)
  ·refine Y.D_start (m := 25) [] (bY (Ei := [(3, _)]) rfl rfl (bQ (bJ rfl rfl) bX) rfl rfl (dX rfl (dJ A_28 Z_28 (Ht rfl))) (bY (Ei := [(14, _)]) rfl rfl (bQ (bJ rfl rfl) bX) rfl rfl (dX rfl (dJ A_3 Z_3 (Ht rfl))) (bY (Ei := []) rfl rfl bX rfl rfl (dX rfl (cZ Tryz.call118 (wL (n := 1) (by decide) (by decide)) ⟨(cJ 1), trivial⟩)) (bY (Ei := [(45, _)]) rfl rfl (bQ (bZ 2 rfl rfl) bX) rfl rfl (dX rfl (bA bP (Ht rfl))) ?_))))
   refine bY (Ei:=[(13,_)]) rfl rfl (bQ (bJ rfl rfl) bX) rfl rfl (dX rfl (dJ A_60 Z_60 (Ht rfl))) (bY (Ei:=[(47,_)]) rfl rfl (bQ (bZ 4 rfl rfl) bX) rfl rfl (dX rfl (bA bP (Ht rfl))) (bY (Ei:=[(3,_)]) rfl rfl (bQ (bJ rfl rfl) bX) rfl rfl (dX rfl (iC fC (Ht rfl) rfl)) (bY (Ei:=[(49,_)]) rfl rfl (bQ (bZ 6 rfl rfl) bX) rfl rfl (dX rfl (dJ A_26 Z_26 (Ht rfl))) (bY (Ei:=[(14,_)]) rfl rfl (bQ (bJ rfl rfl) bX) rfl rfl (dX rfl (dJ A_3 Z_3 (Ht rfl))) ?_))))
   refine bY (Ei:=[(50,_),(51,_)]) rfl rfl (bQ (bZ 7 rfl rfl) (bQ (bZ 8 rfl rfl) bX)) rfl rfl (dX rfl (dZ U_26 Z_25 (Ht rfl) (Ht rfl) rfl (eX (eQ (d:=[]) zo)))) (bY (Ei:=[(52,_)]) rfl rfl (bQ (bZ 9 rfl rfl) bX) rfl rfl (dX rfl (dJ A_25 Z_25 (Ht rfl))) (bY (Ei:=[(14,_)]) rfl rfl (bQ (bJ rfl rfl) bX) rfl rfl (dX rfl (dJ A_3 Z_3 (Ht rfl))) (bY (Ei:=[(53,_),(54,_)]) rfl rfl (bQ (bZ 10 rfl rfl) (bQ (bZ 11 rfl rfl) bX)) rfl rfl (dX rfl (dZ U_25 Z_60 (Ht rfl) (Ht rfl) rfl (eX (eQ (d:=Qi.zero) zo)))) ?_)))
   refine bY (Ei:=[(55,_)]) rfl rfl (bQ (bZ 12 rfl rfl) bX) rfl rfl (dX rfl (dJ A_60 Z_60 (Ht rfl))) (bY (Ei:=[(48,_),(56,_)]) rfl rfl (bQ (bZ 5 rfl rfl) (bQ (bZ 13 rfl rfl) bX)) rfl rfl (dX rfl (aP dH K_70 (kD (x:=gm f 1 1) (y:=gm s p p) (L:=L) (M:=L) zo) (Ht rfl) ⟨(Ht rfl),trivial⟩)) (bY (Ei:=[(46,_),(57,_)]) rfl rfl (bQ (bZ 3 rfl rfl) (bQ (bZ 14 rfl rfl) bX)) rfl rfl (dX rfl (aP jQ K_69 (tB (x:=Qi.ofInt 1) (y:=gm f 1 1 * gm s p p) (L:=1) (M:=L + L + 1) zo) (Ht rfl) ⟨(Ht rfl),trivial⟩)) ?_))
   refine bY (Ei:=[(43,_),(44,_),(58,_)]) rfl rfl (bQ (bZ 0 rfl rfl) (bQ (bZ 1 rfl rfl) (bQ (bZ 15 rfl rfl) bX))) rfl rfl (dX rfl (cZ Tryz.call134 (Tl (z:=z) (s:=s) (p:=p) (e:=mE s f p) (L:=L) (M:=2 * L + 3) hs hpl hz hfs hDf hL zo hD) ⟨(Ht rfl),(Ht rfl),(Ht rfl),trivial⟩)) (bY (Ei:=[(59,_)]) rfl rfl (bQ (bZ 16 rfl rfl) bX) rfl rfl (dX rfl (cX (Ht rfl))) (bY (Ei:=[(42,_)]) rfl rfl (bQ (bZ 17 rfl rfl) bX) rfl rfl (dX rfl (dY (Ht rfl) rfl)) ?_))
   refine bY (Ei:=[(42,_)]) rfl rfl (bQ (bZ 17 rfl rfl) bX) rfl rfl (dX rfl (dY (Ht rfl) rfl)) (bY (Ei:=[(42,_)]) rfl rfl (bQ (bZ 17 rfl rfl) bX) rfl rfl (dX rfl (dY (Ht rfl) rfl)) (Y.D_newp (Ei:=[]) (fun bb=>box bb 25 [aL (tab z.length fun i=>gm s i p / mE s f p)]) 23 rfl rfl rfl bX rfl rfl (by kernel_rfl) (eK (Ts:=[Is (.slice none 0 0)]) O_25 rfl (fun V=>aW zd (aG))) (Y.D_newp (Ei:=[]) (fun bb=>box bb 25 [aL (tab z.length fun j=>gm s p j / mE s f p)]) 24 rfl rfl rfl bX rfl rfl (by kernel_rfl) (eK (Ts:=[Is (.slice none 0 0)]) O_25 rfl (fun V=>aW zd (aG))) ?_)))
   refine Y.D_putN (Ei:=[(60,_)]) 21 rfl rfl rfl rfl rfl rfl (bQ (bZ 18 rfl rfl) bX) (fun bb=>Jh Z_25 (Ht rfl) (Ht rfl) (i:=0) rfl (aK rfl) rfl rfl) (Y.D_putN (Ei:=[(61,_)]) 22 rfl rfl rfl rfl rfl rfl (bQ (bZ 19 rfl rfl) bX) (fun bb=>Jh Z_25 (Ht rfl) (Ht rfl) (i:=0) rfl (aK rfl) rfl rfl) (Y.D_done aT rfl (by kernel_rfl) rfl (by simp [Y.okP]) rfl rfl (bU (bU (bU (bU (bU (bU (bU (bU (bU (bU (bU (bU (bU (bU (bU (bU (bU (bU (bU (bU (bU (Y.F_newp (fun B15=>Y.F_newp (fun B16=>Y.F_putN (Y.F_putN (Y.F_nil ?_))))))))))))))))))))))))))))
   refine ra rfl (eJ (cK (cK ?_)))
   have he:Bw z s fz f port = 0:=Yr hfx (by rw [← hp]; exact hD)
   refine gW (i:=2) (tt:=15) rfl rfl kQ (gW (i:=3) (tt:=16) rfl rfl kQ (cY (rm rfl (ro rfl (iH (Ht rfl) cV) (eJ (kA (Ht rfl) (by rfl) ?_))))))
   refine cU (cK (fV (m:=7) (dp 3 rfl (dJ A_28 Z_28 (Ht rfl)) (dp 14 rfl (dJ A_3 Z_3 (Ht rfl)) (dp 5 rfl (eW eE (Ht rfl) rfl) (dq 69 2 rfl (fX A_25 Z_25 (Ht rfl) (i:=0) rfl rfl) (dq 70 3 rfl (dZ U_25 Z_60 (Ht rfl) (cJ 0) rfl (eX (eQ (d:=Qi.zero) zo))) (dq 71 4 rfl (dJ A_60 Z_60 (Ht rfl)) (C.D_step (Ei:=[(14,_),(10,_),(11,_),(12,_),(16,_),(15,_),(3,_),(13,_)]) rfl rfl (bV (bK rfl rfl) (bV (bK rfl rfl) (bV (bK rfl rfl) (bV (bK rfl rfl) (bV (bK rfl rfl) (bV (bK rfl rfl) (bV (bK rfl rfl) (bV (bK rfl rfl) bW)))))))) (dX rfl (lO (γ:=Fin z.length × Fin z.length) (Ts:=fun x=>[NT .i64 x.1.1,NT .i64 x.2.1]) (U:=fun x=>aE (vQ s f p x.1.1 x.2.1)) Tryz.call136 (fun x=>Wp (z:=z) (s:=s) (f:=f) (p:=p) (L:=L) hs hpl x.1.2 x.2.2 hz hfs hff hL hLb hD) ⟨(Ht rfl),(Ht rfl),(Ht rfl),(Ht rfl),(Ht rfl),(Ht rfl),(Ht rfl),(Ht rfl),trivial⟩)) ?_)))))))))
   refine fG aT rfl (by kernel_rfl) (zF (aJ (aJ (aJ (aV (ro rfl (cZ Tryz.call135 (a4l (z:=z) (s:=s) (p:=p) (x:=gv fz 0) (F:=fun i j=>vQ s f p i j) hs hpl hz) ⟨(Ht rfl),(Ht rfl),(Ht rfl),(Ht rfl),trivial⟩) (gZ Z_28 (Ht rfl) (Ht rfl) rfl (i:=1) rfl (aK rfl) rfl rfl (ro rfl (cQ (cJ 0)) (eJ (bM rfl (fJ (fY A_28 Z_28 rfl (i:=1) rfl rfl) ?_) (fJ (fQ rfl) ?_)))))))))))
   ·exact (fun v V h=>by rw [Ke,Mn,fF,fF,if_pos he,if_pos he,← hp]; exact h)
   ·exact (bE he.symm)
theorem a1f {z fz:List Qi} {s f:List (List Qi)} {port:Int} {L:Nat} (hs:bT s z.length z.length) (hz1:1 ≤ z.length) (hz:z.length ≤ 1000) (hfs:aS s L) (hff:aS f L) (hfz:bR z L) (hfg:bR fz L) (hL:1 ≤ L) (hLb:L ≤ 60000) (hf:fz.length = 2 → bT f 2 2):bI Tryz.prog 36 [dO z s,aN .i64 port,dO fz f] (fE [dO (Ke z s fz f port) (Mn z s fz f port),aN .i64 (Bw z s fz f port)]):=by
 by_cases h2:fz.length = 2
 ·exact Wq hs hz1 hz hfs hff hfz hfg hL hLb h2 (hf h2)
 ·exact Wo hs hz1 hz hfs hff hfz hfg hL hLb h2
end
section
open Go Go.RowKit
section
variable {s f:List (List Qi)} {p n:Nat}
theorem sd4 (hp:p < n):gm (pO s f n) (n + 1) p = 0 ∧ gm (pO s f n) (n + 1) (n + 1) = gm f 1 1 ∧ gm (pO s f n) p (n + 1) = 0 ∧ gm (pO s f n) p p = gm s p p:=by
 refine ⟨?_,?_,?_,?_⟩
 ·rw [iE zo zo,if_neg zo,if_neg zo]; rfl
 ·rw [iE zo zo,if_neg zo,if_pos zo,show n + 1 - n = 1 by omega]
 ·rw [iE zo zo,if_pos hp,if_neg zo]; rfl
 ·rw [iE zo zo,if_pos hp,if_pos hp]
theorem Ou (hp:p < n):a0Z (gm (pO s f n)) p (n + 1) ↔ mE s f p ≠ 0:=by
 obtain ⟨b1,b2,b3,b4⟩:=sd4 (s:=s) (f:=f) hp
 have e:mE s f p = 1 - gm f 1 1 * gm s p p:=rfl
 constructor
 ·intro h hz
  rw [e] at hz
  obtain ⟨a1,a2⟩:=h (gm f 1 1) 1 (by rw [b1,b2]; grind) (by rw [b3,b4]; grind)
  have:=congrArg Qi.re a2; revert this; decide
 ·intro hD v0 v1 h0 h1
  rw [b1,b2] at h0
  rw [b3,b4] at h1
  have e2:v1 * mE s f p = 0:=by rw [e]; grind
  rcases jS e2 with k | k
  ·exact ⟨by rw [h0,k]; grind,k⟩
  ·exact absurd k hD
theorem a6I {x y:Nat} (hp:p < n) (hD:mE s f p ≠ 0) (hx:x < n) (hy:y < n):zD (pO s f n) [(p,n + 1)] 2 (if x = p then n else x) (if y = p then n else y) = vQ s f p x y:=by
 obtain ⟨b1,b2,b3,b4⟩:=sd4 (s:=s) (f:=f) hp
 obtain ⟨v0,v1,⟨h0,h1⟩,hX⟩:=a6e (b:=if y = p then n else y) ((Ou (s:=s) (f:=f) hp).2 hD)
 rw [hX]
 have e:mE s f p = 1 - gm f 1 1 * gm s p p:=rfl
 have u:=nF hD
 rw [b1,b2] at h0
 rw [b3,b4] at h1
 have gA : ∀ b, b < n + 2 → gm (pO s f n) (n + 1) b = if b < n then 0 else gm f 1 (b - n) := fun b hb => by
  rw [iE zo hb,if_neg zo]
  by_cases c:b < n
  ·rw [if_neg zo,if_pos c]; rfl
  ·rw [if_pos zo,if_neg c,show n + 1 - n = 1 by omega]
 have gB : ∀ a b, a < n → b < n + 2 → gm (pO s f n) a b = if b < n then gm s a b else 0 := fun a b ha hb => by
  rw [iE zo hb,if_pos ha]
  by_cases c:b < n
  ·rw [if_pos c,if_pos c]
  ·rw [if_neg c,if_neg c]; rfl
 have gC : ∀ b, b < n + 2 → gm (pO s f n) n b = if b < n then 0 else gm f 0 (b - n) := fun b hb => by
  rw [iE zo hb,if_neg zo]
  by_cases c:b < n
  ·rw [if_neg zo,if_pos c]; rfl
  ·rw [if_pos zo,if_neg c,Nat.sub_self]
 by_cases b:y = p
 ·rw [if_pos b] at h0 h1 ⊢
  rw [gA n zo,if_neg zo,Nat.sub_self] at h0
  rw [gB p n hp zo,if_neg zo] at h1
  have v0e : v0 = gm f 1 0 * Qi.inv (mE s f p) := by
   have k:v0 * mE s f p = gm f 1 0:=by rw [e]; clear u hX gA gB gC; grind
   rw [← k]
   have k2:v0 * mE s f p * Qi.inv (mE s f p) = v0 * (mE s f p * Qi.inv (mE s f p)):=by grind
   rw [k2,u]; grind
  have v1e:v1 = gm s p p * (gm f 1 0 * Qi.inv (mE s f p)):=by rw [h1,v0e]; grind
  by_cases a:x = p
  ·rw [if_pos a, gC n zo, gC p zo, gC (n + 1) zo, if_neg zo, if_pos hp, if_neg zo, Nat.sub_self, show n + 1 - n = 1 by omega, vQ, if_pos ⟨a, b⟩, v0e, v1e, Qi.div_def]
   clear u h0 h1 hX v0e v1e; grind
  ·rw [if_neg a, gB x n hx zo, gB x p hx zo, gB x (n + 1) hx zo, if_neg zo, if_pos hp, if_neg zo, vQ, if_neg (fun k => a k.1), if_pos b, v0e, Qi.div_def]
   clear u h0 h1 hX v0e v1e; grind
 ·rw [if_neg b] at h0 h1 ⊢
  rw [gA y zo,if_pos hy] at h0
  rw [gB p y hp zo,if_pos hy] at h1
  have v1e : v1 = gm s p y * Qi.inv (mE s f p) := by
   have k:v1 * mE s f p = gm s p y:=by rw [e]; clear u hX gA gB gC; grind
   rw [← k]
   have k2:v1 * mE s f p * Qi.inv (mE s f p) = v1 * (mE s f p * Qi.inv (mE s f p)):=by grind
   rw [k2,u]; grind
  have v0e:v0 = gm f 1 1 * (gm s p y * Qi.inv (mE s f p)):=by rw [h0,v1e]; grind
  by_cases a:x = p
  ·rw [if_pos a, gC y zo, gC p zo, gC (n + 1) zo, if_pos hy, if_pos hp, if_neg zo, show n + 1 - n = 1 by omega, vQ, if_neg (fun k => b k.2), if_neg b, if_pos a, v1e, Qi.div_def]
   clear u h0 h1 hX v0e v1e; grind
  ·rw [if_neg a, gB x y hx zo, gB x p hx zo, gB x (n + 1) hx zo, if_pos hy, if_pos hp, if_neg zo, vQ, if_neg (fun k => a k.1), if_neg b, if_neg a, v0e, Qi.div_def]
   clear u h0 h1 hX v0e v1e; grind
end
theorem Zt {n p:Nat} (hp:p < n):gY [p,n + 1] (n + 2) = tab n (skp p):=by
 rw [gY,if_pos (by simp),List.append_nil]
 have : ∀ k, k ≤ n + 1 → gY [p, n + 1] k = gY [p] k := fun k => by
  induction k with
  | zero=>intro _; rfl
  | succ k ih =>
   intro hk
   rw [gY,gY,ih zo]
   have e:(k ∈ [p,n + 1]) ↔ (k ∈ [p]):=by simp; omega
   by_cases c:k ∈ [p]
   ·rw [if_pos c,if_pos (e.2 c)]
   ·rw [if_neg c,if_neg fun h=>c (e.1 h)]
 rw [this (n + 1) (Nat.le_refl _),Ri,a1F zo]; rfl
section
variable {z fz:List Qi} {s f:List (List Qi)} {p n:Nat} (hz:z.length = n) (hfl:fz.length = 2) (hp:p < n) (hpz:gv fz 1 = gv z p)
theorem a6m (hz : z.length = n) (hfl : fz.length = 2) (hp : p < n) (hpz : gv fz 1 = gv z p) : zR (z ++ fz) (J1 p (n + 1)) = 0 := iM fun i hi => by
 obtain rfl:i = 0:=by simp at hi; omega
 refine a4K (l:=[]) rfl rfl (by rw [List.length_append]; omega) (by rw [List.length_append]; omega) (by simp) (by simp) zo ?_
 have e1:gv (z ++ fz) p = gv z p:=by simp [gv,List.getD,List.getElem?_append_left (show p < z.length by omega)]
 have e2 : gv (z ++ fz) (n + 1) = gv fz 1 := by
  subst hz
  simp only [gv,List.getD]
  rw [List.getElem?_append_right zo,show z.length + 1 - z.length = 1 by omega]
 rw [e1,e2,hpz]
theorem a6l (hz:z.length = n) (hfl:fz.length = 2) (hp:p < n) (hpz:gv fz 1 = gv z p):vX (z ++ fz) (pO s f n) (J1 p (n + 1)) = if mE s f p = 0 then 6 else 0:=by
 have hl:(z ++ fz).length = n + 2:=by rw [List.length_append]; omega
 have hj:Ef (z ++ fz) (J1 p (n + 1)) = 0:=a3H (a6m hz hfl hp hpz) (by rw [hl]; show ¬ (0 < 2 * 1 ∧ 2 * 1 = n + 2); omega)
 have hs:=Nu (S:=pO s f n) hj (by simp)
 have hi : Nw (z ++ fz) (pO s f n) (J1 p (n + 1)) = 0 ↔ a0Z (gm (pO s f n)) p (n + 1) := by
  have e:Nw (z ++ fz) (pO s f n) (J1 p (n + 1)) = kF (fun y=>kY (oF (pO s f n) (cF (J1 p (n + 1))) 2) (zT (pO s f n) (cF (J1 p (n + 1))) 2 ((dT (z ++ fz) (J1 p (n + 1))).getD y 0)) 2) (dT (z ++ fz) (J1 p (n + 1))).length:=rfl
  rw [e,a4G,hl,Zt hp,aC]
  exact Ub zo fun i=>by rw [a66]; exact Rr
 rw [hs]
 by_cases c:mE s f p = 0
 ·rw [if_pos c,if_neg fun k=>(Ou hp).1 (hi.1 k) c]
 ·rw [if_neg c,if_pos (hi.2 ((Ou hp).2 c))]
theorem Ov (hz : z.length = n) (hfl : fz.length = 2) (hp : p < n) (hpz : gv fz 1 = gv z p) (hD : mE s f p ≠ 0) :
  mX (vA (z ++ fz) (pO s f n) (J1 p (n + 1))) (Fi n p) = He s f p n ∧ mN (qX (z ++ fz) (pO s f n) (J1 p (n + 1))) (Fi n p) = z.set p (gv fz 0) ∧ (qX (z ++ fz) (pO s f n) (J1 p (n + 1))).length = n:=by
 have hl:(z ++ fz).length = n + 2:=by rw [List.length_append]; omega
 have hE:vX (z ++ fz) (pO s f n) (J1 p (n + 1)) = 0:=by rw [a6l hz hfl hp hpz,if_neg hD]
 obtain ⟨hS,hZ⟩:=a6k hE
 rw [hl,Zt hp,aC] at hS
 rw [hl,Zt hp] at hZ
 have hql:(Fi n p).length = n:=by rw [yK hp,aC]
 have hqa:∀ x,x < n → cO (Fi n p) x = sQ p x n:=fun x hx=>by rw [yK hp]; exact kV hx
 have hsk:∀ x,x < n → cO (tab n (skp p)) (sQ p x n) = if x = p then n else x:=fun x hx=>by rw [show cO (tab n (skp p)) (sQ p x n) = skp p (sQ p x n) from kV (Bx hx),Hd hp hx]
 refine ⟨?_,?_,by rw [hZ,show (mN (z ++ fz) (tab n (skp p))).length = (tab n (skp p)).length from aC _ _,aC]⟩
 ·rw [mX, hql]
  refine cR fun x hx=>cR fun y hy=>?_
  rw [hqa x hx,hqa y hy,hS,dR (Bx hx) (Bx hy),hsk x hx,hsk y hy]
  exact a6I hp hD hx hy
 ·rw [mN, hql]
  refine List.ext_getElem (by rw [aC,List.length_set,hz]) fun x h1 h2=>?_
  rw [aC] at h1
  rw [List.getElem_set]
  have e:(tab n fun i=>gv (qX (z ++ fz) (pO s f n) (J1 p (n + 1))) (cO (Fi n p) i))[x]'(by rw [aC]; exact h1) = gv (qX (z ++ fz) (pO s f n) (J1 p (n + 1))) (cO (Fi n p) x):=by simp [tab]
  rw [e,hqa x h1,hZ,mN,iN (by rw [aC]; exact Bx h1),hsk x h1]
  by_cases c:p = x
  ·rw [if_pos c,if_pos c.symm]; subst hz; simp only [gv,List.getD]; rw [List.getElem?_append_right (Nat.le_refl _),Nat.sub_self]
  ·rw [if_neg c,if_neg (Ne.symm c)]; simp [gv,List.getD,List.getElem?_append_left (show x < z.length by omega),show x < z.length by omega]
end
end
section
open Go Go.RowKit
section
variable {z:List Qi} {s:List (List Qi)}
end
def Rcp (z:List Qi) (s:List (List Qi)) (n:Nat):Prop:=∀ i,i < n → ∀ j,j < n → gm s i j * gv z j = gm s j i * gv z i
section
variable {z:List Qi} {S:List (List Qi)} {js:List (Int × Int)}
end
section
variable {z w:List Qi} {s:List (List Qi)} {n:Nat}
end
section
variable {z:List Qi} {s:List (List Qi)} {Q:List Nat}
theorem a0v (hs:bT s z.length z.length) (hl:Q.length = z.length) (hlt:∀ x,x ∈ Q → x < z.length) (hinj:∀ i j,i < z.length → j < z.length → cO Q i = cO Q j → i = j):mX (dB z s) Q = dB (mN z Q) (mX s Q):=by
 have hq:∀ i,i < z.length → cO Q i < z.length:=fun i hi=>nU hlt zo
 refine lB (n:=z.length) (m:=z.length) (by rw [← hl]; exact xO _ _) (by have:=qC (mN z Q) (mX s Q); rwa [rM,hl] at this) fun i hi j hj=>?_
 rw [rA (by rw [(xO s Q).1,rM]) (by rw [rM,hl]; exact hi) (by rw [rM,hl]; exact hj),rM,hl]
 have e1:gm (mX (dB z s) Q) i j = gm (dB z s) (cO Q i) (cO Q j):=dR zo zo
 have e2:∀ a k,a < z.length → k < z.length → gm (mX s Q) a k = gm s (cO Q a) (cO Q k):=fun a k ha hk=>dR zo zo
 have e3:∀ k,k < z.length → gv (mN z Q) k = gv z (cO Q k):=fun k hk=>iN zo
 have e4 : (aF z.length fun k => gm (mX s Q) i k * gv (mN z Q) k * (gm (mX s Q) j k).conj) = aF z.length fun k => gm s (cO Q i) k * gv z k * (gm s (cO Q j) k).conj := by
  rw [← a0h hl hlt hinj (fun k=>gm s (cO Q i) k * gv z k * (gm s (cO Q j) k).conj)]
  exact aA fun k hk=>by rw [e2 i k hi hk,e2 j k hj hk,e3 k hk]
 rw [e1,rA hs.1 (hq i hi) (hq j hj),e4,e3 i hi]
 congr 1
 by_cases c:i = j
 ·rw [if_pos c,if_pos (by rw [c])]
 ·rw [if_neg c,if_neg fun e=>c (hinj i j hi hj e)]
end
section
variable {q:List (List Qi)} {n:Nat}
end
end
section
open Go Go.RowKit
theorem Np {t y z:Qi} (h:t * y = z) (hy:¬ y = Qi.zero):z / y = t:=by
 have e:=rV (x:=z) (y:=y) hy
 have e2:(z / y - t) * y = 0:=by grind
 rcases jS e2 with k | k
 ·grind
 ·exact absurd k hy
section
variable (c x:List (List Qi)) (n:Nat)
end
section
variable {c x:List (List Qi)} {n:Nat}
end
section
variable (c x:List (List Qi)) (n:Nat)
end
section
variable {c x:List (List Qi)} {n:Nat}
end
section
variable {h:List (List Qi)} {n G V:Nat}
end
end
section
open Go Go.RowKit
def scF (k:Nat):Qi:=Qi.frac (k:Int) 0 1024
def zI (s:List (List Qi)) (n k:Nat):List (List Qi):=tab n fun i=>tab n fun j=>scF k * gm s i j
theorem xM (s:List (List Qi)) (n k:Nat):bT (zI s n k) n n:=bT.tab
theorem Sl {k:Nat} (h:k ≤ 9223372036854775807):aH (scF k) 2:=⟨Qi.Fit.frac zo zo (by decide) (by decide) (by decide) (by decide) (by decide)⟩
theorem Sm {s : List (List Qi)} {n k L : Nat} (hs : aS s L) (hL : 1 ≤ L) (h : k ≤ 9223372036854775807) : aS (zI s n k) (L + 3) := aS.tab fun i j _ _ => by
 haveI:=Sl h; haveI:=hs.get hL i j
 exact (fitMul (x:=scF k) (y:=gm s i j) (L:=2) (M:=L)).le zo
def Jf (p : Nat → Bool) : Nat → Nat → Nat → Nat
 | 0,lo,_=>lo
 | f + 1,lo,hi=>if lo < hi then (if p ((lo + hi + 1) / 2) = true then Jf p f ((lo + hi + 1) / 2) hi else Jf p f lo ((lo + hi + 1) / 2 - 1)) else lo
theorem a35 {p : Nat → Bool} : ∀ {f lo hi : Nat}, ¬ lo < hi → Jf p f lo hi = lo
 | 0,_,_,_=>rfl
 | f + 1,lo,hi,h=>by rw [Jf,if_neg h]
theorem a5o {p:Nat → Bool} {f lo hi:Nat} (hf:hi - lo ≤ f) (h:lo < hi) (k:p ((lo + hi + 1) / 2) = true):∃ g,hi - (lo + hi + 1) / 2 ≤ g ∧ Jf p f lo hi = Jf p g ((lo + hi + 1) / 2) hi:=by
 match f,hf with
 | 0,hf=>omega
 | f + 1,hf=>exact ⟨f,by omega,by rw [Jf,if_pos h,if_pos k]⟩
theorem a5n {p:Nat → Bool} {f lo hi:Nat} (hf:hi - lo ≤ f) (h:lo < hi) (k:¬ p ((lo + hi + 1) / 2) = true):∃ g,(lo + hi + 1) / 2 - 1 - lo ≤ g ∧ Jf p f lo hi = Jf p g lo ((lo + hi + 1) / 2 - 1):=by
 match f,hf with
 | 0,hf=>omega
 | f + 1,hf=>exact ⟨f,by omega,by rw [Jf,if_pos h,if_neg k]⟩
theorem Dg {p : Nat → Bool} {N : Nat} : ∀ {f lo hi : Nat}, hi - lo ≤ f → lo ≤ hi → hi ≤ N → (hi = N ∨ p (hi + 1) = false) → Jf p f lo hi ≤ N ∧ (Jf p f lo hi = N ∨ p (Jf p f lo hi + 1) = false)
 | 0, lo, hi, h0, h1, h2, h3 => by
  have:lo = hi:=by omega
  subst this
  exact ⟨h2,h3⟩
 | f + 1, lo, hi, h0, h1, h2, h3 => by
  rw [Jf]
  by_cases c:lo < hi
  ·rw [if_pos c]
   by_cases k:p ((lo + hi + 1) / 2) = true
   ·rw [if_pos k]; exact Dg zo zo h2 h3
   ·rw [if_neg k]
    refine Dg zo zo zo (.inr ?_)
    rw [show (lo + hi + 1) / 2 - 1 + 1 = (lo + hi + 1) / 2 by omega]
    simpa using k
  ·rw [if_neg c]
   have:lo = hi:=by omega
   subst this
   exact ⟨h2,h3⟩
def Ox (z:List Qi) (s:List (List Qi)):Nat:=Jf (fun k=>Er (Am z (zI s z.length k)) z.length) 1024 0 1024
theorem Lx (z:List Qi) (s:List (List Qi)):Ox z s ≤ 1024 ∧ (Ox z s = 1024 ∨ Er (Am z (zI s z.length (Ox z s + 1))) z.length = false):=Dg (N:=1024) (by decide) (by decide) (by decide) (.inl rfl)
end
section
open Go Go.RowKit
theorem Bn {x y:Qi} (hy:y.conj = y) (hne:¬ y = Qi.zero):(x / y).conj = x.conj / y:=by
 have e:=congrArg Qi.conj (rV (x:=x) hne)
 rw [fA,hy] at e
 exact (Np e hne).symm
theorem Sg {z : List Qi} {s : List (List Qi)} (hp : z.all jG = true) : mR (Am z s) z.length = true := decide_eq_true fun i hi k hk => by
 have hz : ∀ m, m < z.length → (gv z m).conj = gv z m := fun m hm => by
  rw [List.all_eq_true] at hp
  exact Fr (hp _ (by rw [show gv z m = z[m]'hm by simp [gv,List.getD,hm]]; exact List.getElem_mem _))
 have hn:∀ m,m < z.length → ¬ gv z m = Qi.zero:=fun m hm=>vF hp hm
 rw [Am,dR hi hk,dR hk hi,Cw,Cw,Bo,nB]
 have e1 : (if i = k then 1 / gv z i else (0 : Qi)) = (if k = i then 1 / gv z k else 0).conj := by
  by_cases e:i = k
  ·subst e; rw [if_pos rfl,Bn (hz i hi) (hn i hi),oD]
  ·rw [if_neg e,if_neg (Ne.symm e),fS]
 rw [← e1]
 congr 1
 exact aA fun m hm=>by rw [Bn (hz m hm) (hn m hm),fA,kW]; congr 1; grind
end
section
open Go Go.RowKit
def xW (n:Nat) (C:Nat → Nat → Qi):Prop:=∀ x:Nat → Qi,0 ≤ (kN n x x C).re
theorem Sq {n:Nat} {x y:Nat → Qi} {C:Nat → Nat → Qi}:sq n x y C = kN n (fun a=>(x a).conj) (fun a=>(y a).conj) C:=aA fun a _=>aA fun b _=>by rw [kW]
theorem Sd {h:List (List Qi)} {n:Nat} (hs:bT h n n):Er h n = true ↔ mR h n = true ∧ xW n (gm h):=by
 rw [a1I hs]
 refine and_congr Iff.rfl ⟨fun k x=>?_,fun k y=>by rw [Sq]; exact k _⟩
 have:=k fun a=>(x a).conj
 rw [Sq] at this
 simpa only [kW] using this
theorem a2N {x:Qi} (h:jG x = true):0 ≤ x.re:=by
 obtain ⟨d1,d2⟩:=wP x
 have dp:=tF x
 have ha:0 < x.a:=by simp only [jG,decide_eq_true_eq] at h; exact h.2
 have hb:(0:Rat) < ((x.a:Int):Rat):=by exact_mod_cast ha
 rcases Rat.le_total (a:=0) (b:=x.re) with k | k
 ·exact k
 ·have := Rat.mul_nonneg (show (0 : Rat) ≤ ((x.den : Int) : Rat) by grind) (show (0 : Rat) ≤ -x.re by grind)
  grind
def Wt (n:Nat) (d:Nat → Qi):Prop:=∀ i,i < n → (d i).conj = d i ∧ 0 ≤ (d i).re
theorem Zx {x y:Qi} (hx:x.conj = x) (h1:0 ≤ x.re) (h2:0 ≤ y.re):0 ≤ (x * y).re:=by
 have e:x.im = 0:=An hx.symm
 have:(x * y).re = x.re * y.re - x.im * y.im:=rfl
 rw [this,e]
 have:=Rat.mul_nonneg h1 h2
 grind
theorem a4V (y:Qi):0 ≤ (y * y.conj).re:=by
 have:(y * y.conj).re = y.re * y.re - y.im * -y.im:=rfl
 have p1:=nK y.re
 have p2:=nK y.im
 rw [this]; grind
theorem a0P (f : Nat → Qi) : ∀ n, (∀ i, i < n → 0 ≤ (f i).re) → 0 ≤ (aF n f).re
 | 0,_=>by show (0:Rat) ≤ (0:Qi).re; decide +kernel
 | n + 1, h => by
  rw [lQ]
  have a:=a0P f n fun i hi=>h i zo
  have b:=h n zo
  show 0 ≤ (aF n f).re + (f n).re
  grind
def uW (n:Nat) (d x:Nat → Qi):Qi:=aF n fun k=>x k * d k * (x k).conj
theorem a02 {n : Nat} {d x : Nat → Qi} (hd : Wt n d) : 0 ≤ (uW n d x).re := a0P _ n fun i hi => by
 have:=Zx (y:=x i * (x i).conj) (hd i hi).1 (hd i hi).2 (a4V _)
 rwa [show x i * d i * (x i).conj = d i * (x i * (x i).conj) by grind]
theorem a03 {n:Nat} {d x:Nat → Qi} (hd:Wt n d):(uW n d x).conj = uW n d x:=by
 rw [uW,nB]; exact aA fun i hi=>by rw [fA,fA,kW,(hd i hi).1]; grind
theorem a5U {n : Nat} {d e : Nat → Qi} {r : Nat → Nat → Qi} (hd : Wt n d) (he : Wt n e) (hde : ∀ i, i < n → d i * e i = 1)
  (h:∀ x:Nat → Qi,(uW n e fun u=>aF n fun a=>x a * (r u a).conj).re ≤ (uW n e x).re) (p:Nat → Qi) :
  (uW n d fun u=>aF n fun a=>p a * r a u).re ≤ (uW n d p).re:=by
 obtain ⟨P,hP⟩:∃ P:Nat → Qi,P = fun u=>aF n fun a=>p a * r a u:=⟨_,rfl⟩
 obtain ⟨x,hx⟩:∃ x:Nat → Qi,x = fun u=>d u * P u:=⟨_,rfl⟩
 obtain ⟨Q,hQ⟩:∃ Q:Nat → Qi,Q = fun u=>aF n fun a=>x a * (r u a).conj:=⟨_,rfl⟩
 have h0:=h x
 rw [← hQ] at h0
 rw [← hP]
 have e1 : uW n e x = uW n d P := aA fun k hk => by
  have:=hde k hk
  rw [hx]
  show d k * P k * e k * (d k * P k).conj = _
  rw [fA,(hd k hk).1]
  generalize (P k).conj = w
  have e2:d k * P k * e k * (d k * w) = (d k * e k) * (P k * d k * w):=by grind
  rw [e2,this]; grind
 have e2 : (aF n fun u => Q u * (p u).conj) = uW n d P := by
  rw [hQ]
  have t : ∀ u, u < n → (aF n fun a => x a * (r u a).conj) * (p u).conj = aF n fun a => x a * (p u * r u a).conj := fun u _ => by
   rw [← iV]; exact aA fun a _=>by rw [fA]; grind
  show (aF n fun u=>(aF n fun a=>x a * (r u a).conj) * (p u).conj) = _
  rw [aA t,iT]
  refine aA fun a _=>?_
  rw [jB,← nB,hx,hP]
  grind
 have e3 : uW n e (fun u => Q u - d u * p u) = uW n e Q - uW n d P - (uW n d P).conj + uW n d p := by
  rw [← e2,nB,uW,uW,Fw,Fw,uW,← kU]
  refine aA fun u hu=>?_
  have:=hde u hu
  rw [Bo,fA,fA,kW,(hd u hu).1]
  generalize (p u).conj = w
  generalize (Q u).conj = q
  have a1:(Q u - d u * p u) * e u * (q - d u * w) = Q u * e u * q - (d u * e u) * (Q u * w) - (d u * e u) * (p u * q) + (d u * e u) * (p u * d u * w):=by grind
  rw [a1,this]; grind
 have p0:=a02 (x:=fun u=>Q u - d u * p u) he
 rw [e3,a03 hd] at p0
 rw [e1] at h0
 generalize uW n e Q = A at *
 generalize uW n d P = B at *
 generalize uW n d p = D at *
 have:(A - B - B + D).re = A.re - B.re - B.re + D.re:=rfl
 grind
theorem Fs {n:Nat} {d x:Nat → Qi} {r:Nat → Nat → Qi}:kN n x x (fun a b=>(if a = b then d a else 0) - kN n (r a) (r b) (fun u v=>if u = v then d u else 0)) = uW n d x - uW n d fun u=>aF n fun a=>x a * r a u:=by
 rw [Lq,mV,xI,mV]; rfl
section
variable {z:List Qi} {s:List (List Qi)}
theorem Ct (hs:bT s z.length z.length) {x:Nat → Qi}:kN z.length x x (gm (dB z s)) = uW z.length (gv z) x - uW z.length (gv z) fun u=>aF z.length fun a=>x a * gm s a u:=by
 rw [← Fs]
 exact lK (fun _ _=>rfl) (fun _ _=>rfl) fun a b ha hb=>by rw [rA hs.1 ha hb,mV]
theorem Sf {x:Nat → Qi}:kN z.length x x (gm (Am z s)) = uW z.length (fun i=>Qi.inv (gv z i)) x - uW z.length (fun i=>Qi.inv (gv z i)) fun u=>aF z.length fun a=>x a * (gm s u a).conj:=by
 rw [← Fs (r:=fun a u=>(gm s u a).conj)]
 refine lK (fun _ _=>rfl) (fun _ _=>rfl) fun a b ha hb=>?_
 rw [mV,show gm (Am z s) a b = Cw z s a b z.length from dR ha hb,Cw]
 congr 1
 ·by_cases c : a = b
  ·rw [if_pos c,if_pos c,Qi.div_def]; grind
  ·rw [if_neg c,if_neg c]
 ·exact aA fun m _=>by rw [kW,Qi.div_def]; grind
theorem a0X (hp : z.all jG = true) : Wt z.length (gv z) := fun i hi => by
 have h:jG (gv z i) = true:=List.all_eq_true.1 hp _ (by rw [show gv z i = z[i] by simp [gv,List.getD,hi]]; exact List.getElem_mem hi)
 exact ⟨Fr h,a2N h⟩
theorem a5z (hp : z.all jG = true) : Wt z.length fun i => Qi.inv (gv z i) := fun i hi => by
 obtain ⟨h1,h2⟩:=a0X hp i hi
 have e:=nF (vF hp hi)
 have e2:=congrArg Qi.conj e
 rw [fA,h1,oD] at e2
 have hc : (Qi.inv (gv z i)).conj = Qi.inv (gv z i) := by
  generalize (Qi.inv (gv z i)).conj = w at *
  generalize Qi.inv (gv z i) = v at *
  have:w = w * (gv z i * v):=by rw [e]; grind
  rw [this,show w * (gv z i * v) = (gv z i * w) * v by grind,e2]; grind
 refine ⟨hc,?_⟩
 have hi0:(Qi.inv (gv z i)).im = 0:=An hc.symm
 have e3:=congrArg Qi.re e
 have e4:(gv z i * Qi.inv (gv z i)).re = (gv z i).re * (Qi.inv (gv z i)).re - (gv z i).im * (Qi.inv (gv z i)).im:=rfl
 rw [e4,hi0] at e3
 have e5:(1:Qi).re = 1:=rfl
 rw [e5] at e3
 rcases Rat.le_total (a:=0) (b:=(Qi.inv (gv z i)).re) with k | k
 ·exact k
 ·have:=Rat.mul_nonneg h2 (show (0:Rat) ≤ -(Qi.inv (gv z i)).re by grind); grind
theorem a2L (hs:bT s z.length z.length) (hp:z.all jG = true):xW z.length (gm (Am z s)) ↔ xW z.length (gm (dB z s)):=by
 have hw:=a0X hp
 have hv:=a5z hp
 have sub : ∀ A B : Qi, (0 ≤ (A - B).re) ↔ B.re ≤ A.re := fun A B => by
  have:(A - B).re = A.re - B.re:=rfl
  constructor <;> intro k <;> grind
 constructor
 ·intro h x
  rw [Ct hs,sub]
  exact a5U hw hv (fun i hi=>nF (vF hp hi)) (fun y=>(sub _ _).1 (by rw [← Sf]; exact h y)) x
 ·intro h x
  rw [Sf,sub]
  refine a5U (r:=fun a u=>(gm s u a).conj) hv hw (fun i hi=>by rw [Qi.mul_comm']; exact nF (vF hp hi)) (fun y=>?_) x
  have:=h y
  rw [Ct hs,sub] at this
  simpa only [kW] using this
theorem Gz (hs:bT s z.length z.length) (hp:z.all jG = true):Er (Am z s) z.length = true ↔ xW z.length (gm (dB z s)):=by
 rw [Sd (show bT (Am z s) z.length z.length from bT.tab),a2L hs hp]
 exact ⟨fun h=>h.2,fun h=>⟨Sg hp,h⟩⟩
end
theorem a2Q {p c : List (List Qi)} {N : Nat} (hc : c.length = N) (h : xW N (gm c)) : xW p.length (gm (lG p c)) := fun x => by
 rw [lK (p':=x) (q':=x) (C':=fun a b=>kN N (gm p a) (gm p b) (gm c)) (fun _ _=>rfl) (fun _ _=>rfl) fun a b ha hb=>rD hc ha hb,xI]
 exact h _
theorem a0n {a b : List (List Qi)} {x y : Nat} (ha : xW x (gm a)) (hb : xW y (gm b)) : xW (x + y) (gm (kO a b x y)) := fun p => by
 have z0:Qi.zero = (0:Qi):=rfl
 have e : kN (x + y) p p (gm (kO a b x y)) = kN x p p (gm a) + kN y (fun i => p (x + i)) (fun i => p (x + i)) (gm b) := by
  rw [kN,nM]
  congr 1
  ·refine aA fun i hi => ?_
   rw [nM,cL (m:=y) fun j hj=>by rw [iE zo zo,if_pos hi,if_neg zo,z0]; grind]
   rw [aA fun j hj=>by rw [iE (show i < x + y by omega) (show j < x + y by omega),if_pos hi,if_pos hj]]; grind
  ·refine aA fun i hi => ?_
   rw [nM,cL (m:=x) fun j hj=>by rw [iE zo zo,if_neg zo,if_neg zo,z0]; grind]
   rw [aA fun j hj=>by rw [iE (show x + i < x + y by omega) (show x + j < x + y by omega),if_neg zo,if_pos zo,Nat.add_sub_cancel_left,Nat.add_sub_cancel_left]]; grind
 rw [e]
 have h1:=ha p
 have h2:=hb fun i=>p (x + i)
 have:∀ A B:Qi,(A + B).re = A.re + B.re:=fun _ _=>rfl
 rw [this]; grind
theorem a2S {c : List (List Qi)} {N : Nat} {Q : List Nat} (hlt : ∀ x, x ∈ Q → x < N) (h : xW N (gm c)) : xW Q.length (gm (mX c Q)) := fun x => by
 rw [lK (p':=x) (q':=x) (C':=fun a b=>kN N (fun k=>if k = cO Q a then 1 else 0) (fun k=>if k = cO Q b then 1 else 0) (gm c)) (fun _ _=>rfl) (fun _ _=>rfl) fun a b ha hb=>?_,xI]
 ·exact h _
 ·rw [show gm (mX c Q) a b = gm c (cO Q a) (cO Q b) from dR ha hb, kN, cE (nU hlt ha) fun k _ hne => ?_, cE (nU hlt hb) fun k _ hne => ?_, if_pos rfl, if_pos rfl, oD]
  ·grind
  ·rw [if_neg hne,fS]; grind
  ·exact cL fun j _=>by rw [if_neg hne]; grind
section
variable {z w:List Qi} {S:List (List Qi)} {js:List (Int × Int)} {n:Nat}
theorem a5g (hS:bT S z.length z.length) (hE:vX z S js = 0) (hl:z.length ≤ 8) (h:xW z.length (gm (dB z S))):xW (qX z S js).length (gm (dB (qX z S js) (vA z S js))):=by
 obtain ⟨hd,hj6,hk,hne⟩:=xC hE hl
 rw [qX,vA,fF,fF,if_pos hE,if_pos hE]
 by_cases h0:js.length = 0
 ·rw [if_pos h0,if_pos h0]; exact h
 ·rw [if_neg h0, if_neg h0, ← Qc hS (zE hd) hk fun y hy => a63 hd hy]
  have:=a2Q (p:=yM S js z.length) (qC z S).1 h
  rwa [show (yM S js z.length).length = (Cf z js).length by rw [yM,List.length_map,Cf,mN,aC]; rfl] at this
theorem In {zb:List Qi} {a b:List (List Qi)} (ha:a.length = z.length) (hb:b.length = zb.length) (h1:xW z.length (gm (dB z a))) (h2:xW zb.length (gm (dB zb b))):xW (z ++ zb).length (gm (dB (z ++ zb) (kO a b z.length zb.length))):=by
 rw [Li ha hb,List.length_append]; exact a0n h1 h2
end
section
variable {z fz:List Qi} {s f:List (List Qi)} {p n:Nat}
theorem tK (hz : z.length = n) (hfl : fz.length = 2) (hp : p < n) (h8 : n + 2 ≤ 8) (hpz : gv fz 1 = gv z p) (hD : mE s f p ≠ 0) (hs : bT s n n) :
  vX (z ++ fz) (pO s f n) (J1 p (n + 1)) = 0 ∧ bT (vA (z ++ fz) (pO s f n) (J1 p (n + 1))) n n ∧ (qX (z ++ fz) (pO s f n) (J1 p (n + 1))).length = n
  ∧ (Fi n p).length = n ∧ (∀ x,x ∈ Fi n p → x < n) ∧ (∀ i j,i < n → j < n → cO (Fi n p) i = cO (Fi n p) j → i = j):=by
 have hE:vX (z ++ fz) (pO s f n) (J1 p (n + 1)) = 0:=by rw [a6l hz hfl hp hpz,if_neg hD]
 obtain ⟨-,-,hl⟩:=Ov (s:=s) (f:=f) hz hfl hp hpz hD
 have hzl:(z ++ fz).length = n + 2:=by rw [List.length_append]; omega
 have hJ:=(a4I (z:=z ++ fz) (S:=pO s f n) (js:=J1 p (n + 1)) (by rw [hzl]; exact mC _ _ _ _)).1
 rw [hl] at hJ
 have hq:∀ i,i < n → cO (Fi n p) i = sQ p i n:=fun i hi=>by rw [yK hp]; exact kV hi
 refine ⟨hE,hJ,hl,by rw [yK hp,aC],fun x hx=>?_,fun i j hi hj e=>?_⟩
 ·rw [yK hp] at hx
  obtain ⟨i,hi,rfl⟩:=eS.1 hx
  exact Bx hi
 ·rw [hq i hi, hq j hj] at e
  have a:=Hd hp hi
  have b:=Hd hp hj
  rw [e] at a
  have:(if i = p then n else i) = if j = p then n else j:=a.symm.trans b
  by_cases c:i = p
  ·by_cases d : j = p
   ·omega
   ·rw [if_pos c,if_neg d] at this; omega
  ·by_cases d : j = p
   ·rw [if_neg c,if_pos d] at this; omega
   ·rw [if_neg c,if_neg d] at this; omega
theorem a0e (hz : z.length = n) (hfl : fz.length = 2) (hp : p < n) (h8 : n + 2 ≤ 8) (hpz : gv fz 1 = gv z p) (hD : mE s f p ≠ 0) (hs : bT s n n) :
  dB (z.set p (gv fz 0)) (He s f p n) = mX (dB (qX (z ++ fz) (pO s f n) (J1 p (n + 1))) (vA (z ++ fz) (pO s f n) (J1 p (n + 1)))) (Fi n p):=by
 obtain ⟨hE,hJ,hl,q1,q2,q3⟩:=tK hz hfl hp h8 hpz hD hs
 obtain ⟨g1,g2,-⟩:=Ov (s:=s) (f:=f) hz hfl hp hpz hD
 rw [a0v (by rw [hl]; exact hJ) (by rw [hl]; exact q1) (by rw [hl]; exact q2) (by rw [hl]; exact q3),g1,g2]
theorem a5f (hz : z.length = n) (hfl : fz.length = 2) (hp : p < n) (h8 : n + 2 ≤ 8) (hpz : gv fz 1 = gv z p) (hD : mE s f p ≠ 0) (hs : bT s n n) (hf : bT f 2 2)
  (h1:xW n (gm (dB z s))) (h2:xW 2 (gm (dB fz f))):xW n (gm (dB (z.set p (gv fz 0)) (He s f p n))):=by
 obtain ⟨hE,hJ,hl,q1,q2,q3⟩:=tK hz hfl hp h8 hpz hD hs
 have hzl:(z ++ fz).length = n + 2:=by rw [List.length_append]; omega
 rw [a0e hz hfl hp h8 hpz hD hs]
 have a:=In (z:=z) (zb:=fz) (a:=s) (b:=f) (by rw [hs.1,hz]) (by rw [hf.1,hfl]) (by rw [hz]; exact h1) (by rw [hfl]; exact h2)
 rw [hz,hfl] at a
 have b:=a5g (js:=J1 p (n + 1)) (by rw [hzl]; exact mC _ _ _ _) hE zo a
 rw [hl] at b
 have d:=a2S q2 b
 rwa [q1] at d
end
section
variable {z:List Qi} {s:List (List Qi)} {g:Qi} {p n:Nat}
end
theorem Ix {p : Nat → Bool} : ∀ {f lo hi : Nat}, p lo = true → p (Jf p f lo hi) = true
 | 0,_,_,h=>h
 | f + 1, lo, hi, h => by
  rw [Jf]
  by_cases c:lo < hi
  ·rw [if_pos c]
   by_cases k:p ((lo + hi + 1) / 2) = true
   ·rw [if_pos k]; exact Ix k
   ·rw [if_neg k]; exact Ix h
  ·rw [if_neg c]; exact h
theorem a34 {z:List Qi} {s:List (List Qi)} (hp:z.all jG = true):Er (Am z (zI s z.length (Ox z s))) z.length = true:=by
 refine Ix (p:=fun k=>Er (Am z (zI s z.length k)) z.length) ?_
 rw [Gz (xM _ _ _) hp]
 intro x
 rw [Ct (xM _ _ _)]
 have e : (uW z.length (gv z) fun u => aF z.length fun a => x a * gm (zI s z.length 0) a u) = 0 := cL fun u hu => by
  have e0:(aF z.length fun a=>x a * gm (zI s z.length 0) a u) = 0:=cL fun a ha=>by rw [zI,dR ha hu,show scF 0 = 0 by decide +kernel]; grind
  show (aF z.length fun a=>x a * gm (zI s z.length 0) a u) * gv z u * (aF z.length fun a=>x a * gm (zI s z.length 0) a u).conj = 0
  rw [e0]; grind
 rw [e]
 have:=a02 (x:=x) (a0X hp)
 have e2 : (uW z.length (gv z) x - 0).re = (uW z.length (gv z) x).re := by
  have:uW z.length (gv z) x - 0 = uW z.length (gv z) x:=by grind
  rw [this]
 rw [e2]; exact this
end
section
open Go Go.RowKit
theorem Mv {n : Nat} {E : dC} {H : Hp} {d : Option Tmp} {t : TypeId} {pos : String} {af : Array Edge} {g : Option (Nat × Bool)} {x0 x1 : Operand} {T0 T1 : Ty} [s0 : eA T0 1 false] (h0 : bH E x0 T0) [s1 : eA T1 1 false] (h1 : bH E x1 T1) :
  aM Tryz.prog n E H ⟨d,.build 64 #[(0,x0),(1,x1)],t,pos,af,g⟩ (fO [T0,T1]) :=
 kS (parts := [(0, x0), (1, x1)]) fun a V w hs => by
  have p0:=h0 n V a hs
  generalize e0:a.eval x0 = v0 at p0
  have q0:=(s0.ok v0 V p0).2.2 rfl
  have p1:=h1 n V a hs
  generalize e1:a.eval x1 = v1 at p1
  have q1:=(s1.ok v1 V p1).2.2 rfl
  refine ⟨.agg #[v0,v1],?_,[v0,v1],rfl,aW (⟨p0,q0⟩) (aW (⟨p1,q1⟩) (aG))⟩
  simp [e0,e1,Instr.build,Instr.fill,Sem.run_bind,Result.andThen,jM,q0.cells,q1.cells,O_64,U_64,Z_3]
end
section
open Go Go.RowKit
structure a3P (z:List Qi) (s:List (List Qi)) (L:Nat):Prop where
 fz:bR z L
 fs:aS s L
 hL:1 ≤ L
 hb:L ≤ 10000000000
 sh:bT s z.length z.length
 h8:z.length ≤ 8
 pos:z.all jG = true
 own:dB z s = Ml z.length z.length
 rc:Rcp z s z.length
theorem a3P.le {z:List Qi} {s:List (List Qi)} {L M:Nat} (k:a3P z s L) (h:L ≤ M) (h2:M ≤ 10000000000):a3P z s M:=⟨k.fz.le h,k.fs.le h,by have:=k.hL; omega,h2,k.sh,k.h8,k.pos,k.own,k.rc⟩
section
variable {z w zf:List Qi} {S F:List (List Qi)} {p q:Nat}
end
end
section
open Go Go.RowKit
theorem a1v {z:List Qi} {s:List (List Qi)} {i j k L:Nat} (hs:aS s L) (hL:1 ≤ L) (hLb:L ≤ 1000) (hk:k ≤ 1000000) (hsh:bT s z.length z.length) (hi:i < z.length) (hj:j < z.length):bI Tryz.prog 111 [NT .i64 i,NT .i64 j,PT (aE (scF k)),PT (dO z s)] (aE (scF k * gm s i j)):=by
 have hsl:=hsh.1
 have hsr:=hsh.row hi
 haveI f0:=Sl (k:=k) zo
 haveI f1:aH (gm s i j) L:=hs.get hL i j
 refine bI.intro Tryz.func111 rfl Tryz.ntmps111 rfl (fun cx=>(ts (rn rfl (eK (Ts:=[Is (.bool false),Is (.slice none 0 0),Is (.bool false),Is (.slice none 0 0),Is (.slice none 0 0)]) O_60 rfl (fun V=>aW zd (aW zd (aW zd (aW zd (aW zd (aG))))))) fun B6=>(eJ (cK (fV (m:=9) (dp 2 rfl (dJ A_60 Z_60 (Ht rfl)) (dp 3 rfl (iC fC (Ht rfl) rfl) (dq 8 1 rfl (dJ A_26 Z_26 (Ht rfl)) (dp 0 rfl (cX (Ht rfl)) ?_))))))))))
 refine dP 9 2 10 3 rfl (dZ U_26 Z_25 (Ht rfl) (Ht rfl) rfl (eX (eQ (d:=[]) zo))) (dq 11 4 rfl (dJ A_25 Z_25 (Ht rfl)) (dp 1 rfl (cX (Ht rfl)) (dP 12 5 13 6 rfl (dZ U_25 Z_60 (Ht rfl) (Ht rfl) rfl (eX (eQ (d:=Qi.zero) zo))) (dq 14 7 rfl (dJ A_60 Z_60 (Ht rfl)) (fG aT rfl (by kernel_rfl) (zF (zF (aJ (aV (ro rfl (cZ K_70 (kD (x:=scF k) (y:=gm s i j) (L:=2) (M:=L) zo) ⟨(Ht rfl),(Ht rfl),trivial⟩) ?_))))))))))
 refine gZ Z_60 (Ht rfl) (Ht rfl) rfl (i:=0) rfl (aK rfl) rfl rfl (eJ ?_)
 exact fK rfl (fY A_60 Z_60 rfl (i:=0) rfl rfl)
theorem a4i {z:List Qi} {s:List (List Qi)} {k L:Nat} (hs:aS s L) (hL:1 ≤ L) (hLb:L ≤ 1000) (hk:k ≤ 1000000) (hsh:bT s z.length z.length) (h8:z.length ≤ 8):bI Tryz.prog 107 [NT .i64 k,PT (dO z s)] (dO z (zI s z.length k)):=by
 refine bI.intro Tryz.func107 rfl Tryz.ntmps107 rfl (fun cx=>(ts (rn rfl (eK (Ts:=[Is (.slice none 0 0),Is (.slice none 0 0)]) O_28 rfl (fun V=>aW zd (aW zd (aG)))) fun B3=>(eJ (ts (rm rfl (ro rfl (cZ Tryz.call108 (a3u (p:=(k:Int)) (q:=0) (d:=1024) zo zo (by decide) (by decide) (by decide) (by decide) (by decide)) ⟨(Ht rfl),(cJ 0),(cJ 1024),trivial⟩) (rm rfl (ro rfl (dY (Ht rfl) rfl) (ro rfl (dY (Ht rfl) rfl) (rn rfl (eK (Ts:=[Is (.bool false),Is (.slice none 0 0),Is (.bool false),Is (.slice none 0 0),Is (.slice none 0 0)]) O_60 rfl (fun V=>aW zd (aW zd (aW zd (aW zd (aW zd (aG))))))) fun B4=>?_)))))))))))
 refine gZ Z_60 (Ht rfl) (Ht rfl) rfl (i:=1) rfl (aK rfl) rfl rfl (ra rfl (eJ (cK (gW (i:=1) (tt:=4) rfl rfl jH (fV (m:=7) (dp 1 rfl (iC eE (Ht rfl) rfl) (dq 11 0 rfl (dJ A_25 Z_25 (Ht rfl)) (dq 12 1 rfl (cZ Tryz.call109 (Pp (l:=z) zo) ⟨(Ht rfl),trivial⟩) (dp 1 rfl (iC eE (Ht rfl) rfl) (dq 14 3 rfl (dJ A_25 Z_25 (Ht rfl)) (dq 15 4 rfl (dU U_25 (Ht rfl) aD) (dpp 4 1 rfl (lO (γ:=Fin z.length × Fin z.length) (Ts:=fun x=>[NT .i64 x.1.1,NT .i64 x.2.1]) (U:=fun x=>aE (scF k * gm s x.1.1 x.2.1)) Tryz.call111 (fun x=>a1v (k:=k) hs hL hLb hk hsh x.1.2 x.2.2) ⟨(Ht rfl),(Ht rfl),trivial⟩) ?_))))))))))))
 refine fG aT rfl (by kernel_rfl) (zF (aJ (aJ (aJ (aV (ro rfl (cZ K_110 (yC (n:=z.length) (f:=fun i j=>scF k * gm s i j) zo) ⟨(Ht rfl),(Ht rfl),trivial⟩) (ro rfl (pV (Ht rfl) (Ht rfl)) (gZ Z_28 (Ht rfl) (Ht rfl) rfl (i:=0) rfl (aK rfl) rfl rfl (eJ ?_)))))))))
 exact fK rfl (fY A_28 Z_28 rfl (i:=0) rfl rfl)
theorem Wx {z:List Qi} {s:List (List Qi)} {L:Nat} (hz:bR z L) (hs:aS s L) (hL:1 ≤ L) (hLb:L ≤ 1000) (hp:z.all jG = true) (hsh:bT s z.length z.length) (h1:1 ≤ z.length) (h8:z.length ≤ 8):bI Tryz.prog 23 [dO z s] (fE [dO z (zI s z.length (Ox z s)),NT .i64 (Ox z s)]):=by
 have hz3:bR z (L + 3):=fun x hx=>(hz x hx).le zo
 have hsf:∀ k,k ≤ 1025 → aS (zI s z.length k) (L + 3):=fun k hk=>Sm hs hL zo
 have hss:=fun k=>xM s z.length k
 have hsd:∀ k,k ≤ 1025 → SzD (Am z (zI s z.length k)) z.length (dG (51 * (L + 3) + 43)) (dV (51 * (L + 3) + 43)):=fun k hk=>a6J (Iq _ _) (Ip hz3 (hsf k hk) zo hp h8) zo zo h8
 have hKb:=(Lx z s).1
 refine bI.intro Tryz.func23 rfl Tryz.ntmps23 rfl (fun cx=>(ts (rn rfl (fU (Ht rfl)) fun B1=>(rn rfl (eK (Ts:=[Is (.slice none 0 0),Is (.slice none 0 0)]) O_28 rfl (fun V=>aW zd (aW zd (aG)))) fun B2=>(ro rfl (cQ (cJ 0)) (eJ (cK (gW (i:=0) (tt:=1) rfl rfl jH (cY (ro rfl (lO (γ:={k:Nat // k ≤ 1025}) (Ts:=fun x=>[NT .i64 x.1]) (U:=fun x=>dO z (zI s z.length x.1)) Tryz.call107 (fun x=>a4i (k:=x.1) hs hL hLb zo hsh h8) ⟨(Ht rfl),trivial⟩) ?_))))))))))
 refine ra rfl (eJ (ts (ro rfl (cQ (cJ 0)) (ro rfl (cQ (cJ 1024)) (eJ (cK (eU (bL [1] rfl (by decide) ?_))))))))
 refine gN (fun (lo : Nat) (hi : Nat) => ((lo ≤ hi ∧ hi ≤ 1024) ∧ ∃ g, hi - lo ≤ g ∧ Jf (fun k => Er (Am z (zI s z.length k)) z.length) g lo hi = Ox z s)) (fun (lo : Nat) (hi : Nat) => hi - lo) (fun (lo : Nat) (hi : Nat) => [(2, bO B2 0), (4, xV Tryz.prog {k : Nat // k ≤ 1025} (fun x => [NT .i64 x.1]) (fun x => dO z (zI s z.length x.1))), (5, NT .i64 lo), (6, NT .i64 hi)]) (fun (lo : Nat) (hi : Nat) => [box B2 28 [Is (.slice none 0 0), Is (.slice none 0 0)]]) 0 1024 ⟨⟨by decide, by decide⟩, 1024, by decide, rfl⟩
  (zS rfl) (aU (aB rfl) aY) (fun lo hi ⟨⟨hlh,hh4⟩,g,hg,hK⟩=>?_)
 refine cK (ts (rm rfl (rm rfl (ro rfl (gJ (Ht rfl) (Ht rfl)) (eJ (dQ (Ht rfl) (fun hc=>?_) (fun hc=>?_)))))))
 ·have hlt : lo < hi := by simp only [decide_eq_true_eq] at hc; omega
  have u1:=a5o (p:=(fun k=>Er (Am z (zI s z.length k)) z.length)) hg hlt
  have u2:=a5n (p:=(fun k=>Er (Am z (zI s z.length k)) z.length)) hg hlt
  obtain ⟨m,hm⟩:∃ m,m = (lo + hi + 1) / 2:=⟨_,rfl⟩
  rw [← hm] at u1 u2
  have hm1:lo < m:=by omega
  have hm2:m ≤ hi:=by omega
  refine cU (eU (ts (rm rfl (rm rfl (ro rfl (dW (Ht rfl) (Ht rfl) z6) (ro rfl (dW (Ht rfl) (cJ 1) z6) (ro rfl (uK (Ht rfl) (cJ 2) zo z6) (ro rfl (aM.nat (cQ (Ht rfl)) hm.symm) (eJ (ts (rm rfl (rm rfl (ro rfl (nI ⟨m,by omega⟩ (Ht rfl) ⟨(Ht rfl),trivial⟩) (ro rfl (cZ Tryz.call16 (Ey hz3 (hsf m zo) zo zo (hss m) h8 hp (fun _=>hsd m zo)) ⟨(Ht rfl),trivial⟩) ?_))))))))))))))
  refine rm rfl (ro rfl (dY (Ht rfl) rfl) (ro rfl (dY (Ht rfl) rfl) (ra rfl (ra rfl (eJ (ts (rm rfl (eJ (dQ (Ht rfl) (fun hpp=>?_) (fun hpp=>?_))))))))))
  ·obtain ⟨g2, hg2, e2⟩ := u1 hpp
   refine cY (rm rfl (ra rfl (eJ (bD (gQ (m,hi) ⟨⟨hm2,hh4⟩,g2,hg2,by rw [← e2]; exact hK⟩ (by dsimp only; omega) (zS rfl) (aU (aB rfl) aY))))))
  ·obtain ⟨g2, hg2, e2⟩ := u2 (fun e => by
    have e3:Er (Am z (zI s z.length m)) z.length = true:=e
    rw [e3] at hpp; cases hpp)
   refine cY (rm rfl (ro rfl (dK (Ht rfl) (cJ 1) zo z6) (ra rfl (eJ (bD (gQ (lo,m - 1) ⟨⟨by omega,by omega⟩,g2,hg2,by rw [← e2]; exact hK⟩ (by dsimp only; omega) (zS rfl) (aU (aB rfl) aY)))))))
 ·have hge : ¬ lo < hi := by simp only [decide_eq_false_iff_not] at hc; omega
  have hk:=hK.symm.trans (a35 hge)
  rw [hk] at hKb ⊢
  refine gG rfl (ts (rm rfl (rm rfl (ro rfl (nI ⟨lo,by omega⟩ (Ht rfl) ⟨(Ht rfl),trivial⟩) (rm rfl (gZ Z_28 (Ht rfl) (Ht rfl) rfl (i:=0) rfl (aK rfl) rfl rfl (ra rfl (eJ ?_))))))))
  exact bM rfl (fY A_28 Z_28 rfl (i:=0) rfl rfl) (fQ rfl)
end
section
open Go Go.RowKit
theorem qI.eqv {r r':List Qi} {w:Nat} (h:qI r w) (e:∀ j,gv r' j = gv r j):qI r' w:=by
 obtain ⟨d,d0,dg,dj⟩:=h
 exact ⟨d,d0,dg,fun j=>by rw [e]; exact dj j⟩
def Wh (G V:List (List Qi)) (r:Nat):List Qi:=dS G r ++ (V.getD r []).map Qi.conj
theorem uZ {G V:List (List Qi)} {n r j:Nat} (hG:bT G n n) (hr:r < n) (hj:j < n):gv (Wh G V r) j = gm G r j:=Hl (by rw [show (dS G r).length = n from hG.row hr]; exact hj)
theorem Jk {G V:List (List Qi)} {n r j:Nat} (hG:bT G n n) (hr:r < n) (hV:(V.getD r []).length = n) (hj:j < n):gv (Wh G V r) (n + j) = (gv (V.getD r []) j).conj:=by
 have hl:(dS G r).length = n:=hG.row hr
 have e:=Hm (z:=dS G r) (zb:=(V.getD r []).map Qi.conj) (k:=j)
 rw [hl] at e
 rw [Wh,e]
 generalize V.getD r [] = v at *
 simp only [gv,List.getD,List.getElem?_map]
 rw [List.getElem?_eq_getElem (show j < v.length by omega)]
 rfl
theorem Wi {G V : List (List Qi)} {n r j : Nat} (hG : bT G n n) (hr : r < n) (hV : (V.getD r []).length = n) (hj : n + n ≤ j) : gv (Wh G V r) j = 0 := Hn (by
 have hl:(dS G r).length = n:=hG.row hr
 rw [Wh,List.length_append,List.length_map,hl,hV]; exact hj)
theorem Pk {G V:List (List Qi)} {n r:Nat} (hG:bT G n n) (hr:r < n) (hV:(V.getD r []).length = n):(Wh G V r).length = n + n:=by
 have hl:(dS G r).length = n:=hG.row hr
 rw [Wh,List.length_append,List.length_map,hl,hV]
theorem Qj {h : List (List Qi)} {n w : Nat} (hs : bT h n n) (hh : mR h n = true) (h0 : ∀ r, r < n → qI (Wh h (tN n) r) w) : ∀ i, i ≤ n → ∀ r, r < n → qI (Wh (fP h n i).1 (fP h n i).2 r) (Vu w i)
 | 0,_,r,hr=>h0 r hr
 | i + 1, hi, r, hr => by
  have ih:=Qj hs hh h0 i zo
  obtain ⟨sG,sV⟩:=pC hs i zo
  by_cases k:gm (fP h n i).1 i i = 0
  ·rw [rF k]; exact (ih r hr).le (by simp only [Vu]; omega)
  ·have hE1 : ∀ c, c < n → gm (Qf (fP h n i).1 n i) r c = if i < r ∧ i < c then gm (fP h n i).1 r c - gm (fP h n i).1 r i * (gm (fP h n i).1 i c / gm (fP h n i).1 i i) else gm (fP h n i).1 r c := fun c hc => by
    rw [Qf,wR,dR hr hc]
    by_cases a:i < r ∧ i < c
    ·rw [if_pos ⟨a,.inl hc⟩,if_pos a]
    ·rw [if_neg (fun b=>a b.1),if_neg a]
   have sE:bT (Qf (fP h n i).1 n i) n n:=qN _ _ _ _ _
   have hVr:∀ r,r < n → ((fP h n i).2.getD r []).length = n:=fun r hr=>sV.row hr
   have hV2 : (oP (fP h n i).1 (fP h n i).2 n i n).getD r [] = if i < r then Zy ((fP h n i).2.getD r []) (-(gm (fP h n i).1 i r / gm (fP h n i).1 i i)) ((fP h n i).2.getD i []) else (fP h n i).2.getD r [] := by
    rw [oP,kV hr]
    by_cases a:i < r
    ·rw [if_pos ⟨a,hr⟩,if_pos a]
    ·rw [if_neg (fun b=>a b.1),if_neg a]
   have hl2 : ((oP (fP h n i).1 (fP h n i).2 n i n).getD r []).length = n := by
    rw [hV2]; split
    ·rw [Aj]; exact hVr r hr
    ·exact hVr r hr
   rw [yG k]
   by_cases c:i < r
   ·have hrd := qI.red (P := fun j => i < j) (ih r hr) (ih i zo) (c := i) (by rw [uZ sG zo zo]; exact k)
    refine hrd.eqv fun j=>?_
    have hal:=Pk sG hr (hVr r hr)
    by_cases hj:j < n + n
    ·rw [iN (by rw [hal]; exact hj)]
     by_cases hjn:j < n
     ·rw [uZ sE hr hjn, hE1 j hjn, uZ sG hr hjn, uZ sG hr zo, uZ sG zo zo, uZ sG zo hjn]
      by_cases a:i < j
      ·rw [if_pos ⟨c,a⟩,if_pos a,Qi.div_def,Qi.div_def]; grind
      ·rw [if_neg (fun b=>a b.2),if_neg a]
     ·obtain ⟨j', rfl⟩ : ∃ j', j = n + j' := ⟨j - n, by omega⟩
      have hj':j' < n:=by omega
      rw [if_pos (show i < n + j' by omega),Jk sE hr hl2 hj',Jk sG hr (hVr r hr) hj',uZ sG hr zo,uZ sG zo zo,Jk sG zo (hVr i zo) hj',hV2,if_pos c]
      rw [Zy,iN (by rw [hVr r hr]; exact hj'),rE,fA]
      have e1 : (-(gm (fP h n i).1 i r / gm (fP h n i).1 i i)).conj = -(gm (fP h n i).1 r i / gm (fP h n i).1 i i) := by
       have a1:=tG hs hh (i:=i) (r:=r) (c:=i) zo zo hr (Nat.le_refl i) zo
       have a2:=tG hs hh (i:=i) (r:=i) (c:=i) zo (Nat.le_refl i) zo (Nat.le_refl i) zo
       have a3:=Bn (x:=gm (fP h n i).1 i r) a2.symm k
       have a4:∀ x:Qi,(-x).conj = -x.conj:=fun x=>Qi.ext' rfl rfl
       rw [a4,a3,← a1]
      rw [e1]; grind
    ·rw [Wi sE hr hl2 zo,Hn (by rw [aC,hal]; omega)]
   ·refine ((ih r hr).le (by simp only [Vu]; omega)).eqv fun j => ?_
    by_cases hjn:j < n
    ·rw [uZ sE hr hjn,hE1 j hjn,uZ sG hr hjn,if_neg (fun b=>c b.1)]
    ·by_cases hj : j < n + n
     ·obtain ⟨j', rfl⟩ : ∃ j', j = n + j' := ⟨j - n, by omega⟩
      rw [Jk sE hr hl2 zo,Jk sG hr (hVr r hr) zo,hV2,if_neg c]
     ·rw [Wi sE hr hl2 zo,Wi sG hr (hVr r hr) zo]
theorem a3L {h:List (List Qi)} {n L:Nat} (hs:bT h n n) (hh:mR h n = true) (hf:aS h L) (hL:1 ≤ L) (hLb:L ≤ 40000000) (hn:n ≤ 8):SzD h n (16384 * L + 1026) (16384 * L + 1026):=by
 have hi:aS (tN n) 1:=Hq (Nat.le_refl 1)
 have hb : ∀ r, r < n → qI (Wh h (tN n) r) (16 * L) := fun r hr => by
  have hl:=Pk hs hr (V:=tN n) ((uD n).row hr)
  refine (Sj hl (L:=L) (fun x hx=>?_) hL).le (Nat.mul_le_mul_right _ zo)
  rcases List.mem_append.1 hx with k | k
  ·exact hf.row r x k
  ·obtain ⟨y, hy, rfl⟩ := List.mem_map.1 k
   haveI:aH y 1:=hi.row r y hy
   exact (fitConj:aH y.conj 1).le hL
 have ha:=Qj hs hh hb
 have key : ∀ i, i ≤ n → ∀ r, r < n → bR (Wh (fP h n i).1 (fP h n i).2 r) (16384 * L + 1026) := fun i hi r hr x hx => by
  refine ((((ha i hi r hr).le (Nat.le_trans (xS _ hi) (xS _ hn))).fit x hx)).le ?_
  simp only [Vu]; omega
 refine ⟨fun i hi r hr x hx=>?_,fun i hi r hr x hx=>?_,by omega,by omega,by omega⟩
 ·obtain ⟨j, hj, e⟩ := List.getElem_of_mem hr
  have hl:=(pC hs i hi).1.1
  refine key i hi j zo x (List.mem_append_left _ ?_)
  rw [show dS (fP h n i).1 j = r by rw [← e]; simp [dS,List.getD,hj]]; exact hx
 ·obtain ⟨j, hj, e⟩ := List.getElem_of_mem hr
  have hl:=(pC hs i hi).2.1
  have:=key i hi j zo x.conj (List.mem_append_right _ (List.mem_map.2 ⟨x,by rw [show (fP h n i).2.getD j [] = r by rw [← e]; simp [List.getD,hj]]; exact hx,rfl⟩))
  rw [← kW x]; exact fitConj
end
section
open Go Go.RowKit
structure Qt (z:List Qi) (s:List (List Qi)) (L:Nat):Prop where
 fz:bR z L
 fs:aS s L
 hL:1 ≤ L
 hb:L ≤ 700000
 sh:bT s z.length z.length
 h8:z.length ≤ 8
 pos:z.all jG = true
theorem Qt.nil {L:Nat} (h:1 ≤ L) (h2:L ≤ 700000):Qt [] [] L:=⟨bR.nil,aS.nil,h,h2,⟨rfl,fun r hr=>by cases hr⟩,by simp,rfl⟩
theorem Qt.szd {z : List Qi} {s : List (List Qi)} {L : Nat} (k : Qt z s L) : SzD (Am z s) z.length (16384 * (51 * L + 43) + 1026) (16384 * (51 * L + 43) + 1026) :=
 a3L (Iq z s) (Sg k.pos) (Ip k.fz k.fs k.hL k.pos k.h8) zo (by have:=k.hb; omega) k.h8
theorem a2T {z:List Qi} {i:Nat} (hp:z.all jG = true) (hi:i < z.length):jG (gv z i) = true:=List.all_eq_true.1 hp _ (by rw [show gv z i = z[i] by simp [gv,List.getD,hi]]; exact List.getElem_mem hi)
section
variable {z w zf:List Qi} {S F:List (List Qi)} {p q:Nat} {g:Qi}
theorem a6i (k : Qt z S 5) (m : Qt zf F 5) (h2 : zf.length = 2) (h6 : z.length ≤ 6) (hp : p < z.length) (hpz : gv zf 1 = gv z p) (h : xW z.length (gm (dB z S))) (hf : xW zf.length (gm (dB zf F))) : bI Tryz.prog 36 [dO z S, NT .i64 (p + 1), dO zf F] (fE [dO (Ke z S zf F ((p + 1 : Nat) : Int)) (Mn z S zf F ((p + 1 : Nat) : Int)), aN .i64 (Bw z S zf F ((p + 1 : Nat) : Int))])
  ∧ Qt (Ke z S zf F ((p + 1:Nat):Int)) (Mn z S zf F ((p + 1:Nat):Int)) 200 ∧ (Bw z S zf F ((p + 1:Nat):Int) = 0 → xW (Ke z S zf F ((p + 1:Nat):Int)).length (gm (dB (Ke z S zf F ((p + 1:Nat):Int)) (Mn z S zf F ((p + 1:Nat):Int))))):=by
 have hsf:bT F 2 2:=by have:=m.sh; rwa [h2] at this
 have hpi:(((p + 1:Nat):Int) - 1).toNat = p:=by omega
 have hfx : Ae z zf ((p + 1 : Nat) : Int) 2 = 0 := by
  rw [Ae,if_neg (by rw [h2]; simp),if_neg (fun k=>k ⟨by omega,by omega⟩),if_pos]
  rw [hpi]; exact hpz
 have hl:(z.set p (gv zf 0)).length = z.length:=List.length_set
 refine ⟨a1f (z:=z) (fz:=zf) (s:=S) (f:=F) (port:=((p + 1:Nat):Int)) (L:=5) k.sh zo zo k.fs m.fs k.fz m.fz (by decide) (by decide) (fun _=>hsf),?_,fun hE=>?_⟩
 ·by_cases hE : Bw z S zf F ((p + 1 : Nat) : Int) = 0
  ·have hD : mE S F p ≠ Qi.zero := fun d => by
    have:=Qq (s:=S) (f:=F) hfx (by rw [hpi]; exact d)
    omega
   rw [Ke,Mn,fF,fF,if_pos hE,if_pos hE,hpi]
   refine ⟨fun x hx=>(List.mem_or_eq_of_mem_set hx).elim (fun j=>(k.fz x j).le (by decide)) fun e=>e ▸ (m.fz.get (by decide) 0).le (by decide),(Ys k.fs m.fs (by decide) hD).le (by decide),by decide,by decide,by rw [hl]; exact bT.tab,by have:=k.h8; omega,?_⟩
   rw [List.all_eq_true]
   intro x hx
   exact (List.mem_or_eq_of_mem_set hx).elim (fun j=>List.all_eq_true.1 k.pos x j) fun e=>e ▸ a2T m.pos zo
  ·rw [Ke,Mn,fF,fF,if_neg hE,if_neg hE]; exact Qt.nil (by decide) (by decide)
 ·have hD : mE S F p ≠ Qi.zero := fun d => by
   have:=Qq (s:=S) (f:=F) hfx (by rw [hpi]; exact d)
   omega
  rw [Ke,Mn,fF,fF,if_pos hE,if_pos hE,hpi,hl]
  rw [h2] at hf
  exact a5f rfl h2 hp zo hpz hD k.sh hsf h hf
end
end
section
open Go Go.RowKit
theorem Mz {z:List Qi} {s c:List (List Qi)} {L G0 V0:Nat} (hch:bT c z.length z.length) (hfc:aS c L) (hL:1 ≤ L) (hLb:L ≤ 4000000000000) (hz:mR c z.length = true → SzD c z.length G0 V0) (hl:z.length ≤ 32):bI Tryz.prog 45 [gK z s c] (fE [aI (Er c z.length),aL (dfW c z.length)]):=by
 refine bI.intro Tryz.func45 rfl Tryz.ntmps45 rfl (fun cx=>(ts (rn rfl (fU (Ht rfl)) fun B1=>(ro rfl (cQ cV) (ro rfl (cQ cV) (eJ (ts (ro rfl (eW nC (Ht rfl) rfl) (ro rfl (fX A_26 Z_26 (Ht rfl) (i:=0) rfl rfl) (ro rfl (cZ Tryz.call98 (Bf (n:=z.length) hch hfc hL hLb hz hl) ⟨(Ht rfl),trivial⟩) (rm rfl (ro rfl (dY (Ht rfl) rfl) (ro rfl (dY (Ht rfl) rfl) (ro rfl (dY (Ht rfl) rfl) (ra rfl (ra rfl (eJ (ts (rm rfl (rm rfl (ra rfl (ra rfl (eJ ?_)))))))))))))))))))))))
 exact bM rfl (fQ rfl) (fQ rfl)
end
section
open Go Go.RowKit
theorem To {r n:Nat} (hr:r ≤ 1000) (h1:1 ≤ n) (hn:n ≤ 1000):gM Tryz.prog 146 [NT .i64 r,NT .i64 n] [] (Nat) (fun B=>Is (.slice (some ⟨B,0,none⟩) r r)) (fun B=>[lT jD B 25 60 5 (bN aE (Ml r n))]) (fun _=>True):=by
 refine gM.intro Tryz.func146 rfl Tryz.ntmps146 rfl (fun cx Z=>(ts (ro rfl (cQ cV) (eJ (ts (rm rfl (rn rfl (iF (T:=Is (.slice none 0 0)) (i:=Tryz.t25) V_26 nD rfl rfl (Ht rfl) rfl (fun _=>rfl) trivial (by show 24 * _ ≤ _; omega) zo) fun B8=>(ra rfl (eJ (cK (ts (rm rfl (ro rfl (gI U_26 (Ht rfl)) (ro rfl (cX (cJ 0)) (eJ (eU (mH 1 rfl (wZ jD ⟨none,0,rfl⟩ (e:=60) (s:=5)) ?_)))))))))))))))))
 refine cB (fun (k : Nat) => k ≤ r) (fun (k : Nat) => r - k) (fun (k : Nat) => [(1, NT .i64 n), (5, Is (.slice (some ⟨B8, 0, none⟩) r r)), (10, NT .i64 r), (11, NT .i64 k)]) (fun (k : Nat) => [Z, lT jD B8 25 60 5 (bN aE (kR (fun _ => (tab n fun _ => Qi.zero)) [] r k))]) 0 (Nat.zero_le _)
  (zS rfl) (aU (fun _ _ _ h=>h) (aU (cA (by rw [← iO,kX]; exact mB aE r)) aY)) (fun k hk=>?_)
 refine ts (ro rfl (gJ (Ht rfl) (Ht rfl)) (eJ (cK (dQ (Ht rfl) (fun hd=>?_) (fun hd=>?_)))))
 ·simp only [decide_eq_true_eq] at hd
  refine mZ 1 (k) rfl (kP hd) (fun v hv=>(cU (cK (eU (ts (rm rfl (ra rfl (eJ (cY (rm rfl (rm rfl (ro rfl (cZ K_52 (oW (n:=0) (by decide) (by decide)) ⟨(cJ 0),trivial⟩) (ro rfl (cZ K_147 Ni ⟨(Ht rfl),trivial⟩) (ro rfl (cI (xs:=[.tmp 17]) U_25 Z_60 O_60 (cW (Ht rfl) cG) rfl rfl rfl) (rm rfl (jZ Tryz.call229 (Na (m:=n) h1 hn) ⟨(Ht rfl),(Ht rfl),trivial⟩ rfl (fun B20 _=>?_)))))))))))))))))
  have hB20:=B20.2
  refine ro rfl (gX U_26 Z_25 (Ht rfl) (Ht rfl) rfl zo (by rw [Nat.mul_one,Nat.zero_add])) ?_
  refine sX Z_25 (Ht rfl) (Ht rfl) (by simp only [bN,List.length_map,dD]; omega) (j:=1) (l:=3) rfl rfl rfl ?_
  refine eJ (bD (fR 1 3 rfl rfl (by decide) (by simp only [bN,List.length_map,dD]; omega) ?_))
  refine cY (ro rfl (dW (Ht rfl) (cJ 1) z6) (rm rfl (eJ (bL [0,1] rfl (by decide) (gQ (k + 1) hd zo (zS rfl) (aU (fun _ _ _ h=>h) (aU (cA (by rw [gS,← jI (f:=fun _=>(tab n fun _=>Qi.zero))])) aY)))))))
 ·simp only [decide_eq_false_iff_not] at hd
  obtain rfl:r = k:=Nat.le_antisymm zo hk
  refine gG rfl (ts (rm rfl (ra rfl (eJ ?_))))
  exact jC B8 trivial [0,1] ⟨⟨_,rfl,fun _ _ _ h=>h⟩,⟨_,rfl,(cA (by rw [jR]; rfl))⟩,trivial⟩ (by decide) (sK rfl (fQ rfl))
end
section
open Go Go.RowKit
theorem a4o {c cb:List (List Qi)} {x y i:Nat} (hc:bT c x x) (hi:i < x):(c.getD i []).map aE ++ ((tab (x + y) fun _=>Qi.zero).map aE).drop ((c.getD i []).map aE).length = (sT c cb x y i).map aE:=by
 have hr:=hc.row hi
 rw [List.length_map,hr,← List.map_drop,← List.map_append]
 congr 1
 refine List.ext_getElem (by rw [List.length_append,List.length_drop,hr,aC,sT,aC]; omega) fun j h1 h2=>?_
 have hj:j < x + y:=by rw [sT,aC] at h2; exact h2
 have e:(sT c cb x y i)[j] = if i < x then (if j < x then gm c i j else Qi.zero) else (if x ≤ j then gm cb (i - x) (j - x) else Qi.zero):=by simp [sT,tab]
 rw [e,if_pos hi]
 by_cases k:j < x
 ·rw [if_pos k,List.getElem_append_left zo]; simp [gm,List.getD,show j < (c[i]?.getD []).length by simpa [List.getD] using (by omega:j < (c.getD i []).length)]
 ·rw [if_neg k,List.getElem_append_right zo,List.getElem_drop]; simp [tab]
theorem a4p {c cb:List (List Qi)} {x y r:Nat} (hb:bT cb y y) (hr:r < y):((tab (x + y) fun _=>Qi.zero).map aE).take x ++ (cb.getD r []).map aE ++ ((tab (x + y) fun _=>Qi.zero).map aE).drop (x + ((cb.getD r []).map aE).length) = (sT c cb x y (x + r)).map aE:=by
 have hl:=hb.row hr
 rw [List.length_map,hl,← List.map_take,← List.map_drop,← List.map_append,← List.map_append,List.drop_eq_nil_of_le (by rw [aC]; exact Nat.le_refl _),List.append_nil]
 congr 1
 refine List.ext_getElem (by rw [List.length_append,List.length_take,hl,aC,sT,aC]; omega) fun j h1 h2=>?_
 have hj:j < x + y:=by rw [sT,aC] at h2; exact h2
 have e:(sT c cb x y (x + r))[j] = if x + r < x then (if j < x then gm c (x + r) j else Qi.zero) else (if x ≤ j then gm cb (x + r - x) (j - x) else Qi.zero):=by simp [sT,tab]
 rw [e,if_neg zo,Nat.add_sub_cancel_left]
 have htl:((tab (x + y) fun _=>Qi.zero).take x).length = x:=by rw [List.length_take,aC]; omega
 by_cases k:x ≤ j
 ·rw [if_pos k, List.getElem_append_right zo]
  simp only [htl]
  simp [gm,List.getD,show j - x < (cb[r]?.getD []).length by simpa [List.getD] using (by omega:j - x < (cb.getD r []).length)]
 ·rw [if_neg k,List.getElem_append_left zo,List.getElem_take]; simp [tab]
theorem Ro {l : List Qi} (h : 1 ≤ l.length) : l.map aE ≠ [] := fun e => by
 have h2:=congrArg List.length e
 rw [List.length_map,List.length_nil] at h2; omega
theorem Xe {z zb:List Qi} {a b c cb:List (List Qi)} (ha:bT a z.length z.length) (hb:bT b zb.length zb.length) (hc:bT c z.length z.length) (hcb:bT cb zb.length zb.length) (hx:z.length ≤ 100) (hy:zb.length ≤ 100):bI Tryz.prog 49 [gK z a c,gK zb b cb] (fE [gK (Mf z zb) (yV z zb a b) (yV z zb c cb),aN .i64 (Me z.length zb.length)]):=by
 have hcl:=hc.1
 have hbl:=hcb.1
 have hS:=a1j ha hb hx hy
 refine bI.intro Tryz.func49 rfl Tryz.ntmps49 rfl (fun cx=>(ts (rn rfl (fU (Ht rfl)) fun B2=>(rn rfl (fU (Ht rfl)) fun B3=>(rn rfl (eK (Ts:=[Is (.slice none 0 0),Is (.slice none 0 0),Is (.slice none 0 0)]) O_80 rfl (fun V=>aW zd (aW zd (aW zd (aG))))) fun B4=>(ro rfl (cQ (cJ 0)) (eJ (ts (ro rfl (eW pD (Ht rfl) rfl) (ro rfl (eG A_28 Z_28 (Ht rfl) (i:=0) rfl rfl rfl) (ro rfl (eW pD (Ht rfl) rfl) (ro rfl (eG A_28 Z_28 (Ht rfl) (i:=1) rfl rfl rfl) ?_))))))))))))
 refine ro rfl (cZ Tryz.call29 hS ⟨(Ht rfl),(Ht rfl),trivial⟩) (rm rfl (ro rfl (dY (Ht rfl) rfl) (ro rfl (dY (Ht rfl) rfl) (rn rfl (eK (Ts:=[Is (.slice none 0 0),Is (.slice none 0 0)]) O_28 rfl (fun V=>aW zd (aW zd (aG)))) fun B6=>(gZ Z_28 (Ht rfl) (Ht rfl) rfl (i:=3) rfl (aK rfl) rfl rfl (ra rfl (eJ (cK (ts (rm rfl (ro rfl (iH (Ht rfl) cV) (eJ (dQ (Ht rfl) (fun hb1=>?_) (fun hb1=>?_))))))))))))))
 ·have he : Me z.length zb.length ≠ 0 := by simpa using hb1
  refine ts (ro rfl (aM.imp (wI ) rK) (rm rfl (gZ Z_80 (Ht rfl) (Ht rfl) rfl (i:=2) rfl (aK rfl) rfl rfl (ra rfl (eJ (bM rfl (fJ (fY A_80 Z_80 rfl (i:=2) rfl rfl) ?_) (fQ rfl)))))))
  exact (fun v V h=>by rw [Mf,yV,yV,fF,fF,fF,if_neg he,if_neg he,if_neg he]; exact h)
 ·have he : Me z.length zb.length = 0 := by simpa using hb1
  have hz:Mf z zb = z ++ zb:=by rw [Mf,fF,if_pos he]
  have hs:yV z zb a b = kO a b z.length zb.length:=by rw [yV,fF,if_pos he]
  have hq:yV z zb c cb = kO c cb z.length zb.length:=by rw [yV,fF,if_pos he]
  rw [hz,hs,hq,he]
  obtain ⟨x,hxl⟩:∃ x,x = z.length:=⟨_,rfl⟩
  obtain ⟨y,hyl⟩:∃ y,y = zb.length:=⟨_,rfl⟩
  have hzl:(z ++ zb).length = x + y:=by rw [List.length_append,hxl,hyl]
  rw [← hxl,← hyl]
  rw [← hxl] at hc hcl hx
  rw [← hyl] at hcb hbl hy
  refine cU (cK (fV (m:=3) (dp 6 rfl (eG A_28 Z_28 (Ht rfl) (i:=3) rfl rfl rfl) (dq 25 0 rfl (aM.nat (cZ K_31 qK ⟨(Ht rfl),trivial⟩) hzl) (dp 6 rfl (eG A_28 Z_28 (Ht rfl) (i:=3) rfl rfl rfl) (fG aT rfl (by kernel_rfl) (aJ (aJ (aJ (aV (ro rfl (aM.nat (cZ K_31 qK ⟨(Ht rfl),trivial⟩) hzl) (rn rfl (yQ Tryz.call146 (Bj (n:=x + y) zo) ⟨(Ht rfl),(Ht rfl),trivial⟩) fun B29=>(ra rfl (eJ (cK (ts (ro rfl (eW nC (Ht rfl) rfl) ?_)))))))))))))))))
  refine ro rfl (fX A_26 Z_26 (Ht rfl) (i:=0) rfl rfl) (ro rfl (dU U_26 (Ht rfl) (by rw [List.length_map,hcl])) ?_)
  refine ro rfl (cX (cJ 0)) (eJ (eU ?_))
  refine cB (fun (i : Nat) => i ≤ x) (fun (i : Nat) => x - i) (fun (i : Nat) => [(2, bO B2 0), (3, bO B3 0), (4, bO B4 0), (6, bO B6 0), (8, Is (.slice (some ⟨B29, 0, none⟩) (x + y) (x + y))), (31, bC c), (32, NT .i64 x), (33, NT .i64 i)]) (fun (i : Nat) => [box B2 80 [aL z, bC a, bC c], box B3 80 [aL zb, bC b, bC cb], box B4 80 [Is (.slice none 0 0), Is (.slice none 0 0), Is (.slice none 0 0)], box B6 28 [aL (z ++ zb), bC (kO a b x y)], lT jD B29 25 60 5 (bN aE (kR (sT c cb x y) (tab (x + y) fun _ => Qi.zero) (x + y) i))]) 0 (Nat.zero_le _)
   (zS rfl) (aU (aB rfl) (aU (aB rfl) (aU (aB rfl) (aU (aB rfl) (aU (cA (by rw [Ml,iO])) aY))))) (fun i hi=>?_)
  refine ts (ro rfl (gJ (Ht rfl) (Ht rfl)) (eJ (cK (dQ (Ht rfl) (fun hd=>?_) (fun hd=>?_)))))
  ·have hdn : i < x := by simp only [decide_eq_true_eq] at hd; omega
   have hcr:=hc.row hdn
   refine mZ 4 (i) rfl (kP zo) (fun v0 hv0=>(cU (cK (eU (ts (rm rfl (ro rfl (dZ U_26 Z_25 (Ht rfl) (Ht rfl) rfl (eX (eQ (d:=[]) zo))) (ro rfl (dJ A_25 Z_25 (Ht rfl)) (ra rfl (ra rfl (eJ (cY (rm rfl (rm rfl (ro rfl (gX U_26 Z_25 (Ht rfl) (Ht rfl) rfl zo (by rw [Nat.mul_one,Nat.zero_add])) ?_)))))))))))))))
   refine ro rfl (jY A_25 Z_25 (Ht rfl) (j:=4) rfl) (rm rfl (a13 U_25 Z_60 (i:=5) rfl (Ht rfl) (Ht rfl) (Ro zo) (by rw [List.length_map,List.length_map,aC]; omega) (fun T hT=>by obtain ⟨x,_,rfl⟩:=List.mem_map.1 hT; exact El.ag rfl) rfl ?_))
   refine eJ (bD ?_)
   rw [a4o (cb:=cb) hc hdn]
   refine fR 4 5 rfl rfl (by decide) (by simp only [bN,List.length_map,dD]; omega) ?_
   refine cY (ro rfl (dW (Ht rfl) (cJ 1) z6) (rm rfl (eJ (bL [0,1,2,3,4] rfl (by decide) (gQ (i + 1) hdn zo (zS rfl) (aU (aB rfl) (aU (aB rfl) (aU (aB rfl) (aU (aB rfl) (aU (cA (by rw [gS,← jI (f:=sT c cb x y)])) aY))))))))))
  ·have hdn : i = x := by simp only [decide_eq_false_iff_not] at hd; omega
   rw [hdn]
   refine gG rfl (cK (ts (ro rfl (eW nC (Ht rfl) rfl) (ro rfl (fX A_26 Z_26 (Ht rfl) (i:=1) rfl rfl) (ro rfl (dU U_26 (Ht rfl) (by rw [List.length_map,hbl])) ?_)))))
   refine ro rfl (cX (cJ 0)) (eJ (eU (bL [0,1,2,3,4] rfl (by decide) ?_)))
   refine cB (fun (r : Nat) => r ≤ y) (fun (r : Nat) => y - r) (fun (r : Nat) => [(2, bO B2 0), (3, bO B3 0), (4, bO B4 0), (6, bO B6 0), (8, Is (.slice (some ⟨B29, 0, none⟩) (x + y) (x + y))), (46, bC cb), (47, NT .i64 y), (48, NT .i64 r)]) (fun (r : Nat) => [box B2 80 [aL z, bC a, bC c], box B3 80 [aL zb, bC b, bC cb], box B4 80 [Is (.slice none 0 0), Is (.slice none 0 0), Is (.slice none 0 0)], box B6 28 [aL (z ++ zb), bC (kO a b x y)], lT jD B29 25 60 5 (bN aE (kR (sT c cb x y) (tab (x + y) fun _ => Qi.zero) (x + y) (x + r)))]) 0 (Nat.zero_le _)
    (zS rfl) (aU (aB rfl) (aU (aB rfl) (aU (aB rfl) (aU (aB rfl) (aU (cA rfl) aY))))) (fun r hr=>?_)
   refine ts (ro rfl (gJ (Ht rfl) (Ht rfl)) (eJ (cK (dQ (Ht rfl) (fun hd2=>?_) (fun hd2=>?_)))))
   ·have hdn2 : r < y := by simp only [decide_eq_true_eq] at hd2; omega
    have hcr:=hcb.row hdn2
    refine mZ 4 ((x + r)) rfl (kP zo) (fun v0 hv0=>(cU (cK (eU (ts (rm rfl (ro rfl (dZ U_26 Z_25 (Ht rfl) (Ht rfl) rfl (eX (eQ (d:=[]) zo))) (ro rfl (dJ A_25 Z_25 (Ht rfl)) (ra rfl (ra rfl (eJ (fV (m:=13) (dp 8 rfl (cX (Ht rfl)) (dp 2 rfl (eW nC (Ht rfl) rfl) (dq 54 1 rfl (fX A_26 Z_26 (Ht rfl) (i:=0) rfl rfl) (dq 55 2 rfl (dU U_26 (Ht rfl) (by rw [List.length_map,hcl])) ?_))))))))))))))))
    refine dp 11 rfl (cX (Ht rfl)) (dP 56 3 57 4 rfl (dW (Ht rfl) (Ht rfl) z6) (dP 53 0 58 5 rfl (gX U_26 Z_25 (Ht rfl) (Ht rfl) rfl zo (by rw [Nat.mul_one,Nat.zero_add])) ?_))
    refine dq 59 6 rfl (jY A_25 Z_25 (Ht rfl) (j:=4) rfl) (dp 2 rfl (eW nC (Ht rfl) rfl) (dq 61 8 rfl (fX A_26 Z_26 (Ht rfl) (i:=0) rfl rfl) (dq 62 9 rfl (dU U_26 (Ht rfl) (by rw [List.length_map,hcl])) ?_)))
    refine dP 60 7 63 10 rfl (Lg U_25 Z_60 (Ht rfl) (Ht rfl) rfl (i:=5) rfl (by rw [List.length_map,aC]; omega)) ?_
    refine dp 12 rfl (cX (Ht rfl)) (fG aT rfl (by kernel_rfl) (zF (zF (zF (aJ (aV (a12 U_25 Z_60 (i:=5) rfl (Ht rfl) (Ht rfl) (Ro zo) (by rw [List.length_map,List.length_map,aC]; omega) (fun T hT=>by obtain ⟨x,_,rfl⟩:=List.mem_map.1 hT; exact El.ag rfl) rfl ?_)))))))
    refine eJ (bD ?_)
    rw [a4p (c:=c) hcb hdn2]
    refine fR 4 5 rfl rfl (by decide) (by simp only [bN,List.length_map,dD]; omega) ?_
    refine cY (ro rfl (dW (Ht rfl) (cJ 1) z6) (rm rfl (eJ (bL [0,1,2,3,4] rfl (by decide) (gQ (r + 1) hdn2 zo (zS rfl) (aU (aB rfl) (aU (aB rfl) (aU (aB rfl) (aU (aB rfl) (aU (cA (by rw [gS,jI (f:=sT c cb x y)]; rfl)) aY))))))))))
   ·have hdn2 : r = y := by simp only [decide_eq_false_iff_not] at hd2; omega
    rw [hdn2,jR,show tab (x + y) (sT c cb x y) = kO c cb x y from rfl]
    refine gG rfl (gW (i:=4) (tt:=8) rfl rfl (kG (s:=5) (M:=kO c cb x y) (aC _ _).symm) (ts (ro rfl (eG A_28 Z_28 (Ht rfl) (i:=3) rfl rfl rfl) (rm rfl (ro rfl (pW (Ht rfl) (Ht rfl)) (gZ Z_80 (Ht rfl) (Ht rfl) rfl (i:=2) rfl (aK rfl) rfl rfl (ro rfl (cQ (cJ 0)) (eJ ?_))))))))
    exact bM rfl (fY A_80 Z_80 rfl (i:=2) rfl rfl) (fQ rfl)
end
section
open Go Go.RowKit
theorem a0w {n:Nat} {l:List Int} (h:zU n l = 0):l.length = n ∧ sR n l = 0:=by
 by_cases c:l.length = n
 ·exact ⟨c,by rw [← Oo c]; exact h⟩
 ·rw [Lu c] at h; omega
theorem a4f {z:List Qi} {s c:List (List Qi)} {l:List Int} (hs:bT s z.length z.length) (hc:bT c z.length z.length) (hl:z.length ≤ 100) (hll:l.length ≤ 1000):bI Tryz.prog 60 [gK z s c,kB 1 (l.map (aN .i64))] (fE [gK (Ir z l) (xL z s l) (xL z c l),aN .i64 (zU z.length l)]):=by
 have hcl:=hc.1
 have hR:=a1i (z:=z) (s:=s) (l:=l) hs zo hll
 refine bI.intro Tryz.func60 rfl Tryz.ntmps60 rfl (fun cx=>(ts (rn rfl (fU (Ht rfl)) fun B2=>(rn rfl (eK (Ts:=[Is (.slice none 0 0),Is (.slice none 0 0),Is (.slice none 0 0)]) O_80 rfl (fun V=>aW zd (aW zd (aW zd (aG))))) fun B4=>(ro rfl (cQ (cJ 0)) (eJ (ts (ro rfl (eW pD (Ht rfl) rfl) (ro rfl (eG A_28 Z_28 (Ht rfl) (i:=0) rfl rfl rfl) (rm rfl (ro rfl (cZ Tryz.call85 hR ⟨(Ht rfl),(Ht rfl),trivial⟩) (rm rfl (ro rfl (dY (Ht rfl) rfl) ?_)))))))))))))
 refine ro rfl (dY (Ht rfl) rfl) (rn rfl (eK (Ts:=[Is (.slice none 0 0),Is (.slice none 0 0)]) O_28 rfl (fun V=>aW zd (aW zd (aG)))) fun B6=>(gZ Z_28 (Ht rfl) (Ht rfl) rfl (i:=2) rfl (aK rfl) rfl rfl (ra rfl (eJ (cK (ts (rm rfl (ro rfl (iH (Ht rfl) cV) (eJ (dQ (Ht rfl) (fun hb1=>?_) (fun hb1=>?_)))))))))))
 ·have he : zU z.length l ≠ 0 := by simpa using hb1
  refine ts (ro rfl (aM.imp (wI ) rK) (rm rfl (gZ Z_80 (Ht rfl) (Ht rfl) rfl (i:=1) rfl (aK rfl) rfl rfl (ra rfl (eJ (bM rfl (fJ (fY A_80 Z_80 rfl (i:=1) rfl rfl) ?_) (fQ rfl)))))))
  exact (fun v V h=>by rw [Ir,xL,xL,fF,fF,fF,if_neg he,if_neg he,if_neg he]; exact h)
 ·have he : zU z.length l = 0 := by simpa using hb1
  obtain ⟨hll2,hp⟩:=a0w he
  have hz:Ir z l = mN z (uX l):=by rw [Ir,fF,if_pos he]
  have hs2:xL z s l = mX s (uX l):=by rw [xL,fF,if_pos he]
  have hc2:xL z c l = mX c (uX l):=by rw [xL,fF,if_pos he]
  have hpi:=Cv hp
  have hQ:=a0m hp
  have hQl:=Cu l
  rw [hz,hs2,hc2,he]
  rw [hpi]
  generalize uX l = Q at *
  have hQn:Q.length = z.length:=by omega
  refine cU (ts (rm rfl (ro rfl (dU U_103 (Ht rfl) (show ((((Q.map Nat.succ).map (NT .i64)).length:Nat):Int) = ((Q.length:Nat):Int) by simp)) (rn rfl (iF (T:=Is (.slice none 0 0)) (i:=Tryz.t25) V_26 nD rfl rfl (Ht rfl) rfl (fun _=>rfl) trivial (by show 24 * _ ≤ _; omega) zo) fun B26=>(ra rfl (eJ (cK (ts (rm rfl (ro rfl (dU U_103 (Ht rfl) (show ((((Q.map Nat.succ).map (NT .i64)).length:Nat):Int) = ((Q.length:Nat):Int) by simp)) (ro rfl (cX (cJ 0)) (eJ (eU (mH 3 rfl (sB (e:=60) (s:=5)) ?_))))))))))))))
  refine cB (fun (i : Nat) => i ≤ Q.length) (fun (i : Nat) => Q.length - i) (fun (i : Nat) => [(1, eT (Q.map Nat.succ)), (2, bO B2 0), (4, bO B4 0), (6, bO B6 0), (8, Is (.slice (some ⟨B26, 0, none⟩) Q.length Q.length)), (27, eT (Q.map Nat.succ)), (28, NT .i64 Q.length), (29, NT .i64 i)]) (fun (i : Nat) => [box B2 80 [aL z, bC s, bC c], box B4 80 [Is (.slice none 0 0), Is (.slice none 0 0), Is (.slice none 0 0)], box B6 28 [aL (mN z Q), bC (mX s Q)], oH B26 25 60 5 (bN aE (kR (fun i => tab Q.length fun j => gm c (cO Q i) (cO Q j)) [] Q.length i))]) 0 (Nat.zero_le _)
   (zS rfl) (aU (aB rfl) (aU (aB rfl) (aU (aB rfl) (aU (cA (by rw [← iO,kX]; exact mB aE _)) aY)))) (fun i hi=>?_)
  refine ts (ro rfl (gJ (Ht rfl) (Ht rfl)) (eJ (cK (dQ (Ht rfl) (fun hd=>?_) (fun hd=>?_)))))
  ·have hdn : i < Q.length := by simp only [decide_eq_true_eq] at hd; omega
   have hqi:=nU hQ hdn
   have hcr:=hc.row hqi
   refine qJ 3 (i) rfl (kP hdn) (fun v=>(cU (cK (eU (ts (rm rfl (ro rfl (dZ U_103 Z_3 (Ht rfl) (Ht rfl) rfl (eX (nL hdn))) (ro rfl (dJ A_3 Z_3 (Ht rfl)) (ra rfl (ra rfl (eJ (ts (rm rfl (ro rfl (dU U_103 (Ht rfl) (show ((((Q.map Nat.succ).map (NT .i64)).length:Nat):Int) = ((Q.length:Nat):Int) by simp)) (ro rfl (cX (cJ 0)) (eJ (eU ?_)))))))))))))))))
   refine gN (fun (j : Nat) (v : Value) => j ≤ Q.length) (fun (j : Nat) (v : Value) => Q.length - j) (fun (j : Nat) (v : Value) => [(1, eT (Q.map Nat.succ)), (2, bO B2 0), (4, bO B4 0), (6, bO B6 0), (8, Is (.slice (some ⟨B26, 0, none⟩) Q.length Q.length)), (9, NT .i64 i), (10, NT .i64 (cO Q i + 1)), (27, eT (Q.map Nat.succ)), (28, NT .i64 Q.length), (29, NT .i64 i), (34, eT (Q.map Nat.succ)), (35, NT .i64 Q.length), (36, NT .i64 j)]) (fun (j : Nat) (v : Value) => [box B2 80 [aL z, bC s, bC c], box B4 80 [Is (.slice none 0 0), Is (.slice none 0 0), Is (.slice none 0 0)], box B6 28 [aL (mN z Q), bC (mX s Q)], Ky B26 25 60 5 (bN aE (kR (fun i => tab Q.length fun j => gm c (cO Q i) (cO Q j)) [] Q.length i)) i v, bF 60 5 v ((tab j fun j => gm c (cO Q i) (cO Q j)).map aE)]) 0 v (Nat.zero_le _)
    (zS rfl) (eO.refl _) (fun j v hj=>?_)
   refine ts (ro rfl (gJ (Ht rfl) (Ht rfl)) (eJ (cK (dQ (Ht rfl) (fun he2=>?_) (fun he2=>?_)))))
   ·have hjn : j < Q.length := by simp only [decide_eq_true_eq] at he2; omega
    have hqj:=nU hQ hjn
    refine cU (cK (eU (ts (ro rfl (dZ U_103 Z_3 (Ht rfl) (Ht rfl) rfl (eX (nL hjn))) (ro rfl (dJ A_3 Z_3 (Ht rfl)) (ra rfl (eJ (Y.D_startA (m:=18) [] 17 4 rfl rfl (bY (Ei:=[(8,_)]) rfl rfl (bQ (bJ rfl rfl) bX) rfl rfl (dX rfl (cX (Ht rfl))) (bY (Ei:=[(9,_)]) rfl rfl (bQ (bJ rfl rfl) bX) rfl rfl (dX rfl (cX (Ht rfl))) (bY (Ei:=[(8,_)]) rfl rfl (bQ (bJ rfl rfl) bX) rfl rfl (dX rfl (cX (Ht rfl))) ?_)))))))))))
    refine bY (Ei:=[(9,_)]) rfl rfl (bQ (bJ rfl rfl) bX) rfl rfl (dX rfl (cX (Ht rfl))) (bY (Ei:=[(42,_),(43,_)]) rfl rfl (bQ (bZ 2 rfl rfl) (bQ (bZ 3 rfl rfl) bX)) rfl rfl (dX rfl (gX U_26 Z_25 (Ht rfl) (Ht rfl) rfl zo (by rw [Nat.mul_one,Nat.zero_add]))) ?_)
    refine bY (Ei:=[(44,_)]) rfl rfl (bQ (bZ 4 rfl rfl) bX) rfl rfl (dX rfl (jY A_25 Z_25 (Ht rfl) (j:=3) rfl)) (bY (Ei:=[(2,_)]) rfl rfl (bQ (bJ rfl rfl) bX) rfl rfl (dX rfl (eW nC (Ht rfl) rfl)) (bY (Ei:=[(46,_)]) rfl rfl (bQ (bZ 6 rfl rfl) bX) rfl rfl (dX rfl (fX A_26 Z_26 (Ht rfl) (i:=0) rfl rfl)) (bY (Ei:=[(10,_)]) rfl rfl (bQ (bJ rfl rfl) bX) rfl rfl (dX rfl (cX (Ht rfl))) (bY (Ei:=[(48,_)]) rfl rfl (bQ (bZ 8 rfl rfl) bX) rfl rfl (dX rfl (aM.nat (dK (Ht rfl) (cJ 1) zo z6) (show cO Q i + 1 - 1 = cO Q i by omega))) ?_))))
    refine bY (Ei:=[(47,_),(49,_)]) rfl rfl (bQ (bZ 7 rfl rfl) (bQ (bZ 9 rfl rfl) bX)) rfl rfl (dX rfl (dZ U_26 Z_25 (Ht rfl) (Ht rfl) rfl (eX (eQ (d:=[]) zo)))) (bY (Ei:=[(50,_)]) rfl rfl (bQ (bZ 10 rfl rfl) bX) rfl rfl (dX rfl (dJ A_25 Z_25 (Ht rfl))) (bY (Ei:=[(12,_)]) rfl rfl (bQ (bJ rfl rfl) bX) rfl rfl (dX rfl (cX (Ht rfl))) (bY (Ei:=[(52,_)]) rfl rfl (bQ (bZ 12 rfl rfl) bX) rfl rfl (dX rfl (aM.nat (dK (Ht rfl) (cJ 1) zo z6) (show cO Q j + 1 - 1 = cO Q j by omega))) ?_)))
    refine bY (Ei:=[(51,_),(53,_)]) rfl rfl (bQ (bZ 11 rfl rfl) (bQ (bZ 13 rfl rfl) bX)) rfl rfl (dX rfl (dZ U_25 Z_60 (Ht rfl) (Ht rfl) rfl (eX (eQ (d:=Qi.zero) zo)))) (bY (Ei:=[(54,_)]) rfl rfl (bQ (bZ 14 rfl rfl) bX) rfl rfl (dX rfl (dJ A_60 Z_60 (Ht rfl))) (bY (Ei:=[(55,_)]) rfl rfl (bQ (bZ 15 rfl rfl) bX) rfl rfl (dX rfl (cI (xs:=[.tmp 55]) U_25 Z_60 O_60 (cW (Ht rfl) cG) rfl rfl rfl)) ?_))
    refine Y.D_app (Ei:=[(45,_),(56,_)]) rfl rfl rfl rfl (bQ (bZ 5 rfl rfl) (bQ (bZ 16 rfl rfl) bX)) rfl (pS (inf:=Tryz.t60) jK iB rfl rfl rfl (Ht rfl) (Ht rfl) (by simp) (fun T hT=>by simp at hT; subst hT; exact El.ag rfl) (by show _ * 88 ≤ _; simp only [List.length_map,aC,List.length_cons,List.length_nil]; omega) (by simp only [List.length_map,aC,List.length_cons,List.length_nil]; omega)) ?_
    refine Y.D_done aT rfl (by kernel_rfl) rfl (by simp [Y.okP]) rfl rfl (bU (bU (bU (bU (bU (bU (bU (bU (bU (bU (bU (bU (bU (bU (bU (bU (bU (Y.F_app (fun v2=>Y.F_nil ?_)))))))))))))))))))
    refine ro rfl (gX U_26 Z_25 (Ht rfl) (Ht rfl) rfl zo (by rw [Nat.mul_one,Nat.zero_add])) ?_
    refine sX Z_25 (Ht rfl) (Ht rfl) (by simp only [bN,List.length_map,dD]; omega) (j:=3) (l:=5) rfl rfl rfl ?_
    refine eJ (bD (cY (ro rfl (dW (Ht rfl) (cJ 1) z6) (rm rfl (eJ (bL [0,1,2,3,5] rfl (by decide) (gQ (j + 1,v2) hjn (by dsimp only; omega) (zS rfl) (aU (aB rfl) (aU (aB rfl) (aU (aB rfl) (aU (fun _ _ _ h=>h) (aU (aO (by rw [gD,List.map_append]; rfl)) aY))))))))))))
   ·have hjn : j = Q.length := by simp only [decide_eq_false_iff_not] at he2; omega
    rw [hjn]
    refine gG rfl (bD (fR 3 4 rfl rfl (by decide) (by simp only [bN,List.length_map,dD]; omega) ?_))
    refine cY (ro rfl (dW (Ht rfl) (cJ 1) z6) (rm rfl (eJ (bL [0,1,2,3] rfl (by decide) (gQ (i + 1) hdn zo (zS rfl) (aU (aB rfl) (aU (aB rfl) (aU (aB rfl) (aU (cA (by rw [gS,← jI (f:=(fun i=>tab Q.length fun j=>gm c (cO Q i) (cO Q j)))])) aY)))))))))
  ·have hdn : i = Q.length := by simp only [decide_eq_false_iff_not] at hd; omega
   rw [hdn,jR,show tab Q.length (fun i=>tab Q.length fun j=>gm c (cO Q i) (cO Q j)) = mX c Q from rfl]
   refine gG rfl (gW (i:=3) (tt:=8) rfl rfl (kG (s:=5) (M:=mX c Q) (aC _ _).symm) (ts (ro rfl (eG A_28 Z_28 (Ht rfl) (i:=2) rfl rfl rfl) (rm rfl (ro rfl (pW (Ht rfl) (Ht rfl)) (gZ Z_80 (Ht rfl) (Ht rfl) rfl (i:=1) rfl (aK rfl) rfl rfl (ro rfl (cQ (cJ 0)) (eJ ?_))))))))
   exact bM rfl (fY A_80 Z_80 rfl (i:=1) rfl rfl) (fQ rfl)
end
section
open Go Go.RowKit
theorem Zj (O:List Nat):((O.map fun (q:Nat)=>(q:Int)).map (aN .i64)) = O.map (NT .i64):=by rw [List.map_map]; rfl
theorem Tg {l:List Nat} {i:Nat} (hl:l.length ≤ 1000):bI Tryz.prog 145 [eT l,NT .i64 i] (aI (decide (i ∈ l))):=by
 have h:=qV (l:=l.map fun (q:Nat)=>(q:Int)) (v:=(i:Int)) (by rw [List.length_map]; omega)
 rw [Zj] at h
 refine h.imp (eD ?_)
 rw [Bool.eq_iff_iff,List.any_map,List.any_eq_true,decide_eq_true_eq]
 constructor
 ·rintro ⟨x, hx, e⟩; simp at e; obtain rfl : i = x := by omega
  exact hx
 ·intro hx; exact ⟨i,hx,by simp⟩
theorem Zi (n : Nat) : tN n = tab n fun x => tab n fun y => Ev x y := lB (uD n) bT.tab fun i hi j hj => by
 rw [uQ hi hj,dR hi hj]; rfl
theorem a0y (S:List (List Qi)) (js:List (Int × Int)) (N i y:Nat):(sS S js N i y).length = N:=aC _ _
theorem Xd {z:List Qi} {s c:List (List Qi)} {js:List (Int × Int)} {L G:Nat} (hz:bR z L) (hs:aS s L) (hL1:1 ≤ L) (hLb:L ≤ 1000) (hcf:aS c G) (hG1:1 ≤ G) (hGb:G ≤ 1000000000) (hgP:vX z s js = 0 → aS (yM s js z.length) G) (hsh:bT s z.length z.length) (hch:bT c z.length z.length) (hl:z.length ≤ 8) (hjl:js.length ≤ 100) (hg:∀ k,2 * k < z.length → 6 * nP (L + 2) (2 * k) + 4 ≤ 17592186044415) (hxr:∀ k,2 * k < z.length → zL (nP (L + 2) (2 * k)) (2 * k + 1) ≤ 100000000000):bI Tryz.prog 46 [gK z s c,JsT js] (fE [gK (qX z s js) (vA z s js) (Rn z s c js),aN .i64 (vX z s js)]):=by
 have hsl:=hsh.1
 have hJ:=a47 (z:=z) (S:=s) (js:=js) (L:=L) hsh hs hz hL1 zo zo hjl hg hxr
 refine bI.intro Tryz.func46 rfl Tryz.ntmps46 rfl (fun cx=>(ts (rn rfl (fU (Ht rfl)) fun B2=>(rn rfl (eK (Ts:=[Is (.slice none 0 0),Is (.slice none 0 0),Is (.slice none 0 0)]) O_80 rfl (fun V=>aW zd (aW zd (aW zd (aG))))) fun B4=>(ro rfl (cQ (cJ 0)) (eJ (ts (ro rfl (eW pD (Ht rfl) rfl) (ro rfl (eG A_28 Z_28 (Ht rfl) (i:=0) rfl rfl rfl) (rm rfl (ro rfl (cZ Tryz.call32 hJ ⟨(Ht rfl),(Ht rfl),trivial⟩) (rm rfl (ro rfl (dY (Ht rfl) rfl) ?_)))))))))))))
 refine ro rfl (dY (Ht rfl) rfl) (rn rfl (eK (Ts:=[Is (.slice none 0 0),Is (.slice none 0 0)]) O_28 rfl (fun V=>aW zd (aW zd (aG)))) fun B6=>(gZ Z_28 (Ht rfl) (Ht rfl) rfl (i:=2) rfl (aK rfl) rfl rfl (ra rfl (eJ (cK (ts (rm rfl (ro rfl (iH (Ht rfl) cV) (eJ (dQ (Ht rfl) (fun hb=>?_) (fun hb=>?_)))))))))))
 ·have he : vX z s js ≠ 0 := by simpa using hb
  refine ts (ro rfl (aM.imp (wI ) rK) (rm rfl (gZ Z_80 (Ht rfl) (Ht rfl) rfl (i:=1) rfl (aK rfl) rfl rfl (ra rfl (eJ (bM rfl (fJ (fY A_80 Z_80 rfl (i:=1) rfl rfl) ?_) (fQ rfl)))))))
  exact (fun v V h=>by rw [qX,vA,Rn,fF,fF,fF,if_neg he,if_neg he,if_neg he]; exact h)
 ·have he : vX z s js = 0 := by simpa using hb
  refine cU (cK (ts (rm rfl (ro rfl (dU U_65 (Ht rfl) aD) (ro rfl (eH (Ht rfl) (cJ 0)) (eJ (dQ (Ht rfl) (fun hb2=>?_) (fun hb2=>?_))))))))
  ·obtain rfl : js = [] := List.length_eq_zero_iff.1 (by simpa using hb2)
   refine ts (ro rfl (eG A_80 Z_80 (Ht rfl) (i:=0) rfl rfl rfl) (gZ Z_80 (Ht rfl) (Ht rfl) rfl (i:=1) rfl (aK rfl) rfl rfl (ro rfl (cQ (cJ 0)) (eJ (bM rfl (fJ (fY A_80 Z_80 rfl (i:=1) rfl rfl) ?_) (fJ (fQ rfl) ?_))))))
   ·exact (fun v V h=>by rw [qX,vA,Rn,fF,fF,fF,if_pos he,if_pos he,if_pos he,if_pos (show ([]:List (Int × Int)).length = 0 from rfl),if_pos (show ([]:List (Int × Int)).length = 0 from rfl),Hk hch]; exact h)
   ·exact (bE he.symm)
  ·have hK : js.length ≠ 0 := by simpa using hb2
   obtain ⟨hd,hj6,hk,hne⟩:=xC he hl
   have hne2:=hne hK
   have hp:=Nr hd
   have hj:=zE hd
   have hPl:(Vr js).length = 2 * js.length:=aC _ _
   have hOl:(uE js).length = 2 * js.length:=aC _ _
   have hle:=Rd hd
   have hpos:=Zm hd hne2
   have hFl:(dT z js).length ≤ z.length:=uG _ _
   refine cU (ts (ro rfl (cQ cV) (ro rfl (cQ cV) (eJ (cK (cK (pU 3 1 (pU 3 1 (cY (rm rfl (ro rfl (dU U_65 (Ht rfl) aD) (ro rfl (cX (cJ 0)) (eJ (eU ?_))))))))))))))
   refine nY (fun (k : Nat) (vL : Value) (vO : Value) => k ≤ js.length) (fun (k : Nat) (vL : Value) (vO : Value) => js.length - k) (fun (k : Nat) (vL : Value) (vO : Value) => [(2, bO B2 0), (4, bO B4 0), (6, bO B6 0), (8, Is vL), (9, Is vO), (41, JsT js), (42, NT .i64 js.length), (43, NT .i64 k)]) (fun (k : Nat) (vL : Value) (vO : Value) => [box B2 80 [aL z, bC s, bC c], box B4 80 [Is (.slice none 0 0), Is (.slice none 0 0), Is (.slice none 0 0)], box B6 28 [aL (qX z s js), bC (vA z s js)], bF 3 1 vL ((tab (2 * k) (gq (cF js))).map (NT .i64)), bF 3 1 vO ((tab (2 * k) (fun x => gq (cF js) (iR x))).map (NT .i64))]) 0 _ _ (Nat.zero_le _)
    (zS rfl) (aU (aB rfl) (aU (aB rfl) (aU (aB rfl) (aU (aO rfl) (aU (aO rfl) aY))))) (fun k vL vO hk0=>?_)
   refine ts (ro rfl (gJ (Ht rfl) (Ht rfl)) (eJ (cK (dQ (Ht rfl) (fun hc=>?_) (fun hc=>?_)))))
   ·have hkn : k < js.length := by simp only [decide_eq_true_eq] at hc; omega
    obtain ⟨i1,i2,i3,i4,i5,i6⟩:=a4J hp hkn
    obtain ⟨o1,o2⟩:=a2P k
    have ht1:=aC (2 * k) (gq (cF js))
    have ht2:=aC (2 * k) (fun x=>gq (cF js) (iR x))
    refine cU (cK (eU (ts (ro rfl (dZ U_65 Z_64 (Ht rfl) (Ht rfl) rfl (eX (eQ (d:=(0,0)) hkn))) (ro rfl (dJ Tryz.isAgg64 Z_64 (Ht rfl)) (rn rfl (eK (Ts:=[Is (.int .i64 0),Is (.int .i64 0)]) O_64 rfl (fun V=>aW zd (aW zd (aG)))) fun B11=>(gZ Z_64 (Ht rfl) (Ht rfl) rfl (i:=5) rfl (aK rfl) rfl rfl (eJ (Y.D_startA (m:=17) [] 8 3 rfl rfl (bY (Ei:=[(8,_)]) rfl rfl (bQ (bJ rfl rfl) bX) rfl rfl (dX rfl (cX (Ht rfl))) ?_))))))))))
    refine bY (Ei:=[(11,_)]) rfl rfl (bQ (bJ rfl rfl) bX) rfl rfl (dX rfl (gP U_64 Z_3 (Ht rfl) (cJ 0) rfl (by decide) rfl)) (bY (Ei:=[(48,_)]) rfl rfl (bQ (bZ 1 rfl rfl) bX) rfl rfl (dX rfl (fX A_3 Z_3 (Ht rfl) (i:=5) rfl rfl)) (bY (Ei:=[(49,_)]) rfl rfl (bQ (bZ 2 rfl rfl) bX) rfl rfl (dX rfl (jJ (Ht rfl) cV (r:=((gq (cF js) (2 * k):Nat):Int)) ((Ew (z:=(kK js k).1 - 1) zo).trans zo))) ?_))
    refine bY (Ei:=[(11,_)]) rfl rfl (bQ (bJ rfl rfl) bX) rfl rfl (dX rfl (gP U_64 Z_3 (Ht rfl) (cJ 1) rfl (by decide) rfl)) (bY (Ei:=[(51,_)]) rfl rfl (bQ (bZ 4 rfl rfl) bX) rfl rfl (dX rfl (fX A_3 Z_3 (Ht rfl) (i:=5) rfl rfl)) (bY (Ei:=[(52,_)]) rfl rfl (bQ (bZ 5 rfl rfl) bX) rfl rfl (dX rfl (jJ (Ht rfl) cV (r:=((gq (cF js) (2 * k + 1):Nat):Int)) ((Ew (z:=(kK js k).2 - 1) zo).trans zo))) ?_))
    refine bY (Ei:=[(50,_),(53,_)]) rfl rfl (bQ (bZ 3 rfl rfl) (bQ (bZ 6 rfl rfl) bX)) rfl rfl (dX rfl (cI (xs:=[.tmp 50,.tmp 53]) U_103 Z_3 O_3 (cW (Ht rfl) (cW (Ht rfl) cG)) rfl rfl rfl)) (Y.D_app (Ei:=[(47,_),(54,_)]) rfl rfl rfl rfl (bQ (bZ 0 rfl rfl) (bQ (bZ 7 rfl rfl) bX)) rfl (pS (inf:=Tryz.t3) sN vW rfl rfl rfl (Ht rfl) (Ht rfl) (by simp) (fun T hT=>by simp at hT; rcases hT with rfl | rfl <;> exact El.one) (by show _ * 8 ≤ _; simp only [List.length_map,List.length_append,List.length_cons,List.length_nil,aC]; omega) (by simp only [List.length_map,List.length_append,List.length_cons,List.length_nil,aC]; omega)) ?_)
    refine bY (Ei:=[(9,_)]) rfl rfl (bQ (bJ rfl rfl) bX) rfl rfl (dX rfl (cX (Ht rfl))) (bY (Ei:=[(11,_)]) rfl rfl (bQ (bJ rfl rfl) bX) rfl rfl (dX rfl (gP U_64 Z_3 (Ht rfl) (cJ 1) rfl (by decide) rfl)) (bY (Ei:=[(57,_)]) rfl rfl (bQ (bZ 10 rfl rfl) bX) rfl rfl (dX rfl (fX A_3 Z_3 (Ht rfl) (i:=5) rfl rfl)) (bY (Ei:=[(58,_)]) rfl rfl (bQ (bZ 11 rfl rfl) bX) rfl rfl (dX rfl (jJ (Ht rfl) cV (r:=((gq (cF js) (2 * k + 1):Nat):Int)) ((Ew (z:=(kK js k).2 - 1) zo).trans zo))) ?_)))
    refine bY (Ei:=[(11,_)]) rfl rfl (bQ (bJ rfl rfl) bX) rfl rfl (dX rfl (gP U_64 Z_3 (Ht rfl) (cJ 0) rfl (by decide) rfl)) (bY (Ei:=[(60,_)]) rfl rfl (bQ (bZ 13 rfl rfl) bX) rfl rfl (dX rfl (fX A_3 Z_3 (Ht rfl) (i:=5) rfl rfl)) (bY (Ei:=[(61,_)]) rfl rfl (bQ (bZ 14 rfl rfl) bX) rfl rfl (dX rfl (jJ (Ht rfl) cV (r:=((gq (cF js) (2 * k):Nat):Int)) ((Ew (z:=(kK js k).1 - 1) zo).trans zo))) ?_))
    refine bY (Ei:=[(59,_),(62,_)]) rfl rfl (bQ (bZ 12 rfl rfl) (bQ (bZ 15 rfl rfl) bX)) rfl rfl (dX rfl (cI (xs:=[.tmp 59,.tmp 62]) U_103 Z_3 O_3 (cW (Ht rfl) (cW (Ht rfl) cG)) rfl rfl rfl)) (Y.D_done aT rfl (by kernel_rfl) rfl (by simp [Y.okP]) rfl rfl (bU (bU (bU (bU (bU (bU (bU (bU (Y.F_app (fun v2=>bU (bU (bU (bU (bU (bU (bU (bU (Y.F_nil ?_)))))))))))))))))))
    refine lE (inf:=Tryz.t3) sN vW rfl rfl rfl (Ht rfl) (Ht rfl) (i:=4) rfl (by simp) (fun T hT=>by simp at hT; rcases hT with rfl | rfl <;> exact El.one) (by show _ * 8 ≤ _; simp only [List.length_map,List.length_append,List.length_cons,List.length_nil,aC]; omega) (by simp only [List.length_map,List.length_append,List.length_cons,List.length_nil,aC]; omega) rfl (fun v3=>?_)
    refine ra rfl (ra rfl (eJ (bD (cY (ro rfl (dW (Ht rfl) (cJ 1) z6) (rm rfl (eJ (bL [0,1,2,6,4] rfl (by decide) (gQ (k + 1,v2,v3) hkn (by dsimp only; omega) (zS rfl) (aU (aB rfl) (aU (aB rfl) (aU (aB rfl) (aU (aO (by rw [Ss,List.map_append]; rfl)) (aU (aO (by rw [Ss,List.map_append,o1,o2]; rfl)) aY))))))))))))))
   ·obtain rfl : k = js.length := by simp only [decide_eq_false_iff_not] at hc; omega
    refine gG rfl (gW (i:=3) (tt:=8) rfl rfl gH (gW (i:=4) (tt:=9) rfl rfl gH (uY (E':=[(2,_),(4,_),(6,_),(8,_),(9,_),(41,_),(42,_),(43,_),(44,_)]) (aQ rfl (aQ rfl (aQ rfl (aZ rfl (mM (Us:=(Vr js).map (NT .i64)) rfl) (aZ rfl (mM (Us:=(uE js).map (NT .i64)) rfl) (zS rfl)))))) (ts (ro rfl (eW pD (Ht rfl) rfl) (ro rfl (eG A_28 Z_28 (Ht rfl) (i:=0) rfl rfl rfl) (ro rfl (cZ Tryz.call143 (Gv hsh hl) ⟨(Ht rfl),trivial⟩) ?_)))))))
    refine ra rfl (eJ (ts (rm rfl (ro rfl (dU U_103 (Ht rfl) (by rw [List.length_map,hPl])) ?_))))
    refine jZ Tryz.call144 (a3t (n:=2 * js.length) zo) ⟨(Ht rfl),trivial⟩ rfl (fun B71 _=>(ra rfl (eJ (cK (ts (rm rfl (ro rfl (dU U_103 (Ht rfl) (by rw [List.length_map,hPl])) ?_)))))))
    refine ro rfl (cX (cJ 0)) (eJ (eU (bL [0,1,2,5] rfl (by decide) ?_)))
    refine cB (fun (x : Nat) => x ≤ (2 * js.length)) (fun (x : Nat) => (2 * js.length) - x) (fun (x : Nat) => [(2, bO B2 0), (4, bO B4 0), (6, bO B6 0), (8, eT (Vr js)), (9, eT (uE js)), (12, bC s), (13, Is (.slice (some ⟨B71, 0, none⟩) (2 * js.length) (2 * js.length))), (73, NT .i64 (2 * js.length)), (74, NT .i64 x)]) (fun (x : Nat) => [box B2 80 [aL z, bC s, bC c], box B4 80 [Is (.slice none 0 0), Is (.slice none 0 0), Is (.slice none 0 0)], box B6 28 [aL (qX z s js), bC (vA z s js)], lT jD B71 25 60 5 (bN aE (lX (fun x => tab (2 * js.length) (fun y => Ev x y - gm s (gq (cF js) (iR y)) (gq (cF js) x))) (fun x => tab (2 * js.length) (fun y => Ev x y)) (2 * js.length) x))]) 0 (Nat.zero_le _)
     (zS rfl) (aU (aB rfl) (aU (aB rfl) (aU (aB rfl) (aU (cA (by rw [← mS,Zi])) aY)))) (fun x hx=>?_)
    refine ts (ro rfl (gJ (Ht rfl) (Ht rfl)) (eJ (cK (dQ (Ht rfl) (fun hc=>?_) (fun hc=>?_)))))
    ·have hxn : x < 2 * js.length := by simp only [decide_eq_true_eq] at hc; omega
     refine mZ 3 (x) rfl (uA hxn) (fun v0 hv0=>(cU (cK (eU (ts (rm rfl (ra rfl (eJ (ts (rm rfl (ro rfl (dU U_103 (Ht rfl) (by rw [List.length_map,hPl])) ?_)))))))))))
     refine ro rfl (cX (cJ 0)) (eJ (eU ?_))
     refine cB (fun (y : Nat) => y ≤ (2 * js.length)) (fun (y : Nat) => (2 * js.length) - y) (fun (y : Nat) => [(2, bO B2 0), (4, bO B4 0), (6, bO B6 0), (8, eT (Vr js)), (9, eT (uE js)), (12, bC s), (13, Is (.slice (some ⟨B71, 0, none⟩) (2 * js.length) (2 * js.length))), (14, NT .i64 x), (73, NT .i64 (2 * js.length)), (74, NT .i64 x), (78, NT .i64 (2 * js.length)), (79, NT .i64 y)]) (fun (y : Nat) => [box B2 80 [aL z, bC s, bC c], box B4 80 [Is (.slice none 0 0), Is (.slice none 0 0), Is (.slice none 0 0)], box B6 28 [aL (qX z s js), bC (vA z s js)], uU jD B71 25 60 5 (bN aE (lX (fun x => tab (2 * js.length) (fun y => Ev x y - gm s (gq (cF js) (iR y)) (gq (cF js) x))) (fun x => tab (2 * js.length) (fun y => Ev x y)) (2 * js.length) x)) x v0, bF 60 5 v0 ((lX (fun y => Ev x y - gm s (gq (cF js) (iR y)) (gq (cF js) x)) (fun y => Ev x y) (2 * js.length) y).map aE)]) 0 (Nat.zero_le _)
      (zS rfl) (aU (aB rfl) (aU (aB rfl) (aU (aB rfl) (aU (fun _ _ _ h=>h) (aU (aO (by rw [← mS])) aY))))) (fun y hy=>?_)
     refine ts (ro rfl (gJ (Ht rfl) (Ht rfl)) (eJ (cK (dQ (Ht rfl) (fun hd2=>?_) (fun hd2=>?_)))))
     ·have hyn : y < 2 * js.length := by simp only [decide_eq_true_eq] at hd2; omega
      have hb1:=hj.lt (iR y) (mK hyn)
      have hb2:=hj.lt x hxn
      have hsr:=hsh.row hb1
      have hrl:=lI (fun y=>Ev x y - gm s (gq (cF js) (iR y)) (gq (cF js) x)) (fun y=>Ev x y) (2 * js.length) y
      haveI g1:=Sh x y
      haveI g2:aH (gm s (gq (cF js) (iR y)) (gq (cF js) x)) L:=hs.get hL1 _ _
      refine cU (cK (eU (ts (rm rfl (ra rfl (eJ (fV (m:=27) (dp 13 rfl (cX (Ht rfl)) (dp 14 rfl (cX (Ht rfl)) (dP 82 0 83 1 rfl (gX U_26 Z_25 (Ht rfl) (Ht rfl) rfl zo (by rw [Nat.mul_one,Nat.zero_add])) ?_))))))))))
      refine dq 84 2 rfl (jY A_25 Z_25 (Ht rfl) (j:=3) rfl) (dp 15 rfl (cX (Ht rfl)) (dp 13 rfl (cX (Ht rfl)) (dp 14 rfl (cX (Ht rfl)) (dP 87 5 88 6 rfl (gX U_26 Z_25 (Ht rfl) (Ht rfl) rfl zo (by rw [Nat.mul_one,Nat.zero_add])) ?_))))
      refine dq 89 7 rfl (jY A_25 Z_25 (Ht rfl) (j:=3) rfl) (dp 15 rfl (cX (Ht rfl)) (dP 90 8 91 9 rfl (dM U_25 Z_60 (Ht rfl) (Ht rfl) rfl (i:=4) rfl (by rw [List.length_map,hrl]; exact hyn) rfl) ?_))
      refine dq 92 10 rfl (oR A_60 Z_60 (Ht rfl) (i:=4) rfl rfl (eX (tQ hyn))) (dq 93 11 rfl (bA bP (Ht rfl)) (dp 12 rfl (cX (Ht rfl)) (dp 9 rfl (cX (Ht rfl)) (dp 15 rfl (cX (Ht rfl)) (dP 96 14 97 15 rfl (dZ U_103 Z_3 (Ht rfl) (Ht rfl) rfl (eX (show (uE js)[y]? = some (gq (cF js) (iR y)) from cP hyn))) (dq 98 16 rfl (dJ A_3 Z_3 (Ht rfl)) (dP 95 13 99 17 rfl (dZ U_26 Z_25 (Ht rfl) (Ht rfl) rfl (eX (eQ (d:=[]) zo))) (dq 100 18 rfl (dJ A_25 Z_25 (Ht rfl)) ?_))))))))
      refine dp 8 rfl (cX (Ht rfl)) (dp 14 rfl (cX (Ht rfl)) (dP 102 20 103 21 rfl (dZ U_103 Z_3 (Ht rfl) (Ht rfl) rfl (eX (show (Vr js)[x]? = some (gq (cF js) x) from cP hxn))) (dq 104 22 rfl (dJ A_3 Z_3 (Ht rfl)) (dP 101 19 105 23 rfl (dZ U_25 Z_60 (Ht rfl) (Ht rfl) rfl (eX (eQ (d:=Qi.zero) zo))) (dq 106 24 rfl (dJ A_60 Z_60 (Ht rfl)) (dP 94 12 107 25 rfl (aP jQ K_69 (tB (x:=Ev x y) (y:=gm s (gq (cF js) (iR y)) (gq (cF js) x)) (L:=1) (M:=L) zo) (Ht rfl) ⟨(Ht rfl),trivial⟩) ?_))))))
      refine fG aT rfl (by kernel_rfl) (zF (zF (zF (zF (zF (zF (aJ (aJ (aJ (aV (ro rfl (dM U_25 Z_60 (Ht rfl) (Ht rfl) rfl (i:=4) rfl (by rw [List.length_map,hrl]; exact hyn) rfl) ?_)))))))))))
      refine mY Z_60 (Ht rfl) (Ht rfl) (El.ag rfl) (i:=4) rfl rfl (by rw [List.length_map,hrl]; exact hyn) rfl ?_
      refine eJ (bD (cY (ro rfl (dW (Ht rfl) (cJ 1) z6) (rm rfl (eJ (bL [0,1,2,3,4] rfl (by decide) (gQ (y + 1) hyn zo (zS rfl) (aU (aB rfl) (aU (aB rfl) (aU (aB rfl) (aU (fun _ _ _ h=>h) (aU (aO (by rw [iG]; exact congrArg _ (oK (f:=(fun y=>Ev x y - gm s (gq (cF js) (iR y)) (gq (cF js) x)))))) aY))))))))))))
     ·have hyn : y = 2 * js.length := by simp only [decide_eq_false_iff_not] at hd2; omega
      rw [hyn,oJ]
      refine gG rfl (bD (fR 3 4 rfl rfl (by decide) (by simp only [bN,List.length_map,lI]; omega) ?_))
      refine cY (ro rfl (dW (Ht rfl) (cJ 1) z6) (rm rfl (eJ (bL [0,1,2,3] rfl (by decide) (gQ (x + 1) hxn zo (zS rfl) (aU (aB rfl) (aU (aB rfl) (aU (aB rfl) (aU (cA (by rw [gS]; exact congrArg _ (oK (f:=(fun x=>tab (2 * js.length) (fun y=>Ev x y - gm s (gq (cF js) (iR y)) (gq (cF js) x))))))) aY)))))))))
    ·have hxn : x = 2 * js.length := by simp only [decide_eq_false_iff_not] at hc; omega
     rw [hxn,oJ,show tab (2 * js.length) (fun x=>tab (2 * js.length) (fun y=>Ev x y - gm s (gq (cF js) (iR y)) (gq (cF js) x))) = Ks s js from rfl]
     refine gG rfl (gW (i:=3) (tt:=13) rfl rfl (kG (s:=5) (M:=Ks s js) (sA s js).1.symm) (ts (ro rfl (cQ cV) (eJ (cK (cK (bL [0,1,2] rfl (by decide) (pU 25 1 ?_))))))))
     have hPf:=hgP he
     have hPs:=Qw s js z.length
     have hcar:bI Tryz.prog 148 [bC (yM s js z.length),bC c] (bC (lG (yM s js z.length) c)):=a3w (p:=yM s js z.length) (c:=c) (n:=(dT z js).length) (m:=z.length) (L:=G) hPs hch hPf hcf hG1 zo hpos zo zo hl
     have hslv : ∀ i, bI Tryz.prog 126 [bC (Ks s js), aL (Vs s js i)] (fE [aL (Kr s js i), aN .i64 0]) := fun i => by
      have hT0:=Ia hk zo (Vs s js i)
      have h := Pu (M := Ks s js) (b := Vs s js i) (n := 2 * js.length) (L := L + 2) (sA s js) (aC _ _) (aS.tab fun x y _ _ => by
       haveI:=Sh x y
       haveI:aH (gm s (gq (cF js) (iR y)) (gq (cF js) x)) L:=hs.get hL1 _ _
       exact (fitSub (x:=Ev x y) (y:=gm s (gq (cF js) (iR y)) (gq (cF js) x)):aH _ (1 + L + 1)).le zo) (bR.tab fun y _=>(hs.get hL1 i _).le zo) zo zo zo (hg js.length zo) (Nat.le_trans (hxr js.length zo) (by decide))
      rw [hT0] at h; exact h
     refine cY (rm rfl (ro rfl (dU U_26 (Ht rfl) (by rw [List.length_map,hsl])) ?_))
     refine ro rfl (cX (cJ 0)) (eJ (eU ?_))
     refine gN (fun (i : Nat) (vR : Value) => i ≤ z.length) (fun (i : Nat) (vR : Value) => z.length - i) (fun (i : Nat) (vR : Value) => [(2, bO B2 0), (4, bO B4 0), (6, bO B6 0), (8, eT (Vr js)), (9, eT (uE js)), (12, bC s), (13, bC (Ks s js)), (16, Is vR), (113, NT .i64 z.length), (114, NT .i64 i)]) (fun (i : Nat) (vR : Value) => [box B2 80 [aL z, bC s, bC c], box B4 80 [Is (.slice none 0 0), Is (.slice none 0 0), Is (.slice none 0 0)], box B6 28 [aL (qX z s js), bC (vA z s js)], bF 25 1 vR (((gY (jW js) i).map (fun i => tab z.length fun k => sW s js i k)).map aL)]) 0 _ (Nat.zero_le _)
      (zS rfl) (aU (aB rfl) (aU (aB rfl) (aU (aB rfl) (aU (aO rfl) aY)))) (fun i vR hi=>?_)
     refine ts (ro rfl (gJ (Ht rfl) (Ht rfl)) (eJ (cK (dQ (Ht rfl) (fun hc=>?_) (fun hc=>?_)))))
     ·have hin : i < z.length := by simp only [decide_eq_true_eq] at hc; omega
      have hfl:=uG (jW js) i
      have hsi:=hsh.row hin
      refine cU (cK (eU (ts (rm rfl (ra rfl (eJ (cK (ts (rm rfl (rm rfl (ro rfl (cZ Tryz.call145 (Tg (l:=Vr js) (i:=i) zo) ⟨(Ht rfl),(Ht rfl),trivial⟩) (eJ (dQ (Ht rfl) (fun hx=>?_) (fun hx=>?_))))))))))))))
      ·have hmem : i ∈ jW js := by rw [← a3I]; simpa using hx
       have hnx:gY (jW js) (i + 1) = gY (jW js) i:=by rw [gY,if_pos hmem,List.append_nil]
       refine gG rfl (cY (ro rfl (dW (Ht rfl) (cJ 1) z6) (rm rfl (eJ (gQ (i + 1,vR) hin (by dsimp only; omega) (zS rfl) (aU (aB rfl) (aU (aB rfl) (aU (aB rfl) (aU (aO (by rw [hnx])) aY)))))))))
      ·have hmem : i ∉ jW js := fun h => by rw [← a3I] at h; simp [h] at hx
       have hnx:gY (jW js) (i + 1) = gY (jW js) i ++ [i]:=by rw [gY,if_neg hmem]
       refine cU (ts (ro rfl (cQ cV) (eJ (cK (cK (pU 60 5 (cY (rm rfl (ro rfl (dU U_103 (Ht rfl) (by rw [List.length_map,hPl])) ?_)))))))))
       refine ro rfl (cX (cJ 0)) (eJ (eU ?_))
       refine gN (fun (y : Nat) (vV : Value) => y ≤ (2 * js.length)) (fun (y : Nat) (vV : Value) => (2 * js.length) - y) (fun (y : Nat) (vV : Value) => [(2, bO B2 0), (4, bO B4 0), (6, bO B6 0), (8, eT (Vr js)), (9, eT (uE js)), (12, bC s), (13, bC (Ks s js)), (16, Is vR), (17, NT .i64 i), (18, Is vV), (113, NT .i64 z.length), (114, NT .i64 i), (120, eT (Vr js)), (121, NT .i64 (2 * js.length)), (122, NT .i64 y)]) (fun (y : Nat) (vV : Value) => [box B2 80 [aL z, bC s, bC c], box B4 80 [Is (.slice none 0 0), Is (.slice none 0 0), Is (.slice none 0 0)], box B6 28 [aL (qX z s js), bC (vA z s js)], bF 25 1 vR (((gY (jW js) i).map (fun i => tab z.length fun k => sW s js i k)).map aL), bF 60 5 vV ((tab y fun y => gm s i (gq (cF js) y)).map aE)]) 0 _ (Nat.zero_le _)
        (zS rfl) (aU (aB rfl) (aU (aB rfl) (aU (aB rfl) (aU (fun _ _ _ h=>h) (aU (aO rfl) aY))))) (fun y vV hy=>?_)
       refine ts (ro rfl (gJ (Ht rfl) (Ht rfl)) (eJ (cK (dQ (Ht rfl) (fun hd2=>?_) (fun hd2=>?_)))))
       ·have hyn : y < 2 * js.length := by simp only [decide_eq_true_eq] at hd2; omega
        have hb2:=hj.lt y hyn
        have htl:=aC y fun y=>gm s i (gq (cF js) y)
        refine cU (cK (eU (ts (ro rfl (dZ U_103 Z_3 (Ht rfl) (Ht rfl) rfl (eX (show (Vr js)[y]? = some (gq (cF js) y) from cP hyn))) (ro rfl (dJ A_3 Z_3 (Ht rfl)) (ra rfl (eJ (cY (rm rfl (rm rfl (rm rfl (ro rfl (dZ U_26 Z_25 (Ht rfl) (Ht rfl) rfl (eX (eQ (d:=[]) zo))) (ro rfl (dJ A_25 Z_25 (Ht rfl)) (rm rfl (ro rfl (dZ U_25 Z_60 (Ht rfl) (Ht rfl) rfl (eX (eQ (d:=Qi.zero) zo))) (ro rfl (dJ A_60 Z_60 (Ht rfl)) ?_))))))))))))))))
        refine ro rfl (cI (xs:=[.tmp 133]) U_25 Z_60 O_60 (cW (Ht rfl) cG) rfl rfl rfl) (lE (inf:=Tryz.t60) jK iB rfl rfl rfl (Ht rfl) (Ht rfl) (i:=4) rfl (by simp) (fun T hT=>by simp at hT; subst hT; exact El.ag rfl) (by show _ * 88 ≤ _; simp only [List.length_map,List.length_append,List.length_cons,List.length_nil,aC]; omega) (by simp only [List.length_map,List.length_append,List.length_cons,List.length_nil,aC]; omega) rfl (fun v5=>?_))
        refine ra rfl (eJ (bD (cY (ro rfl (dW (Ht rfl) (cJ 1) z6) (rm rfl (eJ (bL [0,1,2,3,4] rfl (by decide) (gQ (y + 1,v5) hyn (by dsimp only; omega) (zS rfl) (aU (aB rfl) (aU (aB rfl) (aU (aB rfl) (aU (fun _ _ _ h=>h) (aU (aO (by rw [gD,List.map_append]; rfl)) aY)))))))))))))
       ·have hyn : y = 2 * js.length := by simp only [decide_eq_false_iff_not] at hd2; omega
        rw [hyn]
        refine gG rfl (gW (i:=4) (tt:=18) rfl rfl gH (uY (E':=[(2,_),(4,_),(6,_),(8,_),(9,_),(12,_),(13,_),(16,_),(17,_),(18,_),(113,_),(114,_),(120,_),(121,_),(122,_),(123,_)]) (aQ rfl (aQ rfl (aQ rfl (aQ rfl (aQ rfl (aQ rfl (aQ rfl (aQ rfl (aQ rfl (aZ rfl (mM (Us:=(Vs s js i).map aE) rfl) (zS rfl))))))))))) (ts (rm rfl (rm rfl (ro rfl (cZ Tryz.call126 (hslv i) ⟨(Ht rfl),(Ht rfl),trivial⟩) ?_))))))
        refine rm rfl (ro rfl (dY (Ht rfl) rfl) (ro rfl (dY (Ht rfl) rfl) (ra rfl (ra rfl (eJ (cK (ts (rm rfl (ro rfl (iH (Ht rfl) cV) (eJ (kA (Ht rfl) (by rfl) ?_)))))))))))
        refine cU (ts (rm rfl (ro rfl (dU U_26 (Ht rfl) (by rw [List.length_map,hsl])) ?_)))
        refine jZ Tryz.call146 (To (r:=1) (n:=z.length) (by decide) zo zo) ⟨(cJ 1),(Ht rfl),trivial⟩ rfl (fun B149 _=>?_)
        refine a14 5 0 (Ts:=(tab z.length fun _=>Qi.zero).map aE) rfl rfl (fun v0=>(ro rfl (gX U_26 Z_25 (Ht rfl) (cJ 0) rfl (by decide) (by rw [Nat.mul_one,Nat.zero_add])) ?_))
        refine ro rfl (jY A_25 Z_25 (Ht rfl) (j:=5) rfl) (ra rfl (eJ (ts (rm rfl (rm rfl (ro rfl (cZ K_52 (oW (n:=1) (by decide) (by decide)) ⟨(cJ 1),trivial⟩) (ro rfl (cZ K_147 Ni ⟨(Ht rfl),trivial⟩) (ro rfl (dM U_25 Z_60 (Ht rfl) (Ht rfl) rfl (i:=6) rfl (by rw [List.length_map,aC]; omega) rfl) ?_))))))))
        refine mY Z_60 (Ht rfl) (Ht rfl) (El.ag rfl) (i:=6) rfl rfl (by rw [List.length_map,aC]; omega) rfl ?_
        refine eJ (cK (cK (mH 6 rfl (aO (e:=60) (s:=5) (by rw [iG,Oq hin]:_ = (sS s js z.length i 0).map aE)) ?_)))
        refine cY (rm rfl (ro rfl (dU U_103 (Ht rfl) (by rw [List.length_map,hOl])) ?_))
        refine ro rfl (cX (cJ 0)) (eJ (eU (bL [0,1,2,3,6] rfl (by decide) ?_)))
        refine cB (fun (y : Nat) => y ≤ (2 * js.length)) (fun (y : Nat) => (2 * js.length) - y) (fun (y : Nat) => [(2, bO B2 0), (4, bO B4 0), (6, bO B6 0), (8, eT (Vr js)), (9, eT (uE js)), (12, bC s), (13, bC (Ks s js)), (16, Is vR), (17, NT .i64 i), (21, aL (Kr s js i)), (23, Is v0), (113, NT .i64 z.length), (114, NT .i64 i), (157, eT (uE js)), (158, NT .i64 (2 * js.length)), (159, NT .i64 y)]) (fun (y : Nat) => [box B2 80 [aL z, bC s, bC c], box B4 80 [Is (.slice none 0 0), Is (.slice none 0 0), Is (.slice none 0 0)], box B6 28 [aL (qX z s js), bC (vA z s js)], bF 25 1 vR (((gY (jW js) i).map (fun i => tab z.length fun k => sW s js i k)).map aL), bF 60 5 v0 ((sS s js z.length i y).map aE)]) 0 (Nat.zero_le _)
         (zS rfl) (aU (aB rfl) (aU (aB rfl) (aU (aB rfl) (aU (fun _ _ _ h=>h) (aU (fun _ _ _ h=>h) aY))))) (fun y hy2=>?_)
        refine ts (ro rfl (gJ (Ht rfl) (Ht rfl)) (eJ (cK (dQ (Ht rfl) (fun hd3=>?_) (fun hd3=>?_)))))
        ·have hyn : y < 2 * js.length := by simp only [decide_eq_true_eq] at hd3; omega
         have hb1:=hj.lt (iR y) (mK hyn)
         have hQl:(Kr s js i).length = 2 * js.length:=xN _ _ _
         have hrl:=a0y s js z.length i y
         have hst:=a0z (S:=s) (N:=z.length) (i:=i) hj hyn
         rw [Ze hj hk hmem hyn] at hst
         refine cU (cK (eU (ts (rm rfl (ro rfl (dZ U_103 Z_3 (Ht rfl) (Ht rfl) rfl (eX (show (uE js)[y]? = some (gq (cF js) (iR y)) from cP hyn))) (ro rfl (dJ A_3 Z_3 (Ht rfl)) (ra rfl (ra rfl (eJ (cY (rm rfl (rm rfl (rm rfl (rm rfl (ro rfl (dZ U_25 Z_60 (Ht rfl) (Ht rfl) rfl (eX (eQ (d:=Qi.zero) zo))) (ro rfl (dJ A_60 Z_60 (Ht rfl)) (ro rfl (dM U_25 Z_60 (Ht rfl) (Ht rfl) rfl (i:=4) rfl (by rw [List.length_map,hrl]; exact hb1) rfl) ?_)))))))))))))))))
         refine mY Z_60 (Ht rfl) (Ht rfl) (El.ag rfl) (i:=4) rfl rfl (by rw [List.length_map,hrl]; exact hb1) rfl ?_
         refine eJ (bD (cY (ro rfl (dW (Ht rfl) (cJ 1) z6) (rm rfl (eJ (bL [0,1,2,3,4] rfl (by decide) (gQ (y + 1) hyn zo (zS rfl) (aU (aB rfl) (aU (aB rfl) (aU (aB rfl) (aU (fun _ _ _ h=>h) (aU (aO (by rw [iG]; exact congrArg _ hst)) aY))))))))))))
        ·have hyn : y = 2 * js.length := by simp only [decide_eq_false_iff_not] at hd3; omega
         rw [hyn,a0x]
         refine gG rfl (gW (i:=4) (tt:=23) rfl rfl gH (cY (rm rfl (rm rfl (ro rfl (cI (xs:=[.tmp 173]) U_26 Z_25 O_25 (cW (Ht rfl) cG) rfl rfl rfl) (lE (inf:=Tryz.t25) a5w nD rfl rfl rfl (Ht rfl) (Ht rfl) (i:=3) rfl (by simp) (fun T hT=>by simp at hT; subst hT; exact El.one) (by show _ * 24 ≤ _; simp only [List.length_map,List.length_append,List.length_cons,List.length_nil,aC]; omega) (by simp only [List.length_map,List.length_append,List.length_cons,List.length_nil,aC]; omega) rfl (fun v6=>?_)))))))
         refine ra rfl (eJ (bD (cY (ro rfl (dW (Ht rfl) (cJ 1) z6) (rm rfl (eJ (bL [0,1,2,3] rfl (by decide) (gQ (i + 1,v6) hin (by dsimp only; omega) (zS rfl) (aU (aB rfl) (aU (aB rfl) (aU (aB rfl) (aU (aO (by rw [hnx,List.map_append,List.map_append]; rfl)) aY))))))))))))
     ·have hiz : i = z.length := by simp only [decide_eq_false_iff_not] at hc; omega
      rw [hiz]
      refine gG rfl (gW (i:=3) (tt:=16) rfl rfl gH (cK (fV (m:=5) (dp 6 rfl (eG A_28 Z_28 (Ht rfl) (i:=2) rfl rfl rfl) (dp 16 rfl (cX (Ht rfl)) (dp 2 rfl (eW nC (Ht rfl) rfl) (dq 179 2 rfl (fX A_26 Z_26 (Ht rfl) (i:=0) rfl rfl) (dP 178 1 180 3 rfl (cZ Tryz.call148 hcar ⟨(Ht rfl),(Ht rfl),trivial⟩) (fG aT rfl (by kernel_rfl) (zF (aJ (aV (ro rfl (pW (Ht rfl) (Ht rfl)) (gZ Z_80 (Ht rfl) (Ht rfl) rfl (i:=1) rfl (aK rfl) rfl rfl ?_))))))))))))))
      refine ro rfl (cQ (cJ 0)) (eJ (bM rfl (fJ (fY A_80 Z_80 rfl (i:=1) rfl rfl) ?_) (fJ (fQ rfl) ?_)))
      ·exact (fun v V h=>by rw [Rn,fF,if_pos he]; exact h)
      ·exact (bE he.symm)
end
section
open Go Go.RowKit
section
variable {z:List Qi} {s c:List (List Qi)} {js:List (Int × Int)}
theorem a2n (hch:bT c z.length z.length):bT (Rn z s c js) (qX z s js).length (qX z s js).length:=by
 by_cases h:vX z s js = 0
 ·have hp := Qw s js z.length
  rw [Rn,qX,fF,fF,if_pos h,if_pos h]
  have h2:=pX (p:=yM s js z.length) (c:=c)
  rw [hp.1] at h2
  by_cases h0:js.length = 0
  ·rw [if_pos h0]
   obtain rfl:js = []:=List.length_eq_zero_iff.1 h0
   rw [Hk hch]; exact hch
  ·rw [if_neg h0,Cf,show (mN z (dT z js)).length = (dT z js).length from aC _ _]; exact h2
 ·rw [Rn,qX,fF,fF,if_neg h,if_neg h]; exact ⟨rfl,fun r hr=>by cases hr⟩
end
end
section
open Go Go.RowKit
def Vp (n p:Nat):List Nat:=tab n fun k=>sQ p k n + 1
theorem Yq {n p:Nat} (hp:p < n) (hn:n ≤ 4):yZ (Vp n p) n:=by
 have hn1:n = 1 ∨ n = 2 ∨ n = 3 ∨ n = 4:=by omega
 rcases hn1 with rfl | rfl | rfl | rfl
 ·obtain rfl : p = 0 := by omega
  exact ⟨by decide,fun x=>by simp [Vp,tab,sQ,List.range_succ]; omega⟩
 ·have h : p = 0 ∨ p = 1 := by omega
  rcases h with rfl | rfl <;> exact ⟨by decide,fun x=>by simp [Vp,tab,sQ,List.range_succ]; omega⟩
 ·have h : p = 0 ∨ p = 1 ∨ p = 2 := by omega
  rcases h with rfl | rfl | rfl <;> exact ⟨by decide,fun x=>by simp [Vp,tab,sQ,List.range_succ]; omega⟩
 ·have h : p = 0 ∨ p = 1 ∨ p = 2 ∨ p = 3 := by omega
  rcases h with rfl | rfl | rfl | rfl <;> exact ⟨by decide,fun x=>by simp [Vp,tab,sQ,List.range_succ]; omega⟩
theorem a1R {n p:Nat} (hp:p < n):uX ((Vp n p).map fun (q:Nat)=>(q:Int)) = Fi n p:=by
 rw [uX,List.map_map,Vp,Jb,yK hp]
 exact cR fun k _=>by show (((sQ p k n + 1:Nat):Int) - 1).toNat = sQ p k n; omega
end
section
open Go Go.RowKit
section
variable {z fz:List Qi} {s f:List (List Qi)} {t:Qi} {p n:Nat}
theorem a0d (hp:z.all jG = true) (hs:bT s z.length z.length) {i j:Nat} (hi:i < z.length) (hj:j < z.length):(gm (dB z s) j i).conj = gm (dB z s) i j:=by
 rw [rA hs.1 hj hi,rA hs.1 hi hj,Bo,nB]
 congr 1
 ·by_cases c : i = j
  ·rw [if_pos c,if_pos c.symm,c]; exact (a0X hp j hj).1
  ·rw [if_neg c,if_neg (Ne.symm c),fS]
 ·exact aA fun k hk=>by rw [fA,fA,kW,(a0X hp k hk).1]; grind
theorem a2R {c : List (List Qi)} (ht : t.conj = t) (h0 : 0 ≤ t.re) (h : xW n (gm c)) : xW n (gm (fI t c n)) := fun x => by
 rw [lK (p':=x) (q':=x) (C':=fun a b=>t * gm c a b) (fun _ _=>rfl) (fun _ _=>rfl) fun a b ha hb=>by rw [fI,dR ha hb],Lp]
 exact Zx ht h0 (h x)
theorem Ot (hp:z.all jG = true) (hs:bT s z.length z.length) (ht:t.conj = t) (h0:0 ≤ t.re) (h:xW z.length (gm (dB z s))):Er (fI t (dB z s) z.length) z.length = true:=by
 rw [Sd kT]
 refine ⟨decide_eq_true fun i hi k hk=>?_,a2R ht h0 h⟩
 rw [fI,dR hi hk,dR hk hi,fA,ht,a0d hp hs hi hk]
theorem Uq (hz : z.length = n) (hfl : fz.length = 2) (hp : p < n) (h8 : n + 2 ≤ 8) (hpz : gv fz 1 = gv z p) (hD : mE s f p ≠ 0) (hs : bT s n n) (hf : bT f 2 2) :
  mX (Rn (z ++ fz) (pO s f n) (kO (fI t (dB z s) n) (fI t (dB fz f) 2) n 2) (J1 p (n + 1))) (Fi n p) = fI t (dB (z.set p (gv fz 0)) (He s f p n)) n:=by
 obtain ⟨hE,hJ,hl,q1,q2,q3⟩:=tK hz hfl hp h8 hpz hD hs
 have hzl:(z ++ fz).length = n + 2:=by rw [List.length_append]; omega
 have e1 : kO (fI t (dB z s) n) (fI t (dB fz f) 2) n 2 = fI t (dB (z ++ fz) (pO s f n)) (z ++ fz).length := by
  rw [← a0C,hzl]
  have:=Li (z:=z) (zb:=fz) (a:=s) (b:=f) (by rw [hs.1,hz]) (by rw [hf.1,hfl])
  rw [hz,hfl] at this
  rw [← this]
 rw [e1,a4T (by rw [hzl]; exact mC _ _ _ _) hE zo,hl,a0e hz hfl hp h8 hpz hD hs]
 have l1:=xO (fI t (dB (qX (z ++ fz) (pO s f n) (J1 p (n + 1))) (vA (z ++ fz) (pO s f n) (J1 p (n + 1)))) n) (Fi n p)
 rw [q1] at l1
 refine lB l1 kT fun i hi j hj=>?_
 have hqi:=nU q2 (i:=i) zo
 have hqj:=nU q2 (i:=j) zo
 have u:∀ M:List (List Qi),gm (mX M (Fi n p)) i j = gm M (cO (Fi n p) i) (cO (Fi n p) j):=fun M=>dR zo zo
 rw [u,fI,dR hqi hqj,fI,dR hi hj,u]
end
def qF (n:Nat):List Qi:=tab n fun _=>Qi.ofInt 1
def Uh (l:List Rt) (j:Nat):Qi:=if l.length = 0 then Qi.zero else (l.getD (j % l.length) Uu).q
def uV (n:Nat) (l:List Rt):List (List Qi):=tab n fun i=>tab n fun k=>Uh l (n * i + k)
theorem uH (n:Nat):(qF n).length = n:=aC _ _
theorem Ak (n:Nat):bR (qF n) 2:=bR.tab fun _ _=>mF.le (by decide)
theorem Ie (n : Nat) (l : List Rt) : aS (uV n l) 2 := aS.tab fun i k _ _ => by
 unfold Uh; split
 ·exact aH.zero (by decide)
 ·exact fitRt
theorem xB (n:Nat) (l:List Rt):bT (uV n l) n n:=bT.tab
theorem xD (n:Nat):(qF n).all jG = true:=by
 rw [List.all_eq_true]
 intro x hx
 obtain ⟨_,_,rfl⟩:=eS.1 hx
 decide +kernel
theorem a4W {n:Nat} (l:List Rt) (h1:1 ≤ n) (h8:n ≤ 8):kL (qF n) (uV n l) = 0:=by
 have hs:=xB n l
 have hl:=uH n
 rw [kL,if_neg,if_pos (xD n)]
 rintro (h | h | h | h)
 ·omega
 ·omega
 ·exact h (by rw [hs.1,hl])
 ·obtain ⟨x, hx, h2⟩ := List.any_eq_true.1 h
  simp [hs.2 x hx,hl] at h2
theorem Zv {α : Type} {f : Nat → α} {z : α} {n k : Nat} (h : f k = z) : kR f z n (k + 1) = kR f z n k := cR fun i _ => by
 by_cases a:i < k
 ·rw [if_pos a,if_pos zo]
 ·rw [if_neg a]
  by_cases b:i = k
  ·rw [if_pos zo,b,h]
  ·rw [if_neg zo]
def twL:List Rt:=[Uu,a3J,a3J,Uu]
def twC:List (List Qi):=fI (Qi.ofInt 290) (dB (qF 2) (uV 2 twL)) 2
theorem a6L:zP (qF 2) (uV 2 twL) twC (Qi.ofInt 0) (Qi.ofInt 290) = (Qi.ofInt 4,0):=by decide +kernel
end
section
open Go Go.RowKit
section
variable {P:Program} {R:iK} {cx:Cx} {n:Nat} {k:List It} {E:dC} {H:Hp} {ops:Array Oper} {o:Oper} {rest:List Oper}
variable {d:Option Tmp} {t tx ty:TypeId} {pos:String} {af:Array Edge} {g:Option (Nat × Bool)}
theorem a2A {x y z : Operand} {kd : IntKind} {tys : Array TypeId} (hx : bH E x (aN kd 0)) (hy : bH E y (aN kd 0)) (hz : bH E z (aN kd 0)) : aM P n E H ⟨d, .call ⟨.builtin .max, #[x, y, z], tys⟩, t, pos, af, g⟩ (aN kd 0) :=
 dN fun c V w hs => by
  have ex:c.eval x = .int kd 0:=hx n V c hs
  have ey:c.eval y = .int kd 0:=hy n V c hs
  have ez:c.eval z = .int kd 0:=hz n V c hs
  refine ⟨.int kd 0,?_,rfl⟩
  simp [execOp,resolve,ex,ey,ez,invoke,builtin,Builtin.max_,Builtin.max2,Sem.run_bind,Result.andThen]
end
end
section
open Go Go.RowKit
def rOk (r:Rt):Bool:=decide (((-1000 ≤ r.re ∧ r.re ≤ 1000) ∧ (-1000 ≤ r.im ∧ r.im ≤ 1000)) ∧ (-1000 ≤ r.den ∧ r.den ≤ 1000))
def smB (l:List Rt):Bool:=l.all rOk && decide (l.length ≤ 100)
theorem a3b {l:List Rt} {k:Nat} (hk:k < l.length) (h:rOk (l.getD k default) = false):smB l = false:=by
 have hm:l.getD k default ∈ l:=by rw [show l.getD k default = l[k] by simp [List.getD,hk]]; exact List.getElem_mem hk
 have : l.all rOk = false := by
  rw [List.all_eq_false]; exact ⟨_,hm,by rw [h]; simp⟩
 rw [smB,this]; rfl
theorem a3a {l:List Rt} (h:∀ k,k < l.length → rOk (l.getD k default) = true):smB l = decide (l.length ≤ 100):=by
 have : l.all rOk = true := by
  rw [List.all_eq_true]
  intro x hx
  obtain ⟨k,hk,e⟩:=List.getElem_of_mem hx
  have:=h k hk
  rwa [show l.getD k default = x by simp [List.getD,hk,e]] at this
 rw [smB,this]; rfl
theorem Jt {l:List Rt} (hl:l.length ≤ 9223372036854775807):bI Tryz.prog 56 [sY l] (aI (smB l)):=by
 refine bI.intro Tryz.func56 rfl Tryz.ntmps56 rfl (fun cx=>(ts (ro rfl (cQ cV) (eJ (cK (ts (rm rfl (ro rfl (dU U_22 (Ht rfl) aD) (ro rfl (cX (cJ 0)) (eJ (eU ?_)))))))))))
 refine cB (fun (k : Nat) => k ≤ l.length ∧ ∀ j, j < k → rOk (l.getD j default) = true) (fun (k : Nat) => l.length - k) (fun (k : Nat) => [(0, sY l), (5, sY l), (6, NT .i64 l.length), (7, NT .i64 k)]) (fun (k : Nat) => []) 0 ⟨Nat.zero_le _, fun j h => by omega⟩
  (zS rfl) aY (fun k ⟨hk,hr⟩=>?_)
 refine ts (ro rfl (gJ (Ht rfl) (Ht rfl)) (eJ (cK (dQ (Ht rfl) (fun hd=>?_) (fun hd=>?_)))))
 ·have hkl : k < l.length := by simp only [decide_eq_true_eq] at hd; omega
  obtain ⟨r,hrr⟩:∃ r,r = l.getD k default:=⟨_,rfl⟩
  refine cU (cK (eU (ts (ro rfl (dZ U_22 Z_48 (Ht rfl) (Ht rfl) rfl (eX (show l[k]? = some r by rw [hrr]; exact eQ (d:=default) hkl))) (ro rfl (dJ Tryz.isAgg48 Z_48 (Ht rfl)) (rn rfl (eK (Ts:=[Is (.int .i64 0),Is (.int .i64 0),Is (.int .i64 0)]) O_48 rfl (fun V=>aW zd (aW zd (aW zd (aG))))) fun B4=>(gZ Z_48 (Ht rfl) (Ht rfl) rfl (i:=0) rfl (aK rfl) rfl rfl (eJ (ts (ro rfl (eW Hg (Ht rfl) rfl) ?_))))))))))
  refine ro rfl (fX A_2 Z_2 (Ht rfl) (i:=0) rfl rfl) (ro rfl (sI (Ht rfl) cV) (rm rfl (fZ rfl rfl (eY rfl rfl (Ht rfl) (fun h=>eW Hg (Ht rfl) rfl)) (fZ rfl rfl (eY rfl rfl (Ht rfl) (fun h=>fX A_2 Z_2 (fW rfl h) (i:=0) rfl rfl)) (fZ rfl rfl (eY rfl rfl (Ht rfl) (fun h=>Cq (fW rfl h) cV)) (ro rfl (lZ (Ht rfl) (fun h=>(fW rfl h))) (rm rfl (fZ rfl rfl (eY rfl rfl (Ht rfl) (fun h=>eW Hh (Ht rfl) rfl)) (fZ rfl rfl (eY rfl rfl (Ht rfl) (fun h=>fX A_2 Z_2 (fW rfl h) (i:=0) rfl rfl)) ?_)))))))))
  refine fZ rfl rfl (eY rfl rfl (Ht rfl) (fun h=>sI (fW rfl h) cV)) (ro rfl (lZ (Ht rfl) (fun h=>(fW rfl h))) (rm rfl (fZ rfl rfl (eY rfl rfl (Ht rfl) (fun h=>eW Hh (Ht rfl) rfl)) (fZ rfl rfl (eY rfl rfl (Ht rfl) (fun h=>fX A_2 Z_2 (fW rfl h) (i:=0) rfl rfl)) (fZ rfl rfl (eY rfl rfl (Ht rfl) (fun h=>Cq (fW rfl h) cV)) (ro rfl (lZ (Ht rfl) (fun h=>(fW rfl h))) (rm rfl (fZ rfl rfl (eY rfl rfl (Ht rfl) (fun h=>eW wT (Ht rfl) rfl)) (fZ rfl rfl (eY rfl rfl (Ht rfl) (fun h=>fX A_2 Z_2 (fW rfl h) (i:=0) rfl rfl)) ?_)))))))))
  refine fZ rfl rfl (eY rfl rfl (Ht rfl) (fun h=>sI (fW rfl h) cV)) (ro rfl (lZ (Ht rfl) (fun h=>(fW rfl h))) (rm rfl (fZ rfl rfl (eY rfl rfl (Ht rfl) (fun h=>eW wT (Ht rfl) rfl)) (fZ rfl rfl (eY rfl rfl (Ht rfl) (fun h=>fX A_2 Z_2 (fW rfl h) (i:=0) rfl rfl)) (fZ rfl rfl (eY rfl rfl (Ht rfl) (fun h=>Cq (fW rfl h) cV)) (ro rfl (lZ (Ht rfl) (fun h=>(fW rfl h))) (eJ (dQ (Ht rfl) (fun he=>?_) (fun he=>?_)))))))))
  ·have hb : rOk r = false := by
    simp only [Bool.or_eq_true,decide_eq_true_eq] at he
    rw [rOk,decide_eq_false_iff_not]; omega
   rw [hrr] at hb
   refine ts (ro rfl (cQ cV) (eJ (fK rfl (fJ (fQ rfl) ?_))))
   exact (eD (a3b hkl hb).symm)
  ·have hb : rOk r = true := by
    simp only [Bool.or_eq_false_iff,decide_eq_false_iff_not] at he
    rw [rOk,decide_eq_true_eq]; omega
   rw [hrr] at hb
   refine cU (bD (cY (ro rfl (dW (Ht rfl) (cJ 1) z6) (rm rfl (eJ (bL [] rfl (by decide) ?_))))))
   refine gQ (k + 1) ⟨hkl, fun j h => by
     by_cases e:j = k
     ·rw [e]; exact hb
     ·exact hr j zo⟩ zo (zS rfl) aY
 ·have hkl : k = l.length := by simp only [decide_eq_false_iff_not] at hd; omega
  refine gG rfl (ts (rm rfl (ro rfl (dU U_22 (Ht rfl) aD) (ro rfl (uJ (Ht rfl) (cJ 100)) (ra rfl (eJ (fK rfl (fJ (fQ rfl) ?_))))))))
  exact (eD (by rw [a3a fun j h=>hr j zo]))
theorem a4g {n:Nat} (hn:n ≤ 8):bI Tryz.prog 159 [NT .i64 n] (aL (qF n)):=by
 refine bI.intro Tryz.func159 rfl Tryz.ntmps159 rfl (fun cx=>(ts (ro rfl (cQ cV) (eJ (ts (rm rfl (rn rfl (mT (T:=aE Qi.zero) (i:=Tryz.t60) jK iB rfl rfl (Ht rfl) rfl jF (El.ag rfl) (by show 88 * _ ≤ _; omega) zo) fun B6=>(ra rfl (eJ (cK (ts (rm rfl (ro rfl (oA U_25 (Ht rfl) (i:=0) rfl (show ((List.replicate n (aE Qi.zero)).length:Int) = ((n:Nat):Int) from by simp)) (ro rfl (cX (cJ 0)) (eJ (eU ?_))))))))))))))))
 refine cB (fun (k : Nat) => k ≤ n) (fun (k : Nat) => n - k) (fun (k : Nat) => [(3, Is B6), (8, NT .i64 n), (9, NT .i64 k)]) (fun (k : Nat) => [bF 60 5 B6 ((kR (fun _ => Qi.ofInt 1) Qi.zero n k).map aE)]) 0 (Nat.zero_le _)
  (zS rfl) (aU (aO (by rw [← iO]; exact sM aE _)) aY) (fun k hi=>?_)
 refine ts (ro rfl (gJ (Ht rfl) (Ht rfl)) (eJ (cK (dQ (Ht rfl) (fun hc=>?_) (fun hc=>?_)))))
 ·have hin : k < n := by simp only [decide_eq_true_eq] at hc; omega
  refine cU (cK (eU (ts (rm rfl (ra rfl (eJ (cY (rm rfl (rm rfl (ro rfl (cZ K_52 (oW (n:=1) (by decide) (by decide)) ⟨(cJ 1),trivial⟩) (ro rfl (dM U_25 Z_60 (Ht rfl) (Ht rfl) rfl (i:=0) rfl (by rw [List.length_map,dD]; omega) rfl) ?_)))))))))))
  refine mY Z_60 (Ht rfl) (Ht rfl) (El.ag rfl) (i:=0) rfl rfl (by rw [List.length_map,dD]; omega) rfl ?_
  refine eJ (bD (cY (ro rfl (dW (Ht rfl) (cJ 1) z6) (rm rfl (eJ (gQ (k + 1) hin zo (zS rfl) (aU (aO (by rw [iG]; exact congrArg _ (jI (f:=(fun _=>Qi.ofInt 1))))) aY)))))))
 ·obtain rfl : n = k := by simp only [decide_eq_false_iff_not] at hc; omega
  rw [jR,show tab n (fun _=>Qi.ofInt 1) = qF n from rfl]
  refine gG rfl (cK (gW (i:=0) (tt:=3) rfl rfl gH (cY (rm rfl (ra rfl (eJ ?_))))))
  exact fK rfl (fQ rfl)
theorem Nl {n:Nat} {l:List Rt} (h1:1 ≤ n) (h4:n ≤ 4):bI Tryz.prog 58 [NT .i64 n,sY l] (fE [dO (qF n) (uV n l),bC (uV n l)]):=by
 have hnw : bI Tryz.prog 93 [aL (qF n), bC (uV n l)] (fE [dO (qF n) (uV n l), aN .i64 0]) := by
  have h:=Xh (z:=qF n) (s:=uV n l) (L:=2) (Ak n) (by decide) (by rw [uH]; omega) (by rw [(xB n l).1]; omega)
  rw [a4W l h1 zo] at h; exact h
 refine bI.intro Tryz.func58 rfl Tryz.ntmps58 rfl (fun cx=>(ts (rn rfl (eK (Ts:=[Is (.slice none 0 0),Is (.slice none 0 0)]) O_28 rfl (fun V=>aW zd (aW zd (aG)))) fun B4=>(ro rfl (cQ cV) (eJ (ts (rm rfl (rn rfl (iF (T:=Is (.slice none 0 0)) (i:=Tryz.t25) V_26 nD rfl rfl (Ht rfl) rfl (fun _=>rfl) trivial (by show 24 * _ ≤ _; omega) zo) fun B12=>(ra rfl (eJ (cK (ts (rm rfl (ro rfl (gI U_26 (Ht rfl)) (ro rfl (cX (cJ 0)) ?_)))))))))))))))
 refine eJ (eU (mH 1 rfl (sB (e:=60) (s:=5)) (bL [0,1] rfl (by decide) ?_)))
 refine cB (fun (i : Nat) => i ≤ n) (fun (i : Nat) => n - i) (fun (i : Nat) => [(0, NT .i64 n), (1, sY l), (4, bO B4 0), (6, Is (.slice (some ⟨B12, 0, none⟩) n n)), (14, NT .i64 n), (15, NT .i64 i)]) (fun (i : Nat) => [box B4 28 [Is (.slice none 0 0), Is (.slice none 0 0)], oH B12 25 60 5 (bN aE (kR (fun i => tab n fun k => Uh l (n * i + k)) [] n i))]) 0 (Nat.zero_le _)
  (zS rfl) (aU (aB rfl) (aU (cA (by rw [← iO,kX]; exact mB aE _)) aY)) (fun i hi=>?_)
 refine ts (ro rfl (gJ (Ht rfl) (Ht rfl)) (eJ (cK (dQ (Ht rfl) (fun hd=>?_) (fun hd=>?_)))))
 ·have hin : i < n := by simp only [decide_eq_true_eq] at hd; omega
  refine cU (cK (eU (ts (rm rfl (ra rfl (eJ (cK (qJ 1 (i) rfl (kP hin) (fun v0=>(cY (rm rfl (rm rfl (rm rfl (rn rfl (mT (T:=aE Qi.zero) (i:=Tryz.t60) jK iB rfl rfl (Ht rfl) rfl jF (El.ag rfl) (by show 88 * _ ≤ _; omega) zo) fun B21=>(ro rfl (gX U_26 Z_25 (Ht rfl) (Ht rfl) rfl zo (by rw [Nat.mul_one,Nat.zero_add])) ?_)))))))))))))))
  refine sX Z_25 (Ht rfl) (Ht rfl) (by simp only [bN,List.length_map,dD]; omega) (j:=1) (l:=3) rfl rfl rfl ?_
  refine eJ (cK (bL [0,1,3] rfl (by decide) (cY (rm rfl (rm rfl (ro rfl (gX U_26 Z_25 (Ht rfl) (Ht rfl) rfl zo (by rw [Nat.mul_one,Nat.zero_add])) ?_))))))
  refine ro rfl (jY A_25 Z_25 (Ht rfl) (j:=1) rfl) (ro rfl (oA U_25 (Ht rfl) (i:=2) rfl (show ((List.replicate n (aE Qi.zero)).length:Int) = ((n:Nat):Int) from by simp)) (ro rfl (cX (cJ 0)) (eJ (eU ?_))))
  refine cB (fun (j : Nat) => j ≤ n) (fun (j : Nat) => n - j) (fun (j : Nat) => [(0, NT .i64 n), (1, sY l), (4, bO B4 0), (6, Is (.slice (some ⟨B12, 0, none⟩) n n)), (7, NT .i64 i), (14, NT .i64 n), (15, NT .i64 i), (27, NT .i64 n), (28, NT .i64 j)]) (fun (j : Nat) => [box B4 28 [Is (.slice none 0 0), Is (.slice none 0 0)], Ky B12 25 60 5 (bN aE (kR (fun i => tab n fun k => Uh l (n * i + k)) [] n i)) i B21, bF 60 5 B21 ((kR (fun k => Uh l (n * i + k)) Qi.zero n j).map aE)]) 0 (Nat.zero_le _)
   (zS rfl) (aU (aB rfl) (aU (fun _ _ _ h=>h) (aU (aO (by rw [← iO]; exact sM aE _)) aY))) (fun j hj=>?_)
  refine ts (ro rfl (gJ (Ht rfl) (Ht rfl)) (eJ (cK (dQ (Ht rfl) (fun he=>?_) (fun he=>?_)))))
  ·have hjn : j < n := by simp only [decide_eq_true_eq] at he; omega
   refine cU (cK (eU (ts (rm rfl (ra rfl (eJ (ts (rm rfl (ro rfl (dU U_22 (Ht rfl) aD) (ro rfl (jU (Ht rfl) (cJ 0)) (eJ (dQ (Ht rfl) (fun hl=>?_) (fun hl=>?_)))))))))))))
   ·have hll : 0 < l.length := by simp only [decide_eq_true_eq] at hl; omega
    have hlm:=Nat.mod_lt (n * i + j) hll
    have hni:n * i ≤ 16:=Nat.le_trans (Nat.mul_le_mul (show n ≤ 4 by omega) (show i ≤ 4 by omega)) (by decide)
    have hq:(l.getD ((n * i + j) % l.length) Uu).q = Uh l (n * i + j):=by rw [Uh,if_neg zo]
    refine fV (m:=17) (dp 6 rfl (cX (Ht rfl)) (dp 7 rfl (cX (Ht rfl)) (dP 34 0 35 1 rfl (gX U_26 Z_25 (Ht rfl) (Ht rfl) rfl zo (by rw [Nat.mul_one,Nat.zero_add])) ?_)))
    refine dq 36 2 rfl (jY A_25 Z_25 (Ht rfl) (j:=1) rfl) (dp 8 rfl (cX (Ht rfl)) (dp 1 rfl (cX (Ht rfl)) (dp 0 rfl (cX (Ht rfl)) (dp 7 rfl (cX (Ht rfl)) (dP 40 6 41 7 rfl (pK (Ht rfl) (Ht rfl) z6) (dp 8 rfl (cX (Ht rfl)) (dP 42 8 43 9 rfl (dW (Ht rfl) (Ht rfl) z6) (dp 1 rfl (cX (Ht rfl)) (dq 45 11 rfl (dU U_22 (Ht rfl) aD) (dP 44 10 46 12 rfl (qT (Ht rfl) (Ht rfl) zo) ?_))))))))))
    refine dP 39 5 47 13 rfl (dZ U_22 Z_48 (Ht rfl) (Ht rfl) rfl (eX (eQ (d:=Uu) hlm))) (dq 48 14 rfl (dJ Tryz.isAgg48 Z_48 (Ht rfl)) (dq 49 15 rfl (cZ Tryz.call33 (a1p (r:=l.getD ((n * i + j) % l.length) Uu)) ⟨(Ht rfl),trivial⟩) ?_))
    refine fG aT rfl (by kernel_rfl) (zF (zF (zF (zF (aJ (aV (ro rfl (dM U_25 Z_60 (Ht rfl) (Ht rfl) rfl (i:=2) rfl (by rw [List.length_map,dD]; omega) rfl) ?_)))))))
    refine mY Z_60 (Ht rfl) (Ht rfl) (El.ag rfl) (i:=2) rfl rfl (by rw [List.length_map,dD]; omega) rfl ?_
    refine eJ (bD (cY (ro rfl (dW (Ht rfl) (cJ 1) z6) (rm rfl (eJ (gQ (j + 1) hjn zo (zS rfl) (aU (aB rfl) (aU (fun _ _ _ h=>h) (aU (aO (by rw [iG,hq]; exact congrArg _ (jI (f:=(fun k=>Uh l (n * i + k)))))) aY)))))))))
   ·have hll : l.length = 0 := by simp only [decide_eq_false_iff_not] at hl; omega
    have hq:Uh l (n * i + j) = Qi.zero:=by rw [Uh,if_pos hll]
    refine cU (bD (cY (ro rfl (dW (Ht rfl) (cJ 1) z6) (rm rfl (eJ (gQ (j + 1) hjn zo (zS rfl) (aU (aB rfl) (aU (fun _ _ _ h=>h) (aU (aO (by rw [Zv (f:=(fun k=>Uh l (n * i + k))) hq])) aY)))))))))
  ·obtain rfl : n = j := by simp only [decide_eq_false_iff_not] at he; omega
   rw [jR (fun k=>Uh l (n * i + k))]
   refine gG rfl (bD (fR 1 2 rfl rfl (by decide) (by simp only [bN,List.length_map,dD]; omega) ?_))
   refine cY (ro rfl (dW (Ht rfl) (cJ 1) z6) (rm rfl (eJ (bL [0,1] rfl (by decide) (gQ (i + 1) hin zo (zS rfl) (aU (aB rfl) (aU (cA (by rw [gS]; exact congrArg _ (jI (f:=(fun i=>tab n fun k=>Uh l (n * i + k)))))) aY)))))))
 ·obtain rfl : n = i := by simp only [decide_eq_false_iff_not] at hd; omega
  rw [jR]
  refine gG rfl (cK (gW (i:=1) (tt:=6) rfl rfl (kG (s:=5) (M:=uV n l) (xB n l).1.symm) (cY (rm rfl (ro rfl (cZ Tryz.call159 (a4g (n:=n) zo) ⟨(Ht rfl),trivial⟩) (rm rfl (ro rfl (cZ Tryz.call93 hnw ⟨(Ht rfl),(Ht rfl),trivial⟩) (rm rfl (ro rfl (dY (Ht rfl) rfl) (ro rfl (dY (Ht rfl) rfl) (rn rfl (eK (Ts:=[Is (.slice none 0 0),Is (.slice none 0 0)]) O_28 rfl (fun V=>aW zd (aW zd (aG)))) fun B9=>(gZ Z_28 (Ht rfl) (Ht rfl) rfl (i:=2) rfl (aK rfl) rfl rfl ?_))))))))))))
  refine ra rfl (eJ (ts (ro rfl (eG A_28 Z_28 (Ht rfl) (i:=2) rfl rfl rfl) (rm rfl (gZ Z_28 (Ht rfl) (Ht rfl) rfl (i:=0) rfl (aK rfl) rfl rfl (ra rfl (eJ ?_)))))))
  exact bM rfl (fY A_28 Z_28 rfl (i:=0) rfl rfl) (fQ rfl)
theorem Bg  : bI Tryz.prog 57 [] (aI true):=by
 have hzl:=uH 2
 have hfz:=Ak 2
 have hfs:=Ie 2 twL
 have hsh:bT (uV 2 twL) (qF 2).length (qF 2).length:=by rw [hzl]; exact xB 2 twL
 have hO:=Wv (z:=qF 2) (s:=uV 2 twL) (t:=Qi.ofInt 290) (L:=2) hfz hfs Wj (by decide) (by decide) hsh zo
 rw [a44,fF,fF,fF,if_pos rfl,if_pos rfl,if_pos rfl,hzl] at hO
 have hcs:bT twC (qF 2).length (qF 2).length:=by rw [hzl]; exact kT
 have hfc : aS twC 1000 := by
  rw [twC]; exact (a0B Wj (Cr hfz hfs (by decide) zo) (by decide)).le (by decide)
 have hF:=Wr (z:=qF 2) (s:=uV 2 twL) (c:=twC) (g:=Qi.ofInt 0) (t0:=Qi.ofInt 290) (L:=1000) (hfz.le (by decide)) (hfs.le (by decide)) hfc (a5G.le (by decide)) (Wj.le (by decide)) (by decide) (by decide) hsh hcs zo
 rw [a6L] at hF
 refine bI.intro Tryz.func57 rfl Tryz.ntmps57 rfl (fun cx=>(ts (ro rfl (cQ cV) (eJ (ts (ro rfl (Pn ) (ro rfl (Bd cV cV) (ro rfl (Bd cV cV) (ro rfl (Pn ) (ro rfl (cI (xs:=[.tmp 8,.tmp 9,.tmp 10,.tmp 11]) U_22 Z_48 O_48 (cW (Ht rfl) (cW (Ht rfl) (cW (Ht rfl) (cW (Ht rfl) cG)))) rfl rfl rfl) (ro rfl (cZ Tryz.call58 (Nl (n:=2) (l:=twL) (by decide) (by decide)) ⟨(cJ 2),(Ht rfl),trivial⟩) (rm rfl (ro rfl (dY (Ht rfl) rfl) ?_)))))))))))))
 refine ro rfl (dY (Ht rfl) rfl) (rn rfl (eK (Ts:=[Is (.slice none 0 0),Is (.slice none 0 0)]) O_28 rfl (fun V=>aW zd (aW zd (aG)))) fun B1=>(gZ Z_28 (Ht rfl) (Ht rfl) rfl (i:=0) rfl (aK rfl) rfl rfl (ra rfl (eJ (cK (Y.D_start (m:=8) [] (bY (Ei:=[(1,_)]) rfl rfl (bQ (bJ rfl rfl) bX) rfl rfl (dX rfl (eG A_28 Z_28 (Ht rfl) (i:=0) rfl rfl rfl)) (bY (Ei:=[]) rfl rfl bX rfl rfl (dX rfl (cZ K_52 (oW (n:=290) (by decide) (by decide)) ⟨(cJ 290),trivial⟩)) ?_))))))))
 refine bY (Ei:=[(17,_),(18,_)]) rfl rfl (bQ (bZ 0 rfl rfl) (bQ (bZ 1 rfl rfl) bX)) rfl rfl (dX rfl (cZ Tryz.call59 hO ⟨(Ht rfl),(Ht rfl),trivial⟩)) (bY (Ei:=[(19,_)]) rfl rfl (bQ (bZ 2 rfl rfl) bX) rfl rfl (dX rfl (cX (Ht rfl))) (bY (Ei:=[(16,_)]) rfl rfl (bQ (bZ 3 rfl rfl) bX) rfl rfl (dX rfl (dY (Ht rfl) rfl)) (bY (Ei:=[(16,_)]) rfl rfl (bQ (bZ 3 rfl rfl) bX) rfl rfl (dX rfl (dY (Ht rfl) rfl)) (Y.D_newp (Ei:=[]) (fun bb=>box bb 80 [aL (qF 2),bC (uV 2 twL),bC twC]) 7 rfl rfl rfl bX rfl rfl (by kernel_rfl) (eK (Ts:=[Is (.slice none 0 0),Is (.slice none 0 0),Is (.slice none 0 0)]) O_80 rfl (fun V=>aW zd (aW zd (aW zd (aG))))) ?_))))
 refine Y.D_putN (Ei:=[(20,_)]) 6 rfl rfl rfl rfl rfl rfl (bQ (bZ 4 rfl rfl) bX) (fun bb=>pT Z_80 (Ht rfl) (Ht rfl) rfl (i:=0) rfl (aK rfl) rfl rfl) (Y.D_done aT rfl (by kernel_rfl) rfl (by simp [Y.okP]) rfl rfl (bU (bU (bU (bU (bU (bU (Y.F_newp (fun B3=>Y.F_putN (Y.F_nil ?_))))))))))
 refine ra rfl (eJ (cK (Y.D_start (m:=9) [] (bY (Ei:=[(3,_)]) rfl rfl (bQ (bJ rfl rfl) bX) rfl rfl (dX rfl (eG A_80 Z_80 (Ht rfl) (i:=1) rfl rfl rfl)) (bY (Ei:=[]) rfl rfl bX rfl rfl (dX rfl (cZ K_52 (oW (n:=0) (by decide) (by decide)) ⟨(cJ 0),trivial⟩)) (bY (Ei:=[]) rfl rfl bX rfl rfl (dX rfl (cZ K_52 (oW (n:=290) (by decide) (by decide)) ⟨(cJ 290),trivial⟩)) (bY (Ei:=[(23,_),(24,_),(25,_)]) rfl rfl (bQ (bZ 0 rfl rfl) (bQ (bZ 1 rfl rfl) (bQ (bZ 2 rfl rfl) bX))) rfl rfl (dX rfl (cZ Tryz.call54 hF ⟨(Ht rfl),(Ht rfl),(Ht rfl),trivial⟩)) ?_)))))))
 refine bY (Ei:=[(26,_)]) rfl rfl (bQ (bZ 3 rfl rfl) bX) rfl rfl (dX rfl (cX (Ht rfl))) (bY (Ei:=[(22,_)]) rfl rfl (bQ (bZ 4 rfl rfl) bX) rfl rfl (dX rfl (dY (Ht rfl) rfl)) (bY (Ei:=[(22,_)]) rfl rfl (bQ (bZ 4 rfl rfl) bX) rfl rfl (dX rfl (dY (Ht rfl) rfl)) (Y.D_newp (Ei:=[]) (fun bb=>box bb 60 [aI (decide ((Qi.ofInt 4).a < 0)),bB (Qi.ofInt 4).a.natAbs,aI (decide ((Qi.ofInt 4).b < 0)),bB (Qi.ofInt 4).b.natAbs,bB (du (Qi.ofInt 4))]) 8 rfl rfl rfl bX rfl rfl (by kernel_rfl) (eK (Ts:=[Is (.bool false),Is (.slice none 0 0),Is (.bool false),Is (.slice none 0 0),Is (.slice none 0 0)]) O_60 rfl (fun V=>aW zd (aW zd (aW zd (aW zd (aW zd (aG))))))) ?_)))
 refine Y.D_putN (Ei:=[(27,_)]) 7 rfl rfl rfl rfl rfl rfl (bQ (bZ 5 rfl rfl) bX) (fun bb=>pT Z_60 (Ht rfl) (Ht rfl) rfl (i:=0) rfl (aK rfl) rfl rfl) (Y.D_done aT rfl (by kernel_rfl) rfl (by simp [Y.okP]) rfl rfl (bU (bU (bU (bU (bU (bU (bU (Y.F_newp (fun B5=>Y.F_putN (Y.F_nil ?_)))))))))))
 refine ra rfl (eJ (ts (rm rfl (ro rfl (qZ (Ht rfl) cV) (rm rfl (fZ rfl rfl (eY rfl rfl (Ht rfl) (fun h=>cX (Ht rfl))) (fZ rfl rfl (eY rfl rfl (Ht rfl) (fun h=>qZ (fW rfl h) cV)) (ro rfl (iU (Ht rfl) (fun h=>(fW rfl h))) (rm rfl (fZ rfl rfl (eY rfl rfl (Ht rfl) (fun h=>eG A_60 Z_60 (Ht rfl) (i:=2) rfl rfl rfl)) (fZ rfl rfl (eY rfl rfl (Ht rfl) (fun h=>cZ Tryz.call115 (a4b (x:=Qi.ofInt 4) (L:=2) (hx:=(@fitInt 4).le (by decide)) (by decide)) ⟨(fW rfl h),trivial⟩)) (fZ rfl rfl (eY rfl rfl (Ht rfl) (fun h=>a50 (fW rfl h) (bH.cS (l:=[52]) rfl))) ?_))))))))))))
 refine ro rfl (iU (Ht rfl) (fun h=>(fW rfl h))) (ra rfl (eJ (fK rfl (fJ (fQ rfl) ?_))))
 exact (eD (by rw [a5H]; rfl))
theorem a0p (k:Nat):(Qi.ofInt (k:Int)).conj = Qi.ofInt (k:Int) ∧ 0 ≤ (Qi.ofInt (k:Int)).re:=by
 refine ⟨Qi.ext' rfl (by show -(0:Rat) = 0; grind),?_⟩
 show (0:Rat) ≤ (((k:Nat):Int):Rat)
 exact_mod_cast Int.natCast_nonneg k
theorem a3k (k:Nat):oO (Qi.ofInt (k:Int)) = 0:=by
 obtain ⟨h1,h2⟩:=a0p k
 have hb:(Qi.ofInt (k:Int)).b = 0:=Qi.b_zero.2 rfl
 have ha : 0 ≤ (Qi.ofInt (k : Int)).a := by
  obtain ⟨d1,_⟩:=wP (Qi.ofInt (k:Int))
  have dp:=tF (Qi.ofInt (k:Int))
  have hm:=Rat.mul_nonneg (show (0:Rat) ≤ (((Qi.ofInt (k:Int)).den:Int):Rat) by grind) h2
  have h0:(0:Rat) ≤ (((Qi.ofInt (k:Int)).a:Int):Rat):=by grind
  exact_mod_cast h0
 have:Fx (Qi.ofInt (k:Int)) = true:=decide_eq_true ⟨hb,ha⟩
 rw [oO,this]; rfl
section
variable {z fz:List Qi} {S F:List (List Qi)} {T:Qi} {n p:Nat}
theorem De {z : List Qi} {S : List (List Qi)} {n L : Nat} (hT : aH T 2) (hz : bR z L) (hS : aS S L) (hL : 1 ≤ L) (h8 : z.length ≤ 8) : aS (fI T (dB z S) n) (2 + (201 * L + 301) + 1) := aS.tab fun i j _ _ => by
 haveI:=hT
 haveI:=(Cr hz hS hL h8).get zo i j
 infer_instance
theorem Pd (k:Qt z S 5 ∨ Qt z S 200) (hT:aH T 2) (hw:oO T = 0):bI Tryz.prog 59 [dO z S,aE T] (fE [gK z S (fI T (dB z S) z.length),aN .i64 0]):=by
 have k2 : bR z 200 ∧ aS S 200 ∧ bT S z.length z.length ∧ z.length ≤ 8 := by
  rcases k with k | k
  ·exact ⟨k.fz.le (by decide),k.fs.le (by decide),k.sh,k.h8⟩
  ·exact ⟨k.fz,k.fs,k.sh,k.h8⟩
 have h:=Wv (z:=z) (s:=S) (t:=T) (L:=200) k2.1 k2.2.1 (hT.le (by decide)) (by decide) (by decide) k2.2.2.1 k2.2.2.2
 rw [hw,fF,fF,fF,if_pos rfl,if_pos rfl,if_pos rfl] at h; exact h
theorem a0U (k:Qt z S 5) (m:Qt fz F 5) (hz:z.length = n) (h2:fz.length = 2) (h3:n ≤ 3):bI Tryz.prog 49 [gK z S (fI T (dB z S) z.length),gK fz F (fI T (dB fz F) fz.length)] (fE [gK (z ++ fz) (pO S F n) (kO (fI T (dB z S) n) (fI T (dB fz F) 2) n 2),aN .i64 0]):=by
 have h:=Xe (z:=z) (zb:=fz) (a:=S) (b:=F) (c:=fI T (dB z S) z.length) (cb:=fI T (dB fz F) fz.length) k.sh m.sh kT kT zo zo
 have hk:=a0O (x:=z.length) (y:=fz.length) zo
 rw [Mf,yV,yV,hk,fF,fF,fF,if_pos rfl,if_pos rfl,if_pos rfl,hz,h2] at h
 rw [hz,h2]; exact h
theorem a3e (k : Qt z S 5) (m : Qt fz F 5) (hT : aH T 2) (hz : z.length = n) (h2 : fz.length = 2) (h3 : n ≤ 3) (hp : p < n) (hpz : gv fz 1 = gv z p) (hD : mE S F p ≠ 0) :
  bI Tryz.prog 46 [gK (z ++ fz) (pO S F n) (kO (fI T (dB z S) n) (fI T (dB fz F) 2) n 2), kB 2 [fO [NT .i64 (p + 1), NT .i64 (n + 2)]]]
   (fE [gK (qX (z ++ fz) (pO S F n) (J1 p (n + 1))) (vA (z ++ fz) (pO S F n) (J1 p (n + 1))) (Rn (z ++ fz) (pO S F n) (kO (fI T (dB z S) n) (fI T (dB fz F) 2) n 2) (J1 p (n + 1))),aN .i64 0]):=by
 have hzl:(z ++ fz).length = n + 2:=by rw [List.length_append]; omega
 have hs:bT S n n:=by have:=k.sh; rwa [hz] at this
 obtain ⟨hE,hJ,hl,q1,q2,q3⟩:=tK hz h2 hp zo hpz hD hs
 have hff:aS (pO S F n) 5:=Lz k.fs m.fs (by decide)
 have hc:aS (kO (fI T (dB z S) n) (fI T (dB fz F) 2) n 2) 20000:=Lz ((De hT k.fz k.fs (by decide) k.h8).le (by decide)) ((De hT m.fz m.fs (by decide) m.h8).le (by decide)) (by decide)
 have h := Xd (z := z ++ fz) (s := pO S F n) (c := kO (fI T (dB z S) n) (fI T (dB fz F) 2) n 2) (js := J1 p (n + 1)) (L := 5) (G := 20000) (Yz k.fz m.fz) hff (by decide) (by decide) hc (by decide) (by decide) (fun he => by
  obtain ⟨_,_,hk,_⟩:=xC he zo
  exact (a1Z (L:=5) (G:=a5q 7) hff (by decide) (fun x=>a0K (nZ _ _ _) (Hx hff (by decide)) (a4x (by decide)) (by decide) (by show 2 ≤ 4; decide) (hk _)) (by decide) (by show 2 ≤ 8; decide)).le (by decide)) (by rw [hzl]; exact mC _ _ _ _) (by rw [hzl]; exact mC _ _ _ _) zo (by simp)
  (fun k hk=>Nat.le_trans (Nat.add_le_add_right (Nat.mul_le_mul_left 6 (pP _ (show 2 * k ≤ 4 by omega))) 4) (by decide)) (fun k hk=>Nat.le_trans (Nat.le_trans (Fy (pP _ (show 2 * k ≤ 4 by omega)) _) (Ed _ (show 2 * k + 1 ≤ 5 by omega))) (by decide))
 rw [hE] at h; exact h
theorem a5u (k : Qt z S 5) (m : Qt fz F 5) (hz : z.length = n) (h2 : fz.length = 2) (h3 : n ≤ 3) (hp : p < n) (hpz : gv fz 1 = gv z p) (hD : mE S F p ≠ 0) :
  bI Tryz.prog 60 [gK (qX (z ++ fz) (pO S F n) (J1 p (n + 1))) (vA (z ++ fz) (pO S F n) (J1 p (n + 1))) (Rn (z ++ fz) (pO S F n) (kO (fI T (dB z S) n) (fI T (dB fz F) 2) n 2) (J1 p (n + 1))), eT (Vp n p)]
   (fE [gK (z.set p (gv fz 0)) (He S F p n) (fI T (dB (z.set p (gv fz 0)) (He S F p n)) n),aN .i64 0]):=by
 have hzl:(z ++ fz).length = n + 2:=by rw [List.length_append]; omega
 have hs:bT S n n:=by have:=k.sh; rwa [hz] at this
 have hf:bT F 2 2:=by have:=m.sh; rwa [h2] at this
 obtain ⟨hE,hJ,hl,q1,q2,q3⟩:=tK hz h2 hp zo hpz hD hs
 obtain ⟨g1,g2,-⟩:=Ov (s:=S) (f:=F) hz h2 hp hpz hD
 have g3:=Uq (t:=T) hz h2 hp zo hpz hD hs hf
 have hO:=Yq hp (show n ≤ 4 by omega)
 have hcs:=a2n (z:=z ++ fz) (s:=pO S F n) (c:=kO (fI T (dB z S) n) (fI T (dB fz F) 2) n 2) (js:=J1 p (n + 1)) (by rw [hzl]; exact mC _ _ _ _)
 generalize qX (z ++ fz) (pO S F n) (J1 p (n + 1)) = JZ at *
 generalize vA (z ++ fz) (pO S F n) (J1 p (n + 1)) = JS at *
 generalize Rn (z ++ fz) (pO S F n) (kO (fI T (dB z S) n) (fI T (dB fz F) 2) n 2) (J1 p (n + 1)) = JC at *
 have h:=a4f (z:=JZ) (s:=JS) (c:=JC) (l:=(Vp n p).map fun (q:Nat)=>(q:Int)) (by rw [hl]; exact hJ) hcs zo (by rw [List.length_map,hO.len]; omega)
 have he : zU JZ.length ((Vp n p).map fun (q : Nat) => (q : Int)) = 0 := by
  rw [hl]; exact (Oo (by rw [List.length_map,hO.len])).trans (a0g hO)
 rw [Ir,xL,xL,he,fF,fF,fF,if_pos rfl,if_pos rfl,if_pos rfl,a1R hp,g1,g2,g3,show ((Vp n p).map fun (q:Nat)=>(q:Int)).map (aN .i64) = (Vp n p).map (NT .i64) by rw [List.map_map]; rfl] at h
 exact h
theorem a3f (k : Qt z S 200) (hT : aH T 2) (hc : T.conj = T) (h0 : 0 ≤ T.re) (hp : xW z.length (gm (dB z S))) :
  bI Tryz.prog 61 [gK z S (fI T (dB z S) z.length),gK z S (fI T (dB z S) z.length)] (aI true) ∧ bI Tryz.prog 45 [gK z S (fI T (dB z S) z.length)] (fE [aI true,aL (dfW (fI T (dB z S) z.length) z.length)]):=by
 have hf:aS (fI T (dB z S) z.length) 50000:=(De hT k.fz k.fs (by decide) k.h8).le (by decide)
 have h8:=k.h8
 constructor
 ·have h := Nh (L := 50000) (k.fz.le (by decide)) (k.fz.le (by decide)) (k.fs.le (by decide)) (k.fs.le (by decide)) (by decide) (by decide) k.sh k.sh zo zo hf hf kT kT
  rw [Oa] at h; simpa using h
 ·have h := Mz (z := z) (s := S) kT hf (by decide) (by decide) (fun hh => a3L kT hh hf (by decide) (by decide) h8) zo
  rw [Ot k.pos k.sh hc h0 hp] at h; exact h
end
theorem Ep {a0 a1 k:Nat} {l m:List Rt} (ha:a0 < 256) (hb:a1 < 256) (hl:l.length ≤ 9223372036854775807) (hm:m.length ≤ 9223372036854775807) (hk:k < 65536):bI Tryz.prog 7 [fO [NT .u8 a0,NT .u8 a1],fO [sY l,sY m],NT .u16 k] (aI true):=by
 have hm0:=Nat.mod_lt a1 (show 0 < 1 + a0 % 3 by omega)
 refine bI.intro Tryz.func7 rfl Tryz.ntmps7 rfl (fun cx=>(ts (rn rfl (fU (Ht rfl)) fun B3=>(rn rfl (fU (Ht rfl)) fun B4=>(ro rfl (cQ cV) (eJ (ts (ro rfl (gP Tryz.runUnderlying96 Z_5 (Ht rfl) (cJ 0) rfl (by decide) rfl) (ro rfl (fX Tryz.isAgg5 Z_5 (Ht rfl) (i:=0) rfl rfl) (ro rfl (gV U_5 U_3 (Ht rfl) z6) (ro rfl (qT (Ht rfl) (cJ 3) zo) (ro rfl (dW (cJ 1) (Ht rfl) z6) ?_))))))))))))
 refine ra rfl (eJ (ts (ro rfl (gP Tryz.runUnderlying96 Z_5 (Ht rfl) (cJ 1) rfl (by decide) rfl) (ro rfl (fX Tryz.isAgg5 Z_5 (Ht rfl) (i:=0) rfl rfl) (ro rfl (gV U_5 U_3 (Ht rfl) z6) (rm rfl (ro rfl (qT (Ht rfl) (Ht rfl) zo) (ro rfl (dW (cJ 1) (Ht rfl) z6) (ra rfl (eJ (cK (cK ?_))))))))))))
 obtain ⟨n,hn⟩:∃ n,n = 1 + a0 % 3:=⟨_,rfl⟩
 rw [← hn]
 obtain ⟨p,hp⟩:∃ p,p + 1 = 1 + a1 % n:=⟨a1 % n,by omega⟩
 rw [← hp]
 have hn1:1 ≤ n ∧ n ≤ 3:=by omega
 have hpn : p < n := by
  have:=Nat.mod_lt a1 (show 0 < n by omega)
  omega
 clear hn hp
 have mk : ∀ (x : Nat) (l : List Rt), 1 ≤ x → x ≤ 3 → bI Tryz.prog 23 [dO (qF x) (uV x l)] (fE [dO (qF x) (zI (uV x l) (qF x).length (Ox (qF x) (uV x l))), NT .i64 (Ox (qF x) (uV x l))]) ∧ Qt (qF x) (zI (uV x l) (qF x).length (Ox (qF x) (uV x l))) 5 ∧ xW (qF x).length (gm (dB (qF x) (zI (uV x l) (qF x).length (Ox (qF x) (uV x l))))) := fun x l h1 h3 => by
  have hx:=uH x
  have hsh:bT (uV x l) (qF x).length (qF x).length:=by rw [hx]; exact xB x l
  obtain ⟨k1,k2⟩:=Lx (qF x) (uV x l)
  exact ⟨Wx (Ak x) (Ie x l) (by decide) (by decide) (xD x) hsh zo zo,⟨(Ak x).le (by decide),Sm (Ie x l) (by decide) zo,by decide,by decide,xM _ _ _,by omega,xD x⟩,(Gz (xM _ _ _) (xD x)).1 (a34 (xD x))⟩
 obtain ⟨hS1,k1,p1⟩:=mk n l hn1.1 hn1.2
 obtain ⟨hS2,k2,p2⟩:=mk 2 m (by decide) (by decide)
 have hM1:=Nl (n:=n) (l:=l) hn1.1 zo
 have hM2:=Nl (n:=2) (l:=m) (by decide) (by decide)
 have e1:=uH n
 have e2:=uH 2
 have hpz:gv (qF 2) 1 = gv (qF n) p:=(show gv (qF 2) 1 = Qi.ofInt 1 from iN (by decide)).trans (show gv (qF n) p = Qi.ofInt 1 from iN hpn).symm
 generalize zI (uV n l) (qF n).length (Ox (qF n) (uV n l)) = s1 at *
 generalize zI (uV 2 m) (qF 2).length (Ox (qF 2) (uV 2 m)) = s2 at *
 generalize Ox (qF n) (uV n l) = q1 at *
 generalize Ox (qF 2) (uV 2 m) = q2 at *
 generalize uV n l = m1 at *
 generalize uV 2 m = m2 at *
 generalize qF n = z1 at *
 generalize qF 2 = z2 at *
 have hp1:p < z1.length:=by omega
 obtain ⟨hem,kE,pE⟩:=a6i (p:=p) k1 k2 e2 zo hp1 hpz p1 p2
 have hfx : Ae z1 z2 ((p + 1 : Nat) : Int) 2 = 0 := by
  rw [Ae,if_neg (by rw [e2]; simp),if_neg (fun k=>k ⟨by omega,by omega⟩),if_pos]
  rw [show (((p + 1:Nat):Int) - 1).toNat = p by omega]; exact hpz
 have dE : Bw z1 s1 z2 s2 ((p + 1 : Nat) : Int) = if mE s1 s2 p = 0 then 6 else 0 := by
  by_cases k:mE s1 s2 p = 0
  ·rw [if_pos k]; exact Qq hfx (by rw [show (((p + 1:Nat):Int) - 1).toNat = p by omega]; exact k)
  ·rw [if_neg k]; exact Yr hfx (by rw [show (((p + 1:Nat):Int) - 1).toNat = p by omega]; exact k)
 have vE : Bw z1 s1 z2 s2 ((p + 1 : Nat) : Int) = 0 → mE s1 s2 p ≠ 0 ∧ Ke z1 s1 z2 s2 ((p + 1 : Nat) : Int) = z1.set p (gv z2 0) ∧ Mn z1 s1 z2 s2 ((p + 1 : Nat) : Int) = He s1 s2 p n := fun k => by
  refine ⟨fun d=>by rw [dE,if_pos d] at k; exact absurd k (by decide),by rw [Ke,fF,if_pos k,show (((p + 1:Nat):Int) - 1).toNat = p by omega],by rw [Mn,fF,if_pos k,show (((p + 1:Nat):Int) - 1).toNat = p by omega,e1]⟩
 generalize Ke z1 s1 z2 s2 ((p + 1:Nat):Int) = ZE at *
 generalize Mn z1 s1 z2 s2 ((p + 1:Nat):Int) = SE at *
 generalize Bw z1 s1 z2 s2 ((p + 1:Nat):Int) = EE at *
 obtain ⟨T,hT⟩:∃ T,T = Qi.ofInt ((k:Nat):Int):=⟨_,rfl⟩
 have hTf : aH T 2 := by
  rw [hT]; exact (@fitInt (k:Int)).le (Nat.add_le_add_right (show (dg ((k:Int)).natAbs).length ≤ 1 from Bt (by rw [Int.natAbs_natCast,show BB ^ 1 = 4294967296 by decide]; omega)) 1)
 have hTw:oO T = 0:=by rw [hT]; exact a3k k
 obtain ⟨hTc,hT0⟩:T.conj = T ∧ 0 ≤ T.re:=by rw [hT]; exact a0p k
 have hTi:=oW (n:=((k:Nat):Int)) zo zo
 rw [← hT] at hTi
 refine cY (ro rfl (gP U_97 Z_22 (Ht rfl) (cJ 0) rfl (by decide) rfl) (ro rfl (fX Tryz.isAgg22 Z_22 (Ht rfl) (i:=1) rfl rfl) (ro rfl (cZ Tryz.call56 (Jt hl) ⟨(Ht rfl),trivial⟩) (ro rfl (fH (Ht rfl)) (rm rfl (fZ rfl rfl (eY rfl rfl (Ht rfl) (fun h=>gP U_97 Z_22 (Ht rfl) (cJ 1) rfl (by decide) rfl)) (fZ rfl rfl (eY rfl rfl (Ht rfl) (fun h=>fX Tryz.isAgg22 Z_22 (fW rfl h) (i:=1) rfl rfl)) (fZ rfl rfl (eY rfl rfl (Ht rfl) (fun h=>cZ Tryz.call56 (Jt hm) ⟨(fW rfl h),trivial⟩)) ?_))))))))
 refine fZ rfl rfl (eY rfl rfl (Ht rfl) (fun h=>fH (fW rfl h))) (ro rfl (lZ (Ht rfl) (fun h=>(fW rfl h))) (eJ (dQ (Ht rfl) (fun hs=>?_) (fun hs=>?_))))
 ·refine ts (ro rfl (cZ Tryz.call57 Bg trivial) (ra rfl (eJ ?_)))
  exact fK rfl (fQ rfl)
 ·refine cU (ts (rm rfl (ro rfl (gP U_97 Z_22 (Ht rfl) (cJ 0) rfl (by decide) rfl) (ro rfl (fX Tryz.isAgg22 Z_22 (Ht rfl) (i := 1) rfl rfl) (ro rfl (cZ Tryz.call58 hM1 ⟨(Ht rfl), (Ht rfl), trivial⟩) (rm rfl (ro rfl (dY (Ht rfl) rfl) (ro rfl (dY (Ht rfl) rfl) (rn rfl (eK (Ts := [Is (.slice none 0 0), Is (.slice none 0 0)]) O_28 rfl (fun V => aW zd (aW zd (aG)))) fun B9 => (gZ Z_28 (Ht rfl) (Ht rfl) rfl (i := 2) rfl (aK rfl) rfl rfl ?_))))))))))
  refine ra rfl (eJ (ts (ro rfl (gP U_97 Z_22 (Ht rfl) (cJ 1) rfl (by decide) rfl) (ro rfl (fX Tryz.isAgg22 Z_22 (Ht rfl) (i:=1) rfl rfl) (ro rfl (cZ Tryz.call58 hM2 ⟨(cJ 2),(Ht rfl),trivial⟩) (rm rfl (ro rfl (dY (Ht rfl) rfl) (ro rfl (dY (Ht rfl) rfl) (rn rfl (eK (Ts:=[Is (.slice none 0 0),Is (.slice none 0 0)]) O_28 rfl (fun V=>aW zd (aW zd (aG)))) fun B11=>(gZ Z_28 (Ht rfl) (Ht rfl) rfl (i:=3) rfl (aK rfl) rfl rfl ?_))))))))))
  refine ra rfl (eJ (ts (ro rfl (eG A_28 Z_28 (Ht rfl) (i:=2) rfl rfl rfl) (ro rfl (cZ Tryz.call23 hS1 ⟨(Ht rfl),trivial⟩) (rm rfl (ro rfl (dY (Ht rfl) rfl) (ro rfl (dY (Ht rfl) rfl) (gZ Z_28 (Ht rfl) (Ht rfl) rfl (i:=2) rfl (aK rfl) rfl rfl (eJ (ts (ro rfl (eG A_28 Z_28 (Ht rfl) (i:=3) rfl rfl rfl) (ro rfl (cZ Tryz.call23 hS2 ⟨(Ht rfl),trivial⟩) (rm rfl (ro rfl (dY (Ht rfl) rfl) (ro rfl (dY (Ht rfl) rfl) (gZ Z_28 (Ht rfl) (Ht rfl) rfl (i:=3) rfl (aK rfl) rfl rfl ?_))))))))))))))))
  refine eJ (ts (ro rfl (eG A_28 Z_28 (Ht rfl) (i:=2) rfl rfl rfl) (rm rfl (ro rfl (eG A_28 Z_28 (Ht rfl) (i:=3) rfl rfl rfl) (ro rfl (cZ Tryz.call36 hem ⟨(Ht rfl),(Ht rfl),(Ht rfl),trivial⟩) (rm rfl (ro rfl (dY (Ht rfl) rfl) (ro rfl (dY (Ht rfl) rfl) (rn rfl (eK (Ts:=[Is (.slice none 0 0),Is (.slice none 0 0)]) O_28 rfl (fun V=>aW zd (aW zd (aG)))) fun B13=>(gZ Z_28 (Ht rfl) (Ht rfl) rfl (i:=4) rfl (aK rfl) rfl rfl ?_))))))))))
  refine ra rfl (eJ (cK (ts (rm rfl (ro rfl (iH (Ht rfl) cV) (eJ (dQ (Ht rfl) (fun hE=>?_) (fun hE=>?_))))))))
  ·have hE6 : EE = 6 := by
    have:EE ≠ 0:=by simpa using hE
    rw [dE] at this ⊢
    split at this
    ·rename_i k; rw [if_pos k]
    ·exact absurd rfl this
   refine ts (rm rfl (ro rfl (qZ (Ht rfl) cV) (rm rfl (fZ rfl rfl (eY rfl rfl (Ht rfl) (fun h=>cZ Tryz.call57 Bg trivial)) (ro rfl (iU (Ht rfl) (fun h=>(fW rfl h))) (ra rfl (eJ (fK rfl (fJ (fQ rfl) ?_)))))))))
   exact (eD (by simp [hE6]))
  ·have hE0 : EE = 0 := by simpa using hE
   have pE:=pE hE0
   obtain ⟨hD,vZ,vS⟩:=vE hE0
   have hPa:=Ey kE.fz kE.fs kE.hL (by decide) kE.sh kE.h8 kE.pos (fun _=>kE.szd)
   rw [(Gz kE.sh kE.pos).2 pE] at hPa
   have hO1:=Pd (.inl k1) hTf hTw
   have hO2:=Pd (.inl k2) hTf hTw
   have hO3:=Pd (.inr kE) hTf hTw
   have hSt:=a0U (T:=T) k1 k2 e1 e2 hn1.2
   have hJo:=a3e k1 k2 hTf e1 e2 hn1.2 hpn hpz hD
   have hRe:=a5u (T:=T) k1 k2 e1 e2 hn1.2 hpn hpz hD
   obtain ⟨hEq,hPo⟩:=a3f kE hTf hTc hT0 pE
   have hZl:ZE.length = n:=by rw [vZ,List.length_set,e1]
   rw [← vZ,← vS,← hZl] at hRe
   rw [hZl] at hO3 hRe hEq hPo
   generalize fI T (dB ZE SE) n = CE at *
   generalize fI T (dB z1 s1) z1.length = C1 at *
   generalize fI T (dB z2 s2) z2.length = C2 at *
   generalize kO (fI T (dB z1 s1) n) (fI T (dB z2 s2) 2) n 2 = CD at *
   generalize pO s1 s2 n = SD at *
   generalize Rn (z1 ++ z2) SD CD (J1 p (n + 1)) = CJ at *
   generalize qX (z1 ++ z2) SD (J1 p (n + 1)) = ZJ at *
   generalize vA (z1 ++ z2) SD (J1 p (n + 1)) = SJ at *
   clear hem hM1 hM2 hS1 hS2 vE dE hfx hE
   refine cU (cK (ts (ro rfl (eG A_28 Z_28 (Ht rfl) (i:=4) rfl rfl rfl) (ro rfl (cZ Tryz.call16 hPa ⟨(Ht rfl),trivial⟩) (rm rfl (ro rfl (dY (Ht rfl) rfl) (ro rfl (dY (Ht rfl) rfl) (ra rfl (ra rfl (eJ (ts (rm rfl (ro rfl (fH (Ht rfl)) (eJ (kA (Ht rfl) (by rfl) ?_)))))))))))))))
   refine cU (ts (rm rfl (ro rfl (gV Tryz.runUnderlying98 U_2 (Ht rfl) z6) (ro rfl (cZ K_52 hTi ⟨(Ht rfl),trivial⟩) (rn rfl (eK (Ts:=[Is (.bool false),Is (.slice none 0 0),Is (.bool false),Is (.slice none 0 0),Is (.slice none 0 0)]) O_60 rfl (fun V=>aW zd (aW zd (aW zd (aW zd (aW zd (aG))))))) fun B17=>(gZ Z_60 (Ht rfl) (Ht rfl) rfl (i:=5) rfl (aK rfl) rfl rfl ?_))))))
   refine eJ (cK (bL [0,1,2,3,4,5] rfl (by decide) (cY (ro rfl (eG A_28 Z_28 (Ht rfl) (i:=2) rfl rfl rfl) (ro rfl (eG A_60 Z_60 (Ht rfl) (i:=5) rfl rfl rfl) (ro rfl (cZ Tryz.call59 hO1 ⟨(Ht rfl),(Ht rfl),trivial⟩) (rm rfl (ro rfl (dY (Ht rfl) rfl) (ro rfl (dY (Ht rfl) rfl) (rn rfl (eK (Ts:=[Is (.slice none 0 0),Is (.slice none 0 0),Is (.slice none 0 0)]) O_80 rfl (fun V=>aW zd (aW zd (aW zd (aG))))) fun B18=>?_))))))))))
   refine gZ Z_80 (Ht rfl) (Ht rfl) rfl (i:=6) rfl (aK rfl) rfl rfl (ra rfl (eJ (cK (bL [0,1,2,3,4,5,6] rfl (by decide) (cY (ro rfl (eG A_28 Z_28 (Ht rfl) (i:=3) rfl rfl rfl) (ro rfl (eG A_60 Z_60 (Ht rfl) (i:=5) rfl rfl rfl) (ro rfl (cZ Tryz.call59 hO2 ⟨(Ht rfl),(Ht rfl),trivial⟩) (rm rfl (ro rfl (dY (Ht rfl) rfl) (ro rfl (dY (Ht rfl) rfl) (rn rfl (eK (Ts:=[Is (.slice none 0 0),Is (.slice none 0 0),Is (.slice none 0 0)]) O_80 rfl (fun V=>aW zd (aW zd (aW zd (aG))))) fun B19=>?_))))))))))))
   refine gZ Z_80 (Ht rfl) (Ht rfl) rfl (i:=7) rfl (aK rfl) rfl rfl (ra rfl (eJ (cK (bL [0,1,2,3,4,5,6,7] rfl (by decide) (cY (ro rfl (eG A_28 Z_28 (Ht rfl) (i:=4) rfl rfl rfl) (ro rfl (eG A_60 Z_60 (Ht rfl) (i:=5) rfl rfl rfl) (ro rfl (cZ Tryz.call59 hO3 ⟨(Ht rfl),(Ht rfl),trivial⟩) (rm rfl (ro rfl (dY (Ht rfl) rfl) (ro rfl (dY (Ht rfl) rfl) (rn rfl (eK (Ts:=[Is (.slice none 0 0),Is (.slice none 0 0),Is (.slice none 0 0)]) O_80 rfl (fun V=>aW zd (aW zd (aW zd (aG))))) fun B21=>?_))))))))))))
   refine gZ Z_80 (Ht rfl) (Ht rfl) rfl (i:=8) rfl (aK rfl) rfl rfl (ra rfl (eJ (cK (cK (bL [0,1,2,3,4,5,6,7,8] rfl (by decide) (cY (rm rfl (rm rfl (rm rfl (ro rfl (a2A (Ht rfl) (Ht rfl) (Ht rfl)) (ro rfl (iH (Ht rfl) cV) (eJ (kA (Ht rfl) (by rfl) ?_)))))))))))))
   refine cU (ts (ro rfl (eG A_80 Z_80 (Ht rfl) (i:=6) rfl rfl rfl) (ro rfl (eG A_80 Z_80 (Ht rfl) (i:=7) rfl rfl rfl) (ro rfl (cZ Tryz.call49 hSt ⟨(Ht rfl),(Ht rfl),trivial⟩) (rm rfl (ro rfl (dY (Ht rfl) rfl) (ro rfl (dY (Ht rfl) rfl) (rn rfl (eK (Ts:=[Is (.slice none 0 0),Is (.slice none 0 0),Is (.slice none 0 0)]) O_80 rfl (fun V=>aW zd (aW zd (aW zd (aG))))) fun B23=>(gZ Z_80 (Ht rfl) (Ht rfl) rfl (i:=9) rfl (aK rfl) rfl rfl ?_)))))))))
   refine ra rfl (eJ (cK (cK (bL [0,1,2,3,4,5,6,7,8,9] rfl (by decide) (cY (rm rfl (ro rfl (iH (Ht rfl) cV) (eJ (kA (Ht rfl) (by rfl) ?_)))))))))
   refine cU (ts (ro rfl (eG A_80 Z_80 (Ht rfl) (i:=9) rfl rfl rfl) (rm rfl (rm rfl (ro rfl (dW (Ht rfl) (cJ 2) z6) (ro rfl (Mv (Ht rfl) (Ht rfl)) (ro rfl (cI (xs:=[.tmp 133]) U_65 Z_64 O_64 (cW (Ht rfl) cG) rfl rfl rfl) (ro rfl (cZ Tryz.call46 hJo ⟨(Ht rfl),(Ht rfl),trivial⟩) (rm rfl (ro rfl (dY (Ht rfl) rfl) (ro rfl (dY (Ht rfl) rfl) (gZ Z_80 (Ht rfl) (Ht rfl) rfl (i:=9) rfl (aK rfl) rfl rfl ?_))))))))))))
   refine ra rfl (eJ (cK (cK (bL [0,1,2,3,4,5,6,7,8,9] rfl (by decide) (cY (rm rfl (ro rfl (iH (Ht rfl) cV) (eJ (kA (Ht rfl) (by rfl) ?_)))))))))
   refine cU (ts (ro rfl (cQ cV) (eJ (cK (cK (bL [8,9] rfl (by decide) (pU 3 1 (cY (ro rfl (cQ (cJ 1)) (eJ (eU ?_)))))))))))
   refine gN (fun (k : Nat) (vO : Value) => k ≤ n) (fun (k : Nat) (vO : Value) => n - k) (fun (k : Nat) (vO : Value) => [(7, NT .i64 n), (8, NT .i64 (p + 1)), (21, bO B21 0), (23, bO B23 0), (24, Is vO), (25, NT .i64 (k + 1))]) (fun (k : Nat) (vO : Value) => [box B21 80 [aL ZE, bC SE, bC CE], box B23 80 [aL ZJ, bC SJ, bC CJ], bF 3 1 vO ((tab k fun k => sQ p k n + 1).map (NT .i64))]) 0 _ (Nat.zero_le _)
    (zS rfl) (aU (aB rfl) (aU (aB rfl) (aU (aO rfl) aY))) (fun k vO hk2=>?_)
   refine cK (ts (rm rfl (rm rfl (ro rfl (uJ (Ht rfl) (Ht rfl)) (eJ (dQ (Ht rfl) (fun hc=>?_) (fun hc=>?_)))))))
   ·have hkn : k < n := by simp only [decide_eq_true_eq] at hc; omega
    have htl:=aC k fun k=>sQ p k n + 1
    refine cU (cK (eU (eU (ts (rm rfl (rm rfl (ro rfl (gJ (Ht rfl) (Ht rfl)) (ra rfl (eJ (dQ (Ht rfl) (fun h1c=>?_) (fun h1c=>?_)))))))))))
    ·have hkp : k < p := by simp only [decide_eq_true_eq] at h1c; omega
     refine cY (rm rfl (rm rfl (ro rfl (cI (xs:=[.tmp 155]) U_103 Z_3 O_3 (cW (Ht rfl) cG) rfl rfl rfl) (lE (inf:=Tryz.t3) sN vW rfl rfl rfl (Ht rfl) (Ht rfl) (i:=2) rfl (by simp) (fun T hT=>by simp at hT; subst hT; exact El.one) (by show _ * 8 ≤ _; simp only [List.length_map,List.length_cons,List.length_nil]; omega) (by simp only [List.length_map,List.length_cons,List.length_nil]; omega) rfl (fun v2=>?_)))))
     refine ra rfl (eJ (bD (bD (cY (rm rfl (ro rfl (dW (Ht rfl) (cJ 1) z6) (ra rfl (eJ (gQ (k + 1,v2) hkn (by dsimp only; omega) (zS rfl) (aU (aB rfl) (aU (aB rfl) (aU (aO (by rw [gD,List.map_append,show sQ p k n + 1 = k + 1 from by unfold sQ; rw [if_pos hkp]]; rfl)) aY))))))))))))
    ·have hkp : ¬ k < p := by simp only [decide_eq_false_iff_not] at h1c; omega
     refine ts (rm rfl (rm rfl (ro rfl (eH (Ht rfl) (Ht rfl)) (ra rfl (eJ (dQ (Ht rfl) (fun h2c=>?_) (fun h2c=>?_)))))))
     ·have hke : k = p := by simp only [decide_eq_true_eq] at h2c; omega
      refine cY (rm rfl (rm rfl (ro rfl (cI (xs:=[.tmp 163]) U_103 Z_3 O_3 (cW (Ht rfl) cG) rfl rfl rfl) (lE (inf:=Tryz.t3) sN vW rfl rfl rfl (Ht rfl) (Ht rfl) (i:=2) rfl (by simp) (fun T hT=>by simp at hT; subst hT; exact El.one) (by show _ * 8 ≤ _; simp only [List.length_map,List.length_cons,List.length_nil]; omega) (by simp only [List.length_map,List.length_cons,List.length_nil]; omega) rfl (fun v2=>?_)))))
      refine ra rfl (eJ (bD (bD (cY (rm rfl (ro rfl (dW (Ht rfl) (cJ 1) z6) (ra rfl (eJ (gQ (k + 1,v2) hkn (by dsimp only; omega) (zS rfl) (aU (aB rfl) (aU (aB rfl) (aU (aO (by rw [gD,List.map_append,show sQ p k n + 1 = n from by unfold sQ; rw [if_neg hkp,if_pos hke]; omega]; rfl)) aY))))))))))))
     ·have hke : ¬ k = p := by simp only [decide_eq_false_iff_not] at h2c; omega
      refine cY (rm rfl (rm rfl (ro rfl (dK (Ht rfl) (cJ 1) zo z6) (ro rfl (cI (xs:=[.tmp 147]) U_103 Z_3 O_3 (cW (Ht rfl) cG) rfl rfl rfl) (lE (inf:=Tryz.t3) sN vW rfl rfl rfl (Ht rfl) (Ht rfl) (i:=2) rfl (by simp) (fun T hT=>by simp at hT; subst hT; exact El.one) (by show _ * 8 ≤ _; simp only [List.length_map,List.length_cons,List.length_nil]; omega) (by simp only [List.length_map,List.length_cons,List.length_nil]; omega) rfl (fun v2=>?_))))))
      refine ra rfl (eJ (bD (bD (cY (rm rfl (ro rfl (dW (Ht rfl) (cJ 1) z6) (ra rfl (eJ (gQ (k + 1,v2) hkn (by dsimp only; omega) (zS rfl) (aU (aB rfl) (aU (aB rfl) (aU (aO (by rw [gD,List.map_append,show sQ p k n + 1 = k + 1 - 1 from by unfold sQ; rw [if_neg hkp,if_neg hke]; omega]; rfl)) aY))))))))))))
   ·have hkn : k = n := by simp only [decide_eq_false_iff_not] at hc; omega
    rw [hkn]
    refine gG rfl (gW (i:=2) (tt:=24) rfl rfl gH (ts (ro rfl (eG A_80 Z_80 (Ht rfl) (i:=1) rfl rfl rfl) (rm rfl (ro rfl (cZ Tryz.call60 hRe ⟨(Ht rfl),(Ht rfl),trivial⟩) (rm rfl (ro rfl (dY (Ht rfl) rfl) (ro rfl (dY (Ht rfl) rfl) (gZ Z_80 (Ht rfl) (Ht rfl) rfl (i:=1) rfl (aK rfl) rfl rfl (ra rfl (eJ (cK (cK (bL [0,1,2] rfl (by decide) (cY (rm rfl (ro rfl (iH (Ht rfl) cV) (rm rfl (fZ rfl rfl (eY rfl rfl (Ht rfl) (fun h=>eG A_80 Z_80 (Ht rfl) (i:=0) rfl rfl rfl)) ?_)))))))))))))))))))
    refine fZ rfl rfl (eY rfl rfl (Ht rfl) (fun h=>eG A_80 Z_80 (Ht rfl) (i:=1) rfl rfl rfl)) (fZ rfl rfl (eY rfl rfl (Ht rfl) (fun h=>cZ Tryz.call61 hEq ⟨(fW rfl h),(fW rfl h),trivial⟩)) (fZ rfl rfl (eY rfl rfl (Ht rfl) (fun h=>fH (fW rfl h))) (ro rfl (lZ (Ht rfl) (fun h=>(fW rfl h))) (eJ (kA (Ht rfl) (by simp) ?_)))))
    refine cU (ts (ro rfl (eG A_80 Z_80 (Ht rfl) (i:=1) rfl rfl rfl) (ro rfl (cZ Tryz.call45 hPo ⟨(Ht rfl),trivial⟩) (rm rfl (ro rfl (dY (Ht rfl) rfl) (ro rfl (dY (Ht rfl) rfl) (ra rfl (ra rfl (eJ (ts (rm rfl (rm rfl (fZ rfl rfl (eY rfl rfl (Ht rfl) (fun h=>cZ Tryz.call57 Bg trivial)) (ro rfl (iU (Ht rfl) (fun h=>(fW rfl h))) (ra rfl (eJ (fK rfl (fJ (fQ rfl) ?_))))))))))))))))))
    exact (eD (by simp))
end
section
open Go Go.ChangeShapes Go.WideShapes Go.ChangeAt Go.RowKit Go.Deep
section
variable {H:Type} {enc:TypeId × Value → H} {W:World} {base:Nat} {sp:Nat → Bool} {held:Bool}
theorem Cp {P:Program} {w:World} {r:Reach} {base:Nat} {t:TypeId} {v:Value} {n:Nat} {e:TypeId} (ht:P.underlying t = some (.array n e)) (h:Value.okWide P w r base t v):∃ cs,v = .agg cs ∧ cs.size = P.cellsOf t:=by
 simp only [Value.okWide,ht] at h
 obtain ⟨cs,h1,h2,_⟩:=h
 exact ⟨cs,h1,h2⟩
theorem a3M {i : Int} (w : 0 ≤ i ∧ i < 256) : ∀ V, (NT .u8 i.toNat).p (.int .u8 i) V := fun V => by
 have e:((i.toNat:Nat):Int) = i:=by omega
 rw [show NT .u8 i.toNat = aN .u8 i from congrArg (aN .u8) e]; rfl
end
end
section
open Go Go.ChangeShapes Go.WideShapes Go.ChangeAt Go.RowKit Go.Deep
section
variable {H:Type} {enc:TypeId × Value → H} {W:World} {base:Nat} {sp:Nat → Bool} {held:Bool}
theorem Lh {P:Program} {α:Type} {F:α → Ty} {t e:TypeId} {s n:Nat} {v:Value} {l:List α} {V:aR} {y:DataW H × List MemPlace} (ht:P.underlying t = some (.slice e)) (h:DataW.trod enc P W base sp held n t [v] = some y) (hv:(kB s (l.map F)).p v V):l.length ≤ 9223372036854775807:=by
 obtain ⟨a,cap,rfl,hle,_⟩:=hv
 rw [List.length_map] at hle
 rcases DataW.trod_slice ht h with ⟨e1,_⟩ | ⟨a2,len,cap2,elems,rest,n,_,e1,_,_,hl,hm,_⟩
 ·have e2 : Value.slice a (l.map F).length cap = .slice none 0 0 := by simpa using e1
  injection e2 with _ e3 _
  rw [List.length_map] at e3; omega
 ·have e2 : Value.slice a (l.map F).length cap = .slice (some a2) len cap2 := by simpa using e1
  injection e2 with _ e3 e4
  rw [List.length_map] at e3
  have:maxLen = 9223372036854775807:=by decide
  omega
theorem a0V {b0 : Nat} {v : Value} {d : DataW H} {p : List MemPlace} (ho : Value.okWide Tryz.prog W .any b0 96 v) (h : DataW.Trod enc Tryz.prog W base sp held 96 v d p) :
  ∃ a b:Nat,(fO [NT .u8 a,NT .u8 b]).p v (hv W) ∧ a < 256 ∧ b < 256:=by
 obtain ⟨cs,rfl,_⟩:=Cp Tryz.underlying96 ho
 obtain ⟨n,hn⟩:=h
 obtain ⟨xs,m,_,_,hl,hx,he⟩:=DataW.trod_array Tryz.underlying96 hn
 have hc:Tryz.prog.cellsOf 96 = 2:=by kernel_rfl
 have hi:Tryz.prog.cellsOf 5 = 1:=by kernel_rfl
 rw [hc] at hl
 obtain ⟨cl,hcl⟩:∃ cl,cl = cs.toList:=⟨_,rfl⟩
 have e9:(Value.agg cs).cells.toList = cl:=hcl.symm
 rw [e9] at hl he
 match cl,hl with
 | [c0, c1], _ =>
  match xs,hx with
  | [y0, y1], _ =>
   have e0:=he 0 zo
   have e1:=he 1 zo
   rw [hi] at e0 e1
   obtain ⟨i0,q0,_,w0⟩:=DataW.trod_int Tryz.underlying5 (show DataW.trod enc Tryz.prog W base sp held m 5 [c0] = some y0 from e0)
   obtain ⟨i1,q1,_,w1⟩:=DataW.trod_int Tryz.underlying5 (show DataW.trod enc Tryz.prog W base sp held m 5 [c1] = some y1 from e1)
   simp only [List.cons.injEq,and_true] at q0 q1
   subst q0 q1
   have b0:=a3N w0
   have b1:=a3N w1
   exact ⟨i0.toNat,i1.toNat,⟨cs.toList,rfl,by rw [← hcl]; exact aW ⟨a3M ⟨by omega,by omega⟩ _,trivial⟩ (aW ⟨a3M ⟨by omega,by omega⟩ _,trivial⟩ aG)⟩,by omega,by omega⟩
theorem Vj {b0 : Nat} {v : Value} {d : DataW H} {p : List MemPlace} (ho : Value.okWide Tryz.prog W .any b0 97 v) (h : DataW.Trod enc Tryz.prog W base sp held 97 v d p) :
  ∃ a b:List Rt,(fO [sY a,sY b]).p v (hv W) ∧ a.length ≤ 9223372036854775807 ∧ b.length ≤ 9223372036854775807:=by
 obtain ⟨cs,rfl,_⟩:=Cp Tryz.underlying97 ho
 obtain ⟨n,hn⟩:=h
 obtain ⟨xs,m,_,_,hl,hx,he⟩:=DataW.trod_array Tryz.underlying97 hn
 have hc:Tryz.prog.cellsOf 97 = 2:=by kernel_rfl
 have hi:Tryz.prog.cellsOf 22 = 1:=by kernel_rfl
 rw [hc] at hl
 obtain ⟨cl,hcl⟩:∃ cl,cl = cs.toList:=⟨_,rfl⟩
 have e9:(Value.agg cs).cells.toList = cl:=hcl.symm
 rw [e9] at hl he
 match cl,hl with
 | [c0, c1], _ =>
  match xs,hx with
  | [y0, y1], _ =>
   have e0:=he 0 zo
   have e1:=he 1 zo
   rw [hi] at e0 e1
   have e0':DataW.trod enc Tryz.prog W base sp held m 22 [c0] = some y0:=e0
   have e1':DataW.trod enc Tryz.prog W base sp held m 22 [c1] = some y1:=e1
   obtain ⟨v0,a,q0,k0⟩:=Fp e0'
   obtain ⟨v1,b,q1,k1⟩:=Fp e1'
   simp only [List.cons.injEq,and_true] at q0 q1
   subst q0 q1
   exact ⟨a,b,⟨cs.toList,rfl,by rw [← hcl]; exact aW ⟨k0,(Ma k0).2⟩ (aW ⟨k1,(Ma k1).2⟩ aG)⟩,Lh Tryz.underlying22 e0' k0,Lh Tryz.underlying22 e1' k1⟩
end
end
end Go.Proofs.YtdlciihkiefckaaGreat
