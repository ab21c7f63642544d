/- What functions of the program compute, proved by walks over their code, and the plain mathematics of it; a part of the proof in the last text. -/
import Derived.Test.YthcmlodgnfekeaaGreatP04
set_option linter.unusedVariables false
set_option linter.unusedSimpArgs false
set_option maxRecDepth 100000
set_option maxHeartbeats 4000000
namespace Go.Proofs.YthcmlodgnfekeaaGreat
section
open Go Go.RowKit
theorem xG {z:List Qi} {s:List (List Qi)} {n:Nat} (hz:z.length = n) (hs:cI s n n) (hn:n ≤ 8) {i k:Nat} (hi:i < n) (hk:k < n):bA Tryz.prog 68 [fA z s,aF .i64 ((i:Int) + 1),aF .i64 ((k:Int) + 1)] (aE (gm s i k)):=by
 refine bA.intro Tryz.func68 rfl Tryz.ntmps68 rfl (fun cx=>?_)
 refine cK ?_
 refine cY ?_
 refine dH rfl rfl rfl (fK (aA.t rfl)) (fun B3=>?_)
 refine dH rfl rfl rfl (eW (Ts:=[Is (.bool false),Is (.slice none 0 0),Is (.bool false),Is (.slice none 0 0),Is (.slice none 0 0)]) O_32 rfl (fun V=>aW zd (aW zd (aW zd (aW zd (aW zd (aG))))))) (fun B6=>?_)
 refine eX ?_
 refine cK ?_
 refine cY ?_
 refine aB rfl rfl rfl (eJ A_80 Z_80 (aA.t rfl) (i:=0) rfl rfl rfl) ?_
 refine aB rfl rfl rfl (cX (aA.t rfl)) ?_
 refine aB rfl rfl rfl (cX (aA.t rfl)) ?_
 refine aB rfl rfl rfl (cZ Tryz.call130 (a23 (i:=(i:Int) + 1) (j:=(k:Int) + 1) (by rw [hz]; exact hs) zo) ⟨(aA.t rfl),(aA.t rfl),(aA.t rfl),trivial⟩) ?_
 refine aB rfl rfl rfl (cX (aA.t rfl)) ?_
 refine aB rfl rfl rfl (dU (aA.t rfl) rfl) ?_
 refine aB rfl rfl rfl (dU (aA.t rfl) rfl) ?_
 refine dH rfl rfl rfl (eW (Ts:=[Is (.bool false),Is (.slice none 0 0),Is (.bool false),Is (.slice none 0 0),Is (.slice none 0 0)]) O_32 rfl (fun V=>aW zd (aW zd (aW zd (aW zd (aW zd (aG))))))) (fun B7=>?_)
 refine gZ Z_32 (aA.t rfl) (aA.t rfl) rfl (i:=2) rfl (aK rfl) rfl rfl ?_
 refine aB rfl rfl rfl (cQ (aA.t rfl)) ?_
 refine eX ?_
 refine cK ?_
 refine cY ?_
 refine aB rfl rfl rfl (eJ A_32 Z_32 (aA.t rfl) (i:=2) rfl rfl rfl) ?_
 refine gZ Z_32 (aA.t rfl) (aA.t rfl) rfl (i:=1) rfl (aK rfl) rfl rfl ?_
 refine eX ?_
 refine fG rfl (fZ (fU A_32 Z_32 rfl (i:=1) rfl rfl) ?_)
 exact (gM (a0P zo zo))
theorem Jq {z:List Qi} {s:List (List Qi)} {L:Nat} (hz:z.length = 2) (hs:cI s 2 2) (hf:aS s L) (hL1:1 ≤ L) (hL:L ≤ 1000000):bA Tryz.prog 67 [fA z s] (Tv (gm s 0 0,gm s 1 1,gm s 0 1 * gm s 1 0)):=by
 haveI:=hf.get hL1 0 1; haveI:=hf.get hL1 1 0
 refine bA.intro Tryz.func67 rfl Tryz.ntmps67 rfl (fun cx=>?_)
 refine cK ?_
 refine cY ?_
 refine dH rfl rfl rfl (fK (aA.t rfl)) (fun B1=>?_)
 refine dH rfl rfl rfl (eW (Ts:=[Is (.bool false),Is (.slice none 0 0),Is (.bool false),Is (.slice none 0 0),Is (.slice none 0 0),Is (.bool false),Is (.slice none 0 0),Is (.bool false),Is (.slice none 0 0),Is (.slice none 0 0),Is (.bool false),Is (.slice none 0 0),Is (.bool false),Is (.slice none 0 0),Is (.slice none 0 0)]) O_140 rfl (fun V=>aW zd (aW zd (aW zd (aW zd (aW zd (aW zd (aW zd (aW zd (aW zd (aW zd (aW zd (aW zd (aW zd (aW zd (aW zd (aG))))))))))))))))) (fun B2=>?_)
 refine eX ?_
 refine cK ?_
 refine fJ (m:=7) ?_
 refine C.D_step (Ei:=[(1,_)]) rfl rfl (bV (bK rfl rfl) bW) (dX rfl (eJ A_80 Z_80 (aA.t rfl) (i:=0) rfl rfl rfl)) ?_
 refine C.D_step (Ei:=[(3,_)]) rfl rfl (bV (bG 0 rfl rfl) bW) (dX rfl (cZ K_68 (xG (i:=0) (k:=0) hz hs (by decide) (by decide) (by decide)) ⟨(aA.t rfl),(cJ 1),(cJ 1),trivial⟩)) ?_
 refine C.D_step (Ei:=[(1,_)]) rfl rfl (bV (bK rfl rfl) bW) (dX rfl (eJ A_80 Z_80 (aA.t rfl) (i:=0) rfl rfl rfl)) ?_
 refine C.D_step (Ei:=[(5,_)]) rfl rfl (bV (bG 2 rfl rfl) bW) (dX rfl (cZ K_68 (xG (i:=1) (k:=1) hz hs (by decide) (by decide) (by decide)) ⟨(aA.t rfl),(cJ 2),(cJ 2),trivial⟩)) ?_
 refine C.D_step (Ei:=[(1,_)]) rfl rfl (bV (bK rfl rfl) bW) (dX rfl (eJ A_80 Z_80 (aA.t rfl) (i:=0) rfl rfl rfl)) ?_
 refine C.D_step (Ei:=[(7,_)]) rfl rfl (bV (bG 4 rfl rfl) bW) (dX rfl (cZ K_68 (xG (i:=0) (k:=1) hz hs (by decide) (by decide) (by decide)) ⟨(aA.t rfl),(cJ 1),(cJ 2),trivial⟩)) ?_
 refine C.D_step (Ei:=[(1,_)]) rfl rfl (bV (bK rfl rfl) bW) (dX rfl (eJ A_80 Z_80 (aA.t rfl) (i:=0) rfl rfl rfl)) ?_
 refine fW aT rfl (by kernel_rfl) (zF (aJ (aJ (aJ (aV ?_)))))
 refine aB rfl rfl rfl (cZ K_68 (xG (i:=1) (k:=0) hz hs (by decide) (by decide) (by decide)) ⟨(aA.t rfl),(cJ 2),(cJ 1),trivial⟩) ?_
 refine aB rfl rfl rfl (cZ K_29 (iQ zo) ⟨(aA.t rfl),(aA.t rfl),trivial⟩) ?_
 refine aB rfl rfl rfl (rI (aA.t rfl) (aA.t rfl) (aA.t rfl)) ?_
 refine gZ Z_140 (aA.t rfl) (aA.t rfl) rfl (i:=1) rfl (aK rfl) rfl rfl ?_
 refine eX ?_
 exact fG rfl (fU A_140 Z_140 rfl (i:=1) rfl rfl)
theorem Ur {z:List Qi} {s:List (List Qi)} {n:Nat} (hz:z.length = n) (hs:cI s n n) (hn:n ≤ 8):iH Tryz.prog 71 [fA z s] [] (Nat) (fun B=>Is (.slice (some ⟨B,0,none⟩) n n)) (fun B=>[nL B 54 32 5 (dD aE (tab n fun i=>tab n fun k=>gm s i k))]) (fun _=>True):=by
 refine iH.intro Tryz.func71 rfl Tryz.ntmps71 rfl (fun cx Z=>?_)
 refine cK ?_
 refine cY ?_
 refine dH rfl rfl rfl (fK (aA.t rfl)) (fun B1=>?_)
 refine aB rfl rfl rfl (cQ cV) ?_
 refine eX ?_
 refine cK ?_
 refine cY ?_
 refine aB rfl rfl rfl (eJ A_80 Z_80 (aA.t rfl) (i:=1) rfl rfl rfl) ?_
 refine aB rfl rfl rfl (cZ Tryz.call117 (bA.imp (Uf (z:=z) (s:=s)) (mE (by rw [hz]))) ⟨(aA.t rfl),trivial⟩) ?_
 refine dH rfl rfl rfl (gN (T:=Is (.slice none 0 0)) (i:=Tryz.t54) V_78 mH rfl rfl (aA.t rfl) rfl (fun _=>rfl) trivial (by show 24 * _ ≤ _; omega) zo) (fun B8=>?_)
 refine aB rfl rfl rfl (cQ (aA.t rfl)) ?_
 refine eX ?_
 refine cK ?_
 refine cK ?_
 refine cY ?_
 refine aB rfl rfl rfl (cX (aA.t rfl)) ?_
 refine aB rfl rfl rfl (iK U_78 (aA.t rfl)) ?_
 refine aB rfl rfl rfl (cX (cJ 0)) ?_
 refine eX ?_
 refine eG ?_
 refine mB 2 rfl (oT (e:=32) (s:=5)) ?_
 refine eL (fun (i : Nat) => i ≤ n) (fun (i : Nat) => n - i) (fun (i : Nat) => [(1, eH B1 0), (3, Is (.slice (some ⟨B8, 0, none⟩) n n)), (10, NT .i64 n), (11, NT .i64 i)]) (fun (i : Nat) => [Z, box B1 80 [bP z, bF s], nL B8 54 32 5 (dD aE (lR (fun i => tab n fun k => gm s i k) [] n i))]) 0 (Nat.zero_le _)
  (zS rfl) (aU (fun _ _ _ h=>h) (aU (fun _ _ _ h=>h) (aU (dO (by rw [← lS,mS]; exact lW aE n)) aY))) (fun i hi=>?_)
 refine cK ?_
 refine cY ?_
 refine aB rfl rfl rfl (gJ (aA.t rfl) (aA.t rfl)) ?_
 refine eX ?_
 refine cK ?_
 refine dQ (aA.t rfl) (fun hd=>?_) (fun hd=>?_)
 ·simp only [decide_eq_true_eq] at hd
  refine nN 2 (i) rfl (pQ hd) (fun v=>?_)
  refine cU ?_
  refine cK ?_
  refine eG ?_
  refine cK ?_
  refine cY ?_
  refine aB rfl rfl rfl (cX (aA.t rfl)) ?_
  refine aB rfl rfl rfl (cQ (aA.t rfl)) ?_
  refine eX ?_
  refine cK ?_
  refine cY ?_
  refine aB rfl rfl rfl (cX (aA.t rfl)) ?_
  refine aB rfl rfl rfl (iK U_78 (aA.t rfl)) ?_
  refine aB rfl rfl rfl (cX (cJ 0)) ?_
  refine eX ?_
  refine eG ?_
  refine gO (fun (k : Nat) (v : Value) => k ≤ n) (fun (k : Nat) (v : Value) => n - k) (fun (k : Nat) (v : Value) => [(1, eH B1 0), (3, Is (.slice (some ⟨B8, 0, none⟩) n n)), (4, NT .i64 i), (10, NT .i64 n), (11, NT .i64 i), (15, NT .i64 n), (16, NT .i64 k)]) (fun (k : Nat) (v : Value) => [Z, box B1 80 [bP z, bF s], Fa B8 54 32 5 (dD aE (lR (fun i => tab n fun k => gm s i k) [] n i)) i v, bN 32 5 v ((tab k fun k => gm s i k).map aE)]) 0 v (Nat.zero_le _)
   (zS rfl) (eS.refl _) (fun k v hk=>?_)
  refine cK ?_
  refine cY ?_
  refine aB rfl rfl rfl (gJ (aA.t rfl) (aA.t rfl)) ?_
  refine eX ?_
  refine cK ?_
  refine dQ (aA.t rfl) (fun he=>?_) (fun he=>?_)
  ·simp only [decide_eq_true_eq] at he
   refine cU ?_
   refine cK ?_
   refine eG ?_
   refine cK ?_
   refine cY ?_
   refine aB rfl rfl rfl (cX (aA.t rfl)) ?_
   refine aB rfl rfl rfl (cQ (aA.t rfl)) ?_
   refine eX ?_
   refine Y.D_startA (m:=14) [] 13 3 rfl rfl ?_
   refine bY (Ei:=[(3,_)]) rfl rfl (bQ (bJ rfl rfl) bX) rfl rfl (dX rfl (cX (aA.t rfl))) ?_
   refine bY (Ei:=[(4,_)]) rfl rfl (bQ (bJ rfl rfl) bX) rfl rfl (dX rfl (cX (aA.t rfl))) ?_
   refine bY (Ei:=[(3,_)]) rfl rfl (bQ (bJ rfl rfl) bX) rfl rfl (dX rfl (cX (aA.t rfl))) ?_
   refine bY (Ei:=[(4,_)]) rfl rfl (bQ (bJ rfl rfl) bX) rfl rfl (dX rfl (cX (aA.t rfl))) ?_
   refine bY (Ei:=[(21,_),(22,_)]) rfl rfl (bQ (bZ 2 rfl rfl) (bQ (bZ 3 rfl rfl) bX)) rfl rfl (dX rfl (gX U_78 Z_54 (aA.t rfl) (aA.t rfl) rfl zo (by rw [Nat.mul_one,Nat.zero_add]))) ?_
   refine bY (Ei:=[(23,_)]) rfl rfl (bQ (bZ 4 rfl rfl) bX) rfl rfl (dX rfl (kR A_54 Z_54 (aA.t rfl) (j:=2) rfl)) ?_
   refine bY (Ei:=[(1,_)]) rfl rfl (bQ (bJ rfl rfl) bX) rfl rfl (dX rfl (eJ A_80 Z_80 (aA.t rfl) (i:=1) rfl rfl rfl)) ?_
   refine bY (Ei:=[(4,_)]) rfl rfl (bQ (bJ rfl rfl) bX) rfl rfl (dX rfl (cX (aA.t rfl))) ?_
   refine bY (Ei:=[(26,_)]) rfl rfl (bQ (bZ 7 rfl rfl) bX) rfl rfl (dX rfl (dW (aA.t rfl) (cJ 1) z6)) ?_
   refine bY (Ei:=[(5,_)]) rfl rfl (bQ (bJ rfl rfl) bX) rfl rfl (dX rfl (cX (aA.t rfl))) ?_
   refine bY (Ei:=[(28,_)]) rfl rfl (bQ (bZ 9 rfl rfl) bX) rfl rfl (dX rfl (dW (aA.t rfl) (cJ 1) z6)) ?_
   refine bY (Ei:=[(25,_),(27,_),(29,_)]) rfl rfl (bQ (bZ 6 rfl rfl) (bQ (bZ 8 rfl rfl) (bQ (bZ 10 rfl rfl) bX))) rfl rfl (dX rfl (cZ K_68 (xG (i:=i) (k:=k) hz hs zo hd he) ⟨(aA.t rfl),(aA.t rfl),(aA.t rfl),trivial⟩)) ?_
   refine bY (Ei:=[(30,_)]) rfl rfl (bQ (bZ 11 rfl rfl) bX) rfl rfl (dX rfl (eO (xs:=[.tmp 30]) U_54 Z_32 O_32 (cW (aA.t rfl) cG) rfl rfl rfl)) ?_
   refine Y.D_app (Ei:=[(24,_),(31,_)]) rfl rfl rfl rfl (bQ (bZ 5 rfl rfl) (bQ (bZ 12 rfl rfl) bX)) rfl (sE (inf:=Tryz.t32) jW iJ rfl rfl rfl (aA.t rfl) (aA.t rfl) (by simp) (fun T hT=>by simp at hT; subst hT; exact El.ag rfl) (by show _ * 88 ≤ _; simp only [List.length_map,bC,List.length_cons,List.length_nil]; omega) (by simp only [List.length_map,bC,List.length_cons,List.length_nil]; omega)) ?_
   refine Y.D_done aT rfl (by kernel_rfl) rfl (by simp [Y.okP]) rfl rfl (bU (bU (bU (bU (bU (bU (bU (bU (bU (bU (bU (bU (bU (Y.F_app (fun v2=>Y.F_nil ?_)))))))))))))))
   refine aB rfl rfl rfl (gX U_78 Z_54 (aA.t rfl) (aA.t rfl) rfl zo (by rw [Nat.mul_one,Nat.zero_add])) ?_
   refine sH Z_54 (aA.t rfl) (aA.t rfl) (by simp only [dD,List.length_map,gL]; omega) (j:=2) (l:=4) rfl rfl rfl ?_
   refine eX ?_
   refine cF ?_
   refine cY ?_
   refine aB rfl rfl rfl (dW (aA.t rfl) (cJ 1) z6) ?_
   refine aB rfl rfl rfl (cX (aA.t rfl)) ?_
   refine eX ?_
   refine cC [0,1,2,4] rfl (by decide) ?_
   refine gQ (k + 1,v2) he (by dsimp only; omega) (zS rfl) (aU (fun _ _ _ h=>h) (aU (fun _ _ _ h=>h) (aU (fun _ _ _ h=>h) (aU (cA (by rw [lZ,List.map_append]; rfl)) aY))))
  ·simp only [decide_eq_false_iff_not] at he
   obtain rfl:n = k:=Nat.le_antisymm zo hk
   refine gG rfl ?_
   refine cF ?_
   refine jM 2 3 rfl rfl (by decide) (by simp only [dD,List.length_map,gL]; omega) ?_
   refine cY ?_
   refine aB rfl rfl rfl (dW (aA.t rfl) (cJ 1) z6) ?_
   refine aB rfl rfl rfl (cX (aA.t rfl)) ?_
   refine eX ?_
   refine cC [0,1,2] rfl (by decide) ?_
   refine gQ (i + 1) hd zo (zS rfl) (aU (fun _ _ _ h=>h) (aU (fun _ _ _ h=>h) (aU (dO (by rw [jJ,← nS (f:=(fun i=>tab n fun k=>gm s i k))])) aY)))
 ·simp only [decide_eq_false_iff_not] at hd
  obtain rfl:n = i:=Nat.le_antisymm zo hi
  refine gG rfl ?_
  refine cK ?_
  refine cY ?_
  refine aB rfl rfl rfl (cX (aA.t rfl)) ?_
  refine aB rfl rfl rfl (cQ (aA.t rfl)) ?_
  refine eX ?_
  exact kY B8 trivial [0,2] ⟨⟨_,rfl,fun _ _ _ h=>h⟩,⟨_,rfl,(dO (by rw [nR]))⟩,trivial⟩ (by decide) (zX rfl (eU rfl))
theorem a0d {z : List Qi} {s : List (List Qi)} {n : Nat} (hz : z.length = n) (hs : cI s n n) (hn : n ≤ 8) : bA Tryz.prog 71 [fA z s] (bF s) := (Ur hz hs hn).fun fun B _ v S V h1 h2 => by
 have h3:=pS (s:=5) (M:=tab n fun i=>tab n fun k=>gm s i k) (bC _ _).symm v S V h1 h2
 rw [← tG hs] at h3; exact h3
theorem Jk {m:List (List Qi)} {L:Nat} (hm:m.length ≤ 1000) (hr:∀ r,r ∈ m → r.length ≤ 1000) (hf:aS m L) (hL1:1 ≤ L) (hL:L ≤ 8796093022208):bA Tryz.prog 70 [bF m,bF m] (aD true):=by
 refine bA.intro Tryz.func70 rfl Tryz.ntmps70 rfl (fun cx=>?_)
 refine cK ?_
 refine cY ?_
 refine aB rfl rfl rfl (cQ cV) ?_
 refine eX ?_
 refine cK ?_
 refine cK ?_
 refine cY ?_
 refine aB rfl rfl rfl (cX (aA.t rfl)) ?_
 refine aB rfl rfl rfl (dK U_78 (aA.t rfl) aC) ?_
 refine aB rfl rfl rfl (cX (aA.t rfl)) ?_
 refine aB rfl rfl rfl (dK U_78 (aA.t rfl) aC) ?_
 refine aB rfl rfl rfl (fR (aA.t rfl) (aA.t rfl)) ?_
 refine eX ?_
 refine cL (aA.t rfl) (by simp) ?_
 refine cU ?_
 refine cK ?_
 refine cK ?_
 refine cY ?_
 refine aB rfl rfl rfl (cX (aA.t rfl)) ?_
 refine aB rfl rfl rfl (dK U_78 (aA.t rfl) aC) ?_
 refine aB rfl rfl rfl (cX (cJ 0)) ?_
 refine eX ?_
 refine eG ?_
 refine eL (fun (i : Nat) => i ≤ m.length) (fun (i : Nat) => m.length - i) (fun (i : Nat) => [(0, bF m), (1, bF m), (13, NT .i64 m.length), (14, NT .i64 i)]) (fun (i : Nat) => []) 0 (Nat.zero_le _)
  (zS rfl) aY (fun i hi=>?_)
 refine cK ?_
 refine cY ?_
 refine aB rfl rfl rfl (gJ (aA.t rfl) (aA.t rfl)) ?_
 refine eX ?_
 refine cK ?_
 refine dQ (aA.t rfl) (fun hb=>?_) (fun hb=>?_)
 ·simp only [decide_eq_true_eq] at hb
  have hrk:(m.getD i []).length ≤ 1000:=by rw [show m.getD i [] = m[i] by simp [List.getD,hb]]; exact hr _ (List.getElem_mem hb)
  refine cU ?_
  refine cK ?_
  refine eG ?_
  refine cK ?_
  refine cY ?_
  refine aB rfl rfl rfl (cX (aA.t rfl)) ?_
  refine aB rfl rfl rfl (cQ (aA.t rfl)) ?_
  refine eX ?_
  refine cK ?_
  refine cK ?_
  refine fJ (m:=10) ?_
  refine C.D_step (Ei:=[(0,_)]) rfl rfl (bV (bK rfl rfl) bW) (dX rfl (cX (aA.t rfl))) ?_
  refine C.D_step (Ei:=[(5,_)]) rfl rfl (bV (bK rfl rfl) bW) (dX rfl (cX (aA.t rfl))) ?_
  refine C.D_step (Ei:=[(17,_),(18,_)]) rfl rfl (bV (bG 0 rfl rfl) (bV (bG 1 rfl rfl) bW)) (dX rfl (dZ U_78 Z_54 (aA.t rfl) (aA.t rfl) rfl (eQ (dY (d:=[]) hb)))) ?_
  refine C.D_step (Ei:=[(19,_)]) rfl rfl (bV (bG 2 rfl rfl) bW) (dX rfl (dV A_54 Z_54 (aA.t rfl))) ?_
  refine C.D_step (Ei:=[(20,_)]) rfl rfl (bV (bG 3 rfl rfl) bW) (dX rfl (dK U_54 (aA.t rfl) aC)) ?_
  refine C.D_step (Ei:=[(1,_)]) rfl rfl (bV (bK rfl rfl) bW) (dX rfl (cX (aA.t rfl))) ?_
  refine C.D_step (Ei:=[(5,_)]) rfl rfl (bV (bK rfl rfl) bW) (dX rfl (cX (aA.t rfl))) ?_
  refine C.D_step (Ei:=[(22,_),(23,_)]) rfl rfl (bV (bG 5 rfl rfl) (bV (bG 6 rfl rfl) bW)) (dX rfl (dZ U_78 Z_54 (aA.t rfl) (aA.t rfl) rfl (eQ (dY (d:=[]) hb)))) ?_
  refine C.D_step (Ei:=[(24,_)]) rfl rfl (bV (bG 7 rfl rfl) bW) (dX rfl (dV A_54 Z_54 (aA.t rfl))) ?_
  refine C.D_step (Ei:=[(25,_)]) rfl rfl (bV (bG 8 rfl rfl) bW) (dX rfl (dK U_54 (aA.t rfl) aC)) ?_
  refine fW aT rfl (by kernel_rfl) (zF (zF (aJ (aJ (aV ?_)))))
  refine aB rfl rfl rfl (fR (aA.t rfl) (aA.t rfl)) ?_
  refine eX ?_
  refine cL (aA.t rfl) (by simp) ?_
  refine cU ?_
  refine cK ?_
  refine cY ?_
  refine aB rfl rfl rfl (cX (aA.t rfl)) ?_
  refine aB rfl rfl rfl (cX (aA.t rfl)) ?_
  refine aB rfl rfl rfl (dZ U_78 Z_54 (aA.t rfl) (aA.t rfl) rfl (eQ (dY (d:=[]) hb))) ?_
  refine aB rfl rfl rfl (dV A_54 Z_54 (aA.t rfl)) ?_
  refine aB rfl rfl rfl (dK U_54 (aA.t rfl) aC) ?_
  refine aB rfl rfl rfl (cX (cJ 0)) ?_
  refine eX ?_
  refine eG ?_
  refine eL (fun (k : Nat) => k ≤ (m.getD i []).length) (fun (k : Nat) => (m.getD i []).length - k) (fun (k : Nat) => [(0, bF m), (1, bF m), (5, NT .i64 i), (13, NT .i64 m.length), (14, NT .i64 i), (32, NT .i64 (m.getD i []).length), (33, NT .i64 k)]) (fun (k : Nat) => []) 0 (Nat.zero_le _)
   (zS rfl) aY (fun k hk=>?_)
  refine cK ?_
  refine cY ?_
  refine aB rfl rfl rfl (gJ (aA.t rfl) (aA.t rfl)) ?_
  refine eX ?_
  refine cK ?_
  refine dQ (aA.t rfl) (fun hc=>?_) (fun hc=>?_)
  ·simp only [decide_eq_true_eq] at hc
   haveI:aI ((m.getD i []).getD k Qi.zero) L:=hf.get hL1 i k
   refine cU ?_
   refine cK ?_
   refine eG ?_
   refine cK ?_
   refine cY ?_
   refine aB rfl rfl rfl (cX (aA.t rfl)) ?_
   refine aB rfl rfl rfl (cQ (aA.t rfl)) ?_
   refine eX ?_
   refine cK ?_
   refine fJ (m:=14) ?_
   refine C.D_step (Ei:=[(0,_)]) rfl rfl (bV (bK rfl rfl) bW) (dX rfl (cX (aA.t rfl))) ?_
   refine C.D_step (Ei:=[(5,_)]) rfl rfl (bV (bK rfl rfl) bW) (dX rfl (cX (aA.t rfl))) ?_
   refine C.D_step (Ei:=[(36,_),(37,_)]) rfl rfl (bV (bG 0 rfl rfl) (bV (bG 1 rfl rfl) bW)) (dX rfl (dZ U_78 Z_54 (aA.t rfl) (aA.t rfl) rfl (eQ (dY (d:=[]) hb)))) ?_
   refine C.D_step (Ei:=[(38,_)]) rfl rfl (bV (bG 2 rfl rfl) bW) (dX rfl (dV A_54 Z_54 (aA.t rfl))) ?_
   refine C.D_step (Ei:=[(6,_)]) rfl rfl (bV (bK rfl rfl) bW) (dX rfl (cX (aA.t rfl))) ?_
   refine C.D_step (Ei:=[(39,_),(40,_)]) rfl rfl (bV (bG 3 rfl rfl) (bV (bG 4 rfl rfl) bW)) (dX rfl (dZ U_54 Z_32 (aA.t rfl) (aA.t rfl) rfl (eQ (dY (d:=Qi.zero) hc)))) ?_
   refine C.D_step (Ei:=[(41,_)]) rfl rfl (bV (bG 5 rfl rfl) bW) (dX rfl (dV A_32 Z_32 (aA.t rfl))) ?_
   refine C.D_step (Ei:=[(1,_)]) rfl rfl (bV (bK rfl rfl) bW) (dX rfl (cX (aA.t rfl))) ?_
   refine C.D_step (Ei:=[(5,_)]) rfl rfl (bV (bK rfl rfl) bW) (dX rfl (cX (aA.t rfl))) ?_
   refine C.D_step (Ei:=[(43,_),(44,_)]) rfl rfl (bV (bG 7 rfl rfl) (bV (bG 8 rfl rfl) bW)) (dX rfl (dZ U_78 Z_54 (aA.t rfl) (aA.t rfl) rfl (eQ (dY (d:=[]) hb)))) ?_
   refine C.D_step (Ei:=[(45,_)]) rfl rfl (bV (bG 9 rfl rfl) bW) (dX rfl (dV A_54 Z_54 (aA.t rfl))) ?_
   refine C.D_step (Ei:=[(6,_)]) rfl rfl (bV (bK rfl rfl) bW) (dX rfl (cX (aA.t rfl))) ?_
   refine C.D_step (Ei:=[(46,_),(47,_)]) rfl rfl (bV (bG 10 rfl rfl) (bV (bG 11 rfl rfl) bW)) (dX rfl (dZ U_54 Z_32 (aA.t rfl) (aA.t rfl) rfl (eQ (dY (d:=Qi.zero) hc)))) ?_
   refine C.D_step (Ei:=[(48,_)]) rfl rfl (bV (bG 12 rfl rfl) bW) (dX rfl (dV A_32 Z_32 (aA.t rfl))) ?_
   refine fW aT rfl (by kernel_rfl) (zF (zF (zF (aJ (aJ (aV ?_))))))
   refine aB rfl rfl rfl (cZ Tryz.call45 (Bw (x:=(m.getD i []).getD k Qi.zero) (y:=(m.getD i []).getD k Qi.zero) (L:=L) (M:=L) zo zo) ⟨(aA.t rfl),(aA.t rfl),trivial⟩) ?_
   refine aB rfl rfl rfl (dE (aA.t rfl)) ?_
   refine eX ?_
   refine cL (aA.t rfl) (by simp) ?_
   refine cU ?_
   refine cF ?_
   refine cY ?_
   refine aB rfl rfl rfl (dW (aA.t rfl) (cJ 1) z6) ?_
   refine aB rfl rfl rfl (cX (aA.t rfl)) ?_
   refine eX ?_
   refine gQ (k + 1) hc zo (zS rfl) (eS.refl _)
  ·refine gG rfl ?_
   refine cF ?_
   refine cY ?_
   refine aB rfl rfl rfl (dW (aA.t rfl) (cJ 1) z6) ?_
   refine aB rfl rfl rfl (cX (aA.t rfl)) ?_
   refine eX ?_
   refine gQ (i + 1) hb zo (zS rfl) (eS.refl _)
 ·refine gG rfl ?_
  refine cK ?_
  refine cY ?_
  refine aB rfl rfl rfl (cQ cV) ?_
  refine eX ?_
  exact fG rfl (eU rfl)
def Nn:Rt:=⟨-13,0,20,by decide,by decide,by decide,by decide,by decide,by decide⟩
def No:Rt:=⟨1,0,10,by decide,by decide,by decide,by decide,by decide,by decide⟩
def Np:Rt:=⟨49,0,40,by decide,by decide,by decide,by decide,by decide,by decide⟩
def zV:Rt:=⟨1,0,10,by decide,by decide,by decide,by decide,by decide,by decide⟩
def zW:Rt:=⟨1,0,5,by decide,by decide,by decide,by decide,by decide,by decide⟩
def Nr:Rt:=⟨22,0,25,by decide,by decide,by decide,by decide,by decide,by decide⟩
def Zi:List Qi:=[Qi.ofInt (-1),Qi.ofInt 0,Qi.ofInt 1]
def Nq:List Qi:=[Nn.q,No.q,Np.q]
def raW (k:Nat):List Qi:=[Qi.ofInt 1,gv Nq k * gv Zi k,gv Zi k]
def Zj:List (List Qi):=tab 3 raW
theorem Da (k:Nat):aI (gv Zi k) 2:=(show cD Zi 2 from fun x hx=>by simp [Zi] at hx; rcases hx with rfl | rfl | rfl <;> exact Jz (by decide) (by decide)).get (by decide) k
theorem Kq (k:Nat):aI (gv Nq k) 2:=(show cD Nq 2 from fun x hx=>by simp [Nq] at hx; rcases hx with rfl | rfl | rfl <;> exact fitRt).get (by decide) k
theorem Rq : cI Zj 3 3 := ⟨rfl, fun r hr => by
 simp [Zj,tab] at hr
 obtain ⟨k,hk,rfl⟩:=hr
 rfl⟩
theorem a0T : aS Zj 5 := fun r hr x hx => by
 simp [Zj,tab] at hr
 obtain ⟨k,hk,rfl⟩:=hr
 haveI:=Da k; haveI:=Kq k
 have h:aI (gv Nq k * gv Zi k) (2 + 2 + 1):=inferInstance
 simp [raW] at hx; rcases hx with rfl | rfl | rfl
 ·exact (Jz (m:=1) (by decide) (by decide):aI (Qi.ofInt 1) 2).le (by decide)
 ·exact h
 ·exact (Da k).le (by decide)
theorem a2d:mL Zj Nq 3 = 0:=by decide +kernel
theorem a2f:lY Zj Nq 3 = [zV.q,zW.q,Nr.q]:=by decide +kernel
theorem a2e:Nr.q + zV.q * zW.q ≠ 0:=by decide +kernel
theorem a1P:txt zV.q = [49,47,49,48]:=by decide +kernel
theorem a1Q:txt zW.q = [49,47,53]:=by decide +kernel
theorem a1R:txt (Nr.q + zV.q * zW.q) = [57,47,49,48]:=by decide +kernel
theorem Qy {x y z : Qi} : ∀ {k : Nat}, k < 3 → dL ((([aD (decide (x.a < 0)), aL x.a.natAbs, aD (decide (x.b < 0)), aL x.b.natAbs, aL (du x), aD (decide (y.a < 0)), aL y.a.natAbs, aD (decide (y.b < 0)), aL y.b.natAbs, aL (du y), aD (decide (z.a < 0)), aL z.a.natAbs, aD (decide (z.b < 0)), aL z.b.natAbs, aL (du z)] : List Ty).drop (k * 5)).take 5) = aE (gv [x, y, z] k)
 | 0,_=>rfl
 | 1,_=>rfl
 | 2,_=>rfl
theorem Ta {T U:Ty} (h:T = U):∀ v V,T.p v V → U.p v V:=fun v V k=>h ▸ k
theorem a1J {x y z : Qi} : ∀ (i : Nat) (U : Ty), ([x, y, z].map aE)[i]? = some U → U = dL ((([aD (decide (x.a < 0)), aL x.a.natAbs, aD (decide (x.b < 0)), aL x.b.natAbs, aL (du x), aD (decide (y.a < 0)), aL y.a.natAbs, aD (decide (y.b < 0)), aL y.b.natAbs, aL (du y), aD (decide (z.a < 0)), aL z.a.natAbs, aD (decide (z.b < 0)), aL z.b.natAbs, aL (du z)] : List Ty).drop (i * 5)).take 5) ∧ ((([aD (decide (x.a < 0)), aL x.a.natAbs, aD (decide (x.b < 0)), aL x.b.natAbs, aL (du x), aD (decide (y.a < 0)), aL y.a.natAbs, aD (decide (y.b < 0)), aL y.b.natAbs, aL (du y), aD (decide (z.a < 0)), aL z.a.natAbs, aD (decide (z.b < 0)), aL z.b.natAbs, aL (du z)] : List Ty).drop (i * 5)).take 5).length = 5 := fun i U h => by
 match i,h with
 | 0,h=>cases h; exact ⟨rfl,rfl⟩
 | 1,h=>cases h; exact ⟨rfl,rfl⟩
 | 2,h=>cases h; exact ⟨rfl,rfl⟩
theorem Oz  : bA Tryz.prog 151 [dL [aD (decide ((Qi.ofInt (-1)).a < 0)),aL (Qi.ofInt (-1)).a.natAbs,aD (decide ((Qi.ofInt (-1)).b < 0)),aL (Qi.ofInt (-1)).b.natAbs,aL (du (Qi.ofInt (-1))),aD (decide ((Qi.ofInt 0).a < 0)),aL (Qi.ofInt 0).a.natAbs,aD (decide ((Qi.ofInt 0).b < 0)),aL (Qi.ofInt 0).b.natAbs,aL (du (Qi.ofInt 0)),aD (decide ((Qi.ofInt 1).a < 0)),aL (Qi.ofInt 1).a.natAbs,aD (decide ((Qi.ofInt 1).b < 0)),aL (Qi.ofInt 1).b.natAbs,aL (du (Qi.ofInt 1))],dL [aD (decide (Nn.q.a < 0)),aL Nn.q.a.natAbs,aD (decide (Nn.q.b < 0)),aL Nn.q.b.natAbs,aL (du Nn.q),aD (decide (No.q.a < 0)),aL No.q.a.natAbs,aD (decide (No.q.b < 0)),aL No.q.b.natAbs,aL (du No.q),aD (decide (Np.q.a < 0)),aL Np.q.a.natAbs,aD (decide (Np.q.b < 0)),aL Np.q.b.natAbs,aL (du Np.q)]] (fB [Tv (zV.q,zW.q,Nr.q + zV.q * zW.q),aF .i64 0]):=by
 have hSv : bA Tryz.prog 227 [bF Zj, bP Nq] (fB [bP [zV.q, zW.q, Nr.q], aF .i64 0]) := by
  have h:=Ea (M:=Zj) (b:=Nq) (n:=3) (G:=Kx 5) (X:=tZ 5) Rq rfl (Fy Rq a0T (fun x hx=>(show aI x 2 by simp [Nq] at hx; rcases hx with rfl | rfl | rfl <;> exact fitRt).le (by decide)) (by decide) (by decide) (by decide)) (by decide) (by decide)
  rw [a2d,a2f] at h; exact h
 refine bA.intro Tryz.func151 rfl Tryz.ntmps151 rfl (fun cx=>?_)
 refine cK ?_
 refine cY ?_
 refine dH rfl rfl rfl (fK (aA.t rfl)) (fun B2=>?_)
 refine dH rfl rfl rfl (fK (aA.t rfl)) (fun B3=>?_)
 refine dH rfl rfl rfl (eW (Ts:=[Is (.bool false),Is (.slice none 0 0),Is (.bool false),Is (.slice none 0 0),Is (.slice none 0 0),Is (.bool false),Is (.slice none 0 0),Is (.bool false),Is (.slice none 0 0),Is (.slice none 0 0),Is (.bool false),Is (.slice none 0 0),Is (.bool false),Is (.slice none 0 0),Is (.slice none 0 0)]) O_140 rfl (fun V=>aW zd (aW zd (aW zd (aW zd (aW zd (aW zd (aW zd (aW zd (aW zd (aW zd (aW zd (aW zd (aW zd (aW zd (aW zd (aG))))))))))))))))) (fun B4=>?_)
 refine aB rfl rfl rfl (cQ (cJ 0)) ?_
 refine eX ?_
 refine cK ?_
 refine gW (i:=0) (tt:=2) rfl rfl dB ?_
 refine gW (i:=1) (tt:=3) rfl rfl dB ?_
 refine cC [2] rfl (by decide) ?_
 refine cY ?_
 refine aB rfl rfl rfl (cQ cV) ?_
 refine eX ?_
 refine cK ?_
 refine cK ?_
 refine cY ?_
 refine aB rfl rfl rfl (cX (cJ 0)) ?_
 refine eX ?_
 refine eG ?_
 refine rG 54 1 ?_
 refine gO (fun (k : Nat) (v : Value) => k ≤ 3) (fun (k : Nat) (v : Value) => 3 - k) (fun (k : Nat) (v : Value) => [(2, PT (dL [aD (decide ((Qi.ofInt (-1)).a < 0)), aL (Qi.ofInt (-1)).a.natAbs, aD (decide ((Qi.ofInt (-1)).b < 0)), aL (Qi.ofInt (-1)).b.natAbs, aL (du (Qi.ofInt (-1))), aD (decide ((Qi.ofInt 0).a < 0)), aL (Qi.ofInt 0).a.natAbs, aD (decide ((Qi.ofInt 0).b < 0)), aL (Qi.ofInt 0).b.natAbs, aL (du (Qi.ofInt 0)), aD (decide ((Qi.ofInt 1).a < 0)), aL (Qi.ofInt 1).a.natAbs, aD (decide ((Qi.ofInt 1).b < 0)), aL (Qi.ofInt 1).b.natAbs, aL (du (Qi.ofInt 1))])), (3, PT (dL [aD (decide (Nn.q.a < 0)), aL Nn.q.a.natAbs, aD (decide (Nn.q.b < 0)), aL Nn.q.b.natAbs, aL (du Nn.q), aD (decide (No.q.a < 0)), aL No.q.a.natAbs, aD (decide (No.q.b < 0)), aL No.q.b.natAbs, aL (du No.q), aD (decide (Np.q.a < 0)), aL Np.q.a.natAbs, aD (decide (Np.q.b < 0)), aL Np.q.b.natAbs, aL (du Np.q)])), (4, eH B4 0), (5, aF .i64 0), (6, Is v), (11, NT .i64 k)]) (fun (k : Nat) (v : Value) => [box B4 140 [Is (.bool false), Is (.slice none 0 0), Is (.bool false), Is (.slice none 0 0), Is (.slice none 0 0), Is (.bool false), Is (.slice none 0 0), Is (.bool false), Is (.slice none 0 0), Is (.slice none 0 0), Is (.bool false), Is (.slice none 0 0), Is (.bool false), Is (.slice none 0 0), Is (.slice none 0 0)], bN 54 1 v ((tab k raW).map bP)]) 0 (.slice none 0 0) (Nat.zero_le _)
  (zS rfl) (aU (aP rfl) (aU (cA rfl) aY)) (fun k v hk=>?_)
 refine cK ?_
 refine cY ?_
 refine aB rfl rfl rfl (gJ (aA.t rfl) (cJ 3)) ?_
 refine eX ?_
 refine cK ?_
 refine dQ (aA.t rfl) (fun hb=>?_) (fun hb=>?_)
 ·simp only [decide_eq_true_eq] at hb
  have hb3:k < 3:=by omega
  haveI:=Da k; haveI:=Kq k
  refine cU ?_
  refine cK ?_
  refine eG ?_
  refine cK ?_
  refine cY ?_
  refine aB rfl rfl rfl (cX (aA.t rfl)) ?_
  refine aB rfl rfl rfl (cQ (aA.t rfl)) ?_
  refine eX ?_
  refine fJ (m:=15) ?_
  refine C.D_step (Ei:=[(6,_)]) rfl rfl (bV (bK rfl rfl) bW) (dX rfl (cX (aA.t rfl))) ?_
  refine C.D_step (Ei:=[]) rfl rfl bW (dX rfl (cZ Tryz.call226 (xE (n:=1) (by decide) (by decide)) ⟨(cJ 1),trivial⟩)) ?_
  refine C.D_step (Ei:=[(7,_)]) rfl rfl (bV (bK rfl rfl) bW) (dX rfl (cX (aA.t rfl))) ?_
  refine C.D_step (Ei:=[(3,_),(16,_)]) rfl rfl (bV (bK rfl rfl) (bV (bG 2 rfl rfl) bW)) (dX rfl (aM.imp (yH U_237 Z_32 (aA.t rfl) (aA.t rfl) rfl zo rfl) (Ta (show _ = PT (aE (gv Nq k)) from congrArg PT (Qy hb3))))) ?_
  refine C.D_step (Ei:=[(17,_)]) rfl rfl (bV (bG 3 rfl rfl) bW) (dX rfl (dV A_32 Z_32 (aA.t rfl))) ?_
  refine C.D_step (Ei:=[(18,_)]) rfl rfl (bV (bG 4 rfl rfl) bW) (dX rfl (aN aR (aA.t rfl))) ?_
  refine C.D_step (Ei:=[(7,_)]) rfl rfl (bV (bK rfl rfl) bW) (dX rfl (cX (aA.t rfl))) ?_
  refine C.D_step (Ei:=[(2,_),(20,_)]) rfl rfl (bV (bK rfl rfl) (bV (bG 6 rfl rfl) bW)) (dX rfl (aM.imp (yH U_237 Z_32 (aA.t rfl) (aA.t rfl) rfl zo rfl) (Ta (show _ = PT (aE (gv Zi k)) from congrArg PT (Qy hb3))))) ?_
  refine C.D_step (Ei:=[(21,_)]) rfl rfl (bV (bG 7 rfl rfl) bW) (dX rfl (dV A_32 Z_32 (aA.t rfl))) ?_
  refine C.D_step (Ei:=[(19,_),(22,_)]) rfl rfl (bV (bG 5 rfl rfl) (bV (bG 8 rfl rfl) bW)) (dX rfl (aH bE K_29 (iQ zo) (aA.t rfl) ⟨(aA.t rfl),trivial⟩)) ?_
  refine C.D_step (Ei:=[(7,_)]) rfl rfl (bV (bK rfl rfl) bW) (dX rfl (cX (aA.t rfl))) ?_
  refine C.D_step (Ei:=[(2,_),(24,_)]) rfl rfl (bV (bK rfl rfl) (bV (bG 10 rfl rfl) bW)) (dX rfl (aM.imp (yH U_237 Z_32 (aA.t rfl) (aA.t rfl) rfl zo rfl) (Ta (show _ = PT (aE (gv Zi k)) from congrArg PT (Qy hb3))))) ?_
  refine C.D_step (Ei:=[(25,_)]) rfl rfl (bV (bG 11 rfl rfl) bW) (dX rfl (dV A_32 Z_32 (aA.t rfl))) ?_
  refine C.D_step (Ei:=[(15,_),(23,_),(26,_)]) rfl rfl (bV (bG 1 rfl rfl) (bV (bG 9 rfl rfl) (bV (bG 12 rfl rfl) bW))) (dX rfl (aM.imp (eO (xs:=[.tmp 15,.tmp 23,.tmp 26]) U_54 Z_32 O_32 (cW (aA.t rfl) (cW (aA.t rfl) (cW (aA.t rfl) cG))) rfl rfl rfl) (nH (Us:=(raW k).map aE) rfl))) ?_
  refine C.D_step (Ei:=[(27,_)]) rfl rfl (bV (bG 13 rfl rfl) bW) (dX rfl (eO (xs:=[.tmp 27]) U_78 Z_54 O_54 (cW (aA.t rfl) cG) rfl rfl rfl)) ?_
  refine fW aT rfl (by kernel_rfl) (zF (zF (zF (aJ (aJ (aJ (aV ?_)))))))
  refine nY (inf:=Tryz.t54) a1d mH rfl rfl rfl (aA.t rfl) (aA.t rfl) (i:=1) rfl (by simp) (fun T hT=>by simp at hT; subst hT; exact El.one) (by show _ * 24 ≤ _; simp only [List.length_map,bC,List.length_cons,List.length_nil]; omega) (by simp only [List.length_map,bC,List.length_cons,List.length_nil]; omega) rfl (fun v2=>?_)
  refine aB rfl rfl rfl (cQ (aA.t rfl)) ?_
  refine eX ?_
  refine cF ?_
  refine cY ?_
  refine aB rfl rfl rfl (dW (aA.t rfl) (cJ 1) z6) ?_
  refine aB rfl rfl rfl (cX (aA.t rfl)) ?_
  refine eX ?_
  refine cC [0,1] rfl (by decide) ?_
  refine gQ (k + 1,v2) hb3 (by dsimp only; omega) (zS rfl) (aU (aP rfl) (aU (cA (by rw [lZ,List.map_append]; rfl)) aY))
 ·simp only [decide_eq_false_iff_not] at hb
  obtain rfl:k = 3:=by omega
  refine gG rfl ?_
  refine cK ?_
  refine gW (i:=1) (tt:=6) rfl rfl kN ?_
  refine cY ?_
  refine aB rfl rfl rfl (cX (aA.t rfl)) ?_
  refine aB rfl rfl rfl (kG (Us:=Nq.map aE) U_237 Z_32 (aA.t rfl) rfl a1J) ?_
  refine aB rfl rfl rfl (cZ Tryz.call227 hSv ⟨(aA.t rfl),(aA.t rfl),trivial⟩) ?_
  refine aB rfl rfl rfl (cX (aA.t rfl)) ?_
  refine aB rfl rfl rfl (dU (aA.t rfl) rfl) ?_
  refine aB rfl rfl rfl (dU (aA.t rfl) rfl) ?_
  refine aB rfl rfl rfl (cQ (aA.t rfl)) ?_
  refine aB rfl rfl rfl (cQ (aA.t rfl)) ?_
  refine eX ?_
  refine cK ?_
  refine cK ?_
  refine cY ?_
  refine aB rfl rfl rfl (cX (aA.t rfl)) ?_
  refine aB rfl rfl rfl (fL (aA.t rfl) cV) ?_
  refine eX ?_
  refine cL (aA.t rfl) (by simp) ?_
  refine cU ?_
  refine cK ?_
  refine fJ (m:=21) ?_
  refine C.D_step (Ei:=[(8,_)]) rfl rfl (bV (bK rfl rfl) bW) (dX rfl (cX (aA.t rfl))) ?_
  refine C.D_step (Ei:=[(41,_)]) rfl rfl (bV (bG 0 rfl rfl) bW) (dX rfl (dZ U_54 Z_32 (aA.t rfl) (cJ 0) rfl (eQ (a:=zV.q) rfl))) ?_
  refine C.D_step (Ei:=[(42,_)]) rfl rfl (bV (bG 1 rfl rfl) bW) (dX rfl (dV A_32 Z_32 (aA.t rfl))) ?_
  refine C.D_step (Ei:=[(8,_)]) rfl rfl (bV (bK rfl rfl) bW) (dX rfl (cX (aA.t rfl))) ?_
  refine C.D_step (Ei:=[(44,_)]) rfl rfl (bV (bG 3 rfl rfl) bW) (dX rfl (dZ U_54 Z_32 (aA.t rfl) (cJ 1) rfl (eQ (a:=zW.q) rfl))) ?_
  refine C.D_step (Ei:=[(45,_)]) rfl rfl (bV (bG 4 rfl rfl) bW) (dX rfl (dV A_32 Z_32 (aA.t rfl))) ?_
  refine C.D_step (Ei:=[(8,_)]) rfl rfl (bV (bK rfl rfl) bW) (dX rfl (cX (aA.t rfl))) ?_
  refine C.D_step (Ei:=[(47,_)]) rfl rfl (bV (bG 6 rfl rfl) bW) (dX rfl (dZ U_54 Z_32 (aA.t rfl) (cJ 2) rfl (eQ (a:=Nr.q) rfl))) ?_
  refine C.D_step (Ei:=[(48,_)]) rfl rfl (bV (bG 7 rfl rfl) bW) (dX rfl (dV A_32 Z_32 (aA.t rfl))) ?_
  refine C.D_step (Ei:=[(49,_)]) rfl rfl (bV (bG 8 rfl rfl) bW) (dX rfl (aN aR (aA.t rfl))) ?_
  refine C.D_step (Ei:=[(8,_)]) rfl rfl (bV (bK rfl rfl) bW) (dX rfl (cX (aA.t rfl))) ?_
  refine C.D_step (Ei:=[(51,_)]) rfl rfl (bV (bG 10 rfl rfl) bW) (dX rfl (dZ U_54 Z_32 (aA.t rfl) (cJ 0) rfl (eQ (a:=zV.q) rfl))) ?_
  refine C.D_step (Ei:=[(52,_)]) rfl rfl (bV (bG 11 rfl rfl) bW) (dX rfl (dV A_32 Z_32 (aA.t rfl))) ?_
  refine C.D_step (Ei:=[(53,_)]) rfl rfl (bV (bG 12 rfl rfl) bW) (dX rfl (aN aR (aA.t rfl))) ?_
  refine C.D_step (Ei:=[(8,_)]) rfl rfl (bV (bK rfl rfl) bW) (dX rfl (cX (aA.t rfl))) ?_
  refine C.D_step (Ei:=[(55,_)]) rfl rfl (bV (bG 14 rfl rfl) bW) (dX rfl (dZ U_54 Z_32 (aA.t rfl) (cJ 1) rfl (eQ (a:=zW.q) rfl))) ?_
  refine C.D_step (Ei:=[(56,_)]) rfl rfl (bV (bG 15 rfl rfl) bW) (dX rfl (dV A_32 Z_32 (aA.t rfl))) ?_
  refine C.D_step (Ei:=[(54,_),(57,_)]) rfl rfl (bV (bG 13 rfl rfl) (bV (bG 16 rfl rfl) bW)) (dX rfl (aH bE K_29 (iQ zo) (aA.t rfl) ⟨(aA.t rfl),trivial⟩)) ?_
  refine C.D_step (Ei:=[(50,_),(58,_)]) rfl rfl (bV (bG 9 rfl rfl) (bV (bG 17 rfl rfl) bW)) (dX rfl (aH jG K_33 (vB zo) (aA.t rfl) ⟨(aA.t rfl),trivial⟩)) ?_
  refine C.D_step (Ei:=[(43,_),(46,_),(59,_)]) rfl rfl (bV (bG 2 rfl rfl) (bV (bG 5 rfl rfl) (bV (bG 18 rfl rfl) bW))) (dX rfl (rI (aA.t rfl) (aA.t rfl) (aA.t rfl))) ?_
  refine C.D_new (Ei:=[]) rfl rfl rfl bW (eW (Ts:=[Is (.bool false),Is (.slice none 0 0),Is (.bool false),Is (.slice none 0 0),Is (.slice none 0 0),Is (.bool false),Is (.slice none 0 0),Is (.bool false),Is (.slice none 0 0),Is (.slice none 0 0),Is (.bool false),Is (.slice none 0 0),Is (.bool false),Is (.slice none 0 0),Is (.slice none 0 0)]) O_140 rfl (fun V=>aW zd (aW zd (aW zd (aW zd (aW zd (aW zd (aW zd (aW zd (aW zd (aW zd (aW zd (aW zd (aW zd (aW zd (aW zd (aG))))))))))))))))) ?_
  refine fW aT rfl (by kernel_rfl) (zF (zF (zF (zF (zF (C.F_new (fun B10=>aV ?_)))))))
  refine gZ Z_140 (aA.t rfl) (aA.t rfl) rfl (i:=2) rfl (aK rfl) rfl rfl ?_
  refine eX ?_
  refine cK ?_
  refine cK ?_
  refine cY ?_
  refine aB rfl rfl rfl (eZ kM (aA.t rfl) rfl) ?_
  refine aB rfl rfl rfl (eJ A_32 Z_32 (aA.t rfl) (i:=2) rfl rfl rfl) ?_
  refine aB rfl rfl rfl (aN aR (aA.t rfl)) ?_
  refine aB rfl rfl rfl (aH lJ K_34 (jN zo) (aA.t rfl) trivial) ?_
  refine aB rfl rfl rfl (dE (aA.t rfl)) ?_
  refine eX ?_
  refine cL (aA.t rfl) (by simp; exact a2e) ?_
  refine cU ?_
  refine cK ?_
  refine cY ?_
  refine aB rfl rfl rfl (eJ A_140 Z_140 (aA.t rfl) (i:=2) rfl rfl rfl) ?_
  refine gZ Z_140 (aA.t rfl) (aA.t rfl) rfl (i:=0) rfl (aK rfl) rfl rfl ?_
  refine aB rfl rfl rfl (cQ (cJ 0)) ?_
  refine eX ?_
  exact cT rfl (fU A_140 Z_140 rfl (i:=0) rfl rfl) (eU rfl)
end
section
open Go Go.RowKit
theorem Dy {n : Nat} {E : cB} {H : Hp} {d : Option Tmp} {t : TypeId} {pos : String} {af : Array Edge} {g : Option (Nat × Bool)} {x0 x1 : Operand} {T0 T1 : Ty} [s0 : dI T0 1 false] (h0 : aA E x0 T0) [s1 : dI T1 1 false] (h1 : aA E x1 T1) :
  aM Tryz.prog n E H ⟨d,.build 145 #[(0,x0),(1,x1)],t,pos,af,g⟩ (dL [T0,T1]) :=
 iY (parts := [(0, x0), (1, x1)]) fun a V w hs => by
  have p0:=h0 n V a hs
  generalize e0:a.eval x0 = v0 at p0
  have q0:=(s0.ok v0 V p0).2.2 rfl
  have p1:=h1 n V a hs
  generalize e1:a.eval x1 = v1 at p1
  have q1:=(s1.ok v1 V p1).2.2 rfl
  refine ⟨.agg #[v0,v1],?_,[v0,v1],rfl,aW (⟨p0,q0⟩) (aW (⟨p1,q1⟩) (aG))⟩
  simp [e0,e1,Instr.build,Instr.fill,Sem.run_bind,Result.andThen,iB,q0.cells,q1.cells,Tryz.zeroValue145,U_145,Z_54,Z_142]
theorem rJ {n : Nat} {E : cB} {H : Hp} {d : Option Tmp} {t : TypeId} {pos : String} {af : Array Edge} {g : Option (Nat × Bool)} {x0 x1 x2 : Operand} {T0 T1 T2 T3 T4 T5 T6 T7 T8 T9 T10 T11 T12 T13 T14 : Ty} (h0 : aA E x0 (dL [T0, T1, T2, T3, T4])) (h1 : aA E x1 (dL [T5, T6, T7, T8, T9])) (h2 : aA E x2 (dL [T10, T11, T12, T13, T14])) :
  aM Tryz.prog n E H ⟨d,.build 237 #[(0,x0),(1,x1),(2,x2)],t,pos,af,g⟩ (dL [T0,T1,T2,T3,T4,T5,T6,T7,T8,T9,T10,T11,T12,T13,T14]) :=
 iY (parts := [(0, x0), (1, x1), (2, x2)]) fun a V w hs => by
  obtain ⟨v0,e0,c0⟩:=h0 n V a hs
  obtain ⟨c0_0,c0_1,c0_2,c0_3,c0_4,rfl⟩:∃ c0_0 c0_1 c0_2 c0_3 c0_4,v0 = [c0_0,c0_1,c0_2,c0_3,c0_4]:=yC (by simpa using c0.length)
  obtain ⟨v1,e1,c1⟩:=h1 n V a hs
  obtain ⟨c1_0,c1_1,c1_2,c1_3,c1_4,rfl⟩:∃ c1_0 c1_1 c1_2 c1_3 c1_4,v1 = [c1_0,c1_1,c1_2,c1_3,c1_4]:=yC (by simpa using c1.length)
  obtain ⟨v2,e2,c2⟩:=h2 n V a hs
  obtain ⟨c2_0,c2_1,c2_2,c2_3,c2_4,rfl⟩:∃ c2_0 c2_1 c2_2 c2_3 c2_4,v2 = [c2_0,c2_1,c2_2,c2_3,c2_4]:=yC (by simpa using c2.length)
  refine ⟨.agg #[c0_0,c0_1,c0_2,c0_3,c0_4,c1_0,c1_1,c1_2,c1_3,c1_4,c2_0,c2_1,c2_2,c2_3,c2_4],?_,[c0_0,c0_1,c0_2,c0_3,c0_4,c1_0,c1_1,c1_2,c1_3,c1_4,c2_0,c2_1,c2_2,c2_3,c2_4],rfl,aW (c0.at (i:=0) rfl rfl) (aW (c0.at (i:=1) rfl rfl) (aW (c0.at (i:=2) rfl rfl) (aW (c0.at (i:=3) rfl rfl) (aW (c0.at (i:=4) rfl rfl) (aW (c1.at (i:=0) rfl rfl) (aW (c1.at (i:=1) rfl rfl) (aW (c1.at (i:=2) rfl rfl) (aW (c1.at (i:=3) rfl rfl) (aW (c1.at (i:=4) rfl rfl) (aW (c2.at (i:=0) rfl rfl) (aW (c2.at (i:=1) rfl rfl) (aW (c2.at (i:=2) rfl rfl) (aW (c2.at (i:=3) rfl rfl) (aW (c2.at (i:=4) rfl rfl) (aG)))))))))))))))⟩
  simp [e0,e1,e2,Instr.build,Instr.fill,Sem.run_bind,Result.andThen,iB,Tryz.zeroValue237,U_237,Z_32]
end
section
open Go Go.RowKit
theorem nZ  : bA Tryz.prog 65 [] (aD true):=by
 refine bA.intro Tryz.func65 rfl Tryz.ntmps65 rfl (fun cx=>?_)
 refine cK ?_
 refine cY ?_
 refine aB rfl rfl rfl (cQ cV) ?_
 refine eX ?_
 refine cK ?_
 refine cY ?_
 refine aB rfl rfl rfl (cZ K_36 (vC (n:=(-1)) (by decide) (by decide)) ⟨cV,trivial⟩) ?_
 refine aB rfl rfl rfl (cZ K_36 (vC (n:=0) (by decide) (by decide)) ⟨(cJ 0),trivial⟩) ?_
 refine aB rfl rfl rfl (cZ K_36 (vC (n:=1) (by decide) (by decide)) ⟨(cJ 1),trivial⟩) ?_
 refine aB rfl rfl rfl (rJ (aA.t rfl) (aA.t rfl) (aA.t rfl)) ?_
 refine dH rfl rfl rfl (eW (Ts:=[Is (.bool false),Is (.slice none 0 0),Is (.bool false),Is (.slice none 0 0),Is (.slice none 0 0),Is (.bool false),Is (.slice none 0 0),Is (.bool false),Is (.slice none 0 0),Is (.slice none 0 0),Is (.bool false),Is (.slice none 0 0),Is (.bool false),Is (.slice none 0 0),Is (.slice none 0 0)]) Tryz.zeroValue237 rfl (fun V=>aW zd (aW zd (aW zd (aW zd (aW zd (aW zd (aW zd (aW zd (aW zd (aW zd (aW zd (aW zd (aW zd (aW zd (aW zd (aG))))))))))))))))) (fun B1=>?_)
 refine gZ Tryz.sizeOf237 (aA.t rfl) (aA.t rfl) rfl (i:=0) rfl (aK rfl) rfl rfl ?_
 refine eX ?_
 refine cK ?_
 refine Y.D_start (m:=11) [] ?_
 refine bY (Ei:=[(1,_)]) rfl rfl (bQ (bJ rfl rfl) bX) rfl rfl (dX rfl (eJ Tryz.isAgg237 Tryz.sizeOf237 (aA.t rfl) (i:=0) rfl rfl rfl)) ?_
 refine bY (Ei:=[]) rfl rfl bX rfl rfl (dX rfl (cZ Tryz.call46 (Gw (r:=Nn) rfl) ⟨cV,(cJ 20),trivial⟩)) ?_
 refine bY (Ei:=[]) rfl rfl bX rfl rfl (dX rfl (cZ Tryz.call46 (Gw (r:=No) rfl) ⟨(cJ 1),(cJ 10),trivial⟩)) ?_
 refine bY (Ei:=[]) rfl rfl bX rfl rfl (dX rfl (cZ Tryz.call46 (Gw (r:=Np) rfl) ⟨(cJ 49),(cJ 40),trivial⟩)) ?_
 refine bY (Ei:=[(10,_),(11,_),(12,_)]) rfl rfl (bQ (bZ 1 rfl rfl) (bQ (bZ 2 rfl rfl) (bQ (bZ 3 rfl rfl) bX))) rfl rfl (dX rfl (rJ (aA.t rfl) (aA.t rfl) (aA.t rfl))) ?_
 refine bY (Ei:=[(9,_),(13,_)]) rfl rfl (bQ (bZ 0 rfl rfl) (bQ (bZ 4 rfl rfl) bX)) rfl rfl (dX rfl (cZ Tryz.call151 Oz ⟨(aA.t rfl),(aA.t rfl),trivial⟩)) ?_
 refine bY (Ei:=[(14,_)]) rfl rfl (bQ (bZ 5 rfl rfl) bX) rfl rfl (dX rfl (cX (aA.t rfl))) ?_
 refine bY (Ei:=[(8,_)]) rfl rfl (bQ (bZ 6 rfl rfl) bX) rfl rfl (dX rfl (dU (aA.t rfl) rfl)) ?_
 refine bY (Ei:=[(8,_)]) rfl rfl (bQ (bZ 6 rfl rfl) bX) rfl rfl (dX rfl (dU (aA.t rfl) rfl)) ?_
 refine Y.D_newp (Ei:=[]) (fun bb=>box bb 140 [aD (decide (zV.q.a < 0)),aL zV.q.a.natAbs,aD (decide (zV.q.b < 0)),aL zV.q.b.natAbs,aL (du zV.q),aD (decide (zW.q.a < 0)),aL zW.q.a.natAbs,aD (decide (zW.q.b < 0)),aL zW.q.b.natAbs,aL (du zW.q),aD (decide ((Nr.q + zV.q * zW.q).a < 0)),aL (Nr.q + zV.q * zW.q).a.natAbs,aD (decide ((Nr.q + zV.q * zW.q).b < 0)),aL (Nr.q + zV.q * zW.q).b.natAbs,aL (du (Nr.q + zV.q * zW.q))]) 10 rfl rfl rfl bX rfl rfl (by kernel_rfl) (eW (Ts:=[Is (.bool false),Is (.slice none 0 0),Is (.bool false),Is (.slice none 0 0),Is (.slice none 0 0),Is (.bool false),Is (.slice none 0 0),Is (.bool false),Is (.slice none 0 0),Is (.slice none 0 0),Is (.bool false),Is (.slice none 0 0),Is (.bool false),Is (.slice none 0 0),Is (.slice none 0 0)]) O_140 rfl (fun V=>aW zd (aW zd (aW zd (aW zd (aW zd (aW zd (aW zd (aW zd (aW zd (aW zd (aW zd (aW zd (aW zd (aW zd (aW zd (aG))))))))))))))))) ?_
 refine Y.D_putN (Ei:=[(15,_)]) 9 rfl rfl rfl rfl rfl rfl (bQ (bZ 7 rfl rfl) bX) (fun bb=>nM Z_140 (aA.t rfl) (aA.t rfl) rfl (i:=0) rfl (aK rfl) rfl rfl) ?_
 refine Y.D_done aT rfl (by kernel_rfl) rfl (by simp [Y.okP]) rfl rfl (bU (bU (bU (bU (bU (bU (bU (bU (bU (Y.F_newp (fun B2=>Y.F_putN (Y.F_nil ?_))))))))))))
 refine aB rfl rfl rfl (cQ (aA.t rfl)) ?_
 refine eX ?_
 refine cK ?_
 refine cY ?_
 refine aB rfl rfl rfl (cX (aA.t rfl)) ?_
 refine aB rfl rfl rfl (kQ (aA.t rfl) cV) ?_
 refine aB rfl rfl rfl (cX (aA.t rfl)) ?_
 refine fQ rfl rfl (eK rfl rfl (aA.t rfl) (fun h=>eZ sX (aA.t rfl) rfl)) ?_
 refine fQ rfl rfl (eK rfl rfl (aA.t rfl) (fun h=>eJ A_32 Z_32 (fV rfl h) (i:=1) rfl rfl rfl)) ?_
 refine fQ rfl rfl (eK rfl rfl (aA.t rfl) (fun h=>cZ Tryz.call92 (Gs (x:=zV.q) (L:=2) (by decide)) ⟨(fV rfl h),trivial⟩)) ?_
 refine fQ rfl rfl (eK rfl rfl (aA.t rfl) (fun h=>Hw (fV rfl h) (aA.cS (l:=[49,47,49,48]) rfl))) ?_
 refine aB rfl rfl rfl (gA (aA.t rfl) (fun h=>(fV rfl h))) ?_
 refine aB rfl rfl rfl (cX (aA.t rfl)) ?_
 refine fQ rfl rfl (eK rfl rfl (aA.t rfl) (fun h=>eZ xS (aA.t rfl) rfl)) ?_
 refine fQ rfl rfl (eK rfl rfl (aA.t rfl) (fun h=>eJ A_32 Z_32 (fV rfl h) (i:=1) rfl rfl rfl)) ?_
 refine fQ rfl rfl (eK rfl rfl (aA.t rfl) (fun h=>cZ Tryz.call92 (Gs (x:=zW.q) (L:=2) (by decide)) ⟨(fV rfl h),trivial⟩)) ?_
 refine fQ rfl rfl (eK rfl rfl (aA.t rfl) (fun h=>Hw (fV rfl h) (aA.cS (l:=[49,47,53]) rfl))) ?_
 refine aB rfl rfl rfl (gA (aA.t rfl) (fun h=>(fV rfl h))) ?_
 refine aB rfl rfl rfl (cX (aA.t rfl)) ?_
 refine fQ rfl rfl (eK rfl rfl (aA.t rfl) (fun h=>eZ kM (aA.t rfl) rfl)) ?_
 refine fQ rfl rfl (eK rfl rfl (aA.t rfl) (fun h=>eJ A_32 Z_32 (fV rfl h) (i:=1) rfl rfl rfl)) ?_
 refine fQ rfl rfl (eK rfl rfl (aA.t rfl) (fun h=>cZ Tryz.call92 (Gs (x:=Nr.q + zV.q * zW.q) (L:=2 + (2 + 2 + 1) + 1) (by decide)) ⟨(fV rfl h),trivial⟩)) ?_
 refine fQ rfl rfl (eK rfl rfl (aA.t rfl) (fun h=>Hw (fV rfl h) (aA.cS (l:=[57,47,49,48]) rfl))) ?_
 refine aB rfl rfl rfl (gA (aA.t rfl) (fun h=>(fV rfl h))) ?_
 refine aB rfl rfl rfl (cQ (aA.t rfl)) ?_
 refine eX ?_
 refine fG rfl (fZ (eU rfl) ?_)
 exact (fE (by simp [a1P,a1Q,a1R]))
abbrev R4T (a b d e:Rt):Ty:=dL [aF .i64 a.re,aF .i64 a.im,aF .i64 a.den,aF .i64 b.re,aF .i64 b.im,aF .i64 b.den,aF .i64 d.re,aF .i64 d.im,aF .i64 d.den,aF .i64 e.re,aF .i64 e.im,aF .i64 e.den]
theorem Az (a b d e : Rt) : ∀ (i : Nat) (U : Ty), [vL a, vL b, vL d, vL e][i]? = some U → U = dL ((([aF .i64 a.re, aF .i64 a.im, aF .i64 a.den, aF .i64 b.re, aF .i64 b.im, aF .i64 b.den, aF .i64 d.re, aF .i64 d.im, aF .i64 d.den, aF .i64 e.re, aF .i64 e.im, aF .i64 e.den] : List Ty).drop (i * 3)).take 3) ∧ ((([aF .i64 a.re, aF .i64 a.im, aF .i64 a.den, aF .i64 b.re, aF .i64 b.im, aF .i64 b.den, aF .i64 d.re, aF .i64 d.im, aF .i64 d.den, aF .i64 e.re, aF .i64 e.im, aF .i64 e.den] : List Ty).drop (i * 3)).take 3).length = 3 := fun i U h => by
 match i,h with
 | 0,h=>cases h; exact ⟨rfl,rfl⟩
 | 1,h=>cases h; exact ⟨rfl,rfl⟩
 | 2,h=>cases h; exact ⟨rfl,rfl⟩
 | 3,h=>cases h; exact ⟨rfl,rfl⟩
theorem Su {i x:Nat} (hi:i < 2) (hx:x = 1 ∨ x = 2):rK (nV 2) (nV 2) ((i:Int) + 1) x = 0:=by
 have h1:(nV 2).length = 2:=oX 2
 have h2 : gv (nV 2) (x - 1) = gv (nV 2) ((i : Int) + 1 - 1).toNat := by
  have:i = 0 ∨ i = 1:=by omega
  rcases this with rfl | rfl <;> rcases hx with rfl | rfl <;> rfl
 unfold rK
 rw [h1,if_neg (by simp),if_neg zo,if_pos h2]
theorem Sw {i k:Nat} (hi:i < 2) (hk:k < 2):(nV 2).set ((i:Int) + 1 - 1).toNat (gv (nV 2) k) = nV 2:=by
 have h1:i = 0 ∨ i = 1:=by omega
 have h2:k = 0 ∨ k = 1:=by omega
 rcases h1 with rfl | rfl <;> rcases h2 with rfl | rfl <;> rfl
theorem yO (i:Nat):((i:Int) + 1 - 1).toNat = i:=by omega
theorem Bh (L:Nat) (h:2 ≤ L):cD (nV 2) L:=(wJ 2).le h
section
variable {M f:List (List Qi)} {i L:Nat}
theorem Ss (hi:i < 2) (hM:cI M 2 2) (hf:cI f 2 2) (fM:aS M L) (ff:aS f L) (hL:2 ≤ L) (hL2:L ≤ 60000) (hD:jS M f i ≠ 0):bA Tryz.prog 66 [fA (nV 2) M,aF .i64 ((i:Int) + 1),fA (nV 2) f] (fB [fA (nV 2) (eB M f i 2),aF .i64 0]):=by
 have h1:(nV 2).length = 2:=oX 2
 have h:=Ji (z:=nV 2) (fz:=nV 2) (s:=M) (f:=f) (port:=(i:Int) + 1) (L:=L) (by rw [h1]; exact hM) zo zo fM ff (Bh L hL) (Bh L hL) zo hL2 (fun _=>hf)
 have he:Cf (nV 2) M (nV 2) f ((i:Int) + 1) = 0:=Qa (Su hi (.inr rfl)) (by rw [yO]; exact hD)
 rw [Vn,Vm,he,oG,oG,if_pos rfl,if_pos rfl,Sw hi (by decide),yO,h1] at h; exact h
theorem Kz (hi:i < 2) (hM:cI M 2 2) (hf:cI f 2 2) (fM:aS M L) (ff:aS f L) (hL:2 ≤ L) (hL2:L ≤ 60000) (hD:jS M f i = 0):bA Tryz.prog 66 [fA (nV 2) M,aF .i64 ((i:Int) + 1),fA (nV 2) f] (fB [fA [] [],aF .i64 6]):=by
 have h1:(nV 2).length = 2:=oX 2
 have h:=Ji (z:=nV 2) (fz:=nV 2) (s:=M) (f:=f) (port:=(i:Int) + 1) (L:=L) (by rw [h1]; exact hM) zo zo fM ff (Bh L hL) (Bh L hL) zo hL2 (fun _=>hf)
 have he:Cf (nV 2) M (nV 2) f ((i:Int) + 1) = 6:=Yz (Su hi (.inr rfl)) (by rw [yO]; exact hD)
 rw [Vn,Vm,he,oG,oG,if_neg (by decide),if_neg (by decide)] at h; exact h
theorem Sv (hi:i < 2) (hM:cI M 2 2) (hf:cI f 2 2) (fM:aS (eB M f i 2) L) (ff:aS f L) (hL:2 ≤ L) (hL2:L ≤ 60000) (hD:jS M f i ≠ 0) (h01:gm f 0 1 ≠ 0) (h10:gm f 1 0 ≠ 0):bA Tryz.prog 73 [fA (nV 2) (eB M f i 2),aF .i64 ((i:Int) + 1),fA (nV 2) f] (fB [fA (nV 2) M,aF .i64 0]):=by
 have h1:(nV 2).length = 2:=oX 2
 obtain ⟨e1,e2⟩:=a1S (n:=2) hM hi hD h01 h10
 have h:=Oy (z:=nV 2) (fz:=nV 2) (s:=eB M f i 2) (f:=f) (port:=(i:Int) + 1) (L:=L) (by rw [h1]; exact cI.tab) zo zo fM ff (Bh L hL) (Bh L hL) zo hL2 (fun _=>hf)
 have he:Ba (nV 2) (eB M f i 2) (nV 2) f ((i:Int) + 1) = 0:=Sa (Su hi (.inl rfl)) (by rw [yO]; exact fun k=>k.elim h01 fun k=>k.elim h10 e1)
 rw [Db,Xq,he,oG,oG,if_pos rfl,if_pos rfl,Sw hi (by decide),yO,h1,e2] at h; exact h
end
section
variable {p q S:List (List Qi)}
theorem Bg (hp:aS p 2) (hq:aS q 2):pI (rB p q) 5:=by
 have g : ∀ {f : List (List Qi)}, aS f 2 → aI (gm f 0 1 * gm f 1 0) 5 := fun {f} h => by
  haveI:=h.get (by decide) 0 1; haveI:=h.get (by decide) 1 0
  have k:aI (gm f 0 1 * gm f 1 0) (2 + 2 + 1):=inferInstance
  exact k
 have z:aI Qi.zero 5:=aI.zero (by decide)
 refine ⟨fun i=>?_,fun i=>?_,fun i=>?_⟩
 ·match i with
  | 0=>exact (hp.get (by decide) 0 0).le (by decide)
  | 1=>exact (hq.get (by decide) 0 0).le (by decide)
  | i + 2=>exact z
 ·match i with
  | 0=>exact (hp.get (by decide) 1 1).le (by decide)
  | 1=>exact (hq.get (by decide) 1 1).le (by decide)
  | i + 2=>exact z
 ·match i with
  | 0=>exact g hp
  | 1=>exact g hq
  | i + 2=>exact z
theorem Bf (hp : aS p 2) (hq : aS q 2) : cD (zJ p q) 5 := fun x hx => by
 simp [zJ] at hx
 rcases hx with rfl | rfl
 ·exact (hp.get (by decide) 1 0).le (by decide)
 ·exact (hq.get (by decide) 1 0).le (by decide)
theorem uB {Q : Nat → Prop} (h0 : Q 0) (h1 : Q 1) : ∀ i, i < 2 → Q i := fun i hi => by
 have:i = 0 ∨ i = 1:=by omega
 rcases this with rfl | rfl
 ·exact h0
 ·exact h1
theorem Zg {x y:Qi} (h:x = 0 ∨ y = 0):((!(!decide (x = Qi.zero))) || (!(!decide (y = Qi.zero)))) = true:=by
 rcases h with h | h <;> simp [show _ = Qi.zero from h]
theorem Zh {x y:Qi} (h1:x ≠ 0) (h2:y ≠ 0):((!(!decide (x = Qi.zero))) || (!(!decide (y = Qi.zero)))) = false:=by
 simp [show x ≠ Qi.zero from h1,show y ≠ Qi.zero from h2]
theorem Kj {Q : Nat → Prop} (h0 : Q 0) : ∀ i, i < 1 → Q i := fun i hi => by
 obtain rfl:i = 0:=by omega
 exact h0
theorem a1a (hS : cI S 2 2) (fp : aS p 2) (fq : aS q 2) (fS : aS S 2) (hD : jS S p 0 ≠ 0) (hE : jS (eB S p 0 2) q 1 ≠ 0) (h1 : gm p 1 0 ≠ 0) (h2 : gm q 1 0 ≠ 0) :
  bA Tryz.prog 69 [mX (rB p q) (zJ p q),bF S] (fB [bF (eB (eB S p 0 2) q 1 2),aF .i64 0]):=by
 obtain ⟨e1,e2⟩:=Kr hS hD hE h1 h2
 have h:=a1s (tl:=rB p q) (es:=zJ p q) (s:=S) (n:=2) rfl rfl (by decide) (by decide) hS (Bg fp fq) (Bf fp fq) (fS.le (by decide)) (uB h1 h2) e1
 rw [e2] at h; exact h
theorem Ye (hS : cI S 2 2) (fp : aS p 2) (fq : aS q 2) (fS : aS S 2) (hD : jS S p 0 ≠ 0) (hE : jS (eB S p 0 2) q 1 ≠ 0) (h : gm p 1 0 = 0 ∨ gm q 1 0 = 0) :
  bA Tryz.prog 69 [mX (rB p q) (zJ p q),bF S] (fB [bF [],aF .i64 3]):=by
 obtain ⟨i1,i2,hI,_,_⟩:=Cg hD hE
 by_cases h1:gm p 1 0 = 0
 ·exact Ow (tl:=rB p q) (es:=zJ p q) (s:=S) (n:=2) rfl rfl (by decide) (by decide) hS (Bg fp fq) (Bf fp fq) (fS.le (by decide)) (k0:=0) (by decide) (fun i hi=>absurd hi (Nat.not_lt_zero i)) h1 hI.inv
 ·exact Ow (tl:=rB p q) (es:=zJ p q) (s:=S) (n:=2) rfl rfl (by decide) (by decide) hS (Bg fp fq) (Bf fp fq) (fS.le (by decide)) (k0:=1) (by decide) (Kj h1) (h.resolve_left h1) hI.inv
theorem a19 (hS : cI S 2 2) (fp : aS p 2) (fq : aS q 2) (hD : jS S p 0 ≠ 0) (hE : jS (eB S p 0 2) q 1 ≠ 0) (fX : aS (eB (eB S p 0 2) q 1 2) 2000) (h1 : gm p 1 0 ≠ 0) (h2 : gm q 1 0 ≠ 0) (h3 : gm p 0 1 ≠ 0) (h4 : gm q 0 1 ≠ 0) :
  bA Tryz.prog 72 [mX (rB p q) (zJ p q),bF (eB (eB S p 0 2) q 1 2)] (fB [bF S,aF .i64 0]):=by
 obtain ⟨e1,e2⟩:=Kr hS hD hE h1 h2
 obtain ⟨e3,e4,e5⟩:=Vf hS hD hE h1 h2 h3 h4
 rw [← e3] at e4
 rw [e2] at e3 e4 e5
 have h:=Lp (tl:=rB p q) (es:=zJ p q) (s:=eB (eB S p 0 2) q 1 2) (n:=2) rfl rfl (by decide) (by decide) cI.tab (Bg fp fq) (Bf fp fq) fX (uB h1 h2) (uB (oW h3 h1) (oW h4 h2)) e4
 rw [e5] at h; exact h
theorem Yd (fp : aS p 2) (fq : aS q 2) (fX : aS (eB (eB S p 0 2) q 1 2) 2000) (h1 : gm p 1 0 ≠ 0) (h2 : gm q 1 0 ≠ 0) (h : gm p 0 1 = 0 ∨ gm q 0 1 = 0) :
  bA Tryz.prog 72 [mX (rB p q) (zJ p q),bF (eB (eB S p 0 2) q 1 2)] (fB [bF [],aF .i64 3]):=by
 by_cases h3:gm p 0 1 = 0
 ·exact xA (tl:=rB p q) (es:=zJ p q) (s:=eB (eB S p 0 2) q 1 2) (n:=2) rfl rfl (by decide) (by decide) cI.tab (Bg fp fq) (Bf fp fq) fX (uB h1 h2) (i0:=0) (by decide) (fun i hi=>absurd hi (Nat.not_lt_zero i)) (show gm p 0 1 * gm p 1 0 = Qi.zero by rw [h3]; exact Qi.zero_mul' _)
 ·exact xA (tl:=rB p q) (es:=zJ p q) (s:=eB (eB S p 0 2) q 1 2) (n:=2) rfl rfl (by decide) (by decide) cI.tab (Bg fp fq) (Bf fp fq) fX (uB h1 h2) (i0:=1) (by decide) (Kj (oW h3 h1)) (show gm q 0 1 * gm q 1 0 = Qi.zero by rw [h.resolve_left h3]; exact Qi.zero_mul' _)
end
theorem zQ {a0 a1 a2 a3 b0 b1 b2 b3 e0 e1 e2 e3:Rt}:bA Tryz.prog 9 [R4T a0 a1 a2 a3,R4T b0 b1 b2 b3,R4T e0 e1 e2 e3] (aD true):=by
 obtain ⟨p,hp⟩:∃ p,p = Nl 2 [a0,a1,a2,a3]:=⟨_,rfl⟩
 obtain ⟨q,hq⟩:∃ q,q = Nl 2 [b0,b1,b2,b3]:=⟨_,rfl⟩
 obtain ⟨S,hS⟩:∃ S,S = Nl 2 [e0,e1,e2,e3]:=⟨_,rfl⟩
 have tp:=Hb (n:=2) (l:=[a0,a1,a2,a3]) (by decide) (by decide)
 have tq:=Hb (n:=2) (l:=[b0,b1,b2,b3]) (by decide) (by decide)
 have tS:=Hb (n:=2) (l:=[e0,e1,e2,e3]) (by decide) (by decide)
 have sp:=qW 2 [a0,a1,a2,a3]; have sq:=qW 2 [b0,b1,b2,b3]; have sS:=qW 2 [e0,e1,e2,e3]
 have fp:=Cr 2 [a0,a1,a2,a3]; have fq:=Cr 2 [b0,b1,b2,b3]; have fS:=Cr 2 [e0,e1,e2,e3]
 rw [← hp] at tp sp fp
 rw [← hq] at tq sq fq
 rw [← hS] at tS sS fS
 clear hp hq hS
 have hzl:=oX 2
 refine bA.intro Tryz.func9 rfl Tryz.ntmps9 rfl (fun cx=>?_)
 refine cK ?_
 refine cY ?_
 refine dH rfl rfl rfl (fK (aA.t rfl)) (fun B3=>?_)
 refine dH rfl rfl rfl (fK (aA.t rfl)) (fun B4=>?_)
 refine dH rfl rfl rfl (fK (aA.t rfl)) (fun B5=>?_)
 refine aB rfl rfl rfl (cQ cV) ?_
 refine eX ?_
 refine cK ?_
 refine cK ?_
 refine gW (i:=0) (tt:=3) rfl rfl dB ?_
 refine gW (i:=1) (tt:=4) rfl rfl dB ?_
 refine gW (i:=2) (tt:=5) rfl rfl dB ?_
 refine cC [] rfl (by decide) ?_
 refine cY ?_
 refine aB rfl rfl rfl (kG (Us:=[a0,a1,a2,a3].map vL) U_137 Z_23 (aA.t rfl) rfl (Az a0 a1 a2 a3)) ?_
 refine aB rfl rfl rfl (cZ Tryz.call37 (xH (l:=[a0,a1,a2,a3]) (show 4 ≤ 9223372036854775807 by decide)) ⟨(aA.t rfl),trivial⟩) ?_
 refine aB rfl rfl rfl (dE (aA.t rfl)) ?_
 refine aB rfl rfl rfl (cX (aA.t rfl)) ?_
 refine fQ rfl rfl (eK rfl rfl (aA.t rfl) (fun h=>kG (Us:=[b0,b1,b2,b3].map vL) U_137 Z_23 (aA.t rfl) rfl (Az b0 b1 b2 b3))) ?_
 refine fQ rfl rfl (eK rfl rfl (aA.t rfl) (fun h=>cZ Tryz.call37 (xH (l:=[b0,b1,b2,b3]) (show 4 ≤ 9223372036854775807 by decide)) ⟨(fV rfl h),trivial⟩)) ?_
 refine fQ rfl rfl (eK rfl rfl (aA.t rfl) (fun h=>dE (fV rfl h))) ?_
 refine aB rfl rfl rfl (iF (aA.t rfl) (fun h=>(fV rfl h))) ?_
 refine aB rfl rfl rfl (cX (aA.t rfl)) ?_
 refine fQ rfl rfl (eK rfl rfl (aA.t rfl) (fun h=>kG (Us:=[e0,e1,e2,e3].map vL) U_137 Z_23 (aA.t rfl) rfl (Az e0 e1 e2 e3))) ?_
 refine fQ rfl rfl (eK rfl rfl (aA.t rfl) (fun h=>cZ Tryz.call37 (xH (l:=[e0,e1,e2,e3]) (show 4 ≤ 9223372036854775807 by decide)) ⟨(fV rfl h),trivial⟩)) ?_
 refine fQ rfl rfl (eK rfl rfl (aA.t rfl) (fun h=>dE (fV rfl h))) ?_
 refine aB rfl rfl rfl (iF (aA.t rfl) (fun h=>(fV rfl h))) ?_
 refine eX ?_
 refine dQ (aA.t rfl) (fun hb=>?_) (fun hb=>?_)
 ·refine cK ?_
  refine cY ?_
  refine aB rfl rfl rfl (cZ K_65 nZ trivial) ?_
  refine aB rfl rfl rfl (cQ (aA.t rfl)) ?_
  refine eX ?_
  exact fG rfl (eU rfl)
 ·refine cU ?_
  refine cK ?_
  refine cY ?_
  refine aB rfl rfl rfl (kG (Us:=[a0,a1,a2,a3].map vL) U_137 Z_23 (aA.t rfl) rfl (Az a0 a1 a2 a3)) ?_
  refine aB rfl rfl rfl (cZ Tryz.call39 tp ⟨(cJ 2),(aA.t rfl),trivial⟩) ?_
  refine aB rfl rfl rfl (cX (aA.t rfl)) ?_
  refine aB rfl rfl rfl (dU (aA.t rfl) rfl) ?_
  refine aB rfl rfl rfl (dU (aA.t rfl) rfl) ?_
  refine dH rfl rfl rfl (eW (Ts:=[Is (.slice none 0 0),Is (.slice none 0 0)]) O_80 rfl (fun V=>aW zd (aW zd (aG)))) (fun B7=>?_)
  refine gZ Z_80 (aA.t rfl) (aA.t rfl) rfl (i:=0) rfl (aK rfl) rfl rfl ?_
  refine aB rfl rfl rfl (cQ (aA.t rfl)) ?_
  refine eX ?_
  refine cK ?_
  refine cY ?_
  refine aB rfl rfl rfl (kG (Us:=[b0,b1,b2,b3].map vL) U_137 Z_23 (aA.t rfl) rfl (Az b0 b1 b2 b3)) ?_
  refine aB rfl rfl rfl (cZ Tryz.call39 tq ⟨(cJ 2),(aA.t rfl),trivial⟩) ?_
  refine aB rfl rfl rfl (cX (aA.t rfl)) ?_
  refine aB rfl rfl rfl (dU (aA.t rfl) rfl) ?_
  refine aB rfl rfl rfl (dU (aA.t rfl) rfl) ?_
  refine dH rfl rfl rfl (eW (Ts:=[Is (.slice none 0 0),Is (.slice none 0 0)]) O_80 rfl (fun V=>aW zd (aW zd (aG)))) (fun B9=>?_)
  refine gZ Z_80 (aA.t rfl) (aA.t rfl) rfl (i:=1) rfl (aK rfl) rfl rfl ?_
  refine aB rfl rfl rfl (cQ (aA.t rfl)) ?_
  refine eX ?_
  refine cK ?_
  refine cY ?_
  refine aB rfl rfl rfl (kG (Us:=[e0,e1,e2,e3].map vL) U_137 Z_23 (aA.t rfl) rfl (Az e0 e1 e2 e3)) ?_
  refine aB rfl rfl rfl (cZ Tryz.call39 tS ⟨(cJ 2),(aA.t rfl),trivial⟩) ?_
  refine aB rfl rfl rfl (cX (aA.t rfl)) ?_
  refine aB rfl rfl rfl (dU (aA.t rfl) rfl) ?_
  refine aB rfl rfl rfl (dU (aA.t rfl) rfl) ?_
  refine dH rfl rfl rfl (eW (Ts:=[Is (.slice none 0 0),Is (.slice none 0 0)]) O_80 rfl (fun V=>aW zd (aW zd (aG)))) (fun B11=>?_)
  refine gZ Z_80 (aA.t rfl) (aA.t rfl) rfl (i:=2) rfl (aK rfl) rfl rfl ?_
  refine aB rfl rfl rfl (cQ (aA.t rfl)) ?_
  refine eX ?_
  refine cK ?_
  refine gW (i:=0) (tt:=7) rfl rfl dB ?_
  refine gW (i:=1) (tt:=9) rfl rfl dB ?_
  refine gW (i:=2) (tt:=11) rfl rfl dB ?_
  refine cC [] rfl (by decide) ?_
  by_cases hD:jS S p 0 = 0
  ·refine cY ?_
   refine aB rfl rfl rfl (dV A_80 Z_80 (aA.t rfl)) ?_
   refine aB rfl rfl rfl (dV A_80 Z_80 (aA.t rfl)) ?_
   refine aB rfl rfl rfl (cZ Tryz.call66 (Kz (i:=0) (L:=2) (by decide) sS sp fS fp (by decide) (by decide) hD) ⟨(aA.t rfl),(cJ 1),(aA.t rfl),trivial⟩) ?_
   refine aB rfl rfl rfl (cX (aA.t rfl)) ?_
   refine aB rfl rfl rfl (dU (aA.t rfl) rfl) ?_
   refine aB rfl rfl rfl (dU (aA.t rfl) rfl) ?_
   refine dH rfl rfl rfl (eW (Ts:=[Is (.slice none 0 0),Is (.slice none 0 0)]) O_80 rfl (fun V=>aW zd (aW zd (aG)))) (fun B13=>?_)
   refine gZ Z_80 (aA.t rfl) (aA.t rfl) rfl (i:=0) rfl (aK rfl) rfl rfl ?_
   refine aB rfl rfl rfl (cQ (aA.t rfl)) ?_
   refine eX ?_
   refine cK ?_
   refine cK ?_
   refine cY ?_
   refine aB rfl rfl rfl (cX (aA.t rfl)) ?_
   refine aB rfl rfl rfl (fL (aA.t rfl) cV) ?_
   refine eX ?_
   refine iS (aA.t rfl) (by simp) ?_
   refine cK ?_
   refine cY ?_
   refine aB rfl rfl rfl (cX (aA.t rfl)) ?_
   refine aB rfl rfl rfl (kQ (aA.t rfl) cV) ?_
   refine aB rfl rfl rfl (cX (aA.t rfl)) ?_
   refine fQ rfl rfl (eK rfl rfl (aA.t rfl) (fun h=>cZ K_65 nZ trivial)) ?_
   refine aB rfl rfl rfl (gA (aA.t rfl) (fun h=>(fV rfl h))) ?_
   refine aB rfl rfl rfl (cQ (aA.t rfl)) ?_
   refine eX ?_
   exact fG rfl (eU rfl)
  ·refine cY ?_
   refine aB rfl rfl rfl (dV A_80 Z_80 (aA.t rfl)) ?_
   refine aB rfl rfl rfl (dV A_80 Z_80 (aA.t rfl)) ?_
   refine aB rfl rfl rfl (cZ Tryz.call66 (Ss (i:=0) (L:=2) (by decide) sS sp fS fp (by decide) (by decide) hD) ⟨(aA.t rfl),(cJ 1),(aA.t rfl),trivial⟩) ?_
   refine aB rfl rfl rfl (cX (aA.t rfl)) ?_
   refine aB rfl rfl rfl (dU (aA.t rfl) rfl) ?_
   refine aB rfl rfl rfl (dU (aA.t rfl) rfl) ?_
   refine dH rfl rfl rfl (eW (Ts:=[Is (.slice none 0 0),Is (.slice none 0 0)]) O_80 rfl (fun V=>aW zd (aW zd (aG)))) (fun B13=>?_)
   refine gZ Z_80 (aA.t rfl) (aA.t rfl) rfl (i:=0) rfl (aK rfl) rfl rfl ?_
   refine aB rfl rfl rfl (cQ (aA.t rfl)) ?_
   refine eX ?_
   refine cK ?_
   refine cK ?_
   refine cC [0] rfl (by decide) ?_
   refine Oa (H':=[box B13 80 [bP (nV 2),bF (eB S p 0 2)]]) (aU (aP rfl) aY) ?_
   refine cY ?_
   refine aB rfl rfl rfl (cX (aA.t rfl)) ?_
   refine aB rfl rfl rfl (fL (aA.t rfl) cV) ?_
   refine eX ?_
   refine cL (aA.t rfl) (by simp) ?_
   have fX:aS (eB S p 0 2) 60:=Em fS fp (by decide) hD
   by_cases hE:jS (eB S p 0 2) q 1 = 0
   ·refine cU ?_
    refine cK ?_
    refine cY ?_
    refine aB rfl rfl rfl (eJ A_80 Z_80 (aA.t rfl) (i:=0) rfl rfl rfl) ?_
    refine aB rfl rfl rfl (dV A_80 Z_80 (aA.t rfl)) ?_
    refine aB rfl rfl rfl (cZ Tryz.call66 (Kz (i:=1) (L:=60) (by decide) cI.tab sq fX (fq.le (by decide)) (by decide) (by decide) hE) ⟨(aA.t rfl),(cJ 2),(aA.t rfl),trivial⟩) ?_
    refine aB rfl rfl rfl (cX (aA.t rfl)) ?_
    refine aB rfl rfl rfl (dU (aA.t rfl) rfl) ?_
    refine aB rfl rfl rfl (dU (aA.t rfl) rfl) ?_
    refine gZ Z_80 (aA.t rfl) (aA.t rfl) rfl (i:=0) rfl (aK rfl) rfl rfl ?_
    refine aB rfl rfl rfl (cQ (aA.t rfl)) ?_
    refine eX ?_
    refine cK ?_
    refine cK ?_
    refine cY ?_
    refine aB rfl rfl rfl (cX (aA.t rfl)) ?_
    refine aB rfl rfl rfl (fL (aA.t rfl) cV) ?_
    refine eX ?_
    refine iS (aA.t rfl) (by simp) ?_
    refine cK ?_
    refine cY ?_
    refine aB rfl rfl rfl (cX (aA.t rfl)) ?_
    refine aB rfl rfl rfl (kQ (aA.t rfl) cV) ?_
    refine aB rfl rfl rfl (cX (aA.t rfl)) ?_
    refine fQ rfl rfl (eK rfl rfl (aA.t rfl) (fun h=>cZ K_65 nZ trivial)) ?_
    refine aB rfl rfl rfl (gA (aA.t rfl) (fun h=>(fV rfl h))) ?_
    refine aB rfl rfl rfl (cQ (aA.t rfl)) ?_
    refine eX ?_
    exact fG rfl (eU rfl)
   ·refine cU ?_
    refine cK ?_
    refine cY ?_
    refine aB rfl rfl rfl (eJ A_80 Z_80 (aA.t rfl) (i:=0) rfl rfl rfl) ?_
    refine aB rfl rfl rfl (dV A_80 Z_80 (aA.t rfl)) ?_
    refine aB rfl rfl rfl (cZ Tryz.call66 (Ss (i:=1) (L:=60) (by decide) cI.tab sq fX (fq.le (by decide)) (by decide) (by decide) hE) ⟨(aA.t rfl),(cJ 2),(aA.t rfl),trivial⟩) ?_
    refine aB rfl rfl rfl (cX (aA.t rfl)) ?_
    refine aB rfl rfl rfl (dU (aA.t rfl) rfl) ?_
    refine aB rfl rfl rfl (dU (aA.t rfl) rfl) ?_
    refine gZ Z_80 (aA.t rfl) (aA.t rfl) rfl (i:=0) rfl (aK rfl) rfl rfl ?_
    refine aB rfl rfl rfl (cQ (aA.t rfl)) ?_
    refine eX ?_
    refine cK ?_
    refine cK ?_
    refine cC [0] rfl (by decide) ?_
    refine Oa (H':=[box B13 80 [bP (nV 2),bF (eB (eB S p 0 2) q 1 2)]]) (aU (aP rfl) aY) ?_
    refine cY ?_
    refine aB rfl rfl rfl (cX (aA.t rfl)) ?_
    refine aB rfl rfl rfl (fL (aA.t rfl) cV) ?_
    refine eX ?_
    refine cL (aA.t rfl) (by simp) ?_
    have fY:aS (eB (eB S p 0 2) q 1 2) 1220:=Em fX (fq.le (by decide)) (by decide) hE
    have sY:cI (eB (eB S p 0 2) q 1 2) 2 2:=cI.tab
    refine cU ?_
    refine cK ?_
    refine fJ (m:=12) ?_
    refine C.D_step (Ei:=[(7,_)]) rfl rfl (bV (bK rfl rfl) bW) (dX rfl (dV A_80 Z_80 (aA.t rfl))) ?_
    refine C.D_step (Ei:=[(75,_)]) rfl rfl (bV (bG 0 rfl rfl) bW) (dX rfl (cZ Tryz.call67 (Jq (L:=2) hzl sp fp (by decide) (by decide)) ⟨(aA.t rfl),trivial⟩)) ?_
    refine C.D_step (Ei:=[(9,_)]) rfl rfl (bV (bK rfl rfl) bW) (dX rfl (dV A_80 Z_80 (aA.t rfl))) ?_
    refine C.D_step (Ei:=[(77,_)]) rfl rfl (bV (bG 2 rfl rfl) bW) (dX rfl (cZ Tryz.call67 (Jq (L:=2) hzl sq fq (by decide) (by decide)) ⟨(aA.t rfl),trivial⟩)) ?_
    refine C.D_step (Ei:=[(76,_),(78,_)]) rfl rfl (bV (bG 1 rfl rfl) (bV (bG 3 rfl rfl) bW)) (dX rfl (aM.imp (eO (xs:=[.tmp 76,.tmp 78]) U_142 Z_140 O_140 (cW (aA.t rfl) (cW (aA.t rfl) cG)) rfl rfl rfl) (nH (Us:=(rB p q).map Tv) rfl))) ?_
    refine C.D_step (Ei:=[(7,_)]) rfl rfl (bV (bK rfl rfl) bW) (dX rfl (dV A_80 Z_80 (aA.t rfl))) ?_
    refine C.D_step (Ei:=[(80,_)]) rfl rfl (bV (bG 5 rfl rfl) bW) (dX rfl (cZ K_68 (xG (i:=1) (k:=0) hzl sp (by decide) (by decide) (by decide)) ⟨(aA.t rfl),(cJ 2),(cJ 1),trivial⟩)) ?_
    refine C.D_step (Ei:=[(9,_)]) rfl rfl (bV (bK rfl rfl) bW) (dX rfl (dV A_80 Z_80 (aA.t rfl))) ?_
    refine C.D_step (Ei:=[(82,_)]) rfl rfl (bV (bG 7 rfl rfl) bW) (dX rfl (cZ K_68 (xG (i:=1) (k:=0) hzl sq (by decide) (by decide) (by decide)) ⟨(aA.t rfl),(cJ 2),(cJ 1),trivial⟩)) ?_
    refine C.D_step (Ei:=[(81,_),(83,_)]) rfl rfl (bV (bG 6 rfl rfl) (bV (bG 8 rfl rfl) bW)) (dX rfl (aM.imp (eO (xs:=[.tmp 81,.tmp 83]) U_54 Z_32 O_32 (cW (aA.t rfl) (cW (aA.t rfl) cG)) rfl rfl rfl) (nH (Us:=(zJ p q).map aE) rfl))) ?_
    refine C.D_step (Ei:=[(79,_),(84,_)]) rfl rfl (bV (bG 4 rfl rfl) (bV (bG 9 rfl rfl) bW)) (dX rfl (Dy (aA.t rfl) (aA.t rfl))) ?_
    refine C.D_new (Ei:=[]) rfl rfl rfl bW (eW (Ts:=[Is (.slice none 0 0),Is (.slice none 0 0)]) Tryz.zeroValue145 rfl (fun V=>aW zd (aW zd (aG)))) ?_
    refine fW aT rfl (by kernel_rfl) (zF (zF (aJ (aJ (aJ (C.F_new (fun B15=>aV ?_)))))))
    refine gZ Z_145 (aA.t rfl) (aA.t rfl) rfl (i:=1) rfl (aK rfl) rfl rfl ?_
    refine eX ?_
    refine cK ?_
    refine cC [0,1] rfl (by decide) ?_
    refine gW (i:=1) (tt:=15) rfl rfl dB ?_
    refine cC [0] rfl (by decide) ?_
    by_cases h12:gm p 1 0 = 0 ∨ gm q 1 0 = 0
    ·refine cY ?_
     refine aB rfl rfl rfl (dV A_145 Z_145 (aA.t rfl)) ?_
     refine aB rfl rfl rfl (cX (aA.t rfl)) ?_
     refine aB rfl rfl rfl (cZ Tryz.call69 (Ye sS fp fq fS hD hE h12) ⟨(aA.t rfl),(aA.t rfl),trivial⟩) ?_
     refine aB rfl rfl rfl (cX (aA.t rfl)) ?_
     refine aB rfl rfl rfl (dU (aA.t rfl) rfl) ?_
     refine aB rfl rfl rfl (dU (aA.t rfl) rfl) ?_
     refine aB rfl rfl rfl (cQ (aA.t rfl)) ?_
     refine aB rfl rfl rfl (cQ (aA.t rfl)) ?_
     refine eX ?_
     refine cK ?_
     refine cK ?_
     refine cY ?_
     refine aB rfl rfl rfl (eC iN (aA.t rfl) rfl) ?_
     refine aB rfl rfl rfl (dV A_54 Z_54 (aA.t rfl)) ?_
     refine aB rfl rfl rfl (dZ U_54 Z_32 (aA.t rfl) (cJ 0) rfl (eQ (a:=gm p 1 0) rfl)) ?_
     refine aB rfl rfl rfl (dV A_32 Z_32 (aA.t rfl)) ?_
     refine aB rfl rfl rfl (cZ K_34 (jN (x:=gm p 1 0) (L:=2) (hx:=fp.get (by decide) 1 0) (by decide)) ⟨(aA.t rfl),trivial⟩) ?_
     refine aB rfl rfl rfl (dE (aA.t rfl)) ?_
     refine aB rfl rfl rfl (cX (aA.t rfl)) ?_
     refine fQ rfl rfl (eK rfl rfl (aA.t rfl) (fun h=>eC iN (aA.t rfl) rfl)) ?_
     refine fQ rfl rfl (eK rfl rfl (aA.t rfl) (fun h=>dV A_54 Z_54 (fV rfl h))) ?_
     refine fQ rfl rfl (eK rfl rfl (aA.t rfl) (fun h=>dZ U_54 Z_32 (fV rfl h) (cJ 1) rfl (eQ (a:=gm q 1 0) rfl))) ?_
     refine fQ rfl rfl (eK rfl rfl (aA.t rfl) (fun h=>dV A_32 Z_32 (fV rfl h))) ?_
     refine fQ rfl rfl (eK rfl rfl (aA.t rfl) (fun h=>cZ K_34 (jN (x:=gm q 1 0) (L:=2) (hx:=fq.get (by decide) 1 0) (by decide)) ⟨(fV rfl h),trivial⟩)) ?_
     refine fQ rfl rfl (eK rfl rfl (aA.t rfl) (fun h=>dE (fV rfl h))) ?_
     refine aB rfl rfl rfl (iF (aA.t rfl) (fun h=>(fV rfl h))) ?_
     refine eX ?_
     refine iS (aA.t rfl) (Zg h12) ?_
     refine cK ?_
     refine cY ?_
     refine aB rfl rfl rfl (cX (aA.t rfl)) ?_
     refine aB rfl rfl rfl (kQ (aA.t rfl) cV) ?_
     refine aB rfl rfl rfl (cX (aA.t rfl)) ?_
     refine fQ rfl rfl (eK rfl rfl (aA.t rfl) (fun h=>cZ K_65 nZ trivial)) ?_
     refine aB rfl rfl rfl (gA (aA.t rfl) (fun h=>(fV rfl h))) ?_
     refine aB rfl rfl rfl (cQ (aA.t rfl)) ?_
     refine eX ?_
     exact fG rfl (eU rfl)
    ·have h1 : gm p 1 0 ≠ 0 := fun h => h12 (.inl h)
     have h2:gm q 1 0 ≠ 0:=fun h=>h12 (.inr h)
     refine cY ?_
     refine aB rfl rfl rfl (dV A_145 Z_145 (aA.t rfl)) ?_
     refine aB rfl rfl rfl (cX (aA.t rfl)) ?_
     refine aB rfl rfl rfl (cZ Tryz.call69 (a1a sS fp fq fS hD hE h1 h2) ⟨(aA.t rfl),(aA.t rfl),trivial⟩) ?_
     refine aB rfl rfl rfl (cX (aA.t rfl)) ?_
     refine aB rfl rfl rfl (dU (aA.t rfl) rfl) ?_
     refine aB rfl rfl rfl (dU (aA.t rfl) rfl) ?_
     refine aB rfl rfl rfl (cQ (aA.t rfl)) ?_
     refine aB rfl rfl rfl (cQ (aA.t rfl)) ?_
     refine eX ?_
     refine cK ?_
     refine cK ?_
     refine cY ?_
     refine aB rfl rfl rfl (eC iN (aA.t rfl) rfl) ?_
     refine aB rfl rfl rfl (dV A_54 Z_54 (aA.t rfl)) ?_
     refine aB rfl rfl rfl (dZ U_54 Z_32 (aA.t rfl) (cJ 0) rfl (eQ (a:=gm p 1 0) rfl)) ?_
     refine aB rfl rfl rfl (dV A_32 Z_32 (aA.t rfl)) ?_
     refine aB rfl rfl rfl (cZ K_34 (jN (x:=gm p 1 0) (L:=2) (hx:=fp.get (by decide) 1 0) (by decide)) ⟨(aA.t rfl),trivial⟩) ?_
     refine aB rfl rfl rfl (dE (aA.t rfl)) ?_
     refine aB rfl rfl rfl (cX (aA.t rfl)) ?_
     refine fQ rfl rfl (eK rfl rfl (aA.t rfl) (fun h=>eC iN (aA.t rfl) rfl)) ?_
     refine fQ rfl rfl (eK rfl rfl (aA.t rfl) (fun h=>dV A_54 Z_54 (fV rfl h))) ?_
     refine fQ rfl rfl (eK rfl rfl (aA.t rfl) (fun h=>dZ U_54 Z_32 (fV rfl h) (cJ 1) rfl (eQ (a:=gm q 1 0) rfl))) ?_
     refine fQ rfl rfl (eK rfl rfl (aA.t rfl) (fun h=>dV A_32 Z_32 (fV rfl h))) ?_
     refine fQ rfl rfl (eK rfl rfl (aA.t rfl) (fun h=>cZ K_34 (jN (x:=gm q 1 0) (L:=2) (hx:=fq.get (by decide) 1 0) (by decide)) ⟨(fV rfl h),trivial⟩)) ?_
     refine fQ rfl rfl (eK rfl rfl (aA.t rfl) (fun h=>dE (fV rfl h))) ?_
     refine aB rfl rfl rfl (iF (aA.t rfl) (fun h=>(fV rfl h))) ?_
     refine eX ?_
     refine cL (aA.t rfl) (Zh h1 h2) ?_
     refine cU ?_
     refine cK ?_
     refine cK ?_
     refine cY ?_
     refine aB rfl rfl rfl (cX (aA.t rfl)) ?_
     refine aB rfl rfl rfl (fL (aA.t rfl) cV) ?_
     refine aB rfl rfl rfl (cX (aA.t rfl)) ?_
     refine fQ rfl rfl (eK rfl rfl (aA.t rfl) (fun h=>cX (aA.t rfl))) ?_
     refine fQ rfl rfl (eK rfl rfl (aA.t rfl) (fun h=>eJ A_80 Z_80 (aA.t rfl) (i:=0) rfl rfl rfl)) ?_
     refine fQ rfl rfl (eK rfl rfl (aA.t rfl) (fun h=>cZ Tryz.call71 (a0d (n:=2) hzl cI.tab (by decide)) ⟨(fV rfl h),trivial⟩)) ?_
     refine fQ rfl rfl (eK rfl rfl (aA.t rfl) (fun h=>cZ Tryz.call70 (Jk (m:=eB (eB S p 0 2) q 1 2) (L:=1220) (by rw [(sY).1]; decide) (fun r hr=>by rw [(sY).2 r hr]; decide) (fY) (by decide) (by decide)) ⟨(fV rfl h),(fV rfl h),trivial⟩)) ?_
     refine fQ rfl rfl (eK rfl rfl (aA.t rfl) (fun h=>dE (fV rfl h))) ?_
     refine aB rfl rfl rfl (iF (aA.t rfl) (fun h=>(fV rfl h))) ?_
     refine eX ?_
     refine cL (aA.t rfl) (by simp) ?_
     haveI i1:=fp.get (by decide) 0 1; haveI i2:=fp.get (by decide) 1 0; haveI i3:=fq.get (by decide) 0 1; haveI i4:=fq.get (by decide) 1 0
     by_cases h34:gm p 0 1 = 0 ∨ gm q 0 1 = 0
     ·refine cU ?_
      refine cK ?_
      refine cY ?_
      refine aB rfl rfl rfl (dV A_145 Z_145 (aA.t rfl)) ?_
      refine aB rfl rfl rfl (cX (aA.t rfl)) ?_
      refine aB rfl rfl rfl (cZ Tryz.call72 (Yd fp fq (fY.le (by decide)) h1 h2 h34) ⟨(aA.t rfl),(aA.t rfl),trivial⟩) ?_
      refine aB rfl rfl rfl (cX (aA.t rfl)) ?_
      refine aB rfl rfl rfl (dU (aA.t rfl) rfl) ?_
      refine aB rfl rfl rfl (dU (aA.t rfl) rfl) ?_
      refine aB rfl rfl rfl (cQ (aA.t rfl)) ?_
      refine aB rfl rfl rfl (cQ (aA.t rfl)) ?_
      refine eX ?_
      refine cK ?_
      refine cK ?_
      refine cY ?_
      refine aB rfl rfl rfl (eC fT (aA.t rfl) rfl) ?_
      refine aB rfl rfl rfl (dV A_142 Z_142 (aA.t rfl)) ?_
      refine aB rfl rfl rfl (dZ U_142 Z_140 (aA.t rfl) (cJ 0) rfl (eQ (a:=(gm p 0 0,gm p 1 1,gm p 0 1 * gm p 1 0)) rfl)) ?_
      refine aB rfl rfl rfl (dJ (s:=5) kM (aA.t rfl) rfl) ?_
      refine aB rfl rfl rfl (dV A_32 Z_32 (aA.t rfl)) ?_
      refine aB rfl rfl rfl (cZ K_34 (jN (x:=gm p 0 1 * gm p 1 0) (L:=2 + 2 + 1) (by decide)) ⟨(aA.t rfl),trivial⟩) ?_
      refine aB rfl rfl rfl (dE (aA.t rfl)) ?_
      refine aB rfl rfl rfl (cX (aA.t rfl)) ?_
      refine fQ rfl rfl (eK rfl rfl (aA.t rfl) (fun h=>eC fT (aA.t rfl) rfl)) ?_
      refine fQ rfl rfl (eK rfl rfl (aA.t rfl) (fun h=>dV A_142 Z_142 (fV rfl h))) ?_
      refine fQ rfl rfl (eK rfl rfl (aA.t rfl) (fun h=>dZ U_142 Z_140 (fV rfl h) (cJ 1) rfl (eQ (a:=(gm q 0 0,gm q 1 1,gm q 0 1 * gm q 1 0)) rfl))) ?_
      refine fQ rfl rfl (eK rfl rfl (aA.t rfl) (fun h=>dJ (s:=5) kM (fV rfl h) rfl)) ?_
      refine fQ rfl rfl (eK rfl rfl (aA.t rfl) (fun h=>dV A_32 Z_32 (fV rfl h))) ?_
      refine fQ rfl rfl (eK rfl rfl (aA.t rfl) (fun h=>cZ K_34 (jN (x:=gm q 0 1 * gm q 1 0) (L:=2 + 2 + 1) (by decide)) ⟨(fV rfl h),trivial⟩)) ?_
      refine fQ rfl rfl (eK rfl rfl (aA.t rfl) (fun h=>dE (fV rfl h))) ?_
      refine aB rfl rfl rfl (iF (aA.t rfl) (fun h=>(fV rfl h))) ?_
      refine eX ?_
      refine iS (aA.t rfl) (Zg (h34.imp (fun h=>(congrArg (· * _) h).trans (Qi.zero_mul' _)) (fun h=>(congrArg (· * _) h).trans (Qi.zero_mul' _)))) ?_
      refine cK ?_
      refine cY ?_
      refine aB rfl rfl rfl (cX (aA.t rfl)) ?_
      refine aB rfl rfl rfl (kQ (aA.t rfl) cV) ?_
      refine aB rfl rfl rfl (cX (aA.t rfl)) ?_
      refine fQ rfl rfl (eK rfl rfl (aA.t rfl) (fun h=>cZ K_65 nZ trivial)) ?_
      refine aB rfl rfl rfl (gA (aA.t rfl) (fun h=>(fV rfl h))) ?_
      refine aB rfl rfl rfl (cQ (aA.t rfl)) ?_
      refine eX ?_
      exact fG rfl (eU rfl)
     ·have h3 : gm p 0 1 ≠ 0 := fun h => h34 (.inl h)
      have h4:gm q 0 1 ≠ 0:=fun h=>h34 (.inr h)
      refine cU ?_
      refine cK ?_
      refine cY ?_
      refine aB rfl rfl rfl (dV A_145 Z_145 (aA.t rfl)) ?_
      refine aB rfl rfl rfl (cX (aA.t rfl)) ?_
      refine aB rfl rfl rfl (cZ Tryz.call72 (a19 sS fp fq hD hE (fY.le (by decide)) h1 h2 h3 h4) ⟨(aA.t rfl),(aA.t rfl),trivial⟩) ?_
      refine aB rfl rfl rfl (cX (aA.t rfl)) ?_
      refine aB rfl rfl rfl (dU (aA.t rfl) rfl) ?_
      refine aB rfl rfl rfl (dU (aA.t rfl) rfl) ?_
      refine aB rfl rfl rfl (cQ (aA.t rfl)) ?_
      refine aB rfl rfl rfl (cQ (aA.t rfl)) ?_
      refine eX ?_
      refine cK ?_
      refine cK ?_
      refine cY ?_
      refine aB rfl rfl rfl (eC fT (aA.t rfl) rfl) ?_
      refine aB rfl rfl rfl (dV A_142 Z_142 (aA.t rfl)) ?_
      refine aB rfl rfl rfl (dZ U_142 Z_140 (aA.t rfl) (cJ 0) rfl (eQ (a:=(gm p 0 0,gm p 1 1,gm p 0 1 * gm p 1 0)) rfl)) ?_
      refine aB rfl rfl rfl (dJ (s:=5) kM (aA.t rfl) rfl) ?_
      refine aB rfl rfl rfl (dV A_32 Z_32 (aA.t rfl)) ?_
      refine aB rfl rfl rfl (cZ K_34 (jN (x:=gm p 0 1 * gm p 1 0) (L:=2 + 2 + 1) (by decide)) ⟨(aA.t rfl),trivial⟩) ?_
      refine aB rfl rfl rfl (dE (aA.t rfl)) ?_
      refine aB rfl rfl rfl (cX (aA.t rfl)) ?_
      refine fQ rfl rfl (eK rfl rfl (aA.t rfl) (fun h=>eC fT (aA.t rfl) rfl)) ?_
      refine fQ rfl rfl (eK rfl rfl (aA.t rfl) (fun h=>dV A_142 Z_142 (fV rfl h))) ?_
      refine fQ rfl rfl (eK rfl rfl (aA.t rfl) (fun h=>dZ U_142 Z_140 (fV rfl h) (cJ 1) rfl (eQ (a:=(gm q 0 0,gm q 1 1,gm q 0 1 * gm q 1 0)) rfl))) ?_
      refine fQ rfl rfl (eK rfl rfl (aA.t rfl) (fun h=>dJ (s:=5) kM (fV rfl h) rfl)) ?_
      refine fQ rfl rfl (eK rfl rfl (aA.t rfl) (fun h=>dV A_32 Z_32 (fV rfl h))) ?_
      refine fQ rfl rfl (eK rfl rfl (aA.t rfl) (fun h=>cZ K_34 (jN (x:=gm q 0 1 * gm q 1 0) (L:=2 + 2 + 1) (by decide)) ⟨(fV rfl h),trivial⟩)) ?_
      refine fQ rfl rfl (eK rfl rfl (aA.t rfl) (fun h=>dE (fV rfl h))) ?_
      refine aB rfl rfl rfl (iF (aA.t rfl) (fun h=>(fV rfl h))) ?_
      refine eX ?_
      refine cL (aA.t rfl) (Zh (oW h3 h1) (oW h4 h2)) ?_
      refine cU ?_
      refine cK ?_
      refine cK ?_
      refine cY ?_
      refine aB rfl rfl rfl (cX (aA.t rfl)) ?_
      refine aB rfl rfl rfl (fL (aA.t rfl) cV) ?_
      refine aB rfl rfl rfl (cX (aA.t rfl)) ?_
      refine fQ rfl rfl (eK rfl rfl (aA.t rfl) (fun h=>cX (aA.t rfl))) ?_
      refine fQ rfl rfl (eK rfl rfl (aA.t rfl) (fun h=>cX (aA.t rfl))) ?_
      refine fQ rfl rfl (eK rfl rfl (aA.t rfl) (fun h=>cZ Tryz.call70 (Jk (m:=S) (L:=2) (by rw [(sS).1]; decide) (fun r hr=>by rw [(sS).2 r hr]; decide) (fS) (by decide) (by decide)) ⟨(fV rfl h),(fV rfl h),trivial⟩)) ?_
      refine fQ rfl rfl (eK rfl rfl (aA.t rfl) (fun h=>dE (fV rfl h))) ?_
      refine aB rfl rfl rfl (iF (aA.t rfl) (fun h=>(fV rfl h))) ?_
      refine eX ?_
      refine cL (aA.t rfl) (by simp) ?_
      refine cU ?_
      refine cK ?_
      refine cY ?_
      refine aB rfl rfl rfl (eJ A_80 Z_80 (aA.t rfl) (i:=0) rfl rfl rfl) ?_
      refine aB rfl rfl rfl (dV A_80 Z_80 (aA.t rfl)) ?_
      refine aB rfl rfl rfl (cZ Tryz.call73 (Sv (i:=1) (L:=1220) (by decide) cI.tab sq fY (fq.le (by decide)) (by decide) (by decide) hE h4 h2) ⟨(aA.t rfl),(cJ 2),(aA.t rfl),trivial⟩) ?_
      refine aB rfl rfl rfl (cX (aA.t rfl)) ?_
      refine aB rfl rfl rfl (dU (aA.t rfl) rfl) ?_
      refine aB rfl rfl rfl (dU (aA.t rfl) rfl) ?_
      refine gZ Z_80 (aA.t rfl) (aA.t rfl) rfl (i:=0) rfl (aK rfl) rfl rfl ?_
      refine aB rfl rfl rfl (cQ (aA.t rfl)) ?_
      refine eX ?_
      refine cK ?_
      refine cY ?_
      refine aB rfl rfl rfl (eJ A_80 Z_80 (aA.t rfl) (i:=0) rfl rfl rfl) ?_
      refine aB rfl rfl rfl (dV A_80 Z_80 (aA.t rfl)) ?_
      refine aB rfl rfl rfl (cZ Tryz.call73 (Sv (i:=0) (L:=60) (by decide) sS sp fX (fp.le (by decide)) (by decide) (by decide) hD h3 h1) ⟨(aA.t rfl),(cJ 1),(aA.t rfl),trivial⟩) ?_
      refine aB rfl rfl rfl (cX (aA.t rfl)) ?_
      refine aB rfl rfl rfl (dU (aA.t rfl) rfl) ?_
      refine aB rfl rfl rfl (dU (aA.t rfl) rfl) ?_
      refine dH rfl rfl rfl (eW (Ts:=[Is (.slice none 0 0),Is (.slice none 0 0)]) O_80 rfl (fun V=>aW zd (aW zd (aG)))) (fun B18=>?_)
      refine gZ Z_80 (aA.t rfl) (aA.t rfl) rfl (i:=1) rfl (aK rfl) rfl rfl ?_
      refine aB rfl rfl rfl (cQ (aA.t rfl)) ?_
      refine eX ?_
      refine cK ?_
      refine gW (i:=1) (tt:=18) rfl rfl dB ?_
      refine cY ?_
      refine aB rfl rfl rfl (cX (aA.t rfl)) ?_
      refine aB rfl rfl rfl (kQ (aA.t rfl) cV) ?_
      refine aB rfl rfl rfl (cX (aA.t rfl)) ?_
      refine fQ rfl rfl (eK rfl rfl (aA.t rfl) (fun h=>cX (aA.t rfl))) ?_
      refine fQ rfl rfl (eK rfl rfl (aA.t rfl) (fun h=>kQ (fV rfl h) cV)) ?_
      refine aB rfl rfl rfl (gA (aA.t rfl) (fun h=>(fV rfl h))) ?_
      refine aB rfl rfl rfl (cX (aA.t rfl)) ?_
      refine fQ rfl rfl (eK rfl rfl (aA.t rfl) (fun h=>dV A_80 Z_80 (aA.t rfl))) ?_
      refine fQ rfl rfl (eK rfl rfl (aA.t rfl) (fun h=>dV A_80 Z_80 (aA.t rfl))) ?_
      refine fQ rfl rfl (eK rfl rfl (aA.t rfl) (fun h=>cZ Tryz.call64 (Gy (L:=2) (wJ 2) (wJ 2) fS fS (by decide) (by decide) (by rw [hzl]; exact sS) (by rw [hzl]; exact sS) (by decide) (by decide)) ⟨(fV rfl h),(fV rfl h),trivial⟩)) ?_
      refine aB rfl rfl rfl (gA (aA.t rfl) (fun h=>(fV rfl h))) ?_
      refine aB rfl rfl rfl (cX (aA.t rfl)) ?_
      refine fQ rfl rfl (eK rfl rfl (aA.t rfl) (fun h=>cZ K_65 nZ trivial)) ?_
      refine aB rfl rfl rfl (gA (aA.t rfl) (fun h=>(fV rfl h))) ?_
      refine aB rfl rfl rfl (cQ (aA.t rfl)) ?_
      refine eX ?_
      refine fG rfl (fZ (eU rfl) ?_)
      exact (fE (by simp [Hm]))
end
section
open Go Go.ChangeShapes Go.WideShapes Go.ChangeAt Go.RowKit Go.Deep
section
variable {H:Type} {enc:TypeId × Value → H} {W:World} {base:Nat} {sp:Nat → Bool} {held:Bool}
theorem Hr {P:Program} {w:World} {r:Reach} {base:Nat} {t:TypeId} {v:Value} {n:Nat} {e:TypeId} (ht:P.underlying t = some (.array n e)) (h:Value.okWide P w r base t v):∃ cs,v = .agg cs ∧ cs.size = P.cellsOf t:=by
 simp only [Value.okWide,ht] at h
 obtain ⟨cs,h1,h2,_⟩:=h
 exact ⟨cs,h1,h2⟩
theorem uZ {b0 : Nat} {v : Value} {d : DataW H} {p : List MemPlace} (ho : Value.okWide Tryz.prog W .any b0 137 v) (h : DataW.Trod enc Tryz.prog W base sp held 137 v d p) :
  ∃ a b q s:Rt,(dL [aF .i64 a.re,aF .i64 a.im,aF .i64 a.den,aF .i64 b.re,aF .i64 b.im,aF .i64 b.den,aF .i64 q.re,aF .i64 q.im,aF .i64 q.den,aF .i64 s.re,aF .i64 s.im,aF .i64 s.den]).p v (hv W):=by
 obtain ⟨cs,rfl,_⟩:=Hr Tryz.underlying137 ho
 obtain ⟨n,hn⟩:=h
 obtain ⟨xs,m,_,_,hl,hx,he⟩:=DataW.trod_array Tryz.underlying137 hn
 have hc:Tryz.prog.cellsOf 137 = 12:=by kernel_rfl
 have hi:Tryz.prog.cellsOf 23 = 3:=by kernel_rfl
 rw [hc] at hl
 obtain ⟨cl,hcl⟩:∃ cl,cl = cs.toList:=⟨_,rfl⟩
 have e9:(Value.agg cs).cells.toList = cl:=hcl.symm
 rw [e9] at hl he
 match cl,hl with
 | [c0, c1, c2, c3, c4, c5, c6, c7, c8, c9, c10, c11], _ =>
  match xs,hx with
  | [y0, y1, y2, y3], _ =>
   have e0:=he 0 zo
   have e1:=he 1 zo
   have e2:=he 2 zo
   have e3:=he 3 zo
   rw [hi] at e0 e1 e2 e3
   obtain ⟨a,qa⟩:=wL s27 V_2 (show DataW.trod enc Tryz.prog W base sp held m 23 [c0,c1,c2] = some y0 from e0)
   obtain ⟨b,qb⟩:=wL s27 V_2 (show DataW.trod enc Tryz.prog W base sp held m 23 [c3,c4,c5] = some y1 from e1)
   obtain ⟨q,qq⟩:=wL s27 V_2 (show DataW.trod enc Tryz.prog W base sp held m 23 [c6,c7,c8] = some y2 from e2)
   obtain ⟨s,qs⟩:=wL s27 V_2 (show DataW.trod enc Tryz.prog W base sp held m 23 [c9,c10,c11] = some y3 from e3)
   simp only [List.cons.injEq,and_true] at qa qb qq qs
   obtain ⟨rfl,rfl,rfl⟩:=qa
   obtain ⟨rfl,rfl,rfl⟩:=qb
   obtain ⟨rfl,rfl,rfl⟩:=qq
   obtain ⟨rfl,rfl,rfl⟩:=qs
   exact ⟨a,b,q,s,cs.toList,rfl,by rw [← hcl]; exact aW zd (aW zd (aW zd (aW zd (aW zd (aW zd (aW zd (aW zd (aW zd (aW zd (aW zd (aW zd (aG))))))))))))⟩
end
end
end Go.Proofs.YthcmlodgnfekeaaGreat
