/- What functions of the program compute, proved by walks over their code, and the plain mathematics of it; a part of the proof in the last text. -/
import Derived.Test.YteohomnhncjcnaaGreatP04
set_option linter.unusedVariables false
set_option linter.unusedSimpArgs false
set_option maxRecDepth 100000
set_option maxHeartbeats 4000000
namespace Go.Proofs.YteohomnhncjcnaaGreat
section
open Go Go.RowKit
theorem Qf  : bB Tryz.prog 174 [cE []] (aC true):=by
 refine bB.intro Tryz.func174 rfl Tryz.ntmps174 rfl (fun cx=>(ts (ro rfl (cQ cV) (eX (ts (rm rfl (ro rfl (cZ Tryz.call240 Al ⟨(Ht rfl),trivial⟩) (rm rfl (ro rfl (dK (Ht rfl) rfl) (ro rfl (dK (Ht rfl) rfl) (ra rfl (ra rfl (eX (ts (rm rfl (rm rfl (fQ rfl rfl (eK rfl rfl (Ht rfl) (fun h=>cX (Ht rfl))) (fQ rfl rfl (eK rfl rfl (Ht rfl) (fun h=>cX (Ht rfl))) (fQ rfl rfl (eK rfl rfl (Ht rfl) (fun h=>dG U_30 (fJ rfl h) aA)) (fQ rfl rfl (eK rfl rfl (Ht rfl) (fun h=>cR (fJ rfl h) (fJ rfl h))) ?_))))))))))))))))))))
 refine ro rfl (fE (Ht rfl) (fun h=>(fJ rfl h))) (ra rfl (eX (fW rfl (fX (eU rfl) ?_))))
 exact (dM (by simp))
theorem Hg {M:List (List Qi)} {n:Nat} (h:cM M n n) (h1:1 ≤ n) (hn:n ≤ 32):bB Tryz.prog 174 [cE M] (aC true):=by
 have hl:=h.1
 refine bB.intro Tryz.func174 rfl Tryz.ntmps174 rfl (fun cx=>(ts (ro rfl (cQ cV) (eX (ts (rm rfl (ro rfl (cZ Tryz.call240 (xG h h1 hn hn) ⟨(Ht rfl),trivial⟩) (rm rfl (ro rfl (dK (Ht rfl) rfl) (ro rfl (dK (Ht rfl) rfl) (ra rfl (ra rfl (eX (ts (rm rfl (rm rfl (fQ rfl rfl (eK rfl rfl (Ht rfl) (fun h=>cX (Ht rfl))) (fQ rfl rfl (eK rfl rfl (Ht rfl) (fun h=>cX (Ht rfl))) (fQ rfl rfl (eK rfl rfl (Ht rfl) (fun h=>dG U_30 (fJ rfl h) aA)) (fQ rfl rfl (eK rfl rfl (Ht rfl) (fun h=>cR (fJ rfl h) (fJ rfl h))) ?_))))))))))))))))))))
 refine ro rfl (fE (Ht rfl) (fun h=>(fJ rfl h))) (ra rfl (eX (fW rfl (fX (eU rfl) ?_))))
 exact (dM (by simp [hl]))
theorem Qg {M:List (List Qi)} {n:Nat} (h:cM M n n) (hn:n ≤ 32):bB Tryz.prog 174 [cE M] (aC true):=by
 by_cases e:n = 0
 ·subst e
  obtain rfl:=List.length_eq_zero_iff.1 h.1
  exact Qf
 ·exact Hg h zo hn
theorem Dg {M bs:List (List Qi)} {n m:Nat} (hM:cM M n m) (hb:∀ b,b ∈ bs → n ≤ b.length) (hn:n ≤ 1000) (hm:m ≤ 1000) (hbl:bs.length ≤ 1000):gF Tryz.prog 193 [cE M,cE bs] [] (Nat) (fun B=>Is (.slice (some ⟨B,0,none⟩) n n)) (fun B=>[oU B 29 51 5 (bL aN (gN M bs n))]) (fun _=>True):=by
 have hMl:=hM.1
 refine gF.intro Tryz.func193 rfl Tryz.ntmps193 rfl (fun cx Z=>(ts (ro rfl (cQ cV) (eX (ts (rm rfl (ro rfl (dG U_30 (Ht rfl) aA) (rn rfl (eE (T:=Is (.slice none 0 0)) (i:=Tryz.t29) V_30 nW rfl rfl (Ht rfl) rfl (fun _=>rfl) trivial (by show 24 * _ ≤ _; omega) zo) fun B12=>(ra rfl (eX (cK (ts (rm rfl (ro rfl (dG U_30 (Ht rfl) aA) (ro rfl (cX (cJ 0)) (eX (eG (nO 1 rfl (uD (e:=51) (s:=5)) ?_))))))))))))))))))
 refine bS (fun (i : Nat) => i ≤ M.length) (fun (i : Nat) => M.length - i) (fun (i : Nat) => [(0, cE M), (1, cE bs), (5, Is (.slice (some ⟨B12, 0, none⟩) M.length M.length)), (13, cE M), (14, NT .i64 M.length), (15, NT .i64 i)]) (fun (i : Nat) => [Z, oU B12 29 51 5 (bL aN (iU (Au M bs) [] M.length i))]) 0 (Nat.zero_le _)
  (zS rfl) (aU (fun _ _ _ h=>h) (aU (bE (by rw [← iF,mC]; exact mK aN M.length)) aY)) (fun i hi=>?_)
 refine ts (ro rfl (gX (Ht rfl) (Ht rfl)) (eX (cK (dQ (Ht rfl) (fun hd0=>?_) (fun hd0=>?_)))))
 ·simp only [decide_eq_true_eq] at hd0
  have hrl:(cL M i).length = m:=hM.row zo
  have hrl2:(M.getD i []).length = m:=hrl
  refine nT 1 (i) rfl (kQ hd0) (fun v0=>(cU (cK (eG (ts (rm rfl (ro rfl (dZ U_30 Z_29 (Ht rfl) (Ht rfl) rfl (dY (dU (d:=[]) hd0))) (ro rfl (dJ A_29 Z_29 (Ht rfl)) (ra rfl (ra rfl (eX (ts (rm rfl (rm rfl (rm rfl (jF Tryz.call158 (Gv (l:=M.getD i []) zo) ⟨(Ht rfl),trivial⟩ rfl (fun v1 _=>(ro rfl (fY U_30 Z_29 (Ht rfl) (Ht rfl) rfl zo (by rw [Nat.mul_one,Nat.zero_add])) ?_))))))))))))))))))
  refine rX Z_29 (Ht rfl) (Ht rfl) (by simp only [bL,List.length_map,eM]; omega) (j:=1) (l:=3) rfl rfl rfl ?_
  refine eX (ts (rm rfl (ro rfl (dG U_30 (Ht rfl) aA) (ro rfl (cX (cJ 0)) (eX (eG (cH [0,1,3] rfl (by decide) ?_)))))))
  refine gB (fun (j : Nat) (v : Value) => j ≤ bs.length) (fun (j : Nat) (v : Value) => bs.length - j) (fun (j : Nat) (v : Value) => [(0, cE M), (1, cE bs), (5, Is (.slice (some ⟨B12, 0, none⟩) M.length M.length)), (6, NT .i64 i), (13, cE M), (14, NT .i64 M.length), (15, NT .i64 i), (25, cE bs), (26, NT .i64 bs.length), (27, NT .i64 j)]) (fun (j : Nat) (v : Value) => [Z, Li B12 29 51 5 (bL aN (iU (Au M bs) [] M.length i)) i v, cD 51 5 v ((cL M i ++ (bs.take j).map fun b => gv b i).map aN)]) 0 v1 (Nat.zero_le _)
   (zS rfl) (aU (fun _ _ _ h=>h) (aU (fun _ _ _ h=>h) (aU (cA (by simp)) aY))) (fun j v hj=>?_)
  refine ts (ro rfl (gX (Ht rfl) (Ht rfl)) (eX (cK (dQ (Ht rfl) (fun he=>?_) (fun he=>?_)))))
  ·simp only [decide_eq_true_eq] at he
   have hbj:i < (bs.getD j []).length:=by have h1:=hb (bs.getD j []) (by rw [Ft he]; exact List.getElem_mem _); omega
   refine cU (cK (eG (ts (ro rfl (dZ U_30 Z_29 (Ht rfl) (Ht rfl) rfl (dY (dU (d:=[]) he))) (ro rfl (dJ A_29 Z_29 (Ht rfl)) (ra rfl (eX (Y.D_startA (m:=12) [] 11 2 rfl rfl (bY (Ei:=[(5,_)]) rfl rfl (bQ (bJ rfl rfl) bX) rfl rfl (dX rfl (cX (Ht rfl))) (bY (Ei:=[(6,_)]) rfl rfl (bQ (bJ rfl rfl) bX) rfl rfl (dX rfl (cX (Ht rfl))) (bY (Ei:=[(5,_)]) rfl rfl (bQ (bJ rfl rfl) bX) rfl rfl (dX rfl (cX (Ht rfl))) ?_)))))))))))
   refine bY (Ei:=[(6,_)]) rfl rfl (bQ (bJ rfl rfl) bX) rfl rfl (dX rfl (cX (Ht rfl))) (bY (Ei:=[(33,_),(34,_)]) rfl rfl (bQ (bZ 2 rfl rfl) (bQ (bZ 3 rfl rfl) bX)) rfl rfl (dX rfl (fY U_30 Z_29 (Ht rfl) (Ht rfl) rfl zo (by rw [Nat.mul_one,Nat.zero_add]))) ?_)
   refine bY (Ei:=[(35,_)]) rfl rfl (bQ (bZ 4 rfl rfl) bX) rfl rfl (dX rfl (gS A_29 Z_29 (Ht rfl) (j:=1) rfl)) (bY (Ei:=[(9,_)]) rfl rfl (bQ (bJ rfl rfl) bX) rfl rfl (dX rfl (cX (Ht rfl))) (bY (Ei:=[(6,_)]) rfl rfl (bQ (bJ rfl rfl) bX) rfl rfl (dX rfl (cX (Ht rfl))) (bY (Ei:=[(37,_),(38,_)]) rfl rfl (bQ (bZ 6 rfl rfl) (bQ (bZ 7 rfl rfl) bX)) rfl rfl (dX rfl (dZ U_29 Z_51 (Ht rfl) (Ht rfl) rfl (dY (dU (d:=Qi.zero) hbj)))) ?_)))
   refine bY (Ei:=[(39,_)]) rfl rfl (bQ (bZ 8 rfl rfl) bX) rfl rfl (dX rfl (dJ A_51 Z_51 (Ht rfl))) (bY (Ei:=[(40,_)]) rfl rfl (bQ (bZ 9 rfl rfl) bX) rfl rfl (dX rfl (dN (xs:=[.tmp 40]) U_29 Z_51 O_51 (cW (Ht rfl) cG) rfl rfl rfl)) (Y.D_app (Ei:=[(36,_),(41,_)]) rfl rfl rfl rfl (bQ (bZ 5 rfl rfl) (bQ (bZ 10 rfl rfl) bX)) rfl (rU (inf:=Tryz.t51) nS lO rfl rfl rfl (Ht rfl) (Ht rfl) (by simp) (fun T hT=>by simp at hT; subst hT; exact El.ag rfl) (by show _ * 88 ≤ _; simp only [List.length_map,List.length_append,List.length_take,List.length_cons,List.length_nil]; omega) (by simp only [List.length_map,List.length_append,List.length_take,List.length_cons,List.length_nil]; omega)) ?_))
   refine Y.D_done aO rfl (by kernel_rfl) rfl (by simp [Y.okP]) rfl rfl (bU (bU (bU (bU (bU (bU (bU (bU (bU (bU (bU (Y.F_app (fun v2=>Y.F_nil ?_)))))))))))))
   refine ro rfl (fY U_30 Z_29 (Ht rfl) (Ht rfl) rfl zo (by rw [Nat.mul_one,Nat.zero_add])) ?_
   refine rX Z_29 (Ht rfl) (Ht rfl) (by simp only [bL,List.length_map,eM]; omega) (j:=1) (l:=3) rfl rfl rfl ?_
   refine eX (bA (cY (ro rfl (dV (Ht rfl) (cJ 1) z6) (rm rfl (eX (cH [0,1,3] rfl (by decide) (fU (j + 1,v2) he (by dsimp only; omega) (zS rfl) (aU (fun _ _ _ h=>h) (aU (fun _ _ _ h=>h) (aU (cA ((oK aN _ (gv (bs.getD j []) i)).trans (congrArg _ (Zy he)))) aY))))))))))
  ·simp only [decide_eq_false_iff_not] at he
   obtain rfl:bs.length = j:=Nat.le_antisymm zo hj
   refine gV rfl (bA (dS 1 2 rfl rfl (by decide) (by simp only [bL,List.length_map,eM]; omega) ?_))
   refine cY (ro rfl (dV (Ht rfl) (cJ 1) z6) (rm rfl (eX (cH [0,1] rfl (by decide) (fU (i + 1) hd0 zo (zS rfl) (aU (fun _ _ _ h=>h) (aU (bE (by rw [List.take_length,eH,← jH (f:=Au M bs)])) aY)))))))
 ·simp only [decide_eq_false_iff_not] at hd0
  obtain rfl:i = M.length:=Nat.le_antisymm hi zo
  subst hMl
  refine gV rfl (ts (rm rfl (ra rfl (eX ?_))))
  exact jM B12 trivial [0,1] ⟨⟨_,rfl,fun _ _ _ h=>h⟩,⟨_,rfl,(bE (by rw [jG]; rfl))⟩,trivial⟩ (by decide) (vM rfl (eU rfl))
end
section
open Go Go.RowKit
abbrev ek (n k:Nat):List Qi:=(sI n).getD k []
theorem Uz {n k:Nat} (h:k < n):(ek n k).length = n:=(pO n).row h
theorem Lg {n k L:Nat} (h:1 ≤ L):bP (ek n k) L:=(a0c h).row k
def nQ (M:List (List Qi)) (n:Nat):Int:=nP (fun k=>kU M (ek n k) n) n
def mS (M:List (List Qi)) (n:Nat):List (List Qi):=tab n fun r=>tab n fun j=>gv (kL M (ek n j) n) r
theorem Bx {α:Type} {n i:Nat} {f:Nat → α} {d:α} (h:i < n):(tab n f).getD i d = f i:=by simp [List.getD,bR h]
def sK (M:List (List Qi)) (n k i:Nat):List (List Qi):=tab n fun r=>tab n fun j=>if j < k ∨ j = k ∧ r < i then gv (kL M (ek n j) n) r else gm M r j
theorem qJ (M:List (List Qi)) (n k i:Nat):cM (sK M n k i) n n:=cM.tab
theorem Qv {M:List (List Qi)} {n:Nat} (h:cM M n n):M = sK M n 0 0:=by
 rw [sK]
 conv=>lhs; rw [rG h]
 exact cF fun r _=>cF fun j _=>by rw [if_neg zo]
theorem Vr (M : List (List Qi)) (n k : Nat) : sK M n k n = sK M n (k + 1) 0 := cF fun r hr => cF fun j _ => by
 by_cases h:j < k ∨ j = k ∧ r < n
 ·rw [if_pos h,if_pos zo]
 ·rw [if_neg h,if_neg zo]
theorem Vs (M:List (List Qi)) (n:Nat):sK M n n 0 = mS M n:=cF fun r _=>cF fun j hj=>by rw [if_pos zo]
theorem Qu {M:List (List Qi)} {n k i:Nat} (hi:i < n) (hk:k < n):(sK M n k i).set i (((sK M n k i).getD i []).set k (gv (kL M (ek n k) n) i)) = sK M n k (i + 1):=by
 apply List.ext_getElem?
 intro r
 by_cases hr:r < n
 ·by_cases e : r = i
  ·subst e
   rw [List.getElem?_set_self (by rw [(qJ _ _ _ _).1]; exact hr),sK,sK,bR (f:=fun r=>tab n fun j=>if j < k ∨ j = k ∧ r < _ + 1 then gv (kL M (ek n j) n) r else gm M r j) hr]
   congr 1
   have:(tab n fun x=>tab n fun j=>if j < k ∨ j = k ∧ x < r then gv (kL M (ek n j) n) x else gm M x j).getD r [] = tab n fun j=>if j < k ∨ j = k ∧ r < r then gv (kL M (ek n j) n) r else gm M r j:=Bx hr
   rw [this]
   apply List.ext_getElem?
   intro j
   by_cases hj:j < n
   ·by_cases e2 : j = k
    ·subst e2
     rw [List.getElem?_set_self (by rw [bI]; exact hj),bR hj,if_pos zo]
    ·rw [List.getElem?_set_ne (Ne.symm e2), bR hj, bR hj]
     by_cases e3:j < k
     ·rw [if_pos (.inl e3),if_pos (.inl e3)]
     ·rw [if_neg zo,if_neg zo]
   ·rw [List.getElem?_eq_none (by rw [List.length_set,bI]; omega),List.getElem?_eq_none (by rw [bI]; omega)]
  ·rw [List.getElem?_set_ne (Ne.symm e), sK, sK, bR hr, bR hr]
   congr 1
   refine cF fun j _=>?_
   by_cases e3:j < k ∨ j = k ∧ r < i
   ·rw [if_pos e3,if_pos zo]
   ·rw [if_neg e3,if_neg zo]
 ·rw [List.getElem?_eq_none (by rw [List.length_set,(qJ _ _ _ _).1]; omega),List.getElem?_eq_none (by rw [(qJ _ _ _ _).1]; omega)]
theorem Ny {M:List (List Qi)} {n k:Nat} (h:∀ i,i < k → kU M (ek n i) n = 0) (hk:k < n) (hx:kU M (ek n k) n ≠ 0):nQ M n = kU M (ek n k) n:=Qr h hx hk
theorem Dy {M:List (List Qi)} {n:Nat} (h:∀ i,i < n → kU M (ek n i) n = 0):nQ M n = 0:=sF h
theorem Sw {T : Ty} {s : Nat} : ∀ vs V, gI [T, Is (.slice none 0 0)] vs V → gI [T, mM s []] vs V
 | [_,_],_,⟨h1,h2,h3⟩=>⟨h1,gY _ _ h2,h3⟩
 | [],_,h=>h.elim
 | [_],_,h=>h.2.elim
 | _ :: _ :: _ :: _,_,h=>h.2.2.elim
theorem gF.arg {P : Program} {f : FuncId} {Ts Ts' : List Ty} {As : Hp} {γ : Type} {U : γ → Ty} {As' : γ → Hp} {Q : γ → Prop} (h : gF P f Ts As γ U As' Q) (i : ∀ vs V, gI Ts' vs V → gI Ts vs V) : gF P f Ts' As γ U As' Q :=
 fun cx Z vs V w h1 h2=>h cx Z vs V w h1 (i _ _ h2)
end
section
open Go Go.RowKit
namespace Qi
def npow' (x : Qi) : Nat → Qi
 | 0=>Qi.ofInt 1
 | k + 1=>npow' x k * x
theorem one_mul2 (x:Qi):Qi.ofInt 1 * x = x:=ext' (by show ((1:Int):Rat) * x.re - 0 * x.im = x.re; grind) (by show ((1:Int):Rat) * x.im + 0 * x.re = x.im; grind)
theorem mul_one2 (x:Qi):x * Qi.ofInt 1 = x:=by rw [mul_comm',one_mul2]
end Qi
instance qiField:Lean.Grind.CommRing Qi where
 natCast:=⟨fun n=>Qi.ofInt n⟩
 ofNat n:=⟨Qi.ofInt n⟩
 nsmul:=⟨fun n x=>Qi.ofInt n * x⟩
 npow:=⟨Qi.npow'⟩
 add_zero:=Qi.add_zero'
 add_comm:=Qi.add_comm'
 add_assoc:=Qi.add_assoc'
 mul_assoc:=Qi.mul_assoc'
 mul_comm:=Qi.mul_comm'
 mul_one:=Qi.mul_one2
 one_mul:=Qi.one_mul2
 left_distrib:=Qi.mul_add'
 right_distrib:=Qi.add_mul'
 zero_mul:=Qi.zero_mul'
 mul_zero:=Qi.mul_zero'
 pow_zero _:=rfl
 pow_succ _ _:=rfl
 ofNat_succ n:=Qi.ext' (by show (((n + 1:Nat):Int):Rat) = ((n:Int):Rat) + ((1:Int):Rat); rw [Int.natCast_add,Rat.intCast_add]; rfl) (by show (0:Rat) = 0 + 0; grind)
 intCast:=⟨Qi.ofInt⟩
 zsmul:=⟨fun n x=>Qi.ofInt n * x⟩
 neg_add_cancel x:=Qi.ext' (by show -x.re + x.re = ((0:Int):Rat); grind) (by show -x.im + x.im = 0; grind)
 sub_eq_add_neg:=Qi.sub_def
 neg_zsmul i x:=Qi.ext' (by show ((-i:Int):Rat) * x.re - 0 * x.im = -((i:Rat) * x.re - 0 * x.im); rw [Rat.intCast_neg]; grind) (by show ((-i:Int):Rat) * x.im + 0 * x.re = -((i:Rat) * x.im + 0 * x.re); rw [Rat.intCast_neg]; grind)
 intCast_neg i:=Qi.ext' (Rat.intCast_neg i) (by show (0:Rat) = -0; grind)
theorem q0:Qi.zero = 0:=rfl
theorem q1:Qi.ofInt 1 = 1:=rfl
theorem qN {x:Qi} (h:x ≠ 0):x * Qi.inv x = 1:=by
 have hn:x.nrm ≠ 0:=fun e=>h (Qi.nrm_zero.1 e)
 have e:x.re * x.re + x.im * x.im = x.nrm:=rfl
 refine Qi.ext' ?_ ?_
 ·show x.re * (x.re / x.nrm) - x.im * (-x.im / x.nrm) = ((1 : Int) : Rat)
  grind
 ·show x.re * (-x.im / x.nrm) + x.im * (x.re / x.nrm) = 0
  grind
theorem rB {x y:Qi} (h:y ≠ 0):x / y * y = x:=by
 rw [Qi.div_def]
 have:=qN h
 grind
theorem Vb {x y z:Qi} (h:y ≠ 0) (e:x = z * y):x / y = z:=by
 have h1:=rB (x:=x) h
 have h2:=qN h
 grind
theorem kS {x y:Qi} (h:x * y = 0):x = 0 ∨ y = 0:=by
 by_cases e:x = 0
 ·exact .inl e
 ·right; have:=qN e; grind
end
section
open Go Go.RowKit
theorem wX (m:Nat) (f:Qi) (a b:Nat → Qi):aH m (fun k=>a k - f * b k) = aH m a - f * aH m b:=by
 induction m with
 | zero=>simp only [aH,q0]; grind
 | succ m ih=>simp only [aH,ih]; grind
theorem gA {m i:Nat} (hi:i < m) {f:Nat → Qi} (h:∀ k,k < m → k ≠ i → f k = 0):aH m f = f i:=by
 induction m with
 | zero=>omega
 | succ m ih =>
  by_cases e:i = m
  ·subst e
   have : aH i f = 0 := by
    rw [← q0,← yA i]
    exact aI fun k hk=>h k zo zo
   simp only [aH,this]; grind
  ·have h1 := ih zo (fun k hk => h k zo)
   have h2:=h m zo zo
   simp only [aH,h1,h2]; grind
theorem Xw {m i c:Nat} (hi:i < m) (hc:c < m) (hic:i ≠ c) {f:Nat → Qi} (h:∀ k,k < m → k ≠ i → k ≠ c → f k = 0):aH m f = f i + f c:=by
 have e : aH m f = aH m fun k => (if k = i then f i else 0) + (if k = c then f c else 0) := aI fun k hk => by
  by_cases e1:k = i
  ·subst e1; rw [if_pos rfl,if_neg hic]; grind
  ·by_cases e2 : k = c
   ·subst e2; rw [if_neg e1,if_pos rfl]; grind
   ·rw [if_neg e1,if_neg e2,h k hk e1 e2]; grind
 rw [e,pC,gA hi (fun k _ hk=>if_neg hk),gA hc (fun k _ hk=>if_neg hk),if_pos rfl,if_pos rfl]
theorem mX {m:Nat} {f:Nat → Qi} (h:∀ k,k < m → f k = 0):aH m f = 0:=by
 rw [← q0,← yA m]; exact aI h
def Yp (M:List (List Qi)) (n m:Nat) (x:Nat → Qi):Prop:=∀ i,i < n → aH m (fun k=>gm M i k * x k) = 0
def iG (rr rc:List Qi) (c k:Nat):List Qi:=tab rr.length fun j=>if c ≤ j ∧ j < k then gv rr j - gv rr c / gv rc c * gv rc j else gv rr j
def redJ (M:List (List Qi)) (c r:Nat):List (List Qi):=tab M.length fun i=>if i ≠ c ∧ i < r then iG (cL M i) (cL M c) c (cL M i).length else cL M i
def nJ (M : List (List Qi)) : Nat → Option (List (List Qi))
 | 0=>some M
 | c + 1=>(nJ M c).bind fun A=>if pv A c M.length = M.length then none else some (redJ (swp [] A (pv A c M.length) c) c M.length)
theorem tE (M:List (List Qi)) (c r:Nat):(redJ M c r).length = M.length:=bI _ _
theorem qR (rr rc:List Qi) (c k:Nat):(iG rr rc c k).length = rr.length:=bI _ _
theorem Jh {M:List (List Qi)} {c r i:Nat} (hi:i < M.length):cL (redJ M c r) i = if i ≠ c ∧ i < r then iG (cL M i) (cL M c) c (cL M i).length else cL M i:=by
 simp only [cL,redJ,List.getD]; rw [bR hi]; rfl
theorem Xa {M:List (List Qi)} {n m c r:Nat} (h:cM M n m):cM (redJ M c r) n m:=by
 refine ⟨(tE _ _ _).trans h.1,fun x hx=>?_⟩
 obtain ⟨i,hi,rfl⟩:=iT.1 hx
 have hr:=h.row (i:=i) (by rw [← h.1]; exact hi)
 show (if i ≠ c ∧ i < r then iG (cL M i) (cL M c) c (cL M i).length else cL M i).length = m
 split
 ·rw [qR]; exact hr
 ·exact hr
theorem zO {M:List (List Qi)} {n m c i j:Nat} (h:cM M n m) (hi:i < n) (hj:j < m):gm (redJ M c n) i j = if i ≠ c ∧ c ≤ j then gm M i j - gm M i c / gm M c c * gm M c j else gm M i j:=by
 have hr:(cL M i).length = m:=h.row hi
 show gv (cL (redJ M c n) i) j = _
 rw [Jh (by rw [h.1]; exact hi)]
 by_cases e:i = c
 ·rw [if_neg (fun k=>k.1 e),if_neg (fun k=>k.1 e)]
 ·rw [if_pos ⟨e, hi⟩, iG, kR zo]
  by_cases e2:c ≤ j
  ·rw [if_pos ⟨e2,by omega⟩,if_pos ⟨e,e2⟩]
  ·rw [if_neg (fun k=>e2 k.1),if_neg (fun k=>e2 k.2)]
theorem Mf {M:List (List Qi)} {p c i:Nat} (hp:p < M.length) (hc:c < M.length):cL (swp [] M p c) i = cL M (if i = c then p else if i = p then c else i):=by
 simp only [cL,swp,List.getD]
 by_cases e:i = c
 ·subst e; rw [List.getElem?_set_self (by simpa using hc),if_pos rfl]; rfl
 ·rw [List.getElem?_set_ne (Ne.symm e), if_neg e]
  by_cases e2:i = p
  ·subst e2; rw [List.getElem?_set_self hp,if_pos rfl]; rfl
  ·rw [List.getElem?_set_ne (Ne.symm e2),if_neg e2]
theorem a0e {M:List (List Qi)} {n m p c:Nat} {x:Nat → Qi} (hl:M.length = n) (hp:p < n) (hc:c < n):Yp (swp [] M p c) n m x ↔ Yp M n m x:=by
 have key : ∀ i, gm (swp [] M p c) i = gm M (if i = c then p else if i = p then c else i) := fun i => by
  funext j; exact congrArg (fun r=>gv r j) (Mf zo zo)
 constructor
 ·intro h i hi
  have h1:=h (if i = c then p else if i = p then c else i) (by split <;> (try split) <;> omega)
  rw [key] at h1
  have e : (if (if i = c then p else if i = p then c else i) = c then p else if (if i = c then p else if i = p then c else i) = p then c else (if i = c then p else if i = p then c else i)) = i := by
   by_cases e1:i = c
   ·subst e1; rw [if_pos rfl]
    by_cases e2:p = i
    ·rw [if_pos e2]; exact e2
    ·rw [if_neg e2,if_pos rfl]
   ·rw [if_neg e1]
    by_cases e2:i = p
    ·subst e2; rw [if_pos rfl,if_pos rfl]
    ·rw [if_neg e2,if_neg e1,if_neg e2]
  rw [e] at h1; exact h1
 ·intro h i hi
  rw [key]; exact h _ (by split <;> (try split) <;> omega)
theorem a0d {M:List (List Qi)} {n m c:Nat} {x:Nat → Qi} (hs:cM M n m) (hc:c < n) (hz:∀ j,j < c → gm M c j = 0):Yp (redJ M c n) n m x ↔ Yp M n m x:=by
 have key : ∀ i, i < n → i ≠ c → aH m (fun k => gm (redJ M c n) i k * x k) = aH m (fun k => gm M i k * x k) - gm M i c / gm M c c * aH m (fun k => gm M c k * x k) := fun i hi e => by
  rw [← wX]
  refine aI fun k hk=>?_
  rw [zO hs hi hk]
  by_cases e2:c ≤ k
  ·rw [if_pos ⟨e,e2⟩]; grind
  ·rw [if_neg (fun h=>e2 h.2),hz k zo]; grind
 have keyc:aH m (fun k=>gm (redJ M c n) c k * x k) = aH m (fun k=>gm M c k * x k):=aI fun k hk=>by rw [zO hs hc hk,if_neg (fun h=>h.1 rfl)]
 constructor
 ·intro h i hi
  have h0:=h c hc
  rw [keyc] at h0
  by_cases e:i = c
  ·rw [e]; exact h0
  ·have h1 := h i hi
   rw [key i hi e,h0] at h1
   grind
 ·intro h i hi
  have h0:=h c hc
  by_cases e:i = c
  ·rw [e,keyc]; exact h0
  ·rw [key i hi e,h0,h i hi]; grind
structure GJ (M A:List (List Qi)) (n m c:Nat):Prop where
 sh:cM A n m
 ker:∀ x,Yp A n m x ↔ Yp M n m x
 off:∀ j,j < c → ∀ i,i < n → i ≠ j → gm A i j = 0
 dg:∀ j,j < c → gm A j j ≠ 0
theorem GJ.next {M A:List (List Qi)} {n m c p:Nat} (h:GJ M A n m c) (hc:c < n) (hnm:n ≤ m) (hcp:c ≤ p) (hp:p < n) (hz:gm A p c ≠ 0):GJ M (redJ (swp [] A p c) c n) n m (c + 1):=by
 have hs:cM (swp [] A p c) n m:=wZ h.sh hp hc
 have hl:=h.sh.1
 have key : ∀ i, gm (swp [] A p c) i = gm A (if i = c then p else if i = p then c else i) := fun i => by
  funext j; exact congrArg (fun r=>gv r j) (Mf zo zo)
 have hcc:gm (swp [] A p c) c c ≠ 0:=by rw [key,if_pos rfl]; exact hz
 have hoff : ∀ j, j < c → ∀ i, i < n → i ≠ j → gm (swp [] A p c) i j = 0 := fun j hj i hi hij => by
  rw [key]
  by_cases e1:i = c
  ·rw [if_pos e1]; exact h.off j hj p hp zo
  ·rw [if_neg e1]
   by_cases e2:i = p
   ·rw [if_pos e2]; exact h.off j hj c hc zo
   ·rw [if_neg e2]; exact h.off j hj i hi hij
 refine ⟨Xa hs,fun x=>(a0d hs hc (fun j hj=>hoff j hj c hc zo)).trans ((a0e hl hp hc).trans (h.ker x)),fun j hj i hi hij=>?_,fun j hj=>?_⟩
 ·rw [zO hs hi zo]
  by_cases e:j = c
  ·subst e
   rw [if_pos ⟨hij,Nat.le_refl _⟩]
   have:=rB (x:=gm (swp [] A p j) i j) hcc
   grind
  ·rw [if_neg (fun k=>by omega)]; exact hoff j zo i hi hij
 ·rw [zO hs zo zo]
  by_cases e:j = c
  ·subst e; rw [if_neg (fun k=>k.1 rfl)]; exact hcc
  ·rw [if_neg (fun k=>by omega),key,if_neg zo,if_neg zo]; exact h.dg j zo
theorem vF {M : List (List Qi)} {n m : Nat} (hs : cM M n m) (hnm : n ≤ m) : ∀ {c : Nat} {A : List (List Qi)}, c ≤ n → nJ M c = some A → GJ M A n m c
 | 0, A, _, h => by
  obtain rfl:=Option.some.inj h
  exact ⟨hs,fun _=>Iff.rfl,fun j hj=>by omega,fun j hj=>by omega⟩
 | c + 1, A, hc, h => by
  simp only [nJ] at h
  obtain ⟨B,h1,h2⟩:=Option.bind_eq_some_iff.1 h
  split at h2
  ·cases h2
  ·rename_i e
   obtain rfl:=Option.some.inj h2
   have ih:=vF hs hnm (c:=c) zo h1
   rw [hs.1] at e ⊢
   obtain ⟨_,i2,i3,i4⟩:=lA (M:=B) (c:=c) (n:=n) zo
   exact ih.next zo hnm i2 zo (i4 zo)
theorem Nv {M : List (List Qi)} : ∀ {n : Nat}, nJ M n = none → ∃ c A, c < n ∧ nJ M c = some A ∧ pv A c M.length = M.length
 | 0,h=>by cases h
 | c + 1, h => by
  cases e:nJ M c with
  | none =>
   obtain ⟨d,A,h1,h2,h3⟩:=Nv e
   exact ⟨d,A,by omega,h2,h3⟩
  | some A =>
   refine ⟨c,A,by omega,e,?_⟩
   simp only [nJ,e,Option.bind_some] at h
   by_cases e2:pv A c M.length = M.length
   ·exact e2
   ·rw [if_neg e2] at h; cases h
theorem a2n {M A : List (List Qi)} {n : Nat} (h : GJ M A n (n + 1) n) : Yp M n (n + 1) fun k => if k < n then gm A k n / gm A k k else -1 := (h.ker _).1 fun i hi => by
 have hd:=h.dg i hi
 have e : aH n (fun k => gm A i k * if k < n then gm A k n / gm A k k else -1) = gm A i n := by
  rw [gA hi (fun k hk hki=>by rw [h.off k hk i hi (Ne.symm hki)]; grind),if_pos hi]
  have:=rB (x:=gm A i n) hd
  grind
 simp only [aH,e]
 rw [if_neg zo]; grind
theorem a0a {M A : List (List Qi)} {n : Nat} (h : GJ M A n (n + 1) n) {x : Nat → Qi} (hx : Yp M n (n + 1) x) (h0 : x n = 0) : ∀ k, k < n → x k = 0 := fun k hk => by
 have h1:=(h.ker x).2 hx k hk
 have e:aH n (fun j=>gm A k j * x j) = gm A k k * x k:=gA hk (fun j hj hjk=>by rw [h.off j hj k hk (Ne.symm hjk)]; grind)
 simp only [aH,e,h0] at h1
 rcases kS (x:=gm A k k) (y:=x k) (by grind) with h2 | h2
 ·exact absurd h2 (h.dg k hk)
 ·exact h2
theorem a09 {M A : List (List Qi)} {n m c : Nat} (h : GJ M A n m c) (hc : c < n) (hnm : n ≤ m) (hz : ∀ r, c ≤ r → r < n → gm A r c = 0) : Yp M n m fun k => if k < c then -(gm A k c / gm A k k) else if k = c then 1 else 0 := (h.ker _).1 fun i hi => by
 by_cases e:i < c
 ·rw [Xw (i := i) (c := c) zo zo zo (fun k hk h1 h2 => ?_)]
  ·rw [if_pos e, if_neg zo, if_pos rfl]
   have:=rB (x:=gm A i c) (h.dg i e)
   grind
  ·by_cases e2 : k < c
   ·rw [h.off k e2 i hi (Ne.symm h1)]; grind
   ·rw [if_neg e2,if_neg h2]; grind
 ·refine mX fun k hk => ?_
  by_cases e2:k < c
  ·rw [h.off k e2 i hi zo]; grind
  ·rw [if_neg e2]
   by_cases e3:k = c
   ·rw [e3,hz i zo hi]; grind
   ·rw [if_neg e3]; grind
def Vj (M:List (List Qi)) (b:List Qi) (n:Nat):Option (List Qi):=(nJ (gN M [b] n) n).map fun A=>tab n fun i=>gm A i n / gm A i i
theorem a2o {l:List Qi} {z:Qi} {k:Nat} (h:k < l.length):gv (l ++ [z]) k = gv l k:=by
 simp only [gv,List.getD]; rw [List.getElem?_append_left h]
theorem a2p {l:List Qi} {z:Qi}:gv (l ++ [z]) l.length = z:=by
 simp [gv,List.getD]
theorem a3w {M:List (List Qi)} {b:List Qi} {n i:Nat} (h:cM M n n) (hi:i < n):(∀ k,k < n → gm (gN M [b] n) i k = gm M i k) ∧ gm (gN M [b] n) i n = gv b i:=by
 obtain ⟨r,hr⟩:∃ r,r = cL M i:=⟨_,rfl⟩
 have hl:r.length = n:=by rw [hr]; exact h.row hi
 have e : cL (gN M [b] n) i = r ++ [gv b i] := by
  rw [hr]; simp only [cL,gN,List.getD]; rw [bR hi]; rfl
 refine ⟨fun k hk=>?_,?_⟩
 ·show gv (cL (gN M [b] n) i) k = gv (cL M i) k
  rw [e,← hr,a2o zo]
 ·show gv (cL (gN M [b] n) i) n = gv b i
  rw [e,← hl,a2p]
theorem xO {M:List (List Qi)} {b:List Qi} {n i:Nat} (h:cM M n n) (hi:i < n) (x:Nat → Qi):aH (n + 1) (fun k=>gm (gN M [b] n) i k * x k) = aH n (fun k=>gm M i k * x k) + gv b i * x n:=by
 obtain ⟨h1,h2⟩:=a3w (b:=b) h hi
 simp only [aH,h2]
 rw [aI (fun k hk=>by rw [h1 k hk])]
theorem Ii {M:List (List Qi)} {b X:List Qi} {n:Nat} (h:cM M n n) (hX:Vj M b n = some X):X.length = n ∧ (∀ i,i < n → aH n (fun k=>gm M i k * gv X k) = gv b i) ∧ ∀ y:Nat → Qi,(∀ i,i < n → aH n (fun k=>gm M i k * y k) = 0) → ∀ k,k < n → y k = 0:=by
 obtain ⟨A,hA,rfl⟩:=Option.map_eq_some_iff.1 hX
 have hg:=vF (iY (bs:=[b]) h) (Nat.le_succ n) (Nat.le_refl n) hA
 refine ⟨bI _ _,fun i hi=>?_,fun y hy k hk=>?_⟩
 ·have h1 := a2n hg i hi
  rw [xO h hi] at h1
  have e:aH n (fun k=>gm M i k * if k < n then gm A k n / gm A k k else -1) = aH n (fun k=>gm M i k * gv (tab n fun i=>gm A i n / gm A i i) k):=aI fun k hk=>by rw [if_pos hk,kR hk]
  rw [e,if_neg zo] at h1
  grind
 ·have h1 := a0a hg (x := fun k => if k < n then y k else 0) (fun i hi => ?_) (if_neg zo) k hk
  ·simpa [hk] using h1
  ·rw [xO h hi,if_neg zo,aI (fun k hk=>by rw [if_pos hk]),hy i hi]; grind
theorem Vk {M:List (List Qi)} {b:List Qi} {n:Nat} (h:cM M n n) (hX:Vj M b n = none):∃ y:Nat → Qi,(∀ i,i < n → aH n (fun k=>gm M i k * y k) = 0) ∧ ∃ k,k < n ∧ y k ≠ 0:=by
 have hcs:cM (gN M [b] n) n (n + 1):=iY h
 obtain ⟨c,A,hc,hA,hp⟩:=Nv (Option.map_eq_none_iff.1 hX)
 have hg:=vF hcs (Nat.le_succ n) zo hA
 rw [hcs.1] at hp
 have hz:=(lA (M:=A) (c:=c) (n:=n) zo).1
 rw [hp] at hz
 have hk:=a09 hg hc (Nat.le_succ n) hz
 refine ⟨fun k=>if k < c then -(gm A k c / gm A k k) else if k = c then 1 else 0,fun i hi=>?_,c,hc,?_⟩
 ·have h1 := hk i hi
  rw [xO h hi,if_neg zo,if_neg zo] at h1
  grind
 ·show (if c < c then -(gm A c c / gm A c c) else if c = c then (1 : Qi) else 0) ≠ 0
  rw [if_neg zo,if_pos rfl]
  intro e
  have:=congrArg Qi.re e
  exact absurd this (by decide)
theorem Rf {rr rc : List Qi} {L c k : Nat} (h1 : bP rr L) (h2 : bP rc L) (hL : 1 ≤ L) (hp : gv rc c ≠ Qi.zero) : bP (iG rr rc c k) (6 * L + 4) := bP.tab fun j _ => by
 split
 ·exact Nq h1 h2 hL hp
 ·exact (h1.get hL j).le zo
theorem Wz {M : List (List Qi)} {L c r : Nat} (h : aS M L) (hL : 1 ≤ L) (hp : gm M c c ≠ Qi.zero) : aS (redJ M c r) (6 * L + 4) := fun x hx => by
 obtain ⟨i,hi,rfl⟩:=iT.1 hx
 show bP (if i ≠ c ∧ i < r then iG (cL M i) (cL M c) c (cL M i).length else cL M i) _
 split
 ·exact Rf (h.row i) (h.row c) hL hp
 ·exact (h.row i).le zo
theorem Vm {M : List (List Qi)} {n m L : Nat} (hs : cM M n m) (hnm : n ≤ m) (h : aS M L) (hL : 1 ≤ L) : ∀ {c : Nat} {A : List (List Qi)}, c ≤ n → nJ M c = some A → aS A (sH L c)
 | 0,A,_,e=>by obtain rfl:=Option.some.inj e; exact h
 | c + 1, A, hc, e => by
  simp only [nJ] at e
  obtain ⟨B,h1,h2⟩:=Option.bind_eq_some_iff.1 e
  split at h2
  ·cases h2
  ·rename_i e3
   obtain rfl:=Option.some.inj h2
   have ih:=Vm hs hnm h hL (c:=c) zo h1
   have hsB:=(vF hs hnm (c:=c) zo h1).sh
   rw [hs.1] at e3 ⊢
   obtain ⟨_,i2,i3,i4⟩:=lA (M:=B) (c:=c) (n:=n) zo
   refine Wz (zT ih) (Nat.le_trans hL (zJ L c)) ?_
   show gv (cL (swp [] _ _ c) c) c ≠ _
   rw [tN (by rw [hsB.1]; omega)]
   exact i4 zo
theorem Jg {rr rc:List Qi} {c:Nat}:rr = iG rr rc c c:=by
 unfold iG
 have:(tab rr.length fun j=>if c ≤ j ∧ j < c then gv rr j - gv rr c / gv rc c * gv rc j else gv rr j) = tab rr.length (gv rr):=cF fun j _=>by rw [if_neg zo]
 rw [this]; exact wK rfl
theorem Ef {rr rc:List Qi} {c k:Nat} (hk:k < rr.length):gv (iG rr rc c k) k = gv rr k:=by
 rw [iG,kR hk,if_neg zo]
theorem Lw {rr rc:List Qi} {c k:Nat} (hk:k < rr.length) (h:c ≤ k):(iG rr rc c k).set k (gv (iG rr rc c k) k - gv rr c / gv rc c * gv rc k) = iG rr rc c (k + 1):=by
 rw [Ef hk]
 apply List.ext_getElem?
 intro j
 by_cases hj:j < rr.length
 ·by_cases e : j = k
  ·subst e
   rw [List.getElem?_set_self (by rw [qR]; exact hj),iG,bR hj,if_pos zo]
  ·rw [List.getElem?_set_ne (Ne.symm e), iG, iG, bR hj, bR hj]
   by_cases e2:c ≤ j ∧ j < k
   ·rw [if_pos e2,if_pos zo]
   ·rw [if_neg e2,if_neg zo]
 ·rw [List.getElem?_eq_none (by rw [List.length_set,qR]; omega),List.getElem?_eq_none (by rw [qR]; omega)]
theorem Lx {M:List (List Qi)} {c:Nat}:M = redJ M c 0:=by
 unfold redJ
 have:(tab M.length fun i=>if i ≠ c ∧ i < 0 then iG (cL M i) (cL M c) c (cL M i).length else cL M i) = tab M.length (cL M):=cF fun i _=>by rw [if_neg zo]
 rw [this]; exact yB (h:=rfl)
theorem zN {M:List (List Qi)} {c r i:Nat} (hi:i < M.length) (h:¬ (i ≠ c ∧ i < r)):cL (redJ M c r) i = cL M i:=by rw [Jh hi,if_neg h]
theorem Ri {M : List (List Qi)} {c : Nat} : redJ M c c = redJ M c (c + 1) := cF fun i _ => by
 by_cases e:i ≠ c ∧ i < c
 ·rw [if_pos e,if_pos zo]
 ·rw [if_neg e,if_neg zo]
theorem Rh {M:List (List Qi)} {c r:Nat} (hr:r < M.length) (h:r ≠ c):(redJ M c r).set r (iG (cL M r) (cL M c) c (cL M r).length) = redJ M c (r + 1):=by
 apply List.ext_getElem?
 intro j
 by_cases hj:j < M.length
 ·by_cases e : j = r
  ·subst e
   rw [List.getElem?_set_self (by rw [tE]; exact hj),redJ,bR hj,if_pos ⟨h,by omega⟩]
  ·rw [List.getElem?_set_ne (Ne.symm e), redJ, redJ, bR hj, bR hj]
   by_cases e2:j ≠ c ∧ j < r
   ·rw [if_pos e2,if_pos ⟨e2.1,by omega⟩]
   ·rw [if_neg e2,if_neg (fun k=>e2 ⟨k.1,by omega⟩)]
 ·rw [List.getElem?_eq_none (by rw [List.length_set,tE]; omega),List.getElem?_eq_none (by rw [tE]; omega)]
theorem Ru {D : List (List Qi)} {r c : Nat} (hr : r < D.length) (h : r ≠ c) (hc : c < D.length) :
  (redJ D c r).set r (iG (cL (redJ D c r) r) (cL (redJ D c r) c) c (cL (redJ D c r) r).length) = redJ D c (r + 1):=by
 rw [zN hr zo,zN hc zo]; exact Rh hr h
theorem Rr {X : List (List Qi)} {r c k : Nat} (hr : r < X.length) (hne : r ≠ c) (hk : k < (cL X r).length) (hck : c ≤ k) :
  (X.set r (iG (cL X r) (cL X c) c k)).set r ((cL (X.set r (iG (cL X r) (cL X c) c k)) r).set k (gm (X.set r (iG (cL X r) (cL X c) c k)) r k - gm X r c / gm X c c * gm (X.set r (iG (cL X r) (cL X c) c k)) c k)) = X.set r (iG (cL X r) (cL X c) c (k + 1)):=by
 rw [Jt,tK hr]
 have e1:gm (X.set r (iG (cL X r) (cL X c) c k)) r k = gv (iG (cL X r) (cL X c) c k) k:=by show gv (cL (X.set r _) r) k = _; rw [tK hr]
 have e2:gm (X.set r (iG (cL X r) (cL X c) c k)) c k = gv (cL X c) k:=by show gv (cL (X.set r _) c) k = _; rw [oG hne]
 rw [e1,e2]
 exact congrArg _ (Lw hk hck)
theorem a2h {X:List (List Qi)} {r c k:Nat} (hr:r < X.length) (hk:k < (cL X r).length):gm (X.set r (iG (cL X r) (cL X c) c k)) r k = gv (cL X r) k:=by
 show gv (cL (X.set r _) r) k = _
 rw [tK hr,Ef hk]
theorem a2g {X:List (List Qi)} {r c k j:Nat} (h:r ≠ c):gm (X.set r (iG (cL X r) (cL X c) c k)) c j = gv (cL X c) j:=by
 show gv (cL (X.set r _) c) j = _
 rw [oG h]
theorem a08 {M A:List (List Qi)} {n c p:Nat} (hl:M.length = n) (hA:nJ M c = some A) (hp:pv A c n = p) (hpn:p < n):nJ M (c + 1) = some (redJ (swp [] A p c) c n):=by
 simp only [nJ,hA,Option.bind_some,hl,hp]
 rw [if_neg zo]
theorem Vl {M A : List (List Qi)} {n c : Nat} (hl : M.length = n) (hA : nJ M c = some A) (hp : pv A c n = n) : ∀ {d : Nat}, c < d → nJ M d = none
 | 0,h=>by omega
 | d + 1, h => by
  simp only [nJ]
  by_cases e:c = d
  ·rw [← e,hA,Option.bind_some,hl,if_pos hp]
  ·rw [Vl hl hA hp (d:=d) zo]; rfl
def Yh (M:List (List Qi)) (b:List Qi) (n:Nat):List Qi:=(Vj M b n).getD []
def Yg (M:List (List Qi)) (b:List Qi) (n:Nat):Int:=if (Vj M b n).isSome then 0 else 6
end
section
open Go Go.RowKit
abbrev pA (ps:List (Nat × Nat)) (k:Nat):Nat:=(ps.getD k (0,0)).1
abbrev pB (ps:List (Nat × Nat)) (k:Nat):Nat:=(ps.getD k (0,0)).2
def mG (val:Nat → Nat → Qi) (n m k i:Nat):List (List Qi):=tab n fun r=>tab m fun j=>if j < k ∨ j = k ∧ r < i then val r j else Qi.zero
theorem kO (val:Nat → Nat → Qi) (n m k i:Nat):cM (mG val n m k i) n m:=cM.tab
theorem tX (val:Nat → Nat → Qi) (n m:Nat):tP n m = mG val n m 0 0:=cF fun r _=>cF fun j _=>by rw [if_neg zo]
theorem wB (val : Nat → Nat → Qi) (n m k : Nat) : mG val n m k n = mG val n m (k + 1) 0 := cF fun r hr => cF fun j _ => by
 by_cases h:j < k ∨ j = k ∧ r < n
 ·rw [if_pos h,if_pos zo]
 ·rw [if_neg h,if_neg zo]
theorem wC (val:Nat → Nat → Qi) (n m:Nat):mG val n m m 0 = tab n fun r=>tab m fun j=>val r j:=cF fun r _=>cF fun j hj=>by rw [if_pos zo]
theorem qC {val:Nat → Nat → Qi} {n m k i:Nat} (hi:i < n) (hk:k < m):(mG val n m k i).set i (((mG val n m k i).getD i []).set k (val i k)) = mG val n m k (i + 1):=by
 apply List.ext_getElem?
 intro r
 by_cases hr:r < n
 ·by_cases e : r = i
  ·subst e
   rw [List.getElem?_set_self (by rw [(kO _ _ _ _ _).1]; exact hr),mG,mG,bR (f:=fun r=>tab m fun j=>if j < k ∨ j = k ∧ r < _ + 1 then val r j else Qi.zero) hr]
   congr 1
   have:(tab n fun x=>tab m fun j=>if j < k ∨ j = k ∧ x < r then val x j else Qi.zero).getD r [] = tab m fun j=>if j < k ∨ j = k ∧ r < r then val r j else Qi.zero:=Bx hr
   rw [this]
   apply List.ext_getElem?
   intro j
   by_cases hj:j < m
   ·by_cases e2 : j = k
    ·subst e2
     rw [List.getElem?_set_self (by rw [bI]; exact hj),bR hj,if_pos zo]
    ·rw [List.getElem?_set_ne (Ne.symm e2), bR hj, bR hj]
     by_cases e3:j < k
     ·rw [if_pos (.inl e3),if_pos (.inl e3)]
     ·rw [if_neg zo,if_neg zo]
   ·rw [List.getElem?_eq_none (by rw [List.length_set,bI]; omega),List.getElem?_eq_none (by rw [bI]; omega)]
  ·rw [List.getElem?_set_ne (Ne.symm e), mG, mG, bR hr, bR hr]
   congr 1
   refine cF fun j _=>?_
   by_cases e3:j < k ∨ j = k ∧ r < i
   ·rw [if_pos e3,if_pos zo]
   ·rw [if_neg e3,if_neg zo]
 ·rw [List.getElem?_eq_none (by rw [List.length_set,(kO _ _ _ _ _).1]; omega),List.getElem?_eq_none (by rw [(kO _ _ _ _ _).1]; omega)]
end
section
open Go Go.RowKit
theorem Ba {l:List Qi} {t k:Nat} {v:Qi} (ht:t < l.length):gv (l.set t v) k = if k = t then v else gv l k:=by
 simp only [gv,List.getD]
 by_cases e:k = t
 ·subst e; rw [if_pos rfl,List.getElem?_set_self ht]; rfl
 ·rw [if_neg e,List.getElem?_set_ne (Ne.symm e)]
end
section
open Go Go.RowKit
def vQ (A:List (List Qi)) (c i j:Nat):Qi:=if j < c ∧ j < i then 0 else gm A i j
def vS (F:Nat → Nat → Qi) (n m:Nat) (x:Nat → Qi):Prop:=∀ i,i < n → aH m (fun k=>F i k * x k) = 0
theorem Bc {F G:Nat → Nat → Qi} {n m:Nat} {x:Nat → Qi} (h:∀ i,i < n → ∀ j,j < m → F i j = G i j):vS F n m x ↔ vS G n m x:=by
 have e:∀ i,i < n → aH m (fun k=>F i k * x k) = aH m (fun k=>G i k * x k):=fun i hi=>aI fun k hk=>by rw [h i hi k hk]
 exact ⟨fun k i hi=>by rw [← e i hi]; exact k i hi,fun k i hi=>by rw [e i hi]; exact k i hi⟩
def Pj (p c i:Nat):Nat:=if i = c then p else if i = p then c else i
theorem Gk {p c i n:Nat} (hp:p < n) (hc:c < n) (hi:i < n):Pj p c i < n:=by unfold Pj; split <;> (try split) <;> omega
theorem Pk (p c i:Nat):Pj p c (Pj p c i) = i:=by
 unfold Pj
 by_cases e1:i = c
 ·subst e1
  rw [if_pos rfl]
  by_cases e2:p = i
  ·rw [if_pos e2]; exact e2
  ·rw [if_neg e2,if_pos rfl]
 ·rw [if_neg e1]
  by_cases e2:i = p
  ·subst e2; rw [if_pos rfl,if_pos rfl]
  ·rw [if_neg e2,if_neg e1,if_neg e2]
theorem Io {F : Nat → Nat → Qi} {n m p c : Nat} {x : Nat → Qi} (hp : p < n) (hc : c < n) : vS (fun i => F (Pj p c i)) n m x ↔ vS F n m x :=
 ⟨fun h i hi=>by have:=h _ (Gk hp hc hi); simp only [Pk] at this; exact this,fun h i hi=>h _ (Gk hp hc hi)⟩
theorem Vu {F G:Nat → Nat → Qi} {n m c:Nat} {x f:Nat → Qi} (hc:c < n) (hG:∀ i,i < n → ∀ j,j < m → G i j = if c < i then F i j - f i * F c j else F i j):vS G n m x ↔ vS F n m x:=by
 have key : ∀ i, i < n → aH m (fun k => G i k * x k) = if c < i then aH m (fun k => F i k * x k) - f i * aH m (fun k => F c k * x k) else aH m (fun k => F i k * x k) := fun i hi => by
  by_cases e:c < i
  ·rw [if_pos e, ← wX]
   exact aI fun k hk=>by rw [hG i hi k hk,if_pos e]; grind
  ·rw [if_neg e]
   exact aI fun k hk=>by rw [hG i hi k hk,if_neg e]
 have kc:=key c hc
 rw [if_neg zo] at kc
 constructor
 ·intro h i hi
  have h0:=h c hc
  rw [kc] at h0
  have h1:=h i hi
  rw [key i hi] at h1
  by_cases e:c < i
  ·rw [if_pos e,h0] at h1; grind
  ·rw [if_neg e] at h1; exact h1
 ·intro h i hi
  rw [key i hi]
  by_cases e:c < i
  ·rw [if_pos e,h i hi,h c hc]; grind
  ·rw [if_neg e]; exact h i hi
theorem a0Q {M:List (List Qi)} {n m c i j:Nat} (h:cM M n m) (hi:i < n) (hj:j < m):gm (redM M c n) i j = if c < i ∧ c < j then gm M i j - gm M i c / gm M c c * gm M c j else gm M i j:=by
 have hr:(cL M i).length = m:=h.row hi
 have e0 : cL (redM M c n) i = if c < i ∧ i < n then lI (cL M i) (cL M c) c (cL M i).length else cL M i := by
  simp only [cL,redM,List.getD]; rw [bR (by rw [h.1]; exact hi)]; rfl
 show gv (cL (redM M c n) i) j = _
 rw [e0]
 by_cases e:c < i
 ·rw [if_pos ⟨e, hi⟩, lI, kR zo]
  by_cases e2:c < j
  ·rw [if_pos ⟨e2,by omega⟩,if_pos ⟨e,e2⟩]
  ·rw [if_neg (fun k=>e2 k.1),if_neg (fun k=>e2 k.2)]
 ·rw [if_neg (fun k=>e k.1),if_neg (fun k=>e k.1)]
theorem Zs {A:List (List Qi)} {p c i j:Nat} (hc:c < A.length) (hp:p < A.length) (hcp:c ≤ p):vQ (swp [] A p c) c i j = vQ A c (Pj p c i) j:=by
 have key:gm (swp [] A p c) i j = gm A (Pj p c i) j:=congrArg (fun r=>gv r j) (Mf zo zo)
 unfold vQ
 rw [key]
 have e:(j < c ∧ j < i) ↔ (j < c ∧ j < Pj p c i):=by unfold Pj; split <;> (try split) <;> omega
 by_cases h:j < c ∧ j < i
 ·rw [if_pos h,if_pos (e.1 h)]
 ·rw [if_neg h,if_neg (fun k=>h (e.2 k))]
structure EL (M A:List (List Qi)) (n m c:Nat):Prop where
 sh:cM A n m
 ker:∀ x,vS (vQ A c) n m x ↔ vS (gm M) n m x
theorem EL.next {M A:List (List Qi)} {n m c p:Nat} (h:EL M A n m c) (hc:c < n) (hcm:c < m) (hcp:c ≤ p) (hp:p < n) (hz:gm A p c ≠ 0):EL M (redM (if p = c then A else swp [] A p c) c n) n m (c + 1):=by
 have hl:=h.sh.1
 obtain ⟨B,hB⟩:∃ B,B = if p = c then A else swp [] A p c:=⟨_,rfl⟩
 have hs : cM B n m := by
  rw [hB]; split
  ·exact h.sh
  ·exact wZ h.sh hp hc
 have hBk : ∀ x, vS (vQ B c) n m x ↔ vS (gm M) n m x := fun x => by
  rw [hB]; split
  ·exact h.ker x
  ·exact (Bc (G:=fun i=>vQ A c (Pj p c i)) fun i hi j hj=>Zs zo zo hcp).trans ((Io hp hc).trans (h.ker x))
 have hBz : gm B c c ≠ 0 := by
  rw [hB]; split
  ·rename_i e; rw [← e] at hz ⊢; exact hz
  ·show gv (cL (swp [] A p c) c) c ≠ 0
   rw [tN zo]; exact hz
 rw [← hB]
 refine ⟨Jj hs,fun x=>(Vu (f:=fun i=>gm B i c / gm B c c) hc fun i hi j hj=>?_).trans (hBk x)⟩
 have hd:=rB (x:=gm B i c) hBz
 unfold vQ
 rw [a0Q hs hi hj]
 by_cases e:c < i
 ·rw [if_pos e]
  by_cases e1:j < c
  ·rw [if_pos zo,if_pos zo,if_pos zo]; grind
  ·by_cases e2 : j = c
   ·subst e2
    rw [if_pos zo,if_neg zo,if_neg zo]; grind
   ·rw [if_neg zo,if_pos zo,if_neg zo,if_neg zo]
 ·rw [if_neg e, if_neg (show ¬ (c < i ∧ c < j) from fun k => e k.1)]
  by_cases e1:j < i
  ·rw [if_pos (show j < c + 1 ∧ j < i by omega),if_pos (show j < c ∧ j < i by omega)]
  ·rw [if_neg (show ¬ (j < c + 1 ∧ j < i) by omega),if_neg (show ¬ (j < c ∧ j < i) by omega)]
theorem Fq {M : List (List Qi)} {n m : Nat} (hs : cM M n m) (hnm : n ≤ m) : ∀ {c : Nat}, c ≤ n → (cI M c).2.2 < 0 → EL M (cI M c).1 n m c
 | 0,_,_=>⟨hs,fun x=>Bc fun i _ j _=>by unfold vQ; rw [if_neg zo]; rfl⟩
 | c + 1, hc, h => by
  obtain ⟨i1,i2,i3,i4⟩:=lA (M:=(cI M c).1) (c:=c) (n:=M.length) (by rw [hs.1]; omega)
  simp only [cI] at h ⊢
  by_cases e:0 ≤ (cI M c).2.2
  ·rw [if_pos e] at h; omega
  ·rw [if_neg e] at h ⊢
   have ih:=Fq hs hnm (c:=c) zo zo
   by_cases e2:pv (cI M c).1 c M.length = M.length
   ·rw [if_pos e2] at h; simp only at h; omega
   ·rw [if_neg e2]
    rw [hs.1] at i3 i4 e2 ⊢
    exact ih.next zo zo (by rw [hs.1] at i2; exact i2) zo (i4 zo)
theorem Ds {M : List (List Qi)} : ∀ {n : Nat}, 0 ≤ (cI M n).2.2 → ∃ c, c < n ∧ (cI M c).2.2 < 0 ∧ pv (cI M c).1 c M.length = M.length
 | 0,h=>absurd h (by show ¬ (0:Int) ≤ -1; omega)
 | c + 1, h => by
  by_cases e:0 ≤ (cI M c).2.2
  ·obtain ⟨d, h1, h2⟩ := Ds e
   exact ⟨d,by omega,h2⟩
  ·simp only [cI] at h
   rw [if_neg e] at h
   by_cases e2:pv (cI M c).1 c M.length = M.length
   ·exact ⟨c,by omega,by omega,e2⟩
   ·rw [if_neg e2] at h; simp only at h; omega
theorem vN {U : List (List Qi)} {x y : List Qi} {n c : Nat} : ∀ {K : Nat}, (∀ k, k < K → gv x (c + 1 + k) = gv y (c + 1 + k)) → nR U x n c K = nR U y n c K
 | 0,_=>rfl
 | K + 1,h=>by rw [nR,nR,vN (fun k hk=>h k zo),h K zo]
theorem Ka (U : List (List Qi)) (x : List Qi) (n c : Nat) : ∀ K, nR U x n c K = gm U c n - aH K (fun k => gm U c (c + 1 + k) * gv x (c + 1 + k))
 | 0=>by simp only [nR,aH,q0]; grind
 | K + 1=>by simp only [nR,aH,Ka U x n c K]; grind
theorem Td {U : List (List Qi)} {n : Nat} : ∀ {j : Nat}, j ≤ n → ∀ c, n - j ≤ c → c < n → gv (nA U n j) c = nR U (nA U n j) n c (n - 1 - c) / gm U c c
 | 0,_,c,h1,h2=>by omega
 | j + 1, hj, c, h1, h2 => by
  have hl:=qW U n j
  rw [nA]
  by_cases e:c = n - (j + 1)
  ·subst e
   rw [Ba zo,if_pos rfl,show n - 1 - (n - (j + 1)) = j by omega]
   rw [vN (x:=(nA U n j).set _ _) (y:=nA U n j) fun k hk=>by rw [Ba zo,if_neg zo]]
  ·rw [Ba zo, if_neg e, Td (j := j) zo c zo h2]
   rw [vN (x:=(nA U n j).set _ _) (y:=nA U n j) fun k hk=>by rw [Ba zo,if_neg zo]]
theorem tM (a : Nat) (f : Nat → Qi) : ∀ b, aH (a + b) f = aH a f + aH b fun k => f (a + k)
 | 0=>by simp only [aH,q0,Nat.add_zero]; grind
 | b + 1=>by rw [← Nat.add_assoc]; simp only [aH,tM a f b]; grind
theorem Pm {U:List (List Qi)} {n i:Nat} (hi:i < n) (y:Nat → Qi):aH n (fun k=>vQ U n i k * y k) = gm U i i * y i + aH (n - 1 - i) fun k=>gm U i (i + 1 + k) * y (i + 1 + k):=by
 have e:n = i + 1 + (n - 1 - i):=by omega
 have h1:aH i (fun k=>vQ U n i k * y k) = 0:=mX fun k hk=>by unfold vQ; rw [if_pos zo]; grind
 have h2:vQ U n i i = gm U i i:=by unfold vQ; rw [if_neg zo]
 have h3:aH (n - 1 - i) (fun k=>vQ U n i (i + 1 + k) * y (i + 1 + k)) = aH (n - 1 - i) fun k=>gm U i (i + 1 + k) * y (i + 1 + k):=aI fun k hk=>by unfold vQ; rw [if_neg zo]
 have h4:=tM (i + 1) (fun k=>vQ U n i k * y k) (n - 1 - i)
 rw [← e] at h4
 rw [h4,h3]
 simp only [aH,h1,h2]; grind
theorem Pl {U:List (List Qi)} {n i:Nat} (hd:∀ j,j < n → gm U j j ≠ 0) (hi:i < n):aH n (fun k=>vQ U n i k * gv (nA U n n) k) = gm U i n:=by
 rw [Pm hi,Td (Nat.le_refl n) i zo hi,Ka]
 have:=rB (x:=gm U i n - aH (n - 1 - i) (fun k=>gm U i (i + 1 + k) * gv (nA U n n) (i + 1 + k))) (hd i hi)
 grind
theorem Kd {U : List (List Qi)} {n : Nat} (hd : ∀ j, j < n → gm U j j ≠ 0) {y : Nat → Qi} (h : ∀ i, i < n → aH n (fun k => vQ U n i k * y k) = 0) : ∀ t k, n - t ≤ k → k < n → y k = 0
 | 0,k,h1,h2=>by omega
 | t + 1, k, h1, h2 => by
  have h3:=h k h2
  rw [Pm h2,mX (fun j hj=>by rw [Kd hd h t (k + 1 + j) zo zo]; grind)] at h3
  rcases kS (x:=gm U k k) (y:=y k) (by grind) with h4 | h4
  ·exact absurd h4 (hd k h2)
  ·exact h4
theorem Bv {M:List (List Qi)} {b:List Qi} {n:Nat} (h:cM M n n) (hE:kU M b n = 0):(∀ i,i < n → aH n (fun k=>gm M i k * gv (kL M b n) k) = gv b i) ∧ ∀ y:Nat → Qi,(∀ i,i < n → aH n (fun k=>gm M i k * y k) = 0) → ∀ k,k < n → y k = 0:=by
 have hcs:cM (gN M [b] n) n (n + 1):=iY h
 have hst : (rO M b n).2.2 < 0 := by
  unfold kU at hE
  by_cases e:0 ≤ (rO M b n).2.2
  ·rw [if_pos e] at hE; omega
  ·omega
 have hg:=Fq hcs (Nat.le_succ n) (Nat.le_refl n) hst
 have hd:=qF hcs (Nat.le_refl n) hst
 obtain ⟨U,hU⟩:∃ U,U = (rO M b n).1:=⟨_,rfl⟩
 have hX:kL M b n = nA U n n:=by rw [hU]; rfl
 have hU2:(cI (gN M [b] n) n).1 = U:=hU.symm
 rw [hU2] at hg hd
 rw [hX]
 refine ⟨fun i hi=>?_,fun y hy k hk=>?_⟩
 ·have h1 := (hg.ker fun k => if k < n then gv (nA U n n) k else -1).1 (fun i hi => by
   simp only [aH]
   rw [aI (g:=fun k=>vQ U n i k * gv (nA U n n) k) (fun k hk=>by rw [if_pos hk]),Pl hd hi,if_neg zo,show vQ U n i n = gm U i n by unfold vQ; rw [if_neg zo]]
   grind) i hi
  rw [xO h hi,aI (g:=fun k=>gm M i k * gv (nA U n n) k) (fun k hk=>by rw [if_pos hk]),if_neg zo] at h1
  grind
 ·have h1 := (hg.ker fun k => if k < n then y k else 0).2 (fun i hi => by
   rw [xO h hi,aI (g:=fun k=>gm M i k * y k) (fun k hk=>by rw [if_pos hk]),if_neg zo,hy i hi]; grind)
  refine Kd (y:=y) hd (fun i hi=>?_) n k zo hk
  have h2:=h1 i hi
  simp only [aH] at h2
  rw [aI (g:=fun k=>vQ U n i k * y k) (fun k hk=>by rw [if_pos hk]),if_neg zo] at h2
  grind
theorem Jy {M:List (List Qi)} {b:List Qi} {n:Nat} (h:cM M n n) (hE:kU M b n ≠ 0):∃ y:Nat → Qi,(∀ i,i < n → aH n (fun k=>gm M i k * y k) = 0) ∧ ∃ k,k < n ∧ y k ≠ 0:=by
 have hcs:cM (gN M [b] n) n (n + 1):=iY h
 have hst : 0 ≤ (rO M b n).2.2 := by
  unfold kU at hE
  by_cases e:0 ≤ (rO M b n).2.2
  ·exact e
  ·rw [if_neg e] at hE; exact absurd rfl hE
 obtain ⟨c,hc,hA,hp⟩:=Ds hst
 have hg:=Fq hcs (Nat.le_succ n) zo hA
 have hd:=qF hcs zo hA
 obtain ⟨U,hU⟩:∃ U,U = (cI (gN M [b] n) c).1:=⟨_,rfl⟩
 rw [← hU] at hg hd hp
 rw [hcs.1] at hp
 have hz:=(lA (M:=U) (c:=c) (n:=n) zo).1
 rw [hp] at hz
 have key := (hg.ker fun k => if k < c then gv (nA U c c) k else if k = c then -1 else 0).1 (fun i hi => by
  have e:n + 1 = c + (1 + (n - c)):=by omega
  rw [e,tM,tM]
  have z3:aH (n - c) (fun k=>vQ U c i (c + (1 + k)) * (if c + (1 + k) < c then gv (nA U c c) (c + (1 + k)) else if c + (1 + k) = c then -1 else 0)) = 0:=mX fun k hk=>by rw [if_neg zo,if_neg zo]; grind
  have z2 : aH 1 (fun k => vQ U c i (c + k) * (if c + k < c then gv (nA U c c) (c + k) else if c + k = c then -1 else 0)) = vQ U c i c * -1 := by
   rw [Bw,if_neg zo,if_pos zo]; rfl
  have z1:aH c (fun k=>vQ U c i k * (if k < c then gv (nA U c c) k else if k = c then -1 else 0)) = aH c (fun k=>vQ U c i k * gv (nA U c c) k):=aI fun k hk=>by rw [if_pos hk]
  rw [z1,z2,z3]
  have zc:vQ U c i c = gm U i c:=by unfold vQ; rw [if_neg zo]
  rw [zc]
  by_cases e2:i < c
  ·rw [Pl hd e2]; grind
  ·rw [hz i zo hi,mX (fun k hk=>by unfold vQ; rw [if_pos zo]; grind),q0]; grind)
 refine ⟨fun k=>if k < c then gv (nA U c c) k else if k = c then -1 else 0,fun i hi=>?_,c,hc,?_⟩
 ·have h1 := key i hi
  rw [xO h hi,if_neg zo,if_neg zo] at h1
  grind
 ·show (if c < c then gv (nA U c c) c else if c = c then (-1 : Qi) else 0) ≠ 0
  rw [if_neg zo,if_pos rfl]
  intro e
  exact absurd (congrArg Qi.re e) (by decide)
theorem Xs {M:List (List Qi)} {b:List Qi} {n:Nat} (h:cM M n n):kU M b n = Yg M b n ∧ (kU M b n = 0 → kL M b n = Yh M b n):=by
 by_cases hE:kU M b n = 0
 ·obtain ⟨h1, h2⟩ := Bv h hE
  cases hX:Vj M b n with
  | none =>
   obtain ⟨y,h3,k,h4,h5⟩:=Vk h hX
   exact absurd (h2 y h3 k h4) h5
  | some X =>
   obtain ⟨h3,h4,_⟩:=Ii h hX
   refine ⟨by rw [hE]; simp only [Yg,hX,Option.isSome_some,if_true],fun _=>?_⟩
   simp only [Yh,hX,Option.getD_some]
   have hk : ∀ k, k < n → gv (kL M b n) k = gv X k := fun k hk => by
    have := h2 (fun k => gv (kL M b n) k - 1 * gv X k) (fun i hi => by
     have e:aH n (fun k=>gm M i k * (gv (kL M b n) k - 1 * gv X k)) = aH n (fun k=>gm M i k * gv (kL M b n) k - 1 * (gm M i k * gv X k)):=aI fun k _=>by grind
     rw [e,wX,h1 i hi,h4 i hi]; grind) k hk
    grind
   have hl:(kL M b n).length = n:=qW _ _ _
   apply List.ext_getElem?
   intro k
   by_cases c:k < n
   ·have := hk k c
    simp only [gv,List.getD] at this
    rw [List.getElem?_eq_getElem zo,List.getElem?_eq_getElem zo] at this ⊢
    exact congrArg some this
   ·rw [List.getElem?_eq_none zo,List.getElem?_eq_none zo]
 ·obtain ⟨y, h3, k, h4, h5⟩ := Jy (b := b) h hE
  have h6 : kU M b n = 6 := by
   unfold kU at hE ⊢
   split
   ·rfl
   ·rename_i e; rw [if_neg e] at hE; exact absurd rfl hE
  refine ⟨?_,fun e=>absurd e hE⟩
  cases hX:Vj M b n with
  | none=>rw [h6]; simp only [Yg,hX,Option.isSome_none]; rfl
  | some X =>
   obtain ⟨_,_,h7⟩:=Ii h hX
   exact absurd (h7 y h3 k h4) h5
end
section
open Go Go.RowKit
def Sb (G : List Nat) : Nat → List Nat
 | 0=>[]
 | k + 1=>Sb G k ++ (if k ∈ G then [] else [k])
abbrev qat (Q:List Nat) (i:Nat):Nat:=Q.getD i 0
end
section
open Go Go.RowKit
def gq (ps:List (Nat × Nat)) (x:Nat):Nat:=if x % 2 = 0 then pA ps (x / 2) else pB ps (x / 2)
structure Jn (ps:List (Nat × Nat)) (n K:Nat):Prop where
 lt:∀ x,x < 2 * K → gq ps x < n
 inj:∀ x y,x < 2 * K → y < 2 * K → gq ps x = gq ps y → x = y
theorem Jn.le {ps:List (Nat × Nat)} {n K k:Nat} (h:Jn ps n K) (hk:k ≤ K):Jn ps n k:=⟨fun x hx=>h.lt x zo,fun x y hx hy=>h.inj x y zo zo⟩
end
section
open Go Go.RowKit
theorem a07 {M:List (List Qi)} {b:List Qi} {n:Nat} (h:cM M n n):Yh M b n = dP (kU M b n) (kL M b n):=by
 obtain ⟨h1,h2⟩:=Xs (b:=b) h
 by_cases e:kU M b n = 0
 ·rw [dP,if_pos e,h2 e]
 ·rw [dP, if_neg e]
  rw [h1] at e
  cases hX:Vj M b n with
  | none=>simp only [Yh,hX]; rfl
  | some X=>exact absurd (by simp only [Yg,hX,Option.isSome_some,if_true]) e
def Im (M:List (List Qi)) (n r j:Nat):Qi:=gv (kL M (ek n j) n) r
theorem Vt (M:List (List Qi)) (n:Nat):mG (Im M n) n n n 0 = mS M n:=wC (Im M n) n n
theorem oR (M:List (List Qi)) (n:Nat):cM (mS M n) n n:=cM.tab
theorem Bu (M:List (List Qi)) (b:List Qi) (n:Nat):(kL M b n).length = n:=qW _ _ _
theorem In {M:List (List Qi)} {n:Nat} (h:nQ M n = 0):∀ k,k < n → kU M (ek n k) n = 0:=yI h
def Gf (M:List (List Qi)) (n:Nat):Int:=if nQ M n = 0 then 0 else 5
def ovX (Y M:List (List Qi)) (n:Nat):List (List Qi):=dP (Gf M n) (iC Y (mS M n) n n n)
theorem Wr {M:List (List Qi)} {n:Nat} (h:Gf M n = 0):nQ M n = 0:=by
 unfold Gf at h; split at h
 ·assumption
 ·omega
theorem xB {n i j:Nat} (hi:i < n) (hj:j < n):gm (sI n) i j = if i = j then 1 else 0:=by
 show gv ((sI n).getD i []) j = _
 rw [sI,Bx hi,uU,Ba (by rw [bI]; exact hi)]
 by_cases e:j = i
 ·subst e; rw [if_pos rfl,if_pos rfl]; rfl
 ·rw [if_neg e,if_neg (Ne.symm e),kR hj]; rfl
theorem jU {a b:List (List Qi)} {n m:Nat} (ha:cM a n m) (hb:cM b n m) (h:∀ i,i < n → ∀ j,j < m → gm a i j = gm b i j):a = b:=by
 rw [rG ha,rG hb]
 exact cF fun i hi=>cF fun j hj=>h i hi j hj
end
section
open Go Go.RowKit
theorem pig : ∀ {n m : Nat} {f : Nat → Nat}, (∀ x, x < m → f x < n) → (∀ x y, x < m → y < m → f x = f y → x = y) → m ≤ n
 | 0, m, f, h, _ => by
  cases m with
  | zero=>exact Nat.le_refl 0
  | succ m=>exact absurd (h 0 zo) zo
 | n + 1,0,_,_,_=>by omega
 | n + 1, k + 1, f, h, i => by
  have := pig (n := n) (m := k) (f := fun x => if f x = n then f k else f x) (fun x hx => by
   have h1:=h x zo
   have h2:=h k zo
   by_cases c:f x = n
   ·simp only [if_pos c]
    have:f k ≠ n:=fun e=>by have:=i x k zo zo (by rw [c,e]); omega
    omega
   ·simp only [if_neg c]; omega) (fun x y hx hy e=>by
   by_cases c:f x = n <;> by_cases d:f y = n
   ·exact i x y zo zo (by rw [c,d])
   ·simp only [if_pos c, if_neg d] at e
    have:=i k y zo zo e; omega
   ·simp only [if_neg c, if_pos d] at e
    have:=i x k zo zo e; omega
   ·simp only [if_neg c, if_neg d] at e
    exact i x y zo zo e)
  omega
end
section
open Go Go.RowKit
theorem a2L {x:Qi} (h:fP x = true):x ≠ 0:=fun e=>(a2M h).2 (by rw [e]; rfl)
theorem qV {z:List Qi} (h:z.all fP = true) {i:Nat} (hi:i < z.length):gv z i ≠ 0:=a2L (List.all_eq_true.1 h _ (by rw [show gv z i = z[i] by simp [gv,List.getD,hi]]; exact List.getElem_mem hi))
theorem Fr {x y:Qi} {L M:Nat} (hx:aD x L) (hy:aD y M) (h:y ≠ 0):aD (x / y) (L + 3 * M + 2):=⟨hx.fit.div hy.fit h⟩
def gC (z w:List Qi) (i:Nat):Qi:=gv w i / gv z i
def Sg (z w:List Qi):List Qi:=tab w.length fun i=>Qi.ofInt 1 + gC z w i
def Sf (z w:List Qi):List Qi:=tab w.length fun i=>Qi.ofInt 1 - gC z w i
def Sc (st fa:List Qi) (s:List (List Qi)) (i j:Nat):Qi:=(if i = j then gv st i else Qi.ofInt 0) + gv fa i * gm s i j
def mxM (st fa:List Qi) (s:List (List Qi)) (n:Nat):List (List Qi):=tab n fun i=>tab n fun j=>Sc st fa s i j
theorem jV (st fa:List Qi) (s:List (List Qi)) (n:Nat):cM (mxM st fa s n) n n:=cM.tab
theorem a0k {st fa:List Qi} {s:List (List Qi)} {K L:Nat} (hs:bP st K) (hf:bP fa K) (hS:aS s L) (hK:1 ≤ K) (hL:1 ≤ L) (i j:Nat):aD (Sc st fa s i j) (2 * K + L + 2):=by
 haveI f1:=hf.get hK i
 haveI f2:=hS.get hL i j
 haveI f3 : aD (if i = j then gv st i else Qi.ofInt 0) K := by
  split
  ·exact hs.get hK i
  ·exact aD.zero hK
 have:aD (Sc st fa s i j) (K + (K + L + 1) + 1):=inferInstanceAs (aD (_ + _ * _) _)
 exact this.le zo
theorem uF {st fa:List Qi} {s:List (List Qi)} {n K L:Nat} (hs:bP st K) (hf:bP fa K) (hS:aS s L) (hK:1 ≤ K) (hL:1 ≤ L):aS (mxM st fa s n) (2 * K + L + 2):=aS.tab fun i j _ _=>a0k hs hf hS hK hL i j
theorem pT {z w:List Qi} {L M i:Nat} (hz:bP z L) (hw:bP w M) (hL:1 ≤ L) (hM:1 ≤ M) (hp:z.all fP = true) (hi:i < z.length):aD (gC z w i) (M + 3 * L + 2):=Fr (hw.get hM i) (hz.get hL i) (qV hp hi)
theorem uL {z w : List Qi} {L M : Nat} (hz : bP z L) (hw : bP w M) (hL : 1 ≤ L) (hM : 1 ≤ M) (hp : z.all fP = true) (hl : w.length = z.length) : bP (Sg z w) (M + 3 * L + 4) := bP.tab fun i hi => by
 haveI f1:=pT (i:=i) hz hw hL hM hp zo
 haveI:=pM
 have:aD (Qi.ofInt 1 + gC z w i) (1 + (M + 3 * L + 2) + 1):=fitAdd
 exact this.le zo
theorem uK {z w : List Qi} {L M : Nat} (hz : bP z L) (hw : bP w M) (hL : 1 ≤ L) (hM : 1 ≤ M) (hp : z.all fP = true) (hl : w.length = z.length) : bP (Sf z w) (M + 3 * L + 4) := bP.tab fun i hi => by
 haveI f1:=pT (i:=i) hz hw hL hM hp zo
 haveI:=pM
 have:aD (Qi.ofInt 1 - gC z w i) (1 + (M + 3 * L + 2) + 1):=fitSub
 exact this.le zo
abbrev Cm (z w:List Qi) (s:List (List Qi)):List (List Qi):=mxM (Sf z w) (Sg z w) s w.length
abbrev oF (z w:List Qi) (s:List (List Qi)):List (List Qi):=mxM (Sg z w) (Sf z w) s w.length
def uT (z w:List Qi) (s:List (List Qi)):Int:=if w.length ≠ z.length then 4 else if w.all fP = true then Gf (oF z w s) w.length else 1
def vR (z w:List Qi) (s:List (List Qi)):List Qi:=dP (uT z w s) w
def lD (z w:List Qi) (s:List (List Qi)):List (List Qi):=dP (uT z w s) (iC (Cm z w s) (mS (oF z w s) w.length) w.length w.length w.length)
theorem Gg {z w:List Qi} {s:List (List Qi)} (h:w.length ≠ z.length):uT z w s = 4:=if_pos h
theorem Xc {z w:List Qi} {s:List (List Qi)} (h:w.length = z.length) (hp:w.all fP ≠ true):uT z w s = 1:=by rw [uT,if_neg (fun k=>k h),if_neg hp]
theorem Xd {z w:List Qi} {s:List (List Qi)} (h:w.length = z.length) (hp:w.all fP = true):uT z w s = Gf (oF z w s) w.length:=by rw [uT,if_neg (fun k=>k h),if_pos hp]
theorem Xe {z w:List Qi} {s:List (List Qi)} (h:w.length = z.length) (hp:w.all fP = true):lD z w s = ovX (Cm z w s) (oF z w s) w.length:=by rw [lD,Xd h hp]; rfl
def Re (i j:Nat):Qi:=if i = j then Qi.ofInt 1 else Qi.ofInt 0
def rvE (s:List (List Qi)) (i j:Nat):Qi:=Re i j + gm s i j
def Pb (z:List Qi) (s:List (List Qi)) (i j:Nat):Qi:=(Re i j - gm s i j) / gv z i
def Yk (z w:List Qi) (s:List (List Qi)) (i j:Nat):Qi:=rvE s i j + gv w i * Pb z s i j
def Yl (z w:List Qi) (s:List (List Qi)) (i j:Nat):Qi:=rvE s i j - gv w i * Pb z s i j
theorem a3O {z w:List Qi} {s:List (List Qi)} {i j:Nat} (hl:w.length = z.length) (hp:z.all fP = true) (hi:i < w.length) (hj:j < w.length):Yk z w s i j = gm (oF z w s) i j:=by
 have hz:=qV hp (show i < z.length by omega)
 have h1:=qN hz
 rw [oF,mxM,mH hi hj,Sc,Sg,Sf,kR hi,kR hi,gC,Yk,rvE,Pb,Re,Qi.div_def,Qi.div_def,q1,show Qi.ofInt 0 = (0:Qi) from rfl]
 by_cases e:i = j
 ·rw [if_pos e,if_pos e]; grind
 ·rw [if_neg e,if_neg e]; grind
theorem a3P {z w:List Qi} {s:List (List Qi)} {i j:Nat} (hl:w.length = z.length) (hp:z.all fP = true) (hi:i < w.length) (hj:j < w.length):Yl z w s i j = gm (Cm z w s) i j:=by
 have hz:=qV hp (show i < z.length by omega)
 have h1:=qN hz
 rw [Cm,mxM,mH hi hj,Sc,Sg,Sf,kR hi,kR hi,gC,Yl,rvE,Pb,Re,Qi.div_def,Qi.div_def,q1,show Qi.ofInt 0 = (0:Qi) from rfl]
 by_cases e:i = j
 ·rw [if_pos e,if_pos e]; grind
 ·rw [if_neg e,if_neg e]; grind
theorem a2N {z w:List Qi} {s:List (List Qi)} (hl:w.length = z.length) (hp:z.all fP = true):mG (Yk z w s) w.length w.length w.length 0 = oF z w s:=by
 rw [wC]
 exact jU cM.tab (jV _ _ _ _) fun i hi j hj=>by rw [mH hi hj,a3O hl hp hi hj]
theorem a2O {z w:List Qi} {s:List (List Qi)} (hl:w.length = z.length) (hp:z.all fP = true):mG (Yl z w s) w.length w.length w.length 0 = Cm z w s:=by
 rw [wC]
 exact jU cM.tab (jV _ _ _ _) fun i hi j hj=>by rw [mH hi hj,a3P hl hp hi hj]
theorem a0O (i j:Nat):aD (Re i j) 1:=by
 unfold Re; split
 ·exact pM
 ·exact aD.zero (Nat.le_refl 1)
end
section
open Go Go.RowKit
section
variable {φ:Qi → Qi → Bool} {z:List Qi} {js:List (Int × Int)}
end
theorem kD {a b:List (List Qi)} {n k m i j:Nat} (hi:i < n) (hj:j < m):gm (iC a b n k m) i j = aH k fun t=>gm a i t * gm b t j:=mH hi hj
theorem Oi {A : List (List Qi)} {n : Nat} (h : cM A n n) : iC (sI n) A n n n = A := jU iQ h fun i hi j hj => by
 rw [kD hi hj,gA hi (f:=fun t=>gm (sI n) i t * gm A t j) fun k hk hne=>by rw [xB hi hk,if_neg (Ne.symm hne)]; grind,xB hi hi,if_pos rfl]; grind
theorem Oj {A : List (List Qi)} {n : Nat} (h : cM A n n) : iC A (sI n) n n n = A := jU iQ h fun i hi j hj => by
 rw [kD hi hj,gA hj (f:=fun t=>gm A i t * gm (sI n) t j) fun k hk hne=>by rw [xB hk hj,if_neg hne]; grind,xB hj hj,if_pos rfl]; grind
def lC:Qi:=Qi.frac 1 0 2
theorem Fu:aD lC 2:=⟨Qi.Fit.frac (by decide) (by decide) (by decide) (by decide) (by decide) (by decide) (by decide)⟩
theorem a0b:lC * Qi.ofInt 2 = Qi.ofInt 1:=by decide +kernel
section
variable {js:List (Int × Int)} {n:Nat}
end
end
section
open Go Go.RowKit
structure Cz (O:List Nat) (n:Nat):Prop where
 nd:O.Nodup
 all:∀ x,x ∈ O ↔ 1 ≤ x ∧ x ≤ n
theorem Cz.len {O:List Nat} {n:Nat} (h:Cz O n):O.length = n:=by
 refine Nat.le_antisymm ?_ ?_
 ·refine pig (n := n) (f := fun i => O.getD i 0 - 1) (fun x hx => ?_) (fun x y hx hy e => ?_)
  ·have := (h.all (O.getD x 0)).1 (by rw [show O.getD x 0 = O[x] by simp [List.getD, hx]]; exact List.getElem_mem hx)
   show O.getD x 0 - 1 < n; omega
  ·have a := (h.all (O.getD x 0)).1 (by rw [show O.getD x 0 = O[x] by simp [List.getD, hx]]; exact List.getElem_mem hx)
   have b:=(h.all (O.getD y 0)).1 (by rw [show O.getD y 0 = O[y] by simp [List.getD,hy]]; exact List.getElem_mem hy)
   have e2:O.getD x 0 = O.getD y 0:=by have:O.getD x 0 - 1 = O.getD y 0 - 1:=e; omega
   rw [show O.getD x 0 = O[x] by simp [List.getD,hx],show O.getD y 0 = O[y] by simp [List.getD,hy]] at e2
   exact (List.getElem_inj h.nd).1 e2
 ·have key : ∀ j, j < n → ∃ i, i < O.length ∧ O.getD i 0 = j + 1 := fun j hj => by
   obtain ⟨i,hi,e⟩:=List.getElem_of_mem ((h.all (j + 1)).2 ⟨by omega,by omega⟩)
   exact ⟨i,hi,by simp [List.getD,hi,e]⟩
  refine pig (n:=O.length) (f:=fun j=>if hj:j < n then Classical.choose (key j hj) else 0) (fun x hx=>by simp only [dif_pos hx]; exact (Classical.choose_spec (key x hx)).1) (fun x y hx hy e=>?_)
  simp only [dif_pos hx,dif_pos hy] at e
  have a:=(Classical.choose_spec (key x hx)).2
  have b:=(Classical.choose_spec (key y hy)).2
  rw [e] at a; omega
section
variable {O:List Nat} {n:Nat}
theorem Cz.at (h:Cz O n) {i:Nat} (hi:i < n):1 ≤ O.getD i 0 ∧ O.getD i 0 ≤ n:=by
 have hl:=h.len
 exact (h.all _).1 (by rw [show O.getD i 0 = O[i] by simp [List.getD,show i < O.length by omega]]; exact List.getElem_mem _)
theorem Cz.inj (h:Cz O n) {i j:Nat} (hi:i < n) (hj:j < n) (e:O.getD i 0 = O.getD j 0):i = j:=by
 have hl:=h.len
 rw [show O.getD i 0 = O[i] by simp [List.getD,show i < O.length by omega],show O.getD j 0 = O[j] by simp [List.getD,show j < O.length by omega]] at e
 exact (List.getElem_inj h.nd).1 e
end
end
section
open Go Go.RowKit
section
variable {S:List (List Qi)} {p q r t a b:Nat}
theorem a17 {x y:Qi} (h:x - y = 0):x = y:=by grind
end
section
variable {S:Nat → Nat → Qi} {p q r t a b:Nat}
def S1 (S:Nat → Nat → Qi) (p q:Nat) (V:Nat → Qi × Qi) (a b:Nat):Qi:=S a b + (S a p * (V b).1 + S a q * (V b).2)
variable {V:Nat → Qi × Qi}
end
end
section
open Go Go.RowKit
def low (c a b:Nat):Nat:=c - (if a < c then 1 else 0) - (if b < c then 1 else 0)
def okP (N p q r t : Nat) : Bool :=
 decide ((Sb [p,q] N).length = N - 2) && decide (low r p q < N - 2) && decide (low t p q < N - 2) && decide (low r p q ≠ low t p q) && decide (qat (Sb [p,q] N) (low r p q) = r) && decide (qat (Sb [p,q] N) (low t p q) = t)
 && decide ((Sb [low r p q,low t p q] (N - 2)).map (qat (Sb [p,q] N)) = Sb [p,q,r,t] N) && decide ((Sb [p,q,r,t] N).length = N - 4) && decide (Sb [t,r,p,q] N = Sb [p,q,r,t] N) && decide (Sb [r,t,p,q] N = Sb [p,q,r,t] N)
section
variable {z:List Qi} {S:List (List Qi)} {N p q r t:Nat} {ζ:Qi}
end
end
section
open Go Go.RowKit
def Gb (x:Qi) (N:Nat):Prop:=∃ p q:Int,x = Qi.mk (p:Rat) (q:Rat) ∧ p.natAbs ≤ N ∧ q.natAbs ≤ N
theorem Gb.le {x:Qi} {N M:Nat} (h:Gb x N) (k:N ≤ M):Gb x M:=by
 obtain ⟨p,q,e,h1,h2⟩:=h; exact ⟨p,q,e,by omega,by omega⟩
theorem Gb.add {x y:Qi} {N M:Nat} (h:Gb x N) (k:Gb y M):Gb (x + y) (N + M):=by
 obtain ⟨p,q,rfl,h1,h2⟩:=h; obtain ⟨r,s,rfl,k1,k2⟩:=k
 refine ⟨p + r,q + s,Qi.ext' ?_ ?_,by omega,by omega⟩
 ·show (p:Rat) + (r:Rat) = ((p + r:Int):Rat); push_cast; rfl
 ·show (q:Rat) + (s:Rat) = ((q + s:Int):Rat); push_cast; rfl
theorem Gb.neg {x:Qi} {N:Nat} (h:Gb x N):Gb (-x) N:=by
 obtain ⟨p,q,rfl,h1,h2⟩:=h
 refine ⟨-p,-q,Qi.ext' ?_ ?_,by omega,by omega⟩
 ·show -(p:Rat) = ((-p:Int):Rat); push_cast; rfl
 ·show -(q:Rat) = ((-q:Int):Rat); push_cast; rfl
theorem Gb.sub {x y:Qi} {N M:Nat} (h:Gb x N) (k:Gb y M):Gb (x - y) (N + M):=by rw [Qi.sub_def]; exact h.add k.neg
theorem pR {p q:Int} {N M:Nat} (h:p.natAbs ≤ N) (k:q.natAbs ≤ M):(p * q).natAbs ≤ N * M:=by rw [Int.natAbs_mul]; exact Nat.mul_le_mul h k
theorem Gb.mul {x y:Qi} {N M:Nat} (h:Gb x N) (k:Gb y M):Gb (x * y) (2 * N * M):=by
 obtain ⟨p,q,rfl,h1,h2⟩:=h; obtain ⟨r,s,rfl,k1,k2⟩:=k
 have a1:=pR h1 k1; have a2:=pR h2 k2; have a3:=pR h1 k2; have a4:=pR h2 k1
 have e:2 * N * M = N * M + N * M:=by rw [Nat.mul_assoc,Nat.two_mul]
 refine ⟨p * r - q * s,p * s + q * r,Qi.ext' ?_ ?_,by omega,by omega⟩
 ·rw [Qi.mul_re]; show (p:Rat) * (r:Rat) - (q:Rat) * (s:Rat) = ((p * r - q * s:Int):Rat); push_cast; rfl
 ·rw [Qi.mul_im]; show (p:Rat) * (s:Rat) + (q:Rat) * (r:Rat) = ((p * s + q * r:Int):Rat); push_cast; rfl
theorem Gb.sum {f : Nat → Qi} {N : Nat} : ∀ {n : Nat}, (∀ k, k < n → Gb (f k) N) → Gb (aH n f) (n * N)
 | 0,_=>⟨0,0,Qi.ext' rfl rfl,by simp,by simp⟩
 | n + 1, h => by
  rw [aH,Nat.succ_mul]
  exact (Gb.sum fun k hk=>h k zo).add (h n zo)
theorem Gb.fit {x:Qi} {N L:Nat} (h:Gb x N) (hN:N < BB ^ L) (hL:1 ≤ L):aD x L:=by
 obtain ⟨p,q,rfl,h1,h2⟩:=h
 have e:Qi.mk (p:Rat) (q:Rat) = Qi.mk' p q 1:=Qi.ext' (by rw [Qi.mk_re]; show (p:Rat) = p / ((1:Nat):Rat); grind) (by rw [Qi.mk_im]; show (q:Rat) = q / ((1:Nat):Rat); grind)
 rw [e]
 exact ⟨Qi.Fit.mk (by decide) zo zo (Qi.one_lt hL)⟩
theorem rP (n:Nat) (f:Nat → Qi):aH (n + 1) f = f 0 + aH n fun k=>f (k + 1):=by
 rw [Nat.add_comm n 1,tM,Bw]
 exact congrArg _ (aI fun k _=>by rw [Nat.add_comm])
def fs : Nat → Nat → Nat
 | 0,_=>1
 | n + 1,N=>2 * (n + 1) * N * fs n (4 * N * N)
theorem Lh {F:Nat → Nat → Qi} {n:Nat} {x:Nat → Qi}:vS F (n + 1) (n + 1) x ↔ (F 0 0 * x 0 + aH n (fun k=>F 0 (k + 1) * x (k + 1)) = 0) ∧ ∀ i,i < n → F (i + 1) 0 * x 0 + aH n (fun k=>F (i + 1) (k + 1) * x (k + 1)) = 0:=by
 constructor
 ·intro h
  exact ⟨by have:=h 0 zo; rwa [rP] at this,fun i hi=>by have:=h (i + 1) zo; rwa [rP] at this⟩
 ·rintro ⟨h1, h2⟩ i hi
  rw [rP]
  cases i with
  | zero=>exact h1
  | succ i=>exact h2 i zo
theorem Kb (n:Nat) (a b:Qi) (f g x:Nat → Qi):aH n (fun k=>(a * f k - b * g k) * x k) = a * aH n (fun k=>f k * x k) - b * aH n (fun k=>g k * x k):=by
 induction n with
 | zero=>simp only [aH,q0]; grind
 | succ n ih=>simp only [aH,ih]; grind
theorem xZ (n:Nat) (a:Qi) (f x:Nat → Qi):aH n (fun k=>f k * (x k * a)) = a * aH n (fun k=>f k * x k):=by
 induction n with
 | zero=>simp only [aH,q0]; grind
 | succ n ih=>simp only [aH,ih]; grind
theorem a02 {F : Nat → Nat → Qi} {n N : Nat} (hp : F 0 0 ≠ 0) (hN : 1 ≤ N) (hF : ∀ i, i < n + 1 → ∀ j, j ≤ n + 1 → Gb (F i j) N) (hk : ∀ v, vS F (n + 1) (n + 1) v → ∀ k, k < n + 1 → v k = 0)
  (ih:∀ G:Nat → Nat → Qi,(∀ i,i < n → ∀ j,j ≤ n → Gb (G i j) (4 * N * N)) → (∀ v,vS G n n v → ∀ k,k < n → v k = 0) → ∃ (y:Nat → Qi) (e:Qi),e ≠ 0 ∧ Gb e (fs n (4 * N * N)) ∧ (∀ k,k < n → Gb (y k) (fs n (4 * N * N))) ∧ ∀ i,i < n → aH n (fun k=>G i k * y k) = e * G i n) :
  ∃ (y:Nat → Qi) (e:Qi),e ≠ 0 ∧ Gb e (fs (n + 1) N) ∧ (∀ k,k < n + 1 → Gb (y k) (fs (n + 1) N)) ∧ ∀ i,i < n + 1 → aH (n + 1) (fun k=>F i k * y k) = e * F i (n + 1):=by
 obtain ⟨y, e, he, ge, gy, hy⟩ := ih (fun i j => F 0 0 * F (i + 1) (j + 1) - F (i + 1) 0 * F 0 (j + 1)) (fun i hi j hj => by
   have h1:=(hF 0 zo 0 zo).mul (hF (i + 1) zo (j + 1) zo)
   have h2:=(hF (i + 1) zo 0 zo).mul (hF 0 zo (j + 1) zo)
   exact (h1.sub h2).le (by rw [show 4 * N * N = 2 * N * N + 2 * N * N by rw [← Nat.add_mul]; congr 1; omega]; exact Nat.le_refl _)) (fun v hv k hkn=>by
   have hz := hk (fun k => if k = 0 then -(aH n fun k => F 0 (k + 1) * v k) else F 0 0 * v (k - 1)) (Lh.2 ⟨by
    simp only [if_true,Nat.add_sub_cancel,if_neg (Nat.succ_ne_zero _)]
    have:=xZ n (F 0 0) (fun k=>F 0 (k + 1)) v
    simp only [Qi.mul_comm' _ (F 0 0)] at this ⊢
    rw [this]; grind,fun i hi=>by
    simp only [if_true,Nat.add_sub_cancel,if_neg (Nat.succ_ne_zero _)]
    have:=xZ n (F 0 0) (fun k=>F (i + 1) (k + 1)) v
    simp only [Qi.mul_comm' _ (F 0 0)] at this ⊢
    rw [this]
    have h:=hv i hi
    have h2:=Kb n (F 0 0) (F (i + 1) 0) (fun k=>F (i + 1) (k + 1)) (fun k=>F 0 (k + 1)) v
    simp only [] at h
    rw [h2] at h
    grind⟩) (k + 1) zo
   simp only [Nat.add_sub_cancel,if_neg (Nat.succ_ne_zero _)] at hz
   rcases kS hz with h | h
   ·exact absurd h hp
   ·exact h)
 have hf1 : 1 ≤ fs n (4 * N * N) := by
  apply Decidable.byContradiction; intro h
  have h0:fs n (4 * N * N) = 0:=by omega
  rw [h0] at ge
  obtain ⟨p,q,e1,p1,p2⟩:=ge
  have hp0:p = 0:=by omega
  have hq0:q = 0:=by omega
  exact he (by rw [e1,hp0,hq0]; exact Qi.ext' rfl rfl)
 have hG : fs (n + 1) N = (n + 1) * (2 * fs n (4 * N * N) * N) := by
  rw [fs]; simp only [Nat.mul_comm,Nat.mul_left_comm,Nat.mul_assoc]
 have hG1:2 * fs n (4 * N * N) * N ≤ fs (n + 1) N:=by rw [hG]; exact Nat.le_mul_of_pos_left _ zo
 refine ⟨fun k=>if k = 0 then e * F 0 (n + 1) - aH n (fun k=>F 0 (k + 1) * y k) else y (k - 1) * F 0 0,e * F 0 0,fun h=>?_,?_,fun k hkn=>?_,fun i hi=>?_⟩
 ·rcases kS h with h | h
  ·exact he h
  ·exact hp h
 ·exact (ge.mul (hF 0 zo 0 zo)).le hG1
 ·cases k with
  | zero =>
   simp only [if_true]
   have h1:=ge.mul (hF 0 zo (n + 1) zo)
   have h2:Gb (aH n fun k=>F 0 (k + 1) * y k) (n * (2 * N * fs n (4 * N * N))):=Gb.sum fun k hk=>(hF 0 zo (k + 1) zo).mul (gy k hk)
   refine (h1.sub h2).le ?_
   have e3:n * (2 * N * fs n (4 * N * N)) = n * (2 * fs n (4 * N * N) * N):=by simp only [Nat.mul_comm,Nat.mul_left_comm,Nat.mul_assoc]
   have e4:(n + 1) * (2 * fs n (4 * N * N) * N) = n * (2 * fs n (4 * N * N) * N) + 2 * fs n (4 * N * N) * N:=Nat.succ_mul _ _
   rw [hG,e3,e4,Nat.add_comm]; exact Nat.le_refl _
  | succ k =>
   simp only [Nat.add_sub_cancel,if_neg (Nat.succ_ne_zero _)]
   exact ((gy k zo).mul (hF 0 zo 0 zo)).le hG1
 ·rw [rP]
  simp only [if_true,Nat.add_sub_cancel,if_neg (Nat.succ_ne_zero _)]
  rw [xZ n (F 0 0) (fun k=>F i (k + 1)) y]
  cases i with
  | zero=>grind
  | succ i =>
   have h:=hy i zo
   have h2:=Kb n (F 0 0) (F (i + 1) 0) (fun k=>F (i + 1) (k + 1)) (fun k=>F 0 (k + 1)) y
   rw [h2] at h
   grind
theorem Vg : ∀ (n N : Nat) (F : Nat → Nat → Qi), 1 ≤ N → (∀ i, i < n → ∀ j, j ≤ n → Gb (F i j) N) → (∀ v, vS F n n v → ∀ k, k < n → v k = 0) →
  ∃ (y:Nat → Qi) (e:Qi),e ≠ 0 ∧ Gb e (fs n N) ∧ (∀ k,k < n → Gb (y k) (fs n N)) ∧ ∀ i,i < n → aH n (fun k=>F i k * y k) = e * F i n
 | 0,N,F,_,_,_=>⟨fun _=>0,1,fun h=>by have:=congrArg Qi.re h; revert this; decide,⟨1,0,Qi.ext' rfl rfl,by simp [fs],by simp [fs]⟩,fun k hk=>by omega,fun i hi=>by omega⟩
 | n + 1, N, F, hN, hF, hk => by
  have hpz : ∃ p, p < n + 1 ∧ F p 0 ≠ 0 := by
   apply Classical.byContradiction; intro hno
   have hz : ∀ p, p < n + 1 → F p 0 = 0 := fun p hp => by
    apply Classical.byContradiction; intro h; exact hno ⟨p,hp,h⟩
   have := hk (fun k => if k = 0 then 1 else 0) (fun i hi => by
    rw [mX]
    intro k hk
    by_cases e:k = 0
    ·subst e; rw [hz i hi]; grind
    ·simp only [if_neg e]; grind) 0 zo
   simp only [if_true] at this
   have:=congrArg Qi.re this; revert this; decide
  obtain ⟨p,hp,hpz⟩:=hpz
  have hN4:1 ≤ 4 * N * N:=Nat.mul_pos zo zo
  obtain ⟨y, e, he, ge, gy, hy⟩ := a02 (F := fun i => F (Pj p 0 i)) (n := n) (N := N) (by simpa [Pj] using hpz) hN (fun i hi j hj => hF _ (Gk hp zo hi) j hj)
   (fun v hv=>hk v ((Io hp zo).1 hv)) (fun G hG hGk=>Vg n (4 * N * N) G hN4 hG hGk)
  refine ⟨y,e,he,ge,gy,fun i hi=>?_⟩
  have:=hy (Pj p 0 i) (Gk hp zo hi)
  simp only [Pk] at this
  exact this
theorem a05 {N:Nat}:∀ {n:Nat},n ≤ 4 → 1 ≤ N → fs n N ≤ 1610612736 * N ^ 15:=by
 intro n hn hN
 have hp:∀ k,k ≤ 15 → N ^ k ≤ N ^ 15:=fun k hk=>Nat.pow_le_pow_right hN hk
 have h0:=hp 0 zo; have h1:=hp 1 zo; have h3:=hp 3 zo; have h7:=hp 7 zo
 match n,hn with
 | 0,_=>rw [fs]; rw [Nat.pow_zero] at h0; omega
 | 1,_=>simp only [fs]; rw [show 2 * (0 + 1) * N * 1 = 2 * N ^ 1 by grind]; omega
 | 2,_=>simp only [fs]; rw [show 2 * (1 + 1) * N * (2 * (0 + 1) * (4 * N * N) * 1) = 32 * N ^ 3 by grind]; omega
 | 3,_=>simp only [fs]; rw [show 2 * (2 + 1) * N * (2 * (1 + 1) * (4 * N * N) * (2 * (0 + 1) * (4 * (4 * N * N) * (4 * N * N)) * 1)) = 12288 * N ^ 7 by grind]; omega
 | 4,_=>simp only [fs]; rw [show 2 * (3 + 1) * N * (2 * (2 + 1) * (4 * N * N) * (2 * (1 + 1) * (4 * (4 * N * N) * (4 * N * N)) * (2 * (0 + 1) * (4 * (4 * (4 * N * N) * (4 * N * N)) * (4 * (4 * N * N) * (4 * N * N))) * 1))) = 1610612736 * N ^ 15 by grind]; omega
theorem Zz (x:Qi):((x.den:Int):Rat) * x.re = (x.a:Rat) ∧ ((x.den:Int):Rat) * x.im = (x.b:Rat):=by
 have h:=Qi.nc x.den_pos
 have h2:((x.den:Int):Rat) = (x.den:Rat):=by push_cast; rfl
 rw [h2]
 exact ⟨by rw [Qi.re_eq x]; grind,by rw [Qi.im_eq x]; grind⟩
theorem Gh {L : Nat} {x : Nat → Qi} : ∀ k, (∀ j, j < k → aD (x j) L) → ∃ d : Nat, 0 < d ∧ d ≤ BB ^ (k * L) ∧ ∀ j, j < k → Gb (Qi.ofInt d * x j) (BB ^ (k * L))
 | 0,_=>⟨1,by decide,Nat.pow_pos eR,fun j hj=>by omega⟩
 | k + 1, h => by
  obtain ⟨d,d0,dl,hd⟩:=Gh k fun j hj=>h j zo
  have hx:=(h k zo).fit
  have hm:=Zz (x k)
  have hpow:BB ^ ((k + 1) * L) = BB ^ (k * L) * BB ^ L:=by rw [Nat.succ_mul,Nat.pow_add]
  refine ⟨d * (x k).den,Nat.mul_pos d0 (x k).den_pos,?_,fun j hj=>?_⟩
  ·rw [hpow]; exact Nat.mul_le_mul dl (Nat.le_of_lt hx.2.2)
  ·by_cases e : j = k
   ·subst e
    refine ⟨d * (x j).a,d * (x j).b,Qi.ext' ?_ ?_,?_,?_⟩
    ·rw [Qi.mul_re]
     show (((d * (x j).den:Nat):Int):Rat) * (x j).re - 0 * (x j).im = ((d * (x j).a:Int):Rat)
     have:=hm.1; push_cast at *; grind
    ·rw [Qi.mul_im]
     show (((d * (x j).den:Nat):Int):Rat) * (x j).im + 0 * (x j).re = ((d * (x j).b:Int):Rat)
     have:=hm.2; push_cast at *; grind
    ·rw [hpow]; exact pR (by simpa using dl) (Nat.le_of_lt hx.1)
    ·rw [hpow]; exact pR (by simpa using dl) (Nat.le_of_lt hx.2.1)
   ·obtain ⟨p, q, e1, h1, h2⟩ := hd j zo
    have er:=congrArg Qi.re e1; have ei:=congrArg Qi.im e1
    rw [Qi.mul_re] at er; rw [Qi.mul_im] at ei
    refine ⟨p * (x k).den,q * (x k).den,Qi.ext' ?_ ?_,?_,?_⟩
    ·rw [Qi.mul_re]
     have er:((d:Int):Rat) * (x j).re - 0 * (x j).im = (p:Rat):=er
     show (((d * (x k).den:Nat):Int):Rat) * (x j).re - 0 * (x j).im = ((p * (x k).den:Int):Rat)
     push_cast at *; grind
    ·rw [Qi.mul_im]
     have ei:((d:Int):Rat) * (x j).im + 0 * (x j).re = (q:Rat):=ei
     show (((d * (x k).den:Nat):Int):Rat) * (x j).im + 0 * (x j).re = ((q * (x k).den:Int):Rat)
     push_cast at *; grind
    ·rw [hpow]; exact pR h1 (by simpa using Nat.le_of_lt hx.2.2)
    ·rw [hpow]; exact pR h2 (by simpa using Nat.le_of_lt hx.2.2)
theorem Ja {d : Nat} (h : 0 < d) : Qi.ofInt d ≠ 0 := fun e => by
 have:=congrArg Qi.re e
 have h2:((d:Int):Rat) = ((0:Int):Rat):=this
 rw [Rat.intCast_inj] at h2; omega
end
section
open Go Go.RowKit
theorem Xr {M:List (List Qi)} {b:List Qi} {n m L K:Nat} (h:cM M n n) (hM:aS M L) (hb:bP b L) (hL:1 ≤ L) (hn:n ≤ m) (hbig:fs n (BB ^ ((m + 1) * L)) < BB ^ K) (hK:1 ≤ K) (hE:kU M b n = 0):bP (kL M b n) (4 * K + 2):=by
 obtain ⟨s1,s2⟩:=Bv h hE
 have hrow : ∀ i, ∃ d : Nat, 0 < d ∧ ∀ j, j < n + 1 → Gb (Qi.ofInt d * (if j < n then gm M i j else gv b i)) (BB ^ ((m + 1) * L)) := fun i => by
  obtain ⟨d, d0, _, hd⟩ := Gh (L := L) (x := fun j => if j < n then gm M i j else gv b i) (n + 1) fun j _ => by
   show aD (if j < n then gm M i j else gv b i) L
   split
   ·exact hM.get hL i j
   ·exact hb.get hL i
  exact ⟨d,d0,fun j hj=>(hd j hj).le (Nat.pow_le_pow_right eR (Nat.mul_le_mul_right _ zo))⟩
 have hd:∃ d:Nat → Nat,∀ i,0 < d i ∧ ∀ j,j < n + 1 → Gb (Qi.ofInt (d i) * (if j < n then gm M i j else gv b i)) (BB ^ ((m + 1) * L)):=⟨fun i=>Classical.choose (hrow i),fun i=>Classical.choose_spec (hrow i)⟩
 obtain ⟨d,hd⟩:=hd
 have cancel : ∀ {i : Nat} {u : Qi}, Qi.ofInt (d i) * u = 0 → u = 0 := fun {i u} hu => by
  rcases kS hu with k | k
  ·exact absurd k (Ja (hd i).1)
  ·exact k
 have hsum : ∀ (i : Nat) (v : Nat → Qi), aH n (fun k => Qi.ofInt (d i) * (if k < n then gm M i k else gv b i) * v k) = Qi.ofInt (d i) * aH n (fun k => gm M i k * v k) := fun i v => by
  rw [Qi.mul_comm',← iH]
  exact aI fun k hk=>by rw [if_pos hk]; grind
 have hN:1 ≤ BB ^ ((m + 1) * L):=Nat.pow_pos eR
 obtain ⟨y, e, he, ge, gy, hy⟩ := Vg n (BB ^ ((m + 1) * L)) (fun i j => Qi.ofInt (d i) * (if j < n then gm M i j else gv b i)) hN (fun i _ j hj => (hd i).2 j zo) (fun v hv => s2 v fun i hi => by
  have:=hv i hi
  simp only [] at this
  rw [hsum] at this
  exact cancel this)
 have hsol : ∀ k, k < n → y k - e * gv (kL M b n) k = 0 := s2 (fun k => y k - e * gv (kL M b n) k) fun i hi => by
  have h1:=hy i hi
  rw [hsum,if_neg zo] at h1
  have h2:=s1 i hi
  have h3 : aH n (fun k => gm M i k * (y k - e * gv (kL M b n) k)) = aH n (fun k => gm M i k * y k) - e * aH n (fun k => gm M i k * gv (kL M b n) k) := by
   rw [← wX]; exact aI fun k _=>by grind
  rw [h3,h2]
  exact cancel (i:=i) (by grind)
 intro x hx
 obtain ⟨k,hk,rfl⟩:=List.mem_iff_getElem.1 hx
 rw [Bu] at hk
 have hg:(kL M b n)[k] = gv (kL M b n) k:=by simp [gv,List.getD,Bu,hk]
 rw [hg]
 have e1:gv (kL M b n) k = y k / e:=(Vb he (by have:=hsol k hk; grind)).symm
 haveI f1:aD (y k) K:=(gy k hk).fit hbig hK
 haveI f2:aD e K:=ge.fit hbig hK
 rw [e1]
 exact (fitDiv (x:=y k) (y:=e)).le zo
end
section
open Go Go.RowKit
section
variable {z:List Qi} {s c:List (List Qi)} {g t:Qi} {p:Nat}
theorem Ep (n:Nat) (f:Nat → Qi):aH (n + 1) f = aH n f + f n:=rfl
end
end
section
open Go Go.RowKit
theorem Bh {A B C : List (List Qi)} {n : Nat} : iC (iC A B n n n) C n n n = iC A (iC B C n n n) n n n := jU iQ iQ fun i hi j hj => by
 rw [kD hi hj,kD hi hj]
 have e1 : aH n (fun t => gm (iC A B n n n) i t * gm C t j) = aH n fun t => aH n fun u => gm A i u * gm B u t * gm C t j := aI fun t ht => by
  rw [kD hi ht,← iH]
 have e2 : aH n (fun u => gm A i u * gm (iC B C n n n) u j) = aH n fun u => aH n fun t => gm A i u * gm B u t * gm C t j := aI fun u hu => by
  rw [kD hu hj,Qi.mul_comm',← iH]
  exact aI fun t _=>by grind
 rw [e1,e2,mB]
theorem Az {n i j:Nat} (hi:i < n) (hj:j < n):gm (sI n) i j = if i = j then 1 else 0:=xB hi hj
theorem a3B {n j i:Nat} (hi:i < n) (hj:j < n):gv (ek n j) i = if i = j then 1 else 0:=by
 have h:gv (ek n j) i = if j = i then 1 else 0:=Az (n:=n) hj hi
 rw [h]
 by_cases c:i = j
 ·rw [if_pos c,if_pos c.symm]
 ·rw [if_neg c,if_neg (Ne.symm c)]
theorem Nz {M : List (List Qi)} {n : Nat} (h : cM M n n) (hE : nQ M n = 0) : iC M (mS M n) n n n = sI n := jU iQ (pO n) fun i hi j hj => by
 have hs:=(Bv h (In hE j hj)).1 i hi
 rw [kD hi hj,Az hi hj,← a3B hi hj,← hs]
 exact aI fun t ht=>by rw [show gm (mS M n) t j = gv (kL M (ek n j) n) t from mH ht hj]
theorem a0f {M X : List (List Qi)} {n : Nat} (h : iC X M n n n = sI n) {y : Nat → Qi} (hy : ∀ i, i < n → aH n (fun k => gm M i k * y k) = 0) : ∀ k, k < n → y k = 0 := fun k hk => by
 have e1:aH n (fun i=>gm X k i * aH n (fun t=>gm M i t * y t)) = 0:=mX fun i hi=>by rw [hy i hi]; grind
 have e2 : aH n (fun i => gm X k i * aH n (fun t => gm M i t * y t)) = aH n fun i => aH n fun t => gm X k i * gm M i t * y t := aI fun i _ => by
  rw [Qi.mul_comm',← iH]; exact aI fun t _=>by grind
 have e3 : aH n (fun t => aH n fun i => gm X k i * gm M i t * y t) = aH n fun t => gm (sI n) k t * y t := aI fun t ht => by
  rw [← h,kD hk ht,← iH]
 rw [e2,mB,e3] at e1
 rw [gA (i:=k) hk (fun t ht hne=>by rw [Az hk ht,if_neg (Ne.symm hne)]; grind),Az hk hk,if_pos rfl] at e1
 grind
theorem Od {M X : List (List Qi)} {n : Nat} (hM : cM M n n) (h : iC X M n n n = sI n) : nQ M n = 0 := sF fun k hk => by
 apply Classical.byContradiction; intro e
 obtain ⟨y,hy,k,hk,hne⟩:=Jy hM e
 exact hne (a0f h hy k hk)
theorem Vv {M X Y:List (List Qi)} {n:Nat} (hX:cM X n n) (hY:cM Y n n) (h:iC X M n n n = sI n) (k:iC M Y n n n = sI n):X = Y:=by
 rw [← Oj hX,← k,← Bh,h,Oi hY]
theorem a0R {M Y:List (List Qi)} {n:Nat} (hM:cM M n n) (hY:cM Y n n) (h:iC M Y n n n = sI n):iC Y M n n n = sI n:=by
 have e:=Od hY h
 have r:=Nz hY e
 rw [Vv hM (oR Y n) h r]; exact r
theorem a1u {M:List (List Qi)} {n:Nat} (h:cM M n n) (hE:nQ M n = 0):iC (mS M n) M n n n = sI n:=a0R h (oR M n) (Nz h hE)
theorem a2r {M X:List (List Qi)} {n:Nat} (hM:cM M n n) (hX:cM X n n) (h:iC X M n n n = sI n):nQ M n = 0 ∧ mS M n = X:=by
 have e:=Od hM h
 exact ⟨e,(Vv hX (oR M n) h (Nz hM e)).symm⟩
def Dz (a:Qi) (A:List (List Qi)) (b:Qi) (B:List (List Qi)) (n:Nat):List (List Qi):=tab n fun i=>tab n fun j=>a * gm A i j + b * gm B i j
def Ym (d:Nat → Qi) (A:List (List Qi)) (n:Nat):List (List Qi):=tab n fun i=>tab n fun j=>d i * gm A i j
section
variable {a b:Qi} {A B C:List (List Qi)} {d e:Nat → Qi} {n:Nat}
theorem pP:cM (Dz a A b B n) n n:=cM.tab
theorem a0W:cM (Ym d A n) n n:=cM.tab
theorem oS {i j:Nat} (hi:i < n) (hj:j < n):gm (Dz a A b B n) i j = a * gm A i j + b * gm B i j:=mH hi hj
theorem xX {i j:Nat} (hi:i < n) (hj:j < n):gm (Ym d A n) i j = d i * gm A i j:=mH hi hj
theorem Bd : iC (Dz a A b B n) C n n n = Dz a (iC A C n n n) b (iC B C n n n) n := jU iQ pP fun i hi j hj => by
 rw [kD hi hj,oS hi hj,kD hi hj,kD hi hj,Qi.mul_comm' a,Qi.mul_comm' b,← iH,← iH,← pC]
 exact aI fun t ht=>by rw [oS hi ht]; grind
theorem Wb : iC C (Dz a A b B n) n n n = Dz a (iC C A n n n) b (iC C B n n n) n := jU iQ pP fun i hi j hj => by
 rw [kD hi hj,oS hi hj,kD hi hj,kD hi hj,Qi.mul_comm' a,Qi.mul_comm' b,← iH,← iH,← pC]
 exact aI fun t ht=>by rw [oS ht hj]; grind
theorem Xg : iC (Ym d A n) C n n n = Ym d (iC A C n n n) n := jU iQ a0W fun i hi j hj => by
 rw [kD hi hj,xX hi hj,kD hi hj,Qi.mul_comm',← iH]
 exact aI fun t ht=>by rw [xX hi ht]; grind
theorem Vw {a' b':Qi} {A' B':List (List Qi)} (h:∀ i,i < n → ∀ j,j < n → a * gm A i j + b * gm B i j = a' * gm A' i j + b' * gm B' i j):Dz a A b B n = Dz a' A' b' B' n:=jU pP pP fun i hi j hj=>by rw [oS hi hj,oS hi hj,h i hi j hj]
end
theorem q2:Qi.ofInt 2 = 2:=rfl
theorem a41:lC * 2 = 1:=a0b
theorem Qw {x y : Qi} {D N : List (List Qi)} {n : Nat} (hxy : x * y = 1) (h : iC N D n n n = sI n) : nQ (Dz x D 0 D n) n = 0 ∧ mS (Dz x D 0 D n) n = Dz y N 0 N n := a2r pP pP (by
 rw [Wb,Bd,h]
 refine jU pP (pO n) fun i hi j hj=>?_
 rw [oS hi hj,oS hi hj]; grind)
theorem a2K {M:List (List Qi)} {n:Nat} (h:nQ M n = 0):Gf M n = 0:=if_pos h
section
variable {z:List Qi} {s:List (List Qi)}
end
end
section
open Go Go.RowKit
theorem zH {n C k : Nat} (h : ∀ N, 1 ≤ N → fs n N ≤ C * N ^ k) : ∀ N, 1 ≤ N → fs (n + 1) N ≤ 2 * (n + 1) * C * 4 ^ k * N ^ (2 * k + 1) := fun N hN => by
 have h4:1 ≤ 4 * N * N:=Nat.mul_pos zo zo
 have a:=h (4 * N * N) h4
 have e:(4 * N * N) ^ k = 4 ^ k * (N ^ k * N ^ k):=by rw [Nat.mul_pow,Nat.mul_pow,Nat.mul_assoc]
 have e2:N ^ (2 * k + 1) = N ^ k * N ^ k * N:=by rw [Nat.pow_succ,Nat.two_mul,Nat.pow_add]
 rw [fs,e2]
 refine Nat.le_trans (Nat.mul_le_mul_left _ a) ?_
 rw [e]
 refine Nat.le_of_eq ?_
 simp only [Nat.mul_comm,Nat.mul_left_comm,Nat.mul_assoc]
theorem zG {n C k C' k' : Nat} (h : ∀ N, 1 ≤ N → fs n N ≤ C * N ^ k) (hC : C ≤ C') (hk : k ≤ k') : ∀ N, 1 ≤ N → fs n N ≤ C' * N ^ k' := fun N hN =>
 Nat.le_trans (h N hN) (Nat.mul_le_mul hC (Nat.pow_le_pow_right hN hk))
theorem Vi {n:Nat} (hn:n ≤ 6):∀ N,1 ≤ N → fs n N ≤ (2 * 6 * (2 * 5 * 1610612736 * 4 ^ 15) * 4 ^ 31) * N ^ 63:=by
 have h4:∀ m,m ≤ 4 → ∀ N,1 ≤ N → fs m N ≤ 1610612736 * N ^ 15:=fun m hm N hN=>a05 hm hN
 have h5:∀ N,1 ≤ N → fs 5 N ≤ (2 * 5 * 1610612736 * 4 ^ 15) * N ^ 31:=zH (h4 4 (Nat.le_refl 4))
 have h6:∀ N,1 ≤ N → fs 6 N ≤ (2 * 6 * (2 * 5 * 1610612736 * 4 ^ 15) * 4 ^ 31) * N ^ 63:=zH h5
 by_cases a:n ≤ 4
 ·exact zG (h4 n a) (by decide) (by decide)
 ·by_cases b : n = 5
  ·subst b; exact zG h5 (by decide) (by decide)
  ·obtain rfl : n = 6 := by omega
   exact h6
theorem Lv {C m k M:Nat} (h:m + k = M) (hC:C < BB ^ k):C * BB ^ m < BB ^ M:=by
 subst h
 rw [Nat.pow_add,Nat.mul_comm (BB ^ m)]
 exact Nat.mul_lt_mul_of_pos_right hC (Nat.pow_pos eR)
section
variable {z:List Qi} {S c:List (List Qi)} {js:List (Int × Int)} {N:Nat}
end
end
section
open Go Go.RowKit
def Sh (w : Nat) : Nat → Nat
 | 0=>w
 | c + 1=>2 * Sh w c + 1
theorem tO (w : Nat) : ∀ {c d : Nat}, c ≤ d → Sh w c ≤ Sh w d
 | c,0,h=>by rw [show c = 0 by omega]; exact Nat.le_refl _
 | c, d + 1, h => by
  by_cases e:c = d + 1
  ·rw [e]; exact Nat.le_refl _
  ·have := tO w (c := c) (d := d) zo
   simp only [Sh]; omega
theorem Ml {w v : Nat} (h : w ≤ v) : ∀ c, Sh w c ≤ Sh v c
 | 0=>h
 | c + 1=>by have:=Ml h c; simp only [Sh]; omega
def vU (r:List Qi) (w:Nat):Prop:=∃ d:Qi,d ≠ 0 ∧ Gb d (BB ^ w) ∧ ∀ j,Gb (d * gv r j) (BB ^ w)
theorem vU.le {r:List Qi} {w v:Nat} (h:vU r w) (k:w ≤ v):vU r v:=by
 obtain ⟨d,d0,dg,dj⟩:=h
 have hp:BB ^ w ≤ BB ^ v:=Nat.pow_le_pow_right eR k
 exact ⟨d,d0,dg.le hp,fun j=>(dj j).le hp⟩
theorem Mk (w:Nat):2 * BB ^ w * BB ^ w + 2 * BB ^ w * BB ^ w ≤ BB ^ (2 * w + 1):=by
 have e:BB ^ (2 * w + 1) = BB ^ w * BB ^ w * BB:=by rw [Nat.pow_succ,Nat.two_mul,Nat.pow_add]
 rw [e,Nat.mul_assoc 2,← Nat.two_mul,← Nat.mul_assoc 2 2,Nat.mul_comm (2 * 2)]
 exact Nat.mul_le_mul_left _ (by decide)
theorem Vn {l:List Qi} {j:Nat} (h:l.length ≤ j):gv l j = 0:=by simp [gv,List.getD,List.getElem?_eq_none h]; rfl
theorem Nt (N:Nat):Gb 0 N:=⟨0,0,Qi.ext' rfl rfl,by simp,by simp⟩
theorem vU.red {rr rc:List Qi} {c w:Nat} {P:Nat → Prop} [DecidablePred P] (h1:vU rr w) (h2:vU rc w) (hp:gv rc c ≠ 0):vU (tab rr.length fun j=>if P j then gv rr j - gv rr c / gv rc c * gv rc j else gv rr j) (2 * w + 1):=by
 obtain ⟨d,d0,dg,dj⟩:=h1
 obtain ⟨e,e0,eg,ej⟩:=h2
 have t:=Mk w
 refine ⟨d * (e * gv rc c),fun k=>?_,(dg.mul (ej c)).le zo,fun j=>?_⟩
 ·rcases kS k with k | k
  ·exact d0 k
  ·rcases kS k with k | k
   ·exact e0 k
   ·exact hp k
 ·by_cases hj : j < rr.length
  ·rw [kR hj]
   by_cases hP:P j
   ·rw [if_pos hP]
    have hd:=rB (x:=gv rr c) hp
    have ee : d * (e * gv rc c) * (gv rr j - gv rr c / gv rc c * gv rc j) = d * gv rr j * (e * gv rc c) - d * gv rr c * (e * gv rc j) := by
     have e2:d * (e * gv rc c) * (gv rr c / gv rc c * gv rc j) = d * (gv rr c / gv rc c * gv rc c) * (e * gv rc j):=by grind
     rw [hd] at e2
     grind
    rw [ee]
    exact (((dj j).mul (ej c)).sub ((dj c).mul (ej j))).le t
   ·rw [if_neg hP]
    have ee:d * (e * gv rc c) * gv rr j = d * gv rr j * (e * gv rc c):=by grind
    rw [ee]
    exact ((dj j).mul (ej c)).le zo
  ·rw [Vn (l := tab rr.length fun j => if P j then gv rr j - gv rr c / gv rc c * gv rc j else gv rr j) (by rw [bI]; omega)]
   have ee:d * (e * gv rc c) * 0 = 0:=by grind
   rw [ee]; exact Nt _
theorem vU.fit {r : List Qi} {w : Nat} (h : vU r w) : bP r (4 * (w + 1) + 2) := fun x hx => by
 obtain ⟨d,d0,dg,dj⟩:=h
 obtain ⟨j,hj,e⟩:=List.getElem_of_mem hx
 have e2:gv r j = x:=by simp [gv,List.getD,hj,e]
 have hlt:BB ^ w < BB ^ (w + 1):=Nat.pow_lt_pow_right (by decide) zo
 have f1:aD (d * gv r j) (w + 1):=(dj j).fit hlt zo
 have f2:aD d (w + 1):=dg.fit hlt zo
 have f3:aD (d * gv r j / d) (w + 1 + 3 * (w + 1) + 2):=Fr f1 f2 d0
 rw [Vb (z:=x) d0 (by rw [e2]; grind)] at f3
 exact f3.le zo
theorem a0U {r:List Qi} {m L:Nat} (hl:r.length = m) (h:bP r L) (hL:1 ≤ L):vU r (m * L):=by
 obtain ⟨d,d0,dl,dj⟩:=Gh (L:=L) (x:=gv r) m fun j _=>h.get hL j
 refine ⟨Qi.ofInt d,Ja d0,⟨d,0,Qi.ext' rfl (by show (0:Rat) = ((0:Int):Rat); rfl),by simpa using dl,by simp⟩,fun j=>?_⟩
 by_cases hj:j < m
 ·exact dj j hj
 ·rw [Vn zo]
  have ee:Qi.ofInt d * 0 = 0:=by grind
  rw [ee]; exact Nt _
abbrev mF (M:List (List Qi)) (w:Nat):Prop:=∀ r,r ∈ M → vU r w
theorem mF.row {M : List (List Qi)} {w i : Nat} (h : mF M w) (hi : i < M.length) : vU (cL M i) w := h _ (by
 rw [show cL M i = M[i] by simp [cL,List.getD,hi]]; exact List.getElem_mem hi)
theorem Jq {M:List (List Qi)} {n m L:Nat} (hs:cM M n m) (h:aS M L) (hL:1 ≤ L):mF M (m * L):=fun r hr=>a0U (hs.2 r hr) (h r hr) hL
theorem mF.swp {M : List (List Qi)} {w p c : Nat} (h : mF M w) (hp : p < M.length) (hc : c < M.length) : mF (swp [] M p c) w := fun x hx => by
 unfold Go.Proofs.YteohomnhncjcnaaGreat.swp at hx
 rcases List.mem_or_eq_of_mem_set hx with h1 | h1
 ·rcases List.mem_or_eq_of_mem_set h1 with h2 | h2
  ·exact h x h2
  ·rw [h2]; exact h.row hc
 ·rw [h1]; exact h.row hp
theorem mF.redM {M : List (List Qi)} {w c r : Nat} (h : mF M w) (hc : c < M.length) (hp : gm M c c ≠ Qi.zero) : mF (redM M c r) (2 * w + 1) := fun x hx => by
 obtain ⟨i,hi,rfl⟩:=iT.1 hx
 show vU (if c < i ∧ i < r then lI (cL M i) (cL M c) c (cL M i).length else cL M i) _
 split
 ·exact (h.row hi).red (h.row hc) hp
 ·exact (h.row hi).le zo
theorem mF.redJ {M : List (List Qi)} {w c r : Nat} (h : mF M w) (hc : c < M.length) (hp : gm M c c ≠ Qi.zero) : mF (redJ M c r) (2 * w + 1) := fun x hx => by
 obtain ⟨i,hi,rfl⟩:=iT.1 hx
 show vU (if i ≠ c ∧ i < r then iG (cL M i) (cL M c) c (cL M i).length else cL M i) _
 split
 ·exact (h.row hi).red (h.row hc) hp
 ·exact (h.row hi).le zo
theorem Dt {M : List (List Qi)} {n m w : Nat} (hs : cM M n m) (h : mF M w) : ∀ {c : Nat}, c ≤ n → mF (cI M c).1 (Sh w c)
 | 0,_=>h
 | c + 1, hc => by
  have ih:=Dt hs h (c:=c) zo
  have sh:=oQ hs (c:=c) zo
  obtain ⟨_,i2,i3,i4⟩:=lA (M:=(cI M c).1) (c:=c) (n:=M.length) (by rw [hs.1]; omega)
  have hml:=hs.1
  have hel:=sh.1
  simp only [cI,Sh]
  split
  ·exact fun r hr=>(ih r hr).le zo
  ·split
   ·exact fun r hr=>(ih r hr).le zo
   ·rename_i e
    split
    ·rename_i e2
     refine mF.redM ih zo ?_
     have:=i4 zo
     rw [e2] at this; exact this
    ·refine mF.redM (ih.swp zo zo) (by rw [wY]; omega) ?_
     show gv (cL (swp [] _ _ c) c) c ≠ _
     rw [tN (by rw [sh.1]; omega)]
     exact i4 zo
theorem Nu {M : List (List Qi)} {n m w : Nat} (hs : cM M n m) (hnm : n ≤ m) (h : mF M w) : ∀ {c : Nat} {A : List (List Qi)}, c ≤ n → nJ M c = some A → mF A (Sh w c)
 | 0,A,_,e=>by obtain rfl:=Option.some.inj e; exact h
 | c + 1, A, hc, e => by
  simp only [nJ] at e
  obtain ⟨B,h1,h2⟩:=Option.bind_eq_some_iff.1 e
  split at h2
  ·cases h2
  ·rename_i e3
   obtain rfl:=Option.some.inj h2
   have ih:=Nu hs hnm h (c:=c) zo h1
   have hsB:=(vF hs hnm (c:=c) zo h1).sh
   rw [hs.1] at e3 ⊢
   have hbl:=hsB.1
   obtain ⟨_,i2,i3,i4⟩:=lA (M:=B) (c:=c) (n:=n) zo
   refine mF.redJ (ih.swp zo zo) (by rw [wY]; omega) ?_
   show gv (cL (swp [] _ _ c) c) c ≠ _
   rw [tN (by rw [hsB.1]; omega)]
   exact i4 zo
def stG (w n:Nat):Nat:=4 * (Sh w n + 1) + 2
theorem a00 {M : List (List Qi)} {n m L c : Nat} (hs : cM M n m) (hM : aS M L) (hL : 1 ≤ L) (hc : c ≤ n) : aS (cI M c).1 (stG (m * L) n) := fun r hr =>
 ((Dt hs (Jq hs hM hL) hc r hr).le (tO _ hc)).fit
theorem a3G {M A : List (List Qi)} {n m L c : Nat} (hs : cM M n m) (hnm : n ≤ m) (hM : aS M L) (hL : 1 ≤ L) (hc : c ≤ n) (hA : nJ M c = some A) : aS A (stG (m * L) n) := fun r hr =>
 ((Nu hs hnm (Jq hs hM hL) hc hA r hr).le (tO _ hc)).fit
theorem Mv {U : List (List Qi)} {n i : Nat} : ∀ {k j : Nat}, j + k ≤ n → n - j ≤ i → gv (nA U n (j + k)) i = gv (nA U n j) i
 | 0,_,_,_=>rfl
 | k + 1, j, h, hi => by
  rw [show j + (k + 1) = (j + k) + 1 by omega,nA,gv,List.getD,List.getElem?_set_ne zo]
  exact Mv (k:=k) zo hi
theorem Mw {U : List (List Qi)} {n i : Nat} : ∀ {j : Nat}, j ≤ n → i < n - j → gv (nA U n j) i = 0
 | 0,_,h=>by rw [nA,kR zo]; rfl
 | j + 1, hj, h => by
  rw [nA,gv,List.getD,List.getElem?_set_ne zo]
  exact Mw (j:=j) zo zo
theorem Yz {M : List (List Qi)} {b : List Qi} {n j X : Nat} (hX : 1 ≤ X) (h : bP (kL M b n) X) (hj : j ≤ n) : bP (nA (rO M b n).1 n j) X := fun x hx => by
 obtain ⟨i,hi,e⟩:=List.getElem_of_mem hx
 have e2:gv (nA (rO M b n).1 n j) i = x:=by simp [gv,List.getD,hi,e]
 rw [qW] at hi
 rw [← e2]
 by_cases c:n - j ≤ i
 ·have k := Mv (U := (rO M b n).1) (n := n) (k := n - j) (j := j) zo c
  rw [show j + (n - j) = n by omega] at k
  rw [← k]; exact h.get hX i
 ·rw [Mw hj zo]; exact aD.zero hX
structure Yf (M:List (List Qi)) (b:List Qi) (n G X:Nat):Prop where
 st:∀ c,c ≤ n → aS (cI (gN M [b] n) c).1 G
 bk:kU M b n = 0 → ∀ j,j ≤ n → bP (nA (rO M b n).1 n j) X
 g1:1 ≤ G
 x1:1 ≤ X
 g:6 * G + 4 ≤ 17592186044415
 x:n * (X + G + 2) + 4 * G + 2 ≤ 17592186044415
theorem Yf.old {M:List (List Qi)} {b:List Qi} {n L:Nat} (hM:cM M n n) (hf:aS M L) (hfb:bP b L) (hL:1 ≤ L) (hg:6 * sH L n + 4 ≤ 17592186044415) (hx:Pp (sH L n) (n + 1) ≤ 17592186044415):Yf M b n (sH L n) (Pp (sH L n) n):=by
 have hcs:cM (gN M [b] n) n (n + 1):=iY hM
 have hcf:aS (gN M [b] n) L:=qD hf (fun r hr=>by simp at hr; subst hr; exact hfb) hL
 have hG1:1 ≤ sH L n:=Nat.le_trans hL (zJ L n)
 refine ⟨fun c hc=>(Ax hcs hcf hL hc).le (uC L hc),fun hE j hj=>?_,hG1,Nat.le_trans hG1 (Mm _ _),hg,hx⟩
 have hst:¬ 0 ≤ (rO M b n).2.2:=fun h=>by rw [kU,if_pos h] at hE; omega
 have hf2:=Te (Xp hM hf hfb hL) hG1 (qF hcs (Nat.le_refl n) (Ph hst)) j hj
 exact fun y hy=>(hf2 y hy).le (Kf _ hj)
theorem xR {M : List (List Qi)} {n G X : Nat} (hz : ∀ i, i < n → Yf M (ek n i) n G X) (hE : nQ M n = 0) : aS (mS M n) X := fun r hr => by
 obtain ⟨i,_,rfl⟩:=iT.1 hr
 exact bP.tab fun j hj=>((hz j hj).bk (In hE j hj) n (Nat.le_refl n)).get (hz j hj).x1 i
structure Yr (M:List (List Qi)) (b:List Qi) (n G:Nat):Prop where
 st:∀ c A,c ≤ n → nJ (gN M [b] n) c = some A → aS A G
 g1:1 ≤ G
 g:6 * G + 4 ≤ 17592186044415
theorem Yr.old {M : List (List Qi)} {b : List Qi} {n L : Nat} (hM : cM M n n) (hf : aS M L) (hfb : bP b L) (hL : 1 ≤ L) (hg : 6 * sH L n + 4 ≤ 17592186044415) : Yr M b n (sH L n) :=
 ⟨fun _ _ hc hA=>(Vm (show cM (gN M [b] n) n (n + 1) from iY hM) (Nat.le_succ n) (qD hf (fun r hr=>by simp at hr; subst hr; exact hfb) hL) hL hc hA).le (uC L hc),Nat.le_trans hL (zJ L n),hg⟩
theorem Vh {n:Nat} (hn:n ≤ 8):∀ N,1 ≤ N → fs n N ≤ (2 * 8 * (2 * 7 * (2 * 6 * (2 * 5 * 1610612736 * 4 ^ 15) * 4 ^ 31) * 4 ^ 63) * 4 ^ 127) * N ^ 255:=by
 have h6:∀ N,1 ≤ N → fs 6 N ≤ (2 * 6 * (2 * 5 * 1610612736 * 4 ^ 15) * 4 ^ 31) * N ^ 63:=fun N hN=>Vi (Nat.le_refl 6) N hN
 have h7:∀ N,1 ≤ N → fs 7 N ≤ (2 * 7 * (2 * 6 * (2 * 5 * 1610612736 * 4 ^ 15) * 4 ^ 31) * 4 ^ 63) * N ^ 127:=zH h6
 have h8:∀ N,1 ≤ N → fs 8 N ≤ (2 * 8 * (2 * 7 * (2 * 6 * (2 * 5 * 1610612736 * 4 ^ 15) * 4 ^ 31) * 4 ^ 63) * 4 ^ 127) * N ^ 255:=zH h7
 by_cases a:n ≤ 6
 ·exact zG (Vi a) (by decide) (by decide)
 ·by_cases b : n = 7
  ·subst b; exact zG h7 (by decide) (by decide)
  ·obtain rfl : n = 8 := by omega
   exact h8
theorem Ig {n e K:Nat} (hn:n ≤ 8) (he:e * 255 + 17 = K):fs n (BB ^ e) < BB ^ K:=by
 refine Nat.lt_of_le_of_lt (Vh hn _ (Nat.pow_pos eR)) ?_
 rw [← Nat.pow_mul]
 exact Lv he (by show _ < 4294967296 ^ 17; decide)
def Cv (L:Nat):Nat:=4 * (9 * L * 255 + 17) + 2
def Md (L:Nat):Nat:=stG (9 * L) 8
theorem Xo {M : List (List Qi)} {b : List Qi} {n L : Nat} (h : cM M n n) (hM : aS M L) (hb : bP b L) (hL : 1 ≤ L) (hn : n ≤ 8) (hE : kU M b n = 0) : bP (kL M b n) (Cv L) :=
 Xr (m:=8) (K:=9 * L * 255 + 17) h hM hb hL hn (Ig (e:=(8 + 1) * L) (K:=9 * L * 255 + 17) hn zo) zo hE
theorem Me (L:Nat):Md L = 9216 * L + 1026:=by simp only [Md,stG,Sh]; omega
theorem a2Y (L:Nat) (h:L ≤ 10000000):4 * (9 * L * 255 + 17) + 2 + (9216 * L + 1026) + 2 ≤ 200000000000:=by omega
theorem a2Z (L:Nat) (h:L ≤ 10000000):4 * (9216 * L + 1026) + 2 ≤ 400000000000:=by omega
theorem a30 (n A B:Nat) (hn:n ≤ 8) (hA:A ≤ 200000000000) (hB:B + 2 ≤ 400000000000):n * A + B + 2 ≤ 17592186044415:=by
 have:n * A ≤ 8 * A:=Nat.mul_le_mul_right _ hn
 omega
theorem a31 (n L:Nat) (hn:n ≤ 8) (h:L ≤ 10000000):n * (Cv L + Md L + 2) + 4 * Md L + 2 ≤ 17592186044415:=by
 rw [Me,Cv]
 exact a30 n _ _ hn (a2Y L h) (a2Z L h)
theorem Xx (L:Nat) (h:L ≤ 10000000):6 * Md L + 4 ≤ 17592186044415:=by rw [Me]; omega
theorem Xy (L:Nat):1 ≤ Md L:=by rw [Me]; omega
theorem Mg (L:Nat):1 ≤ Cv L:=by unfold Cv; omega
theorem a3T {M:List (List Qi)} {b:List Qi} {n L:Nat} (h:cM M n n) (hM:aS M L) (hb:bP b L) (hL:1 ≤ L) (hLb:L ≤ 10000000) (hn:n ≤ 8):Yf M b n (Md L) (Cv L):=by
 have hcs:cM (gN M [b] n) n (n + 1):=iY h
 have hcf:aS (gN M [b] n) L:=qD hM (fun r hr=>by simp at hr; subst hr; exact hb) hL
 have hle : stG ((n + 1) * L) n ≤ Md L := by
  have hw:(n + 1) * L ≤ 9 * L:=Nat.mul_le_mul_right _ zo
  have h1:=Ml hw n
  have h2:=tO (9 * L) hn
  simp only [stG,Md]; omega
 exact ⟨fun c hc=>(a00 hcs hcf hL hc).le hle,fun hE j hj=>Yz (Mg L) (Xo h hM hb hL hn hE) hj,Xy L,Mg L,Xx L hLb,a31 n L hn hLb⟩
theorem a46 {M:List (List Qi)} {b:List Qi} {n L:Nat} (h:cM M n n) (hM:aS M L) (hb:bP b L) (hL:1 ≤ L) (hLb:L ≤ 10000000) (hn:n ≤ 8):Yr M b n (Md L):=by
 have hcs:cM (gN M [b] n) n (n + 1):=iY h
 have hcf:aS (gN M [b] n) L:=qD hM (fun r hr=>by simp at hr; subst hr; exact hb) hL
 have hle : stG ((n + 1) * L) n ≤ Md L := by
  have hw:(n + 1) * L ≤ 9 * L:=Nat.mul_le_mul_right _ zo
  have h1:=Ml hw n
  have h2:=tO (9 * L) hn
  simp only [stG,Md]; omega
 exact ⟨fun c A hc hA=>(a3G hcs (Nat.le_succ n) hcf hL hc hA).le hle,Xy L,Xx L hLb⟩
end
section
open Go Go.RowKit
theorem a3n {n:Nat} (hn:n ≤ 32):gF Tryz.prog 94 [NT .i64 n] [] (Nat) (fun B=>Is (.slice (some ⟨B,0,none⟩) n n)) (fun B=>[jQ dT B 29 51 5 (bL aN (sI n))]) (fun _=>True):=by
 refine gF.intro Tryz.func94 rfl Tryz.ntmps94 rfl (fun cx Z=>(ts (ro rfl (cQ cV) (eX (ts (rn rfl (eW (Ts:=[Is (.bool false),Is (.slice none 0 0),Is (.bool false),Is (.slice none 0 0),Is (.slice none 0 0)]) O_51 rfl (fun V=>aW zd (aW zd (aW zd (aW zd (aW zd (aG))))))) fun B3=>(eX (ts (rm rfl (ro rfl (aL.nat (a0E (Ht rfl) (cJ 0)) (show max n 0 = n by omega)) (ro rfl (aL.nat (Ge (Ht rfl) (cJ 32)) (show min n 32 = n by omega)) ?_)))))))))))
 refine rn rfl (eE (T:=Is (.slice none 0 0)) (i:=Tryz.t29) V_30 nW rfl rfl (Ht rfl) rfl (fun _=>rfl) trivial (by show 24 * _ ≤ _; omega) zo) fun B9=>ra rfl (eX (cK (ts (rm rfl (ro rfl (hJ U_30 (Ht rfl)) (ro rfl (cX (cJ 0)) (eX (eG (nO 2 rfl (wM dT ⟨none,0,rfl⟩ (e:=51) (s:=5)) ?_)))))))))
 refine bS (fun (k : Nat) => k ≤ n) (fun (k : Nat) => n - k) (fun (k : Nat) => [(3, dA B3 0), (4, Is (.slice (some ⟨B9, 0, none⟩) n n)), (11, NT .i64 n), (12, NT .i64 k)]) (fun (k : Nat) => [Z, box B3 51 [Is (.bool false), Is (.slice none 0 0), Is (.bool false), Is (.slice none 0 0), Is (.slice none 0 0)], jQ dT B9 29 51 5 (bL aN (iU (uU n) [] n k))]) 0 (Nat.zero_le _)
  (zS rfl) (aU (fun _ _ _ h=>h) (aU (fun _ _ _ h=>h) (aU (bE (by rw [← iF,mC]; exact mK aN n)) aY))) (fun k hk=>?_)
 refine ts (ro rfl (gX (Ht rfl) (Ht rfl)) (eX (cK (dQ (Ht rfl) (fun hd=>?_) (fun hd=>?_)))))
 ·simp only [decide_eq_true_eq] at hd
  refine jK 2 (k) rfl (kQ hd) (fun v hv=>(cU (cK (eG (ts (rm rfl (ra rfl (eX (cK (fZ (m:=10) (dp 4 rfl (cX (Ht rfl)) (dp 5 rfl (cX (Ht rfl)) (dp 3 rfl (eJ A_51 Z_51 (Ht rfl) (i:=1) rfl rfl rfl) (dq 17 2 rfl (cC dE (Ht rfl)) (d0 rfl (cZ K_77 (qA (n:=0) (by decide) (by decide)) ⟨(cJ 0),trivial⟩) (cP 18 3 19 4 rfl (bO mT K_302 Df (Ht rfl) ⟨(Ht rfl),trivial⟩) (dq 20 5 rfl (dN (xs:=[.tmp 20]) U_29 Z_51 O_51 (cW (Ht rfl) cG) rfl rfl rfl) ?_)))))))))))))))))
  refine dp 4 rfl (cX (Ht rfl)) (dq 22 7 rfl (hJ U_30 (Ht rfl)) (C.D_new (Ei:=[(21,_),(23,_)]) rfl rfl rfl (bV (bG 6 rfl rfl) (bV (bG 8 rfl rfl) bW)) (Qy Tryz.call191 (Tk (m:=n) zo zo) ⟨(Ht rfl),(Ht rfl),trivial⟩) (fV aO rfl (by kernel_rfl) (zF (zF (aJ (C.F_new (fun B24=>aV (ro rfl (fY U_30 Z_29 (Ht rfl) (Ht rfl) rfl zo (by rw [Nat.mul_one,Nat.zero_add])) ?_)))))))))
  refine rX Z_29 (Ht rfl) (Ht rfl) (by simp only [bL,List.length_map,eM]; omega) (j:=2) (l:=4) rfl rfl rfl ?_
  refine eX ?_
  have hB24:=B24.1.2
  refine fZ (m:=9) (dp 4 rfl (cX (Ht rfl)) (dp 5 rfl (cX (Ht rfl)) (cP 26 0 27 1 rfl (fY U_30 Z_29 (Ht rfl) (Ht rfl) rfl zo (by rw [Nat.mul_one,Nat.zero_add])) ?_)))
  refine dq 28 2 rfl (gS A_29 Z_29 (Ht rfl) (j:=2) rfl) (dp 5 rfl (cX (Ht rfl)) (dp 3 rfl (eJ A_51 Z_51 (Ht rfl) (i:=1) rfl rfl rfl) (dq 31 5 rfl (cC dE (Ht rfl)) (d0 rfl (cZ K_77 (qA (n:=1) (by decide) (by decide)) ⟨(cJ 1),trivial⟩) (cP 32 6 33 7 rfl (bO mT K_302 Df (Ht rfl) ⟨(Ht rfl),trivial⟩) (fV aO rfl (by kernel_rfl) (zF (zF (aJ (aV (ro rfl (dB U_29 Z_51 (Ht rfl) (Ht rfl) rfl (i:=4) rfl (by simp only [List.length_map,bI]; omega) rfl) ?_)))))))))))
  refine kM Z_51 (Ht rfl) (Ht rfl) (El.ag rfl) (i:=4) rfl rfl (by simp only [List.length_map,bI]; omega) rfl ?_
  refine eX (bA (dS 2 4 rfl rfl (by decide) (by simp only [bL,List.length_map,eM]; omega) ?_))
  refine cY (ro rfl (dV (Ht rfl) (cJ 1) z6) (rm rfl (eX (cH [0,1,2] rfl (by decide) (fU (k + 1) hd zo (zS rfl) (aU (fun _ _ _ h=>h) (aU (fun _ _ _ h=>h) (aU (bE (by rw [← jH (f:=uU n),← eH,uU,← fI])) aY))))))))
 ·simp only [decide_eq_false_iff_not] at hd
  obtain rfl:n = k:=Nat.le_antisymm zo hk
  refine gV rfl (ts (rm rfl (ra rfl (eX ?_))))
  exact jM B9 trivial [0,2] ⟨⟨_,rfl,fun _ _ _ h=>h⟩,⟨_,rfl,(bE (by rw [jG]; rfl))⟩,trivial⟩ (by decide) (vM rfl (eU rfl))
theorem a40 {n:Nat} (hn:n ≤ 32):bB Tryz.prog 94 [NT .i64 n] (cE (sI n)):=(a3n hn).fun fun B _ v S V h1 h2=>gK (s:=5) (M:=sI n) (pO n).1.symm v S V h1 h2
theorem Tl {M:List (List Qi)} {b:List Qi} {n G X:Nat} (hM:cM M n n) (hb:b.length = n) (hz:Yf M b n G X) (h1:1 ≤ n) (hn:n ≤ 32):bB Tryz.prog 96 [cE M,bN b] (fH [bN (dP (kU M b n) (kL M b n)),bD .i64 (kU M b n)]):=by
 have hMl:=hM.1
 have hcs:cM (gN M [b] n) n (n + 1):=iY hM
 have hg:=hz.g
 have hx:n * (G + X + 2) + 4 * G + 2 ≤ 17592186044415:=by rw [Nat.add_comm G X]; exact hz.x
 obtain ⟨U,hU⟩:∃ U,U = (rO M b n).1:=⟨_,rfl⟩
 have hUs:cM U n (n + 1):=by rw [hU]; exact Xq hM
 have hUl:=hUs.1
 have hUf:aS U G:=by rw [hU]; exact hz.st n (Nat.le_refl n)
 have hG1:=hz.g1
 have hX1:=hz.x1
 refine bB.intro Tryz.func96 rfl Tryz.ntmps96 rfl (fun cx=>(ts (ro rfl (cQ cV) (ro rfl (cQ (cJ 0)) (eX (cK (ts (rm rfl (ro rfl (cZ Tryz.call174 (Hg hM h1 hn) ⟨(Ht rfl),trivial⟩) (ro rfl (eT (Ht rfl)) (rm rfl (fQ rfl rfl (eK rfl rfl (Ht rfl) (fun h=>cX (Ht rfl))) (fQ rfl rfl (eK rfl rfl (Ht rfl) (fun h=>dG U_29 (fJ rfl h) aA)) (fQ rfl rfl (eK rfl rfl (Ht rfl) (fun h=>cX (Ht rfl))) (fQ rfl rfl (eK rfl rfl (Ht rfl) (fun h=>dG U_30 (fJ rfl h) aA)) ?_)))))))))))))))
 refine fQ rfl rfl (eK rfl rfl (Ht rfl) (fun h=>eO (fJ rfl h) (fJ rfl h))) (ro rfl (gT (Ht rfl) (fun h=>(fJ rfl h))) (eX (iR (Ht rfl) (by simp [hMl,hb]) ?_)))
 refine cU (ts (rm rfl (ro rfl (dG U_30 (Ht rfl) (by rw [List.length_map,hMl])) ?_)))
 refine ra rfl (eX (ts (rm rfl (rm rfl (ro rfl (dN (xs:=[.tmp 26]) U_30 Z_29 Tryz.zeroValue29 (cW (Ht rfl) cG) rfl rfl rfl) (jF Tryz.call193 (Dg (M:=M) (bs:=[b]) (n:=n) (m:=n) hM (fun r hr=>by simp at hr; subst hr; omega) zo zo (by simp)) ⟨(Ht rfl),(Ht rfl),trivial⟩ rfl (fun B28 _=>?_)))))))
 refine ra rfl (eX (cK (ts (rm rfl (Er Tryz.call194 (Zh (n:=n) (m:=n + 1) (G:=G) hcs hz.st hG1 hg zo zo) (i:=0) rfl ⟨(Ht rfl),trivial⟩ rfl (fun uu _=>(rm rfl (ro rfl (dK (Ht rfl) rfl) (ro rfl (dK (Ht rfl) rfl) (ra rfl (ra rfl (eX (ts (rm rfl (ro rfl (lT (Ht rfl) cV) (eX (dQ (Ht rfl) (fun hs=>?_) (fun hs=>?_))))))))))))))))))
 ·have he : kU M b n = 6 := by rw [kU, if_pos (show 0 ≤ (rO M b n).2.2 from of_decide_eq_true hs)]
  refine ts (ro rfl (cQ cV) (ro rfl (cQ (cJ 6)) (eX (bM rfl (fX (eU rfl) ?_) (fX (eU rfl) ?_)))))
  ·exact (fun v V k=>by rw [he]; exact gY v V k)
  ·exact (aR he.symm)
 ·have hst : ¬ 0 ≤ (rO M b n).2.2 := of_decide_eq_false hs
  have he:kU M b n = 0:=by rw [kU,if_neg hst]
  have hdz:∀ i,i < n → gm U i i ≠ Qi.zero:=by rw [hU]; exact qF hcs (Nat.le_refl n) (Ph hst)
  refine cU (ts (rm rfl (rn rfl (lY (T:=aN Qi.zero) (i:=Tryz.t51) nS lO rfl rfl (Ht rfl) rfl kT (El.ag rfl) (by show 88 * _ ≤ _; omega) zo) fun B37=>(ra rfl (eX (cK (ts (rm rfl (ro rfl (dW (Ht rfl) (cJ 1) zo z6) (ra rfl (eX (eG (nO 0 rfl (bE (show bL aN (cI (gN M [b] n) n).1 = bL aN U by rw [hU]; rfl)) (Eu 0 rfl (fun vs hvs=>?_)))))))))))))))
  have hvl:vs.length = n:=by have h:=hvs.len; rw [List.length_map,hUl] at h; exact h
  refine bS (fun (j : Nat) => j ≤ n) (fun (j : Nat) => n - j) (fun (j : Nat) => [(0, Is (.slice (some ⟨B28, 0, none⟩) n n)), (6, NT .i64 n), (9, Is B37), (10, bD .i64 ((n : Int) - 1 - (j : Int)))]) (fun (j : Nat) => [jD B28 29 51 5 vs vs (bL aN U), cD 51 5 B37 ((nA U n j).map aN)]) 0 (Nat.zero_le _)
   (aQ rfl (aQ rfl (aQ rfl (aZ rfl (aR zo) aX)))) (aU (fun _ _ _ h=>h) (aU (cA (by rw [nA]; exact Gj aN n)) aY)) (fun j hj=>?_)
  refine cK (ts (rm rfl (ro rfl (lT (Ht rfl) cV) (eX (dQ (Ht rfl) (fun hc=>?_) (fun hc=>?_))))))
  ·have hjn : j < n := a3j (of_decide_eq_true hc)
   obtain ⟨q,hq⟩:∃ q,q = n - (j + 1):=⟨_,rfl⟩
   have hqi:(n:Int) - 1 - (j:Int) = (q:Int):=by omega
   have hqr:(U.getD q []).length = n + 1:=hUs.row zo
   have hXf:bP (nA U n j) X:=by rw [hU]; exact hz.bk he j hj
   have hXl:=qW U n j
   refine cU (cK (eG (ts (rm rfl (rm rfl (ro rfl (fY U_30 Z_29 (Ht rfl) (Ht rfl) hqi zo (by rw [Nat.mul_one,Nat.zero_add])) ?_))))))
   refine ro rfl (gH A_29 Z_29 (Ht rfl) (j:=0) rfl zo) (rm rfl (ro rfl (jB U_29 Z_51 (Ht rfl) (Ht rfl) rfl (j:=0) rfl zo zo zo) (ro rfl (lU A_51 Z_51 (Ht rfl) (j:=0) rfl zo zo zo) (rn rfl (eW (Ts:=[Is (.bool false),Is (.slice none 0 0),Is (.bool false),Is (.slice none 0 0),Is (.slice none 0 0)]) O_51 rfl (fun V=>aW zd (aW zd (aW zd (aW zd (aW zd (aG))))))) fun B11=>?_))))
   refine gQ Z_51 (Ht rfl) (Ht rfl) rfl (i:=2) rfl (aK rfl) rfl rfl (eX (cK (ts (rm rfl (ro rfl (Lp (Ht rfl) cV (r:=((q + 1:Nat):Int)) ((Ch (z:=(n:Int) - 1 - (j:Int) + 1) zo).trans zo)) ?_)))))
   refine ra rfl (eX (eG ?_))
   refine bS (fun (k : Nat) => k ≤ j) (fun (k : Nat) => j - k) (fun (k : Nat) => [(0, Is (.slice (some ⟨B28, 0, none⟩) n n)), (6, NT .i64 n), (9, Is B37), (10, bD .i64 ((n : Int) - 1 - (j : Int))), (11, dA B11 0), (12, NT .i64 (q + 1 + k))]) (fun (k : Nat) => [jD B28 29 51 5 vs vs (bL aN U), cD 51 5 B37 ((nA U n j).map aN), box B11 51 [aC (decide ((nR U (nA U n j) n q k).a < 0)), aE (nR U (nA U n j) n q k).a.natAbs, aC (decide ((nR U (nA U n j) n q k).b < 0)), aE (nR U (nA U n j) n q k).b.natAbs, aE (du (nR U (nA U n j) n q k))]]) 0 (Nat.zero_le _)
    (zS rfl) (aU (fun _ _ _ h=>h) (aU (fun _ _ _ h=>h) (aU (aB rfl) aY))) (fun k hk=>?_)
   refine cK (ts (rm rfl (rm rfl (ro rfl (gX (Ht rfl) (Ht rfl)) (eX (dQ (Ht rfl) (fun hf=>?_) (fun hf=>?_)))))))
   ·have hkj : k < j := by simp only [decide_eq_true_eq] at hf; omega
    haveI f1:aD (nR U (nA U n j) n q k) (G + k * (G + X + 2)):=zR hUf hXf hG1 hX1 k
    haveI f2:aD (gm U q (q + 1 + k)) G:=hUf.get hG1 _ _
    haveI f3:aD (gv (nA U n j) (q + 1 + k)) X:=hXf.get hX1 _
    have hb1:k * (G + X + 2) + (G + X + 2) ≤ n * (G + X + 2):=by rw [← Nat.succ_mul]; exact Nat.mul_le_mul_right _ zo
    refine cU (cK (eG (fZ (m:=15) (dp 11 rfl (eJ A_51 Z_51 (Ht rfl) (i:=2) rfl rfl rfl) (dq 58 0 rfl (cC dE (Ht rfl)) (dp 0 rfl (cX (Ht rfl)) (dp 10 rfl (cX (Ht rfl)) (cP 60 2 61 3 rfl (fY U_30 Z_29 (Ht rfl) (Ht rfl) hqi zo (by rw [Nat.mul_one,Nat.zero_add])) ?_))))))))
    refine dq 62 4 rfl (gH A_29 Z_29 (Ht rfl) (j:=0) rfl zo) (dp 12 rfl (cX (Ht rfl)) (cP 63 5 64 6 rfl (jB U_29 Z_51 (Ht rfl) (Ht rfl) rfl (j:=0) rfl zo zo zo) (dq 65 7 rfl (lU A_51 Z_51 (Ht rfl) (j:=0) rfl zo zo zo) (dq 66 8 rfl (cC dE (Ht rfl)) (dp 9 rfl (cX (Ht rfl)) (dp 12 rfl (cX (Ht rfl)) (cP 68 10 69 11 rfl (dB U_29 Z_51 (Ht rfl) (Ht rfl) rfl (i:=1) rfl (by rw [List.length_map]; omega) rfl) ?_)))))))
    refine dq 70 12 rfl (oX A_51 Z_51 (Ht rfl) (i:=1) rfl rfl (dY (dU (d:=Qi.zero) zo))) (cP 67 9 71 13 rfl (bO fS K_45 (nH (x:=gm U q (q + 1 + k)) (y:=gv (nA U n j) (q + 1 + k)) (L:=G) (M:=X) zo) (Ht rfl) ⟨(Ht rfl),trivial⟩) (fV aO rfl (by kernel_rfl) (zF (zF (zF (aJ (aJ (aJ (aV (ro rfl (bO lX K_44 (yF (x:=(nR U (nA U n j) n q k)) (y:=gm U q (q + 1 + k) * gv (nA U n j) (q + 1 + k)) (L:=G + k * (G + X + 2)) (M:=G + X + 1) zo) (Ht rfl) ⟨(Ht rfl),trivial⟩) ?_))))))))))
    refine gQ Z_51 (Ht rfl) (Ht rfl) rfl (i:=2) rfl (aK rfl) rfl rfl (eX (bA (cY (rm rfl (ro rfl (dV (Ht rfl) (cJ 1) z6) (ra rfl (eX (fU (k + 1) hkj zo (zS rfl) (aU (fun _ _ _ h=>h) (aU (fun _ _ _ h=>h) (aU (aB rfl) aY)))))))))))
   ·obtain rfl : k = j := Nat.le_antisymm hk (by simp only [decide_eq_false_iff_not] at hf; omega)
    haveI f1:aD (nR U (nA U n k) n q k) (G + k * (G + X + 2)):=zR hUf hXf hG1 hX1 k
    haveI f2:aD (gm U q q) G:=hUf.get hG1 _ _
    have hb3:k * (G + X + 2) ≤ n * (G + X + 2):=Nat.mul_le_mul_right _ zo
    refine gV rfl (Y.D_start (m:=17) [(16,1,cD 51 5 B37 (((nA U n k).map aN).set q (aN ((nR U (nA U n k) n q k) / gm U q q))))] (Y.D_step (Ei:=[(9,_)]) rfl rfl (bQ (bJ rfl rfl) bX) rfl rfl (by kernel_rfl) (dX rfl (cX (Ht rfl))) (Y.D_step (Ei:=[(10,_)]) rfl rfl (bQ (bJ rfl rfl) bX) rfl rfl (by kernel_rfl) (dX rfl (cX (Ht rfl))) (Y.D_step (Ei:=[(11,_)]) rfl rfl (bQ (bJ rfl rfl) bX) rfl rfl (by kernel_rfl) (dX rfl (eJ A_51 Z_51 (Ht rfl) (i:=2) rfl rfl rfl)) ?_))))
    refine Y.D_step (Ei:=[(77,_)]) rfl rfl (bQ (bZ 2 rfl rfl) bX) rfl rfl (by kernel_rfl) (dX rfl (cC dE (Ht rfl))) (Y.D_step (Ei:=[(0,_)]) rfl rfl (bQ (bJ rfl rfl) bX) rfl rfl (by kernel_rfl) (dX rfl (cX (Ht rfl))) (Y.D_step (Ei:=[(10,_)]) rfl rfl (bQ (bJ rfl rfl) bX) rfl rfl (by kernel_rfl) (dX rfl (cX (Ht rfl))) (Y.D_step (Ei:=[(79,_),(80,_)]) rfl rfl (bQ (bZ 4 rfl rfl) (bQ (bZ 5 rfl rfl) bX)) rfl rfl (by kernel_rfl) (dX rfl (fY U_30 Z_29 (Ht rfl) (Ht rfl) hqi zo (by rw [Nat.mul_one,Nat.zero_add]))) ?_)))
    refine Y.D_step (Ei:=[(81,_)]) rfl rfl (bQ (bZ 6 rfl rfl) bX) rfl rfl (by kernel_rfl) (dX rfl (gH A_29 Z_29 (Ht rfl) (j:=0) rfl zo)) (Y.D_step (Ei:=[(10,_)]) rfl rfl (bQ (bJ rfl rfl) bX) rfl rfl (by kernel_rfl) (dX rfl (cX (Ht rfl))) (Y.D_step (Ei:=[(82,_),(83,_)]) rfl rfl (bQ (bZ 7 rfl rfl) (bQ (bZ 8 rfl rfl) bX)) rfl rfl (by kernel_rfl) (dX rfl (jB U_29 Z_51 (Ht rfl) (Ht rfl) hqi (j:=0) rfl zo zo zo)) ?_))
    refine Y.D_step (Ei:=[(84,_)]) rfl rfl (bQ (bZ 9 rfl rfl) bX) rfl rfl (by kernel_rfl) (dX rfl (lU A_51 Z_51 (Ht rfl) (j:=0) rfl zo zo zo)) (Y.D_step (Ei:=[(78,_),(85,_)]) rfl rfl (bQ (bZ 3 rfl rfl) (bQ (bZ 10 rfl rfl) bX)) rfl rfl (by kernel_rfl) (dX rfl (bO sN Tryz.call40 (Gw (x:=(nR U (nA U n k) n q k)) (y:=gm U q q) (L:=G + k * (G + X + 2)) (M:=G) zo) (Ht rfl) ⟨(Ht rfl),trivial⟩)) (Y.D_step (Ei:=[(86,_)]) rfl rfl (bQ (bZ 11 rfl rfl) bX) rfl rfl (by kernel_rfl) (dX rfl (cX (Ht rfl))) ?_))
    refine Y.D_step (Ei:=[(74,_)]) rfl rfl (bQ (bZ 12 rfl rfl) bX) rfl rfl (by kernel_rfl) (dX rfl (dK (Ht rfl) rfl)) (bY (Ei:=[(74,_)]) rfl rfl (bQ (bZ 12 rfl rfl) bX) rfl rfl (dX rfl (dK (Ht rfl) rfl)) (Y.D_step (Ei:=[(75,_),(76,_)]) rfl rfl (bQ (bZ 0 rfl rfl) (bQ (bZ 1 rfl rfl) bX)) rfl rfl (by kernel_rfl) (dX rfl (dB U_29 Z_51 (Ht rfl) (Ht rfl) hqi (i:=1) rfl (by rw [List.length_map]; omega) rfl)) ?_))
    refine Y.D_putI (Ei:=[(89,_),(87,_)]) 1 rfl rfl rfl (bQ (bZ 15 rfl rfl) (bQ (bZ 13 rfl rfl) bX)) (.head _) rfl (Cy Z_51 (Ht rfl) (Ht rfl) (El.ag rfl) (i:=0) rfl rfl (by rw [List.length_map]; omega)) ?_
    refine Y.D_done aO rfl (by kernel_rfl) rfl (by simp [Y.okP]) rfl rfl (bU (bU (bU (bU (bU (bU (bU (bU (bU (bU (bU (bU (bU (bU (bU (bU (Y.F_putI (Y.F_nil ?_))))))))))))))))))
    refine eX (bA (cY (rm rfl (ro rfl (iL (Ht rfl) cV (Ch zo)) (ra rfl (eX (cH [0,1] rfl (by decide) (fU (k + 1) hjn zo (aQ rfl (aQ rfl (aQ rfl (aZ rfl (aR zo) aX)))) (aU (fun _ _ _ h=>h) (aU (cA (by rw [fI,nA,← hq])) aY))))))))))
  ·obtain rfl : j = n := Nat.le_antisymm hj (a3k (by have h := of_decide_eq_false hc; omega))
   refine gJ (i:=1) (tt:=9) rfl rfl kH (gV rfl (ts (rm rfl (ra rfl (ro rfl (cQ (cJ 0)) (eX (bM rfl (fX (eU rfl) ?_) (fX (eU rfl) ?_))))))))
   ·exact (kF (by rw [he,kL,← hU]; rfl))
   ·exact (aR he.symm)
end
section
open Go Go.RowKit
theorem Pw {M:List (List Qi)} {n m:Nat} (hM:cM M n m) (hn:n ≤ 1000) (hm:m ≤ 1000):gF Tryz.prog 193 [cE M,Is (.slice none 0 0)] [] Nat (fun B=>Is (.slice (some ⟨B,0,none⟩) n n)) (fun B=>[oU B 29 51 5 (bL aN M)]) (fun _=>True):=by
 have h:=Dg (M:=M) (bs:=[]) hM (fun b hb=>by cases hb) hn hm (by simp)
 rw [Qk hM] at h
 exact h.arg Sw
theorem a1Y {M:List (List Qi)} {n G X:Nat} (hM:cM M n n) (hz:∀ i,i < n → Yf M (ek n i) n G X) (hn:n ≤ 32):bB Tryz.prog 248 [cE M] (fH [cE (dP (nQ M n) (mS M n)),bD .i64 (nQ M n)]):=by
 have hMl:=hM.1
 refine bB.intro Tryz.func248 rfl Tryz.ntmps248 rfl (fun cx=>(ts (ro rfl (cQ cV) (ro rfl (cQ (cJ 0)) (eX (cK (ts (rm rfl (ro rfl (cZ Tryz.call174 (Qg hM hn) ⟨(Ht rfl),trivial⟩) (ro rfl (eT (Ht rfl)) (eX (iR (Ht rfl) (by rfl) ?_))))))))))))
 refine cU (ts (rm rfl (jF Tryz.call193 (Pw hM zo zo) ⟨(Ht rfl),cV,trivial⟩ rfl (fun B14 _=>(ra rfl (eX (cK (ts (rm rfl (ro rfl (dG U_30 (Ht rfl) (by rw [List.length_map,hMl])) ?_))))))))))
 refine ro rfl (cZ Tryz.call94 (a40 (n:=n) hn) ⟨(Ht rfl),trivial⟩) (ro rfl (dG U_30 (Ht rfl) aA) (ro rfl (cX (cJ 0)) (eX (eG ?_))))
 refine bS (fun (k : Nat) => k ≤ n ∧ ∀ i, i < k → kU M (ek n i) n = 0) (fun (k : Nat) => n - k) (fun (k : Nat) => [(0, cE M), (4, Is (.slice (some ⟨B14, 0, none⟩) n n)), (17, cE (sI n)), (18, NT .i64 n), (19, NT .i64 k)]) (fun (k : Nat) => [oU B14 29 51 5 (bL aN (sK M n k 0))]) 0 ⟨Nat.zero_le _, fun i h => by omega⟩
  (aQ rfl (aQ rfl (aQ rfl (aZ rfl (kI (pO n).1) (zS rfl))))) (aU (bE (congrArg _ (Qv hM))) aY) (fun k ⟨hk,h0⟩=>?_)
 refine ts (ro rfl (gX (Ht rfl) (Ht rfl)) (eX (cK (dQ (Ht rfl) (fun hd0=>?_) (fun hd0=>?_)))))
 ·simp only [decide_eq_true_eq] at hd0
  have hel:=Uz hd0
  refine cU (cK (eG (ts (rm rfl (ro rfl (dZ U_30 Z_29 (Ht rfl) (Ht rfl) rfl (dY (dU (d:=[]) (by rw [(pO n).1]; exact hd0)))) ?_)))))
  refine ro rfl (dJ A_29 Z_29 (Ht rfl)) (ra rfl (ra rfl (eX (ts (rm rfl (rm rfl (ro rfl (cZ Tryz.call96 (Tl (M:=M) (b:=ek n k) (n:=n) (G:=G) (X:=X) hM hel (hz k hd0) zo hn) ⟨(Ht rfl),(Ht rfl),trivial⟩) (rm rfl (ro rfl (dK (Ht rfl) rfl) (ro rfl (dK (Ht rfl) rfl) (ra rfl (ra rfl (eX (cK (ts (rm rfl (ro rfl (kE (Ht rfl) cV) (eX (dQ (Ht rfl) (fun he=>?_) (fun he=>?_))))))))))))))))))))
  ·have he2 : ¬ kU M (ek n k) n = 0 := by simpa using he
   have hi:=Ny h0 hd0 he2
   refine ts (rm rfl (ro rfl (cQ cV) (ra rfl (eX (bM rfl (fX (eU rfl) ?_) (fX (eU rfl) ?_))))))
   ·exact (fun v V h=>by rw [hi,dP,if_neg he2]; exact gY v V h)
   ·exact (aR hi.symm)
  ·have he2 : kU M (ek n k) n = 0 := by simpa using he
   have hxl:(kL M (ek n k) n).length = n:=qW _ _ _
   refine oJ (E':=[(0,_),(4,_),(5,_),(7,_),(17,_),(18,_),(19,_)]) (aQ rfl (aQ rfl (aQ rfl (aZ rfl (kF (Us:=(kL M (ek n k) n).map aN) (by rw [he2]; rfl)) (zS rfl))))) ?_
   refine cU (ts (rm rfl (ro rfl (dG U_29 (Ht rfl) aA) (ro rfl (cX (cJ 0)) (eX (eG ?_))))))
   refine bS (fun (i : Nat) => i ≤ n) (fun (i : Nat) => n - i) (fun (i : Nat) => [(0, cE M), (4, Is (.slice (some ⟨B14, 0, none⟩) n n)), (5, NT .i64 k), (7, bN (kL M (ek n k) n)), (17, cE (sI n)), (18, NT .i64 n), (19, NT .i64 k), (34, NT .i64 n), (35, NT .i64 i)]) (fun (i : Nat) => [oU B14 29 51 5 (bL aN (sK M n k i))]) 0 (Nat.zero_le _)
    (aQ rfl (aQ rfl (aQ rfl (aQ rfl (aQ rfl (aQ rfl (aQ rfl (aZ rfl (kI hxl) (zS rfl))))))))) (cT.refl _) (fun i hi=>?_)
   refine ts (ro rfl (gX (Ht rfl) (Ht rfl)) (eX (cK (dQ (Ht rfl) (fun hf2=>?_) (fun hf2=>?_)))))
   ·simp only [decide_eq_true_eq] at hf2
    have hpl:=(qJ M n k i).1
    have hpr:((sK M n k i).getD i []).length = n:=(qJ M n k i).row hf2
    refine nT 0 (i) rfl (jP zo) (fun v=>(cU (cK (eG (ts (rm rfl (ra rfl (eX (fZ (m:=9) (dp 4 rfl (cX (Ht rfl)) (dp 9 rfl (cX (Ht rfl)) (cP 38 0 39 1 rfl (fY U_30 Z_29 (Ht rfl) (Ht rfl) rfl zo (by rw [Nat.mul_one,Nat.zero_add])) ?_))))))))))))
    refine dq 40 2 rfl (gS A_29 Z_29 (Ht rfl) (j:=0) rfl) (dp 5 rfl (cX (Ht rfl)) (dp 7 rfl (cX (Ht rfl)) (dp 9 rfl (cX (Ht rfl)) (cP 43 5 44 6 rfl (dZ U_29 Z_51 (Ht rfl) (Ht rfl) rfl (dY (dU (d:=Qi.zero) zo))) (dq 45 7 rfl (dJ A_51 Z_51 (Ht rfl)) (fV aO rfl (by kernel_rfl) (zF (zF (aJ (aV (ro rfl (dB U_29 Z_51 (Ht rfl) (Ht rfl) rfl (i:=1) rfl (by rw [List.length_map]; omega) rfl) ?_)))))))))))
    refine kM Z_51 (Ht rfl) (Ht rfl) (El.ag rfl) (i:=1) rfl rfl (by rw [List.length_map]; omega) rfl ?_
    refine eX (bA (dS 0 1 rfl rfl (by decide) (by simp only [bL,List.length_map]; omega) ?_))
    refine cY (ro rfl (dV (Ht rfl) (cJ 1) z6) (rm rfl (eX (cH [0] rfl (by decide) (fU (i + 1) hf2 zo (zS rfl) (aU (bE (by rw [fI,eH,Qu hf2 hd0])) aY))))))
   ·simp only [decide_eq_false_iff_not] at hf2
    obtain rfl:n = i:=Nat.le_antisymm zo hi
    refine gV rfl (bA (cY (ro rfl (dV (Ht rfl) (cJ 1) z6) (rm rfl (eX ?_)))))
    refine fU (k + 1) ⟨hd0, fun j h => by
     by_cases e:j = k
     ·rw [e]; exact he2
     ·exact h0 j zo⟩ zo (zS rfl) (aU (bE (by rw [Vr])) aY)
 ·simp only [decide_eq_false_iff_not] at hd0
  obtain rfl:n = k:=Nat.le_antisymm zo hk
  have hi:=Dy h0
  refine gJ (i:=0) (tt:=4) rfl rfl (gK (s:=5) (M:=sK M n n 0) (qJ M n n 0).1.symm) (gV rfl (ts (rm rfl (ra rfl (ro rfl (cQ (cJ 0)) (eX (bM rfl (fX (eU rfl) ?_) (fX (eU rfl) ?_))))))))
  ·exact (kF (by rw [hi,Vs]; rfl))
  ·exact (aR hi.symm)
end
section
open Go Go.RowKit
theorem Un (x y:Qi):(x + y).conj = x.conj + y.conj:=Qi.ext' rfl (by show -(x.im + y.im) = -x.im + -y.im; grind)
theorem Uo (x y:Qi):(x * y).conj = x.conj * y.conj:=Qi.ext' (by show x.re * y.re - x.im * y.im = x.re * y.re - -x.im * -y.im; grind) (by show -(x.re * y.im + x.im * y.re) = x.re * -y.im + -x.im * y.re; grind)
theorem Dn:(0:Qi).conj = 0:=Qi.ext' rfl (by show -(0:Rat) = 0; grind)
theorem Up:(1:Qi).conj = 1:=Qi.ext' rfl (by show -(0:Rat) = 0; grind)
theorem Uq (n:Nat) (f:Nat → Qi):(aH n f).conj = aH n fun i=>(f i).conj:=by
 induction n with
 | zero=>exact Dn
 | succ n ih=>rw [Ep,Ep,Un,ih]
theorem qS (n:Nat) (a:Qi) (f:Nat → Qi):aH n (fun k=>a * f k) = a * aH n f:=by
 rw [show a * aH n f = aH n f * a by grind,← iH]; exact aI fun _ _=>by grind
def yU (N:Nat) (p q:Nat → Qi) (C:Nat → Nat → Qi):Qi:=aH N fun a=>aH N fun b=>p a * C a b * (q b).conj
theorem vH {N : Nat} {p q p' q' : Nat → Qi} {C C' : Nat → Nat → Qi} (hp : ∀ a, a < N → p a = p' a) (hq : ∀ a, a < N → q a = q' a) (hC : ∀ a b, a < N → b < N → C a b = C' a b) : yU N p q C = yU N p' q' C' :=
 aI fun a ha=>aI fun b hb=>by rw [hp a ha,hq b hb,hC a b ha hb]
theorem Wy {N M : Nat} {p q : Nat → Qi} {r : Nat → Nat → Qi} {C : Nat → Nat → Qi} :
  yU N p q (fun a b=>yU M (r a) (r b) C) = yU M (fun u=>aH N fun a=>p a * r a u) (fun u=>aH N fun a=>q a * r a u) C:=by
 have e : ∀ u v, (aH N fun a => p a * r a u) * C u v * (aH N fun b => q b * r b v).conj = aH N fun a => aH N fun b => p a * (r a u * C u v * (r b v).conj) * (q b).conj := fun u v => by
  rw [Uq,Qi.mul_assoc',← iH]
  refine aI fun a _=>?_
  rw [show p a * r a u * (C u v * aH N fun i=>(q i * r i v).conj) = (p a * r a u * C u v) * aH N fun i=>(q i * r i v).conj by grind,← qS]
  exact aI fun b _=>by rw [Uo]; grind
 have r1 : yU M (fun u => aH N fun a => p a * r a u) (fun u => aH N fun a => q a * r a u) C = aH M fun u => aH M fun v => aH N fun a => aH N fun b => p a * (r a u * C u v * (r b v).conj) * (q b).conj :=
  aI fun u _=>aI fun v _=>e u v
 have l1 : yU N p q (fun a b => yU M (r a) (r b) C) = aH N fun a => aH N fun b => aH M fun u => aH M fun v => p a * (r a u * C u v * (r b v).conj) * (q b).conj := by
  refine aI fun a _=>aI fun b _=>?_
  show p a * (aH M fun u=>aH M fun v=>r a u * C u v * (r b v).conj) * (q b).conj = _
  rw [← qS,← iH]
  refine aI fun u _=>?_
  rw [← qS,← iH]
 rw [r1,l1]
 have s1 : ∀ a, (aH N fun b => aH M fun u => aH M fun v => p a * (r a u * C u v * (r b v).conj) * (q b).conj) = aH M fun u => aH M fun v => aH N fun b => p a * (r a u * C u v * (r b v).conj) * (q b).conj := fun a => by
  rw [mB]
  exact aI fun u _=>mB _ _ _
 rw [aI fun a _=>s1 a,mB]
 refine aI fun u _=>?_
 rw [mB]
theorem Dl {p c:List (List Qi)} {N a b:Nat} (hc:c.length = N) (ha:a < p.length) (hb:b < p.length):gm (kC p c) a b = yU N (gm p a) (gm p b) (gm c):=by
 rw [kC,mH ha hb,hc]; rfl
section
variable {z:List Qi} {S c:List (List Qi)} {js:List (Int × Int)} {N:Nat}
end
end
section
open Go Go.RowKit
section
variable {z w:List Qi} {s:List (List Qi)} {n:Nat}
theorem Ma (hw:w.length = n) {i j:Nat} (hi:i < n) (hj:j < n):gm (Cm z w s) i j = (if i = j then 1 - gC z w i else 0) + (1 + gC z w i) * gm s i j:=by
 subst hw
 have e:gm (Cm z w s) i j = Sc (Sf z w) (Sg z w) s i j:=mH hi hj
 rw [e,Sc,Sf,Sg,kR hi,kR hi]; rfl
theorem Mb (hw:w.length = n) {i j:Nat} (hi:i < n) (hj:j < n):gm (oF z w s) i j = (if i = j then 1 + gC z w i else 0) + (1 - gC z w i) * gm s i j:=by
 subst hw
 have e:gm (oF z w s) i j = Sc (Sg z w) (Sf z w) s i j:=mH hi hj
 rw [e,Sc,Sf,Sg,kR hi,kR hi]; rfl
theorem a1y (hz:z.length = n) (hw:w.length = n) (hp:z.all fP = true) (hq:w.all fP = true) {i:Nat} (hi:i < n):gC z w i * gC w z i = 1:=by
 have a:=rB (x:=gv w i) (qV hp (show i < z.length by omega))
 have b:=rB (x:=gv z i) (qV hq (show i < w.length by omega))
 have c:=qN (qV hp (show i < z.length by omega))
 rw [gC,gC]
 generalize gv w i / gv z i = u at a ⊢
 generalize gv z i / gv w i = v at b ⊢
 generalize gv z i = x at a b c ⊢
 generalize gv w i = y at a b ⊢
 have e:u * v = u * v * (x * Qi.inv x):=by rw [c]; grind
 have e2:u * v * (x * Qi.inv x) = (v * (u * x)) * Qi.inv x:=by grind
 rw [e,e2,a,b,c]
theorem rN (hz:z.length = n) (hw:w.length = n) (h:uT z w s = 0):w.all fP = true ∧ nQ (oF z w s) n = 0 ∧ lD z w s = iC (Cm z w s) (mS (oF z w s) n) n n n ∧ vR z w s = w:=by
 have e:=h
 rw [uT,if_neg zo] at e
 by_cases c:w.all fP = true
 ·rw [if_pos c] at e
  subst hw
  exact ⟨c,Wr e,by rw [lD,dP,if_pos h],by rw [vR,dP,if_pos h]⟩
 ·rw [if_neg c] at e; omega
def qrt:Qi:=lC * lC
theorem Jf:(4:Qi) * qrt = 1:=by show Qi.ofInt 4 * qrt = Qi.ofInt 1; decide +kernel
theorem a44 (hw : w.length = n) (hu : ∀ i, i < n → gC z w i * gC w z i = 1) :
    Dz 1 (Ym (fun i=>1 + gC w z i) (oF z w s) n) 1 (Ym (fun i=>1 - gC w z i) (Cm z w s) n) n = Dz 4 (sI n) 0 (sI n) n
    ∧ Dz 1 (Ym (fun i=>1 - gC w z i) (oF z w s) n) 1 (Ym (fun i=>1 + gC w z i) (Cm z w s) n) n = Dz 4 s 0 s n:=by
  constructor <;> refine Vw fun i hi j hj => ?_ <;> rw [xX hi hj, xX hi hj, Ma hw hi hj, Mb hw hi hj] <;> (try rw [Az hi hj]) <;>
    (have h := hu i hi
     generalize gC z w i = u at h ⊢
     generalize gC w z i = v at h ⊢
     generalize gm s i j = x
     by_cases c:i = j
     · simp only [if_pos c]; clear c hu hw; grind
     · simp only [if_neg c]; clear c hu hw; grind)
theorem Pd (hz : z.length = n) (hw : w.length = n) (hs : cM s n n) (hp : z.all fP = true) (h : uT z w s = 0) :
  uT w z (lD z w s) = 0 ∧ lD w z (lD z w s) = s ∧ vR w z (lD z w s) = z:=by
 obtain ⟨hq,hi,hS,-⟩:=rN hz hw h
 have hu:∀ i,i < n → gC z w i * gC w z i = 1:=fun i hi=>a1y hz hw hp hq hi
 have hBs:cM (oF z w s) n n:=by rw [← hw]; exact jV _ _ _ _
 have r:=Nz hBs hi
 have l:=a1u hBs hi
 have hC:=oR (oF z w s) n
 obtain ⟨t1,t2⟩:=a44 (s:=s) hw hu
 generalize hDD:mS (oF z w s) n = C at *
 have key : ∀ f g : Nat → Qi, ∀ i, i < n → ∀ j, j < n → gm (iC (Dz 1 (Ym f (oF z w s) n) 1 (Ym g (Cm z w s) n) n) C n n n) i j = (if i = j then f i else 0) + g i * gm (lD z w s) i j := fun f g i hi j hj => by
  rw [Bd,Xg,Xg,r,← hS,oS hi hj,xX hi hj,xX hi hj,Az hi hj]
  by_cases c:i = j
  ·rw [if_pos c,if_pos c]; grind
  ·rw [if_neg c,if_neg c]; grind
 have eB : oF w z (lD z w s) = Dz 4 C 0 C n := by
  have hA:cM (oF w z (lD z w s)) n n:=by rw [← hz]; exact jV _ _ _ _
  have e1:iC (Dz 4 (sI n) 0 (sI n) n) C n n n = Dz 4 C 0 C n:=by rw [Bd,Oi hC]
  rw [← e1,← t1]
  exact jU hA iQ fun i hi j hj=>by rw [key _ _ i hi j hj,Mb hz hi hj]
 have eA : Cm w z (lD z w s) = Dz 4 (iC s C n n n) 0 (iC s C n n n) n := by
  have hA:cM (Cm w z (lD z w s)) n n:=by rw [← hz]; exact jV _ _ _ _
  rw [← Bd,← t2]
  exact jU hA iQ fun i hi j hj=>by rw [key _ _ i hi j hj,Ma hz hi hj]
 obtain ⟨i1,i2⟩:=Qw (x:=4) (y:=qrt) Jf r (D:=C)
 have hE : uT w z (lD z w s) = 0 := by
  rw [uT,if_neg zo,if_pos hp,eB,hz]; exact a2K i1
 refine ⟨hE,?_,by rw [vR,dP,if_pos hE]⟩
 rw [lD,dP,if_pos hE,hz,eA,eB,i2,Wb,Bd,Bh,l,Oj hs]
 refine jU pP hs fun i hi j hj=>?_
 have:=Jf
 rw [oS hi hj,oS hi hj]; grind
end
end
section
open Go Go.RowKit
section
variable {z w:List Qi} {s c:List (List Qi)} {n:Nat}
def rJ (z w:List Qi) (S:List (List Qi)) (i k:Nat):Qi:=if i = k then (1 + gC z w k) * lC - gm S i k * ((1 - gC z w k) * lC) else -(gm S i k * ((1 - gC z w k) * lC))
def Cl (z w:List Qi) (S:List (List Qi)) (n:Nat):List (List Qi):=tab n fun i=>tab n fun k=>rJ z w S i k
def Bl (z w:List Qi) (s c:List (List Qi)):List (List Qi):=dP (uT z w s) (kC (Cl z w (lD z w s) w.length) c)
theorem a2A {S:List (List Qi)} {i k:Nat}:rJ z w S i k = (if i = k then (1 + gC z w k) * lC else 0) - gm S i k * ((1 - gC z w k) * lC):=by
 unfold rJ
 by_cases e:i = k
 ·rw [if_pos e,if_pos e]
 ·rw [if_neg e,if_neg e]; grind
theorem wP (z w:List Qi) (S:List (List Qi)) (n:Nat):cM (Cl z w S n) n n:=cM.tab
theorem Fy {S:List (List Qi)} {i k:Nat} (hi:i < n) (hk:k < n):gm (Cl z w S n) i k = rJ z w S i k:=mH hi hk
theorem a2P (hz:z.length = n) (hw:w.length = n) (h:uT z w s = 0) {i j:Nat} (hi:i < n) (hj:j < n):(aH n fun u=>gm (lD z w s) i u * gm (oF z w s) u j) = gm (Cm z w s) i j:=by
 obtain ⟨hq,hiB,hS,-⟩:=rN hz hw h
 have hBs:cM (oF z w s) n n:=by rw [← hw]; exact jV _ _ _ _
 have l:=a1u hBs hiB
 have e1:∀ u,u < n → gm (lD z w s) i u = aH n fun v=>gm (Cm z w s) i v * gm (mS (oF z w s) n) v u:=fun u hu=>by rw [hS,kD hi hu]
 have e2:∀ v,v < n → (aH n fun u=>gm (mS (oF z w s) n) v u * gm (oF z w s) u j) = if v = j then 1 else 0:=fun v hv=>by rw [← kD hv hj,l,Az hv hj]
 have e3 : ∀ u, u < n → gm (lD z w s) i u * gm (oF z w s) u j = aH n fun v => gm (Cm z w s) i v * (gm (mS (oF z w s) n) v u * gm (oF z w s) u j) := fun u hu => by
  rw [e1 u hu,← iH]; exact aI fun v _=>by grind
 rw [aI e3,mB]
 have e4:∀ v,v < n → (aH n fun u=>gm (Cm z w s) i v * (gm (mS (oF z w s) n) v u * gm (oF z w s) u j)) = gm (Cm z w s) i v * (if v = j then 1 else 0):=fun v hv=>by rw [qS,e2 v hv]
 rw [aI e4,gA hj (fun v _ hne=>by rw [if_neg hne]; grind),if_pos rfl]; grind
theorem a3Q (hz : z.length = n) (hw : w.length = n) (h : uT z w s = 0) {i j : Nat} (hi : i < n) (hj : j < n) :
  (aH n fun u=>gm (lD z w s) i u * ((1 - gC z w u) * gm s u j)) = (if i = j then 1 - gC z w i else 0) + (1 + gC z w i) * gm s i j - gm (lD z w s) i j * (1 + gC z w j):=by
 have a:=a2P hz hw h hi hj
 rw [Ma hw hi hj] at a
 have e : ∀ u, u < n → gm (lD z w s) i u * gm (oF z w s) u j = (if u = j then gm (lD z w s) i u * (1 + gC z w u) else 0) + gm (lD z w s) i u * ((1 - gC z w u) * gm s u j) := fun u hu => by
  rw [Mb hw hu hj]
  by_cases k:u = j
  ·rw [if_pos k,if_pos k]; grind
  ·rw [if_neg k,if_neg k]; grind
 rw [aI e,pC,gA hj (fun u _ hne=>if_neg hne),if_pos rfl] at a
 grind
abbrev dl (i k:Nat):Qi:=if i = k then 1 else 0
theorem a3A {i k:Nat} (e:i = k):dl i k = 1:=if_pos e
theorem a3z {i k:Nat} (e:¬ i = k):dl i k = 0:=if_neg e
theorem Wg {S:List (List Qi)} {i k:Nat}:rJ z w S i k = dl i k * ((1 + gC z w k) * lC) - gm S i k * ((1 - gC z w k) * lC):=by
 rw [a2A]
 by_cases e:i = k
 ·rw [if_pos e,a3A e]; grind
 ·rw [if_neg e,a3z e]; grind
theorem a0r {a r v v' x y h:Qi} (h4:h * h * 4 = 1) (u1:r * v = 1) (u2:a * (v' - v) = 0):((1 + v') * h) * (a * ((1 + r) * h) - y * ((1 - r) * h)) + -(x * ((1 - v) * h) * ((1 + r) * h)) + h * h * (1 - r) * (a * (1 - v') + (1 + v') * y - x * (1 + v)) = a:=by grind
theorem Vo:lC * lC * 4 = 1:=by rw [show lC * lC * 4 = (lC * 2) * (lC * 2) by grind,a41]; grind
theorem a0s (hz:z.length = n) (hw:w.length = n) (hs:cM s n n) (hc:cM c n n) (hp:z.all fP = true) (h:uT z w s = 0):kC (Cl w z s n) (kC (Cl z w (lD z w s) n) c) = c:=by
 obtain ⟨hq,-,hS,-⟩:=rN hz hw h
 obtain ⟨b1,b2,-⟩:=Pd hz hw hs hp h
 have l1:=(wP w z s n).1
 have l2:=(wP z w (lD z w s) n).1
 refine jU (n:=n) (m:=n) (by have:=oO (p:=Cl w z s n) (c:=kC (Cl z w (lD z w s) n) c); rwa [l1] at this) hc fun i hi j hj=>?_
 rw [Dl (N:=n) (by rw [oO.1,l2]) zo zo]
 have q0 : yU n (gm (Cl w z s n) i) (gm (Cl w z s n) j) (gm (kC (Cl z w (lD z w s) n) c)) = yU n (rJ w z s i) (rJ w z s j) (fun u v => yU n (rJ z w (lD z w s) u) (rJ z w (lD z w s) v) (gm c)) :=
  vH (fun k hk => Fy hi hk) (fun k hk => Fy hj hk) fun u v hu hv => by
   rw [Dl hc.1 zo zo]
   exact vH (fun k hk=>Fy hu hk) (fun k hk=>Fy hv hk) fun _ _ _ _=>rfl
 have key : ∀ i, i < n → ∀ j, j < n → (aH n fun u => rJ w z s i u * rJ z w (lD z w s) u j) = if j = i then 1 else 0 := fun i hi j hj => by
  have u1:=a1y hz hw hp hq hj
  have t:=a3Q hw hz b1 hi hj
  rw [b2] at t
  have e : ∀ u, u < n → rJ w z s i u * rJ z w (lD z w s) u j = ((if u = i then ((1 + gC w z i) * lC) * (dl i j * ((1 + gC z w j) * lC) - gm (lD z w s) i j * ((1 - gC z w j) * lC)) else 0) + (if u = j then -(gm s i j * ((1 - gC w z j) * lC) * ((1 + gC z w j) * lC)) else 0)) + lC * lC * (1 - gC z w j) * (gm s i u * ((1 - gC w z u) * gm (lD z w s) u j)) := fun u hu => by
   rw [Wg,Wg]
   by_cases a:u = i
   ·subst a
    rw [if_pos rfl,show dl u u = 1 from if_pos rfl]
    by_cases b:u = j
    ·subst b; rw [if_pos rfl,show dl u u = 1 from if_pos rfl]; grind
    ·rw [if_neg b,show dl u j = 0 from if_neg b]; grind
   ·rw [if_neg a, show dl i u = 0 from if_neg (Ne.symm a)]
    by_cases b:u = j
    ·subst b; rw [if_pos rfl,show dl u u = 1 from if_pos rfl]; grind
    ·rw [if_neg b,show dl u j = 0 from if_neg b]; grind
  have t2 : (if i = j then 1 - gC w z i else 0) = dl i j * (1 - gC w z i) := by
   by_cases a:i = j
   ·rw [if_pos a,a3A a]; grind
   ·rw [if_neg a,a3z a]; grind
  rw [t2] at t
  rw [aI e, pC, pC, gA hi (fun u _ hne => if_neg hne), if_pos rfl, gA hj (fun u _ hne => if_neg hne), if_pos rfl, qS, t, a0r Vo u1 (by
   by_cases a:i = j
   ·subst a; grind
   ·rw [show dl i j = 0 from if_neg a]; grind)]
  by_cases a:i = j
  ·rw [if_pos a.symm]; exact if_pos a
  ·rw [if_neg (Ne.symm a)]; exact if_neg a
 rw [q0,Wy]
 rw [vH (p':=fun u=>if u = i then 1 else 0) (q':=fun u=>if u = j then 1 else 0) (C':=gm c) (fun u hu=>key i hi u hu) (fun u hu=>key j hj u hu) fun _ _ _ _=>rfl]
 have e1 : ∀ a, a < n → (aH n fun b => (if a = i then 1 else 0) * gm c a b * (if b = j then (1 : Qi) else 0).conj) = if a = i then gm c a j else 0 := fun a ha => by
  rw [gA hj (fun b _ hne=>by rw [if_neg hne,Dn]; grind),if_pos rfl,Up]
  by_cases k:a = i
  ·rw [if_pos k,if_pos k]; grind
  ·rw [if_neg k,if_neg k]; grind
 show (aH n fun a=>aH n fun b=>(if a = i then 1 else 0) * gm c a b * (if b = j then (1:Qi) else 0).conj) = _
 rw [aI e1,gA hi (fun a _ hne=>if_neg hne),if_pos rfl]
end
section
variable {z:List Qi} {s:List (List Qi)} {n:Nat}
end
section
variable {z:List Qi} {s:List (List Qi)} {l:List Int}
end
section
variable {z:List Qi} {s:List (List Qi)} {g t:Qi} {p n:Nat}
end
end
section
open Go Go.RowKit
theorem Zr {n:Int} (h1:-9223372036854775808 ≤ n) (h2:n ≤ 9223372036854775807):bB Tryz.prog 109 [bD .i64 n] (aN (Qi.ofInt n)):=by
 refine bB.intro Tryz.func109 rfl Tryz.ntmps109 rfl (fun cx=>(ts (rn rfl (eW (Ts:=[Is (.bool false),Is (.slice none 0 0),Is (.bool false),Is (.slice none 0 0),Is (.slice none 0 0)]) O_51 rfl (fun V=>aW zd (aW zd (aW zd (aW zd (aW zd (aG))))))) fun B2=>(eX (ts (rn rfl (eW (Ts:=[Is (.bool false),Is (.slice none 0 0),Is (.bool false),Is (.slice none 0 0),Is (.slice none 0 0)]) O_51 rfl (fun V=>aW zd (aW zd (aW zd (aW zd (aW zd (aG))))))) fun B3=>?_))))))
 refine eX (cK (fZ (m:=4) (dp 3 rfl (eJ A_51 Z_51 (Ht rfl) (i:=1) rfl rfl rfl) (dq 4 0 rfl (cC dE (Ht rfl)) (dp 0 rfl (cX (Ht rfl)) (dq 6 2 rfl (cZ K_77 (qA (n:=n) h1 h2) ⟨(Ht rfl),trivial⟩) (fV aO rfl (by kernel_rfl) (zF (aV (ro rfl (bO mT K_302 Df (Ht rfl) ⟨(Ht rfl),trivial⟩) (gQ Z_51 (Ht rfl) (Ht rfl) rfl (i:=0) rfl (aK rfl) rfl rfl (eX ?_))))))))))))
 exact fW rfl (fK A_51 Z_51 rfl (i:=0) rfl rfl)
end
section
open Go Go.RowKit
theorem Ap {M:List (List Qi)} {n m:Nat} (h:cM M n m) (hn:n ≤ 32) (hm:m ≤ 32):bB Tryz.prog 271 [QM M] (aC true):=by
 have hl:=h.1
 refine bB.intro Tryz.func271 rfl Tryz.ntmps271 rfl (fun cx=>(ts (ro rfl (cQ cV) (eX (cK (ts (rm rfl (ro rfl (dG U_36 (Ht rfl) aA) (ro rfl (eC (Ht rfl) (cJ 32)) (eX (iR (Ht rfl) (by simp [hl]; omega) ?_)))))))))))
 refine cU (cK (ts (ro rfl (cQ (cJ 0)) (eX (eG ?_)))))
 refine bS (fun (i : Nat) => i ≤ n) (fun (i : Nat) => n - i) (fun (i : Nat) => [(0, QM M), (3, NT .i64 i)]) (fun (i : Nat) => []) 0 (Nat.zero_le _)
  (zS rfl) aY (fun i hi=>?_)
 refine cK (ts (rm rfl (rm rfl (ro rfl (dG U_36 (Ht rfl) aA) (ro rfl (gX (Ht rfl) (Ht rfl)) (eX (dQ (Ht rfl) (fun hd=>?_) (fun hd=>?_))))))))
 ·have hdn : i < n := by simp only [decide_eq_true_eq] at hd; omega
  have hr:=h.row hdn
  have hr0:=h.row (i:=0) zo
  simp at hr hr0
  refine cU (cK (eG (cK (fZ (m:=13) (dp 0 rfl (cX (Ht rfl)) (dp 3 rfl (cX (Ht rfl)) (cP 13 0 14 1 rfl (dZ U_36 Z_35 (Ht rfl) (Ht rfl) rfl (dY (dU (d:=[]) zo))) (dq 15 2 rfl (dJ A_35 Z_35 (Ht rfl)) (dq 16 3 rfl (dG U_35 (Ht rfl) aA) (dp 0 rfl (cX (Ht rfl)) (dq 18 5 rfl (dZ U_36 Z_35 (Ht rfl) (cJ 0) rfl (dY (dU (d:=[]) zo))) (dq 19 6 rfl (dJ A_35 Z_35 (Ht rfl)) (dq 20 7 rfl (dG U_35 (Ht rfl) aA) ?_)))))))))))))
  refine cP 17 4 21 8 rfl (eO (Ht rfl) (Ht rfl)) (dq 22 9 rfl (cX (Ht rfl)) (C.D_step (Ei:=[(0,_),(23,_)]) rfl rfl (bV (bK rfl rfl) (bV (bG 10 rfl rfl) bW)) (eK rfl rfl (Ht rfl) (fun h=>cX (Ht rfl))) (C.D_step (Ei:=[(3,_),(23,_)]) rfl rfl (bV (bK rfl rfl) (bV (bG 10 rfl rfl) bW)) (eK rfl rfl (Ht rfl) (fun h=>cX (Ht rfl))) (fV aO rfl (by kernel_rfl) (zF (zF (zF (aJ (aV ?_)))))))))
  refine fQ rfl rfl (eK rfl rfl (Ht rfl) (fun h=>dZ U_36 Z_35 (fJ rfl h) (fJ rfl h) rfl (dY (dU (d:=[]) zo)))) (fQ rfl rfl (eK rfl rfl (Ht rfl) (fun h=>dJ A_35 Z_35 (fJ rfl h))) (fQ rfl rfl (eK rfl rfl (Ht rfl) (fun h=>dG U_35 (fJ rfl h) aA)) (fQ rfl rfl (eK rfl rfl (Ht rfl) (fun h=>eC (fJ rfl h) (cJ 32))) (ro rfl (gT (Ht rfl) (fun h=>(fJ rfl h))) (eX (iR (Ht rfl) (by simp [hr,hr0]; omega) ?_))))))
  refine cU (bA (cY (rm rfl (ro rfl (dV (Ht rfl) (cJ 1) z6) (ra rfl (eX (fU (i + 1) hdn zo (zS rfl) aY)))))))
 ·refine gV rfl (ts (ro rfl (cQ cV) (eX ?_)))
  exact fW rfl (eU rfl)
theorem Hc  : bB Tryz.prog 272 [QM []] (NT .i64 0):=by
 refine bB.intro Tryz.func272 rfl Tryz.ntmps272 rfl (fun cx=>(ts (ro rfl (cQ (cJ 0)) (eX (cK (ts (rm rfl (ro rfl (dG U_36 (Ht rfl) aA) (ro rfl (cR (Ht rfl) (cJ 0)) (eX (Et (Ht rfl) (by rfl) ?_)))))))))))
 refine ts (ro rfl (cQ (cJ 0)) (eX ?_))
 exact fW rfl (eU rfl)
theorem Lb {M:List (List Qi)} {n m:Nat} (h:cM M n m) (h1:1 ≤ n):bB Tryz.prog 272 [QM M] (NT .i64 m):=by
 have hl:=h.1
 have hr0:=h.row (i:=0) zo
 refine bB.intro Tryz.func272 rfl Tryz.ntmps272 rfl (fun cx=>(ts (ro rfl (cQ (cJ 0)) (eX (cK (ts (rm rfl (ro rfl (dG U_36 (Ht rfl) aA) (ro rfl (cR (Ht rfl) (cJ 0)) (eX (iR (Ht rfl) (by simp [hl]; omega) ?_)))))))))))
 refine cU (ts (rm rfl (ro rfl (dZ U_36 Z_35 (Ht rfl) (cJ 0) rfl (dY (dU (d:=[]) zo))) (ro rfl (dJ A_35 Z_35 (Ht rfl)) (ro rfl (dG U_35 (Ht rfl) aA) (ra rfl (eX (fW rfl (fX (eU rfl) ?_)))))))))
 exact (kI hr0)
theorem pI {M:List (List Qi)} {n m:Nat} (h:cM M n m) (h1:1 ≤ n ∨ m = 0):bB Tryz.prog 272 [QM M] (NT .i64 m):=by
 by_cases e:n = 0
 ·subst e
  obtain rfl:=List.length_eq_zero_iff.1 h.1
  rw [show m = 0 by omega]; exact Hc
 ·exact Lb h zo
theorem Ao {M:List (List Qi)} {n:Nat} (hM:cM M n n) (hn:n ≤ 32):bB Tryz.prog 238 [QM M] (aC true):=by
 have hl:=hM.1
 refine bB.intro Tryz.func238 rfl Tryz.ntmps238 rfl (fun cx=>(ts (ro rfl (cQ cV) (eX (ts (rm rfl (ro rfl (cZ Tryz.call271 (Ap hM hn hn) ⟨(Ht rfl),trivial⟩) (rm rfl (fQ rfl rfl (eK rfl rfl (Ht rfl) (fun h=>cX (Ht rfl))) (fQ rfl rfl (eK rfl rfl (Ht rfl) (fun h=>dG U_36 (fJ rfl h) aA)) (fQ rfl rfl (eK rfl rfl (Ht rfl) (fun h=>cX (Ht rfl))) (fQ rfl rfl (eK rfl rfl (Ht rfl) (fun h=>cZ Tryz.call272 (pI hM zo) ⟨(fJ rfl h),trivial⟩)) (fQ rfl rfl (eK rfl rfl (Ht rfl) (fun h=>cR (fJ rfl h) (fJ rfl h))) ?_)))))))))))))
 refine ro rfl (fE (Ht rfl) (fun h=>(fJ rfl h))) (ra rfl (eX (fW rfl (fX (eU rfl) ?_))))
 exact (dM (by simp [hl]))
theorem Qc {M:List (List Qi)} {n:Nat} (hM:cM M n n) (_:1 ≤ n) (hn:n ≤ 32):bB Tryz.prog 238 [QM M] (aC true):=Ao hM hn
theorem Tz {M:List (List Qi)} {n m:Nat} (hM:cM M n m) (hn:n ≤ 1000) (h1:1 ≤ m) (hm:m ≤ 1000):gF Tryz.prog 172 [QM M] [] (Nat) (fun B=>Is (.slice (some ⟨B,0,none⟩) n n)) (fun B=>[oU B 35 131 5 (bL QT M)]) (fun _=>True):=by
 have hMl:=hM.1
 refine gF.intro Tryz.func172 rfl Tryz.ntmps172 rfl (fun cx Z=>(ts (ro rfl (cQ cV) (eX (ts (rm rfl (ro rfl (dG U_36 (Ht rfl) (by rw [List.length_map,hMl])) ?_)))))))
 refine rn rfl (eE (T:=Is (.slice none 0 0)) (i:=Tryz.t35) Tryz.underlying36 Fv rfl rfl (Ht rfl) rfl (fun _=>rfl) trivial (by show 24 * _ ≤ _; omega) zo) fun B7=>ra rfl (eX (cK (ts (ro rfl (cQ (cJ 0)) (eX (eG (nO 1 rfl (uD (e:=131) (s:=5)) ?_)))))))
 refine bS (fun (i : Nat) => i ≤ n) (fun (i : Nat) => n - i) (fun (i : Nat) => [(0, QM M), (3, Is (.slice (some ⟨B7, 0, none⟩) n n)), (4, NT .i64 i)]) (fun (i : Nat) => [Z, oU B7 35 131 5 (bL QT (iU (cL M) [] n i))]) 0 (Nat.zero_le _)
  (zS rfl) (aU (fun _ _ _ h=>h) (aU (bE (by rw [← iF,mC]; exact mK QT n)) aY)) (fun i hi=>?_)
 refine cK (ts (rm rfl (rm rfl (ro rfl (dG U_36 (Ht rfl) aA) (ro rfl (gX (Ht rfl) (Ht rfl)) (eX (dQ (Ht rfl) (fun hd0=>?_) (fun hd0=>?_))))))))
 ·have hdn : i < n := by simp only [decide_eq_true_eq] at hd0; omega
  have hrl:(cL M i).length = m:=hM.row hdn
  have hrl2:(M.getD i []).length = m:=hrl
  refine nT 1 (i) rfl (kQ hdn) (fun v0=>(cU (cK (eG (cY (rm rfl (rm rfl (rn rfl (yK U_35 Z_131 O_131) fun B16=>(rm rfl (rm rfl (ro rfl (dZ U_36 Z_35 (Ht rfl) (Ht rfl) rfl (dY (dU (d:=[]) zo))) (ro rfl (dJ A_35 Z_35 (Ht rfl)) (Da (inf:=Tryz.t131) Cf sJ rfl rfl rfl (Ht rfl) (Ht rfl) (i:=3) rfl (fun T hT=>by obtain ⟨x,_,rfl⟩:=List.mem_map.1 hT; exact El.ag rfl) (by show _ * 88 ≤ _; simp only [List.length_map,List.length_append,List.length_take,List.length_cons,List.length_nil]; omega) (by simp only [List.length_map,List.length_append,List.length_take,List.length_cons,List.length_nil]; omega) rfl (fun v1=>?_))))))))))))))
  refine ro rfl (fY U_36 Z_35 (Ht rfl) (Ht rfl) rfl zo (by rw [Nat.mul_one,Nat.zero_add])) ?_
  refine rX Z_35 (Ht rfl) (Ht rfl) (by simp only [bL,List.length_map,eM]; omega) (j:=1) (l:=3) rfl rfl rfl ?_
  refine eX (bA (cH [0,1,3] rfl (by decide) (dS 1 2 rfl rfl (by decide) (by simp only [bL,List.length_map,eM]; omega) ?_)))
  refine cY (rm rfl (ro rfl (dV (Ht rfl) (cJ 1) z6) (ra rfl (eX (cH [0,1] rfl (by decide) (fU (i + 1) hdn zo (zS rfl) (aU (fun _ _ _ h=>h) (aU (bE (by rw [List.nil_append,eH,← jH (f:=cL M)])) aY))))))))
 ·have hin : i = n := by simp only [decide_eq_false_iff_not] at hd0; omega
  subst hin
  refine gV rfl (ts (rm rfl (ra rfl (eX ?_))))
  exact jM B7 trivial [0,1] ⟨⟨_,rfl,fun _ _ _ h=>h⟩,⟨_,rfl,(bE (by rw [jG]; exact congrArg _ (yB (h:=hMl)).symm))⟩,trivial⟩ (by decide) (vM rfl (eU rfl))
theorem a26 {n:Nat} (hn:n ≤ 32):gF Tryz.prog 199 [NT .i64 n] [] (Nat) (fun B=>Is (.slice (some ⟨B,0,none⟩) n n)) (fun B=>[jQ dT B 35 131 5 (bL QT (sI n))]) (fun _=>True):=by
 refine gF.intro Tryz.func199 rfl Tryz.ntmps199 rfl (fun cx Z=>(ts (ro rfl (cQ cV) (eX (cK (ts (rm rfl (ro rfl (gX (Ht rfl) (cJ 0)) (eX (iR (Ht rfl) (by simp) ?_))))))))))
 refine cU (cK (ts (rm rfl (ro rfl (eC (Ht rfl) (cJ 32)) (eX (iR (Ht rfl) (by simp; omega) ?_))))))
 refine cU (ts (rm rfl (rm rfl (jF K_129 (oL (n:=n) (m:=n) zo zo) ⟨(Ht rfl),(Ht rfl),trivial⟩ rfl (fun B11 _=>(ra rfl (eX (cK (ts (ro rfl (cQ (cJ 0)) (eX (eG ?_))))))))))))
 refine bS (fun (i : Nat) => i ≤ n) (fun (i : Nat) => n - i) (fun (i : Nat) => [(0, NT .i64 n), (3, Is (.slice (some ⟨B11, 0, none⟩) n n)), (4, NT .i64 i)]) (fun (i : Nat) => [Z, jQ dT B11 35 131 5 (bL QT (iU (uU n) (tab n fun _ => Qi.zero) n i))]) 0 (Nat.zero_le _)
  (zS rfl) (aU (fun _ _ _ h=>h) (aU (bE (by rw [tP,iF])) aY)) (fun i hi=>?_)
 refine cK (ts (rm rfl (rm rfl (ro rfl (gX (Ht rfl) (Ht rfl)) (eX (dQ (Ht rfl) (fun hd0=>?_) (fun hd0=>?_)))))))
 ·have hdn : i < n := by simp only [decide_eq_true_eq] at hd0; omega
  refine jK 1 (i) rfl (kQ hdn) (fun v0 hv0=>(cU (cK (eG (fZ (m:=6) (dp 3 rfl (cX (Ht rfl)) (dp 4 rfl (cX (Ht rfl)) (cP 17 0 18 1 rfl (fY U_36 Z_35 (Ht rfl) (Ht rfl) rfl zo (by rw [Nat.mul_one,Nat.zero_add])) ?_))))))))
  refine dq 19 2 rfl (gS A_35 Z_35 (Ht rfl) (j:=1) rfl) (dp 4 rfl (cX (Ht rfl)) (d0 rfl (cZ K_148 (oN (n:=1) (by decide) (by decide)) ⟨(cJ 1),trivial⟩) (fV aO rfl (by kernel_rfl) (zF (aJ (aJ (aV (ro rfl (dB U_35 Z_131 (Ht rfl) (Ht rfl) rfl (i:=2) rfl (by simp only [List.length_map,bI]; omega) rfl) ?_))))))))
  refine kM Z_131 (Ht rfl) (Ht rfl) (El.ag rfl) (i:=2) rfl rfl (by simp only [List.length_map,bI]; omega) rfl ?_
  refine eX (bA (dS 1 2 rfl rfl (by decide) (by simp only [bL,List.length_map,eM]; omega) ?_))
  refine cY (rm rfl (ro rfl (dV (Ht rfl) (cJ 1) z6) (ra rfl (eX (cH [0,1] rfl (by decide) (fU (i + 1) hdn zo (zS rfl) (aU (fun _ _ _ h=>h) (aU (bE (by rw [fI,eH,← jH (f:=uU n),uU])) aY))))))))
 ·have hin : i = n := by simp only [decide_eq_false_iff_not] at hd0; omega
  subst hin
  refine gV rfl (ts (rm rfl (ra rfl (eX ?_))))
  exact jM B11 trivial [0,1] ⟨⟨_,rfl,fun _ _ _ h=>h⟩,⟨_,rfl,(bE (by rw [jG]; rfl))⟩,trivial⟩ (by decide) (vM rfl (eU rfl))
end
section
open Go Go.RowKit
def Sa (M:List (List Qi)) (b:List Qi) (n i:Nat):List (List Qi):=tab n fun j=>if j < i then Au M [b] j else cL M j
theorem Sx {M:List (List Qi)} {b:List Qi} {n:Nat} (h:M.length = n):M = Sa M b n 0:=by
 have:Sa M b n 0 = tab n (cL M):=cF fun j _=>by rw [if_neg zo]
 rw [this]; exact yB (h:=h)
theorem a1Q {M:List (List Qi)} {b:List Qi} {n:Nat}:Sa M b n n = gN M [b] n:=cF fun j hj=>by rw [if_pos hj]
theorem Af {M:List (List Qi)} {b:List Qi} {n i:Nat}:(Sa M b n i).length = n:=bI _ _
theorem a04 {M:List (List Qi)} {b:List Qi} {n i:Nat} (h:i < n):(bL QT (Sa M b n i))[i]? = some ((cL M i).map QT):=by
 rw [bL,List.getElem?_map,Sa,bR h,if_neg zo]; rfl
theorem Yy {M:List (List Qi)} {b:List Qi} {n i:Nat} (h:i < n):(Sa M b n i).set i (Au M [b] i) = Sa M b n (i + 1):=by
 apply List.ext_getElem?
 intro j
 by_cases hj:j < n
 ·by_cases e : j = i
  ·subst e
   rw [List.getElem?_set_self (by rw [Af]; exact hj),Sa,bR hj,if_pos zo]
  ·rw [List.getElem?_set_ne (Ne.symm e), Sa, Sa, bR hj, bR hj]
   by_cases e2:j < i
   ·rw [if_pos e2,if_pos zo]
   ·rw [if_neg e2,if_neg zo]
 ·rw [List.getElem?_eq_none (by rw [List.length_set,Af]; omega),List.getElem?_eq_none (by rw [Af]; omega)]
theorem a2m {M A:List (List Qi)} {b:List Qi} {n:Nat} (h:nJ (gN M [b] n) n = some A):(tab n fun i=>QT (gm A i n / gm A i i)) = (Yh M b n).map QT:=by rw [Yh,Vj,h,Option.map_some,Option.getD_some,zU]
theorem a2k {M A:List (List Qi)} {b:List Qi} {n:Nat} (h:nJ (gN M [b] n) n = some A):Yg M b n = 0:=by rw [Yg,Vj,h]; rfl
theorem a2l {M:List (List Qi)} {b:List Qi} {n:Nat} (h:nJ (gN M [b] n) n = none):Yh M b n = []:=by rw [Yh,Vj,h]; rfl
theorem a2j {M:List (List Qi)} {b:List Qi} {n:Nat} (h:nJ (gN M [b] n) n = none):Yg M b n = 6:=by rw [Yg,Vj,h]; rfl
theorem Qb {M:List (List Qi)} {b:List Qi} {n G:Nat} (hM:cM M n n) (hb:b.length = n) (hz:Yr M b n G) (h1:1 ≤ n) (hn:n ≤ 32):bB Tryz.prog 201 [QM M,qU b] (fH [qU (Yh M b n),bD .i64 (Yg M b n)]):=by
 have hMl:=hM.1
 obtain ⟨CM,hC⟩:∃ CM,CM = gN M [b] n:=⟨_,rfl⟩
 have hs:cM CM n (n + 1):=by rw [hC]; exact iY hM
 have hg:=hz.g
 have hG1:=hz.g1
 have hs1:=hs.1
 refine bB.intro Tryz.func201 rfl Tryz.ntmps201 rfl (fun cx=>(ts (ro rfl (cQ cV) (ro rfl (cQ (cJ 0)) (eX (cK (ts (rm rfl (ro rfl (cZ Tryz.call238 (Qc hM h1 hn) ⟨(Ht rfl),trivial⟩) (ro rfl (eT (Ht rfl)) (rm rfl (fQ rfl rfl (eK rfl rfl (Ht rfl) (fun h=>cX (Ht rfl))) (fQ rfl rfl (eK rfl rfl (Ht rfl) (fun h=>dG U_35 (fJ rfl h) aA)) (fQ rfl rfl (eK rfl rfl (Ht rfl) (fun h=>cX (Ht rfl))) (fQ rfl rfl (eK rfl rfl (Ht rfl) (fun h=>dG U_36 (fJ rfl h) aA)) ?_)))))))))))))))
 refine fQ rfl rfl (eK rfl rfl (Ht rfl) (fun h=>eO (fJ rfl h) (fJ rfl h))) (ro rfl (gT (Ht rfl) (fun h=>(fJ rfl h))) (eX (iR (Ht rfl) (by simp [hMl,hb]) ?_)))
 refine cU (ts (rm rfl (ro rfl (dG U_36 (Ht rfl) (by rw [List.length_map,hMl])) ?_)))
 refine ra rfl (eX (ts (rm rfl (jF Tryz.call172 (Tz hM zo h1 zo) ⟨(Ht rfl),trivial⟩ rfl (fun B30 _=>(ra rfl (eX (cK (ts (ro rfl (cQ (cJ 0)) (eX (eG ?_))))))))))))
 refine bS (fun (i : Nat) => i ≤ n) (fun (i : Nat) => n - i) (fun (i : Nat) => [(0, QM M), (1, qU b), (6, NT .i64 n), (7, Is (.slice (some ⟨B30, 0, none⟩) n n)), (8, NT .i64 i)]) (fun (i : Nat) => [oU B30 35 131 5 (bL QT (Sa M b n i))]) 0 (Nat.zero_le _)
  (zS rfl) (aU (bE (congrArg _ (Sx hMl))) aY) (fun i hi=>?_)
 refine cK (ts (rm rfl (rm rfl (ro rfl (gX (Ht rfl) (Ht rfl)) (eX (dQ (Ht rfl) (fun hd0=>?_) (fun hd0=>?_)))))))
 ·have hdn : i < n := by simp only [decide_eq_true_eq] at hd0; omega
  have hrl:(cL M i).length = n:=hM.row hdn
  have hrl2:(M.getD i []).length = n:=hrl
  refine nT 0 (i) rfl (a04 hdn) (fun v0=>(cU (cK (eG (Y.D_startA (m:=12) [] 11 1 rfl rfl (bY (Ei:=[(7,_)]) rfl rfl (bQ (bJ rfl rfl) bX) rfl rfl (dX rfl (cX (Ht rfl))) (bY (Ei:=[(8,_)]) rfl rfl (bQ (bJ rfl rfl) bX) rfl rfl (dX rfl (cX (Ht rfl))) (bY (Ei:=[(7,_)]) rfl rfl (bQ (bJ rfl rfl) bX) rfl rfl (dX rfl (cX (Ht rfl))) (bY (Ei:=[(8,_)]) rfl rfl (bQ (bJ rfl rfl) bX) rfl rfl (dX rfl (cX (Ht rfl))) ?_)))))))))
  refine bY (Ei:=[(38,_),(39,_)]) rfl rfl (bQ (bZ 2 rfl rfl) (bQ (bZ 3 rfl rfl) bX)) rfl rfl (dX rfl (fY U_36 Z_35 (Ht rfl) (Ht rfl) rfl zo (by rw [Nat.mul_one,Nat.zero_add]))) ?_
  refine bY (Ei:=[(40,_)]) rfl rfl (bQ (bZ 4 rfl rfl) bX) rfl rfl (dX rfl (gS A_35 Z_35 (Ht rfl) (j:=0) rfl)) (bY (Ei:=[(1,_)]) rfl rfl (bQ (bJ rfl rfl) bX) rfl rfl (dX rfl (cX (Ht rfl))) (bY (Ei:=[(8,_)]) rfl rfl (bQ (bJ rfl rfl) bX) rfl rfl (dX rfl (cX (Ht rfl))) (bY (Ei:=[(42,_),(43,_)]) rfl rfl (bQ (bZ 6 rfl rfl) (bQ (bZ 7 rfl rfl) bX)) rfl rfl (dX rfl (dZ U_35 Z_131 (Ht rfl) (Ht rfl) rfl (dY (dU (d:=Qi.zero) zo)))) ?_)))
  refine bY (Ei:=[(44,_)]) rfl rfl (bQ (bZ 8 rfl rfl) bX) rfl rfl (dX rfl (dJ A_131 Z_131 (Ht rfl))) (bY (Ei:=[(45,_)]) rfl rfl (bQ (bZ 9 rfl rfl) bX) rfl rfl (dX rfl (dN (xs:=[.tmp 45]) U_35 Z_131 O_131 (cW (Ht rfl) cG) rfl rfl rfl)) (Y.D_app (Ei:=[(41,_),(46,_)]) rfl rfl rfl rfl (bQ (bZ 5 rfl rfl) (bQ (bZ 10 rfl rfl) bX)) rfl (rU (inf:=Tryz.t131) Cf sJ rfl rfl rfl (Ht rfl) (Ht rfl) (by simp) (fun T hT=>by simp at hT; subst hT; exact El.ag rfl) (by show _ * 88 ≤ _; simp only [List.length_map,List.length_append,List.length_take,List.length_cons,List.length_nil]; omega) (by simp only [List.length_map,List.length_append,List.length_take,List.length_cons,List.length_nil]; omega)) ?_))
  refine Y.D_done aO rfl (by kernel_rfl) rfl (by simp [Y.okP]) rfl rfl (bU (bU (bU (bU (bU (bU (bU (bU (bU (bU (bU (Y.F_app (fun v2=>Y.F_nil ?_)))))))))))))
  refine ro rfl (fY U_36 Z_35 (Ht rfl) (Ht rfl) rfl zo (by rw [Nat.mul_one,Nat.zero_add])) ?_
  refine rX Z_35 (Ht rfl) (Ht rfl) (by simp only [bL,List.length_map,Af]; omega) (j:=0) (l:=2) rfl rfl rfl ?_
  refine eX (bA (cH [0,2] rfl (by decide) (dS 0 1 rfl rfl (by decide) (by simp only [bL,List.length_map,Af]; omega) ?_)))
  refine cY (rm rfl (ro rfl (dV (Ht rfl) (cJ 1) z6) (ra rfl (eX (cH [0] rfl (by decide) (fU (i + 1) hdn zo (zS rfl) (aU (bE (by rw [oK QT _ (gv b i),eH]; exact congrArg _ (Yy hdn))) aY)))))))
 ·have hin : i = n := by simp only [decide_eq_false_iff_not] at hd0; omega
  subst hin
  rw [a1Q,← hC]
  refine gV rfl (Eu 0 rfl (fun vs hvs=>?_))
  have hvs2:Ye vs i:=by have h:=hvs; rw [bL,List.length_map,hs1] at h; exact h
  refine cK (ts (ro rfl (cQ (cJ 0)) (eX (eG ?_))))
  refine iS (fun (c : Nat) (vs : List Value) (A : List (List Qi)) => c ≤ i ∧ nJ CM c = some A ∧ Ye vs i) (fun (c : Nat) (vs : List Value) (A : List (List Qi)) => i - c) (fun (c : Nat) (vs : List Value) (A : List (List Qi)) => [(6, NT .i64 i), (7, Is (.slice (some ⟨B30, 0, none⟩) i i)), (9, NT .i64 c)]) (fun (c : Nat) (vs : List Value) (A : List (List Qi)) => [jD B30 35 131 5 vs vs (bL QT A)]) 0 vs CM ⟨Nat.zero_le _, rfl, hvs2⟩
   (zS rfl) (cT.refl _) (fun c vs A ⟨hc,hA,hvs⟩=>?_)
  refine cK (ts (rm rfl (rm rfl (ro rfl (gX (Ht rfl) (Ht rfl)) (eX (dQ (Ht rfl) (fun hcn=>?_) (fun hcn=>?_)))))))
  ·simp only [decide_eq_true_eq] at hcn
   have hcn:c < i:=by omega
   have hvl:=hvs.len
   have hgj:=vF hs (Nat.le_succ i) hc hA
   have hAs:cM A i (i + 1):=hgj.sh
   have hAf:aS A G:=hz.st c A hc (by rw [← hC]; exact hA)
   have hAl:=hAs.1
   refine cU (cK (eG (ts (rm rfl (ra rfl (eX (cK (eG ?_))))))))
   refine bS (fun (p : Nat) => (c ≤ p ∧ p ≤ i) ∧ ∀ r, c ≤ r → r < p → gm A r c = Qi.zero) (fun (p : Nat) => i - p) (fun (p : Nat) => [(6, NT .i64 i), (7, Is (.slice (some ⟨B30, 0, none⟩) i i)), (9, NT .i64 c), (10, NT .i64 p)]) (fun (p : Nat) => [jD B30 35 131 5 vs vs (bL QT A)]) c ⟨⟨Nat.le_refl _, hc⟩, fun r h1 h2 => by omega⟩
    (zS rfl) (cT.refl _) (fun p ⟨⟨hcp,hpn⟩,hz⟩=>?_)
   refine cK (ts (rm rfl (rm rfl (ro rfl (gX (Ht rfl) (Ht rfl)) (rm rfl (fQ rfl rfl (eK rfl rfl (Ht rfl) (fun h=>cX (Ht rfl))) (fQ rfl rfl (eK rfl rfl (Ht rfl) (fun h=>cX (Ht rfl))) (fQ rfl rfl (eK rfl rfl (Ht rfl) (fun h=>fY U_36 Z_35 (fJ rfl h) (fJ rfl h) rfl (by first | omega | (simp at h; omega)) (by rw [Nat.mul_one,Nat.zero_add]))) ?_))))))))
   refine fQ rfl rfl (eK rfl rfl (Ht rfl) (fun h=>gH A_35 Z_35 (fJ rfl h) (j:=0) rfl (by simp at h; omega))) ?_
   refine fQ rfl rfl (eK rfl rfl (Ht rfl) (fun h=>cX (Ht rfl))) (fQ rfl rfl (eK rfl rfl (Ht rfl) (fun h=>jB U_35 Z_131 (fJ rfl h) (fJ rfl h) rfl (j:=0) rfl zo (by simp at h; omega) (by simp at h; rw [hAs.row h]; omega))) ?_)
   refine fQ rfl rfl (eK rfl rfl (Ht rfl) (fun h=>lU A_131 Z_131 (fJ rfl h) (j:=0) rfl zo (by simp at h; omega) (by simp at h; rw [hAs.row h]; omega))) ?_
   refine fQ rfl rfl (eK rfl rfl (Ht rfl) (fun h=>cZ Tryz.call166 (Nh (x:=gm A p c)) ⟨(fJ rfl h),trivial⟩)) (ro rfl (fE (Ht rfl) (fun h=>(fJ rfl h))) (eX (dQ (Ht rfl) (fun he=>?_) (fun he=>?_))))
   ·have he2 : p < i ∧ gm A p c = Qi.zero := by simpa using he
    refine cU (eG (cY (rm rfl (ro rfl (dV (Ht rfl) (cJ 1) z6) (ra rfl (eX (bA ?_)))))))
    refine fU (p + 1) ⟨⟨by omega, by omega⟩, fun r h1 h2 => by
      by_cases e:r = p
      ·rw [e]; exact he2.2
      ·exact hz r h1 zo⟩ zo (zS rfl) (cT.refl _)
   ·have hpv : pv A c i = p := a1x hcp hpn hz (fun h => by simp at he; exact he h)
    refine gV rfl (cK (ts (rm rfl (rm rfl (ro rfl (cR (Ht rfl) (Ht rfl)) (eX (dQ (Ht rfl) (fun hp=>?_) (fun hp=>?_))))))))
    ·have hp2 : p = i := by simpa using hp
     have hend:nJ CM i = none:=Vl hs1 hA (by rw [hpv]; exact hp2) hcn
     rw [hC] at hend
     refine ts (ro rfl (cQ cV) (ro rfl (cQ (cJ 6)) (eX (bM rfl (fX (eU rfl) ?_) (fX (eU rfl) ?_)))))
     ·exact (fun v V k=>by rw [a2l hend]; exact gY v V k)
     ·exact (aR (a2j hend).symm)
    ·have hp2 : p < i := by simp at hp; omega
     have hpz:=(lA (M:=A) (c:=c) (n:=i) hc).2.2.2 (by rw [hpv]; exact hp2)
     rw [hpv] at hpz
     have hnx:=a08 hs1 hA hpv hp2
     refine cU (cK (Y.D_start (m:=14) [(13,0,jD B30 35 131 5 (vs.set p (hd vs c)) vs (bL QT A))] (Y.D_step (Ei:=[(7,_)]) rfl rfl (bQ (bJ rfl rfl) bX) rfl rfl (by kernel_rfl) (dX rfl (cX (Ht rfl))) (Y.D_step (Ei:=[(10,_)]) rfl rfl (bQ (bJ rfl rfl) bX) rfl rfl (by kernel_rfl) (dX rfl (cX (Ht rfl))) (bY (Ei:=[(7,_)]) rfl rfl (bQ (bJ rfl rfl) bX) rfl rfl (dX rfl (cX (Ht rfl))) (bY (Ei:=[(9,_)]) rfl rfl (bQ (bJ rfl rfl) bX) rfl rfl (dX rfl (cX (Ht rfl))) ?_))))))
     refine Y.D_step (Ei:=[(7,_)]) rfl rfl (bQ (bJ rfl rfl) bX) rfl rfl (by kernel_rfl) (dX rfl (cX (Ht rfl))) (Y.D_step (Ei:=[(9,_)]) rfl rfl (bQ (bJ rfl rfl) bX) rfl rfl (by kernel_rfl) (dX rfl (cX (Ht rfl))) (Y.D_step (Ei:=[(77,_),(78,_)]) rfl rfl (bQ (bZ 4 rfl rfl) (bQ (bZ 5 rfl rfl) bX)) rfl rfl (by kernel_rfl) (dX rfl (fY U_36 Z_35 (Ht rfl) (Ht rfl) rfl zo (by rw [Nat.mul_one,Nat.zero_add]))) ?_))
     refine Y.D_step (Ei:=[(79,_)]) rfl rfl (bQ (bZ 6 rfl rfl) bX) rfl rfl (by kernel_rfl) (dX rfl (gH A_35 Z_35 (Ht rfl) (j:=0) rfl zo)) (Y.D_step (Ei:=[(7,_)]) rfl rfl (bQ (bJ rfl rfl) bX) rfl rfl (by kernel_rfl) (dX rfl (cX (Ht rfl))) (Y.D_step (Ei:=[(10,_)]) rfl rfl (bQ (bJ rfl rfl) bX) rfl rfl (by kernel_rfl) (dX rfl (cX (Ht rfl))) (Y.D_step (Ei:=[(81,_),(82,_)]) rfl rfl (bQ (bZ 8 rfl rfl) (bQ (bZ 9 rfl rfl) bX)) rfl rfl (by kernel_rfl) (dX rfl (fY U_36 Z_35 (Ht rfl) (Ht rfl) rfl zo (by rw [Nat.mul_one,Nat.zero_add]))) ?_)))
     refine Y.D_step (Ei:=[(83,_)]) rfl rfl (bQ (bZ 10 rfl rfl) bX) rfl rfl (by kernel_rfl) (dX rfl (gH A_35 Z_35 (Ht rfl) (j:=0) rfl zo)) (Y.D_step (Ei:=[(73,_),(74,_)]) rfl rfl (bQ (bZ 0 rfl rfl) (bQ (bZ 1 rfl rfl) bX)) rfl rfl (by kernel_rfl) (dX rfl (fY U_36 Z_35 (Ht rfl) (Ht rfl) rfl zo (by rw [Nat.mul_one,Nat.zero_add]))) ?_)
     refine Y.D_putI (Ei:=[(85,_),(80,_)]) 0 rfl rfl rfl (bQ (bZ 12 rfl rfl) (bQ (bZ 7 rfl rfl) bX)) (.head _) rfl (Kk Z_35 (Ht rfl) (Ht rfl) (hvs.pl c zo) (i:=p) (hs:=vs) zo) (Y.D_done aO rfl (by kernel_rfl) rfl (by simp [Y.okP]) rfl rfl (bU (bU (bU (bU (bU (bU (bU (bU (bU (bU (bU (bU (bU (Y.F_putI (Y.F_nil ?_))))))))))))))))
     refine ro rfl (fY U_36 Z_35 (Ht rfl) (Ht rfl) rfl zo (by rw [Nat.mul_one,Nat.zero_add])) ?_
     refine Sm Z_35 (Ht rfl) (Ht rfl) (j:=0) rfl (hvs.pl p zo) (by rw [List.length_set]; omega) rfl ?_
     refine eX (cK (nO 0 rfl (Ea (hs:=swp Bk vs p c) (p:=p) (c:=c) zo zo zo) ?_))
     have hus:=hvs.swp hp2 hcn
     have hDs:cM (swp [] A p c) i (i + 1):=wZ hAs hp2 hcn
     have hDf:aS (swp [] A p c) G:=zT hAf
     have hDz : gm (swp [] A p c) c c ≠ Qi.zero := by
      show gv (cL (swp [] A p c) c) c ≠ _
      rw [tN zo]; exact hpz
     obtain ⟨us,hus2⟩:∃ us,us = swp Bk vs p c:=⟨_,rfl⟩
     obtain ⟨D,hD⟩:∃ D,D = swp [] A p c:=⟨_,rfl⟩
     rw [← hus2] at hus ⊢
     rw [← hD] at hDs hDf hDz hnx ⊢
     have hul:=hus.len
     have hDl:=hDs.1
     refine cY (ro rfl (cQ (cJ 0)) (eX (eG ?_)))
     refine bS (fun (r : Nat) => r ≤ i) (fun (r : Nat) => i - r) (fun (r : Nat) => [(6, NT .i64 i), (7, Is (.slice (some ⟨B30, 0, none⟩) i i)), (9, NT .i64 c), (11, NT .i64 r)]) (fun (r : Nat) => [jD B30 35 131 5 us us (bL QT (redJ D c r))]) 0 (Nat.zero_le _)
      (zS rfl) (aU (nZ (congrArg _ Lx)) aY) (fun r hrn=>?_)
     refine cK (ts (rm rfl (rm rfl (ro rfl (gX (Ht rfl) (Ht rfl)) (eX (dQ (Ht rfl) (fun hr=>?_) (fun hr=>?_)))))))
     ·have hr : r < i := by simp only [decide_eq_true_eq] at hr; omega
      refine cU (cK (eG (ts (rm rfl (rm rfl (ro rfl (eO (Ht rfl) (Ht rfl)) (eX (dQ (Ht rfl) (fun hrc=>?_) (fun hrc=>?_)))))))))
      ·have hrc : r ≠ c := by simpa using hrc
       obtain ⟨X,hX⟩:∃ X,X = redJ D c r:=⟨_,rfl⟩
       have hXr:cL X r = cL D r:=by rw [hX]; exact zN zo zo
       have hXc:cL X c = cL D c:=by rw [hX]; exact zN zo zo
       have hXl:X.length = i:=by rw [hX,tE]; exact hDl
       have hXrl:(cL X r).length = i + 1:=by rw [hXr]; exact hDs.row hr
       have hXcl:(cL X c).length = i + 1:=by rw [hXc]; exact hDs.row hcn
       have hXrg:(X.getD r []).length = i + 1:=hXrl
       have hXcg:(X.getD c []).length = i + 1:=hXcl
       have hXfr:bP (cL X r) G:=by rw [hXr]; exact hDf.row r
       have hXfc:bP (cL X c) G:=by rw [hXc]; exact hDf.row c
       haveI g1:aD (gm X r c) G:=hXfr.get hG1 c
       haveI g2:aD (gm X c c) G:=hXfc.get hG1 c
       have hXz:gm X c c ≠ Qi.zero:=by show gv (cL X c) c ≠ _; rw [hXc]; exact hDz
       haveI g3:aD (gm X r c / gm X c c) (G + 3 * G + 2):=⟨g1.fit.div g2.fit hXz⟩
       have hend:=Ru (D:=D) (r:=r) (c:=c) zo hrc zo
       rw [← hX] at hend ⊢
       rw [hXrl] at hend
       have hrU:r < us.length:=by rw [hul]; exact hr
       have hcU:c < us.length:=by rw [hul]; exact hcn
       have hXU:us.length = X.length:=by rw [hul,hXl]
       have hrX:r < X.length:=by rw [hXl]; exact hr
       have hcX:c < X.length:=by rw [hXl]; exact hcn
       have hcr:c < (X.getD r []).length:=by rw [hXrg]; exact Nat.lt_succ_of_lt hcn
       have hcc:c < (X.getD c []).length:=by rw [hXcg]; exact Nat.lt_succ_of_lt hcn
       clear hXrg hXcg hXr hXc
       refine cK (Y.D_start (m:=20) [] (bY (Ei:=[(7,_)]) rfl rfl (bQ (bJ rfl rfl) bX) rfl rfl (dX rfl (cX (Ht rfl))) (bY (Ei:=[(11,_)]) rfl rfl (bQ (bJ rfl rfl) bX) rfl rfl (dX rfl (cX (Ht rfl))) (bY (Ei:=[(96,_),(97,_)]) rfl rfl (bQ (bZ 0 rfl rfl) (bQ (bZ 1 rfl rfl) bX)) rfl rfl (dX rfl (fY U_36 Z_35 (Ht rfl) (Ht rfl) rfl zo (by rw [Nat.mul_one,Nat.zero_add]))) ?_))))
       refine bY (Ei:=[(98,_)]) rfl rfl (bQ (bZ 2 rfl rfl) bX) rfl rfl (dX rfl (gH A_35 Z_35 (Ht rfl) (j:=0) rfl hrU)) (bY (Ei:=[(9,_)]) rfl rfl (bQ (bJ rfl rfl) bX) rfl rfl (dX rfl (cX (Ht rfl))) (bY (Ei:=[(99,_),(100,_)]) rfl rfl (bQ (bZ 3 rfl rfl) (bQ (bZ 4 rfl rfl) bX)) rfl rfl (dX rfl (jB U_35 Z_131 (Ht rfl) (Ht rfl) rfl (j:=0) rfl hXU hrX hcr)) (bY (Ei:=[(101,_)]) rfl rfl (bQ (bZ 5 rfl rfl) bX) rfl rfl (dX rfl (lU A_131 Z_131 (Ht rfl) (j:=0) rfl hXU hrX hcr)) ?_)))
       refine bY (Ei:=[(7,_)]) rfl rfl (bQ (bJ rfl rfl) bX) rfl rfl (dX rfl (cX (Ht rfl))) (bY (Ei:=[(9,_)]) rfl rfl (bQ (bJ rfl rfl) bX) rfl rfl (dX rfl (cX (Ht rfl))) (bY (Ei:=[(103,_),(104,_)]) rfl rfl (bQ (bZ 7 rfl rfl) (bQ (bZ 8 rfl rfl) bX)) rfl rfl (dX rfl (fY U_36 Z_35 (Ht rfl) (Ht rfl) rfl zo (by rw [Nat.mul_one,Nat.zero_add]))) ?_))
       refine bY (Ei:=[(105,_)]) rfl rfl (bQ (bZ 9 rfl rfl) bX) rfl rfl (dX rfl (gH A_35 Z_35 (Ht rfl) (j:=0) rfl hcU)) (bY (Ei:=[(9,_)]) rfl rfl (bQ (bJ rfl rfl) bX) rfl rfl (dX rfl (cX (Ht rfl))) (bY (Ei:=[(106,_),(107,_)]) rfl rfl (bQ (bZ 10 rfl rfl) (bQ (bZ 11 rfl rfl) bX)) rfl rfl (dX rfl (jB U_35 Z_131 (Ht rfl) (Ht rfl) rfl (j:=0) rfl hXU hcX hcc)) (bY (Ei:=[(108,_)]) rfl rfl (bQ (bZ 12 rfl rfl) bX) rfl rfl (dX rfl (lU A_131 Z_131 (Ht rfl) (j:=0) rfl hXU hcX hcc)) ?_)))
       refine bY (Ei:=[(102,_),(109,_)]) rfl rfl (bQ (bZ 6 rfl rfl) (bQ (bZ 13 rfl rfl) bX)) rfl rfl (dX rfl (cZ Tryz.call144 (yV (x:=gm X r c) (y:=gm X c c) (L:=G) (M:=G) zo) ⟨(Ht rfl),(Ht rfl),trivial⟩)) (bY (Ei:=[(110,_)]) rfl rfl (bQ (bZ 14 rfl rfl) bX) rfl rfl (dX rfl (cX (Ht rfl))) (bY (Ei:=[(95,_)]) rfl rfl (bQ (bZ 15 rfl rfl) bX) rfl rfl (dX rfl (dK (Ht rfl) rfl)) (bY (Ei:=[(95,_)]) rfl rfl (bQ (bZ 15 rfl rfl) bX) rfl rfl (dX rfl (dK (Ht rfl) rfl)) ?_)))
       refine Y.D_newp (Ei:=[]) (fun bb=>box bb 131 [aC (decide ((gm X r c / gm X c c).a < 0)),aE (gm X r c / gm X c c).a.natAbs,aC (decide ((gm X r c / gm X c c).b < 0)),aE (gm X r c / gm X c c).b.natAbs,aE (gm X r c / gm X c c).den]) 19 rfl rfl rfl bX rfl rfl (by kernel_rfl) (eW (Ts:=[Is (.bool false),Is (.slice none 0 0),Is (.bool false),Is (.slice none 0 0),Is (.slice none 0 0)]) O_131 rfl (fun V=>aW zd (aW zd (aW zd (aW zd (aW zd (aG))))))) ?_
       refine Y.D_putN (Ei:=[(111,_)]) 18 rfl rfl rfl rfl rfl rfl (bQ (bZ 16 rfl rfl) bX) (fun bb=>mE Z_131 (Ht rfl) (Ht rfl) rfl (i:=0) rfl (aK rfl) rfl rfl) (Y.D_done aO rfl (by kernel_rfl) rfl (by simp [Y.okP]) rfl rfl (bU (bU (bU (bU (bU (bU (bU (bU (bU (bU (bU (bU (bU (bU (bU (bU (bU (bU (Y.F_newp (fun B12=>Y.F_putN (Y.F_nil ?_))))))))))))))))))))))
       refine ra rfl (eX (ts (rm rfl (ra rfl (eX (eG ?_))))))
       refine bS (fun (k : Nat) => c ≤ k ∧ k ≤ i + 1) (fun (k : Nat) => i + 1 - k) (fun (k : Nat) => [(6, NT .i64 i), (7, Is (.slice (some ⟨B30, 0, none⟩) i i)), (9, NT .i64 c), (11, NT .i64 r), (12, dA B12 0), (14, NT .i64 k)]) (fun (k : Nat) => [jD B30 35 131 5 us us (bL QT (X.set r (iG (cL X r) (cL X c) c k))), box B12 131 [aC (decide ((gm X r c / gm X c c).a < 0)), aE (gm X r c / gm X c c).a.natAbs, aC (decide ((gm X r c / gm X c c).b < 0)), aE (gm X r c / gm X c c).b.natAbs, aE (gm X r c / gm X c c).den]]) c ⟨Nat.le_refl _, by omega⟩
        (zS rfl) (aU (nZ (by rw [← Jg,Xl zo])) (aU (aB rfl) aY)) (fun k ⟨hck,hkm⟩=>?_)
       refine cK (ts (rm rfl (rm rfl (ro rfl (zM (Ht rfl) (Ht rfl)) (eX (dQ (Ht rfl) (fun hk=>?_) (fun hk=>?_)))))))
       ·have hk2 : k < i + 1 := by simp only [decide_eq_true_eq] at hk; omega
        obtain ⟨Y,hY⟩:∃ Y,Y = (X.set r (iG (cL X r) (cL X c) c k)):=⟨_,rfl⟩
        have e1:gm Y r k = gv (cL X r) k:=by rw [hY]; exact a2h hrX (by rw [hXrl]; exact hk2)
        have e2:gm Y c k = gv (cL X c) k:=by rw [hY]; exact a2g hrc
        haveI y1:aD (gm Y r k) G:=by rw [e1]; exact hXfr.get hG1 k
        haveI y2:aD (gm Y c k) G:=by rw [e2]; exact hXfc.get hG1 k
        have hst:=Rr (X:=X) (r:=r) (c:=c) (k:=k) hrX hrc (by rw [hXrl]; exact hk2) hck
        have hYU:us.length = Y.length:=by rw [hY,List.length_set]; exact hXU
        have hrY:r < Y.length:=by rw [← hYU]; exact hrU
        have hcY:c < Y.length:=by rw [← hYU]; exact hcU
        have hkr:k < (Y.getD r []).length:=by show k < (cL Y r).length; rw [hY,tK hrX,qR,hXrl]; exact hk2
        have hkc:k < (Y.getD c []).length:=by show k < (cL Y c).length; rw [hY,oG hrc,hXcl]; exact hk2
        rw [← hY] at hst ⊢
        clear hXrl hXcl hXU hrX hcX hcr hcc
        refine cU (cK (eG (fZ (m:=22) (dp 7 rfl (cX (Ht rfl)) (dp 11 rfl (cX (Ht rfl)) (cP 119 0 120 1 rfl (fY U_36 Z_35 (Ht rfl) (Ht rfl) rfl zo (by rw [Nat.mul_one,Nat.zero_add])) ?_))))))
        refine dq 121 2 rfl (gH A_35 Z_35 (Ht rfl) (j:=0) rfl hrU) (dp 14 rfl (cX (Ht rfl)) (dp 7 rfl (cX (Ht rfl)) (dp 11 rfl (cX (Ht rfl)) (cP 124 5 125 6 rfl (fY U_36 Z_35 (Ht rfl) (Ht rfl) rfl zo (by rw [Nat.mul_one,Nat.zero_add])) ?_))))
        refine dq 126 7 rfl (gH A_35 Z_35 (Ht rfl) (j:=0) rfl hrU) (dp 14 rfl (cX (Ht rfl)) (cP 127 8 128 9 rfl (jB U_35 Z_131 (Ht rfl) (Ht rfl) rfl (j:=0) rfl hYU hrY hkr) (dq 129 10 rfl (lU A_131 Z_131 (Ht rfl) (j:=0) rfl hYU hrY hkr) (dp 12 rfl (eJ A_131 Z_131 (Ht rfl) (i:=1) rfl rfl rfl) (dp 7 rfl (cX (Ht rfl)) (dp 9 rfl (cX (Ht rfl)) (cP 132 13 133 14 rfl (fY U_36 Z_35 (Ht rfl) (Ht rfl) rfl zo (by rw [Nat.mul_one,Nat.zero_add])) ?_)))))))
        refine dq 134 15 rfl (gH A_35 Z_35 (Ht rfl) (j:=0) rfl hcU) (dp 14 rfl (cX (Ht rfl)) (cP 135 16 136 17 rfl (jB U_35 Z_131 (Ht rfl) (Ht rfl) rfl (j:=0) rfl hYU hcY hkc) (dq 137 18 rfl (lU A_131 Z_131 (Ht rfl) (j:=0) rfl hYU hcY hkc) (cP 131 12 138 19 rfl (cZ K_146 (oM (x:=gm X r c / gm X c c) (y:=gm Y c k) (L:=G + 3 * G + 2) (M:=G) zo) ⟨(Ht rfl),(Ht rfl),trivial⟩) (cP 130 11 139 20 rfl (cZ Tryz.call147 (Fk (x:=gm Y r k) (y:=gm X r c / gm X c c * gm Y c k) (L:=G) (M:=G + 3 * G + 2 + G + 1) zo) ⟨(Ht rfl),(Ht rfl),trivial⟩) ?_)))))
        refine fV aO rfl (by kernel_rfl) (zF (zF (zF (zF (zF (aJ (aJ (aV (ro rfl (jB U_35 Z_131 (Ht rfl) (Ht rfl) rfl (j:=0) rfl hYU hrY hkr) (a1d Z_131 (Ht rfl) (Ht rfl) (j:=0) rfl (El.ag rfl) (F:=QT) (z:=gm Y r k - gm X r c / gm X c c * gm Y c k) hYU hrY hkr rfl (eX (bA (cY (rm rfl (ro rfl (dV (Ht rfl) (cJ 1) z6) ?_)))))))))))))))
        refine ra rfl (eX (fU (k + 1) ⟨by omega,hk2⟩ zo (zS rfl) (aU (nZ (congrArg _ hst)) (aU (aB rfl) aY))))
       ·have hk3 : k = i + 1 := by simp only [decide_eq_false_iff_not] at hk; omega
        subst hk3
        refine gV rfl (bA (cY (rm rfl (ro rfl (dV (Ht rfl) (cJ 1) z6) (ra rfl (eX (cH [0] rfl (by decide) (fU (r + 1) hr zo (zS rfl) (aU (nZ (congrArg _ hend)) aY)))))))))
      ·have hrc : r = c := by simpa using hrc
       subst hrc
       refine cU (bA (cY (rm rfl (ro rfl (dV (Ht rfl) (cJ 1) z6) (ra rfl (eX (fU (r + 1) hr zo (zS rfl) (aU (nZ (congrArg _ Ri)) aY))))))))
     ·have hri : r = i := by simp only [decide_eq_false_iff_not] at hr; omega
      subst hri
      refine gV rfl (bA (cY (rm rfl (ro rfl (dV (Ht rfl) (cJ 1) z6) (ra rfl (eX (fU (c + 1,us,redJ D c r) ⟨hcn,hnx,hus⟩ (by dsimp only; omega) (zS rfl) (cT.refl _))))))))
  ·have hci : c = i := by simp only [decide_eq_false_iff_not] at hcn; omega
   subst hci
   have hvl:=hvs.len
   have hgj:=vF hs (Nat.le_succ c) hc hA
   have hAs:cM A c (c + 1):=hgj.sh
   have hAf:aS A G:=hz.st c A hc (by rw [← hC]; exact hA)
   have hAl:=hAs.1
   rw [hC] at hA
   refine gV rfl (ts (rm rfl (rn rfl (lY (T:=ZQ) (i:=Tryz.t131) Cf sJ rfl rfl (Ht rfl) rfl a3V (El.ag rfl) (by show 88 * _ ≤ _; omega) zo) fun B143=>(ra rfl (eX (cK (ts (ro rfl (cQ (cJ 0)) (eX (eG ?_))))))))))
   refine bS (fun (j : Nat) => j ≤ c) (fun (j : Nat) => c - j) (fun (j : Nat) => [(6, NT .i64 c), (7, Is (.slice (some ⟨B30, 0, none⟩) c c)), (15, Is B143), (16, NT .i64 j)]) (fun (j : Nat) => [jD B30 35 131 5 vs vs (bL QT A), cD 131 5 B143 (iU (fun j => QT (gm A j c / gm A j j)) ZQ c j)]) 0 (Nat.zero_le _)
    (zS rfl) (aU (fun _ _ _ h=>h) (aU (cA (by rw [← iF]; exact Pc _ _)) aY)) (fun j hj=>?_)
   refine cK (ts (rm rfl (rm rfl (ro rfl (gX (Ht rfl) (Ht rfl)) (eX (dQ (Ht rfl) (fun hq=>?_) (fun hq=>?_)))))))
   ·have hq : j < c := by simp only [decide_eq_true_eq] at hq; omega
    have hrr:(A.getD j []).length = c + 1:=hAs.row hq
    haveI f1:aD (gm A j c) G:=hAf.get hG1 j c
    haveI f2:aD (gm A j j) G:=hAf.get hG1 j j
    refine cU (cK (eG (Y.D_start (m:=22) [(21,1,cD 131 5 B143 ((iU (fun j=>QT (gm A j c / gm A j j)) ZQ c j).set j (QT (gm A j c / gm A j j))))] (Y.D_step (Ei:=[(15,_)]) rfl rfl (bQ (bJ rfl rfl) bX) rfl rfl (by kernel_rfl) (dX rfl (cX (Ht rfl))) (Y.D_step (Ei:=[(16,_)]) rfl rfl (bQ (bJ rfl rfl) bX) rfl rfl (by kernel_rfl) (dX rfl (cX (Ht rfl))) (Y.D_step (Ei:=[(7,_)]) rfl rfl (bQ (bJ rfl rfl) bX) rfl rfl (by kernel_rfl) (dX rfl (cX (Ht rfl))) (Y.D_step (Ei:=[(16,_)]) rfl rfl (bQ (bJ rfl rfl) bX) rfl rfl (by kernel_rfl) (dX rfl (cX (Ht rfl))) ?_)))))))
    refine Y.D_step (Ei:=[(152,_),(153,_)]) rfl rfl (bQ (bZ 2 rfl rfl) (bQ (bZ 3 rfl rfl) bX)) rfl rfl (by kernel_rfl) (dX rfl (fY U_36 Z_35 (Ht rfl) (Ht rfl) rfl zo (by rw [Nat.mul_one,Nat.zero_add]))) ?_
    refine Y.D_step (Ei:=[(154,_)]) rfl rfl (bQ (bZ 4 rfl rfl) bX) rfl rfl (by kernel_rfl) (dX rfl (gH A_35 Z_35 (Ht rfl) (j:=0) rfl zo)) (Y.D_step (Ei:=[(6,_)]) rfl rfl (bQ (bJ rfl rfl) bX) rfl rfl (by kernel_rfl) (dX rfl (cX (Ht rfl))) (Y.D_step (Ei:=[(155,_),(156,_)]) rfl rfl (bQ (bZ 5 rfl rfl) (bQ (bZ 6 rfl rfl) bX)) rfl rfl (by kernel_rfl) (dX rfl (jB U_35 Z_131 (Ht rfl) (Ht rfl) rfl (j:=0) rfl zo zo zo)) ?_))
    refine Y.D_step (Ei:=[(157,_)]) rfl rfl (bQ (bZ 7 rfl rfl) bX) rfl rfl (by kernel_rfl) (dX rfl (lU A_131 Z_131 (Ht rfl) (j:=0) rfl zo zo zo)) (Y.D_step (Ei:=[(7,_)]) rfl rfl (bQ (bJ rfl rfl) bX) rfl rfl (by kernel_rfl) (dX rfl (cX (Ht rfl))) (Y.D_step (Ei:=[(16,_)]) rfl rfl (bQ (bJ rfl rfl) bX) rfl rfl (by kernel_rfl) (dX rfl (cX (Ht rfl))) (Y.D_step (Ei:=[(159,_),(160,_)]) rfl rfl (bQ (bZ 9 rfl rfl) (bQ (bZ 10 rfl rfl) bX)) rfl rfl (by kernel_rfl) (dX rfl (fY U_36 Z_35 (Ht rfl) (Ht rfl) rfl zo (by rw [Nat.mul_one,Nat.zero_add]))) ?_)))
    refine Y.D_step (Ei:=[(161,_)]) rfl rfl (bQ (bZ 11 rfl rfl) bX) rfl rfl (by kernel_rfl) (dX rfl (gH A_35 Z_35 (Ht rfl) (j:=0) rfl zo)) (Y.D_step (Ei:=[(16,_)]) rfl rfl (bQ (bJ rfl rfl) bX) rfl rfl (by kernel_rfl) (dX rfl (cX (Ht rfl))) (Y.D_step (Ei:=[(162,_),(163,_)]) rfl rfl (bQ (bZ 12 rfl rfl) (bQ (bZ 13 rfl rfl) bX)) rfl rfl (by kernel_rfl) (dX rfl (jB U_35 Z_131 (Ht rfl) (Ht rfl) rfl (j:=0) rfl zo zo zo)) ?_))
    refine Y.D_step (Ei:=[(164,_)]) rfl rfl (bQ (bZ 14 rfl rfl) bX) rfl rfl (by kernel_rfl) (dX rfl (lU A_131 Z_131 (Ht rfl) (j:=0) rfl zo zo zo)) (Y.D_step (Ei:=[(158,_),(165,_)]) rfl rfl (bQ (bZ 8 rfl rfl) (bQ (bZ 15 rfl rfl) bX)) rfl rfl (by kernel_rfl) (dX rfl (cZ Tryz.call144 (yV (x:=gm A j c) (y:=gm A j j) (L:=G) (M:=G) zo) ⟨(Ht rfl),(Ht rfl),trivial⟩)) (Y.D_step (Ei:=[(166,_)]) rfl rfl (bQ (bZ 16 rfl rfl) bX) rfl rfl (by kernel_rfl) (dX rfl (cX (Ht rfl))) ?_))
    refine Y.D_step (Ei:=[(149,_)]) rfl rfl (bQ (bZ 17 rfl rfl) bX) rfl rfl (by kernel_rfl) (dX rfl (dK (Ht rfl) rfl)) (bY (Ei:=[(149,_)]) rfl rfl (bQ (bZ 17 rfl rfl) bX) rfl rfl (dX rfl (dK (Ht rfl) rfl)) (Y.D_step (Ei:=[(150,_),(151,_)]) rfl rfl (bQ (bZ 0 rfl rfl) (bQ (bZ 1 rfl rfl) bX)) rfl rfl (by kernel_rfl) (dX rfl (dB U_35 Z_131 (Ht rfl) (Ht rfl) rfl (i:=1) rfl (by rw [eM]; omega) rfl)) ?_))
    refine Y.D_putI (Ei:=[(169,_),(167,_)]) 1 rfl rfl rfl (bQ (bZ 20 rfl rfl) (bQ (bZ 18 rfl rfl) bX)) (.head _) rfl (Cy Z_131 (Ht rfl) (Ht rfl) (El.ag rfl) (i:=0) rfl rfl (by rw [eM]; omega)) ?_
    refine Y.D_done aO rfl (by kernel_rfl) rfl (by simp [Y.okP]) rfl rfl (bU (bU (bU (bU (bU (bU (bU (bU (bU (bU (bU (bU (bU (bU (bU (bU (bU (bU (bU (bU (bU (Y.F_putI (Y.F_nil ?_)))))))))))))))))))))))
    refine eX (bA (cY (rm rfl (ro rfl (dV (Ht rfl) (cJ 1) z6) (ra rfl (eX (fU (j + 1) hq zo (zS rfl) (aU (fun _ _ _ h=>h) (aU (cA (jH (f:=(fun j=>QT (gm A j c / gm A j j))))) aY)))))))))
   ·have hjc : j = c := by simp only [decide_eq_false_iff_not] at hq; omega
    subst hjc
    rw [jG]
    refine gV rfl (gJ (i:=1) (tt:=15) rfl rfl kH (ts (rm rfl (ra rfl (ro rfl (cQ (cJ 0)) (eX (bM rfl (fX (eU rfl) ?_) (fX (eU rfl) ?_))))))))
    ·exact (kF (a2m hA))
    ·exact (aR (a2k hA).symm)
end
section
open Go Go.RowKit
theorem a2R {M:List (List Qi)} {b:List Qi} {n:Nat} (h:cM M n n):∀ v V,(fH [qU (Yh M b n),bD .i64 (Yg M b n)]).p v V → (fH [qU (dP (kU M b n) (kL M b n)),bD .i64 (kU M b n)]).p v V:=by
 rw [a07 h,(Xs h).1]; exact fun _ _ k=>k
theorem Xk {l:List Qi} {k:Nat} {z:Qi} (h:k < l.length):((l.set k z).map QT)[k]? = some (QT z):=by rw [List.getElem?_map,List.getElem?_set_self h]; rfl
theorem Zm {M:List (List Qi)} {n G:Nat} (hM:cM M n n) (hz:∀ i,i < n → Yr M (ek n i) n G) (hn:n ≤ 32):bB Tryz.prog 262 [QM M] (fH [QM (dP (nQ M n) (mS M n)),bD .i64 (nQ M n)]):=by
 have hMl:=hM.1
 refine bB.intro Tryz.func262 rfl Tryz.ntmps262 rfl (fun cx=>(ts (ro rfl (cQ cV) (ro rfl (cQ (cJ 0)) (eX (cK (ts (rm rfl (ro rfl (cZ Tryz.call238 (Ao hM hn) ⟨(Ht rfl),trivial⟩) (ro rfl (eT (Ht rfl)) (eX (iR (Ht rfl) (by rfl) ?_))))))))))))
 refine cU (ts (rm rfl (ro rfl (dG U_36 (Ht rfl) (by rw [List.length_map,hMl])) ?_)))
 refine ra rfl (eX (ts (rm rfl (rm rfl (jF K_129 (oL (n:=n) (m:=n) zo zo) ⟨(Ht rfl),(Ht rfl),trivial⟩ rfl (fun B18 _=>(ra rfl (eX (ts (rm rfl (ro rfl (cZ Tryz.call199 ((a26 (n:=n) hn).fun fun B _ v S V h1 h2=>gK (s:=5) (M:=sI n) (pO n).1.symm v S V h1 h2) ⟨(Ht rfl),trivial⟩) (ra rfl (eX (cK (ts (ro rfl (cQ (cJ 0)) (eX (eG ?_))))))))))))))))))
 refine bS (fun (k : Nat) => k ≤ n ∧ ∀ i, i < k → kU M (ek n i) n = 0) (fun (k : Nat) => n - k) (fun (k : Nat) => [(0, QM M), (4, NT .i64 n), (5, Is (.slice (some ⟨B18, 0, none⟩) n n)), (6, QM (sI n)), (7, NT .i64 k)]) (fun (k : Nat) => [jQ dT B18 35 131 5 (bL QT (mG (Im M n) n n k 0))]) 0 ⟨Nat.zero_le _, fun i h => by omega⟩
  (zS rfl) (aU (bE (by rw [tP,← tX]; rfl)) aY) (fun k ⟨hk,h0⟩=>?_)
 refine cK (ts (rm rfl (rm rfl (ro rfl (gX (Ht rfl) (Ht rfl)) (eX (dQ (Ht rfl) (fun hd=>?_) (fun hd=>?_)))))))
 ·have hkn : k < n := by simp only [decide_eq_true_eq] at hd; omega
  have hel:=Uz hkn
  refine cU (cK (eG (ts (rm rfl (rm rfl (rm rfl (ro rfl (dZ U_36 Z_35 (Ht rfl) (Ht rfl) rfl (dY (dU (d:=[]) (by rw [(pO n).1]; exact hkn)))) ?_)))))))
  refine ro rfl (dJ A_35 Z_35 (Ht rfl)) (ro rfl (cZ Tryz.call201 (eQ (Qb (M:=M) (b:=ek n k) (n:=n) (G:=G) hM hel (hz k hkn) zo hn) (a2R hM)) ⟨(Ht rfl),(Ht rfl),trivial⟩) (rm rfl (ro rfl (dK (Ht rfl) rfl) (ro rfl (dK (Ht rfl) rfl) (ra rfl (ra rfl (eX (cK (ts (rm rfl (ro rfl (kE (Ht rfl) cV) (eX (dQ (Ht rfl) (fun he=>?_) (fun he=>?_))))))))))))))
  ·have he2 : ¬ kU M (ek n k) n = 0 := by simpa using he
   have hi:=Ny h0 hkn he2
   refine ts (rm rfl (ro rfl (cQ cV) (ra rfl (eX (bM rfl (fX (eU rfl) ?_) (fX (eU rfl) ?_))))))
   ·exact (fun v V h=>by rw [hi,dP,if_neg he2]; exact gY v V h)
   ·exact (aR hi.symm)
  ·have he2 : kU M (ek n k) n = 0 := by simpa using he
   have hxl:=Bu M (ek n k) n
   refine oJ (E':=[(0,_),(4,_),(5,_),(6,_),(7,_),(8,_)]) (aQ rfl (aQ rfl (aQ rfl (aQ rfl (aQ rfl (aZ rfl (kF (Us:=(kL M (ek n k) n).map QT) (by rw [he2]; rfl)) aX)))))) ?_
   refine cU (ts (ro rfl (cQ (cJ 0)) (eX (eG ?_))))
   refine bS (fun (i : Nat) => i ≤ n) (fun (i : Nat) => n - i) (fun (i : Nat) => [(0, QM M), (4, NT .i64 n), (5, Is (.slice (some ⟨B18, 0, none⟩) n n)), (6, QM (sI n)), (7, NT .i64 k), (8, qU (kL M (ek n k) n)), (10, NT .i64 i)]) (fun (i : Nat) => [jQ dT B18 35 131 5 (bL QT (mG (Im M n) n n k i))]) 0 (Nat.zero_le _)
    (zS rfl) (cT.refl _) (fun i hi=>?_)
   refine cK (ts (rm rfl (rm rfl (ro rfl (gX (Ht rfl) (Ht rfl)) (eX (dQ (Ht rfl) (fun hf2=>?_) (fun hf2=>?_)))))))
   ·have hin : i < n := by simp only [decide_eq_true_eq] at hf2; omega
    have hpl:=(kO (Im M n) n n k i).1
    have hpr:((mG (Im M n) n n k i).getD i []).length = n:=(kO (Im M n) n n k i).row hin
    refine jK 0 (i) rfl (jP zo) (fun v hv=>(cU (cK (eG (fZ (m:=9) (dp 5 rfl (cX (Ht rfl)) (dp 10 rfl (cX (Ht rfl)) (cP 43 0 44 1 rfl (fY U_36 Z_35 (Ht rfl) (Ht rfl) rfl zo (by rw [Nat.mul_one,Nat.zero_add])) ?_))))))))
    refine dq 45 2 rfl (gS A_35 Z_35 (Ht rfl) (j:=0) rfl) (dp 7 rfl (cX (Ht rfl)) (dp 8 rfl (cX (Ht rfl)) (dp 10 rfl (cX (Ht rfl)) (cP 48 5 49 6 rfl (dZ U_35 Z_131 (Ht rfl) (Ht rfl) rfl (dY (dU (d:=Qi.zero) zo))) (dq 50 7 rfl (dJ A_131 Z_131 (Ht rfl)) (fV aO rfl (by kernel_rfl) (zF (zF (aJ (aV (ro rfl (dB U_35 Z_131 (Ht rfl) (Ht rfl) rfl (i:=1) rfl (by rw [List.length_map]; omega) rfl) ?_)))))))))))
    refine kM Z_131 (Ht rfl) (Ht rfl) (El.ag rfl) (i:=1) rfl rfl (by rw [List.length_map]; omega) rfl ?_
    refine eX (bA (dS 0 1 rfl rfl (by decide) (by simp only [bL,List.length_map]; omega) ?_))
    refine cY (rm rfl (ro rfl (dV (Ht rfl) (cJ 1) z6) (ra rfl (eX (cH [0] rfl (by decide) (fU (i + 1) hin zo (zS rfl) (aU (bE (by rw [fI,eH]; exact congrArg _ (qC (val:=Im M n) hin hkn))) aY)))))))
   ·have hin : i = n := by simp only [decide_eq_false_iff_not] at hf2; omega
    rw [hin,wB]
    refine gV rfl (bA (cY (rm rfl (ro rfl (dV (Ht rfl) (cJ 1) z6) (ra rfl (eX ?_))))))
    refine fU (k + 1) ⟨hkn, fun j h => by
     by_cases e:j = k
     ·rw [e]; exact he2
     ·exact h0 j zo⟩ zo (zS rfl) (cT.refl _)
 ·have hkn : k = n := by simp only [decide_eq_false_iff_not] at hd; omega
  subst hkn
  have hi:=Dy h0
  rw [Vt]
  refine gV rfl (gJ (i:=0) (tt:=5) rfl rfl (gK (s:=5) (M:=mS M k) (oR M k).1.symm) (ts (rm rfl (ra rfl (ro rfl (cQ (cJ 0)) (eX (bM rfl (fX (eU rfl) ?_) (fX (eU rfl) ?_))))))))
  ·exact (kF (by rw [hi]; rfl))
  ·exact (aR hi.symm)
theorem Qa {a b:List (List Qi)} {n k m L M:Nat} (ha:cM a n k) (hb:cM b k m) (hfa:aS a L) (hfb:aS b M) (hL1:1 ≤ L) (hM1:1 ≤ M) (hL:L ≤ 900000000000) (hM:M ≤ 900000000000) (hn1:1 ≤ n ∨ k = 0) (hk1:1 ≤ k ∨ m = 0) (hn:n ≤ 8) (hk:k ≤ 8) (hm:m ≤ 8):gF Tryz.prog 263 [QM a,QM b] [] (Nat) (fun B=>fH [Is (.slice (some ⟨B,0,none⟩) n n),bD .i64 0]) (fun B=>[jQ dT B 35 131 5 (bL QT (iC a b n k m))]) (fun _=>True):=by
 have hal:=ha.1
 have hbl:=hb.1
 refine gF.intro Tryz.func263 rfl Tryz.ntmps263 rfl (fun cx Z=>(ts (ro rfl (cQ cV) (ro rfl (cQ (cJ 0)) (eX (cK (ts (rm rfl (ro rfl (cZ Tryz.call271 (Ap ha zo zo) ⟨(Ht rfl),trivial⟩) (ro rfl (eT (Ht rfl)) (rm rfl (fQ rfl rfl (eK rfl rfl (Ht rfl) (fun h=>cX (Ht rfl))) (fQ rfl rfl (eK rfl rfl (Ht rfl) (fun h=>cZ Tryz.call271 (Ap hb zo zo) ⟨(fJ rfl h),trivial⟩)) (fQ rfl rfl (eK rfl rfl (Ht rfl) (fun h=>eT (fJ rfl h))) (ro rfl (gT (Ht rfl) (fun h=>(fJ rfl h))) ?_)))))))))))))))
 refine rm rfl (fQ rfl rfl (eK rfl rfl (Ht rfl) (fun h=>cX (Ht rfl))) (fQ rfl rfl (eK rfl rfl (Ht rfl) (fun h=>cZ Tryz.call272 (pI ha hn1) ⟨(fJ rfl h),trivial⟩)) (fQ rfl rfl (eK rfl rfl (Ht rfl) (fun h=>cX (Ht rfl))) (fQ rfl rfl (eK rfl rfl (Ht rfl) (fun h=>dG U_36 (fJ rfl h) (by rw [List.length_map,hbl]))) ?_))))
 refine fQ rfl rfl (eK rfl rfl (Ht rfl) (fun h=>eO (fJ rfl h) (fJ rfl h))) (ro rfl (gT (Ht rfl) (fun h=>(fJ rfl h))) (eX (iR (Ht rfl) (by simp) ?_)))
 refine cU (ts (rm rfl (ro rfl (dG U_36 (Ht rfl) (by rw [List.length_map,hal])) ?_)))
 refine rm rfl (ro rfl (cZ Tryz.call272 (pI hb hk1) ⟨(Ht rfl),trivial⟩) (jF K_129 (oL (n:=n) (m:=m) zo zo) ⟨(Ht rfl),(Ht rfl),trivial⟩ rfl (fun B29 _=>(ra rfl (eX (cK (ts (ro rfl (cQ (cJ 0)) (eX (eG ?_))))))))))
 refine bS (fun (i : Nat) => i ≤ n) (fun (i : Nat) => n - i) (fun (i : Nat) => [(0, QM a), (1, QM b), (6, Is (.slice (some ⟨B29, 0, none⟩) n n)), (7, NT .i64 i)]) (fun (i : Nat) => [Z, jQ dT B29 35 131 5 (bL QT (iU (fun r => tab m fun x => pW a b k r x) (tab m fun _ => Qi.zero) n i))]) 0 (Nat.zero_le _)
  (zS rfl) (aU (fun _ _ _ h=>h) (aU (bE (by rw [tP,iF])) aY)) (fun i hi=>?_)
 refine cK (ts (rm rfl (rm rfl (ro rfl (dG U_36 (Ht rfl) (by rw [List.length_map,hal])) ?_))))
 refine ro rfl (gX (Ht rfl) (Ht rfl)) (eX (dQ (Ht rfl) (fun hd=>?_) (fun hd=>?_)))
 ·have hin : i < n := by simp only [decide_eq_true_eq] at hd; omega
  have har:=ha.row hin
  refine jK 1 (i) rfl (kQ hin) (fun v0 hv0=>(cU (cK (eG (ts (ro rfl (cQ (cJ 0)) (eX (eG ?_))))))))
  refine bS (fun (x : Nat) => x ≤ m) (fun (x : Nat) => m - x) (fun (x : Nat) => [(0, QM a), (1, QM b), (6, Is (.slice (some ⟨B29, 0, none⟩) n n)), (7, NT .i64 i), (8, NT .i64 x)]) (fun (x : Nat) => [Z, qK dT B29 35 131 5 (bL QT (iU (fun r => tab m fun x => pW a b k r x) (tab m fun _ => Qi.zero) n i)) i v0, cD 131 5 v0 ((iU (fun x => pW a b k i x) Qi.zero m x).map QT)]) 0 (Nat.zero_le _)
   (zS rfl) (aU (fun _ _ _ h=>h) (aU (fun _ _ _ h=>h) (aU (cA (by rw [← iF])) aY))) (fun x hx=>?_)
  refine cK (ts (rm rfl (rm rfl (ro rfl (cZ Tryz.call272 (pI hb hk1) ⟨(Ht rfl),trivial⟩) (ro rfl (gX (Ht rfl) (Ht rfl)) (eX (dQ (Ht rfl) (fun hc=>?_) (fun hc=>?_))))))))
  ·have hxm : x < m := by simp only [decide_eq_true_eq] at hc; omega
   have hrl:=eM (fun x=>pW a b k i x) Qi.zero m x
   refine cU (cK (eG (ts (ro rfl (cQ (cJ 0)) (eX (eG ?_))))))
   refine bS (fun (j : Nat) => j ≤ k) (fun (j : Nat) => k - j) (fun (j : Nat) => [(0, QM a), (1, QM b), (6, Is (.slice (some ⟨B29, 0, none⟩) n n)), (7, NT .i64 i), (8, NT .i64 x), (9, NT .i64 j)]) (fun (j : Nat) => [Z, qK dT B29 35 131 5 (bL QT (iU (fun r => tab m fun x => pW a b k r x) (tab m fun _ => Qi.zero) n i)) i v0, cD 131 5 v0 (((iU (fun x => pW a b k i x) Qi.zero m x).set x (aH j fun t => gm a i t * gm b t x)).map QT)]) 0 (Nat.zero_le _)
    (zS rfl) (aU (fun _ _ _ h=>h) (aU (fun _ _ _ h=>h) (aU (cA (by rw [show aH 0 (fun t=>gm a i t * gm b t x) = Qi.zero from rfl,Ir hxm])) aY))) (fun j hj=>?_)
   refine cK (ts (rm rfl (rm rfl (ro rfl (dG U_36 (Ht rfl) (by rw [List.length_map,hbl])) ?_))))
   refine ro rfl (gX (Ht rfl) (Ht rfl)) (eX (dQ (Ht rfl) (fun hb2=>?_) (fun hb2=>?_)))
   ·have hjk : j < k := by simp only [decide_eq_true_eq] at hb2; omega
    have hbr:=hb.row hjk
    haveI f1:aD (gm a i j) L:=hfa.get hL1 i j
    haveI f2:aD (gm b j x) M:=hfb.get hM1 j x
    haveI f3:aD (aH j fun t=>gm a i t * gm b t x) (1 + j * (L + M + 1 + 1)):=aD.sum (L:=L + M + 1) fun t _=>by haveI:=hfa.get hL1 i t; haveI:=hfb.get hM1 t x; exact fitMul
    have hjm:j * (L + M + 1 + 1) ≤ 8 * (L + M + 2):=Nat.mul_le_mul zo (Nat.le_refl _)
    have hsl:((iU (fun x=>pW a b k i x) Qi.zero m x).set x (aH j fun t=>gm a i t * gm b t x)).length = m:=by rw [List.length_set]; exact hrl
    refine cU (cK (eG (fZ (m:=28) (dp 6 rfl (cX (Ht rfl)) (dp 7 rfl (cX (Ht rfl)) (cP 48 0 49 1 rfl (fY U_36 Z_35 (Ht rfl) (Ht rfl) rfl zo (by rw [Nat.mul_one,Nat.zero_add])) ?_))))))
    refine dq 50 2 rfl (gS A_35 Z_35 (Ht rfl) (j:=1) rfl) (dp 8 rfl (cX (Ht rfl)) (dp 6 rfl (cX (Ht rfl)) (dp 7 rfl (cX (Ht rfl)) (cP 53 5 54 6 rfl (fY U_36 Z_35 (Ht rfl) (Ht rfl) rfl zo (by rw [Nat.mul_one,Nat.zero_add])) ?_))))
    refine dq 55 7 rfl (gS A_35 Z_35 (Ht rfl) (j:=1) rfl) (dp 8 rfl (cX (Ht rfl)) (cP 56 8 57 9 rfl (dB U_35 Z_131 (Ht rfl) (Ht rfl) rfl (i:=2) rfl (by rw [List.length_map,hsl]; exact hxm) rfl) ?_))
    refine dq 58 10 rfl (oX A_131 Z_131 (Ht rfl) (i:=2) rfl rfl (Xk (by rw [hrl]; exact hxm))) ?_
    refine dp 0 rfl (cX (Ht rfl)) (dp 7 rfl (cX (Ht rfl)) (cP 60 12 61 13 rfl (dZ U_36 Z_35 (Ht rfl) (Ht rfl) rfl (dY (dU (d:=[]) zo))) (dq 62 14 rfl (dJ A_35 Z_35 (Ht rfl)) (dp 9 rfl (cX (Ht rfl)) (cP 63 15 64 16 rfl (dZ U_35 Z_131 (Ht rfl) (Ht rfl) rfl (dY (dU (d:=Qi.zero) zo))) (dq 65 17 rfl (dJ A_131 Z_131 (Ht rfl)) (dp 1 rfl (cX (Ht rfl)) (dp 9 rfl (cX (Ht rfl)) (cP 67 19 68 20 rfl (dZ U_36 Z_35 (Ht rfl) (Ht rfl) rfl (dY (dU (d:=[]) zo))) ?_)))))))))
    refine dq 69 21 rfl (dJ A_35 Z_35 (Ht rfl)) (dp 8 rfl (cX (Ht rfl)) (cP 70 22 71 23 rfl (dZ U_35 Z_131 (Ht rfl) (Ht rfl) rfl (dY (dU (d:=Qi.zero) zo))) (dq 72 24 rfl (dJ A_131 Z_131 (Ht rfl)) (cP 66 18 73 25 rfl (cZ K_146 (oM (x:=gm a i j) (y:=gm b j x) (L:=L) (M:=M) zo) ⟨(Ht rfl),(Ht rfl),trivial⟩) (cP 59 11 74 26 rfl (cZ K_149 (vB (x:=(aH j fun t=>gm a i t * gm b t x)) (y:=gm a i j * gm b j x) (L:=1 + j * (L + M + 1 + 1)) (M:=L + M + 1) zo) ⟨(Ht rfl),(Ht rfl),trivial⟩) ?_)))))
    refine fV aO rfl (by kernel_rfl) (zF (zF (zF (zF (zF (zF (zF (aV (ro rfl (dB U_35 Z_131 (Ht rfl) (Ht rfl) rfl (i:=2) rfl (by rw [List.length_map,hsl]; exact hxm) rfl) ?_)))))))))
    refine kM Z_131 (Ht rfl) (Ht rfl) (El.ag rfl) (i:=2) rfl rfl (by rw [List.length_map,hsl]; exact hxm) rfl ?_
    refine eX (bA (cY (rm rfl (ro rfl (dV (Ht rfl) (cJ 1) z6) (ra rfl (eX (fU (j + 1) hjk zo (zS rfl) (aU (fun _ _ _ h=>h) (aU (fun _ _ _ h=>h) (aU (cA (by rw [fI,List.set_set]; rfl)) aY))))))))))
   ·have hjk : j = k := by simp only [decide_eq_false_iff_not] at hb2; omega
    subst hjk
    refine gV rfl (bA (cY (rm rfl (ro rfl (dV (Ht rfl) (cJ 1) z6) (ra rfl (eX (fU (x + 1) hxm zo (zS rfl) (aU (fun _ _ _ h=>h) (aU (fun _ _ _ h=>h) (aU (cA (congrArg _ (jH (f:=fun x=>pW a b j i x)))) aY))))))))))
  ·have hxm : x = m := by simp only [decide_eq_false_iff_not] at hc; omega
   subst hxm
   rw [jG]
   refine gV rfl (bA (dS 1 2 rfl rfl (by decide) (by simp only [bL,List.length_map,eM]; omega) ?_))
   refine cY (rm rfl (ro rfl (dV (Ht rfl) (cJ 1) z6) (ra rfl (eX (cH [0,1] rfl (by decide) (fU (i + 1) hin zo (zS rfl) (aU (fun _ _ _ h=>h) (aU (bE (by rw [eH]; exact congrArg _ (jH (f:=fun r=>tab x fun c=>pW a b k r c)))) aY))))))))
 ·have hin : i = n := by simp only [decide_eq_false_iff_not] at hd; omega
  subst hin
  rw [jG]
  refine gV rfl (ts (rm rfl (ra rfl (ro rfl (cQ (cJ 0)) (eX ?_)))))
  exact jM B29 trivial [0,1] ⟨⟨_,rfl,fun _ _ _ h=>h⟩,⟨_,rfl,fun _ _ _ h=>h⟩,trivial⟩ (by decide) (Xh rfl (eU rfl) (eU rfl))
theorem Ud {a b:List (List Qi)} {n k m L M:Nat} (ha:cM a n k) (hb:cM b k m) (hfa:aS a L) (hfb:aS b M) (hL1:1 ≤ L) (hM1:1 ≤ M) (hL:L ≤ 900000000000) (hM:M ≤ 900000000000) (hn1:1 ≤ n ∨ k = 0) (hk1:1 ≤ k ∨ m = 0) (hn:n ≤ 8) (hk:k ≤ 8) (hm:m ≤ 8):bB Tryz.prog 263 [QM a,QM b] (fH [QM (iC a b n k m),bD .i64 0]):=(Qa ha hb hfa hfb hL1 hM1 hL hM hn1 hk1 hn hk hm).fun fun B _ v S V h1 h2=>a18 h1 fun u hu=>gK (s:=5) (M:=iC a b n k m) iQ.1.symm u S V hu h2
theorem Uc {Y M:List (List Qi)} {n G X K:Nat} (hY:cM Y n n) (hM:cM M n n) (hfY:aS Y K) (hK:1 ≤ K) (hKb:K ≤ 900000000000) (hz:∀ i,i < n → Yr M (ek n i) n G) (hif:nQ M n = 0 → aS (mS M n) X) (hX:X ≤ 900000000000) (hn:n ≤ 8):bB Tryz.prog 222 [QM Y,QM M] (fH [QM (ovX Y M n),aC (decide (Gf M n = 0))]):=by
 refine bB.intro Tryz.func222 rfl Tryz.ntmps222 rfl (fun cx=>(ts (ro rfl (cQ cV) (ro rfl (cQ cV) (eX (ts (rm rfl (ro rfl (cZ Tryz.call262 (Zm hM hz zo) ⟨(Ht rfl),trivial⟩) (rm rfl (ro rfl (dK (Ht rfl) rfl) (ro rfl (dK (Ht rfl) rfl) (ra rfl (ra rfl (eX (cK (ts (rm rfl (ro rfl (kE (Ht rfl) cV) (eX (dQ (Ht rfl) (fun he=>?_) (fun he=>?_)))))))))))))))))))))
 ·have he2 : ¬ nQ M n = 0 := by simpa using he
  have ho:Gf M n = 5:=if_neg he2
  refine ts (ro rfl (cQ cV) (ro rfl (cQ cV) (eX (bM rfl (fX (eU rfl) ?_) (fX (eU rfl) ?_)))))
  ·exact (fun v V h=>by rw [ovX,ho]; exact gY v V h)
  ·exact (dM (by rw [ho]; rfl))
 ·have he2 : nQ M n = 0 := by simpa using he
  have ho:Gf M n = 0:=if_pos he2
  have hif:aS (mS M n) (max X 1):=(hif he2).le (Nat.le_max_left X 1)
  have h1:1 ≤ n ∨ n = 0:=by omega
  refine oJ (E':=[(0,_),(1,_),(4,_),(5,_),(6,_),(7,_),(10,_),(11,_),(12,_),(13,_),(14,_),(15,_),(16,_)]) (aQ rfl (aQ rfl (aQ rfl (aQ rfl (aZ rfl (kF (Us:=(mS M n).map qU) (by rw [he2]; rfl)) (zS rfl)))))) ?_
  refine cU (ts (rm rfl (rm rfl (ro rfl (cZ Tryz.call263 (Ud (n:=n) (k:=n) (m:=n) hY (oR M n) hfY hif hK zo hKb zo h1 h1 hn hn hn) ⟨(Ht rfl),(Ht rfl),trivial⟩) (rm rfl (ro rfl (dK (Ht rfl) rfl) (ro rfl (dK (Ht rfl) rfl) (ra rfl (ra rfl (eX (ts (rm rfl (ra rfl (ro rfl (cQ cV) (eX (bM rfl (fX (eU rfl) ?_) (fX (eU rfl) ?_)))))))))))))))))
  ·exact (kF (by rw [ovX,ho]; rfl))
  ·exact (dM (by rw [ho]; rfl))
end
section
open Go Go.RowKit
theorem Kw {Y M:List (List Qi)} {n G X K:Nat} (hY:cM Y n n) (hM:cM M n n) (hfY:aS Y K) (hK:1 ≤ K) (hKb:K ≤ 900000000000) (hz:∀ i,i < n → Yf M (ek n i) n G X) (hX:X ≤ 900000000000) (hn:n ≤ 8):bB Tryz.prog 186 [cE Y,cE M] (fH [cE (ovX Y M n),bD .i64 (Gf M n)]):=by
 refine bB.intro Tryz.func186 rfl Tryz.ntmps186 rfl (fun cx=>(ts (ro rfl (cQ cV) (ro rfl (cQ (cJ 0)) (eX (ts (rm rfl (ro rfl (cZ Tryz.call248 (a1Y hM hz zo) ⟨(Ht rfl),trivial⟩) (rm rfl (ro rfl (dK (Ht rfl) rfl) (ro rfl (dK (Ht rfl) rfl) (ra rfl (ra rfl (eX (cK (ts (rm rfl (ro rfl (kE (Ht rfl) cV) (eX (dQ (Ht rfl) (fun he=>?_) (fun he=>?_)))))))))))))))))))))
 ·have he2 : ¬ nQ M n = 0 := by simpa using he
  have ho:Gf M n = 5:=if_neg he2
  refine ts (ro rfl (cQ cV) (ro rfl (cQ (cJ 5)) (eX (bM rfl (fX (eU rfl) ?_) (fX (eU rfl) ?_)))))
  ·exact (fun v V h=>by rw [ovX,ho]; exact gY v V h)
  ·exact (aR ho.symm)
 ·have he2 : nQ M n = 0 := by simpa using he
  have ho:Gf M n = 0:=if_pos he2
  have hif:aS (mS M n) (max X 1):=(xR hz he2).le (Nat.le_max_left X 1)
  have h1:1 ≤ n ∨ n = 0:=by omega
  refine oJ (E':=[(0,_),(1,_),(4,_),(5,_),(6,_),(7,_),(8,_),(9,_),(10,_),(11,_),(12,_),(13,_),(14,_)]) (aQ rfl (aQ rfl (aQ rfl (aQ rfl (aZ rfl (kF (Us:=(mS M n).map bN) (by rw [he2]; rfl)) (zS rfl)))))) ?_
  refine cU (ts (rm rfl (rm rfl (ro rfl (cZ Tryz.call195 (Ze (n:=n) (k:=n) (m:=n) hY (oR M n) hfY hif hK zo hKb zo h1 h1 hn hn hn) ⟨(Ht rfl),(Ht rfl),trivial⟩) (ro rfl (dK (Ht rfl) rfl) (ro rfl (dK (Ht rfl) rfl) (ra rfl (ra rfl (eX (bM rfl (fX (eU rfl) ?_) (fX (eU rfl) ?_)))))))))))
  ·exact (kF (by rw [ovX,ho]; rfl))
  ·exact (aR ho.symm)
theorem a0T {P:Program} {f:FuncId} {A1 A2 B1 B2 C1 C2:Ty} {R1 R2:Ty} {x:Bool} (h1:bB P f [A1,A2,C1,C2] R1) (h2:bB P f [B1,B2,C1,C2] R2):bB P f ((cond x [A1,A2] [B1,B2]) ++ [C1,C2]) (cond x R1 R2):=by cases x; exact h2; exact h1
theorem a2a {st fa z:List Qi} {s:List (List Qi)} {n i j K L:Nat} (hst:st.length = n) (hfa:fa.length = n) (hs:cM s n n) (h1:bP st K) (h2:bP fa K) (h3:aS s L) (hK:1 ≤ K) (hL:1 ≤ L) (hb:2 * K + L + 2 ≤ 900000000000) (hi:i < n) (hj:j < n):bB Tryz.prog 185 [NT .i64 i,NT .i64 j,PT (bN st),PT (bN fa),PT (nF z s)] (aN (Sc st fa s i j)):=by
 have hsl:=hs.1
 have hsr:=hs.row hi
 haveI f1:aD (gv fa i) K:=h2.get hK i
 haveI f2:aD (gm s i j) L:=h3.get hL i j
 refine bB.intro Tryz.func185 rfl Tryz.ntmps185 rfl (fun cx=>(ts (rn rfl (eW (Ts:=[Is (.bool false),Is (.slice none 0 0),Is (.bool false),Is (.slice none 0 0),Is (.slice none 0 0)]) O_51 rfl (fun V=>aW zd (aW zd (aW zd (aW zd (aW zd (aG))))))) fun B7=>(eX (ts (ro rfl (cZ Tryz.call109 (Zr (n:=0) (by decide) (by decide)) ⟨(cJ 0),trivial⟩) (rn rfl (eW (Ts:=[Is (.bool false),Is (.slice none 0 0),Is (.bool false),Is (.slice none 0 0),Is (.slice none 0 0)]) O_51 rfl (fun V=>aW zd (aW zd (aW zd (aW zd (aW zd (aG))))))) fun B8=>?_)))))))
 refine gQ Z_51 (Ht rfl) (Ht rfl) rfl (i:=1) rfl (aK rfl) rfl rfl (eX (cK (jL (fun (x:Qi)=>x = (if i = j then gv st i else Qi.ofInt 0)) (fun (x:Qi)=>[(0,NT .i64 i),(1,NT .i64 j),(3,PT (bN fa)),(4,PT (nF z s)),(7,dA B7 0),(8,dA B8 0)]) (fun (x:Qi)=>[box B7 51 [Is (.bool false),Is (.slice none 0 0),Is (.bool false),Is (.slice none 0 0),Is (.slice none 0 0)],box B8 51 [aC (decide (x.a < 0)),aE x.a.natAbs,aC (decide (x.b < 0)),aE x.b.natAbs,aE (du x)]]) ?_ (fun x hx=>?_))))
 ·refine ts (rm rfl (rm rfl (ro rfl (cR (Ht rfl) (Ht rfl)) (eX (dQ (Ht rfl) (fun hb => ?_) (fun hb => ?_))))))
  ·have hij : i = j := by simpa using hb
   refine cY (ro rfl (dJ A_29 Z_29 (Ht rfl)) (rm rfl (ro rfl (dZ U_29 Z_51 (Ht rfl) (Ht rfl) rfl (dY (dU (d:=Qi.zero) zo))) (ro rfl (dJ A_51 Z_51 (Ht rfl)) (gQ Z_51 (Ht rfl) (Ht rfl) rfl (i:=1) rfl (aK rfl) rfl rfl (eX (bC (gv st i) (by rw [if_pos hij]) (zS rfl) (cT.refl _))))))))
  ·have hij : ¬ i = j := by simpa using hb
   refine cU (bC (Qi.ofInt 0) (by rw [if_neg hij]) (zS rfl) (cT.refl _))
 ·haveI f3 : aD x K := by
   rw [hx]; split
   ·exact h1.get hK i
   ·exact aD.zero hK
  refine cK (fZ (m:=16) (dp 8 rfl (eJ A_51 Z_51 (Ht rfl) (i:=1) rfl rfl rfl) (dq 17 0 rfl (cC dE (Ht rfl)) (dp 3 rfl (dJ A_29 Z_29 (Ht rfl)) (dp 0 rfl (cX (Ht rfl)) (cP 19 2 20 3 rfl (dZ U_29 Z_51 (Ht rfl) (Ht rfl) rfl (dY (dU (d:=Qi.zero) zo))) (dq 21 4 rfl (dJ A_51 Z_51 (Ht rfl)) (dq 22 5 rfl (cC dE (Ht rfl)) (dp 4 rfl (a0v zC (Ht rfl) rfl) (dq 24 7 rfl (dJ A_30 Z_30 (Ht rfl)) (dp 0 rfl (cX (Ht rfl)) ?_)))))))))))
  refine cP 25 8 26 9 rfl (dZ U_30 Z_29 (Ht rfl) (Ht rfl) rfl (dY (dU (d:=[]) zo))) (dq 27 10 rfl (dJ A_29 Z_29 (Ht rfl)) (dp 1 rfl (cX (Ht rfl)) (cP 28 11 29 12 rfl (dZ U_29 Z_51 (Ht rfl) (Ht rfl) rfl (dY (dU (d:=Qi.zero) zo))) (dq 30 13 rfl (dJ A_51 Z_51 (Ht rfl)) (cP 23 6 31 14 rfl (bO fS K_45 (nH (x:=gv fa i) (y:=gm s i j) (L:=K) (M:=L) zo) (Ht rfl) ⟨(Ht rfl),trivial⟩) (fV aO rfl (by kernel_rfl) (zF (zF (zF (zF (aV ?_)))))))))))
  refine ro rfl (bO sM K_46 (De (x:=x) (y:=gv fa i * gm s i j) (L:=K) (M:=K + L + 1) zo) (Ht rfl) ⟨(Ht rfl),trivial⟩) (gQ Z_51 (Ht rfl) (Ht rfl) rfl (i:=0) rfl (aK rfl) rfl rfl (eX (fW rfl (fX (fK A_51 Z_51 rfl (i:=0) rfl rfl) ?_))))
  exact (lS (by rw [hx]; rfl))
theorem a1o {st fa z w:List Qi} {s:List (List Qi)} {n K L:Nat} (hw:w.length = n) (hn:n ≤ 1000) (hst:st.length = n) (hfa:fa.length = n) (hs:cM s n n) (h1:bP st K) (h2:bP fa K) (h3:aS s L) (hK:1 ≤ K) (hL:1 ≤ L) (hb:2 * K + L + 2 ≤ 900000000000):bB Tryz.prog 184 [bN st,bN fa,PT (bN w),PT (nF z s)] (cE (mxM st fa s n)):=by
 refine bB.intro Tryz.func184 rfl Tryz.ntmps184 rfl (fun cx=>(ts (rn rfl (sO (Ht rfl)) fun B4=>(rn rfl (sO (Ht rfl)) fun B5=>(ro rfl (cQ cV) (eX (cK (gJ (i:=0) (tt:=4) rfl rfl nI (gJ (i:=1) (tt:=5) rfl rfl nI (cY (ro rfl (dJ A_29 Z_29 (Ht rfl)) (ro rfl (dG U_29 (Ht rfl) (by rw [List.length_map,hw])) ?_))))))))))))
 refine ro rfl (rK (γ:=Fin n × Fin n) (Ts:=fun x=>[NT .i64 x.1.1,NT .i64 x.2.1]) (U:=fun x=>aN (Sc st fa s x.1.1 x.2.1)) Tryz.call185 (fun x=>a2a hst hfa hs h1 h2 h3 hK hL hb x.1.2 x.2.2) ⟨(Ht rfl),(Ht rfl),(Ht rfl),trivial⟩) (ro rfl (cZ Tryz.call114 (To (n:=n) (f:=fun i j=>Sc st fa s i j) hn) ⟨(Ht rfl),(Ht rfl),trivial⟩) (ra rfl (eX ?_)))
 exact fW rfl (eU rfl)
theorem Pv {z w:List Qi} {s:List (List Qi)} {L M K G X:Nat} (hs:cM s z.length z.length) (hz:bP z L) (hw:bP w M) (hf:aS s K) (hL:1 ≤ L) (hM:1 ≤ M) (hK:1 ≤ K) (hLb:L ≤ 1000000000) (hMb:M ≤ 1000000000) (hKb:K ≤ 100000000000) (hp:z.all fP = true) (h8:z.length ≤ 8) (hwl:w.length ≤ 1000) (hsz:w.length = z.length → ∀ i,i < w.length → Yf (oF z w s) (ek w.length i) w.length G X) (hX:X ≤ 900000000000):bB Tryz.prog 84 [nF z s,bN w] (fH [nF (vR z w s) (lD z w s),bD .i64 (uT z w s)]):=by
 refine bB.intro Tryz.func84 rfl Tryz.ntmps84 rfl (fun cx=>(ts (rn rfl (fG (Ht rfl)) fun B2=>(rn rfl (sO (Ht rfl)) fun B3=>(rn rfl (eW (Ts:=[Is (.slice none 0 0),Is (.slice none 0 0)]) O_32 rfl (fun V=>aW zd (aW zd (aG)))) fun B4=>(ro rfl (cQ (cJ 0)) (eX (cK (ts (ro rfl (eY A_29 Z_29 (Ht rfl) (i:=1) rfl rfl) (ro rfl (dG U_29 (Ht rfl) aA) (ro rfl (eZ rD (Ht rfl) rfl) (ro rfl (eY A_29 Z_29 (Ht rfl) (i:=0) rfl rfl) ?_)))))))))))))
 refine ro rfl (dG U_29 (Ht rfl) aA) (ro rfl (eO (Ht rfl) (Ht rfl)) (eX (dQ (Ht rfl) (fun hb=>?_) (fun hb=>?_))))
 ·have hn : w.length ≠ z.length := by simpa using hb
  have he:=Gg (s:=s) hn
  refine ts (ro rfl (aL.imp (tS ) uH) (gQ Z_32 (Ht rfl) (Ht rfl) rfl (i:=2) rfl (aK rfl) rfl rfl (ro rfl (cQ (cJ 4)) (eX (bM rfl (fX (fK A_32 Z_32 rfl (i:=2) rfl rfl) ?_) (fX (eU rfl) ?_))))))
  ·exact (fun v V h=>by rw [vR,lD,dP,dP,he]; exact h)
  ·exact (aR he.symm)
 ·have hl : w.length = z.length := by simpa using hb
  have hsz:=hsz hl
  refine cU (cK (ts (ro rfl (eY A_29 Z_29 (Ht rfl) (i:=1) rfl rfl) (ro rfl (cZ Tryz.call183 (yG (L:=M) hw zo zo) ⟨(Ht rfl),trivial⟩) (ra rfl (eX (ts (rm rfl (ro rfl (kE (Ht rfl) cV) (eX (dQ (Ht rfl) (fun hb2=>?_) (fun hb2=>?_))))))))))))
  ·have hq : w.all fP ≠ true := fun e => by rw [e] at hb2; simp at hb2
   have he:=Xc (s:=s) hl hq
   refine ts (ro rfl (aL.imp (tS ) uH) (rm rfl (gQ Z_32 (Ht rfl) (Ht rfl) rfl (i:=2) rfl (aK rfl) rfl rfl (ra rfl (eX (bM rfl (fX (fK A_32 Z_32 rfl (i:=2) rfl rfl) ?_) (fX (eU rfl) ?_)))))))
   ·exact (fun v V h=>by rw [vR,lD,dP,dP,he]; exact h)
   ·exact (aR (by rw [if_neg hq,he]))
  ·have hq : w.all fP = true := by
    apply Decidable.byContradiction; intro e
    rw [if_neg e] at hb2; simp at hb2
   have hov:=Xd (s:=s) hl hq
   have hovX:=Xe (s:=s) hl hq
   haveI f0:=pM
   have hPf:=uL hz hw hL hM hp hl
   have hMf:=uK hz hw hL hM hp hl
   have hPl:(Sg z w).length = w.length:=bI _ _
   have hMl:(Sf z w).length = w.length:=bI _ _
   refine cU (ts (rn rfl (eW (Ts:=[Is (.bool false),Is (.slice none 0 0),Is (.bool false),Is (.slice none 0 0),Is (.slice none 0 0)]) O_51 rfl (fun V=>aW zd (aW zd (aW zd (aW zd (aW zd (aG))))))) fun B7=>(eX (ts (ro rfl (cZ K_77 (qA (n:=1) (by decide) (by decide)) ⟨(cJ 1),trivial⟩) (rn rfl (eW (Ts:=[Is (.bool false),Is (.slice none 0 0),Is (.bool false),Is (.slice none 0 0),Is (.slice none 0 0)]) O_51 rfl (fun V=>aW zd (aW zd (aW zd (aW zd (aW zd (aG))))))) fun B8=>?_))))))
   refine gQ Z_51 (Ht rfl) (Ht rfl) rfl (i:=4) rfl (aK rfl) rfl rfl (eX (cK (fZ (m:=7) (dp 3 rfl (eY A_29 Z_29 (Ht rfl) (i:=1) rfl rfl) (dq 31 0 rfl (dG U_29 (Ht rfl) aA) (C.D_new (Ei:=[(32,_)]) rfl rfl rfl (bV (bG 1 rfl rfl) bW) (lY (T:=aN Qi.zero) (i:=Tryz.t51) nS lO rfl rfl (Ht rfl) rfl kT (El.ag rfl) (by show 88 * _ ≤ _; omega) zo) (dp 3 rfl (eY A_29 Z_29 (Ht rfl) (i:=1) rfl rfl) (dq 34 3 rfl (dG U_29 (Ht rfl) aA) ?_))))))))
   refine C.D_new (Ei:=[(35,_)]) rfl rfl rfl (bV (bG 4 rfl rfl) bW) (lY (T:=aN Qi.zero) (i:=Tryz.t51) nS lO rfl rfl (Ht rfl) rfl kT (El.ag rfl) (by show 88 * _ ≤ _; omega) zo) (C.D_cpy 2 rfl rfl rfl rfl rfl C.cpy_assign (fV aO rfl (by kernel_rfl) (aJ (aJ (C.F_new (fun B33=>aJ (aJ (C.F_new (fun B36=>C.F_cpy rfl (aV (ra rfl (eX (cK (ts (ro rfl (eY A_29 Z_29 (Ht rfl) (i:=1) rfl rfl) (ro rfl (dG U_29 (Ht rfl) aA) (ro rfl (cX (cJ 0)) ?_)))))))))))))))))
   refine eX (eG ?_)
   refine bS (fun (i : Nat) => i ≤ w.length) (fun (i : Nat) => w.length - i) (fun (i : Nat) => [(2, dA B2 0), (3, dA B3 0), (4, dA B4 0), (7, dA B7 0), (8, dA B8 0), (9, Is B33), (10, Is B36), (38, NT .i64 w.length), (39, NT .i64 i)]) (fun (i : Nat) => [box B2 32 [bN z, cE s], box B3 29 [bN w], box B4 32 [Is (.slice none 0 0), Is (.slice none 0 0)], box B7 51 [Is (.bool false), Is (.slice none 0 0), Is (.bool false), Is (.slice none 0 0), Is (.slice none 0 0)], box B8 51 [aC (decide ((Qi.ofInt 1).a < 0)), aE (Qi.ofInt 1).a.natAbs, aC (decide ((Qi.ofInt 1).b < 0)), aE (Qi.ofInt 1).b.natAbs, aE (du (Qi.ofInt 1))], cD 51 5 B33 ((iU (fun i => Qi.ofInt 1 + gC z w i) Qi.zero w.length i).map aN), cD 51 5 B36 ((iU (fun i => Qi.ofInt 1 - gC z w i) Qi.zero w.length i).map aN)]) 0 (Nat.zero_le _)
    (zS rfl) (aU (aB rfl) (aU (aB rfl) (aU (aB rfl) (aU (aB rfl) (aU (aB rfl) (aU (cA (by rw [← iF]; exact Gj aN _)) (aU (cA (by rw [← iF]; exact Gj aN _)) aY))))))) (fun i hi=>?_)
   refine ts (ro rfl (gX (Ht rfl) (Ht rfl)) (eX (cK (dQ (Ht rfl) (fun hc=>?_) (fun hc=>?_)))))
   ·have hin : i < w.length := by simp only [decide_eq_true_eq] at hc; omega
    have hzn:=qV hp (show i < z.length by omega)
    haveI g1:aD (gv w i) M:=hw.get hM i
    haveI g2:aD (gv z i) L:=hz.get hL i
    haveI g3:aD (gC z w i) (M + 3 * L + 2):=pT hz hw hL hM hp zo
    have hl9:=eM (fun i=>Qi.ofInt 1 + gC z w i) Qi.zero w.length i
    have hl10:=eM (fun i=>Qi.ofInt 1 - gC z w i) Qi.zero w.length i
    refine cU (cK (eG (ts (rm rfl (ra rfl (eX (cK (Y.D_start (m:=15) [] (bY (Ei:=[(3,_)]) rfl rfl (bQ (bJ rfl rfl) bX) rfl rfl (dX rfl (eY A_29 Z_29 (Ht rfl) (i:=1) rfl rfl)) (bY (Ei:=[(11,_)]) rfl rfl (bQ (bJ rfl rfl) bX) rfl rfl (dX rfl (cX (Ht rfl))) (bY (Ei:=[(43,_),(44,_)]) rfl rfl (bQ (bZ 0 rfl rfl) (bQ (bZ 1 rfl rfl) bX)) rfl rfl (dX rfl (dZ U_29 Z_51 (Ht rfl) (Ht rfl) rfl (dY (dU (d:=Qi.zero) zo)))) ?_)))))))))))
    refine bY (Ei:=[(45,_)]) rfl rfl (bQ (bZ 2 rfl rfl) bX) rfl rfl (dX rfl (dJ A_51 Z_51 (Ht rfl))) (bY (Ei:=[(2,_)]) rfl rfl (bQ (bJ rfl rfl) bX) rfl rfl (dX rfl (eZ rD (Ht rfl) rfl)) (bY (Ei:=[(47,_)]) rfl rfl (bQ (bZ 4 rfl rfl) bX) rfl rfl (dX rfl (eY A_29 Z_29 (Ht rfl) (i:=0) rfl rfl)) (bY (Ei:=[(11,_)]) rfl rfl (bQ (bJ rfl rfl) bX) rfl rfl (dX rfl (cX (Ht rfl))) (bY (Ei:=[(48,_),(49,_)]) rfl rfl (bQ (bZ 5 rfl rfl) (bQ (bZ 6 rfl rfl) bX)) rfl rfl (dX rfl (dZ U_29 Z_51 (Ht rfl) (Ht rfl) rfl (dY (dU (d:=Qi.zero) zo)))) ?_))))
    refine bY (Ei:=[(50,_)]) rfl rfl (bQ (bZ 7 rfl rfl) bX) rfl rfl (dX rfl (dJ A_51 Z_51 (Ht rfl))) (bY (Ei:=[(46,_),(51,_)]) rfl rfl (bQ (bZ 3 rfl rfl) (bQ (bZ 8 rfl rfl) bX)) rfl rfl (dX rfl (cZ Tryz.call40 (Gw (x:=gv w i) (y:=gv z i) (L:=M) (M:=L) zo) ⟨(Ht rfl),(Ht rfl),trivial⟩)) (bY (Ei:=[(52,_)]) rfl rfl (bQ (bZ 9 rfl rfl) bX) rfl rfl (dX rfl (cX (Ht rfl))) (bY (Ei:=[(42,_)]) rfl rfl (bQ (bZ 10 rfl rfl) bX) rfl rfl (dX rfl (dK (Ht rfl) rfl)) ?_)))
    refine bY (Ei:=[(42,_)]) rfl rfl (bQ (bZ 10 rfl rfl) bX) rfl rfl (dX rfl (dK (Ht rfl) rfl)) (Y.D_newp (Ei:=[]) (fun bb=>box bb 51 [aC (decide ((gC z w i).a < 0)),aE (gC z w i).a.natAbs,aC (decide ((gC z w i).b < 0)),aE (gC z w i).b.natAbs,aE (du (gC z w i))]) 14 rfl rfl rfl bX rfl rfl (by kernel_rfl) (eW (Ts:=[Is (.bool false),Is (.slice none 0 0),Is (.bool false),Is (.slice none 0 0),Is (.slice none 0 0)]) O_51 rfl (fun V=>aW zd (aW zd (aW zd (aW zd (aW zd (aG))))))) ?_)
    refine Y.D_putN (Ei:=[(53,_)]) 13 rfl rfl rfl rfl rfl rfl (bQ (bZ 11 rfl rfl) bX) (fun bb=>mE Z_51 (Ht rfl) (Ht rfl) rfl (i:=0) rfl (aK rfl) rfl rfl) (Y.D_done aO rfl (by kernel_rfl) rfl (by simp [Y.okP]) rfl rfl (bU (bU (bU (bU (bU (bU (bU (bU (bU (bU (bU (bU (bU (Y.F_newp (fun B12=>Y.F_putN (Y.F_nil ?_)))))))))))))))))
    refine ra rfl (eX (Y.D_start (m:=18) [(17,5,cD 51 5 B33 (((iU (fun i=>Qi.ofInt 1 + gC z w i) Qi.zero w.length i).map aN).set i (aN (Qi.ofInt 1 + gC z w i))))] (Y.D_step (Ei:=[(9,_)]) rfl rfl (bQ (bJ rfl rfl) bX) rfl rfl (by kernel_rfl) (dX rfl (cX (Ht rfl))) (Y.D_step (Ei:=[(11,_)]) rfl rfl (bQ (bJ rfl rfl) bX) rfl rfl (by kernel_rfl) (dX rfl (cX (Ht rfl))) (bY (Ei:=[(10,_)]) rfl rfl (bQ (bJ rfl rfl) bX) rfl rfl (dX rfl (cX (Ht rfl))) (bY (Ei:=[(11,_)]) rfl rfl (bQ (bJ rfl rfl) bX) rfl rfl (dX rfl (cX (Ht rfl))) ?_))))))
    refine Y.D_step (Ei:=[(7,_)]) rfl rfl (bQ (bJ rfl rfl) bX) rfl rfl (by kernel_rfl) (dX rfl (eJ A_51 Z_51 (Ht rfl) (i:=3) rfl rfl rfl)) (Y.D_step (Ei:=[(59,_)]) rfl rfl (bQ (bZ 4 rfl rfl) bX) rfl rfl (by kernel_rfl) (dX rfl (cC dE (Ht rfl))) (Y.D_step (Ei:=[(8,_)]) rfl rfl (bQ (bJ rfl rfl) bX) rfl rfl (by kernel_rfl) (dX rfl (eJ A_51 Z_51 (Ht rfl) (i:=4) rfl rfl rfl)) (Y.D_step (Ei:=[(12,_)]) rfl rfl (bQ (bJ rfl rfl) bX) rfl rfl (by kernel_rfl) (dX rfl (eJ A_51 Z_51 (Ht rfl) (i:=7) rfl rfl rfl)) ?_)))
    refine Y.D_step (Ei:=[(61,_),(62,_)]) rfl rfl (bQ (bZ 6 rfl rfl) (bQ (bZ 7 rfl rfl) bX)) rfl rfl (by kernel_rfl) (dX rfl (cZ K_46 (De (x:=Qi.ofInt 1) (y:=gC z w i) (L:=1) (M:=M + 3 * L + 2) zo) ⟨(Ht rfl),(Ht rfl),trivial⟩)) (Y.D_step (Ei:=[(60,_),(63,_)]) rfl rfl (bQ (bZ 5 rfl rfl) (bQ (bZ 8 rfl rfl) bX)) rfl rfl (by kernel_rfl) (dX rfl (bO mT K_302 Df (Ht rfl) ⟨(Ht rfl),trivial⟩)) (Y.D_step (Ei:=[(7,_)]) rfl rfl (bQ (bJ rfl rfl) bX) rfl rfl (by kernel_rfl) (dX rfl (eJ A_51 Z_51 (Ht rfl) (i:=3) rfl rfl rfl)) ?_))
    refine Y.D_step (Ei:=[(65,_)]) rfl rfl (bQ (bZ 10 rfl rfl) bX) rfl rfl (by kernel_rfl) (dX rfl (cC dE (Ht rfl))) (Y.D_step (Ei:=[(8,_)]) rfl rfl (bQ (bJ rfl rfl) bX) rfl rfl (by kernel_rfl) (dX rfl (eJ A_51 Z_51 (Ht rfl) (i:=4) rfl rfl rfl)) (Y.D_step (Ei:=[(12,_)]) rfl rfl (bQ (bJ rfl rfl) bX) rfl rfl (by kernel_rfl) (dX rfl (eJ A_51 Z_51 (Ht rfl) (i:=7) rfl rfl rfl)) (Y.D_step (Ei:=[(67,_),(68,_)]) rfl rfl (bQ (bZ 12 rfl rfl) (bQ (bZ 13 rfl rfl) bX)) rfl rfl (by kernel_rfl) (dX rfl (cZ K_44 (yF (x:=Qi.ofInt 1) (y:=gC z w i) (L:=1) (M:=M + 3 * L + 2) zo) ⟨(Ht rfl),(Ht rfl),trivial⟩)) ?_)))
    refine Y.D_step (Ei:=[(66,_),(69,_)]) rfl rfl (bQ (bZ 11 rfl rfl) (bQ (bZ 14 rfl rfl) bX)) rfl rfl (by kernel_rfl) (dX rfl (bO mT K_302 Df (Ht rfl) ⟨(Ht rfl),trivial⟩)) (Y.D_step (Ei:=[(55,_),(56,_)]) rfl rfl (bQ (bZ 0 rfl rfl) (bQ (bZ 1 rfl rfl) bX)) rfl rfl (by kernel_rfl) (dX rfl (dB U_29 Z_51 (Ht rfl) (Ht rfl) rfl (i:=5) rfl (by rw [List.length_map,hl9]; exact hin) rfl)) ?_)
    refine Y.D_putI (Ei:=[(71,_),(64,_)]) 5 rfl rfl rfl (bQ (bZ 16 rfl rfl) (bQ (bZ 9 rfl rfl) bX)) (.head _) rfl (Cy Z_51 (Ht rfl) (Ht rfl) (El.ag rfl) (i:=0) rfl rfl (by rw [List.length_map,hl9]; exact hin)) ?_
    refine Y.D_done aO rfl (by kernel_rfl) rfl (by simp [Y.okP]) rfl rfl (bU (bU (bU (bU (bU (bU (bU (bU (bU (bU (bU (bU (bU (bU (bU (bU (bU (Y.F_putI (Y.F_nil ?_)))))))))))))))))))
    refine ro rfl (dB U_29 Z_51 (Ht rfl) (Ht rfl) rfl (i:=6) rfl (by rw [List.length_map,hl10]; exact hin) rfl) ?_
    refine kM Z_51 (Ht rfl) (Ht rfl) (El.ag rfl) (i:=6) rfl rfl (by rw [List.length_map,hl10]; exact hin) rfl ?_
    refine eX (bA (cY (ro rfl (dV (Ht rfl) (cJ 1) z6) (rm rfl (eX (cH [0,1,2,3,4,5,6] rfl (by decide) (fU (i + 1) hin zo (zS rfl) (aU (aB rfl) (aU (aB rfl) (aU (aB rfl) (aU (aB rfl) (aU (aB rfl) (aU (cA (by rw [fI]; exact congrArg _ (jH (f:=(fun i=>Qi.ofInt 1 + gC z w i))))) (aU (cA (by rw [fI]; exact congrArg _ (jH (f:=(fun i=>Qi.ofInt 1 - gC z w i))))) aY))))))))))))))
   ·have hin : i = w.length := by simp only [decide_eq_false_iff_not] at hc; omega
    rw [hin,jG,jG]
    refine gV rfl (gJ (i:=5) (tt:=9) rfl rfl kH (gJ (i:=6) (tt:=10) rfl rfl kH (gJ (i:=0) (tt:=2) rfl rfl Ns (gJ (i:=1) (tt:=3) rfl rfl nI (ts (ro rfl (rK (γ:=Bool) (Ts:=fun x=>cond x [bN (Sf z w),bN (Sg z w)] [bN (Sg z w),bN (Sf z w)]) (U:=fun x=>cond x (cE (Cm z w s)) (cE (oF z w s))) Tryz.call184 (fun x=>a0T (x:=x) (a1o (z:=z) (s:=s) rfl zo hMl hPl (by rw [hl]; exact hs) hMf hPf hf zo hK zo) (a1o (z:=z) (s:=s) rfl zo hPl hMl (by rw [hl]; exact hs) hPf hMf hf zo hK zo)) ⟨(Ht rfl),(Ht rfl),trivial⟩) ?_))))))
    refine ra rfl (eX (ts (rm rfl (rm rfl (rm rfl (ro rfl (oW true (Ht rfl) ⟨(Ht rfl),(Ht rfl),trivial⟩) (rm rfl (rm rfl (rm rfl (ro rfl (oW false (Ht rfl) ⟨(Ht rfl),(Ht rfl),trivial⟩) (ro rfl (cZ Tryz.call186 (Kw (Y:=Cm z w s) (M:=oF z w s) (n:=w.length) (K:=2 * (M + 3 * L + 4) + K + 2) (jV _ _ _ _) (jV _ _ _ _) (uF hMf hPf hf zo hK) zo zo hsz hX zo) ⟨(Ht rfl),(Ht rfl),trivial⟩) (rm rfl (ro rfl (dK (Ht rfl) rfl) (ro rfl (dK (Ht rfl) rfl) (ra rfl (ra rfl (eX (cK (ts ?_)))))))))))))))))))
    refine rm rfl (ro rfl (kE (Ht rfl) cV) (eX (dQ (Ht rfl) (fun hd=>?_) (fun hd=>?_))))
    ·have hno : Gf (oF z w s) w.length ≠ 0 := by simpa using hd
     refine ts (ro rfl (aL.imp (tS ) uH) (rm rfl (gQ Z_32 (Ht rfl) (Ht rfl) rfl (i:=2) rfl (aK rfl) rfl rfl (ra rfl (eX (bM rfl (fX (fK A_32 Z_32 rfl (i:=2) rfl rfl) ?_) (fX (eU rfl) ?_)))))))
     ·exact (fun v V h=>by rw [vR,lD,dP,dP,hov,if_neg hno,if_neg hno]; exact h)
     ·exact (aR hov.symm)
    ·have hno : Gf (oF z w s) w.length = 0 := by simpa using hd
     refine cU (ts (ro rfl (dJ A_29 Z_29 (Ht rfl)) (ro rfl (cZ Tryz.call158 (Fb (l:=w) zo) ⟨(Ht rfl),trivial⟩) (rm rfl (ro rfl (Ah (Ht rfl) (Ht rfl)) (gQ Z_32 (Ht rfl) (Ht rfl) rfl (i:=2) rfl (aK rfl) rfl rfl (ro rfl (cQ (cJ 0)) (eX (bM rfl (fX (fK A_32 Z_32 rfl (i:=2) rfl rfl) ?_) (fX (eU rfl) ?_))))))))))
     ·exact (fun v V h=>by rw [vR,dP,hov,hno,if_pos rfl,hovX]; exact h)
     ·exact (aR (hov.trans hno).symm)
end
section
open Go Go.RowKit
theorem a0J {M:List (List Qi)} {n:Nat} (h:Gf M n ≠ 0):Gf M n = 5:=by
 unfold Gf at h ⊢
 by_cases e:nQ M n = 0
 ·rw [if_pos e] at h; exact absurd rfl h
 ·rw [if_neg e]
theorem Ld {z w:List Qi} {s:List (List Qi)} {L M K G X:Nat} (hs:cM s z.length z.length) (hz:bP z L) (hw:bP w M) (hf:aS s K) (hL:1 ≤ L) (hM:1 ≤ M) (hK:1 ≤ K) (hLb:L ≤ 1000000000) (hMb:M ≤ 1000000000) (hKb:K ≤ 100000000000) (hp:z.all fP = true) (h8:z.length ≤ 8) (hwl:w.length ≤ 1000) (hsz:w.length = z.length → ∀ i,i < w.length → Yr (oF z w s) (ek w.length i) w.length G) (hif:w.length = z.length → nQ (oF z w s) w.length = 0 → aS (mS (oF z w s) w.length) X) (hX:X ≤ 900000000000):bB Tryz.prog 143 [vT z s,qU w] (fH [vT (vR z w s) (lD z w s),bD .i64 (uT z w s)]):=by
 have hsl:=hs.1
 refine bB.intro Tryz.func143 rfl Tryz.ntmps143 rfl (fun cx=>(ts (rn rfl (fG (Ht rfl)) fun B2=>(rn rfl (eW (Ts:=[Is (.slice none 0 0),Is (.slice none 0 0)]) O_38 rfl (fun V=>aW zd (aW zd (aG)))) fun B4=>(ro rfl (cQ (cJ 0)) (eX (cK (ts (rm rfl (ro rfl (dG U_35 (Ht rfl) aA) (ro rfl (eZ pK (Ht rfl) rfl) (ro rfl (eY A_35 Z_35 (Ht rfl) (i:=0) rfl rfl) (ro rfl (dG U_35 (Ht rfl) aA) (ro rfl (eO (Ht rfl) (Ht rfl)) ?_))))))))))))))
 refine eX (dQ (Ht rfl) (fun hb=>?_) (fun hb=>?_))
 ·have hn : w.length ≠ z.length := by simpa using hb
  have he:=Gg (s:=s) hn
  refine ts (ro rfl (aL.imp (vW ) tH) (gQ Z_38 (Ht rfl) (Ht rfl) rfl (i:=1) rfl (aK rfl) rfl rfl (ro rfl (cQ (cJ 4)) (eX (bM rfl (fX (fK A_38 Z_38 rfl (i:=1) rfl rfl) ?_) (fX (eU rfl) ?_))))))
  ·exact (fun v V h=>by rw [vR,lD,dP,dP,he]; exact h)
  ·exact (aR he.symm)
 ·have hl : w.length = z.length := by simpa using hb
  have hsz:=hsz hl
  have hif:=hif hl
  rw [← hl] at hs
  refine cU (cK (ts (rm rfl (ro rfl (cZ Tryz.call190 (uR hw zo zo) ⟨(Ht rfl),trivial⟩) (ro rfl (eT (Ht rfl)) (eX (dQ (Ht rfl) (fun hb2=>?_) (fun hb2=>?_))))))))
  ·have hq : w.all fP ≠ true := fun e => by rw [e] at hb2; simp at hb2
   have he:=Xc (s:=s) hl hq
   refine ts (ro rfl (aL.imp (vW ) tH) (gQ Z_38 (Ht rfl) (Ht rfl) rfl (i:=1) rfl (aK rfl) rfl rfl (ro rfl (cQ (cJ 1)) (eX (bM rfl (fX (fK A_38 Z_38 rfl (i:=1) rfl rfl) ?_) (fX (eU rfl) ?_))))))
   ·exact (fun v V h=>by rw [vR,lD,dP,dP,he]; exact h)
   ·exact (aR he.symm)
  ·have hq : w.all fP = true := by simpa using hb2
   have hov:=Xd (s:=s) hl hq
   have hovX:=Xe (s:=s) hl hq
   have hPf:=uL hz hw hL hM hp hl
   have hMf:=uK hz hw hL hM hp hl
   obtain ⟨n,hn⟩:∃ n,n = w.length:=⟨_,rfl⟩
   have hzl:z.length = n:=by omega
   rw [← hn] at hs
   refine cU (ts (rm rfl (ro rfl (aL.nat (dG U_35 (Ht rfl) aA) hn.symm) (rm rfl (ro rfl (aL.nat (dG U_35 (Ht rfl) aA) hn.symm) (jF K_129 (oL (n:=n) (m:=n) zo zo) ⟨(Ht rfl),(Ht rfl),trivial⟩ rfl (fun B31 _=>(rm rfl (ro rfl (aL.nat (dG U_35 (Ht rfl) aA) hn.symm) (rm rfl (ro rfl (aL.nat (dG U_35 (Ht rfl) aA) hn.symm) (jF K_129 (oL (n:=n) (m:=n) zo zo) ⟨(Ht rfl),(Ht rfl),trivial⟩ rfl (fun B36 _=>?_)))))))))))))
   refine ra rfl (ra rfl (eX (cK (ts (ro rfl (cQ (cJ 0)) (eX (eG ?_)))))))
   refine bS (fun (j : Nat) => j ≤ n) (fun (j : Nat) => n - j) (fun (j : Nat) => [(1, qU w), (2, dA B2 0), (4, dA B4 0), (6, Is (.slice (some ⟨B31, 0, none⟩) n n)), (7, Is (.slice (some ⟨B36, 0, none⟩) n n)), (8, NT .i64 j)]) (fun (j : Nat) => [box B2 38 [qU z, QM s], box B4 38 [Is (.slice none 0 0), Is (.slice none 0 0)], jQ dT B31 35 131 5 (bL QT (mG (Yk z w s) n n j 0)), jQ dT B36 35 131 5 (bL QT (mG (Yl z w s) n n j 0))]) 0 (Nat.zero_le _)
    (zS rfl) (aU (aB rfl) (aU (aB rfl) (aU (bE (by rw [tP,← tX]; rfl)) (aU (bE (by rw [tP,← tX]; rfl)) aY)))) (fun j hj=>?_)
   refine cK (ts (rm rfl (rm rfl (ro rfl (aL.nat (dG U_35 (Ht rfl) aA) hn.symm) (ro rfl (gX (Ht rfl) (Ht rfl)) (eX (dQ (Ht rfl) (fun hc=>?_) (fun hc=>?_))))))))
   ·have hjn : j < n := by simp only [decide_eq_true_eq] at hc; omega
    refine cU (cK (eG (ts (ro rfl (cQ (cJ 0)) (eX (eG ?_))))))
    refine bS (fun (i : Nat) => i ≤ n) (fun (i : Nat) => n - i) (fun (i : Nat) => [(1, qU w), (2, dA B2 0), (4, dA B4 0), (6, Is (.slice (some ⟨B31, 0, none⟩) n n)), (7, Is (.slice (some ⟨B36, 0, none⟩) n n)), (8, NT .i64 j), (9, NT .i64 i)]) (fun (i : Nat) => [box B2 38 [qU z, QM s], box B4 38 [Is (.slice none 0 0), Is (.slice none 0 0)], jQ dT B31 35 131 5 (bL QT (mG (Yk z w s) n n j i)), jQ dT B36 35 131 5 (bL QT (mG (Yl z w s) n n j i))]) 0 (Nat.zero_le _)
     (zS rfl) (aU (aB rfl) (aU (aB rfl) (aU (fun _ _ _ h=>h) (aU (fun _ _ _ h=>h) aY)))) (fun i hi=>?_)
    refine cK (ts (rm rfl (rm rfl (ro rfl (aL.nat (dG U_35 (Ht rfl) aA) hn.symm) (ro rfl (gX (Ht rfl) (Ht rfl)) (eX (dQ (Ht rfl) (fun hd=>?_) (fun hd=>?_))))))))
    ·have hin : i < n := by simp only [decide_eq_true_eq] at hd; omega
     have hsr:=hs.row hin
     have hzn:=qV hp (show i < z.length by omega)
     haveI f0:=a0O i j
     haveI f1:aD (gm s i j) K:=hf.get hK i j
     haveI f2:aD (gv z i) L:=hz.get hL i
     haveI f3:aD (gv w i) M:=hw.get hM i
     haveI f4:aD (rvE s i j) (1 + K + 1):=inferInstanceAs (aD (_ + _) _)
     haveI f5:aD (Re i j - gm s i j) (1 + K + 1):=fitSub
     haveI f6:aD (Pb z s i j) (1 + K + 1 + 3 * L + 2):=Fr f5 f2 hzn
     refine cU (cK (eG (ts (ro rfl (cZ K_148 (oN (n:=0) (by decide) (by decide)) ⟨(cJ 0),trivial⟩) (rn rfl (eW (Ts:=[Is (.bool false),Is (.slice none 0 0),Is (.bool false),Is (.slice none 0 0),Is (.slice none 0 0)]) O_131 rfl (fun V=>aW zd (aW zd (aW zd (aW zd (aW zd (aG))))))) fun B10=>(gQ Z_131 (Ht rfl) (Ht rfl) rfl (i:=4) rfl (aK rfl) rfl rfl (eX (cK (jL (fun (q:Qi)=>q = Re i j) (fun (q:Qi)=>[(1,qU w),(2,dA B2 0),(4,dA B4 0),(6,Is (.slice (some ⟨B31,0,none⟩) n n)),(7,Is (.slice (some ⟨B36,0,none⟩) n n)),(8,NT .i64 j),(9,NT .i64 i),(10,dA B10 0)]) (fun (q:Qi)=>[box B2 38 [qU z,QM s],box B4 38 [Is (.slice none 0 0),Is (.slice none 0 0)],jQ dT B31 35 131 5 (bL QT (mG (Yk z w s) n n j i)),jQ dT B36 35 131 5 (bL QT (mG (Yl z w s) n n j i)),box B10 131 [aC (decide (q.a < 0)),aE q.a.natAbs,aC (decide (q.b < 0)),aE q.b.natAbs,aE q.den]]) ?_ (fun q hqd=>?_))))))))))
     ·refine ts (rm rfl (rm rfl (ro rfl (cR (Ht rfl) (Ht rfl)) (eX (dQ (Ht rfl) (fun hk => ?_) (fun hk => ?_))))))
      ·have hij : i = j := by simpa using hk
       refine cY (ro rfl (cZ K_148 (oN (n:=1) (by decide) (by decide)) ⟨(cJ 1),trivial⟩) (gQ Z_131 (Ht rfl) (Ht rfl) rfl (i:=4) rfl (aK rfl) rfl rfl (eX (bC (Qi.ofInt 1) (by rw [Re,if_pos hij]) (zS rfl) (aU (aB rfl) (aU (aB rfl) (aU (fun _ _ _ h=>h) (aU (fun _ _ _ h=>h) (aU (aB rfl) aY)))))))))
      ·have hij : ¬ i = j := by simpa using hk
       refine cU (bC (Qi.ofInt 0) (by rw [Re,if_neg hij]) (zS rfl) (aU (aB rfl) (aU (aB rfl) (aU (fun _ _ _ h=>h) (aU (fun _ _ _ h=>h) (aU (aB rfl) aY))))))
     ·subst hqd
      refine cK (fZ (m:=11) (dp 10 rfl (eJ A_131 Z_131 (Ht rfl) (i:=4) rfl rfl rfl) (dp 2 rfl (eZ zD (Ht rfl) rfl) (dq 55 1 rfl (eY A_36 Z_36 (Ht rfl) (i:=0) rfl rfl) (dp 9 rfl (cX (Ht rfl)) (cP 56 2 57 3 rfl (dZ U_36 Z_35 (Ht rfl) (Ht rfl) rfl (dY (dU (d:=[]) zo))) (dq 58 4 rfl (dJ A_35 Z_35 (Ht rfl)) (dp 8 rfl (cX (Ht rfl)) (cP 59 5 60 6 rfl (dZ U_35 Z_131 (Ht rfl) (Ht rfl) rfl (dY (dU (d:=Qi.zero) zo))) ?_)))))))))
      refine dq 61 7 rfl (dJ A_131 Z_131 (Ht rfl)) (cP 54 0 62 8 rfl (cZ K_149 (vB (x:=Re i j) (y:=gm s i j) (L:=1) (M:=K) zo) ⟨(Ht rfl),(Ht rfl),trivial⟩) (C.D_new (Ei:=[]) rfl rfl rfl bW (eW (Ts:=[Is (.bool false),Is (.slice none 0 0),Is (.bool false),Is (.slice none 0 0),Is (.slice none 0 0)]) O_131 rfl (fun V=>aW zd (aW zd (aW zd (aW zd (aW zd (aG))))))) (fV aO rfl (by kernel_rfl) (zF (zF (aJ (aJ (C.F_new (fun B11=>aV ?_)))))))))
      refine gQ Z_131 (Ht rfl) (Ht rfl) rfl (i:=5) rfl (aK rfl) rfl rfl (eX (cK (Y.D_start (m:=21) [] (bY (Ei:=[(10,_)]) rfl rfl (bQ (bJ rfl rfl) bX) rfl rfl (dX rfl (eJ A_131 Z_131 (Ht rfl) (i:=4) rfl rfl rfl)) (bY (Ei:=[(2,_)]) rfl rfl (bQ (bJ rfl rfl) bX) rfl rfl (dX rfl (eZ zD (Ht rfl) rfl)) (bY (Ei:=[(66,_)]) rfl rfl (bQ (bZ 1 rfl rfl) bX) rfl rfl (dX rfl (eY A_36 Z_36 (Ht rfl) (i:=0) rfl rfl)) ?_))))))
      refine bY (Ei:=[(9,_)]) rfl rfl (bQ (bJ rfl rfl) bX) rfl rfl (dX rfl (cX (Ht rfl))) (bY (Ei:=[(67,_),(68,_)]) rfl rfl (bQ (bZ 2 rfl rfl) (bQ (bZ 3 rfl rfl) bX)) rfl rfl (dX rfl (dZ U_36 Z_35 (Ht rfl) (Ht rfl) rfl (dY (dU (d:=[]) zo)))) (bY (Ei:=[(69,_)]) rfl rfl (bQ (bZ 4 rfl rfl) bX) rfl rfl (dX rfl (dJ A_35 Z_35 (Ht rfl))) (bY (Ei:=[(8,_)]) rfl rfl (bQ (bJ rfl rfl) bX) rfl rfl (dX rfl (cX (Ht rfl))) ?_)))
      refine bY (Ei:=[(70,_),(71,_)]) rfl rfl (bQ (bZ 5 rfl rfl) (bQ (bZ 6 rfl rfl) bX)) rfl rfl (dX rfl (dZ U_35 Z_131 (Ht rfl) (Ht rfl) rfl (dY (dU (d:=Qi.zero) zo)))) (bY (Ei:=[(72,_)]) rfl rfl (bQ (bZ 7 rfl rfl) bX) rfl rfl (dX rfl (dJ A_131 Z_131 (Ht rfl))) (bY (Ei:=[(65,_),(73,_)]) rfl rfl (bQ (bZ 0 rfl rfl) (bQ (bZ 8 rfl rfl) bX)) rfl rfl (dX rfl (cZ Tryz.call147 (Fk (x:=Re i j) (y:=gm s i j) (L:=1) (M:=K) zo) ⟨(Ht rfl),(Ht rfl),trivial⟩)) ?_))
      refine bY (Ei:=[(2,_)]) rfl rfl (bQ (bJ rfl rfl) bX) rfl rfl (dX rfl (eZ pK (Ht rfl) rfl)) (bY (Ei:=[(75,_)]) rfl rfl (bQ (bZ 10 rfl rfl) bX) rfl rfl (dX rfl (eY A_35 Z_35 (Ht rfl) (i:=0) rfl rfl)) (bY (Ei:=[(9,_)]) rfl rfl (bQ (bJ rfl rfl) bX) rfl rfl (dX rfl (cX (Ht rfl))) (bY (Ei:=[(76,_),(77,_)]) rfl rfl (bQ (bZ 11 rfl rfl) (bQ (bZ 12 rfl rfl) bX)) rfl rfl (dX rfl (dZ U_35 Z_131 (Ht rfl) (Ht rfl) rfl (dY (dU (d:=Qi.zero) zo)))) ?_)))
      refine bY (Ei:=[(78,_)]) rfl rfl (bQ (bZ 13 rfl rfl) bX) rfl rfl (dX rfl (dJ A_131 Z_131 (Ht rfl))) (bY (Ei:=[(74,_),(79,_)]) rfl rfl (bQ (bZ 9 rfl rfl) (bQ (bZ 14 rfl rfl) bX)) rfl rfl (dX rfl (cZ Tryz.call144 (yV (x:=Re i j - gm s i j) (y:=gv z i) (L:=1 + K + 1) (M:=L) zo) ⟨(Ht rfl),(Ht rfl),trivial⟩)) (bY (Ei:=[(80,_)]) rfl rfl (bQ (bZ 15 rfl rfl) bX) rfl rfl (dX rfl (cX (Ht rfl))) (bY (Ei:=[(64,_)]) rfl rfl (bQ (bZ 16 rfl rfl) bX) rfl rfl (dX rfl (dK (Ht rfl) rfl)) ?_)))
      refine bY (Ei:=[(64,_)]) rfl rfl (bQ (bZ 16 rfl rfl) bX) rfl rfl (dX rfl (dK (Ht rfl) rfl)) (Y.D_newp (Ei:=[]) (fun bb=>box bb 131 [aC (decide ((Pb z s i j).a < 0)),aE (Pb z s i j).a.natAbs,aC (decide ((Pb z s i j).b < 0)),aE (Pb z s i j).b.natAbs,aE (Pb z s i j).den]) 20 rfl rfl rfl bX rfl rfl (by kernel_rfl) (eW (Ts:=[Is (.bool false),Is (.slice none 0 0),Is (.bool false),Is (.slice none 0 0),Is (.slice none 0 0)]) O_131 rfl (fun V=>aW zd (aW zd (aW zd (aW zd (aW zd (aG))))))) ?_)
      refine Y.D_putN (Ei:=[(81,_)]) 19 rfl rfl rfl rfl rfl rfl (bQ (bZ 17 rfl rfl) bX) (fun bb=>mE Z_131 (Ht rfl) (Ht rfl) rfl (i:=0) rfl (aK rfl) rfl rfl) (Y.D_done aO rfl (by kernel_rfl) rfl (by simp [Y.okP]) rfl rfl (bU (bU (bU (bU (bU (bU (bU (bU (bU (bU (bU (bU (bU (bU (bU (bU (bU (bU (bU (Y.F_newp (fun B12=>Y.F_putN (Y.F_nil ?_)))))))))))))))))))))))
      refine ra rfl (eX (cK ?_))
      have hpl2:=(kO (Yk z w s) n n j i).1
      have hpr2:((mG (Yk z w s) n n j i).getD i []).length = n:=(kO (Yk z w s) n n j i).row hin
      refine jK 2 (i) rfl (jP zo) (fun va hva=>(fZ (m:=13) (dp 6 rfl (cX (Ht rfl)) (dp 9 rfl (cX (Ht rfl)) (cP 83 0 84 1 rfl (fY U_36 Z_35 (Ht rfl) (Ht rfl) rfl zo (by rw [Nat.mul_one,Nat.zero_add])) ?_)))))
      refine dq 85 2 rfl (gS A_35 Z_35 (Ht rfl) (j:=2) rfl) (dp 8 rfl (cX (Ht rfl)) (dp 11 rfl (eJ A_131 Z_131 (Ht rfl) (i:=5) rfl rfl rfl) (dp 1 rfl (cX (Ht rfl)) (dp 9 rfl (cX (Ht rfl)) (cP 89 6 90 7 rfl (dZ U_35 Z_131 (Ht rfl) (Ht rfl) rfl (dY (dU (d:=Qi.zero) zo))) (dq 91 8 rfl (dJ A_131 Z_131 (Ht rfl)) (dp 12 rfl (eJ A_131 Z_131 (Ht rfl) (i:=6) rfl rfl rfl) (cP 92 9 93 10 rfl (cZ K_146 (oM (x:=gv w i) (y:=Pb z s i j) (L:=M) (M:=1 + K + 1 + 3 * L + 2) zo) ⟨(Ht rfl),(Ht rfl),trivial⟩) ?_))))))))
      refine cP 88 5 94 11 rfl (cZ K_149 (vB (x:=rvE s i j) (y:=gv w i * Pb z s i j) (L:=1 + K + 1) (M:=M + (1 + K + 1 + 3 * L + 2) + 1) zo) ⟨(Ht rfl),(Ht rfl),trivial⟩) (fV aO rfl (by kernel_rfl) (zF (zF (zF (aJ (aV (ro rfl (dB U_35 Z_131 (Ht rfl) (Ht rfl) rfl (i:=7) rfl (by rw [List.length_map]; omega) rfl) ?_)))))))
      refine kM Z_131 (Ht rfl) (Ht rfl) (El.ag rfl) (i:=7) rfl rfl (by rw [List.length_map]; omega) rfl ?_
      refine eX (dS 2 7 rfl rfl (by decide) (by simp only [bL,List.length_map]; omega) ?_)
      have hpl3:=(kO (Yl z w s) n n j i).1
      have hpr3:((mG (Yl z w s) n n j i).getD i []).length = n:=(kO (Yl z w s) n n j i).row hin
      refine jK 3 (i) rfl (jP zo) (fun vb hvb=>(fZ (m:=13) (dp 7 rfl (cX (Ht rfl)) (dp 9 rfl (cX (Ht rfl)) (cP 97 0 98 1 rfl (fY U_36 Z_35 (Ht rfl) (Ht rfl) rfl zo (by rw [Nat.mul_one,Nat.zero_add])) ?_)))))
      refine dq 99 2 rfl (gS A_35 Z_35 (Ht rfl) (j:=3) rfl) (dp 8 rfl (cX (Ht rfl)) (dp 11 rfl (eJ A_131 Z_131 (Ht rfl) (i:=5) rfl rfl rfl) (dp 1 rfl (cX (Ht rfl)) (dp 9 rfl (cX (Ht rfl)) (cP 103 6 104 7 rfl (dZ U_35 Z_131 (Ht rfl) (Ht rfl) rfl (dY (dU (d:=Qi.zero) zo))) (dq 105 8 rfl (dJ A_131 Z_131 (Ht rfl)) (dp 12 rfl (eJ A_131 Z_131 (Ht rfl) (i:=6) rfl rfl rfl) (cP 106 9 107 10 rfl (cZ K_146 (oM (x:=gv w i) (y:=Pb z s i j) (L:=M) (M:=1 + K + 1 + 3 * L + 2) zo) ⟨(Ht rfl),(Ht rfl),trivial⟩) ?_))))))))
      refine cP 102 5 108 11 rfl (cZ Tryz.call147 (Fk (x:=rvE s i j) (y:=gv w i * Pb z s i j) (L:=1 + K + 1) (M:=M + (1 + K + 1 + 3 * L + 2) + 1) zo) ⟨(Ht rfl),(Ht rfl),trivial⟩) (fV aO rfl (by kernel_rfl) (zF (zF (zF (aJ (aV (ro rfl (dB U_35 Z_131 (Ht rfl) (Ht rfl) rfl (i:=8) rfl (by rw [List.length_map]; omega) rfl) ?_)))))))
      refine kM Z_131 (Ht rfl) (Ht rfl) (El.ag rfl) (i:=8) rfl rfl (by rw [List.length_map]; omega) rfl ?_
      refine eX (bA (dS 3 8 rfl rfl (by decide) (by simp only [bL,List.length_map]; omega) ?_))
      refine cY (rm rfl (ro rfl (dV (Ht rfl) (cJ 1) z6) (ra rfl (eX (cH [0,1,2,3] rfl (by decide) (fU (i + 1) hin zo (zS rfl) (aU (aB rfl) (aU (aB rfl) (aU (bE (by rw [fI,eH]; exact congrArg _ (qC (val:=Yk z w s) hin hjn))) (aU (bE (by rw [fI,eH]; exact congrArg _ (qC (val:=Yl z w s) hin hjn))) aY))))))))))
    ·have hin : i = n := by simp only [decide_eq_false_iff_not] at hd; omega
     rw [hin,wB,wB]
     refine gV rfl (bA (cY (rm rfl (ro rfl (dV (Ht rfl) (cJ 1) z6) (ra rfl (eX (fU (j + 1) hjn zo (zS rfl) (aU (aB rfl) (aU (aB rfl) (aU (fun _ _ _ h=>h) (aU (fun _ _ _ h=>h) aY)))))))))))
   ·have hjn : j = n := by simp only [decide_eq_false_iff_not] at hc; omega
    subst hjn
    subst hn
    rw [a2N hl hp,a2O hl hp]
    refine gV rfl (gJ (i:=2) (tt:=6) rfl rfl (gK (s:=5) (M:=oF z w s) (jV _ _ _ _).1.symm) (gJ (i:=3) (tt:=7) rfl rfl (gK (s:=5) (M:=Cm z w s) (jV _ _ _ _).1.symm) (ts (rm rfl (rm rfl (ro rfl (cZ Tryz.call222 (Uc (Y:=Cm z w s) (M:=oF z w s) (n:=w.length) (K:=2 * (M + 3 * L + 4) + K + 2) (jV _ _ _ _) (jV _ _ _ _) (uF hMf hPf hf zo hK) zo zo hsz hif hX zo) ⟨(Ht rfl),(Ht rfl),trivial⟩) (rm rfl (ro rfl (dK (Ht rfl) rfl) (ro rfl (dK (Ht rfl) rfl) (ra rfl ?_))))))))))
    refine ra rfl (eX (cK (ts (rm rfl (ro rfl (eT (Ht rfl)) (eX (dQ (Ht rfl) (fun hd=>?_) (fun hd=>?_))))))))
    ·have hno : Gf (oF z w s) w.length ≠ 0 := by simpa using hd
     have h5:=a0J hno
     refine ts (ro rfl (aL.imp (vW ) tH) (gQ Z_38 (Ht rfl) (Ht rfl) rfl (i:=1) rfl (aK rfl) rfl rfl (ro rfl (cQ (cJ 5)) (eX (bM rfl (fX (fK A_38 Z_38 rfl (i:=1) rfl rfl) ?_) (fX (eU rfl) ?_))))))
     ·exact (fun v V h=>by rw [vR,lD,dP,dP,hov,if_neg hno,if_neg hno]; exact h)
     ·exact (aR (hov.trans h5).symm)
    ·have hno : Gf (oF z w s) w.length = 0 := by simpa using hd
     refine cU (ts (rm rfl (rm rfl (ro rfl (Aj (Ht rfl) (Ht rfl)) (gQ Z_38 (Ht rfl) (Ht rfl) rfl (i:=1) rfl (aK rfl) rfl rfl (ro rfl (cQ (cJ 0)) (eX (bM rfl (fX (fK A_38 Z_38 rfl (i:=1) rfl rfl) ?_) (fX (eU rfl) ?_)))))))))
     ·exact (fun v V h=>by rw [vR,dP,hov,hno,if_pos rfl,hovX]; exact h)
     ·exact (aR (hov.trans hno).symm)
end
section
open Go Go.RowKit
theorem Iq (v : Value) (w : World) : (method (Tryz.prog.types.size + Made.depth) 51 v "Neg").run Tryz.prog w = .ok (140, v) w := by kernel_rfl
end
section
open Go Go.RowKit
theorem Fx {z w:List Qi} {S:List (List Qi)} {i k V D:Nat} (hS:aS S V) (hV:1 ≤ V) (hr:aD (gC z w k) D):aD (rJ z w S i k) (V + 2 * D + 12):=by
 haveI:=hr; haveI:=Fu; haveI:=pM; haveI:=hS.get hV i k
 haveI a1:aD (Qi.ofInt 1 + gC z w k) (1 + D + 1):=fitAdd
 haveI a2:aD (Qi.ofInt 1 - gC z w k) (1 + D + 1):=fitSub
 haveI a3:aD ((Qi.ofInt 1 + gC z w k) * lC) (1 + D + 1 + 2 + 1):=fitMul (L:=1 + D + 1) (M:=2)
 haveI a4:aD ((Qi.ofInt 1 - gC z w k) * lC) (1 + D + 1 + 2 + 1):=fitMul (L:=1 + D + 1) (M:=2)
 haveI a5:aD (gm S i k * ((Qi.ofInt 1 - gC z w k) * lC)) (V + (1 + D + 1 + 2 + 1) + 1):=fitMul (L:=V) (M:=1 + D + 1 + 2 + 1)
 unfold rJ
 by_cases e:i = k
 ·rw [if_pos e]; exact (fitSub (x:=(Qi.ofInt 1 + gC z w k) * lC) (y:=gm S i k * ((Qi.ofInt 1 - gC z w k) * lC)) (L:=1 + D + 1 + 2 + 1) (M:=V + (1 + D + 1 + 2 + 1) + 1)).le zo
 ·rw [if_neg e]; exact (fitNeg (x:=gm S i k * ((Qi.ofInt 1 - gC z w k) * lC))).le zo
theorem Jl {z w:List Qi} {s:List (List Qi)} (h:uT z w s = 0):w.length = z.length:=by
 apply Decidable.byContradiction; intro c
 rw [Gg c] at h; omega
theorem Dh {z w:List Qi} {s c:List (List Qi)} {L M K V W G X:Nat} (hs:cM s z.length z.length) (hch:cM c z.length z.length) (hz:bP z L) (hw:bP w M) (hf:aS s K) (hfc:aS c W) (hL:1 ≤ L) (hM:1 ≤ M) (hK:1 ≤ K) (hW:1 ≤ W) (hLb:L ≤ 1000) (hMb:M ≤ 1000) (hKb:K ≤ 100000000000) (hWb:W ≤ 450000000) (hp:z.all fP = true) (h8:z.length ≤ 8) (hwl:w.length ≤ 1000) (hsz:w.length = z.length → ∀ i,i < w.length → Yf (oF z w s) (ek w.length i) w.length G X) (hX:X ≤ 900000000000) (hV:aS (lD z w s) V) (hV1:1 ≤ V) (hVb:V ≤ 400000000):bB Tryz.prog 47 [iJ z s c,bN w] (fH [iJ (vR z w s) (lD z w s) (Bl z w s c),bD .i64 (uT z w s)]):=by
 have hR:=Pv hs hz hw hf hL hM hK zo zo hKb hp h8 hwl hsz hX
 haveI h5:=Fu
 haveI h6:=pM
 refine bB.intro Tryz.func47 rfl Tryz.ntmps47 rfl (fun cx=>(ts (rn rfl (fG (Ht rfl)) fun B2=>(rn rfl (eW (Ts:=[Is (.slice none 0 0),Is (.slice none 0 0),Is (.slice none 0 0)]) O_34 rfl (fun V=>aW zd (aW zd (aW zd (aG))))) fun B4=>(ro rfl (cQ (cJ 0)) (eX (ts (ro rfl (eZ rE (Ht rfl) rfl) (ro rfl (eJ A_32 Z_32 (Ht rfl) (i:=0) rfl rfl rfl) (rm rfl (ro rfl (cZ Tryz.call84 hR ⟨(Ht rfl),(Ht rfl),trivial⟩) (rm rfl (ro rfl (dK (Ht rfl) rfl) ?_)))))))))))))
 refine ro rfl (dK (Ht rfl) rfl) (rn rfl (eW (Ts:=[Is (.slice none 0 0),Is (.slice none 0 0)]) O_32 rfl (fun V=>aW zd (aW zd (aG)))) fun B6=>(gQ Z_32 (Ht rfl) (Ht rfl) rfl (i:=2) rfl (aK rfl) rfl rfl (ra rfl (eX (cK (ts (rm rfl (ro rfl (kE (Ht rfl) cV) (eX (dQ (Ht rfl) (fun hb=>?_) (fun hb=>?_)))))))))))
 ·have he : uT z w s ≠ 0 := by simpa using hb
  refine ts (ro rfl (aL.imp (Ey ) xV) (rm rfl (gQ Z_34 (Ht rfl) (Ht rfl) rfl (i:=1) rfl (aK rfl) rfl rfl (ra rfl (eX (bM rfl (fX (fK A_34 Z_34 rfl (i:=1) rfl rfl) ?_) (eU rfl)))))))
  exact (fun v V h=>by rw [vR,lD,Bl,dP,dP,dP,if_neg he,if_neg he,if_neg he]; exact h)
 ·have he : uT z w s = 0 := by simpa using hb
  have hl:=Jl he
  obtain ⟨hq,-,hSx,hZ⟩:=rN (n:=z.length) rfl hl he
  have hS2:cM (lD z w s) w.length w.length:=by rw [hSx,hl]; exact iQ
  have hC:Bl z w s c = kC (Cl z w (lD z w s) w.length) c:=by rw [Bl,dP,if_pos he]
  rw [hZ,hC,he]
  clear hR hsz hSx hZ hC he hb hs
  generalize lD z w s = S at *
  obtain ⟨n,hn⟩:∃ n,n = w.length:=⟨_,rfl⟩
  have hzl:z.length = n:=by omega
  obtain ⟨D,hD⟩:∃ D,D = M + 3 * L + 2:=⟨_,rfl⟩
  refine cU (ts (ro rfl (cZ Tryz.call141 (a1k (p:=1) (q:=0) (d:=2) (by decide) (by decide) (by decide) (by decide) (by decide) (by decide) (by decide)) ⟨(cJ 1),(cJ 0),(cJ 2),trivial⟩) (rm rfl (ro rfl (dK (Ht rfl) rfl) (ro rfl (dK (Ht rfl) rfl) (rn rfl (eW (Ts:=[Is (.bool false),Is (.slice none 0 0),Is (.bool false),Is (.slice none 0 0),Is (.slice none 0 0)]) O_51 rfl (fun V=>aW zd (aW zd (aW zd (aW zd (aW zd (aG))))))) fun B8=>?_))))))
  refine gQ Z_51 (Ht rfl) (Ht rfl) rfl (i:=3) rfl (aK rfl) rfl rfl (ra rfl (eX (cK (gJ (i:=3) (tt:=8) rfl rfl Ns (cH [0,1,2] rfl (by decide) (cY (ro rfl (eJ A_32 Z_32 (Ht rfl) (i:=2) rfl rfl rfl) (jF Tryz.call93 (Ni (z:=w) (s:=S) hS2 zo) ⟨(Ht rfl),trivial⟩ rfl (fun B34 _=>(ra rfl (eX (ts (ro rfl (eZ rE (Ht rfl) rfl) (ro rfl (eJ A_32 Z_32 (Ht rfl) (i:=0) rfl rfl rfl) (ro rfl (cZ Tryz.call142 (Uf zo) ⟨(Ht rfl),trivial⟩) ?_)))))))))))))))
  refine ra rfl (eX (cK (cK ?_)))
  rw [← hn]
  refine cY (rm rfl (ro rfl (hJ U_30 (Ht rfl)) (ro rfl (cX (cJ 0)) (eX (eG ?_)))))
  refine bS (fun (i : Nat) => i ≤ n) (fun (i : Nat) => n - i) (fun (i : Nat) => [(1, bN w), (2, dA B2 0), (4, dA B4 0), (6, dA B6 0), (8, PT (aN lC)), (10, Is (.slice (some ⟨B34, 0, none⟩) n n)), (11, bN z), (38, Is (.slice (some ⟨B34, 0, none⟩) n n)), (39, NT .i64 n), (40, NT .i64 i)]) (fun (i : Nat) => [box B2 34 [bN z, cE s, cE c], box B4 34 [Is (.slice none 0 0), Is (.slice none 0 0), Is (.slice none 0 0)], box B6 32 [bN w, cE S], oU B34 29 51 5 (bL aN (qL (fun i => tab n fun k => rJ z w S i k) (fun i => tab n fun k => gm S i k) n i))]) 0 (Nat.zero_le _)
   (zS rfl) (aU (aB rfl) (aU (aB rfl) (aU (aB rfl) (aU (bE (by rw [← oD])) aY)))) (fun i hi=>?_)
  refine ts (ro rfl (gX (Ht rfl) (Ht rfl)) (eX (cK (dQ (Ht rfl) (fun hd=>?_) (fun hd=>?_)))))
  ·have hdn : i < n := by simp only [decide_eq_true_eq] at hd; omega
   refine nT 3 (i) rfl (xQ hdn) (fun v=>(cU (cK (eG (ts (rm rfl (ro rfl (fY U_30 Z_29 (Ht rfl) (Ht rfl) rfl zo (by rw [Nat.mul_one,Nat.zero_add])) ?_)))))))
   refine ro rfl (gS A_29 Z_29 (Ht rfl) (j:=3) rfl) (ra rfl (ra rfl (eX (ts (rm rfl (ro rfl (rL U_29 (Ht rfl) (i:=4) rfl (show (((tab n fun k=>gm S i k).map aN).length:Int) = ((n:Nat):Int) by rw [List.length_map,bI])) (ro rfl (cX (cJ 0)) (eX (eG ?_)))))))))
   refine bS (fun (j : Nat) => j ≤ n) (fun (j : Nat) => n - j) (fun (j : Nat) => [(1, bN w), (2, dA B2 0), (4, dA B4 0), (6, dA B6 0), (8, PT (aN lC)), (10, Is (.slice (some ⟨B34, 0, none⟩) n n)), (11, bN z), (12, NT .i64 i), (13, Is v), (38, Is (.slice (some ⟨B34, 0, none⟩) n n)), (39, NT .i64 n), (40, NT .i64 i), (46, NT .i64 n), (47, NT .i64 j)]) (fun (j : Nat) => [box B2 34 [bN z, cE s, cE c], box B4 34 [Is (.slice none 0 0), Is (.slice none 0 0), Is (.slice none 0 0)], box B6 32 [bN w, cE S], Li B34 29 51 5 (bL aN (qL (fun i => tab n fun k => rJ z w S i k) (fun i => tab n fun k => gm S i k) n i)) i v, cD 51 5 v ((qL (fun k => rJ z w S i k) (fun k => gm S i k) n j).map aN)]) 0 (Nat.zero_le _)
    (zS rfl) (aU (aB rfl) (aU (aB rfl) (aU (aB rfl) (aU (fun _ _ _ h=>h) (aU (cA (by rw [← oD])) aY))))) (fun j hj=>?_)
   refine ts (ro rfl (gX (Ht rfl) (Ht rfl)) (eX (cK (dQ (Ht rfl) (fun hf2=>?_) (fun hf2=>?_)))))
   ·have hjn : j < n := by simp only [decide_eq_true_eq] at hf2; omega
    have hrl:=mI (fun k=>rJ z w S i k) (fun k=>gm S i k) n j
    haveI q1:aD (gm S i j) V:=hV.get hV1 i j
    haveI q2:aD (gv w j) M:=hw.get hM j
    haveI q3:aD (gv z j) L:=hz.get hL j
    haveI q4:aD (gC z w j) D:=by rw [hD]; exact pT hz hw hL hM hp zo
    have hne:=qV hp (show j < z.length by omega)
    refine cU (cK (eG (ts (rm rfl (ra rfl (eX (cK (Y.D_start (m:=14) [] (bY (Ei:=[(1,_)]) rfl rfl (bQ (bJ rfl rfl) bX) rfl rfl (dX rfl (cX (Ht rfl))) (bY (Ei:=[(14,_)]) rfl rfl (bQ (bJ rfl rfl) bX) rfl rfl (dX rfl (cX (Ht rfl))) (bY (Ei:=[(51,_),(52,_)]) rfl rfl (bQ (bZ 0 rfl rfl) (bQ (bZ 1 rfl rfl) bX)) rfl rfl (dX rfl (dZ U_29 Z_51 (Ht rfl) (Ht rfl) rfl (dY (dU (d:=Qi.zero) zo)))) ?_)))))))))))
    refine bY (Ei:=[(53,_)]) rfl rfl (bQ (bZ 2 rfl rfl) bX) rfl rfl (dX rfl (dJ A_51 Z_51 (Ht rfl))) (bY (Ei:=[(11,_)]) rfl rfl (bQ (bJ rfl rfl) bX) rfl rfl (dX rfl (cX (Ht rfl))) (bY (Ei:=[(14,_)]) rfl rfl (bQ (bJ rfl rfl) bX) rfl rfl (dX rfl (cX (Ht rfl))) (bY (Ei:=[(55,_),(56,_)]) rfl rfl (bQ (bZ 4 rfl rfl) (bQ (bZ 5 rfl rfl) bX)) rfl rfl (dX rfl (dZ U_29 Z_51 (Ht rfl) (Ht rfl) rfl (dY (dU (d:=Qi.zero) zo)))) ?_)))
    refine bY (Ei:=[(57,_)]) rfl rfl (bQ (bZ 6 rfl rfl) bX) rfl rfl (dX rfl (dJ A_51 Z_51 (Ht rfl))) (bY (Ei:=[(54,_),(58,_)]) rfl rfl (bQ (bZ 3 rfl rfl) (bQ (bZ 7 rfl rfl) bX)) rfl rfl (dX rfl (cZ Tryz.call40 (Gw (x:=gv w j) (y:=gv z j) (L:=M) (M:=L) zo) ⟨(Ht rfl),(Ht rfl),trivial⟩)) (bY (Ei:=[(59,_)]) rfl rfl (bQ (bZ 8 rfl rfl) bX) rfl rfl (dX rfl (cX (Ht rfl))) (bY (Ei:=[(50,_)]) rfl rfl (bQ (bZ 9 rfl rfl) bX) rfl rfl (dX rfl (dK (Ht rfl) rfl)) ?_)))
    refine bY (Ei:=[(50,_)]) rfl rfl (bQ (bZ 9 rfl rfl) bX) rfl rfl (dX rfl (dK (Ht rfl) rfl)) (Y.D_newp (Ei:=[]) (fun bb=>box bb 51 [aC (decide ((gC z w j).a < 0)),aE (gC z w j).a.natAbs,aC (decide ((gC z w j).b < 0)),aE (gC z w j).b.natAbs,aE (du (gC z w j))]) 13 rfl rfl rfl bX rfl rfl (by kernel_rfl) (eW (Ts:=[Is (.bool false),Is (.slice none 0 0),Is (.bool false),Is (.slice none 0 0),Is (.slice none 0 0)]) O_51 rfl (fun V=>aW zd (aW zd (aW zd (aW zd (aW zd (aG))))))) ?_)
    refine Y.D_putN (Ei:=[(60,_)]) 12 rfl rfl rfl rfl rfl rfl (bQ (bZ 10 rfl rfl) bX) (fun bb=>mE Z_51 (Ht rfl) (Ht rfl) rfl (i:=0) rfl (aK rfl) rfl rfl) (Y.D_done aO rfl (by kernel_rfl) rfl (by simp [Y.okP]) rfl rfl (bU (bU (bU (bU (bU (bU (bU (bU (bU (bU (bU (bU (Y.F_newp (fun B15=>Y.F_putN (Y.F_nil ?_))))))))))))))))
    refine ra rfl (eX (cK (fZ (m:=13) (dp 13 rfl (cX (Ht rfl)) (dp 14 rfl (cX (Ht rfl)) (cP 62 0 63 1 rfl (dB U_29 Z_51 (Ht rfl) (Ht rfl) rfl (i:=4) rfl (by simp only [List.length_map,hrl]; omega) rfl) ?_))))))
    refine dq 64 2 rfl (oX A_51 Z_51 (Ht rfl) (i:=4) rfl rfl (dY (wO hjn))) (dq 65 3 rfl (cC dE (Ht rfl)) (d0 rfl (cZ K_77 (qA (n:=1) (by decide) (by decide)) ⟨(cJ 1),trivial⟩) (dp 15 rfl (eJ A_51 Z_51 (Ht rfl) (i:=5) rfl rfl rfl) (cP 67 5 68 6 rfl (cZ K_44 (yF (x:=Qi.ofInt 1) (y:=gC z w j) (L:=1) (M:=D) zo) ⟨(Ht rfl),(Ht rfl),trivial⟩) (dp 8 rfl (dJ A_51 Z_51 (Ht rfl)) (cP 69 7 70 8 rfl (cZ K_45 (nH (x:=Qi.ofInt 1 - gC z w j) (y:=lC) (L:=1 + D + 1) (M:=2) zo) ⟨(Ht rfl),(Ht rfl),trivial⟩) ?_))))))
    refine dq 71 9 rfl (cZ K_98 Ky ⟨(Ht rfl),trivial⟩) (cP 66 4 72 10 rfl (bO fS K_45 (nH (x:=gm S i j) (y:=(Qi.ofInt 1 - gC z w j) * lC) (L:=V) (M:=1 + D + 1 + 2 + 1) zo) (Ht rfl) ⟨(Ht rfl),trivial⟩) (C.D_new (Ei:=[]) rfl rfl rfl bW (eW (Ts:=[Is (.bool false),Is (.slice none 0 0),Is (.bool false),Is (.slice none 0 0),Is (.slice none 0 0)]) O_51 rfl (fun V=>aW zd (aW zd (aW zd (aW zd (aW zd (aG))))))) ?_))
    refine fV aO rfl (by kernel_rfl) (zF (zF (zF (C.F_new (fun B17=>aV (gQ Z_51 (Ht rfl) (Ht rfl) rfl (i:=6) rfl (aK rfl) rfl rfl (eX (ts (rm rfl (rm rfl (ro rfl (cR (Ht rfl) (Ht rfl)) (eX (dQ (Ht rfl) (fun hij=>?_) (fun hij=>?_))))))))))))))
    ·have hij2 : i = j := by simpa using hij
     have hval:rJ z w S i j = ((Qi.ofInt 1 + gC z w j) * lC - gm S i j * ((Qi.ofInt 1 - gC z w j) * lC)):=by rw [rJ,if_pos hij2]; rfl
     refine fZ (m:=11) (dp 13 rfl (cX (Ht rfl)) (dp 14 rfl (cX (Ht rfl)) (d0 rfl (cZ K_77 (qA (n:=1) (by decide) (by decide)) ⟨(cJ 1),trivial⟩) (dp 15 rfl (eJ A_51 Z_51 (Ht rfl) (i:=5) rfl rfl rfl) (cP 79 2 80 3 rfl (cZ K_46 (De (x:=Qi.ofInt 1) (y:=gC z w j) (L:=1) (M:=D) zo) ⟨(Ht rfl),(Ht rfl),trivial⟩) (dp 8 rfl (dJ A_51 Z_51 (Ht rfl)) (cP 81 4 82 5 rfl (cZ K_45 (nH (x:=Qi.ofInt 1 + gC z w j) (y:=lC) (L:=1 + D + 1) (M:=2) zo) ⟨(Ht rfl),(Ht rfl),trivial⟩) ?_)))))))
     refine dq 83 6 rfl (cZ K_98 Ky ⟨(Ht rfl),trivial⟩) (dq 84 7 rfl (cC dE (Ht rfl)) (dp 17 rfl (eJ A_51 Z_51 (Ht rfl) (i:=6) rfl rfl rfl) (cP 85 8 86 9 rfl (bO lX K_44 (yF (x:=(Qi.ofInt 1 + gC z w j) * lC) (y:=gm S i j * ((Qi.ofInt 1 - gC z w j) * lC)) (L:=1 + D + 1 + 2 + 1) (M:=V + (1 + D + 1 + 2 + 1) + 1) zo) (Ht rfl) ⟨(Ht rfl),trivial⟩) (fV aO rfl (by kernel_rfl) (zF (zF (aJ (aJ (aJ (aV (ro rfl (dB U_29 Z_51 (Ht rfl) (Ht rfl) rfl (i:=4) rfl (by simp only [List.length_map,hrl]; omega) rfl) ?_)))))))))))
     refine kM Z_51 (Ht rfl) (Ht rfl) (El.ag rfl) (i:=4) rfl rfl (by simp only [List.length_map,hrl]; omega) rfl ?_
     refine eX (bA (cY (ro rfl (dV (Ht rfl) (cJ 1) z6) (rm rfl (eX (cH [0,1,2,3,4] rfl (by decide) (fU (j + 1) hjn zo (zS rfl) (aU (aB rfl) (aU (aB rfl) (aU (aB rfl) (aU (fun _ _ _ h=>h) (aU (cA (by rw [fI,← hval]; exact congrArg _ (oV (f:=fun k=>rJ z w S i k)))) aY))))))))))))
    ·have hij2 : ¬ i = j := by simpa using hij
     have hval:rJ z w S i j = (-(gm S i j * ((Qi.ofInt 1 - gC z w j) * lC))):=by rw [rJ,if_neg hij2]; rfl
     refine cY (rm rfl (rm rfl (ro rfl (eJ A_51 Z_51 (Ht rfl) (i:=6) rfl rfl rfl) (ro rfl (cC dE (Ht rfl)) (ro rfl (bO Iq Tryz.call140 (a1j (x:=gm S i j * ((Qi.ofInt 1 - gC z w j) * lC))) (Ht rfl) trivial) (ro rfl (dB U_29 Z_51 (Ht rfl) (Ht rfl) rfl (i:=4) rfl (by simp only [List.length_map,hrl]; omega) rfl) ?_))))))
     refine kM Z_51 (Ht rfl) (Ht rfl) (El.ag rfl) (i:=4) rfl rfl (by simp only [List.length_map,hrl]; omega) rfl ?_
     refine eX (bA (cY (ro rfl (dV (Ht rfl) (cJ 1) z6) (rm rfl (eX (cH [0,1,2,3,4] rfl (by decide) (fU (j + 1) hjn zo (zS rfl) (aU (aB rfl) (aU (aB rfl) (aU (aB rfl) (aU (fun _ _ _ h=>h) (aU (cA (by rw [fI,← hval]; exact congrArg _ (oV (f:=fun k=>rJ z w S i k)))) aY))))))))))))
   ·have hjn : j = n := by simp only [decide_eq_false_iff_not] at hf2; omega
    rw [hjn]
    refine gV rfl (bA (dS 3 4 rfl rfl (by decide) (by simp only [bL,List.length_map,mI]; omega) ?_))
    refine cY (ro rfl (dV (Ht rfl) (cJ 1) z6) (rm rfl (eX (cH [0,1,2,3] rfl (by decide) (fU (i + 1) hdn zo (zS rfl) (aU (aB rfl) (aU (aB rfl) (aU (aB rfl) (aU (bE (by rw [eH,qM]; exact congrArg _ (oV (f:=(fun i=>tab n fun k=>rJ z w S i k))))) aY)))))))))
  ·have hdn : i = n := by simp only [decide_eq_false_iff_not] at hd; omega
   rw [hdn,qM,show tab n (fun i=>tab n fun k=>rJ z w S i k) = Cl z w S n from rfl]
   refine gV rfl (cK (gJ (i:=3) (tt:=10) rfl rfl (gK (s:=5) (M:=Cl z w S n) (bI _ _).symm) ?_))
   have hnf:aS (Cl z w S n) (V + 2 * D + 12 + W):=aS.tab fun i k _ hk=>(Fx (D:=D) hV hV1 (by rw [hD]; exact pT hz hw hL hM hp zo)).le zo
   rw [hzl] at hch
   refine fZ (m:=5) (dp 6 rfl (eJ A_32 Z_32 (Ht rfl) (i:=2) rfl rfl rfl) (dp 10 rfl (cX (Ht rfl)) (dp 2 rfl (eZ nB (Ht rfl) rfl) (dq 99 2 rfl (eY A_30 Z_30 (Ht rfl) (i:=0) rfl rfl) (cP 98 1 100 3 rfl (cZ Tryz.call99 (a22 (L:=V + 2 * D + 12 + W) (wP z w S n) hch hnf (hfc.le zo) zo zo rfl zo zo) ⟨(Ht rfl),(Ht rfl),trivial⟩) (fV aO rfl (by kernel_rfl) (zF (aJ (aV (ro rfl (Ai (Ht rfl) (Ht rfl)) (gQ Z_34 (Ht rfl) (Ht rfl) rfl (i:=1) rfl (aK rfl) rfl rfl ?_)))))))))))
   refine ro rfl (cQ (cJ 0)) (eX ?_)
   exact bM rfl (fK A_34 Z_34 rfl (i:=1) rfl rfl) (eU rfl)
end
section
open Go Go.RowKit
section
variable {P:Program} {R:iA} {cx:Cx} {n:Nat} {k:List It} {E:dC} {H:Hp}
theorem HH.two {base:Nat} {w:World} {V:aT} {Z:SA} {X:Hp} (h:HH base w V (Z :: X)):HH base w V [Z,gM (SA.emp :: X)]:=by
 have h1:HH base w V ((Z :: X).set 0 SA.emp ++ [Z]):=h.last rfl
 have h2:HH base w V (gM (SA.emp :: X) :: [Z]):=HH.repack h1
 exact h2.pick (is:=[1,0]) ⟨⟨_,rfl,fun _ _ _ h=>h⟩,⟨_,rfl,fun _ _ _ h=>h⟩,trivial⟩ (by decide)
theorem gF.pack {f : FuncId} {Ts : List Ty} {γ : Type} {U : γ → Ty} {X : γ → Hp} {Q : γ → Prop} (h : gF P f Ts [] γ U X Q) : gF P f Ts [] γ U (fun x => [gM (SA.emp :: X x)]) Q :=
 fun cx Z vs V w h1 h2=>(h cx Z vs V w h1 h2).mono fun e w' ⟨v,V',x,a,b,c,d,e'⟩=>⟨v,V',x,a,b,c.withHH c.hp.two,d,e'⟩
end
namespace W
variable {P:Program} {R:iA} {cx:Cx} {n:Nat} {k:List It} {E:dC} {H:Hp} {Hf:Bool → Hp} {p:Nat}
end W
end
section
open Go Go.RowKit
section
variable {P:Program} {R:iA} {cx:Cx} {n:Nat} {k:List It} {E:dC} {H:Hp} {ops:Array Oper} {o:Oper} {rest:List Oper}
variable {d:Option Tmp} {t:TypeId} {pos:String} {af:Array Edge} {g:Option (Nat × Bool)}
def hdr : Option (Nat × Nat) → Nat → Value
 | none,_=>.slice none 0 0
 | some (b,cp),l=>.slice (some ⟨b,0,none⟩) l cp
instance shHdr (x:Option (Nat × Nat)) (l:Nat):dO (Is (hdr x l)) 1 false:=by
 match x with
 | none=>exact inferInstanceAs (dO (Is (.slice none 0 0)) 1 false)
 | some (b,cp)=>exact inferInstanceAs (dO (Is (.slice (some ⟨b,0,none⟩) l cp)) 1 false)
end
end
section
open Go Go.RowKit
theorem a3F {z:List Rt} {s c:List (List Rt)} (hf:vD z s c = true):z.length ≤ 9:=by
 rw [vD] at hf; simp only [Bool.and_eq_true,decide_eq_true_eq] at hf; exact hf.1.1.1.1
section
variable {z:List Qi} {s:List (List Qi)} {js:List (Int × Int)}
end
end
section
open Go Go.RowKit
theorem a2w {z:List Rt} {s c:List (List Rt)}:(Cr z s c).all fP = true:=by
 unfold Cr dP; split
 ·split
  ·rename_i h; exact (uG h).2.2.2
  ·rfl
 ·rfl
section
variable {z w:List Qi} {s:List (List Qi)} {t g:Qi} {port:Int} {l:List Int}
theorem Xf (hz : bP z 2) (hw : bP w 2) (hs : aS s 2) (hp : z.all fP = true) (hl8 : z.length ≤ 8) (hl : w.length = z.length) (i : Nat) (_ : i < w.length) : Yf (oF z w s) (ek w.length i) w.length (Md 28) (Cv 28) :=
 a3T (jV _ _ _ _) (uF (uL hz hw (by decide) (by decide) hp hl) (uK hz hw (by decide) (by decide) hp hl) hs (by decide) (by decide)) (Lg (by decide)) (by decide) (by decide) zo
theorem Pe (hz:bP z 2) (hw:bP w 2) (hs:aS s 2) (hp:z.all fP = true) (hl8:z.length ≤ 8):aS (lD z w s) 2060000:=by
 by_cases h:uT z w s = 0
 ·have hl := Jl h
  obtain ⟨hq,hi,-,-⟩:=rN (n:=w.length) hl.symm rfl h
  rw [lD,dP,if_pos h]
  exact (Iw (L:=28) (M:=Cv 28) (uF (uK hz hw (by decide) (by decide) hp hl) (uL hz hw (by decide) (by decide) hp hl) hs (by decide) (by decide)) (xR (Xf hz hw hs hp hl8 hl) hi) (by decide) (Mg 28) zo).le (by decide)
 ·rw [lD,dP,if_neg h]; exact aS.nil
end
end
section
open Go Go.RowKit
theorem Le {z w:List Qi} {s c:List (List Qi)} {L M K V W G X:Nat} (hs:cM s z.length z.length) (hch:cM c z.length z.length) (hz:bP z L) (hw:bP w M) (hf:aS s K) (hfc:aS c W) (hL:1 ≤ L) (hM:1 ≤ M) (hK:1 ≤ K) (hW:1 ≤ W) (hLb:L ≤ 1000) (hMb:M ≤ 1000) (hKb:K ≤ 100000000000) (hWb:W ≤ 400000000) (hp:z.all fP = true) (h8:z.length ≤ 8) (hwl:w.length ≤ 1000) (hsz:w.length = z.length → ∀ i,i < w.length → Yr (oF z w s) (ek w.length i) w.length G) (hif:w.length = z.length → nQ (oF z w s) w.length = 0 → aS (mS (oF z w s) w.length) X) (hX:X ≤ 900000000000) (hV:aS (lD z w s) V) (hV1:1 ≤ V) (hVb:V ≤ 400000000):bB Tryz.prog 49 [mZ z s c,qU w] (fH [mZ (vR z w s) (lD z w s) (Bl z w s c),bD .i64 (uT z w s)]):=by
 have hR:=Ld hs hz hw hf hL hM hK zo zo hKb hp h8 hwl hsz hif hX
 haveI h5:=Fu
 haveI h6:=pM
 refine bB.intro Tryz.func49 rfl Tryz.ntmps49 rfl (fun cx=>(ts (rn rfl (fG (Ht rfl)) fun B2=>(rn rfl (eW (Ts:=[Is (.slice none 0 0),Is (.slice none 0 0),Is (.slice none 0 0)]) O_40 rfl (fun V=>aW zd (aW zd (aW zd (aG))))) fun B4=>(ro rfl (cQ (cJ 0)) (eX (ts (ro rfl (eZ uA (Ht rfl) rfl) (ro rfl (eJ A_38 Z_38 (Ht rfl) (i:=0) rfl rfl rfl) (rm rfl (ro rfl (cZ Tryz.call143 hR ⟨(Ht rfl),(Ht rfl),trivial⟩) (rm rfl (ro rfl (dK (Ht rfl) rfl) ?_)))))))))))))
 refine ro rfl (dK (Ht rfl) rfl) (rn rfl (eW (Ts:=[Is (.slice none 0 0),Is (.slice none 0 0)]) O_38 rfl (fun V=>aW zd (aW zd (aG)))) fun B6=>(gQ Z_38 (Ht rfl) (Ht rfl) rfl (i:=2) rfl (aK rfl) rfl rfl (ra rfl (eX (cK (ts (rm rfl (ro rfl (kE (Ht rfl) cV) (eX (dQ (Ht rfl) (fun hb=>?_) (fun hb=>?_)))))))))))
 ·have he : uT z w s ≠ 0 := by simpa using hb
  refine ts (ro rfl (aL.imp (Ez ) vJ) (rm rfl (gQ Z_40 (Ht rfl) (Ht rfl) rfl (i:=1) rfl (aK rfl) rfl rfl (ra rfl (eX (bM rfl (fX (fK A_40 Z_40 rfl (i:=1) rfl rfl) ?_) (eU rfl)))))))
  exact (fun v V h=>by rw [vR,lD,Bl,dP,dP,dP,if_neg he,if_neg he,if_neg he]; exact h)
 ·have he : uT z w s = 0 := by simpa using hb
  have hl:=Jl he
  obtain ⟨hq,-,hSx,hZ⟩:=rN (n:=z.length) rfl hl he
  have hS2:cM (lD z w s) w.length w.length:=by rw [hSx,hl]; exact iQ
  have hC:Bl z w s c = kC (Cl z w (lD z w s) w.length) c:=by rw [Bl,dP,if_pos he]
  rw [hZ,hC,he]
  clear hR hsz hif hSx hZ hC he hb hs
  generalize lD z w s = S at *
  obtain ⟨n,hn⟩:∃ n,n = w.length:=⟨_,rfl⟩
  have hzl:z.length = n:=by omega
  rw [← hn] at hS2
  have hSl:=hS2.1
  obtain ⟨D,hD⟩:∃ D,D = M + 3 * L + 2:=⟨_,rfl⟩
  refine cU (ts (rm rfl (ro rfl (aL.nat (dG U_35 (Ht rfl) aA) hn.symm) (rm rfl (ro rfl (aL.nat (dG U_35 (Ht rfl) aA) hn.symm) (jF K_129 (oL (n:=n) (m:=n) zo zo) ⟨(Ht rfl),(Ht rfl),trivial⟩ rfl (fun B32 _=>(ra rfl (eX (cK (ts (ro rfl (cQ (cJ 0)) (eX (eG ?_))))))))))))))
  refine bS (fun (k : Nat) => k ≤ n) (fun (k : Nat) => n - k) (fun (k : Nat) => [(1, qU w), (2, dA B2 0), (4, dA B4 0), (6, dA B6 0), (8, Is (.slice (some ⟨B32, 0, none⟩) n n)), (9, NT .i64 k)]) (fun (k : Nat) => [box B2 40 [qU z, QM s, QM c], box B4 40 [Is (.slice none 0 0), Is (.slice none 0 0), Is (.slice none 0 0)], box B6 38 [qU w, QM S], jQ dT B32 35 131 5 (bL QT (mG (rJ z w S) n n k 0))]) 0 (Nat.zero_le _)
   (zS rfl) (aU (aB rfl) (aU (aB rfl) (aU (aB rfl) (aU (bE (by rw [tP,← tX]; rfl)) aY)))) (fun k hk=>?_)
  refine cK (ts (rm rfl (rm rfl (ro rfl (aL.nat (dG U_35 (Ht rfl) aA) hn.symm) (ro rfl (gX (Ht rfl) (Ht rfl)) (eX (dQ (Ht rfl) (fun hd=>?_) (fun hd=>?_))))))))
  ·have hkn : k < n := by simp only [decide_eq_true_eq] at hd; omega
   haveI q2:aD (gv w k) M:=hw.get hM k
   haveI q3:aD (gv z k) L:=hz.get hL k
   haveI q4:aD (gC z w k) D:=by rw [hD]; exact pT hz hw hL hM hp zo
   haveI q5:aD ((Qi.ofInt 1 - gC z w k) * lC) (1 + D + 1 + 2 + 1):=fitMul (L:=1 + D + 1) (M:=2)
   haveI q6:aD ((Qi.ofInt 1 + gC z w k) * lC) (1 + D + 1 + 2 + 1):=fitMul (L:=1 + D + 1) (M:=2)
   refine cU (cK (eG (cK (Y.D_start (m:=16) [] (bY (Ei:=[(1,_)]) rfl rfl (bQ (bJ rfl rfl) bX) rfl rfl (dX rfl (cX (Ht rfl))) (bY (Ei:=[(9,_)]) rfl rfl (bQ (bJ rfl rfl) bX) rfl rfl (dX rfl (cX (Ht rfl))) (bY (Ei:=[(40,_),(41,_)]) rfl rfl (bQ (bZ 0 rfl rfl) (bQ (bZ 1 rfl rfl) bX)) rfl rfl (dX rfl (dZ U_35 Z_131 (Ht rfl) (Ht rfl) rfl (dY (dU (d:=Qi.zero) zo)))) (bY (Ei:=[(42,_)]) rfl rfl (bQ (bZ 2 rfl rfl) bX) rfl rfl (dX rfl (dJ A_131 Z_131 (Ht rfl))) ?_))))))))
   refine bY (Ei:=[(2,_)]) rfl rfl (bQ (bJ rfl rfl) bX) rfl rfl (dX rfl (eZ uA (Ht rfl) rfl)) (bY (Ei:=[(44,_)]) rfl rfl (bQ (bZ 4 rfl rfl) bX) rfl rfl (dX rfl (eZ pK (Ht rfl) rfl)) (bY (Ei:=[(45,_)]) rfl rfl (bQ (bZ 5 rfl rfl) bX) rfl rfl (dX rfl (eY A_35 Z_35 (Ht rfl) (i:=0) rfl rfl)) (bY (Ei:=[(9,_)]) rfl rfl (bQ (bJ rfl rfl) bX) rfl rfl (dX rfl (cX (Ht rfl))) (bY (Ei:=[(46,_),(47,_)]) rfl rfl (bQ (bZ 6 rfl rfl) (bQ (bZ 7 rfl rfl) bX)) rfl rfl (dX rfl (dZ U_35 Z_131 (Ht rfl) (Ht rfl) rfl (dY (dU (d:=Qi.zero) zo)))) ?_))))
   refine bY (Ei:=[(48,_)]) rfl rfl (bQ (bZ 8 rfl rfl) bX) rfl rfl (dX rfl (dJ A_131 Z_131 (Ht rfl))) (bY (Ei:=[(43,_),(49,_)]) rfl rfl (bQ (bZ 3 rfl rfl) (bQ (bZ 9 rfl rfl) bX)) rfl rfl (dX rfl (cZ Tryz.call144 (yV (x:=gv w k) (y:=gv z k) (L:=M) (M:=L) zo) ⟨(Ht rfl),(Ht rfl),trivial⟩)) (bY (Ei:=[(50,_)]) rfl rfl (bQ (bZ 10 rfl rfl) bX) rfl rfl (dX rfl (cX (Ht rfl))) (bY (Ei:=[(39,_)]) rfl rfl (bQ (bZ 11 rfl rfl) bX) rfl rfl (dX rfl (dK (Ht rfl) rfl)) ?_)))
   refine bY (Ei:=[(39,_)]) rfl rfl (bQ (bZ 11 rfl rfl) bX) rfl rfl (dX rfl (dK (Ht rfl) rfl)) (Y.D_newp (Ei:=[]) (fun bb=>box bb 131 [aC (decide ((gC z w k).a < 0)),aE (gC z w k).a.natAbs,aC (decide ((gC z w k).b < 0)),aE (gC z w k).b.natAbs,aE (gC z w k).den]) 15 rfl rfl rfl bX rfl rfl (by kernel_rfl) (eW (Ts:=[Is (.bool false),Is (.slice none 0 0),Is (.bool false),Is (.slice none 0 0),Is (.slice none 0 0)]) O_131 rfl (fun V=>aW zd (aW zd (aW zd (aW zd (aW zd (aG))))))) ?_)
   refine Y.D_putN (Ei:=[(51,_)]) 14 rfl rfl rfl rfl rfl rfl (bQ (bZ 12 rfl rfl) bX) (fun bb=>mE Z_131 (Ht rfl) (Ht rfl) rfl (i:=0) rfl (aK rfl) rfl rfl) (Y.D_done aO rfl (by kernel_rfl) rfl (by simp [Y.okP]) rfl rfl (bU (bU (bU (bU (bU (bU (bU (bU (bU (bU (bU (bU (bU (bU (Y.F_newp (fun B10=>Y.F_putN (Y.F_nil ?_))))))))))))))))))
   refine ra rfl (eX (ts (ro rfl (cZ Tryz.call145 (Ub (p:=1) (q:=0) (d:=2) (by decide) (by decide) (by decide) (by decide) (by decide) (by decide) (by decide)) ⟨(cJ 1),(cJ 0),(cJ 2),trivial⟩) (rm rfl (ro rfl (dK (Ht rfl) rfl) (ro rfl (dK (Ht rfl) rfl) (rn rfl (eW (Ts:=[Is (.bool false),Is (.slice none 0 0),Is (.bool false),Is (.slice none 0 0),Is (.slice none 0 0)]) O_131 rfl (fun V=>aW zd (aW zd (aW zd (aW zd (aW zd (aG))))))) fun B12=>?_)))))))
   refine gQ Z_131 (Ht rfl) (Ht rfl) rfl (i:=5) rfl (aK rfl) rfl rfl (ra rfl (eX (cK (fZ (m:=6) (d0 rfl (cZ K_148 (oN (n:=1) (by decide) (by decide)) ⟨(cJ 1),trivial⟩) (dp 10 rfl (eJ A_131 Z_131 (Ht rfl) (i:=4) rfl rfl rfl) (cP 57 0 58 1 rfl (cZ Tryz.call147 (Fk (x:=Qi.ofInt 1) (y:=gC z w k) (L:=1) (M:=D) zo) ⟨(Ht rfl),(Ht rfl),trivial⟩) (dp 12 rfl (eJ A_131 Z_131 (Ht rfl) (i:=5) rfl rfl rfl) (cP 59 2 60 3 rfl (cZ K_146 (oM (x:=Qi.ofInt 1 - gC z w k) (y:=lC) (L:=1 + D + 1) (M:=2) zo) ⟨(Ht rfl),(Ht rfl),trivial⟩) ?_)))))))))
   refine C.D_new (Ei:=[]) rfl rfl rfl bW (eW (Ts:=[Is (.bool false),Is (.slice none 0 0),Is (.bool false),Is (.slice none 0 0),Is (.slice none 0 0)]) O_131 rfl (fun V=>aW zd (aW zd (aW zd (aW zd (aW zd (aG))))))) (fV aO rfl (by kernel_rfl) (zF (aJ (C.F_new (fun B14=>aV (gQ Z_131 (Ht rfl) (Ht rfl) rfl (i:=6) rfl (aK rfl) rfl rfl (eX (cK (fZ (m:=6) ?_)))))))))
   refine d0 rfl (cZ K_148 (oN (n:=1) (by decide) (by decide)) ⟨(cJ 1),trivial⟩) (dp 10 rfl (eJ A_131 Z_131 (Ht rfl) (i:=4) rfl rfl rfl) (cP 62 0 63 1 rfl (cZ K_149 (vB (x:=Qi.ofInt 1) (y:=gC z w k) (L:=1) (M:=D) zo) ⟨(Ht rfl),(Ht rfl),trivial⟩) (dp 12 rfl (eJ A_131 Z_131 (Ht rfl) (i:=5) rfl rfl rfl) (cP 64 2 65 3 rfl (cZ K_146 (oM (x:=Qi.ofInt 1 + gC z w k) (y:=lC) (L:=1 + D + 1) (M:=2) zo) ⟨(Ht rfl),(Ht rfl),trivial⟩) (C.D_new (Ei:=[]) rfl rfl rfl bW (eW (Ts:=[Is (.bool false),Is (.slice none 0 0),Is (.bool false),Is (.slice none 0 0),Is (.slice none 0 0)]) O_131 rfl (fun V=>aW zd (aW zd (aW zd (aW zd (aW zd (aG))))))) ?_)))))
   refine fV aO rfl (by kernel_rfl) (zF (aJ (C.F_new (fun B15=>aV (gQ Z_131 (Ht rfl) (Ht rfl) rfl (i:=7) rfl (aK rfl) rfl rfl (eX (cK (cH [0,1,2,3,6,7] rfl (by decide) (cY (ro rfl (cQ (cJ 0)) (eX (eG ?_))))))))))))
   refine bS (fun (i : Nat) => i ≤ n) (fun (i : Nat) => n - i) (fun (i : Nat) => [(1, qU w), (2, dA B2 0), (4, dA B4 0), (6, dA B6 0), (8, Is (.slice (some ⟨B32, 0, none⟩) n n)), (9, NT .i64 k), (14, dA B14 0), (15, dA B15 0), (16, NT .i64 i)]) (fun (i : Nat) => [box B2 40 [qU z, QM s, QM c], box B4 40 [Is (.slice none 0 0), Is (.slice none 0 0), Is (.slice none 0 0)], box B6 38 [qU w, QM S], jQ dT B32 35 131 5 (bL QT (mG (rJ z w S) n n k i)), box B14 131 [aC (decide (((Qi.ofInt 1 - gC z w k) * lC).a < 0)), aE ((Qi.ofInt 1 - gC z w k) * lC).a.natAbs, aC (decide (((Qi.ofInt 1 - gC z w k) * lC).b < 0)), aE ((Qi.ofInt 1 - gC z w k) * lC).b.natAbs, aE ((Qi.ofInt 1 - gC z w k) * lC).den], box B15 131 [aC (decide (((Qi.ofInt 1 + gC z w k) * lC).a < 0)), aE ((Qi.ofInt 1 + gC z w k) * lC).a.natAbs, aC (decide (((Qi.ofInt 1 + gC z w k) * lC).b < 0)), aE ((Qi.ofInt 1 + gC z w k) * lC).b.natAbs, aE ((Qi.ofInt 1 + gC z w k) * lC).den]]) 0 (Nat.zero_le _)
    (zS rfl) (aU (aB rfl) (aU (aB rfl) (aU (aB rfl) (aU (fun _ _ _ h=>h) (aU (aB rfl) (aU (aB rfl) aY)))))) (fun i hi=>?_)
   refine cK (ts (rm rfl (rm rfl (ro rfl (aL.nat (dG U_35 (Ht rfl) aA) hn.symm) (ro rfl (gX (Ht rfl) (Ht rfl)) (eX (dQ (Ht rfl) (fun hf2=>?_) (fun hf2=>?_))))))))
   ·have hin : i < n := by simp only [decide_eq_true_eq] at hf2; omega
    have hSr:=hS2.row hin
    haveI q1:aD (gm S i k) V:=hV.get hV1 i k
    haveI q7:aD (gm S i k * ((Qi.ofInt 1 - gC z w k) * lC)) (V + (1 + D + 1 + 2 + 1) + 1):=fitMul (L:=V) (M:=1 + D + 1 + 2 + 1)
    have hpl:=(kO (rJ z w S) n n k i).1
    have hpr:((mG (rJ z w S) n n k i).getD i []).length = n:=(kO (rJ z w S) n n k i).row hin
    refine jK 3 (i) rfl (jP zo) (fun va hva=>(cU (cK (eG (cK (fZ (m:=16) (dp 8 rfl (cX (Ht rfl)) (dp 16 rfl (cX (Ht rfl)) (cP 73 0 74 1 rfl (fY U_36 Z_35 (Ht rfl) (Ht rfl) rfl zo (by rw [Nat.mul_one,Nat.zero_add])) ?_)))))))))
    refine dq 75 2 rfl (gS A_35 Z_35 (Ht rfl) (j:=3) rfl) (dp 9 rfl (cX (Ht rfl)) (dp 6 rfl (eZ zD (Ht rfl) rfl) (dq 78 5 rfl (eY A_36 Z_36 (Ht rfl) (i:=2) rfl rfl) (dp 16 rfl (cX (Ht rfl)) (cP 79 6 80 7 rfl (dZ U_36 Z_35 (Ht rfl) (Ht rfl) rfl (dY (dU (d:=[]) zo))) (dq 81 8 rfl (dJ A_35 Z_35 (Ht rfl)) (dp 9 rfl (cX (Ht rfl)) (cP 82 9 83 10 rfl (dZ U_35 Z_131 (Ht rfl) (Ht rfl) rfl (dY (dU (d:=Qi.zero) zo))) ?_))))))))
    refine dq 84 11 rfl (dJ A_131 Z_131 (Ht rfl)) (dp 14 rfl (eJ A_131 Z_131 (Ht rfl) (i:=4) rfl rfl rfl) (cP 85 12 86 13 rfl (cZ K_146 (oM (x:=gm S i k) (y:=(Qi.ofInt 1 - gC z w k) * lC) (L:=V) (M:=1 + D + 1 + 2 + 1) zo) ⟨(Ht rfl),(Ht rfl),trivial⟩) (dq 87 14 rfl (cZ Tryz.call150 (Ua (x:=gm S i k * ((Qi.ofInt 1 - gC z w k) * lC))) ⟨(Ht rfl),trivial⟩) (fV aO rfl (by kernel_rfl) (zF (zF (zF (zF (aV ?_)))))))))
    refine ro rfl (dB U_35 Z_131 (Ht rfl) (Ht rfl) rfl (i:=6) rfl (by rw [List.length_map]; omega) rfl) ?_
    refine kM Z_131 (Ht rfl) (Ht rfl) (El.ag rfl) (i:=6) rfl rfl (by rw [List.length_map]; omega) rfl ?_
    refine eX (ts (rm rfl (rm rfl (ro rfl (cR (Ht rfl) (Ht rfl)) (eX (dQ (Ht rfl) (fun hij=>?_) (fun hij=>?_)))))))
    ·have hij2 : i = k := by simpa using hij
     have hval : rJ z w S i k = (-(gm S i k * ((Qi.ofInt 1 - gC z w k) * lC))) + (Qi.ofInt 1 + gC z w k) * lC := by
      rw [rJ,if_pos hij2]
      show (1 + gC z w k) * lC - gm S i k * ((1 - gC z w k) * lC) = -(gm S i k * ((1 - gC z w k) * lC)) + (1 + gC z w k) * lC
      grind
     refine fZ (m:=14) (dp 8 rfl (cX (Ht rfl)) (dp 16 rfl (cX (Ht rfl)) (cP 93 0 94 1 rfl (fY U_36 Z_35 (Ht rfl) (Ht rfl) rfl zo (by rw [Nat.mul_one,Nat.zero_add])) ?_)))
     refine dq 95 2 rfl (gS A_35 Z_35 (Ht rfl) (j:=3) rfl) (dp 9 rfl (cX (Ht rfl)) (dp 8 rfl (cX (Ht rfl)) (dp 16 rfl (cX (Ht rfl)) (cP 98 5 99 6 rfl (fY U_36 Z_35 (Ht rfl) (Ht rfl) rfl zo (by rw [Nat.mul_one,Nat.zero_add])) ?_))))
     refine dq 100 7 rfl (gS A_35 Z_35 (Ht rfl) (j:=3) rfl) (dp 9 rfl (cX (Ht rfl)) (cP 101 8 102 9 rfl (dB U_35 Z_131 (Ht rfl) (Ht rfl) rfl (i:=6) rfl (by rw [List.length_set,List.length_map]; omega) rfl) ?_))
     refine dq 103 10 rfl (oX A_131 Z_131 (Ht rfl) (i:=6) rfl rfl (List.getElem?_set_self (by rw [List.length_map]; omega))) ?_
     refine dp 15 rfl (eJ A_131 Z_131 (Ht rfl) (i:=5) rfl rfl rfl) (cP 104 11 105 12 rfl (cZ K_149 (vB (x:=(-(gm S i k * ((Qi.ofInt 1 - gC z w k) * lC)))) (y:=(Qi.ofInt 1 + gC z w k) * lC) (L:=V + (1 + D + 1 + 2 + 1) + 1) (M:=1 + D + 1 + 2 + 1) zo) ⟨(Ht rfl),(Ht rfl),trivial⟩) (fV aO rfl (by kernel_rfl) (zF (zF (zF (aJ (aJ (aV (ro rfl (dB U_35 Z_131 (Ht rfl) (Ht rfl) rfl (i:=6) rfl (by rw [List.length_set,List.length_map]; omega) rfl) ?_)))))))))
     refine kM Z_131 (Ht rfl) (Ht rfl) (El.ag rfl) (i:=6) rfl rfl (by rw [List.length_set,List.length_map]; omega) rfl ?_
     refine eX (bA (dS 3 6 rfl rfl (by decide) (by simp only [bL,List.length_map]; omega) ?_))
     refine cY (rm rfl (ro rfl (dV (Ht rfl) (cJ 1) z6) (ra rfl (eX (cH [0,1,2,3,4,5] rfl (by decide) (fU (i + 1) hin zo (zS rfl) (aU (aB rfl) (aU (aB rfl) (aU (aB rfl) (aU (bE (by rw [List.set_set,fI,eH,← hval]; exact congrArg _ (qC (val:=(rJ z w S)) hin hkn))) (aU (aB rfl) (aU (aB rfl) aY))))))))))))
    ·have hij2 : ¬ i = k := by simpa using hij
     have hval:rJ z w S i k = (-(gm S i k * ((Qi.ofInt 1 - gC z w k) * lC))):=by rw [rJ,if_neg hij2]; rfl
     refine cU (bA (dS 3 6 rfl rfl (by decide) (by simp only [bL,List.length_map]; omega) ?_))
     refine cY (rm rfl (ro rfl (dV (Ht rfl) (cJ 1) z6) (ra rfl (eX (cH [0,1,2,3,4,5] rfl (by decide) (fU (i + 1) hin zo (zS rfl) (aU (aB rfl) (aU (aB rfl) (aU (aB rfl) (aU (bE (by rw [fI,eH,← hval]; exact congrArg _ (qC (val:=(rJ z w S)) hin hkn))) (aU (aB rfl) (aU (aB rfl) aY))))))))))))
   ·have hin : i = n := by simp only [decide_eq_false_iff_not] at hf2; omega
    rw [hin,wB]
    refine gV rfl (bA (cY (rm rfl (ro rfl (dV (Ht rfl) (cJ 1) z6) (ra rfl (eX (cH [0,1,2,3] rfl (by decide) (fU (k + 1) hkn zo (zS rfl) (aU (aB rfl) (aU (aB rfl) (aU (aB rfl) (aU (fun _ _ _ h=>h) aY))))))))))))
  ·have hkn : k = n := by simp only [decide_eq_false_iff_not] at hd; omega
   rw [← hn,hkn,wC,show (tab n fun r=>tab n fun j=>rJ z w S r j) = Cl z w S n from rfl]
   refine gV rfl (cK (gJ (i:=3) (tt:=8) rfl rfl (gK (s:=5) (M:=Cl z w S n) (bI _ _).symm) ?_))
   have hnf:aS (Cl z w S n) (V + 2 * D + 12 + W):=aS.tab fun i k _ hk=>(Fx (D:=D) hV hV1 (by rw [hD]; exact pT hz hw hL hM hp zo)).le zo
   have hns:=wP z w S n
   have hnl:=hns.1
   have hcl:=hch.1
   rw [← hcl] at hch
   have hns2:cM (Cl z w S n) (Cl z w S n).length c.length:=by rw [hnl,hcl,hzl]; exact hns
   refine fZ (m:=5) (dp 6 rfl (eJ A_38 Z_38 (Ht rfl) (i:=2) rfl rfl rfl) (dp 8 rfl (cX (Ht rfl)) (dp 2 rfl (eZ wH (Ht rfl) rfl) (dq 110 2 rfl (eY A_36 Z_36 (Ht rfl) (i:=0) rfl rfl) (cP 109 1 111 3 rfl (cZ Tryz.call102 (a29 (L:=V + 2 * D + 12 + W) hnf (hfc.le zo) zo zo hns2 hch zo zo) ⟨(Ht rfl),(Ht rfl),trivial⟩) (fV aO rfl (by kernel_rfl) (zF (aJ (aV (ro rfl (Ak (Ht rfl) (Ht rfl)) (gQ Z_40 (Ht rfl) (Ht rfl) rfl (i:=1) rfl (aK rfl) rfl rfl ?_)))))))))))
   refine ro rfl (cQ (cJ 0)) (eX ?_)
   exact bM rfl (fK A_40 Z_40 rfl (i:=1) rfl rfl) (eU rfl)
theorem a0i {z:List Rt} {s c:List (List Rt)}:((z.take (min z.length (Cr z s c).length)).map Rt.q) = Cr z s c:=by
 have h : Cr z s c = z.map Rt.q ∨ Cr z s c = [] := by
  unfold Cr dP
  by_cases a:mdF z s c = 0
  ·rw [if_pos a]
   by_cases b:mdE z s = 0
   ·rw [if_pos b]; exact .inl rfl
   ·rw [if_neg b]; exact .inr rfl
  ·rw [if_neg a]; exact .inr rfl
 rcases h with h | h
 ·rw [h,List.length_map,Nat.min_self,List.take_length]
 ·rw [h]; simp
theorem Qh {z w:List Qi} {s c:List (List Qi)} (hz:bP z 2) (hw:bP w 2) (hs:aS s 2) (hc:aS c 2) (hp:z.all fP = true) (hl8:z.length ≤ 8) (hch:cM c z.length z.length):aS (Bl z w s c) 450000000:=by
 by_cases h:uT z w s = 0
 ·have hl := Jl h
  rw [Bl,dP,if_pos h]
  exact (vZ (L:=2060100) (aS.tab fun i k _ hk=>(Fx (V:=2060000) (D:=2 + 3 * 2 + 2) (Pe hz hw hs hp hl8) (by decide) (pT hz hw (by decide) (by decide) hp zo)).le (by decide)) (hc.le (by decide)) (by decide) (by rw [hch.1]; exact hl8)).le (by decide)
 ·rw [Bl,dP,if_neg h]; exact aS.nil
theorem a2Q {z w : List Qi} {s : List (List Qi)} (hz : bP z 2) (hw : bP w 2) (hs : aS s 2) (hp : z.all fP = true) (hl8 : z.length ≤ 8) (hl : w.length = z.length) (i : Nat) (_ : i < w.length) : Yr (oF z w s) (ek w.length i) w.length (Md 28) :=
 a46 (jV _ _ _ _) (uF (uL hz hw (by decide) (by decide) hp hl) (uK hz hw (by decide) (by decide) hp hl) hs (by decide) (by decide)) (Lg (by decide)) (by decide) (by decide) zo
theorem a0q {z w:List Qi} {s c:List (List Qi)}:cM (Bl z w s c) (vR z w s).length (vR z w s).length:=by
 by_cases h:uT z w s = 0
 ·rw [Bl, vR, dP, dP, if_pos h, if_pos h]
  have:=oO (p:=Cl z w (lD z w s) w.length) (c:=c)
  rwa [(wP z w (lD z w s) w.length).1] at this
 ·rw [Bl,vR,dP,dP,if_neg h,if_neg h]; exact ⟨rfl,fun r hr=>by cases hr⟩
theorem a0S {z w:List Qi} {s:List (List Qi)}:cM (lD z w s) (vR z w s).length (vR z w s).length:=by
 by_cases h:uT z w s = 0
 ·rw [lD,vR,dP,dP,if_pos h,if_pos h]; exact iQ
 ·rw [lD,vR,dP,dP,if_neg h,if_neg h]; exact ⟨rfl,fun r hr=>by cases hr⟩
theorem uP {z w:List Rt} {s c:List (List Rt)}:bB Tryz.prog 7 [Sk z s c,rS w] (aC true):=by
 refine bB.intro Tryz.func7 rfl Tryz.ntmps7 rfl (fun cx=>(ts (rn rfl (fG (Ht rfl)) fun B2=>(ro rfl (cQ cV) (eX (cK (ts (ro rfl (eJ Tryz.isAgg25 Tryz.sizeOf25 (Ht rfl) (i:=0) rfl rfl rfl) (ro rfl (cZ Tryz.call15 a3q ⟨(Ht rfl),trivial⟩) (ro rfl (eT (Ht rfl)) (rm rfl (fQ rfl rfl (eK rfl rfl (Ht rfl) (fun h=>cX (Ht rfl))) (fQ rfl rfl (eK rfl rfl (Ht rfl) (fun h=>dG U_22 (fJ rfl h) aA)) (fQ rfl rfl (eK rfl rfl (Ht rfl) (fun h=>eC (fJ rfl h) (cJ 9))) (ro rfl (gT (Ht rfl) (fun h=>(fJ rfl h))) ?_)))))))))))))))
 refine eX (dQ (Ht rfl) (fun hb=>?_) (fun hb=>?_))
 ·refine ts (ro rfl (cZ Tryz.call16 Fe trivial) (ra rfl (eX ?_)))
  exact fW rfl (eU rfl)
 ·have hf1 : vD z s c = true := by
   apply Decidable.byContradiction; intro h
   simp [h] at hb
  have hwl : w.length ≤ 9 := by
   apply Decidable.byContradiction; intro h
   simp [hf1] at hb; omega
  have hz9:=a3F hf1
  have hm1:=a25 hf1
  obtain ⟨m1,m2,m3⟩:=Wa (z:=z) (s:=s) (c:=c)
  obtain ⟨m4,m5,m6⟩:=a2v (z:=z) (s:=s) (c:=c)
  have mp:=a2w (z:=z) (s:=s) (c:=c)
  have mt:=a0i (z:=z) (s:=s) (c:=c)
  have hw2:bP (w.map Rt.q) 2:=bP.rt
  obtain ⟨X0,hX0⟩:∃ X0,X0 = Cr z s c:=⟨_,rfl⟩
  obtain ⟨X1,hX1⟩:∃ X1,X1 = Yj z s c:=⟨_,rfl⟩
  obtain ⟨XC,hXC⟩:∃ XC,XC = Yi z s c:=⟨_,rfl⟩
  rw [← hX0,← hX1,← hXC] at hm1
  rw [← hX0] at m1 m2 m3 m4 mp mt
  rw [← hX1] at m1 m5
  rw [← hXC] at m2 m6
  have hwx:(w.map Rt.q).length ≤ 1000:=by rw [List.length_map]; omega
  obtain ⟨Yw,hY⟩:∃ Yw,Yw = w.map Rt.q:=⟨_,rfl⟩
  rw [← hY] at hw2 hwx
  have hV:=Pe m4 hw2 m5 mp m3
  have hN:=Dh (w:=Yw) (c:=XC) (V:=2060000) m1 m2 m4 hw2 m5 m6 (by decide) (by decide) (by decide) (by decide) (by decide) (by decide) (by decide) (by decide) mp m3 hwx (fun hl=>Xf m4 hw2 m5 mp m3 hl) (by decide) hV (by decide) (by decide)
  have hM:=Le (w:=Yw) (c:=XC) (V:=2060000) (X:=Cv 28) m1 m2 m4 hw2 m5 m6 (by decide) (by decide) (by decide) (by decide) (by decide) (by decide) (by decide) (by decide) mp m3 hwx (fun hl=>a2Q m4 hw2 m5 mp m3 hl) (fun hl h0=>xR (Xf m4 hw2 m5 mp m3 hl) h0) (by decide) hV (by decide) (by decide)
  have k1:=a0S (z:=X0) (w:=Yw) (s:=X1)
  have k2:=a0q (z:=X0) (w:=Yw) (s:=X1) (c:=XC)
  have k3:bP (vR X0 Yw X1) 2:=Fz hw2
  have k4:(vR X0 Yw X1).length ≤ 1000:=Nat.le_trans (Oo _ _) hwx
  have k5:=Qh m4 hw2 m5 m6 mp m3 m2
  have hIs:=a3r (L:=5000000000) (k3.le (by decide)) (hV.le (by decide)) (k5.le (by decide)) (by decide) (by decide) k1 k2 k4
  have hEq:=Kx (L:=5000000000) (m4.le (by decide)) (m4.le (by decide)) (m5.le (by decide)) (m5.le (by decide)) (by decide) (by decide) m1 m1 zo zo (m6.le (by decide)) (m6.le (by decide)) m2 m2
  rw [Lk,decide_eq_true rfl] at hEq
  have hBack : uT X0 Yw X1 = 0 → bB Tryz.prog 47 [iJ (vR X0 Yw X1) (lD X0 Yw X1) (Bl X0 Yw X1 XC), bN X0] (fH [iJ X0 X1 XC, bD .i64 0]) := fun he => by
   have hl:=Jl he
   obtain ⟨hq,hi,hS,hZ⟩:=rN (n:=X0.length) rfl hl he
   obtain ⟨b1,b2,b3⟩:=Pd (n:=X0.length) rfl hl m1 mp he
   have hS2:cM (lD X0 Yw X1) Yw.length Yw.length:=by rw [← hZ]; rw [hZ] at k1; rw [hZ]; exact k1
   have hnC:Bl X0 Yw X1 XC = kC (Cl X0 Yw (lD X0 Yw X1) X0.length) XC:=by rw [Bl,dP,if_pos he,hl]
   have hC2:cM (Bl X0 Yw X1 XC) Yw.length Yw.length:=by rw [hZ] at k2; exact k2
   have h:=Dh (z:=Yw) (w:=X0) (s:=lD X0 Yw X1) (c:=Bl X0 Yw X1 XC) (L:=2) (M:=2) (K:=2060000) (V:=2) (W:=450000000) (G:=Md 2060026) (X:=Cv 2060026) hS2 hC2 hw2 m4 hV k5 (by decide) (by decide) (by decide) (by decide) (by decide) (by decide) (by decide) (by decide) hq zo zo (fun hl i hi=>a3T (jV _ _ _ _) (uF (uL hw2 m4 (by decide) (by decide) hq hl) (uK hw2 m4 (by decide) (by decide) hq hl) hV (by decide) (by decide)) (Lg (by decide)) (by decide) (by decide) zo) (by decide) (by rw [b2]; exact m5) (by decide) (by decide)
   have e4 : Bl Yw X0 (lD X0 Yw X1) (Bl X0 Yw X1 XC) = XC := by
    rw [Bl,dP,if_pos b1,b2,hnC]
    exact a0s rfl hl m1 m2 mp he
   rw [b1,b2,b3,e4] at h
   rw [hZ]; exact h
  obtain ⟨U0,hU0⟩:∃ U0,U0 = vR X0 Yw X1:=⟨_,rfl⟩
  obtain ⟨U1,hU1⟩:∃ U1,U1 = lD X0 Yw X1:=⟨_,rfl⟩
  obtain ⟨U2,hU2⟩:∃ U2,U2 = Bl X0 Yw X1 XC:=⟨_,rfl⟩
  obtain ⟨E,hE⟩:∃ E,E = uT X0 Yw X1:=⟨_,rfl⟩
  rw [← hU0,← hU1,← hU2,← hE] at hN hM hBack
  rw [← hU0,← hU1,← hU2] at hIs
  rw [hY] at hN hM
  refine cU (ts (ro rfl (eJ Tryz.isAgg25 Tryz.sizeOf25 (Ht rfl) (i:=0) rfl rfl rfl) (ro rfl (cZ Tryz.call17 hm1 ⟨(Ht rfl),trivial⟩) (rm rfl (ro rfl (dK (Ht rfl) rfl) (ro rfl (dK (Ht rfl) rfl) (ro rfl (dK (Ht rfl) rfl) (rn rfl (eW (Ts:=[Is (.slice none 0 0),Is (.slice none 0 0),Is (.slice none 0 0)]) O_34 rfl (fun V=>aW zd (aW zd (aW zd (aG))))) fun B5=>(rn rfl (eW (Ts:=[Is (.slice none 0 0),Is (.slice none 0 0),Is (.slice none 0 0)]) O_40 rfl (fun V=>aW zd (aW zd (aW zd (aG))))) fun B6=>?_)))))))))
  refine gQ Z_34 (Ht rfl) (Ht rfl) rfl (i:=1) rfl (aK rfl) rfl rfl (gQ Z_40 (Ht rfl) (Ht rfl) rfl (i:=2) rfl (aK rfl) rfl rfl (ra rfl (eX (cK (cH [0,1,2] rfl (by decide) (Y.D_start (m:=9) [] (bY (Ei:=[(5,_)]) rfl rfl (bQ (bJ rfl rfl) bX) rfl rfl (dX rfl (eJ A_34 Z_34 (Ht rfl) (i:=1) rfl rfl rfl)) (bY (Ei:=[(1,_)]) rfl rfl (bQ (bJ rfl rfl) bX) rfl rfl (dX rfl (cX (Ht rfl))) (bY (Ei:=[(30,_)]) rfl rfl (bQ (bZ 1 rfl rfl) bX) rfl rfl (dX rfl (cZ Tryz.call48 (qB zo) ⟨(Ht rfl),trivial⟩)) ?_)))))))))
  refine bY (Ei:=[(29,_),(31,_)]) rfl rfl (bQ (bZ 0 rfl rfl) (bQ (bZ 2 rfl rfl) bX)) rfl rfl (dX rfl (cZ Tryz.call47 hN ⟨(Ht rfl),(Ht rfl),trivial⟩)) (bY (Ei:=[(32,_)]) rfl rfl (bQ (bZ 3 rfl rfl) bX) rfl rfl (dX rfl (cX (Ht rfl))) (bY (Ei:=[(28,_)]) rfl rfl (bQ (bZ 4 rfl rfl) bX) rfl rfl (dX rfl (dK (Ht rfl) rfl)) (bY (Ei:=[(28,_)]) rfl rfl (bQ (bZ 4 rfl rfl) bX) rfl rfl (dX rfl (dK (Ht rfl) rfl)) (Y.D_newp (Ei:=[]) (fun bb=>box bb 34 [bN U0,cE U1,cE U2]) 8 rfl rfl rfl bX rfl rfl (by kernel_rfl) (eW (Ts:=[Is (.slice none 0 0),Is (.slice none 0 0),Is (.slice none 0 0)]) O_34 rfl (fun V=>aW zd (aW zd (aW zd (aG))))) ?_))))
  refine Y.D_putN (Ei:=[(33,_)]) 7 rfl rfl rfl rfl rfl rfl (bQ (bZ 5 rfl rfl) bX) (fun bb=>mE Z_34 (Ht rfl) (Ht rfl) rfl (i:=0) rfl (aK rfl) rfl rfl) (Y.D_done aO rfl (by kernel_rfl) rfl (by simp [Y.okP]) rfl rfl (bU (bU (bU (bU (bU (bU (bU (Y.F_newp (fun B8=>Y.F_putN (Y.F_nil ?_)))))))))))
  refine ra rfl (eX (cK (cH [0,1,2,3] rfl (by decide) (Y.D_start (m:=9) [] (bY (Ei:=[(6,_)]) rfl rfl (bQ (bJ rfl rfl) bX) rfl rfl (dX rfl (eJ A_40 Z_40 (Ht rfl) (i:=2) rfl rfl rfl)) (bY (Ei:=[(1,_)]) rfl rfl (bQ (bJ rfl rfl) bX) rfl rfl (dX rfl (cX (Ht rfl))) (bY (Ei:=[(37,_)]) rfl rfl (bQ (bZ 1 rfl rfl) bX) rfl rfl (dX rfl (cZ Tryz.call50 (xL zo) ⟨(Ht rfl),trivial⟩)) (bY (Ei:=[(36,_),(38,_)]) rfl rfl (bQ (bZ 0 rfl rfl) (bQ (bZ 2 rfl rfl) bX)) rfl rfl (dX rfl (cZ Tryz.call49 hM ⟨(Ht rfl),(Ht rfl),trivial⟩)) ?_))))))))
  refine bY (Ei:=[(39,_)]) rfl rfl (bQ (bZ 3 rfl rfl) bX) rfl rfl (dX rfl (cX (Ht rfl))) (bY (Ei:=[(35,_)]) rfl rfl (bQ (bZ 4 rfl rfl) bX) rfl rfl (dX rfl (dK (Ht rfl) rfl)) (bY (Ei:=[(35,_)]) rfl rfl (bQ (bZ 4 rfl rfl) bX) rfl rfl (dX rfl (dK (Ht rfl) rfl)) (Y.D_newp (Ei:=[]) (fun bb=>box bb 40 [qU U0,QM U1,QM U2]) 8 rfl rfl rfl bX rfl rfl (by kernel_rfl) (eW (Ts:=[Is (.slice none 0 0),Is (.slice none 0 0),Is (.slice none 0 0)]) O_40 rfl (fun V=>aW zd (aW zd (aW zd (aG))))) ?_)))
  refine Y.D_putN (Ei:=[(40,_)]) 7 rfl rfl rfl rfl rfl rfl (bQ (bZ 5 rfl rfl) bX) (fun bb=>mE Z_40 (Ht rfl) (Ht rfl) rfl (i:=0) rfl (aK rfl) rfl rfl) (Y.D_done aO rfl (by kernel_rfl) rfl (by simp [Y.okP]) rfl rfl (bU (bU (bU (bU (bU (bU (bU (Y.F_newp (fun B10=>Y.F_putN (Y.F_nil ?_)))))))))))
  refine ra rfl (eX (cK (cK (cH [0,1,2,3,4] rfl (by decide) (cY (rm rfl (ro rfl (eT (Ht rfl)) (rm rfl (fQ rfl rfl (eK rfl rfl (Ht rfl) (fun h=>cX (Ht rfl))) (fQ rfl rfl (eK rfl rfl (Ht rfl) (fun h=>cX (Ht rfl))) (fQ rfl rfl (eK rfl rfl (Ht rfl) (fun h=>kE (fJ rfl h) (fJ rfl h))) (ro rfl (gT (Ht rfl) (fun h=>(fJ rfl h))) (rm rfl (fQ rfl rfl (eK rfl rfl (Ht rfl) (fun h=>eJ A_34 Z_34 (Ht rfl) (i:=3) rfl rfl rfl)) (fQ rfl rfl (eK rfl rfl (Ht rfl) (fun h=>eJ A_40 Z_40 (Ht rfl) (i:=4) rfl rfl rfl)) ?_)))))))))))))))
  refine fQ rfl rfl (eK rfl rfl (Ht rfl) (fun h=>cZ Tryz.call20 hIs ⟨(fJ rfl h),(fJ rfl h),trivial⟩)) (fQ rfl rfl (eK rfl rfl (Ht rfl) (fun h=>eT (fJ rfl h))) (ro rfl (gT (Ht rfl) (fun h=>(fJ rfl h))) (eX (iR (Ht rfl) (by simp) ?_))))
  refine cU (cK (ts (rm rfl (ro rfl (kE (Ht rfl) cV) (eX (dQ (Ht rfl) (fun hc=>?_) (fun hc=>?_)))))))
  ·refine ts (ro rfl (cZ Tryz.call16 Fe trivial) (ra rfl (eX ?_)))
   exact fW rfl (eU rfl)
  ·have hE0 : E = 0 := by simpa using hc
   have hB:=hBack hE0
   rw [show bN X0 = bN ((z.take (min z.length X0.length)).map Rt.q) by rw [mt]] at hB
   refine cU (cK (Y.D_start (m:=18) [] (bY (Ei:=[(8,_)]) rfl rfl (bQ (bJ rfl rfl) bX) rfl rfl (dX rfl (eJ A_34 Z_34 (Ht rfl) (i:=3) rfl rfl rfl)) (bY (Ei:=[(2,_)]) rfl rfl (bQ (bJ rfl rfl) bX) rfl rfl (dX rfl (eZ wG (Ht rfl) rfl)) (bY (Ei:=[(60,_)]) rfl rfl (bQ (bZ 1 rfl rfl) bX) rfl rfl (dX rfl (eY A_22 Z_22 (Ht rfl) (i:=0) rfl rfl)) (bY (Ei:=[(2,_)]) rfl rfl (bQ (bJ rfl rfl) bX) rfl rfl (dX rfl (eZ wG (Ht rfl) rfl)) ?_))))))
   refine bY (Ei:=[(62,_)]) rfl rfl (bQ (bZ 3 rfl rfl) bX) rfl rfl (dX rfl (eY A_22 Z_22 (Ht rfl) (i:=0) rfl rfl)) (bY (Ei:=[(63,_)]) rfl rfl (bQ (bZ 4 rfl rfl) bX) rfl rfl (dX rfl (dG U_22 (Ht rfl) aA)) (bY (Ei:=[(5,_)]) rfl rfl (bQ (bJ rfl rfl) bX) rfl rfl (dX rfl (eJ A_34 Z_34 (Ht rfl) (i:=1) rfl rfl rfl)) (bY (Ei:=[(65,_)]) rfl rfl (bQ (bZ 6 rfl rfl) bX) rfl rfl (dX rfl (cZ Tryz.call51 Hb ⟨(Ht rfl),trivial⟩)) ?_)))
   refine bY (Ei:=[(66,_)]) rfl rfl (bQ (bZ 7 rfl rfl) bX) rfl rfl (dX rfl (cZ K_22 qY ⟨(Ht rfl),trivial⟩)) (bY (Ei:=[(64,_),(67,_)]) rfl rfl (bQ (bZ 5 rfl rfl) (bQ (bZ 8 rfl rfl) bX)) rfl rfl (dX rfl (Ge (Ht rfl) (Ht rfl))) (bY (Ei:=[(61,_),(68,_)]) rfl rfl (bQ (bZ 2 rfl rfl) (bQ (bZ 9 rfl rfl) bX)) rfl rfl (dX rfl (qO (Us:=(z.take (min z.length X0.length)).map Pr) U_22 Z_102 (Ht rfl) (Ht rfl) (fun m e=>by cases e) zo (by simp; omega) (by rw [List.map_take]; rfl))) ?_))
   refine bY (Ei:=[(69,_)]) rfl rfl (bQ (bZ 10 rfl rfl) bX) rfl rfl (dX rfl (cZ Tryz.call48 (qB (l:=z.take (min z.length X0.length)) (by rw [List.length_take]; omega)) ⟨(Ht rfl),trivial⟩)) ?_
   refine bY (Ei:=[(59,_),(70,_)]) rfl rfl (bQ (bZ 0 rfl rfl) (bQ (bZ 11 rfl rfl) bX)) rfl rfl (dX rfl (cZ Tryz.call47 hB ⟨(Ht rfl),(Ht rfl),trivial⟩)) (bY (Ei:=[(71,_)]) rfl rfl (bQ (bZ 12 rfl rfl) bX) rfl rfl (dX rfl (cX (Ht rfl))) (bY (Ei:=[(58,_)]) rfl rfl (bQ (bZ 13 rfl rfl) bX) rfl rfl (dX rfl (dK (Ht rfl) rfl)) (bY (Ei:=[(58,_)]) rfl rfl (bQ (bZ 13 rfl rfl) bX) rfl rfl (dX rfl (dK (Ht rfl) rfl)) ?_)))
   refine Y.D_newp (Ei:=[]) (fun bb=>box bb 34 [bN X0,cE X1,cE XC]) 17 rfl rfl rfl bX rfl rfl (by kernel_rfl) (eW (Ts:=[Is (.slice none 0 0),Is (.slice none 0 0),Is (.slice none 0 0)]) O_34 rfl (fun V=>aW zd (aW zd (aW zd (aG))))) (Y.D_putN (Ei:=[(72,_)]) 16 rfl rfl rfl rfl rfl rfl (bQ (bZ 14 rfl rfl) bX) (fun bb=>mE Z_34 (Ht rfl) (Ht rfl) rfl (i:=0) rfl (aK rfl) rfl rfl) (Y.D_done aO rfl (by kernel_rfl) rfl (by simp [Y.okP]) rfl rfl (bU (bU (bU (bU (bU (bU (bU (bU (bU (bU (bU (bU (bU (bU (bU (bU (Y.F_newp (fun B12=>Y.F_putN (Y.F_nil ?_)))))))))))))))))))))
   refine ra rfl (eX (cK (cH [0,1,2,3,4,5] rfl (by decide) (cY (rm rfl (ro rfl (lH (Ht rfl) cV) (rm rfl (fQ rfl rfl (eK rfl rfl (Ht rfl) (fun h=>eJ A_34 Z_34 (Ht rfl) (i:=5) rfl rfl rfl)) (fQ rfl rfl (eK rfl rfl (Ht rfl) (fun h=>eJ A_34 Z_34 (Ht rfl) (i:=1) rfl rfl rfl)) (fQ rfl rfl (eK rfl rfl (Ht rfl) (fun h=>cZ Tryz.call52 hEq ⟨(fJ rfl h),(fJ rfl h),trivial⟩)) (ro rfl (fE (Ht rfl) (fun h=>(fJ rfl h))) (rm rfl (fQ rfl rfl (eK rfl rfl (Ht rfl) (fun h=>cZ Tryz.call16 Fe trivial)) ?_)))))))))))))
   refine ro rfl (fE (Ht rfl) (fun h=>(fJ rfl h))) (ra rfl (eX ?_))
   exact fW rfl (eU rfl)
end
end Go.Proofs.YteohomnhncjcnaaGreat
