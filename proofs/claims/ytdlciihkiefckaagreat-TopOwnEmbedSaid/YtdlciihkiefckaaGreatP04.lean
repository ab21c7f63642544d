/- What functions of the program compute, proved by walks over their code, and the plain mathematics of it; a part of the proof in the last text. -/
import Derived.Test.YtdlciihkiefckaaGreatP03
set_option linter.unusedVariables false
set_option linter.unusedSimpArgs false
set_option maxRecDepth 100000
set_option maxHeartbeats 4000000
namespace Go.Proofs.YtdlciihkiefckaaGreat
section
open Go Go.RowKit
theorem Tm  : bI Tryz.prog 172 [bC []] (aI true):=by
 refine bI.intro Tryz.func172 rfl Tryz.ntmps172 rfl (fun cx=>(ts (ro rfl (cQ cV) (eJ (ts (rm rfl (ro rfl (cZ Tryz.call226 Bh ⟨(Ht rfl),trivial⟩) (rm rfl (ro rfl (dY (Ht rfl) rfl) (ro rfl (dY (Ht rfl) rfl) (ra rfl (ra rfl (eJ (ts (rm rfl (rm rfl (fZ rfl rfl (eY rfl rfl (Ht rfl) (fun h=>cX (Ht rfl))) (fZ rfl rfl (eY rfl rfl (Ht rfl) (fun h=>cX (Ht rfl))) (fZ rfl rfl (eY rfl rfl (Ht rfl) (fun h=>dU U_26 (fW rfl h) aD)) (fZ rfl rfl (eY rfl rfl (Ht rfl) (fun h=>eH (fW rfl h) (fW rfl h))) ?_))))))))))))))))))))
 refine ro rfl (iU (Ht rfl) (fun h=>(fW rfl h))) (ra rfl (eJ (fK rfl (fJ (fQ rfl) ?_))))
 exact (eD (by simp))
theorem Js {M:List (List Qi)} {n:Nat} (h:bT M n n) (h1:1 ≤ n) (hn:n ≤ 32):bI Tryz.prog 172 [bC M] (aI true):=by
 have hl:=h.1
 refine bI.intro Tryz.func172 rfl Tryz.ntmps172 rfl (fun cx=>(ts (ro rfl (cQ cV) (eJ (ts (rm rfl (ro rfl (cZ Tryz.call226 (yB h h1 hn hn) ⟨(Ht rfl),trivial⟩) (rm rfl (ro rfl (dY (Ht rfl) rfl) (ro rfl (dY (Ht rfl) rfl) (ra rfl (ra rfl (eJ (ts (rm rfl (rm rfl (fZ rfl rfl (eY rfl rfl (Ht rfl) (fun h=>cX (Ht rfl))) (fZ rfl rfl (eY rfl rfl (Ht rfl) (fun h=>cX (Ht rfl))) (fZ rfl rfl (eY rfl rfl (Ht rfl) (fun h=>dU U_26 (fW rfl h) aD)) (fZ rfl rfl (eY rfl rfl (Ht rfl) (fun h=>eH (fW rfl h) (fW rfl h))) ?_))))))))))))))))))))
 refine ro rfl (iU (Ht rfl) (fun h=>(fW rfl h))) (ra rfl (eJ (fK rfl (fJ (fQ rfl) ?_))))
 exact (eD (by simp [hl]))
theorem Tn {M:List (List Qi)} {n:Nat} (h:bT M n n) (hn:n ≤ 32):bI Tryz.prog 172 [bC M] (aI true):=by
 by_cases e:n = 0
 ·subst e
  obtain rfl:=List.length_eq_zero_iff.1 h.1
  exact Tm
 ·exact Js h zo hn
theorem Ez {M bs:List (List Qi)} {n m:Nat} (hM:bT M n m) (hb:∀ b,b ∈ bs → n ≤ b.length) (hn:n ≤ 1000) (hm:m ≤ 1000) (hbl:bs.length ≤ 1000):gM Tryz.prog 195 [bC M,bC bs] [] (Nat) (fun B=>Is (.slice (some ⟨B,0,none⟩) n n)) (fun B=>[oH B 25 60 5 (bN aE (kZ M bs n))]) (fun _=>True):=by
 have hMl:=hM.1
 refine gM.intro Tryz.func195 rfl Tryz.ntmps195 rfl (fun cx Z=>(ts (ro rfl (cQ cV) (eJ (ts (rm rfl (ro rfl (dU U_26 (Ht rfl) aD) (rn rfl (iF (T:=Is (.slice none 0 0)) (i:=Tryz.t25) V_26 nD rfl rfl (Ht rfl) rfl (fun _=>rfl) trivial (by show 24 * _ ≤ _; omega) zo) fun B12=>(ra rfl (eJ (cK (ts (rm rfl (ro rfl (dU U_26 (Ht rfl) aD) (ro rfl (cX (cJ 0)) (eJ (eU (mH 1 rfl (sB (e:=60) (s:=5)) ?_))))))))))))))))))
 refine cB (fun (i : Nat) => i ≤ M.length) (fun (i : Nat) => M.length - i) (fun (i : Nat) => [(0, bC M), (1, bC bs), (5, Is (.slice (some ⟨B12, 0, none⟩) M.length M.length)), (13, bC M), (14, NT .i64 M.length), (15, NT .i64 i)]) (fun (i : Nat) => [Z, oH B12 25 60 5 (bN aE (kR (Jw M bs) [] M.length i))]) 0 (Nat.zero_le _)
  (zS rfl) (aU (fun _ _ _ h=>h) (aU (cA (by rw [← iO,kX]; exact mB aE M.length)) aY)) (fun i hi=>?_)
 refine ts (ro rfl (gJ (Ht rfl) (Ht rfl)) (eJ (cK (dQ (Ht rfl) (fun hd0=>?_) (fun hd0=>?_)))))
 ·simp only [decide_eq_true_eq] at hd0
  have hrl:(dS M i).length = m:=hM.row zo
  have hrl2:(M.getD i []).length = m:=hrl
  refine qJ 1 (i) rfl (kP hd0) (fun v0=>(cU (cK (eU (ts (rm rfl (ro rfl (dZ U_26 Z_25 (Ht rfl) (Ht rfl) rfl (eX (eQ (d:=[]) hd0))) (ro rfl (dJ A_25 Z_25 (Ht rfl)) (ra rfl (ra rfl (eJ (ts (rm rfl (rm rfl (rm rfl (jZ Tryz.call109 (Jm (l:=M.getD i []) zo) ⟨(Ht rfl),trivial⟩ rfl (fun v1 _=>(ro rfl (gX U_26 Z_25 (Ht rfl) (Ht rfl) rfl zo (by rw [Nat.mul_one,Nat.zero_add])) ?_))))))))))))))))))
  refine sX Z_25 (Ht rfl) (Ht rfl) (by simp only [bN,List.length_map,dD]; omega) (j:=1) (l:=3) rfl rfl rfl ?_
  refine eJ (ts (rm rfl (ro rfl (dU U_26 (Ht rfl) aD) (ro rfl (cX (cJ 0)) (eJ (eU (bL [0,1,3] rfl (by decide) ?_)))))))
  refine gN (fun (j : Nat) (v : Value) => j ≤ bs.length) (fun (j : Nat) (v : Value) => bs.length - j) (fun (j : Nat) (v : Value) => [(0, bC M), (1, bC bs), (5, Is (.slice (some ⟨B12, 0, none⟩) M.length M.length)), (6, NT .i64 i), (13, bC M), (14, NT .i64 M.length), (15, NT .i64 i), (25, bC bs), (26, NT .i64 bs.length), (27, NT .i64 j)]) (fun (j : Nat) (v : Value) => [Z, Ky B12 25 60 5 (bN aE (kR (Jw M bs) [] M.length i)) i v, bF 60 5 v ((dS M i ++ (bs.take j).map fun b => gv b i).map aE)]) 0 v1 (Nat.zero_le _)
   (zS rfl) (aU (fun _ _ _ h=>h) (aU (fun _ _ _ h=>h) (aU (aO (by simp)) aY))) (fun j v hj=>?_)
  refine ts (ro rfl (gJ (Ht rfl) (Ht rfl)) (eJ (cK (dQ (Ht rfl) (fun he=>?_) (fun he=>?_)))))
  ·simp only [decide_eq_true_eq] at he
   have hbj:i < (bs.getD j []).length:=by have h1:=hb (bs.getD j []) (by rw [Hj he]; exact List.getElem_mem _); omega
   refine cU (cK (eU (ts (ro rfl (dZ U_26 Z_25 (Ht rfl) (Ht rfl) rfl (eX (eQ (d:=[]) he))) (ro rfl (dJ A_25 Z_25 (Ht rfl)) (ra rfl (eJ (Y.D_startA (m:=12) [] 11 2 rfl rfl (bY (Ei:=[(5,_)]) rfl rfl (bQ (bJ rfl rfl) bX) rfl rfl (dX rfl (cX (Ht rfl))) (bY (Ei:=[(6,_)]) rfl rfl (bQ (bJ rfl rfl) bX) rfl rfl (dX rfl (cX (Ht rfl))) (bY (Ei:=[(5,_)]) rfl rfl (bQ (bJ rfl rfl) bX) rfl rfl (dX rfl (cX (Ht rfl))) ?_)))))))))))
   refine bY (Ei:=[(6,_)]) rfl rfl (bQ (bJ rfl rfl) bX) rfl rfl (dX rfl (cX (Ht rfl))) (bY (Ei:=[(33,_),(34,_)]) rfl rfl (bQ (bZ 2 rfl rfl) (bQ (bZ 3 rfl rfl) bX)) rfl rfl (dX rfl (gX U_26 Z_25 (Ht rfl) (Ht rfl) rfl zo (by rw [Nat.mul_one,Nat.zero_add]))) ?_)
   refine bY (Ei:=[(35,_)]) rfl rfl (bQ (bZ 4 rfl rfl) bX) rfl rfl (dX rfl (jY A_25 Z_25 (Ht rfl) (j:=1) rfl)) (bY (Ei:=[(9,_)]) rfl rfl (bQ (bJ rfl rfl) bX) rfl rfl (dX rfl (cX (Ht rfl))) (bY (Ei:=[(6,_)]) rfl rfl (bQ (bJ rfl rfl) bX) rfl rfl (dX rfl (cX (Ht rfl))) (bY (Ei:=[(37,_),(38,_)]) rfl rfl (bQ (bZ 6 rfl rfl) (bQ (bZ 7 rfl rfl) bX)) rfl rfl (dX rfl (dZ U_25 Z_60 (Ht rfl) (Ht rfl) rfl (eX (eQ (d:=Qi.zero) hbj)))) ?_)))
   refine bY (Ei:=[(39,_)]) rfl rfl (bQ (bZ 8 rfl rfl) bX) rfl rfl (dX rfl (dJ A_60 Z_60 (Ht rfl))) (bY (Ei:=[(40,_)]) rfl rfl (bQ (bZ 9 rfl rfl) bX) rfl rfl (dX rfl (cI (xs:=[.tmp 40]) U_25 Z_60 O_60 (cW (Ht rfl) cG) rfl rfl rfl)) (Y.D_app (Ei:=[(36,_),(41,_)]) rfl rfl rfl rfl (bQ (bZ 5 rfl rfl) (bQ (bZ 10 rfl rfl) bX)) rfl (pS (inf:=Tryz.t60) jK iB rfl rfl rfl (Ht rfl) (Ht rfl) (by simp) (fun T hT=>by simp at hT; subst hT; exact El.ag rfl) (by show _ * 88 ≤ _; simp only [List.length_map,List.length_append,List.length_take,List.length_cons,List.length_nil]; omega) (by simp only [List.length_map,List.length_append,List.length_take,List.length_cons,List.length_nil]; omega)) ?_))
   refine Y.D_done aT rfl (by kernel_rfl) rfl (by simp [Y.okP]) rfl rfl (bU (bU (bU (bU (bU (bU (bU (bU (bU (bU (bU (Y.F_app (fun v2=>Y.F_nil ?_)))))))))))))
   refine ro rfl (gX U_26 Z_25 (Ht rfl) (Ht rfl) rfl zo (by rw [Nat.mul_one,Nat.zero_add])) ?_
   refine sX Z_25 (Ht rfl) (Ht rfl) (by simp only [bN,List.length_map,dD]; omega) (j:=1) (l:=3) rfl rfl rfl ?_
   refine eJ (bD (cY (ro rfl (dW (Ht rfl) (cJ 1) z6) (rm rfl (eJ (bL [0,1,3] rfl (by decide) (gQ (j + 1,v2) he (by dsimp only; omega) (zS rfl) (aU (fun _ _ _ h=>h) (aU (fun _ _ _ h=>h) (aU (aO ((Bc aE _ (gv (bs.getD j []) i)).trans (congrArg _ (a1H he)))) aY))))))))))
  ·simp only [decide_eq_false_iff_not] at he
   obtain rfl:bs.length = j:=Nat.le_antisymm zo hj
   refine gG rfl (bD (fR 1 2 rfl rfl (by decide) (by simp only [bN,List.length_map,dD]; omega) ?_))
   refine cY (ro rfl (dW (Ht rfl) (cJ 1) z6) (rm rfl (eJ (bL [0,1] rfl (by decide) (gQ (i + 1) hd0 zo (zS rfl) (aU (fun _ _ _ h=>h) (aU (cA (by rw [List.take_length,gS,← jI (f:=Jw M bs)])) aY)))))))
 ·simp only [decide_eq_false_iff_not] at hd0
  obtain rfl:i = M.length:=Nat.le_antisymm hi zo
  subst hMl
  refine gG rfl (ts (rm rfl (ra rfl (eJ ?_))))
  exact jC B12 trivial [0,1] ⟨⟨_,rfl,fun _ _ _ h=>h⟩,⟨_,rfl,(cA (by rw [jR]; rfl))⟩,trivial⟩ (by decide) (sK rfl (fQ rfl))
end
section
open Go Go.RowKit
abbrev ek (n k:Nat):List Qi:=(tN n).getD k []
theorem a4x {n k L:Nat} (h:1 ≤ L):bR (ek n k) L:=(Hq h).row k
def Nq (M:List (List Qi)) (n:Nat):Int:=kF (fun k=>kY M (ek n k) n) n
def Kn (M:List (List Qi)) (n:Nat):List (List Qi):=tab n fun r=>tab n fun j=>gv (lP M (ek n j) n) r
theorem kV {α:Type} {n i:Nat} {f:Nat → α} {d:α} (h:i < n):(tab n f).getD i d = f i:=by simp [List.getD,cP h]
theorem Wg {T : Ty} {s : Nat} : ∀ vs V, eI [T, Is (.slice none 0 0)] vs V → eI [T, kB s []] vs V
 | [_,_],_,⟨h1,h2,h3⟩=>⟨h1,jT _ _ h2,h3⟩
 | [],_,h=>h.elim
 | [_],_,h=>h.2.elim
 | _ :: _ :: _ :: _,_,h=>h.2.2.elim
theorem gM.arg {P : Program} {f : FuncId} {Ts Ts' : List Ty} {As : Hp} {γ : Type} {U : γ → Ty} {As' : γ → Hp} {Q : γ → Prop} (h : gM P f Ts As γ U As' Q) (i : ∀ vs V, eI Ts' vs V → eI Ts vs V) : gM P f Ts' As γ U As' Q :=
 fun cx Z vs V w h1 h2=>h cx Z vs V w h1 (i _ _ h2)
end
section
open Go Go.RowKit
section
variable {P:Program} {R:iK} {cx:Cx} {n:Nat} {k:List It} {E:dC} {H:Hp}
theorem Bb (i l off : Nat) {B : Nat} {BT : TypeId} {Us : List Ty} {v : Value} {A : SA} {T : Ty} (hB : H[i]? = some (box B BT Us)) (hU : Us[off]? = some (Is v)) (hL : H[l]? = some A) (hne : i ≠ l) (hT : ∀ S V, A.h S V V → T.p v V)
  (h:Tr P R cx n k E ((H.set l SA.emp).set i (box B BT (Us.set off T)))):Tr P R cx n k E H:=fun a w ⟨V,hi,hs⟩=>by
 obtain ⟨V',S,hle,hi',hA⟩:=hi.freeze hL
 have hT:=hT S V' hA
 refine h a w ⟨V',hi'.withHH ?_,hs.mono hle⟩
 obtain ⟨F,h1,h2⟩:=hi'.hp
 have hB':(H.set l SA.emp)[i]? = some (box B BT Us):=by rw [List.getElem?_set_ne (Ne.symm hne)]; exact hB
 have hil:=(List.getElem?_eq_some_iff.1 hB').1
 refine ⟨F,fun q A hq=>?_,fun q r b hq hr=>h2 q r b (by simpa using hq) (by simpa using hr)⟩
 by_cases c:i = q
 ·subst c
  rw [List.getElem?_set_self hil] at hq
  obtain rfl:=Option.some.inj hq
  obtain ⟨⟨k1,cs,k2,k3⟩,k4⟩:=h1 i _ hB'
  obtain ⟨u,u1,u2⟩:=k3.get hU
  obtain rfl:u = v:=u2
  have hset : cs.set off u = cs := by
   apply List.ext_getElem?
   intro j
   by_cases cj:off = j
   ·subst cj; rw [List.getElem?_set_self (List.getElem?_eq_some_iff.1 u1).1,u1]
   ·rw [List.getElem?_set_ne cj]
  refine ⟨⟨k1,cs,k2,?_⟩,k4⟩
  have:=k3.set off (v:=u) hT (k3.pl u (List.mem_of_getElem? u1))
  rwa [hset] at this
 ·rw [List.getElem?_set_ne c] at hq
  exact h1 q A hq
theorem a5Y {B e l : Nat} {BT : TypeId} {F : Qi → Ty} {q : Value → Prop} {M : List (List Qi)} (hl : l = M.length) : ∀ S V, (lT q B BT e 5 (bN F M)).h S V V → (kB 1 (M.map fun r => kB 5 (r.map F))).p (.slice (some ⟨B, 0, none⟩) l l) V := fun S V h =>
 kG (s:=5) (M:=M) hl _ S V rfl h
end
def skp (p i:Nat):Nat:=if i < p then i else i + 1
abbrev eT (l:List Nat):Ty:=kB 1 (l.map (NT .i64))
def Tt (p i:Nat):Nat:=if i ≤ p then i else i - 1
theorem a1F {p n:Nat} (h:p < n):Tt p n = n - 1:=by unfold Tt; split <;> omega
end
section
open Go Go.RowKit
def uT (x : Qi) (l m : List Qi) : Nat → Qi
 | 0=>x
 | k + 1=>uT x l m k + gv l k * gv m k
theorem Kc {x : Qi} {l m : List Qi} {L M : Nat} (hx : aH x M) (hl : bR l L) (hm : bR m L) (hL : 1 ≤ L) : ∀ k, aH (uT x l m k) (M + k * (2 * L + 2))
 | 0=>hx.le zo
 | k + 1 => by
  haveI f1:=Kc hx hl hm hL k
  haveI f2:=hl.get hL k
  haveI f3:=hm.get hL k
  have:aH (uT x l m (k + 1)) (M + k * (2 * L + 2) + (L + L + 1) + 1):=by unfold uT; infer_instance
  exact this.le (by rw [Nat.add_mul]; omega)
end
section
open Go Go.RowKit
namespace Qi
def npow' (x : Qi) : Nat → Qi
 | 0=>Qi.ofInt 1
 | k + 1=>npow' x k * x
theorem one_mul2 (x:Qi):Qi.ofInt 1 * x = x:=ext' (by show ((1:Int):Rat) * x.re - 0 * x.im = x.re; grind) (by show ((1:Int):Rat) * x.im + 0 * x.re = x.im; grind)
theorem mul_one2 (x:Qi):x * Qi.ofInt 1 = x:=by rw [mul_comm',one_mul2]
end Qi
instance qiField:Lean.Grind.CommRing Qi where
 natCast:=⟨fun n=>Qi.ofInt n⟩
 ofNat n:=⟨Qi.ofInt n⟩
 nsmul:=⟨fun n x=>Qi.ofInt n * x⟩
 npow:=⟨Qi.npow'⟩
 add_zero:=Qi.add_zero'
 add_comm:=Qi.add_comm'
 add_assoc:=Qi.add_assoc'
 mul_assoc:=Qi.mul_assoc'
 mul_comm:=Qi.mul_comm'
 mul_one:=Qi.mul_one2
 one_mul:=Qi.one_mul2
 left_distrib:=Qi.mul_add'
 right_distrib:=Qi.add_mul'
 zero_mul:=Qi.zero_mul'
 mul_zero:=Qi.mul_zero'
 pow_zero _:=rfl
 pow_succ _ _:=rfl
 ofNat_succ n:=Qi.ext' (by show (((n + 1:Nat):Int):Rat) = ((n:Int):Rat) + ((1:Int):Rat); rw [Int.natCast_add,Rat.intCast_add]; rfl) (by show (0:Rat) = 0 + 0; grind)
 intCast:=⟨Qi.ofInt⟩
 zsmul:=⟨fun n x=>Qi.ofInt n * x⟩
 neg_add_cancel x:=Qi.ext' (by show -x.re + x.re = ((0:Int):Rat); grind) (by show -x.im + x.im = 0; grind)
 sub_eq_add_neg:=Qi.sub_def
 neg_zsmul i x:=Qi.ext' (by show ((-i:Int):Rat) * x.re - 0 * x.im = -((i:Rat) * x.re - 0 * x.im); rw [Rat.intCast_neg]; grind) (by show ((-i:Int):Rat) * x.im + 0 * x.re = -((i:Rat) * x.im + 0 * x.re); rw [Rat.intCast_neg]; grind)
 intCast_neg i:=Qi.ext' (Rat.intCast_neg i) (by show (0:Rat) = -0; grind)
theorem q0:Qi.zero = 0:=rfl
theorem q1:Qi.ofInt 1 = 1:=rfl
theorem nF {x:Qi} (h:x ≠ 0):x * Qi.inv x = 1:=by
 have hn:x.nrm ≠ 0:=fun e=>h (Qi.nrm_zero.1 e)
 have e:x.re * x.re + x.im * x.im = x.nrm:=rfl
 refine Qi.ext' ?_ ?_
 ·show x.re * (x.re / x.nrm) - x.im * (-x.im / x.nrm) = ((1 : Int) : Rat)
  grind
 ·show x.re * (-x.im / x.nrm) + x.im * (x.re / x.nrm) = 0
  grind
theorem rV {x y:Qi} (h:y ≠ 0):x / y * y = x:=by
 rw [Qi.div_def]
 have:=nF h
 grind
theorem Yu {x y z:Qi} (h:y ≠ 0) (e:x = z * y):x / y = z:=by
 have h1:=rV (x:=x) h
 have h2:=nF h
 grind
theorem jS {x y:Qi} (h:x * y = 0):x = 0 ∨ y = 0:=by
 by_cases e:x = 0
 ·exact .inl e
 ·right; have:=nF e; grind
end
section
open Go Go.RowKit
theorem rN (m:Nat) (f:Qi) (a b:Nat → Qi):aF m (fun k=>a k - f * b k) = aF m a - f * aF m b:=by
 induction m with
 | zero=>simp only [aF,q0]; grind
 | succ m ih=>simp only [aF,ih]; grind
theorem cE {m i:Nat} (hi:i < m) {f:Nat → Qi} (h:∀ k,k < m → k ≠ i → f k = 0):aF m f = f i:=by
 induction m with
 | zero=>omega
 | succ m ih =>
  by_cases e:i = m
  ·subst e
   have : aF i f = 0 := by
    rw [← q0,← yX i]
    exact aA fun k hk=>h k zo zo
   simp only [aF,this]; grind
  ·have h1 := ih zo (fun k hk => h k zo)
   have h2:=h m zo zo
   simp only [aF,h1,h2]; grind
theorem cL {m:Nat} {f:Nat → Qi} (h:∀ k,k < m → f k = 0):aF m f = 0:=by
 rw [← q0,← yX m]; exact aA h
def Ker (M:List (List Qi)) (n m:Nat) (x:Nat → Qi):Prop:=∀ i,i < n → aF m (fun k=>gm M i k * x k) = 0
def zH (rr rc:List Qi) (c k:Nat):List Qi:=tab rr.length fun j=>if c ≤ j ∧ j < k then gv rr j - gv rr c / gv rc c * gv rc j else gv rr j
def redJ (M:List (List Qi)) (c r:Nat):List (List Qi):=tab M.length fun i=>if i ≠ c ∧ i < r then zH (dS M i) (dS M c) c (dS M i).length else dS M i
def Ue (M : List (List Qi)) : Nat → Option (List (List Qi))
 | 0=>some M
 | c + 1=>(Ue M c).bind fun A=>if pv A c M.length = M.length then none else some (redJ (swp [] A (pv A c M.length) c) c M.length)
theorem a0r (M:List (List Qi)) (c r:Nat):(redJ M c r).length = M.length:=aC _ _
theorem Uw (rr rc:List Qi) (c k:Nat):(zH rr rc c k).length = rr.length:=aC _ _
theorem a0s {M:List (List Qi)} {c r i:Nat} (hi:i < M.length):dS (redJ M c r) i = if i ≠ c ∧ i < r then zH (dS M i) (dS M c) c (dS M i).length else dS M i:=by
 simp only [dS,redJ,List.getD]; rw [cP hi]; rfl
theorem a0t {M:List (List Qi)} {n m c r:Nat} (h:bT M n m):bT (redJ M c r) n m:=by
 refine ⟨(a0r _ _ _).trans h.1,fun x hx=>?_⟩
 obtain ⟨i,hi,rfl⟩:=eS.1 hx
 have hr:=h.row (i:=i) (by rw [← h.1]; exact hi)
 show (if i ≠ c ∧ i < r then zH (dS M i) (dS M c) c (dS M i).length else dS M i).length = m
 split
 ·rw [Uw]; exact hr
 ·exact hr
theorem Ao {M:List (List Qi)} {n m c i j:Nat} (h:bT M n m) (hi:i < n) (hj:j < m):gm (redJ M c n) i j = if i ≠ c ∧ c ≤ j then gm M i j - gm M i c / gm M c c * gm M c j else gm M i j:=by
 have hr:(dS M i).length = m:=h.row hi
 show gv (dS (redJ M c n) i) j = _
 rw [a0s (by rw [h.1]; exact hi)]
 by_cases e:i = c
 ·rw [if_neg (fun k=>k.1 e),if_neg (fun k=>k.1 e)]
 ·rw [if_pos ⟨e, hi⟩, zH, iN zo]
  by_cases e2:c ≤ j
  ·rw [if_pos ⟨e2,by omega⟩,if_pos ⟨e,e2⟩]
  ·rw [if_neg (fun k=>e2 k.1),if_neg (fun k=>e2 k.2)]
theorem Pa {M:List (List Qi)} {p c i:Nat} (hp:p < M.length) (hc:c < M.length):dS (swp [] M p c) i = dS M (if i = c then p else if i = p then c else i):=by
 simp only [dS,swp,List.getD]
 by_cases e:i = c
 ·subst e; rw [List.getElem?_set_self (by simpa using hc),if_pos rfl]; rfl
 ·rw [List.getElem?_set_ne (Ne.symm e), if_neg e]
  by_cases e2:i = p
  ·subst e2; rw [List.getElem?_set_self hp,if_pos rfl]; rfl
  ·rw [List.getElem?_set_ne (Ne.symm e2),if_neg e2]
theorem a2b {M:List (List Qi)} {n m p c:Nat} {x:Nat → Qi} (hl:M.length = n) (hp:p < n) (hc:c < n):Ker (swp [] M p c) n m x ↔ Ker M n m x:=by
 have key : ∀ i, gm (swp [] M p c) i = gm M (if i = c then p else if i = p then c else i) := fun i => by
  funext j; exact congrArg (fun r=>gv r j) (Pa zo zo)
 constructor
 ·intro h i hi
  have h1:=h (if i = c then p else if i = p then c else i) (by split <;> (try split) <;> omega)
  rw [key] at h1
  have e : (if (if i = c then p else if i = p then c else i) = c then p else if (if i = c then p else if i = p then c else i) = p then c else (if i = c then p else if i = p then c else i)) = i := by
   by_cases e1:i = c
   ·subst e1; rw [if_pos rfl]
    by_cases e2:p = i
    ·rw [if_pos e2]; exact e2
    ·rw [if_neg e2,if_pos rfl]
   ·rw [if_neg e1]
    by_cases e2:i = p
    ·subst e2; rw [if_pos rfl,if_pos rfl]
    ·rw [if_neg e2,if_neg e1,if_neg e2]
  rw [e] at h1; exact h1
 ·intro h i hi
  rw [key]; exact h _ (by split <;> (try split) <;> omega)
theorem a2a {M:List (List Qi)} {n m c:Nat} {x:Nat → Qi} (hs:bT M n m) (hc:c < n) (hz:∀ j,j < c → gm M c j = 0):Ker (redJ M c n) n m x ↔ Ker M n m x:=by
 have key : ∀ i, i < n → i ≠ c → aF m (fun k => gm (redJ M c n) i k * x k) = aF m (fun k => gm M i k * x k) - gm M i c / gm M c c * aF m (fun k => gm M c k * x k) := fun i hi e => by
  rw [← rN]
  refine aA fun k hk=>?_
  rw [Ao hs hi hk]
  by_cases e2:c ≤ k
  ·rw [if_pos ⟨e,e2⟩]; grind
  ·rw [if_neg (fun h=>e2 h.2),hz k zo]; grind
 have keyc:aF m (fun k=>gm (redJ M c n) c k * x k) = aF m (fun k=>gm M c k * x k):=aA fun k hk=>by rw [Ao hs hc hk,if_neg (fun h=>h.1 rfl)]
 constructor
 ·intro h i hi
  have h0:=h c hc
  rw [keyc] at h0
  by_cases e:i = c
  ·rw [e]; exact h0
  ·have h1 := h i hi
   rw [key i hi e,h0] at h1
   grind
 ·intro h i hi
  have h0:=h c hc
  by_cases e:i = c
  ·rw [e,keyc]; exact h0
  ·rw [key i hi e,h0,h i hi]; grind
structure GJ (M A:List (List Qi)) (n m c:Nat):Prop where
 sh:bT A n m
 ker:∀ x,Ker A n m x ↔ Ker M n m x
 off:∀ j,j < c → ∀ i,i < n → i ≠ j → gm A i j = 0
 dg:∀ j,j < c → gm A j j ≠ 0
theorem GJ.next {M A:List (List Qi)} {n m c p:Nat} (h:GJ M A n m c) (hc:c < n) (hnm:n ≤ m) (hcp:c ≤ p) (hp:p < n) (hz:gm A p c ≠ 0):GJ M (redJ (swp [] A p c) c n) n m (c + 1):=by
 have hs:bT (swp [] A p c) n m:=Av h.sh hp hc
 have hl:=h.sh.1
 have key : ∀ i, gm (swp [] A p c) i = gm A (if i = c then p else if i = p then c else i) := fun i => by
  funext j; exact congrArg (fun r=>gv r j) (Pa zo zo)
 have hcc:gm (swp [] A p c) c c ≠ 0:=by rw [key,if_pos rfl]; exact hz
 have hoff : ∀ j, j < c → ∀ i, i < n → i ≠ j → gm (swp [] A p c) i j = 0 := fun j hj i hi hij => by
  rw [key]
  by_cases e1:i = c
  ·rw [if_pos e1]; exact h.off j hj p hp zo
  ·rw [if_neg e1]
   by_cases e2:i = p
   ·rw [if_pos e2]; exact h.off j hj c hc zo
   ·rw [if_neg e2]; exact h.off j hj i hi hij
 refine ⟨a0t hs,fun x=>(a2a hs hc (fun j hj=>hoff j hj c hc zo)).trans ((a2b hl hp hc).trans (h.ker x)),fun j hj i hi hij=>?_,fun j hj=>?_⟩
 ·rw [Ao hs hi zo]
  by_cases e:j = c
  ·subst e
   rw [if_pos ⟨hij,Nat.le_refl _⟩]
   have:=rV (x:=gm (swp [] A p j) i j) hcc
   grind
  ·rw [if_neg (fun k=>by omega)]; exact hoff j zo i hi hij
 ·rw [Ao hs zo zo]
  by_cases e:j = c
  ·subst e; rw [if_neg (fun k=>k.1 rfl)]; exact hcc
  ·rw [if_neg (fun k=>by omega),key,if_neg zo,if_neg zo]; exact h.dg j zo
theorem Zc {M : List (List Qi)} {n m : Nat} (hs : bT M n m) (hnm : n ≤ m) : ∀ {c : Nat} {A : List (List Qi)}, c ≤ n → Ue M c = some A → GJ M A n m c
 | 0, A, _, h => by
  obtain rfl:=Option.some.inj h
  exact ⟨hs,fun _=>Iff.rfl,fun j hj=>by omega,fun j hj=>by omega⟩
 | c + 1, A, hc, h => by
  simp only [Ue] at h
  obtain ⟨B,h1,h2⟩:=Option.bind_eq_some_iff.1 h
  split at h2
  ·cases h2
  ·rename_i e
   obtain rfl:=Option.some.inj h2
   have ih:=Zc hs hnm (c:=c) zo h1
   rw [hs.1] at e ⊢
   obtain ⟨_,i2,i3,i4⟩:=pL (M:=B) (c:=c) (n:=n) zo
   exact ih.next zo hnm i2 zo (i4 zo)
theorem a4A {l:List Qi} {z:Qi} {k:Nat} (h:k < l.length):gv (l ++ [z]) k = gv l k:=by
 simp only [gv,List.getD]; rw [List.getElem?_append_left h]
theorem a4B {l:List Qi} {z:Qi}:gv (l ++ [z]) l.length = z:=by
 simp [gv,List.getD]
theorem a5Q {M:List (List Qi)} {b:List Qi} {n i:Nat} (h:bT M n n) (hi:i < n):(∀ k,k < n → gm (kZ M [b] n) i k = gm M i k) ∧ gm (kZ M [b] n) i n = gv b i:=by
 obtain ⟨r,hr⟩:∃ r,r = dS M i:=⟨_,rfl⟩
 have hl:r.length = n:=by rw [hr]; exact h.row hi
 have e : dS (kZ M [b] n) i = r ++ [gv b i] := by
  rw [hr]; simp only [dS,kZ,List.getD]; rw [cP hi]; rfl
 refine ⟨fun k hk=>?_,?_⟩
 ·show gv (dS (kZ M [b] n) i) k = gv (dS M i) k
  rw [e,← hr,a4A zo]
 ·show gv (dS (kZ M [b] n) i) n = gv b i
  rw [e,← hl,a4B]
theorem Nm {M:List (List Qi)} {b:List Qi} {n i:Nat} (h:bT M n n) (hi:i < n) (x:Nat → Qi):aF (n + 1) (fun k=>gm (kZ M [b] n) i k * x k) = aF n (fun k=>gm M i k * x k) + gv b i * x n:=by
 obtain ⟨h1,h2⟩:=a5Q (b:=b) h hi
 simp only [aF,h2]
 rw [aA (fun k hk=>by rw [h1 k hk])]
theorem Uv {rr rc : List Qi} {L c k : Nat} (h1 : bR rr L) (h2 : bR rc L) (hL : 1 ≤ L) (hp : gv rc c ≠ Qi.zero) : bR (zH rr rc c k) (6 * L + 4) := bR.tab fun j _ => by
 split
 ·exact Qp h1 h2 hL hp
 ·exact (h1.get hL j).le zo
theorem a0q {M : List (List Qi)} {L c r : Nat} (h : aS M L) (hL : 1 ≤ L) (hp : gm M c c ≠ Qi.zero) : aS (redJ M c r) (6 * L + 4) := fun x hx => by
 obtain ⟨i,hi,rfl⟩:=eS.1 hx
 show bR (if i ≠ c ∧ i < r then zH (dS M i) (dS M c) c (dS M i).length else dS M i) _
 split
 ·exact Uv (h.row i) (h.row c) hL hp
 ·exact (h.row i).le zo
theorem Zb {M : List (List Qi)} {n m L : Nat} (hs : bT M n m) (hnm : n ≤ m) (h : aS M L) (hL : 1 ≤ L) : ∀ {c : Nat} {A : List (List Qi)}, c ≤ n → Ue M c = some A → aS A (nP L c)
 | 0,A,_,e=>by obtain rfl:=Option.some.inj e; exact h
 | c + 1, A, hc, e => by
  simp only [Ue] at e
  obtain ⟨B,h1,h2⟩:=Option.bind_eq_some_iff.1 e
  split at h2
  ·cases h2
  ·rename_i e3
   obtain rfl:=Option.some.inj h2
   have ih:=Zb hs hnm h hL (c:=c) zo h1
   have hsB:=(Zc hs hnm (c:=c) zo h1).sh
   rw [hs.1] at e3 ⊢
   obtain ⟨_,i2,i3,i4⟩:=pL (M:=B) (c:=c) (n:=n) zo
   refine a0q (Iz ih) (Nat.le_trans hL (uC L c)) ?_
   show gv (dS (swp [] _ _ c) c) c ≠ _
   rw [Dj (by rw [hsB.1]; omega)]
   exact i4 zo
end
section
open Go Go.RowKit
def sT (a b:List (List Qi)) (x y i:Nat):List Qi:=tab (x + y) fun j=>if i < x then (if j < x then gm a i j else Qi.zero) else (if x ≤ j then gm b (i - x) (j - x) else Qi.zero)
def kO (a b:List (List Qi)) (x y:Nat):List (List Qi):=tab (x + y) (sT a b x y)
theorem mC (a b:List (List Qi)) (x y:Nat):bT (kO a b x y) (x + y) (x + y):=⟨aC _ _,fun r hr=>by obtain ⟨i,_,rfl⟩:=eS.1 hr; exact aC _ _⟩
theorem Lz {a b : List (List Qi)} {x y L : Nat} (ha : aS a L) (hb : aS b L) (hL : 1 ≤ L) : aS (kO a b x y) L := fun r hr => by
 obtain ⟨i,_,rfl⟩:=eS.1 hr
 refine bR.tab fun j _=>?_
 split
 ·split
  ·exact ha.get hL _ _
  ·exact aH.zero hL
 ·split
  ·exact hb.get hL _ _
  ·exact aH.zero hL
theorem iE {a b:List (List Qi)} {x y i j:Nat} (hi:i < x + y) (hj:j < x + y):gm (kO a b x y) i j = if i < x then (if j < x then gm a i j else Qi.zero) else (if x ≤ j then gm b (i - x) (j - x) else Qi.zero):=by
 have e:(kO a b x y).getD i [] = sT a b x y i:=by rw [kO,List.getD,cP hi]; rfl
 show gv ((kO a b x y).getD i []) j = _
 rw [e,sT,iN hj]
end
section
open Go Go.RowKit
abbrev pA (ps:List (Nat × Nat)) (k:Nat):Nat:=(ps.getD k (0,0)).1
abbrev pB (ps:List (Nat × Nat)) (k:Nat):Nat:=(ps.getD k (0,0)).2
end
section
open Go Go.RowKit
theorem vT {l:List Qi} {t k:Nat} {v:Qi} (ht:t < l.length):gv (l.set t v) k = if k = t then v else gv l k:=by
 simp only [gv,List.getD]
 by_cases e:k = t
 ·subst e; rw [if_pos rfl,List.getElem?_set_self ht]; rfl
 ·rw [if_neg e,List.getElem?_set_ne (Ne.symm e)]
end
section
open Go Go.RowKit
def wC (A:List (List Qi)) (c i j:Nat):Qi:=if j < c ∧ j < i then 0 else gm A i j
def wE (F:Nat → Nat → Qi) (n m:Nat) (x:Nat → Qi):Prop:=∀ i,i < n → aF m (fun k=>F i k * x k) = 0
theorem Cg {F G:Nat → Nat → Qi} {n m:Nat} {x:Nat → Qi} (h:∀ i,i < n → ∀ j,j < m → F i j = G i j):wE F n m x ↔ wE G n m x:=by
 have e:∀ i,i < n → aF m (fun k=>F i k * x k) = aF m (fun k=>G i k * x k):=fun i hi=>aA fun k hk=>by rw [h i hi k hk]
 exact ⟨fun k i hi=>by rw [← e i hi]; exact k i hi,fun k i hi=>by rw [e i hi]; exact k i hi⟩
def Su (p c i:Nat):Nat:=if i = c then p else if i = p then c else i
theorem Jc {p c i n:Nat} (hp:p < n) (hc:c < n) (hi:i < n):Su p c i < n:=by unfold Su; split <;> (try split) <;> omega
theorem Sv (p c i:Nat):Su p c (Su p c i) = i:=by
 unfold Su
 by_cases e1:i = c
 ·subst e1
  rw [if_pos rfl]
  by_cases e2:p = i
  ·rw [if_pos e2]; exact e2
  ·rw [if_neg e2,if_pos rfl]
 ·rw [if_neg e1]
  by_cases e2:i = p
  ·subst e2; rw [if_pos rfl,if_pos rfl]
  ·rw [if_neg e2,if_neg e1,if_neg e2]
theorem Kv {F : Nat → Nat → Qi} {n m p c : Nat} {x : Nat → Qi} (hp : p < n) (hc : c < n) : wE (fun i => F (Su p c i)) n m x ↔ wE F n m x :=
 ⟨fun h i hi=>by have:=h _ (Jc hp hc hi); simp only [Sv] at this; exact this,fun h i hi=>h _ (Jc hp hc hi)⟩
theorem Zs {F G:Nat → Nat → Qi} {n m c:Nat} {x f:Nat → Qi} (hc:c < n) (hG:∀ i,i < n → ∀ j,j < m → G i j = if c < i then F i j - f i * F c j else F i j):wE G n m x ↔ wE F n m x:=by
 have key : ∀ i, i < n → aF m (fun k => G i k * x k) = if c < i then aF m (fun k => F i k * x k) - f i * aF m (fun k => F c k * x k) else aF m (fun k => F i k * x k) := fun i hi => by
  by_cases e:c < i
  ·rw [if_pos e, ← rN]
   exact aA fun k hk=>by rw [hG i hi k hk,if_pos e]; grind
  ·rw [if_neg e]
   exact aA fun k hk=>by rw [hG i hi k hk,if_neg e]
 have kc:=key c hc
 rw [if_neg zo] at kc
 constructor
 ·intro h i hi
  have h0:=h c hc
  rw [kc] at h0
  have h1:=h i hi
  rw [key i hi] at h1
  by_cases e:c < i
  ·rw [if_pos e,h0] at h1; grind
  ·rw [if_neg e] at h1; exact h1
 ·intro h i hi
  rw [key i hi]
  by_cases e:c < i
  ·rw [if_pos e,h i hi,h c hc]; grind
  ·rw [if_neg e]; exact h i hi
theorem a2V {M:List (List Qi)} {n m c i j:Nat} (h:bT M n m) (hi:i < n) (hj:j < m):gm (redM M c n) i j = if c < i ∧ c < j then gm M i j - gm M i c / gm M c c * gm M c j else gm M i j:=by
 have hr:(dS M i).length = m:=h.row hi
 have e0 : dS (redM M c n) i = if c < i ∧ i < n then lV (dS M i) (dS M c) c (dS M i).length else dS M i := by
  simp only [dS,redM,List.getD]; rw [cP (by rw [h.1]; exact hi)]; rfl
 show gv (dS (redM M c n) i) j = _
 rw [e0]
 by_cases e:c < i
 ·rw [if_pos ⟨e, hi⟩, lV, iN zo]
  by_cases e2:c < j
  ·rw [if_pos ⟨e2,by omega⟩,if_pos ⟨e,e2⟩]
  ·rw [if_neg (fun k=>e2 k.1),if_neg (fun k=>e2 k.2)]
 ·rw [if_neg (fun k=>e k.1),if_neg (fun k=>e k.1)]
theorem a1y {A:List (List Qi)} {p c i j:Nat} (hc:c < A.length) (hp:p < A.length) (hcp:c ≤ p):wC (swp [] A p c) c i j = wC A c (Su p c i) j:=by
 have key:gm (swp [] A p c) i j = gm A (Su p c i) j:=congrArg (fun r=>gv r j) (Pa zo zo)
 unfold wC
 rw [key]
 have e:(j < c ∧ j < i) ↔ (j < c ∧ j < Su p c i):=by unfold Su; split <;> (try split) <;> omega
 by_cases h:j < c ∧ j < i
 ·rw [if_pos h,if_pos (e.1 h)]
 ·rw [if_neg h,if_neg (fun k=>h (e.2 k))]
structure EL (M A:List (List Qi)) (n m c:Nat):Prop where
 sh:bT A n m
 ker:∀ x,wE (wC A c) n m x ↔ wE (gm M) n m x
theorem EL.next {M A:List (List Qi)} {n m c p:Nat} (h:EL M A n m c) (hc:c < n) (hcm:c < m) (hcp:c ≤ p) (hp:p < n) (hz:gm A p c ≠ 0):EL M (redM (if p = c then A else swp [] A p c) c n) n m (c + 1):=by
 have hl:=h.sh.1
 obtain ⟨B,hB⟩:∃ B,B = if p = c then A else swp [] A p c:=⟨_,rfl⟩
 have hs : bT B n m := by
  rw [hB]; split
  ·exact h.sh
  ·exact Av h.sh hp hc
 have hBk : ∀ x, wE (wC B c) n m x ↔ wE (gm M) n m x := fun x => by
  rw [hB]; split
  ·exact h.ker x
  ·exact (Cg (G:=fun i=>wC A c (Su p c i)) fun i hi j hj=>a1y zo zo hcp).trans ((Kv hp hc).trans (h.ker x))
 have hBz : gm B c c ≠ 0 := by
  rw [hB]; split
  ·rename_i e; rw [← e] at hz ⊢; exact hz
  ·show gv (dS (swp [] A p c) c) c ≠ 0
   rw [Dj zo]; exact hz
 rw [← hB]
 refine ⟨Ls hs,fun x=>(Zs (f:=fun i=>gm B i c / gm B c c) hc fun i hi j hj=>?_).trans (hBk x)⟩
 have hd:=rV (x:=gm B i c) hBz
 unfold wC
 rw [a2V hs hi hj]
 by_cases e:c < i
 ·rw [if_pos e]
  by_cases e1:j < c
  ·rw [if_pos zo,if_pos zo,if_pos zo]; grind
  ·by_cases e2 : j = c
   ·subst e2
    rw [if_pos zo,if_neg zo,if_neg zo]; grind
   ·rw [if_neg zo,if_pos zo,if_neg zo,if_neg zo]
 ·rw [if_neg e, if_neg (show ¬ (c < i ∧ c < j) from fun k => e k.1)]
  by_cases e1:j < i
  ·rw [if_pos (show j < c + 1 ∧ j < i by omega),if_pos (show j < c ∧ j < i by omega)]
  ·rw [if_neg (show ¬ (j < c + 1 ∧ j < i) by omega),if_neg (show ¬ (j < c ∧ j < i) by omega)]
theorem Hb {M : List (List Qi)} {n m : Nat} (hs : bT M n m) (hnm : n ≤ m) : ∀ {c : Nat}, c ≤ n → (cT M c).2.2 < 0 → EL M (cT M c).1 n m c
 | 0,_,_=>⟨hs,fun x=>Cg fun i _ j _=>by unfold wC; rw [if_neg zo]; rfl⟩
 | c + 1, hc, h => by
  obtain ⟨i1,i2,i3,i4⟩:=pL (M:=(cT M c).1) (c:=c) (n:=M.length) (by rw [hs.1]; omega)
  simp only [cT] at h ⊢
  by_cases e:0 ≤ (cT M c).2.2
  ·rw [if_pos e] at h; omega
  ·rw [if_neg e] at h ⊢
   have ih:=Hb hs hnm (c:=c) zo zo
   by_cases e2:pv (cT M c).1 c M.length = M.length
   ·rw [if_pos e2] at h; simp only at h; omega
   ·rw [if_neg e2]
    rw [hs.1] at i3 i4 e2 ⊢
    exact ih.next zo zo (by rw [hs.1] at i2; exact i2) zo (i4 zo)
theorem Fg {M : List (List Qi)} : ∀ {n : Nat}, 0 ≤ (cT M n).2.2 → ∃ c, c < n ∧ (cT M c).2.2 < 0 ∧ pv (cT M c).1 c M.length = M.length
 | 0,h=>absurd h (by show ¬ (0:Int) ≤ -1; omega)
 | c + 1, h => by
  by_cases e:0 ≤ (cT M c).2.2
  ·obtain ⟨d, h1, h2⟩ := Fg e
   exact ⟨d,by omega,h2⟩
  ·simp only [cT] at h
   rw [if_neg e] at h
   by_cases e2:pv (cT M c).1 c M.length = M.length
   ·exact ⟨c,by omega,by omega,e2⟩
   ·rw [if_neg e2] at h; simp only at h; omega
theorem wA {U : List (List Qi)} {x y : List Qi} {n c : Nat} : ∀ {K : Nat}, (∀ k, k < K → gv x (c + 1 + k) = gv y (c + 1 + k)) → oS U x n c K = oS U y n c K
 | 0,_=>rfl
 | K + 1,h=>by rw [oS,oS,wA (fun k hk=>h k zo),h K zo]
theorem Mg (U : List (List Qi)) (x : List Qi) (n c : Nat) : ∀ K, oS U x n c K = gm U c n - aF K (fun k => gm U c (c + 1 + k) * gv x (c + 1 + k))
 | 0=>by simp only [oS,aF,q0]; grind
 | K + 1=>by simp only [oS,aF,Mg U x n c K]; grind
theorem Wl {U : List (List Qi)} {n : Nat} : ∀ {j : Nat}, j ≤ n → ∀ c, n - j ≤ c → c < n → gv (qE U n j) c = oS U (qE U n j) n c (n - 1 - c) / gm U c c
 | 0,_,c,h1,h2=>by omega
 | j + 1, hj, c, h1, h2 => by
  have hl:=zW U n j
  rw [qE]
  by_cases e:c = n - (j + 1)
  ·subst e
   rw [vT zo,if_pos rfl,show n - 1 - (n - (j + 1)) = j by omega]
   rw [wA (x:=(qE U n j).set _ _) (y:=qE U n j) fun k hk=>by rw [vT zo,if_neg zo]]
  ·rw [vT zo, if_neg e, Wl (j := j) zo c zo h2]
   rw [wA (x:=(qE U n j).set _ _) (y:=qE U n j) fun k hk=>by rw [vT zo,if_neg zo]]
theorem nM (a : Nat) (f : Nat → Qi) : ∀ b, aF (a + b) f = aF a f + aF b fun k => f (a + k)
 | 0=>by simp only [aF,q0,Nat.add_zero]; grind
 | b + 1=>by rw [← Nat.add_assoc]; simp only [aF,nM a f b]; grind
theorem Sx {U:List (List Qi)} {n i:Nat} (hi:i < n) (y:Nat → Qi):aF n (fun k=>wC U n i k * y k) = gm U i i * y i + aF (n - 1 - i) fun k=>gm U i (i + 1 + k) * y (i + 1 + k):=by
 have e:n = i + 1 + (n - 1 - i):=by omega
 have h1:aF i (fun k=>wC U n i k * y k) = 0:=cL fun k hk=>by unfold wC; rw [if_pos zo]; grind
 have h2:wC U n i i = gm U i i:=by unfold wC; rw [if_neg zo]
 have h3:aF (n - 1 - i) (fun k=>wC U n i (i + 1 + k) * y (i + 1 + k)) = aF (n - 1 - i) fun k=>gm U i (i + 1 + k) * y (i + 1 + k):=aA fun k hk=>by unfold wC; rw [if_neg zo]
 have h4:=nM (i + 1) (fun k=>wC U n i k * y k) (n - 1 - i)
 rw [← e] at h4
 rw [h4,h3]
 simp only [aF,h1,h2]; grind
theorem Sw {U:List (List Qi)} {n i:Nat} (hd:∀ j,j < n → gm U j j ≠ 0) (hi:i < n):aF n (fun k=>wC U n i k * gv (qE U n n) k) = gm U i n:=by
 rw [Sx hi,Wl (Nat.le_refl n) i zo hi,Mg]
 have:=rV (x:=gm U i n - aF (n - 1 - i) (fun k=>gm U i (i + 1 + k) * gv (qE U n n) (i + 1 + k))) (hd i hi)
 grind
theorem Mi {U : List (List Qi)} {n : Nat} (hd : ∀ j, j < n → gm U j j ≠ 0) {y : Nat → Qi} (h : ∀ i, i < n → aF n (fun k => wC U n i k * y k) = 0) : ∀ t k, n - t ≤ k → k < n → y k = 0
 | 0,k,h1,h2=>by omega
 | t + 1, k, h1, h2 => by
  have h3:=h k h2
  rw [Sx h2,cL (fun j hj=>by rw [Mi hd h t (k + 1 + j) zo zo]; grind)] at h3
  rcases jS (x:=gm U k k) (y:=y k) (by grind) with h4 | h4
  ·exact absurd h4 (hd k h2)
  ·exact h4
theorem nJ {M:List (List Qi)} {b:List Qi} {n:Nat} (h:bT M n n) (hE:kY M b n = 0):(∀ i,i < n → aF n (fun k=>gm M i k * gv (lP M b n) k) = gv b i) ∧ ∀ y:Nat → Qi,(∀ i,i < n → aF n (fun k=>gm M i k * y k) = 0) → ∀ k,k < n → y k = 0:=by
 have hcs:bT (kZ M [b] n) n (n + 1):=mO h
 have hst : (sU M b n).2.2 < 0 := by
  unfold kY at hE
  by_cases e:0 ≤ (sU M b n).2.2
  ·rw [if_pos e] at hE; omega
  ·omega
 have hg:=Hb hcs (Nat.le_succ n) (Nat.le_refl n) hst
 have hd:=pN hcs (Nat.le_refl n) hst
 obtain ⟨U,hU⟩:∃ U,U = (sU M b n).1:=⟨_,rfl⟩
 have hX:lP M b n = qE U n n:=by rw [hU]; rfl
 have hU2:(cT (kZ M [b] n) n).1 = U:=hU.symm
 rw [hU2] at hg hd
 rw [hX]
 refine ⟨fun i hi=>?_,fun y hy k hk=>?_⟩
 ·have h1 := (hg.ker fun k => if k < n then gv (qE U n n) k else -1).1 (fun i hi => by
   simp only [aF]
   rw [aA (g:=fun k=>wC U n i k * gv (qE U n n) k) (fun k hk=>by rw [if_pos hk]),Sw hd hi,if_neg zo,show wC U n i n = gm U i n by unfold wC; rw [if_neg zo]]
   grind) i hi
  rw [Nm h hi,aA (g:=fun k=>gm M i k * gv (qE U n n) k) (fun k hk=>by rw [if_pos hk]),if_neg zo] at h1
  grind
 ·have h1 := (hg.ker fun k => if k < n then y k else 0).2 (fun i hi => by
   rw [Nm h hi,aA (g:=fun k=>gm M i k * y k) (fun k hk=>by rw [if_pos hk]),if_neg zo,hy i hi]; grind)
  refine Mi (y:=y) hd (fun i hi=>?_) n k zo hk
  have h2:=h1 i hi
  simp only [aF] at h2
  rw [aA (g:=fun k=>wC U n i k * y k) (fun k hk=>by rw [if_pos hk]),if_neg zo] at h2
  grind
theorem Mc {M:List (List Qi)} {b:List Qi} {n:Nat} (h:bT M n n) (hE:kY M b n ≠ 0):∃ y:Nat → Qi,(∀ i,i < n → aF n (fun k=>gm M i k * y k) = 0) ∧ ∃ k,k < n ∧ y k ≠ 0:=by
 have hcs:bT (kZ M [b] n) n (n + 1):=mO h
 have hst : 0 ≤ (sU M b n).2.2 := by
  unfold kY at hE
  by_cases e:0 ≤ (sU M b n).2.2
  ·exact e
  ·rw [if_neg e] at hE; exact absurd rfl hE
 obtain ⟨c,hc,hA,hp⟩:=Fg hst
 have hg:=Hb hcs (Nat.le_succ n) zo hA
 have hd:=pN hcs zo hA
 obtain ⟨U,hU⟩:∃ U,U = (cT (kZ M [b] n) c).1:=⟨_,rfl⟩
 rw [← hU] at hg hd hp
 rw [hcs.1] at hp
 have hz:=(pL (M:=U) (c:=c) (n:=n) zo).1
 rw [hp] at hz
 have key := (hg.ker fun k => if k < c then gv (qE U c c) k else if k = c then -1 else 0).1 (fun i hi => by
  have e:n + 1 = c + (1 + (n - c)):=by omega
  rw [e,nM,nM]
  have z3:aF (n - c) (fun k=>wC U c i (c + (1 + k)) * (if c + (1 + k) < c then gv (qE U c c) (c + (1 + k)) else if c + (1 + k) = c then -1 else 0)) = 0:=cL fun k hk=>by rw [if_neg zo,if_neg zo]; grind
  have z2 : aF 1 (fun k => wC U c i (c + k) * (if c + k < c then gv (qE U c c) (c + k) else if c + k = c then -1 else 0)) = wC U c i c * -1 := by
   rw [Di,if_neg zo,if_pos zo]; rfl
  have z1:aF c (fun k=>wC U c i k * (if k < c then gv (qE U c c) k else if k = c then -1 else 0)) = aF c (fun k=>wC U c i k * gv (qE U c c) k):=aA fun k hk=>by rw [if_pos hk]
  rw [z1,z2,z3]
  have zc:wC U c i c = gm U i c:=by unfold wC; rw [if_neg zo]
  rw [zc]
  by_cases e2:i < c
  ·rw [Sw hd e2]; grind
  ·rw [hz i zo hi,cL (fun k hk=>by unfold wC; rw [if_pos zo]; grind),q0]; grind)
 refine ⟨fun k=>if k < c then gv (qE U c c) k else if k = c then -1 else 0,fun i hi=>?_,c,hc,?_⟩
 ·have h1 := key i hi
  rw [Nm h hi,if_neg zo,if_neg zo] at h1
  grind
 ·show (if c < c then gv (qE U c c) c else if c = c then (-1 : Qi) else 0) ≠ 0
  rw [if_neg zo,if_pos rfl]
  intro e
  exact absurd (congrArg Qi.re e) (by decide)
end
section
open Go Go.RowKit
abbrev gnI (G:List Nat):List Int:=G.map fun (q:Nat)=>(q:Int) + 1
def gY (G : List Nat) : Nat → List Nat
 | 0=>[]
 | k + 1=>gY G k ++ (if k ∈ G then [] else [k])
theorem uG (G : List Nat) : ∀ k, (gY G k).length ≤ k
 | 0=>Nat.le_refl _
 | k + 1 => by
  have:=uG G k
  simp only [gY,List.length_append]
  split
  ·simp; omega
  ·simp; omega
theorem yO {G : List Nat} : ∀ {k x : Nat}, x ∈ gY G k → x < k
 | 0,x,h=>by cases h
 | k + 1, x, h => by
  rcases List.mem_append.1 h with h1 | h1
  ·have:=yO h1; omega
  ·split at h1
   ·cases h1
   ·have:=List.mem_singleton.1 h1; omega
theorem Ri {p : Nat} : ∀ {k : Nat}, gY [p] k = tab (Tt p k) (skp p)
 | 0=>by rw [gY,show Tt p 0 = 0 by unfold Tt; split <;> omega]; rfl
 | k + 1 => by
  rw [gY,Ri]
  by_cases c:k = p
  ·subst c
   rw [if_pos (by simp),List.append_nil,show Tt k (k + 1) = Tt k k by unfold Tt; split <;> split <;> omega]
  ·rw [if_neg (by simpa using c)]
   have e1:skp p (Tt p k) = k:=by unfold skp Tt; split <;> split <;> omega
   have e2:Tt p (k + 1) = Tt p k + 1:=by unfold Tt; split <;> split <;> omega
   rw [e2,gD,e1]
theorem Zh {G:List Nat} {i:Nat}:((gnI G).any fun x=>decide (((i + 1:Nat):Int) = x)) = decide (i ∈ G):=by
 rw [Bool.eq_iff_iff]
 simp only [gnI,List.any_map,List.any_eq_true,Function.comp,decide_eq_true_eq]
 constructor
 ·rintro ⟨q, h1, h2⟩
  obtain rfl:i = q:=by omega
  exact h1
 ·intro h; exact ⟨i,h,by omega⟩
abbrev cO (Q:List Nat) (i:Nat):Nat:=Q.getD i 0
def mN (z:List Qi) (Q:List Nat):List Qi:=tab Q.length fun i=>gv z (cO Q i)
def mX (s:List (List Qi)) (Q:List Nat):List (List Qi):=tab Q.length fun i=>tab Q.length fun j=>gm s (cO Q i) (cO Q j)
theorem nU {Q:List Nat} {n i:Nat} (h:∀ x,x ∈ Q → x < n) (hi:i < Q.length):cO Q i < n:=h _ (by rw [show cO Q i = Q[i] by simp [cO,List.getD,hi]]; exact List.getElem_mem hi)
theorem nL {Q:List Nat} {i:Nat} (h:i < Q.length):(Q.map Nat.succ)[i]? = some (cO Q i + 1):=by simp [cO,List.getD,h]
end
section
open Go Go.RowKit
def gq (ps:List (Nat × Nat)) (x:Nat):Nat:=if x % 2 = 0 then pA ps (x / 2) else pB ps (x / 2)
def iR (x:Nat):Nat:=if x % 2 = 0 then x + 1 else x - 1
theorem uM (x:Nat):iR (iR x) = x:=by unfold iR; split <;> split <;> omega
theorem mK {x k:Nat} (h:x < 2 * k):iR x < 2 * k:=by unfold iR; split <;> omega
theorem a21 (ps:List (Nat × Nat)) (k:Nat):gq ps (2 * k) = pA ps k:=by unfold gq; rw [if_pos zo,show 2 * k / 2 = k by omega]
theorem a4z (ps:List (Nat × Nat)) (k:Nat):gq ps (2 * k + 1) = pB ps k:=by unfold gq; rw [if_neg zo,show (2 * k + 1) / 2 = k by omega]
structure Jn (ps:List (Nat × Nat)) (n K:Nat):Prop where
 lt:∀ x,x < 2 * K → gq ps x < n
 inj:∀ x y,x < 2 * K → y < 2 * K → gq ps x = gq ps y → x = y
theorem Jn.le {ps:List (Nat × Nat)} {n K k:Nat} (h:Jn ps n K) (hk:k ≤ K):Jn ps n k:=⟨fun x hx=>h.lt x zo,fun x y hx hy=>h.inj x y zo zo⟩
def oF (S:List (List Qi)) (ps:List (Nat × Nat)) (m:Nat):List (List Qi):=tab m fun x=>tab m fun y=>(if x = y then Qi.ofInt 1 else Qi.ofInt 0) - gm S (gq ps (iR x)) (gq ps y)
def zT (S:List (List Qi)) (ps:List (Nat × Nat)) (m b:Nat):List Qi:=tab m fun x=>gm S (gq ps (iR x)) b
theorem nZ (S:List (List Qi)) (ps:List (Nat × Nat)) (m:Nat):bT (oF S ps m) m m:=bT.tab
theorem Rc {S:List (List Qi)} {ps:List (Nat × Nat)} {m x:Nat} (hx:x < m) (v:Nat → Qi):aF m (fun y=>gm (oF S ps m) x y * v y) = v x - aF m fun y=>gm S (gq ps (iR x)) (gq ps y) * v y:=by
 have e : ∀ y, y < m → gm (oF S ps m) x y * v y = (if y = x then v x else 0) - 1 * (gm S (gq ps (iR x)) (gq ps y) * v y) := fun y hy => by
  have : gm (oF S ps m) x y = (if x = y then Qi.ofInt 1 else Qi.ofInt 0) - gm S (gq ps (iR x)) (gq ps y) := by
   show gv ((oF S ps m).getD x []) y = _
   rw [oF,kV hx,iN hy]
  rw [this]
  by_cases c:y = x
  ·subst c; rw [if_pos rfl,if_pos rfl,q1]; grind
  ·rw [if_neg c,if_neg (Ne.symm c),show Qi.ofInt 0 = (0:Qi) from rfl]; grind
 rw [aA e,rN,cE hx (fun k _ hk=>if_neg hk),if_pos rfl]; grind
theorem Ns {S:List (List Qi)} {ps:List (Nat × Nat)} {m b x:Nat} (hx:x < m):gv (zT S ps m b) x = gm S (gq ps (iR x)) b:=iN hx
def zD (S:List (List Qi)) (ps:List (Nat × Nat)) (m a b:Nat):Qi:=gm S a b + aF m fun y=>gm S a (gq ps y) * gv (lP (oF S ps m) (zT S ps m b) m) y
end
section
open Go Go.RowKit
def Me (x y:Nat):Int:=if 8 < x + y then 4 else 0
def Mf (z zb:List Qi):List Qi:=fF (Me z.length zb.length) (z ++ zb)
def yV (z zb:List Qi) (a b:List (List Qi)):List (List Qi):=fF (Me z.length zb.length) (kO a b z.length zb.length)
theorem a3d {x y:Nat} (h:8 < x + y):Me x y = 4:=if_pos h
theorem a0O {x y:Nat} (h:¬ 8 < x + y):Me x y = 0:=if_neg h
theorem Yz {z zb:List Qi} {L:Nat} (hz:bR z L) (hb:bR zb L):bR (z ++ zb) L:=fun x hx=>(List.mem_append.1 hx).elim (hz x) (hb x)
def eB (n:Nat) (p:Int) (o:List Int):Int:=if ¬ (1 ≤ p ∧ p ≤ n) then 1 else if (o.any fun x=>decide (p = x)) = true then 8 else 0
def sR (n:Nat) (l:List Int):Int:=kF (fun i=>eB n (l.getD i 0) (l.take i)) l.length
def uX (l:List Int):List Nat:=l.map fun p=>(p - 1).toNat
theorem Cu (l:List Int):(uX l).length = l.length:=by rw [uX,List.length_map]
theorem wU {n:Nat} {p:Int} {o:List Int} (h:eB n p o = 0):1 ≤ p ∧ p ≤ n:=by
 unfold eB at h
 split at h
 ·omega
 ·rename_i c; exact Decidable.not_not.1 c
theorem Im {n : Nat} {l : List Int} (h : sR n l = 0) : ∀ x, x ∈ l → 1 ≤ x ∧ x ≤ n := fun x hx => by
 obtain ⟨i,hi,e⟩:=List.getElem_of_mem hx
 have:=wU (gU h i hi)
 rw [show l.getD i 0 = x by rw [List.getD,List.getElem?_eq_getElem hi,e]; rfl] at this
 exact this
theorem a0m {n : Nat} {l : List Int} (h : sR n l = 0) : ∀ x, x ∈ uX l → x < n := fun x hx => by
 obtain ⟨p,hp,rfl⟩:=List.mem_map.1 hx
 have:=Im h p hp; omega
theorem Cv {n:Nat} {l:List Int} (h:sR n l = 0):l.map (aN .i64) = ((uX l).map Nat.succ).map (NT .i64):=by
 rw [uX,List.map_map,List.map_map]
 refine List.map_congr_left fun p hp=>?_
 have:=Im h p hp
 show aN .i64 p = aN .i64 (((p - 1).toNat + 1:Nat):Int)
 congr 1; omega
def zU (n:Nat) (l:List Int):Int:=if l.length ≠ n then 4 else sR n l
def Ir (z:List Qi) (l:List Int):List Qi:=fF (zU z.length l) (mN z (uX l))
def xL (z:List Qi) (s:List (List Qi)) (l:List Int):List (List Qi):=fF (zU z.length l) (mX s (uX l))
theorem Lu {n:Nat} {l:List Int} (h:l.length ≠ n):zU n l = 4:=if_pos h
theorem Oo {n:Nat} {l:List Int} (h:l.length = n):zU n l = sR n l:=if_neg (fun k=>k h)
theorem rM (z:List Qi) (Q:List Nat):(mN z Q).length = Q.length:=aC _ _
theorem xO (s:List (List Qi)) (Q:List Nat):bT (mX s Q) Q.length Q.length:=bT.tab
end
section
open Go Go.RowKit
def nE (js:List (Int × Int)):List Int:=js.flatMap fun q=>[q.1,q.2]
def cF (js:List (Int × Int)):List (Nat × Nat):=js.map fun q=>((q.1 - 1).toNat,(q.2 - 1).toNat)
abbrev kK (js:List (Int × Int)) (k:Nat):Int × Int:=js.getD k (0,0)
theorem a24 (a b:List (Int × Int)):nE (a ++ b) = nE a ++ nE b:=by simp [nE]
theorem Kq {js:List (Int × Int)} {k:Nat} (h:k < js.length):nE (js.take (k + 1)) = nE (js.take k) ++ [(kK js k).1,(kK js k).2]:=by
 rw [List.take_succ_eq_append_getElem h,a24]
 simp [nE,kK,List.getD,h]
theorem pG : ∀ (js : List (Int × Int)), (nE js).length = 2 * js.length
 | []=>rfl
 | q :: r => by
  have:=pG r
  have e:nE (q :: r) = q.1 :: q.2 :: nE r:=rfl
  rw [e,List.length_cons,List.length_cons,List.length_cons,this]; omega
theorem Rb : ∀ (js : List (Int × Int)) {x : Nat}, x < 2 * js.length → (nE js).getD x 0 = if x % 2 = 0 then (kK js (x / 2)).1 else (kK js (x / 2)).2
 | [],x,h=>by simp at h
 | q :: r,0,_=>rfl
 | q :: r,1,_=>rfl
 | q :: r, x + 2, h => by
  have ih:=Rb r (x:=x) (by simp only [List.length_cons] at h; omega)
  have e:nE (q :: r) = q.1 :: q.2 :: nE r:=rfl
  rw [e]
  show (nE r).getD x 0 = _
  rw [ih,show (x + 2) % 2 = x % 2 by omega,show (x + 2) / 2 = x / 2 + 1 by omega]
  rfl
theorem Nv {js:List (Int × Int)} {k:Nat} (h:k < js.length):pA (cF js) k = ((kK js k).1 - 1).toNat ∧ pB (cF js) k = ((kK js k).2 - 1).toNat:=by
 simp [pA,pB,cF,kK,List.getD,h]
theorem jgq {js:List (Int × Int)} {x:Nat} (h:x < 2 * js.length):gq (cF js) x = ((nE js).getD x 0 - 1).toNat:=by
 have h2:x / 2 < js.length:=by omega
 rw [Rb js h,gq,(Nv h2).1,(Nv h2).2]
 split <;> rfl
theorem Ll {n:Nat} {A:List Int} (h:sR n A = 0) (a:Int):sR n (A ++ [a]) = eB n a A:=by
 rw [sR,List.length_append,List.length_singleton]
 have e : kF (fun i => eB n ((A ++ [a]).getD i 0) ((A ++ [a]).take i)) A.length = 0 := iM fun i hi => by
  have:=gU h i hi
  rw [List.take_append_of_le_length zo]
  have e2:(A ++ [a]).getD i 0 = A.getD i 0:=by simp [List.getD,List.getElem?_append_left hi]
  rw [e2]; exact this
 rw [kF,e,if_neg (by simp),List.take_append_of_le_length (Nat.le_refl _),List.take_length]
 congr 1
 simp [List.getD]
theorem Ut {n:Nat} {A:List Int} (h:sR n A = 0) (a b:Int):sR n (A ++ [a,b]) = if eB n a A ≠ 0 then eB n a A else eB n b (A ++ [a]):=by
 have e:A ++ [a,b] = (A ++ [a]) ++ [b]:=by simp
 by_cases c:eB n a A = 0
 ·rw [if_neg (fun k=>k c),e,Ll (by rw [Ll h]; exact c)]
 ·rw [if_pos c]
  have h1 : kF (fun i => eB n ((A ++ [a, b]).getD i 0) ((A ++ [a, b]).take i)) A.length = 0 := iM fun i hi => by
   have:=gU h i hi
   rw [List.take_append_of_le_length zo]
   have e2:(A ++ [a,b]).getD i 0 = A.getD i 0:=by simp [List.getD,List.getElem?_append_left hi]
   rw [e2]; exact this
  have h2 : eB n ((A ++ [a, b]).getD A.length 0) ((A ++ [a, b]).take A.length) = eB n a A := by
   rw [List.take_append_of_le_length (Nat.le_refl _),List.take_length]
   congr 1
   simp [List.getD]
  rw [sR,tZ (k:=A.length) (fun i hi=>gU h1 i hi) (by rw [h2]; exact c) (by simp)]
  exact h2
def wX (z : List Qi) (js : List (Int × Int)) (k : Nat) : Int :=
 if eB z.length (kK js k).1 (nE (js.take k)) ≠ 0 then eB z.length (kK js k).1 (nE (js.take k))
 else if eB z.length (kK js k).2 (nE (js.take k) ++ [(kK js k).1]) ≠ 0 then eB z.length (kK js k).2 (nE (js.take k) ++ [(kK js k).1])
 else if gv z ((kK js k).1 - 1).toNat = gv z ((kK js k).2 - 1).toNat then 0 else 40
def zR (z:List Qi) (js:List (Int × Int)):Int:=kF (wX z js) js.length
theorem Ku {z:List Qi} {js:List (Int × Int)} {k:Nat} (h:wX z js k = 0):eB z.length (kK js k).1 (nE (js.take k)) = 0 ∧ eB z.length (kK js k).2 (nE (js.take k) ++ [(kK js k).1]) = 0 ∧ gv z ((kK js k).1 - 1).toNat = gv z ((kK js k).2 - 1).toNat:=by
 unfold wX at h
 by_cases c1:eB z.length (kK js k).1 (nE (js.take k)) = 0
 ·rw [if_neg (fun k => k c1)] at h
  by_cases c2:eB z.length (kK js k).2 (nE (js.take k) ++ [(kK js k).1]) = 0
  ·rw [if_neg (fun k => k c2)] at h
   by_cases c3:gv z ((kK js k).1 - 1).toNat = gv z ((kK js k).2 - 1).toNat
   ·exact ⟨c1,c2,c3⟩
   ·rw [if_neg c3] at h; omega
  ·rw [if_pos c2] at h; exact absurd h c2
 ·rw [if_pos c1] at h; exact absurd h c1
theorem jpr {z : List Qi} {js : List (Int × Int)} : ∀ {k : Nat}, k ≤ js.length → (∀ j, j < k → wX z js j = 0) → sR z.length (nE (js.take k)) = 0
 | 0,_,_=>rfl
 | k + 1, hk, h => by
  have ih:=jpr (z:=z) (js:=js) (k:=k) zo fun j hj=>h j zo
  obtain ⟨h1,h2,_⟩:=Ku (h k zo)
  rw [Kq zo,Ut ih,if_neg (fun k=>k h1)]; exact h2
theorem Nr {z:List Qi} {js:List (Int × Int)} (h:zR z js = 0):sR z.length (nE js) = 0:=by
 have:=jpr (z:=z) (Nat.le_refl js.length) (gU h)
 rwa [List.take_length] at this
theorem Uc {n : Nat} {p : Int} {o : List Int} (h : eB n p o = 0) : p ∉ o := fun hm => by
 have h1:=wU h
 unfold eB at h
 rw [if_neg (fun k=>k h1),if_pos (List.any_eq_true.2 ⟨p,hm,by simp⟩)] at h
 omega
theorem a2O {n:Nat} {l:List Int} (h:sR n l = 0) {x y:Nat} (hx:x < l.length) (hy:y < l.length) (e:l.getD x 0 = l.getD y 0):x = y:=by
 have key : ∀ x y, x < y → y < l.length → l.getD x 0 ≠ l.getD y 0 := fun x y hxy hy e => by
  refine Uc (gU h y hy) ?_
  rw [← e]
  have e2:l.getD x 0 = l[x]'zo:=by simp [List.getD,show x < l.length by omega]
  rw [e2]
  exact List.mem_take_iff_getElem.2 ⟨x,by omega,rfl⟩
 rcases Nat.lt_trichotomy x y with c | c | c
 ·exact absurd e (key x y c hy)
 ·exact c
 ·exact absurd e.symm (key y x c hx)
theorem zE {z:List Qi} {js:List (Int × Int)} (h:zR z js = 0):Jn (cF js) z.length js.length:=by
 have hp:=Nr h
 have hl:=pG js
 have hr : ∀ x, x < 2 * js.length → 1 ≤ (nE js).getD x 0 ∧ (nE js).getD x 0 ≤ z.length := fun x hx => Im hp _ (by
  rw [show (nE js).getD x 0 = (nE js)[x]'zo by simp [List.getD,show x < (nE js).length by omega]]; exact List.getElem_mem _)
 refine ⟨fun x hx=>?_,fun x y hx hy e=>?_⟩
 ·rw [jgq hx]; have:=hr x hx; omega
 ·rw [jgq hx, jgq hy] at e
  have h1:=hr x hx; have h2:=hr y hy
  exact a2O hp zo zo zo
def jW (js:List (Int × Int)):List Nat:=(nE js).map fun p=>(p - 1).toNat
def dT (z:List Qi) (js:List (Int × Int)):List Nat:=gY (jW js) z.length
def Nw (z:List Qi) (S:List (List Qi)) (js:List (Int × Int)):Int:=kF (fun y=>kY (oF S (cF js) (2 * js.length)) (zT S (cF js) (2 * js.length) ((dT z js).getD y 0)) (2 * js.length)) (dT z js).length
def vX (z : List Qi) (S : List (List Qi)) (js : List (Int × Int)) : Int :=
 if zR z js ≠ 0 then zR z js else if js.length = 0 then 0 else if 2 * js.length = z.length then 4 else if Nw z S js = 0 then 0 else 6
def Cf (z:List Qi) (js:List (Int × Int)):List Qi:=mN z (dT z js)
def Hz (z:List Qi) (S:List (List Qi)) (js:List (Int × Int)):List (List Qi):=tab (dT z js).length fun x=>tab (dT z js).length fun y=>zD S (cF js) (2 * js.length) (cO (dT z js) x) (cO (dT z js) y)
def qX (z:List Qi) (S:List (List Qi)) (js:List (Int × Int)):List Qi:=fF (vX z S js) (if js.length = 0 then z else Cf z js)
def vA (z:List Qi) (S:List (List Qi)) (js:List (Int × Int)):List (List Qi):=fF (vX z S js) (if js.length = 0 then S else Hz z S js)
theorem Ah (js:List (Int × Int)):(jW js).length = 2 * js.length:=by rw [jW,List.length_map,pG]
theorem rZ {js:List (Int × Int)} {j:Nat}:j ∈ jW js ↔ ∃ x,x < 2 * js.length ∧ gq (cF js) x = j:=by
 constructor
 ·intro h
  obtain ⟨p,hp,rfl⟩:=List.mem_map.1 h
  obtain ⟨x,hx,e⟩:=List.getElem_of_mem hp
  have hl:=pG js
  refine ⟨x,by omega,?_⟩
  rw [jgq zo,show (nE js).getD x 0 = p by rw [← e]; simp [List.getD,hx]]
 ·rintro ⟨x, hx, rfl⟩
  have hl:=pG js
  rw [jgq hx]
  refine List.mem_map.2 ⟨(nE js).getD x 0,?_,rfl⟩
  rw [show (nE js).getD x 0 = (nE js)[x]'zo by simp [List.getD,show x < (nE js).length by omega]]; exact List.getElem_mem _
theorem Zp {z : List Qi} {js : List (Int × Int)} {y : Nat} (hy : y < (dT z js).length) : (dT z js).getD y 0 < z.length := yO (by
 rw [show (dT z js).getD y 0 = (dT z js)[y] by simp [List.getD,hy]]; exact List.getElem_mem hy)
end
section
open Go Go.RowKit
theorem Ko (M:List (List Qi)) (n:Nat):bT (Kn M n) n n:=bT.tab
theorem xN (M:List (List Qi)) (b:List Qi) (n:Nat):(lP M b n).length = n:=zW _ _ _
theorem a39 {M : List (List Qi)} {b : List Qi} {n L : Nat} (h : bT M n n) (hM : aS M L) (hb : bR b L) (hL : 1 ≤ L) (hE : kY M b n = 0) : bR (lP M b n) (zL (nP L n) n) := a0J h hM hb hL (by
 unfold kY at hE
 by_cases e:0 ≤ (sU M b n).2.2
 ·rw [if_pos e] at hE; omega
 ·omega)
theorem Kp {M:List (List Qi)} {n:Nat} (h:Nq M n = 0):∀ k,k < n → kY M (ek n k) n = 0:=gU h
theorem Fy {G H : Nat} (h : G ≤ H) : ∀ j, zL G j ≤ zL H j
 | 0=>h
 | j + 1 => by
  have:=Fy h j
  have h2:j * (zL G j + G + 2) ≤ j * (zL H j + H + 2):=Nat.mul_le_mul_left _ zo
  simp only [zL]; omega
theorem uQ {n i j:Nat} (hi:i < n) (hj:j < n):gm (tN n) i j = if i = j then 1 else 0:=by
 show gv ((tN n).getD i []) j = _
 rw [tN,kV hi,Eb,vT (by rw [aC]; exact hi)]
 by_cases e:j = i
 ·subst e; rw [if_pos rfl,if_pos rfl]; rfl
 ·rw [if_neg e,if_neg (Ne.symm e),iN hj]; rfl
theorem lB {a b:List (List Qi)} {n m:Nat} (ha:bT a n m) (hb:bT b n m) (h:∀ i,i < n → ∀ j,j < m → gm a i j = gm b i j):a = b:=by
 rw [qQ ha,qQ hb]
 exact cR fun i hi=>cR fun j hj=>h i hi j hj
end
section
open Go Go.RowKit
def Lk (q:Int × Int):List Int:=[q.1,q.2]
abbrev JT (q:Int × Int):Ty:=fO [aN .i64 q.1,aN .i64 q.2]
abbrev JsT (js:List (Int × Int)):Ty:=kB 2 (js.map JT)
theorem a2M {q : Int × Int} : ∀ {i : Nat}, i < 2 → ([aN .i64 q.1, aN .i64 q.2] : List Ty)[i]? = some (aN .i64 ((Lk q).getD i 0))
 | 0,_=>rfl
 | 1,_=>rfl
theorem a0k {q : Int × Int} : ∀ {i : Nat}, i < 2 → (Lk q).take (i + 1) = (Lk q).take i ++ [(Lk q).getD i 0]
 | 0,_=>rfl
 | 1,_=>rfl
abbrev Ib (z:List Qi) (js:List (Int × Int)) (k i:Nat):Int:=eB z.length ((Lk (kK js k)).getD i 0) (nE (js.take k) ++ (Lk (kK js k)).take i)
theorem a67 {z : List Qi} {js : List (Int × Int)} {k : Nat} : ∀ {i : Nat}, i < 2 → (∀ x, x < i → Ib z js k x = 0) → Ib z js k i ≠ 0 → wX z js k = Ib z js k i
 | 0, _, _, h => by
  have e:Ib z js k 0 = eB z.length (kK js k).1 (nE (js.take k)):=by simp [Ib,Lk]
  rw [e] at h ⊢
  rw [wX,if_pos h]
 | 1, _, h0, h => by
  have e0:Ib z js k 0 = eB z.length (kK js k).1 (nE (js.take k)):=by simp [Ib,Lk]
  have e:Ib z js k 1 = eB z.length (kK js k).2 (nE (js.take k) ++ [(kK js k).1]):=by simp [Ib,Lk]
  have h1:=h0 0 zo
  rw [e0] at h1
  rw [e] at h ⊢
  rw [wX,if_neg (fun k=>k h1),if_pos h]
theorem a68 {z : List Qi} {js : List (Int × Int)} {k : Nat} (h : ∀ x, x < 2 → Ib z js k x = 0) : (1 ≤ (kK js k).1 ∧ (kK js k).1 ≤ z.length) ∧ (1 ≤ (kK js k).2 ∧ (kK js k).2 ≤ z.length) ∧
  wX z js k = if gv z ((kK js k).1 - 1).toNat = gv z ((kK js k).2 - 1).toNat then 0 else 40:=by
 have e0:Ib z js k 0 = eB z.length (kK js k).1 (nE (js.take k)):=by simp [Ib,Lk]
 have e:Ib z js k 1 = eB z.length (kK js k).2 (nE (js.take k) ++ [(kK js k).1]):=by simp [Ib,Lk]
 have h0:=h 0 zo
 have h1:=h 1 zo
 rw [e0] at h0
 rw [e] at h1
 exact ⟨wU h0,wU h1,by rw [wX,if_neg (fun k=>k h0),if_neg (fun k=>k h1)]⟩
def Ef (z:List Qi) (js:List (Int × Int)):Int:=if zR z js ≠ 0 then zR z js else if 0 < 2 * js.length ∧ 2 * js.length = z.length then 4 else 0
def jeL (z:List Qi) (js:List (Int × Int)):List Int:=fF (Ef z js) (nE js)
theorem Zn {z:List Qi} {js:List (Int × Int)} (h:zR z js ≠ 0):Ef z js = zR z js:=if_pos h
theorem a23 {z:List Qi} {js:List (Int × Int)} (h:zR z js = 0) (h2:0 < 2 * js.length ∧ 2 * js.length = z.length):Ef z js = 4:=by rw [Ef,if_neg (fun k=>k h),if_pos h2]
theorem a3H {z:List Qi} {js:List (Int × Int)} (h:zR z js = 0) (h2:¬ (0 < 2 * js.length ∧ 2 * js.length = z.length)):Ef z js = 0:=by rw [Ef,if_neg (fun k=>k h),if_neg h2]
theorem Hv {z:List Qi} {js:List (Int × Int)} (h:Ef z js = 0):zR z js = 0 ∧ ¬ (0 < 2 * js.length ∧ 2 * js.length = z.length):=by
 unfold Ef at h
 by_cases c:zR z js = 0
 ·refine ⟨c, fun h2 => ?_⟩
  rw [if_neg (fun k=>k c),if_pos h2] at h
  omega
 ·rw [if_pos c] at h; exact absurd h c
theorem a65 {z:List Qi} {S:List (List Qi)} {js:List (Int × Int)} (h:Ef z js ≠ 0):vX z S js = Ef z js:=by
 unfold vX Ef at *
 by_cases c:zR z js ≠ 0
 ·rw [if_pos c,if_pos c]
 ·rw [if_neg c] at h
  rw [if_neg c,if_neg c]
  by_cases d:0 < 2 * js.length ∧ 2 * js.length = z.length
  ·rw [if_neg zo,if_pos d.2,if_pos d]
  ·rw [if_neg d] at h; exact absurd rfl h
theorem a29 {z:List Qi} {S:List (List Qi)} {js:List (Int × Int)} (h:Ef z js = 0) (h2:js.length = 0):vX z S js = 0:=by
 obtain ⟨h1,_⟩:=Hv h
 rw [vX,if_neg (fun k=>k h1),if_pos h2]
theorem Nu {z:List Qi} {S:List (List Qi)} {js:List (Int × Int)} (h:Ef z js = 0) (h2:js.length ≠ 0):vX z S js = if Nw z S js = 0 then 0 else 6:=by
 obtain ⟨h1,h3⟩:=Hv h
 rw [vX,if_neg (fun k=>k h1),if_neg h2,if_neg zo]
theorem pig : ∀ {n m : Nat} {f : Nat → Nat}, (∀ x, x < m → f x < n) → (∀ x y, x < m → y < m → f x = f y → x = y) → m ≤ n
 | 0, m, f, h, _ => by
  cases m with
  | zero=>exact Nat.le_refl 0
  | succ m=>exact absurd (h 0 zo) zo
 | n + 1,0,_,_,_=>by omega
 | n + 1, k + 1, f, h, i => by
  have := pig (n := n) (m := k) (f := fun x => if f x = n then f k else f x) (fun x hx => by
   have h1:=h x zo
   have h2:=h k zo
   by_cases c:f x = n
   ·simp only [if_pos c]
    have:f k ≠ n:=fun e=>by have:=i x k zo zo (by rw [c,e]); omega
    omega
   ·simp only [if_neg c]; omega) (fun x y hx hy e=>by
   by_cases c:f x = n <;> by_cases d:f y = n
   ·exact i x y zo zo (by rw [c,d])
   ·simp only [if_pos c, if_neg d] at e
    have:=i k y zo zo e; omega
   ·simp only [if_neg c, if_pos d] at e
    have:=i x k zo zo e; omega
   ·simp only [if_neg c, if_neg d] at e
    exact i x y zo zo e)
  omega
theorem Rd {z:List Qi} {js:List (Int × Int)} (h:zR z js = 0):2 * js.length ≤ z.length:=by
 have hj:=zE h
 exact pig (f:=gq (cF js)) hj.lt hj.inj
theorem Zo {z:List Qi} {js:List (Int × Int)} (h:zR z js = 0):(nE js).map (aN .i64) = ((jW js).map Nat.succ).map (NT .i64):=Cv (Nr h)
theorem Hw {js:List (Int × Int)} {x:Nat} (h:x < 2 * js.length):(jW js).getD x 0 = gq (cF js) x:=by
 have hl:=pG js
 rw [jgq h,jW]
 simp [List.getD,show x < (nE js).length by omega]
theorem Zf (G:List Nat):(gnI G).map (aN .i64) = (G.map Nat.succ).map (NT .i64):=by
 simp only [gnI,List.map_map]
 refine List.map_congr_left fun x _=>?_
 simp [Function.comp,NT]
theorem Rh {G : List Nat} {j : Nat} (h : j ∉ G) : ∀ {k : Nat}, j < k → j ∈ gY G k
 | k + 1, hk => by
  rw [gY,List.mem_append]
  by_cases e:j = k
  ·subst e; exact .inr (by rw [if_neg h]; simp)
  ·exact .inl (Rh h zo)
theorem Zm {z:List Qi} {js:List (Int × Int)} (h:zR z js = 0) (h2:2 * js.length ≠ z.length):1 ≤ (dT z js).length:=by
 by_cases c:(dT z js).length = 0
 ·have hn : dT z js = [] := List.eq_nil_of_length_eq_zero c
  have hm : ∀ j, j < z.length → ∃ x, x < 2 * js.length ∧ gq (cF js) x = j := fun j hj => by
   by_cases d:j ∈ jW js
   ·exact rZ.1 d
   ·have := Rh d hj
    rw [show gY (jW js) z.length = [] from hn] at this
    cases this
  have:=Rd h
  have h3 : z.length ≤ 2 * js.length := pig (f := fun j => if hj : j < z.length then Classical.choose (hm j hj) else 0) (fun j hj => by
   simp only [dif_pos hj]; exact (Classical.choose_spec (hm j hj)).1) (fun x y hx hy e=>by
   simp only [dif_pos hx,dif_pos hy] at e
   rw [← (Classical.choose_spec (hm x hx)).2,← (Classical.choose_spec (hm y hy)).2,e])
  omega
 ·omega
theorem Qo (x : Qi) (l m : List Qi) : ∀ k, uT x l m k = x + aF k fun y => gv l y * gv m y
 | 0=>by rw [uT,aF,show Qi.zero = (0:Qi) from rfl]; grind
 | k + 1=>by rw [uT,Qo x l m k,aF]; grind
theorem a4w {S:List (List Qi)} {ps:List (Nat × Nat)} {m a b:Nat}:uT (gm S a b) (tab m fun x=>gm S a (gq ps x)) (lP (oF S ps m) (zT S ps m b) m) m = zD S ps m a b:=by
 rw [Qo,zD]
 congr 1
 exact aA fun y hy=>by rw [iN hy]
theorem Hx {S : List (List Qi)} {ps : List (Nat × Nat)} {m L : Nat} (hf : aS S L) (hL : 1 ≤ L) : aS (oF S ps m) (L + 2) := aS.tab fun x y _ _ => by
 haveI h1:=hf.get hL (gq ps (iR x)) (gq ps y)
 haveI h2 : aH (if x = y then Qi.ofInt 1 else Qi.ofInt 0) 1 := by
  split
  ·exact mF
  ·exact (aH.zero (Nat.le_refl 1):aH Qi.zero 1)
 exact (fitSub:aH (_ - _) (1 + L + 1)).le zo
theorem a25 {S:List (List Qi)} {ps:List (Nat × Nat)} {m b L:Nat} (hf:aS S L) (hL:1 ≤ L):bR (zT S ps m b) L:=bR.tab fun x _=>hf.get hL _ _
theorem a4I {z:List Qi} {S:List (List Qi)} {js:List (Int × Int)} (hS:bT S z.length z.length):bT (vA z S js) (qX z S js).length (qX z S js).length ∧ (qX z S js).length ≤ z.length:=by
 by_cases h:vX z S js = 0
 ·by_cases h0 : js.length = 0
  ·rw [vA,qX,fF,fF,if_pos h,if_pos h,if_pos h0,if_pos h0]; exact ⟨hS,Nat.le_refl _⟩
  ·rw [vA,qX,fF,fF,if_pos h,if_pos h,if_neg h0,if_neg h0,Cf,rM]; exact ⟨bT.tab,uG _ _⟩
 ·rw [vA,qX,fF,fF,if_neg h,if_neg h]; exact ⟨⟨rfl,fun r hr=>by cases hr⟩,Nat.zero_le _⟩
end
section
open Go Go.RowKit
theorem a5d {x:Qi} (h:jG x = true):x ≠ 0:=fun e=>(a5e h).2 (by rw [e]; rfl)
theorem vF {z:List Qi} (h:z.all jG = true) {i:Nat} (hi:i < z.length):gv z i ≠ 0:=a5d (List.all_eq_true.1 h _ (by rw [show gv z i = z[i] by simp [gv,List.getD,hi]]; exact List.getElem_mem hi))
theorem pF {x y:Qi} {L M:Nat} (hx:aH x L) (hy:aH y M) (h:y ≠ 0):aH (x / y) (L + 3 * M + 2):=⟨hx.fit.div hy.fit h⟩
def Ev (i j:Nat):Qi:=if i = j then Qi.ofInt 1 else Qi.ofInt 0
theorem Sh (i j:Nat):aH (Ev i j) 1:=by
 unfold Ev; split
 ·exact mF
 ·exact aH.zero (Nat.le_refl 1)
end
section
open Go Go.RowKit
section
variable {φ:Qi → Qi → Bool} {z:List Qi} {js:List (Int × Int)}
end
theorem qY {a b:List (List Qi)} {n k m i j:Nat} (hi:i < n) (hj:j < m):gm (mJ a b n k m) i j = aF k fun t=>gm a i t * gm b t j:=dR hi hj
theorem a2h {A : List (List Qi)} {n : Nat} (h : bT A n n) : mJ (tN n) A n n n = A := lB qB h fun i hi j hj => by
 rw [qY hi hj,cE hi (f:=fun t=>gm (tN n) i t * gm A t j) fun k hk hne=>by rw [uQ hi hk,if_neg (Ne.symm hne)]; grind,uQ hi hi,if_pos rfl]; grind
theorem a2i {A : List (List Qi)} {n : Nat} (h : bT A n n) : mJ A (tN n) n n n = A := lB qB h fun i hi j hj => by
 rw [qY hi hj,cE hj (f:=fun t=>gm A i t * gm (tN n) t j) fun k hk hne=>by rw [uQ hk hj,if_neg hne]; grind,uQ hj hj,if_pos rfl]; grind
abbrev jp1 (js:List (Int × Int)) (k:Nat):Nat:=((kK js k).1 - 1).toNat
abbrev jp2 (js:List (Int × Int)) (k:Nat):Nat:=((kK js k).2 - 1).toNat
theorem Zr {js:List (Int × Int)} {k:Nat} (h:k < js.length):gq (cF js) (2 * k) = jp1 js k ∧ gq (cF js) (2 * k + 1) = jp2 js k:=by
 obtain ⟨h1,h2⟩:=Nv h
 rw [a21,a4z]; exact ⟨h1,h2⟩
def hlf:Qi:=Qi.frac 1 0 2
section
variable {js:List (Int × Int)} {n:Nat}
end
theorem uF : ∀ n, gY [] n = tab n fun i => i
 | 0=>rfl
 | n + 1=>by rw [gY,uF n,gD]; rfl
theorem Pj (n:Nat):(gY [] n).length = n:=by rw [uF,aC]
theorem a1e {z:List Qi}:mN z (gY [] z.length) = z:=by
 rw [mN,Pj,uF]
 apply List.ext_getElem?
 intro i
 by_cases hi:i < z.length
 ·rw [cP hi,cO,kV hi]; simp [gv,List.getD,hi]
 ·rw [List.getElem?_eq_none (by rw [aC]; omega),List.getElem?_eq_none zo]
end
section
open Go Go.RowKit
structure yZ (O:List Nat) (n:Nat):Prop where
 nd:O.Nodup
 all:∀ x,x ∈ O ↔ 1 ≤ x ∧ x ≤ n
theorem yZ.len {O:List Nat} {n:Nat} (h:yZ O n):O.length = n:=by
 refine Nat.le_antisymm ?_ ?_
 ·refine pig (n := n) (f := fun i => O.getD i 0 - 1) (fun x hx => ?_) (fun x y hx hy e => ?_)
  ·have := (h.all (O.getD x 0)).1 (by rw [show O.getD x 0 = O[x] by simp [List.getD, hx]]; exact List.getElem_mem hx)
   show O.getD x 0 - 1 < n; omega
  ·have a := (h.all (O.getD x 0)).1 (by rw [show O.getD x 0 = O[x] by simp [List.getD, hx]]; exact List.getElem_mem hx)
   have b:=(h.all (O.getD y 0)).1 (by rw [show O.getD y 0 = O[y] by simp [List.getD,hy]]; exact List.getElem_mem hy)
   have e2:O.getD x 0 = O.getD y 0:=by have:O.getD x 0 - 1 = O.getD y 0 - 1:=e; omega
   rw [show O.getD x 0 = O[x] by simp [List.getD,hx],show O.getD y 0 = O[y] by simp [List.getD,hy]] at e2
   exact (List.getElem_inj h.nd).1 e2
 ·have key : ∀ j, j < n → ∃ i, i < O.length ∧ O.getD i 0 = j + 1 := fun j hj => by
   obtain ⟨i,hi,e⟩:=List.getElem_of_mem ((h.all (j + 1)).2 ⟨by omega,by omega⟩)
   exact ⟨i,hi,by simp [List.getD,hi,e]⟩
  refine pig (n:=O.length) (f:=fun j=>if hj:j < n then Classical.choose (key j hj) else 0) (fun x hx=>by simp only [dif_pos hx]; exact (Classical.choose_spec (key x hx)).1) (fun x y hx hy e=>?_)
  simp only [dif_pos hx,dif_pos hy] at e
  have a:=(Classical.choose_spec (key x hx)).2
  have b:=(Classical.choose_spec (key y hy)).2
  rw [e] at a; omega
section
variable {O:List Nat} {n:Nat}
theorem yZ.at (h:yZ O n) {i:Nat} (hi:i < n):1 ≤ O.getD i 0 ∧ O.getD i 0 ≤ n:=by
 have hl:=h.len
 exact (h.all _).1 (by rw [show O.getD i 0 = O[i] by simp [List.getD,show i < O.length by omega]]; exact List.getElem_mem _)
theorem yZ.inj (h:yZ O n) {i j:Nat} (hi:i < n) (hj:j < n) (e:O.getD i 0 = O.getD j 0):i = j:=by
 have hl:=h.len
 rw [show O.getD i 0 = O[i] by simp [List.getD,show i < O.length by omega],show O.getD j 0 = O[j] by simp [List.getD,show j < O.length by omega]] at e
 exact (List.getElem_inj h.nd).1 e
theorem a0g (h : yZ O n) : sR n (O.map fun (q : Nat) => (q : Int)) = 0 := iM fun i hi => by
 have hl:=h.len
 rw [List.length_map] at hi
 have e:(O.map fun (q:Nat)=>(q:Int)).getD i 0 = ((O.getD i 0:Nat):Int):=by simp [List.getD,hi]
 have hr:=h.at (i:=i) zo
 show eB n _ _ = 0
 rw [e,eB,if_neg (fun k=>k zo),if_neg]
 intro k
 obtain ⟨x,hx,e2⟩:=List.any_eq_true.1 k
 rw [← List.map_take] at hx
 obtain ⟨y,hy,rfl⟩:=List.mem_map.1 hx
 obtain ⟨j,hj,e3⟩:=List.mem_take_iff_getElem.1 hy
 have e4:O.getD i 0 = y:=by have:=of_decide_eq_true e2; omega
 have:=h.inj (i:=i) (j:=j) zo zo (by rw [e4,← e3]; simp [List.getD,show j < O.length by omega])
 omega
end
end
section
open Go Go.RowKit
def a6v (S:Nat → Nat → Qi) (p q b:Nat) (v0 v1:Qi):Prop:=v0 = S q b + (S q p * v0 + S q q * v1) ∧ v1 = S p b + (S p p * v0 + S p q * v1)
def a0Z (S:Nat → Nat → Qi) (p q:Nat):Prop:=∀ v0 v1:Qi,v0 = S q p * v0 + S q q * v1 → v1 = S p p * v0 + S p q * v1 → v0 = 0 ∧ v1 = 0
theorem uP {M:List (List Qi)} {b:List Qi} {n:Nat} (h:bT M n n):kY M b n = 0 ↔ ∀ y:Nat → Qi,(∀ i,i < n → aF n (fun k=>gm M i k * y k) = 0) → ∀ k,k < n → y k = 0:=by
 constructor
 ·intro e; exact (nJ h e).2
 ·intro hk
  apply Classical.byContradiction; intro e
  obtain ⟨y,hy,k,hkn,hne⟩:=Mc h e
  exact hne (hk y hy k hkn)
theorem Oz (f:Nat → Qi):aF 2 f = f 0 + f 1:=by simp only [aF,q0]; grind
section
variable {S:List (List Qi)} {p q r t a b:Nat}
abbrev J1 (p q:Nat):List (Int × Int):=[(((p + 1:Nat):Int),((q + 1:Nat):Int))]
theorem p1n (p:Nat):(((p + 1:Nat):Int) - 1).toNat = p:=by omega
theorem a66:cF (J1 p q) = [(p,q)]:=by simp only [cF,J1,List.map_cons,List.map_nil,p1n]
theorem a6D:jW (J1 p q) = [p,q]:=by
 have e:jW (J1 p q) = [(((p + 1:Nat):Int) - 1).toNat,(((q + 1:Nat):Int) - 1).toNat]:=rfl
 rw [e,p1n,p1n]
theorem a5h {v:Nat → Qi}:(aF 2 (fun y=>gm (oF S [(p,q)] 2) 0 y * v y) = v 0 - (gm S q p * v 0 + gm S q q * v 1)) ∧ (aF 2 (fun y=>gm (oF S [(p,q)] 2) 1 y * v y) = v 1 - (gm S p p * v 0 + gm S p q * v 1)):=by
 rw [Rc zo,Rc zo,Oz,Oz]
 exact ⟨rfl,rfl⟩
theorem Vi {x y:Qi} (h:x - y = 0):x = y:=by grind
theorem Rr {bb:List Qi}:kY (oF S [(p,q)] 2) bb 2 = 0 ↔ a0Z (gm S) p q:=by
 rw [uP (nZ _ _ _)]
 constructor
 ·intro h v0 v1 h0 h1
  have hk := h (fun k => if k = 0 then v0 else v1) (fun i hi => by
   obtain ⟨r0,r1⟩:=a5h (S:=S) (p:=p) (q:=q) (v:=fun k=>if k = 0 then v0 else v1)
   have c:i = 0 ∨ i = 1:=by omega
   rcases c with rfl | rfl
   ·rw [r0]; show v0 - (gm S q p * v0 + gm S q q * v1) = 0; clear r0 r1 h; grind
   ·rw [r1]; show v1 - (gm S p p * v0 + gm S p q * v1) = 0; clear r0 r1 h; grind)
  exact ⟨hk 0 zo,hk 1 zo⟩
 ·intro h y hy
  obtain ⟨r0,r1⟩:=a5h (S:=S) (p:=p) (q:=q) (v:=y)
  obtain ⟨a0,a1⟩:=h (y 0) (y 1) (Vi (by rw [← r0]; exact hy 0 zo)) (Vi (by rw [← r1]; exact hy 1 zo))
  intro k hk
  have c:k = 0 ∨ k = 1:=by omega
  rcases c with rfl | rfl
  ·exact a0
  ·exact a1
theorem a6e (h:a0Z (gm S) p q):∃ v0 v1,a6v (gm S) p q b v0 v1 ∧ ∀ a,zD S [(p,q)] 2 a b = gm S a b + (gm S a p * v0 + gm S a q * v1):=by
 have hs:=(nJ (nZ S [(p,q)] 2) (Rr (bb:=zT S [(p,q)] 2 b) |>.2 h)).1
 obtain ⟨r0,r1⟩:=a5h (S:=S) (p:=p) (q:=q) (v:=gv (lP (oF S [(p,q)] 2) (zT S [(p,q)] 2 b) 2))
 have h0:=hs 0 zo
 have h1:=hs 1 zo
 rw [r0,Ns zo] at h0
 rw [r1,Ns zo] at h1
 refine ⟨gv (lP (oF S [(p,q)] 2) (zT S [(p,q)] 2 b) 2) 0,gv (lP (oF S [(p,q)] 2) (zT S [(p,q)] 2 b) 2) 1,⟨?_,?_⟩,fun a=>?_⟩
 ·have e : gm S (gq [(p, q)] (iR 0)) b = gm S q b := rfl
  rw [e] at h0; clear r0 r1 hs h h1; grind
 ·have e : gm S (gq [(p, q)] (iR 1)) b = gm S p b := rfl
  rw [e] at h1; clear r0 r1 hs h h0; grind
 ·rw [zD,Oz]; rfl
end
section
variable {S:Nat → Nat → Qi} {p q r t a b:Nat}
def S1 (S:Nat → Nat → Qi) (p q:Nat) (V:Nat → Qi × Qi) (a b:Nat):Qi:=S a b + (S a p * (V b).1 + S a q * (V b).2)
variable {V:Nat → Qi × Qi}
end
end
section
open Go Go.RowKit
def low (c a b:Nat):Nat:=c - (if a < c then 1 else 0) - (if b < c then 1 else 0)
def okP (N p q r t : Nat) : Bool :=
 decide ((gY [p,q] N).length = N - 2) && decide (low r p q < N - 2) && decide (low t p q < N - 2) && decide (low r p q ≠ low t p q) && decide (cO (gY [p,q] N) (low r p q) = r) && decide (cO (gY [p,q] N) (low t p q) = t)
 && decide ((gY [low r p q,low t p q] (N - 2)).map (cO (gY [p,q] N)) = gY [p,q,r,t] N) && decide ((gY [p,q,r,t] N).length = N - 4) && decide (gY [t,r,p,q] N = gY [p,q,r,t] N) && decide (gY [r,t,p,q] N = gY [p,q,r,t] N)
theorem Fk {n p:Nat} {l:List Nat} (hp:p < n) (h:p ∉ l):eB n ((p + 1:Nat):Int) (l.map fun (x:Nat)=>((x + 1:Nat):Int)) = 0:=by
 rw [eB,if_neg (fun k=>k ⟨by omega,by omega⟩),if_neg]
 simp only [List.any_map,List.any_eq_true,Function.comp,decide_eq_true_eq]
 rintro ⟨x,hx,e⟩
 exact h ((show x = p by omega) ▸ hx)
section
variable {z:List Qi} {S:List (List Qi)} {N p q r t:Nat} {ζ:Qi}
theorem a4K {js:List (Int × Int)} {k:Nat} {a b:Nat} {l:List Nat} (hk:kK js k = (((a + 1:Nat):Int),((b + 1:Nat):Int))) (hl:nE (js.take k) = l.map fun (x:Nat)=>((x + 1:Nat):Int)) (ha:a < z.length) (hb:b < z.length) (hal:a ∉ l) (hbl:b ∉ l) (hab:a ≠ b) (hz:gv z a = gv z b):wX z js k = 0:=by
 have e2:(l.map fun (x:Nat)=>((x + 1:Nat):Int)) ++ [((a + 1:Nat):Int)] = (l ++ [a]).map fun (x:Nat)=>((x + 1:Nat):Int):=by simp
 rw [wX,hk,hl]
 simp only []
 rw [e2,Fk ha hal,Fk hb (by simp only [List.mem_append,List.mem_singleton]; rintro (k | k); exact hbl k; exact hab k.symm),p1n,p1n,if_pos hz]; rfl
theorem Ub {f : Nat → Int} {n : Nat} {P : Prop} (hn : 1 ≤ n) (h : ∀ i, f i = 0 ↔ P) : kF f n = 0 ↔ P :=
 ⟨fun e=>(h 0).1 (gU e 0 zo),fun k=>iM fun i _=>(h i).2 k⟩
theorem a4G:dT z (J1 p q) = gY [p,q] z.length:=by rw [dT,a6D]
theorem a6k (h:vX z S (J1 p q) = 0):vA z S (J1 p q) = (tab (gY [p,q] z.length).length fun x=>tab (gY [p,q] z.length).length fun y=>zD S [(p,q)] 2 (cO (gY [p,q] z.length) x) (cO (gY [p,q] z.length) y)) ∧ qX z S (J1 p q) = mN z (gY [p,q] z.length):=by
 have e:Hz z S (J1 p q) = tab (dT z (J1 p q)).length fun x=>tab (dT z (J1 p q)).length fun y=>zD S (cF (J1 p q)) 2 (cO (dT z (J1 p q)) x) (cO (dT z (J1 p q)) y):=rfl
 constructor
 ·rw [vA,fF,if_pos h,if_neg (by simp),e,a4G,a66]
 ·rw [qX,fF,if_pos h,if_neg (by simp),Cf,a4G]
end
end
section
open Go Go.RowKit
abbrev pO (s f:List (List Qi)) (n:Nat):List (List Qi):=kO s f n 2
abbrev mE (s f:List (List Qi)) (p:Nat):Qi:=Qi.ofInt 1 - gm f 1 1 * gm s p p
def sQ (p i:Nat) (n:Nat):Nat:=if i < p then i else if i = p then n - 1 else i - 1
theorem Hd {p i n:Nat} (hp:p < n) (hi:i < n):skp p (sQ p i n) = if i = p then n else i:=by
 unfold sQ skp
 by_cases c:i < p
 ·rw [if_pos c,if_pos c,if_neg zo]
 ·rw [if_neg c]
  by_cases d:i = p
  ·rw [if_pos d,if_pos d,if_neg zo]; omega
  ·rw [if_neg d,if_neg d,if_neg zo]; omega
theorem Bx {p i n:Nat} (hi:i < n):sQ p i n < n:=by unfold sQ; split <;> (try split) <;> omega
def emL (n p : Nat) : Nat → List Nat
 | 0=>[]
 | k + 1=>emL n p k ++ (if k = p then [n - 1,k] else [k])
theorem Yp {n p : Nat} : ∀ k, emL n p k = tab (if p < k then k + 1 else k) fun i => sQ p i n
 | 0=>rfl
 | k + 1 => by
  rw [emL,Yp k]
  by_cases c:k = p
  ·subst c
   rw [if_neg (Nat.lt_irrefl k),if_pos rfl,if_pos (Nat.lt_succ_self k),gD,gD,List.append_assoc]
   have e1:sQ k k n = n - 1:=by unfold sQ; rw [if_neg (Nat.lt_irrefl k),if_pos rfl]
   have e2:sQ k (k + 1) n = k:=by unfold sQ; rw [if_neg zo,if_neg zo]; omega
   rw [e1,e2]; rfl
  ·rw [if_neg c]
   by_cases d:p < k
   ·rw [if_pos d,if_pos zo,gD (m:=k + 1),show sQ p (k + 1) n = k by unfold sQ; rw [if_neg zo,if_neg zo]; omega]
   ·rw [if_neg d,if_neg zo,gD,show sQ p k n = k by unfold sQ; rw [if_pos zo]]
def Fi (n p:Nat):List Nat:=emL n p (n - 1) ++ (if p + 1 = n then [n - 1] else [])
theorem yK {n p:Nat} (hp:p < n):Fi n p = tab n fun i=>sQ p i n:=by
 rw [Fi,Yp]
 by_cases c:p + 1 = n
 ·rw [if_pos c, if_neg zo]
  have e:tab n (fun i=>sQ p i n) = tab (n - 1 + 1) fun i=>sQ p i n:=by rw [show n - 1 + 1 = n by omega]
  rw [e,gD,show sQ p (n - 1) n = n - 1 by unfold sQ; rw [if_neg zo,if_pos zo]]
 ·rw [if_neg c,if_pos zo,List.append_nil,show n - 1 + 1 = n by omega]
def vQ (s f : List (List Qi)) (p i j : Nat) : Qi :=
 if i = p ∧ j = p then gm f 0 0 + gm f 0 1 * (gm f 1 0 * (gm s p p / mE s f p))
 else if j = p then gm s i p / mE s f p * gm f 1 0
 else if i = p then gm f 0 1 * (gm s p j / mE s f p)
 else gm s i j + gm s i p / mE s f p * (gm f 1 1 * gm s p j)
def He (s f:List (List Qi)) (p n:Nat):List (List Qi):=tab n fun i=>tab n fun j=>vQ s f p i j
def Ae (z fz:List Qi) (port:Int) (x:Nat):Int:=if fz.length ≠ 2 then 4 else if ¬ (1 ≤ port ∧ port ≤ z.length) then 1 else if gv fz (x - 1) = gv z (port - 1).toNat then 0 else 40
theorem a5Z {z fz:List Qi} {port:Int} {x:Nat} (h:Ae z fz port x = 0):fz.length = 2 ∧ (1 ≤ port ∧ port ≤ z.length) ∧ gv fz (x - 1) = gv z (port - 1).toNat:=by
 unfold Ae at h
 by_cases c1:fz.length = 2
 ·rw [if_neg (fun k => k c1)] at h
  by_cases c2:1 ≤ port ∧ port ≤ z.length
  ·rw [if_neg (fun k => k c2)] at h
   by_cases c3:gv fz (x - 1) = gv z (port - 1).toNat
   ·exact ⟨c1,c2,c3⟩
   ·rw [if_neg c3] at h; omega
  ·rw [if_pos c2] at h; omega
 ·rw [if_pos c1] at h; omega
def Bw (z:List Qi) (s:List (List Qi)) (fz:List Qi) (f:List (List Qi)) (port:Int):Int:=if Ae z fz port 2 ≠ 0 then Ae z fz port 2 else if mE s f (port - 1).toNat = Qi.zero then 6 else 0
theorem a3E {z fz:List Qi} {s f:List (List Qi)} {port:Int} (h:Ae z fz port 2 ≠ 0):Bw z s fz f port = Ae z fz port 2:=if_pos h
theorem Qq {z fz:List Qi} {s f:List (List Qi)} {port:Int} (h:Ae z fz port 2 = 0) (h2:mE s f (port - 1).toNat = Qi.zero):Bw z s fz f port = 6:=by rw [Bw,if_neg (fun k=>k h),if_pos h2]
theorem Yr {z fz:List Qi} {s f:List (List Qi)} {port:Int} (h:Ae z fz port 2 = 0) (h2:mE s f (port - 1).toNat ≠ Qi.zero):Bw z s fz f port = 0:=by rw [Bw,if_neg (fun k=>k h),if_neg h2]
def Ke (z:List Qi) (s:List (List Qi)) (fz:List Qi) (f:List (List Qi)) (port:Int):List Qi:=fF (Bw z s fz f port) (z.set (port - 1).toNat (gv fz 0))
def Mn (z:List Qi) (s:List (List Qi)) (fz:List Qi) (f:List (List Qi)) (port:Int):List (List Qi):=fF (Bw z s fz f port) (He s f (port - 1).toNat z.length)
end
section
open Go Go.RowKit
def Gb (x:Qi) (N:Nat):Prop:=∃ p q:Int,x = Qi.mk (p:Rat) (q:Rat) ∧ p.natAbs ≤ N ∧ q.natAbs ≤ N
theorem Gb.le {x:Qi} {N M:Nat} (h:Gb x N) (k:N ≤ M):Gb x M:=by
 obtain ⟨p,q,e,h1,h2⟩:=h; exact ⟨p,q,e,by omega,by omega⟩
theorem Gb.add {x y:Qi} {N M:Nat} (h:Gb x N) (k:Gb y M):Gb (x + y) (N + M):=by
 obtain ⟨p,q,rfl,h1,h2⟩:=h; obtain ⟨r,s,rfl,k1,k2⟩:=k
 refine ⟨p + r,q + s,Qi.ext' ?_ ?_,by omega,by omega⟩
 ·show (p:Rat) + (r:Rat) = ((p + r:Int):Rat); push_cast; rfl
 ·show (q:Rat) + (s:Rat) = ((q + s:Int):Rat); push_cast; rfl
theorem Gb.neg {x:Qi} {N:Nat} (h:Gb x N):Gb (-x) N:=by
 obtain ⟨p,q,rfl,h1,h2⟩:=h
 refine ⟨-p,-q,Qi.ext' ?_ ?_,by omega,by omega⟩
 ·show -(p:Rat) = ((-p:Int):Rat); push_cast; rfl
 ·show -(q:Rat) = ((-q:Int):Rat); push_cast; rfl
theorem Gb.sub {x y:Qi} {N M:Nat} (h:Gb x N) (k:Gb y M):Gb (x - y) (N + M):=by rw [Qi.sub_def]; exact h.add k.neg
theorem qS {p q:Int} {N M:Nat} (h:p.natAbs ≤ N) (k:q.natAbs ≤ M):(p * q).natAbs ≤ N * M:=by rw [Int.natAbs_mul]; exact Nat.mul_le_mul h k
theorem Gb.mul {x y:Qi} {N M:Nat} (h:Gb x N) (k:Gb y M):Gb (x * y) (2 * N * M):=by
 obtain ⟨p,q,rfl,h1,h2⟩:=h; obtain ⟨r,s,rfl,k1,k2⟩:=k
 have a1:=qS h1 k1; have a2:=qS h2 k2; have a3:=qS h1 k2; have a4:=qS h2 k1
 have e:2 * N * M = N * M + N * M:=by rw [Nat.mul_assoc,Nat.two_mul]
 refine ⟨p * r - q * s,p * s + q * r,Qi.ext' ?_ ?_,by omega,by omega⟩
 ·rw [Qi.mul_re]; show (p:Rat) * (r:Rat) - (q:Rat) * (s:Rat) = ((p * r - q * s:Int):Rat); push_cast; rfl
 ·rw [Qi.mul_im]; show (p:Rat) * (s:Rat) + (q:Rat) * (r:Rat) = ((p * s + q * r:Int):Rat); push_cast; rfl
theorem Gb.sum {f : Nat → Qi} {N : Nat} : ∀ {n : Nat}, (∀ k, k < n → Gb (f k) N) → Gb (aF n f) (n * N)
 | 0,_=>⟨0,0,Qi.ext' rfl rfl,by simp,by simp⟩
 | n + 1, h => by
  rw [aF,Nat.succ_mul]
  exact (Gb.sum fun k hk=>h k zo).add (h n zo)
theorem Gb.fit {x:Qi} {N L:Nat} (h:Gb x N) (hN:N < BB ^ L) (hL:1 ≤ L):aH x L:=by
 obtain ⟨p,q,rfl,h1,h2⟩:=h
 have e:Qi.mk (p:Rat) (q:Rat) = Qi.mk' p q 1:=Qi.ext' (by rw [Qi.mk_re]; show (p:Rat) = p / ((1:Nat):Rat); grind) (by rw [Qi.mk_im]; show (q:Rat) = q / ((1:Nat):Rat); grind)
 rw [e]
 exact ⟨Qi.Fit.mk (by decide) zo zo (Qi.one_lt hL)⟩
theorem sL (n:Nat) (f:Nat → Qi):aF (n + 1) f = f 0 + aF n fun k=>f (k + 1):=by
 rw [Nat.add_comm n 1,nM,Di]
 exact congrArg _ (aA fun k _=>by rw [Nat.add_comm])
def fs : Nat → Nat → Nat
 | 0,_=>1
 | n + 1,N=>2 * (n + 1) * N * fs n (4 * N * N)
theorem Nx {F:Nat → Nat → Qi} {n:Nat} {x:Nat → Qi}:wE F (n + 1) (n + 1) x ↔ (F 0 0 * x 0 + aF n (fun k=>F 0 (k + 1) * x (k + 1)) = 0) ∧ ∀ i,i < n → F (i + 1) 0 * x 0 + aF n (fun k=>F (i + 1) (k + 1) * x (k + 1)) = 0:=by
 constructor
 ·intro h
  exact ⟨by have:=h 0 zo; rwa [sL] at this,fun i hi=>by have:=h (i + 1) zo; rwa [sL] at this⟩
 ·rintro ⟨h1, h2⟩ i hi
  rw [sL]
  cases i with
  | zero=>exact h1
  | succ i=>exact h2 i zo
theorem Mh (n:Nat) (a b:Qi) (f g x:Nat → Qi):aF n (fun k=>(a * f k - b * g k) * x k) = a * aF n (fun k=>f k * x k) - b * aF n (fun k=>g k * x k):=by
 induction n with
 | zero=>simp only [aF,q0]; grind
 | succ n ih=>simp only [aF,ih]; grind
theorem yW (n:Nat) (a:Qi) (f x:Nat → Qi):aF n (fun k=>f k * (x k * a)) = a * aF n (fun k=>f k * x k):=by
 induction n with
 | zero=>simp only [aF,q0]; grind
 | succ n ih=>simp only [aF,ih]; grind
theorem a1T {F : Nat → Nat → Qi} {n N : Nat} (hp : F 0 0 ≠ 0) (hN : 1 ≤ N) (hF : ∀ i, i < n + 1 → ∀ j, j ≤ n + 1 → Gb (F i j) N) (hk : ∀ v, wE F (n + 1) (n + 1) v → ∀ k, k < n + 1 → v k = 0)
  (ih:∀ G:Nat → Nat → Qi,(∀ i,i < n → ∀ j,j ≤ n → Gb (G i j) (4 * N * N)) → (∀ v,wE G n n v → ∀ k,k < n → v k = 0) → ∃ (y:Nat → Qi) (e:Qi),e ≠ 0 ∧ Gb e (fs n (4 * N * N)) ∧ (∀ k,k < n → Gb (y k) (fs n (4 * N * N))) ∧ ∀ i,i < n → aF n (fun k=>G i k * y k) = e * G i n) :
  ∃ (y:Nat → Qi) (e:Qi),e ≠ 0 ∧ Gb e (fs (n + 1) N) ∧ (∀ k,k < n + 1 → Gb (y k) (fs (n + 1) N)) ∧ ∀ i,i < n + 1 → aF (n + 1) (fun k=>F i k * y k) = e * F i (n + 1):=by
 obtain ⟨y, e, he, ge, gy, hy⟩ := ih (fun i j => F 0 0 * F (i + 1) (j + 1) - F (i + 1) 0 * F 0 (j + 1)) (fun i hi j hj => by
   have h1:=(hF 0 zo 0 zo).mul (hF (i + 1) zo (j + 1) zo)
   have h2:=(hF (i + 1) zo 0 zo).mul (hF 0 zo (j + 1) zo)
   exact (h1.sub h2).le (by rw [show 4 * N * N = 2 * N * N + 2 * N * N by rw [← Nat.add_mul]; congr 1; omega]; exact Nat.le_refl _)) (fun v hv k hkn=>by
   have hz := hk (fun k => if k = 0 then -(aF n fun k => F 0 (k + 1) * v k) else F 0 0 * v (k - 1)) (Nx.2 ⟨by
    simp only [if_true,Nat.add_sub_cancel,if_neg (Nat.succ_ne_zero _)]
    have:=yW n (F 0 0) (fun k=>F 0 (k + 1)) v
    simp only [Qi.mul_comm' _ (F 0 0)] at this ⊢
    rw [this]; grind,fun i hi=>by
    simp only [if_true,Nat.add_sub_cancel,if_neg (Nat.succ_ne_zero _)]
    have:=yW n (F 0 0) (fun k=>F (i + 1) (k + 1)) v
    simp only [Qi.mul_comm' _ (F 0 0)] at this ⊢
    rw [this]
    have h:=hv i hi
    have h2:=Mh n (F 0 0) (F (i + 1) 0) (fun k=>F (i + 1) (k + 1)) (fun k=>F 0 (k + 1)) v
    simp only [] at h
    rw [h2] at h
    grind⟩) (k + 1) zo
   simp only [Nat.add_sub_cancel,if_neg (Nat.succ_ne_zero _)] at hz
   rcases jS hz with h | h
   ·exact absurd h hp
   ·exact h)
 have hf1 : 1 ≤ fs n (4 * N * N) := by
  apply Decidable.byContradiction; intro h
  have h0:fs n (4 * N * N) = 0:=by omega
  rw [h0] at ge
  obtain ⟨p,q,e1,p1,p2⟩:=ge
  have hp0:p = 0:=by omega
  have hq0:q = 0:=by omega
  exact he (by rw [e1,hp0,hq0]; exact Qi.ext' rfl rfl)
 have hG : fs (n + 1) N = (n + 1) * (2 * fs n (4 * N * N) * N) := by
  rw [fs]; simp only [Nat.mul_comm,Nat.mul_left_comm,Nat.mul_assoc]
 have hG1:2 * fs n (4 * N * N) * N ≤ fs (n + 1) N:=by rw [hG]; exact Nat.le_mul_of_pos_left _ zo
 refine ⟨fun k=>if k = 0 then e * F 0 (n + 1) - aF n (fun k=>F 0 (k + 1) * y k) else y (k - 1) * F 0 0,e * F 0 0,fun h=>?_,?_,fun k hkn=>?_,fun i hi=>?_⟩
 ·rcases jS h with h | h
  ·exact he h
  ·exact hp h
 ·exact (ge.mul (hF 0 zo 0 zo)).le hG1
 ·cases k with
  | zero =>
   simp only [if_true]
   have h1:=ge.mul (hF 0 zo (n + 1) zo)
   have h2:Gb (aF n fun k=>F 0 (k + 1) * y k) (n * (2 * N * fs n (4 * N * N))):=Gb.sum fun k hk=>(hF 0 zo (k + 1) zo).mul (gy k hk)
   refine (h1.sub h2).le ?_
   have e3:n * (2 * N * fs n (4 * N * N)) = n * (2 * fs n (4 * N * N) * N):=by simp only [Nat.mul_comm,Nat.mul_left_comm,Nat.mul_assoc]
   have e4:(n + 1) * (2 * fs n (4 * N * N) * N) = n * (2 * fs n (4 * N * N) * N) + 2 * fs n (4 * N * N) * N:=Nat.succ_mul _ _
   rw [hG,e3,e4,Nat.add_comm]; exact Nat.le_refl _
  | succ k =>
   simp only [Nat.add_sub_cancel,if_neg (Nat.succ_ne_zero _)]
   exact ((gy k zo).mul (hF 0 zo 0 zo)).le hG1
 ·rw [sL]
  simp only [if_true,Nat.add_sub_cancel,if_neg (Nat.succ_ne_zero _)]
  rw [yW n (F 0 0) (fun k=>F i (k + 1)) y]
  cases i with
  | zero=>grind
  | succ i =>
   have h:=hy i zo
   have h2:=Mh n (F 0 0) (F (i + 1) 0) (fun k=>F (i + 1) (k + 1)) (fun k=>F 0 (k + 1)) y
   rw [h2] at h
   grind
theorem Yy : ∀ (n N : Nat) (F : Nat → Nat → Qi), 1 ≤ N → (∀ i, i < n → ∀ j, j ≤ n → Gb (F i j) N) → (∀ v, wE F n n v → ∀ k, k < n → v k = 0) →
  ∃ (y:Nat → Qi) (e:Qi),e ≠ 0 ∧ Gb e (fs n N) ∧ (∀ k,k < n → Gb (y k) (fs n N)) ∧ ∀ i,i < n → aF n (fun k=>F i k * y k) = e * F i n
 | 0,N,F,_,_,_=>⟨fun _=>0,1,fun h=>by have:=congrArg Qi.re h; revert this; decide,⟨1,0,Qi.ext' rfl rfl,by simp [fs],by simp [fs]⟩,fun k hk=>by omega,fun i hi=>by omega⟩
 | n + 1, N, F, hN, hF, hk => by
  have hpz : ∃ p, p < n + 1 ∧ F p 0 ≠ 0 := by
   apply Classical.byContradiction; intro hno
   have hz : ∀ p, p < n + 1 → F p 0 = 0 := fun p hp => by
    apply Classical.byContradiction; intro h; exact hno ⟨p,hp,h⟩
   have := hk (fun k => if k = 0 then 1 else 0) (fun i hi => by
    rw [cL]
    intro k hk
    by_cases e:k = 0
    ·subst e; rw [hz i hi]; grind
    ·simp only [if_neg e]; grind) 0 zo
   simp only [if_true] at this
   have:=congrArg Qi.re this; revert this; decide
  obtain ⟨p,hp,hpz⟩:=hpz
  have hN4:1 ≤ 4 * N * N:=Nat.mul_pos zo zo
  obtain ⟨y, e, he, ge, gy, hy⟩ := a1T (F := fun i => F (Su p 0 i)) (n := n) (N := N) (by simpa [Su] using hpz) hN (fun i hi j hj => hF _ (Jc hp zo hi) j hj)
   (fun v hv=>hk v ((Kv hp zo).1 hv)) (fun G hG hGk=>Yy n (4 * N * N) G hN4 hG hGk)
  refine ⟨y,e,he,ge,gy,fun i hi=>?_⟩
  have:=hy (Su p 0 i) (Jc hp zo hi)
  simp only [Sv] at this
  exact this
theorem a1U {N:Nat}:∀ {n:Nat},n ≤ 4 → 1 ≤ N → fs n N ≤ 1610612736 * N ^ 15:=by
 intro n hn hN
 have hp:∀ k,k ≤ 15 → N ^ k ≤ N ^ 15:=fun k hk=>Nat.pow_le_pow_right hN hk
 have h0:=hp 0 zo; have h1:=hp 1 zo; have h3:=hp 3 zo; have h7:=hp 7 zo
 match n,hn with
 | 0,_=>rw [fs]; rw [Nat.pow_zero] at h0; omega
 | 1,_=>simp only [fs]; rw [show 2 * (0 + 1) * N * 1 = 2 * N ^ 1 by grind]; omega
 | 2,_=>simp only [fs]; rw [show 2 * (1 + 1) * N * (2 * (0 + 1) * (4 * N * N) * 1) = 32 * N ^ 3 by grind]; omega
 | 3,_=>simp only [fs]; rw [show 2 * (2 + 1) * N * (2 * (1 + 1) * (4 * N * N) * (2 * (0 + 1) * (4 * (4 * N * N) * (4 * N * N)) * 1)) = 12288 * N ^ 7 by grind]; omega
 | 4,_=>simp only [fs]; rw [show 2 * (3 + 1) * N * (2 * (2 + 1) * (4 * N * N) * (2 * (1 + 1) * (4 * (4 * N * N) * (4 * N * N)) * (2 * (0 + 1) * (4 * (4 * (4 * N * N) * (4 * N * N)) * (4 * (4 * N * N) * (4 * N * N))) * 1))) = 1610612736 * N ^ 15 by grind]; omega
theorem wP (x:Qi):((x.den:Int):Rat) * x.re = (x.a:Rat) ∧ ((x.den:Int):Rat) * x.im = (x.b:Rat):=by
 have h:=Qi.nc x.den_pos
 have h2:((x.den:Int):Rat) = (x.den:Rat):=by push_cast; rfl
 rw [h2]
 exact ⟨by rw [Qi.re_eq x]; grind,by rw [Qi.im_eq x]; grind⟩
theorem Iu {L : Nat} {x : Nat → Qi} : ∀ k, (∀ j, j < k → aH (x j) L) → ∃ d : Nat, 0 < d ∧ d ≤ BB ^ (k * L) ∧ ∀ j, j < k → Gb (Qi.ofInt d * x j) (BB ^ (k * L))
 | 0,_=>⟨1,by decide,Nat.pow_pos eP,fun j hj=>by omega⟩
 | k + 1, h => by
  obtain ⟨d,d0,dl,hd⟩:=Iu k fun j hj=>h j zo
  have hx:=(h k zo).fit
  have hm:=wP (x k)
  have hpow:BB ^ ((k + 1) * L) = BB ^ (k * L) * BB ^ L:=by rw [Nat.succ_mul,Nat.pow_add]
  refine ⟨d * (x k).den,Nat.mul_pos d0 (x k).den_pos,?_,fun j hj=>?_⟩
  ·rw [hpow]; exact Nat.mul_le_mul dl (Nat.le_of_lt hx.2.2)
  ·by_cases e : j = k
   ·subst e
    refine ⟨d * (x j).a,d * (x j).b,Qi.ext' ?_ ?_,?_,?_⟩
    ·rw [Qi.mul_re]
     show (((d * (x j).den:Nat):Int):Rat) * (x j).re - 0 * (x j).im = ((d * (x j).a:Int):Rat)
     have:=hm.1; push_cast at *; grind
    ·rw [Qi.mul_im]
     show (((d * (x j).den:Nat):Int):Rat) * (x j).im + 0 * (x j).re = ((d * (x j).b:Int):Rat)
     have:=hm.2; push_cast at *; grind
    ·rw [hpow]; exact qS (by simpa using dl) (Nat.le_of_lt hx.1)
    ·rw [hpow]; exact qS (by simpa using dl) (Nat.le_of_lt hx.2.1)
   ·obtain ⟨p, q, e1, h1, h2⟩ := hd j zo
    have er:=congrArg Qi.re e1; have ei:=congrArg Qi.im e1
    rw [Qi.mul_re] at er; rw [Qi.mul_im] at ei
    refine ⟨p * (x k).den,q * (x k).den,Qi.ext' ?_ ?_,?_,?_⟩
    ·rw [Qi.mul_re]
     have er:((d:Int):Rat) * (x j).re - 0 * (x j).im = (p:Rat):=er
     show (((d * (x k).den:Nat):Int):Rat) * (x j).re - 0 * (x j).im = ((p * (x k).den:Int):Rat)
     push_cast at *; grind
    ·rw [Qi.mul_im]
     have ei:((d:Int):Rat) * (x j).im + 0 * (x j).re = (q:Rat):=ei
     show (((d * (x k).den:Nat):Int):Rat) * (x j).im + 0 * (x j).re = ((q * (x k).den:Int):Rat)
     push_cast at *; grind
    ·rw [hpow]; exact qS h1 (by simpa using Nat.le_of_lt hx.2.2)
    ·rw [hpow]; exact qS h2 (by simpa using Nat.le_of_lt hx.2.2)
theorem Le {d : Nat} (h : 0 < d) : Qi.ofInt d ≠ 0 := fun e => by
 have:=congrArg Qi.re e
 have h2:((d:Int):Rat) = ((0:Int):Rat):=this
 rw [Rat.intCast_inj] at h2; omega
def a5q (L:Nat):Nat:=4 * (75 * L + 1) + 2
theorem a0K {M:List (List Qi)} {b:List Qi} {n L:Nat} (h:bT M n n) (hM:aS M L) (hb:bR b L) (hL:1 ≤ L) (hn:n ≤ 4) (hE:kY M b n = 0):bR (lP M b n) (a5q L):=by
 obtain ⟨s1,s2⟩:=nJ h hE
 have hrow : ∀ i, ∃ d : Nat, 0 < d ∧ ∀ j, j < n + 1 → Gb (Qi.ofInt d * (if j < n then gm M i j else gv b i)) (BB ^ (5 * L)) := fun i => by
  obtain ⟨d, d0, _, hd⟩ := Iu (L := L) (x := fun j => if j < n then gm M i j else gv b i) (n + 1) fun j _ => by
   show aH (if j < n then gm M i j else gv b i) L
   split
   ·exact hM.get hL i j
   ·exact hb.get hL i
  exact ⟨d,d0,fun j hj=>(hd j hj).le (Nat.pow_le_pow_right eP (Nat.mul_le_mul_right _ zo))⟩
 have hd:∃ d:Nat → Nat,∀ i,0 < d i ∧ ∀ j,j < n + 1 → Gb (Qi.ofInt (d i) * (if j < n then gm M i j else gv b i)) (BB ^ (5 * L)):=⟨fun i=>Classical.choose (hrow i),fun i=>Classical.choose_spec (hrow i)⟩
 obtain ⟨d,hd⟩:=hd
 have cancel : ∀ {i : Nat} {u : Qi}, Qi.ofInt (d i) * u = 0 → u = 0 := fun {i u} hu => by
  rcases jS hu with k | k
  ·exact absurd k (Le (hd i).1)
  ·exact k
 have hsum : ∀ (i : Nat) (v : Nat → Qi), aF n (fun k => Qi.ofInt (d i) * (if k < n then gm M i k else gv b i) * v k) = Qi.ofInt (d i) * aF n (fun k => gm M i k * v k) := fun i v => by
  rw [Qi.mul_comm',← iV]
  exact aA fun k hk=>by rw [if_pos hk]; grind
 have hN:1 ≤ BB ^ (5 * L):=Nat.pow_pos eP
 obtain ⟨y, e, he, ge, gy, hy⟩ := Yy n (BB ^ (5 * L)) (fun i j => Qi.ofInt (d i) * (if j < n then gm M i j else gv b i)) hN (fun i _ j hj => (hd i).2 j zo) (fun v hv => s2 v fun i hi => by
  have:=hv i hi
  simp only [] at this
  rw [hsum] at this
  exact cancel this)
 have hbig : fs n (BB ^ (5 * L)) < BB ^ (75 * L + 1) := by
  refine Nat.lt_of_le_of_lt (a1U hn hN) ?_
  rw [← Nat.pow_mul,show 5 * L * 15 = 75 * L by omega,Nat.pow_succ,Nat.mul_comm]
  exact Nat.mul_lt_mul_of_pos_left (by decide) (Nat.pow_pos eP)
 have hsol : ∀ k, k < n → y k - e * gv (lP M b n) k = 0 := s2 (fun k => y k - e * gv (lP M b n) k) fun i hi => by
  have h1:=hy i hi
  rw [hsum,if_neg zo] at h1
  have h2:=s1 i hi
  have h3 : aF n (fun k => gm M i k * (y k - e * gv (lP M b n) k)) = aF n (fun k => gm M i k * y k) - e * aF n (fun k => gm M i k * gv (lP M b n) k) := by
   rw [← rN]; exact aA fun k _=>by grind
  rw [h3,h2]
  exact cancel (i:=i) (by grind)
 intro x hx
 obtain ⟨k,hk,rfl⟩:=List.mem_iff_getElem.1 hx
 rw [xN] at hk
 have hg:(lP M b n)[k] = gv (lP M b n) k:=by simp [gv,List.getD,xN,hk]
 rw [hg]
 have e1:gv (lP M b n) k = y k / e:=(Yu he (by have:=hsol k hk; grind)).symm
 haveI f1:aH (y k) (75 * L + 1):=(gy k hk).fit hbig zo
 haveI f2:aH e (75 * L + 1):=ge.fit hbig zo
 rw [e1]
 exact (fitDiv (x:=y k) (y:=e)).le (by unfold a5q; omega)
end
section
open Go Go.RowKit
def Zk (l : List Nat) (p : Nat) : Nat → Int
 | 0=>-1
 | k + 1=>if l.getD (l.length - (k + 1)) 0 = p then ((l.length - (k + 1):Nat):Int) else Zk l p k
def Ce (l:List Nat) (p:Nat):Int:=Zk l p l.length
theorem a3G (l : List Nat) (p : Nat) : ∀ k, Zk l p k = -1 ∨ (0 ≤ Zk l p k ∧ (Zk l p k).toNat < l.length ∧ l.getD (Zk l p k).toNat 0 = p) ∨ l.length < k
 | 0=>.inl rfl
 | k + 1 => by
  rw [Zk]
  by_cases c:l.length < k + 1
  ·exact .inr (.inr c)
  ·by_cases e : l.getD (l.length - (k + 1)) 0 = p
   ·rw [if_pos e]; exact .inr (.inl ⟨by omega,by rw [Int.toNat_natCast]; omega,by rw [Int.toNat_natCast]; exact e⟩)
   ·rw [if_neg e]
    rcases a3G l p k with h | h | h
    ·exact .inl h
    ·exact .inr (.inl h)
    ·omega
theorem Qz (l:List Nat) (p:Nat):Ce l p = -1 ∨ (0 ≤ Ce l p ∧ (Ce l p).toNat < l.length ∧ l.getD (Ce l p).toNat 0 = p):=by
 rcases a3G l p l.length with h | h | h
 ·exact .inl h
 ·exact .inr h
 ·omega
theorem Zl {l : List Nat} {p : Nat} : ∀ {k : Nat}, k ≤ l.length → Zk l p k < 0 → ∀ x, l.length - k ≤ x → x < l.length → l.getD x 0 ≠ p
 | 0,_,_,x,h1,h2=>by omega
 | k + 1, hk, h, x, h1, h2 => by
  rw [Zk] at h
  by_cases e:l.getD (l.length - (k + 1)) 0 = p
  ·rw [if_pos e] at h; omega
  ·rw [if_neg e] at h
   by_cases c:x = l.length - (k + 1)
   ·rw [c]; exact e
   ·exact Zl (k:=k) zo h x zo h2
theorem Ra {l:List Nat} {p:Nat}:0 ≤ Ce l p ↔ p ∈ l:=by
 constructor
 ·intro h
  rcases Qz l p with k | ⟨_,k1,k2⟩
  ·omega
  ·rw [← k2,show l.getD (Ce l p).toNat 0 = l[(Ce l p).toNat] by simp [List.getD,k1]]; exact List.getElem_mem k1
 ·intro h
  apply Classical.byContradiction; intro hn
  obtain ⟨x,hx,e⟩:=List.getElem_of_mem h
  exact Zl (l:=l) (p:=p) (Nat.le_refl _) (show Zk l p l.length < 0 by have:¬ 0 ≤ Zk l p l.length:=hn; omega) x zo hx (by rw [show l.getD x 0 = l[x] by simp [List.getD,hx]]; exact e)
def Vr (js:List (Int × Int)):List Nat:=tab (2 * js.length) (gq (cF js))
def uE (js:List (Int × Int)):List Nat:=tab (2 * js.length) fun x=>gq (cF js) (iR x)
theorem Ss {α:Type} (f:Nat → α) (k:Nat):tab (2 * (k + 1)) f = tab (2 * k) f ++ [f (2 * k),f (2 * k + 1)]:=by
 rw [show 2 * (k + 1) = 2 * k + 1 + 1 by omega,gD,gD,List.append_assoc]; rfl
theorem a3I (js:List (Int × Int)):Vr js = jW js:=by
 have h:=Dk (l:=jW js) (m:=2 * js.length) (Ah js)
 rw [h]
 refine (cR fun x hx=>?_).symm
 exact Hw hx
theorem a2P (k:Nat):iR (2 * k) = 2 * k + 1 ∧ iR (2 * k + 1) = 2 * k:=by
 constructor
 ·rw [iR,if_pos zo]
 ·rw [iR,if_neg zo]; omega
theorem a4J {js:List (Int × Int)} {n k:Nat} (hp:sR n (nE js) = 0) (hk:k < js.length):(kK js k).1 - 1 = ((gq (cF js) (2 * k):Nat):Int) ∧ (kK js k).2 - 1 = ((gq (cF js) (2 * k + 1):Nat):Int) ∧ -1000 ≤ (kK js k).1 ∧ (kK js k).1 ≤ n ∧ -1000 ≤ (kK js k).2 ∧ (kK js k).2 ≤ n:=by
 have hmm:=fun x hx=>Im hp x hx
 have hm1:(kK js k).1 ∈ nE js:=by rw [nE,List.mem_flatMap]; exact ⟨kK js k,by rw [show kK js k = js[k] by simp [kK,List.getD,hk]]; exact List.getElem_mem hk,by simp⟩
 have hm2:(kK js k).2 ∈ nE js:=by rw [nE,List.mem_flatMap]; exact ⟨kK js k,by rw [show kK js k = js[k] by simp [kK,List.getD,hk]]; exact List.getElem_mem hk,by simp⟩
 have hb1:=hmm _ hm1
 have hb2:=hmm _ hm2
 obtain ⟨e1,e2⟩:=Zr hk
 rw [e1,e2]
 exact ⟨by show _ = (((kK js k).1 - 1).toNat:Int); omega,by show _ = (((kK js k).2 - 1).toNat:Int); omega,by omega,by omega,by omega,by omega⟩
def gnV (S:List (List Qi)) (js:List (Int × Int)) (x:Nat):List Qi:=lP (oF S (cF js) (2 * js.length)) (ek (2 * js.length) x) (2 * js.length)
def Vq (i k:Nat):Qi:=if k = i then Qi.ofInt 1 else Qi.ofInt 0
def sW (S:List (List Qi)) (js:List (Int × Int)) (i k:Nat):Qi:=if 0 ≤ Ce (uE js) k then Vq i k + aF (2 * js.length) (fun y=>gm S i (gq (cF js) y) * gv (gnV S js (Ce (uE js) k).toNat) y) else Vq i k
def yM (S:List (List Qi)) (js:List (Int × Int)) (N:Nat):List (List Qi):=(gY (jW js) N).map fun i=>tab N fun k=>sW S js i k
theorem a1X (i k:Nat):aH (Vq i k) 1:=by
 unfold Vq; split
 ·exact mF
 ·exact (aH.zero (Nat.le_refl 1):aH Qi.zero 1)
theorem a20 {S:List (List Qi)} {js:List (Int × Int)} {i t L G:Nat} {v:List Qi} (hf:aS S L) (hL:1 ≤ L) (hv:bR v G) (hG:1 ≤ G) (ht:t ≤ 8):aH (aF t fun y=>gm S i (gq (cF js) y) * gv v y) (8 * (L + G) + 17):=by
 refine (aH.sum (L:=L + G + 1) fun y _=>?_).le ?_
 ·haveI := hf.get hL i (gq (cF js) y); haveI := hv.get hG y
  exact fitMul
 ·have : t * (L + G + 1 + 1) ≤ 8 * (L + G + 1 + 1) := Nat.mul_le_mul_right _ ht
  omega
end
section
open Go Go.RowKit
theorem Zd {f:Nat → List Qi} {l:List Nat} {a k:Nat} (h:a < l.length):gm (l.map f) a k = gv (f (cO l a)) k:=by simp [gm,cO,List.getD,h]
section
variable {z:List Qi} {s c:List (List Qi)} {g t:Qi} {p:Nat}
theorem lQ (n:Nat) (f:Nat → Qi):aF (n + 1) f = aF n f + f n:=rfl
theorem a1Y {S:List (List Qi)} {js:List (Int × Int)} {i k L G:Nat} (hf:aS S L) (hL:1 ≤ L) (hv:∀ x,bR (gnV S js x) G) (hG:1 ≤ G) (hj:2 * js.length ≤ 8):aH (sW S js i k) (8 * (L + G) + 19):=by
 haveI g3:=a1X i k
 unfold sW
 split
 ·haveI g4 := a20 (i := i) (t := 2 * js.length) (js := js) hf hL (hv (Ce (uE js) k).toNat) hG hj
  exact (fitAdd).le zo
 ·exact g3.le zo
theorem a1Z {S : List (List Qi)} {js : List (Int × Int)} {N L G : Nat} (hf : aS S L) (hL : 1 ≤ L) (hv : ∀ x, bR (gnV S js x) G) (hG : 1 ≤ G) (hj : 2 * js.length ≤ 8) : aS (yM S js N) (8 * (L + G) + 19) := fun r hr => by
 obtain ⟨i,_,rfl⟩:=List.mem_map.1 hr
 exact bR.tab fun k _=>a1Y hf hL hv hG hj
theorem Qw (S : List (List Qi)) (js : List (Int × Int)) (N : Nat) : bT (yM S js N) (gY (jW js) N).length N := ⟨by rw [yM, List.length_map], fun r hr => by
 obtain ⟨i,_,rfl⟩:=List.mem_map.1 hr; exact aC _ _⟩
end
end
section
open Go Go.RowKit
theorem Ny {A B C : List (List Qi)} {n : Nat} : mJ (mJ A B n n n) C n n n = mJ A (mJ B C n n n) n n n := lB qB qB fun i hi j hj => by
 rw [qY hi hj,qY hi hj]
 have e1 : aF n (fun t => gm (mJ A B n n n) i t * gm C t j) = aF n fun t => aF n fun u => gm A i u * gm B u t * gm C t j := aA fun t ht => by
  rw [qY hi ht,← iV]
 have e2 : aF n (fun u => gm A i u * gm (mJ B C n n n) u j) = aF n fun u => aF n fun t => gm A i u * gm B u t * gm C t j := aA fun u hu => by
  rw [qY hu hj,Qi.mul_comm',← iV]
  exact aA fun t _=>by grind
 rw [e1,e2,iT]
theorem By {n i j:Nat} (hi:i < n) (hj:j < n):gm (tN n) i j = if i = j then 1 else 0:=uQ hi hj
theorem Yn {n j i:Nat} (hi:i < n) (hj:j < n):gv (ek n j) i = if i = j then 1 else 0:=by
 have h:gv (ek n j) i = if j = i then 1 else 0:=By (n:=n) hj hi
 rw [h]
 by_cases c:i = j
 ·rw [if_pos c,if_pos c.symm]
 ·rw [if_neg c,if_neg (Ne.symm c)]
theorem a3F {M : List (List Qi)} {n : Nat} (h : bT M n n) (hE : Nq M n = 0) : mJ M (Kn M n) n n n = tN n := lB qB (uD n) fun i hi j hj => by
 have hs:=(nJ h (Kp hE j hj)).1 i hi
 rw [qY hi hj,By hi hj,← Yn hi hj,← hs]
 exact aA fun t ht=>by rw [show gm (Kn M n) t j = gv (lP M (ek n j) n) t from dR ht hj]
theorem a2c {M X : List (List Qi)} {n : Nat} (h : mJ X M n n n = tN n) {y : Nat → Qi} (hy : ∀ i, i < n → aF n (fun k => gm M i k * y k) = 0) : ∀ k, k < n → y k = 0 := fun k hk => by
 have e1:aF n (fun i=>gm X k i * aF n (fun t=>gm M i t * y t)) = 0:=cL fun i hi=>by rw [hy i hi]; grind
 have e2 : aF n (fun i => gm X k i * aF n (fun t => gm M i t * y t)) = aF n fun i => aF n fun t => gm X k i * gm M i t * y t := aA fun i _ => by
  rw [Qi.mul_comm',← iV]; exact aA fun t _=>by grind
 have e3 : aF n (fun t => aF n fun i => gm X k i * gm M i t * y t) = aF n fun t => gm (tN n) k t * y t := aA fun t ht => by
  rw [← h,qY hk ht,← iV]
 rw [e2,iT,e3] at e1
 rw [cE (i:=k) hk (fun t ht hne=>by rw [By hk ht,if_neg (Ne.symm hne)]; grind),By hk hk,if_pos rfl] at e1
 grind
theorem Rj {M X : List (List Qi)} {n : Nat} (hM : bT M n n) (h : mJ X M n n n = tN n) : Nq M n = 0 := iM fun k hk => by
 apply Classical.byContradiction; intro e
 obtain ⟨y,hy,k,hk,hne⟩:=Mc hM e
 exact hne (a2c h hy k hk)
theorem a4L {M X Y:List (List Qi)} {n:Nat} (hX:bT X n n) (hY:bT Y n n) (h:mJ X M n n n = tN n) (k:mJ M Y n n n = tN n):X = Y:=by
 rw [← a2i hX,← k,← Ny,h,a2h hY]
theorem Si {M Y:List (List Qi)} {n:Nat} (hM:bT M n n) (hY:bT Y n n) (h:mJ M Y n n n = tN n):mJ Y M n n n = tN n:=by
 have e:=Rj hY h
 have r:=a3F hY e
 rw [a4L hM (Ko Y n) h r]; exact r
theorem a62 {M:List (List Qi)} {n:Nat} (h:bT M n n) (hE:Nq M n = 0):mJ (Kn M n) M n n n = tN n:=Si h (Ko M n) (a3F h hE)
theorem a2X {M Y:List (List Qi)} {n:Nat} (hM:bT M n n) (hY:bT Y n n) (h:mJ M Y n n n = tN n):Nq M n = 0:=Rj hM (Si hM hY h)
section
variable {a b:Qi} {A B C:List (List Qi)} {d e:Nat → Qi} {n:Nat}
end
theorem q2:Qi.ofInt 2 = 2:=rfl
section
variable {z:List Qi} {s:List (List Qi)}
end
end
section
open Go Go.RowKit
section
variable {z:List Qi} {S c:List (List Qi)} {js:List (Int × Int)} {N:Nat}
def Ks (S:List (List Qi)) (js:List (Int × Int)):List (List Qi):=tab (2 * js.length) fun x=>tab (2 * js.length) fun y=>Ev x y - gm S (gq (cF js) (iR y)) (gq (cF js) x)
def Vs (S:List (List Qi)) (js:List (Int × Int)) (i:Nat):List Qi:=tab (2 * js.length) fun y=>gm S i (gq (cF js) y)
def Kr (S:List (List Qi)) (js:List (Int × Int)) (i:Nat):List Qi:=lP (Ks S js) (Vs S js i) (2 * js.length)
theorem sA (S:List (List Qi)) (js:List (Int × Int)):bT (Ks S js) (2 * js.length) (2 * js.length):=bT.tab
theorem Nt {x y:Nat} (hx:x < 2 * js.length) (hy:y < 2 * js.length):gm (Ks S js) x y = gm (oF S (cF js) (2 * js.length)) y x:=by
 have e1:gm (Ks S js) x y = Ev x y - gm S (gq (cF js) (iR y)) (gq (cF js) x):=dR hx hy
 have e2:gm (oF S (cF js) (2 * js.length)) y x = (if y = x then Qi.ofInt 1 else Qi.ofInt 0) - gm S (gq (cF js) (iR y)) (gq (cF js) x):=dR hy hx
 rw [e1,e2,Ev]
 by_cases c:x = y
 ·rw [if_pos c,if_pos c.symm]
 ·rw [if_neg c,if_neg (Ne.symm c)]
theorem a22 {M:List (List Qi)} {n:Nat} (h:bT M n n) (hk:∀ b,kY M b n = 0):Nq M n = 0:=iM fun k _=>hk _
theorem a1c {M : List (List Qi)} {n : Nat} (h : bT M n n) (hE : Nq M n = 0) (hn : 1 ≤ n) : ∀ b, kY M b n = 0 := fun b => by
 have h0:=(uP h).1 (Kp hE 0 zo)
 exact (uP h).2 h0
theorem a1d {M:List (List Qi)} {n:Nat} {b:List Qi} (h:bT M n n) (hb:kY M b n = 0):∀ b,kY M b n = 0:=fun _=>(uP h).2 ((uP h).1 hb)
theorem Ia (hk:∀ b,kY (oF S (cF js) (2 * js.length)) b (2 * js.length) = 0) (hn:1 ≤ 2 * js.length):∀ b,kY (Ks S js) b (2 * js.length) = 0:=by
 have hM:=nZ S (cF js) (2 * js.length)
 have hE:=a22 hM hk
 have l:=a62 hM hE
 refine a1c (sA S js) (a2X (Y:=tab (2 * js.length) fun x=>tab (2 * js.length) fun y=>gm (Kn (oF S (cF js) (2 * js.length)) (2 * js.length)) y x) (sA S js) bT.tab ?_) hn
 refine lB qB (uD _) fun i hi j hj=>?_
 have e:gm (mJ (Kn (oF S (cF js) (2 * js.length)) (2 * js.length)) (oF S (cF js) (2 * js.length)) (2 * js.length) (2 * js.length) (2 * js.length)) j i = gm (tN (2 * js.length)) j i:=by rw [l]
 rw [qY hj hi,By hj hi] at e
 rw [qY hi hj,By hi hj]
 have e2 : aF (2 * js.length) (fun t => gm (Ks S js) i t * gm (tab (2 * js.length) fun x => tab (2 * js.length) fun y => gm (Kn (oF S (cF js) (2 * js.length)) (2 * js.length)) y x) t j) = aF (2 * js.length) fun t => gm (Kn (oF S (cF js) (2 * js.length)) (2 * js.length)) j t * gm (oF S (cF js) (2 * js.length)) t i := aA fun t ht => by
  rw [Nt hi ht,dR ht hj,Qi.mul_comm']
 rw [e2,e]
 by_cases c:i = j
 ·rw [if_pos c,if_pos c.symm]
 ·rw [if_neg c,if_neg (Ne.symm c)]
theorem a4H (hk:∀ b,kY (oF S (cF js) (2 * js.length)) b (2 * js.length) = 0) {i x:Nat} (hx:x < 2 * js.length):gv (Kr S js i) x = aF (2 * js.length) fun y=>gm S i (gq (cF js) y) * gv (gnV S js x) y:=by
 have hM:=nZ S (cF js) (2 * js.length)
 have hT:=(nJ (sA S js) (Ia hk zo (Vs S js i))).1
 have hV:=(nJ hM (hk (ek (2 * js.length) x))).1
 have e1 : aF (2 * js.length) (fun y => gm S i (gq (cF js) y) * gv (gnV S js x) y) = aF (2 * js.length) fun y => aF (2 * js.length) fun w => gm (oF S (cF js) (2 * js.length)) w y * gv (Kr S js i) w * gv (gnV S js x) y := aA fun y hy => by
  have h:=hT y hy
  rw [show gv (Vs S js i) y = gm S i (gq (cF js) y) from iN hy] at h
  rw [← h,← iV]
  exact aA fun w hw=>by rw [Nt hy hw]; rfl
 have e2 : aF (2 * js.length) (fun w => aF (2 * js.length) fun y => gm (oF S (cF js) (2 * js.length)) w y * gv (Kr S js i) w * gv (gnV S js x) y) = aF (2 * js.length) fun w => gv (Kr S js i) w * gv (ek (2 * js.length) x) w := aA fun w hw => by
  have h:=hV w hw
  rw [show gv (ek (2 * js.length) x) w = aF (2 * js.length) (fun k=>gm (oF S (cF js) (2 * js.length)) w k * gv (gnV S js x) k) from h.symm,Qi.mul_comm',← iV]
  exact aA fun y _=>by grind
 rw [e1,iT,e2,cE hx (fun k hkk hne=>by rw [Yn hkk hx,if_neg hne]; grind),Yn hx hx,if_pos rfl]; grind
theorem a4F {l:List Nat} {x:Nat} (hx:x < l.length) (hinj:∀ a b,a < l.length → b < l.length → l.getD a 0 = l.getD b 0 → a = b):Ce l (l.getD x 0) = (x:Int):=by
 have hm:0 ≤ Ce l (l.getD x 0):=Ra.2 (by rw [show l.getD x 0 = l[x] by simp [List.getD,hx]]; exact List.getElem_mem hx)
 rcases Qz l (l.getD x 0) with h | ⟨h1,h2,h3⟩
 ·omega
 ·have:=hinj _ _ h2 hx h3; omega
theorem Hy {x:Nat} (hx:x < 2 * js.length):(uE js).getD x 0 = gq (cF js) (iR x):=by rw [uE,kV hx]
theorem Zq (hj:Jn (cF js) N js.length) {x:Nat} (hx:x < 2 * js.length):Ce (uE js) (gq (cF js) (iR x)) = (x:Int):=by
 have hl:(uE js).length = 2 * js.length:=aC _ _
 rw [← Hy hx]
 refine a4F zo fun a b ha hb e=>?_
 rw [Hy zo,Hy zo] at e
 have:=hj.inj _ _ (mK (show a < 2 * js.length by omega)) (mK (show b < 2 * js.length by omega)) e
 have e2:=congrArg iR this
 rwa [uM,uM] at e2
def sS (S:List (List Qi)) (js:List (Int × Int)) (N i y:Nat):List Qi:=tab N fun k=>if 0 ≤ Ce (uE js) k ∧ (Ce (uE js) k).toNat < y then sW S js i k else Vq i k
theorem Oq {i:Nat} (hi:i < N):(tab N fun _=>Qi.zero).set i (Qi.ofInt 1) = sS S js N i 0:=by
 refine List.ext_getElem (by rw [List.length_set,aC,sS,aC]) fun k h1 h2=>?_
 rw [List.length_set,aC] at h1
 rw [List.getElem_set]
 have e:(sS S js N i 0)[k] = Vq i k:=by simp [sS,tab]
 rw [e,Vq]
 by_cases c:i = k
 ·rw [if_pos c,if_pos c.symm]
 ·rw [if_neg c,if_neg (Ne.symm c)]; simp [tab]; rfl
theorem a0x (S : List (List Qi)) (js : List (Int × Int)) (N i : Nat) : sS S js N i (2 * js.length) = tab N fun k => sW S js i k := cR fun k _ => by
 have hl:(uE js).length = 2 * js.length:=aC _ _
 rcases Qz (uE js) k with h | ⟨h1,h2,_⟩
 ·rw [if_neg zo,sW,if_neg zo]
 ·rw [if_pos ⟨h1,by omega⟩]
theorem a0z (hj:Jn (cF js) N js.length) {i y:Nat} (hy:y < 2 * js.length):(sS S js N i y).set (gq (cF js) (iR y)) (sW S js i (gq (cF js) (iR y))) = sS S js N i (y + 1):=by
 have hix:=Zq hj hy
 have hlt:=hj.lt (iR y) (mK hy)
 have hl:(uE js).length = 2 * js.length:=aC _ _
 refine List.ext_getElem (by rw [List.length_set,sS,sS,aC,aC]) fun k h1 h2=>?_
 have hk:k < N:=by rw [sS,aC] at h2; exact h2
 rw [List.getElem_set]
 have e1:(sS S js N i (y + 1))[k] = if 0 ≤ Ce (uE js) k ∧ (Ce (uE js) k).toNat < y + 1 then sW S js i k else Vq i k:=by simp [sS,tab]
 have e0:(sS S js N i y)[k]'(by rw [sS,aC]; exact hk) = if 0 ≤ Ce (uE js) k ∧ (Ce (uE js) k).toNat < y then sW S js i k else Vq i k:=by simp [sS,tab]
 by_cases c:gq (cF js) (iR y) = k
 ·rw [if_pos c,e1,← c,hix,if_pos ⟨by omega,by omega⟩]
 ·rw [if_neg c, e1, e0]
  have hne : ¬ (Ce (uE js) k = (y : Int)) := fun e => by
   rcases Qz (uE js) k with h | ⟨q1,q2,q3⟩
   ·omega
   ·rw [e,Int.toNat_natCast,Hy hy] at q3; exact c q3
  by_cases d:0 ≤ Ce (uE js) k ∧ (Ce (uE js) k).toNat < y
  ·rw [if_pos d,if_pos ⟨d.1,by omega⟩]
  ·rw [if_neg d,if_neg fun h=>d ⟨h.1,by omega⟩]
theorem Ze (hj:Jn (cF js) N js.length) (hk:∀ b,kY (oF S (cF js) (2 * js.length)) b (2 * js.length) = 0) {i y:Nat} (hi:i ∉ jW js) (hy:y < 2 * js.length):sW S js i (gq (cF js) (iR y)) = gv (Kr S js i) y:=by
 have hne:gq (cF js) (iR y) ≠ i:=fun e=>hi (rZ.2 ⟨iR y,mK hy,e⟩)
 rw [sW,Zq hj hy,if_pos zo,Int.toNat_natCast,Vq,if_neg hne,a4H hk hy]
 rw [show Qi.ofInt 0 = (0:Qi) from rfl]; grind
def Rn (z:List Qi) (S c:List (List Qi)) (js:List (Int × Int)):List (List Qi):=fF (vX z S js) (lG (yM S js z.length) c)
theorem xC (hE:vX z S js = 0) (hl:z.length ≤ 8):zR z js = 0 ∧ 2 * js.length ≤ 6 ∧ (∀ b,kY (oF S (cF js) (2 * js.length)) b (2 * js.length) = 0) ∧ (js.length ≠ 0 → 2 * js.length ≠ z.length):=by
 have hd : zR z js = 0 := by
  apply Classical.byContradiction; intro h
  rw [vX,if_pos h] at hE; exact h hE
 have hle:=Rd hd
 have h2 : js.length ≠ 0 → 2 * js.length ≠ z.length := fun h0 h2 => by
  rw [vX,if_neg (fun k=>k hd),if_neg h0,if_pos h2] at hE; omega
 refine ⟨hd,by omega,?_,h2⟩
 by_cases h0:js.length = 0
 ·intro b
  exact (uP (nZ _ _ _)).2 fun y _ k hk=>by omega
 ·have h3 := h2 h0
  rw [vX,if_neg (fun k=>k hd),if_neg h0,if_neg h3] at hE
  have hs : Nw z S js = 0 := by
   apply Classical.byContradiction; intro h
   rw [if_neg h] at hE; omega
  have hp:=Zm hd h3
  exact a1d (nZ _ _ _) (gU hs 0 zo)
theorem Hk (hc:bT c N N):lG (yM S [] N) c = c:=by
 have hl:(yM S [] N).length = N:=by rw [yM,List.length_map,show jW [] = [] from rfl,uF,aC]
 have hcl:=hc.1
 have hg : ∀ a k, a < N → k < N → gm (yM S [] N) a k = if k = a then 1 else 0 := fun a k ha hk => by
  have hq:cO (gY (jW []) N) a = a:=by rw [show jW [] = [] from rfl,uF]; exact kV ha
  rw [yM,Zd (by rw [show jW [] = [] from rfl,uF,aC]; exact ha),iN hk,hq,sW,show uE [] = [] from rfl,show Ce [] k = -1 from rfl,if_neg (by decide),Vq]; rfl
 refine lB (by have h:=pX (p:=yM S [] N) (c:=c); rw [hl] at h; exact h) hc fun a ha b hb=>?_
 rw [lG,dR zo zo,a4m,hcl]
 have e : aF N (fun x => aF N fun y => Gx (yM S [] N) c a b x y) = aF N fun x => (if x = a then 1 else 0) * gm c x b := aA fun x hx => by
  rw [cE hb (fun y hy hne=>by rw [Gx,hg b y hb hy,if_neg hne]; show _ * Qi.conj 0 = 0; rw [show Qi.conj 0 = 0 from rfl]; grind),Gx,hg a x ha hx,hg b b hb hb,if_pos rfl,show Qi.conj 1 = 1 from rfl]; grind
 rw [e,cE ha (fun x _ hne=>by rw [if_neg hne]; grind),if_pos rfl]; grind
end
end
section
open Go Go.RowKit
def Vu (w : Nat) : Nat → Nat
 | 0=>w
 | c + 1=>2 * Vu w c + 1
theorem xS (w : Nat) : ∀ {c d : Nat}, c ≤ d → Vu w c ≤ Vu w d
 | c,0,h=>by rw [show c = 0 by omega]; exact Nat.le_refl _
 | c, d + 1, h => by
  by_cases e:c = d + 1
  ·rw [e]; exact Nat.le_refl _
  ·have := xS w (c := c) (d := d) zo
   simp only [Vu]; omega
def qI (r:List Qi) (w:Nat):Prop:=∃ d:Qi,d ≠ 0 ∧ Gb d (BB ^ w) ∧ ∀ j,Gb (d * gv r j) (BB ^ w)
theorem qI.le {r:List Qi} {w v:Nat} (h:qI r w) (k:w ≤ v):qI r v:=by
 obtain ⟨d,d0,dg,dj⟩:=h
 have hp:BB ^ w ≤ BB ^ v:=Nat.pow_le_pow_right eP k
 exact ⟨d,d0,dg.le hp,fun j=>(dj j).le hp⟩
theorem Pe (w:Nat):2 * BB ^ w * BB ^ w + 2 * BB ^ w * BB ^ w ≤ BB ^ (2 * w + 1):=by
 have e:BB ^ (2 * w + 1) = BB ^ w * BB ^ w * BB:=by rw [Nat.pow_succ,Nat.two_mul,Nat.pow_add]
 rw [e,Nat.mul_assoc 2,← Nat.two_mul,← Nat.mul_assoc 2 2,Nat.mul_comm (2 * 2)]
 exact Nat.mul_le_mul_left _ (by decide)
theorem Hn {l:List Qi} {j:Nat} (h:l.length ≤ j):gv l j = 0:=by simp [gv,List.getD,List.getElem?_eq_none h]; rfl
theorem Qu (N:Nat):Gb 0 N:=⟨0,0,Qi.ext' rfl rfl,by simp,by simp⟩
theorem qI.red {rr rc:List Qi} {c w:Nat} {P:Nat → Prop} [DecidablePred P] (h1:qI rr w) (h2:qI rc w) (hp:gv rc c ≠ 0):qI (tab rr.length fun j=>if P j then gv rr j - gv rr c / gv rc c * gv rc j else gv rr j) (2 * w + 1):=by
 obtain ⟨d,d0,dg,dj⟩:=h1
 obtain ⟨e,e0,eg,ej⟩:=h2
 have t:=Pe w
 refine ⟨d * (e * gv rc c),fun k=>?_,(dg.mul (ej c)).le zo,fun j=>?_⟩
 ·rcases jS k with k | k
  ·exact d0 k
  ·rcases jS k with k | k
   ·exact e0 k
   ·exact hp k
 ·by_cases hj : j < rr.length
  ·rw [iN hj]
   by_cases hP:P j
   ·rw [if_pos hP]
    have hd:=rV (x:=gv rr c) hp
    have ee : d * (e * gv rc c) * (gv rr j - gv rr c / gv rc c * gv rc j) = d * gv rr j * (e * gv rc c) - d * gv rr c * (e * gv rc j) := by
     have e2:d * (e * gv rc c) * (gv rr c / gv rc c * gv rc j) = d * (gv rr c / gv rc c * gv rc c) * (e * gv rc j):=by grind
     rw [hd] at e2
     grind
    rw [ee]
    exact (((dj j).mul (ej c)).sub ((dj c).mul (ej j))).le t
   ·rw [if_neg hP]
    have ee:d * (e * gv rc c) * gv rr j = d * gv rr j * (e * gv rc c):=by grind
    rw [ee]
    exact ((dj j).mul (ej c)).le zo
  ·rw [Hn (l := tab rr.length fun j => if P j then gv rr j - gv rr c / gv rc c * gv rc j else gv rr j) (by rw [aC]; omega)]
   have ee:d * (e * gv rc c) * 0 = 0:=by grind
   rw [ee]; exact Qu _
theorem qI.fit {r : List Qi} {w : Nat} (h : qI r w) : bR r (4 * (w + 1) + 2) := fun x hx => by
 obtain ⟨d,d0,dg,dj⟩:=h
 obtain ⟨j,hj,e⟩:=List.getElem_of_mem hx
 have e2:gv r j = x:=by simp [gv,List.getD,hj,e]
 have hlt:BB ^ w < BB ^ (w + 1):=Nat.pow_lt_pow_right (by decide) zo
 have f1:aH (d * gv r j) (w + 1):=(dj j).fit hlt zo
 have f2:aH d (w + 1):=dg.fit hlt zo
 have f3:aH (d * gv r j / d) (w + 1 + 3 * (w + 1) + 2):=pF f1 f2 d0
 rw [Yu (z:=x) d0 (by rw [e2]; grind)] at f3
 exact f3.le zo
theorem Sj {r:List Qi} {m L:Nat} (hl:r.length = m) (h:bR r L) (hL:1 ≤ L):qI r (m * L):=by
 obtain ⟨d,d0,dl,dj⟩:=Iu (L:=L) (x:=gv r) m fun j _=>h.get hL j
 refine ⟨Qi.ofInt d,Le d0,⟨d,0,Qi.ext' rfl (by show (0:Rat) = ((0:Int):Rat); rfl),by simpa using dl,by simp⟩,fun j=>?_⟩
 by_cases hj:j < m
 ·exact dj j hj
 ·rw [Hn zo]
  have ee:Qi.ofInt d * 0 = 0:=by grind
  rw [ee]; exact Qu _
abbrev oC (M:List (List Qi)) (w:Nat):Prop:=∀ r,r ∈ M → qI r w
theorem oC.row {M : List (List Qi)} {w i : Nat} (h : oC M w) (hi : i < M.length) : qI (dS M i) w := h _ (by
 rw [show dS M i = M[i] by simp [dS,List.getD,hi]]; exact List.getElem_mem hi)
theorem a0A {M:List (List Qi)} {n m L:Nat} (hs:bT M n m) (h:aS M L) (hL:1 ≤ L):oC M (m * L):=fun r hr=>Sj (hs.2 r hr) (h r hr) hL
theorem oC.swp {M : List (List Qi)} {w p c : Nat} (h : oC M w) (hp : p < M.length) (hc : c < M.length) : oC (swp [] M p c) w := fun x hx => by
 unfold Go.Proofs.YtdlciihkiefckaaGreat.swp at hx
 rcases List.mem_or_eq_of_mem_set hx with h1 | h1
 ·rcases List.mem_or_eq_of_mem_set h1 with h2 | h2
  ·exact h x h2
  ·rw [h2]; exact h.row hc
 ·rw [h1]; exact h.row hp
theorem oC.redM {M : List (List Qi)} {w c r : Nat} (h : oC M w) (hc : c < M.length) (hp : gm M c c ≠ Qi.zero) : oC (redM M c r) (2 * w + 1) := fun x hx => by
 obtain ⟨i,hi,rfl⟩:=eS.1 hx
 show qI (if c < i ∧ i < r then lV (dS M i) (dS M c) c (dS M i).length else dS M i) _
 split
 ·exact (h.row hi).red (h.row hc) hp
 ·exact (h.row hi).le zo
theorem oC.redJ {M : List (List Qi)} {w c r : Nat} (h : oC M w) (hc : c < M.length) (hp : gm M c c ≠ Qi.zero) : oC (redJ M c r) (2 * w + 1) := fun x hx => by
 obtain ⟨i,hi,rfl⟩:=eS.1 hx
 show qI (if i ≠ c ∧ i < r then zH (dS M i) (dS M c) c (dS M i).length else dS M i) _
 split
 ·exact (h.row hi).red (h.row hc) hp
 ·exact (h.row hi).le zo
structure SzS (M:List (List Qi)) (b:List Qi) (n G X:Nat):Prop where
 st:∀ c,c ≤ n → aS (cT (kZ M [b] n) c).1 G
 bk:kY M b n = 0 → ∀ j,j ≤ n → bR (qE (sU M b n).1 n j) X
 g1:1 ≤ G
 x1:1 ≤ X
 g:6 * G + 4 ≤ 17592186044415
 x:n * (X + G + 2) + 4 * G + 2 ≤ 17592186044415
theorem SzS.old {M:List (List Qi)} {b:List Qi} {n L:Nat} (hM:bT M n n) (hf:aS M L) (hfb:bR b L) (hL:1 ≤ L) (hg:6 * nP L n + 4 ≤ 17592186044415) (hx:zL (nP L n) (n + 1) ≤ 17592186044415):SzS M b n (nP L n) (zL (nP L n) n):=by
 have hcs:bT (kZ M [b] n) n (n + 1):=mO hM
 have hcf:aS (kZ M [b] n) L:=yE hf (fun r hr=>by simp at hr; subst hr; exact hfb) hL
 have hG1:1 ≤ nP L n:=Nat.le_trans hL (uC L n)
 refine ⟨fun c hc=>(Bv hcs hcf hL hc).le (pP L hc),fun hE j hj=>?_,hG1,Nat.le_trans hG1 (Jd _ _),hg,hx⟩
 have hst:¬ 0 ≤ (sU M b n).2.2:=fun h=>by rw [kY,if_pos h] at hE; omega
 have hf2:=Mu (Mb hM hf hfb hL) hG1 (pN hcs (Nat.le_refl n) (Sn hst)) j hj
 exact fun y hy=>(hf2 y hy).le (Ed _ hj)
structure SzJ (M:List (List Qi)) (b:List Qi) (n G:Nat):Prop where
 st:∀ c A,c ≤ n → Ue (kZ M [b] n) c = some A → aS A G
 g1:1 ≤ G
 g:6 * G + 4 ≤ 17592186044415
theorem SzJ.old {M : List (List Qi)} {b : List Qi} {n L : Nat} (hM : bT M n n) (hf : aS M L) (hfb : bR b L) (hL : 1 ≤ L) (hg : 6 * nP L n + 4 ≤ 17592186044415) : SzJ M b n (nP L n) :=
 ⟨fun _ _ hc hA=>(Zb (show bT (kZ M [b] n) n (n + 1) from mO hM) (Nat.le_succ n) (yE hf (fun r hr=>by simp at hr; subst hr; exact hfb) hL) hL hc hA).le (pP L hc),Nat.le_trans hL (uC L n),hg⟩
end
section
open Go Go.RowKit
theorem a3t {n:Nat} (hn:n ≤ 32):gM Tryz.prog 144 [NT .i64 n] [] (Nat) (fun B=>Is (.slice (some ⟨B,0,none⟩) n n)) (fun B=>[lT jD B 25 60 5 (bN aE (tN n))]) (fun _=>True):=by
 refine gM.intro Tryz.func144 rfl Tryz.ntmps144 rfl (fun cx Z=>(ts (ro rfl (cQ cV) (eJ (ts (rn rfl (eK (Ts:=[Is (.bool false),Is (.slice none 0 0),Is (.bool false),Is (.slice none 0 0),Is (.slice none 0 0)]) O_60 rfl (fun V=>aW zd (aW zd (aW zd (aW zd (aW zd (aG))))))) fun B3=>(eJ (ts (rm rfl (ro rfl (aM.nat (a2B (Ht rfl) (cJ 0)) (show max n 0 = n by omega)) (ro rfl (aM.nat (Ry (Ht rfl) (cJ 32)) (show min n 32 = n by omega)) ?_)))))))))))
 refine rn rfl (iF (T:=Is (.slice none 0 0)) (i:=Tryz.t25) V_26 nD rfl rfl (Ht rfl) rfl (fun _=>rfl) trivial (by show 24 * _ ≤ _; omega) zo) fun B9=>ra rfl (eJ (cK (ts (rm rfl (ro rfl (gI U_26 (Ht rfl)) (ro rfl (cX (cJ 0)) (eJ (eU (mH 2 rfl (wZ jD ⟨none,0,rfl⟩ (e:=60) (s:=5)) ?_)))))))))
 refine cB (fun (k : Nat) => k ≤ n) (fun (k : Nat) => n - k) (fun (k : Nat) => [(3, bO B3 0), (4, Is (.slice (some ⟨B9, 0, none⟩) n n)), (11, NT .i64 n), (12, NT .i64 k)]) (fun (k : Nat) => [Z, box B3 60 [Is (.bool false), Is (.slice none 0 0), Is (.bool false), Is (.slice none 0 0), Is (.slice none 0 0)], lT jD B9 25 60 5 (bN aE (kR (Eb n) [] n k))]) 0 (Nat.zero_le _)
  (zS rfl) (aU (fun _ _ _ h=>h) (aU (fun _ _ _ h=>h) (aU (cA (by rw [← iO,kX]; exact mB aE n)) aY))) (fun k hk=>?_)
 refine ts (ro rfl (gJ (Ht rfl) (Ht rfl)) (eJ (cK (dQ (Ht rfl) (fun hd=>?_) (fun hd=>?_)))))
 ·simp only [decide_eq_true_eq] at hd
  refine mZ 2 (k) rfl (kP hd) (fun v hv=>(cU (cK (eU (ts (rm rfl (ra rfl (eJ (cK (fV (m:=10) (dp 4 rfl (cX (Ht rfl)) (dp 5 rfl (cX (Ht rfl)) (dp 3 rfl (eG A_60 Z_60 (Ht rfl) (i:=1) rfl rfl rfl) (dq 17 2 rfl (bA bP (Ht rfl)) (d0 rfl (cZ K_52 (oW (n:=0) (by decide) (by decide)) ⟨(cJ 0),trivial⟩) (dP 18 3 19 4 rfl (aP sD Tryz.call304 Ps (Ht rfl) ⟨(Ht rfl),trivial⟩) (dq 20 5 rfl (cI (xs:=[.tmp 20]) U_25 Z_60 O_60 (cW (Ht rfl) cG) rfl rfl rfl) ?_)))))))))))))))))
  refine dp 4 rfl (cX (Ht rfl)) (dq 22 7 rfl (gI U_26 (Ht rfl)) (C.D_new (Ei:=[(21,_),(23,_)]) rfl rfl rfl (bV (bG 6 rfl rfl) (bV (bG 8 rfl rfl) bW)) (yQ Tryz.call229 (Na (m:=n) zo zo) ⟨(Ht rfl),(Ht rfl),trivial⟩) (fG aT rfl (by kernel_rfl) (zF (zF (aJ (C.F_new (fun B24=>aV (ro rfl (gX U_26 Z_25 (Ht rfl) (Ht rfl) rfl zo (by rw [Nat.mul_one,Nat.zero_add])) ?_)))))))))
  refine sX Z_25 (Ht rfl) (Ht rfl) (by simp only [bN,List.length_map,dD]; omega) (j:=2) (l:=4) rfl rfl rfl ?_
  refine eJ ?_
  have hB24:=B24.1.2
  refine fV (m:=9) (dp 4 rfl (cX (Ht rfl)) (dp 5 rfl (cX (Ht rfl)) (dP 26 0 27 1 rfl (gX U_26 Z_25 (Ht rfl) (Ht rfl) rfl zo (by rw [Nat.mul_one,Nat.zero_add])) ?_)))
  refine dq 28 2 rfl (jY A_25 Z_25 (Ht rfl) (j:=2) rfl) (dp 5 rfl (cX (Ht rfl)) (dp 3 rfl (eG A_60 Z_60 (Ht rfl) (i:=1) rfl rfl rfl) (dq 31 5 rfl (bA bP (Ht rfl)) (d0 rfl (cZ K_52 (oW (n:=1) (by decide) (by decide)) ⟨(cJ 1),trivial⟩) (dP 32 6 33 7 rfl (aP sD Tryz.call304 Ps (Ht rfl) ⟨(Ht rfl),trivial⟩) (fG aT rfl (by kernel_rfl) (zF (zF (aJ (aV (ro rfl (dM U_25 Z_60 (Ht rfl) (Ht rfl) rfl (i:=4) rfl (by simp only [List.length_map,aC]; omega) rfl) ?_)))))))))))
  refine mY Z_60 (Ht rfl) (Ht rfl) (El.ag rfl) (i:=4) rfl rfl (by simp only [List.length_map,aC]; omega) rfl ?_
  refine eJ (bD (fR 2 4 rfl rfl (by decide) (by simp only [bN,List.length_map,dD]; omega) ?_))
  refine cY (ro rfl (dW (Ht rfl) (cJ 1) z6) (rm rfl (eJ (bL [0,1,2] rfl (by decide) (gQ (k + 1) hd zo (zS rfl) (aU (fun _ _ _ h=>h) (aU (fun _ _ _ h=>h) (aU (cA (by rw [← jI (f:=Eb n),← gS,Eb,← iG])) aY))))))))
 ·simp only [decide_eq_false_iff_not] at hd
  obtain rfl:n = k:=Nat.le_antisymm zo hk
  refine gG rfl (ts (rm rfl (ra rfl (eJ ?_))))
  exact jC B9 trivial [0,2] ⟨⟨_,rfl,fun _ _ _ h=>h⟩,⟨_,rfl,(cA (by rw [jR]; rfl))⟩,trivial⟩ (by decide) (sK rfl (fQ rfl))
theorem Wy {M:List (List Qi)} {b:List Qi} {n G X:Nat} (hM:bT M n n) (hb:b.length = n) (hz:SzS M b n G X) (h1:1 ≤ n) (hn:n ≤ 32):bI Tryz.prog 126 [bC M,aL b] (fE [aL (fF (kY M b n) (lP M b n)),aN .i64 (kY M b n)]):=by
 have hMl:=hM.1
 have hcs:bT (kZ M [b] n) n (n + 1):=mO hM
 have hg:=hz.g
 have hx:n * (G + X + 2) + 4 * G + 2 ≤ 17592186044415:=by rw [Nat.add_comm G X]; exact hz.x
 obtain ⟨U,hU⟩:∃ U,U = (sU M b n).1:=⟨_,rfl⟩
 have hUs:bT U n (n + 1):=by rw [hU]; exact a0I hM
 have hUl:=hUs.1
 have hUf:aS U G:=by rw [hU]; exact hz.st n (Nat.le_refl n)
 have hG1:=hz.g1
 have hX1:=hz.x1
 refine bI.intro Tryz.func126 rfl Tryz.ntmps126 rfl (fun cx=>(ts (ro rfl (cQ cV) (ro rfl (cQ (cJ 0)) (eJ (cK (ts (rm rfl (ro rfl (cZ Tryz.call172 (Js hM h1 hn) ⟨(Ht rfl),trivial⟩) (ro rfl (fH (Ht rfl)) (rm rfl (fZ rfl rfl (eY rfl rfl (Ht rfl) (fun h=>cX (Ht rfl))) (fZ rfl rfl (eY rfl rfl (Ht rfl) (fun h=>dU U_25 (fW rfl h) aD)) (fZ rfl rfl (eY rfl rfl (Ht rfl) (fun h=>cX (Ht rfl))) (fZ rfl rfl (eY rfl rfl (Ht rfl) (fun h=>dU U_26 (fW rfl h) aD)) ?_)))))))))))))))
 refine fZ rfl rfl (eY rfl rfl (Ht rfl) (fun h=>kM (fW rfl h) (fW rfl h))) (ro rfl (lZ (Ht rfl) (fun h=>(fW rfl h))) (eJ (kA (Ht rfl) (by simp [hMl,hb]) ?_)))
 refine cU (ts (rm rfl (ro rfl (dU U_26 (Ht rfl) (by rw [List.length_map,hMl])) ?_)))
 refine ra rfl (eJ (ts (rm rfl (rm rfl (ro rfl (cI (xs:=[.tmp 26]) U_26 Z_25 O_25 (cW (Ht rfl) cG) rfl rfl rfl) (jZ Tryz.call195 (Ez (M:=M) (bs:=[b]) (n:=n) (m:=n) hM (fun r hr=>by simp at hr; subst hr; omega) zo zo (by simp)) ⟨(Ht rfl),(Ht rfl),trivial⟩ rfl (fun B28 _=>?_)))))))
 refine ra rfl (eJ (cK (ts (rm rfl (Gd Tryz.call221 (a1m (n:=n) (m:=n + 1) (G:=G) hcs hz.st hG1 hg zo zo) (i:=0) rfl ⟨(Ht rfl),trivial⟩ rfl (fun uu _=>(rm rfl (ro rfl (dY (Ht rfl) rfl) (ro rfl (dY (Ht rfl) rfl) (ra rfl (ra rfl (eJ (ts (rm rfl (ro rfl (oQ (Ht rfl) cV) (eJ (dQ (Ht rfl) (fun hs=>?_) (fun hs=>?_))))))))))))))))))
 ·have he : kY M b n = 6 := by rw [kY, if_pos (show 0 ≤ (sU M b n).2.2 from of_decide_eq_true hs)]
  refine ts (ro rfl (cQ cV) (ro rfl (cQ (cJ 6)) (eJ (bM rfl (fJ (fQ rfl) ?_) (fJ (fQ rfl) ?_)))))
  ·exact (fun v V k=>by rw [he]; exact jT v V k)
  ·exact (bE he.symm)
 ·have hst : ¬ 0 ≤ (sU M b n).2.2 := of_decide_eq_false hs
  have he:kY M b n = 0:=by rw [kY,if_neg hst]
  have hdz:∀ i,i < n → gm U i i ≠ Qi.zero:=by rw [hU]; exact pN hcs (Nat.le_refl n) (Sn hst)
  refine cU (ts (rm rfl (rn rfl (mT (T:=aE Qi.zero) (i:=Tryz.t60) jK iB rfl rfl (Ht rfl) rfl jF (El.ag rfl) (by show 88 * _ ≤ _; omega) zo) fun B37=>(ra rfl (eJ (cK (ts (rm rfl (ro rfl (dK (Ht rfl) (cJ 1) zo z6) (ra rfl (eJ (eU (mH 0 rfl (cA (show bN aE (cT (kZ M [b] n) n).1 = bN aE U by rw [hU]; rfl)) (Gj 0 rfl (fun vs hvs=>?_)))))))))))))))
  have hvl:vs.length = n:=by have h:=hvs.len; rw [List.length_map,hUl] at h; exact h
  refine cB (fun (j : Nat) => j ≤ n) (fun (j : Nat) => n - j) (fun (j : Nat) => [(0, Is (.slice (some ⟨B28, 0, none⟩) n n)), (6, NT .i64 n), (9, Is B37), (10, aN .i64 ((n : Int) - 1 - (j : Int)))]) (fun (j : Nat) => [jP B28 25 60 5 vs vs (bN aE U), bF 60 5 B37 ((qE U n j).map aE)]) 0 (Nat.zero_le _)
   (aQ rfl (aQ rfl (aQ rfl (aZ rfl (bE zo) aX)))) (aU (fun _ _ _ h=>h) (aU (aO (by rw [qE]; exact sM aE n)) aY)) (fun j hj=>?_)
  refine cK (ts (rm rfl (ro rfl (oQ (Ht rfl) cV) (eJ (dQ (Ht rfl) (fun hc=>?_) (fun hc=>?_))))))
  ·have hjn : j < n := a5I (of_decide_eq_true hc)
   obtain ⟨q,hq⟩:∃ q,q = n - (j + 1):=⟨_,rfl⟩
   have hqi:(n:Int) - 1 - (j:Int) = (q:Int):=by omega
   have hqr:(U.getD q []).length = n + 1:=hUs.row zo
   have hXf:bR (qE U n j) X:=by rw [hU]; exact hz.bk he j hj
   have hXl:=zW U n j
   refine cU (cK (eU (ts (rm rfl (rm rfl (ro rfl (gX U_26 Z_25 (Ht rfl) (Ht rfl) hqi zo (by rw [Nat.mul_one,Nat.zero_add])) ?_))))))
   refine ro rfl (fN A_25 Z_25 (Ht rfl) (j:=0) rfl zo) (rm rfl (ro rfl (iD U_25 Z_60 (Ht rfl) (Ht rfl) rfl (j:=0) rfl zo zo zo) (ro rfl (kH A_60 Z_60 (Ht rfl) (j:=0) rfl zo zo zo) (rn rfl (eK (Ts:=[Is (.bool false),Is (.slice none 0 0),Is (.bool false),Is (.slice none 0 0),Is (.slice none 0 0)]) O_60 rfl (fun V=>aW zd (aW zd (aW zd (aW zd (aW zd (aG))))))) fun B11=>?_))))
   refine gZ Z_60 (Ht rfl) (Ht rfl) rfl (i:=2) rfl (aK rfl) rfl rfl (eJ (cK (ts (rm rfl (ro rfl (Oh (Ht rfl) cV (r:=((q + 1:Nat):Int)) ((Ew (z:=(n:Int) - 1 - (j:Int) + 1) zo).trans zo)) ?_)))))
   refine ra rfl (eJ (eU ?_))
   refine cB (fun (k : Nat) => k ≤ j) (fun (k : Nat) => j - k) (fun (k : Nat) => [(0, Is (.slice (some ⟨B28, 0, none⟩) n n)), (6, NT .i64 n), (9, Is B37), (10, aN .i64 ((n : Int) - 1 - (j : Int))), (11, bO B11 0), (12, NT .i64 (q + 1 + k))]) (fun (k : Nat) => [jP B28 25 60 5 vs vs (bN aE U), bF 60 5 B37 ((qE U n j).map aE), box B11 60 [aI (decide ((oS U (qE U n j) n q k).a < 0)), bB (oS U (qE U n j) n q k).a.natAbs, aI (decide ((oS U (qE U n j) n q k).b < 0)), bB (oS U (qE U n j) n q k).b.natAbs, bB (du (oS U (qE U n j) n q k))]]) 0 (Nat.zero_le _)
    (zS rfl) (aU (fun _ _ _ h=>h) (aU (fun _ _ _ h=>h) (aU (aB rfl) aY))) (fun k hk=>?_)
   refine cK (ts (rm rfl (rm rfl (ro rfl (gJ (Ht rfl) (Ht rfl)) (eJ (dQ (Ht rfl) (fun hf=>?_) (fun hf=>?_)))))))
   ·have hkj : k < j := by simp only [decide_eq_true_eq] at hf; omega
    haveI f1:aH (oS U (qE U n j) n q k) (G + k * (G + X + 2)):=Au hUf hXf hG1 hX1 k
    haveI f2:aH (gm U q (q + 1 + k)) G:=hUf.get hG1 _ _
    haveI f3:aH (gv (qE U n j) (q + 1 + k)) X:=hXf.get hX1 _
    have hb1:k * (G + X + 2) + (G + X + 2) ≤ n * (G + X + 2):=by rw [← Nat.succ_mul]; exact Nat.mul_le_mul_right _ zo
    refine cU (cK (eU (fV (m:=15) (dp 11 rfl (eG A_60 Z_60 (Ht rfl) (i:=2) rfl rfl rfl) (dq 58 0 rfl (bA bP (Ht rfl)) (dp 0 rfl (cX (Ht rfl)) (dp 10 rfl (cX (Ht rfl)) (dP 60 2 61 3 rfl (gX U_26 Z_25 (Ht rfl) (Ht rfl) hqi zo (by rw [Nat.mul_one,Nat.zero_add])) ?_))))))))
    refine dq 62 4 rfl (fN A_25 Z_25 (Ht rfl) (j:=0) rfl zo) (dp 12 rfl (cX (Ht rfl)) (dP 63 5 64 6 rfl (iD U_25 Z_60 (Ht rfl) (Ht rfl) rfl (j:=0) rfl zo zo zo) (dq 65 7 rfl (kH A_60 Z_60 (Ht rfl) (j:=0) rfl zo zo zo) (dq 66 8 rfl (bA bP (Ht rfl)) (dp 9 rfl (cX (Ht rfl)) (dp 12 rfl (cX (Ht rfl)) (dP 68 10 69 11 rfl (dM U_25 Z_60 (Ht rfl) (Ht rfl) rfl (i:=1) rfl (by rw [List.length_map]; omega) rfl) ?_)))))))
    refine dq 70 12 rfl (oR A_60 Z_60 (Ht rfl) (i:=1) rfl rfl (eX (eQ (d:=Qi.zero) zo))) (dP 67 9 71 13 rfl (aP dH K_70 (kD (x:=gm U q (q + 1 + k)) (y:=gv (qE U n j) (q + 1 + k)) (L:=G) (M:=X) zo) (Ht rfl) ⟨(Ht rfl),trivial⟩) (fG aT rfl (by kernel_rfl) (zF (zF (zF (aJ (aJ (aJ (aV (ro rfl (aP jQ K_69 (tB (x:=(oS U (qE U n j) n q k)) (y:=gm U q (q + 1 + k) * gv (qE U n j) (q + 1 + k)) (L:=G + k * (G + X + 2)) (M:=G + X + 1) zo) (Ht rfl) ⟨(Ht rfl),trivial⟩) ?_))))))))))
    refine gZ Z_60 (Ht rfl) (Ht rfl) rfl (i:=2) rfl (aK rfl) rfl rfl (eJ (bD (cY (rm rfl (ro rfl (dW (Ht rfl) (cJ 1) z6) (ra rfl (eJ (gQ (k + 1) hkj zo (zS rfl) (aU (fun _ _ _ h=>h) (aU (fun _ _ _ h=>h) (aU (aB rfl) aY)))))))))))
   ·obtain rfl : k = j := Nat.le_antisymm hk (by simp only [decide_eq_false_iff_not] at hf; omega)
    haveI f1:aH (oS U (qE U n k) n q k) (G + k * (G + X + 2)):=Au hUf hXf hG1 hX1 k
    haveI f2:aH (gm U q q) G:=hUf.get hG1 _ _
    have hb3:k * (G + X + 2) ≤ n * (G + X + 2):=Nat.mul_le_mul_right _ zo
    refine gG rfl (Y.D_start (m:=17) [(16,1,bF 60 5 B37 (((qE U n k).map aE).set q (aE ((oS U (qE U n k) n q k) / gm U q q))))] (Y.D_step (Ei:=[(9,_)]) rfl rfl (bQ (bJ rfl rfl) bX) rfl rfl (by kernel_rfl) (dX rfl (cX (Ht rfl))) (Y.D_step (Ei:=[(10,_)]) rfl rfl (bQ (bJ rfl rfl) bX) rfl rfl (by kernel_rfl) (dX rfl (cX (Ht rfl))) (Y.D_step (Ei:=[(11,_)]) rfl rfl (bQ (bJ rfl rfl) bX) rfl rfl (by kernel_rfl) (dX rfl (eG A_60 Z_60 (Ht rfl) (i:=2) rfl rfl rfl)) ?_))))
    refine Y.D_step (Ei:=[(77,_)]) rfl rfl (bQ (bZ 2 rfl rfl) bX) rfl rfl (by kernel_rfl) (dX rfl (bA bP (Ht rfl))) (Y.D_step (Ei:=[(0,_)]) rfl rfl (bQ (bJ rfl rfl) bX) rfl rfl (by kernel_rfl) (dX rfl (cX (Ht rfl))) (Y.D_step (Ei:=[(10,_)]) rfl rfl (bQ (bJ rfl rfl) bX) rfl rfl (by kernel_rfl) (dX rfl (cX (Ht rfl))) (Y.D_step (Ei:=[(79,_),(80,_)]) rfl rfl (bQ (bZ 4 rfl rfl) (bQ (bZ 5 rfl rfl) bX)) rfl rfl (by kernel_rfl) (dX rfl (gX U_26 Z_25 (Ht rfl) (Ht rfl) hqi zo (by rw [Nat.mul_one,Nat.zero_add]))) ?_)))
    refine Y.D_step (Ei:=[(81,_)]) rfl rfl (bQ (bZ 6 rfl rfl) bX) rfl rfl (by kernel_rfl) (dX rfl (fN A_25 Z_25 (Ht rfl) (j:=0) rfl zo)) (Y.D_step (Ei:=[(10,_)]) rfl rfl (bQ (bJ rfl rfl) bX) rfl rfl (by kernel_rfl) (dX rfl (cX (Ht rfl))) (Y.D_step (Ei:=[(82,_),(83,_)]) rfl rfl (bQ (bZ 7 rfl rfl) (bQ (bZ 8 rfl rfl) bX)) rfl rfl (by kernel_rfl) (dX rfl (iD U_25 Z_60 (Ht rfl) (Ht rfl) hqi (j:=0) rfl zo zo zo)) ?_))
    refine Y.D_step (Ei:=[(84,_)]) rfl rfl (bQ (bZ 9 rfl rfl) bX) rfl rfl (by kernel_rfl) (dX rfl (kH A_60 Z_60 (Ht rfl) (j:=0) rfl zo zo zo)) (Y.D_step (Ei:=[(78,_),(85,_)]) rfl rfl (bQ (bZ 3 rfl rfl) (bQ (bZ 10 rfl rfl) bX)) rfl rfl (by kernel_rfl) (dX rfl (aP lH K_64 (tA (x:=(oS U (qE U n k) n q k)) (y:=gm U q q) (L:=G + k * (G + X + 2)) (M:=G) zo) (Ht rfl) ⟨(Ht rfl),trivial⟩)) (Y.D_step (Ei:=[(86,_)]) rfl rfl (bQ (bZ 11 rfl rfl) bX) rfl rfl (by kernel_rfl) (dX rfl (cX (Ht rfl))) ?_))
    refine Y.D_step (Ei:=[(74,_)]) rfl rfl (bQ (bZ 12 rfl rfl) bX) rfl rfl (by kernel_rfl) (dX rfl (dY (Ht rfl) rfl)) (bY (Ei:=[(74,_)]) rfl rfl (bQ (bZ 12 rfl rfl) bX) rfl rfl (dX rfl (dY (Ht rfl) rfl)) (Y.D_step (Ei:=[(75,_),(76,_)]) rfl rfl (bQ (bZ 0 rfl rfl) (bQ (bZ 1 rfl rfl) bX)) rfl rfl (by kernel_rfl) (dX rfl (dM U_25 Z_60 (Ht rfl) (Ht rfl) hqi (i:=1) rfl (by rw [List.length_map]; omega) rfl)) ?_))
    refine Y.D_putI (Ei:=[(89,_),(87,_)]) 1 rfl rfl rfl (bQ (bZ 15 rfl rfl) (bQ (bZ 13 rfl rfl) bX)) (.head _) rfl (Vy Z_60 (Ht rfl) (Ht rfl) (El.ag rfl) (i:=0) rfl rfl (by rw [List.length_map]; omega)) ?_
    refine Y.D_done aT rfl (by kernel_rfl) rfl (by simp [Y.okP]) rfl rfl (bU (bU (bU (bU (bU (bU (bU (bU (bU (bU (bU (bU (bU (bU (bU (bU (Y.F_putI (Y.F_nil ?_))))))))))))))))))
    refine eJ (bD (cY (rm rfl (ro rfl (jJ (Ht rfl) cV (Ew zo)) (ra rfl (eJ (bL [0,1] rfl (by decide) (gQ (k + 1) hjn zo (aQ rfl (aQ rfl (aQ rfl (aZ rfl (bE zo) aX)))) (aU (fun _ _ _ h=>h) (aU (aO (by rw [iG,qE,← hq])) aY))))))))))
  ·obtain rfl : j = n := Nat.le_antisymm hj (a5J (by have h := of_decide_eq_false hc; omega))
   refine gW (i:=1) (tt:=9) rfl rfl gH (gG rfl (ts (rm rfl (ra rfl (ro rfl (cQ (cJ 0)) (eJ (bM rfl (fJ (fQ rfl) ?_) (fJ (fQ rfl) ?_))))))))
   ·exact (mM (by rw [he,lP,← hU]; rfl))
   ·exact (bE he.symm)
theorem Pu {M:List (List Qi)} {b:List Qi} {n L:Nat} (hM:bT M n n) (hb:b.length = n) (hf:aS M L) (hfb:bR b L) (hL:1 ≤ L) (h1:1 ≤ n) (hn:n ≤ 32) (hg:6 * nP L n + 4 ≤ 17592186044415) (hx:zL (nP L n) (n + 1) ≤ 17592186044415):bI Tryz.prog 126 [bC M,aL b] (fE [aL (fF (kY M b n) (lP M b n)),aN .i64 (kY M b n)]):=Wy hM hb (SzS.old hM hf hfb hL hg hx) h1 hn
end
section
open Go Go.RowKit
theorem Tj {M:List (List Qi)} {n m:Nat} (hM:bT M n m) (hn:n ≤ 1000) (hm:m ≤ 1000):gM Tryz.prog 195 [bC M,Is (.slice none 0 0)] [] Nat (fun B=>Is (.slice (some ⟨B,0,none⟩) n n)) (fun B=>[oH B 25 60 5 (bN aE M)]) (fun _=>True):=by
 have h:=Ez (M:=M) (bs:=[]) hM (fun b hb=>by cases hb) hn hm (by simp)
 rw [Tu hM] at h
 exact h.arg Wg
end
section
open Go Go.RowKit
theorem rE (x y:Qi):(x + y).conj = x.conj + y.conj:=Qi.ext' rfl (by show -(x.im + y.im) = -x.im + -y.im; grind)
theorem Bo (x y:Qi):(x - y).conj = x.conj - y.conj:=Qi.ext' rfl (by show -(x.im - y.im) = -x.im - -y.im; grind)
theorem fA (x y:Qi):(x * y).conj = x.conj * y.conj:=Qi.ext' (by show x.re * y.re - x.im * y.im = x.re * y.re - -x.im * -y.im; grind) (by show -(x.re * y.im + x.im * y.re) = x.re * -y.im + -x.im * y.re; grind)
theorem fS:(0:Qi).conj = 0:=Qi.ext' rfl (by show -(0:Rat) = 0; grind)
theorem oD:(1:Qi).conj = 1:=Qi.ext' rfl (by show -(0:Rat) = 0; grind)
theorem kW (x:Qi):x.conj.conj = x:=Qi.ext' rfl (by show - -x.im = x.im; grind)
theorem nB (n:Nat) (f:Nat → Qi):(aF n f).conj = aF n fun i=>(f i).conj:=by
 induction n with
 | zero=>exact fS
 | succ n ih=>rw [lQ,lQ,rE,ih]
theorem jB (n:Nat) (a:Qi) (f:Nat → Qi):aF n (fun k=>a * f k) = a * aF n f:=by
 rw [show a * aF n f = aF n f * a by grind,← iV]; exact aA fun _ _=>by grind
def kN (N:Nat) (p q:Nat → Qi) (C:Nat → Nat → Qi):Qi:=aF N fun a=>aF N fun b=>p a * C a b * (q b).conj
theorem lK {N : Nat} {p q p' q' : Nat → Qi} {C C' : Nat → Nat → Qi} (hp : ∀ a, a < N → p a = p' a) (hq : ∀ a, a < N → q a = q' a) (hC : ∀ a b, a < N → b < N → C a b = C' a b) : kN N p q C = kN N p' q' C' :=
 aA fun a ha=>aA fun b hb=>by rw [hp a ha,hq b hb,hC a b ha hb]
theorem a0o {N:Nat} {p q:Nat → Qi} {C D:Nat → Nat → Qi}:kN N p q (fun a b=>C a b + D a b) = kN N p q C + kN N p q D:=by
 rw [kN,kN,kN,← kU]
 refine aA fun a _=>?_
 rw [← kU]
 exact aA fun b _=>by grind
theorem Lq {N:Nat} {p q:Nat → Qi} {C D:Nat → Nat → Qi}:kN N p q (fun a b=>C a b - D a b) = kN N p q C - kN N p q D:=by
 have h:=a0o (N:=N) (p:=p) (q:=q) (C:=fun a b=>C a b - D a b) (D:=D)
 rw [show (fun a b=>C a b - D a b + D a b) = C from funext fun a=>funext fun b=>by grind] at h
 grind
theorem Lp {N:Nat} {p q:Nat → Qi} {C:Nat → Nat → Qi} {t:Qi}:kN N p q (fun a b=>t * C a b) = t * kN N p q C:=by
 rw [kN,kN,← jB]
 refine aA fun a _=>?_
 rw [← jB]
 exact aA fun b _=>by grind
theorem xI {N M : Nat} {p q : Nat → Qi} {r : Nat → Nat → Qi} {C : Nat → Nat → Qi} :
  kN N p q (fun a b=>kN M (r a) (r b) C) = kN M (fun u=>aF N fun a=>p a * r a u) (fun u=>aF N fun a=>q a * r a u) C:=by
 have e : ∀ u v, (aF N fun a => p a * r a u) * C u v * (aF N fun b => q b * r b v).conj = aF N fun a => aF N fun b => p a * (r a u * C u v * (r b v).conj) * (q b).conj := fun u v => by
  rw [nB,Qi.mul_assoc',← iV]
  refine aA fun a _=>?_
  rw [show p a * r a u * (C u v * aF N fun i=>(q i * r i v).conj) = (p a * r a u * C u v) * aF N fun i=>(q i * r i v).conj by grind,← jB]
  exact aA fun b _=>by rw [fA]; grind
 have r1 : kN M (fun u => aF N fun a => p a * r a u) (fun u => aF N fun a => q a * r a u) C = aF M fun u => aF M fun v => aF N fun a => aF N fun b => p a * (r a u * C u v * (r b v).conj) * (q b).conj :=
  aA fun u _=>aA fun v _=>e u v
 have l1 : kN N p q (fun a b => kN M (r a) (r b) C) = aF N fun a => aF N fun b => aF M fun u => aF M fun v => p a * (r a u * C u v * (r b v).conj) * (q b).conj := by
  refine aA fun a _=>aA fun b _=>?_
  show p a * (aF M fun u=>aF M fun v=>r a u * C u v * (r b v).conj) * (q b).conj = _
  rw [← jB,← iV]
  refine aA fun u _=>?_
  rw [← jB,← iV]
 rw [r1,l1]
 have s1 : ∀ a, (aF N fun b => aF M fun u => aF M fun v => p a * (r a u * C u v * (r b v).conj) * (q b).conj) = aF M fun u => aF M fun v => aF N fun b => p a * (r a u * C u v * (r b v).conj) * (q b).conj := fun a => by
  rw [iT]
  exact aA fun u _=>iT _ _ _
 rw [aA fun a _=>s1 a,iT]
 refine aA fun u _=>?_
 rw [iT]
theorem mV {N : Nat} {p q : Nat → Qi} {d : Nat → Qi} : kN N p q (fun a b => if a = b then d a else 0) = aF N fun k => p k * d k * (q k).conj := aA fun a ha => by
 rw [cE ha (fun b _ hb=>by show p a * (if a = b then d a else 0) * (q b).conj = 0; rw [if_neg (Ne.symm hb)]; grind)]
 show p a * (if a = a then d a else 0) * (q a).conj = _
 rw [if_pos rfl]
theorem rD {p c:List (List Qi)} {N a b:Nat} (hc:c.length = N) (ha:a < p.length) (hb:b < p.length):gm (lG p c) a b = kN N (gm p a) (gm p b) (gm c):=by
 rw [lG,dR ha hb,hc]; rfl
theorem Xp {p c : List (List Qi)} {t : Qi} {N : Nat} (hc : c.length = N) : lG p (fI t c N) = fI t (lG p c) p.length :=
 lB pX bT.tab fun i hi j hj => by
  rw [rD (c:=fI t c N) (N:=N) (aC _ _) hi hj,show gm (fI t (lG p c) p.length) i j = t * gm (lG p c) i j from dR hi hj,rD hc hi hj,← Lp]
  exact lK (fun _ _=>rfl) (fun _ _=>rfl) fun a b ha hb=>dR ha hb
theorem Qm {z:List Qi} {i j:Nat} (hi:i < z.length) (hj:j < z.length):gm (iL z) i j = if i = j then gv z i else 0:=by
 have e : gm (iL z) i j = gv ((tab z.length fun _ => Qi.zero).set i (gv z i)) j := by
  show gv ((iL z).getD i []) j = _
  rw [iL,kV hi]
 rw [e,vT (by rw [aC]; exact hi)]
 by_cases c:i = j
 ·rw [if_pos c.symm,if_pos c]
 ·rw [if_neg (Ne.symm c),if_neg c,iN hj]; rfl
theorem rA {z:List Qi} {s:List (List Qi)} {i j:Nat} (hs:s.length = z.length) (hi:i < z.length) (hj:j < z.length):gm (dB z s) i j = (if i = j then gv z i else 0) - aF z.length fun k=>gm s i k * gv z k * (gm s j k).conj:=by
 rw [dB,dR hi hj,Qm hi hj,rD (Bs z).1 zo zo,← mV]
 congr 1
 exact lK (fun _ _=>rfl) (fun _ _=>rfl) fun a b ha hb=>Qm ha hb
section
variable {z:List Qi} {S c:List (List Qi)} {js:List (Int × Int)} {N:Nat}
theorem a26 {k:Nat}:k ∈ uE js ↔ ∃ y,y < 2 * js.length ∧ gq (cF js) (iR y) = k:=by
 rw [uE]
 constructor
 ·intro h; obtain ⟨y,hy,e⟩:=eS.1 h; exact ⟨y,hy,e⟩
 ·rintro ⟨y,hy,e⟩; exact eS.2 ⟨y,hy,e⟩
theorem a64 {k:Nat}:k ∈ uE js ↔ k ∈ jW js:=by
 rw [a26,rZ]
 constructor
 ·rintro ⟨y,hy,e⟩; exact ⟨iR y,mK hy,e⟩
 ·rintro ⟨y,hy,e⟩; exact ⟨iR y,mK hy,by rw [uM]; exact e⟩
theorem wW {i k:Nat} (hk:k ∉ jW js):sW S js i k = if k = i then 1 else 0:=by
 rw [sW,if_neg fun h=>hk (a64.1 (Ra.1 h)),Vq]; rfl
theorem a2Y (hj : Jn (cF js) N js.length) {i : Nat} (hi : i < N) (hil : i ∉ jW js) {r v : Nat → Qi} (h1 : ∀ k, k < N → k ∉ jW js → r k = if k = i then 1 else 0) (h2 : ∀ y, y < 2 * js.length → r (gq (cF js) (iR y)) = v y) (F : Nat → Qi) :
  aF N (fun k=>r k * F k) = F i + aF (2 * js.length) fun y=>v y * F (gq (cF js) (iR y)):=by
 have e : ∀ k, k < N → r k * F k = (if k = i then F k else 0) + aF (2 * js.length) fun y => if gq (cF js) (iR y) = k then v y * F k else 0 := fun k hk => by
  by_cases c:k ∈ jW js
  ·obtain ⟨x, hx, e⟩ := rZ.1 c
   have hne:¬ k = i:=fun e=>hil (e ▸ c)
   have hp:=mK hx
   rw [if_neg hne, cE (i := iR x) hp (fun y hy hne => if_neg fun e2 => hne (by
    have:=hj.inj _ _ (mK hy) hx (e2.trans e.symm)
    rw [← this,uM])),uM,if_pos e,← h2 (iR x) hp,uM,e]; grind
  ·rw [h1 k hk c, cL fun y hy => if_neg fun e2 => c (rZ.2 ⟨iR y, mK hy, e2⟩)]
   by_cases d:k = i
   ·rw [if_pos d,if_pos d]; grind
   ·rw [if_neg d,if_neg d]; grind
 rw [aA e,kU,cE hi (fun k _ hk=>if_neg hk),if_pos rfl,iT]
 congr 1
 exact aA fun y hy => by
  rw [cE (hj.lt (iR y) (mK hy)) (fun k _ hk=>if_neg (Ne.symm hk)),if_pos rfl]
theorem a28 {x:Nat} (hx:x < 2 * js.length) (v:Nat → Qi):aF (2 * js.length) (fun y=>gm (Ks S js) x y * v y) = v x - aF (2 * js.length) fun y=>v y * gm S (gq (cF js) (iR y)) (gq (cF js) x):=by
 have e : ∀ y, y < 2 * js.length → gm (Ks S js) x y * v y = (if y = x then v x else 0) - 1 * (v y * gm S (gq (cF js) (iR y)) (gq (cF js) x)) := fun y hy => by
  have:gm (Ks S js) x y = Ev x y - gm S (gq (cF js) (iR y)) (gq (cF js) x):=dR hx hy
  rw [this,Ev]
  by_cases c:y = x
  ·subst c; rw [if_pos rfl,if_pos rfl,q1]; grind
  ·rw [if_neg c,if_neg (Ne.symm c),show Qi.ofInt 0 = (0:Qi) from rfl]; grind
 rw [aA e,rN,cE hx (fun k _ hk=>if_neg hk),if_pos rfl]; grind
abbrev JK (S:List (List Qi)) (js:List (Int × Int)):Prop:=∀ b,kY (oF S (cF js) (2 * js.length)) b (2 * js.length) = 0
theorem a27 (hk:JK S js) {i x:Nat} (hx:x < 2 * js.length):gv (Kr S js i) x = gm S i (gq (cF js) x) + aF (2 * js.length) fun y=>gv (Kr S js i) y * gm S (gq (cF js) (iR y)) (gq (cF js) x):=by
 have h:=(nJ (sA S js) (Ia hk zo (Vs S js i))).1 x hx
 rw [show gv (Vs S js i) x = gm S i (gq (cF js) x) from iN hx] at h
 have h2:=a28 (S:=S) hx (gv (Kr S js i))
 rw [show lP (Ks S js) (Vs S js i) (2 * js.length) = Kr S js i from rfl] at h
 rw [h] at h2
 grind
theorem Qv (hj : Jn (cF js) N js.length) (hk : JK S js) {i : Nat} (hi : i < N) (hil : i ∉ jW js) (F : Nat → Qi) : aF N (fun k => sW S js i k * F k) = F i + aF (2 * js.length) fun y => gv (Kr S js i) y * F (gq (cF js) (iR y)) :=
 a2Y hj hi hil (fun _ _ h=>wW h) (fun _ hy=>Ze hj hk hil hy) F
theorem a60 (hj:Jn (cF js) N js.length) (hk:JK S js) {i:Nat} (hi:i < N) (hil:i ∉ jW js) {x:Nat} (hx:x < 2 * js.length):aF N (fun k=>sW S js i k * gm S k (gq (cF js) x)) = sW S js i (gq (cF js) (iR x)):=by
 rw [Qv hj hk hi hil,Ze hj hk hil hx,a27 hk hx]
theorem a61 (hj:Jn (cF js) N js.length) (hk:JK S js) {i:Nat} (hi:i < N) (hil:i ∉ jW js) (b:Nat):aF N (fun k=>sW S js i k * gm S k b) = zD S (cF js) (2 * js.length) i b:=by
 rw [Qv hj hk hi hil,zD]
 congr 1
 have hM:=nZ S (cF js) (2 * js.length)
 have hw:=(nJ hM (hk (zT S (cF js) (2 * js.length) b))).1
 have hq : ∀ y, y < 2 * js.length → aF (2 * js.length) (fun x => gv (Kr S js i) x * gm (oF S (cF js) (2 * js.length)) x y) = gm S i (gq (cF js) y) := fun y hy => by
  have h:=(nJ (sA S js) (Ia hk zo (Vs S js i))).1 y hy
  rw [show gv (Vs S js i) y = gm S i (gq (cF js) y) from iN hy] at h
  rw [← h]
  exact aA fun x hx=>by rw [Nt hy hx]; show _ = _ * gv (Kr S js i) x; grind
 have e1 : aF (2 * js.length) (fun y => gv (Kr S js i) y * gm S (gq (cF js) (iR y)) b) = aF (2 * js.length) fun y => aF (2 * js.length) fun k => gv (Kr S js i) y * gm (oF S (cF js) (2 * js.length)) y k * gv (lP (oF S (cF js) (2 * js.length)) (zT S (cF js) (2 * js.length) b) (2 * js.length)) k := aA fun y hy => by
  have h:=hw y hy
  rw [Ns hy] at h
  rw [← h,← jB]
  exact aA fun _ _=>by grind
 rw [e1,iT]
 exact aA fun k hkk=>by rw [iV,hq k hkk]
theorem Zu (G : List Nat) (f : Nat → Qi) : ∀ n, aF n (fun k => if k ∈ G then 0 else f k) = aF (gY G n).length fun a => f (cO (gY G n) a)
 | 0=>rfl
 | n + 1 => by
  rw [lQ,Zu G f n,gY]
  by_cases c:n ∈ G
  ·rw [if_pos c,if_pos c,List.append_nil]; grind
  ·rw [if_neg c, if_neg c, List.length_append, show [n].length = 1 from rfl, lQ]
   congr 1
   ·exact aA fun a ha=>by simp only [cO,List.getD,List.getElem?_append_left ha]
   ·simp [cO,List.getD]
theorem Kt (hj:Jn (cF js) N js.length) (f:Nat → Qi):aF N f = (aF (gY (jW js) N).length fun a=>f (cO (gY (jW js) N) a)) + aF (2 * js.length) fun y=>f (gq (cF js) y):=by
 rw [← Zu]
 have e : ∀ k, k < N → f k = (if k ∈ jW js then 0 else f k) + aF (2 * js.length) fun y => if gq (cF js) y = k then f k else 0 := fun k hk => by
  by_cases c:k ∈ jW js
  ·obtain ⟨x, hx, e⟩ := rZ.1 c
   rw [if_pos c,cE hx (fun y hy hne=>if_neg fun e2=>hne (hj.inj _ _ hy hx (e2.trans e.symm))),if_pos e]; grind
  ·rw [if_neg c,cL fun y hy=>if_neg fun e2=>c (rZ.2 ⟨y,hy,e2⟩)]; grind
 rw [aA e,kU]
 congr 1
 rw [iT]
 exact aA fun y hy=>by rw [cE (hj.lt y hy) (fun k _ hk=>if_neg (Ne.symm hk)),if_pos rfl]
theorem Sc (f : Nat → Qi) : ∀ m, aF (2 * m) (fun y => f (iR y)) = aF (2 * m) f
 | 0=>rfl
 | m + 1 => by
  rw [show 2 * (m + 1) = 2 * m + 1 + 1 by omega,lQ,lQ,lQ,lQ,Sc f m,show iR (2 * m) = 2 * m + 1 by unfold iR; split <;> omega,show iR (2 * m + 1) = 2 * m by unfold iR; split <;> omega]; grind
theorem Ch {G:List Nat} {n a:Nat} (h:a < (gY G n).length):cO (gY G n) a ∉ G:=by
 have : ∀ n x, x ∈ gY G n → x ∉ G := fun n => by
  induction n with
  | zero=>intro x h; cases h
  | succ n ih =>
   intro x h
   rcases List.mem_append.1 h with h1 | h1
   ·exact ih x h1
   ·by_cases c : n ∈ G
    ·rw [if_pos c] at h1; cases h1
    ·rw [if_neg c] at h1; rw [List.mem_singleton.1 h1]; exact c
 refine this n _ ?_
 rw [show cO (gY G n) a = (gY G n)[a] by simp [cO,List.getD,h]]; exact List.getElem_mem h
theorem Re {G:List Nat} {n a:Nat} (h:a < (gY G n).length):cO (gY G n) a < n:=nU (fun _ k=>yO k) h
theorem Fm (G : List Nat) : ∀ n, (gY G n).Pairwise (· < ·)
 | 0=>List.Pairwise.nil
 | n + 1 => by
  rw [gY,List.pairwise_append]
  refine ⟨Fm G n,?_,fun a ha b hb=>?_⟩
  ·split
   ·exact List.Pairwise.nil
   ·exact List.pairwise_singleton _ _
  ·have := yO ha
   split at hb
   ·cases hb
   ·rw [List.mem_singleton.1 hb]; exact this
theorem Kw {G:List Nat} {n a b:Nat} (ha:a < (gY G n).length) (hb:b < (gY G n).length) (e:cO (gY G n) a = cO (gY G n) b):a = b:=by
 have hs:=List.pairwise_iff_getElem.1 (Fm G n)
 have e1:∀ i (h:i < (gY G n).length),cO (gY G n) i = (gY G n)[i]:=fun i h=>by simp [cO,List.getD,h]
 rw [e1 a ha,e1 b hb] at e
 rcases Nat.lt_trichotomy a b with c | c | c
 ·have:=hs a b ha hb c; omega
 ·exact c
 ·have:=hs b a hb ha c; omega
theorem Zg {a k:Nat} (ha:a < (gY (jW js) N).length) (hk:k < N):gm (yM S js N) a k = sW S js (cO (gY (jW js) N) a) k:=by
 rw [yM,Zd ha,iN hk]
theorem Qc (hS : bT S z.length z.length) (hj : Jn (cF js) z.length js.length) (hk : JK S js) (hz : ∀ y, y < 2 * js.length → gv z (gq (cF js) y) = gv z (gq (cF js) (iR y))) :
  lG (yM S js z.length) (dB z S) = dB (Cf z js) (Hz z S js):=by
 have hl:(yM S js z.length).length = (gY (jW js) z.length).length:=by rw [yM,List.length_map]
 have hzl:(Cf z js).length = (gY (jW js) z.length).length:=aC _ _
 have hsl:(Hz z S js).length = (Cf z js).length:=by rw [Hz,aC,hzl]; rfl
 refine lB (n:=(gY (jW js) z.length).length) (m:=(gY (jW js) z.length).length) (by rw [← hl]; exact pX) (by rw [← hzl]; exact qC _ _) fun a ha b hb=>?_
 have fa:=Ch ha
 have fb:=Ch hb
 have la:=Re ha
 have lb:=Re hb
 have hab:a = b ↔ cO (gY (jW js) z.length) a = cO (gY (jW js) z.length) b:=⟨fun e=>e ▸ rfl,Kw ha hb⟩
 rw [rD (N:=z.length) (qC z S).1 zo zo,rA hsl zo zo,hzl]
 have e1:∀ k,k < (gY (jW js) z.length).length → gm (Hz z S js) a k = zD S (cF js) (2 * js.length) (cO (gY (jW js) z.length) a) (cO (gY (jW js) z.length) k):=fun k hk=>dR ha hk
 have e2:∀ k,k < (gY (jW js) z.length).length → gm (Hz z S js) b k = zD S (cF js) (2 * js.length) (cO (gY (jW js) z.length) b) (cO (gY (jW js) z.length) k):=fun k hk=>dR hb hk
 have e3:∀ k,k < (gY (jW js) z.length).length → gv (Cf z js) k = gv z (cO (gY (jW js) z.length) k):=fun k hk=>iN hk
 rw [e3 a ha,aA fun k hk=>by rw [e1 k hk,e2 k hk,e3 k hk]]
 have q0 : kN z.length (gm (yM S js z.length) a) (gm (yM S js z.length) b) (gm (dB z S)) = kN z.length (sW S js (cO (gY (jW js) z.length) a)) (sW S js (cO (gY (jW js) z.length) b)) (fun u v => (if u = v then gv z u else 0) - kN z.length (gm S u) (gm S v) (fun x y => if x = y then gv z x else 0)) :=
  lK (fun k hk=>Zg ha hk) (fun k hk=>Zg hb hk) fun u v hu hv=>by rw [rA hS.1 hu hv,mV]
 rw [q0,Lq,mV,xI,mV]
 generalize hA:cO (gY (jW js) z.length) a = A at *
 generalize hB:cO (gY (jW js) z.length) b = B at *
 rw [Kt hj,Kt hj (fun k=>(aF z.length fun a_1=>sW S js A a_1 * gm S a_1 k) * gv z k * (aF z.length fun a_1=>sW S js B a_1 * gm S a_1 k).conj)]
 have p1 : aF (gY (jW js) z.length).length (fun k => sW S js A (cO (gY (jW js) z.length) k) * gv z (cO (gY (jW js) z.length) k) * (sW S js B (cO (gY (jW js) z.length) k)).conj) = if a = b then gv z A else 0 := by
  rw [cE ha (fun k hk hne => by
   rw [wW (Ch hk),if_neg fun e=>hne (Kw hk ha (e.trans hA.symm))]; grind),hA,wW fa,if_pos rfl,wW fa]
  by_cases c:a = b
  ·rw [if_pos c,if_pos (hab.1 c),oD]; grind
  ·rw [if_neg c,if_neg fun e=>c (hab.2 e),fS]; grind
 have p2 : aF (2 * js.length) (fun y => (aF z.length fun k => sW S js A k * gm S k (gq (cF js) y)) * gv z (gq (cF js) y) * (aF z.length fun k => sW S js B k * gm S k (gq (cF js) y)).conj) = aF (2 * js.length) fun y => sW S js A (gq (cF js) y) * gv z (gq (cF js) y) * (sW S js B (gq (cF js) y)).conj := by
  rw [← Sc (fun y=>sW S js A (gq (cF js) y) * gv z (gq (cF js) y) * (sW S js B (gq (cF js) y)).conj)]
  exact aA fun y hy=>by rw [a60 hj hk la fa hy,a60 hj hk lb fb hy,hz y hy]
 have p3 : aF (gY (jW js) z.length).length (fun k => (aF z.length fun u => sW S js A u * gm S u (cO (gY (jW js) z.length) k)) * gv z (cO (gY (jW js) z.length) k) * (aF z.length fun u => sW S js B u * gm S u (cO (gY (jW js) z.length) k)).conj) = aF (gY (jW js) z.length).length fun k => zD S (cF js) (2 * js.length) A (cO (gY (jW js) z.length) k) * gv z (cO (gY (jW js) z.length) k) * (zD S (cF js) (2 * js.length) B (cO (gY (jW js) z.length) k)).conj :=
  aA fun k _=>by rw [a61 hj hk la fa,a61 hj hk lb fb]
 rw [p1,p2,p3]
 grind
theorem a63 (hd:zR z js = 0) {y:Nat} (hy:y < 2 * js.length):gv z (gq (cF js) y) = gv z (gq (cF js) (iR y)):=by
 have key : ∀ k, k < js.length → gv z (gq (cF js) (2 * k)) = gv z (gq (cF js) (2 * k + 1)) := fun k hk => by
  obtain ⟨_,_,e⟩:=Ku (gU hd k hk)
  rw [(Zr hk).1,(Zr hk).2]; exact e
 have h:=key (y / 2) zo
 by_cases c:y % 2 = 0
 ·rw [show iR y = 2 * (y / 2) + 1 by unfold iR; rw [if_pos c]; omega,← h]; congr 2; omega
 ·rw [show iR y = 2 * (y / 2) by unfold iR; rw [if_neg c]; omega,h]; congr 2; omega
theorem a4T (hS:bT S z.length z.length) (hE:vX z S js = 0) (hl:z.length ≤ 8) {t:Qi}:Rn z S (fI t (dB z S) z.length) js = fI t (dB (qX z S js) (vA z S js)) (qX z S js).length:=by
 obtain ⟨hd,hj6,hk,hne⟩:=xC hE hl
 rw [Rn,qX,vA,fF,fF,fF,if_pos hE,if_pos hE,if_pos hE]
 by_cases h0:js.length = 0
 ·obtain rfl : js = [] := List.length_eq_zero_iff.1 h0
  rw [if_pos h0,if_pos h0,Hk kT]
 ·rw [if_neg h0, if_neg h0, Xp (qC z S).1, Qc hS (zE hd) hk fun y hy => a63 hd hy]
  congr 1
  rw [yM,List.length_map,Cf,mN,aC]; rfl
theorem Hl {z zb:List Qi} {k:Nat} (h:k < z.length):gv (z ++ zb) k = gv z k:=by simp only [gv,List.getD,List.getElem?_append_left h]
theorem Hm {z zb:List Qi} {k:Nat}:gv (z ++ zb) (z.length + k) = gv zb k:=by simp only [gv,List.getD,List.getElem?_append_right (Nat.le_add_right _ _),Nat.add_sub_cancel_left]
theorem Li {z zb:List Qi} {a b:List (List Qi)} (ha:a.length = z.length) (hb:b.length = zb.length):dB (z ++ zb) (kO a b z.length zb.length) = kO (dB z a) (dB zb b) z.length zb.length:=by
 have hl:(z ++ zb).length = z.length + zb.length:=List.length_append
 refine lB (n:=z.length + zb.length) (m:=z.length + zb.length) (by rw [← hl]; exact qC _ _) (mC _ _ _ _) fun i hi j hj=>?_
 have g1:∀ i k,i < z.length → k < z.length → gm (kO a b z.length zb.length) i k = gm a i k:=fun i k h1 h2=>by rw [iE zo zo,if_pos h1,if_pos h2]
 have g2:∀ i k,i < z.length → k < zb.length → gm (kO a b z.length zb.length) i (z.length + k) = 0:=fun i k h1 h2=>by rw [iE zo zo,if_pos h1,if_neg zo]; rfl
 have g3:∀ i k,i < zb.length → k < z.length → gm (kO a b z.length zb.length) (z.length + i) k = 0:=fun i k h1 h2=>by rw [iE zo zo,if_neg zo,if_neg zo]; rfl
 have g4:∀ i k,i < zb.length → k < zb.length → gm (kO a b z.length zb.length) (z.length + i) (z.length + k) = gm b i k:=fun i k h1 h2=>by rw [iE zo zo,if_neg zo,if_pos zo,Nat.add_sub_cancel_left,Nat.add_sub_cancel_left]
 rw [rA (by rw [(mC _ _ _ _).1,hl]) zo zo,hl,nM]
 by_cases ci:i < z.length
 ·by_cases cj : j < z.length
  ·rw [iE hi hj, if_pos ci, if_pos cj, rA ha ci cj, Hl ci, cL (m := zb.length) fun k hk => by rw [g2 i k ci hk]; grind]
   rw [aA fun k hk=>by rw [g1 i k ci hk,g1 j k cj hk,Hl hk]]; grind
  ·obtain ⟨j', rfl⟩ : ∃ j', j = z.length + j' := ⟨j - z.length, by omega⟩
   rw [iE hi hj,if_pos ci,if_neg cj,if_neg zo,cL (m:=zb.length) (fun k hk=>by rw [g2 i k ci hk]; grind),cL fun k hk=>by rw [g3 j' k zo hk,fS]; grind]
   show _ = (0:Qi); grind
 ·obtain ⟨i', rfl⟩ : ∃ i', i = z.length + i' := ⟨i - z.length, by omega⟩
  by_cases cj:j < z.length
  ·rw [iE hi hj, if_neg ci, if_neg zo, if_neg zo, cL (m := z.length) (fun k hk => by rw [g3 i' k zo hk]; grind), cL fun k hk => by rw [g2 j k cj hk, fS]; grind]
   show _ = (0:Qi); grind
  ·obtain ⟨j', rfl⟩ : ∃ j', j = z.length + j' := ⟨j - z.length, by omega⟩
   rw [iE hi hj,if_neg ci,if_pos (show z.length ≤ z.length + j' by omega),Nat.add_sub_cancel_left,Nat.add_sub_cancel_left,rA hb zo zo,Hm,cL (m:=z.length) fun k hk=>by rw [g3 i' k zo hk]; grind]
   rw [aA fun k hk=>by rw [g4 i' k zo hk,g4 j' k zo hk,Hm]]
   by_cases c:i' = j'
   ·rw [if_pos c,if_pos (show z.length + i' = z.length + j' by omega)]; grind
   ·rw [if_neg c,if_neg (show ¬ z.length + i' = z.length + j' by omega)]; grind
theorem a0C {c d : List (List Qi)} {t : Qi} {x y : Nat} : fI t (kO c d x y) (x + y) = kO (fI t c x) (fI t d y) x y := lB kT (mC _ _ _ _) fun i hi j hj => by
 rw [fI,dR hi hj,iE hi hj,iE hi hj]
 by_cases ci:i < x
 ·rw [if_pos ci, if_pos ci]
  by_cases cj:j < x
  ·rw [if_pos cj,if_pos cj,fI,dR ci cj]
  ·rw [if_neg cj,if_neg cj]; show t * (0:Qi) = 0; grind
 ·rw [if_neg ci, if_neg ci]
  by_cases cj:x ≤ j
  ·rw [if_pos cj,if_pos cj,fI,dR zo zo]
  ·rw [if_neg cj,if_neg cj]; show t * (0:Qi) = 0; grind
end
end
section
open Go Go.RowKit
section
variable {z w:List Qi} {s c:List (List Qi)} {n:Nat}
abbrev dl (i k:Nat):Qi:=if i = k then 1 else 0
theorem Fw {n:Nat} (f g:Nat → Qi):aF n f - aF n g = aF n fun k=>f k - g k:=by
 rw [aA (f:=fun k=>f k - g k) (g:=fun k=>f k - 1 * g k) (fun k _=>by grind),rN]; grind
theorem Fr {x:Qi} (h:jG x = true):x.conj = x:=by
 have hb:=a5c h
 have e : x.im = 0 := by
  have h2:=(wP x).2
  rw [hb] at h2
  have hd : ((x.den : Int) : Rat) ≠ 0 := by
   have:=x.den_pos
   intro k
   have:(x.den:Int) = 0:=by exact_mod_cast k
   omega
  have h3:((x.den:Int):Rat) * x.im = 0:=by rw [h2]; rfl
  rcases Rat.mul_eq_zero.1 h3 with k | k
  ·exact absurd k hd
  ·exact k
 exact Qi.ext' rfl (by show -x.im = x.im; rw [e]; rfl)
end
section
variable {z:List Qi} {s:List (List Qi)} {n:Nat}
def Cw (z:List Qi) (s:List (List Qi)) (i k m:Nat):Qi:=(if i = k then 1 / gv z i else 0) - aF m fun m=>(gm s m i).conj * gm s m k / gv z m
def Am (z:List Qi) (s:List (List Qi)):List (List Qi):=tab z.length fun i=>tab z.length fun k=>Cw z s i k z.length
end
section
variable {z:List Qi} {s:List (List Qi)} {l:List Int}
theorem Cd : ∀ (n : Nat) (q : Nat → Nat), (∀ i, i < n → q i < n) → (∀ i j, i < n → j < n → q i = q j → i = j) → ∀ k, k < n → ∃ i, i < n ∧ q i = k
 | 0,_,_,_,k,hk=>by omega
 | n + 1, q, hq, hi, k, hk => by
  have hqn:=hq n zo
  obtain ⟨hlt, hinj⟩ : (∀ i, i < n → (if q i = n then q n else q i) < n) ∧ ∀ i j, i < n → j < n → (if q i = n then q n else q i) = (if q j = n then q n else q j) → i = j := by
   constructor
   ·intro i h
    have a:=hq i zo
    by_cases c:q i = n
    ·rw [if_pos c]
     have:q n ≠ n:=fun e=>by have:=hi i n zo zo (c.trans e.symm); omega
     omega
    ·rw [if_neg c]; omega
   ·intro i j h1 h2 e
    by_cases c:q i = n
    ·by_cases d : q j = n
     ·exact hi i j zo zo (c.trans d.symm)
     ·rw [if_pos c, if_neg d] at e
      have:=hi n j zo zo e; omega
    ·by_cases d : q j = n
     ·rw [if_neg c, if_pos d] at e
      have:=hi i n zo zo e; omega
     ·rw [if_neg c,if_neg d] at e; exact hi i j zo zo e
  by_cases c:k = q n
  ·exact ⟨n,by omega,c.symm⟩
  ·by_cases d : k = n
   ·subst d
    obtain ⟨i,h1,h2⟩:=Cd k _ hlt hinj (q k) zo
    by_cases e:q i = k
    ·exact ⟨i,by omega,e⟩
    ·rw [if_neg e] at h2
     have:=hi i k zo zo h2; omega
   ·obtain ⟨i, h1, h2⟩ := Cd n _ hlt hinj k zo
    by_cases e:q i = n
    ·rw [if_pos e] at h2; exact absurd h2.symm c
    ·rw [if_neg e] at h2; exact ⟨i,by omega,h2⟩
theorem a0h {Q:List Nat} {n:Nat} (hl:Q.length = n) (hlt:∀ x,x ∈ Q → x < n) (hinj:∀ i j,i < n → j < n → cO Q i = cO Q j → i = j) (f:Nat → Qi):(aF n fun i=>f (cO Q i)) = aF n f:=by
 have hq:∀ i,i < n → cO Q i < n:=fun i hi=>nU hlt zo
 have e1 : (aF n fun i => f (cO Q i)) = aF n fun i => aF n fun k => if cO Q i = k then f k else 0 := aA fun i hi => by
  rw [cE (hq i hi) (fun k _ hne=>if_neg (Ne.symm hne)),if_pos rfl]
 rw [e1,iT]
 exact aA fun k hk => by
  obtain ⟨i,hi,e2⟩:=Cd n (cO Q) hq hinj k hk
  rw [cE hi (fun j hj hne=>if_neg fun e3=>hne (hinj j i hj hi (e3.trans e2.symm))),if_pos e2]
end
section
variable {z:List Qi} {s:List (List Qi)} {g t:Qi} {p n:Nat}
end
end
section
open Go Go.RowKit
theorem Cy {z:List Qi} {s:List (List Qi)} {i k:Nat}:Cw z s i k 0 = if i = k then Qi.ofInt 1 / gv z i else Qi.zero:=by
 have e:Cw z s i k 0 = (if i = k then 1 / gv z i else 0) - 0:=rfl
 rw [e,show (if i = k then 1 / gv z i else (0:Qi)) - 0 = if i = k then 1 / gv z i else 0 by grind]; rfl
theorem Lo {z:List Qi} {s:List (List Qi)} {i k m:Nat}:Cw z s i k (m + 1) = Cw z s i k m - (gm s m i).conj * gm s m k / gv z m:=by
 unfold Cw
 rw [show (aF (m + 1) fun m=>(gm s m i).conj * gm s m k / gv z m) = (aF m fun m=>(gm s m i).conj * gm s m k / gv z m) + (gm s m i).conj * gm s m k / gv z m from rfl]
 grind
theorem Io {z : List Qi} {s : List (List Qi)} {i k L : Nat} (hz : bR z L) (hs : aS s L) (hL : 1 ≤ L) (hp : z.all jG = true) (hi : i < z.length) : ∀ {m : Nat}, m ≤ z.length → aH (Cw z s i k m) (1 + 3 * L + 2 + m * (6 * L + 5))
 | 0, _ => by
  rw [Cy]
  split
  ·exact (pF mF (hz.get hL i) (vF hp hi)).le zo
  ·exact aH.zero zo
 | m + 1, hm => by
  rw [Lo]
  haveI f1:=Io (k:=k) hz hs hL hp hi (m:=m) zo
  haveI f2:aH (gm s m i) L:=hs.get hL m i
  haveI f3:aH (gm s m k) L:=hs.get hL m k
  haveI f4:aH (gm s m i).conj L:=fitConj
  haveI f5:aH ((gm s m i).conj * gm s m k) (L + L + 1):=fitMul
  haveI f6:aH ((gm s m i).conj * gm s m k / gv z m) (L + L + 1 + 3 * L + 2):=pF f5 (hz.get hL m) (vF hp zo)
  exact (fitSub (x:=Cw z s i k m) (y:=(gm s m i).conj * gm s m k / gv z m) (L:=1 + 3 * L + 2 + m * (6 * L + 5)) (M:=L + L + 1 + 3 * L + 2)).le (by rw [Nat.succ_mul m]; omega)
theorem Ip {z : List Qi} {s : List (List Qi)} {L : Nat} (hz : bR z L) (hs : aS s L) (hL : 1 ≤ L) (hp : z.all jG = true) (h8 : z.length ≤ 8) : aS (Am z s) (51 * L + 43) := aS.tab fun i k hi _ => (Io hz hs hL hp hi (Nat.le_refl _)).le (by
 have:z.length * (6 * L + 5) ≤ 8 * (6 * L + 5):=Nat.mul_le_mul_right _ h8
 omega)
theorem Iq (z:List Qi) (s:List (List Qi)):bT (Am z s) z.length z.length:=bT.tab
theorem a4h {z:List Qi} {s:List (List Qi)} {n i k L:Nat} (hz:bR z L) (hs:aS s L) (hL:1 ≤ L) (hLb:L ≤ 100000000000) (hp:z.all jG = true) (hsh:bT s z.length z.length) (hn:n = z.length) (h8:n ≤ 8) (hi:i < n) (hk:k < n):bI Tryz.prog 198 [NT .i64 i,NT .i64 k,PT (dO z s)] (aE (Cw z s i k n)):=by
 have hsl:=hsh.1
 haveI f0:=mF
 haveI f1:aH (gv z i) L:=hz.get hL i
 refine bI.intro Tryz.func198 rfl Tryz.ntmps198 rfl (fun cx=>(ts (rn rfl (eK (Ts:=[Is (.bool false),Is (.slice none 0 0),Is (.bool false),Is (.slice none 0 0),Is (.slice none 0 0)]) O_60 rfl (fun V=>aW zd (aW zd (aW zd (aW zd (aW zd (aG))))))) fun B5=>(eJ (ts (ro rfl (aM.imp (tX ) lY) (rn rfl (eK (Ts:=[Is (.bool false),Is (.slice none 0 0),Is (.bool false),Is (.slice none 0 0),Is (.slice none 0 0)]) O_60 rfl (fun V=>aW zd (aW zd (aW zd (aW zd (aW zd (aG))))))) fun B6=>?_)))))))
 refine gZ Z_60 (Ht rfl) (Ht rfl) rfl (i:=1) rfl (aK rfl) rfl rfl (eJ (cK (bL [0,1] rfl (by decide) (mI (fun (x:Qi)=>x = Cw z s i k 0) (fun (x:Qi)=>[(0,NT .i64 i),(1,NT .i64 k),(2,PT (dO z s)),(5,bO B5 0),(6,bO B6 0)]) (fun (x:Qi)=>[box B5 60 [Is (.bool false),Is (.slice none 0 0),Is (.bool false),Is (.slice none 0 0),Is (.slice none 0 0)],box B6 60 [aI (decide (x.a < 0)),bB x.a.natAbs,aI (decide (x.b < 0)),bB x.b.natAbs,bB (du x)]]) ?_ (fun x hx=>?_)))))
 ·refine ts (rm rfl (rm rfl (ro rfl (eH (Ht rfl) (Ht rfl)) (eJ (dQ (Ht rfl) (fun hb => ?_) (fun hb => ?_))))))
  ·have hij : i = k := by simpa using hb
   refine Y.D_start (m:=11) [(10,1,box B6 60 [aI (decide ((Qi.ofInt 1 / gv z i).a < 0)),bB (Qi.ofInt 1 / gv z i).a.natAbs,aI (decide ((Qi.ofInt 1 / gv z i).b < 0)),bB (Qi.ofInt 1 / gv z i).b.natAbs,bB (du (Qi.ofInt 1 / gv z i))])] (Y.D_step (Ei:=[]) rfl rfl bX rfl rfl (by kernel_rfl) (dX rfl (cZ K_52 (oW (n:=1) (by decide) (by decide)) ⟨(cJ 1),trivial⟩)) (Y.D_step (Ei:=[(2,_)]) rfl rfl (bQ (bJ rfl rfl) bX) rfl rfl (by kernel_rfl) (dX rfl (iC eE (Ht rfl) rfl)) (Y.D_step (Ei:=[(16,_)]) rfl rfl (bQ (bZ 1 rfl rfl) bX) rfl rfl (by kernel_rfl) (dX rfl (dJ A_25 Z_25 (Ht rfl))) ?_)))
   refine Y.D_step (Ei:=[(0,_)]) rfl rfl (bQ (bJ rfl rfl) bX) rfl rfl (by kernel_rfl) (dX rfl (cX (Ht rfl))) (Y.D_step (Ei:=[(17,_),(18,_)]) rfl rfl (bQ (bZ 2 rfl rfl) (bQ (bZ 3 rfl rfl) bX)) rfl rfl (by kernel_rfl) (dX rfl (dZ U_25 Z_60 (Ht rfl) (Ht rfl) rfl (eX (eQ (d:=Qi.zero) zo)))) (Y.D_step (Ei:=[(19,_)]) rfl rfl (bQ (bZ 4 rfl rfl) bX) rfl rfl (by kernel_rfl) (dX rfl (dJ A_60 Z_60 (Ht rfl))) (Y.D_step (Ei:=[(15,_),(20,_)]) rfl rfl (bQ (bZ 0 rfl rfl) (bQ (bZ 5 rfl rfl) bX)) rfl rfl (by kernel_rfl) (dX rfl (cZ K_64 (tA (x:=Qi.ofInt 1) (y:=gv z i) (L:=1) (M:=L) zo) ⟨(Ht rfl),(Ht rfl),trivial⟩)) ?_)))
   refine Y.D_step (Ei:=[(21,_)]) rfl rfl (bQ (bZ 6 rfl rfl) bX) rfl rfl (by kernel_rfl) (dX rfl (cX (Ht rfl))) (Y.D_step (Ei:=[(14,_)]) rfl rfl (bQ (bZ 7 rfl rfl) bX) rfl rfl (by kernel_rfl) (dX rfl (dY (Ht rfl) rfl)) (bY (Ei:=[(14,_)]) rfl rfl (bQ (bZ 7 rfl rfl) bX) rfl rfl (dX rfl (dY (Ht rfl) rfl)) (Y.D_putI (Ei:=[(6,_),(22,_)]) 1 rfl rfl rfl (bQ (bJ rfl rfl) (bQ (bZ 8 rfl rfl) bX)) (.head _) rfl (pT Z_60 (Ht rfl) (Ht rfl) rfl (i:=0) rfl (aK rfl) rfl rfl) ?_)))
   refine Y.D_done aT rfl (by kernel_rfl) rfl (by simp [Y.okP]) rfl rfl (bU (bU (bU (bU (bU (bU (bU (bU (bU (bU (Y.F_putI (Y.F_nil ?_))))))))))))
   refine eJ (cD (Qi.ofInt 1 / gv z i) (by rw [Cy,if_pos hij]) (zS rfl) (aU (aB rfl) (aU (aB rfl) aY)))
  ·have hij : ¬ i = k := by simpa using hb
   refine cU (cD Qi.zero (by rw [Cy,if_neg hij]) (zS rfl) (aU (aB rfl) (aU (aB rfl) aY)))
 ·subst hx
  refine cK (ts (ro rfl (iC fC (Ht rfl) rfl) (ro rfl (dJ A_26 Z_26 (Ht rfl)) (ro rfl (dU U_26 (Ht rfl) (by rw [List.length_map,hsl])) ?_))))
  refine ro rfl (cX (cJ 0)) (eJ (eU ?_))
  refine cB (fun (m : Nat) => m ≤ n) (fun (m : Nat) => n - m) (fun (m : Nat) => [(0, NT .i64 i), (1, NT .i64 k), (2, PT (dO z s)), (5, bO B5 0), (6, bO B6 0), (26, NT .i64 n), (27, NT .i64 m)]) (fun (m : Nat) => [box B5 60 [Is (.bool false), Is (.slice none 0 0), Is (.bool false), Is (.slice none 0 0), Is (.slice none 0 0)], box B6 60 [aI (decide ((Cw z s i k m).a < 0)), bB (Cw z s i k m).a.natAbs, aI (decide ((Cw z s i k m).b < 0)), bB (Cw z s i k m).b.natAbs, bB (du (Cw z s i k m))]]) 0 (Nat.zero_le _)
   (aQ rfl (aQ rfl (aQ rfl (aQ rfl (aQ rfl (aZ rfl (nQ hn.symm) (zS rfl))))))) (aU (aB rfl) (aU (aB rfl) aY)) (fun m hm=>?_)
  refine ts (ro rfl (gJ (Ht rfl) (Ht rfl)) (eJ (cK (dQ (Ht rfl) (fun hd=>?_) (fun hd=>?_)))))
  ·have hmn : m < n := by simp only [decide_eq_true_eq] at hd; omega
   have hsr:=hsh.row (i:=m) zo
   haveI f2:aH (gm s m i) L:=hs.get hL m i
   haveI f3:aH (gm s m k) L:=hs.get hL m k
   haveI f4:aH (gv z m) L:=hz.get hL m
   haveI f5:aH (gm s m i).conj L:=fitConj
   haveI f6:aH ((gm s m i).conj * gm s m k) (L + L + 1):=fitMul
   haveI f7:aH ((gm s m i).conj * gm s m k / gv z m) (L + L + 1 + 3 * L + 2):=pF f6 f4 (vF hp zo)
   have f8:=Io (k:=k) hz hs hL hp (show i < z.length by omega) (m:=m) zo
   haveI f9 : aH (Cw z s i k m) (100 * L + 100) := f8.le (by
    have:m * (6 * L + 5) ≤ 8 * (6 * L + 5):=Nat.mul_le_mul_right _ zo
    omega)
   refine cU (cK (eU (ts (rm rfl (ra rfl (eJ (cK (Y.D_start (m:=29) [] (bY (Ei:=[(2,_)]) rfl rfl (bQ (bJ rfl rfl) bX) rfl rfl (dX rfl (iC fC (Ht rfl) rfl)) (bY (Ei:=[(31,_)]) rfl rfl (bQ (bZ 0 rfl rfl) bX) rfl rfl (dX rfl (dJ A_26 Z_26 (Ht rfl))) (bY (Ei:=[(7,_)]) rfl rfl (bQ (bJ rfl rfl) bX) rfl rfl (dX rfl (cX (Ht rfl))) (bY (Ei:=[(32,_),(33,_)]) rfl rfl (bQ (bZ 1 rfl rfl) (bQ (bZ 2 rfl rfl) bX)) rfl rfl (dX rfl (dZ U_26 Z_25 (Ht rfl) (Ht rfl) rfl (eX (eQ (d:=[]) zo)))) ?_))))))))))))
   refine bY (Ei:=[(34,_)]) rfl rfl (bQ (bZ 3 rfl rfl) bX) rfl rfl (dX rfl (dJ A_25 Z_25 (Ht rfl))) (bY (Ei:=[(0,_)]) rfl rfl (bQ (bJ rfl rfl) bX) rfl rfl (dX rfl (cX (Ht rfl))) (bY (Ei:=[(35,_),(36,_)]) rfl rfl (bQ (bZ 4 rfl rfl) (bQ (bZ 5 rfl rfl) bX)) rfl rfl (dX rfl (dZ U_25 Z_60 (Ht rfl) (Ht rfl) rfl (eX (eQ (d:=Qi.zero) zo)))) (bY (Ei:=[(37,_)]) rfl rfl (bQ (bZ 6 rfl rfl) bX) rfl rfl (dX rfl (dJ A_60 Z_60 (Ht rfl))) ?_)))
   refine bY (Ei:=[(38,_)]) rfl rfl (bQ (bZ 7 rfl rfl) bX) rfl rfl (dX rfl (cZ Tryz.call173 Be ⟨(Ht rfl),trivial⟩)) (bY (Ei:=[(2,_)]) rfl rfl (bQ (bJ rfl rfl) bX) rfl rfl (dX rfl (iC fC (Ht rfl) rfl)) (bY (Ei:=[(40,_)]) rfl rfl (bQ (bZ 9 rfl rfl) bX) rfl rfl (dX rfl (dJ A_26 Z_26 (Ht rfl))) (bY (Ei:=[(7,_)]) rfl rfl (bQ (bJ rfl rfl) bX) rfl rfl (dX rfl (cX (Ht rfl))) (bY (Ei:=[(41,_),(42,_)]) rfl rfl (bQ (bZ 10 rfl rfl) (bQ (bZ 11 rfl rfl) bX)) rfl rfl (dX rfl (dZ U_26 Z_25 (Ht rfl) (Ht rfl) rfl (eX (eQ (d:=[]) zo)))) ?_))))
   refine bY (Ei:=[(43,_)]) rfl rfl (bQ (bZ 12 rfl rfl) bX) rfl rfl (dX rfl (dJ A_25 Z_25 (Ht rfl))) (bY (Ei:=[(1,_)]) rfl rfl (bQ (bJ rfl rfl) bX) rfl rfl (dX rfl (cX (Ht rfl))) (bY (Ei:=[(44,_),(45,_)]) rfl rfl (bQ (bZ 13 rfl rfl) (bQ (bZ 14 rfl rfl) bX)) rfl rfl (dX rfl (dZ U_25 Z_60 (Ht rfl) (Ht rfl) rfl (eX (eQ (d:=Qi.zero) zo)))) (bY (Ei:=[(46,_)]) rfl rfl (bQ (bZ 15 rfl rfl) bX) rfl rfl (dX rfl (dJ A_60 Z_60 (Ht rfl))) ?_)))
   refine bY (Ei:=[(39,_),(47,_)]) rfl rfl (bQ (bZ 8 rfl rfl) (bQ (bZ 16 rfl rfl) bX)) rfl rfl (dX rfl (cZ K_70 (kD (x:=(gm s m i).conj) (y:=gm s m k) (L:=L) (M:=L) zo) ⟨(Ht rfl),(Ht rfl),trivial⟩)) (bY (Ei:=[(2,_)]) rfl rfl (bQ (bJ rfl rfl) bX) rfl rfl (dX rfl (iC eE (Ht rfl) rfl)) (bY (Ei:=[(49,_)]) rfl rfl (bQ (bZ 18 rfl rfl) bX) rfl rfl (dX rfl (dJ A_25 Z_25 (Ht rfl))) (bY (Ei:=[(7,_)]) rfl rfl (bQ (bJ rfl rfl) bX) rfl rfl (dX rfl (cX (Ht rfl))) ?_)))
   refine bY (Ei:=[(50,_),(51,_)]) rfl rfl (bQ (bZ 19 rfl rfl) (bQ (bZ 20 rfl rfl) bX)) rfl rfl (dX rfl (dZ U_25 Z_60 (Ht rfl) (Ht rfl) rfl (eX (eQ (d:=Qi.zero) zo)))) (bY (Ei:=[(52,_)]) rfl rfl (bQ (bZ 21 rfl rfl) bX) rfl rfl (dX rfl (dJ A_60 Z_60 (Ht rfl))) (bY (Ei:=[(48,_),(53,_)]) rfl rfl (bQ (bZ 17 rfl rfl) (bQ (bZ 22 rfl rfl) bX)) rfl rfl (dX rfl (cZ K_64 (tA (x:=(gm s m i).conj * gm s m k) (y:=gv z m) (L:=L + L + 1) (M:=L) zo) ⟨(Ht rfl),(Ht rfl),trivial⟩)) ?_))
   refine bY (Ei:=[(54,_)]) rfl rfl (bQ (bZ 23 rfl rfl) bX) rfl rfl (dX rfl (cX (Ht rfl))) (bY (Ei:=[(30,_)]) rfl rfl (bQ (bZ 24 rfl rfl) bX) rfl rfl (dX rfl (dY (Ht rfl) rfl)) (bY (Ei:=[(30,_)]) rfl rfl (bQ (bZ 24 rfl rfl) bX) rfl rfl (dX rfl (dY (Ht rfl) rfl)) (Y.D_newp (Ei:=[]) (fun bb=>box bb 60 [aI (decide (((gm s m i).conj * gm s m k / gv z m).a < 0)),bB ((gm s m i).conj * gm s m k / gv z m).a.natAbs,aI (decide (((gm s m i).conj * gm s m k / gv z m).b < 0)),bB ((gm s m i).conj * gm s m k / gv z m).b.natAbs,bB (du ((gm s m i).conj * gm s m k / gv z m))]) 28 rfl rfl rfl bX rfl rfl (by kernel_rfl) (eK (Ts:=[Is (.bool false),Is (.slice none 0 0),Is (.bool false),Is (.slice none 0 0),Is (.slice none 0 0)]) O_60 rfl (fun V=>aW zd (aW zd (aW zd (aW zd (aW zd (aG))))))) ?_)))
   refine Y.D_putN (Ei:=[(55,_)]) 27 rfl rfl rfl rfl rfl rfl (bQ (bZ 25 rfl rfl) bX) (fun bb=>pT Z_60 (Ht rfl) (Ht rfl) rfl (i:=0) rfl (aK rfl) rfl rfl) (Y.D_done aT rfl (by kernel_rfl) rfl (by simp [Y.okP]) rfl rfl (bU (bU (bU (bU (bU (bU (bU (bU (bU (bU (bU (bU (bU (bU (bU (bU (bU (bU (bU (bU (bU (bU (bU (bU (bU (bU (bU (Y.F_newp (fun B8=>Y.F_putN (Y.F_nil ?_)))))))))))))))))))))))))))))))
   refine ra rfl (eJ (cY (ro rfl (eG A_60 Z_60 (Ht rfl) (i:=1) rfl rfl rfl) (ro rfl (eG A_60 Z_60 (Ht rfl) (i:=2) rfl rfl rfl) (ro rfl (cZ K_69 (tB (x:=Cw z s i k m) (y:=((gm s m i).conj * gm s m k / gv z m)) (L:=100 * L + 100) (M:=L + L + 1 + 3 * L + 2) zo) ⟨(Ht rfl),(Ht rfl),trivial⟩) (gZ Z_60 (Ht rfl) (Ht rfl) rfl (i:=1) rfl (aK rfl) rfl rfl (eJ (bD (cY (ro rfl (dW (Ht rfl) (cJ 1) z6) ?_))))))))))
   refine rm rfl (eJ (bL [0,1] rfl (by decide) (gQ (m + 1) hmn zo (zS rfl) (aU (aB rfl) (aU (aB (by rw [Lo]; rfl)) aY)))))
  ·have hmn : m = n := by simp only [decide_eq_false_iff_not] at hd; omega
   rw [hmn]
   refine gG rfl (ts (ro rfl (eG A_60 Z_60 (Ht rfl) (i:=1) rfl rfl rfl) (gZ Z_60 (Ht rfl) (Ht rfl) rfl (i:=0) rfl (aK rfl) rfl rfl (eJ ?_))))
   exact fK rfl (fY A_60 Z_60 rfl (i:=0) rfl rfl)
theorem a1t {z:List Qi} {s:List (List Qi)} {L:Nat} (hz:bR z L) (hs:aS s L) (hL:1 ≤ L) (hLb:L ≤ 100000000000) (hp:z.all jG = true) (hsh:bT s z.length z.length) (h8:z.length ≤ 8):bI Tryz.prog 99 [dO z s] (bC (Am z s)):=by
 refine bI.intro Tryz.func99 rfl Tryz.ntmps99 rfl (fun cx=>(ts (rn rfl (fU (Ht rfl)) fun B1=>(ro rfl (cQ cV) (eJ (cK (gW (i:=0) (tt:=1) rfl rfl jH (cY (ro rfl (iC eE (Ht rfl) rfl) (ro rfl (dJ A_25 Z_25 (Ht rfl)) (ro rfl (dU U_25 (Ht rfl) aD) (ro rfl (lO (γ:=Fin z.length × Fin z.length) (Ts:=fun x=>[NT .i64 x.1.1,NT .i64 x.2.1]) (U:=fun x=>aE (Cw z s x.1.1 x.2.1 z.length)) Tryz.call198 (fun x=>a4h hz hs hL hLb hp hsh rfl h8 x.1.2 x.2.2) ⟨(Ht rfl),trivial⟩) ?_))))))))))))
 refine ro rfl (cZ K_110 (yC (n:=z.length) (f:=fun i k=>Cw z s i k z.length) zo) ⟨(Ht rfl),(Ht rfl),trivial⟩) (ra rfl (eJ ?_))
 exact fK rfl (fQ rfl)
end
section
open Go Go.RowKit
def wV (p : Nat → Bool) : Nat → Nat → Nat
 | 0,k=>k
 | f + 1,k=>if p k = true then k else wV p f (k + 1)
theorem Hi {p : Nat → Bool} : ∀ {f k r : Nat}, k ≤ r → r ≤ k + f → (∀ j, k ≤ j → j < r → p j = false) → (r < k + f → p r = true) → wV p f k = r
 | 0,k,r,h1,h2,_,_=>by simp only [wV]; omega
 | f + 1, k, r, h1, h2, h3, h4 => by
  unfold wV
  by_cases e:r = k
  ·subst e; rw [if_pos (h4 zo)]
  ·rw [if_neg (by rw [h3 k (Nat.le_refl _) zo]; simp)]
   exact Hi zo zo (fun j a b=>h3 j zo b) (fun h=>h4 zo)
theorem yL {p : Nat → Bool} : ∀ {f k : Nat}, (k ≤ wV p f k ∧ wV p f k ≤ k + f) ∧ (∀ j, k ≤ j → j < wV p f k → p j = false) ∧ (wV p f k < k + f → p (wV p f k) = true)
 | 0,k=>⟨⟨Nat.le_refl _,Nat.le_refl _⟩,fun j a b=>by simp only [wV] at b; omega,fun h=>by simp only [wV] at h; omega⟩
 | f + 1, k => by
  unfold wV
  by_cases e:p k = true
  ·rw [if_pos e]; exact ⟨⟨Nat.le_refl _,by omega⟩,fun j a b=>by omega,fun _=>e⟩
  ·rw [if_neg e]
   obtain ⟨⟨a1,a2⟩,a3,a4⟩:=yL (p:=p) (f:=f) (k:=k + 1)
   refine ⟨⟨by omega,by omega⟩,fun j a b=>?_,fun h=>a4 zo⟩
   by_cases c:j = k
   ·subst c; simpa using e
   ·exact a3 j zo b
def Zy (x:List Qi) (f:Qi) (y:List Qi):List Qi:=tab x.length fun i=>gv x i + f * gv y i
def Oe (x:Qi):Bool:=decide (Bl x Qi.zero < 0)
def Tv (x:Qi):Qi:=if Oe x = true then -x else x
def Xy (G:List (List Qi)) (n i:Nat):Nat:=wV (fun k=>!decide (gm G i k = 0)) (n - (i + 1)) (i + 1)
def yF (G:List (List Qi)) (i k:Nat):Qi:=(Tv (gm G k k) + Qi.ofInt 1) / ((gm G i k).norm + (gm G i k).norm)
def crV (G V:List (List Qi)) (i k:Nat):List Qi:=Zy (V.getD k []) (-(yF G i k) * gm G i k) (V.getD i [])
def Gy (G V:List (List Qi)) (n i:Nat):List Qi:=if gm G i i = 0 then (if Xy G n i < n then crV G V i (Xy G n i) else []) else []
def wR (G:List (List Qi)) (n i k l:Nat):List (List Qi):=tab n fun r=>tab n fun c=>if (i < r ∧ i < c) ∧ (c < k ∨ c = k ∧ r < l) then gm G r c - gm G r i * (gm G i c / gm G i i) else gm G r c
def Qf (G:List (List Qi)) (n i:Nat):List (List Qi):=wR G n i n 0
def oP (G V:List (List Qi)) (n i k:Nat):List (List Qi):=tab n fun r=>if i < r ∧ r < k then Zy (V.getD r []) (-(gm G i r / gm G i i)) (V.getD i []) else V.getD r []
def fP (h : List (List Qi)) (n : Nat) : Nat → List (List Qi) × List (List Qi)
 | 0=>(h,tN n)
 | i + 1=>if gm (fP h n i).1 i i = 0 then fP h n i else (Qf (fP h n i).1 n i,oP (fP h n i).1 (fP h n i).2 n i n)
def Aa (h : List (List Qi)) (n : Nat) : Nat → Nat → Bool × List Qi
 | 0,_=>(true,[])
 | f + 1,i=>if Oe (gm (fP h n i).1 i i) = true then (false,(fP h n i).2.getD i []) else if Gy (fP h n i).1 (fP h n i).2 n i ≠ [] then (false,Gy (fP h n i).1 (fP h n i).2 n i) else Aa h n f (i + 1)
theorem a4q {G V : List (List Qi)} {i k : Nat} (h : 0 < (V.getD k []).length) : (crV G V i k).map aE ≠ [] := fun e => by
 have:=congrArg List.length e
 rw [List.length_map,crV,Zy,aC] at this
 rw [List.length_nil] at this; omega
theorem Ld {x : Qi} (h : ¬ x = 0) : x.norm + x.norm ≠ 0 := fun e => by
 have e2:x.nrm + x.nrm = 0:=congrArg Qi.re e
 exact h (Qi.nrm_zero.1 (by grind))
theorem qN (G:List (List Qi)) (n i k l:Nat):bT (wR G n i k l) n n:=bT.tab
theorem Tw {G:List (List Qi)} {n i:Nat} (h:bT G n n):wR G n i (i + 1) 0 = G:=by
 have:wR G n i (i + 1) 0 = tab n fun r=>tab n fun c=>gm G r c:=cR fun r _=>cR fun c _=>by rw [if_neg zo]
 rw [this]; exact (qQ h).symm
theorem a1N {G : List (List Qi)} {n i k : Nat} : wR G n i k 0 = wR G n i k (i + 1) := cR fun r _ => cR fun c _ => by
 by_cases a:(i < r ∧ i < c) ∧ (c < k ∨ c = k ∧ r < 0)
 ·rw [if_pos a,if_pos zo]
 ·rw [if_neg a,if_neg zo]
theorem a1M {G : List (List Qi)} {n i k : Nat} : wR G n i k n = wR G n i (k + 1) 0 := cR fun r hr => cR fun c _ => by
 by_cases a:(i < r ∧ i < c) ∧ (c < k ∨ c = k ∧ r < n)
 ·rw [if_pos a,if_pos zo]
 ·rw [if_neg a,if_neg zo]
theorem Ha {G:List (List Qi)} {n i k l r c:Nat} (hr:r < n) (hc:c < n) (h:¬ ((i < r ∧ i < c) ∧ (c < k ∨ c = k ∧ r < l))):gm (wR G n i k l) r c = gm G r c:=by rw [wR,dR hr hc,if_neg h]
theorem Yb {G:List (List Qi)} {n i k l:Nat} (hl:l < n) (hk:k < n) (hil:i < l) (hik:i < k):(wR G n i k l).set l ((dS (wR G n i k l) l).set k (gm G l k - gm G l i * (gm G i k / gm G i i))) = wR G n i k (l + 1):=by
 refine lB (n:=n) (m:=n) ⟨by rw [List.length_set]; exact aC _ _,fun r hr=>?_⟩ (qN _ _ _ _ _) fun r hr c hc=>?_
 ·rcases List.mem_or_eq_of_mem_set hr with h1 | h1
  ·exact (qN G n i k l).2 r h1
  ·rw [h1,List.length_set]; exact (qN G n i k l).row hl
 ·have hrl : (dS (wR G n i k l) l).length = n := (qN G n i k l).row hl
  have hlen:(wR G n i k l).length = n:=aC _ _
  show gv (dS ((wR G n i k l).set l _) r) c = _
  by_cases e:r = l
  ·subst e
   rw [Dd zo,vT zo]
   by_cases e2:c = k
   ·subst e2
    rw [if_pos rfl,wR,dR hr hc,if_pos zo]
   ·rw [if_neg e2]
    show gm (wR G n i k r) r c = _
    rw [wR,dR hr hc,wR,dR hr hc]
    by_cases a:(i < r ∧ i < c) ∧ (c < k ∨ c = k ∧ r < r)
    ·rw [if_pos a,if_pos zo]
    ·rw [if_neg a,if_neg zo]
  ·rw [uN (fun x => e x.symm)]
   show gm (wR G n i k l) r c = _
   rw [wR,dR hr hc,wR,dR hr hc]
   by_cases a:(i < r ∧ i < c) ∧ (c < k ∨ c = k ∧ r < l)
   ·rw [if_pos a,if_pos zo]
   ·rw [if_neg a,if_neg zo]
theorem Nn {G V:List (List Qi)} {n i:Nat} (h:V.length = n):oP G V n i (i + 1) = V:=by
 have:oP G V n i (i + 1) = tab n fun r=>V.getD r []:=cR fun r _=>by rw [if_neg zo]
 rw [this]; exact (Dk (h:=h)).symm
theorem Tx {G V:List (List Qi)} {n i k:Nat} (hk:k < n) (hik:i < k):(oP G V n i k).set k (Zy (V.getD k []) (-(gm G i k / gm G i i)) (V.getD i [])) = oP G V n i (k + 1):=by
 apply List.ext_getElem?
 intro r
 by_cases hr:r < n
 ·by_cases e : r = k
  ·subst e
   rw [List.getElem?_set_self (by rw [oP,aC]; exact hr),oP,cP hr,if_pos zo]
  ·rw [List.getElem?_set_ne (Ne.symm e), oP, oP, cP hr, cP hr]
   by_cases a:i < r ∧ r < k
   ·rw [if_pos a,if_pos zo]
   ·rw [if_neg a,if_neg zo]
 ·rw [List.getElem?_eq_none (by rw [List.length_set,oP,aC]; omega),List.getElem?_eq_none (by rw [oP,aC]; omega)]
theorem Kb {G V:List (List Qi)} {n i k r:Nat} (hr:r < n) (h:¬ (i < r ∧ r < k)):(oP G V n i k).getD r [] = V.getD r []:=by rw [oP,kV hr,if_neg h]
theorem Aj (x y:List Qi) (f:Qi):(Zy x f y).length = x.length:=aC _ _
theorem pC {h : List (List Qi)} {n : Nat} (hs : bT h n n) : ∀ i, i ≤ n → bT (fP h n i).1 n n ∧ bT (fP h n i).2 n n
 | 0,_=>⟨hs,uD n⟩
 | i + 1, hi => by
  obtain ⟨a,b⟩:=pC hs i zo
  simp only [fP]
  split
  ·exact ⟨a,b⟩
  ·refine ⟨qN _ _ _ _ _, ⟨aC _ _, fun r hr => ?_⟩⟩
   obtain ⟨j,hj,rfl⟩:=eS.1 hr
   by_cases c:i < j ∧ j < n
   ·rw [if_pos c,Aj]; exact b.row hj
   ·rw [if_neg c]; exact b.row hj
def mR (h:List (List Qi)) (n:Nat):Bool:=decide (∀ i,i < n → ∀ k,k < n → gm h i k = (gm h k i).conj)
def Er (h:List (List Qi)) (n:Nat):Bool:=if mR h n = true then (Aa h n n 0).1 else false
def dfW (h:List (List Qi)) (n:Nat):List Qi:=if mR h n = true then (Aa h n n 0).2 else []
def dfX (h:List (List Qi)) (n:Nat):Int:=if mR h n = true then 0 else 1
theorem a1L {h:List (List Qi)} {n i:Nat} (hi:i < n) (k:Oe (gm (fP h n i).1 i i) = true):Aa h n (n - i) i = (false,(fP h n i).2.getD i []):=by
 rw [show n - i = (n - (i + 1)) + 1 by omega,Aa,if_pos k]
theorem a1K {h:List (List Qi)} {n i:Nat} (hi:i < n) (k:Oe (gm (fP h n i).1 i i) ≠ true) (w:Gy (fP h n i).1 (fP h n i).2 n i ≠ []):Aa h n (n - i) i = (false,Gy (fP h n i).1 (fP h n i).2 n i):=by
 rw [show n - i = (n - (i + 1)) + 1 by omega,Aa,if_neg k,if_pos w]
theorem a4s {h:List (List Qi)} {n i:Nat} (hi:i < n) (k:Oe (gm (fP h n i).1 i i) ≠ true) (w:Gy (fP h n i).1 (fP h n i).2 n i = []):Aa h n (n - i) i = Aa h n (n - (i + 1)) (i + 1):=by
 rw [show n - i = (n - (i + 1)) + 1 by omega,Aa,if_neg k,if_neg (fun e=>e w)]
theorem rF {h:List (List Qi)} {n i:Nat} (k:gm (fP h n i).1 i i = 0):fP h n (i + 1) = fP h n i:=by rw [fP,if_pos k]
theorem yG {h:List (List Qi)} {n i:Nat} (k:¬ gm (fP h n i).1 i i = 0):fP h n (i + 1) = (Qf (fP h n i).1 n i,oP (fP h n i).1 (fP h n i).2 n i n):=by rw [fP,if_neg k]
structure SzD (h:List (List Qi)) (n G V:Nat):Prop where
 g:∀ i,i ≤ n → aS (fP h n i).1 G
 v:∀ i,i ≤ n → aS (fP h n i).2 V
 g1:1 ≤ G
 v1:1 ≤ V
 b:10 * G + 2 * V + 40 ≤ 8796093022208
end
section
open Go Go.RowKit
section
variable {P:Program} {n:Nat} {E:dC} {H:Hp}
variable {d:Option Tmp} {t:TypeId} {pos:String} {af:Array Edge} {g:Option (Nat × Bool)}
theorem Jh {x y : Operand} {i B o' : Nat} {BT : TypeId} {Ts Ws : List Ty} {T : Ty} [hsh : eA T 1 false] (hS : ∀ w, (sizeOf t).run P w = .ok 1 w) (hx : bH E x (bO B o')) (hy : bH E y T)
  (hH:H[i]? = some (box B BT Ts)) (hlt:o' < Ts.length) (hW:Ts.set o' T = Ws) {t':TypeId} {H':Hp} (hH':H.set i (box B BT Ws) = H') :
  W.PutTy P n E H H' ⟨none,.store t x y,t',pos,af,none⟩:=by subst hW; subst hH'; exact a5B hS hx hy hH hlt
theorem Ul {x y : Operand} {m e s : Nat} {tn : TypeId} {i : TypeInfo} {z : Value} {kd kn : IntKind} (ht : P.underlying t = some (.slice e)) (htn : P.underlying tn = some (.int kn)) (hi : P.info? e = some i) (hz : i.zero = some z) (hs : i.size = s) (hzs : z.cells.size = s) (hs0 : 0 < s)
  (hx:bH E x (Is (.slice none 0 0))) (hy:bH E y (aN kd (m:Int))) (h0:0 < m) (hb:m * i.bytes ≤ 281474976710656) (hm:m ≤ 9223372036854775807) {t':TypeId} :
  iQ P n E H ⟨d,.call ⟨.builtin .append,#[x,y],#[t,tn]⟩,t',pos,af,g⟩ (Nat × Nat) (fun q=>Is (.slice (some ⟨q.1,0,none⟩) m q.2)) (fun q=>bF e s (.slice (some ⟨q.1,0,none⟩) 0 q.2) []):=iQ.of fun cx X a w V hi' hsl=>by
 have ex:a.eval x = .slice none 0 0:=hx n V a hsl
 have ey:a.eval y = .int kd (m:Int):=hy n V a hsl
 have hr:=Lib.run_append_nil_zeros (P:=P) w t tn t' e i z kd kn ht htn hi hz m h0 zo zo hb
 have hge:=grownCap_ge w m 0 e
 have hcm:grownCap w m 0 e ≤ maxLen:=grownCap_le_maxLen w m 0 e (by simp only [maxLen]; omega)
 subst hs
 refine ⟨(w.heap.size,grownCap w m 0 e),_,_,?_,rfl,(hi'.drew).alloc (ob:=.cells (Builtin.zeroCells z.cells m ++ Builtin.zeroCells z.cells (grownCap w m 0 e - m)) e) (fun mm hm'=>⟨[],⟨trivial,by simp,by simp [dA]⟩,.inr ⟨w.heap.size,grownCap w m 0 e,_,rfl,rfl,hm',Nat.zero_le _,hcm,?_,by simp [dA]⟩⟩)⟩
 ·simp [execOp,resolve,invoke,builtin,ex,ey,hr,Sem.run_bind,Result.andThen]
 ·simp only [Array.size_append, size_zeroCells, hzs, ← Nat.add_mul]
  congr 1; omega
theorem Ru {x : Operand} {ad : Option Addr} {l cap : Nat} {e : TypeId} {ta : TypeId} (hU : ∀ w, (underlying ta).run P w = .ok (.slice e) w) (hx : bH E x (Is (.slice ad l cap))) :
  aM P n E H ⟨d,.call ⟨.builtin .cap,#[x],#[ta]⟩,t,pos,af,g⟩ (aN .i64 cap) :=
 dN fun a V w hs => by
  have e1:a.eval x = .slice ad l cap:=hx n V a hs
  exact ⟨.int .i64 cap,by simp [execOp,resolve,e1,invoke,builtin,Builtin.cap_,Sem.run_bind,hU,Result.andThen,goInt],rfl⟩
theorem Fo {x hiO : Operand} {ad : Option Addr} {l cap m s : Nat} {kd : IntKind} {e : TypeId} (hU : ∀ w, (underlying t).run P w = .ok (.slice e) w) (hS : ∀ w, (sizeOf e).run P w = .ok s w) (hx : bH E x (Is (.slice ad l cap))) (hh : bH E hiO (aN kd (m : Int))) (h1 : m ≤ cap) {t' : TypeId} :
  aM P n E H ⟨d,.slice t x none (some hiO) none,t',pos,af,g⟩ (Is (.slice ad m cap)) :=
 dN fun a V w hs => by
  have e1:a.eval x = .slice ad l cap:=hx n V a hs
  have eh:a.eval hiO = .int kd (m:Int):=hh n V a hs
  have had:(ad.map fun x:Addr=>x.add 0) = ad:=by cases ad <;> simp [Addr.add]
  refine ⟨.slice ad m cap,?_,rfl⟩
  simp [execOp,e1,eh,Instr.sliceAt,Instr.slice,Instr.sliceBounds,Instr.sliceBound,asIntOf,Sem.run_bind,hU,hS,Result.andThen,h1,had]
end
end
section
open Go Go.RowKit
section
variable {P:Program} {n:Nat} {E:dC} {H:Hp}
variable {d:Option Tmp} {t:TypeId} {pos:String} {af:Array Edge} {g:Option (Nat × Bool)}
theorem a0a {f : FuncId} {xs : List Operand} {tys : Array TypeId} {Ts : List Ty} {U T0 T1 : Ty} {A : SA} {j tt : Nat} (hc : ∀ args w, (callFunc f args).run P w = .ok (.enter f args) w) (hF : bI P f Ts U)
  (hA:H[j]? = some A) (hl:fT E tt = some T0) (hz:∀ v S V,T0.p v V → A.h S V V → T1.p v V) (hU:∀ v V V',U.p v V → U.p v V') (ha:oY ((tt,T1) :: E) xs Ts) :
  aM P n E H ⟨d,.call ⟨.value (.func f),xs.toArray,tys⟩,t,pos,af,g⟩ U:=fun cx X a w V hi hs K Q hK=>by
 have hrun : (execOp a.eval ⟨d, .call ⟨.value (.func f), xs.toArray, tys⟩, t, pos, af, g⟩).run P w = .ok (.enter f (xs.map a.eval).toArray) w := by
  simp [execOp,resolve,Act.eval,Deferred.ofValue,invoke,hc]
 simp only [Oper.wp,hrun,Oper.upon_enter]
 obtain ⟨F,h1,h2⟩:=hi.hp
 have hjl:=(List.getElem?_eq_some_iff.1 hA).1
 obtain ⟨k1,k2⟩:=h1 j A (by rw [List.getElem?_append_left hjl]; exact hA)
 let V1:aR:=fun b=>if b ∈ F j then w.heap[b]? else V b
 have hle : nO V V1 := fun b o hb => by
  have:b ∉ F j:=fun hf=>by have:=(k2 b hf).1; rw [hb] at this; cases this
  simp only [V1,if_neg this]; exact hb
 have hon : ∀ b o, V1 b = some o → w.heap[b]? = some o := fun b o hb => by
  by_cases hf:b ∈ F j
  ·simp only [V1,if_pos hf] at hb; exact hb
  ·simp only [V1,if_neg hf] at hb; exact hi.on b o hb
 have hA1:A.h (F j) V1 V1:=A.mono (A.loc k1 fun b hb=>by simp only [V1,if_pos hb]; rfl) hle
 have hsl : eL n ((tt, T1) :: E) V1 a := by
  have hs':=hs.mono hle
  refine ⟨hs'.1,hs'.2.1,fun t' T hT=>?_⟩
  rw [dF] at hT
  by_cases e:tt = t'
  ·subst e
   rw [if_pos rfl] at hT; obtain rfl:=Option.some.inj hT
   obtain ⟨v,q1,q2⟩:=hs'.2.2 _ _ hl
   exact ⟨v,q1,hz v (F j) V1 q2 hA1⟩
  ·rw [if_neg e] at hT; exact hs'.2.2 t' T hT
 refine (hF _ V1 w hon (oY.all hsl ha)).mono ?_
 rintro e w' ⟨v,V',rfl,m1,m2,m3,m4,m5⟩
 exact hK v w' V (hi.after (nO.refl V) (fun b o hb=>m2 b o (m1 b o (hle b o hb))) (fun b o hb h0=>by rw [hb] at h0; cases h0) m4) (nO.refl V) (hU v V' V m5)
theorem Uo {x i : Operand} {q : Nat} {Ts : List Ty} {T : Ty} {kd : IntKind} {e : TypeId} {len : Nat} (hU : ∀ w, (underlying t).run P w = .ok (.array len e) w) (hS : ∀ w, (sizeOf e).run P w = .ok 1 w) (hg : ∀ w, (isAgg e).run P w = .ok false w)
  (hx:bH E x (fO Ts)) (hi:bH E i (NT kd q)) (hl:q < len) (hT:Ts[q]? = some T) {t':TypeId}:aM P n E H ⟨d,.index t x i,t',pos,af,g⟩ T :=
 dN fun a V w hs => by
  obtain ⟨vs,e1,e4⟩:=hx n V a hs
  have ei:a.eval i = .int kd (q:Int):=hi n V a hs
  obtain ⟨u,e5,e6⟩:=e4.all.get hT
  exact ⟨u,by simp [execOp,e1,ei,Instr.index,asIntOf,Sem.run_bind,hU,hS,hg,part,Result.andThen,hl,e5],e6⟩
end
end
section
open Go Go.RowKit
section
variable {P:Program} {R:iK} {cx:Cx} {n:Nat} {k:List It} {E:dC} {H:Hp}
theorem HH.two {base:Nat} {w:World} {V:aR} {Z:SA} {X:Hp} (h:HH base w V (Z :: X)):HH base w V [Z,fL (SA.emp :: X)]:=by
 have h1:HH base w V ((Z :: X).set 0 SA.emp ++ [Z]):=h.last rfl
 have h2:HH base w V (fL (SA.emp :: X) :: [Z]):=HH.repack h1
 exact h2.pick (is:=[1,0]) ⟨⟨_,rfl,fun _ _ _ h=>h⟩,⟨_,rfl,fun _ _ _ h=>h⟩,trivial⟩ (by decide)
theorem gM.pack {f : FuncId} {Ts : List Ty} {γ : Type} {U : γ → Ty} {X : γ → Hp} {Q : γ → Prop} (h : gM P f Ts [] γ U X Q) : gM P f Ts [] γ U (fun x => [fL (SA.emp :: X x)]) Q :=
 fun cx Z vs V w h1 h2=>(h cx Z vs V w h1 h2).mono fun e w' ⟨v,V',x,a,b,c,d,e'⟩=>⟨v,V',x,a,b,c.withHH c.hp.two,d,e'⟩
theorem a43 {X Y:Hp} (h:Tr P R cx n k E (X ++ Y)):Tr P R cx n k E (fL X :: Y):=fun a w ⟨V,hin,hs⟩=>h a w ⟨V,hin.withHH hin.hp.unpack,hs⟩
end
namespace W
variable {P:Program} {R:iK} {cx:Cx} {n:Nat} {k:List It} {E:dC} {H:Hp} {Hf:Bool → Hp} {p:Nat}
end W
end
section
open Go Go.RowKit
section
variable {P:Program} {n:Nat} {E:dC} {H:Hp}
variable {d:Option Tmp} {t:TypeId} {pos:String} {af:Array Edge} {g:Option (Nat × Bool)}
theorem gP {x i : Operand} {B o q r s : Nat} {kd : IntKind} {j : Int} {e : TypeId} {len : Nat} (hU : ∀ w, (underlying t).run P w = .ok (.array len e) w) (hS : ∀ w, (sizeOf e).run P w = .ok s w)
  (hx:bH E x (bO B o)) (hi:bH E i (aN kd j)) (hj:j = (q:Int)) (hl:q < len) (hr:o + q * s = r) {t':TypeId}:aM P n E H ⟨d,.indexAddr t x i,t',pos,af,g⟩ (bO B r) :=
 dN fun a V w hs => by
  have e1:a.eval x = .pointer (some ⟨B,o,none⟩):=hx n V a hs
  have ei:a.eval i = .int kd j:=hi n V a hs
  subst hj hr
  exact ⟨.pointer (some ⟨B,o + q * s,none⟩),by simp [execOp,e1,ei,Instr.indexAt,Instr.sureAddr,asIntOf,Sem.run_bind,hU,hS,Result.andThen,hl,gT],rfl⟩
theorem a2C {x : Operand} {arr e : TypeId} {s : Nat} {Us Ws : List Ty} (hU : ∀ w, (underlying arr).run P w = .ok (.array 2 e) w) (hx : bH E x (kB s [fO Us, fO Ws])) (hl : Us.length = s) {t' : TypeId} :
  aM P n E H ⟨d,.sliceToArrayPointer arr x,t',pos,af,g⟩ (PT (fO (Us ++ Ws))) :=
 dN fun a V w hs => by
  obtain ⟨a0,cap,e1,hcap,h3⟩:=hx n V a hs
  obtain ⟨b,o,x0,ea,⟨c,BT,fr,l2,l3⟩,c0,us,rfl,hu⟩:=h3 0 _ rfl
  obtain ⟨b',o',x1,ea',⟨c',BT',fr',l2',l3'⟩,c1,ws,rfl,hw⟩:=h3 1 _ rfl
  subst ea
  obtain ⟨rfl,rfl⟩:b = b' ∧ o = o':=by simpa using ea'
  obtain ⟨rfl,rfl,rfl⟩:c = c' ∧ BT = BT' ∧ fr = fr':=by rw [l2] at l2'; simpa using l2'
  have hlu:us.length = s:=hu.length.trans hl
  refine ⟨.pointer (some ⟨b,o,none⟩),by simp [execOp,e1,Instr.arrayAt,Sem.run_bind,hU,Result.andThen,pure,Sem.run],b,o,.agg (us ++ ws).toArray,rfl,⟨c,BT,fr,l2,fun j u hj=>?_⟩,us ++ ws,rfl,hu.append hw⟩
  simp only [Value.cells,List.getElem?_toArray] at hj
  by_cases c2:j < us.length
  ·rw [List.getElem?_append_left c2] at hj
   have:=l3 j u (by simpa [Value.cells] using hj)
   rw [show o + j = o + 0 * s + j by omega]; exact this
  ·rw [List.getElem?_append_right zo] at hj
   have:=l3' (j - us.length) u (by simpa [Value.cells] using hj)
   rw [show o + j = o + 1 * s + (j - us.length) by omega]; exact this
end
end
section
open Go Go.RowKit
theorem eI.tk {V : aR} : ∀ {Ts : List Ty} {vs : List Value} (k : Nat), eI Ts vs V → eI (Ts.take k) (vs.take k) V
 | _,_,0,_=>by simp [eI]
 | [],[],k + 1,_=>by simp [eI]
 | T :: Ts, v :: vs, k + 1, h => by
  rw [List.take_succ_cons,List.take_succ_cons]; exact ⟨h.1,eI.tk k h.2⟩
 | [],_ :: _,_ + 1,h=>h.elim
 | _ :: _,[],_ + 1,h=>h.elim
theorem eI.dr {V : aR} : ∀ {Ts : List Ty} {vs : List Value} (k : Nat), eI Ts vs V → eI (Ts.drop k) (vs.drop k) V
 | _,_,0,h=>h
 | [],[],k + 1,_=>by simp [eI]
 | T :: Ts, v :: vs, k + 1, h => by
  rw [List.drop_succ_cons,List.drop_succ_cons]; exact eI.dr k h.2
 | [],_ :: _,_ + 1,h=>h.elim
 | _ :: _,[],_ + 1,h=>h.elim
section
variable {P:Program} {R:iK} {cx:Cx} {n:Nat} {k:List It} {E:dC} {H:Hp} {ops:Array Oper} {o:Oper} {rest:List Oper}
variable {d:Option Tmp} {t:TypeId} {pos:String} {af:Array Edge} {g:Option (Nat × Bool)}
theorem Bp {x y : Operand} {i e e' s lo p : Nat} {ta tb : TypeId} {v : Value} {Ts Us : List Ty} {a : Act} {w : World} {V : aR} {b0 o0 cp dd : Nat} {ys : List Value} {t' : TypeId} (hU : ∀ w, (underlying ta).run P w = .ok (.slice e) w) (hS : ∀ w, (sizeOf e).run P w = .ok s w)
  (hinv:iP cx V H w) (hH:H[i]? = some (bF e' s v Ts)) (hxv:(Ek s v lo p).p (a.eval x) V) (ey:a.eval y = .slice (some ⟨b0,o0,none⟩) Us.length cp) (hqp:Us.length ≤ p)
  (hrow:xU s Us ys V) (hcells:∀ (j:Nat) u,(dA ys)[j]? = some u → w.cell? ((⟨b0,o0,none⟩:Addr).add j) = some u) :
  ∃ w',(execOp a.eval ⟨some dd,.call ⟨.builtin .copy,#[x,y],#[ta,tb]⟩,t',pos,af,g⟩).run P w = .ok (.value (goInt Us.length)) w' ∧ iP cx V (H.set i (bF e' s v (Ts.take lo ++ Us ++ Ts.drop (lo + Us.length)))) w':=by
 obtain ⟨S,hR⟩:=(show HH cx.w0.heap.size w V (H ++ []) by simpa using hinv.hp).get hH
 obtain ⟨xs,hrx,h2⟩:=hR
 obtain ⟨g1,l0,cap0,hv,hlo,hlc,ex⟩:=hxv
 rcases h2 with ⟨h0,_⟩ | ⟨g2,cap,cur,h3,hS',hg,hle,hcm,hcs,htake⟩
 ·rw [hv] at h0; cases h0
 rw [hv] at h3
 simp only [Value.slice.injEq,Option.some.injEq,Addr.mk.injEq] at h3
 obtain ⟨⟨rfl,_⟩,rfl,rfl⟩:=h3
 have hyl:ys.length = Us.length:=hrow.all.length
 have hxl:xs.length = Ts.length:=hrx.all.length
 have hmin:Nat.min Us.length p = Us.length:=Nat.min_eq_left hqp
 have hfl:(dA ys).length = Us.length * s:=by rw [jO _ (fun z hz=>hrow.size z hz),hyl]
 have hg':w.heap[g1]? = some (.cells cur e' (0,0)):=hg
 have h1s:(lo + Us.length) * s ≤ Ts.length * s:=Nat.mul_le_mul_right _ zo
 have h2s:Ts.length * s ≤ cap0 * s:=Nat.mul_le_mul_right _ hle
 have h3s:(lo + Us.length) * s = lo * s + Us.length * s:=Nat.add_mul _ _ _
 have hpl:∀ u,u ∈ dA ys → kJ u:=fun u hu=>hrow.plain u hu
 obtain ⟨w',q1,⟨c',q2,q2'⟩,q3,q4,q5,q6,q7⟩:=mL (P:=P) (dA ys) (lo * s) 0 w cur hg' (by rw [hfl]; omega) hpl
 have hf:=run_firstCells_some (P:=P) w s Us.length ⟨b0,o0,none⟩ Us.length cp (dA ys) hfl hcells
 refine ⟨w',?_,?_⟩
 ·simp [execOp,resolve,invoke,builtin,ex,ey,Builtin.copy_,Builtin.lenOf,Sem.run_bind,hU,hS,Result.andThen,hmin,hf,q1]
 ·refine hinv.upd hH q4 q5 q6 q7 (fun S2 hS2 => ?_)
  obtain ⟨xs2,hrx2,h4⟩:=hS2
  rcases h4 with ⟨h0,_⟩ | ⟨g3,cap3,cur3,h5,hS3,hg3,hle3,hcm3,hcs3,htake3⟩
  ·rw [hv] at h0; cases h0
  rw [hv] at h5
  simp only [Value.slice.injEq,Option.some.injEq,Addr.mk.injEq] at h5
  obtain ⟨⟨rfl,_⟩,_,rfl⟩:=h5
  have hg4:w.heap[g1]? = some (.cells cur3 e' (0,0)):=hg3
  rw [hg'] at hg4; simp at hg4; subst hg4
  subst hS3
  have hx2l:xs2.length = Ts.length:=hrx2.all.length
  have hnl:(Ts.take lo ++ Us ++ Ts.drop (lo + Us.length)).length = Ts.length:=by simp only [List.length_append,List.length_take,List.length_drop]; omega
  refine ⟨fun b hb=>q3 b (by simpa using hb),xs2.take lo ++ ys ++ xs2.drop (lo + Us.length),⟨((hrx2.all.tk lo).append hrow.all).append (hrx2.all.dr _),fun z hz=>?_,fun u hu=>?_⟩,.inr ⟨g1,cap0,c',by rw [hv,hnl],rfl,q2,by rw [hnl]; exact hle,hcm,?_,?_⟩⟩
  ·simp only [List.mem_append] at hz
   rcases hz with (hz | hz) | hz
   ·exact hrx2.size z (List.mem_of_mem_take hz)
   ·exact hrow.size z hz
   ·exact hrx2.size z (List.mem_of_mem_drop hz)
  ·obtain ⟨z, hz, hu'⟩ := gO.1 hu
   simp only [List.mem_append] at hz
   rcases hz with (hz | hz) | hz
   ·exact hrx2.plain u (gO.2 ⟨z,List.mem_of_mem_take hz,hu'⟩)
   ·exact hrow.plain u (gO.2 ⟨z,hz,hu'⟩)
   ·exact hrx2.plain u (gO.2 ⟨z,List.mem_of_mem_drop hz,hu'⟩)
  ·have : c'.toList.length = cur.toList.length := by
    rw [q2']; simp only [List.length_append,List.length_take,List.length_drop,Array.length_toList,hfl]; omega
   simpa [hcs] using this
  ·rw [hnl, q2', rH, rH, Ad hrx2.size lo zo, Qr hrx2.size (lo + Us.length) zo, ← htake3, h3s]
   simp only [Nat.add_zero,hfl]
   exact Dl _ _ _ _ _ hfl zo (by simp only [Array.length_toList]; omega)
theorem a12 {x y : Operand} {i e e' s lo p dd : Nat} {ta tb : TypeId} {v : Value} {Ts Us : List Ty} (hU : ∀ w, (underlying ta).run P w = .ok (.slice e) w) (hS : ∀ w, (sizeOf e).run P w = .ok s w)
  (hH:H[i]? = some (bF e' s v Ts)) (hx:bH E x (Ek s v lo p)) (hy:bH E y (kB s Us)) (hq:Us ≠ []) (hqp:Us.length ≤ p) (hEl:∀ T,T ∈ Us → El s T) (hn:Nat.blt dd n = true) {t':TypeId}
  (h:Rg P R cx n ops rest k ((dd,NT .i64 Us.length) :: E) (H.set i (bF e' s v (Ts.take lo ++ Us ++ Ts.drop (lo + Us.length))))) :
  Rg P R cx n ops (⟨some dd,.call ⟨.builtin .copy,#[x,y],#[ta,tb]⟩,t',pos,af,none⟩ :: rest) k E H:=by
 intro a w ⟨V,hinv,hs⟩
 unfold wpList
 rw [if_pos (by simp [Region.wanted])]
 left
 obtain ⟨b0,o0,cp,ys,ey,_,hrow,hcells⟩:=kB.row (hy n V a hs) hq hEl
 obtain ⟨w',hrun,hi'⟩:=Bp (dd:=dd) (pos:=pos) (af:=af) (g:=none) (t':=t') (tb:=tb) hU hS hinv hH (hx n V a hs) ey hqp hrow (hcells w hinv.on)
 simp only [Oper.wp,hrun,Oper.upon_value]
 exact h _ _ ⟨V,hi',hs.put (aK hn) rfl⟩
theorem a13 {x y : Operand} {i e e' s dd : Nat} {ta tb : TypeId} {v : Value} {Ts Us : List Ty} (hU : ∀ w, (underlying ta).run P w = .ok (.slice e) w) (hS : ∀ w, (sizeOf e).run P w = .ok s w)
  (hH:H[i]? = some (bF e' s v Ts)) (hx:bH E x (Is v)) (hy:bH E y (kB s Us)) (hq:Us ≠ []) (hqp:Us.length ≤ Ts.length) (hEl:∀ T,T ∈ Us → El s T) (hn:Nat.blt dd n = true) {t':TypeId}
  (h:Rg P R cx n ops rest k ((dd,NT .i64 Us.length) :: E) (H.set i (bF e' s v (Us ++ Ts.drop Us.length)))) :
  Rg P R cx n ops (⟨some dd,.call ⟨.builtin .copy,#[x,y],#[ta,tb]⟩,t',pos,af,none⟩ :: rest) k E H:=by
 intro a w ⟨V,hinv,hs⟩
 unfold wpList
 rw [if_pos (by simp [Region.wanted])]
 left
 obtain ⟨b0,o0,cp,ys,ey,_,hrow,hcells⟩:=kB.row (hy n V a hs) hq hEl
 obtain ⟨S,hR⟩:=(show HH cx.w0.heap.size w V (H ++ []) by simpa using hinv.hp).get hH
 have hxv : (Ek s v 0 Ts.length).p (a.eval x) V := by
  obtain ⟨xs,_,h2⟩:=hR
  rcases h2 with ⟨_,h0,_⟩ | ⟨g1,cap,cur,hv,_,_,hle,_⟩
  ·have := List.length_pos_iff.2 hq
   rw [h0] at hqp; simp at hqp; exact absurd hqp hq
  ·have ex : a.eval x = v := hx n V a hs
   exact ⟨g1,Ts.length,cap,hv,by omega,hle,by rw [ex,hv]; simp⟩
 obtain ⟨w',hrun,hi'⟩:=Bp (dd:=dd) (pos:=pos) (af:=af) (g:=none) (t':=t') (tb:=tb) hU hS hinv hH hxv ey hqp hrow (hcells w hinv.on)
 rw [Nat.zero_add,List.take_zero,List.nil_append] at hi'
 simp only [Oper.wp,hrun,Oper.upon_value]
 exact h _ _ ⟨V,hi',hs.put (aK hn) rfl⟩
def hdr : Option (Nat × Nat) → Nat → Value
 | none,_=>.slice none 0 0
 | some (b,cp),l=>.slice (some ⟨b,0,none⟩) l cp
instance shHdr (x:Option (Nat × Nat)) (l:Nat):eA (Is (hdr x l)) 1 false:=by
 match x with
 | none=>exact inferInstanceAs (eA (Is (.slice none 0 0)) 1 false)
 | some (b,cp)=>exact inferInstanceAs (eA (Is (.slice (some ⟨b,0,none⟩) l cp)) 1 false)
end
end
section
open Go Go.RowKit
theorem eI.mk' {V : aR} : ∀ {Ts : List Ty} {vs : List Value}, vs.length = Ts.length → (∀ (q : Nat) (T : Ty), Ts[q]? = some T → ∃ u, vs[q]? = some u ∧ T.p u V) → eI Ts vs V
 | [],[],_,_=>trivial
 | T :: Ts, v :: vs, h, k => by
  obtain ⟨u,h1,h2⟩:=k 0 T rfl
  simp at h1; subst h1
  exact ⟨h2,eI.mk' (by simpa using h) fun q T hT=>k (q + 1) T (by simpa using hT)⟩
 | [],_ :: _,h,_=>by simp at h
 | _ :: _,[],h,_=>by simp at h
section
variable {P:Program} {R:iK} {cx:Cx} {n:Nat} {k:List It} {E:dC} {H:Hp} {ops:Array Oper} {o:Oper} {rest:List Oper}
variable {d:Option Tmp} {t:TypeId} {pos:String} {af:Array Edge} {g:Option (Nat × Bool)}
theorem iP.frzRows {V : aR} {w : World} {j B e s : Nat} {q : Value → Prop} {BT : TypeId} {Rs : List (List Ty)} (h : iP cx V H w) (hH : H[j]? = some (lT q B BT e s Rs)) (hm : Rs.length ≤ maxLen) :
  ∃ V',nO V V' ∧ iP cx V' (H.set j (bF BT 1 (.slice (some ⟨B,0,none⟩) Rs.length Rs.length) (Rs.map (kB s)))) w:=by
 have hjl:=(List.getElem?_eq_some_iff.1 hH).1
 obtain ⟨vs, hv⟩ := h.hp.split (γ := {vs : List Value // vs.length = Rs.length}) (A1 := fun vs => box B BT (vs.1.map Is)) (A2 := fun vs => fL (SA.emp :: List.zipWith (bF e s) vs.1 Rs)) hH (fun S ⟨vs, ⟨h1, h1q⟩, h2⟩ => by
  obtain ⟨S1,S2,k1,k2,k3,k4⟩:=fL.split (q:=0) h2 (A:=box B BT (vs.map Is)) (by simp [mx])
  exact ⟨⟨vs,h1⟩,S2,S1,k2,k1,fun b p r=>k3 b r p,fun b=>by rw [k4 b]; exact Or.comm⟩)
 have h3:iP cx V (H.set j (box B BT (vs.1.map Is)) ++ [fL (SA.emp :: List.zipWith (bF e s) vs.1 Rs)]) w:=h.withHH hv
 obtain ⟨V',S,hle,hi',hA⟩:=h3.freeze (i:=H.length) (A:=fL (SA.emp :: List.zipWith (bF e s) vs.1 Rs)) (by rw [List.getElem?_append_right (by simp)]; simp)
 refine ⟨V',hle,?_⟩
 obtain ⟨F,f1,f2⟩:=hi'.hp
 obtain ⟨G,g1,g2,g3⟩:=hA
 refine hi'.withHH ⟨F,fun i A hA=>?_,fun i l b hi hl=>?_⟩
 ·by_cases c : i = j
  ·subst c
   simp [hjl] at hA; subst hA
   obtain ⟨⟨e0,cs,e1,e2⟩,k2⟩:=f1 i (box B BT (vs.1.map Is)) (by rw [List.getElem?_set_ne zo,List.getElem?_append_left (by simpa using hjl)]; simp [hjl])
   refine ⟨⟨cs,⟨?_,fun x hx=>by rw [(e2.pl x hx).cells]; rfl,fun u hu=>?_⟩,.inr ⟨B,Rs.length,cs.toArray,by rw [List.length_map],e0,e1,by rw [List.length_map]; exact Nat.le_refl _,hm,?_,?_⟩⟩,k2⟩
   ·refine eI.mk' (by rw [e2.length, List.length_map, List.length_map, vs.2]) fun q T hT => ?_
    rw [List.getElem?_map] at hT
    obtain ⟨Ts,hR,rfl⟩:=Option.map_eq_some_iff.1 hT
    have hql:=(List.getElem?_eq_some_iff.1 hR).1
    have hvq:vs.1[q]? = some (vs.1[q]'(by rw [vs.2]; exact hql)):=by simp [vs.2,hql]
    obtain ⟨u,u1,u2⟩:=e2.get (i:=q) (T:=Is (vs.1[q]'(by rw [vs.2]; exact hql))) (by simp [vs.2,hql])
    have hrow:=g1 (q + 1) (bF e s (vs.1[q]'(by rw [vs.2]; exact hql)) Ts) (by simp [List.getElem?_zipWith,hvq,hR])
    exact ⟨u,u1,gH u _ V' u2 hrow⟩
   ·obtain ⟨x, hx, hu⟩ := gO.1 hu
    have:=e2.pl x hx
    rw [this.cells] at hu; simp at hu; subst hu; exact this
   ·have := e2.length
    rw [List.length_map,vs.2] at this
    simp [this]
   ·have := e2.length
    rw [List.length_map,vs.2] at this
    have hf:dA cs = cs:=rX cs fun x hx=>e2.pl x hx
    rw [hf,List.length_map,Nat.mul_one]
    simp [← this]
  ·rw [List.getElem?_set_ne (fun x => c x.symm)] at hA
   have hil:=(List.getElem?_eq_some_iff.1 hA).1
   refine f1 i A ?_
   rw [List.getElem?_set_ne zo,List.getElem?_append_left (by simpa using hil),List.getElem?_set_ne (fun x=>c x.symm)]
   exact hA
 ·simp at hi hl
  exact f2 i l b (by simp; omega) (by simp; omega)
theorem Tc (j : Nat) {B e s : Nat} {q : Value → Prop} {BT : TypeId} {Rs : List (List Ty)} (hH : H[j]? = some (lT q B BT e s Rs)) (hm : Rs.length ≤ maxLen)
  (h:Tr P R cx n k E (H.set j (bF BT 1 (.slice (some ⟨B,0,none⟩) Rs.length Rs.length) (Rs.map (kB s))))):Tr P R cx n k E H:=fun a w ⟨V,hi,hs⟩=>by
 obtain ⟨V',hle,hi'⟩:=hi.frzRows hH hm
 exact h a w ⟨V',hi',hs.mono hle⟩
theorem Mr (j : Nat) {B e s m : Nat} {q : Value → Prop} {BT : TypeId} {Rs : List (List Ty)} {Us : List Ty} (hH : H[j]? = some (lT q B BT e s Rs)) (hm : m ≤ maxLen) (hl : Rs.length = m) (hU : Rs.map (kB s) = Us)
  (h:Tr P R cx n k E (H.set j (bF BT 1 (.slice (some ⟨B,0,none⟩) m m) Us))):Tr P R cx n k E H:=by
 subst hl hU; exact Tc j hH hm h
def NlT (s:Nat) (Ts:List Ty):Ty where
 p v V:=(Ts = [] ∧ v = .slice none 0 0) ∨ (Ts ≠ [] ∧ (kB s Ts).p v V)
 mono h k:=h.imp id fun ⟨a,b⟩=>⟨a,(kB s Ts).mono b k⟩
theorem Bz (tx:TypeId) (x y:Operand) (a b:Option Addr) (l c l' c':Nat):eqGuard .neq tx x y (.slice a l c) (.slice b l' c') = pure ():=rfl
theorem Up {tx ty : TypeId} {x : Operand} {s : Nat} {Ts : List Ty} {e : TypeId} {q : Bool} (hq : q = true ↔ Ts ≠ []) (hU : ∀ w, (underlying tx).run P w = .ok (.slice e) w) (hx : bH E x (NlT s Ts)) :
  aM P n E H ⟨d,.binOp .neq tx x (.const (.slice none 0 0)) ty,t,pos,af,g⟩ (aI q) :=
 dN fun a V w hs => by
  rcases hx n V a hs with ⟨hT,e1⟩ | ⟨hT,ad,cap,e1,_,e3⟩
  ·have hf : q = false := by cases q; rfl; exact absurd hT (hq.1 rfl)
   subst hf
   refine ⟨.bool false,?_,rfl⟩
   have h:=Ar (P:=P) (tx:=tx) (e:=e) none 0 0 hU
   simp [execOp,e1,rW,Bz,binOp,h,Sem.run_bind,Result.andThen] at h ⊢
  ·have ht : q = true := hq.2 hT
   subst ht
   cases ad with
   | none =>
    cases Ts with
    | nil=>exact absurd rfl hT
    | cons T Ts=>obtain ⟨b,o,x,h,_⟩:=e3 0 T rfl; cases h
   | some ad =>
    refine ⟨.bool true,?_,rfl⟩
    have h:=Ar (P:=P) (tx:=tx) (e:=e) (some ad) Ts.length cap hU
    simp [execOp,e1,rW,Bz,binOp,h,Sem.run_bind,Result.andThen] at h ⊢
theorem a10 {f : FuncId} {xs : List Operand} {tys : Array TypeId} {Ts : List Ty} {γ : Type} {U : γ → Ty} {i j : Nat} {A B : SA} {A' B' : γ → SA} {Q : γ → Prop} {dd : Nat} (hc : ∀ args w, (callFunc f args).run P w = .ok (.enter f args) w)
  (hF:gM P f Ts [A,B] γ U (fun x=>[A' x,B' x]) Q) (hA:H[i]? = some A) (hB:H[j]? = some B) (hij:i ≠ j) (ha:oY E xs Ts) (hn:Nat.blt dd n = true) (h:∀ x,Q x → Rg P R cx n ops rest k ((dd,U x) :: E) ((H.set j (B' x)).set i (A' x))) :
  Rg P R cx n ops (⟨some dd,.call ⟨.value (.func f),xs.toArray,tys⟩,t,pos,af,none⟩ :: rest) k E H:=by
 intro a w ⟨V,hi,hs⟩
 unfold wpList
 rw [if_pos (by simp [Region.wanted])]
 left
 have hrun : (execOp a.eval ⟨some dd, .call ⟨.value (.func f), xs.toArray, tys⟩, t, pos, af, none⟩).run P w = .ok (.enter f (xs.map a.eval).toArray) w := by
  simp [execOp,resolve,Act.eval,Deferred.ofValue,invoke,hc]
 simp only [Oper.wp,hrun,Oper.upon_enter]
 have hil:=(List.getElem?_eq_some_iff.1 hA).1
 have hjl:=(List.getElem?_eq_some_iff.1 hB).1
 have h1:=hi.hp.last hA
 have h2:=h1.last (i:=j) (A:=B) (by rw [List.getElem?_append_left (by simpa using hjl),List.getElem?_set_ne hij]; exact hB)
 rw [List.set_append_left _ _ (by simpa using hjl),List.append_assoc] at h2
 have h3:=HH.repack h2
 refine (hF cx _ _ V w (hi.withHH h3) (oY.all hs ha)).mono ?_
 rintro e w' ⟨v,V',x,rfl,m1,m2,m3,m4⟩
 refine h x m4 _ _ ⟨V',m2.withHH ?_,(hs.mono m1).put (aK hn) m3⟩
 have g1:=m2.hp.unpack
 have e1 : (H.set i SA.emp).set j SA.emp ++ [A' x, B' x] = (H.set i SA.emp ++ [A' x]).set j SA.emp ++ [B' x] := by
  rw [List.set_append_left _ _ (by simpa using hjl),List.append_assoc]; rfl
 rw [e1] at g1
 have g2:=g1.unlast (by simp; omega)
 rw [List.set_append_left _ _ (by simpa using hjl),List.set_comm _ _ hij] at g2
 exact g2.unlast (by simpa using hil)
end
end
section
open Go Go.RowKit
theorem Wu {x:Qi} {L:Nat} [hx:aH x L] (h:L + L + 1 ≤ 17592186044415):bI Tryz.prog 50 [aE x] (aE x.norm):=by
 have hxa:=oT hx.fit; have hxb:=oU hx.fit; have hxd:=oV hx.fit
 have hxp:=x.den_pos; have hdp:=Nat.mul_pos hxp hxp
 have e1:=mQ x.a x.a; have e2:=mQ x.b x.b; have e5:=yI x.den x.den
 have e6:=nT (x:=x.a * x.a) (y:=x.b * x.b) (L:=L + L) zo zo
 have hz:(dg (0:Int).natAbs).length ≤ 0:=by rw [show (0:Int).natAbs = 0 from rfl,gE]; exact Nat.le_refl _
 refine bI.intro Tryz.func50 rfl Tryz.ntmps50 rfl (fun cx=>(ts (rn rfl (fU (Ht rfl)) fun B1=>(rn rfl (eK (Ts:=[Is (.bool false),Is (.slice none 0 0),Is (.bool false),Is (.slice none 0 0),Is (.slice none 0 0)]) O_60 rfl (fun V=>aW zd (aW zd (aW zd (aW zd (aW zd (aG))))))) fun B2=>(eJ (cK (fV (m:=17) (dp 1 rfl (eW gF (Ht rfl) rfl) (dq 3 0 rfl (eG A_58 Z_58 (Ht rfl) (i:=0) rfl rfl rfl) (dp 1 rfl (eW gF (Ht rfl) rfl) ?_))))))))))
 refine dq 5 2 rfl (eG A_58 Z_58 (Ht rfl) (i:=0) rfl rfl rfl) (dP 4 1 6 3 rfl (cZ K_151 (qM zo zo) ⟨(Ht rfl),(Ht rfl),trivial⟩) (dp 1 rfl (eW iA (Ht rfl) rfl) (dq 8 5 rfl (eG A_58 Z_58 (Ht rfl) (i:=0) rfl rfl rfl) (dp 1 rfl (eW iA (Ht rfl) rfl) (dq 10 7 rfl (eG A_58 Z_58 (Ht rfl) (i:=0) rfl rfl rfl) (dP 9 6 11 8 rfl (cZ K_151 (qM zo zo) ⟨(Ht rfl),(Ht rfl),trivial⟩) (dP 7 4 12 9 rfl (cZ K_152 (vM zo zo) ⟨(Ht rfl),(Ht rfl),trivial⟩) ?_)))))))
 refine d0 rfl (aM.imp (Po ) Ee) (dp 1 rfl (eG A_60 Z_60 (Ht rfl) (i:=0) rfl rfl rfl) (dq 15 12 rfl (cZ K_153 oX ⟨(Ht rfl),trivial⟩) (dp 1 rfl (eG A_60 Z_60 (Ht rfl) (i:=0) rfl rfl rfl) (dq 17 14 rfl (cZ K_153 oX ⟨(Ht rfl),trivial⟩) (dP 16 13 18 15 rfl (cZ K_154 (Fa zo zo) ⟨(Ht rfl),(Ht rfl),trivial⟩) (fG aT rfl (by kernel_rfl) (zF (zF (zF (zF (aJ (aV ?_))))))))))))
 refine ro rfl (cZ K_150 (vK (A:=x.a * x.a + x.b * x.b) (B:=0) (D:=x.den * x.den) hdp zo zo zo) ⟨(Ht rfl),(Ht rfl),(Ht rfl),trivial⟩) (gZ Z_60 (Ht rfl) (Ht rfl) rfl (i:=1) rfl (aK rfl) rfl rfl (eJ (fK rfl (fJ (fY A_60 Z_60 rfl (i:=1) rfl rfl) ?_))))
 exact (jE (Qi.mk_norm x))
theorem Py {x y:List Qi} {f:Qi} {n L M N:Nat} (hx:bR x L) (hf:aH f M) (hy:bR y N) (hL:1 ≤ L) (hN:1 ≤ N) (hb:L + M + N + 4 ≤ 17592186044415) (hxl:x.length = n) (hyl:y.length = n) (hn:n ≤ 1000):bI Tryz.prog 197 [aL x,aE f,aL y] (aL (Zy x f y)):=by
 haveI:=hf
 refine bI.intro Tryz.func197 rfl Tryz.ntmps197 rfl (fun cx=>(ts (rn rfl (fU (Ht rfl)) fun B4=>(ro rfl (cQ cV) (eJ (ts (ro rfl (cQ cV) (eJ (cK (cK (pU 60 5 (cY (rm rfl (ro rfl (dU U_25 (Ht rfl) (by rw [List.length_map,hxl])) ?_))))))))))))))
 refine ro rfl (cX (cJ 0)) (eJ (eU ?_))
 refine gN (fun (i : Nat) (v : Value) => i ≤ n) (fun (i : Nat) (v : Value) => n - i) (fun (i : Nat) (v : Value) => [(0, aL x), (2, aL y), (4, bO B4 0), (7, Is v), (10, NT .i64 n), (11, NT .i64 i)]) (fun (i : Nat) (v : Value) => [box B4 60 [aI (decide (f.a < 0)), bB f.a.natAbs, aI (decide (f.b < 0)), bB f.b.natAbs, bB (du f)], bF 60 5 v ((tab i (fun i => gv x i + f * gv y i)).map aE)]) 0 _ (Nat.zero_le _)
  (zS rfl) (aU (aB rfl) (aU (aO rfl) aY)) (fun i v hi=>?_)
 refine ts (ro rfl (gJ (Ht rfl) (Ht rfl)) (eJ (cK (dQ (Ht rfl) (fun hd=>?_) (fun hd=>?_)))))
 ·have hin : i < n := by simp only [decide_eq_true_eq] at hd; omega
  haveI f1:aH (gv x i) L:=hx.get hL i
  haveI f2:aH (gv y i) N:=hy.get hN i
  haveI f3:aH (f * gv y i) (M + N + 1):=fitMul
  refine cU (cK (eU (ts (rm rfl (ra rfl (eJ (fV (m:=13) (dp 7 rfl (cX (Ht rfl)) (dp 0 rfl (cX (Ht rfl)) (dp 8 rfl (cX (Ht rfl)) (dP 15 1 16 2 rfl (dZ U_25 Z_60 (Ht rfl) (Ht rfl) rfl (eX (eQ (d:=Qi.zero) zo))) (dq 17 3 rfl (dJ A_60 Z_60 (Ht rfl)) (dp 4 rfl (eG A_60 Z_60 (Ht rfl) (i:=0) rfl rfl rfl) (dp 2 rfl (cX (Ht rfl)) (dp 8 rfl (cX (Ht rfl)) (dP 20 6 21 7 rfl (dZ U_25 Z_60 (Ht rfl) (Ht rfl) rfl (eX (eQ (d:=Qi.zero) zo))) ?_))))))))))))))))
  refine dq 22 8 rfl (dJ A_60 Z_60 (Ht rfl)) (dP 19 5 23 9 rfl (cZ K_70 (kD (x:=f) (y:=gv y i) (L:=M) (M:=N) zo) ⟨(Ht rfl),(Ht rfl),trivial⟩) (dP 18 4 24 10 rfl (cZ K_71 (wJ (x:=gv x i) (y:=f * gv y i) (L:=L) (M:=M + N + 1) zo) ⟨(Ht rfl),(Ht rfl),trivial⟩) (dq 25 11 rfl (cI (xs:=[.tmp 25]) U_25 Z_60 O_60 (cW (Ht rfl) cG) rfl rfl rfl) (fG aT rfl (by kernel_rfl) (zF (zF (zF (aJ (aV ?_)))))))))
  refine lE (inf:=Tryz.t60) jK iB rfl rfl rfl (Ht rfl) (Ht rfl) (i:=1) rfl (by simp) (fun T hT=>by simp at hT; subst hT; exact El.ag rfl) (by show _ * 88 ≤ _; simp only [List.length_map,aC,List.length_cons,List.length_nil]; omega) (by simp only [List.length_map,aC,List.length_cons,List.length_nil]; omega) rfl (fun v2=>?_)
  refine ra rfl (eJ (bD (cY (ro rfl (dW (Ht rfl) (cJ 1) z6) (rm rfl (eJ (gQ (i + 1,v2) hin (by dsimp only; omega) (zS rfl) (aU (aB rfl) (aU (aO (by rw [gD,List.map_append]; rfl)) aY)))))))))
 ·have hin : i = n := by simp only [decide_eq_false_iff_not] at hd; omega
  rw [hin]
  refine gG rfl (gW (i:=1) (tt:=7) rfl rfl gH (ts (rm rfl (ra rfl (eJ (fK rfl (fJ (fQ rfl) ?_)))))))
  exact (mM (by rw [Zy,hxl]))
theorem Nc {G V:List (List Qi)} {vs:List Value} {n i L M B BV:Nat} (hG:bT G n n) (hV:bT V n n) (hvs:Hds vs n) (hfG:aS G L) (hfV:aS V M) (hL:1 ≤ L) (hM:1 ≤ M) (hb:10 * L + 2 * M + 40 ≤ 8796093022208) (hi:i < n) (hn:n ≤ 32):gM Tryz.prog 196 [Is (.slice (some ⟨B,0,none⟩) n n),Is (.slice (some ⟨BV,0,none⟩) n n),NT .i64 i] [jP B 25 60 5 vs vs (bN aE G),bF 25 1 (.slice (some ⟨BV,0,none⟩) n n) (V.map aL)] (Unit) (fun _=>NlT 5 ((Gy G V n i).map aE)) (fun _=>[jP B 25 60 5 vs vs (bN aE G),bF 25 1 (.slice (some ⟨BV,0,none⟩) n n) (V.map aL)]) (fun _=>True):=by
 have hGl:=hG.1
 have hvl:=hvs.len
 haveI h0:=mF
 have hVl:=hV.1
 refine gM.intro Tryz.func196 rfl Tryz.ntmps196 rfl (fun cx Z=>?_)
 haveI g0:aH (gm G i i) L:=hfG.get hL i i
 refine ts (ro rfl (cQ cV) (eJ (cK (ts (rm rfl (rm rfl (ro rfl (gX U_26 Z_25 (Ht rfl) (Ht rfl) rfl zo (by rw [Nat.mul_one,Nat.zero_add])) ?_)))))))
 refine ro rfl (fN A_25 Z_25 (Ht rfl) (j:=1) rfl zo) (rm rfl (ro rfl (iD U_25 Z_60 (Ht rfl) (Ht rfl) rfl (j:=1) rfl zo zo (by rw [hG.row zo]; omega)) ?_))
 refine ro rfl (kH A_60 Z_60 (Ht rfl) (j:=1) rfl zo zo (by rw [hG.row zo]; omega)) ?_
 refine ro rfl (cZ Tryz.call82 (wK (x:=gm G i i) (L:=L) zo) ⟨(Ht rfl),trivial⟩) (eJ (dQ (Ht rfl) (fun h0=>?_) (fun h0=>?_)))
 ·have hne : ¬ gm G i i = Qi.zero := by simpa using h0
  have hz:Gy G V n i = []:=by rw [Gy,if_neg (show ¬ gm G i i = 0 from hne)]
  refine ts (ro rfl (cQ cV) (eJ ?_))
  exact jC () trivial [0,1,2] ⟨⟨_,rfl,fun _ _ _ h=>h⟩,⟨_,rfl,fun _ _ _ h=>h⟩,⟨_,rfl,fun _ _ _ h=>h⟩,trivial⟩ (by decide) (sK rfl (fJ (fQ rfl) (fun v V h=>by rw [hz]; exact .inl ⟨rfl,h⟩)))
 ·have hze0 : gm G i i = Qi.zero := by simpa using h0
  have hze:gm G i i = 0:=hze0
  refine cU (cK (ts (rm rfl (ro rfl (dW (Ht rfl) (cJ 1) z6) (ra rfl (eJ (eU ?_)))))))
  refine cB (fun (k : Nat) => (i + 1 ≤ k ∧ k ≤ n) ∧ ∀ j, i + 1 ≤ j → j < k → gm G i j = Qi.zero) (fun (k : Nat) => n - k) (fun (k : Nat) => [(0, Is (.slice (some ⟨B, 0, none⟩) n n)), (1, Is (.slice (some ⟨BV, 0, none⟩) n n)), (2, NT .i64 i), (7, NT .i64 k)]) (fun (k : Nat) => [Z, jP B 25 60 5 vs vs (bN aE G), bF 25 1 (.slice (some ⟨BV, 0, none⟩) n n) (V.map aL)]) (i + 1) ⟨⟨Nat.le_refl _, hi⟩, fun j h1 h2 => by omega⟩
   (zS rfl) (eO.refl _) (fun k ⟨⟨hk1,hk2⟩,hz0⟩=>?_)
  refine cK (ts (rm rfl (rm rfl (ro rfl (gI U_26 (Ht rfl)) (ro rfl (gJ (Ht rfl) (Ht rfl)) (eJ (dQ (Ht rfl) (fun hc=>?_) (fun hc=>?_))))))))
  ·have hkn : k < n := by simp only [decide_eq_true_eq] at hc; omega
   haveI g1:aH (gm G i k) L:=hfG.get hL i k
   haveI g2:aH (gm G k k) L:=hfG.get hL k k
   have hri:=hG.row hi
   have hrk:=hG.row hkn
   refine cU (cK (eU (cK (ts (rm rfl (rm rfl (ro rfl (gX U_26 Z_25 (Ht rfl) (Ht rfl) rfl zo (by rw [Nat.mul_one,Nat.zero_add])) ?_)))))))
   refine ro rfl (fN A_25 Z_25 (Ht rfl) (j:=1) rfl zo) (rm rfl (ro rfl (iD U_25 Z_60 (Ht rfl) (Ht rfl) rfl (j:=1) rfl zo zo zo) (ro rfl (kH A_60 Z_60 (Ht rfl) (j:=1) rfl zo zo zo) (ro rfl (cZ Tryz.call82 (wK (x:=gm G i k) (L:=L) zo) ⟨(Ht rfl),trivial⟩) (ro rfl (fH (Ht rfl)) (eJ (dQ (Ht rfl) (fun hd=>?_) (fun hd=>?_))))))))
   ·have hik : gm G i k = Qi.zero := by simpa using hd
    refine gG rfl (cY (rm rfl (ro rfl (dW (Ht rfl) (cJ 1) z6) (ra rfl (eJ ?_)))))
    refine gQ (k + 1) ⟨⟨by omega, hkn⟩, fun j h1 h2 => by
      by_cases e:j = k
      ·rw [e]; exact hik
      ·exact hz0 j h1 zo⟩ zo (zS rfl) (eO.refl _)
   ·have hik : ¬ gm G i k = Qi.zero := by simpa using hd
    have hK:Xy G n i = k:=Hi hk1 zo (fun j h1 h2=>by rw [show decide (gm G i j = 0) = true from decide_eq_true (hz0 j h1 h2)]; rfl) (fun _=>by rw [show decide (gm G i k = 0) = false from decide_eq_false hik]; rfl)
    have hw:Gy G V n i = crV G V i k:=by rw [Gy,if_pos hze,hK,if_pos hkn]
    refine cU (ts (rm rfl (rm rfl (ro rfl (gX U_26 Z_25 (Ht rfl) (Ht rfl) rfl zo (by rw [Nat.mul_one,Nat.zero_add])) ?_))))
    refine ro rfl (fN A_25 Z_25 (Ht rfl) (j:=1) rfl zo) (rm rfl (ro rfl (iD U_25 Z_60 (Ht rfl) (Ht rfl) rfl (j:=1) rfl zo zo zo) (ro rfl (kH A_60 Z_60 (Ht rfl) (j:=1) rfl zo zo zo) (rn rfl (eK (Ts:=[Is (.bool false),Is (.slice none 0 0),Is (.bool false),Is (.slice none 0 0),Is (.slice none 0 0)]) O_60 rfl (fun V=>aW zd (aW zd (aW zd (aW zd (aW zd (aG))))))) fun B8=>?_))))
    refine gZ Z_60 (Ht rfl) (Ht rfl) rfl (i:=3) rfl (aK rfl) rfl rfl (eJ (cK (mI (fun (x:Qi)=>x = Tv (gm G k k)) (fun (x:Qi)=>[(0,Is (.slice (some ⟨B,0,none⟩) n n)),(1,Is (.slice (some ⟨BV,0,none⟩) n n)),(2,NT .i64 i),(7,NT .i64 k),(8,bO B8 0)]) (fun (x:Qi)=>[Z,jP B 25 60 5 vs vs (bN aE G),bF 25 1 (.slice (some ⟨BV,0,none⟩) n n) (V.map aL),box B8 60 [aI (decide (x.a < 0)),bB x.a.natAbs,aI (decide (x.b < 0)),bB x.b.natAbs,bB (du x)]]) ?_ (fun x hx=>?_))))
    ·refine ts (ro rfl (eG A_60 Z_60 (Ht rfl) (i := 3) rfl rfl rfl) (ro rfl (aM.imp (tX ) lY) (ro rfl (cZ Tryz.call51 (Jo (x := gm G k k) (y := Qi.zero) (L := L) (M := 1) (hy := aH.zero (Nat.le_refl 1)) zo) ⟨(Ht rfl), (Ht rfl), trivial⟩) (ro rfl (sI (Ht rfl) cV) (eJ (dQ (Ht rfl) (fun hn2 => ?_) (fun hn2 => ?_)))))))
     ·refine cY (ro rfl (eG A_60 Z_60 (Ht rfl) (i:=3) rfl rfl rfl) (ro rfl (cZ Tryz.call168 Pr ⟨(Ht rfl),trivial⟩) (gZ Z_60 (Ht rfl) (Ht rfl) rfl (i:=3) rfl (aK rfl) rfl rfl (eJ (cD (-(gm G k k)) (by rw [Tv,Oe,if_pos hn2]) (zS rfl) (eO.refl _))))))
     ·refine cU (cD (gm G k k) (by rw [Tv,Oe,hn2]; rfl) (zS rfl) (eO.refl _))
    ·haveI g3 : aH x L := by
      rw [hx]; unfold Tv; split
      ·exact fitNeg
      ·exact g2
     haveI g4:aH (gm G i k).norm (L + L + 1):=fitNorm
     have hnz:(gm G i k).norm + (gm G i k).norm ≠ 0:=Ld hik
     haveI g5:aH ((gm G i k).norm + (gm G i k).norm) (L + L + 1 + (L + L + 1) + 1):=fitAdd (L:=L + L + 1) (M:=L + L + 1)
     haveI g6:aH (x + Qi.ofInt 1) (L + 1 + 1):=fitAdd (L:=L) (M:=1)
     haveI g7:aH (yF G i k) (L + 1 + 1 + 3 * (L + L + 1 + (L + L + 1) + 1) + 2):=by rw [yF,← hx]; exact pF g6 g5 hnz
     refine cK (Y.D_start (m:=26) [] (bY (Ei:=[(8,_)]) rfl rfl (bQ (bJ rfl rfl) bX) rfl rfl (dX rfl (eG A_60 Z_60 (Ht rfl) (i:=3) rfl rfl rfl)) (bY (Ei:=[]) rfl rfl bX rfl rfl (dX rfl (cZ K_52 (oW (n:=1) (by decide) (by decide)) ⟨(cJ 1),trivial⟩)) (bY (Ei:=[(50,_),(51,_)]) rfl rfl (bQ (bZ 0 rfl rfl) (bQ (bZ 1 rfl rfl) bX)) rfl rfl (dX rfl (cZ K_71 (wJ (x:=x) (y:=Qi.ofInt 1) (L:=L) (M:=1) zo) ⟨(Ht rfl),(Ht rfl),trivial⟩)) ?_))))
     refine bY (Ei:=[(0,_)]) rfl rfl (bQ (bJ rfl rfl) bX) rfl rfl (dX rfl (cX (Ht rfl))) (bY (Ei:=[(2,_)]) rfl rfl (bQ (bJ rfl rfl) bX) rfl rfl (dX rfl (cX (Ht rfl))) (bY (Ei:=[(53,_),(54,_)]) rfl rfl (bQ (bZ 3 rfl rfl) (bQ (bZ 4 rfl rfl) bX)) rfl rfl (dX rfl (gX U_26 Z_25 (Ht rfl) (Ht rfl) rfl zo (by rw [Nat.mul_one,Nat.zero_add]))) ?_))
     refine bY (Ei:=[(55,_)]) rfl rfl (bQ (bZ 5 rfl rfl) bX) rfl rfl (dX rfl (fN A_25 Z_25 (Ht rfl) (j:=1) rfl zo)) (bY (Ei:=[(7,_)]) rfl rfl (bQ (bJ rfl rfl) bX) rfl rfl (dX rfl (cX (Ht rfl))) (bY (Ei:=[(56,_),(57,_)]) rfl rfl (bQ (bZ 6 rfl rfl) (bQ (bZ 7 rfl rfl) bX)) rfl rfl (dX rfl (iD U_25 Z_60 (Ht rfl) (Ht rfl) rfl (j:=1) rfl zo zo zo)) (bY (Ei:=[(58,_)]) rfl rfl (bQ (bZ 8 rfl rfl) bX) rfl rfl (dX rfl (kH A_60 Z_60 (Ht rfl) (j:=1) rfl zo zo zo)) ?_)))
     refine bY (Ei:=[(59,_)]) rfl rfl (bQ (bZ 9 rfl rfl) bX) rfl rfl (dX rfl (cZ Tryz.call50 (Wu (x:=gm G i k) (L:=L) zo) ⟨(Ht rfl),trivial⟩)) (bY (Ei:=[(0,_)]) rfl rfl (bQ (bJ rfl rfl) bX) rfl rfl (dX rfl (cX (Ht rfl))) (bY (Ei:=[(2,_)]) rfl rfl (bQ (bJ rfl rfl) bX) rfl rfl (dX rfl (cX (Ht rfl))) (bY (Ei:=[(61,_),(62,_)]) rfl rfl (bQ (bZ 11 rfl rfl) (bQ (bZ 12 rfl rfl) bX)) rfl rfl (dX rfl (gX U_26 Z_25 (Ht rfl) (Ht rfl) rfl zo (by rw [Nat.mul_one,Nat.zero_add]))) ?_)))
     refine bY (Ei:=[(63,_)]) rfl rfl (bQ (bZ 13 rfl rfl) bX) rfl rfl (dX rfl (fN A_25 Z_25 (Ht rfl) (j:=1) rfl zo)) (bY (Ei:=[(7,_)]) rfl rfl (bQ (bJ rfl rfl) bX) rfl rfl (dX rfl (cX (Ht rfl))) (bY (Ei:=[(64,_),(65,_)]) rfl rfl (bQ (bZ 14 rfl rfl) (bQ (bZ 15 rfl rfl) bX)) rfl rfl (dX rfl (iD U_25 Z_60 (Ht rfl) (Ht rfl) rfl (j:=1) rfl zo zo zo)) (bY (Ei:=[(66,_)]) rfl rfl (bQ (bZ 16 rfl rfl) bX) rfl rfl (dX rfl (kH A_60 Z_60 (Ht rfl) (j:=1) rfl zo zo zo)) ?_)))
     refine bY (Ei:=[(67,_)]) rfl rfl (bQ (bZ 17 rfl rfl) bX) rfl rfl (dX rfl (cZ Tryz.call50 (Wu (x:=gm G i k) (L:=L) zo) ⟨(Ht rfl),trivial⟩)) (bY (Ei:=[(60,_),(68,_)]) rfl rfl (bQ (bZ 10 rfl rfl) (bQ (bZ 18 rfl rfl) bX)) rfl rfl (dX rfl (cZ K_71 (wJ (x:=(gm G i k).norm) (y:=(gm G i k).norm) (L:=L + L + 1) (M:=L + L + 1) zo) ⟨(Ht rfl),(Ht rfl),trivial⟩)) (bY (Ei:=[(52,_),(69,_)]) rfl rfl (bQ (bZ 2 rfl rfl) (bQ (bZ 19 rfl rfl) bX)) rfl rfl (dX rfl (cZ K_64 (eZ (tA (x:=x + Qi.ofInt 1) (y:=(gm G i k).norm + (gm G i k).norm) (L:=L + 1 + 1) (M:=L + L + 1 + (L + L + 1) + 1) zo) (by rw [hx]; exact fun _ _ k=>k)) ⟨(Ht rfl),(Ht rfl),trivial⟩)) ?_))
     refine bY (Ei:=[(70,_)]) rfl rfl (bQ (bZ 20 rfl rfl) bX) rfl rfl (dX rfl (cX (Ht rfl))) (bY (Ei:=[(49,_)]) rfl rfl (bQ (bZ 21 rfl rfl) bX) rfl rfl (dX rfl (dY (Ht rfl) rfl)) (bY (Ei:=[(49,_)]) rfl rfl (bQ (bZ 21 rfl rfl) bX) rfl rfl (dX rfl (dY (Ht rfl) rfl)) (Y.D_newp (Ei:=[]) (fun bb=>box bb 60 [aI (decide ((yF G i k).a < 0)),bB (yF G i k).a.natAbs,aI (decide ((yF G i k).b < 0)),bB (yF G i k).b.natAbs,bB (du (yF G i k))]) 25 rfl rfl rfl bX rfl rfl (by kernel_rfl) (eK (Ts:=[Is (.bool false),Is (.slice none 0 0),Is (.bool false),Is (.slice none 0 0),Is (.slice none 0 0)]) O_60 rfl (fun V=>aW zd (aW zd (aW zd (aW zd (aW zd (aG))))))) ?_)))
     refine Y.D_putN (Ei:=[(71,_)]) 24 rfl rfl rfl rfl rfl rfl (bQ (bZ 22 rfl rfl) bX) (fun bb=>pT Z_60 (Ht rfl) (Ht rfl) rfl (i:=0) rfl (aK rfl) rfl rfl) (Y.D_done aT rfl (by kernel_rfl) rfl (by simp [Y.okP]) rfl rfl (bU (bU (bU (bU (bU (bU (bU (bU (bU (bU (bU (bU (bU (bU (bU (bU (bU (bU (bU (bU (bU (bU (bU (bU (Y.F_newp (fun B9=>Y.F_putN (Y.F_nil ?_))))))))))))))))))))))))))))
     refine ra rfl (eJ (cK ?_))
     haveI g8:aH (-(yF G i k)) (L + 1 + 1 + 3 * (L + L + 1 + (L + L + 1) + 1) + 2):=fitNeg
     haveI g9:aH (-(yF G i k) * gm G i k) (L + 1 + 1 + 3 * (L + L + 1 + (L + L + 1) + 1) + 2 + L + 1):=fitMul
     refine fV (m:=18) (dp 1 rfl (cX (Ht rfl)) (dp 7 rfl (cX (Ht rfl)) (dP 73 0 74 1 rfl (dM U_26 Z_25 (Ht rfl) (Ht rfl) rfl (i:=2) rfl (by rw [List.length_map]; omega) rfl) ?_)))
     refine dq 75 2 rfl (oR A_25 Z_25 (Ht rfl) (i:=2) rfl rfl (eX (eQ (d:=[]) zo))) (dp 9 rfl (eG A_60 Z_60 (Ht rfl) (i:=4) rfl rfl rfl) (dq 77 4 rfl (cZ Tryz.call168 Pr ⟨(Ht rfl),trivial⟩) (dp 0 rfl (cX (Ht rfl)) (dp 2 rfl (cX (Ht rfl)) (dP 79 6 80 7 rfl (gX U_26 Z_25 (Ht rfl) (Ht rfl) rfl zo (by rw [Nat.mul_one,Nat.zero_add])) ?_)))))
     refine dq 81 8 rfl (fN A_25 Z_25 (Ht rfl) (j:=1) rfl zo) (dp 7 rfl (cX (Ht rfl)) (dP 82 9 83 10 rfl (iD U_25 Z_60 (Ht rfl) (Ht rfl) rfl (j:=1) rfl zo zo zo) (dq 84 11 rfl (kH A_60 Z_60 (Ht rfl) (j:=1) rfl zo zo zo) (dP 78 5 85 12 rfl (cZ K_70 (kD (x:=-(yF G i k)) (y:=gm G i k) (L:=L + 1 + 1 + 3 * (L + L + 1 + (L + L + 1) + 1) + 2) (M:=L) zo) ⟨(Ht rfl),(Ht rfl),trivial⟩) (dp 1 rfl (cX (Ht rfl)) (dp 2 rfl (cX (Ht rfl)) ?_))))))
     refine dP 87 14 88 15 rfl (dM U_26 Z_25 (Ht rfl) (Ht rfl) rfl (i:=2) rfl (by rw [List.length_map]; omega) rfl) ?_
     refine dq 89 16 rfl (oR A_25 Z_25 (Ht rfl) (i:=2) rfl rfl (eX (eQ (d:=[]) zo))) (fG aT rfl (by kernel_rfl) (zF (zF (zF (zF (aJ (aJ (aV (ro rfl (cZ Tryz.call197 (Py (x:=V.getD k []) (f:=-(yF G i k) * gm G i k) (y:=V.getD i []) (n:=n) (L:=M) (N:=M) (hfV.row k) g9 (hfV.row i) hM hM zo (hV.row hkn) (hV.row hi) zo) ⟨(Ht rfl),(Ht rfl),(Ht rfl),trivial⟩) ?_)))))))))
     refine ra rfl (eJ ?_)
     exact jC () trivial [0,1,2] ⟨⟨_,rfl,fun _ _ _ h=>h⟩,⟨_,rfl,fun _ _ _ h=>h⟩,⟨_,rfl,fun _ _ _ h=>h⟩,trivial⟩ (by decide) (sK rfl (fJ (fQ rfl) (fun v V h=>by rw [hw]; exact .inr ⟨a4q (by rw [hV.row hkn]; omega),h⟩)))
  ·have hkn : k = n := by simp only [decide_eq_false_iff_not] at hc; omega
   have hK:Xy G n i = n:=Hi zo zo (fun j h1 h2=>by rw [show decide (gm G i j = 0) = true from decide_eq_true (hz0 j h1 zo)]; rfl) (fun h=>by omega)
   have hw:Gy G V n i = []:=by rw [Gy,if_pos hze,hK,if_neg zo]
   refine gG rfl (ts (ro rfl (cQ cV) (eJ ?_)))
   exact jC () trivial [0,1,2] ⟨⟨_,rfl,fun _ _ _ h=>h⟩,⟨_,rfl,fun _ _ _ h=>h⟩,⟨_,rfl,fun _ _ _ h=>h⟩,trivial⟩ (by decide) (sK rfl (fJ (fQ rfl) (fun v V h=>by rw [hw]; exact .inl ⟨rfl,h⟩)))
end
section
open Go Go.RowKit
theorem Bf {h:List (List Qi)} {n L G0 V0:Nat} (hs:bT h n n) (hf:aS h L) (hL:1 ≤ L) (hLb:L ≤ 4000000000000) (hz:mR h n = true → SzD h n G0 V0) (hn:n ≤ 32):bI Tryz.prog 98 [bC h] (fE [aI (Er h n),aL (dfW h n),aN .i64 (dfX h n)]):=by
 have hsl:=hs.1
 haveI h0:=mF
 refine bI.intro Tryz.func98 rfl Tryz.ntmps98 rfl (fun cx=>(ts (ro rfl (cQ cV) (ro rfl (cQ cV) (ro rfl (cQ (cJ 0)) (eJ (cK (ts (rm rfl (ro rfl (cZ Tryz.call172 (Tn hs hn) ⟨(Ht rfl),trivial⟩) (ro rfl (fH (Ht rfl)) (eJ (kA (Ht rfl) (by rfl) ?_)))))))))))))
 refine cU (cK (ts (rm rfl (ro rfl (dU U_26 (Ht rfl) (by rw [List.length_map,hsl])) ?_))))
 refine ro rfl (cX (cJ 0)) (eJ (eU ?_))
 refine cB (fun (i : Nat) => i ≤ n ∧ ∀ a, a < i → ∀ b, b < n → gm h a b = (gm h b a).conj) (fun (i : Nat) => n - i) (fun (i : Nat) => [(0, bC h), (19, bC h), (20, NT .i64 n), (21, NT .i64 i)]) (fun (i : Nat) => []) 0 ⟨Nat.zero_le _, fun a h => by omega⟩
  (zS rfl) aY (fun i ⟨hi,hh⟩=>?_)
 refine ts (ro rfl (gJ (Ht rfl) (Ht rfl)) (eJ (cK (dQ (Ht rfl) (fun hc=>?_) (fun hc=>?_)))))
 ·have hin : i < n := by simp only [decide_eq_true_eq] at hc; omega
  have hri:=hs.row hin
  refine cU (cK (eU (ts (rm rfl (ro rfl (dZ U_26 Z_25 (Ht rfl) (Ht rfl) rfl (eX (eQ (d:=[]) zo))) (ro rfl (dJ A_25 Z_25 (Ht rfl)) (ra rfl (ra rfl (eJ (ts (rm rfl (ro rfl (dU U_25 (Ht rfl) (by rw [List.length_map,hri])) ?_))))))))))))
  refine ro rfl (cX (cJ 0)) (eJ (eU ?_))
  refine cB (fun (k : Nat) => k ≤ n ∧ ∀ b, b < k → gm h i b = (gm h b i).conj) (fun (k : Nat) => n - k) (fun (k : Nat) => [(0, bC h), (5, NT .i64 i), (6, aL (h.getD i [])), (19, bC h), (20, NT .i64 n), (21, NT .i64 i), (27, NT .i64 n), (28, NT .i64 k)]) (fun (k : Nat) => []) 0 ⟨Nat.zero_le _, fun b h => by omega⟩
   (zS rfl) aY (fun k ⟨hk,hk0⟩=>?_)
  refine ts (ro rfl (gJ (Ht rfl) (Ht rfl)) (eJ (cK (dQ (Ht rfl) (fun hd=>?_) (fun hd=>?_)))))
  ·have hkn : k < n := by simp only [decide_eq_true_eq] at hd; omega
   have hrk:=hs.row hkn
   haveI f1:aH (gm h i k) L:=hf.get hL i k
   haveI f2:aH (gm h k i) L:=hf.get hL k i
   haveI f3:aH (gm h k i).conj L:=fitConj
   refine cU (cK (eU (ts (rm rfl (ra rfl (eJ (cK (fV (m:=12) (dp 6 rfl (cX (Ht rfl)) (dp 7 rfl (cX (Ht rfl)) (dP 31 0 32 1 rfl (dZ U_25 Z_60 (Ht rfl) (Ht rfl) rfl (eX (eQ (d:=Qi.zero) zo))) (dq 33 2 rfl (dJ A_60 Z_60 (Ht rfl)) (dp 0 rfl (cX (Ht rfl)) (dp 7 rfl (cX (Ht rfl)) (dP 35 4 36 5 rfl (dZ U_26 Z_25 (Ht rfl) (Ht rfl) rfl (eX (eQ (d:=[]) zo))) (dq 37 6 rfl (dJ A_25 Z_25 (Ht rfl)) (dp 5 rfl (cX (Ht rfl)) ?_)))))))))))))))))
   refine dP 38 7 39 8 rfl (dZ U_25 Z_60 (Ht rfl) (Ht rfl) rfl (eX (eQ (d:=Qi.zero) zo))) (dq 40 9 rfl (dJ A_60 Z_60 (Ht rfl)) (dq 41 10 rfl (cZ Tryz.call173 Be ⟨(Ht rfl),trivial⟩) (fG aT rfl (by kernel_rfl) (zF (zF (zF (aV (ro rfl (cZ K_100 (yA (x:=gm h i k) (y:=(gm h k i).conj) (L:=L) (M:=L) zo zo) ⟨(Ht rfl),(Ht rfl),trivial⟩) (ro rfl (fH (Ht rfl)) ?_)))))))))
   refine eJ (dQ (Ht rfl) (fun he=>?_) (fun he=>?_))
   ·have hne : ¬ gm h i k = (gm h k i).conj := by simpa using he
    have hf0:¬ mR h n = true:=fun e=>hne (of_decide_eq_true e i hin k hkn)
    refine ts (ro rfl (cQ cV) (ro rfl (cQ cV) (ro rfl (cQ (cJ 1)) (eJ (xY rfl (fJ (fQ rfl) ?_) (fJ (fQ rfl) ?_) (fJ (fQ rfl) ?_))))))
    ·exact (eD (by rw [Er,if_neg hf0]))
    ·exact (fun v V k=>by rw [dfW,if_neg hf0]; exact jT v V k)
    ·exact (bE (by rw [dfX,if_neg hf0]; rfl))
   ·have heq : gm h i k = (gm h k i).conj := by simpa using he
    refine cU (bD (cY (ro rfl (dW (Ht rfl) (cJ 1) z6) (rm rfl (eJ ?_)))))
    refine gQ (k + 1) ⟨hkn, fun b h1 => by
      by_cases e:b = k
      ·rw [e]; exact heq
      ·exact hk0 b zo⟩ zo (zS rfl) aY
  ·have hkn : k = n := by simp only [decide_eq_false_iff_not] at hd; omega
   refine gG rfl (bD (cY (ro rfl (dW (Ht rfl) (cJ 1) z6) (rm rfl (eJ ?_)))))
   refine gQ (i + 1) ⟨hin, fun a h1 b h2 => by
     by_cases e:a = i
     ·rw [e]; exact hk0 b zo
     ·exact hh a zo b h2⟩ zo (zS rfl) aY
 ·have hin : i = n := by simp only [decide_eq_false_iff_not] at hc; omega
  have hh0:mR h n = true:=decide_eq_true (fun a h1 b h2=>hh a zo b h2)
  have hz:=hz hh0
  have hg1:=hz.g1
  have hv1:=hz.v1
  have hzb:=hz.b
  clear hin hi hh hc
  refine gG rfl (ts (rm rfl (jZ Tryz.call195 (Tj hs zo zo) ⟨(Ht rfl),cV,trivial⟩ rfl (fun B48 _=>(rm rfl (ro rfl (dU U_26 (Ht rfl) (by rw [List.length_map,hsl])) ?_))))))
  refine jZ Tryz.call144 (a3t (n:=n) hn) ⟨(Ht rfl),trivial⟩ rfl (fun B51 _=>(ra rfl (ra rfl (eJ (cK (ts (rm rfl (ro rfl (gI U_26 (Ht rfl)) (ro rfl (cX (cJ 0)) (eJ (eU (Mr 1 (m:=n) (Us:=(tN n).map aL) rfl (Nat.le_trans hn (by decide)) (by rw [bN,List.length_map,(uD n).1]) (by rw [bN,List.map_map]; rfl) ?_))))))))))))
  refine Gj 0 rfl (fun vs hvs=>?_)
  have hvs2:Hds vs n:=by have h:=hvs; rw [bN,List.length_map,hsl] at h; exact h
  refine cB (fun (i : Nat) => i ≤ n ∧ Aa h n (n - i) i = Aa h n n 0) (fun (i : Nat) => n - i) (fun (i : Nat) => [(8, Is (.slice (some ⟨B48, 0, none⟩) n n)), (9, Is (.slice (some ⟨B51, 0, none⟩) n n)), (53, NT .i64 n), (54, NT .i64 i)]) (fun (i : Nat) => [jP B48 25 60 5 vs vs (bN aE (fP h n i).1), bF 25 1 (.slice (some ⟨B51, 0, none⟩) n n) ((fP h n i).2.map aL)]) 0 ⟨Nat.zero_le _, rfl⟩
   (zS rfl) (eO.refl _) (fun i ⟨hi,hR⟩=>?_)
  refine ts (ro rfl (gJ (Ht rfl) (Ht rfl)) (eJ (cK (dQ (Ht rfl) (fun hc=>?_) (fun hc=>?_)))))
  ·have hin : i < n := by simp only [decide_eq_true_eq] at hc; omega
   have hvl:=hvs2.len
   obtain ⟨hGs,hVs⟩:=pC hs i hi
   have hGf:=hz.g i hi
   have hVf:=hz.v i hi
   have r1:=a1L (h:=h) hin
   have r2:=a1K (h:=h) hin
   have r3:=a4s (h:=h) hin
   have r4:=rF (h:=h) (n:=n) (i:=i)
   have r5:=yG (h:=h) (n:=n) (i:=i)
   rw [hR] at r1 r2 r3
   obtain ⟨S,hS⟩:∃ S,S = fP h n (i + 1):=⟨_,rfl⟩
   rw [← hS] at r4 r5
   obtain ⟨D,hD⟩:∃ D,D = fP h n i:=⟨_,rfl⟩
   rw [← hD] at hGs hVs hGf hVf r1 r2 r3 r4 r5 ⊢
   obtain ⟨X,U⟩:=D
   dsimp only at hGs hVs hGf hVf r1 r2 r3 r4 r5 ⊢
   have hXl:=hGs.1
   have hUl:=hVs.1
   have hri:=hGs.row hin
   haveI g1:aH (gm X i i) G0:=hGf.get hg1 i i
   refine cU (cK (eU (ts (rm rfl (ra rfl (eJ (cK (ts (rm rfl (rm rfl (ro rfl (gX U_26 Z_25 (Ht rfl) (Ht rfl) rfl zo (by rw [Nat.mul_one,Nat.zero_add])) ?_)))))))))))
   refine ro rfl (fN A_25 Z_25 (Ht rfl) (j:=0) rfl zo) (rm rfl (ro rfl (iD U_25 Z_60 (Ht rfl) (Ht rfl) rfl (j:=0) rfl zo zo zo) (ro rfl (kH A_60 Z_60 (Ht rfl) (j:=0) rfl zo zo zo) (ro rfl (aM.imp (tX ) lY) (ro rfl (cZ Tryz.call51 (Jo (x:=gm X i i) (y:=Qi.zero) (L:=G0) (M:=1) (hy:=aH.zero (Nat.le_refl 1)) zo) ⟨(Ht rfl),(Ht rfl),trivial⟩) (ro rfl (sI (Ht rfl) cV) (eJ (dQ (Ht rfl) (fun hng=>?_) (fun hng=>?_)))))))))
   ·have hq := r1 hng
    refine cK (fV (m:=5) (dp 9 rfl (cX (Ht rfl)) (dp 10 rfl (cX (Ht rfl)) (dP 67 0 68 1 rfl (dM U_26 Z_25 (Ht rfl) (Ht rfl) rfl (i:=1) rfl (by rw [List.length_map]; omega) rfl) ?_))))
    refine dq 69 2 rfl (oR A_25 Z_25 (Ht rfl) (i:=1) rfl rfl (eX (eQ (d:=[]) zo))) (d0 rfl (cQ cV) (fG aT rfl (by kernel_rfl) (zF (aJ (aV (ra rfl (ro rfl (cQ (cJ 0)) (eJ (xY rfl (fJ (fQ rfl) ?_) (fJ (fQ rfl) ?_) (fJ (fQ rfl) ?_))))))))))
    ·exact (eD (by rw [Er,if_pos hh0,hq]))
    ·exact (mM (by rw [dfW,if_pos hh0,hq]))
    ·exact (bE (by rw [dfX,if_pos hh0]; rfl))
   ·have hng2 : Oe (gm X i i) ≠ true := by rw [Oe, hng]; simp
    refine cU (cK (ts (rm rfl (rm rfl (rm rfl (a10 Tryz.call196 (Nc (i:=i) (L:=G0) (M:=V0) hGs hVs hvs2 hGf hVf hg1 hv1 zo hin hn) (i:=0) (j:=1) rfl rfl (by decide) ⟨(Ht rfl),(Ht rfl),(Ht rfl),trivial⟩ rfl (fun uu _=>(ra rfl (eJ (ts (rm rfl (ro rfl (Up (q:=decide (Gy X U n i ≠ [])) (by simp) U_25 (Ht rfl)) ?_))))))))))))
    refine eJ (dQ (Ht rfl) (fun hw=>?_) (fun hw=>?_))
    ·have hw2 : Gy X U n i ≠ [] := by simpa using hw
     have hq:=r2 hng2 hw2
     refine ts (rm rfl (ro rfl (cQ cV) (ra rfl (ro rfl (cQ (cJ 0)) (eJ (xY rfl (fJ (fQ rfl) ?_) (fJ (fQ rfl) ?_) (fJ (fQ rfl) ?_)))))))
     ·exact (eD (by rw [Er,if_pos hh0,hq]))
     ·exact (fun v V k=>by rw [dfW,if_pos hh0,hq]; exact k.elim (fun k=>absurd k.1 (by simpa using hw2)) (fun k=>k.2))
     ·exact (bE (by rw [dfX,if_pos hh0]; rfl))
    ·have hw2 : Gy X U n i = [] := by simpa using hw
     have hq:=r3 hng2 hw2
     refine cU (cK (ts (rm rfl (rm rfl (ro rfl (gX U_26 Z_25 (Ht rfl) (Ht rfl) rfl zo (by rw [Nat.mul_one,Nat.zero_add])) ?_)))))
     refine ro rfl (fN A_25 Z_25 (Ht rfl) (j:=0) rfl zo) (rm rfl (ro rfl (iD U_25 Z_60 (Ht rfl) (Ht rfl) rfl (j:=0) rfl zo zo zo) (ro rfl (kH A_60 Z_60 (Ht rfl) (j:=0) rfl zo zo zo) (ro rfl (cZ Tryz.call82 (wK (x:=gm X i i) (L:=G0) zo) ⟨(Ht rfl),trivial⟩) (ro rfl (fH (Ht rfl)) (eJ (dQ (Ht rfl) (fun hcl=>?_) (fun hcl=>?_))))))))
     ·have hx0 : gm X i i = Qi.zero := by simpa using hcl
      have e4:=r4 hx0
      refine gG rfl (cY (ro rfl (dW (Ht rfl) (cJ 1) z6) (rm rfl (eJ (gQ (i + 1) ⟨hin,hq.symm⟩ zo (zS rfl) (aU (pJ (by rw [← hS,e4])) (aU (aO (by rw [← hS,e4])) aY)))))))
     ·have hx0 : ¬ gm X i i = Qi.zero := by simpa using hcl
      have e5:=r5 hx0
      refine cU (ts (rm rfl (ro rfl (dW (Ht rfl) (cJ 1) z6) (ra rfl (eJ (eU ?_))))))
      refine cB (fun (k : Nat) => i + 1 ≤ k ∧ k ≤ n) (fun (k : Nat) => n - k) (fun (k : Nat) => [(8, Is (.slice (some ⟨B48, 0, none⟩) n n)), (9, Is (.slice (some ⟨B51, 0, none⟩) n n)), (10, NT .i64 i), (12, NT .i64 k), (53, NT .i64 n), (54, NT .i64 i)]) (fun (k : Nat) => [jP B48 25 60 5 vs vs (bN aE (wR X n i k 0)), bF 25 1 (.slice (some ⟨B51, 0, none⟩) n n) ((oP X U n i k).map aL)]) (i + 1) ⟨Nat.le_refl _, hin⟩
       (zS rfl) (aU (pJ (by rw [Tw hGs])) (aU (aO (by rw [Nn hUl])) aY)) (fun k ⟨hk1,hk2⟩=>?_)
      refine cK (ts (rm rfl (rm rfl (ro rfl (gI U_26 (Ht rfl)) (ro rfl (gJ (Ht rfl) (Ht rfl)) (eJ (dQ (Ht rfl) (fun hd=>?_) (fun hd=>?_))))))))
      ·have hkn : k < n := by simp only [decide_eq_true_eq] at hd; omega
       have hYs:=qN X n i k 0
       obtain ⟨Yk,hY⟩:∃ Yk,Yk = wR X n i k 0:=⟨_,rfl⟩
       have y1:gm Yk i k = gm X i k:=by rw [hY]; exact Ha hin hkn zo
       have y2:gm Yk i i = gm X i i:=by rw [hY]; exact Ha hin hin zo
       rw [← hY] at hYs ⊢
       have hYl:=hYs.1
       have hYi:=hYs.row hin
       haveI g2:aH (gm X i k) G0:=hGf.get hg1 i k
       haveI g3:aH (gm Yk i k) G0:=by rw [y1]; exact g2
       haveI g4:aH (gm Yk i i) G0:=by rw [y2]; exact g1
       have g5:aH (gm X i k / gm X i i) (G0 + 3 * G0 + 2):=pF g2 g1 hx0
       obtain ⟨Q,hQ⟩:∃ Q,Q = oP X U n i k:=⟨_,rfl⟩
       have q1:Q.getD k [] = U.getD k []:=by rw [hQ]; exact Kb hkn zo
       have q2:Q.getD i [] = U.getD i []:=by rw [hQ]; exact Kb hin zo
       have hQl:Q.length = n:=by rw [hQ]; exact aC _ _
       have q3:bR (Q.getD k []) V0:=by rw [q1]; exact hVf.row k
       have q4:bR (Q.getD i []) V0:=by rw [q2]; exact hVf.row i
       have q5:(Q.getD k []).length = n:=by rw [q1]; exact hVs.row hkn
       have q6:(Q.getD i []).length = n:=by rw [q2]; exact hVs.row hin
       rw [← hQ]
       obtain ⟨F,hF⟩:∃ F,F = gm X i k / gm X i i:=⟨_,rfl⟩
       rw [← hF] at g5
       haveI g6:aH F (G0 + 3 * G0 + 2):=g5
       have g7:aH (-F) (G0 + 3 * G0 + 2):=fitNeg
       have hfd:gm Yk i k / gm Yk i i = F:=by rw [y1,y2,hF]
       refine cU (cK (eU (cK (Y.D_start (m:=20) [] (bY (Ei:=[(8,_)]) rfl rfl (bQ (bJ rfl rfl) bX) rfl rfl (dX rfl (cX (Ht rfl))) (bY (Ei:=[(10,_)]) rfl rfl (bQ (bJ rfl rfl) bX) rfl rfl (dX rfl (cX (Ht rfl))) (bY (Ei:=[(96,_),(97,_)]) rfl rfl (bQ (bZ 0 rfl rfl) (bQ (bZ 1 rfl rfl) bX)) rfl rfl (dX rfl (gX U_26 Z_25 (Ht rfl) (Ht rfl) rfl zo (by rw [Nat.mul_one,Nat.zero_add]))) ?_)))))))
       refine bY (Ei:=[(98,_)]) rfl rfl (bQ (bZ 2 rfl rfl) bX) rfl rfl (dX rfl (fN A_25 Z_25 (Ht rfl) (j:=0) rfl zo)) (bY (Ei:=[(12,_)]) rfl rfl (bQ (bJ rfl rfl) bX) rfl rfl (dX rfl (cX (Ht rfl))) (bY (Ei:=[(99,_),(100,_)]) rfl rfl (bQ (bZ 3 rfl rfl) (bQ (bZ 4 rfl rfl) bX)) rfl rfl (dX rfl (iD U_25 Z_60 (Ht rfl) (Ht rfl) rfl (j:=0) rfl zo zo zo)) (bY (Ei:=[(101,_)]) rfl rfl (bQ (bZ 5 rfl rfl) bX) rfl rfl (dX rfl (kH A_60 Z_60 (Ht rfl) (j:=0) rfl zo zo zo)) ?_)))
       refine bY (Ei:=[(8,_)]) rfl rfl (bQ (bJ rfl rfl) bX) rfl rfl (dX rfl (cX (Ht rfl))) (bY (Ei:=[(10,_)]) rfl rfl (bQ (bJ rfl rfl) bX) rfl rfl (dX rfl (cX (Ht rfl))) (bY (Ei:=[(103,_),(104,_)]) rfl rfl (bQ (bZ 7 rfl rfl) (bQ (bZ 8 rfl rfl) bX)) rfl rfl (dX rfl (gX U_26 Z_25 (Ht rfl) (Ht rfl) rfl zo (by rw [Nat.mul_one,Nat.zero_add]))) ?_))
       refine bY (Ei:=[(105,_)]) rfl rfl (bQ (bZ 9 rfl rfl) bX) rfl rfl (dX rfl (fN A_25 Z_25 (Ht rfl) (j:=0) rfl zo)) (bY (Ei:=[(10,_)]) rfl rfl (bQ (bJ rfl rfl) bX) rfl rfl (dX rfl (cX (Ht rfl))) (bY (Ei:=[(106,_),(107,_)]) rfl rfl (bQ (bZ 10 rfl rfl) (bQ (bZ 11 rfl rfl) bX)) rfl rfl (dX rfl (iD U_25 Z_60 (Ht rfl) (Ht rfl) rfl (j:=0) rfl zo zo zo)) (bY (Ei:=[(108,_)]) rfl rfl (bQ (bZ 12 rfl rfl) bX) rfl rfl (dX rfl (kH A_60 Z_60 (Ht rfl) (j:=0) rfl zo zo zo)) ?_)))
       refine bY (Ei:=[(102,_),(109,_)]) rfl rfl (bQ (bZ 6 rfl rfl) (bQ (bZ 13 rfl rfl) bX)) rfl rfl (dX rfl (cZ K_64 (eZ (tA (x:=gm Yk i k) (y:=gm Yk i i) (L:=G0) (M:=G0) zo) (by rw [hfd]; exact fun _ _ k=>k)) ⟨(Ht rfl),(Ht rfl),trivial⟩)) ?_
       refine bY (Ei:=[(110,_)]) rfl rfl (bQ (bZ 14 rfl rfl) bX) rfl rfl (dX rfl (cX (Ht rfl))) (bY (Ei:=[(95,_)]) rfl rfl (bQ (bZ 15 rfl rfl) bX) rfl rfl (dX rfl (dY (Ht rfl) rfl)) (bY (Ei:=[(95,_)]) rfl rfl (bQ (bZ 15 rfl rfl) bX) rfl rfl (dX rfl (dY (Ht rfl) rfl)) (Y.D_newp (Ei:=[]) (fun bb=>box bb 60 [aI (decide (F.a < 0)),bB F.a.natAbs,aI (decide (F.b < 0)),bB F.b.natAbs,bB (du F)]) 19 rfl rfl rfl bX rfl rfl (by kernel_rfl) (eK (Ts:=[Is (.bool false),Is (.slice none 0 0),Is (.bool false),Is (.slice none 0 0),Is (.slice none 0 0)]) O_60 rfl (fun V=>aW zd (aW zd (aW zd (aW zd (aW zd (aG))))))) ?_)))
       refine Y.D_putN (Ei:=[(111,_)]) 18 rfl rfl rfl rfl rfl rfl (bQ (bZ 16 rfl rfl) bX) (fun bb=>pT Z_60 (Ht rfl) (Ht rfl) rfl (i:=0) rfl (aK rfl) rfl rfl) (Y.D_done aT rfl (by kernel_rfl) rfl (by simp [Y.okP]) rfl rfl (bU (bU (bU (bU (bU (bU (bU (bU (bU (bU (bU (bU (bU (bU (bU (bU (bU (bU (Y.F_newp (fun B13=>Y.F_putN (Y.F_nil ?_))))))))))))))))))))))
       refine ra rfl (eJ (cK (fV (m:=13) (dp 9 rfl (cX (Ht rfl)) (dp 12 rfl (cX (Ht rfl)) (dp 9 rfl (cX (Ht rfl)) (dp 12 rfl (cX (Ht rfl)) (dP 115 2 116 3 rfl (dM U_26 Z_25 (Ht rfl) (Ht rfl) rfl (i:=1) rfl (by rw [List.length_map]; omega) rfl) ?_))))))))
       refine dq 117 4 rfl (oR A_25 Z_25 (Ht rfl) (i:=1) rfl rfl (eX (eQ (d:=[]) zo))) (dp 13 rfl (eG A_60 Z_60 (Ht rfl) (i:=2) rfl rfl rfl) (dq 119 6 rfl (cZ Tryz.call168 Pr ⟨(Ht rfl),trivial⟩) (dp 9 rfl (cX (Ht rfl)) (dp 10 rfl (cX (Ht rfl)) (dP 121 8 122 9 rfl (dM U_26 Z_25 (Ht rfl) (Ht rfl) rfl (i:=1) rfl (by rw [List.length_map]; omega) rfl) ?_)))))
       refine dq 123 10 rfl (oR A_25 Z_25 (Ht rfl) (i:=1) rfl rfl (eX (eQ (d:=[]) zo))) (C.D_step (Ei:=[(118,_),(120,_),(124,_)]) rfl rfl (bV (bG 5 rfl rfl) (bV (bG 7 rfl rfl) (bV (bG 11 rfl rfl) bW))) (dX rfl (cZ Tryz.call197 (Py (n:=n) (L:=V0) (N:=V0) q3 g7 q4 hv1 hv1 zo q5 q6 zo) ⟨(Ht rfl),(Ht rfl),(Ht rfl),trivial⟩)) (fG aT rfl (by kernel_rfl) (zF (zF (zF (aJ (aV ?_)))))))
       refine ro rfl (dM U_26 Z_25 (Ht rfl) (Ht rfl) rfl (i:=1) rfl (by rw [List.length_map]; omega) rfl) ?_
       refine mY Z_25 (Ht rfl) (Ht rfl) El.one (i:=1) rfl rfl (by rw [List.length_map]; omega) rfl ?_
       refine eJ (ts (rm rfl (ro rfl (dW (Ht rfl) (cJ 1) z6) (ra rfl (eJ (eU ?_))))))
       refine cB (fun (l : Nat) => i + 1 ≤ l ∧ l ≤ n) (fun (l : Nat) => n - l) (fun (l : Nat) => [(8, Is (.slice (some ⟨B48, 0, none⟩) n n)), (9, Is (.slice (some ⟨B51, 0, none⟩) n n)), (10, NT .i64 i), (12, NT .i64 k), (13, bO B13 0), (15, NT .i64 l), (53, NT .i64 n), (54, NT .i64 i)]) (fun (l : Nat) => [jP B48 25 60 5 vs vs (bN aE (wR X n i k l)), bF 25 1 (.slice (some ⟨B51, 0, none⟩) n n) ((oP X U n i (k + 1)).map aL), box B13 60 [aI (decide (F.a < 0)), bB F.a.natAbs, aI (decide (F.b < 0)), bB F.b.natAbs, bB (du F)]]) (i + 1) ⟨Nat.le_refl _, hin⟩
        (zS rfl) (aU (pJ (by rw [hY,a1N])) (aU (aO (by rw [← List.map_set,q1,q2,hF,hQ]; exact congrArg _ (Tx hkn zo))) (aU (aB rfl) aY))) (fun l ⟨hl1,hl2⟩=>?_)
       refine cK (ts (rm rfl (rm rfl (ro rfl (gI U_26 (Ht rfl)) (ro rfl (gJ (Ht rfl) (Ht rfl)) (eJ (dQ (Ht rfl) (fun he=>?_) (fun he=>?_))))))))
       ·have hln : l < n := by simp only [decide_eq_true_eq] at he; omega
        have hTs:=qN X n i k l
        have hst:=Yb (G:=X) (n:=n) (i:=i) (k:=k) (l:=l) hln hkn zo zo
        obtain ⟨T,hT⟩:∃ T,T = wR X n i k l:=⟨_,rfl⟩
        have t1:gm T l k = gm X l k:=by rw [hT]; exact Ha hln hkn zo
        have t2:gm T l i = gm X l i:=by rw [hT]; exact Ha hln hin zo
        rw [← hF,← t1,← t2,← hT] at hst
        rw [← hT] at hTs ⊢
        have hTl:=hTs.1
        have hTr:=hTs.row hln
        have hTg:(T.getD l []).length = n:=hTr
        haveI p1:aH (gm T l k) G0:=by rw [t1]; exact hGf.get hg1 l k
        haveI p2:aH (gm T l i) G0:=by rw [t2]; exact hGf.get hg1 l i
        haveI p3:aH (gm T l i * F) (G0 + (G0 + 3 * G0 + 2) + 1):=fitMul
        refine cU (cK (eU (fV (m:=22) (dp 8 rfl (cX (Ht rfl)) (dp 15 rfl (cX (Ht rfl)) (dP 135 0 136 1 rfl (gX U_26 Z_25 (Ht rfl) (Ht rfl) rfl zo (by rw [Nat.mul_one,Nat.zero_add])) ?_))))))
        refine dq 137 2 rfl (fN A_25 Z_25 (Ht rfl) (j:=0) rfl zo) (dp 12 rfl (cX (Ht rfl)) (dp 8 rfl (cX (Ht rfl)) (dp 15 rfl (cX (Ht rfl)) (dP 140 5 141 6 rfl (gX U_26 Z_25 (Ht rfl) (Ht rfl) rfl zo (by rw [Nat.mul_one,Nat.zero_add])) ?_))))
        refine dq 142 7 rfl (fN A_25 Z_25 (Ht rfl) (j:=0) rfl zo) (dp 12 rfl (cX (Ht rfl)) (dP 143 8 144 9 rfl (iD U_25 Z_60 (Ht rfl) (Ht rfl) rfl (j:=0) rfl zo zo zo) (dq 145 10 rfl (kH A_60 Z_60 (Ht rfl) (j:=0) rfl zo zo zo) (dp 8 rfl (cX (Ht rfl)) (dp 15 rfl (cX (Ht rfl)) (dP 147 12 148 13 rfl (gX U_26 Z_25 (Ht rfl) (Ht rfl) rfl zo (by rw [Nat.mul_one,Nat.zero_add])) ?_))))))
        refine dq 149 14 rfl (fN A_25 Z_25 (Ht rfl) (j:=0) rfl zo) (dp 10 rfl (cX (Ht rfl)) (dP 150 15 151 16 rfl (iD U_25 Z_60 (Ht rfl) (Ht rfl) rfl (j:=0) rfl zo zo zo) (dq 152 17 rfl (kH A_60 Z_60 (Ht rfl) (j:=0) rfl zo zo zo) (dp 13 rfl (eG A_60 Z_60 (Ht rfl) (i:=2) rfl rfl rfl) (dP 153 18 154 19 rfl (cZ K_70 (kD (x:=gm T l i) (y:=F) (L:=G0) (M:=G0 + 3 * G0 + 2) zo) ⟨(Ht rfl),(Ht rfl),trivial⟩) ?_)))))
        refine dP 146 11 155 20 rfl (cZ K_69 (tB (x:=gm T l k) (y:=gm T l i * F) (L:=G0) (M:=G0 + (G0 + 3 * G0 + 2) + 1) zo) ⟨(Ht rfl),(Ht rfl),trivial⟩) (fG aT rfl (by kernel_rfl) (zF (zF (zF (zF (zF (aJ (aJ (aV (ro rfl (iD U_25 Z_60 (Ht rfl) (Ht rfl) rfl (j:=0) rfl zo zo zo) (a3n Z_60 (Ht rfl) (Ht rfl) (j:=0) rfl (El.ag rfl) (F:=aE) (z:=gm T l k - gm T l i * F) zo zo zo rfl ?_)))))))))))
        refine eJ (bD (cY (rm rfl (ro rfl (dW (Ht rfl) (cJ 1) z6) (ra rfl (eJ (gQ (l + 1) ⟨by omega,hln⟩ zo (zS rfl) (aU (pJ (congrArg _ hst)) (aU (fun _ _ _ h=>h) (aU (aB rfl) aY))))))))))
       ·have hln : l = n := by simp only [decide_eq_false_iff_not] at he; omega
        rw [hln,a1M]
        refine gG rfl (bD (cY (rm rfl (ro rfl (dW (Ht rfl) (cJ 1) z6) (ra rfl (eJ (bL [0,1] rfl (by decide) (gQ (k + 1) ⟨by omega,hkn⟩ zo (zS rfl) (aU (fun _ _ _ h=>h) (aU (fun _ _ _ h=>h) aY))))))))))
      ·have hkn : k = n := by simp only [decide_eq_false_iff_not] at hd; omega
       rw [hkn]
       refine gG rfl (bD (cY (ro rfl (dW (Ht rfl) (cJ 1) z6) (rm rfl (eJ (gQ (i + 1) ⟨hin,hq.symm⟩ zo (zS rfl) (aU (pJ (by rw [← hS,e5]; rfl)) (aU (aO (by rw [← hS,e5])) aY))))))))
  ·have hin : i = n := by simp only [decide_eq_false_iff_not] at hc; omega
   have hq:Aa h n n 0 = (true,[]):=by rw [← hR,hin,Nat.sub_self]; rfl
   refine gG rfl (ts (ro rfl (cQ cV) (ro rfl (cQ cV) (ro rfl (cQ (cJ 0)) (eJ (xY rfl (fJ (fQ rfl) ?_) (fJ (fQ rfl) ?_) (fJ (fQ rfl) ?_)))))))
   ·exact (eD (by rw [Er,if_pos hh0,hq]))
   ·exact (fun v V k=>by rw [dfW,if_pos hh0,hq]; exact jT v V k)
   ·exact (bE (by rw [dfX,if_pos hh0]; rfl))
end
section
open Go Go.RowKit
theorem vW:Tryz.prog.info? 3 = some Tryz.t3:=by kernel_rfl
theorem sN:Tryz.prog.underlying 103 = some (.slice 3):=by kernel_rfl
end
section
open Go Go.RowKit
theorem Mw {l:List Int} {v:Int} (hl:l.length ≤ 1000000):bI Tryz.prog 230 [kB 1 (l.map (aN .i64)),aN .i64 v] (aN .i64 (Hr (fun x=>decide (v = x)) l)):=by
 refine bI.intro Tryz.func230 rfl Tryz.ntmps230 rfl (fun cx=>(ts (ro rfl (cQ (cJ 0)) (eJ (cK (ts (rm rfl (ro rfl (dU U_103 (Ht rfl) aD) (ro rfl (cX (cJ 0)) (eJ (eU ?_)))))))))))
 refine cB (fun (k : Nat) => k ≤ l.length ∧ ∀ (i : Nat) (x : Int), i < k → l[i]? = some x → decide (v = x) = false) (fun (k : Nat) => l.length - k) (fun (k : Nat) => [(0, kB 1 (l.map (aN .i64))), (1, aN .i64 v), (7, NT .i64 l.length), (8, NT .i64 k)]) (fun (k : Nat) => []) 0 ⟨Nat.zero_le _, fun i x h => by omega⟩
  (zS rfl) aY (fun k ⟨hk,hn⟩=>?_)
 refine ts (ro rfl (gJ (Ht rfl) (Ht rfl)) (eJ (cK (dQ (Ht rfl) (fun hb=>?_) (fun hb=>?_)))))
 ·simp only [decide_eq_true_eq] at hb
  refine cU (cK (eU (ts (rm rfl (ra rfl (eJ (ts (rm rfl (rm rfl (rm rfl (ro rfl (dZ U_103 Z_3 (Ht rfl) (Ht rfl) rfl (eX (zQ hb))) (ro rfl (dJ A_3 Z_3 (Ht rfl)) (ro rfl (qZ (Ht rfl) (Ht rfl)) (eJ (dQ (Ht rfl) (fun hc=>?_) (fun hc=>?_))))))))))))))))
  ·refine ts (rm rfl (ra rfl (eJ (fK rfl (fJ (fQ rfl) ?_)))))
   exact (bE (Hu (p:=fun x=>decide (v = x)) (zQ hb) hc hn).symm)
  ·refine cU (bD (cY (ro rfl (dW (Ht rfl) (cJ 1) z6) (rm rfl (eJ ?_)))))
   refine gQ (k + 1) ⟨hb, fun i x h1 h2 => by
    by_cases e:i = k
    ·subst e; rw [zQ hb] at h2; obtain rfl:=Option.some.inj h2; exact hc
    ·exact hn i x zo h2⟩ zo (zS rfl) aY
 ·simp only [decide_eq_false_iff_not] at hb
  refine gG rfl (ts (ro rfl (cQ cV) (eJ (fK rfl (fJ (fQ rfl) ?_)))))
  exact (bE (yN (p:=fun x=>decide (v = x)) (fun i x h=>hn i x (by have:=(List.getElem?_eq_some_iff.1 h).1; omega) h)).symm)
theorem qV {l:List Int} {v:Int} (hl:l.length ≤ 1000000):bI Tryz.prog 145 [kB 1 (l.map (aN .i64)),aN .i64 v] (aI (l.any fun x=>decide (v = x))):=by
 refine bI.intro Tryz.func145 rfl Tryz.ntmps145 rfl (fun cx=>(ts (ro rfl (cQ cV) (eJ (ts (rm rfl (rm rfl (ro rfl (cZ Tryz.call230 (Mw zo) ⟨(Ht rfl),(Ht rfl),trivial⟩) (ro rfl (oQ (Ht rfl) cV) (ra rfl (eJ (fK rfl (fJ (fQ rfl) ?_)))))))))))))
 exact (eD (Cb _ l))
theorem Px {z:List Qi} {s:List (List Qi)} {G:List Nat} (hl:z.length ≤ 1000) (hG:G.length ≤ 1000):bI Tryz.prog 124 [dO z s,kB 1 ((gnI G).map (aN .i64))] (eT ((gY G z.length).map Nat.succ)):=by
 refine bI.intro Tryz.func124 rfl Tryz.ntmps124 rfl (fun cx=>(ts (rn rfl (fU (Ht rfl)) fun B2=>(ro rfl (cQ cV) (eJ (ts (ro rfl (cQ cV) (eJ (cK (ts (ro rfl (cQ (cJ 1)) (eJ (eU (pU 3 1 ?_))))))))))))))
 refine gN (fun (i : Nat) (v : Value) => i ≤ z.length) (fun (i : Nat) (v : Value) => z.length - i) (fun (i : Nat) (v : Value) => [(1, kB 1 ((gnI G).map (aN .i64))), (2, bO B2 0), (5, Is v), (6, NT .i64 (i + 1))]) (fun (i : Nat) (v : Value) => [box B2 28 [aL z, bC s], bF 3 1 v (((gY G i).map Nat.succ).map (NT .i64))]) 0 (.slice none 0 0) (Nat.zero_le _)
  (zS rfl) (aU (aB rfl) (aU (aO rfl) aY)) (fun i v hi=>?_)
 refine cK (ts (rm rfl (ro rfl (eW eE (Ht rfl) rfl) (ro rfl (fX A_25 Z_25 (Ht rfl) (i:=0) rfl rfl) (ro rfl (dU U_25 (Ht rfl) aD) (ro rfl (uJ (Ht rfl) (Ht rfl)) (eJ (dQ (Ht rfl) (fun hd=>?_) (fun hd=>?_)))))))))
 ·simp only [decide_eq_true_eq] at hd
  have hcl:=uG G i
  refine cU (cK (eU (mI (fun (v2:Value)=>True) (fun (v2:Value)=>[(1,kB 1 ((gnI G).map (aN .i64))),(2,bO B2 0),(5,Is v2),(6,NT .i64 (i + 1))]) (fun (v2:Value)=>[box B2 28 [aL z,bC s],bF 3 1 v2 (((gY G (i + 1)).map Nat.succ).map (NT .i64))]) ?_ (fun v2 _=>?_))))
  ·refine ts (rm rfl (rm rfl (ro rfl (cZ Tryz.call145 (qV (l := gnI G) (v := ((i + 1 : Nat) : Int)) (by rw [List.length_map]; omega)) ⟨(Ht rfl), (Ht rfl), trivial⟩) ?_)))
   refine ro rfl (fH (Ht rfl)) (eJ (dQ (Ht rfl) (fun he=>?_) (fun he=>?_)))
   ·rw [Zh] at he
    have he2:i ∉ G:=by simpa using he
    have hnx:gY G (i + 1) = gY G i ++ [i]:=by rw [gY,if_neg he2]
    refine cY (rm rfl (rm rfl (ro rfl (cI (xs:=[.tmp 19]) U_103 Z_3 O_3 (cW (Ht rfl) cG) rfl rfl rfl) (lE (inf:=Tryz.t3) sN vW rfl rfl rfl (Ht rfl) (Ht rfl) (i:=1) rfl (by simp) (fun T hT=>by simp at hT; subst hT; exact El.one) (by show _ * 8 ≤ _; simp only [List.length_map,List.length_cons,List.length_nil]; omega) (by simp only [List.length_map,List.length_cons,List.length_nil]; omega) rfl (fun v3=>?_)))))
    refine ra rfl (eJ (cD v3 trivial (zS rfl) (aU (aB rfl) (aU (aO (by rw [hnx,List.map_append,List.map_append]; rfl)) aY))))
   ·rw [Zh] at he
    have he2:i ∈ G:=by simpa using he
    have hnx:gY G (i + 1) = gY G i:=by rw [gY,if_pos he2,List.append_nil]
    refine cU (cD v trivial (zS rfl) (aU (aB rfl) (aU (aO (by rw [hnx])) aY)))
  ·refine bD (cY (rm rfl (ro rfl (dW (Ht rfl) (cJ 1) z6) (ra rfl (eJ (gQ (i + 1,v2) hd (by dsimp only; omega) (zS rfl) (eO.refl _)))))))
 ·simp only [decide_eq_false_iff_not] at hd
  obtain rfl:z.length = i:=Nat.le_antisymm zo hi
  refine gG rfl (gW (i:=1) (tt:=5) rfl rfl gH (ts (rm rfl (ra rfl (eJ ?_)))))
  exact fK rfl (fQ rfl)
theorem Pz {z:List Qi} {s:List (List Qi)} {Q:List Nat} {m:Nat} (hs:bT s z.length z.length) (hQ:∀ x,x ∈ Q → x < z.length) (hm:Q.length = m) (hm2:m ≤ 1000) (hl:z.length ≤ 1000) {i j:Nat} (hi:i < m) (hj:j < m):bI Tryz.prog 220 [NT .i64 i,NT .i64 j,PT (dO z s),PT (eT (Q.map Nat.succ))] (aE (gm s (cO Q i) (cO Q j))):=by
 have hki:cO Q i < z.length:=nU hQ zo
 have hkj:cO Q j < z.length:=nU hQ zo
 have hsl:=hs.1
 have hsr:=hs.row hki
 refine bI.intro Tryz.func220 rfl Tryz.ntmps220 rfl (fun cx=>(ts (rn rfl (eK (Ts:=[Is (.bool false),Is (.slice none 0 0),Is (.bool false),Is (.slice none 0 0),Is (.slice none 0 0)]) O_60 rfl (fun V=>aW zd (aW zd (aW zd (aW zd (aW zd (aG))))))) fun B6=>(eJ (cK (fV (m:=14) (dp 2 rfl (iC fC (Ht rfl) rfl) (dq 7 0 rfl (dJ A_26 Z_26 (Ht rfl)) (dp 3 rfl (dJ A_103 Z_103 (Ht rfl)) (dp 0 rfl (cX (Ht rfl)) ?_))))))))))
 refine dP 9 2 10 3 rfl (dZ U_103 Z_3 (Ht rfl) (Ht rfl) rfl (eX (nL zo))) (dq 11 4 rfl (dJ A_3 Z_3 (Ht rfl)) (dq 12 5 rfl (aM.nat (dK (Ht rfl) (cJ 1) zo z6) (show cO Q i + 1 - 1 = cO Q i by omega)) (dP 8 1 13 6 rfl (dZ U_26 Z_25 (Ht rfl) (Ht rfl) rfl (eX (eQ (d:=[]) zo))) (dq 14 7 rfl (dJ A_25 Z_25 (Ht rfl)) (dp 3 rfl (dJ A_103 Z_103 (Ht rfl)) ?_)))))
 refine dp 1 rfl (cX (Ht rfl)) (dP 16 9 17 10 rfl (dZ U_103 Z_3 (Ht rfl) (Ht rfl) rfl (eX (nL zo))) (dq 18 11 rfl (dJ A_3 Z_3 (Ht rfl)) (dq 19 12 rfl (aM.nat (dK (Ht rfl) (cJ 1) zo z6) (show cO Q j + 1 - 1 = cO Q j by omega)) (fG aT rfl (by kernel_rfl) (zF (zF (zF (aJ (aJ (aV (ro rfl (dZ U_25 Z_60 (Ht rfl) (Ht rfl) rfl (eX (eQ (d:=Qi.zero) zo))) ?_)))))))))))
 refine ro rfl (dJ A_60 Z_60 (Ht rfl)) (gZ Z_60 (Ht rfl) (Ht rfl) rfl (i:=0) rfl (aK rfl) rfl rfl (eJ ?_))
 exact fK rfl (fY A_60 Z_60 rfl (i:=0) rfl rfl)
theorem Qa {z:List Qi} {s:List (List Qi)} {Q:List Nat} {m:Nat} (hs:bT s z.length z.length) (hQ:∀ x,x ∈ Q → x < z.length) (hm:Q.length = m) (hm2:m ≤ 1000) (hl:z.length ≤ 1000):gM Tryz.prog 125 [dO z s,eT (Q.map Nat.succ)] [] (Nat) (fun B=>fO [aL (mN z Q),Is (.slice (some ⟨B,0,none⟩) m m)]) (fun B=>[oH B 25 60 5 (bN aE (mX s Q))]) (fun _=>True):=by
 have hll:(Q.map Nat.succ).length = m:=by rw [List.length_map]; exact hm
 refine gM.intro Tryz.func125 rfl Tryz.ntmps125 rfl (fun cx Z=>(ts (rn rfl (fU (Ht rfl)) fun B2=>(rn rfl (Cn (Ht rfl)) fun B3=>(rn rfl (eK (Ts:=[Is (.slice none 0 0),Is (.slice none 0 0)]) O_28 rfl (fun V=>aW zd (aW zd (aG)))) fun B4=>(eJ (cK (gW (i:=1) (tt:=2) rfl rfl jH (gW (i:=2) (tt:=3) rfl rfl kQ (cY (ro rfl (dJ A_103 Z_103 (Ht rfl)) (ro rfl (dU U_103 (Ht rfl) (by rw [List.length_map,hll])) ?_))))))))))))
 refine rn rfl (mT (T:=aE Qi.zero) (i:=Tryz.t60) jK iB rfl rfl (Ht rfl) rfl jF (El.ag rfl) (by show 88 * _ ≤ _; omega) zo) fun B10=>ra rfl (eJ (cK (ts (ro rfl (dJ A_103 Z_103 (Ht rfl)) (ro rfl (dU U_103 (Ht rfl) (by rw [List.length_map,hll])) ?_)))))
 refine ro rfl (cX (cJ 0)) (eJ (eU (bL [0,3,4] rfl (by decide) ?_)))
 refine cB (fun (i : Nat) => i ≤ m) (fun (i : Nat) => m - i) (fun (i : Nat) => [(2, PT (dO z s)), (3, PT (eT (Q.map Nat.succ))), (4, bO B4 0), (5, Is B10), (11, eT (Q.map Nat.succ)), (12, NT .i64 m), (13, NT .i64 i)]) (fun (i : Nat) => [Z, box B4 28 [Is (.slice none 0 0), Is (.slice none 0 0)], bF 60 5 B10 ((kR (fun i => gv z (cO Q i)) Qi.zero m i).map aE)]) 0 (Nat.zero_le _)
  (zS rfl) (aU (fun _ _ _ h=>h) (aU (fun _ _ _ h=>h) (aU (aO (by rw [← iO]; exact sM aE m)) aY))) (fun i hi=>?_)
 refine ts (ro rfl (gJ (Ht rfl) (Ht rfl)) (eJ (cK (dQ (Ht rfl) (fun hd=>?_) (fun hd=>?_)))))
 ·simp only [decide_eq_true_eq] at hd
  have hki:cO Q i < z.length:=nU hQ zo
  refine cU (cK (eU (ts (rm rfl (ro rfl (dZ U_103 Z_3 (Ht rfl) (Ht rfl) rfl (eX (nL zo))) (ro rfl (dJ A_3 Z_3 (Ht rfl)) (ra rfl (ra rfl (eJ (cY (rm rfl (rm rfl (ro rfl (iC eE (Ht rfl) rfl) (ro rfl (dJ A_25 Z_25 (Ht rfl)) (rm rfl (ro rfl (aM.nat (dK (Ht rfl) (cJ 1) zo z6) (show cO Q i + 1 - 1 = cO Q i by omega)) (ro rfl (dZ U_25 Z_60 (Ht rfl) (Ht rfl) rfl (eX (eQ (d:=Qi.zero) hki))) ?_)))))))))))))))))
  refine ro rfl (dJ A_60 Z_60 (Ht rfl)) (ro rfl (dM U_25 Z_60 (Ht rfl) (Ht rfl) rfl (i:=2) rfl (by rw [List.length_map,dD]; omega) rfl) ?_)
  refine mY Z_60 (Ht rfl) (Ht rfl) (El.ag rfl) (i:=2) rfl rfl (by rw [List.length_map,dD]; omega) rfl ?_
  refine eJ (bD (cY (ro rfl (dW (Ht rfl) (cJ 1) z6) (rm rfl (eJ (gQ (i + 1) hd zo (zS rfl) (aU (fun _ _ _ h=>h) (aU (fun _ _ _ h=>h) (aU (aO (by rw [iG,← jI (f:=(fun i=>gv z (cO Q i)))])) aY)))))))))
 ·simp only [decide_eq_false_iff_not] at hd
  obtain rfl:m = i:=Nat.le_antisymm zo hi
  rw [jR]
  refine gG rfl (gW (i:=2) (tt:=5) rfl rfl gH ?_)
  rw [show mN z Q = tab m fun i=>gv z (cO Q i) from by rw [mN,hm],show mX s Q = tab m fun i=>tab m fun j=>gm s (cO Q i) (cO Q j) from by rw [mX,hm]]
  refine ts (rm rfl (ro rfl (dJ A_103 Z_103 (Ht rfl)) (ro rfl (dU U_103 (Ht rfl) (by rw [List.length_map,hll])) ?_)))
  refine ro rfl (lO (γ:=Fin m × Fin m) (Ts:=fun x=>[NT .i64 x.1.1,NT .i64 x.2.1]) (U:=fun x=>aE (gm s (cO Q x.1.1) (cO Q x.2.1))) Tryz.call220 (fun x=>Pz hs hQ hm hm2 hl x.1.2 x.2.2) ⟨(Ht rfl),(Ht rfl),trivial⟩) (jZ K_110 (Gr (n:=m) (f:=fun i j=>gm s (cO Q i) (cO Q j)) zo) ⟨(Ht rfl),(Ht rfl),trivial⟩ rfl (fun B32 _=>(ro rfl (pV (Ht rfl) (Ht rfl)) (gZ Z_28 (Ht rfl) (Ht rfl) rfl (i:=1) rfl (aK rfl) rfl rfl (eJ ?_)))))
  exact jC B32 trivial [0,3] ⟨⟨_,rfl,fun _ _ _ h=>h⟩,⟨_,rfl,fun _ _ _ h=>h⟩,trivial⟩ (by decide) (sK rfl (fY A_28 Z_28 rfl (i:=1) rfl rfl))
theorem wL {n:Int} (h1:-9223372036854775808 ≤ n) (h2:n ≤ 9223372036854775807):bI Tryz.prog 118 [aN .i64 n] (aE (Qi.ofInt n)):=by
 refine bI.intro Tryz.func118 rfl Tryz.ntmps118 rfl (fun cx=>(ts (rn rfl (eK (Ts:=[Is (.bool false),Is (.slice none 0 0),Is (.bool false),Is (.slice none 0 0),Is (.slice none 0 0)]) O_60 rfl (fun V=>aW zd (aW zd (aW zd (aW zd (aW zd (aG))))))) fun B2=>(eJ (ts (rn rfl (eK (Ts:=[Is (.bool false),Is (.slice none 0 0),Is (.bool false),Is (.slice none 0 0),Is (.slice none 0 0)]) O_60 rfl (fun V=>aW zd (aW zd (aW zd (aW zd (aW zd (aG))))))) fun B3=>?_))))))
 refine eJ (cK (fV (m:=4) (dp 3 rfl (eG A_60 Z_60 (Ht rfl) (i:=1) rfl rfl rfl) (dq 4 0 rfl (bA bP (Ht rfl)) (dp 0 rfl (cX (Ht rfl)) (dq 6 2 rfl (cZ K_52 (oW (n:=n) h1 h2) ⟨(Ht rfl),trivial⟩) (fG aT rfl (by kernel_rfl) (zF (aV (ro rfl (aP sD Tryz.call304 Ps (Ht rfl) ⟨(Ht rfl),trivial⟩) (gZ Z_60 (Ht rfl) (Ht rfl) rfl (i:=0) rfl (aK rfl) rfl rfl (eJ ?_))))))))))))
 exact fK rfl (fY A_60 Z_60 rfl (i:=0) rfl rfl)
end
section
open Go Go.RowKit
theorem a5N {x:Qi} {l m:List Qi} {L M n:Nat} (hx:aH x M) (hl:bR l L) (hm:bR m L) (hL:1 ≤ L) (hll:l.length = n) (hml:m.length = n) (hn:n ≤ 1000) (hb:M + n * (2 * L + 2) ≤ 17592186044415):bI Tryz.prog 127 [aE x,aL l,aL m] (aE (uT x l m n)):=by
 refine bI.intro Tryz.func127 rfl Tryz.ntmps127 rfl (fun cx=>(ts (rn rfl (fU (Ht rfl)) fun B3=>(rn rfl (eK (Ts:=[Is (.bool false),Is (.slice none 0 0),Is (.bool false),Is (.slice none 0 0),Is (.slice none 0 0)]) O_60 rfl (fun V=>aW zd (aW zd (aW zd (aW zd (aW zd (aG))))))) fun B6=>(eJ (cK (ts (rm rfl (ro rfl (dU U_25 (Ht rfl) (by rw [List.length_map,hll])) ?_)))))))))
 refine ro rfl (cX (cJ 0)) (eJ (eU ?_))
 refine cB (fun (k : Nat) => k ≤ n) (fun (k : Nat) => n - k) (fun (k : Nat) => [(1, aL l), (2, aL m), (3, bO B3 0), (6, bO B6 0), (9, NT .i64 n), (10, NT .i64 k)]) (fun (k : Nat) => [box B3 60 [aI (decide ((uT x l m k).a < 0)), bB (uT x l m k).a.natAbs, aI (decide ((uT x l m k).b < 0)), bB (uT x l m k).b.natAbs, bB (du (uT x l m k))], box B6 60 [Is (.bool false), Is (.slice none 0 0), Is (.bool false), Is (.slice none 0 0), Is (.slice none 0 0)]]) 0 (Nat.zero_le _)
  (zS rfl) (eO.refl _) (fun k hk=>?_)
 refine ts (ro rfl (gJ (Ht rfl) (Ht rfl)) (eJ (cK (dQ (Ht rfl) (fun hd=>?_) (fun hd=>?_)))))
 ·simp only [decide_eq_true_eq] at hd
  haveI f1:=Kc hx hl hm hL k
  haveI f2:=hl.get hL k
  haveI f3:=hm.get hL k
  have hkn:(k + 1) * (2 * L + 2) ≤ n * (2 * L + 2):=Nat.mul_le_mul_right _ hd
  rw [Nat.add_mul] at hkn
  refine cU (cK (eU (ts (rm rfl (ra rfl (eJ (fV (m:=12) (dp 3 rfl (eG A_60 Z_60 (Ht rfl) (i:=0) rfl rfl rfl) (dq 13 0 rfl (bA bP (Ht rfl)) (dp 1 rfl (cX (Ht rfl)) (dp 7 rfl (cX (Ht rfl)) (dP 15 2 16 3 rfl (dZ U_25 Z_60 (Ht rfl) (Ht rfl) rfl (eX (eQ (d:=Qi.zero) zo))) (dq 17 4 rfl (dJ A_60 Z_60 (Ht rfl)) (dq 18 5 rfl (bA bP (Ht rfl)) (dp 2 rfl (cX (Ht rfl)) (dp 7 rfl (cX (Ht rfl)) (dP 20 7 21 8 rfl (dZ U_25 Z_60 (Ht rfl) (Ht rfl) rfl (eX (eQ (d:=Qi.zero) zo))) ?_)))))))))))))))))
  refine dq 22 9 rfl (dJ A_60 Z_60 (Ht rfl)) (dP 19 6 23 10 rfl (aP dH K_70 (kD (x:=gv l k) (y:=gv m k) (L:=L) (M:=L) zo) (Ht rfl) ⟨(Ht rfl),trivial⟩) (fG aT rfl (by kernel_rfl) (zF (zF (zF (aV (ro rfl (aP oI K_71 (wJ (x:=uT x l m k) (y:=gv l k * gv m k) (L:=M + k * (2 * L + 2)) (M:=L + L + 1) zo) (Ht rfl) ⟨(Ht rfl),trivial⟩) (gZ Z_60 (Ht rfl) (Ht rfl) rfl (i:=0) rfl (aK rfl) rfl rfl ?_))))))))
  refine eJ (bD (cY (ro rfl (dW (Ht rfl) (cJ 1) z6) (rm rfl (eJ (gQ (k + 1) hd zo (zS rfl) (eO.refl _)))))))
 ·simp only [decide_eq_false_iff_not] at hd
  obtain rfl:k = n:=Nat.le_antisymm hk zo
  refine gG rfl (ts (ro rfl (eG A_60 Z_60 (Ht rfl) (i:=0) rfl rfl rfl) (gZ Z_60 (Ht rfl) (Ht rfl) rfl (i:=1) rfl (aK rfl) rfl rfl (eJ ?_))))
  exact fK rfl (fY A_60 Z_60 rfl (i:=1) rfl rfl)
end
section
open Go Go.RowKit
def sq (n:Nat) (x y:Nat → Qi) (C:Nat → Nat → Qi):Qi:=aF n fun a=>aF n fun b=>(x a).conj * C a b * y b
section
variable {n:Nat} {x y z x' y':Nat → Qi} {C C':Nat → Nat → Qi}
theorem Dh (hx : ∀ a, a < n → x a = x' a) (hy : ∀ a, a < n → y a = y' a) (hC : ∀ a b, a < n → b < n → C a b = C' a b) : sq n x y C = sq n x' y' C' :=
 aA fun a ha=>aA fun b hb=>by rw [hx a ha,hy b hb,hC a b ha hb]
theorem Oy (f:Qi):sq n x (fun b=>y b + f * z b) C = sq n x y C + f * sq n x z C:=by
 have e : ∀ a, a < n → (aF n fun b => (x a).conj * C a b * (y b + f * z b)) = (aF n fun b => (x a).conj * C a b * y b) + f * aF n fun b => (x a).conj * C a b * z b := fun a _ => by
  rw [← jB,← kU]; exact aA fun b _=>by grind
 rw [sq,aA e,kU,jB]; rfl
theorem yU (f:Qi):sq n (fun a=>x a + f * z a) y C = sq n x y C + f.conj * sq n z y C:=by
 have e : ∀ a, a < n → (aF n fun b => (x a + f * z a).conj * C a b * y b) = (aF n fun b => (x a).conj * C a b * y b) + f.conj * aF n fun b => (z a).conj * C a b * y b := fun a _ => by
  rw [← jB,← kU]; exact aA fun b _=>by rw [rE,fA]; grind
 rw [sq,aA e,kU,jB]; rfl
theorem So (hC:∀ a b,a < n → b < n → C a b = (C b a).conj):sq n y x C = (sq n x y C).conj:=by
 rw [sq,sq,nB,iT]
 exact aA fun a ha => by
  rw [nB]
  exact aA fun b hb=>by rw [fA,fA,kW,hC b a hb ha]; grind
end
theorem An {x:Qi} (h:x = x.conj):x.im = 0:=by
 have:x.im = -x.im:=congrArg Qi.im h
 grind
theorem yD {x:Qi} (h:x.im = 0):x.conj = x:=Qi.ext' rfl (by show -x.im = x.im; grind)
theorem tF (x:Qi):(0:Rat) < ((x.den:Int):Rat):=by
 have:=x.den_pos
 have h:(0:Int) < (x.den:Int):=by omega
 exact_mod_cast h
theorem Ig {x:Qi} (h:x.im = 0):Oe x = true ↔ x.re < 0:=by
 obtain ⟨d1,d2⟩:=wP x
 have dp:=tF x
 have hb : x.b = 0 := by
  rw [h] at d2
  have:((x.b:Int):Rat) = 0:=by grind
  exact_mod_cast this
 have e : Bl x Qi.zero = qW x.a 0 := by
  have z1:Qi.zero.den = 1:=by decide +kernel
  have z2:Qi.zero.a = 0:=by decide +kernel
  have z3:Qi.zero.b = 0:=by decide +kernel
  rw [Bl,z1,z2,z3,hb]
  simp only [Int.natCast_one,Int.mul_one,Int.zero_mul]
  by_cases c:qW x.a 0 = 0
  ·rw [if_neg (fun k=>k c),c]; decide
  ·rw [if_pos c]
 rw [Oe,decide_eq_true_iff,e]
 have e2 : qW x.a 0 < 0 ↔ x.a < 0 := by
  unfold qW
  constructor
  ·intro k; revert k; split
   ·intro _; assumption
   ·split <;> intro k <;> omega
  ·intro k; rw [if_pos k]; decide
 rw [e2]
 constructor
 ·intro k
  have k2:((x.a:Int):Rat) < 0:=by exact_mod_cast k
  rw [← d1] at k2
  apply Decidable.byContradiction
  intro c
  have:=Rat.mul_nonneg (Rat.le_of_lt dp) (Rat.not_lt.1 c)
  grind
 ·intro k
  have k2 : ((x.den : Int) : Rat) * x.re < 0 := by
   have:=Rat.mul_pos dp (show 0 < -x.re by grind)
   grind
  rw [d1] at k2
  exact_mod_cast k2
abbrev vv (V:List (List Qi)) (r:Nat):Nat → Qi:=gv (V.getD r [])
section
variable {h:List (List Qi)} {n:Nat}
theorem Qx (hh:mR h n = true) {a b:Nat} (ha:a < n) (hb:b < n):gm h a b = (gm h b a).conj:=of_decide_eq_true hh a ha b hb
theorem Xz {G:List (List Qi)} {i r c:Nat} (hr:r < n) (hc:c < n) (h1:i < r) (h2:i < c):gm (Qf G n i) r c = gm G r c - gm G r i * (gm G i c / gm G i i):=by
 rw [Qf,wR,dR hr hc,if_pos ⟨⟨h1,h2⟩,.inl hc⟩]
theorem Yc {G V:List (List Qi)} {i r a:Nat} (hr:r < n) (h1:i < r) (hl:(V.getD r []).length = n) (ha:a < n):vv (oP G V n i n) r a = vv V r a + -(gm G i r / gm G i i) * vv V i a:=by
 show gv ((oP G V n i n).getD r []) a = _
 rw [oP,kV hr,if_pos ⟨h1,hr⟩,Zy,iN zo]
theorem wQ (hs : bT h n n) (hh : mR h n = true) : ∀ i, i ≤ n → ∀ r c, i ≤ r → r < n → i ≤ c → c < n → gm (fP h n i).1 r c = sq n (vv (fP h n i).2 r) (vv (fP h n i).2 c) (gm h)
 | 0, _, r, c, _, hr, _, hc => by
  have e:∀ r,r < n → ∀ a,a < n → vv (tN n) r a = if r = a then 1 else 0:=fun r hr a ha=>By hr ha
  have e1 : ∀ a, a < n → (aF n fun b => (vv (tN n) r a).conj * gm h a b * vv (tN n) c b) = if a = r then gm h a c else 0 := fun a ha => by
   rw [cE hc (fun b hb hne=>by rw [e c hc b hb,if_neg (Ne.symm hne)]; grind),e c hc c hc,if_pos rfl,e r hr a ha]
   by_cases k:r = a
   ·rw [if_pos k,if_pos k.symm,oD]; grind
   ·rw [if_neg k,if_neg (Ne.symm k),fS]; grind
  show gm h r c = sq n (vv (tN n) r) (vv (tN n) c) (gm h)
  rw [sq,aA e1,cE hr (fun a _ hne=>if_neg hne),if_pos rfl]
 | i + 1, hi, r, c, h1, hr, h2, hc => by
  have ih:=wQ hs hh i zo
  obtain ⟨hG,hV⟩:=pC hs i zo
  by_cases k:gm (fP h n i).1 i i = 0
  ·rw [rF k]; exact ih r c zo hr zo hc
  ·rw [yG k]
   dsimp only
   generalize hD:fP h n i = D at *
   obtain ⟨G,V⟩:=D
   dsimp only at *
   rw [Xz hr hc zo zo]
   have s1 : sq n (vv (oP G V n i n) r) (vv (oP G V n i n) c) (gm h) = sq n (fun a => vv V r a + -(gm G i r / gm G i i) * vv V i a) (fun a => vv V c a + -(gm G i c / gm G i i) * vv V i a) (gm h) :=
    Dh (fun a ha=>Yc hr zo (hV.row hr) ha) (fun a ha=>Yc hc zo (hV.row hc) ha) fun _ _ _ _=>rfl
   rw [s1,Oy,yU,yU,← ih r c zo hr zo hc,← ih i c zo zo zo hc,← ih r i zo hr zo zo,← ih i i zo zo zo zo]
   have d:=rV (x:=gm G i c) k
   generalize gm G i c / gm G i i = f at *
   generalize (-(gm G i r / gm G i i)).conj = g at *
   grind
theorem tG (hs:bT h n n) (hh:mR h n = true) {i r c:Nat} (hi:i ≤ n) (h1:i ≤ r) (hr:r < n) (h2:i ≤ c) (hc:c < n):gm (fP h n i).1 r c = (gm (fP h n i).1 c r).conj:=by
 rw [wQ hs hh i hi r c h1 hr h2 hc,wQ hs hh i hi c r h2 hc h1 hr]
 exact So fun a b ha hb=>Qx hh ha hb
theorem Jz (hs:bT h n n) (hh:mR h n = true) {i r:Nat} (hi:i ≤ n) (h1:i ≤ r) (hr:r < n):(gm (fP h n i).1 r r).im = 0:=An (tG hs hh hi h1 hr h1 hr)
theorem Qh (hs : bT h n n) (hh : mR h n = true) : ∀ f i, i + f = n → (Aa h n f i).1 = false → Oe (sq n (gv (Aa h n f i).2) (gv (Aa h n f i).2) (gm h)) = true ∧ (Aa h n f i).2.length = n
 | 0,i,_,k=>by cases k
 | f + 1, i, hf, k => by
  have hin:i < n:=by omega
  obtain ⟨hG,hV⟩:=pC hs i zo
  have form:=wQ hs hh i zo
  have herm:∀ {r c},i ≤ r → r < n → i ≤ c → c < n → gm (fP h n i).1 r c = (gm (fP h n i).1 c r).conj:=fun a b c d=>tG hs hh zo a b c d
  have real:∀ {r},i ≤ r → r < n → (gm (fP h n i).1 r r).im = 0:=fun a b=>Jz hs hh zo a b
  rw [Aa] at k ⊢
  by_cases c1:Oe (gm (fP h n i).1 i i) = true
  ·rw [if_pos c1]
   have e:=form i i (Nat.le_refl _) hin (Nat.le_refl _) hin
   rw [e] at c1
   exact ⟨c1,hV.row hin⟩
  ·rw [if_neg c1] at k ⊢
   by_cases c2:Gy (fP h n i).1 (fP h n i).2 n i ≠ []
   ·rw [if_pos c2]
    dsimp only
    rw [Gy] at c2 ⊢
    by_cases c3:gm (fP h n i).1 i i = 0
    ·rw [if_pos c3] at c2 ⊢
     by_cases c4:Xy (fP h n i).1 n i < n
     ·rw [if_pos c4]
      obtain ⟨⟨p1,p2⟩,p3,p4⟩:=yL (p:=fun k=>!decide (gm (fP h n i).1 i k = 0)) (f:=n - (i + 1)) (k:=i + 1)
      have q:=p4 (by show Xy (fP h n i).1 n i < _; omega)
      have p1':i + 1 ≤ Xy (fP h n i).1 n i:=p1
      have hgne : ¬ gm (fP h n i).1 i (Xy (fP h n i).1 n i) = 0 := by
       have:(!decide (gm (fP h n i).1 i (Xy (fP h n i).1 n i) = 0)) = true:=q
       simpa using this
      generalize hkk:Xy (fP h n i).1 n i = kk at *
      generalize hD:fP h n i = D at *
      obtain ⟨G,V⟩:=D
      dsimp only at *
      refine ⟨?_,by rw [crV,Aj]; exact hV.row c4⟩
      have s1 : sq n (gv (crV G V i kk)) (gv (crV G V i kk)) (gm h) = sq n (fun a => vv V kk a + (-(yF G i kk) * gm G i kk) * vv V i a) (fun a => vv V kk a + (-(yF G i kk) * gm G i kk) * vv V i a) (gm h) := by
       have:∀ a,a < n → gv (crV G V i kk) a = vv V kk a + (-(yF G i kk) * gm G i kk) * vv V i a:=fun a ha=>by rw [crV,Zy,iN (by rw [hV.row c4]; exact ha)]
       exact Dh this this fun _ _ _ _=>rfl
      rw [s1,Oy,yU,yU,← form kk kk zo c4 zo c4,← form i kk zo hin zo c4,← form kk i zo c4 zo hin,← form i i zo hin zo hin,c3]
      have hN:=Ld hgne
      have sd:yF G i kk * ((gm G i kk).norm + (gm G i kk).norm) = Tv (gm G kk kk) + 1:=rV hN
      have zr : (Tv (gm G kk kk)).im = 0 := by
       unfold Tv; split
       ·show -(gm G kk kk).im = 0; rw [real zo c4]; grind
       ·exact real zo c4
      have cN:((gm G i kk).norm).conj = (gm G i kk).norm:=yD rfl
      have sc : (yF G i kk).conj = yF G i kk := by
       have:=congrArg Qi.conj sd
       rw [fA,rE,rE,cN,yD zr,oD,← sd] at this
       have e2:((yF G i kk).conj - yF G i kk) * ((gm G i kk).norm + (gm G i kk).norm) = 0:=by grind
       rcases jS e2 with k | k
       ·grind
       ·exact absurd k hN
      have hki:gm G kk i = (gm G i kk).conj:=herm zo c4 zo hin
      have gg:=Qi.mul_conj_norm (gm G i kk)
      have cneg : (-(yF G i kk) * gm G i kk).conj = -(yF G i kk) * (gm G i kk).conj := by
       rw [fA,show (-(yF G i kk)).conj = -(yF G i kk).conj from Qi.ext' rfl rfl,sc]
      have tot : gm G kk kk + (-(yF G i kk) * gm G i kk).conj * gm G i kk + -(yF G i kk) * gm G i kk * (gm G kk i + (-(yF G i kk) * gm G i kk).conj * 0) = gm G kk kk - (Tv (gm G kk kk) + 1) := by
       rw [cneg,hki,← sd,← gg]; grind
      rw [tot]
      have im0 : (gm G kk kk - (Tv (gm G kk kk) + 1)).im = 0 := by
       show (gm G kk kk).im - ((Tv (gm G kk kk)).im + 0) = 0
       rw [real zo c4,zr]; grind
      rw [Ig im0]
      show (gm G kk kk).re - ((Tv (gm G kk kk)).re + 1) < 0
      have rr:=Ig (real (r:=kk) zo c4)
      unfold Tv
      by_cases c5:Oe (gm G kk kk) = true
      ·rw [if_pos c5]
       have:=rr.1 c5
       show (gm G kk kk).re - (-(gm G kk kk).re + 1) < 0
       grind
      ·rw [if_neg c5]; grind
     ·rw [if_neg c4] at c2; exact absurd rfl c2
    ·rw [if_neg c3] at c2; exact absurd rfl c2
   ·rw [if_neg c2] at k ⊢
    exact Qh hs hh f (i + 1) zo k
def ei (i:Nat) (v:Qi) (a:Nat):Qi:=if a = i then v else 0
theorem Ac {i:Nat} {v:Qi}:ei i v i = v:=if_pos rfl
theorem zC {i a:Nat} {v:Qi} (h:a ≠ i):ei i v a = 0:=if_neg h
def mk (i:Nat) (y:Nat → Qi) (r:Nat):Qi:=if i ≤ r then y r else 0
theorem nK (x:Rat):0 ≤ x * x:=by
 rcases Rat.le_total (a:=0) (b:=x) with k | k
 ·exact Rat.mul_nonneg k k
 ·have := Rat.mul_nonneg (a := -x) (b := -x) (by grind) (by grind)
  grind
theorem Og (z:Qi):0 ≤ z.nrm:=by
 have a:=nK z.re
 have b:=nK z.im
 show 0 ≤ z.re * z.re + z.im * z.im
 grind
theorem Ol {d z:Qi} (hd:d.im = 0) (h0:0 < d.re):0 ≤ (Qi.inv d * (z.conj * z)).re:=by
 have hne:d ≠ 0:=fun e=>by rw [e] at h0; exact absurd h0 (by decide)
 have e:=nF hne
 have e1:d.re * (Qi.inv d).re - d.im * (Qi.inv d).im = 1:=congrArg Qi.re e
 rw [hd] at e1
 have hq : 0 ≤ (Qi.inv d).re := by
  apply Decidable.byContradiction; intro c
  have:=Rat.mul_pos h0 (show 0 < -(Qi.inv d).re by grind)
  grind
 have e2:z.conj * z = z.norm:=by rw [show z.conj * z = z * z.conj by grind,Qi.mul_conj_norm]
 rw [e2]
 show 0 ≤ (Qi.inv d).re * z.nrm - (Qi.inv d).im * 0
 have:=Rat.mul_nonneg hq (Og z)
 grind
theorem Qg (hs : bT h n n) (hh : mR h n = true) (y : Nat → Qi) : ∀ f i, i + f = n → (Aa h n f i).1 = true → 0 ≤ (sq n (mk i y) (mk i y) (gm (fP h n i).1)).re
 | 0, i, hf, _ => by
  have e : sq n (mk i y) (mk i y) (gm (fP h n i).1) = 0 := cL fun a ha => cL fun b hb => by
   rw [mk,if_neg zo,fS]; grind
  rw [e]; exact Rat.le_refl
 | f + 1, i, hf, k => by
  have hin:i < n:=by omega
  obtain ⟨hG,hV⟩:=pC hs i zo
  have herm:∀ {r c},i ≤ r → r < n → i ≤ c → c < n → gm (fP h n i).1 r c = (gm (fP h n i).1 c r).conj:=fun a b c d=>tG hs hh zo a b c d
  have real:=Jz hs hh (i:=i) (r:=i) zo (Nat.le_refl _) hin
  rw [Aa] at k
  by_cases c1:Oe (gm (fP h n i).1 i i) = true
  ·rw [if_pos c1] at k; cases k
  rw [if_neg c1] at k
  by_cases c2:Gy (fP h n i).1 (fP h n i).2 n i ≠ []
  ·rw [if_pos c2] at k; cases k
  rw [if_neg c2] at k
  have ih:=Qg hs hh y f (i + 1) zo k
  -- the vector is what lies behind i,and its element i
  have sp : ∀ a, a < n → mk i y a = mk (i + 1) y a + 1 * ei i (y i) a := fun a _ => by
   unfold mk ei
   by_cases e:a = i
   ·subst e; rw [if_pos (Nat.le_refl _),if_neg zo,if_pos rfl]; grind
   ·rw [if_neg e]
    by_cases e2:i ≤ a
    ·rw [if_pos e2,if_pos zo]; grind
    ·rw [if_neg e2,if_neg zo]; grind
  have u0:∀ a,a ≤ i → mk (i + 1) y a = 0:=fun a ha=>if_neg zo
  rw [Dh sp sp (fun _ _ _ _=>rfl),Oy,yU,yU]
  by_cases c3:gm (fP h n i).1 i i = 0
  ·rw [rF c3] at ih
   generalize hD:fP h n i = D at *
   obtain ⟨G,V⟩:=D
   dsimp only at *
   have row : ∀ b, i < b → b < n → gm G i b = 0 := fun b h1 h2 => by
    have c4 : ¬ Xy G n i < n := fun c4 => c2 (by
     rw [Gy,if_pos c3,if_pos c4]
     intro e
     have:=congrArg List.length e
     rw [crV,Aj,hV.row c4] at this
     simp at this; omega)
    obtain ⟨⟨p1,p2⟩,p3,p4⟩:=yL (p:=fun k=>!decide (gm G i k = 0)) (f:=n - (i + 1)) (k:=i + 1)
    have c5:¬ wV (fun k=>!decide (gm G i k = 0)) (n - (i + 1)) (i + 1) < n:=c4
    have:=p3 b zo zo
    simpa using this
   have col:∀ a,i < a → a < n → gm G a i = 0:=fun a h1 h2=>by rw [herm zo h2 (Nat.le_refl _) hin,row a h1 h2,fS]
   have z1 : sq n (mk (i + 1) y) (ei i (y i)) (gm G) = 0 := cL fun a ha => cL fun b hb => by
    by_cases e:a ≤ i
    ·rw [u0 a e,fS]; grind
    ·by_cases e2 : b = i
     ·subst e2; rw [col a zo ha]; grind
     ·rw [zC e2]; grind
   have z2 : sq n (ei i (y i)) (mk (i + 1) y) (gm G) = 0 := cL fun a ha => cL fun b hb => by
    by_cases e:b ≤ i
    ·rw [u0 b e]; grind
    ·by_cases e2 : a = i
     ·subst e2; rw [row b zo hb]; grind
     ·rw [zC e2,fS]; grind
   have z3 : sq n (ei i (y i)) (ei i (y i)) (gm G) = 0 := cL fun a ha => cL fun b hb => by
    by_cases e:a = i
    ·by_cases e2 : b = i
     ·subst e; subst e2; rw [c3]; grind
     ·rw [zC e2]; grind
    ·rw [zC e,fS]; grind
   rw [z1,z2,z3,oD]
   have e:sq n (mk (i + 1) y) (mk (i + 1) y) (gm G) + 1 * 0 + 1 * (0 + 1 * 0) = sq n (mk (i + 1) y) (mk (i + 1) y) (gm G):=by grind
   rw [e]; exact ih
  ·rw [yG c3] at ih
   dsimp only at ih
   have dpos : 0 < (gm (fP h n i).1 i i).re := by
    have a:=Ig real
    have b:¬ (gm (fP h n i).1 i i).re < 0:=fun e=>c1 (a.2 e)
    have c:(gm (fP h n i).1 i i).re ≠ 0:=fun e=>c3 (Qi.ext' e real)
    grind
   generalize hD:fP h n i = D at *
   obtain ⟨G,V⟩:=D
   dsimp only at *
   have inv:=nF c3
   obtain ⟨d,hd⟩:∃ d,d = gm G i i:=⟨_,rfl⟩
   obtain ⟨q,hq⟩:∃ q,q = Qi.inv d:=⟨_,rfl⟩
   obtain ⟨T,hT⟩:∃ T,T = aF n fun b=>gm G i b * mk (i + 1) y b:=⟨_,rfl⟩
   have hA : (aF n fun a => (mk (i + 1) y a).conj * gm G a i) = T.conj := by
    rw [hT,nB]
    exact aA fun a ha => by
     by_cases e:a ≤ i
     ·rw [u0 a e,fA,fS]; grind
     ·rw [fA,herm zo ha (Nat.le_refl _) hin]; grind
   have z1 : sq n (mk (i + 1) y) (ei i (y i)) (gm G) = T.conj * y i := by
    rw [← hA,← iV]
    exact aA fun a _=>by rw [cE hin (fun b _ hne=>by rw [zC hne]; grind),Ac]
   have z2 : sq n (ei i (y i)) (mk (i + 1) y) (gm G) = (y i).conj * T := by
    have e : ∀ a, a < n → (aF n fun b => (ei i (y i) a).conj * gm G a b * mk (i + 1) y b) = if a = i then (y i).conj * T else 0 := fun a ha => by
     by_cases e:a = i
     ·subst e
      rw [Ac,if_pos rfl,hT,← jB]; exact aA fun b _=>by grind
     ·rw [zC e,if_neg e,fS]; exact cL fun b _=>by grind
    rw [sq,aA e,cE hin (fun a _ hne=>if_neg hne),if_pos rfl]
   have z3 : sq n (ei i (y i)) (ei i (y i)) (gm G) = (y i).conj * d * y i := by
    have e : ∀ a, a < n → (aF n fun b => (ei i (y i) a).conj * gm G a b * ei i (y i) b) = if a = i then (y i).conj * d * y i else 0 := fun a ha => by
     rw [cE hin (fun b _ hne=>by rw [zC hne]; grind),Ac]
     by_cases e:a = i
     ·subst e; rw [Ac,if_pos rfl,hd]
     ·rw [zC e,if_neg e,fS]; grind
    rw [sq,aA e,cE hin (fun a _ hne=>if_neg hne),if_pos rfl]
   have z4 : sq n (mk (i + 1) y) (mk (i + 1) y) (gm G) = sq n (mk (i + 1) y) (mk (i + 1) y) (gm (Qf G n i)) + T.conj * q * T := by
    have e : ∀ a, a < n → (aF n fun b => (mk (i + 1) y a).conj * gm G a b * mk (i + 1) y b) = (aF n fun b => (mk (i + 1) y a).conj * gm (Qf G n i) a b * mk (i + 1) y b) + (mk (i + 1) y a).conj * gm G a i * (q * T) := fun a ha => by
     by_cases e:a ≤ i
     ·rw [u0 a e,fS,cL fun b _=>by grind,cL fun b _=>by grind]; grind
     ·have e2 : (mk (i + 1) y a).conj * gm G a i * (q * T) = aF n fun b => (mk (i + 1) y a).conj * gm G a i * q * (gm G i b * mk (i + 1) y b) := by rw [jB, hT]; grind
      rw [e2,← kU]
      exact aA fun b hb => by
       by_cases e3:b ≤ i
       ·rw [u0 b e3]; grind
       ·rw [Xz ha hb zo zo,Qi.div_def,← hd,← hq]; grind
    rw [sq,aA e,kU,iV,hA]
    show sq n (mk (i + 1) y) (mk (i + 1) y) (gm (Qf G n i)) + T.conj * (q * T) = _
    grind
   rw [z1,z2,z3,z4,oD]
   rw [← hd] at real dpos inv
   rw [← hq] at inv
   have dc:=yD real
   have pn:=Ol (z:=d * y i + T) real dpos
   rw [← hq] at pn
   have e : sq n (mk (i + 1) y) (mk (i + 1) y) (gm (Qf G n i)) + T.conj * q * T + 1 * ((y i).conj * T) + 1 * (T.conj * y i + 1 * ((y i).conj * d * y i)) = sq n (mk (i + 1) y) (mk (i + 1) y) (gm (Qf G n i)) + q * ((d * y i + T).conj * (d * y i + T)) := by
    rw [rE,fA,dc]; grind
   rw [e]
   show 0 ≤ (sq n (mk (i + 1) y) (mk (i + 1) y) (gm (Qf G n i))).re + (q * ((d * y i + T).conj * (d * y i + T))).re
   grind
theorem a1I (hs:bT h n n):Er h n = true ↔ mR h n = true ∧ ∀ y:Nat → Qi,0 ≤ (sq n y y (gm h)).re:=by
 constructor
 ·intro k
  unfold Er at k
  by_cases c:mR h n = true
  ·rw [if_pos c] at k
   refine ⟨c,fun y=>?_⟩
   have:=Qg hs c y n 0 zo k
   exact this
  ·rw [if_neg c] at k; cases k
 ·rintro ⟨c, k⟩
  unfold Er
  rw [if_pos c]
  by_cases e:(Aa h n n 0).1 = true
  ·exact e
  ·obtain ⟨a, _⟩ := Qh hs c n 0 zo (by simpa using e)
   have real:(sq n (gv (Aa h n n 0).2) (gv (Aa h n n 0).2) (gm h)).im = 0:=An (So fun a b ha hb=>Qx c ha hb)
   have:=(Ig real).1 a
   have:=k (gv (Aa h n n 0).2)
   grind
end
end
section
open Go Go.RowKit
theorem a1J {G : List (List Qi)} {n i r : Nat} (hG : bT G n n) (hr : r < n) (hin : i < n) : (tab n fun c => if (i < r ∧ i < c) ∧ (c < n ∨ c = n ∧ r < 0) then gm G r c - gm G r i * (gm G i c / gm G i i) else gm G r c) =
  if i < r then (tab (dS G r).length fun c=>if i < c then gv (dS G r) c - gv (dS G r) i / gv (dS G i) i * gv (dS G i) c else gv (dS G r) c) else dS G r:=by
 have hl:(dS G r).length = n:=hG.row hr
 by_cases e:i < r
 ·rw [if_pos e, hl]
  exact cR fun c hc => by
   by_cases e2:i < c
   ·rw [if_pos ⟨⟨e, e2⟩, .inl hc⟩, if_pos e2]
    show gm G r c - gm G r i * (gm G i c / gm G i i) = gm G r c - gm G r i / gm G i i * gm G i c
    rw [Qi.div_def,Qi.div_def]; grind
   ·rw [if_neg zo,if_neg e2]
 ·rw [if_neg e]
  have:(tab n fun c=>if (i < r ∧ i < c) ∧ (c < n ∨ c = n ∧ r < 0) then gm G r c - gm G r i * (gm G i c / gm G i i) else gm G r c) = tab n fun c=>gv (dS G r) c:=cR fun c _=>by rw [if_neg zo]
  rw [this]
  apply List.ext_getElem?
  intro c
  by_cases hc:c < n
  ·have hc2 : c < (dS G r).length := by omega
   rw [cP hc,List.getElem?_eq_getElem hc2]
   congr 1
   show (dS G r).getD c Qi.zero = _
   rw [List.getD,List.getElem?_eq_getElem hc2]; rfl
  ·rw [List.getElem?_eq_none (by rw [aC]; omega),List.getElem?_eq_none zo]
theorem Ya {G : List (List Qi)} {n i w : Nat} (hG : bT G n n) (h : oC G w) (hin : i < n) (hp : gm G i i ≠ 0) : oC (Qf G n i) (2 * w + 1) := fun x hx => by
 obtain ⟨r,hr,rfl⟩:=eS.1 hx
 have hl:=hG.1
 show qI (tab n fun c=>if (i < r ∧ i < c) ∧ (c < n ∨ c = n ∧ r < 0) then gm G r c - gm G r i * (gm G i c / gm G i i) else gm G r c) _
 rw [a1J hG hr hin]
 by_cases e:i < r
 ·rw [if_pos e]; exact (h.row zo).red (h.row zo) hp
 ·rw [if_neg e]; exact (h.row zo).le zo
theorem Ka {h : List (List Qi)} {n w : Nat} (hs : bT h n n) (hb : oC h w) : ∀ i, i ≤ n → oC (fP h n i).1 (Vu w i)
 | 0,_=>hb
 | i + 1, hi => by
  have ih:=Ka hs hb i zo
  by_cases k:gm (fP h n i).1 i i = 0
  ·rw [rF k]; exact fun r hr=>(ih r hr).le (by simp only [Vu]; omega)
  ·rw [yG k]; exact Ya (pC hs i zo).1 ih zo k
def Mj (G : Nat) : Nat → Nat
 | 0=>1
 | i + 1=>2 * Mj G i + 4 * G + 4
theorem Mk (G : Nat) : ∀ {c d : Nat}, c ≤ d → Mj G c ≤ Mj G d
 | c,0,h=>by rw [show c = 0 by omega]; exact Nat.le_refl _
 | c, d + 1, h => by
  by_cases e:c = d + 1
  ·rw [e]; exact Nat.le_refl _
  ·have := Mk G (c := c) (d := d) zo
   simp only [Mj]; omega
theorem a3i (G : Nat) : ∀ i, 1 ≤ Mj G i
 | 0=>Nat.le_refl _
 | i + 1=>by simp only [Mj]; omega
theorem Qk {h : List (List Qi)} {n G : Nat} (hs : bT h n n) (hG : ∀ i, i ≤ n → aS (fP h n i).1 G) (h1 : 1 ≤ G) : ∀ i, i ≤ n → aS (fP h n i).2 (Mj G i)
 | 0,_=>Hq (Nat.le_refl 1)
 | i + 1, hi => by
  have ih:=Qk hs hG h1 i zo
  have hv:=a3i G i
  by_cases k:gm (fP h n i).1 i i = 0
  ·rw [rF k]; exact fun r hr=>(ih r hr).le (by simp only [Mj]; omega)
  ·rw [yG k]
   intro r hr
   obtain ⟨j,hj,rfl⟩:=eS.1 hr
   by_cases c:i < j ∧ j < n
   ·rw [if_pos c]
    intro x hx
    obtain ⟨a,ha,rfl⟩:=eS.1 hx
    haveI f1:aH (gv ((fP h n i).2.getD j []) a) (Mj G i):=(ih.row j).get hv a
    haveI f2:aH (gv ((fP h n i).2.getD i []) a) (Mj G i):=(ih.row i).get hv a
    have g0:aH (gm (fP h n i).1 i j / gm (fP h n i).1 i i) (G + 3 * G + 2):=pF ((hG i zo).get h1 i j) ((hG i zo).get h1 i i) k
    haveI f3:aH (-(gm (fP h n i).1 i j / gm (fP h n i).1 i i)) (G + 3 * G + 2):=by haveI:=g0; exact fitNeg
    haveI f4:aH (-(gm (fP h n i).1 i j / gm (fP h n i).1 i i) * gv ((fP h n i).2.getD i []) a) (G + 3 * G + 2 + Mj G i + 1):=fitMul
    exact (fitAdd (x:=gv ((fP h n i).2.getD j []) a) (y:=-(gm (fP h n i).1 i j / gm (fP h n i).1 i i) * gv ((fP h n i).2.getD i []) a) (L:=Mj G i) (M:=G + 3 * G + 2 + Mj G i + 1)).le (by simp only [Mj]; omega)
   ·rw [if_neg c]
    exact (ih.row j).le (by simp only [Mj]; omega)
def dG (L:Nat):Nat:=8192 * L + 1026
def dV (L:Nat):Nat:=1020 * dG L + 1276
theorem a5R (L:Nat):4 * (Vu (8 * L) 8 + 1) + 2 = dG L:=by simp only [Vu,dG]; omega
theorem a5S (L:Nat):Mj (dG L) 8 = dV L:=by simp only [Mj,dV]; omega
theorem a6y (L:Nat) (h:L ≤ 100000):10 * dG L + 2 * dV L + 40 ≤ 8796093022208:=by unfold dV dG; omega
theorem a6J {h:List (List Qi)} {n L:Nat} (hs:bT h n n) (hf:aS h L) (hL:1 ≤ L) (hLb:L ≤ 100000) (hn:n ≤ 8):SzD h n (dG L) (dV L):=by
 have hb:oC h (8 * L):=fun r hr=>(a0A hs hf hL r hr).le (Nat.mul_le_mul_right _ hn)
 have hg : ∀ i, i ≤ n → aS (fP h n i).1 (dG L) := fun i hi r hr => by
  rw [← a5R]
  exact ((Ka hs hb i hi r hr).le (xS _ (Nat.le_trans hi hn))).fit
 have h1:1 ≤ dG L:=by unfold dG; omega
 refine ⟨hg,fun i hi r hr=>?_,h1,by unfold dV; omega,a6y L hLb⟩
 rw [← a5S]
 exact (Qk hs hg h1 i hi r hr).le (Mk _ (Nat.le_trans hi hn))
end
section
open Go Go.RowKit
theorem Ey {z:List Qi} {s:List (List Qi)} {L G0 V0:Nat} (hz:bR z L) (hs:aS s L) (hL:1 ≤ L) (hLb:L ≤ 10000000000) (hsh:bT s z.length z.length) (h8:z.length ≤ 8) (hp:z.all jG = true) (hzz:mR (Am z s) z.length = true → SzD (Am z s) z.length G0 V0):bI Tryz.prog 16 [dO z s] (fE [aI (Er (Am z s) z.length),aL (dfW (Am z s) z.length)]):=by
 refine bI.intro Tryz.func16 rfl Tryz.ntmps16 rfl (fun cx=>(ts (rn rfl (fU (Ht rfl)) fun B1=>(ro rfl (cQ cV) (ro rfl (cQ cV) (eJ (ts (ro rfl (eG A_28 Z_28 (Ht rfl) (i:=0) rfl rfl rfl) (ro rfl (cZ Tryz.call99 (a1t hz hs hL zo hp hsh h8) ⟨(Ht rfl),trivial⟩) (ro rfl (cZ Tryz.call98 (Bf (L:=51 * L + 43) (n:=z.length) (Iq z s) (Ip hz hs hL hp h8) zo zo hzz zo) ⟨(Ht rfl),trivial⟩) (rm rfl (ro rfl (dY (Ht rfl) rfl) (ro rfl (dY (Ht rfl) rfl) (ro rfl (dY (Ht rfl) rfl) ?_))))))))))))))
 refine ra rfl (ra rfl (eJ (ts (rm rfl (rm rfl (ra rfl (ra rfl (eJ ?_))))))))
 exact bM rfl (fQ rfl) (fQ rfl)
end
section
open Go Go.RowKit
theorem a6s:Tryz.prog.underlying 3 = some (.int .i64):=by kernel_rfl
end
end Go.Proofs.YtdlciihkiefckaaGreat
