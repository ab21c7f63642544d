/- What functions of the program compute, proved by walks over their code, and the plain mathematics of it; a part of the proof in the last text. -/
import Derived.Test.YtdlciihkiefckaaGreatP04
set_option linter.unusedVariables false
set_option linter.unusedSimpArgs false
set_option maxRecDepth 100000
set_option maxHeartbeats 4000000
namespace Go.Proofs.YtdlciihkiefckaaGreat
section
open Go Go.RowKit
theorem Wh {G : List (List Qi)} {n i r : Nat} (hG : eR G n n) (hr : r < n) (hin : i < n) : (tab n fun c => if (i < r ∧ i < c) ∧ (c < n ∨ c = n ∧ r < 0) then gm G r c - gm G r i * (gm G i c / gm G i i) else gm G r c) =
  if i < r then (tab (dH G r).length fun c=>if i < c then gv (dH G r) c - gv (dH G r) i / gv (dH G i) i * gv (dH G i) c else gv (dH G r) c) else dH G r:=by
 have hl:(dH G r).length = n:=hG.row hr
 by_cases e:i < r
 ·rw [if_pos e, hl]
  exact bE fun c hc => by
   by_cases e2:i < c
   ·rw [if_pos ⟨⟨e, e2⟩, .inl hc⟩, if_pos e2]
    show gm G r c - gm G r i * (gm G i c / gm G i i) = gm G r c - gm G r i / gm G i i * gm G i c
    rw [Qi.div_def,Qi.div_def]; grind
   ·rw [if_neg zo,if_neg e2]
 ·rw [if_neg e]
  have:(tab n fun c=>if (i < r ∧ i < c) ∧ (c < n ∨ c = n ∧ r < 0) then gm G r c - gm G r i * (gm G i c / gm G i i) else gm G r c) = tab n fun c=>gv (dH G r) c:=bE fun c _=>by rw [if_neg zo]
  rw [this]
  apply List.ext_getElem?
  intro c
  by_cases hc:c < n
  ·have hc2 : c < (dH G r).length := by omega
   rw [bO hc,List.getElem?_eq_getElem hc2]
   congr 1
   show (dH G r).getD c Qi.zero = _
   rw [List.getD,List.getElem?_eq_getElem hc2]; rfl
  ·rw [List.getElem?_eq_none (by rw [aT]; omega),List.getElem?_eq_none zo]
theorem Qr {G : List (List Qi)} {n i w : Nat} (hG : eR G n n) (h : mE G w) (hin : i < n) (hp : gm G i i ≠ 0) : mE (dfE G n i) (2 * w + 1) := fun x hx => by
 obtain ⟨r,hr,rfl⟩:=eE.1 hx
 have hl:=hG.1
 show sR (tab n fun c=>if (i < r ∧ i < c) ∧ (c < n ∨ c = n ∧ r < 0) then gm G r c - gm G r i * (gm G i c / gm G i i) else gm G r c) _
 rw [Wh hG hr hin]
 by_cases e:i < r
 ·rw [if_pos e]; exact (h.row zo).red (h.row zo) hp
 ·rw [if_neg e]; exact (h.row zo).le zo
theorem Fr {h : List (List Qi)} {n w : Nat} (hs : eR h n n) (hb : mE h w) : ∀ i, i ≤ n → mE (gK h n i).1 (wst w i)
 | 0,_=>hb
 | i + 1, hi => by
  have ih:=Fr hs hb i zo
  by_cases k:gm (gK h n i).1 i i = 0
  ·rw [qG k]; exact fun r hr=>(ih r hr).le (by simp only [wst]; omega)
  ·rw [yS k]; exact Qr (rR hs i zo).1 ih zo k
def Hm (G : Nat) : Nat → Nat
 | 0=>1
 | i + 1=>2 * Hm G i + 4 * G + 4
theorem Hn (G : Nat) : ∀ {c d : Nat}, c ≤ d → Hm G c ≤ Hm G d
 | c,0,h=>by rw [show c = 0 by omega]; exact Nat.le_refl _
 | c, d + 1, h => by
  by_cases e:c = d + 1
  ·rw [e]; exact Nat.le_refl _
  ·have := Hn G (c := c) (d := d) zo
   simp only [Hm]; omega
theorem Zf (G : Nat) : ∀ i, 1 ≤ Hm G i
 | 0=>Nat.le_refl _
 | i + 1=>by simp only [Hm]; omega
theorem Lg {h : List (List Qi)} {n G : Nat} (hs : eR h n n) (hG : ∀ i, i ≤ n → bP (gK h n i).1 G) (h1 : 1 ≤ G) : ∀ i, i ≤ n → bP (gK h n i).2 (Hm G i)
 | 0,_=>Dk (Nat.le_refl 1)
 | i + 1, hi => by
  have ih:=Lg hs hG h1 i zo
  have hv:=Zf G i
  by_cases k:gm (gK h n i).1 i i = 0
  ·rw [qG k]; exact fun r hr=>(ih r hr).le (by simp only [Hm]; omega)
  ·rw [yS k]
   intro r hr
   obtain ⟨j,hj,rfl⟩:=eE.1 hr
   by_cases c:i < j ∧ j < n
   ·rw [if_pos c]
    intro x hx
    obtain ⟨a,ha,rfl⟩:=eE.1 hx
    haveI f1:aD (gv ((gK h n i).2.getD j []) a) (Hm G i):=(ih.row j).get hv a
    haveI f2:aD (gv ((gK h n i).2.getD i []) a) (Hm G i):=(ih.row i).get hv a
    have g0:aD (gm (gK h n i).1 i j / gm (gK h n i).1 i i) (G + 3 * G + 2):=kD ((hG i zo).get h1 i j) ((hG i zo).get h1 i i) k
    haveI f3:aD (-(gm (gK h n i).1 i j / gm (gK h n i).1 i i)) (G + 3 * G + 2):=by haveI:=g0; exact fitNeg
    haveI f4:aD (-(gm (gK h n i).1 i j / gm (gK h n i).1 i i) * gv ((gK h n i).2.getD i []) a) (G + 3 * G + 2 + Hm G i + 1):=fitMul
    exact (fitAdd (x:=gv ((gK h n i).2.getD j []) a) (y:=-(gm (gK h n i).1 i j / gm (gK h n i).1 i i) * gv ((gK h n i).2.getD i []) a) (L:=Hm G i) (M:=G + 3 * G + 2 + Hm G i + 1)).le (by simp only [Hm]; omega)
   ·rw [if_neg c]
    exact (ih.row j).le (by simp only [Hm]; omega)
def dG (L:Nat):Nat:=8192 * L + 1026
def dV (L:Nat):Nat:=1020 * dG L + 1276
theorem a1P (L:Nat):4 * (wst (8 * L) 8 + 1) + 2 = dG L:=by simp only [wst,dG]; omega
theorem a1Q (L:Nat):Hm (dG L) 8 = dV L:=by simp only [Hm,dV]; omega
theorem a2e (L:Nat) (h:L ≤ 100000):10 * dG L + 2 * dV L + 40 ≤ 8796093022208:=by unfold dV dG; omega
theorem Za {h:List (List Qi)} {n L:Nat} (hs:eR h n n) (hf:bP h L) (hL:1 ≤ L) (hLb:L ≤ 100000) (hn:n ≤ 8):Ur h n (dG L) (dV L):=by
 have hb:mE h (8 * L):=fun r hr=>(Te hs hf hL r hr).le (Nat.mul_le_mul_right _ hn)
 have hg : ∀ i, i ≤ n → bP (gK h n i).1 (dG L) := fun i hi r hr => by
  rw [← a1P]
  exact ((Fr hs hb i hi r hr).le (Hq _ (Nat.le_trans hi hn))).fit
 have h1:1 ≤ dG L:=by unfold dG; omega
 refine ⟨hg,fun i hi r hr=>?_,h1,by unfold dV; omega,a2e L hLb⟩
 rw [← a1Q]
 exact (Lg hs hg h1 i hi r hr).le (Hn _ (Nat.le_trans hi hn))
def uM (G:List (List Qi)) (n i r k:Nat):List (List Qi):=tab n fun a=>tab n fun b=>if (i < a ∧ i < b) ∧ (a < r ∨ a = r ∧ b < k) then gm G a b - gm G a i * (gm G i b / gm G i i) else gm G a b
theorem tR (G:List (List Qi)) (n i r k:Nat):eR (uM G n i r k) n n:=eR.tab
theorem Nh {G:List (List Qi)} {n i:Nat} (h:eR G n n):uM G n i (i + 1) 0 = G:=by
 have:uM G n i (i + 1) 0 = tab n fun r=>tab n fun c=>gm G r c:=bE fun r _=>bE fun c _=>by rw [if_neg zo]
 rw [this]; exact (pM h).symm
theorem Wm {G : List (List Qi)} {n i r : Nat} : uM G n i r 0 = uM G n i r (i + 1) := bE fun a _ => bE fun b _ => by
 by_cases e:(i < a ∧ i < b) ∧ (a < r ∨ a = r ∧ b < 0)
 ·rw [if_pos e,if_pos zo]
 ·rw [if_neg e,if_neg zo]
theorem Wl {G : List (List Qi)} {n i r : Nat} : uM G n i r n = uM G n i (r + 1) 0 := bE fun a _ => bE fun b hb => by
 by_cases e:(i < a ∧ i < b) ∧ (a < r ∨ a = r ∧ b < n)
 ·rw [if_pos e,if_pos zo]
 ·rw [if_neg e,if_neg zo]
theorem Wk {G : List (List Qi)} {n i : Nat} : uM G n i n 0 = dfE G n i := bE fun a ha => bE fun b hb => by
 by_cases e:i < a ∧ i < b
 ·rw [if_pos ⟨e,.inl ha⟩,if_pos ⟨e,.inl hb⟩]
 ·rw [if_neg (fun k=>e k.1),if_neg (fun k=>e k.1)]
theorem Db {G:List (List Qi)} {n i r k a b:Nat} (ha:a < n) (hb:b < n) (h:¬ ((i < a ∧ i < b) ∧ (a < r ∨ a = r ∧ b < k))):gm (uM G n i r k) a b = gm G a b:=by rw [uM,jK ha hb,if_neg h]
theorem Qv {G:List (List Qi)} {n i r k:Nat} (hr:r < n) (hk:k < n) (hir:i < r) (hik:i < k):(uM G n i r k).set r ((dH (uM G n i r k) r).set k (gm G r k - gm G r i / gm G i i * gm G i k)) = uM G n i r (k + 1):=by
 have ev:gm G r k - gm G r i / gm G i i * gm G i k = gm G r k - gm G r i * (gm G i k / gm G i i):=by rw [Qi.div_def,Qi.div_def]; grind
 rw [ev]
 have hrl:(dH (uM G n i r k) r).length = n:=(tR G n i r k).row hr
 have hlen:(uM G n i r k).length = n:=aT _ _
 refine Lw (n:=n) (m:=n) ⟨by rw [List.length_set]; exact aT _ _,fun x hx=>?_⟩ (tR _ _ _ _ _) fun a ha b hb=>?_
 ·rcases List.mem_or_eq_of_mem_set hx with h1 | h1
  ·exact (tR G n i r k).2 x h1
  ·rw [h1,List.length_set]; exact hrl
 ·show gv (dH ((uM G n i r k).set r _) a) b = _
  by_cases e:a = r
  ·subst e
   rw [vH zo,Jf zo]
   by_cases e2:b = k
   ·subst e2
    rw [if_pos rfl,uM,jK ha hb,if_pos zo]
   ·rw [if_neg e2]
    show gm (uM G n i a k) a b = _
    rw [uM,jK ha hb,uM,jK ha hb]
    by_cases c:(i < a ∧ i < b) ∧ (a < a ∨ a = a ∧ b < k)
    ·rw [if_pos c,if_pos zo]
    ·rw [if_neg c,if_neg zo]
  ·rw [oR (fun x => e x.symm)]
   show gm (uM G n i r k) a b = _
   rw [uM,jK ha hb,uM,jK ha hb]
   by_cases c:(i < a ∧ i < b) ∧ (a < r ∨ a = r ∧ b < k)
   ·rw [if_pos c,if_pos zo]
   ·rw [if_neg c,if_neg zo]
theorem Wi {h:List (List Qi)} {n i:Nat} (hi:i < n) (k:Ax (gm (gK h n i).1 i i) = true ∨ vT (gK h n i).1 (gK h n i).2 n i ≠ []):(uL h n (n - i) i).1 = false:=by
 by_cases c:Ax (gm (gK h n i).1 i i) = true
 ·rw [Ld hi c]
 ·rw [Lb hi c (k.resolve_left c)]
theorem a0E {G V:List (List Qi)} {n i k:Nat} (hV:eR V n n) (h0:gm G i i = 0) (hik:i < k) (hk:k < n) (hne:¬ gm G i k = 0):vT G V n i ≠ []:=by
 obtain ⟨⟨p1,p2⟩,p3,p4⟩:=rU (p:=fun k=>!decide (gm G i k = 0)) (f:=n - (i + 1)) (k:=i + 1)
 have c : Nf G n i < n := by
  apply Decidable.byContradiction; intro c
  have c2:¬ tA (fun k=>!decide (gm G i k = 0)) (n - (i + 1)) (i + 1) < n:=c
  have:=p3 k zo zo
  exact hne (by simpa using this)
 rw [vT,if_pos h0,if_pos c]
 intro e
 have:=congrArg List.length e
 rw [Uk,Dp,hV.row c] at this
 simp at this; omega
theorem a0F {G V:List (List Qi)} {n i:Nat} (h:gm G i i ≠ 0 ∨ ∀ k,i < k → k < n → gm G i k = 0):vT G V n i = []:=by
 rw [vT]
 by_cases c:gm G i i = 0
 ·rw [if_pos c]
  have h2:=h.resolve_left (fun k=>k c)
  by_cases c2:Nf G n i < n
  ·obtain ⟨⟨p1, p2⟩, p3, p4⟩ := rU (p := fun k => !decide (gm G i k = 0)) (f := n - (i + 1)) (k := i + 1)
   have c3:tA (fun k=>!decide (gm G i k = 0)) (n - (i + 1)) (i + 1) < n:=c2
   have:=p4 zo
   rw [h2 _ zo c3] at this
   simp at this
  ·rw [if_neg c2]
 ·rw [if_neg c]
theorem Sg {x:Qi} (h:x.im = 0):Ax x = true ↔ iE x.a 0 < 0:=by
 obtain ⟨d1,_⟩:=rQ x
 have dp:=qF x
 rw [Jj h]
 have e2 : iE x.a 0 < 0 ↔ x.a < 0 := by
  unfold iE
  constructor
  ·intro k; revert k; split
   ·intro _; assumption
   ·split <;> intro k <;> omega
  ·intro k; rw [if_pos k]; decide
 rw [e2]
 constructor
 ·intro k
  have k2 : ((x.den : Int) : Rat) * x.re < 0 := by
   have:=Rat.mul_pos dp (show 0 < -x.re by grind)
   grind
  rw [d1] at k2
  exact_mod_cast k2
 ·intro k
  have k2:((x.a:Int):Rat) < 0:=by exact_mod_cast k
  rw [← d1] at k2
  apply Decidable.byContradiction
  intro c
  have:=Rat.mul_nonneg (Rat.le_of_lt dp) (Rat.not_lt.1 c)
  grind
theorem Yv {x:Qi} (h:x.im = 0):iE x.a 0 = 0 ↔ x = Qi.zero:=by
 obtain ⟨d1,_⟩:=rQ x
 have dp:=qF x
 have e2 : iE x.a 0 = 0 ↔ x.a = 0 := by
  unfold iE
  constructor
  ·intro k; revert k; split
   ·intro k; cases k
   ·split
    ·intro k; cases k
    ·intro _; omega
  ·intro k; rw [k]; decide
 rw [e2]
 constructor
 ·intro k
  rw [k] at d1
  have d3:((x.den:Int):Rat) * x.re = 0:=by rw [d1]; rfl
  rcases Rat.mul_eq_zero.1 d3 with k2 | k2
  ·rw [k2] at dp; exact absurd dp (by decide)
  ·exact Qi.ext' k2 h
 ·intro k; rw [k]; decide +kernel
theorem We {x:Qi} (h:¬ x = Qi.zero):¬ x.conj = Qi.zero:=fun e=>h (by rw [← rN x,e]; exact oH)
theorem Wy {h : List (List Qi)} {n : Nat} (k : ∀ a, a < n → ∀ b, b ≤ a → gm h a b = (gm h b a).conj) : jE h n = true := decide_eq_true fun a ha b hb => by
 by_cases c:b ≤ a
 ·exact k a ha b c
 ·rw [k b hb a zo,rN]
def dfM (X:List (List Qi)) (n i r:Nat):List (List Qi):=if gm X i i = 0 then X else uM X n i r 0
theorem Qu {X:List (List Qi)} {n i r:Nat} (h:gm X i i = Qi.zero):dfM X n i r = X:=if_pos h
theorem Qt {X:List (List Qi)} {n i r:Nat} (h:¬ gm X i i = Qi.zero):dfM X n i r = uM X n i r 0:=if_neg h
theorem Ng {X:List (List Qi)} {n i:Nat} (h:eR X n n):dfM X n i (i + 1) = X:=by
 unfold dfM; split
 ·rfl
 ·exact Nh h
theorem Wj {h:List (List Qi)} {n i:Nat}:dfM (gK h n i).1 n i n = (gK h n (i + 1)).1:=by
 by_cases c:gm (gK h n i).1 i i = 0
 ·rw [qG c,Qu c]
 ·rw [yS c,Qt c,Wk]
end
section
open Go Go.RowKit
theorem Cr {h:List (List Qi)} {n L:Nat} (hs:eR h n n) (hf:bP h L) (hL:1 ≤ L) (hLb:L ≤ 4000000000000) (hn:n ≤ 32):aP Tryz.prog 74 [QM h] (aC (jE h n)):=by
 have hsl:=hs.1
 refine aP.intro Tryz.func74 rfl Tryz.ntmps74 rfl (fun cx=>(ts (ro rfl (cQ cV) (eJ (cK (ts (ro rfl (cQ (cJ 0)) (eJ (eU ?_)))))))))
 refine bF (fun (i : Nat) => i ≤ n ∧ ∀ a, a < i → ∀ b, b ≤ a → gm h a b = (gm h b a).conj) (fun (i : Nat) => n - i) (fun (i : Nat) => [(0, QM h), (3, NT .i64 i)]) (fun (i : Nat) => []) 0 ⟨Nat.zero_le _, fun a h => by omega⟩
  (zS rfl) aY (fun i ⟨hi,hh⟩=>?_)
 refine cK (ts (rm rfl (rm rfl (ro rfl (dU U_30 (Ht rfl) (by rw [List.length_map,hsl])) ?_))))
 refine ro rfl (gJ (Ht rfl) (Ht rfl)) (eJ (dQ (Ht rfl) (fun hc=>?_) (fun hc=>?_)))
 ·have hin : i < n := by simp only [decide_eq_true_eq] at hc; omega
  have hri:=hs.row hin
  refine cU (cK (eU (ts (ro rfl (cQ (cJ 0)) (eJ (eU ?_))))))
  refine bF (fun (k : Nat) => k ≤ i + 1 ∧ ∀ b, b < k → gm h i b = (gm h b i).conj) (fun (k : Nat) => i + 1 - k) (fun (k : Nat) => [(0, QM h), (3, NT .i64 i), (4, NT .i64 k)]) (fun (k : Nat) => []) 0 ⟨Nat.zero_le _, fun b h => by omega⟩
   (zS rfl) aY (fun k ⟨hk,hk0⟩=>?_)
  refine cK (ts (rm rfl (rm rfl (ro rfl (uA (Ht rfl) (Ht rfl)) (eJ (dQ (Ht rfl) (fun hd=>?_) (fun hd=>?_)))))))
  ·have hki : k ≤ i := by simp only [decide_eq_true_eq] at hd; omega
   have hrk:=hs.row (i:=k) zo
   haveI f1:aD (gm h i k) L:=hf.get hL i k
   haveI f2:aD (gm h k i) L:=hf.get hL k i
   haveI f3:aD (gm h k i).conj L:=fitConj
   refine cU (cK (eU (cK (fV (m:=15) (dp 0 rfl (cX (Ht rfl)) (dp 3 rfl (cX (Ht rfl)) (bR 16 0 17 1 rfl (dZ U_30 Z_29 (Ht rfl) (Ht rfl) rfl (eX (eQ (d:=[]) zo))) (dq 18 2 rfl (dJ A_29 Z_29 (Ht rfl)) (dp 4 rfl (cX (Ht rfl)) (bR 19 3 20 4 rfl (dZ U_29 Z_130 (Ht rfl) (Ht rfl) rfl (eX (eQ (d:=Qi.zero) zo))) (dq 21 5 rfl (dJ A_130 Z_130 (Ht rfl)) (dp 0 rfl (cX (Ht rfl)) (dp 4 rfl (cX (Ht rfl)) (bR 23 7 24 8 rfl (dZ U_30 Z_29 (Ht rfl) (Ht rfl) rfl (eX (eQ (d:=[]) zo))) ?_))))))))))))))
   refine dq 25 9 rfl (dJ A_29 Z_29 (Ht rfl)) (dp 3 rfl (cX (Ht rfl)) (bR 26 10 27 11 rfl (dZ U_29 Z_130 (Ht rfl) (Ht rfl) rfl (eX (eQ (d:=Qi.zero) zo))) (dq 28 12 rfl (dJ A_130 Z_130 (Ht rfl)) (dq 29 13 rfl (cZ Tryz.call171 xB ⟨(Ht rfl),trivial⟩) (fG aO rfl (by kernel_rfl) (zF (zF (zF (aJ (aJ (aJ (aV (ro rfl (cZ Tryz.call101 (Kx (x:=gm h i k) (y:=(gm h k i).conj) (L:=L) (M:=L) zo zo) ⟨(Ht rfl),(Ht rfl),trivial⟩) ?_)))))))))))))
   refine ro rfl (dT (Ht rfl)) (eJ (dQ (Ht rfl) (fun he=>?_) (fun he=>?_)))
   ·have hne : ¬ gm h i k = (gm h k i).conj := by simpa using he
    have hf0 : jE h n = false := by
     have:¬ jE h n = true:=fun e=>hne (of_decide_eq_true e i hin k zo)
     simpa using this
    refine ts (ro rfl (cQ cV) (eJ (fK rfl (fJ (fQ rfl) ?_))))
    exact (bN hf0.symm)
   ·have heq : gm h i k = (gm h k i).conj := by simpa using he
    refine cU (bC (cY (rm rfl (ro rfl (dW (Ht rfl) (cJ 1) z6) (ra rfl (eJ ?_))))))
    refine gQ (k + 1) ⟨by omega, fun b h1 => by
      by_cases e:b = k
      ·rw [e]; exact heq
      ·exact hk0 b zo⟩ zo (zS rfl) aY
  ·have hki : k = i + 1 := by simp only [decide_eq_false_iff_not] at hd; omega
   refine gG rfl (bC (cY (rm rfl (ro rfl (dW (Ht rfl) (cJ 1) z6) (ra rfl (eJ ?_))))))
   refine gQ (i + 1) ⟨hin, fun a h1 b h2 => by
     by_cases e:a = i
     ·subst e; exact hk0 b zo
     ·exact hh a zo b h2⟩ zo (zS rfl) aY
 ·have hin : i = n := by simp only [decide_eq_false_iff_not] at hc; omega
  have hf0:jE h n = true:=Wy (fun a h1 b h2=>hh a zo b h2)
  refine gG rfl (ts (ro rfl (cQ cV) (eJ (fK rfl (fJ (fQ rfl) ?_)))))
  exact (bN hf0.symm)
theorem Fb {h:List (List Qi)} {n L G0 V0:Nat} (hs:eR h n n) (hf:bP h L) (hL:1 ≤ L) (hLb:L ≤ 4000000000000) (hz:jE h n = true → Ur h n G0 V0) (hn:n ≤ 32):aP Tryz.prog 106 [QM h] (fR [aC (uK h n),aN .i64 (Ul h n)]):=by
 have hsl:=hs.1
 have hs1:eR h n (max n 1):=⟨hsl,fun r hr=>by have a:=hs.2 r hr; have b:0 < h.length:=List.length_pos_of_mem hr; omega⟩
 refine aP.intro Tryz.func106 rfl Tryz.ntmps106 rfl (fun cx=>(ts (ro rfl (cQ cV) (ro rfl (cQ (cJ 0)) (eJ (cK (ts (rm rfl (ro rfl (cZ Tryz.call208 (Iy hs hn) ⟨(Ht rfl),trivial⟩) (ro rfl (dT (Ht rfl)) (eJ (gS (Ht rfl) (by rfl) ?_))))))))))))
 refine cU (cK (ts (rm rfl (ro rfl (cZ Tryz.call74 (Cr hs hf hL hLb hn) ⟨(Ht rfl),trivial⟩) (ro rfl (dT (Ht rfl)) (eJ (dQ (Ht rfl) (fun hh=>?_) (fun hh=>?_))))))))
 ·have hf0 : ¬ jE h n = true := by simpa using hh
  refine ts (ro rfl (cQ cV) (ro rfl (cQ (cJ 1)) (eJ (cB rfl (fJ (fQ rfl) ?_) (fJ (fQ rfl) ?_)))))
  ·exact (bN (by rw [uK,if_neg hf0]))
  ·exact (aS (by rw [Ul,if_neg hf0]; rfl))
 ·have hh0 : jE h n = true := by simpa using hh
  have hz:=hz hh0
  have hg1:=hz.g1
  have hzb:=hz.b
  refine cU (ts (rm rfl (lY Tryz.call113 (Fa (n:=n) (m:=max n 1) hs1 zo zo zo) ⟨(Ht rfl),trivial⟩ rfl (fun B18 _=>(ra rfl (eJ (cK (ts (ro rfl (cQ (cJ 0)) (eJ (eU (wZ 0 rfl (fun vs hvs=>?_)))))))))))))
  have hvs2:Pc vs n:=by have h:=hvs; rw [cL,List.length_map,hsl] at h; exact h
  refine bF (fun (i : Nat) => i ≤ n ∧ (uL h n (n - i) i).1 = (uL h n n 0).1) (fun (i : Nat) => n - i) (fun (i : Nat) => [(4, Is (.slice (some ⟨B18, 0, none⟩) n n)), (5, NT .i64 i)]) (fun (i : Nat) => [iC B18 29 130 5 vs vs (cL QT (gK h n i).1)]) 0 ⟨Nat.zero_le _, rfl⟩
   (zS rfl) (cI.refl _) (fun i ⟨hi,hR⟩=>?_)
  refine cK (ts (rm rfl (rm rfl (ro rfl (fT U_30 (Ht rfl)) (ro rfl (gJ (Ht rfl) (Ht rfl)) (eJ (dQ (Ht rfl) (fun hc=>?_) (fun hc=>?_))))))))
  ·have hin : i < n := by simp only [decide_eq_true_eq] at hc; omega
   have hvl:=hvs2.len
   obtain ⟨hXs,hVs⟩:=rR hs i hi
   have hXf:=hz.g i hi
   have herm:∀ r,i ≤ r → r < n → gm (gK h n i).1 i r = (gm (gK h n i).1 r i).conj:=fun r h1 h2=>yT hs hh0 hi (Nat.le_refl _) hin h1 h2
   have real:=Fq hs hh0 hi (Nat.le_refl _) hin
   have sg:=Sg real
   have sz:=Yv real
   have r1:=Wi (h:=h) hin
   have r3:=Qs (h:=h) hin
   have cn:∀ k,gm (gK h n i).1 i i = 0 → i < k → k < n → ¬ gm (gK h n i).1 i k = 0 → vT (gK h n i).1 (gK h n i).2 n i ≠ []:=fun k a b d e=>a0E hVs a b d e
   have cz:=a0F (G:=(gK h n i).1) (V:=(gK h n i).2) (n:=n) (i:=i)
   have fin:=Wj (h:=h) (n:=n) (i:=i)
   rw [hR] at r1
   obtain ⟨X,hX⟩:∃ X,X = (gK h n i).1:=⟨_,rfl⟩
   rw [← hX] at hXs hXf herm real sg sz r1 r3 cn cz fin ⊢
   have hXl:=hXs.1
   have hri:=hXs.row hin
   haveI g1:aD (gm X i i) G0:=hXf.get hg1 i i
   refine cU (cK (eU (ts (rm rfl (rm rfl (ro rfl (gX U_30 Z_29 (Ht rfl) (Ht rfl) rfl zo (by rw [Nat.mul_one,Nat.zero_add])) ?_))))))
   refine ro rfl (dD A_29 Z_29 (Ht rfl) (j:=0) rfl zo) (rm rfl (ro rfl (dN U_29 Z_130 (Ht rfl) (Ht rfl) rfl (j:=0) rfl zo zo zo) (ro rfl (gF A_130 Z_130 (Ht rfl) (j:=0) rfl zo zo zo) (ro rfl (cZ Tryz.call209 (Cu (x:=gm X i i)) ⟨(Ht rfl),trivial⟩) (ra rfl (eJ (cK (ts (rm rfl (ro rfl (lT (Ht rfl) cV) (eJ (dQ (Ht rfl) (fun hng=>?_) (fun hng=>?_)))))))))))))
   ·have hq := r1 (.inl (sg.2 (by simpa using hng)))
    refine ts (ro rfl (cQ cV) (ro rfl (cQ (cJ 0)) (eJ (cB rfl (fJ (fQ rfl) ?_) (fJ (fQ rfl) ?_)))))
    ·exact (bN (by rw [uK,if_pos hh0,hq]))
    ·exact (aS (by rw [Ul,if_pos hh0]; rfl))
   ·have hng2 : ¬ Ax (gm X i i) = true := fun e => by have h1 := sg.1 e; rw [decide_eq_true h1] at hng; cases hng
    refine cU (ts (rm rfl (ro rfl (dW (Ht rfl) (cJ 1) z6) (ra rfl (eJ (eU ?_))))))
    refine bF (fun (r : Nat) => (i + 1 ≤ r ∧ r ≤ n) ∧ (gm X i i = Qi.zero → ∀ a, i < a → a < r → gm X a i = Qi.zero)) (fun (r : Nat) => n - r) (fun (r : Nat) => [(4, Is (.slice (some ⟨B18, 0, none⟩) n n)), (5, NT .i64 i), (6, aN .i64 (iE (gm X i i).a 0)), (7, NT .i64 r)]) (fun (r : Nat) => [iC B18 29 130 5 vs vs (cL QT (dfM X n i r))]) (i + 1) ⟨⟨Nat.le_refl _, hin⟩, fun _ a h1 h2 => by omega⟩
     (zS rfl) (aU (jP (by rw [Ng hXs])) aY) (fun r ⟨⟨hr1,hr2⟩,hcol⟩=>?_)
    refine cK (ts (rm rfl (rm rfl (ro rfl (fT U_30 (Ht rfl)) (ro rfl (gJ (Ht rfl) (Ht rfl)) (eJ (dQ (Ht rfl) (fun hd=>?_) (fun hd=>?_))))))))
    ·have hrn : r < n := by simp only [decide_eq_true_eq] at hd; omega
     have hrr:=hXs.row hrn
     haveI g2:aD (gm X r i) G0:=hXf.get hg1 r i
     refine cU (cK (eU (cK (ts (rm rfl (ro rfl (jB (Ht rfl) cV) (eJ (dQ (Ht rfl) (fun hs0=>?_) (fun hs0=>?_)))))))))
     ·have hx0 : gm X i i = Qi.zero := sz.1 (by simpa using hs0)
      rw [Qu hx0]
      refine cK (ts (rm rfl (rm rfl (ro rfl (gX U_30 Z_29 (Ht rfl) (Ht rfl) rfl zo (by rw [Nat.mul_one,Nat.zero_add])) ?_))))
      refine ro rfl (dD A_29 Z_29 (Ht rfl) (j:=0) rfl zo) (rm rfl (ro rfl (dN U_29 Z_130 (Ht rfl) (Ht rfl) rfl (j:=0) rfl zo zo zo) (ro rfl (gF A_130 Z_130 (Ht rfl) (j:=0) rfl zo zo zo) (ro rfl (cZ Tryz.call105 (Cv (x:=gm X r i)) ⟨(Ht rfl),trivial⟩) (ro rfl (dT (Ht rfl)) (eJ (dQ (Ht rfl) (fun hzr=>?_) (fun hzr=>?_))))))))
      ·have hne : ¬ gm X r i = Qi.zero := by simpa using hzr
       have hq:=r1 (.inr (cn r hx0 zo hrn (by rw [herm r zo hrn]; exact We hne)))
       refine ts (ro rfl (cQ cV) (ro rfl (cQ (cJ 0)) (eJ (cB rfl (fJ (fQ rfl) ?_) (fJ (fQ rfl) ?_)))))
       ·exact (bN (by rw [uK,if_pos hh0,hq]))
       ·exact (aS (by rw [Ul,if_pos hh0]; rfl))
      ·have hze : gm X r i = Qi.zero := by simpa using hzr
       refine cU (gG rfl (cY (rm rfl (ro rfl (dW (Ht rfl) (cJ 1) z6) (ra rfl (eJ ?_))))))
       refine gQ (r + 1) ⟨⟨by omega, hrn⟩, fun e a h1 h2 => by
         by_cases c:a = r
         ·rw [c]; exact hze
         ·exact hcol e a h1 zo⟩ zo (zS rfl) (aU (jP (by rw [Qu hx0])) aY)
     ·have hx0 : ¬ gm X i i = Qi.zero := fun e => by have h1 := sz.2 e; rw [decide_eq_true h1] at hs0; cases hs0
      rw [Qt hx0]
      have hTs:=tR X n i r 0
      obtain ⟨T,hT⟩:∃ T,T = uM X n i r 0:=⟨_,rfl⟩
      have t1:gm T r i = gm X r i:=by rw [hT]; exact Db hrn hin zo
      have t2:gm T i i = gm X i i:=by rw [hT]; exact Db hin hin zo
      rw [← hT] at hTs ⊢
      have hTl:=hTs.1
      have hTi:=hTs.row hin
      have hTr:=hTs.row hrn
      haveI g3:aD (gm T r i) G0:=by rw [t1]; exact g2
      haveI g4:aD (gm T i i) G0:=by rw [t2]; exact g1
      have g5:aD (gm X r i / gm X i i) (G0 + 3 * G0 + 2):=kD g2 g1 hx0
      obtain ⟨F,hF⟩:∃ F,F = gm X r i / gm X i i:=⟨_,rfl⟩
      rw [← hF] at g5
      haveI g6:aD F (G0 + 3 * G0 + 2):=g5
      have hfd:gm T r i / gm T i i = F:=by rw [t1,t2,hF]
      refine cU (cK (Y.D_start (m:=20) [] (bY (Ei:=[(4,_)]) rfl rfl (bQ (bJ rfl rfl) bX) rfl rfl (dX rfl (cX (Ht rfl))) (bY (Ei:=[(7,_)]) rfl rfl (bQ (bJ rfl rfl) bX) rfl rfl (dX rfl (cX (Ht rfl))) (bY (Ei:=[(55,_),(56,_)]) rfl rfl (bQ (bZ 0 rfl rfl) (bQ (bZ 1 rfl rfl) bX)) rfl rfl (dX rfl (gX U_30 Z_29 (Ht rfl) (Ht rfl) rfl zo (by rw [Nat.mul_one,Nat.zero_add]))) ?_)))))
      refine bY (Ei:=[(57,_)]) rfl rfl (bQ (bZ 2 rfl rfl) bX) rfl rfl (dX rfl (dD A_29 Z_29 (Ht rfl) (j:=0) rfl zo)) (bY (Ei:=[(5,_)]) rfl rfl (bQ (bJ rfl rfl) bX) rfl rfl (dX rfl (cX (Ht rfl))) (bY (Ei:=[(58,_),(59,_)]) rfl rfl (bQ (bZ 3 rfl rfl) (bQ (bZ 4 rfl rfl) bX)) rfl rfl (dX rfl (dN U_29 Z_130 (Ht rfl) (Ht rfl) rfl (j:=0) rfl zo zo zo)) (bY (Ei:=[(60,_)]) rfl rfl (bQ (bZ 5 rfl rfl) bX) rfl rfl (dX rfl (gF A_130 Z_130 (Ht rfl) (j:=0) rfl zo zo zo)) ?_)))
      refine bY (Ei:=[(4,_)]) rfl rfl (bQ (bJ rfl rfl) bX) rfl rfl (dX rfl (cX (Ht rfl))) (bY (Ei:=[(5,_)]) rfl rfl (bQ (bJ rfl rfl) bX) rfl rfl (dX rfl (cX (Ht rfl))) (bY (Ei:=[(62,_),(63,_)]) rfl rfl (bQ (bZ 7 rfl rfl) (bQ (bZ 8 rfl rfl) bX)) rfl rfl (dX rfl (gX U_30 Z_29 (Ht rfl) (Ht rfl) rfl zo (by rw [Nat.mul_one,Nat.zero_add]))) ?_))
      refine bY (Ei:=[(64,_)]) rfl rfl (bQ (bZ 9 rfl rfl) bX) rfl rfl (dX rfl (dD A_29 Z_29 (Ht rfl) (j:=0) rfl zo)) (bY (Ei:=[(5,_)]) rfl rfl (bQ (bJ rfl rfl) bX) rfl rfl (dX rfl (cX (Ht rfl))) (bY (Ei:=[(65,_),(66,_)]) rfl rfl (bQ (bZ 10 rfl rfl) (bQ (bZ 11 rfl rfl) bX)) rfl rfl (dX rfl (dN U_29 Z_130 (Ht rfl) (Ht rfl) rfl (j:=0) rfl zo zo zo)) (bY (Ei:=[(67,_)]) rfl rfl (bQ (bZ 12 rfl rfl) bX) rfl rfl (dX rfl (gF A_130 Z_130 (Ht rfl) (j:=0) rfl zo zo zo)) ?_)))
      refine bY (Ei:=[(61,_),(68,_)]) rfl rfl (bQ (bZ 6 rfl rfl) (bQ (bZ 13 rfl rfl) bX)) rfl rfl (dX rfl (cZ Tryz.call176 (eZ (Ct (x:=gm T r i) (y:=gm T i i) (L:=G0) (M:=G0) zo) (by rw [hfd]; exact fun _ _ k=>k)) ⟨(Ht rfl),(Ht rfl),trivial⟩)) ?_
      refine bY (Ei:=[(69,_)]) rfl rfl (bQ (bZ 14 rfl rfl) bX) rfl rfl (dX rfl (cX (Ht rfl))) (bY (Ei:=[(54,_)]) rfl rfl (bQ (bZ 15 rfl rfl) bX) rfl rfl (dX rfl (dY (Ht rfl) rfl)) (bY (Ei:=[(54,_)]) rfl rfl (bQ (bZ 15 rfl rfl) bX) rfl rfl (dX rfl (dY (Ht rfl) rfl)) (Y.D_newp (Ei:=[]) (fun bb=>box bb 130 [aC (decide (F.a < 0)),aE F.a.natAbs,aC (decide (F.b < 0)),aE F.b.natAbs,aE F.den]) 19 rfl rfl rfl bX rfl rfl (by kernel_rfl) (eK (Ts:=[Is (.bool false),Is (.slice none 0 0),Is (.bool false),Is (.slice none 0 0),Is (.slice none 0 0)]) O_130 rfl (fun V=>aW zd (aW zd (aW zd (aW zd (aW zd (aG))))))) ?_)))
      refine Y.D_putN (Ei:=[(70,_)]) 18 rfl rfl rfl rfl rfl rfl (bQ (bZ 16 rfl rfl) bX) (fun bb=>mY Z_130 (Ht rfl) (Ht rfl) rfl (i:=0) rfl (aK rfl) rfl rfl) (Y.D_done aO rfl (by kernel_rfl) rfl (by simp [Y.okP]) rfl rfl (bU (bU (bU (bU (bU (bU (bU (bU (bU (bU (bU (bU (bU (bU (bU (bU (bU (bU (Y.F_newp (fun B8=>Y.F_putN (Y.F_nil ?_))))))))))))))))))))))
      refine ra rfl (eJ (ts (rm rfl (ro rfl (dW (Ht rfl) (cJ 1) z6) (ra rfl (eJ (eU ?_)))))))
      refine bF (fun (k : Nat) => i + 1 ≤ k ∧ k ≤ n) (fun (k : Nat) => n - k) (fun (k : Nat) => [(4, Is (.slice (some ⟨B18, 0, none⟩) n n)), (5, NT .i64 i), (6, aN .i64 (iE (gm X i i).a 0)), (7, NT .i64 r), (8, cC B8 0), (10, NT .i64 k)]) (fun (k : Nat) => [iC B18 29 130 5 vs vs (cL QT (uM X n i r k)), box B8 130 [aC (decide (F.a < 0)), aE F.a.natAbs, aC (decide (F.b < 0)), aE F.b.natAbs, aE F.den]]) (i + 1) ⟨Nat.le_refl _, hin⟩
       (zS rfl) (aU (jP (by rw [hT,Wm])) (aU (aB rfl) aY)) (fun k ⟨hk1,hk2⟩=>?_)
      refine cK (ts (rm rfl (rm rfl (ro rfl (fT U_30 (Ht rfl)) (ro rfl (gJ (Ht rfl) (Ht rfl)) (eJ (dQ (Ht rfl) (fun he=>?_) (fun he=>?_))))))))
      ·have hkn : k < n := by simp only [decide_eq_true_eq] at he; omega
       have hSs:=tR X n i r k
       have hst:=Qv (G:=X) (n:=n) (i:=i) (r:=r) (k:=k) hrn hkn zo zo
       obtain ⟨S,hS⟩:∃ S,S = uM X n i r k:=⟨_,rfl⟩
       have p1:gm S r k = gm X r k:=by rw [hS]; exact Db hrn hkn zo
       have p2:gm S i k = gm X i k:=by rw [hS]; exact Db hin hkn zo
       rw [← hF,← p1,← p2,← hS] at hst
       rw [← hS] at hSs ⊢
       have hSl:=hSs.1
       have hSr:=hSs.row hrn
       have hSi:=hSs.row hin
       haveI p3:aD (gm S r k) G0:=by rw [p1]; exact hXf.get hg1 r k
       haveI p4:aD (gm S i k) G0:=by rw [p2]; exact hXf.get hg1 i k
       haveI p5:aD (F * gm S i k) (G0 + 3 * G0 + 2 + G0 + 1):=fitMul
       refine cU (cK (eU (fV (m:=22) (dp 4 rfl (cX (Ht rfl)) (dp 7 rfl (cX (Ht rfl)) (bR 80 0 81 1 rfl (gX U_30 Z_29 (Ht rfl) (Ht rfl) rfl zo (by rw [Nat.mul_one,Nat.zero_add])) ?_))))))
       refine dq 82 2 rfl (dD A_29 Z_29 (Ht rfl) (j:=0) rfl zo) (dp 10 rfl (cX (Ht rfl)) (dp 4 rfl (cX (Ht rfl)) (dp 7 rfl (cX (Ht rfl)) (bR 85 5 86 6 rfl (gX U_30 Z_29 (Ht rfl) (Ht rfl) rfl zo (by rw [Nat.mul_one,Nat.zero_add])) ?_))))
       refine dq 87 7 rfl (dD A_29 Z_29 (Ht rfl) (j:=0) rfl zo) (dp 10 rfl (cX (Ht rfl)) (bR 88 8 89 9 rfl (dN U_29 Z_130 (Ht rfl) (Ht rfl) rfl (j:=0) rfl zo zo zo) (dq 90 10 rfl (gF A_130 Z_130 (Ht rfl) (j:=0) rfl zo zo zo) (dp 8 rfl (eG A_130 Z_130 (Ht rfl) (i:=1) rfl rfl rfl) (dp 4 rfl (cX (Ht rfl)) (dp 5 rfl (cX (Ht rfl)) (bR 93 13 94 14 rfl (gX U_30 Z_29 (Ht rfl) (Ht rfl) rfl zo (by rw [Nat.mul_one,Nat.zero_add])) ?_)))))))
       refine dq 95 15 rfl (dD A_29 Z_29 (Ht rfl) (j:=0) rfl zo) (dp 10 rfl (cX (Ht rfl)) (bR 96 16 97 17 rfl (dN U_29 Z_130 (Ht rfl) (Ht rfl) rfl (j:=0) rfl zo zo zo) (dq 98 18 rfl (gF A_130 Z_130 (Ht rfl) (j:=0) rfl zo zo zo) (bR 92 12 99 19 rfl (cZ K_102 (sX (x:=F) (y:=gm S i k) (L:=G0 + 3 * G0 + 2) (M:=G0) zo) ⟨(Ht rfl),(Ht rfl),trivial⟩) (bR 91 11 100 20 rfl (cZ Tryz.call187 (a0y (x:=gm S r k) (y:=F * gm S i k) (L:=G0) (M:=G0 + 3 * G0 + 2 + G0 + 1) zo) ⟨(Ht rfl),(Ht rfl),trivial⟩) ?_)))))
       refine fG aO rfl (by kernel_rfl) (zF (zF (zF (zF (zF (aJ (aJ (aV (ro rfl (dN U_29 Z_130 (Ht rfl) (Ht rfl) rfl (j:=0) rfl zo zo zo) (Pf Z_130 (Ht rfl) (Ht rfl) (j:=0) rfl (El.ag rfl) (F:=QT) (z:=gm S r k - F * gm S i k) zo zo zo rfl (eJ (bC (cY (rm rfl (ro rfl (dW (Ht rfl) (cJ 1) z6) ?_)))))))))))))))
       refine ra rfl (eJ (gQ (k + 1) ⟨by omega,hkn⟩ zo (zS rfl) (aU (jP (congrArg _ hst)) (aU (aB rfl) aY))))
      ·have hkn : k = n := by simp only [decide_eq_false_iff_not] at he; omega
       rw [hkn,Wl]
       refine gG rfl (bC (cY (rm rfl (ro rfl (dW (Ht rfl) (cJ 1) z6) (ra rfl (eJ (eB [0] rfl (by decide) (gQ (r + 1) ⟨⟨by omega,hrn⟩,fun e=>absurd e hx0⟩ zo (zS rfl) (aU (jP (by rw [Qt hx0])) aY)))))))))
    ·have hrn : r = n := by simp only [decide_eq_false_iff_not] at hd; omega
     have hcr := cz (by
      by_cases e:gm X i i = Qi.zero
      ·exact .inr fun k h1 h2=>by rw [herm k zo h2,hcol e k h1 zo]; exact oH
      ·exact .inl e)
     have hq:=r3 hng2 hcr
     rw [hrn,fin]
     refine gG rfl (bC (cY (rm rfl (ro rfl (dW (Ht rfl) (cJ 1) z6) (ra rfl (eJ (gQ (i + 1) ⟨hin,by rw [← hq]; exact hR⟩ zo (zS rfl) (aU (fun _ _ _ h=>h) aY))))))))
  ·have hin : i = n := by simp only [decide_eq_false_iff_not] at hc; omega
   have hq:(uL h n n 0).1 = true:=by rw [← hR,hin,Nat.sub_self]; rfl
   refine gG rfl (ts (ro rfl (cQ cV) (ro rfl (cQ (cJ 0)) (eJ (cB rfl (fJ (fQ rfl) ?_) (fJ (fQ rfl) ?_))))))
   ·exact (bN (by rw [uK,if_pos hh0,hq]))
   ·exact (aS (by rw [Ul,if_pos hh0]; rfl))
end
section
open Go Go.RowKit
def Gs (z:List Qi) (s:List (List Qi)):Bool:=decide (∀ i,i < z.length → ∀ j,j < i → gm s i j * gv z j = gm s j i * gv z i)
theorem Vg {z:List Qi} {s:List (List Qi)} {L:Nat} (hz:cD z L) (hs:bP s L) (hL:1 ≤ L) (hLb:L ≤ 100000000000) (hsh:eR s z.length z.length) (h8:z.length ≤ 8):aP Tryz.prog 17 [gR z s] (aC (Gs z s)):=by
 have hsl:=hsh.1
 obtain ⟨n,hn⟩:∃ n,n = z.length:=⟨_,rfl⟩
 have hsh2:eR s n n:=by rw [hn]; exact hsh
 refine aP.intro Tryz.func17 rfl Tryz.ntmps17 rfl (fun cx=>(ts (rn rfl (fU (Ht rfl)) fun B1=>(ro rfl (cQ cV) (eJ (cK (ts (ro rfl (eW iO (Ht rfl) rfl) (ro rfl (fX A_26 Z_26 (Ht rfl) (i:=0) rfl rfl) (ro rfl (dU U_26 (Ht rfl) (by rw [List.length_map,hsl])) ?_))))))))))
 refine ro rfl (cX (cJ 0)) (eJ (eU ?_))
 refine bF (fun (i : Nat) => i ≤ n ∧ ∀ a, a < i → ∀ b, b < a → gm s a b * gv z b = gm s b a * gv z a) (fun (i : Nat) => n - i) (fun (i : Nat) => [(1, cC B1 0), (7, NT .i64 n), (8, NT .i64 i)]) (fun (i : Nat) => [box B1 28 [cE z, fB s]]) 0 ⟨Nat.zero_le _, fun a h => by omega⟩
  (aQ rfl (aZ rfl (jQ hn.symm) (zS rfl))) (aU (aB rfl) aY) (fun i ⟨hi,hh⟩=>?_)
 refine ts (ro rfl (gJ (Ht rfl) (Ht rfl)) (eJ (cK (dQ (Ht rfl) (fun hc=>?_) (fun hc=>?_)))))
 ·have hin : i < n := by simp only [decide_eq_true_eq] at hc; omega
  have hri:=hsh2.row hin
  refine cU (cK (eU (ts (rm rfl (ra rfl (eJ (ts (rm rfl (ro rfl (cX (cJ 0)) (eJ (eU ?_)))))))))))
  refine bF (fun (k : Nat) => k ≤ i ∧ ∀ b, b < k → gm s i b * gv z b = gm s b i * gv z i) (fun (k : Nat) => i - k) (fun (k : Nat) => [(1, cC B1 0), (3, NT .i64 i), (7, NT .i64 n), (8, NT .i64 i), (11, NT .i64 i), (12, NT .i64 k)]) (fun (k : Nat) => [box B1 28 [cE z, fB s]]) 0 ⟨Nat.zero_le _, fun b h => by omega⟩
   (zS rfl) (aU (aB rfl) aY) (fun k ⟨hk,hk0⟩=>?_)
  refine ts (ro rfl (gJ (Ht rfl) (Ht rfl)) (eJ (cK (dQ (Ht rfl) (fun hd=>?_) (fun hd=>?_)))))
  ·have hki : k < i := by simp only [decide_eq_true_eq] at hd; omega
   have hrk:=hsh2.row (i:=k) zo
   haveI f1:aD (gm s i k) L:=hs.get hL i k
   haveI f2:aD (gm s k i) L:=hs.get hL k i
   haveI f3:aD (gv z i) L:=hz.get hL i
   haveI f4:aD (gv z k) L:=hz.get hL k
   haveI f5:aD (gm s i k * gv z k) (L + L + 1):=fitMul
   haveI f6:aD (gm s k i * gv z i) (L + L + 1):=fitMul
   refine cU (cK (eU (ts (rm rfl (ra rfl (eJ (cK (fV (m:=27) (dp 1 rfl (eW iO (Ht rfl) rfl) (dq 15 0 rfl (fX A_26 Z_26 (Ht rfl) (i:=0) rfl rfl) (dp 3 rfl (cX (Ht rfl)) (bR 16 1 17 2 rfl (dZ U_26 Z_25 (Ht rfl) (Ht rfl) rfl (eX (eQ (d:=[]) zo))) (dq 18 3 rfl (dJ A_25 Z_25 (Ht rfl)) (dp 4 rfl (cX (Ht rfl)) (bR 19 4 20 5 rfl (dZ U_25 Z_60 (Ht rfl) (Ht rfl) rfl (eX (eQ (d:=Qi.zero) zo))) (dq 21 6 rfl (dJ A_60 Z_60 (Ht rfl)) ?_))))))))))))))))
   refine dp 1 rfl (eW iX (Ht rfl) rfl) (dq 23 8 rfl (fX A_25 Z_25 (Ht rfl) (i:=0) rfl rfl) (dp 4 rfl (cX (Ht rfl)) (bR 24 9 25 10 rfl (dZ U_25 Z_60 (Ht rfl) (Ht rfl) rfl (eX (eQ (d:=Qi.zero) zo))) (dq 26 11 rfl (dJ A_60 Z_60 (Ht rfl)) (bR 22 7 27 12 rfl (cZ K_70 (nA (x:=gm s i k) (y:=gv z k) (L:=L) (M:=L) zo) ⟨(Ht rfl),(Ht rfl),trivial⟩) (dp 1 rfl (eW iO (Ht rfl) rfl) (dq 29 14 rfl (fX A_26 Z_26 (Ht rfl) (i:=0) rfl rfl) ?_)))))))
   refine dp 4 rfl (cX (Ht rfl)) (bR 30 15 31 16 rfl (dZ U_26 Z_25 (Ht rfl) (Ht rfl) rfl (eX (eQ (d:=[]) zo))) (dq 32 17 rfl (dJ A_25 Z_25 (Ht rfl)) (dp 3 rfl (cX (Ht rfl)) (bR 33 18 34 19 rfl (dZ U_25 Z_60 (Ht rfl) (Ht rfl) rfl (eX (eQ (d:=Qi.zero) zo))) (dq 35 20 rfl (dJ A_60 Z_60 (Ht rfl)) (dp 1 rfl (eW iX (Ht rfl) rfl) (dq 37 22 rfl (fX A_25 Z_25 (Ht rfl) (i:=0) rfl rfl) (dp 3 rfl (cX (Ht rfl)) ?_))))))))
   refine bR 38 23 39 24 rfl (dZ U_25 Z_60 (Ht rfl) (Ht rfl) rfl (eX (eQ (d:=Qi.zero) zo))) (dq 40 25 rfl (dJ A_60 Z_60 (Ht rfl)) (fG aO rfl (by kernel_rfl) (zF (zF (zF (zF (zF (zF (aJ (aJ (aJ (aV (ro rfl (cZ K_70 (nA (x:=gm s k i) (y:=gv z i) (L:=L) (M:=L) zo) ⟨(Ht rfl),(Ht rfl),trivial⟩) ?_)))))))))))))
   refine ro rfl (cZ Tryz.call100 (Px (x:=gm s i k * gv z k) (y:=gm s k i * gv z i) (L:=L + L + 1) (M:=L + L + 1) zo zo) ⟨(Ht rfl),(Ht rfl),trivial⟩) (ro rfl (dT (Ht rfl)) (eJ (dQ (Ht rfl) (fun he=>?_) (fun he=>?_))))
   ·have hne : ¬ gm s i k * gv z k = gm s k i * gv z i := by simpa using he
    have hf0 : Gs z s = false := by
     have : ¬ Gs z s = true := fun e => by
      have e2:∀ i,i < z.length → ∀ j,j < i → gm s i j * gv z j = gm s j i * gv z i:=of_decide_eq_true e
      exact hne (e2 i zo k hki)
     simpa using this
    refine ts (ro rfl (cQ cV) (eJ (fK rfl (fJ (fQ rfl) ?_))))
    exact (bN hf0.symm)
   ·have heq : gm s i k * gv z k = gm s k i * gv z i := by simpa using he
    refine cU (bC (cY (ro rfl (dW (Ht rfl) (cJ 1) z6) (rm rfl (eJ ?_)))))
    refine gQ (k + 1) ⟨hki, fun b h1 => by
      by_cases e:b = k
      ·rw [e]; exact heq
      ·exact hk0 b zo⟩ zo (zS rfl) (aU (aB rfl) aY)
  ·have hki : k = i := by simp only [decide_eq_false_iff_not] at hd; omega
   refine gG rfl (bC (cY (ro rfl (dW (Ht rfl) (cJ 1) z6) (rm rfl (eJ ?_)))))
   refine gQ (i + 1) ⟨hin, fun a h1 b h2 => by
     by_cases e:a = i
     ·rw [e] at h2 ⊢; exact hk0 b zo
     ·exact hh a zo b h2⟩ zo (zS rfl) (aU (aB rfl) aY)
 ·have hin : i = n := by simp only [decide_eq_false_iff_not] at hc; omega
  have hf0:Gs z s = true:=decide_eq_true fun a h1 b h2=>hh a zo b h2
  refine gG rfl (ts (ro rfl (cQ cV) (eJ (fK rfl (fJ (fQ rfl) ?_)))))
  exact (bN hf0.symm)
theorem Qj {z:List Qi} {s:List (List Qi)} {L:Nat} (hz:cD z L) (hs:bP s L) (hL:1 ≤ L) (hLb:L ≤ 100000000000) (hsh:eR s z.length z.length) (h8:z.length ≤ 8):aP Tryz.prog 18 [mD z s] (aC (Gs z s)):=by
 have hsl:=hsh.1
 obtain ⟨n,hn⟩:∃ n,n = z.length:=⟨_,rfl⟩
 have hsh2:eR s n n:=by rw [hn]; exact hsh
 refine aP.intro Tryz.func18 rfl Tryz.ntmps18 rfl (fun cx=>(ts (rn rfl (fU (Ht rfl)) fun B1=>(ro rfl (cQ cV) (eJ (cK (ts (ro rfl (cQ (cJ 0)) (eJ (eU ?_))))))))))
 refine bF (fun (i : Nat) => i ≤ n ∧ ∀ a, a < i → ∀ b, b < a → gm s a b * gv z b = gm s b a * gv z a) (fun (i : Nat) => n - i) (fun (i : Nat) => [(1, cC B1 0), (3, NT .i64 i)]) (fun (i : Nat) => [box B1 32 [uJ z, QM s]]) 0 ⟨Nat.zero_le _, fun a h => by omega⟩
  (zS rfl) (aU (aB rfl) aY) (fun i ⟨hi,hh⟩=>?_)
 refine cK (ts (rm rfl (ro rfl (eW kB (Ht rfl) rfl) (ro rfl (fX A_29 Z_29 (Ht rfl) (i:=0) rfl rfl) (ro rfl (dU U_29 (Ht rfl) (by rw [List.length_map])) ?_)))))
 refine ro rfl (gJ (Ht rfl) (Ht rfl)) (eJ (dQ (Ht rfl) (fun hc=>?_) (fun hc=>?_)))
 ·have hin : i < n := by simp only [decide_eq_true_eq] at hc; omega
  have hri:=hsh2.row hin
  refine cU (cK (eU (ts (ro rfl (cQ (cJ 0)) (eJ (eU ?_))))))
  refine bF (fun (k : Nat) => k ≤ i ∧ ∀ b, b < k → gm s i b * gv z b = gm s b i * gv z i) (fun (k : Nat) => i - k) (fun (k : Nat) => [(1, cC B1 0), (3, NT .i64 i), (4, NT .i64 k)]) (fun (k : Nat) => [box B1 32 [uJ z, QM s]]) 0 ⟨Nat.zero_le _, fun b h => by omega⟩
   (zS rfl) (aU (aB rfl) aY) (fun k ⟨hk,hk0⟩=>?_)
  refine cK (ts (rm rfl (rm rfl (ro rfl (gJ (Ht rfl) (Ht rfl)) (eJ (dQ (Ht rfl) (fun hd=>?_) (fun hd=>?_)))))))
  ·have hki : k < i := by simp only [decide_eq_true_eq] at hd; omega
   have hrk:=hsh2.row (i:=k) zo
   haveI f1:aD (gm s i k) L:=hs.get hL i k
   haveI f2:aD (gm s k i) L:=hs.get hL k i
   haveI f3:aD (gv z i) L:=hz.get hL i
   haveI f4:aD (gv z k) L:=hz.get hL k
   haveI f5:aD (gm s i k * gv z k) (L + L + 1):=fitMul
   haveI f6:aD (gm s k i * gv z i) (L + L + 1):=fitMul
   refine cU (cK (eU (cK (fV (m:=27) (dp 1 rfl (eW rT (Ht rfl) rfl) (dq 17 0 rfl (fX A_30 Z_30 (Ht rfl) (i:=0) rfl rfl) (dp 3 rfl (cX (Ht rfl)) (bR 18 1 19 2 rfl (dZ U_30 Z_29 (Ht rfl) (Ht rfl) rfl (eX (eQ (d:=[]) zo))) (dq 20 3 rfl (dJ A_29 Z_29 (Ht rfl)) (dp 4 rfl (cX (Ht rfl)) (bR 21 4 22 5 rfl (dZ U_29 Z_130 (Ht rfl) (Ht rfl) rfl (eX (eQ (d:=Qi.zero) zo))) (dq 23 6 rfl (dJ A_130 Z_130 (Ht rfl)) ?_))))))))))))
   refine dp 1 rfl (eW kB (Ht rfl) rfl) (dq 25 8 rfl (fX A_29 Z_29 (Ht rfl) (i:=0) rfl rfl) (dp 4 rfl (cX (Ht rfl)) (bR 26 9 27 10 rfl (dZ U_29 Z_130 (Ht rfl) (Ht rfl) rfl (eX (eQ (d:=Qi.zero) zo))) (dq 28 11 rfl (dJ A_130 Z_130 (Ht rfl)) (bR 24 7 29 12 rfl (cZ K_102 (sX (x:=gm s i k) (y:=gv z k) (L:=L) (M:=L) zo) ⟨(Ht rfl),(Ht rfl),trivial⟩) (dp 1 rfl (eW rT (Ht rfl) rfl) (dq 31 14 rfl (fX A_30 Z_30 (Ht rfl) (i:=0) rfl rfl) ?_)))))))
   refine dp 4 rfl (cX (Ht rfl)) (bR 32 15 33 16 rfl (dZ U_30 Z_29 (Ht rfl) (Ht rfl) rfl (eX (eQ (d:=[]) zo))) (dq 34 17 rfl (dJ A_29 Z_29 (Ht rfl)) (dp 3 rfl (cX (Ht rfl)) (bR 35 18 36 19 rfl (dZ U_29 Z_130 (Ht rfl) (Ht rfl) rfl (eX (eQ (d:=Qi.zero) zo))) (dq 37 20 rfl (dJ A_130 Z_130 (Ht rfl)) (dp 1 rfl (eW kB (Ht rfl) rfl) (dq 39 22 rfl (fX A_29 Z_29 (Ht rfl) (i:=0) rfl rfl) (dp 3 rfl (cX (Ht rfl)) ?_))))))))
   refine bR 40 23 41 24 rfl (dZ U_29 Z_130 (Ht rfl) (Ht rfl) rfl (eX (eQ (d:=Qi.zero) zo))) (dq 42 25 rfl (dJ A_130 Z_130 (Ht rfl)) (fG aO rfl (by kernel_rfl) (zF (zF (zF (zF (zF (zF (aJ (aJ (aJ (aV (ro rfl (cZ K_102 (sX (x:=gm s k i) (y:=gv z i) (L:=L) (M:=L) zo) ⟨(Ht rfl),(Ht rfl),trivial⟩) ?_)))))))))))))
   refine ro rfl (cZ Tryz.call101 (Kx (x:=gm s i k * gv z k) (y:=gm s k i * gv z i) (L:=L + L + 1) (M:=L + L + 1) zo zo) ⟨(Ht rfl),(Ht rfl),trivial⟩) (ro rfl (dT (Ht rfl)) (eJ (dQ (Ht rfl) (fun he=>?_) (fun he=>?_))))
   ·have hne : ¬ gm s i k * gv z k = gm s k i * gv z i := by simpa using he
    have hf0 : Gs z s = false := by
     have : ¬ Gs z s = true := fun e => by
      have e2:∀ i,i < z.length → ∀ j,j < i → gm s i j * gv z j = gm s j i * gv z i:=of_decide_eq_true e
      exact hne (e2 i zo k hki)
     simpa using this
    refine ts (ro rfl (cQ cV) (eJ (fK rfl (fJ (fQ rfl) ?_))))
    exact (bN hf0.symm)
   ·have heq : gm s i k * gv z k = gm s k i * gv z i := by simpa using he
    refine cU (bC (cY (rm rfl (ro rfl (dW (Ht rfl) (cJ 1) z6) (ra rfl (eJ ?_))))))
    refine gQ (k + 1) ⟨hki, fun b h1 => by
      by_cases e:b = k
      ·rw [e]; exact heq
      ·exact hk0 b zo⟩ zo (zS rfl) (aU (aB rfl) aY)
  ·have hki : k = i := by simp only [decide_eq_false_iff_not] at hd; omega
   refine gG rfl (bC (cY (rm rfl (ro rfl (dW (Ht rfl) (cJ 1) z6) (ra rfl (eJ ?_))))))
   refine gQ (i + 1) ⟨hin, fun a h1 b h2 => by
     by_cases e:a = i
     ·rw [e] at h2 ⊢; exact hk0 b zo
     ·exact hh a zo b h2⟩ zo (zS rfl) (aU (aB rfl) aY)
 ·have hin : i = n := by simp only [decide_eq_false_iff_not] at hc; omega
  have hf0:Gs z s = true:=decide_eq_true fun a h1 b h2=>hh a zo b h2
  refine gG rfl (ts (ro rfl (cQ cV) (eJ (fK rfl (fJ (fQ rfl) ?_)))))
  exact (bN hf0.symm)
theorem Bb {z:List Qi} {s:List (List Qi)} {L G0 V0:Nat} (hz:cD z L) (hs:bP s L) (hL:1 ≤ L) (hLb:L ≤ 10000000000) (hsh:eR s z.length z.length) (h8:z.length ≤ 8) (hp:z.all gY = true) (hzz:jE (oB z s) z.length = true → Ur (oB z s) z.length G0 V0):aP Tryz.prog 16 [gR z s] (fR [aC (uK (oB z s) z.length),cE (Jc (oB z s) z.length)]):=by
 refine aP.intro Tryz.func16 rfl Tryz.ntmps16 rfl (fun cx=>(ts (rn rfl (fU (Ht rfl)) fun B1=>(ro rfl (cQ cV) (ro rfl (cQ cV) (eJ (ts (ro rfl (eG A_28 Z_28 (Ht rfl) (i:=0) rfl rfl rfl) (ro rfl (cZ Tryz.call99 (Kw hz hs hL zo hp hsh h8) ⟨(Ht rfl),trivial⟩) (ro rfl (cZ Tryz.call98 (Ii (L:=51 * L + 43) (n:=z.length) (mR z s) (pQ hz hs hL hp h8) zo zo hzz zo) ⟨(Ht rfl),trivial⟩) (rm rfl (ro rfl (dY (Ht rfl) rfl) (ro rfl (dY (Ht rfl) rfl) (ro rfl (dY (Ht rfl) rfl) ?_))))))))))))))
 refine ra rfl (ra rfl (eJ (ts (rm rfl (rm rfl (ra rfl (ra rfl (eJ ?_))))))))
 exact cB rfl (fQ rfl) (fQ rfl)
end
section
open Go Go.RowKit
theorem qU:Qi.ofInt 0 = Qi.zero:=by decide +kernel
abbrev tH (z:List Qi) (s:List (List Qi)) (i k m:Nat):Qi:=(gm s m i).conj * gm s m k / gv z m
theorem Dz {z:List Qi} {s:List (List Qi)} {i k m L:Nat} (hz:cD z L) (hs:bP s L) (hL:1 ≤ L) (hp:z.all gY = true) (hm:m < z.length):aD (tH z s i k m) (L + L + 1 + 3 * L + 2):=by
 haveI f2:aD (gm s m i) L:=hs.get hL m i
 haveI f3:aD (gm s m k) L:=hs.get hL m k
 haveI f4:aD (gm s m i).conj L:=fitConj
 haveI f5:aD ((gm s m i).conj * gm s m k) (L + L + 1):=fitMul
 exact kD f5 (hz.get hL m) (oW hp hm)
theorem a1d {z:List Qi} {s:List (List Qi)} {i n:Nat} (hi:i < n):((tab n fun k=>-(bM n fun m=>tH z s i k m)).set i (-(bM n fun m=>tH z s i i m) + Qi.ofInt 1 / gv z i)) = tab n fun k=>sJ z s i k n:=by
 apply List.ext_getElem?
 intro k
 by_cases hk:k < n
 ·rw [bO hk]
  by_cases e:k = i
  ·subst e
   rw [List.getElem?_set_self (by rw [aT]; exact hk)]
   congr 1
   rw [sJ,if_pos rfl]
   show -(bM n fun m=>tH z s k k m) + 1 / gv z k = 1 / gv z k - bM n fun m=>tH z s k k m
   grind
  ·rw [List.getElem?_set_ne (fun x => e x.symm), bO hk]
   congr 1
   rw [sJ,if_neg (fun x=>e x.symm)]
   show -(bM n fun m=>tH z s i k m) = 0 - bM n fun m=>tH z s i k m
   grind
 ·rw [List.getElem?_eq_none (by rw [List.length_set,aT]; omega),List.getElem?_eq_none (by rw [aT]; omega)]
theorem Ff {z:List Qi} {s:List (List Qi)} {L:Nat} (hz:cD z L) (hs:bP s L) (hL:1 ≤ L) (hLb:L ≤ 10000000000) (hp:z.all gY = true) (hsh:eR s z.length z.length) (h8:z.length ≤ 8):aP Tryz.prog 104 [mD z s] (QM (oB z s)):=by
 have hsl:=hsh.1
 haveI h0:=lZ
 refine aP.intro Tryz.func104 rfl Tryz.ntmps104 rfl (fun cx=>(ts (rn rfl (fU (Ht rfl)) fun B1=>(ro rfl (cQ cV) (eJ (ts (ro rfl (eW kB (Ht rfl) rfl) (ro rfl (fX A_29 Z_29 (Ht rfl) (i:=0) rfl rfl) (ro rfl (dU U_29 (Ht rfl) (by rw [List.length_map])) ?_)))))))))
 refine ro rfl (eW kB (Ht rfl) rfl) (ro rfl (fX A_29 Z_29 (Ht rfl) (i:=0) rfl rfl) (ro rfl (dU U_29 (Ht rfl) (by rw [List.length_map])) ?_))
 refine lY Tryz.call185 (Qb (n:=z.length) (m:=z.length) zo zo) ⟨(Ht rfl),(Ht rfl),trivial⟩ rfl (fun B18 _=>(ra rfl (eJ (cK (ts (ro rfl (cQ (cJ 0)) (eJ (eU ?_))))))))
 refine bF (fun (i : Nat) => i ≤ z.length) (fun (i : Nat) => z.length - i) (fun (i : Nat) => [(1, cC B1 0), (3, Is (.slice (some ⟨B18, 0, none⟩) z.length z.length)), (4, NT .i64 i)]) (fun (i : Nat) => [box B1 32 [uJ z, QM s], nM lR B18 29 130 5 (cL QT (lO (fun i => tab z.length fun k => sJ z s i k z.length) (tab z.length fun _ => Qi.zero) z.length i))]) 0 (Nat.zero_le _)
  (zS rfl) (aU (aB rfl) (aU (dM (by rw [a0a,jX])) aY)) (fun i hi=>?_)
 refine cK (ts (rm rfl (ro rfl (eW kB (Ht rfl) rfl) (ro rfl (fX A_29 Z_29 (Ht rfl) (i:=0) rfl rfl) (ro rfl (dU U_29 (Ht rfl) (by rw [List.length_map])) ?_)))))
 refine ro rfl (gJ (Ht rfl) (Ht rfl)) (eJ (dQ (Ht rfl) (fun hc=>?_) (fun hc=>?_)))
 ·have hin : i < z.length := by simp only [decide_eq_true_eq] at hc; omega
  refine yG 1 (i) rfl (tV hin) (fun v0 hv0=>(cU (cK (eU (cK (ts (ro rfl (cQ (cJ 0)) (eJ (eU ?_)))))))))
  refine bF (fun (k : Nat) => k ≤ z.length) (fun (k : Nat) => z.length - k) (fun (k : Nat) => [(1, cC B1 0), (3, Is (.slice (some ⟨B18, 0, none⟩) z.length z.length)), (4, NT .i64 i), (5, NT .i64 k)]) (fun (k : Nat) => [box B1 32 [uJ z, QM s], tB lR B18 29 130 5 (cL QT (lO (fun i => tab z.length fun k => sJ z s i k z.length) (tab z.length fun _ => Qi.zero) z.length i)) i v0, bI 130 5 v0 ((lO (fun k => -(bM z.length fun m => tH z s i k m)) Qi.zero z.length k).map QT)]) 0 (Nat.zero_le _)
   (zS rfl) (aU (aB rfl) (aU (fun _ _ _ h=>h) (aU (bL (by rw [← jX])) aY))) (fun k hk=>?_)
  refine cK (ts (rm rfl (ro rfl (eW kB (Ht rfl) rfl) (ro rfl (fX A_29 Z_29 (Ht rfl) (i:=0) rfl rfl) (ro rfl (dU U_29 (Ht rfl) (by rw [List.length_map])) ?_)))))
  refine ro rfl (gJ (Ht rfl) (Ht rfl)) (eJ (dQ (Ht rfl) (fun hd=>?_) (fun hd=>?_)))
  ·have hkn : k < z.length := by simp only [decide_eq_true_eq] at hd; omega
   have hrl:=fH (fun k=>-(bM z.length fun m=>tH z s i k m)) Qi.zero z.length k
   refine cU (cK (eU (ts (ro rfl (cZ Tryz.call175 (tM (n:=0) (by decide) (by decide)) ⟨(cJ 0),trivial⟩) (rn rfl (eK (Ts:=[Is (.bool false),Is (.slice none 0 0),Is (.bool false),Is (.slice none 0 0),Is (.slice none 0 0)]) O_130 rfl (fun V=>aW zd (aW zd (aW zd (aW zd (aW zd (aG))))))) fun B6=>(gZ Z_130 (Ht rfl) (Ht rfl) rfl (i:=3) rfl (aK rfl) rfl rfl (eJ (cK (ts (ro rfl (cQ (cJ 0)) ?_))))))))))
   refine eJ (eU ?_)
   refine bF (fun (m : Nat) => m ≤ z.length) (fun (m : Nat) => z.length - m) (fun (m : Nat) => [(1, cC B1 0), (3, Is (.slice (some ⟨B18, 0, none⟩) z.length z.length)), (4, NT .i64 i), (5, NT .i64 k), (6, cC B6 0), (7, NT .i64 m)]) (fun (m : Nat) => [box B1 32 [uJ z, QM s], tB lR B18 29 130 5 (cL QT (lO (fun i => tab z.length fun k => sJ z s i k z.length) (tab z.length fun _ => Qi.zero) z.length i)) i v0, bI 130 5 v0 ((lO (fun k => -(bM z.length fun m => tH z s i k m)) Qi.zero z.length k).map QT), box B6 130 [aC (decide ((bM m fun m => tH z s i k m).a < 0)), aE (bM m fun m => tH z s i k m).a.natAbs, aC (decide ((bM m fun m => tH z s i k m).b < 0)), aE (bM m fun m => tH z s i k m).b.natAbs, aE (bM m fun m => tH z s i k m).den]]) 0 (Nat.zero_le _)
    (zS rfl) (aU (aB rfl) (aU (fun _ _ _ h=>h) (aU (fun _ _ _ h=>h) (aU (aB (by rw [qU]; rfl)) aY)))) (fun m hm=>?_)
   refine cK (ts (rm rfl (ro rfl (eW kB (Ht rfl) rfl) (ro rfl (fX A_29 Z_29 (Ht rfl) (i:=0) rfl rfl) (ro rfl (dU U_29 (Ht rfl) (by rw [List.length_map])) ?_)))))
   refine ro rfl (gJ (Ht rfl) (Ht rfl)) (eJ (dQ (Ht rfl) (fun he=>?_) (fun he=>?_)))
   ·have hmn : m < z.length := by simp only [decide_eq_true_eq] at he; omega
    have hsr:=hsh.row hmn
    haveI f2:aD (gm s m i) L:=hs.get hL m i
    haveI f3:aD (gm s m k) L:=hs.get hL m k
    haveI f4:aD (gm s m i).conj L:=fitConj
    haveI f5:aD ((gm s m i).conj * gm s m k) (L + L + 1):=fitMul
    haveI f6:aD (gv z m) L:=hz.get hL m
    haveI f7:aD (tH z s i k m) (L + L + 1 + 3 * L + 2):=Dz hz hs hL hp hmn
    have hb1:m * (L + L + 1 + 3 * L + 2 + 1) ≤ 8 * (L + L + 1 + 3 * L + 2 + 1):=Nat.mul_le_mul_right _ zo
    haveI f8:aD (bM m fun m=>tH z s i k m) (1 + m * (L + L + 1 + 3 * L + 2 + 1)):=aD.sum fun a ha=>Dz hz hs hL hp zo
    refine cU (cK (eU (cK (Y.D_start (m:=29) [] (bY (Ei:=[(1,_)]) rfl rfl (bQ (bJ rfl rfl) bX) rfl rfl (dX rfl (eW rT (Ht rfl) rfl)) (bY (Ei:=[(42,_)]) rfl rfl (bQ (bZ 0 rfl rfl) bX) rfl rfl (dX rfl (fX A_30 Z_30 (Ht rfl) (i:=0) rfl rfl)) (bY (Ei:=[(7,_)]) rfl rfl (bQ (bJ rfl rfl) bX) rfl rfl (dX rfl (cX (Ht rfl))) (bY (Ei:=[(43,_),(44,_)]) rfl rfl (bQ (bZ 1 rfl rfl) (bQ (bZ 2 rfl rfl) bX)) rfl rfl (dX rfl (dZ U_30 Z_29 (Ht rfl) (Ht rfl) rfl (eX (eQ (d:=[]) zo)))) ?_))))))))
    refine bY (Ei:=[(45,_)]) rfl rfl (bQ (bZ 3 rfl rfl) bX) rfl rfl (dX rfl (dJ A_29 Z_29 (Ht rfl))) (bY (Ei:=[(4,_)]) rfl rfl (bQ (bJ rfl rfl) bX) rfl rfl (dX rfl (cX (Ht rfl))) (bY (Ei:=[(46,_),(47,_)]) rfl rfl (bQ (bZ 4 rfl rfl) (bQ (bZ 5 rfl rfl) bX)) rfl rfl (dX rfl (dZ U_29 Z_130 (Ht rfl) (Ht rfl) rfl (eX (eQ (d:=Qi.zero) zo)))) (bY (Ei:=[(48,_)]) rfl rfl (bQ (bZ 6 rfl rfl) bX) rfl rfl (dX rfl (dJ A_130 Z_130 (Ht rfl))) ?_)))
    refine bY (Ei:=[(49,_)]) rfl rfl (bQ (bZ 7 rfl rfl) bX) rfl rfl (dX rfl (cZ Tryz.call171 xB ⟨(Ht rfl),trivial⟩)) (bY (Ei:=[(1,_)]) rfl rfl (bQ (bJ rfl rfl) bX) rfl rfl (dX rfl (eW rT (Ht rfl) rfl)) (bY (Ei:=[(51,_)]) rfl rfl (bQ (bZ 9 rfl rfl) bX) rfl rfl (dX rfl (fX A_30 Z_30 (Ht rfl) (i:=0) rfl rfl)) (bY (Ei:=[(7,_)]) rfl rfl (bQ (bJ rfl rfl) bX) rfl rfl (dX rfl (cX (Ht rfl))) (bY (Ei:=[(52,_),(53,_)]) rfl rfl (bQ (bZ 10 rfl rfl) (bQ (bZ 11 rfl rfl) bX)) rfl rfl (dX rfl (dZ U_30 Z_29 (Ht rfl) (Ht rfl) rfl (eX (eQ (d:=[]) zo)))) ?_))))
    refine bY (Ei:=[(54,_)]) rfl rfl (bQ (bZ 12 rfl rfl) bX) rfl rfl (dX rfl (dJ A_29 Z_29 (Ht rfl))) (bY (Ei:=[(5,_)]) rfl rfl (bQ (bJ rfl rfl) bX) rfl rfl (dX rfl (cX (Ht rfl))) (bY (Ei:=[(55,_),(56,_)]) rfl rfl (bQ (bZ 13 rfl rfl) (bQ (bZ 14 rfl rfl) bX)) rfl rfl (dX rfl (dZ U_29 Z_130 (Ht rfl) (Ht rfl) rfl (eX (eQ (d:=Qi.zero) zo)))) (bY (Ei:=[(57,_)]) rfl rfl (bQ (bZ 15 rfl rfl) bX) rfl rfl (dX rfl (dJ A_130 Z_130 (Ht rfl))) ?_)))
    refine bY (Ei:=[(50,_),(58,_)]) rfl rfl (bQ (bZ 8 rfl rfl) (bQ (bZ 16 rfl rfl) bX)) rfl rfl (dX rfl (cZ K_102 (sX (x:=(gm s m i).conj) (y:=gm s m k) (L:=L) (M:=L) zo) ⟨(Ht rfl),(Ht rfl),trivial⟩)) (bY (Ei:=[(1,_)]) rfl rfl (bQ (bJ rfl rfl) bX) rfl rfl (dX rfl (eW kB (Ht rfl) rfl)) (bY (Ei:=[(60,_)]) rfl rfl (bQ (bZ 18 rfl rfl) bX) rfl rfl (dX rfl (fX A_29 Z_29 (Ht rfl) (i:=0) rfl rfl)) (bY (Ei:=[(7,_)]) rfl rfl (bQ (bJ rfl rfl) bX) rfl rfl (dX rfl (cX (Ht rfl))) ?_)))
    refine bY (Ei:=[(61,_),(62,_)]) rfl rfl (bQ (bZ 19 rfl rfl) (bQ (bZ 20 rfl rfl) bX)) rfl rfl (dX rfl (dZ U_29 Z_130 (Ht rfl) (Ht rfl) rfl (eX (eQ (d:=Qi.zero) zo)))) (bY (Ei:=[(63,_)]) rfl rfl (bQ (bZ 21 rfl rfl) bX) rfl rfl (dX rfl (dJ A_130 Z_130 (Ht rfl))) (bY (Ei:=[(59,_),(64,_)]) rfl rfl (bQ (bZ 17 rfl rfl) (bQ (bZ 22 rfl rfl) bX)) rfl rfl (dX rfl (cZ Tryz.call176 (Ct (x:=(gm s m i).conj * gm s m k) (y:=gv z m) (L:=L + L + 1) (M:=L) zo) ⟨(Ht rfl),(Ht rfl),trivial⟩)) ?_))
    refine bY (Ei:=[(65,_)]) rfl rfl (bQ (bZ 23 rfl rfl) bX) rfl rfl (dX rfl (cX (Ht rfl))) (bY (Ei:=[(41,_)]) rfl rfl (bQ (bZ 24 rfl rfl) bX) rfl rfl (dX rfl (dY (Ht rfl) rfl)) (bY (Ei:=[(41,_)]) rfl rfl (bQ (bZ 24 rfl rfl) bX) rfl rfl (dX rfl (dY (Ht rfl) rfl)) (Y.D_newp (Ei:=[]) (fun bb=>box bb 130 [aC (decide ((tH z s i k m).a < 0)),aE (tH z s i k m).a.natAbs,aC (decide ((tH z s i k m).b < 0)),aE (tH z s i k m).b.natAbs,aE (tH z s i k m).den]) 28 rfl rfl rfl bX rfl rfl (by kernel_rfl) (eK (Ts:=[Is (.bool false),Is (.slice none 0 0),Is (.bool false),Is (.slice none 0 0),Is (.slice none 0 0)]) O_130 rfl (fun V=>aW zd (aW zd (aW zd (aW zd (aW zd (aG))))))) ?_)))
    refine Y.D_putN (Ei:=[(66,_)]) 27 rfl rfl rfl rfl rfl rfl (bQ (bZ 25 rfl rfl) bX) (fun bb=>mY Z_130 (Ht rfl) (Ht rfl) rfl (i:=0) rfl (aK rfl) rfl rfl) (Y.D_done aO rfl (by kernel_rfl) rfl (by simp [Y.okP]) rfl rfl (bU (bU (bU (bU (bU (bU (bU (bU (bU (bU (bU (bU (bU (bU (bU (bU (bU (bU (bU (bU (bU (bU (bU (bU (bU (bU (bU (Y.F_newp (fun B8=>Y.F_putN (Y.F_nil ?_)))))))))))))))))))))))))))))))
    refine ra rfl (eJ (cY (ro rfl (eG A_130 Z_130 (Ht rfl) (i:=3) rfl rfl rfl) (ro rfl (eG A_130 Z_130 (Ht rfl) (i:=4) rfl rfl rfl) (ro rfl (cZ Tryz.call188 (Iv (x:=(bM m fun m=>tH z s i k m)) (y:=tH z s i k m) (L:=1 + m * (L + L + 1 + 3 * L + 2 + 1)) (M:=L + L + 1 + 3 * L + 2) zo) ⟨(Ht rfl),(Ht rfl),trivial⟩) (gZ Z_130 (Ht rfl) (Ht rfl) rfl (i:=3) rfl (aK rfl) rfl rfl (eJ (bC (cY (rm rfl (ro rfl (dW (Ht rfl) (cJ 1) z6) ?_)))))))))))
    refine ra rfl (eJ (eB [0,1,2,3] rfl (by decide) (gQ (m + 1) hmn zo (zS rfl) (aU (aB rfl) (aU (fun _ _ _ h=>h) (aU (fun _ _ _ h=>h) (aU (aB rfl) aY)))))))
   ·have hmn : m = z.length := by simp only [decide_eq_false_iff_not] at he; omega
    rw [hmn]
    refine gG rfl (fV (m:=7) (dp 3 rfl (cX (Ht rfl)) (dp 4 rfl (cX (Ht rfl)) (bR 71 0 72 1 rfl (gX U_30 Z_29 (Ht rfl) (Ht rfl) rfl zo (by rw [Nat.mul_one,Nat.zero_add])) ?_))))
    refine dq 73 2 rfl (kX A_29 Z_29 (Ht rfl) (j:=1) rfl) (dp 5 rfl (cX (Ht rfl)) (dp 6 rfl (eG A_130 Z_130 (Ht rfl) (i:=3) rfl rfl rfl) (dq 76 5 rfl (cZ Tryz.call189 (Qg (x:=bM z.length fun m=>tH z s i k m)) ⟨(Ht rfl),trivial⟩) (fG aO rfl (by kernel_rfl) (zF (aJ (aJ (aJ (aV (ro rfl (cP U_29 Z_130 (Ht rfl) (Ht rfl) rfl (i:=2) rfl (by rw [List.length_map,hrl]; omega) rfl) ?_))))))))))
    refine lE Z_130 (Ht rfl) (Ht rfl) (El.ag rfl) (i:=2) rfl rfl (by rw [List.length_map,hrl]; omega) rfl ?_
    refine eJ (bC (cY (rm rfl (ro rfl (dW (Ht rfl) (cJ 1) z6) (ra rfl (eJ (eB [0,1,2] rfl (by decide) (gQ (k + 1) hkn zo (zS rfl) (aU (aB rfl) (aU (fun _ _ _ h=>h) (aU (bL (by rw [iU]; exact congrArg _ (lI (f:=(fun k=>-(bM z.length fun m=>tH z s i k m)))))) aY)))))))))))
  ·have hkn : k = z.length := by simp only [decide_eq_false_iff_not] at hd; omega
   rw [hkn,lH]
   haveI f6:aD (gv z i) L:=hz.get hL i
   have hb1:z.length * (L + L + 1 + 3 * L + 2 + 1) ≤ 8 * (L + L + 1 + 3 * L + 2 + 1):=Nat.mul_le_mul_right _ h8
   haveI f8:aD (bM z.length fun m=>tH z s i i m) (1 + z.length * (L + L + 1 + 3 * L + 2 + 1)):=aD.sum fun a ha=>Dz hz hs hL hp ha
   haveI f9:aD (-(bM z.length fun m=>tH z s i i m)) (1 + z.length * (L + L + 1 + 3 * L + 2 + 1)):=fitNeg
   haveI f10:aD (Qi.ofInt 1 / gv z i) (1 + 3 * L + 2):=kD h0 f6 (oW hp hin)
   have htl:=aT z.length (fun k=>-(bM z.length fun m=>tH z s i k m))
   refine gG rfl (cK (Y.D_start (m:=12) [] (bY (Ei:=[]) rfl rfl bX rfl rfl (dX rfl (cZ Tryz.call175 (tM (n:=1) (by decide) (by decide)) ⟨(cJ 1),trivial⟩)) (bY (Ei:=[(1,_)]) rfl rfl (bQ (bJ rfl rfl) bX) rfl rfl (dX rfl (eW kB (Ht rfl) rfl)) (bY (Ei:=[(81,_)]) rfl rfl (bQ (bZ 1 rfl rfl) bX) rfl rfl (dX rfl (fX A_29 Z_29 (Ht rfl) (i:=0) rfl rfl)) (bY (Ei:=[(4,_)]) rfl rfl (bQ (bJ rfl rfl) bX) rfl rfl (dX rfl (cX (Ht rfl))) ?_))))))
   refine bY (Ei:=[(82,_),(83,_)]) rfl rfl (bQ (bZ 2 rfl rfl) (bQ (bZ 3 rfl rfl) bX)) rfl rfl (dX rfl (dZ U_29 Z_130 (Ht rfl) (Ht rfl) rfl (eX (eQ (d:=Qi.zero) zo)))) (bY (Ei:=[(84,_)]) rfl rfl (bQ (bZ 4 rfl rfl) bX) rfl rfl (dX rfl (dJ A_130 Z_130 (Ht rfl))) (bY (Ei:=[(80,_),(85,_)]) rfl rfl (bQ (bZ 0 rfl rfl) (bQ (bZ 5 rfl rfl) bX)) rfl rfl (dX rfl (cZ Tryz.call176 (Ct (x:=Qi.ofInt 1) (y:=gv z i) (L:=1) (M:=L) zo) ⟨(Ht rfl),(Ht rfl),trivial⟩)) ?_))
   refine bY (Ei:=[(86,_)]) rfl rfl (bQ (bZ 6 rfl rfl) bX) rfl rfl (dX rfl (cX (Ht rfl))) (bY (Ei:=[(79,_)]) rfl rfl (bQ (bZ 7 rfl rfl) bX) rfl rfl (dX rfl (dY (Ht rfl) rfl)) (bY (Ei:=[(79,_)]) rfl rfl (bQ (bZ 7 rfl rfl) bX) rfl rfl (dX rfl (dY (Ht rfl) rfl)) (Y.D_newp (Ei:=[]) (fun bb=>box bb 130 [aC (decide ((Qi.ofInt 1 / gv z i).a < 0)),aE (Qi.ofInt 1 / gv z i).a.natAbs,aC (decide ((Qi.ofInt 1 / gv z i).b < 0)),aE (Qi.ofInt 1 / gv z i).b.natAbs,aE (Qi.ofInt 1 / gv z i).den]) 11 rfl rfl rfl bX rfl rfl (by kernel_rfl) (eK (Ts:=[Is (.bool false),Is (.slice none 0 0),Is (.bool false),Is (.slice none 0 0),Is (.slice none 0 0)]) O_130 rfl (fun V=>aW zd (aW zd (aW zd (aW zd (aW zd (aG))))))) ?_)))
   refine Y.D_putN (Ei:=[(87,_)]) 10 rfl rfl rfl rfl rfl rfl (bQ (bZ 8 rfl rfl) bX) (fun bb=>mY Z_130 (Ht rfl) (Ht rfl) rfl (i:=0) rfl (aK rfl) rfl rfl) (Y.D_done aO rfl (by kernel_rfl) rfl (by simp [Y.okP]) rfl rfl (bU (bU (bU (bU (bU (bU (bU (bU (bU (bU (Y.F_newp (fun B10=>Y.F_putN (Y.F_nil ?_))))))))))))))
   refine ra rfl (eJ (fV (m:=14) (dp 3 rfl (cX (Ht rfl)) (dp 4 rfl (cX (Ht rfl)) (bR 89 0 90 1 rfl (gX U_30 Z_29 (Ht rfl) (Ht rfl) rfl zo (by rw [Nat.mul_one,Nat.zero_add])) ?_)))))
   refine dq 91 2 rfl (kX A_29 Z_29 (Ht rfl) (j:=1) rfl) (dp 4 rfl (cX (Ht rfl)) (dp 3 rfl (cX (Ht rfl)) (dp 4 rfl (cX (Ht rfl)) (bR 94 5 95 6 rfl (gX U_30 Z_29 (Ht rfl) (Ht rfl) rfl zo (by rw [Nat.mul_one,Nat.zero_add])) ?_))))
   refine dq 96 7 rfl (kX A_29 Z_29 (Ht rfl) (j:=1) rfl) (dp 4 rfl (cX (Ht rfl)) (bR 97 8 98 9 rfl (cP U_29 Z_130 (Ht rfl) (Ht rfl) rfl (i:=2) rfl (by rw [List.length_map,htl]; omega) rfl) ?_))
   refine dq 99 10 rfl (lS A_130 Z_130 (Ht rfl) (i:=2) rfl rfl (eX (bO hin))) (dp 10 rfl (eG A_130 Z_130 (Ht rfl) (i:=3) rfl rfl rfl) (bR 100 11 101 12 rfl (cZ Tryz.call188 (Iv (x:=-(bM z.length fun m=>tH z s i i m)) (y:=Qi.ofInt 1 / gv z i) (L:=1 + z.length * (L + L + 1 + 3 * L + 2 + 1)) (M:=1 + 3 * L + 2) zo) ⟨(Ht rfl),(Ht rfl),trivial⟩) (fG aO rfl (by kernel_rfl) (zF (zF (zF (aJ (aJ (aV ?_)))))))))
   refine ro rfl (cP U_29 Z_130 (Ht rfl) (Ht rfl) rfl (i:=2) rfl (by rw [List.length_map,htl]; omega) rfl) ?_
   refine lE Z_130 (Ht rfl) (Ht rfl) (El.ag rfl) (i:=2) rfl rfl (by rw [List.length_map,htl]; omega) rfl ?_
   refine eJ (bC (jH 1 2 rfl rfl (by decide) (by simp only [cL,List.length_map,fH]; omega) ?_))
   refine cY (rm rfl (ro rfl (dW (Ht rfl) (cJ 1) z6) (ra rfl (eJ (eB [0,1] rfl (by decide) (gQ (i + 1) hin zo (zS rfl) (aU (aB rfl) (aU (dM (by rw [iU,jY,a1d hin]; exact congrArg _ (lI (f:=(fun i=>tab z.length fun k=>sJ z s i k z.length))))) aY))))))))
 ·have hin : i = z.length := by simp only [decide_eq_false_iff_not] at hc; omega
  rw [hin,lH,show (tab z.length (fun i=>tab z.length fun k=>sJ z s i k z.length)) = oB z s from rfl]
  refine gG rfl (cK (gW (i:=1) (tt:=3) rfl rfl (qL (s:=5) (M:=oB z s) (aT _ _).symm) (cY (rm rfl (ra rfl (eJ ?_))))))
  exact fK rfl (fQ rfl)
theorem sY {z:List Qi} {s:List (List Qi)} {L G0 V0:Nat} (hz:cD z L) (hs:bP s L) (hL:1 ≤ L) (hLb:L ≤ 10000000000) (hp:z.all gY = true) (hsh:eR s z.length z.length) (h8:z.length ≤ 8) (hzz:jE (oB z s) z.length = true → Ur (oB z s) z.length G0 V0):aP Tryz.prog 21 [mD z s] (aC (uK (oB z s) z.length)):=by
 refine aP.intro Tryz.func21 rfl Tryz.ntmps21 rfl (fun cx=>(ts (rn rfl (fU (Ht rfl)) fun B1=>(ro rfl (cQ cV) (eJ (ts (ro rfl (eG A_32 Z_32 (Ht rfl) (i:=0) rfl rfl rfl) (ro rfl (cZ Tryz.call104 (Ff hz hs hL hLb hp hsh h8) ⟨(Ht rfl),trivial⟩) (ro rfl (cZ Tryz.call106 (Fb (L:=51 * L + 43) (n:=z.length) (mR z s) (pQ hz hs hL hp h8) zo zo hzz zo) ⟨(Ht rfl),trivial⟩) (rm rfl (ro rfl (dY (Ht rfl) rfl) (ro rfl (dY (Ht rfl) rfl) (ra rfl (ra rfl (eJ (ts (rm rfl ?_)))))))))))))))))
 refine ra rfl (eJ ?_)
 exact fK rfl (fQ rfl)
end
section
open Go Go.RowKit
theorem Je {t y z:Qi} (h:t * y = z) (hy:¬ y = Qi.zero):z / y = t:=by
 have e:=qJ (x:=z) (y:=y) hy
 have e2:(z / y - t) * y = 0:=by grind
 rcases nW e2 with k | k
 ·grind
 ·exact absurd k hy
section
variable (c x:List (List Qi)) (n:Nat)
end
section
variable {c x:List (List Qi)} {n:Nat}
end
section
variable (c x:List (List Qi)) (n:Nat)
def Ui:Bool:=decide (∀ i,i < n → ∀ k,k < n → gm c i k = Qi.zero)
end
section
variable {c x:List (List Qi)} {n:Nat}
end
section
variable {h:List (List Qi)} {n G V:Nat}
theorem Le : ∀ f i, (uL h n f i).1 = true → (uL h n f i).2 = []
 | 0,_,_=>rfl
 | f + 1, i, k => by
  rw [uL] at k ⊢
  by_cases c1:Ax (gm (gK h n i).1 i i) = true
  ·rw [if_pos c1] at k; cases k
  ·rw [if_neg c1] at k ⊢
   by_cases c2:vT (gK h n i).1 (gK h n i).2 n i ≠ []
   ·rw [if_pos c2] at k; cases k
   ·rw [if_neg c2] at k ⊢; exact Le f (i + 1) k
theorem Wq (k:uK h n = true ∨ ¬ jE h n = true):Jc h n = []:=by
 unfold Jc
 by_cases c:jE h n = true
 ·rw [if_pos c]
  have:=k.resolve_right (fun e=>e c)
  rw [uK,if_pos c] at this
  exact Le n 0 this
 ·rw [if_neg c]
theorem Wg {A U:List (List Qi)} {i:Nat} (hA:bP A G) (hU:bP U V) (h1:1 ≤ G) (h2:1 ≤ V):cD (vT A U n i) (2 * V + 20 * G + 40):=by
 unfold vT
 split
 ·split
  ·intro x hx
   obtain ⟨a,ha,rfl⟩:=eE.1 hx
   generalize Nf A n i = k
   have g1:=hA.get h1 i k
   have g2:=hA.get h1 k k
   haveI f1:=g1
   haveI f2:=g2
   haveI f3 : aD (Hw (gm A k k)) G := by
    unfold Hw; split
    ·exact fitNeg
    ·exact g2
   haveI f0:=lZ
   have fs : aD (rO A i k) (14 * G + 30) := by
    by_cases e:gm A i k = 0
    ·have z : (gm A i k).norm + (gm A i k).norm = 0 := by rw [e]; decide +kernel
     have z2 : rO A i k = 0 := by
      unfold rO; rw [z]; rw [Qi.div_def]; show _ * Qi.inv 0 = 0; rw [show Qi.inv 0 = 0 by decide +kernel]; grind
     rw [z2]; exact aD.zero zo
    ·haveI g4 : aD (gm A i k).norm (G + G + 1) := fitNorm
     haveI g5:aD ((gm A i k).norm + (gm A i k).norm) (G + G + 1 + (G + G + 1) + 1):=fitAdd (L:=G + G + 1) (M:=G + G + 1)
     haveI g6:aD (Hw (gm A k k) + Qi.ofInt 1) (G + 1 + 1):=fitAdd (L:=G) (M:=1)
     exact (kD g6 g5 (zM e)).le zo
   haveI f4:=fs
   haveI f5:aD (-(rO A i k)) (14 * G + 30):=fitNeg
   haveI f6:aD (-(rO A i k) * gm A i k) (14 * G + 30 + G + 1):=fitMul
   haveI f7:aD (gv (U.getD i []) a) V:=(hU.row i).get h2 a
   haveI f8:aD (gv (U.getD k []) a) V:=(hU.row k).get h2 a
   haveI f9:aD (-(rO A i k) * gm A i k * gv (U.getD i []) a) (14 * G + 30 + G + 1 + V + 1):=fitMul
   exact (fitAdd (x:=gv (U.getD k []) a) (y:=-(rO A i k) * gm A i k * gv (U.getD i []) a) (L:=V) (M:=14 * G + 30 + G + 1 + V + 1)).le zo
  ·exact cD.nil
 ·exact cD.nil
theorem Lc (hz : Ur h n G V) : ∀ f i, i + f = n → cD (uL h n f i).2 (2 * V + 20 * G + 40)
 | 0,_,_=>cD.nil
 | f + 1, i, hf => by
  rw [uL]
  split
  ·exact fun x hx=>((hz.v i zo).row i x hx).le zo
  ·split
   ·exact Wg (hz.g i zo) (hz.v i zo) hz.g1 hz.v1
   ·exact Lc hz f (i + 1) zo
theorem Wp (hz:Ur h n G V):cD (Jc h n) (2 * V + 20 * G + 40):=by
 unfold Jc; split
 ·exact Lc hz n 0 zo
 ·exact cD.nil
theorem Wr (hs:eR h n n) (c:jE h n = true) (k:¬ uK h n = true):Ax (sq n (gv (Jc h n)) (gv (Jc h n)) (gm h)) = true ∧ (Jc h n).length = n:=by
 have k2 : (uL h n n 0).1 = false := by
  rw [uK,if_pos c] at k; simpa using k
 have:=Lf hs c n 0 zo k2
 rw [Jc,if_pos c]; exact this
end
end
section
open Go Go.RowKit
def vZ (k:Nat):Qi:=Qi.frac (k:Int) 0 1024
def wX (s:List (List Qi)) (n k:Nat):List (List Qi):=tab n fun i=>tab n fun j=>vZ k * gm s i j
theorem xQ (s:List (List Qi)) (n k:Nat):eR (wX s n k) n n:=eR.tab
theorem Ea {k:Nat} (h:k ≤ 9223372036854775807):aD (vZ k) 2:=⟨Qi.Fit.frac zo zo (by decide) (by decide) (by decide) (by decide) (by decide)⟩
theorem xP {s : List (List Qi)} {n k L : Nat} (hs : bP s L) (hL : 1 ≤ L) (h : k ≤ 9223372036854775807) : bP (wX s n k) (L + 3) := bP.tab fun i j _ _ => by
 haveI:=Ea h; haveI:=hs.get hL i j
 exact (fitMul (x:=vZ k) (y:=gm s i j) (L:=2) (M:=L)).le zo
def Hc (p : Nat → Bool) : Nat → Nat → Nat → Nat
 | 0,lo,_=>lo
 | f + 1,lo,hi=>if lo < hi then (if p ((lo + hi + 1) / 2) = true then Hc p f ((lo + hi + 1) / 2) hi else Hc p f lo ((lo + hi + 1) / 2 - 1)) else lo
theorem Ml {p : Nat → Bool} : ∀ {f lo hi : Nat}, ¬ lo < hi → Hc p f lo hi = lo
 | 0,_,_,_=>rfl
 | f + 1,lo,hi,h=>by rw [Hc,if_neg h]
theorem Tk {p:Nat → Bool} {f lo hi:Nat} (hf:hi - lo ≤ f) (h:lo < hi) (k:p ((lo + hi + 1) / 2) = true):∃ g,hi - (lo + hi + 1) / 2 ≤ g ∧ Hc p f lo hi = Hc p g ((lo + hi + 1) / 2) hi:=by
 match f,hf with
 | 0,hf=>omega
 | f + 1,hf=>exact ⟨f,by omega,by rw [Hc,if_pos h,if_pos k]⟩
theorem Tj {p:Nat → Bool} {f lo hi:Nat} (hf:hi - lo ≤ f) (h:lo < hi) (k:¬ p ((lo + hi + 1) / 2) = true):∃ g,(lo + hi + 1) / 2 - 1 - lo ≤ g ∧ Hc p f lo hi = Hc p g lo ((lo + hi + 1) / 2 - 1):=by
 match f,hf with
 | 0,hf=>omega
 | f + 1,hf=>exact ⟨f,by omega,by rw [Hc,if_pos h,if_neg k]⟩
theorem zW {p : Nat → Bool} {N : Nat} : ∀ {f lo hi : Nat}, hi - lo ≤ f → lo ≤ hi → hi ≤ N → (hi = N ∨ p (hi + 1) = false) → Hc p f lo hi ≤ N ∧ (Hc p f lo hi = N ∨ p (Hc p f lo hi + 1) = false)
 | 0, lo, hi, h0, h1, h2, h3 => by
  have:lo = hi:=by omega
  subst this
  exact ⟨h2,h3⟩
 | f + 1, lo, hi, h0, h1, h2, h3 => by
  rw [Hc]
  by_cases c:lo < hi
  ·rw [if_pos c]
   by_cases k:p ((lo + hi + 1) / 2) = true
   ·rw [if_pos k]; exact zW zo zo h2 h3
   ·rw [if_neg k]
    refine zW zo zo zo (.inr ?_)
    rw [show (lo + hi + 1) / 2 - 1 + 1 = (lo + hi + 1) / 2 by omega]
    simpa using k
  ·rw [if_neg c]
   have:lo = hi:=by omega
   subst this
   exact ⟨h2,h3⟩
def Oo (z:List Qi) (s:List (List Qi)):Nat:=Hc (fun k=>uK (oB z (wX s z.length k)) z.length) 1024 0 1024
theorem Hb (z:List Qi) (s:List (List Qi)):Oo z s ≤ 1024 ∧ (Oo z s = 1024 ∨ uK (oB z (wX s z.length (Oo z s + 1))) z.length = false):=zW (N:=1024) (by decide) (by decide) (by decide) (.inl rfl)
theorem Rx {z:List Qi} {s:List (List Qi)}:zE z s = Ui (oB z s) z.length:=by
 rw [Bool.eq_iff_iff]
 unfold Ui
 simp only [decide_eq_true_eq]
 constructor
 ·intro h i hi k hk
  rw [oB,jK hi hk]; exact Xi h hi hk
 ·intro h
  rw [zE,List.all_eq_true]
  intro r hr
  obtain ⟨i,hi,rfl⟩:=eE.1 hr
  rw [Bool.not_eq_true',List.any_eq_false]
  intro x hx
  obtain ⟨k,hk,rfl⟩:=eE.1 hx
  have:=h i hi k hk
  rw [oB,jK hi hk] at this
  rw [this]
  simp; rfl
end
section
open Go Go.RowKit
theorem Fd {z:List Qi} {s:List (List Qi)} {L:Nat} (hz:cD z L) (hs:bP s L) (hL:1 ≤ L) (hLb:L ≤ 1000) (hp:z.all gY = true) (hsh:eR s z.length z.length) (h8:z.length ≤ 8):aP Tryz.prog 20 [mD z s] (aC (zE z s)):=by
 have hP:=Ff hz hs hL zo hp hsh h8
 have hMs:=mR z s
 rw [Rx]
 generalize oB z s = M at *
 obtain ⟨n,hn⟩:∃ n,n = z.length:=⟨_,rfl⟩
 rw [← hn] at hMs ⊢
 have hMl:=hMs.1
 refine aP.intro Tryz.func20 rfl Tryz.ntmps20 rfl (fun cx=>(ts (rn rfl (fU (Ht rfl)) fun B1=>(ro rfl (cQ cV) (eJ (ts (ro rfl (eG A_32 Z_32 (Ht rfl) (i:=0) rfl rfl rfl) (ro rfl (cZ Tryz.call104 hP ⟨(Ht rfl),trivial⟩) (ra rfl (eJ (cK (ts (ro rfl (cQ (cJ 0)) (eJ (eU ?_)))))))))))))))
 refine bF (fun (i : Nat) => i ≤ n ∧ ∀ a, a < i → ∀ b, b < n → gm M a b = Qi.zero) (fun (i : Nat) => n - i) (fun (i : Nat) => [(1, cC B1 0), (3, QM M), (4, NT .i64 i)]) (fun (i : Nat) => [box B1 32 [uJ z, QM s]]) 0 ⟨Nat.zero_le _, fun a h => by omega⟩
  (zS rfl) (aU (aB rfl) aY) (fun i ⟨hi,hh⟩=>?_)
 refine cK (ts (rm rfl (rm rfl (ro rfl (dU U_30 (Ht rfl) (by rw [List.length_map,hMl])) ?_))))
 refine ro rfl (gJ (Ht rfl) (Ht rfl)) (eJ (dQ (Ht rfl) (fun hc=>?_) (fun hc=>?_)))
 ·have hin : i < n := by simp only [decide_eq_true_eq] at hc; omega
  have hri:=hMs.row hin
  refine cU (cK (eU (ts (ro rfl (cQ (cJ 0)) (eJ (eU ?_))))))
  refine bF (fun (k : Nat) => k ≤ n ∧ ∀ b, b < k → gm M i b = Qi.zero) (fun (k : Nat) => n - k) (fun (k : Nat) => [(1, cC B1 0), (3, QM M), (4, NT .i64 i), (5, NT .i64 k)]) (fun (k : Nat) => [box B1 32 [uJ z, QM s]]) 0 ⟨Nat.zero_le _, fun b h => by omega⟩
   (zS rfl) (aU (aB rfl) aY) (fun k ⟨hk,hk0⟩=>?_)
  refine cK (ts (rm rfl (rm rfl (ro rfl (dU U_30 (Ht rfl) (by rw [List.length_map,hMl])) ?_))))
  refine ro rfl (gJ (Ht rfl) (Ht rfl)) (eJ (dQ (Ht rfl) (fun hd=>?_) (fun hd=>?_)))
  ·have hkn : k < n := by simp only [decide_eq_true_eq] at hd; omega
   refine cU (cK (eU (ts (rm rfl (rm rfl (ro rfl (dZ U_30 Z_29 (Ht rfl) (Ht rfl) rfl (eX (eQ (d:=[]) zo))) (ro rfl (dJ A_29 Z_29 (Ht rfl)) (rm rfl (ro rfl (dZ U_29 Z_130 (Ht rfl) (Ht rfl) rfl (eX (eQ (d:=Qi.zero) zo))) (ro rfl (dJ A_130 Z_130 (Ht rfl)) (ro rfl (cZ Tryz.call105 (Cv (x:=gm M i k)) ⟨(Ht rfl),trivial⟩) (ro rfl (dT (Ht rfl)) (eJ (dQ (Ht rfl) (fun he=>?_) (fun he=>?_)))))))))))))))
   ·have hne : ¬ gm M i k = Qi.zero := by simpa using he
    have hf0 : Ui M n = false := by
     have : ¬ Ui M n = true := fun e => by
      have e2:∀ i,i < n → ∀ k,k < n → gm M i k = Qi.zero:=of_decide_eq_true e
      exact hne (e2 i hin k hkn)
     simpa using this
    refine ts (ro rfl (cQ cV) (eJ (fK rfl (fJ (fQ rfl) ?_))))
    exact (bN hf0.symm)
   ·have heq : gm M i k = Qi.zero := by simpa using he
    refine cU (bC (cY (rm rfl (ro rfl (dW (Ht rfl) (cJ 1) z6) (ra rfl (eJ ?_))))))
    refine gQ (k + 1) ⟨hkn, fun b h1 => by
      by_cases e:b = k
      ·rw [e]; exact heq
      ·exact hk0 b zo⟩ zo (zS rfl) (aU (aB rfl) aY)
  ·have hkn : k = n := by simp only [decide_eq_false_iff_not] at hd; omega
   refine gG rfl (bC (cY (rm rfl (ro rfl (dW (Ht rfl) (cJ 1) z6) (ra rfl (eJ ?_))))))
   refine gQ (i + 1) ⟨hin, fun a h1 b h2 => by
     by_cases e:a = i
     ·rw [e]; exact hk0 b zo
     ·exact hh a zo b h2⟩ zo (zS rfl) (aU (aB rfl) aY)
 ·have hin : i = n := by simp only [decide_eq_false_iff_not] at hc; omega
  have hf0:Ui M n = true:=decide_eq_true fun a h1 b h2=>hh a zo b h2
  refine gG rfl (ts (ro rfl (cQ cV) (eJ (fK rfl (fJ (fQ rfl) ?_)))))
  exact (bN hf0.symm)
theorem uT {z:List Qi} {s:List (List Qi)} {k L:Nat} (hs:bP s L) (hL:1 ≤ L) (hLb:L ≤ 1000) (hk:k ≤ 1000000) (hsh:eR s z.length z.length) (h1:1 ≤ z.length) (h8:z.length ≤ 8):aP Tryz.prog 26 [mD z s,NT .i64 k] (mD z (wX s z.length k)):=by
 have hsl:=hsh.1
 haveI hf0:=Ea (k:=k) zo
 obtain ⟨n,hn⟩:∃ n,n = z.length:=⟨_,rfl⟩
 rw [← hn] at hsh hsl ⊢
 refine aP.intro Tryz.func26 rfl Tryz.ntmps26 rfl (fun cx=>(ts (rn rfl (fU (Ht rfl)) fun B2=>(rn rfl (eK (Ts:=[Is (.slice none 0 0),Is (.slice none 0 0)]) O_32 rfl (fun V=>aW zd (aW zd (aG)))) fun B4=>(eJ (ts (rm rfl (ro rfl (cZ Tryz.call112 (Qh (p:=(k:Int)) (q:=0) (d:=1024) zo zo (by decide) (by decide) (by decide) (by decide) (by decide)) ⟨(Ht rfl),(cJ 0),(cJ 1024),trivial⟩) (rm rfl (ro rfl (dY (Ht rfl) rfl) (ro rfl (dY (Ht rfl) rfl) ?_)))))))))))
 refine rn rfl (eK (Ts:=[Is (.bool false),Is (.slice none 0 0),Is (.bool false),Is (.slice none 0 0),Is (.slice none 0 0)]) O_130 rfl (fun V=>aW zd (aW zd (aW zd (aW zd (aW zd (aG))))))) fun B5=>gZ Z_130 (Ht rfl) (Ht rfl) rfl (i:=2) rfl (aK rfl) rfl rfl (ra rfl (eJ (ts (ro rfl (eW rT (Ht rfl) rfl) (ro rfl (fX A_30 Z_30 (Ht rfl) (i:=0) rfl rfl) (lY Tryz.call113 (Fa hsh zo zo zo) ⟨(Ht rfl),trivial⟩ rfl (fun B17 _=>?_)))))))
 refine ra rfl (eJ (cK (ts (ro rfl (cQ (cJ 0)) (eJ (eU ?_))))))
 refine bF (fun (i : Nat) => i ≤ n) (fun (i : Nat) => n - i) (fun (i : Nat) => [(2, cC B2 0), (4, cC B4 0), (5, cC B5 0), (7, Is (.slice (some ⟨B17, 0, none⟩) n n)), (8, NT .i64 i)]) (fun (i : Nat) => [box B2 32 [uJ z, QM s], box B4 32 [Is (.slice none 0 0), Is (.slice none 0 0)], box B5 130 [aC (decide ((vZ k).a < 0)), aE (vZ k).a.natAbs, aC (decide ((vZ k).b < 0)), aE (vZ k).b.natAbs, aE (vZ k).den], pL B17 29 130 5 (cL QT (qQ (fun i => tab n fun j => vZ k * gm s i j) (fun i => tab n fun j => gm s i j) n i))]) 0 (Nat.zero_le _)
  (zS rfl) (aU (aB rfl) (aU (aB rfl) (aU (aB rfl) (aU (dM (by rw [← rX]; exact congrArg _ (pM hsh))) aY)))) (fun i hi=>?_)
 refine cK (ts (rm rfl (rm rfl (ro rfl (fT U_30 (Ht rfl)) (ro rfl (gJ (Ht rfl) (Ht rfl)) (eJ (dQ (Ht rfl) (fun hc=>?_) (fun hc=>?_))))))))
 ·have hin : i < n := by simp only [decide_eq_true_eq] at hc; omega
  refine oV 3 (i) rfl (Bq hin) (fun v=>(cU (cK (eU (ts (ro rfl (cQ (cJ 0)) (eJ (eU ?_))))))))
  refine bF (fun (j : Nat) => j ≤ n) (fun (j : Nat) => n - j) (fun (j : Nat) => [(2, cC B2 0), (4, cC B4 0), (5, cC B5 0), (7, Is (.slice (some ⟨B17, 0, none⟩) n n)), (8, NT .i64 i), (9, NT .i64 j)]) (fun (j : Nat) => [box B2 32 [uJ z, QM s], box B4 32 [Is (.slice none 0 0), Is (.slice none 0 0)], box B5 130 [aC (decide ((vZ k).a < 0)), aE (vZ k).a.natAbs, aC (decide ((vZ k).b < 0)), aE (vZ k).b.natAbs, aE (vZ k).den], Sb B17 29 130 5 (cL QT (qQ (fun i => tab n fun j => vZ k * gm s i j) (fun i => tab n fun j => gm s i j) n i)) i v, bI 130 5 v ((qQ (fun j => vZ k * gm s i j) (fun j => gm s i j) n j).map QT)]) 0 (Nat.zero_le _)
   (zS rfl) (aU (aB rfl) (aU (aB rfl) (aU (aB rfl) (aU (fun _ _ _ h=>h) (aU (bL (by rw [← rX])) aY))))) (fun j hj=>?_)
  refine cK (ts (rm rfl (rm rfl (ro rfl (fT U_30 (Ht rfl)) (ro rfl (gJ (Ht rfl) (Ht rfl)) (eJ (dQ (Ht rfl) (fun hd=>?_) (fun hd=>?_))))))))
  ·have hjn : j < n := by simp only [decide_eq_true_eq] at hd; omega
   haveI g1:aD (gm s i j) L:=hs.get hL i j
   have hrl:=nE (fun j=>vZ k * gm s i j) (fun j=>gm s i j) n j
   refine cU (cK (eU (fV (m:=14) (dp 7 rfl (cX (Ht rfl)) (dp 8 rfl (cX (Ht rfl)) (bR 30 0 31 1 rfl (gX U_30 Z_29 (Ht rfl) (Ht rfl) rfl zo (by rw [Nat.mul_one,Nat.zero_add])) ?_))))))
   refine dq 32 2 rfl (kX A_29 Z_29 (Ht rfl) (j:=3) rfl) (dp 9 rfl (cX (Ht rfl)) (dp 5 rfl (eG A_130 Z_130 (Ht rfl) (i:=2) rfl rfl rfl) (dp 7 rfl (cX (Ht rfl)) (dp 8 rfl (cX (Ht rfl)) (bR 36 6 37 7 rfl (gX U_30 Z_29 (Ht rfl) (Ht rfl) rfl zo (by rw [Nat.mul_one,Nat.zero_add])) ?_)))))
   refine dq 38 8 rfl (kX A_29 Z_29 (Ht rfl) (j:=3) rfl) (dp 9 rfl (cX (Ht rfl)) (bR 39 9 40 10 rfl (cP U_29 Z_130 (Ht rfl) (Ht rfl) rfl (i:=4) rfl (by simp only [List.length_map,hrl]; omega) rfl) ?_))
   refine dq 41 11 rfl (lS A_130 Z_130 (Ht rfl) (i:=4) rfl rfl (eX (zJ hjn))) (bR 35 5 42 12 rfl (cZ K_102 (sX (x:=vZ k) (y:=gm s i j) (L:=2) (M:=L) zo) ⟨(Ht rfl),(Ht rfl),trivial⟩) (fG aO rfl (by kernel_rfl) (zF (zF (zF (aJ (aJ (aV (ro rfl (cP U_29 Z_130 (Ht rfl) (Ht rfl) rfl (i:=4) rfl (by simp only [List.length_map,hrl]; omega) rfl) ?_)))))))))
   refine lE Z_130 (Ht rfl) (Ht rfl) (El.ag rfl) (i:=4) rfl rfl (by simp only [List.length_map,hrl]; omega) rfl ?_
   refine eJ (bC (cY (rm rfl (ro rfl (dW (Ht rfl) (cJ 1) z6) (ra rfl (eJ (eB [0,1,2,3,4] rfl (by decide) (gQ (j + 1) hjn zo (zS rfl) (aU (aB rfl) (aU (aB rfl) (aU (aB rfl) (aU (fun _ _ _ h=>h) (aU (bL (by rw [iU]; exact congrArg _ (tZ (f:=fun j=>vZ k * gm s i j)))) aY)))))))))))))
  ·have hjn : j = n := by simp only [decide_eq_false_iff_not] at hd; omega
   rw [hjn]
   refine gG rfl (bC (jH 3 4 rfl rfl (by decide) (by simp only [cL,List.length_map,nE]; omega) ?_))
   refine cY (rm rfl (ro rfl (dW (Ht rfl) (cJ 1) z6) (ra rfl (eJ (eB [0,1,2,3] rfl (by decide) (gQ (i + 1) hin zo (zS rfl) (aU (aB rfl) (aU (aB rfl) (aU (aB rfl) (aU (dM (by rw [jY,tY]; exact congrArg _ (tZ (f:=(fun i=>tab n fun j=>vZ k * gm s i j))))) aY))))))))))
 ·have hin : i = n := by simp only [decide_eq_false_iff_not] at hc; omega
  rw [hin,tY,show tab n (fun i=>tab n fun j=>vZ k * gm s i j) = wX s n k from rfl]
  refine gG rfl (cK (gW (i:=3) (tt:=7) rfl rfl (qL (s:=5) (M:=wX s n k) (aT _ _).symm) (cY (ro rfl (eW kB (Ht rfl) rfl) (ro rfl (fX A_29 Z_29 (Ht rfl) (i:=0) rfl rfl) (rm rfl (ro rfl (yJ (Ht rfl) (Ht rfl)) (gZ Z_32 (Ht rfl) (Ht rfl) rfl (i:=1) rfl (aK rfl) rfl rfl (eJ ?_)))))))))
  exact fK rfl (fY A_32 Z_32 rfl (i:=1) rfl rfl)
end
section
open Go Go.RowKit
theorem My {z:List Qi} {s:List (List Qi)} {L:Nat} (hz:cD z L) (hs:bP s L) (hL:1 ≤ L) (hLb:L ≤ 1000) (hp:z.all gY = true) (hsh:eR s z.length z.length) (h1:1 ≤ z.length) (h8:z.length ≤ 8):aP Tryz.prog 24 [mD z s] (NT .i64 (Oo z s)):=by
 have hz3:cD z (L + 3):=fun x hx=>(hz x hx).le zo
 have hsf:∀ k,k ≤ 1025 → bP (wX s z.length k) (L + 3):=fun k hk=>xP hs hL zo
 have hss:=fun k=>xQ s z.length k
 have hsd:∀ k,k ≤ 1025 → Ur (oB z (wX s z.length k)) z.length (dG (51 * (L + 3) + 43)) (dV (51 * (L + 3) + 43)):=fun k hk=>Za (mR _ _) (pQ hz3 (hsf k hk) zo hp h8) zo zo h8
 refine aP.intro Tryz.func24 rfl Tryz.ntmps24 rfl (fun cx=>(ts (rn rfl (fU (Ht rfl)) fun B1=>(ro rfl (cQ (cJ 0)) (eJ (ts (ro rfl (cQ (cJ 0)) (ro rfl (cQ (cJ 1024)) (eJ (cK (eU ?_)))))))))))
 refine eS (fun (lo : Nat) (hi : Nat) => ((lo ≤ hi ∧ hi ≤ 1024) ∧ ∃ g, hi - lo ≤ g ∧ Hc (fun k => uK (oB z (wX s z.length k)) z.length) g lo hi = Oo z s)) (fun (lo : Nat) (hi : Nat) => hi - lo) (fun (lo : Nat) (hi : Nat) => [(1, cC B1 0), (3, NT .i64 lo), (4, NT .i64 hi)]) (fun (lo : Nat) (hi : Nat) => [box B1 32 [uJ z, QM s]]) 0 1024 ⟨⟨by decide, by decide⟩, 1024, by decide, rfl⟩
  (zS rfl) (aU (aB rfl) aY) (fun lo hi ⟨⟨hlh,hh4⟩,g,hg,hK⟩=>?_)
 refine cK (ts (rm rfl (rm rfl (ro rfl (gJ (Ht rfl) (Ht rfl)) (eJ (dQ (Ht rfl) (fun hc=>?_) (fun hc=>?_)))))))
 ·have hlt : lo < hi := by simp only [decide_eq_true_eq] at hc; omega
  have u1:=Tk (p:=(fun k=>uK (oB z (wX s z.length k)) z.length)) hg hlt
  have u2:=Tj (p:=(fun k=>uK (oB z (wX s z.length k)) z.length)) hg hlt
  obtain ⟨m,hm⟩:∃ m,m = (lo + hi + 1) / 2:=⟨_,rfl⟩
  rw [← hm] at u1 u2
  have hm1:lo < m:=by omega
  have hm2:m ≤ hi:=by omega
  refine cU (eU (ts (rm rfl (rm rfl (ro rfl (dW (Ht rfl) (Ht rfl) z6) (ro rfl (dW (Ht rfl) (cJ 1) z6) (ro rfl (gU (Ht rfl) (cJ 2) zo z6) (ro rfl (aI.nat (cQ (Ht rfl)) hm.symm) (eJ (ts (ro rfl (eG A_32 Z_32 (Ht rfl) (i:=0) rfl rfl rfl) (rm rfl (ro rfl (cZ Tryz.call26 (uT (k:=m) hs hL hLb zo hsh h1 h8) ⟨(Ht rfl),(Ht rfl),trivial⟩) ?_)))))))))))))
  refine ro rfl (cZ Tryz.call21 (sY hz3 (hsf m zo) zo zo hp (hss m) h8 (fun _=>hsd m zo)) ⟨(Ht rfl),trivial⟩) (eJ (dQ (Ht rfl) (fun hpp=>?_) (fun hpp=>?_)))
  ·obtain ⟨g2, hg2, e2⟩ := u1 hpp
   refine cY (rm rfl (ra rfl (eJ (bC (gQ (m,hi) ⟨⟨hm2,hh4⟩,g2,hg2,by rw [← e2]; exact hK⟩ (by dsimp only; omega) (zS rfl) (aU (aB rfl) aY))))))
  ·obtain ⟨g2, hg2, e2⟩ := u2 (fun e => by
    have e3:uK (oB z (wX s z.length m)) z.length = true:=e
    rw [e3] at hpp; cases hpp)
   refine cY (rm rfl (ro rfl (dK (Ht rfl) (cJ 1) zo z6) (ra rfl (eJ (bC (gQ (lo,m - 1) ⟨⟨by omega,by omega⟩,g2,hg2,by rw [← e2]; exact hK⟩ (by dsimp only; omega) (zS rfl) (aU (aB rfl) aY)))))))
 ·have hge : ¬ lo < hi := by simp only [decide_eq_false_iff_not] at hc; omega
  have hk:=hK.symm.trans (Ml hge)
  refine gG rfl (ts (rm rfl (ra rfl (eJ (fK rfl (fJ (fQ rfl) ?_))))))
  exact (jQ hk.symm)
theorem Vv {z:List Qi} {s:List (List Qi)} {i j k L:Nat} (hs:bP s L) (hL:1 ≤ L) (hLb:L ≤ 1000) (hk:k ≤ 1000000) (hsh:eR s z.length z.length) (hi:i < z.length) (hj:j < z.length):aP Tryz.prog 111 [NT .i64 i,NT .i64 j,PT (bA (vZ k)),PT (gR z s)] (bA (vZ k * gm s i j)):=by
 have hsl:=hsh.1
 have hsr:=hsh.row hi
 haveI f0:=Ea (k:=k) zo
 haveI f1:aD (gm s i j) L:=hs.get hL i j
 refine aP.intro Tryz.func111 rfl Tryz.ntmps111 rfl (fun cx=>(ts (rn rfl (eK (Ts:=[Is (.bool false),Is (.slice none 0 0),Is (.bool false),Is (.slice none 0 0),Is (.slice none 0 0)]) O_60 rfl (fun V=>aW zd (aW zd (aW zd (aW zd (aW zd (aG))))))) fun B6=>(eJ (cK (fV (m:=9) (dp 2 rfl (dJ A_60 Z_60 (Ht rfl)) (dp 3 rfl (lK iO (Ht rfl) rfl) (dq 8 1 rfl (dJ A_26 Z_26 (Ht rfl)) (dp 0 rfl (cX (Ht rfl)) ?_))))))))))
 refine bR 9 2 10 3 rfl (dZ U_26 Z_25 (Ht rfl) (Ht rfl) rfl (eX (eQ (d:=[]) zo))) (dq 11 4 rfl (dJ A_25 Z_25 (Ht rfl)) (dp 1 rfl (cX (Ht rfl)) (bR 12 5 13 6 rfl (dZ U_25 Z_60 (Ht rfl) (Ht rfl) rfl (eX (eQ (d:=Qi.zero) zo))) (dq 14 7 rfl (dJ A_60 Z_60 (Ht rfl)) (fG aO rfl (by kernel_rfl) (zF (zF (aJ (aV (ro rfl (cZ K_70 (nA (x:=vZ k) (y:=gm s i j) (L:=2) (M:=L) zo) ⟨(Ht rfl),(Ht rfl),trivial⟩) ?_))))))))))
 refine gZ Z_60 (Ht rfl) (Ht rfl) rfl (i:=0) rfl (aK rfl) rfl rfl (eJ ?_)
 exact fK rfl (fY A_60 Z_60 rfl (i:=0) rfl rfl)
theorem a0A {z:List Qi} {s:List (List Qi)} {k L:Nat} (hs:bP s L) (hL:1 ≤ L) (hLb:L ≤ 1000) (hk:k ≤ 1000000) (hsh:eR s z.length z.length) (h8:z.length ≤ 8):aP Tryz.prog 107 [NT .i64 k,PT (gR z s)] (gR z (wX s z.length k)):=by
 refine aP.intro Tryz.func107 rfl Tryz.ntmps107 rfl (fun cx=>(ts (rn rfl (eK (Ts:=[Is (.slice none 0 0),Is (.slice none 0 0)]) O_28 rfl (fun V=>aW zd (aW zd (aG)))) fun B3=>(eJ (ts (rm rfl (ro rfl (cZ Tryz.call108 (Zp (p:=(k:Int)) (q:=0) (d:=1024) zo zo (by decide) (by decide) (by decide) (by decide) (by decide)) ⟨(Ht rfl),(cJ 0),(cJ 1024),trivial⟩) (rm rfl (ro rfl (dY (Ht rfl) rfl) (ro rfl (dY (Ht rfl) rfl) (rn rfl (eK (Ts:=[Is (.bool false),Is (.slice none 0 0),Is (.bool false),Is (.slice none 0 0),Is (.slice none 0 0)]) O_60 rfl (fun V=>aW zd (aW zd (aW zd (aW zd (aW zd (aG))))))) fun B4=>?_)))))))))))
 refine gZ Z_60 (Ht rfl) (Ht rfl) rfl (i:=1) rfl (aK rfl) rfl rfl (ra rfl (eJ (cK (gW (i:=1) (tt:=4) rfl rfl xG (fV (m:=7) (dp 1 rfl (lK iX (Ht rfl) rfl) (dq 11 0 rfl (dJ A_25 Z_25 (Ht rfl)) (dq 12 1 rfl (cZ Tryz.call109 (Kn (l:=z) zo) ⟨(Ht rfl),trivial⟩) (dp 1 rfl (lK iX (Ht rfl) rfl) (dq 14 3 rfl (dJ A_25 Z_25 (Ht rfl)) (dq 15 4 rfl (dU U_25 (Ht rfl) aA) (dpp 4 1 rfl (pO (γ:=Fin z.length × Fin z.length) (Ts:=fun x=>[NT .i64 x.1.1,NT .i64 x.2.1]) (U:=fun x=>bA (vZ k * gm s x.1.1 x.2.1)) Tryz.call111 (fun x=>Vv (k:=k) hs hL hLb hk hsh x.1.2 x.2.2) ⟨(Ht rfl),(Ht rfl),trivial⟩) ?_))))))))))))
 refine fG aO rfl (by kernel_rfl) (zF (aJ (aJ (aJ (aV (ro rfl (cZ Tryz.call110 (Cn (n:=z.length) (f:=fun i j=>vZ k * gm s i j) zo) ⟨(Ht rfl),(Ht rfl),trivial⟩) (ro rfl (sT (Ht rfl) (Ht rfl)) (gZ Z_28 (Ht rfl) (Ht rfl) rfl (i:=0) rfl (aK rfl) rfl rfl (eJ ?_)))))))))
 exact fK rfl (fY A_28 Z_28 rfl (i:=0) rfl rfl)
theorem Py {z:List Qi} {s:List (List Qi)} {L:Nat} (hz:cD z L) (hs:bP s L) (hL:1 ≤ L) (hLb:L ≤ 1000) (hp:z.all gY = true) (hsh:eR s z.length z.length) (h1:1 ≤ z.length) (h8:z.length ≤ 8):aP Tryz.prog 23 [gR z s] (fR [gR z (wX s z.length (Oo z s)),NT .i64 (Oo z s)]):=by
 have hz3:cD z (L + 3):=fun x hx=>(hz x hx).le zo
 have hsf:∀ k,k ≤ 1025 → bP (wX s z.length k) (L + 3):=fun k hk=>xP hs hL zo
 have hss:=fun k=>xQ s z.length k
 have hsd:∀ k,k ≤ 1025 → Ur (oB z (wX s z.length k)) z.length (dG (51 * (L + 3) + 43)) (dV (51 * (L + 3) + 43)):=fun k hk=>Za (mR _ _) (pQ hz3 (hsf k hk) zo hp h8) zo zo h8
 have hKb:=(Hb z s).1
 refine aP.intro Tryz.func23 rfl Tryz.ntmps23 rfl (fun cx=>(ts (rn rfl (fU (Ht rfl)) fun B1=>(rn rfl (eK (Ts:=[Is (.slice none 0 0),Is (.slice none 0 0)]) O_28 rfl (fun V=>aW zd (aW zd (aG)))) fun B2=>(ro rfl (cQ (cJ 0)) (eJ (cK (gW (i:=0) (tt:=1) rfl rfl xG (cY (ro rfl (pO (γ:={k:Nat // k ≤ 1025}) (Ts:=fun x=>[NT .i64 x.1]) (U:=fun x=>gR z (wX s z.length x.1)) Tryz.call107 (fun x=>a0A (k:=x.1) hs hL hLb zo hsh h8) ⟨(Ht rfl),trivial⟩) ?_))))))))))
 refine ra rfl (eJ (ts (ro rfl (cQ (cJ 0)) (ro rfl (cQ (cJ 1024)) (eJ (cK (eU (eB [1] rfl (by decide) ?_))))))))
 refine eS (fun (lo : Nat) (hi : Nat) => ((lo ≤ hi ∧ hi ≤ 1024) ∧ ∃ g, hi - lo ≤ g ∧ Hc (fun k => uK (oB z (wX s z.length k)) z.length) g lo hi = Oo z s)) (fun (lo : Nat) (hi : Nat) => hi - lo) (fun (lo : Nat) (hi : Nat) => [(2, cC B2 0), (4, Hx Tryz.prog {k : Nat // k ≤ 1025} (fun x => [NT .i64 x.1]) (fun x => gR z (wX s z.length x.1))), (5, NT .i64 lo), (6, NT .i64 hi)]) (fun (lo : Nat) (hi : Nat) => [box B2 28 [Is (.slice none 0 0), Is (.slice none 0 0)]]) 0 1024 ⟨⟨by decide, by decide⟩, 1024, by decide, rfl⟩
  (zS rfl) (aU (aB rfl) aY) (fun lo hi ⟨⟨hlh,hh4⟩,g,hg,hK⟩=>?_)
 refine cK (ts (rm rfl (rm rfl (ro rfl (gJ (Ht rfl) (Ht rfl)) (eJ (dQ (Ht rfl) (fun hc=>?_) (fun hc=>?_)))))))
 ·have hlt : lo < hi := by simp only [decide_eq_true_eq] at hc; omega
  have u1:=Tk (p:=(fun k=>uK (oB z (wX s z.length k)) z.length)) hg hlt
  have u2:=Tj (p:=(fun k=>uK (oB z (wX s z.length k)) z.length)) hg hlt
  obtain ⟨m,hm⟩:∃ m,m = (lo + hi + 1) / 2:=⟨_,rfl⟩
  rw [← hm] at u1 u2
  have hm1:lo < m:=by omega
  have hm2:m ≤ hi:=by omega
  refine cU (eU (ts (rm rfl (rm rfl (ro rfl (dW (Ht rfl) (Ht rfl) z6) (ro rfl (dW (Ht rfl) (cJ 1) z6) (ro rfl (gU (Ht rfl) (cJ 2) zo z6) (ro rfl (aI.nat (cQ (Ht rfl)) hm.symm) (eJ (ts (rm rfl (rm rfl (ro rfl (qS ⟨m,by omega⟩ (Ht rfl) ⟨(Ht rfl),trivial⟩) (ro rfl (cZ Tryz.call16 (Bb hz3 (hsf m zo) zo zo (hss m) h8 hp (fun _=>hsd m zo)) ⟨(Ht rfl),trivial⟩) ?_))))))))))))))
  refine rm rfl (ro rfl (dY (Ht rfl) rfl) (ro rfl (dY (Ht rfl) rfl) (ra rfl (ra rfl (eJ (ts (rm rfl (eJ (dQ (Ht rfl) (fun hpp=>?_) (fun hpp=>?_))))))))))
  ·obtain ⟨g2, hg2, e2⟩ := u1 hpp
   refine cY (rm rfl (ra rfl (eJ (bC (gQ (m,hi) ⟨⟨hm2,hh4⟩,g2,hg2,by rw [← e2]; exact hK⟩ (by dsimp only; omega) (zS rfl) (aU (aB rfl) aY))))))
  ·obtain ⟨g2, hg2, e2⟩ := u2 (fun e => by
    have e3:uK (oB z (wX s z.length m)) z.length = true:=e
    rw [e3] at hpp; cases hpp)
   refine cY (rm rfl (ro rfl (dK (Ht rfl) (cJ 1) zo z6) (ra rfl (eJ (bC (gQ (lo,m - 1) ⟨⟨by omega,by omega⟩,g2,hg2,by rw [← e2]; exact hK⟩ (by dsimp only; omega) (zS rfl) (aU (aB rfl) aY)))))))
 ·have hge : ¬ lo < hi := by simp only [decide_eq_false_iff_not] at hc; omega
  have hk:=hK.symm.trans (Ml hge)
  rw [hk] at hKb ⊢
  refine gG rfl (ts (rm rfl (rm rfl (ro rfl (qS ⟨lo,by omega⟩ (Ht rfl) ⟨(Ht rfl),trivial⟩) (rm rfl (gZ Z_28 (Ht rfl) (Ht rfl) rfl (i:=0) rfl (aK rfl) rfl rfl (ra rfl (eJ ?_))))))))
  exact cB rfl (fY A_28 Z_28 rfl (i:=0) rfl rfl) (fQ rfl)
end
section
open Go Go.RowKit
theorem Nr {z a:List Qi} {s:List (List Qi)} {n:Nat} (hn:n = z.length) {b:Nat → Qi} (hb:∀ i,i < n → b i = bM n fun j=>gm s i j * gv a j):(bM n fun i=>((gv a i).norm - (b i).norm) / gv z i) = sq n (gv a) (gv a) (gm (oB z s)):=by
 subst hn
 have e1 : ∀ i, i < z.length → (bM z.length fun k => (gv a i).conj * gm (oB z s) i k * gv a k) = (gv a i).norm * Qi.inv (gv z i) - bM z.length fun m => (gv a i).conj * (gm s m i).conj * (Qi.inv (gv z m) * b m) := fun i hi => by
  have t : ∀ k, k < z.length → (gv a i).conj * gm (oB z s) i k * gv a k = (if k = i then (gv a i).norm * Qi.inv (gv z i) else 0) - bM z.length fun m => (gv a i).conj * (gm s m i).conj * Qi.inv (gv z m) * (gm s m k * gv a k) := fun k hk => by
   rw [oB,jK hi hk,sJ]
   have u : (bM z.length fun m => (gv a i).conj * (gm s m i).conj * Qi.inv (gv z m) * (gm s m k * gv a k)) = (gv a i).conj * (bM z.length fun m => (gm s m i).conj * gm s m k / gv z m) * gv a k := by
    rw [← mW,← Aa]; exact bT fun m _=>by rw [Qi.div_def]; grind
   rw [u,← Qi.mul_conj_norm]
   by_cases e:k = i
   ·subst e; rw [if_pos rfl,if_pos rfl,Qi.div_def]; grind
   ·rw [if_neg e,if_neg (Ne.symm e)]; grind
  rw [bT t,← vI,rD hi (fun k _ hne=>if_neg hne),if_pos rfl,vJ]
  congr 1
  exact bT fun m hm=>by rw [mW,hb m hm]; grind
 rw [sq,bT e1,← vI,vJ]
 have e2 : ∀ m, m < z.length → (bM z.length fun i => (gv a i).conj * (gm s m i).conj * (Qi.inv (gv z m) * b m)) = (b m).norm * Qi.inv (gv z m) := fun m hm => by
  rw [Aa,← Qi.mul_conj_norm]
  have c : (bM z.length fun i => (gv a i).conj * (gm s m i).conj) = (b m).conj := by
   rw [hb m hm,tO]; exact bT fun i _=>by rw [mI]; grind
  rw [c]; grind
 rw [bT e2,vI]
 exact bT fun i _=>by rw [Qi.div_def]; grind
theorem a1e {x:Qi} (h:x.im = 0):x.b = 0:=by
 obtain ⟨_,d2⟩:=rQ x
 rw [h] at d2
 have:((x.b:Int):Rat) = 0:=by grind
 exact_mod_cast this
theorem Fk {x y:Qi} (hy:y.conj = y) (hne:¬ y = Qi.zero):(x / y).conj = x.conj / y:=by
 have e:=congrArg Qi.conj (qJ (x:=x) hne)
 rw [mI,hy] at e
 exact (Je e hne).symm
theorem Yl {z : List Qi} {s : List (List Qi)} (hp : z.all gY = true) : jE (oB z s) z.length = true := decide_eq_true fun i hi k hk => by
 have hz : ∀ m, m < z.length → (gv z m).conj = gv z m := fun m hm => by
  rw [List.all_eq_true] at hp
  exact Oe (hp _ (by rw [show gv z m = z[m]'hm by simp [gv,List.getD,hm]]; exact List.getElem_mem _))
 have hn:∀ m,m < z.length → ¬ gv z m = Qi.zero:=fun m hm=>oW hp hm
 rw [oB,jK hi hk,jK hk hi,sJ,sJ,Qp,tO]
 have e1 : (if i = k then 1 / gv z i else (0 : Qi)) = (if k = i then 1 / gv z k else 0).conj := by
  by_cases e:i = k
  ·subst e; rw [if_pos rfl,Fk (hz i hi) (hn i hi),yQ]
  ·rw [if_neg e,if_neg (Ne.symm e),oH]
 rw [← e1]
 congr 1
 exact bT fun m hm=>by rw [Fk (hz m hm) (hn m hm),mI,rN]; congr 1; grind
end
section
open Go Go.RowKit
theorem Ki (l a : List Qi) : ∀ k, Uj l a k = bM k fun j => gv l j * gv a j
 | 0=>qU
 | k + 1=>by rw [Uj,Ki l a k]; rfl
theorem Qe {z a:List Qi} {s:List (List Qi)} {L:Nat} (hz:cD z L) (hs:bP s L) (ha:cD a L) (hL:1 ≤ L) (hLb:L ≤ 3000000000) (hp:z.all gY = true) (hsh:eR s z.length z.length) (h1:1 ≤ z.length) (h8:z.length ≤ 8) (hal:a.length = z.length) (hng:Ax (sq z.length (gv a) (gv a) (gm (oB z s))) = true) (him:(sq z.length (gv a) (gv a) (gm (oB z s))).im = 0):aP Tryz.prog 22 [gR z s,cE a] (aC true):=by
 have hD:=Vd hsh hs ha hL hLb h1 zo
 have hde:Fx z.length a.length = 0:=by rw [Fx,if_pos hal]
 rw [hde] at hD
 have hyf:=Rf (n:=z.length) hs ha hL
 have hyl:(Nm s a z.length).length = z.length:=aT _ _
 have hsum:=Nr (z:=z) (a:=a) (s:=s) (n:=z.length) rfl (b:=gv (Nm s a z.length)) (fun i hi=>by rw [Nm,pI hi,Ki])
 generalize Nm s a z.length = y at *
 rw [← hsum] at hng him
 obtain ⟨n,hn⟩:∃ n,n = z.length:=⟨_,rfl⟩
 rw [show pV 0 y = y from rfl] at hD
 rw [← hn] at hyf hyl hng him
 obtain ⟨M,hM⟩:∃ M,M = 1 + n * (2 * L + 2):=⟨_,rfl⟩
 rw [← hM] at hyf
 have hMb : M ≤ 50000000000 := by
  have:n * (2 * L + 2) ≤ 8 * (2 * L + 2):=Nat.mul_le_mul_right _ zo
  omega
 have hM1:1 ≤ M:=by omega
 refine aP.intro Tryz.func22 rfl Tryz.ntmps22 rfl (fun cx=>(ts (rn rfl (fU (Ht rfl)) fun B2=>(ro rfl (cQ cV) (eJ (ts (ro rfl (eG A_28 Z_28 (Ht rfl) (i:=0) rfl rfl rfl) (rm rfl (ro rfl (cZ Tryz.call63 hD ⟨(Ht rfl),(Ht rfl),trivial⟩) (rm rfl (ro rfl (dY (Ht rfl) rfl) (ro rfl (dY (Ht rfl) rfl) (ra rfl (ra rfl (eJ (cK (ts (rm rfl (ro rfl (nG (Ht rfl) cV) (rm rfl (fZ rfl rfl (eY rfl rfl (Ht rfl) (fun h=>cX (Ht rfl))) (fZ rfl rfl (eY rfl rfl (Ht rfl) (fun h=>dU U_25 (fW rfl h) (by rw [List.length_map,hyl]))) ?_))))))))))))))))))))))
 refine fZ rfl rfl (eY rfl rfl (Ht rfl) (fun h=>cX (Ht rfl))) (fZ rfl rfl (eY rfl rfl (Ht rfl) (fun h=>dU U_25 (fW rfl h) (by rw [List.length_map,hal,← hn]))) ?_)
 refine fZ rfl rfl (eY rfl rfl (Ht rfl) (fun h=>iQ (fW rfl h) (fW rfl h))) (ro rfl (kP (Ht rfl) (fun h=>(fW rfl h))) (eJ (gS (Ht rfl) (by simp) ?_)))
 refine cU (ts (ro rfl (cZ K_52 (vR (n:=0) (by decide) (by decide)) ⟨(cJ 0),trivial⟩) (rn rfl (eK (Ts:=[Is (.bool false),Is (.slice none 0 0),Is (.bool false),Is (.slice none 0 0),Is (.slice none 0 0)]) O_60 rfl (fun V=>aW zd (aW zd (aW zd (aW zd (aW zd (aG))))))) fun B7=>(gZ Z_60 (Ht rfl) (Ht rfl) rfl (i:=1) rfl (aK rfl) rfl rfl (eJ (cK (ts (rm rfl (ro rfl (dU U_25 (Ht rfl) (by rw [List.length_map,hal])) ?_)))))))))
 refine ro rfl (cX (cJ 0)) (eJ (eU ?_))
 refine bF (fun (i : Nat) => i ≤ n) (fun (i : Nat) => n - i) (fun (i : Nat) => [(1, cE a), (2, cC B2 0), (5, cE y), (7, cC B7 0), (30, NT .i64 n), (31, NT .i64 i)]) (fun (i : Nat) => [box B2 28 [cE z, fB s], box B7 60 [aC (decide ((bM i (fun i => ((gv a i).norm - (gv y i).norm) / gv z i)).a < 0)), aE (bM i (fun i => ((gv a i).norm - (gv y i).norm) / gv z i)).a.natAbs, aC (decide ((bM i (fun i => ((gv a i).norm - (gv y i).norm) / gv z i)).b < 0)), aE (bM i (fun i => ((gv a i).norm - (gv y i).norm) / gv z i)).b.natAbs, aE (du (bM i (fun i => ((gv a i).norm - (gv y i).norm) / gv z i)))]]) 0 (Nat.zero_le _)
  (aQ rfl (aQ rfl (aQ rfl (aQ rfl (aZ rfl (jQ hn.symm) (zS rfl)))))) (aU (aB rfl) (aU (aB (by rw [qU]; rfl)) aY)) (fun i hi=>?_)
 refine ts (ro rfl (gJ (Ht rfl) (Ht rfl)) (eJ (cK (dQ (Ht rfl) (fun hc=>?_) (fun hc=>?_)))))
 ·have hin : i < n := by simp only [decide_eq_true_eq] at hc; omega
  haveI f1:aD (gv a i) L:=ha.get hL i
  haveI f2:aD (gv y i) M:=hyf.get hM1 i
  haveI f3:aD (gv z i) L:=hz.get hL i
  haveI f4:aD (gv a i).norm (L + L + 1):=fitNorm
  haveI f5:aD (gv y i).norm (M + M + 1):=fitNorm
  have gf : ∀ j, j < n → aD (((gv a j).norm - (gv y j).norm) / gv z j) (L + L + 1 + (M + M + 1) + 1 + 3 * L + 2) := fun j hj => by
   haveI:=ha.get hL j; haveI:=hyf.get hM1 j
   haveI g4:aD (gv a j).norm (L + L + 1):=fitNorm
   haveI g5:aD (gv y j).norm (M + M + 1):=fitNorm
   exact kD (fitSub (L:=L + L + 1) (M:=M + M + 1)) (hz.get hL j) (oW hp zo)
  have hne:=oW hp (show i < z.length by omega)
  obtain ⟨D,hDd⟩:∃ D,D = L + L + 1 + (M + M + 1) + 1 + 3 * L + 2:=⟨_,rfl⟩
  rw [← hDd] at gf
  haveI f6:=gf i hin
  haveI f7:aD (bM i (fun i=>((gv a i).norm - (gv y i).norm) / gv z i)) (1 + i * (D + 1)):=aD.sum fun j hj=>gf j zo
  have hib:i * (D + 1) ≤ 8 * (D + 1):=Nat.mul_le_mul_right _ zo
  have hrf : aP Tryz.prog 67 [gR z s, NT .i64 (i + 1)] (fR [bA (gv z i), aN .i64 0]) := by
   have h:=Zq (z:=z) (s:=s) (i:=((i + 1:Nat):Int)) zo
   rw [show pkv z ((i + 1:Nat):Int) = gv z i from Sv zo,if_pos zo] at h; exact h
  refine cU (cK (eU (ts (rm rfl (ra rfl (eJ (ts (ro rfl (eG A_28 Z_28 (Ht rfl) (i:=0) rfl rfl rfl) (rm rfl (ro rfl (dW (Ht rfl) (cJ 1) z6) (ro rfl (cZ Tryz.call67 hrf ⟨(Ht rfl),(Ht rfl),trivial⟩) (rm rfl (ro rfl (dY (Ht rfl) rfl) (ro rfl (dY (Ht rfl) rfl) (rn rfl (eK (Ts:=[Is (.bool false),Is (.slice none 0 0),Is (.bool false),Is (.slice none 0 0),Is (.slice none 0 0)]) O_60 rfl (fun V=>aW zd (aW zd (aW zd (aW zd (aW zd (aG))))))) fun B9=>?_)))))))))))))))
  refine gZ Z_60 (Ht rfl) (Ht rfl) rfl (i:=2) rfl (aK rfl) rfl rfl (ra rfl (eJ (cK (Y.D_start (m:=18) [] (bY (Ei:=[(1,_)]) rfl rfl (bQ (bJ rfl rfl) bX) rfl rfl (dX rfl (cX (Ht rfl))) (bY (Ei:=[(8,_)]) rfl rfl (bQ (bJ rfl rfl) bX) rfl rfl (dX rfl (cX (Ht rfl))) (bY (Ei:=[(42,_),(43,_)]) rfl rfl (bQ (bZ 0 rfl rfl) (bQ (bZ 1 rfl rfl) bX)) rfl rfl (dX rfl (dZ U_25 Z_60 (Ht rfl) (Ht rfl) rfl (eX (eQ (d:=Qi.zero) zo)))) ?_)))))))
  refine bY (Ei:=[(44,_)]) rfl rfl (bQ (bZ 2 rfl rfl) bX) rfl rfl (dX rfl (dJ A_60 Z_60 (Ht rfl))) (bY (Ei:=[(45,_)]) rfl rfl (bQ (bZ 3 rfl rfl) bX) rfl rfl (dX rfl (cZ Tryz.call50 (Cm (x:=gv a i) (L:=L) zo) ⟨(Ht rfl),trivial⟩)) (bY (Ei:=[(5,_)]) rfl rfl (bQ (bJ rfl rfl) bX) rfl rfl (dX rfl (cX (Ht rfl))) (bY (Ei:=[(8,_)]) rfl rfl (bQ (bJ rfl rfl) bX) rfl rfl (dX rfl (cX (Ht rfl))) (bY (Ei:=[(47,_),(48,_)]) rfl rfl (bQ (bZ 5 rfl rfl) (bQ (bZ 6 rfl rfl) bX)) rfl rfl (dX rfl (dZ U_25 Z_60 (Ht rfl) (Ht rfl) rfl (eX (eQ (d:=Qi.zero) zo)))) ?_))))
  refine bY (Ei:=[(49,_)]) rfl rfl (bQ (bZ 7 rfl rfl) bX) rfl rfl (dX rfl (dJ A_60 Z_60 (Ht rfl))) (bY (Ei:=[(50,_)]) rfl rfl (bQ (bZ 8 rfl rfl) bX) rfl rfl (dX rfl (cZ Tryz.call50 (Cm (x:=gv y i) (L:=M) zo) ⟨(Ht rfl),trivial⟩)) (bY (Ei:=[(46,_),(51,_)]) rfl rfl (bQ (bZ 4 rfl rfl) (bQ (bZ 9 rfl rfl) bX)) rfl rfl (dX rfl (cZ K_69 (yM (x:=(gv a i).norm) (y:=(gv y i).norm) (L:=L + L + 1) (M:=M + M + 1) zo) ⟨(Ht rfl),(Ht rfl),trivial⟩)) ?_))
  refine bY (Ei:=[(9,_)]) rfl rfl (bQ (bJ rfl rfl) bX) rfl rfl (dX rfl (eG A_60 Z_60 (Ht rfl) (i:=2) rfl rfl rfl)) (bY (Ei:=[(52,_),(53,_)]) rfl rfl (bQ (bZ 10 rfl rfl) (bQ (bZ 11 rfl rfl) bX)) rfl rfl (dX rfl (cZ K_64 (vQ (x:=(gv a i).norm - (gv y i).norm) (y:=gv z i) (L:=L + L + 1 + (M + M + 1) + 1) (M:=L) zo) ⟨(Ht rfl),(Ht rfl),trivial⟩)) (bY (Ei:=[(54,_)]) rfl rfl (bQ (bZ 12 rfl rfl) bX) rfl rfl (dX rfl (cX (Ht rfl))) ?_))
  refine bY (Ei:=[(41,_)]) rfl rfl (bQ (bZ 13 rfl rfl) bX) rfl rfl (dX rfl (dY (Ht rfl) rfl)) (bY (Ei:=[(41,_)]) rfl rfl (bQ (bZ 13 rfl rfl) bX) rfl rfl (dX rfl (dY (Ht rfl) rfl)) (Y.D_newp (Ei:=[]) (fun bb=>box bb 60 [aC (decide ((((gv a i).norm - (gv y i).norm) / gv z i).a < 0)),aE (((gv a i).norm - (gv y i).norm) / gv z i).a.natAbs,aC (decide ((((gv a i).norm - (gv y i).norm) / gv z i).b < 0)),aE (((gv a i).norm - (gv y i).norm) / gv z i).b.natAbs,aE (du (((gv a i).norm - (gv y i).norm) / gv z i))]) 17 rfl rfl rfl bX rfl rfl (by kernel_rfl) (eK (Ts:=[Is (.bool false),Is (.slice none 0 0),Is (.bool false),Is (.slice none 0 0),Is (.slice none 0 0)]) O_60 rfl (fun V=>aW zd (aW zd (aW zd (aW zd (aW zd (aG))))))) ?_))
  refine Y.D_putN (Ei:=[(55,_)]) 16 rfl rfl rfl rfl rfl rfl (bQ (bZ 14 rfl rfl) bX) (fun bb=>mY Z_60 (Ht rfl) (Ht rfl) rfl (i:=0) rfl (aK rfl) rfl rfl) (Y.D_done aO rfl (by kernel_rfl) rfl (by simp [Y.okP]) rfl rfl (bU (bU (bU (bU (bU (bU (bU (bU (bU (bU (bU (bU (bU (bU (bU (bU (Y.F_newp (fun B11=>Y.F_putN (Y.F_nil ?_))))))))))))))))))))
  refine ra rfl (eJ (cK (ts (rm rfl (ro rfl (nG (Ht rfl) cV) (eJ (gS (Ht rfl) (by simp [hne]; exact hne) ?_)))))))
  refine cU (cY (ro rfl (eG A_60 Z_60 (Ht rfl) (i:=1) rfl rfl rfl) (ro rfl (eG A_60 Z_60 (Ht rfl) (i:=3) rfl rfl rfl) (ro rfl (cZ K_71 (vP (x:=bM i (fun i=>((gv a i).norm - (gv y i).norm) / gv z i)) (y:=((gv a i).norm - (gv y i).norm) / gv z i) (L:=1 + i * (D + 1)) (M:=D) zo) ⟨(Ht rfl),(Ht rfl),trivial⟩) (gZ Z_60 (Ht rfl) (Ht rfl) rfl (i:=1) rfl (aK rfl) rfl rfl (eJ (bC (cY (ro rfl (dW (Ht rfl) (cJ 1) z6) ?_)))))))))
  refine rm rfl (eJ (eB [0,1] rfl (by decide) (gQ (i + 1) hin zo (zS rfl) (aU (aB rfl) (aU (aB rfl) aY)))))
 ·have hin : i = n := by simp only [decide_eq_false_iff_not] at hc; omega
  rw [hin]
  obtain ⟨q,hq⟩:∃ q,q = bM n (fun i=>((gv a i).norm - (gv y i).norm) / gv z i):=⟨_,rfl⟩
  rw [← hq] at hng him ⊢
  have hqb:q.b = 0:=a1e him
  have w3:Au q (Qi.ofInt 0) < 0:=by rw [qU]; exact of_decide_eq_true hng
  haveI qf : aD q 4000000000000 := by
   rw [hq]
   refine (aD.sum (L:=400000000000) fun j hj=>?_).le zo
   haveI:=ha.get hL j; haveI:=hyf.get hM1 j
   haveI g4:aD (gv a j).norm (L + L + 1):=fitNorm
   haveI g5:aD (gv y j).norm (M + M + 1):=fitNorm
   exact (kD (fitSub (x:=(gv a j).norm) (y:=(gv y j).norm) (L:=L + L + 1) (M:=M + M + 1)) (hz.get hL j) (oW hp zo)).le zo
  refine gG rfl (cK (fV (m:=5) (dp 7 rfl (eG A_60 Z_60 (Ht rfl) (i:=1) rfl rfl rfl) (dq 63 0 rfl (cZ Tryz.call55 In ⟨(Ht rfl),trivial⟩) (dq 64 1 rfl (cX (Ht rfl)) (C.D_step (Ei:=[(7,_),(65,_)]) rfl rfl (bV (bK rfl rfl) (bV (bG 2 rfl rfl) bW)) (eY rfl rfl (Ht rfl) (fun h=>eG A_60 Z_60 (Ht rfl) (i:=1) rfl rfl rfl)) (C.D_step (Ei:=[(65,_)]) rfl rfl (bV (bG 2 rfl rfl) bW) (eY rfl rfl (Ht rfl) (fun h=>cZ K_52 (vR (n:=0) (by decide) (by decide)) ⟨(cJ 0),trivial⟩)) ?_)))))))
  refine fG aO rfl (by kernel_rfl) (zF (aJ (aV (fZ rfl rfl (eY rfl rfl (Ht rfl) (fun h=>cZ Tryz.call51 (Ko (x:=q) (y:=Qi.ofInt 0) (L:=4000000000000) (M:=1) (hy:=by rw [qU]; exact aD.zero (by decide)) (by decide)) ⟨(fW rfl h),(fW rfl h),trivial⟩)) (fZ rfl rfl (eY rfl rfl (Ht rfl) (fun h=>lT (fW rfl h) cV)) (ro rfl (dO (Ht rfl) (fun h=>(fW rfl h))) (ra rfl (eJ (fK rfl (fJ (fQ rfl) ?_))))))))))
  exact (bN (by simp [hqb,w3]))
end
section
open Go Go.RowKit
theorem De (a:Addr) (w:World):(Instr.fieldAt 24 (.pointer (some a)) 0).run Tryz.prog w = .ok (.pointer (some (a.add 0))) w:=by
 simp [Instr.fieldAt,Instr.sureAddr,fieldPlace,Sem.run_bind,Result.andThen,U_24,Z_5]
theorem Wt (a:Addr) (w:World):(Instr.fieldAt 24 (.pointer (some a)) 1).run Tryz.prog w = .ok (.pointer (some (a.add 1))) w:=by
 simp [Instr.fieldAt,Instr.sureAddr,fieldPlace,Sem.run_bind,Result.andThen,U_24,Z_22]
theorem Wu (a:Addr) (w:World):(Instr.fieldAt 24 (.pointer (some a)) 2).run Tryz.prog w = .ok (.pointer (some (a.add 2))) w:=by
 simp [Instr.fieldAt,Instr.sureAddr,fieldPlace,Sem.run_bind,Result.andThen,U_24,Z_22]
theorem Xa:Tryz.prog.info? 22 = some Tryz.t22:=by kernel_rfl
theorem Lp:Tryz.prog.info? 48 = some Tryz.t48:=by kernel_rfl
theorem Uh:Tryz.prog.underlying 22 = some (.slice 48):=by kernel_rfl
end
section
open Go Go.RowKit
abbrev Kd (a:Nat) (zl sl:List Rt):Ty:=fI [NT .u8 a,lF zl,lF sl]
theorem Sy:∀ V,(lN default).p (.agg #[.int .i64 0,.int .i64 0,.int .i64 0]) V:=fun V=>⟨[.int .i64 0,.int .i64 0,.int .i64 0],rfl,aW zd (aW zd (aW zd aG))⟩
theorem a2f {B e s l:Nat} {BT:TypeId} {Rs:List (List Ty)} {q:Value → Prop} (hl:l = Rs.length):∀ u S V,(Is (.slice (some ⟨B,0,none⟩) l l)).p u V → (nM q B BT e s Rs).h S V V → (jN 1 (Rs.map (jN s))).p u V:=fun u S V h1 h2=>Dh hl (Nat.le_refl _) u S V h1 h2
theorem Sw (a:Nat) (sl:List Rt):(tab (lM a) fun i=>tab (lM a) fun j=>lN (Am (Jo sl (lM a * i + j)))).map (jN 3) = (uO a sl).map lF:=by
 rw [uO,mB,mB]
 refine bE fun i _=>?_
 rw [lF,mB]
theorem Pw {a:Nat} {zl sl:List Rt} (ha:a < 256):iI Tryz.prog 92 [Kd a zl sl] [] (Nat) (fun B=>fR [lF (vE a zl),Is (.slice (some ⟨B,0,none⟩) (lM a) (lM a))]) (fun B=>[pL B 22 48 3 (tab (lM a) (fun i=>tab (lM a) fun j=>lN (Am (Jo sl (lM a * i + j)))))]) (fun _=>True):=by
 have hn:lM a ≤ 4:=by unfold lM; omega
 have hn0:a % 4 + 1 = lM a:=rfl
 refine iI.intro Tryz.func92 rfl Tryz.ntmps92 rfl (fun cx Z=>(ts (rn rfl (fU (Ht rfl)) fun B1=>(ro rfl (cQ cV) (ro rfl (cQ cV) (eJ (ts (ro rfl (eW De (Ht rfl) rfl) (ro rfl (fX A_5 Z_5 (Ht rfl) (i:=1) rfl rfl) (ro rfl (kE (Ht rfl) (cJ 4) zo) (ro rfl (gV U_5 U_3 (Ht rfl) z6) (ro rfl (aI.nat (dW (Ht rfl) (cJ 1) z6) hn0) ?_))))))))))))
 refine ra rfl (eJ (cK (fV (m:=5) (dp 4 rfl (cX (Ht rfl)) (C.D_new (Ei:=[(14,_)]) rfl rfl rfl (bV (bG 0 rfl rfl) bW) (jJ (T:=lN default) (i:=Tryz.t48) Uh Lp rfl rfl (Ht rfl) rfl Sy (El.ag rfl) (by show 24 * _ ≤ _; omega) zo) (dp 4 rfl (cX (Ht rfl)) (C.D_new (Ei:=[(16,_)]) rfl rfl rfl (bV (bG 2 rfl rfl) bW) (eI (T:=Is (.slice none 0 0)) (i:=Tryz.t22) Tryz.underlying75 Xa rfl rfl (Ht rfl) rfl (fun _=>rfl) trivial (by show 24 * _ ≤ _; omega) zo) (C.D_cpy 1 rfl rfl rfl rfl rfl C.cpy_assign ?_))))))))
 refine fG aO rfl (by kernel_rfl) (aJ (C.F_new (fun B15=>aJ (C.F_new (fun B17=>C.F_cpy rfl (aV (ra rfl (eJ (cK (ts (rm rfl (ro rfl (sD U_22 (Ht rfl) (i:=2) rfl (show ((List.replicate (lM a) (lN default)).length:Int) = ((lM a:Nat):Int) from by simp)) (ro rfl (cX (cJ 0)) (eJ (eU (pZ 3 rfl (xK (e:=48) (s:=3)) ?_))))))))))))))))
 refine bF (fun (i : Nat) => i ≤ lM a) (fun (i : Nat) => lM a - i) (fun (i : Nat) => [(1, cC B1 0), (4, NT .i64 (lM a)), (5, Is B15), (6, Is (.slice (some ⟨B17, 0, none⟩) (lM a) (lM a))), (19, NT .i64 (lM a)), (20, NT .i64 i)]) (fun (i : Nat) => [Z, box B1 24 [NT .u8 a, lF zl, lF sl], bI 48 3 B15 (lO (fun i => lN (Um (Jo zl i))) (lN default) (lM a) i), pL B17 22 48 3 (lO (fun i => tab (lM a) fun j => lN (Am (Jo sl (lM a * i + j)))) [] (lM a) i)]) 0 (Nat.zero_le _)
  (aQ rfl (aQ rfl (aQ rfl (aQ rfl (aZ rfl (jQ (by simp)) (zS rfl)))))) (aU (fun _ _ _ h=>h) (aU (aB rfl) (aU (bL (by rw [← jX]; exact uF _ _)) (aU (dM (by rw [← jX]; exact uF _ _)) aY)))) (fun i hi=>?_)
 refine ts (ro rfl (gJ (Ht rfl) (Ht rfl)) (eJ (cK (dQ (Ht rfl) (fun hd=>?_) (fun hd=>?_)))))
 ·simp only [decide_eq_true_eq] at hd
  have hni:lM a * i ≤ 4 * 4:=Nat.mul_le_mul hn zo
  refine oV 3 (i) rfl (Lx hd) (fun v0=>(cU (cK (eU (ts (rm rfl (ra rfl (eJ (ts (rm rfl (rm rfl (ro rfl (eW Wt (Ht rfl) rfl) (ro rfl (fX A_22 Z_22 (Ht rfl) (i:=1) rfl rfl) (rm rfl (ro rfl (cZ Tryz.call166 Qf ⟨(Ht rfl),(Ht rfl),trivial⟩) (ro rfl (cZ Tryz.call34 Vk ⟨(Ht rfl),trivial⟩) (ro rfl (cP U_22 Z_48 (Ht rfl) (Ht rfl) rfl (i:=2) rfl (by rw [fH]; omega) rfl) ?_)))))))))))))))))
  refine lE Z_48 (Ht rfl) (Ht rfl) (El.ag rfl) (i:=2) rfl rfl (by rw [fH]; omega) rfl ?_
  refine eJ (ts (rm rfl (rm rfl (rm rfl (rn rfl (jJ (T:=lN default) (i:=Tryz.t48) Uh Lp rfl rfl (Ht rfl) rfl Sy (El.ag rfl) (by show 24 * _ ≤ _; omega) zo) fun B34=>(ro rfl (gX U_75 Z_22 (Ht rfl) (Ht rfl) rfl zo (by rw [Nat.mul_one,Nat.zero_add])) ?_))))))
  refine yC Z_22 (Ht rfl) (Ht rfl) (by rw [fH]; omega) (j:=3) (l:=5) rfl rfl rfl ?_
  refine eJ (cK (eB [0,1,2,3,5] rfl (by decide) (cY (rm rfl (rm rfl (ro rfl (gX U_75 Z_22 (Ht rfl) (Ht rfl) rfl zo (by rw [Nat.mul_one,Nat.zero_add])) ?_))))))
  refine ro rfl (kX A_22 Z_22 (Ht rfl) (j:=3) rfl) (ro rfl (sD U_22 (Ht rfl) (i:=4) rfl (show ((List.replicate (lM a) (lN default)).length:Int) = ((lM a:Nat):Int) from by simp)) (ro rfl (cX (cJ 0)) (eJ (eU ?_))))
  refine bF (fun (j : Nat) => j ≤ lM a) (fun (j : Nat) => lM a - j) (fun (j : Nat) => [(1, cC B1 0), (4, NT .i64 (lM a)), (5, Is B15), (6, Is (.slice (some ⟨B17, 0, none⟩) (lM a) (lM a))), (7, NT .i64 i), (19, NT .i64 (lM a)), (20, NT .i64 i), (40, NT .i64 (lM a)), (41, NT .i64 j)]) (fun (j : Nat) => [Z, box B1 24 [NT .u8 a, lF zl, lF sl], bI 48 3 B15 (lO (fun i => lN (Um (Jo zl i))) (lN default) (lM a) (i + 1)), Sb B17 22 48 3 (lO (fun i => tab (lM a) fun j => lN (Am (Jo sl (lM a * i + j)))) [] (lM a) i) i B34, bI 48 3 B34 (lO (fun j => lN (Am (Jo sl (lM a * i + j)))) (lN default) (lM a) j)]) 0 (Nat.zero_le _)
   (zS rfl) (aU (fun _ _ _ h=>h) (aU (aB rfl) (aU (bL (lI (f:=(fun i=>lN (Um (Jo zl i)))))) (aU (fun _ _ _ h=>h) (aU (bL (by rw [← jX]; exact uF _ _)) aY))))) (fun j hj=>?_)
  refine ts (ro rfl (gJ (Ht rfl) (Ht rfl)) (eJ (cK (dQ (Ht rfl) (fun he=>?_) (fun he=>?_)))))
  ·simp only [decide_eq_true_eq] at he
   refine cU (cK (eU (ts (rm rfl (ra rfl (eJ (fV (m:=14) (dp 6 rfl (cX (Ht rfl)) (dp 7 rfl (cX (Ht rfl)) (bR 44 0 45 1 rfl (gX U_75 Z_22 (Ht rfl) (Ht rfl) rfl zo (by rw [Nat.mul_one,Nat.zero_add])) ?_))))))))))
   refine dq 46 2 rfl (kX A_22 Z_22 (Ht rfl) (j:=3) rfl) (dp 8 rfl (cX (Ht rfl)) (dp 1 rfl (eW Wu (Ht rfl) rfl) (dq 49 5 rfl (fX A_22 Z_22 (Ht rfl) (i:=1) rfl rfl) (dp 4 rfl (cX (Ht rfl)) (dp 7 rfl (cX (Ht rfl)) (bR 51 7 52 8 rfl (jR (Ht rfl) (Ht rfl) (by show _ < 9223372036854775808; omega)) (dp 8 rfl (cX (Ht rfl)) (bR 53 9 54 10 rfl (dW (Ht rfl) (Ht rfl) (by show _ < 9223372036854775808; omega)) (bR 50 6 55 11 rfl (cZ Tryz.call166 Qf ⟨(Ht rfl),(Ht rfl),trivial⟩) (dq 56 12 rfl (cZ Tryz.call128 La ⟨(Ht rfl),trivial⟩) ?_))))))))))
   refine fG aO rfl (by kernel_rfl) (zF (zF (zF (aJ (aJ (aV (ro rfl (cP U_22 Z_48 (Ht rfl) (Ht rfl) rfl (i:=4) rfl (by rw [fH]; omega) rfl) ?_)))))))
   refine lE Z_48 (Ht rfl) (Ht rfl) (El.ag rfl) (i:=4) rfl rfl (by rw [fH]; omega) rfl ?_
   refine eJ (bC (cY (ro rfl (dW (Ht rfl) (cJ 1) z6) (rm rfl (eJ (gQ (j + 1) he zo (zS rfl) (aU (fun _ _ _ h=>h) (aU (aB rfl) (aU (fun _ _ _ h=>h) (aU (fun _ _ _ h=>h) (aU (bL (lI (f:=fun j=>lN (Am (Jo sl (lM a * i + j)))))) aY)))))))))))
  ·simp only [decide_eq_false_iff_not] at he
   have hjn:j = lM a:=Nat.le_antisymm hj zo
   rw [hjn,lH]
   refine gG rfl (bC (jH 3 4 rfl rfl (by decide) (by rw [fH]; omega) ?_))
   refine cY (ro rfl (dW (Ht rfl) (cJ 1) z6) (rm rfl (eJ (eB [0,1,2,3] rfl (by decide) (gQ (i + 1) hd zo (zS rfl) (aU (fun _ _ _ h=>h) (aU (aB rfl) (aU (fun _ _ _ h=>h) (aU (dM (lI (f:=(fun i=>tab (lM a) fun j=>lN (Am (Jo sl (lM a * i + j))))))) aY)))))))))
 ·simp only [decide_eq_false_iff_not] at hd
  have hin:i = lM a:=Nat.le_antisymm hi zo
  rw [hin,lH,lH]
  refine gG rfl (gW (i:=2) (tt:=5) rfl rfl iY (ts (rm rfl (rm rfl (ra rfl (ra rfl (eJ ?_)))))))
  exact kG B17 trivial [0,3] ⟨⟨_,rfl,fun _ _ _ h=>h⟩,⟨_,rfl,fun _ _ _ h=>h⟩,trivial⟩ (by decide) (a1g rfl (fJ (fQ rfl) (jC (by rw [vE,mB]))) (fQ rfl))
theorem a2n {T U U':Ty} {v:Value} {V:aR} (h:(fR [T,U]).p v V) (hU:∀ u,U.p u V → U'.p u V):(fR [T,U']).p v V:=by
 obtain ⟨vs,h1,h2⟩:=h
 match vs,h2 with
 | [x,y],⟨a,b,c⟩=>exact ⟨[x,y],h1,a,hU y b,c⟩
theorem Vf {a : Nat} {zl sl : List Rt} (ha : a < 256) : aP Tryz.prog 92 [Kd a zl sl] (fR [lF (vE a zl), Ph (uO a sl)]) := (Pw ha).fun fun B _ v S V h1 h2 => a2n h1 fun u hu => by
 exact jC (Sw a sl) u V (a2f (aT _ _).symm u S V hu h2)
theorem Vc {a:Nat} {zl sl:List Rt} (ha:a < 256):aP Tryz.prog 15 [Kd a zl sl] (fR [gR ((vE a zl).map Rt.q) (rq (uO a sl)),mD ((vE a zl).map Rt.q) (rq (uO a sl)),aC true]):=by
 have hn:lM a ≤ 4:=by unfold lM; omega
 have herr:=Sx a zl sl
 have hzl:(vE a zl).length = lM a:=aT _ _
 have hsl:(uO a sl).length = lM a:=aT _ _
 have hall:∀ r,r ∈ uO a sl → r.length ≤ 1000:=fun r hr=>by obtain ⟨i,_,rfl⟩:=eE.1 hr; rw [aT]; omega
 have hsh:=(rZ herr).2.2.1
 have z1:((vE a zl).map Rt.q).length ≤ 1000:=by rw [List.length_map,hzl]; omega
 have s1:(rq (uO a sl)).length ≤ 1000:=by rw [List.length_map,hsl]; omega
 have hcv:∀ v V,(fR [gR (pV (cO ((vE a zl).map Rt.q) (rq (uO a sl))) ((vE a zl).map Rt.q)) (pV (cO ((vE a zl).map Rt.q) (rq (uO a sl))) (rq (uO a sl))),aN .i64 (cO ((vE a zl).map Rt.q) (rq (uO a sl)))]).p v V → (fR [gR ((vE a zl).map Rt.q) (rq (uO a sl)),aN .i64 0]).p v V:=by rw [herr]; exact fun _ _ h=>h
 have hcv2:∀ v V,(fR [mD (pV (cO ((vE a zl).map Rt.q) (rq (uO a sl))) ((vE a zl).map Rt.q)) (pV (cO ((vE a zl).map Rt.q) (rq (uO a sl))) (rq (uO a sl))),aN .i64 (cO ((vE a zl).map Rt.q) (rq (uO a sl)))]).p v V → (fR [mD ((vE a zl).map Rt.q) (rq (uO a sl)),aN .i64 0]).p v V:=by rw [herr]; exact fun _ _ h=>h
 refine aP.intro Tryz.func15 rfl Tryz.ntmps15 rfl (fun cx=>(ts (rn rfl (fU (Ht rfl)) fun B1=>(rn rfl (eK (Ts:=[Is (.slice none 0 0),Is (.slice none 0 0)]) O_28 rfl (fun V=>aW zd (aW zd (aG)))) fun B2=>(rn rfl (eK (Ts:=[Is (.slice none 0 0),Is (.slice none 0 0)]) O_32 rfl (fun V=>aW zd (aW zd (aG)))) fun B3=>(ro rfl (cQ cV) (eJ (ts (ro rfl (eG Tryz.isAgg24 Tryz.sizeOf24 (Ht rfl) (i:=0) rfl rfl rfl) (ro rfl (cZ Tryz.call92 (Vf ha) ⟨(Ht rfl),trivial⟩) ?_))))))))))
 refine rm rfl (ro rfl (dY (Ht rfl) rfl) (ro rfl (dY (Ht rfl) rfl) (ra rfl (ra rfl (eJ (ts (rm rfl (ro rfl (cZ Tryz.call48 (uR zo) ⟨(Ht rfl),trivial⟩) (rm rfl (ro rfl (cZ Tryz.call94 (Be zo hall) ⟨(Ht rfl),trivial⟩) (ro rfl (cZ Tryz.call93 (eZ (Ew (z:=((vE a zl).map Rt.q)) (s:=(rq (uO a sl))) (L:=2) cD.rt (by decide) z1 s1) hcv) ⟨(Ht rfl),(Ht rfl),trivial⟩) (rm rfl (ro rfl (dY (Ht rfl) rfl) (ro rfl (dY (Ht rfl) rfl) (rn rfl (eK (Ts:=[Is (.slice none 0 0),Is (.slice none 0 0)]) O_28 rfl (fun V=>aW zd (aW zd (aG)))) fun B7=>?_)))))))))))))))
 refine gZ Z_28 (Ht rfl) (Ht rfl) rfl (i:=3) rfl (aK rfl) rfl rfl (ra rfl (eJ (ts (rm rfl (ro rfl (cZ Tryz.call96 (yO zo) ⟨(Ht rfl),trivial⟩) (rm rfl (ro rfl (cZ Tryz.call97 (Iz zo hall) ⟨(Ht rfl),trivial⟩) (ro rfl (cZ Tryz.call95 (eZ (Mz (z:=((vE a zl).map Rt.q)) (s:=(rq (uO a sl))) (L:=2) cD.rt (by decide) z1 s1) hcv2) ⟨(Ht rfl),(Ht rfl),trivial⟩) (rm rfl (ro rfl (dY (Ht rfl) rfl) (ro rfl (dY (Ht rfl) rfl) (rn rfl (eK (Ts:=[Is (.slice none 0 0),Is (.slice none 0 0)]) O_32 rfl (fun V=>aW zd (aW zd (aG)))) fun B9=>?_))))))))))))
 refine gZ Z_32 (Ht rfl) (Ht rfl) rfl (i:=4) rfl (aK rfl) rfl rfl (ra rfl (eJ (cK (Y.D_start (m:=11) [(9,1,box B2 28 [cE ((vE a zl).map Rt.q),fB (rq (uO a sl))]),(10,2,box B3 32 [uJ ((vE a zl).map Rt.q),QM (rq (uO a sl))])] (Y.D_step (Ei:=[(7,_)]) rfl rfl (bQ (bJ rfl rfl) bX) rfl rfl (by kernel_rfl) (dX rfl (eG A_28 Z_28 (Ht rfl) (i:=3) rfl rfl rfl)) (bY (Ei:=[(9,_)]) rfl rfl (bQ (bJ rfl rfl) bX) rfl rfl (dX rfl (eG A_32 Z_32 (Ht rfl) (i:=4) rfl rfl rfl)) ?_))))))
 refine Y.D_step (Ei:=[(8,_)]) rfl rfl (bQ (bJ rfl rfl) bX) rfl rfl (by kernel_rfl) (dX rfl (cX (Ht rfl))) (Y.D_step (Ei:=[(34,_)]) rfl rfl (bQ (bZ 2 rfl rfl) bX) rfl rfl (by kernel_rfl) (dX rfl (jB (Ht rfl) cV)) (Y.D_step (Ei:=[(35,_)]) rfl rfl (bQ (bZ 3 rfl rfl) bX) rfl rfl (by kernel_rfl) (dX rfl (cX (Ht rfl))) (Y.D_step (Ei:=[(7,_),(36,_)]) rfl rfl (bQ (bJ rfl rfl) (bQ (bZ 4 rfl rfl) bX)) rfl rfl (by kernel_rfl) (eY rfl rfl (Ht rfl) (fun h=>eG A_28 Z_28 (Ht rfl) (i:=3) rfl rfl rfl)) ?_)))
 refine Y.D_step (Ei:=[(9,_),(36,_)]) rfl rfl (bQ (bJ rfl rfl) (bQ (bZ 4 rfl rfl) bX)) rfl rfl (by kernel_rfl) (eY rfl rfl (Ht rfl) (fun h=>eG A_32 Z_32 (Ht rfl) (i:=4) rfl rfl rfl)) (Y.D_step (Ei:=[(37,_),(38,_),(36,_)]) rfl rfl (bQ (bZ 5 rfl rfl) (bQ (bZ 6 rfl rfl) (bQ (bZ 4 rfl rfl) bX))) rfl rfl (by kernel_rfl) (eY rfl rfl (Ht rfl) (fun h=>cZ Tryz.call25 (Zs (z:=((vE a zl).map Rt.q)) (s:=(rq (uO a sl))) (L:=2) cD.rt bP.rt (by decide) (by decide) hsh z1) ⟨(fW rfl h),(fW rfl h),trivial⟩)) ?_)
 refine bY (Ei:=[(36,_),(39,_)]) rfl rfl (bQ (bZ 4 rfl rfl) (bQ (bZ 7 rfl rfl) bX)) rfl rfl (dX rfl (dO (Ht rfl) (fun h=>(fW rfl h)))) (Y.D_putI (Ei:=[(2,_),(32,_)]) 1 rfl rfl rfl (bQ (bJ rfl rfl) (bQ (bZ 0 rfl rfl) bX)) (.head _) rfl (mY Z_28 (Ht rfl) (Ht rfl) rfl (i:=0) rfl (aK rfl) rfl rfl) (Y.D_putI (Ei:=[(3,_),(33,_)]) 2 rfl rfl rfl (bQ (bJ rfl rfl) (bQ (bZ 1 rfl rfl) bX)) (.tail _ (.head _)) rfl (mY Z_32 (Ht rfl) (Ht rfl) rfl (i:=0) rfl (aK rfl) rfl rfl) ?_))
 refine Y.D_done aO rfl (by kernel_rfl) rfl (by simp [Y.okP]) rfl rfl (bU (bU (bU (bU (bU (bU (bU (bU (bU (Y.F_putI (Y.F_putI (Y.F_nil ?_))))))))))))
 refine ra rfl (eJ (yH rfl (fY A_28 Z_28 rfl (i:=1) rfl rfl) (fY A_32 Z_32 rfl (i:=2) rfl rfl) (fJ (fQ rfl) ?_)))
 exact (bN (by simp))
end
section
open Go Go.RowKit
theorem yL {a:Nat} {zl sl:List Rt} (ha:a < 256):aP Tryz.prog 3 [Kd a zl sl] (aC true):=by
 refine aP.intro Tryz.func3 rfl Tryz.ntmps3 rfl (fun cx=>(ts (rn rfl (fU (Ht rfl)) fun B1=>(ro rfl (cQ cV) (eJ (ts (ro rfl (eW De (Ht rfl) rfl) (ro rfl (fX A_5 Z_5 (Ht rfl) (i:=0) rfl rfl) (ro rfl (kE (Ht rfl) (cJ 3) zo) (ro rfl (eW De (Ht rfl) rfl) (jT Z_5 (Ht rfl) (Ht rfl) (i:=0) rfl (aK rfl) rfl (eJ (cK ?_)))))))))))))
 have herr:=Sx (a % 3) zl sl
 obtain ⟨h1,h8,hsh,hp⟩:=rZ herr
 have hB:=Vc (a:=a % 3) (zl:=zl) (sl:=sl) zo
 have hz:cD ((vE (a % 3) zl).map Rt.q) 2:=cD.rt
 have hs:bP (rq (uO (a % 3) sl)) 2:=bP.rt
 obtain ⟨X,hX⟩:∃ X,X = (vE (a % 3) zl).map Rt.q:=⟨_,rfl⟩
 obtain ⟨S,hS⟩:∃ S,S = rq (uO (a % 3) sl):=⟨_,rfl⟩
 rw [← hX] at h1 h8 hsh hp hB hz
 rw [← hS] at hsh hB hs
 have hsd:=Za (mR X S) (pQ hz hs (by decide) hp h8) (by decide) (by decide) h8
 have hP:=Bb hz hs (by decide) (by decide) hsh h8 hp (fun _=>hsd)
 have hPr:=sY hz hs (by decide) (by decide) hp hsh h8 (fun _=>hsd)
 have hR:=Vg hz hs (by decide) (by decide) hsh h8
 have hRr:=Qj hz hs (by decide) (by decide) hsh h8
 have hL:=Im hz hs (by decide) (by decide) hp hsh h8
 have hLr:=Fd hz hs (by decide) (by decide) hp hsh h8
 have hK:=Py hz hs (by decide) (by decide) hp hsh h1 h8
 have hKr:=My hz hs (by decide) (by decide) hp hsh h1 h8
 have hm:=Yl (z:=X) (s:=S) hp
 have hwn:=Wq (h:=oB X S) (n:=X.length)
 have hww:=fun k=>Wr (mR X S) hm k
 have hwf:=Wp hsd
 have hga : (!uK (oB X S) X.length) = true → aP Tryz.prog 22 [gR X S, cE (Jc (oB X S) X.length)] (aC true) := fun k => by
  obtain ⟨w1,w2⟩:=hww (by simpa using k)
  exact Qe (L:=2500000000) (hz.le (by decide)) (hs.le (by decide)) (hwf.le (by decide)) (by decide) (by decide) hp hsh h1 h8 w2 w1 (Mi (Mn fun a b ha hb=>Lo hm ha hb))
 obtain ⟨k1,k2⟩:=Hb X S
 have hSc:=uT (z:=X) (s:=S) (k:=Oo X S) hs (by decide) (by decide) zo hsh h1 h8
 have hSd:=uT (z:=X) (s:=S) (k:=Oo X S + 1) hs (by decide) (by decide) zo hsh h1 h8
 have hz3:cD X 5:=hz.le (by decide)
 have hfd:bP (wX S X.length (Oo X S + 1)) 5:=xP hs (by decide) zo
 have hPd:=sY hz3 hfd (by decide) (by decide) hp (xQ _ _ _) h8 (fun _=>Za (mR _ _) (pQ hz3 hfd (by decide) hp h8) (by decide) (by decide) h8)
 refine cY (ro rfl (eG Tryz.isAgg24 Tryz.sizeOf24 (Ht rfl) (i:=0) rfl rfl rfl) (ro rfl (cZ Tryz.call15 hB ⟨(Ht rfl),trivial⟩) (rm rfl (ro rfl (dY (Ht rfl) rfl) (ro rfl (dY (Ht rfl) rfl) (ro rfl (dY (Ht rfl) rfl) (rn rfl (eK (Ts:=[Is (.slice none 0 0),Is (.slice none 0 0)]) O_28 rfl (fun V=>aW zd (aW zd (aG)))) fun B3=>(rn rfl (eK (Ts:=[Is (.slice none 0 0),Is (.slice none 0 0)]) O_32 rfl (fun V=>aW zd (aW zd (aG)))) fun B4=>?_))))))))
 refine gZ Z_28 (Ht rfl) (Ht rfl) rfl (i:=1) rfl (aK rfl) rfl rfl (gZ Z_32 (Ht rfl) (Ht rfl) rfl (i:=2) rfl (aK rfl) rfl rfl (ra rfl (eJ (cK (ts (rm rfl (ro rfl (dT (Ht rfl)) (eJ (gS (Ht rfl) (by rfl) ?_)))))))))
 refine cU (ts (ro rfl (eG A_28 Z_28 (Ht rfl) (i:=1) rfl rfl rfl) (ro rfl (cZ Tryz.call16 hP ⟨(Ht rfl),trivial⟩) (rm rfl (ro rfl (dY (Ht rfl) rfl) (ro rfl (dY (Ht rfl) rfl) (ra rfl (ra rfl (eJ (cK (cK (fV (m:=16) (dp 3 rfl (eG A_28 Z_28 (Ht rfl) (i:=1) rfl rfl rfl) (dq 27 0 rfl (cZ Tryz.call17 hR ⟨(Ht rfl),trivial⟩) (dp 4 rfl (eG A_32 Z_32 (Ht rfl) (i:=2) rfl rfl rfl) (dq 29 2 rfl (cZ Tryz.call18 hRr ⟨(Ht rfl),trivial⟩) (bR 28 1 30 3 rfl (vD U_4 (Ht rfl) (Ht rfl)) ?_)))))))))))))))))
 refine dq 31 4 rfl (cX (Ht rfl)) (C.D_step (Ei:=[(3,_),(32,_)]) rfl rfl (bV (bK rfl rfl) (bV (bG 5 rfl rfl) bW)) (dF rfl rfl (Ht rfl) (fun h=>eG A_28 Z_28 (Ht rfl) (i:=1) rfl rfl rfl)) (C.D_step (Ei:=[(33,_),(32,_)]) rfl rfl (bV (bG 6 rfl rfl) (bV (bG 5 rfl rfl) bW)) (dF rfl rfl (Ht rfl) (fun h=>cZ Tryz.call19 hL ⟨(bB.wu rfl h),trivial⟩)) (C.D_step (Ei:=[(4,_),(32,_)]) rfl rfl (bV (bK rfl rfl) (bV (bG 5 rfl rfl) bW)) (dF rfl rfl (Ht rfl) (fun h=>eG A_32 Z_32 (Ht rfl) (i:=2) rfl rfl rfl)) ?_)))
 refine C.D_step (Ei:=[(35,_),(32,_)]) rfl rfl (bV (bG 8 rfl rfl) (bV (bG 5 rfl rfl) bW)) (dF rfl rfl (Ht rfl) (fun h=>cZ Tryz.call20 hLr ⟨(bB.wu rfl h),trivial⟩)) (C.D_step (Ei:=[(34,_),(36,_),(32,_)]) rfl rfl (bV (bG 7 rfl rfl) (bV (bG 9 rfl rfl) (bV (bG 5 rfl rfl) bW))) (dF rfl rfl (Ht rfl) (fun h=>vD U_4 (bB.wu rfl h) (bB.wu rfl h))) (bR 32 5 37 10 rfl (kP (Ht rfl) (fun h=>(bB.wu rfl h))) (dq 38 11 rfl (cX (Ht rfl)) (C.D_step (Ei:=[(6,_),(39,_)]) rfl rfl (bV (bK rfl rfl) (bV (bG 12 rfl rfl) bW)) (dF rfl rfl (Ht rfl) (fun h=>cX (Ht rfl))) ?_))))
 refine C.D_step (Ei:=[(4,_),(39,_)]) rfl rfl (bV (bK rfl rfl) (bV (bG 12 rfl rfl) bW)) (dF rfl rfl (Ht rfl) (fun h=>eG A_32 Z_32 (Ht rfl) (i:=2) rfl rfl rfl)) (C.D_step (Ei:=[(41,_),(39,_)]) rfl rfl (bV (bG 14 rfl rfl) (bV (bG 12 rfl rfl) bW)) (dF rfl rfl (Ht rfl) (fun h=>cZ Tryz.call21 hPr ⟨(bB.wu rfl h),trivial⟩)) (fG aO rfl (by kernel_rfl) (zF (zF (zF (zF (aV ?_)))))))
 refine fZ rfl rfl (dF rfl rfl (Ht rfl) (fun h=>vD U_4 (bB.wu rfl h) (bB.wu rfl h))) (ro rfl (kP (Ht rfl) (fun h=>(bB.wu rfl h))) (rm rfl (fZ rfl rfl (dF rfl rfl (Ht rfl) (fun h=>cX (Ht rfl))) (fZ rfl rfl (dF rfl rfl (Ht rfl) (fun h=>cX (bB.wu rfl h))) (fZ rfl rfl (jM rfl rfl rfl (fun h h2=>cX (Ht rfl))) (fZ rfl rfl (jM rfl rfl rfl (fun h h2=>dU U_25 (bB.wu rfl ⟨h,h2⟩) aA)) (fZ rfl rfl (jM rfl rfl rfl (fun h h2=>eN (bB.wu rfl ⟨h,h2⟩) (cJ 0))) ?_)))))))
 refine fZ rfl rfl (dF rfl rfl (Ht rfl) (fun h=>dO (bB.wu rfl h) (fun h2=>(bB.wu rfl ⟨h,h2⟩)))) (ro rfl (kP (Ht rfl) (fun h=>(bB.wu rfl h))) (eJ (gS (Ht rfl) (by by_cases e:uK (oB X S) X.length = true <;> simp [e,hwn]) ?_)))
 refine cU (cK (ts (rm rfl (ro rfl (dT (Ht rfl)) (rm rfl (fZ rfl rfl (eY rfl rfl (Ht rfl) (fun h=>eG A_28 Z_28 (Ht rfl) (i:=1) rfl rfl rfl)) (fZ rfl rfl (eY rfl rfl (Ht rfl) (fun h=>cX (Ht rfl))) (fZ rfl rfl (eY rfl rfl (Ht rfl) (fun h=>cZ Tryz.call22 (hga (by first | exact h | simpa using h)) ⟨(fW rfl h),(fW rfl h),trivial⟩)) (fZ rfl rfl (eY rfl rfl (Ht rfl) (fun h=>dT (fW rfl h))) (ro rfl (dO (Ht rfl) (fun h=>(fW rfl h))) (eJ (gS (Ht rfl) (by simp) ?_))))))))))))
 refine cU (ts (ro rfl (eG A_28 Z_28 (Ht rfl) (i:=1) rfl rfl rfl) (ro rfl (cZ Tryz.call23 hK ⟨(Ht rfl),trivial⟩) (rm rfl (ro rfl (dY (Ht rfl) rfl) (ro rfl (dY (Ht rfl) rfl) (rn rfl (eK (Ts:=[Is (.slice none 0 0),Is (.slice none 0 0)]) O_28 rfl (fun V=>aW zd (aW zd (aG)))) fun B8=>(gZ Z_28 (Ht rfl) (Ht rfl) rfl (i:=3) rfl (aK rfl) rfl rfl (ra rfl (eJ (cK ?_)))))))))))
 have hfk:bP (wX S X.length (Oo X S)) 5:=xP hs (by decide) zo
 have hIs:=Zs (L:=5) (hz.le (by decide)) hfk (by decide) (by decide) (xQ S X.length (Oo X S)) zo
 refine fV (m:=18) (dp 9 rfl (cX (Ht rfl)) (dp 4 rfl (eG A_32 Z_32 (Ht rfl) (i:=2) rfl rfl rfl) (dq 67 1 rfl (cZ Tryz.call24 hKr ⟨(Ht rfl),trivial⟩) (bR 66 0 68 2 rfl (cA (Ht rfl) (Ht rfl)) (dq 69 3 rfl (cX (Ht rfl)) (C.D_step (Ei:=[(8,_),(70,_)]) rfl rfl (bV (bK rfl rfl) (bV (bG 4 rfl rfl) bW)) (dF rfl rfl (Ht rfl) (fun h=>eG A_28 Z_28 (Ht rfl) (i:=3) rfl rfl rfl)) (C.D_step (Ei:=[(4,_),(70,_)]) rfl rfl (bV (bK rfl rfl) (bV (bG 4 rfl rfl) bW)) (dF rfl rfl (Ht rfl) (fun h=>eG A_32 Z_32 (Ht rfl) (i:=2) rfl rfl rfl)) ?_)))))))
 refine C.D_step (Ei:=[(9,_),(70,_)]) rfl rfl (bV (bK rfl rfl) (bV (bG 4 rfl rfl) bW)) (dF rfl rfl (Ht rfl) (fun h=>cX (Ht rfl))) (C.D_step (Ei:=[(72,_),(73,_),(70,_)]) rfl rfl (bV (bG 6 rfl rfl) (bV (bG 7 rfl rfl) (bV (bG 4 rfl rfl) bW))) (dF rfl rfl (Ht rfl) (fun h=>cZ Tryz.call26 hSc ⟨(bB.wu rfl h),(bB.wu rfl h),trivial⟩)) (C.D_step (Ei:=[(71,_),(74,_),(70,_)]) rfl rfl (bV (bG 5 rfl rfl) (bV (bG 8 rfl rfl) (bV (bG 4 rfl rfl) bW))) (dF rfl rfl (Ht rfl) (fun h=>cZ Tryz.call25 hIs ⟨(bB.wu rfl h),(bB.wu rfl h),trivial⟩)) ?_))
 refine bR 70 4 75 9 rfl (dO (Ht rfl) (fun h=>(bB.wu rfl h))) (dq 76 10 rfl (cX (Ht rfl)) (C.D_step (Ei:=[(9,_),(77,_)]) rfl rfl (bV (bK rfl rfl) (bV (bG 11 rfl rfl) bW)) (dF rfl rfl (Ht rfl) (fun h=>cX (Ht rfl))) (C.D_step (Ei:=[(78,_),(77,_)]) rfl rfl (bV (bG 12 rfl rfl) (bV (bG 11 rfl rfl) bW)) (dF rfl rfl (Ht rfl) (fun h=>cA (bB.wu rfl h) (cJ 1024))) (C.D_step (Ei:=[(79,_),(77,_)]) rfl rfl (bV (bG 13 rfl rfl) (bV (bG 11 rfl rfl) bW)) (dF rfl rfl (Ht rfl) (fun h=>cX (bB.wu rfl h))) ?_))))
 refine C.D_step (Ei:=[(4,_),(80,_)]) rfl rfl (bV (bK rfl rfl) (bV (bG 14 rfl rfl) bW)) (jM rfl rfl rfl (fun h h2=>eG A_32 Z_32 (Ht rfl) (i:=2) rfl rfl rfl)) (C.D_step (Ei:=[(9,_),(80,_)]) rfl rfl (bV (bK rfl rfl) (bV (bG 14 rfl rfl) bW)) (jM rfl rfl rfl (fun h h2=>cX (Ht rfl))) (C.D_step (Ei:=[(82,_),(80,_)]) rfl rfl (bV (bG 16 rfl rfl) (bV (bG 14 rfl rfl) bW)) (jM rfl rfl rfl (fun h h2=>dW (bB.wu rfl ⟨h,h2⟩) (cJ 1) (by show _ < 9223372036854775808; first | omega | (simp at h; omega)))) ?_))
 refine fG aO rfl (by kernel_rfl) (zF (zF (zF (zF (aJ (aJ (aV (fZ rfl rfl (jM rfl rfl rfl (fun h h2=>cZ Tryz.call26 hSd ⟨(bB.wu rfl ⟨h,h2⟩),(bB.wu rfl ⟨h,h2⟩),trivial⟩)) (fZ rfl rfl (jM rfl rfl rfl (fun h h2=>cZ Tryz.call21 hPd ⟨(bB.wu rfl ⟨h,h2⟩),trivial⟩)) (fZ rfl rfl (jM rfl rfl rfl (fun h h2=>dT (bB.wu rfl ⟨h,h2⟩))) (fZ rfl rfl (dF rfl rfl (Ht rfl) (fun h=>kP (bB.wu rfl h) (fun h2=>(bB.wu rfl ⟨h,h2⟩)))) ?_)))))))))))
 refine ro rfl (dO (Ht rfl) (fun h=>(bB.wu rfl h))) (rm rfl (fZ rfl rfl (dF rfl rfl (Ht rfl) (fun h=>cZ Tryz.call27 Qc trivial)) (ro rfl (dO (Ht rfl) (fun h=>(bB.wu rfl h))) (ra rfl (eJ (fK rfl (fJ (fQ rfl) ?_)))))))
 exact (bN (by rcases k2 with e | e <;> simp [e]))
end
section
open Go Go.ChangeShapes Go.WideShapes Go.ChangeAt Go.RowKit Go.Deep
section
variable {H:Type} {enc:TypeId × Value → H} {W:World} {base:Nat} {sp:Nat → Bool} {held:Bool}
theorem a2l:S3 Tryz.prog 24 5 22 22:=⟨⟨_,_,_,Tryz.underlying24,rfl,rfl,rfl,rfl,rfl,rfl⟩,by kernel_rfl,by kernel_rfl,by kernel_rfl,by kernel_rfl⟩
theorem Jx {b0:Nat} {v:Value} {d:DataW H} {p:List MemPlace} (ho:Value.okWide Tryz.prog W .any b0 24 v) (h:DataW.Trod enc Tryz.prog W base sp held 24 v d p):∃ (a:Nat) (zl sl:List Rt),(fI [NT .u8 a,lF zl,lF sl]).p v (hv W) ∧ a < 256:=by
 obtain ⟨cs,rfl,_⟩:=okWide_struct Tryz.underlying24 ho
 obtain ⟨n,hn⟩:=h
 obtain ⟨x0,x1,x2,m,y0,y1,y2,hcs,h0,h1,h2⟩:=a2l.open hn
 obtain ⟨i,e0,_,w⟩:=DataW.trod_int Tryz.underlying5 h0
 obtain ⟨v1,z,e1,k1⟩:=Bv h1
 obtain ⟨v2,s,e2,k2⟩:=Bv h2
 simp only [List.cons.injEq,and_true] at e0 e1 e2
 subst e0 e1 e2
 have hw:=a2a w
 have e:((i.toNat:Nat):Int) = i:=by omega
 have hi:∀ V,(NT .u8 i.toNat).p (.int .u8 i) V:=fun V=>by rw [show NT .u8 i.toNat = aN .u8 i from congrArg (aN .u8) e]; rfl
 have hcs2:cs.toList = [.int .u8 i,x1,x2]:=hcs
 exact ⟨i.toNat,z,s,⟨cs.toList,rfl,by rw [hcs2]; exact aW ⟨hi _,trivial⟩ (aW ⟨k1,(Hh k1).2⟩ (aW ⟨k2,(Hh k2).2⟩ aG))⟩,by omega⟩
end
end
end Go.Proofs.YtdlciihkiefckaaGreat
