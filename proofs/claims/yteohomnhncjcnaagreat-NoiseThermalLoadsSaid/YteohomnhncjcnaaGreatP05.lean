/- What functions of the program compute, proved by walks over their code, and the plain mathematics of it; a part of the proof in the last text. -/
import Derived.Test.YteohomnhncjcnaaGreatP04
set_option linter.unusedVariables false
set_option linter.unusedSimpArgs false
set_option maxRecDepth 100000
set_option maxHeartbeats 4000000
namespace Go.Proofs.YteohomnhncjcnaaGreat
section
open Go Go.RowKit
def wst (w : Nat) : Nat → Nat
 | 0=>w
 | c + 1=>2 * wst w c + 1
theorem Cw (w : Nat) : ∀ {c d : Nat}, c ≤ d → wst w c ≤ wst w d
 | c,0,h=>by rw [show c = 0 by omega]; exact Nat.le_refl _
 | c, d + 1, h => by
  by_cases e:c = d + 1
  ·rw [e]; exact Nat.le_refl _
  ·have := Cw w (c := c) (d := d) zo
   simp only [wst]; omega
theorem a02 {w v : Nat} (h : w ≤ v) : ∀ c, wst w c ≤ wst v c
 | 0=>h
 | c + 1=>by have:=a02 h c; simp only [wst]; omega
def vX (r:List Qi) (w:Nat):Prop:=∃ d:Qi,d ≠ 0 ∧ Gb d (BB ^ w) ∧ ∀ j,Gb (d * gv r j) (BB ^ w)
theorem vX.le {r:List Qi} {w v:Nat} (h:vX r w) (k:w ≤ v):vX r v:=by
 obtain ⟨d,d0,dg,dj⟩:=h
 have hp:BB ^ w ≤ BB ^ v:=Nat.pow_le_pow_right eB k
 exact ⟨d,d0,dg.le hp,fun j=>(dj j).le hp⟩
theorem Ns (w:Nat):2 * BB ^ w * BB ^ w + 2 * BB ^ w * BB ^ w ≤ BB ^ (2 * w + 1):=by
 have e:BB ^ (2 * w + 1) = BB ^ w * BB ^ w * BB:=by rw [Nat.pow_succ,Nat.two_mul,Nat.pow_add]
 rw [e,Nat.mul_assoc 2,← Nat.two_mul,← Nat.mul_assoc 2 2,Nat.mul_comm (2 * 2)]
 exact Nat.mul_le_mul_left _ (by decide)
theorem Xb {l:List Qi} {j:Nat} (h:l.length ≤ j):gv l j = 0:=by simp [gv,List.getD,List.getElem?_eq_none h]; rfl
theorem Pk (N:Nat):Gb 0 N:=⟨0,0,Qi.ext' rfl rfl,by simp,by simp⟩
theorem vX.red {rr rc:List Qi} {c w:Nat} {P:Nat → Prop} [DecidablePred P] (h1:vX rr w) (h2:vX rc w) (hp:gv rc c ≠ 0):vX (tab rr.length fun j=>if P j then gv rr j - gv rr c / gv rc c * gv rc j else gv rr j) (2 * w + 1):=by
 obtain ⟨d,d0,dg,dj⟩:=h1
 obtain ⟨e,e0,eg,ej⟩:=h2
 have t:=Ns w
 refine ⟨d * (e * gv rc c),fun k=>?_,(dg.mul (ej c)).le zo,fun j=>?_⟩
 ·rcases iY k with k | k
  ·exact d0 k
  ·rcases iY k with k | k
   ·exact e0 k
   ·exact hp k
 ·by_cases hj : j < rr.length
  ·rw [iJ hj]
   by_cases hP:P j
   ·rw [if_pos hP]
    have hd:=xQ (x:=gv rr c) hp
    have ee : d * (e * gv rc c) * (gv rr j - gv rr c / gv rc c * gv rc j) = d * gv rr j * (e * gv rc c) - d * gv rr c * (e * gv rc j) := by
     have e2:d * (e * gv rc c) * (gv rr c / gv rc c * gv rc j) = d * (gv rr c / gv rc c * gv rc c) * (e * gv rc j):=by grind
     rw [hd] at e2
     grind
    rw [ee]
    exact (((dj j).mul (ej c)).sub ((dj c).mul (ej j))).le t
   ·rw [if_neg hP]
    have ee:d * (e * gv rc c) * gv rr j = d * gv rr j * (e * gv rc c):=by grind
    rw [ee]
    exact ((dj j).mul (ej c)).le zo
  ·rw [Xb (l := tab rr.length fun j => if P j then gv rr j - gv rr c / gv rc c * gv rc j else gv rr j) (by rw [aN]; omega)]
   have ee:d * (e * gv rc c) * 0 = 0:=by grind
   rw [ee]; exact Pk _
theorem vX.fit {r : List Qi} {w : Nat} (h : vX r w) : bP r (4 * (w + 1) + 2) := fun x hx => by
 obtain ⟨d,d0,dg,dj⟩:=h
 obtain ⟨j,hj,e⟩:=List.getElem_of_mem hx
 have e2:gv r j = x:=by simp [gv,List.getD,hj,e]
 have hlt:BB ^ w < BB ^ (w + 1):=Nat.pow_lt_pow_right (by decide) zo
 have f1:aE (d * gv r j) (w + 1):=(dj j).fit hlt zo
 have f2:aE d (w + 1):=dg.fit hlt zo
 have f3:aE (d * gv r j / d) (w + 1 + 3 * (w + 1) + 2):=wG f1 f2 d0
 rw [Fy (z:=x) d0 (by rw [e2]; grind)] at f3
 exact f3.le zo
theorem a1R {r:List Qi} {m L:Nat} (hl:r.length = m) (h:bP r L) (hL:1 ≤ L):vX r (m * L):=by
 obtain ⟨d,d0,dl,dj⟩:=Gy (L:=L) (x:=gv r) m fun j _=>h.get hL j
 refine ⟨Qi.ofInt d,Jx d0,⟨d,0,Qi.ext' rfl (by show (0:Rat) = ((0:Int):Rat); rfl),by simpa using dl,by simp⟩,fun j=>?_⟩
 by_cases hj:j < m
 ·exact dj j hj
 ·rw [Xb zo]
  have ee:Qi.ofInt d * 0 = 0:=by grind
  rw [ee]; exact Pk _
abbrev oH (M:List (List Qi)) (w:Nat):Prop:=∀ r,r ∈ M → vX r w
theorem oH.row {M : List (List Qi)} {w i : Nat} (h : oH M w) (hi : i < M.length) : vX (dT M i) w := h _ (by
 rw [show dT M i = M[i] by simp [dT,List.getD,hi]]; exact List.getElem_mem hi)
theorem Zh {M:List (List Qi)} {n m L:Nat} (hs:cM M n m) (h:bC M L) (hL:1 ≤ L):oH M (m * L):=fun r hr=>a1R (hs.2 r hr) (h r hr) hL
theorem oH.swp {M : List (List Qi)} {w p c : Nat} (h : oH M w) (hp : p < M.length) (hc : c < M.length) : oH (swp [] M p c) w := fun x hx => by
 unfold Go.Proofs.YteohomnhncjcnaaGreat.swp at hx
 rcases List.mem_or_eq_of_mem_set hx with h1 | h1
 ·rcases List.mem_or_eq_of_mem_set h1 with h2 | h2
  ·exact h x h2
  ·rw [h2]; exact h.row hc
 ·rw [h1]; exact h.row hp
theorem oH.redM {M : List (List Qi)} {w c r : Nat} (h : oH M w) (hc : c < M.length) (hp : gm M c c ≠ Qi.zero) : oH (redM M c r) (2 * w + 1) := fun x hx => by
 obtain ⟨i,hi,rfl⟩:=eA.1 hx
 show vX (if c < i ∧ i < r then kX (dT M i) (dT M c) c (dT M i).length else dT M i) _
 split
 ·exact (h.row hi).red (h.row hc) hp
 ·exact (h.row hi).le zo
theorem oH.redJ {M : List (List Qi)} {w c r : Nat} (h : oH M w) (hc : c < M.length) (hp : gm M c c ≠ Qi.zero) : oH (redJ M c r) (2 * w + 1) := fun x hx => by
 obtain ⟨i,hi,rfl⟩:=eA.1 hx
 show vX (if i ≠ c ∧ i < r then yQ (dT M i) (dT M c) c (dT M i).length else dT M i) _
 split
 ·exact (h.row hi).red (h.row hc) hp
 ·exact (h.row hi).le zo
theorem Ea {M : List (List Qi)} {n m w : Nat} (hs : cM M n m) (h : oH M w) : ∀ {c : Nat}, c ≤ n → oH (cI M c).1 (wst w c)
 | 0,_=>h
 | c + 1, hc => by
  have ih:=Ea hs h (c:=c) zo
  have sh:=pC hs (c:=c) zo
  obtain ⟨_,i2,i3,i4⟩:=nK (M:=(cI M c).1) (c:=c) (n:=M.length) (by rw [hs.1]; omega)
  have hml:=hs.1
  have hel:=sh.1
  simp only [cI,wst]
  split
  ·exact fun r hr=>(ih r hr).le zo
  ·split
   ·exact fun r hr=>(ih r hr).le zo
   ·rename_i e
    split
    ·rename_i e2
     refine oH.redM ih zo ?_
     have:=i4 zo
     rw [e2] at this; exact this
    ·refine oH.redM (ih.swp zo zo) (by rw [Ad]; omega) ?_
     show gv (dT (swp [] _ _ c) c) c ≠ _
     rw [yG (by rw [sh.1]; omega)]
     exact i4 zo
def stG (w n:Nat):Nat:=4 * (wst w n + 1) + 2
theorem a0M {M : List (List Qi)} {n m L c : Nat} (hs : cM M n m) (hM : bC M L) (hL : 1 ≤ L) (hc : c ≤ n) : bC (cI M c).1 (stG (m * L) n) := fun r hr =>
 ((Ea hs (Zh hs hM hL) hc r hr).le (Cw _ hc)).fit
theorem Oe {U : List (List Qi)} {n i : Nat} : ∀ {k j : Nat}, j + k ≤ n → n - j ≤ i → gv (nH U n (j + k)) i = gv (nH U n j) i
 | 0,_,_,_=>rfl
 | k + 1, j, h, hi => by
  rw [show j + (k + 1) = (j + k) + 1 by omega,nH,gv,List.getD,List.getElem?_set_ne zo]
  exact Oe (k:=k) zo hi
theorem Og {U : List (List Qi)} {n i : Nat} : ∀ {j : Nat}, j ≤ n → i < n - j → gv (nH U n j) i = 0
 | 0,_,h=>by rw [nH,iJ zo]; rfl
 | j + 1, hj, h => by
  rw [nH,gv,List.getD,List.getElem?_set_ne zo]
  exact Og (j:=j) zo zo
theorem a0d {M : List (List Qi)} {b : List Qi} {n j X : Nat} (hX : 1 ≤ X) (h : bP (kR M b n) X) (hj : j ≤ n) : bP (nH (rR M b n).1 n j) X := fun x hx => by
 obtain ⟨i,hi,e⟩:=List.getElem_of_mem hx
 have e2:gv (nH (rR M b n).1 n j) i = x:=by simp [gv,List.getD,hi,e]
 rw [tV] at hi
 rw [← e2]
 by_cases c:n - j ≤ i
 ·have k := Oe (U := (rR M b n).1) (n := n) (k := n - j) (j := j) zo c
  rw [show j + (n - j) = n by omega] at k
  rw [← k]; exact h.get hX i
 ·rw [Og hj zo]; exact aE.zero hX
structure SzS (M:List (List Qi)) (b:List Qi) (n G X:Nat):Prop where
 st:∀ c,c ≤ n → bC (cI (jK M [b] n) c).1 G
 bk:kZ M b n = 0 → ∀ j,j ≤ n → bP (nH (rR M b n).1 n j) X
 g1:1 ≤ G
 x1:1 ≤ X
 g:6 * G + 4 ≤ 17592186044415
 x:n * (X + G + 2) + 4 * G + 2 ≤ 17592186044415
theorem SzS.old {M:List (List Qi)} {b:List Qi} {n L:Nat} (hM:cM M n n) (hf:bC M L) (hfb:bP b L) (hL:1 ≤ L) (hg:6 * sM L n + 4 ≤ 17592186044415) (hx:Rj (sM L n) (n + 1) ≤ 17592186044415):SzS M b n (sM L n) (Rj (sM L n) n):=by
 have hcs:cM (jK M [b] n) n (n + 1):=lS hM
 have hcf:bC (jK M [b] n) L:=uA hf (fun r hr=>by simp at hr; subst hr; exact hfb) hL
 have hG1:1 ≤ sM L n:=Nat.le_trans hL (zQ L n)
 refine ⟨fun c hc=>(Bg hcs hcf hL hc).le (uE L hc),fun hE j hj=>?_,hG1,Nat.le_trans hG1 (Nu _ _),hg,hx⟩
 have hst:¬ 0 ≤ (rR M b n).2.2:=fun h=>by rw [kZ,if_pos h] at hE; omega
 have hf2:=Uz (Zp hM hf hfb hL) hG1 (qO hcs (Nat.le_refl n) (Ra hst)) j hj
 exact fun y hy=>(hf2 y hy).le (Lg _ hj)
theorem Ef {M : List (List Qi)} {n G X : Nat} (hz : ∀ i, i < n → SzS M (ek n i) n G X) (hE : sO M n = 0) : bC (qU M n) X := fun r hr => by
 obtain ⟨i,_,rfl⟩:=eA.1 hr
 exact bP.tab fun j hj=>((hz j hj).bk (Bm hE j hj) n (Nat.le_refl n)).get (hz j hj).x1 i
structure SzJ (M:List (List Qi)) (b:List Qi) (n G:Nat):Prop where
 st:∀ c A,c ≤ n → Sm (jK M [b] n) c = some A → bC A G
 g1:1 ≤ G
 g:6 * G + 4 ≤ 17592186044415
theorem SzJ.old {M : List (List Qi)} {b : List Qi} {n L : Nat} (hM : cM M n n) (hf : bC M L) (hfb : bP b L) (hL : 1 ≤ L) (hg : 6 * sM L n + 4 ≤ 17592186044415) : SzJ M b n (sM L n) :=
 ⟨fun _ _ hc hA=>(Wx (show cM (jK M [b] n) n (n + 1) from lS hM) (Nat.le_succ n) (uA hf (fun r hr=>by simp at hr; subst hr; exact hfb) hL) hL hc hA).le (uE L hc),Nat.le_trans hL (zQ L n),hg⟩
theorem Wv {n:Nat} (hn:n ≤ 8):∀ N,1 ≤ N → fs n N ≤ (2 * 8 * (2 * 7 * (2 * 6 * (2 * 5 * 1610612736 * 4 ^ 15) * 4 ^ 31) * 4 ^ 63) * 4 ^ 127) * N ^ 255:=by
 have h6:∀ N,1 ≤ N → fs 6 N ≤ (2 * 6 * (2 * 5 * 1610612736 * 4 ^ 15) * 4 ^ 31) * N ^ 63:=fun N hN=>Ww (Nat.le_refl 6) N hN
 have h7:∀ N,1 ≤ N → fs 7 N ≤ (2 * 7 * (2 * 6 * (2 * 5 * 1610612736 * 4 ^ 15) * 4 ^ 31) * 4 ^ 63) * N ^ 127:=zO h6
 have h8:∀ N,1 ≤ N → fs 8 N ≤ (2 * 8 * (2 * 7 * (2 * 6 * (2 * 5 * 1610612736 * 4 ^ 15) * 4 ^ 31) * 4 ^ 63) * 4 ^ 127) * N ^ 255:=zO h7
 by_cases a:n ≤ 6
 ·exact zN (Ww a) (by decide) (by decide)
 ·by_cases b : n = 7
  ·subst b; exact zN h7 (by decide) (by decide)
  ·obtain rfl : n = 8 := by omega
   exact h8
theorem Je {n e K:Nat} (hn:n ≤ 8) (he:e * 255 + 17 = K):fs n (BB ^ e) < BB ^ K:=by
 refine Nat.lt_of_le_of_lt (Wv hn _ (Nat.pow_pos eB)) ?_
 rw [← Nat.pow_mul]
 exact Nd he (by show _ < 4294967296 ^ 17; decide)
def Ku (L:Nat):Nat:=4 * (9 * L * 255 + 17) + 2
def st8 (L:Nat):Nat:=stG (9 * L) 8
theorem Zo {M : List (List Qi)} {b : List Qi} {n L : Nat} (h : cM M n n) (hM : bC M L) (hb : bP b L) (hL : 1 ≤ L) (hn : n ≤ 8) (hE : kZ M b n = 0) : bP (kR M b n) (Ku L) :=
 Zr (m:=8) (K:=9 * L * 255 + 17) h hM hb hL hn (Je (e:=(8 + 1) * L) (K:=9 * L * 255 + 17) hn zo) zo hE
theorem Nj (L:Nat):st8 L = 9216 * L + 1026:=by simp only [st8,stG,wst]; omega
theorem a4p (L:Nat) (h:L ≤ 10000000):4 * (9 * L * 255 + 17) + 2 + (9216 * L + 1026) + 2 ≤ 200000000000:=by omega
theorem a4q (L:Nat) (h:L ≤ 10000000):4 * (9216 * L + 1026) + 2 ≤ 400000000000:=by omega
theorem a4r (n A B:Nat) (hn:n ≤ 8) (hA:A ≤ 200000000000) (hB:B + 2 ≤ 400000000000):n * A + B + 2 ≤ 17592186044415:=by
 have:n * A ≤ 8 * A:=Nat.mul_le_mul_right _ hn
 omega
theorem a4s (n L:Nat) (hn:n ≤ 8) (h:L ≤ 10000000):n * (Ku L + st8 L + 2) + 4 * st8 L + 2 ≤ 17592186044415:=by
 rw [Nj,Ku]
 exact a4r n _ _ hn (a4p L h) (a4q L h)
theorem a4t (L:Nat) (h:L ≤ 10000000):6 * st8 L + 4 ≤ 17592186044415:=by rw [Nj]; omega
theorem a4u (L:Nat):1 ≤ st8 L:=by rw [Nj]; omega
theorem Nm (L:Nat):1 ≤ Ku L:=by unfold Ku; omega
theorem a5H {M:List (List Qi)} {b:List Qi} {n L:Nat} (h:cM M n n) (hM:bC M L) (hb:bP b L) (hL:1 ≤ L) (hLb:L ≤ 10000000) (hn:n ≤ 8):SzS M b n (st8 L) (Ku L):=by
 have hcs:cM (jK M [b] n) n (n + 1):=lS h
 have hcf:bC (jK M [b] n) L:=uA hM (fun r hr=>by simp at hr; subst hr; exact hb) hL
 have hle : stG ((n + 1) * L) n ≤ st8 L := by
  have hw:(n + 1) * L ≤ 9 * L:=Nat.mul_le_mul_right _ zo
  have h1:=a02 hw n
  have h2:=Cw (9 * L) hn
  simp only [stG,st8]; omega
 exact ⟨fun c hc=>(a0M hcs hcf hL hc).le hle,fun hE j hj=>a0d (Nm L) (Zo h hM hb hL hn hE) hj,a4u L,Nm L,a4t L hLb,a4s n L hn hLb⟩
end
section
open Go Go.RowKit
theorem a4X {n:Nat} (hn:n ≤ 32):gO Tryz.prog 94 [NT .i64 n] [] (Nat) (fun B=>Is (.slice (some ⟨B,0,none⟩) n n)) (fun B=>[mW jN B 29 51 5 (cE aH (wK n))]) (fun _=>True):=by
 refine gO.intro Tryz.func94 rfl Tryz.ntmps94 rfl (fun cx Z=>(ts (ro rfl (cX cW) (eZ (ts (rn rfl (eG (Ts:=[Is (.bool false),Is (.slice none 0 0),Is (.bool false),Is (.slice none 0 0),Is (.slice none 0 0)]) O_51 rfl (fun V=>aW zd (aW zd (aW zd (aW zd (aW zd (aG))))))) fun B3=>(eZ (ts (rm rfl (ro rfl (aM.nat (a1B (Ht rfl) (cV 0)) (show max n 0 = n by omega)) (ro rfl (aM.nat (Ql (Ht rfl) (cV 32)) (show min n 32 = n by omega)) ?_)))))))))))
 refine rn rfl (eM (T:=Is (.slice none 0 0)) (i:=Tryz.t29) V_30 lH rfl rfl (Ht rfl) rfl (fun _=>rfl) trivial (by show 24 * _ ≤ _; omega) zo) fun B9=>ra rfl (eZ (cU (ts (rm rfl (ro rfl (gA U_30 (Ht rfl)) (ro rfl (cZ (cV 0)) (eZ (eK (nZ 2 rfl (wQ jN ⟨none,0,rfl⟩ (e:=51) (s:=5)) ?_)))))))))
 refine cF (fun (k : Nat) => k ≤ n) (fun (k : Nat) => n - k) (fun (k : Nat) => [(3, bT B3 0), (4, Is (.slice (some ⟨B9, 0, none⟩) n n)), (11, NT .i64 n), (12, NT .i64 k)]) (fun (k : Nat) => [Z, box B3 51 [Is (.bool false), Is (.slice none 0 0), Is (.bool false), Is (.slice none 0 0), Is (.slice none 0 0)], mW jN B9 29 51 5 (cE aH (mA (Cu n) [] n k))]) 0 (Nat.zero_le _)
  (zS rfl) (aU (fun _ _ _ h=>h) (aU (fun _ _ _ h=>h) (aU (cB (by rw [← jS,kS]; exact mL aH n)) aY))) (fun k hk=>?_)
 refine ts (ro rfl (gZ (Ht rfl) (Ht rfl)) (eZ (cU (dX (Ht rfl) (fun hd=>?_) (fun hd=>?_)))))
 ·simp only [decide_eq_true_eq] at hd
  refine qI 2 (k) rfl (mE hd) (fun v hv=>(cY (cU (eK (ts (rm rfl (ra rfl (eZ (cU (fJ (m:=10) (dp 4 rfl (cZ (Ht rfl)) (dp 5 rfl (cZ (Ht rfl)) (dp 3 rfl (eW A_51 Z_51 (Ht rfl) (i:=1) rfl rfl rfl) (dq 17 2 rfl (aT bL (Ht rfl)) (d0 rfl (cJ K_77 (oI (n:=0) (by decide) (by decide)) ⟨(cV 0),trivial⟩) (dR 18 3 19 4 rfl (aL mX K_302 Dp (Ht rfl) ⟨(Ht rfl),trivial⟩) (dq 20 5 rfl (cR (xs:=[.tmp 20]) U_29 Z_51 O_51 (cG (Ht rfl) cK) rfl rfl rfl) ?_)))))))))))))))))
  refine dp 4 rfl (cZ (Ht rfl)) (dq 22 7 rfl (gA U_30 (Ht rfl)) (C.D_new (Ei:=[(21,_),(23,_)]) rfl rfl rfl (bV (bG 6 rfl rfl) (bV (bG 8 rfl rfl) bW)) (Sx Tryz.call191 (Lz (m:=n) zo zo) ⟨(Ht rfl),(Ht rfl),trivial⟩) (fW bE rfl (by kernel_rfl) (zF (zF (aJ (C.F_new (fun B24=>aV (ro rfl (gQ U_30 Z_29 (Ht rfl) (Ht rfl) rfl zo (by rw [Nat.mul_one,Nat.zero_add])) ?_)))))))))
  refine uV Z_29 (Ht rfl) (Ht rfl) (by simp only [cE,List.length_map,eS]; omega) (j:=2) (l:=4) rfl rfl rfl ?_
  refine eZ ?_
  have hB24:=B24.1.2
  refine fJ (m:=9) (dp 4 rfl (cZ (Ht rfl)) (dp 5 rfl (cZ (Ht rfl)) (dR 26 0 27 1 rfl (gQ U_30 Z_29 (Ht rfl) (Ht rfl) rfl zo (by rw [Nat.mul_one,Nat.zero_add])) ?_)))
  refine dq 28 2 rfl (jZ A_29 Z_29 (Ht rfl) (j:=2) rfl) (dp 5 rfl (cZ (Ht rfl)) (dp 3 rfl (eW A_51 Z_51 (Ht rfl) (i:=1) rfl rfl rfl) (dq 31 5 rfl (aT bL (Ht rfl)) (d0 rfl (cJ K_77 (oI (n:=1) (by decide) (by decide)) ⟨(cV 1),trivial⟩) (dR 32 6 33 7 rfl (aL mX K_302 Dp (Ht rfl) ⟨(Ht rfl),trivial⟩) (fW bE rfl (by kernel_rfl) (zF (zF (aJ (aV (ro rfl (dP U_29 Z_51 (Ht rfl) (Ht rfl) rfl (i:=4) rfl (by simp only [List.length_map,aN]; omega) rfl) ?_)))))))))))
  refine nO Z_51 (Ht rfl) (Ht rfl) (El.ag rfl) (i:=4) rfl rfl (by simp only [List.length_map,aN]; omega) rfl ?_
  refine eZ (bO (fP 2 4 rfl rfl (by decide) (by simp only [cE,List.length_map,eS]; omega) ?_))
  refine dQ (ro rfl (dW (Ht rfl) (cV 1) z6) (rm rfl (eZ (cD [0,1,2] rfl (by decide) (fY (k + 1) hd zo (zS rfl) (aU (fun _ _ _ h=>h) (aU (fun _ _ _ h=>h) (aU (cB (by rw [← lJ (f:=Cu n),← gH,Cu,← fO])) aY))))))))
 ·simp only [decide_eq_false_iff_not] at hd
  obtain rfl:n = k:=Nat.le_antisymm zo hk
  refine gW rfl (ts (rm rfl (ra rfl (eZ ?_))))
  exact kH B9 trivial [0,2] ⟨⟨_,rfl,fun _ _ _ h=>h⟩,⟨_,rfl,(cB (by rw [lI]; rfl))⟩,trivial⟩ (by decide) (yB rfl (eY rfl))
theorem a5A {n:Nat} (hn:n ≤ 32):bH Tryz.prog 94 [NT .i64 n] (bB (wK n)):=(a4X hn).fun fun B _ v S V h1 h2=>iB (s:=5) (M:=wK n) (rL n).1.symm v S V h1 h2
theorem Vi {M:List (List Qi)} {b:List Qi} {n G X:Nat} (hM:cM M n n) (hb:b.length = n) (hz:SzS M b n G X) (h1:1 ≤ n) (hn:n ≤ 32):bH Tryz.prog 96 [bB M,aR b] (fI [aR (dA (kZ M b n) (kR M b n)),aO .i64 (kZ M b n)]):=by
 have hMl:=hM.1
 have hcs:cM (jK M [b] n) n (n + 1):=lS hM
 have hg:=hz.g
 have hx:n * (G + X + 2) + 4 * G + 2 ≤ 17592186044415:=by rw [Nat.add_comm G X]; exact hz.x
 obtain ⟨U,hU⟩:∃ U,U = (rR M b n).1:=⟨_,rfl⟩
 have hUs:cM U n (n + 1):=by rw [hU]; exact Zq hM
 have hUl:=hUs.1
 have hUf:bC U G:=by rw [hU]; exact hz.st n (Nat.le_refl n)
 have hG1:=hz.g1
 have hX1:=hz.x1
 refine bH.intro Tryz.func96 rfl Tryz.ntmps96 rfl (fun cx=>(ts (ro rfl (cX cW) (ro rfl (cX (cV 0)) (eZ (cU (ts (rm rfl (ro rfl (cJ Tryz.call174 (Ie hM h1 hn) ⟨(Ht rfl),trivial⟩) (ro rfl (eN (Ht rfl)) (rm rfl (fX rfl rfl (eU rfl rfl (Ht rfl) (fun h=>cZ (Ht rfl))) (fX rfl rfl (eU rfl rfl (Ht rfl) (fun h=>dK U_29 (fV rfl h) aA)) (fX rfl rfl (eU rfl rfl (Ht rfl) (fun h=>cZ (Ht rfl))) (fX rfl rfl (eU rfl rfl (Ht rfl) (fun h=>dK U_30 (fV rfl h) aA)) ?_)))))))))))))))
 refine fX rfl rfl (eU rfl rfl (Ht rfl) (fun h=>gB (fV rfl h) (fV rfl h))) (ro rfl (jI (Ht rfl) (fun h=>(fV rfl h))) (eZ (nF (Ht rfl) (by simp [hMl,hb]) ?_)))
 refine cY (ts (rm rfl (ro rfl (dK U_30 (Ht rfl) (by rw [List.length_map,hMl])) ?_)))
 refine ra rfl (eZ (ts (rm rfl (rm rfl (ro rfl (cR (xs:=[.tmp 26]) U_30 Z_29 O_29 (cG (Ht rfl) cK) rfl rfl rfl) (kC Tryz.call193 (Dq (M:=M) (bs:=[b]) (n:=n) (m:=n) hM (fun r hr=>by simp at hr; subst hr; omega) zo zo (by simp)) ⟨(Ht rfl),(Ht rfl),trivial⟩ rfl (fun B28 _=>?_)))))))
 refine ra rfl (eZ (cU (ts (rm rfl (Fc Tryz.call194 (a0o (n:=n) (m:=n + 1) (G:=G) hcs hz.st hG1 hg zo zo) (i:=0) rfl ⟨(Ht rfl),trivial⟩ rfl (fun uu _=>(rm rfl (ro rfl (dU (Ht rfl) rfl) (ro rfl (dU (Ht rfl) rfl) (ra rfl (ra rfl (eZ (ts (rm rfl (ro rfl (lQ (Ht rfl) cW) (eZ (dX (Ht rfl) (fun hs=>?_) (fun hs=>?_))))))))))))))))))
 ·have he : kZ M b n = 6 := by rw [kZ, if_pos (show 0 ≤ (rR M b n).2.2 from of_decide_eq_true hs)]
  refine ts (ro rfl (cX cW) (ro rfl (cX (cV 6)) (eZ (bN rfl (fZ (eY rfl) ?_) (fZ (eY rfl) ?_)))))
  ·exact (fun v V k=>by rw [he]; exact iM v V k)
  ·exact (aS he.symm)
 ·have hst : ¬ 0 ≤ (rR M b n).2.2 := of_decide_eq_false hs
  have he:kZ M b n = 0:=by rw [kZ,if_neg hst]
  have hdz:∀ i,i < n → gm U i i ≠ Qi.zero:=by rw [hU]; exact qO hcs (Nat.le_refl n) (Ra hst)
  refine cY (ts (rm rfl (rn rfl (lV (T:=aH Qi.zero) (i:=Tryz.t51) lR jO rfl rfl (Ht rfl) rfl jQ (El.ag rfl) (by show 88 * _ ≤ _; omega) zo) fun B37=>(ra rfl (eZ (cU (ts (rm rfl (ro rfl (dG (Ht rfl) (cV 1) zo z6) (ra rfl (eZ (eK (nZ 0 rfl (cB (show cE aH (cI (jK M [b] n) n).1 = cE aH U by rw [hU]; rfl)) (Ny 0 rfl (fun vs hvs=>?_)))))))))))))))
  have hvl:vs.length = n:=by have h:=hvs.len; rw [List.length_map,hUl] at h; exact h
  refine cF (fun (j : Nat) => j ≤ n) (fun (j : Nat) => n - j) (fun (j : Nat) => [(0, Is (.slice (some ⟨B28, 0, none⟩) n n)), (6, NT .i64 n), (9, Is B37), (10, aO .i64 ((n : Int) - 1 - (j : Int)))]) (fun (j : Nat) => [jX B28 29 51 5 vs vs (cE aH U), cC 51 5 B37 ((nH U n j).map aH)]) 0 (Nat.zero_le _)
   (aQ rfl (aQ rfl (aQ rfl (aZ rfl (aS zo) aX)))) (aU (fun _ _ _ h=>h) (aU (bR (by rw [nH]; exact Ag aH n)) aY)) (fun j hj=>?_)
  refine cU (ts (rm rfl (ro rfl (lQ (Ht rfl) cW) (eZ (dX (Ht rfl) (fun hc=>?_) (fun hc=>?_))))))
  ·have hjn : j < n := a4U (of_decide_eq_true hc)
   obtain ⟨q,hq⟩:∃ q,q = n - (j + 1):=⟨_,rfl⟩
   have hqi:(n:Int) - 1 - (j:Int) = (q:Int):=by omega
   have hqr:(U.getD q []).length = n + 1:=hUs.row zo
   have hXf:bP (nH U n j) X:=by rw [hU]; exact hz.bk he j hj
   have hXl:=tV U n j
   refine cY (cU (eK (ts (rm rfl (rm rfl (ro rfl (gQ U_30 Z_29 (Ht rfl) (Ht rfl) hqi zo (by rw [Nat.mul_one,Nat.zero_add])) ?_))))))
   refine ro rfl (lK A_29 Z_29 (Ht rfl) (j:=0) rfl zo) (rm rfl (ro rfl (oP U_29 Z_51 (Ht rfl) (Ht rfl) rfl (j:=0) rfl zo zo zo) (ro rfl (tH A_51 Z_51 (Ht rfl) (j:=0) rfl zo zo zo) (rn rfl (eG (Ts:=[Is (.bool false),Is (.slice none 0 0),Is (.bool false),Is (.slice none 0 0),Is (.slice none 0 0)]) O_51 rfl (fun V=>aW zd (aW zd (aW zd (aW zd (aW zd (aG))))))) fun B11=>?_))))
   refine gX Z_51 (Ht rfl) (Ht rfl) rfl (i:=2) rfl (aK rfl) rfl rfl (eZ (cU (ts (rm rfl (ro rfl (My (Ht rfl) cW (r:=((q + 1:Nat):Int)) ((Db (z:=(n:Int) - 1 - (j:Int) + 1) zo).trans zo)) ?_)))))
   refine ra rfl (eZ (eK ?_))
   refine cF (fun (k : Nat) => k ≤ j) (fun (k : Nat) => j - k) (fun (k : Nat) => [(0, Is (.slice (some ⟨B28, 0, none⟩) n n)), (6, NT .i64 n), (9, Is B37), (10, aO .i64 ((n : Int) - 1 - (j : Int))), (11, bT B11 0), (12, NT .i64 (q + 1 + k))]) (fun (k : Nat) => [jX B28 29 51 5 vs vs (cE aH U), cC 51 5 B37 ((nH U n j).map aH), box B11 51 [aD (decide ((oD U (nH U n j) n q k).a < 0)), aI (oD U (nH U n j) n q k).a.natAbs, aD (decide ((oD U (nH U n j) n q k).b < 0)), aI (oD U (nH U n j) n q k).b.natAbs, aI (du (oD U (nH U n j) n q k))]]) 0 (Nat.zero_le _)
    (zS rfl) (aU (fun _ _ _ h=>h) (aU (fun _ _ _ h=>h) (aU (aB rfl) aY))) (fun k hk=>?_)
   refine cU (ts (rm rfl (rm rfl (ro rfl (gZ (Ht rfl) (Ht rfl)) (eZ (dX (Ht rfl) (fun hf=>?_) (fun hf=>?_)))))))
   ·have hkj : k < j := by simp only [decide_eq_true_eq] at hf; omega
    haveI f1:aE (oD U (nH U n j) n q k) (G + k * (G + X + 2)):=Ac hUf hXf hG1 hX1 k
    haveI f2:aE (gm U q (q + 1 + k)) G:=hUf.get hG1 _ _
    haveI f3:aE (gv (nH U n j) (q + 1 + k)) X:=hXf.get hX1 _
    have hb1:k * (G + X + 2) + (G + X + 2) ≤ n * (G + X + 2):=by rw [← Nat.succ_mul]; exact Nat.mul_le_mul_right _ zo
    refine cY (cU (eK (fJ (m:=15) (dp 11 rfl (eW A_51 Z_51 (Ht rfl) (i:=2) rfl rfl rfl) (dq 58 0 rfl (aT bL (Ht rfl)) (dp 0 rfl (cZ (Ht rfl)) (dp 10 rfl (cZ (Ht rfl)) (dR 60 2 61 3 rfl (gQ U_30 Z_29 (Ht rfl) (Ht rfl) hqi zo (by rw [Nat.mul_one,Nat.zero_add])) ?_))))))))
    refine dq 62 4 rfl (lK A_29 Z_29 (Ht rfl) (j:=0) rfl zo) (dp 12 rfl (cZ (Ht rfl)) (dR 63 5 64 6 rfl (oP U_29 Z_51 (Ht rfl) (Ht rfl) rfl (j:=0) rfl zo zo zo) (dq 65 7 rfl (tH A_51 Z_51 (Ht rfl) (j:=0) rfl zo zo zo) (dq 66 8 rfl (aT bL (Ht rfl)) (dp 9 rfl (cZ (Ht rfl)) (dp 12 rfl (cZ (Ht rfl)) (dR 68 10 69 11 rfl (dP U_29 Z_51 (Ht rfl) (Ht rfl) rfl (i:=1) rfl (by rw [List.length_map]; omega) rfl) ?_)))))))
    refine dq 70 12 rfl (tG A_51 Z_51 (Ht rfl) (i:=1) rfl rfl (eQ (dY (d:=Qi.zero) zo))) (dR 67 9 71 13 rfl (aL cL K_45 (iT (x:=gm U q (q + 1 + k)) (y:=gv (nH U n j) (q + 1 + k)) (L:=G) (M:=X) zo) (Ht rfl) ⟨(Ht rfl),trivial⟩) (fW bE rfl (by kernel_rfl) (zF (zF (zF (aJ (aJ (aJ (aV (ro rfl (aL iX K_44 (rV (x:=(oD U (nH U n j) n q k)) (y:=gm U q (q + 1 + k) * gv (nH U n j) (q + 1 + k)) (L:=G + k * (G + X + 2)) (M:=G + X + 1) zo) (Ht rfl) ⟨(Ht rfl),trivial⟩) ?_))))))))))
    refine gX Z_51 (Ht rfl) (Ht rfl) rfl (i:=2) rfl (aK rfl) rfl rfl (eZ (bO (dQ (rm rfl (ro rfl (dW (Ht rfl) (cV 1) z6) (ra rfl (eZ (fY (k + 1) hkj zo (zS rfl) (aU (fun _ _ _ h=>h) (aU (fun _ _ _ h=>h) (aU (aB rfl) aY)))))))))))
   ·obtain rfl : k = j := Nat.le_antisymm hk (by simp only [decide_eq_false_iff_not] at hf; omega)
    haveI f1:aE (oD U (nH U n k) n q k) (G + k * (G + X + 2)):=Ac hUf hXf hG1 hX1 k
    haveI f2:aE (gm U q q) G:=hUf.get hG1 _ _
    have hb3:k * (G + X + 2) ≤ n * (G + X + 2):=Nat.mul_le_mul_right _ zo
    refine gW rfl (Y.D_start (m:=17) [(16,1,cC 51 5 B37 (((nH U n k).map aH).set q (aH ((oD U (nH U n k) n q k) / gm U q q))))] (Y.D_step (Ei:=[(9,_)]) rfl rfl (bQ (bJ rfl rfl) bX) rfl rfl (by kernel_rfl) (dZ rfl (cZ (Ht rfl))) (Y.D_step (Ei:=[(10,_)]) rfl rfl (bQ (bJ rfl rfl) bX) rfl rfl (by kernel_rfl) (dZ rfl (cZ (Ht rfl))) (Y.D_step (Ei:=[(11,_)]) rfl rfl (bQ (bJ rfl rfl) bX) rfl rfl (by kernel_rfl) (dZ rfl (eW A_51 Z_51 (Ht rfl) (i:=2) rfl rfl rfl)) ?_))))
    refine Y.D_step (Ei:=[(77,_)]) rfl rfl (bQ (bZ 2 rfl rfl) bX) rfl rfl (by kernel_rfl) (dZ rfl (aT bL (Ht rfl))) (Y.D_step (Ei:=[(0,_)]) rfl rfl (bQ (bJ rfl rfl) bX) rfl rfl (by kernel_rfl) (dZ rfl (cZ (Ht rfl))) (Y.D_step (Ei:=[(10,_)]) rfl rfl (bQ (bJ rfl rfl) bX) rfl rfl (by kernel_rfl) (dZ rfl (cZ (Ht rfl))) (Y.D_step (Ei:=[(79,_),(80,_)]) rfl rfl (bQ (bZ 4 rfl rfl) (bQ (bZ 5 rfl rfl) bX)) rfl rfl (by kernel_rfl) (dZ rfl (gQ U_30 Z_29 (Ht rfl) (Ht rfl) hqi zo (by rw [Nat.mul_one,Nat.zero_add]))) ?_)))
    refine Y.D_step (Ei:=[(81,_)]) rfl rfl (bQ (bZ 6 rfl rfl) bX) rfl rfl (by kernel_rfl) (dZ rfl (lK A_29 Z_29 (Ht rfl) (j:=0) rfl zo)) (Y.D_step (Ei:=[(10,_)]) rfl rfl (bQ (bJ rfl rfl) bX) rfl rfl (by kernel_rfl) (dZ rfl (cZ (Ht rfl))) (Y.D_step (Ei:=[(82,_),(83,_)]) rfl rfl (bQ (bZ 7 rfl rfl) (bQ (bZ 8 rfl rfl) bX)) rfl rfl (by kernel_rfl) (dZ rfl (oP U_29 Z_51 (Ht rfl) (Ht rfl) hqi (j:=0) rfl zo zo zo)) ?_))
    refine Y.D_step (Ei:=[(84,_)]) rfl rfl (bQ (bZ 9 rfl rfl) bX) rfl rfl (by kernel_rfl) (dZ rfl (tH A_51 Z_51 (Ht rfl) (j:=0) rfl zo zo zo)) (Y.D_step (Ei:=[(78,_),(85,_)]) rfl rfl (bQ (bZ 3 rfl rfl) (bQ (bZ 10 rfl rfl) bX)) rfl rfl (by kernel_rfl) (dZ rfl (aL lU K_40 (vB (x:=(oD U (nH U n k) n q k)) (y:=gm U q q) (L:=G + k * (G + X + 2)) (M:=G) zo) (Ht rfl) ⟨(Ht rfl),trivial⟩)) (Y.D_step (Ei:=[(86,_)]) rfl rfl (bQ (bZ 11 rfl rfl) bX) rfl rfl (by kernel_rfl) (dZ rfl (cZ (Ht rfl))) ?_))
    refine Y.D_step (Ei:=[(74,_)]) rfl rfl (bQ (bZ 12 rfl rfl) bX) rfl rfl (by kernel_rfl) (dZ rfl (dU (Ht rfl) rfl)) (cQ (Ei:=[(74,_)]) rfl rfl (bQ (bZ 12 rfl rfl) bX) rfl rfl (dZ rfl (dU (Ht rfl) rfl)) (Y.D_step (Ei:=[(75,_),(76,_)]) rfl rfl (bQ (bZ 0 rfl rfl) (bQ (bZ 1 rfl rfl) bX)) rfl rfl (by kernel_rfl) (dZ rfl (dP U_29 Z_51 (Ht rfl) (Ht rfl) hqi (i:=1) rfl (by rw [List.length_map]; omega) rfl)) ?_))
    refine Y.D_putI (Ei:=[(89,_),(87,_)]) 1 rfl rfl rfl (bQ (bZ 15 rfl rfl) (bQ (bZ 13 rfl rfl) bX)) (.head _) rfl (Hl Z_51 (Ht rfl) (Ht rfl) (El.ag rfl) (i:=0) rfl rfl (by rw [List.length_map]; omega)) ?_
    refine Y.D_done bE rfl (by kernel_rfl) rfl (by simp [Y.okP]) rfl rfl (bU (bU (bU (bU (bU (bU (bU (bU (bU (bU (bU (bU (bU (bU (bU (bU (Y.F_putI (Y.F_nil ?_))))))))))))))))))
    refine eZ (bO (dQ (rm rfl (ro rfl (iK (Ht rfl) cW (Db zo)) (ra rfl (eZ (cD [0,1] rfl (by decide) (fY (k + 1) hjn zo (aQ rfl (aQ rfl (aQ rfl (aZ rfl (aS zo) aX)))) (aU (fun _ _ _ h=>h) (aU (bR (by rw [fO,nH,← hq])) aY))))))))))
  ·obtain rfl : j = n := Nat.le_antisymm hj (a4V (by have h := of_decide_eq_false hc; omega))
   refine gV (i:=1) (tt:=9) rfl rfl iW (gW rfl (ts (rm rfl (ra rfl (ro rfl (cX (cV 0)) (eZ (bN rfl (fZ (eY rfl) ?_) (fZ (eY rfl) ?_))))))))
   ·exact (kY (by rw [he,kR,← hU]; rfl))
   ·exact (aS he.symm)
end
section
open Go Go.RowKit
theorem Rq {M:List (List Qi)} {n m:Nat} (hM:cM M n m) (hn:n ≤ 1000) (hm:m ≤ 1000):gO Tryz.prog 193 [bB M,Is (.slice none 0 0)] [] Nat (fun B=>Is (.slice (some ⟨B,0,none⟩) n n)) (fun B=>[nR B 29 51 5 (cE aH M)]) (fun _=>True):=by
 have h:=Dq (M:=M) (bs:=[]) hM (fun b hb=>by cases hb) hn hm (by simp)
 rw [Sd hM] at h
 exact h.arg Uq
theorem a34 {M:List (List Qi)} {n G X:Nat} (hM:cM M n n) (hz:∀ i,i < n → SzS M (ek n i) n G X) (hn:n ≤ 32):bH Tryz.prog 248 [bB M] (fI [bB (dA (sO M n) (qU M n)),aO .i64 (sO M n)]):=by
 have hMl:=hM.1
 refine bH.intro Tryz.func248 rfl Tryz.ntmps248 rfl (fun cx=>(ts (ro rfl (cX cW) (ro rfl (cX (cV 0)) (eZ (cU (ts (rm rfl (ro rfl (cJ Tryz.call174 (Rz hM hn) ⟨(Ht rfl),trivial⟩) (ro rfl (eN (Ht rfl)) (eZ (nF (Ht rfl) (by rfl) ?_))))))))))))
 refine cY (ts (rm rfl (kC Tryz.call193 (Rq hM zo zo) ⟨(Ht rfl),cW,trivial⟩ rfl (fun B14 _=>(ra rfl (eZ (cU (ts (rm rfl (ro rfl (dK U_30 (Ht rfl) (by rw [List.length_map,hMl])) ?_))))))))))
 refine ro rfl (cJ Tryz.call94 (a5A (n:=n) hn) ⟨(Ht rfl),trivial⟩) (ro rfl (dK U_30 (Ht rfl) aA) (ro rfl (cZ (cV 0)) (eZ (eK ?_))))
 refine cF (fun (k : Nat) => k ≤ n ∧ ∀ i, i < k → kZ M (ek n i) n = 0) (fun (k : Nat) => n - k) (fun (k : Nat) => [(0, bB M), (4, Is (.slice (some ⟨B14, 0, none⟩) n n)), (17, bB (wK n)), (18, NT .i64 n), (19, NT .i64 k)]) (fun (k : Nat) => [nR B14 29 51 5 (cE aH (sP M n k 0))]) 0 ⟨Nat.zero_le _, fun i h => by omega⟩
  (aQ rfl (aQ rfl (aQ rfl (aZ rfl (kU (rL n).1) (zS rfl))))) (aU (cB (congrArg _ (Sr hM))) aY) (fun k ⟨hk,h0⟩=>?_)
 refine ts (ro rfl (gZ (Ht rfl) (Ht rfl)) (eZ (cU (dX (Ht rfl) (fun hd0=>?_) (fun hd0=>?_)))))
 ·simp only [decide_eq_true_eq] at hd0
  have hel:=a3t hd0
  refine cY (cU (eK (ts (rm rfl (ro rfl (dJ U_30 Z_29 (Ht rfl) (Ht rfl) rfl (eQ (dY (d:=[]) (by rw [(rL n).1]; exact hd0)))) ?_)))))
  refine ro rfl (dV A_29 Z_29 (Ht rfl)) (ra rfl (ra rfl (eZ (ts (rm rfl (rm rfl (ro rfl (cJ Tryz.call96 (Vi (M:=M) (b:=ek n k) (n:=n) (G:=G) (X:=X) hM hel (hz k hd0) zo hn) ⟨(Ht rfl),(Ht rfl),trivial⟩) (rm rfl (ro rfl (dU (Ht rfl) rfl) (ro rfl (dU (Ht rfl) rfl) (ra rfl (ra rfl (eZ (cU (ts (rm rfl (ro rfl (kA (Ht rfl) cW) (eZ (dX (Ht rfl) (fun he=>?_) (fun he=>?_))))))))))))))))))))
  ·have he2 : ¬ kZ M (ek n k) n = 0 := by simpa using he
   have hi:=a0W h0 hd0 he2
   refine ts (rm rfl (ro rfl (cX cW) (ra rfl (eZ (bN rfl (fZ (eY rfl) ?_) (fZ (eY rfl) ?_))))))
   ·exact (fun v V h=>by rw [hi,dA,if_neg he2]; exact iM v V h)
   ·exact (aS hi.symm)
  ·have he2 : kZ M (ek n k) n = 0 := by simpa using he
   have hxl:(kR M (ek n k) n).length = n:=tV _ _ _
   refine qJ (E':=[(0,_),(4,_),(5,_),(7,_),(17,_),(18,_),(19,_)]) (aQ rfl (aQ rfl (aQ rfl (aZ rfl (kY (Us:=(kR M (ek n k) n).map aH) (by rw [he2]; rfl)) (zS rfl))))) ?_
   refine cY (ts (rm rfl (ro rfl (dK U_29 (Ht rfl) aA) (ro rfl (cZ (cV 0)) (eZ (eK ?_))))))
   refine cF (fun (i : Nat) => i ≤ n) (fun (i : Nat) => n - i) (fun (i : Nat) => [(0, bB M), (4, Is (.slice (some ⟨B14, 0, none⟩) n n)), (5, NT .i64 k), (7, aR (kR M (ek n k) n)), (17, bB (wK n)), (18, NT .i64 n), (19, NT .i64 k), (34, NT .i64 n), (35, NT .i64 i)]) (fun (i : Nat) => [nR B14 29 51 5 (cE aH (sP M n k i))]) 0 (Nat.zero_le _)
    (aQ rfl (aQ rfl (aQ rfl (aQ rfl (aQ rfl (aQ rfl (aQ rfl (aZ rfl (kU hxl) (zS rfl))))))))) (dM.refl _) (fun i hi=>?_)
   refine ts (ro rfl (gZ (Ht rfl) (Ht rfl)) (eZ (cU (dX (Ht rfl) (fun hf2=>?_) (fun hf2=>?_)))))
   ·simp only [decide_eq_true_eq] at hf2
    have hpl:=(qT M n k i).1
    have hpr:((sP M n k i).getD i []).length = n:=(qT M n k i).row hf2
    refine nG 0 (i) rfl (nQ zo) (fun v=>(cY (cU (eK (ts (rm rfl (ra rfl (eZ (fJ (m:=9) (dp 4 rfl (cZ (Ht rfl)) (dp 9 rfl (cZ (Ht rfl)) (dR 38 0 39 1 rfl (gQ U_30 Z_29 (Ht rfl) (Ht rfl) rfl zo (by rw [Nat.mul_one,Nat.zero_add])) ?_))))))))))))
    refine dq 40 2 rfl (jZ A_29 Z_29 (Ht rfl) (j:=0) rfl) (dp 5 rfl (cZ (Ht rfl)) (dp 7 rfl (cZ (Ht rfl)) (dp 9 rfl (cZ (Ht rfl)) (dR 43 5 44 6 rfl (dJ U_29 Z_51 (Ht rfl) (Ht rfl) rfl (eQ (dY (d:=Qi.zero) zo))) (dq 45 7 rfl (dV A_51 Z_51 (Ht rfl)) (fW bE rfl (by kernel_rfl) (zF (zF (aJ (aV (ro rfl (dP U_29 Z_51 (Ht rfl) (Ht rfl) rfl (i:=1) rfl (by rw [List.length_map]; omega) rfl) ?_)))))))))))
    refine nO Z_51 (Ht rfl) (Ht rfl) (El.ag rfl) (i:=1) rfl rfl (by rw [List.length_map]; omega) rfl ?_
    refine eZ (bO (fP 0 1 rfl rfl (by decide) (by simp only [cE,List.length_map]; omega) ?_))
    refine dQ (ro rfl (dW (Ht rfl) (cV 1) z6) (rm rfl (eZ (cD [0] rfl (by decide) (fY (i + 1) hf2 zo (zS rfl) (aU (cB (by rw [fO,gH,Sq hf2 hd0])) aY))))))
   ·simp only [decide_eq_false_iff_not] at hf2
    obtain rfl:n = i:=Nat.le_antisymm zo hi
    refine gW rfl (bO (dQ (ro rfl (dW (Ht rfl) (cV 1) z6) (rm rfl (eZ ?_)))))
    refine fY (k + 1) ⟨hd0, fun j h => by
     by_cases e:j = k
     ·rw [e]; exact he2
     ·exact h0 j zo⟩ zo (zS rfl) (aU (cB (by rw [Xf])) aY)
 ·simp only [decide_eq_false_iff_not] at hd0
  obtain rfl:n = k:=Nat.le_antisymm zo hk
  have hi:=So h0
  refine gV (i:=0) (tt:=4) rfl rfl (iB (s:=5) (M:=sP M n n 0) (qT M n n 0).1.symm) (gW rfl (ts (rm rfl (ra rfl (ro rfl (cX (cV 0)) (eZ (bN rfl (fZ (eY rfl) ?_) (fZ (eY rfl) ?_))))))))
  ·exact (kY (by rw [hi,Xg]; rfl))
  ·exact (aS hi.symm)
end
section
open Go Go.RowKit
theorem Ij (x y:Qi):(x + y).conj = x.conj + y.conj:=Qi.ext' rfl (by show -(x.im + y.im) = -x.im + -y.im; grind)
theorem Wc (x y:Qi):(x - y).conj = x.conj - y.conj:=Qi.ext' rfl (by show -(x.im - y.im) = -x.im - -y.im; grind)
theorem Az (x y:Qi):(x * y).conj = x.conj * y.conj:=Qi.ext' (by show x.re * y.re - x.im * y.im = x.re * y.re - -x.im * -y.im; grind) (by show -(x.re * y.im + x.im * y.re) = x.re * -y.im + -x.im * y.re; grind)
theorem qN:(0:Qi).conj = 0:=Qi.ext' rfl (by show -(0:Rat) = 0; grind)
theorem Ba:(1:Qi).conj = 1:=Qi.ext' rfl (by show -(0:Rat) = 0; grind)
theorem Wd (n:Nat) (f:Nat → Qi):(aF n f).conj = aF n fun i=>(f i).conj:=by
 induction n with
 | zero=>exact qN
 | succ n ih=>rw [iR,iR,Ij,ih]
theorem lY (n:Nat) (a:Qi) (f:Nat → Qi):aF n (fun k=>a * f k) = a * aF n f:=by
 rw [show a * aF n f = aF n f * a by grind,← iL]; exact aC fun _ _=>by grind
def mK (N:Nat) (p q:Nat → Qi) (C:Nat → Nat → Qi):Qi:=aF N fun a=>aF N fun b=>p a * C a b * (q b).conj
theorem rQ {N : Nat} {p q p' q' : Nat → Qi} {C C' : Nat → Nat → Qi} (hp : ∀ a, a < N → p a = p' a) (hq : ∀ a, a < N → q a = q' a) (hC : ∀ a b, a < N → b < N → C a b = C' a b) : mK N p q C = mK N p' q' C' :=
 aC fun a ha=>aC fun b hb=>by rw [hp a ha,hq b hb,hC a b ha hb]
theorem Yw {N:Nat} {p q:Nat → Qi} {C D:Nat → Nat → Qi}:mK N p q (fun a b=>C a b + D a b) = mK N p q C + mK N p q D:=by
 rw [mK,mK,mK,← pK]
 refine aC fun a _=>?_
 rw [← pK]
 exact aC fun b _=>by grind
theorem Kg {N:Nat} {p q:Nat → Qi} {C D:Nat → Nat → Qi}:mK N p q (fun a b=>C a b - D a b) = mK N p q C - mK N p q D:=by
 have h:=Yw (N:=N) (p:=p) (q:=q) (C:=fun a b=>C a b - D a b) (D:=D)
 rw [show (fun a b=>C a b - D a b + D a b) = C from funext fun a=>funext fun b=>by grind] at h
 grind
theorem Yx {N:Nat} {p q:Nat → Qi} {C:Nat → Nat → Qi} {t:Qi}:mK N p q (fun a b=>t * C a b) = t * mK N p q C:=by
 rw [mK,mK,← lY]
 refine aC fun a _=>?_
 rw [← lY]
 exact aC fun b _=>by grind
theorem Kf {N M : Nat} {p q : Nat → Qi} {r : Nat → Nat → Qi} {C : Nat → Nat → Qi} :
  mK N p q (fun a b=>mK M (r a) (r b) C) = mK M (fun u=>aF N fun a=>p a * r a u) (fun u=>aF N fun a=>q a * r a u) C:=by
 have e : ∀ u v, (aF N fun a => p a * r a u) * C u v * (aF N fun b => q b * r b v).conj = aF N fun a => aF N fun b => p a * (r a u * C u v * (r b v).conj) * (q b).conj := fun u v => by
  rw [Wd,Qi.mul_assoc',← iL]
  refine aC fun a _=>?_
  rw [show p a * r a u * (C u v * aF N fun i=>(q i * r i v).conj) = (p a * r a u * C u v) * aF N fun i=>(q i * r i v).conj by grind,← lY]
  exact aC fun b _=>by rw [Az]; grind
 have r1 : mK M (fun u => aF N fun a => p a * r a u) (fun u => aF N fun a => q a * r a u) C = aF M fun u => aF M fun v => aF N fun a => aF N fun b => p a * (r a u * C u v * (r b v).conj) * (q b).conj :=
  aC fun u _=>aC fun v _=>e u v
 have l1 : mK N p q (fun a b => mK M (r a) (r b) C) = aF N fun a => aF N fun b => aF M fun u => aF M fun v => p a * (r a u * C u v * (r b v).conj) * (q b).conj := by
  refine aC fun a _=>aC fun b _=>?_
  show p a * (aF M fun u=>aF M fun v=>r a u * C u v * (r b v).conj) * (q b).conj = _
  rw [← lY,← iL]
  refine aC fun u _=>?_
  rw [← lY,← iL]
 rw [r1,l1]
 have s1 : ∀ a, (aF N fun b => aF M fun u => aF M fun v => p a * (r a u * C u v * (r b v).conj) * (q b).conj) = aF M fun u => aF M fun v => aF N fun b => p a * (r a u * C u v * (r b v).conj) * (q b).conj := fun a => by
  rw [iH]
  exact aC fun u _=>iH _ _ _
 rw [aC fun a _=>s1 a,iH]
 refine aC fun u _=>?_
 rw [iH]
theorem mZ {N : Nat} {p q : Nat → Qi} {d : Nat → Qi} : mK N p q (fun a b => if a = b then d a else 0) = aF N fun k => p k * d k * (q k).conj := aC fun a ha => by
 rw [cO ha (fun b _ hb=>by show p a * (if a = b then d a else 0) * (q b).conj = 0; rw [if_neg (Ne.symm hb)]; grind)]
 show p a * (if a = a then d a else 0) * (q a).conj = _
 rw [if_pos rfl]
theorem qM {p c:List (List Qi)} {N a b:Nat} (hc:c.length = N) (ha:a < p.length) (hb:b < p.length):gm (jD p c) a b = mK N (gm p a) (gm p b) (gm c):=by
 rw [jD,eR ha hb,hc]; rfl
theorem If {p c : List (List Qi)} {t : Qi} {N : Nat} (hc : c.length = N) : jD p (jA t c N) = jA t (jD p c) p.length :=
 jP oY cM.tab fun i hi j hj => by
  rw [qM (c:=jA t c N) (N:=N) (aN _ _) hi hj,show gm (jA t (jD p c) p.length) i j = t * gm (jD p c) i j from eR hi hj,qM hc hi hj,← Yx]
  exact rQ (fun _ _=>rfl) (fun _ _=>rfl) fun a b ha hb=>eR ha hb
theorem Pe {z:List Qi} {i j:Nat} (hi:i < z.length) (hj:j < z.length):gm (gP z) i j = if i = j then gv z i else 0:=by
 have e : gm (gP z) i j = gv ((tab z.length fun _ => Qi.zero).set i (gv z i)) j := by
  show gv ((gP z).getD i []) j = _
  rw [gP,rD hi]
 rw [e,sN (by rw [aN]; exact hi)]
 by_cases c:i = j
 ·rw [if_pos c.symm,if_pos c]
 ·rw [if_neg (Ne.symm c),if_neg c,iJ hj]; rfl
theorem qD {z:List Qi} {s:List (List Qi)} {i j:Nat} (hs:s.length = z.length) (hi:i < z.length) (hj:j < z.length):gm (gG z s) i j = (if i = j then gv z i else 0) - aF z.length fun k=>gm s i k * gv z k * (gm s j k).conj:=by
 rw [gG,eR hi hj,Pe hi hj,qM (Be z).1 zo zo,← mZ]
 congr 1
 exact rQ (fun _ _=>rfl) (fun _ _=>rfl) fun a b ha hb=>Pe ha hb
section
variable {z:List Qi} {S c:List (List Qi)} {js:List (Int × Int)} {N:Nat}
theorem a0Z {k:Nat}:k ∈ Xk js ↔ ∃ y,y < 2 * js.length ∧ gq (gS js) (oC y) = k:=by
 rw [Xk]
 constructor
 ·intro h; obtain ⟨y,hy,e⟩:=eA.1 h; exact ⟨y,hy,e⟩
 ·rintro ⟨y,hy,e⟩; exact eA.2 ⟨y,hy,e⟩
theorem a5d {k:Nat}:k ∈ Xk js ↔ k ∈ oA js:=by
 rw [a0Z,uF]
 constructor
 ·rintro ⟨y,hy,e⟩; exact ⟨oC y,rP hy,e⟩
 ·rintro ⟨y,hy,e⟩; exact ⟨oC y,rP hy,by rw [uN]; exact e⟩
theorem wJ {i k:Nat} (hk:k ∉ oA js):xU S js i k = if k = i then 1 else 0:=by
 rw [xU,if_neg fun h=>hk (a5d.1 (Pr.1 h)),gnB]; rfl
theorem a1S (hj : Jn (gS js) N js.length) {i : Nat} (hi : i < N) (hil : i ∉ oA js) {r v : Nat → Qi} (h1 : ∀ k, k < N → k ∉ oA js → r k = if k = i then 1 else 0) (h2 : ∀ y, y < 2 * js.length → r (gq (gS js) (oC y)) = v y) (F : Nat → Qi) :
  aF N (fun k=>r k * F k) = F i + aF (2 * js.length) fun y=>v y * F (gq (gS js) (oC y)):=by
 have e : ∀ k, k < N → r k * F k = (if k = i then F k else 0) + aF (2 * js.length) fun y => if gq (gS js) (oC y) = k then v y * F k else 0 := fun k hk => by
  by_cases c:k ∈ oA js
  ·obtain ⟨x, hx, e⟩ := uF.1 c
   have hne:¬ k = i:=fun e=>hil (e ▸ c)
   have hp:=rP hx
   rw [if_neg hne, cO (i := oC x) hp (fun y hy hne => if_neg fun e2 => hne (by
    have:=hj.inj _ _ (rP hy) hx (e2.trans e.symm)
    rw [← this,uN])),uN,if_pos e,← h2 (oC x) hp,uN,e]; grind
  ·rw [h1 k hk c, gM fun y hy => if_neg fun e2 => c (uF.2 ⟨oC y, rP hy, e2⟩)]
   by_cases d:k = i
   ·rw [if_pos d,if_pos d]; grind
   ·rw [if_neg d,if_neg d]; grind
 rw [aC e,pK,cO hi (fun k _ hk=>if_neg hk),if_pos rfl,iH]
 congr 1
 exact aC fun y hy => by
  rw [cO (hj.lt (oC y) (rP hy)) (fun k _ hk=>if_neg (Ne.symm hk)),if_pos rfl]
theorem a11 {x:Nat} (hx:x < 2 * js.length) (v:Nat → Qi):aF (2 * js.length) (fun y=>gm (jnT S js) x y * v y) = v x - aF (2 * js.length) fun y=>v y * gm S (gq (gS js) (oC y)) (gq (gS js) x):=by
 have e : ∀ y, y < 2 * js.length → gm (jnT S js) x y * v y = (if y = x then v x else 0) - 1 * (v y * gm S (gq (gS js) (oC y)) (gq (gS js) x)) := fun y hy => by
  have:gm (jnT S js) x y = rdl x y - gm S (gq (gS js) (oC y)) (gq (gS js) x):=eR hx hy
  rw [this,rdl]
  by_cases c:y = x
  ·subst c; rw [if_pos rfl,if_pos rfl,q1]; grind
  ·rw [if_neg c,if_neg (Ne.symm c),show Qi.ofInt 0 = (0:Qi) from rfl]; grind
 rw [aC e,pL,cO hx (fun k _ hk=>if_neg hk),if_pos rfl]; grind
abbrev JK (S:List (List Qi)) (js:List (Int × Int)):Prop:=∀ b,kZ (uG S (gS js) (2 * js.length)) b (2 * js.length) = 0
theorem a10 (hk:JK S js) {i x:Nat} (hx:x < 2 * js.length):gv (Pu S js i) x = gm S i (gq (gS js) x) + aF (2 * js.length) fun y=>gv (Pu S js i) y * gm S (gq (gS js) (oC y)) (gq (gS js) x):=by
 have h:=(mO (wN S js) (Mp hk zo (jnV S js i))).1 x hx
 rw [show gv (jnV S js i) x = gm S i (gq (gS js) x) from iJ hx] at h
 have h2:=a11 (S:=S) hx (gv (Pu S js i))
 rw [show kR (jnT S js) (jnV S js i) (2 * js.length) = Pu S js i from rfl] at h
 rw [h] at h2
 grind
theorem Pm (hj : Jn (gS js) N js.length) (hk : JK S js) {i : Nat} (hi : i < N) (hil : i ∉ oA js) (F : Nat → Qi) : aF N (fun k => xU S js i k * F k) = F i + aF (2 * js.length) fun y => gv (Pu S js i) y * F (gq (gS js) (oC y)) :=
 a1S hj hi hil (fun _ _ h=>wJ h) (fun _ hy=>a2v hj hk hil hy) F
theorem a5b (hj:Jn (gS js) N js.length) (hk:JK S js) {i:Nat} (hi:i < N) (hil:i ∉ oA js) {x:Nat} (hx:x < 2 * js.length):aF N (fun k=>xU S js i k * gm S k (gq (gS js) x)) = xU S js i (gq (gS js) (oC x)):=by
 rw [Pm hj hk hi hil,a2v hj hk hil hx,a10 hk hx]
theorem a3v (hj:Jn (gS js) N js.length) (hk:JK S js) {i:Nat} (hi:i < N) (hil:i ∉ oA js) (b:Nat):aF N (fun k=>xU S js i k * gm S k b) = jnX S (gS js) (2 * js.length) i b:=by
 rw [Pm hj hk hi hil,jnX]
 congr 1
 have hM:=wM S (gS js) (2 * js.length)
 have hw:=(mO hM (hk (jnB S (gS js) (2 * js.length) b))).1
 have hq : ∀ y, y < 2 * js.length → aF (2 * js.length) (fun x => gv (Pu S js i) x * gm (uG S (gS js) (2 * js.length)) x y) = gm S i (gq (gS js) y) := fun y hy => by
  have h:=(mO (wN S js) (Mp hk zo (jnV S js i))).1 y hy
  rw [show gv (jnV S js i) y = gm S i (gq (gS js) y) from iJ hy] at h
  rw [← h]
  exact aC fun x hx=>by rw [Mo hy hx]; show _ = _ * gv (Pu S js i) x; grind
 have e1 : aF (2 * js.length) (fun y => gv (Pu S js i) y * gm S (gq (gS js) (oC y)) b) = aF (2 * js.length) fun y => aF (2 * js.length) fun k => gv (Pu S js i) y * gm (uG S (gS js) (2 * js.length)) y k * gv (kR (uG S (gS js) (2 * js.length)) (jnB S (gS js) (2 * js.length) b) (2 * js.length)) k := aC fun y hy => by
  have h:=hw y hy
  rw [a3G hy] at h
  rw [← h,← lY]
  exact aC fun _ _=>by grind
 rw [e1,iH]
 exact aC fun k hkk=>by rw [iL,hq k hkk]
theorem Xm (G : List Nat) (f : Nat → Qi) : ∀ n, aF n (fun k => if k ∈ G then 0 else f k) = aF (gR G n).length fun a => f (fR (gR G n) a)
 | 0=>rfl
 | n + 1 => by
  rw [iR,Xm G f n,gR]
  by_cases c:n ∈ G
  ·rw [if_pos c,if_pos c,List.append_nil]; grind
  ·rw [if_neg c, if_neg c, List.length_append, show [n].length = 1 from rfl, iR]
   congr 1
   ·exact aC fun a ha=>by simp only [fR,List.getD,List.getElem?_append_left ha]
   ·simp [fR,List.getD]
theorem Ji (hj:Jn (gS js) N js.length) (f:Nat → Qi):aF N f = (aF (gR (oA js) N).length fun a=>f (fR (gR (oA js) N) a)) + aF (2 * js.length) fun y=>f (gq (gS js) y):=by
 rw [← Xm]
 have e : ∀ k, k < N → f k = (if k ∈ oA js then 0 else f k) + aF (2 * js.length) fun y => if gq (gS js) y = k then f k else 0 := fun k hk => by
  by_cases c:k ∈ oA js
  ·obtain ⟨x, hx, e⟩ := uF.1 c
   rw [if_pos c,cO hx (fun y hy hne=>if_neg fun e2=>hne (hj.inj _ _ hy hx (e2.trans e.symm))),if_pos e]; grind
  ·rw [if_neg c,gM fun y hy=>if_neg fun e2=>c (uF.2 ⟨y,hy,e2⟩)]; grind
 rw [aC e,pK]
 congr 1
 rw [iH]
 exact aC fun y hy=>by rw [cO (hj.lt y hy) (fun k _ hk=>if_neg (Ne.symm hk)),if_pos rfl]
theorem Qt (f : Nat → Qi) : ∀ m, aF (2 * m) (fun y => f (oC y)) = aF (2 * m) f
 | 0=>rfl
 | m + 1 => by
  rw [show 2 * (m + 1) = 2 * m + 1 + 1 by omega,iR,iR,iR,iR,Qt f m,show oC (2 * m) = 2 * m + 1 by unfold oC; split <;> omega,show oC (2 * m + 1) = 2 * m by unfold oC; split <;> omega]; grind
theorem Bo {G:List Nat} {n a:Nat} (h:a < (gR G n).length):fR (gR G n) a ∉ G:=by
 have : ∀ n x, x ∈ gR G n → x ∉ G := fun n => by
  induction n with
  | zero=>intro x h; cases h
  | succ n ih =>
   intro x h
   rcases List.mem_append.1 h with h1 | h1
   ·exact ih x h1
   ·by_cases c : n ∈ G
    ·rw [if_pos c] at h1; cases h1
    ·rw [if_neg c] at h1; rw [List.mem_singleton.1 h1]; exact c
 refine this n _ ?_
 rw [show fR (gR G n) a = (gR G n)[a] by simp [fR,List.getD,h]]; exact List.getElem_mem h
theorem Pv {G:List Nat} {n a:Nat} (h:a < (gR G n).length):fR (gR G n) a < n:=pH (fun _ k=>Gh k) h
theorem Eg (G : List Nat) : ∀ n, (gR G n).Pairwise (· < ·)
 | 0=>List.Pairwise.nil
 | n + 1 => by
  rw [gR,List.pairwise_append]
  refine ⟨Eg G n,?_,fun a ha b hb=>?_⟩
  ·split
   ·exact List.Pairwise.nil
   ·exact List.pairwise_singleton _ _
  ·have := Gh ha
   split at hb
   ·cases hb
   ·rw [List.mem_singleton.1 hb]; exact this
theorem Jl {G:List Nat} {n a b:Nat} (ha:a < (gR G n).length) (hb:b < (gR G n).length) (e:fR (gR G n) a = fR (gR G n) b):a = b:=by
 have hs:=List.pairwise_iff_getElem.1 (Eg G n)
 have e1:∀ i (h:i < (gR G n).length),fR (gR G n) i = (gR G n)[i]:=fun i h=>by simp [fR,List.getD,h]
 rw [e1 a ha,e1 b hb] at e
 rcases Nat.lt_trichotomy a b with c | c | c
 ·have:=hs a b ha hb c; omega
 ·exact c
 ·have:=hs b a hb ha c; omega
theorem Wz {a k:Nat} (ha:a < (gR (oA js) N).length) (hk:k < N):gm (Hj S js N) a k = xU S js (fR (gR (oA js) N) a) k:=by
 rw [Hj,Mm ha,iJ hk]
theorem a0C (hS : cM S z.length z.length) (hj : Jn (gS js) z.length js.length) (hk : JK S js) (hz : ∀ y, y < 2 * js.length → gv z (gq (gS js) y) = gv z (gq (gS js) (oC y))) :
  jD (Hj S js z.length) (gG z S) = gG (Ss z js) (Jh z S js):=by
 have hl:(Hj S js z.length).length = (gR (oA js) z.length).length:=by rw [Hj,List.length_map]
 have hzl:(Ss z js).length = (gR (oA js) z.length).length:=aN _ _
 have hsl:(Jh z S js).length = (Ss z js).length:=by rw [Jh,aN,hzl]; rfl
 refine jP (n:=(gR (oA js) z.length).length) (m:=(gR (oA js) z.length).length) (by rw [← hl]; exact oY) (by rw [← hzl]; exact lE _ _) fun a ha b hb=>?_
 have fa:=Bo ha
 have fb:=Bo hb
 have la:=Pv ha
 have lb:=Pv hb
 have hab:a = b ↔ fR (gR (oA js) z.length) a = fR (gR (oA js) z.length) b:=⟨fun e=>e ▸ rfl,Jl ha hb⟩
 rw [qM (N:=z.length) (lE z S).1 zo zo,qD hsl zo zo,hzl]
 have e1:∀ k,k < (gR (oA js) z.length).length → gm (Jh z S js) a k = jnX S (gS js) (2 * js.length) (fR (gR (oA js) z.length) a) (fR (gR (oA js) z.length) k):=fun k hk=>eR ha hk
 have e2:∀ k,k < (gR (oA js) z.length).length → gm (Jh z S js) b k = jnX S (gS js) (2 * js.length) (fR (gR (oA js) z.length) b) (fR (gR (oA js) z.length) k):=fun k hk=>eR hb hk
 have e3:∀ k,k < (gR (oA js) z.length).length → gv (Ss z js) k = gv z (fR (gR (oA js) z.length) k):=fun k hk=>iJ hk
 rw [e3 a ha,aC fun k hk=>by rw [e1 k hk,e2 k hk,e3 k hk]]
 have q0 : mK z.length (gm (Hj S js z.length) a) (gm (Hj S js z.length) b) (gm (gG z S)) = mK z.length (xU S js (fR (gR (oA js) z.length) a)) (xU S js (fR (gR (oA js) z.length) b)) (fun u v => (if u = v then gv z u else 0) - mK z.length (gm S u) (gm S v) (fun x y => if x = y then gv z x else 0)) :=
  rQ (fun k hk=>Wz ha hk) (fun k hk=>Wz hb hk) fun u v hu hv=>by rw [qD hS.1 hu hv,mZ]
 rw [q0,Kg,mZ,Kf,mZ]
 generalize hA:fR (gR (oA js) z.length) a = A at *
 generalize hB:fR (gR (oA js) z.length) b = B at *
 rw [Ji hj,Ji hj (fun k=>(aF z.length fun a_1=>xU S js A a_1 * gm S a_1 k) * gv z k * (aF z.length fun a_1=>xU S js B a_1 * gm S a_1 k).conj)]
 have p1 : aF (gR (oA js) z.length).length (fun k => xU S js A (fR (gR (oA js) z.length) k) * gv z (fR (gR (oA js) z.length) k) * (xU S js B (fR (gR (oA js) z.length) k)).conj) = if a = b then gv z A else 0 := by
  rw [cO ha (fun k hk hne => by
   rw [wJ (Bo hk),if_neg fun e=>hne (Jl hk ha (e.trans hA.symm))]; grind),hA,wJ fa,if_pos rfl,wJ fa]
  by_cases c:a = b
  ·rw [if_pos c,if_pos (hab.1 c),Ba]; grind
  ·rw [if_neg c,if_neg fun e=>c (hab.2 e),qN]; grind
 have p2 : aF (2 * js.length) (fun y => (aF z.length fun k => xU S js A k * gm S k (gq (gS js) y)) * gv z (gq (gS js) y) * (aF z.length fun k => xU S js B k * gm S k (gq (gS js) y)).conj) = aF (2 * js.length) fun y => xU S js A (gq (gS js) y) * gv z (gq (gS js) y) * (xU S js B (gq (gS js) y)).conj := by
  rw [← Qt (fun y=>xU S js A (gq (gS js) y) * gv z (gq (gS js) y) * (xU S js B (gq (gS js) y)).conj)]
  exact aC fun y hy=>by rw [a5b hj hk la fa hy,a5b hj hk lb fb hy,hz y hy]
 have p3 : aF (gR (oA js) z.length).length (fun k => (aF z.length fun u => xU S js A u * gm S u (fR (gR (oA js) z.length) k)) * gv z (fR (gR (oA js) z.length) k) * (aF z.length fun u => xU S js B u * gm S u (fR (gR (oA js) z.length) k)).conj) = aF (gR (oA js) z.length).length fun k => jnX S (gS js) (2 * js.length) A (fR (gR (oA js) z.length) k) * gv z (fR (gR (oA js) z.length) k) * (jnX S (gS js) (2 * js.length) B (fR (gR (oA js) z.length) k)).conj :=
  aC fun k _=>by rw [a3v hj hk la fa,a3v hj hk lb fb]
 rw [p1,p2,p3]
 grind
theorem a5C (hd:jdE z js = 0) {y:Nat} (hy:y < 2 * js.length):gv z (gq (gS js) y) = gv z (gq (gS js) (oC y)):=by
 have key : ∀ k, k < js.length → gv z (gq (gS js) (2 * k)) = gv z (gq (gS js) (2 * k + 1)) := fun k hk => by
  obtain ⟨_,_,e⟩:=Jj (iV hd k hk)
  rw [(a2A hk).1,(a2A hk).2]; exact e
 have h:=key (y / 2) zo
 by_cases c:y % 2 = 0
 ·rw [show oC y = 2 * (y / 2) + 1 by unfold oC; rw [if_pos c]; omega,← h]; congr 2; omega
 ·rw [show oC y = 2 * (y / 2) by unfold oC; rw [if_neg c]; omega,h]; congr 2; omega
theorem Gd {z zb:List Qi} {k:Nat} (h:k < z.length):gv (z ++ zb) k = gv z k:=by simp only [gv,List.getD,List.getElem?_append_left h]
theorem Pn {z zb:List Qi} {k:Nat}:gv (z ++ zb) (z.length + k) = gv zb k:=by simp only [gv,List.getD,List.getElem?_append_right (Nat.le_add_right _ _),Nat.add_sub_cancel_left]
theorem Yq {z zb:List Qi} {a b:List (List Qi)} (ha:a.length = z.length) (hb:b.length = zb.length):gG (z ++ zb) (rA a b z.length zb.length) = rA (gG z a) (gG zb b) z.length zb.length:=by
 have hl:(z ++ zb).length = z.length + zb.length:=List.length_append
 refine jP (n:=z.length + zb.length) (m:=z.length + zb.length) (by rw [← hl]; exact lE _ _) (tQ _ _ _ _) fun i hi j hj=>?_
 have g1:∀ i k,i < z.length → k < z.length → gm (rA a b z.length zb.length) i k = gm a i k:=fun i k h1 h2=>by rw [gD zo zo,if_pos h1,if_pos h2]
 have g2:∀ i k,i < z.length → k < zb.length → gm (rA a b z.length zb.length) i (z.length + k) = 0:=fun i k h1 h2=>by rw [gD zo zo,if_pos h1,if_neg zo]; rfl
 have g3:∀ i k,i < zb.length → k < z.length → gm (rA a b z.length zb.length) (z.length + i) k = 0:=fun i k h1 h2=>by rw [gD zo zo,if_neg zo,if_neg zo]; rfl
 have g4:∀ i k,i < zb.length → k < zb.length → gm (rA a b z.length zb.length) (z.length + i) (z.length + k) = gm b i k:=fun i k h1 h2=>by rw [gD zo zo,if_neg zo,if_pos zo,Nat.add_sub_cancel_left,Nat.add_sub_cancel_left]
 rw [qD (by rw [(tQ _ _ _ _).1,hl]) zo zo,hl,rB]
 by_cases ci:i < z.length
 ·by_cases cj : j < z.length
  ·rw [gD hi hj, if_pos ci, if_pos cj, qD ha ci cj, Gd ci, gM (m := zb.length) fun k hk => by rw [g2 i k ci hk]; grind]
   rw [aC fun k hk=>by rw [g1 i k ci hk,g1 j k cj hk,Gd hk]]; grind
  ·obtain ⟨j', rfl⟩ : ∃ j', j = z.length + j' := ⟨j - z.length, by omega⟩
   rw [gD hi hj,if_pos ci,if_neg cj,if_neg zo,gM (m:=zb.length) (fun k hk=>by rw [g2 i k ci hk]; grind),gM fun k hk=>by rw [g3 j' k zo hk,qN]; grind]
   show _ = (0:Qi); grind
 ·obtain ⟨i', rfl⟩ : ∃ i', i = z.length + i' := ⟨i - z.length, by omega⟩
  by_cases cj:j < z.length
  ·rw [gD hi hj, if_neg ci, if_neg zo, if_neg zo, gM (m := z.length) (fun k hk => by rw [g3 i' k zo hk]; grind), gM fun k hk => by rw [g2 j k cj hk, qN]; grind]
   show _ = (0:Qi); grind
  ·obtain ⟨j', rfl⟩ : ∃ j', j = z.length + j' := ⟨j - z.length, by omega⟩
   rw [gD hi hj,if_neg ci,if_pos (show z.length ≤ z.length + j' by omega),Nat.add_sub_cancel_left,Nat.add_sub_cancel_left,qD hb zo zo,Pn,gM (m:=z.length) fun k hk=>by rw [g3 i' k zo hk]; grind]
   rw [aC fun k hk=>by rw [g4 i' k zo hk,g4 j' k zo hk,Pn]]
   by_cases c:i' = j'
   ·rw [if_pos c,if_pos (show z.length + i' = z.length + j' by omega)]; grind
   ·rw [if_neg c,if_neg (show ¬ z.length + i' = z.length + j' by omega)]; grind
theorem Zi {c d : List (List Qi)} {t : Qi} {x y : Nat} : jA t (rA c d x y) (x + y) = rA (jA t c x) (jA t d y) x y := jP mN (tQ _ _ _ _) fun i hi j hj => by
 rw [jA,eR hi hj,gD hi hj,gD hi hj]
 by_cases ci:i < x
 ·rw [if_pos ci, if_pos ci]
  by_cases cj:j < x
  ·rw [if_pos cj,if_pos cj,jA,eR ci cj]
  ·rw [if_neg cj,if_neg cj]; show t * (0:Qi) = 0; grind
 ·rw [if_neg ci, if_neg ci]
  by_cases cj:x ≤ j
  ·rw [if_pos cj,if_pos cj,jA,eR zo zo]
  ·rw [if_neg cj,if_neg cj]; show t * (0:Qi) = 0; grind
end
end
section
open Go Go.RowKit
section
variable {z w:List Qi} {s:List (List Qi)} {n:Nat}
theorem a4b (hw:w.length = n) {i j:Nat} (hi:i < n) (hj:j < n):gm (Ud z w s) i j = (if i = j then 1 - jV z w i else 0) + (1 + jV z w i) * gm s i j:=by
 subst hw
 have e:gm (Ud z w s) i j = mxE (rnM z w) (rnP z w) s i j:=eR hi hj
 rw [e,mxE,rnM,rnP,iJ hi,iJ hi]; rfl
theorem a4c (hw:w.length = n) {i j:Nat} (hi:i < n) (hj:j < n):gm (yR z w s) i j = (if i = j then 1 + jV z w i else 0) + (1 - jV z w i) * gm s i j:=by
 subst hw
 have e:gm (yR z w s) i j = mxE (rnP z w) (rnM z w) s i j:=eR hi hj
 rw [e,mxE,rnM,rnP,iJ hi,iJ hi]; rfl
theorem wY (hz:z.length = n) (hw:w.length = n) (h:Aa z w s = 0):w.all fB = true ∧ sO (yR z w s) n = 0 ∧ nX z w s = jY (Ud z w s) (qU (yR z w s) n) n n n ∧ Zf z w s = w:=by
 have e:=h
 rw [Aa,if_neg zo] at e
 by_cases c:w.all fB = true
 ·rw [if_pos c] at e
  subst hw
  exact ⟨c,Yo e,by rw [nX,dA,if_pos h],by rw [Zf,dA,if_pos h]⟩
 ·rw [if_neg c] at e; omega
end
end
section
open Go Go.RowKit
section
variable {z w:List Qi} {s c:List (List Qi)} {n:Nat}
def xE (z w:List Qi) (S:List (List Qi)) (i k:Nat):Qi:=if i = k then (1 + jV z w k) * pU - gm S i k * ((1 - jV z w k) * pU) else -(gm S i k * ((1 - jV z w k) * pU))
def Yb (z w:List Qi) (S:List (List Qi)) (n:Nat):List (List Qi):=tab n fun i=>tab n fun k=>xE z w S i k
def nrC (z w:List Qi) (s c:List (List Qi)):List (List Qi):=dA (Aa z w s) (jD (Yb z w (nX z w s) w.length) c)
theorem Ya {S:List (List Qi)} {i k:Nat}:xE z w S i k = (if i = k then (1 + jV z w k) * pU else 0) - gm S i k * ((1 - jV z w k) * pU):=by
 unfold xE
 by_cases e:i = k
 ·rw [if_pos e,if_pos e]
 ·rw [if_neg e,if_neg e]; grind
theorem Gm (z w:List Qi) (S:List (List Qi)) (n:Nat):cM (Yb z w S n) n n:=cM.tab
theorem Yc {S:List (List Qi)} {i k:Nat} (hi:i < n) (hk:k < n):gm (Yb z w S n) i k = xE z w S i k:=eR hi hk
theorem a4f (hz:z.length = n) (hw:w.length = n) (h:Aa z w s = 0) {i j:Nat} (hi:i < n) (hj:j < n):(aF n fun u=>gm (nX z w s) i u * gm (yR z w s) u j) = gm (Ud z w s) i j:=by
 obtain ⟨hq,hiB,hS,-⟩:=wY hz hw h
 have hBs:cM (yR z w s) n n:=by rw [← hw]; exact zW _ _ _ _
 have l:=a2w hBs hiB
 have e1:∀ u,u < n → gm (nX z w s) i u = aF n fun v=>gm (Ud z w s) i v * gm (qU (yR z w s) n) v u:=fun u hu=>by rw [hS,mH hi hu]
 have e2:∀ v,v < n → (aF n fun u=>gm (qU (yR z w s) n) v u * gm (yR z w s) u j) = if v = j then 1 else 0:=fun v hv=>by rw [← mH hv hj,l,wI hv hj]
 have e3 : ∀ u, u < n → gm (nX z w s) i u * gm (yR z w s) u j = aF n fun v => gm (Ud z w s) i v * (gm (qU (yR z w s) n) v u * gm (yR z w s) u j) := fun u hu => by
  rw [e1 u hu,← iL]; exact aC fun v _=>by grind
 rw [aC e3,iH]
 have e4:∀ v,v < n → (aF n fun u=>gm (Ud z w s) i v * (gm (qU (yR z w s) n) v u * gm (yR z w s) u j)) = gm (Ud z w s) i v * (if v = j then 1 else 0):=fun v hv=>by rw [lY,e2 v hv]
 rw [aC e4,cO hj (fun v _ hne=>by rw [if_neg hne]; grind),if_pos rfl]; grind
theorem a5p (hz : z.length = n) (hw : w.length = n) (h : Aa z w s = 0) {i j : Nat} (hi : i < n) (hj : j < n) :
  (aF n fun u=>gm (nX z w s) i u * ((1 - jV z w u) * gm s u j)) = (if i = j then 1 - jV z w i else 0) + (1 + jV z w i) * gm s i j - gm (nX z w s) i j * (1 + jV z w j):=by
 have a:=a4f hz hw h hi hj
 rw [a4b hw hi hj] at a
 have e : ∀ u, u < n → gm (nX z w s) i u * gm (yR z w s) u j = (if u = j then gm (nX z w s) i u * (1 + jV z w u) else 0) + gm (nX z w s) i u * ((1 - jV z w u) * gm s u j) := fun u hu => by
  rw [a4c hw hu hj]
  by_cases k:u = j
  ·rw [if_pos k,if_pos k]; grind
  ·rw [if_neg k,if_neg k]; grind
 rw [aC e,pK,cO hj (fun u _ hne=>if_neg hne),if_pos rfl] at a
 grind
theorem a5F (hz : z.length = n) (hw : w.length = n) (h : Aa z w s = 0) {i j : Nat} (hi : i < n) (hj : j < n) :
  (aF n fun u=>xE z w (nX z w s) i u * gm s u j) = pU * (gm (nX z w s) i j * (1 + jV z w j) - if i = j then 1 - jV z w i else 0):=by
 have e : ∀ u, u < n → xE z w (nX z w s) i u * gm s u j = (if u = i then (1 + jV z w i) * pU * gm s i j else 0) - pU * (gm (nX z w s) i u * ((1 - jV z w u) * gm s u j)) := fun u hu => by
  rw [Ya]
  by_cases k:u = i
  ·subst k; rw [if_pos rfl,if_pos rfl]; grind
  ·rw [if_neg k,if_neg (Ne.symm k)]; grind
 rw [aC e,pL,cO hi (fun u _ hne=>if_neg hne),if_pos rfl,a5p hz hw h hi hj]
 grind
abbrev dl (i k:Nat):Qi:=if i = k then 1 else 0
theorem Ex {n:Nat} (f g:Nat → Qi):aF n f - aF n g = aF n fun k=>f k - g k:=by
 rw [aC (f:=fun k=>f k - g k) (g:=fun k=>f k - 1 * g k) (fun k _=>by grind),pL]; grind
theorem a3q {i k:Nat} (e:i = k):dl i k = 1:=if_pos e
theorem a3p {i k:Nat} (e:¬ i = k):dl i k = 0:=if_neg e
theorem o11 (x:Qi):1 * 1 * x = x:=by grind
theorem o10 (x:Qi):1 * 0 * x = 0:=by grind
theorem a0L (i k:Nat):(dl i k).conj = dl i k:=by
 unfold dl
 by_cases e:i = k
 ·rw [if_pos e]; exact Ba
 ·rw [if_neg e]; exact qN
theorem Xz {S:List (List Qi)} {i k:Nat}:xE z w S i k = dl i k * ((1 + jV z w k) * pU) - gm S i k * ((1 - jV z w k) * pU):=by
 rw [Ya]
 by_cases e:i = k
 ·rw [if_pos e,a3q e]; grind
 ·rw [if_neg e,a3p e]; grind
theorem a2C (hz : z.length = n) (hw : w.length = n) (h : Aa z w s = 0) {i j : Nat} (hi : i < n) (hj : j < n) :
  (aF n fun u=>xE z w (nX z w s) i u * gm s u j) = pU * (gm (nX z w s) i j * (1 + jV z w j) - dl i j * (1 - jV z w j)):=by
 rw [a5F hz hw h hi hj]
 by_cases e:i = j
 ·rw [if_pos e,a3q e,e]; grind
 ·rw [if_neg e,a3p e]; grind
theorem a3T {a b r x x' y h:Qi} (h4:h * h * 4 = 1):(a * ((1 + r) * h) - x * ((1 - r) * h)) * y * (b * ((1 + r) * h) - x' * ((1 - r) * h)) - (h * (x * (1 + r) - a * (1 - r))) * y * (h * (x' * (1 + r) - b * (1 - r))) = a * b * (r * y) - x * (r * y) * x':=by grind
theorem Xc:pU * pU * 4 = 1:=by rw [show pU * pU * 4 = (pU * 2) * (pU * 2) by grind,a5B]; grind
theorem Wb:pU.conj = pU:=by decide +kernel
theorem Eo {x:Qi} (h:fB x = true):x.conj = x:=by
 have hb:=a48 h
 have e : x.im = 0 := by
  have h2:=(Pb x).2
  rw [hb] at h2
  have hd : ((x.den : Int) : Rat) ≠ 0 := by
   have:=x.den_pos
   intro k
   have:(x.den:Int) = 0:=by exact_mod_cast k
   omega
  have h3:((x.den:Int):Rat) * x.im = 0:=by rw [h2]; rfl
  rcases Rat.mul_eq_zero.1 h3 with k | k
  ·exact absurd k hd
  ·exact k
 exact Qi.ext' rfl (by show -x.im = x.im; rw [e]; rfl)
theorem Ze (hz:z.length = n) (hw:w.length = n) (hp:z.all fB = true) (hq:w.all fB = true) {k:Nat} (hk:k < n):(jV z w k).conj = jV z w k ∧ jV z w k * gv z k = gv w k:=by
 have hne:=sB hp (show k < z.length by omega)
 have e:=xQ (x:=gv w k) hne
 have e2:jV z w k * gv z k = gv w k:=e
 have pz : fB (gv z k) = true := by
  rw [List.all_eq_true] at hp
  exact hp _ (by rw [show gv z k = z[k]'zo by simp [gv,List.getD,show k < z.length by omega]]; exact List.getElem_mem _)
 have pw : fB (gv w k) = true := by
  rw [List.all_eq_true] at hq
  exact hq _ (by rw [show gv w k = w[k]'zo by simp [gv,List.getD,show k < w.length by omega]]; exact List.getElem_mem _)
 refine ⟨?_,e2⟩
 have c:=congrArg Qi.conj e2
 rw [Az,Eo pz,Eo pw] at c
 have d:((jV z w k).conj - jV z w k) * gv z k = 0:=by grind
 rcases iY d with k1 | k1
 ·grind
 ·exact absurd k1 hne
theorem a3U (hz:z.length = n) (hw:w.length = n) (hs:cM s n n) (hp:z.all fB = true) (h:Aa z w s = 0):jD (Yb z w (nX z w s) n) (gG z s) = gG w (nX z w s):=by
 obtain ⟨hq,-,hS,-⟩:=wY hz hw h
 have hS2:cM (nX z w s) n n:=by rw [hS]; exact kM
 have hl:=(Gm z w (nX z w s) n).1
 refine jP (n:=n) (m:=n) (by have:=oY (p:=Yb z w (nX z w s) n) (c:=gG z s); rwa [hl] at this) (by have:=lE w (nX z w s); rwa [hw] at this) fun i hi j hj=>?_
 rw [qM (N:=n) (by rw [(lE z s).1,hz]) zo zo,qD (by rw [hS2.1,hw]) zo zo,hw]
 have q0 : mK n (gm (Yb z w (nX z w s) n) i) (gm (Yb z w (nX z w s) n) j) (gm (gG z s)) = mK n (xE z w (nX z w s) i) (xE z w (nX z w s) j) (fun u v => (if u = v then gv z u else 0) - mK n (gm s u) (gm s v) (fun x y => if x = y then gv z x else 0)) :=
  rQ (fun k hk=>Yc hi hk) (fun k hk=>Yc hj hk) fun u v hu hv=>by rw [qD (by rw [hs.1,hz]) zo zo,hz,mZ]
 rw [q0,Kg,mZ,Kf,mZ]
 have t : ∀ k, k < n → xE z w (nX z w s) i k * gv z k * (xE z w (nX z w s) j k).conj - (aF n fun a => xE z w (nX z w s) i a * gm s a k) * gv z k * (aF n fun a => xE z w (nX z w s) j a * gm s a k).conj
   = dl i k * dl j k * gv w k - gm (nX z w s) i k * gv w k * (gm (nX z w s) j k).conj:=fun k hk=>by
  obtain ⟨rc,re⟩:=Ze hz hw hp hq hk
  rw [a2C hz hw h hi hk,a2C hz hw h hj hk,Xz,Xz]
  simp only [Wc,Az,Ij,Ba,a0L,rc,Wb]
  rw [a3T Xc,re]
 rw [Ex,aC t,← Ex,cO hi (fun k _ hne=>by rw [show dl i k = 0 from if_neg (Ne.symm hne)]; grind),show dl i i = 1 from if_pos rfl]
 congr 1
 by_cases k:i = j
 ·rw [if_pos k,a3q k.symm,o11]
 ·rw [if_neg k,a3p (Ne.symm k),o10]
end
section
variable {z:List Qi} {s:List (List Qi)} {n:Nat}
def Cb (z:List Qi) (s:List (List Qi)) (i k m:Nat):Qi:=(if i = k then 1 / gv z i else 0) - aF m fun m=>(gm s m i).conj * gm s m k / gv z m
def pwM (z:List Qi) (s:List (List Qi)):List (List Qi):=tab z.length fun i=>tab z.length fun k=>Cb z s i k z.length
def Bs (z:List Qi) (s:List (List Qi)):Bool:=(pwM z s).all fun r=>!r.any fun x=>!decide (x = 0)
theorem a19 (h:Bs z s = true) {i k:Nat} (hi:i < z.length) (hk:k < z.length):Cb z s i k z.length = 0:=by
 rw [Bs,List.all_eq_true] at h
 have h2:=h (tab z.length fun k=>Cb z s i k z.length) (eA.2 ⟨i,hi,rfl⟩)
 rw [Bool.not_eq_true',List.any_eq_false] at h2
 have h3:=h2 (Cb z s i k z.length) (eA.2 ⟨k,hk,rfl⟩)
 simpa using h3
theorem Xo (hs:cM s z.length z.length) (hp:z.all fB = true) (h:Bs z s = true):gG z s = qA z.length z.length:=by
 have hne:∀ {i},i < z.length → gv z i ≠ 0:=fun hi=>sB hp hi
 have hm : jY (tab z.length fun i => tab z.length fun m => gv z i * (gm s m i).conj / gv z m) s z.length z.length z.length = wK z.length := jP kM (rL _) fun i hi k hk => by
  rw [mH hi hk,wI hi hk]
  have e:=a19 h hi hk
  rw [Cb] at e
  have t : ∀ m, m < z.length → gm (tab z.length fun i => tab z.length fun m => gv z i * (gm s m i).conj / gv z m) i m * gm s m k = gv z i * ((gm s m i).conj * gm s m k / gv z m) := fun m hm => by
   rw [eR hi hm,Qi.div_def,Qi.div_def]; grind
  rw [aC t,lY]
  have e2:(aF z.length fun m=>(gm s m i).conj * gm s m k / gv z m) = if i = k then 1 / gv z i else 0:=by grind
  rw [e2]
  by_cases c:i = k
  ·rw [if_pos c, if_pos c, Qi.div_def]
   have:=sR (hne hi)
   grind
  ·rw [if_neg c,if_neg c]; grind
 have hr:=Gv cM.tab hs hm
 refine jP (lE z s) (uP _ _) fun i hi k hk=>?_
 rw [qD hs.1 hi hk]
 have e:gm (wK z.length) i k = if i = k then 1 else 0:=wI hi hk
 rw [← hr,mH hi hk] at e
 have t : ∀ m, m < z.length → gm s i m * gm (tab z.length fun i => tab z.length fun m => gv z i * (gm s m i).conj / gv z m) m k = (gm s i m * gv z m * (gm s k m).conj) * Qi.inv (gv z k) := fun m hm => by
  rw [eR hm hk,Qi.div_def]; grind
 rw [aC t,iL] at e
 have hk1:=sR (hne hk)
 have e3 : (aF z.length fun m => gm s i m * gv z m * (gm s k m).conj) = (if i = k then 1 else 0) * gv z k := by
  generalize (aF z.length fun m=>gm s i m * gv z m * (gm s k m).conj) = X at *
  rw [← e]; grind
 rw [e3,show gm (qA z.length z.length) i k = 0 from eR hi hk]
 by_cases c:i = k
 ·rw [if_pos c,if_pos c,c]; grind
 ·rw [if_neg c,if_neg c]; grind
theorem Zj {t : Qi} : jA t (qA n n) n = qA n n := jP mN (uP _ _) fun i hi j hj => by
 rw [jA,eR hi hj,show gm (qA n n) i j = 0 from eR hi hj]; grind
end
section
variable {z:List Qi} {s:List (List Qi)} {l:List Int}
theorem Bk : ∀ (n : Nat) (q : Nat → Nat), (∀ i, i < n → q i < n) → (∀ i j, i < n → j < n → q i = q j → i = j) → ∀ k, k < n → ∃ i, i < n ∧ q i = k
 | 0,_,_,_,k,hk=>by omega
 | n + 1, q, hq, hi, k, hk => by
  have hqn:=hq n zo
  obtain ⟨hlt, hinj⟩ : (∀ i, i < n → (if q i = n then q n else q i) < n) ∧ ∀ i j, i < n → j < n → (if q i = n then q n else q i) = (if q j = n then q n else q j) → i = j := by
   constructor
   ·intro i h
    have a:=hq i zo
    by_cases c:q i = n
    ·rw [if_pos c]
     have:q n ≠ n:=fun e=>by have:=hi i n zo zo (c.trans e.symm); omega
     omega
    ·rw [if_neg c]; omega
   ·intro i j h1 h2 e
    by_cases c:q i = n
    ·by_cases d : q j = n
     ·exact hi i j zo zo (c.trans d.symm)
     ·rw [if_pos c, if_neg d] at e
      have:=hi n j zo zo e; omega
    ·by_cases d : q j = n
     ·rw [if_neg c, if_pos d] at e
      have:=hi i n zo zo e; omega
     ·rw [if_neg c,if_neg d] at e; exact hi i j zo zo e
  by_cases c:k = q n
  ·exact ⟨n,by omega,c.symm⟩
  ·by_cases d : k = n
   ·subst d
    obtain ⟨i,h1,h2⟩:=Bk k _ hlt hinj (q k) zo
    by_cases e:q i = k
    ·exact ⟨i,by omega,e⟩
    ·rw [if_neg e] at h2
     have:=hi i k zo zo h2; omega
   ·obtain ⟨i, h1, h2⟩ := Bk n _ hlt hinj k zo
    by_cases e:q i = n
    ·rw [if_pos e] at h2; exact absurd h2.symm c
    ·rw [if_neg e] at h2; exact ⟨i,by omega,h2⟩
theorem Yr {Q:List Nat} {n:Nat} (hl:Q.length = n) (hlt:∀ x,x ∈ Q → x < n) (hinj:∀ i j,i < n → j < n → fR Q i = fR Q j → i = j) (f:Nat → Qi):(aF n fun i=>f (fR Q i)) = aF n f:=by
 have hq:∀ i,i < n → fR Q i < n:=fun i hi=>pH hlt zo
 have e1 : (aF n fun i => f (fR Q i)) = aF n fun i => aF n fun k => if fR Q i = k then f k else 0 := aC fun i hi => by
  rw [cO (hq i hi) (fun k _ hne=>if_neg (Ne.symm hne)),if_pos rfl]
 rw [e1,iH]
 exact aC fun k hk => by
  obtain ⟨i,hi,e2⟩:=Bk n (fR Q) hq hinj k hk
  rw [cO hi (fun j hj hne=>if_neg fun e3=>hne (hinj j i hj hi (e3.trans e2.symm))),if_pos e2]
theorem a1M (hs:cM s z.length z.length) (he:vO z.length l = 0):nD (gG z s) (iN l) = gG (uU z (iN l)) (nD s (iN l)):=by
 have h0 : l.length = z.length ∧ rY z.length l = 0 := by
  by_cases c:l.length = z.length
  ·exact ⟨c,by rw [← Nh c]; exact he⟩
  ·rw [Ce c] at he; omega
 obtain ⟨h1,h2⟩:=h0
 have hl:(iN l).length = z.length:=by rw [tK,h1]
 have hlt:=Gs h2
 have hinj : ∀ i j, i < z.length → j < z.length → fR (iN l) i = fR (iN l) j → i = j := fun i j hi hj e => by
  obtain ⟨a1,a2⟩:=Qr h2 (i:=i) zo
  obtain ⟨b1,b2⟩:=Qr h2 (i:=j) zo
  exact Qs h2 zo zo zo
 have hq:∀ i,i < z.length → fR (iN l) i < z.length:=fun i hi=>pH hlt zo
 refine jP (n:=z.length) (m:=z.length) (by rw [← hl]; exact tR _ _) (by have:=lE (uU z (iN l)) (nD s (iN l)); rwa [nW,hl] at this) fun i hi j hj=>?_
 rw [qD (by rw [(tR s (iN l)).1,nW]) (by rw [nW,hl]; exact hi) (by rw [nW,hl]; exact hj),nW,hl]
 have e1:gm (nD (gG z s) (iN l)) i j = gm (gG z s) (fR (iN l) i) (fR (iN l) j):=eR zo zo
 have e2:∀ a k,a < z.length → k < z.length → gm (nD s (iN l)) a k = gm s (fR (iN l) a) (fR (iN l) k):=fun a k ha hk=>eR zo zo
 have e3:∀ k,k < z.length → gv (uU z (iN l)) k = gv z (fR (iN l) k):=fun k hk=>iJ zo
 have e4 : (aF z.length fun k => gm (nD s (iN l)) i k * gv (uU z (iN l)) k * (gm (nD s (iN l)) j k).conj) = aF z.length fun k => gm s (fR (iN l) i) k * gv z k * (gm s (fR (iN l) j) k).conj := by
  rw [← Yr hl hlt hinj (fun k=>gm s (fR (iN l) i) k * gv z k * (gm s (fR (iN l) j) k).conj)]
  exact aC fun k hk=>by rw [e2 i k hi hk,e2 j k hj hk,e3 k hk]
 rw [e1,qD hs.1 (hq i hi) (hq j hj),e4,e3 i hi]
 congr 1
 by_cases c:i = j
 ·rw [if_pos c,if_pos (by rw [c])]
 ·rw [if_neg c,if_neg fun e=>c (hinj i j hi hj e)]
end
section
variable {z:List Qi} {s:List (List Qi)} {g t:Qi} {p n:Nat}
theorem a26 (hz:z.length = n) (hs:cM s n n) (hp:p < n) (hn:n ≠ 1) (hd:Ub s g p ≠ 0):ntC z s (jA t (gG z s) n) g t p = jA t (gG (uT z p (n - 1)) (yI s p (n - 1) (iO s p g))) (n - 1):=by
 have hzl:(z ++ [gv z p]).length = n + 1:=by rw [List.length_append,hz]; rfl
 have hd1:=a0h hz hp
 have hj:=a5e hd1
 rw [hzl] at hj
 have hk : JK (iI s g n) (J1 p n) := fun b => by
  have:=Qh (S:=iI s g n) (p:=p) (q:=n) (bb:=b)
  rw [a12]; exact this.2 (Vd hp hd)
 have hb:cM (iI s g n) (n + 1) (n + 1):=tQ _ _ _ _
 have pU:=Gi hp
 have hl1:=wO hp
 -- the noise of both
 have c1 : rA (jA t (gG z s) n) [[t * (gv z p * (Qi.ofInt 1 - g * g.conj))]] n 1 = jA t (gG (z ++ [gv z p]) (iI s g n)) (n + 1) := by
  rw [← Xn,← Zi]
  congr 1
  have:=Yq (z:=z) (zb:=[gv z p]) (a:=s) (b:=[[g]]) (by rw [hs.1,hz]) rfl
  rw [hz] at this
  exact this.symm
 have c2:=a3V (z:=z) (s:=s) (c:=jA t (gG z s) n) (g:=g) (t:=t) (p:=p) hz hp mN hd (a3L (z:=z) (g:=g) (t:=t) (p:=p))
 rw [← c2,c1]
 have c3:=a0C (z:=z ++ [gv z p]) (S:=iI s g n) (js:=J1 p n) (by rw [hzl]; exact hb) (by rw [hzl]; exact hj) hk fun y hy=>a5C hd1 hy
 rw [hzl] at c3
 have c4:(gG (z ++ [gv z p]) (iI s g n)).length = n + 1:=by rw [(lE _ _).1,hzl]
 rw [If c4,c3]
 have g1:(Hj (iI s g n) (J1 p n) (n + 1)).length = n - 1:=by rw [Hj,List.length_map,pU,hl1]
 have z0 : Ss (z ++ [gv z p]) (J1 p n) = uT z p (n - 1) := by
  rw [Ss,jnF,hzl,pU,rM,Kz,tZ hp]
  exact dD fun i hi=>Gd (by rw [hz]; exact yD hi hp)
 have s0 : Jh (z ++ [gv z p]) (iI s g n) (J1 p n) = yI s p (n - 1) (iO s p g) := by
  have e : Jh (z ++ [gv z p]) (iI s g n) (J1 p n) = tab (gR [p] n).length fun x => tab (gR [p] n).length fun y => jnX (iI s g n) (gS (J1 p n)) (2 * (J1 p n).length) (fR (gR [p] n) x) (fR (gR [p] n) y) := by
   rw [Jh,jnF,hzl,pU]
  rw [e,hl1]
  refine dD fun x hx=>dD fun y hy=>?_
  have qx:fR (gR [p] n) x = kV p x:=by rw [rM,rC (by rw [tZ hp]; exact hx)]
  have qy:fR (gR [p] n) y = kV p y:=by rw [rM,rC (by rw [tZ hp]; exact hy)]
  have bx:=yD hx hp
  have bY:=yD hy hp
  have nx:kV p x ≠ p:=by unfold kV; split <;> omega
  have ny:kV p y ≠ p:=by unfold kV; split <;> omega
  rw [qx,qy,← a3v hj hk (show kV p x < n + 1 by omega) (by rw [a5c]; simp only [List.mem_cons,List.not_mem_nil,or_false,not_or]; exact ⟨nx,by omega⟩),iR,Hg]
  have z1:gm (iI s g n) n (kV p y) = 0:=by rw [gD zo zo,if_neg zo,if_neg zo]; rfl
  have e1 : ∀ k, k < n → xU (iI s g n) (J1 p n) (kV p x) k * gm (iI s g n) k (kV p y) = (if k = p then gm s (kV p x) p * iO s p g * gm s p (kV p y) else 0) + (if k = kV p x then gm s (kV p x) (kV p y) else 0) := fun k hk2 => by
   rw [Pl hp bx nx zo hd,if_pos hk2,Jv bx hp hk2,gD zo zo,if_pos hk2,if_pos bY]
   by_cases c:k = p
   ·rw [if_pos c,if_pos c,if_neg (fun k2=>nx (k2.symm.trans c)),c]; grind
   ·rw [if_neg c, if_neg c]
    by_cases c2:k = kV p x
    ·rw [if_pos c2,if_pos c2,c2,q1]; grind
    ·rw [if_neg c2,if_neg c2,q0]; grind
  rw [aC e1,pK,cO hp (fun k _ hne=>if_neg hne),if_pos rfl,cO bx (fun k _ hne=>if_neg hne),if_pos rfl,z1]; grind
 rw [z0,s0,g1]
end
end
section
open Go Go.RowKit
theorem Cd {z:List Qi} {s:List (List Qi)} {i k:Nat}:Cb z s i k 0 = if i = k then Qi.ofInt 1 / gv z i else Qi.zero:=by
 have e:Cb z s i k 0 = (if i = k then 1 / gv z i else 0) - 0:=rfl
 rw [e,show (if i = k then 1 / gv z i else (0:Qi)) - 0 = if i = k then 1 / gv z i else 0 by grind]; rfl
theorem Ke {z:List Qi} {s:List (List Qi)} {i k m:Nat}:Cb z s i k (m + 1) = Cb z s i k m - (gm s m i).conj * gm s m k / gv z m:=by
 unfold Cb
 rw [show (aF (m + 1) fun m=>(gm s m i).conj * gm s m k / gv z m) = (aF m fun m=>(gm s m i).conj * gm s m k / gv z m) + (gm s m i).conj * gm s m k / gv z m from rfl]
 grind
theorem Gu {z : List Qi} {s : List (List Qi)} {i k L : Nat} (hz : bP z L) (hs : bC s L) (hL : 1 ≤ L) (hp : z.all fB = true) (hi : i < z.length) : ∀ {m : Nat}, m ≤ z.length → aE (Cb z s i k m) (1 + 3 * L + 2 + m * (6 * L + 5))
 | 0, _ => by
  rw [Cd]
  split
  ·exact (wG kG (hz.get hL i) (sB hp hi)).le zo
  ·exact aE.zero zo
 | m + 1, hm => by
  rw [Ke]
  haveI f1:=Gu (k:=k) hz hs hL hp hi (m:=m) zo
  haveI f2:aE (gm s m i) L:=hs.get hL m i
  haveI f3:aE (gm s m k) L:=hs.get hL m k
  haveI f4:aE (gm s m i).conj L:=fitConj
  haveI f5:aE ((gm s m i).conj * gm s m k) (L + L + 1):=fitMul
  haveI f6:aE ((gm s m i).conj * gm s m k / gv z m) (L + L + 1 + 3 * L + 2):=wG f5 (hz.get hL m) (sB hp zo)
  exact (fitSub (x:=Cb z s i k m) (y:=(gm s m i).conj * gm s m k / gv z m) (L:=1 + 3 * L + 2 + m * (6 * L + 5)) (M:=L + L + 1 + 3 * L + 2)).le (by rw [Nat.succ_mul m]; omega)
theorem a1H {z : List Qi} {s : List (List Qi)} {L : Nat} (hz : bP z L) (hs : bC s L) (hL : 1 ≤ L) (hp : z.all fB = true) (h8 : z.length ≤ 8) : bC (pwM z s) (51 * L + 43) := bC.tab fun i k hi _ => (Gu hz hs hL hp hi (Nat.le_refl _)).le (by
 have:z.length * (6 * L + 5) ≤ 8 * (6 * L + 5):=Nat.mul_le_mul_right _ h8
 omega)
theorem a1I (z:List Qi) (s:List (List Qi)):cM (pwM z s) z.length z.length:=cM.tab
theorem Ur {M:List (List Qi)} {n:Nat} (h:M.length = n) (k:∀ j,j < n → ((M.getD j []).any fun x=>!decide (x = 0)) = false):(M.all fun r=>!r.any fun x=>!decide (x = 0)) = true:=by
 rw [List.all_eq_true]; intro r hr
 obtain ⟨j,hj,e⟩:=List.getElem_of_mem hr
 have:=k j zo
 rw [show M.getD j [] = r by simp [List.getD,hj,e]] at this
 rw [this]; rfl
theorem Xy {M:List (List Qi)} {j:Nat} (h:j < M.length) (k:((M.getD j []).any fun x=>!decide (x = 0)) = true):(M.all fun r=>!r.any fun x=>!decide (x = 0)) = false:=by
 rw [List.all_eq_false]
 refine ⟨M[j],List.getElem_mem h,?_⟩
 rw [show M.getD j [] = M[j] by simp [List.getD,h]] at k
 rw [k]; simp
theorem a3h {z:List Qi} {s:List (List Qi)} {n i k L:Nat} (hz:bP z L) (hs:bC s L) (hL:1 ≤ L) (hLb:L ≤ 100000000000) (hp:z.all fB = true) (hsh:cM s z.length z.length) (hn:n = z.length) (h8:n ≤ 8) (hi:i < n) (hk:k < n):bH Tryz.prog 232 [NT .i64 i,NT .i64 k,PT (gT z s)] (aH (Cb z s i k n)):=by
 have hsl:=hsh.1
 haveI f0:=kG
 haveI f1:aE (gv z i) L:=hz.get hL i
 refine bH.intro Tryz.func232 rfl Tryz.ntmps232 rfl (fun cx=>(ts (rn rfl (eG (Ts:=[Is (.bool false),Is (.slice none 0 0),Is (.bool false),Is (.slice none 0 0),Is (.slice none 0 0)]) O_51 rfl (fun V=>aW zd (aW zd (aW zd (aW zd (aW zd (aG))))))) fun B5=>(eZ (ts (ro rfl (aM.imp (zB ) mJ) (rn rfl (eG (Ts:=[Is (.bool false),Is (.slice none 0 0),Is (.bool false),Is (.slice none 0 0),Is (.slice none 0 0)]) O_51 rfl (fun V=>aW zd (aW zd (aW zd (aW zd (aW zd (aG))))))) fun B6=>?_)))))))
 refine gX Z_51 (Ht rfl) (Ht rfl) rfl (i:=1) rfl (aK rfl) rfl rfl (eZ (cU (cD [0,1] rfl (by decide) (jW (fun (x:Qi)=>x = Cb z s i k 0) (fun (x:Qi)=>[(0,NT .i64 i),(1,NT .i64 k),(2,PT (gT z s)),(5,bT B5 0),(6,bT B6 0)]) (fun (x:Qi)=>[box B5 51 [Is (.bool false),Is (.slice none 0 0),Is (.bool false),Is (.slice none 0 0),Is (.slice none 0 0)],box B6 51 [aD (decide (x.a < 0)),aI x.a.natAbs,aD (decide (x.b < 0)),aI x.b.natAbs,aI (du x)]]) ?_ (fun x hx=>?_)))))
 ·refine ts (rm rfl (rm rfl (ro rfl (dO (Ht rfl) (Ht rfl)) (eZ (dX (Ht rfl) (fun hb => ?_) (fun hb => ?_))))))
  ·have hij : i = k := by simpa using hb
   refine Y.D_start (m:=11) [(10,1,box B6 51 [aD (decide ((Qi.ofInt 1 / gv z i).a < 0)),aI (Qi.ofInt 1 / gv z i).a.natAbs,aD (decide ((Qi.ofInt 1 / gv z i).b < 0)),aI (Qi.ofInt 1 / gv z i).b.natAbs,aI (du (Qi.ofInt 1 / gv z i))])] (Y.D_step (Ei:=[]) rfl rfl bX rfl rfl (by kernel_rfl) (dZ rfl (cJ K_77 (oI (n:=1) (by decide) (by decide)) ⟨(cV 1),trivial⟩)) (Y.D_step (Ei:=[(2,_)]) rfl rfl (bQ (bJ rfl rfl) bX) rfl rfl (by kernel_rfl) (dZ rfl (oO kF (Ht rfl) rfl)) (Y.D_step (Ei:=[(16,_)]) rfl rfl (bQ (bZ 1 rfl rfl) bX) rfl rfl (by kernel_rfl) (dZ rfl (dV A_29 Z_29 (Ht rfl))) ?_)))
   refine Y.D_step (Ei:=[(0,_)]) rfl rfl (bQ (bJ rfl rfl) bX) rfl rfl (by kernel_rfl) (dZ rfl (cZ (Ht rfl))) (Y.D_step (Ei:=[(17,_),(18,_)]) rfl rfl (bQ (bZ 2 rfl rfl) (bQ (bZ 3 rfl rfl) bX)) rfl rfl (by kernel_rfl) (dZ rfl (dJ U_29 Z_51 (Ht rfl) (Ht rfl) rfl (eQ (dY (d:=Qi.zero) zo)))) (Y.D_step (Ei:=[(19,_)]) rfl rfl (bQ (bZ 4 rfl rfl) bX) rfl rfl (by kernel_rfl) (dZ rfl (dV A_51 Z_51 (Ht rfl))) (Y.D_step (Ei:=[(15,_),(20,_)]) rfl rfl (bQ (bZ 0 rfl rfl) (bQ (bZ 5 rfl rfl) bX)) rfl rfl (by kernel_rfl) (dZ rfl (cJ K_40 (vB (x:=Qi.ofInt 1) (y:=gv z i) (L:=1) (M:=L) zo) ⟨(Ht rfl),(Ht rfl),trivial⟩)) ?_)))
   refine Y.D_step (Ei:=[(21,_)]) rfl rfl (bQ (bZ 6 rfl rfl) bX) rfl rfl (by kernel_rfl) (dZ rfl (cZ (Ht rfl))) (Y.D_step (Ei:=[(14,_)]) rfl rfl (bQ (bZ 7 rfl rfl) bX) rfl rfl (by kernel_rfl) (dZ rfl (dU (Ht rfl) rfl)) (cQ (Ei:=[(14,_)]) rfl rfl (bQ (bZ 7 rfl rfl) bX) rfl rfl (dZ rfl (dU (Ht rfl) rfl)) (Y.D_putI (Ei:=[(6,_),(22,_)]) 1 rfl rfl rfl (bQ (bJ rfl rfl) (bQ (bZ 8 rfl rfl) bX)) (.head _) rfl (lA Z_51 (Ht rfl) (Ht rfl) rfl (i:=0) rfl (aK rfl) rfl rfl) ?_)))
   refine Y.D_done bE rfl (by kernel_rfl) rfl (by simp [Y.okP]) rfl rfl (bU (bU (bU (bU (bU (bU (bU (bU (bU (bU (Y.F_putI (Y.F_nil ?_))))))))))))
   refine eZ (bD (Qi.ofInt 1 / gv z i) (by rw [Cd,if_pos hij]) (zS rfl) (aU (aB rfl) (aU (aB rfl) aY)))
  ·have hij : ¬ i = k := by simpa using hb
   refine cY (bD Qi.zero (by rw [Cd,if_neg hij]) (zS rfl) (aU (aB rfl) (aU (aB rfl) aY)))
 ·subst hx
  refine cU (ts (ro rfl (oO kP (Ht rfl) rfl) (ro rfl (dV A_30 Z_30 (Ht rfl)) (ro rfl (dK U_30 (Ht rfl) (by rw [List.length_map,hsl])) ?_))))
  refine ro rfl (cZ (cV 0)) (eZ (eK ?_))
  refine cF (fun (m : Nat) => m ≤ n) (fun (m : Nat) => n - m) (fun (m : Nat) => [(0, NT .i64 i), (1, NT .i64 k), (2, PT (gT z s)), (5, bT B5 0), (6, bT B6 0), (26, NT .i64 n), (27, NT .i64 m)]) (fun (m : Nat) => [box B5 51 [Is (.bool false), Is (.slice none 0 0), Is (.bool false), Is (.slice none 0 0), Is (.slice none 0 0)], box B6 51 [aD (decide ((Cb z s i k m).a < 0)), aI (Cb z s i k m).a.natAbs, aD (decide ((Cb z s i k m).b < 0)), aI (Cb z s i k m).b.natAbs, aI (du (Cb z s i k m))]]) 0 (Nat.zero_le _)
   (aQ rfl (aQ rfl (aQ rfl (aQ rfl (aQ rfl (aZ rfl (kU hn.symm) (zS rfl))))))) (aU (aB rfl) (aU (aB rfl) aY)) (fun m hm=>?_)
  refine ts (ro rfl (gZ (Ht rfl) (Ht rfl)) (eZ (cU (dX (Ht rfl) (fun hd=>?_) (fun hd=>?_)))))
  ·have hmn : m < n := by simp only [decide_eq_true_eq] at hd; omega
   have hsr:=hsh.row (i:=m) zo
   haveI f2:aE (gm s m i) L:=hs.get hL m i
   haveI f3:aE (gm s m k) L:=hs.get hL m k
   haveI f4:aE (gv z m) L:=hz.get hL m
   haveI f5:aE (gm s m i).conj L:=fitConj
   haveI f6:aE ((gm s m i).conj * gm s m k) (L + L + 1):=fitMul
   haveI f7:aE ((gm s m i).conj * gm s m k / gv z m) (L + L + 1 + 3 * L + 2):=wG f6 f4 (sB hp zo)
   have f8:=Gu (k:=k) hz hs hL hp (show i < z.length by omega) (m:=m) zo
   haveI f9 : aE (Cb z s i k m) (100 * L + 100) := f8.le (by
    have:m * (6 * L + 5) ≤ 8 * (6 * L + 5):=Nat.mul_le_mul_right _ zo
    omega)
   refine cY (cU (eK (ts (rm rfl (ra rfl (eZ (cU (Y.D_start (m:=29) [] (cQ (Ei:=[(2,_)]) rfl rfl (bQ (bJ rfl rfl) bX) rfl rfl (dZ rfl (oO kP (Ht rfl) rfl)) (cQ (Ei:=[(31,_)]) rfl rfl (bQ (bZ 0 rfl rfl) bX) rfl rfl (dZ rfl (dV A_30 Z_30 (Ht rfl))) (cQ (Ei:=[(7,_)]) rfl rfl (bQ (bJ rfl rfl) bX) rfl rfl (dZ rfl (cZ (Ht rfl))) (cQ (Ei:=[(32,_),(33,_)]) rfl rfl (bQ (bZ 1 rfl rfl) (bQ (bZ 2 rfl rfl) bX)) rfl rfl (dZ rfl (dJ U_30 Z_29 (Ht rfl) (Ht rfl) rfl (eQ (dY (d:=[]) zo)))) ?_))))))))))))
   refine cQ (Ei:=[(34,_)]) rfl rfl (bQ (bZ 3 rfl rfl) bX) rfl rfl (dZ rfl (dV A_29 Z_29 (Ht rfl))) (cQ (Ei:=[(0,_)]) rfl rfl (bQ (bJ rfl rfl) bX) rfl rfl (dZ rfl (cZ (Ht rfl))) (cQ (Ei:=[(35,_),(36,_)]) rfl rfl (bQ (bZ 4 rfl rfl) (bQ (bZ 5 rfl rfl) bX)) rfl rfl (dZ rfl (dJ U_29 Z_51 (Ht rfl) (Ht rfl) rfl (eQ (dY (d:=Qi.zero) zo)))) (cQ (Ei:=[(37,_)]) rfl rfl (bQ (bZ 6 rfl rfl) bX) rfl rfl (dZ rfl (dV A_51 Z_51 (Ht rfl))) ?_)))
   refine cQ (Ei:=[(38,_)]) rfl rfl (bQ (bZ 7 rfl rfl) bX) rfl rfl (dZ rfl (cJ K_175 xJ ⟨(Ht rfl),trivial⟩)) (cQ (Ei:=[(2,_)]) rfl rfl (bQ (bJ rfl rfl) bX) rfl rfl (dZ rfl (oO kP (Ht rfl) rfl)) (cQ (Ei:=[(40,_)]) rfl rfl (bQ (bZ 9 rfl rfl) bX) rfl rfl (dZ rfl (dV A_30 Z_30 (Ht rfl))) (cQ (Ei:=[(7,_)]) rfl rfl (bQ (bJ rfl rfl) bX) rfl rfl (dZ rfl (cZ (Ht rfl))) (cQ (Ei:=[(41,_),(42,_)]) rfl rfl (bQ (bZ 10 rfl rfl) (bQ (bZ 11 rfl rfl) bX)) rfl rfl (dZ rfl (dJ U_30 Z_29 (Ht rfl) (Ht rfl) rfl (eQ (dY (d:=[]) zo)))) ?_))))
   refine cQ (Ei:=[(43,_)]) rfl rfl (bQ (bZ 12 rfl rfl) bX) rfl rfl (dZ rfl (dV A_29 Z_29 (Ht rfl))) (cQ (Ei:=[(1,_)]) rfl rfl (bQ (bJ rfl rfl) bX) rfl rfl (dZ rfl (cZ (Ht rfl))) (cQ (Ei:=[(44,_),(45,_)]) rfl rfl (bQ (bZ 13 rfl rfl) (bQ (bZ 14 rfl rfl) bX)) rfl rfl (dZ rfl (dJ U_29 Z_51 (Ht rfl) (Ht rfl) rfl (eQ (dY (d:=Qi.zero) zo)))) (cQ (Ei:=[(46,_)]) rfl rfl (bQ (bZ 15 rfl rfl) bX) rfl rfl (dZ rfl (dV A_51 Z_51 (Ht rfl))) ?_)))
   refine cQ (Ei:=[(39,_),(47,_)]) rfl rfl (bQ (bZ 8 rfl rfl) (bQ (bZ 16 rfl rfl) bX)) rfl rfl (dZ rfl (cJ K_45 (iT (x:=(gm s m i).conj) (y:=gm s m k) (L:=L) (M:=L) zo) ⟨(Ht rfl),(Ht rfl),trivial⟩)) (cQ (Ei:=[(2,_)]) rfl rfl (bQ (bJ rfl rfl) bX) rfl rfl (dZ rfl (oO kF (Ht rfl) rfl)) (cQ (Ei:=[(49,_)]) rfl rfl (bQ (bZ 18 rfl rfl) bX) rfl rfl (dZ rfl (dV A_29 Z_29 (Ht rfl))) (cQ (Ei:=[(7,_)]) rfl rfl (bQ (bJ rfl rfl) bX) rfl rfl (dZ rfl (cZ (Ht rfl))) ?_)))
   refine cQ (Ei:=[(50,_),(51,_)]) rfl rfl (bQ (bZ 19 rfl rfl) (bQ (bZ 20 rfl rfl) bX)) rfl rfl (dZ rfl (dJ U_29 Z_51 (Ht rfl) (Ht rfl) rfl (eQ (dY (d:=Qi.zero) zo)))) (cQ (Ei:=[(52,_)]) rfl rfl (bQ (bZ 21 rfl rfl) bX) rfl rfl (dZ rfl (dV A_51 Z_51 (Ht rfl))) (cQ (Ei:=[(48,_),(53,_)]) rfl rfl (bQ (bZ 17 rfl rfl) (bQ (bZ 22 rfl rfl) bX)) rfl rfl (dZ rfl (cJ K_40 (vB (x:=(gm s m i).conj * gm s m k) (y:=gv z m) (L:=L + L + 1) (M:=L) zo) ⟨(Ht rfl),(Ht rfl),trivial⟩)) ?_))
   refine cQ (Ei:=[(54,_)]) rfl rfl (bQ (bZ 23 rfl rfl) bX) rfl rfl (dZ rfl (cZ (Ht rfl))) (cQ (Ei:=[(30,_)]) rfl rfl (bQ (bZ 24 rfl rfl) bX) rfl rfl (dZ rfl (dU (Ht rfl) rfl)) (cQ (Ei:=[(30,_)]) rfl rfl (bQ (bZ 24 rfl rfl) bX) rfl rfl (dZ rfl (dU (Ht rfl) rfl)) (Y.D_newp (Ei:=[]) (fun bb=>box bb 51 [aD (decide (((gm s m i).conj * gm s m k / gv z m).a < 0)),aI ((gm s m i).conj * gm s m k / gv z m).a.natAbs,aD (decide (((gm s m i).conj * gm s m k / gv z m).b < 0)),aI ((gm s m i).conj * gm s m k / gv z m).b.natAbs,aI (du ((gm s m i).conj * gm s m k / gv z m))]) 28 rfl rfl rfl bX rfl rfl (by kernel_rfl) (eG (Ts:=[Is (.bool false),Is (.slice none 0 0),Is (.bool false),Is (.slice none 0 0),Is (.slice none 0 0)]) O_51 rfl (fun V=>aW zd (aW zd (aW zd (aW zd (aW zd (aG))))))) ?_)))
   refine Y.D_putN (Ei:=[(55,_)]) 27 rfl rfl rfl rfl rfl rfl (bQ (bZ 25 rfl rfl) bX) (fun bb=>lA Z_51 (Ht rfl) (Ht rfl) rfl (i:=0) rfl (aK rfl) rfl rfl) (Y.D_done bE rfl (by kernel_rfl) rfl (by simp [Y.okP]) rfl rfl (bU (bU (bU (bU (bU (bU (bU (bU (bU (bU (bU (bU (bU (bU (bU (bU (bU (bU (bU (bU (bU (bU (bU (bU (bU (bU (bU (Y.F_newp (fun B8=>Y.F_putN (Y.F_nil ?_)))))))))))))))))))))))))))))))
   refine ra rfl (eZ (dQ (ro rfl (eW A_51 Z_51 (Ht rfl) (i:=1) rfl rfl rfl) (ro rfl (eW A_51 Z_51 (Ht rfl) (i:=2) rfl rfl rfl) (ro rfl (cJ K_44 (rV (x:=Cb z s i k m) (y:=((gm s m i).conj * gm s m k / gv z m)) (L:=100 * L + 100) (M:=L + L + 1 + 3 * L + 2) zo) ⟨(Ht rfl),(Ht rfl),trivial⟩) (gX Z_51 (Ht rfl) (Ht rfl) rfl (i:=1) rfl (aK rfl) rfl rfl (eZ (bO (dQ (ro rfl (dW (Ht rfl) (cV 1) z6) ?_))))))))))
   refine rm rfl (eZ (cD [0,1] rfl (by decide) (fY (m + 1) hmn zo (zS rfl) (aU (aB rfl) (aU (aB (by rw [Ke]; rfl)) aY)))))
  ·have hmn : m = n := by simp only [decide_eq_false_iff_not] at hd; omega
   rw [hmn]
   refine gW rfl (ts (ro rfl (eW A_51 Z_51 (Ht rfl) (i:=1) rfl rfl rfl) (gX Z_51 (Ht rfl) (Ht rfl) rfl (i:=0) rfl (aK rfl) rfl rfl (eZ ?_))))
   exact fG rfl (fU A_51 Z_51 rfl (i:=0) rfl rfl)
theorem a0v {z:List Qi} {s:List (List Qi)} {L:Nat} (hz:bP z L) (hs:bC s L) (hL:1 ≤ L) (hLb:L ≤ 100000000000) (hp:z.all fB = true) (hsh:cM s z.length z.length) (h8:z.length ≤ 8):bH Tryz.prog 161 [gT z s] (bB (pwM z s)):=by
 refine bH.intro Tryz.func161 rfl Tryz.ntmps161 rfl (fun cx=>(ts (rn rfl (fK (Ht rfl)) fun B1=>(ro rfl (cX cW) (eZ (cU (gV (i:=0) (tt:=1) rfl rfl zM (dQ (ro rfl (oO kF (Ht rfl) rfl) (ro rfl (dV A_29 Z_29 (Ht rfl)) (ro rfl (dK U_29 (Ht rfl) aA) (ro rfl (oN (γ:=Fin z.length × Fin z.length) (Ts:=fun x=>[NT .i64 x.1.1,NT .i64 x.2.1]) (U:=fun x=>aH (Cb z s x.1.1 x.2.1 z.length)) Tryz.call232 (fun x=>a3h hz hs hL hLb hp hsh rfl h8 x.1.2 x.2.2) ⟨(Ht rfl),trivial⟩) ?_))))))))))))
 refine ro rfl (cJ Tryz.call114 (Md (n:=z.length) (f:=fun i k=>Cb z s i k z.length) zo) ⟨(Ht rfl),(Ht rfl),trivial⟩) (ra rfl (eZ ?_))
 exact fG rfl (eY rfl)
theorem Ly {z:List Qi} {s:List (List Qi)} {L:Nat} (hz:bP z L) (hs:bC s L) (hL:1 ≤ L) (hLb:L ≤ 100000000000) (hp:z.all fB = true) (hsh:cM s z.length z.length) (h8:z.length ≤ 8):bH Tryz.prog 59 [gT z s] (aD (Bs z s)):=by
 have hPf:=a1H hz hs hL hp h8
 have hPs:=a1I z s
 have hPw:=a0v hz hs hL hLb hp hsh h8
 rw [Bs]
 generalize pwM z s = M at *
 obtain ⟨n,hn⟩:∃ n,n = z.length:=⟨_,rfl⟩
 rw [← hn] at hPs
 have hMl:=hPs.1
 refine bH.intro Tryz.func59 rfl Tryz.ntmps59 rfl (fun cx=>(ts (rn rfl (fK (Ht rfl)) fun B1=>(ro rfl (cX cW) (eZ (cU (ts (ro rfl (eW A_32 Z_32 (Ht rfl) (i:=0) rfl rfl rfl) (ro rfl (cJ Tryz.call161 hPw ⟨(Ht rfl),trivial⟩) (ro rfl (dK U_30 (Ht rfl) (by rw [List.length_map,hMl])) ?_))))))))))
 refine ro rfl (cZ (cV 0)) (eZ (eK ?_))
 refine cF (fun (k : Nat) => k ≤ n ∧ ∀ j, j < k → ((M.getD j []).any fun x => !decide (x = 0)) = false) (fun (k : Nat) => n - k) (fun (k : Nat) => [(6, bB M), (7, NT .i64 n), (8, NT .i64 k)]) (fun (k : Nat) => [box B1 32 [aR z, bB s]]) 0 ⟨Nat.zero_le _, fun j h => by omega⟩
  (zS rfl) (aU (aB rfl) aY) (fun k ⟨hk,hz0⟩=>?_)
 refine ts (ro rfl (gZ (Ht rfl) (Ht rfl)) (eZ (cU (dX (Ht rfl) (fun hd=>?_) (fun hd=>?_)))))
 ·have hkn : k < n := by simp only [decide_eq_true_eq] at hd; omega
  refine cY (cU (eK (ts (ro rfl (dJ U_30 Z_29 (Ht rfl) (Ht rfl) rfl (eQ (dY (d:=[]) zo))) (ro rfl (dV A_29 Z_29 (Ht rfl)) (ra rfl (eZ (cU ?_))))))))
  obtain ⟨r,hr⟩:∃ r,r = M.getD k []:=⟨_,rfl⟩
  have hrf:bP r (51 * L + 43):=by rw [hr]; exact hPf.row k
  have hrl:r.length ≤ 1000:=by rw [hr,hPs.row hkn]; omega
  obtain ⟨l,hl⟩:∃ l:List {x:Qi // aE x (51 * L + 43)},r = l.map Subtype.val:=⟨r.attach.map fun x=>⟨x.1,hrf x.1 x.2⟩,by simp⟩
  have hll:l.length ≤ 1000:=by rw [hl,List.length_map] at hrl; exact hrl
  have hany:(r.any fun x=>!decide (x = 0)) = l.any fun x=>!decide (x.1 = Qi.zero):=by rw [hl,List.any_map]; rfl
  refine qJ (E':=[(4,_),(6,_),(7,_),(8,_)]) (aZ rfl (kY (Us:=l.map fun x=>aH x.1) (by rw [← hr,hl,List.map_map]; rfl)) (zS rfl)) ?_
  refine dQ (rm rfl (ro rfl (cJ Tryz.call162 (uY (l:=l) (T:=fun x=>aH x.1) (p:=fun x=>!decide (x.1 = Qi.zero)) zo) ⟨(Ht rfl),(bM.fn Tryz.call27 (γ:={x:Qi // aE x (51 * L + 43)}) (Ts:=fun x=>[aH x.1]) (U:=fun x=>aD (!decide (x.1 = Qi.zero))) (fun x=>haveI:=x.2; Fk zo)),trivial⟩) (eZ (dX (Ht rfl) (fun hc=>?_) (fun hc=>?_)))))
  ·have hf := Xy (M := M) (j := k) zo (by rw [← hr, hany]; exact hc)
   refine ts (ro rfl (cX cW) (eZ (fG rfl (fZ (eY rfl) ?_))))
   exact (dH hf.symm)
  ·have hf : ((M.getD k []).any fun x => !decide (x = 0)) = false := by rw [← hr, hany]; exact hc
   refine cY (bO (dQ (ro rfl (dW (Ht rfl) (cV 1) z6) (rm rfl (eZ ?_)))))
   refine fY (k + 1) ⟨hkn, fun j h => by
    by_cases e:j = k
    ·rw [e]; exact hf
    ·exact hz0 j zo⟩ zo (zS rfl) (aU (aB rfl) aY)
 ·have hkn : k = n := by simp only [decide_eq_false_iff_not] at hd; omega
  have hf:=Ur hMl (fun j h=>hz0 j zo)
  refine gW rfl (ts (ro rfl (cX cW) (eZ (fG rfl (fZ (eY rfl) ?_)))))
  exact (dH hf.symm)
end
section
open Go Go.RowKit
theorem a3A:Tryz.prog.info? 3 = some Tryz.t3:=by kernel_rfl
theorem a4D:Tryz.prog.underlying 72 = some (.slice 3):=by kernel_rfl
end
section
open Go Go.RowKit
theorem Lv {l:List Int} {v:Int} (hl:l.length ≤ 1000000):bH Tryz.prog 192 [jT 1 (l.map (aO .i64)),aO .i64 v] (aO .i64 (Ge (fun x=>decide (v = x)) l)):=by
 refine bH.intro Tryz.func192 rfl Tryz.ntmps192 rfl (fun cx=>(ts (ro rfl (cX (cV 0)) (eZ (cU (ts (rm rfl (ro rfl (dK U_72 (Ht rfl) aA) (ro rfl (cZ (cV 0)) (eZ (eK ?_)))))))))))
 refine cF (fun (k : Nat) => k ≤ l.length ∧ ∀ (i : Nat) (x : Int), i < k → l[i]? = some x → decide (v = x) = false) (fun (k : Nat) => l.length - k) (fun (k : Nat) => [(0, jT 1 (l.map (aO .i64))), (1, aO .i64 v), (7, NT .i64 l.length), (8, NT .i64 k)]) (fun (k : Nat) => []) 0 ⟨Nat.zero_le _, fun i x h => by omega⟩
  (zS rfl) aY (fun k ⟨hk,hn⟩=>?_)
 refine ts (ro rfl (gZ (Ht rfl) (Ht rfl)) (eZ (cU (dX (Ht rfl) (fun hb=>?_) (fun hb=>?_)))))
 ·simp only [decide_eq_true_eq] at hb
  refine cY (cU (eK (ts (rm rfl (ra rfl (eZ (ts (rm rfl (rm rfl (rm rfl (ro rfl (dJ U_72 Z_3 (Ht rfl) (Ht rfl) rfl (eQ (mV hb))) (ro rfl (dV A_3 Z_3 (Ht rfl)) (ro rfl (jH (Ht rfl) (Ht rfl)) (eZ (dX (Ht rfl) (fun hc=>?_) (fun hc=>?_))))))))))))))))
  ·refine ts (rm rfl (ra rfl (eZ (fG rfl (fZ (eY rfl) ?_)))))
   exact (aS (Gf (p:=fun x=>decide (v = x)) (mV hb) hc hn).symm)
  ·refine cY (bO (dQ (ro rfl (dW (Ht rfl) (cV 1) z6) (rm rfl (eZ ?_)))))
   refine fY (k + 1) ⟨hb, fun i x h1 h2 => by
    by_cases e:i = k
    ·subst e; rw [mV hb] at h2; obtain rfl:=Option.some.inj h2; exact hc
    ·exact hn i x zo h2⟩ zo (zS rfl) aY
 ·simp only [decide_eq_false_iff_not] at hb
  refine gW rfl (ts (ro rfl (cX cW) (eZ (fG rfl (fZ (eY rfl) ?_)))))
  exact (aS (xV (p:=fun x=>decide (v = x)) (fun i x h=>hn i x (by have:=(List.getElem?_eq_some_iff.1 h).1; omega) h)).symm)
theorem uX {l:List Int} {v:Int} (hl:l.length ≤ 1000000):bH Tryz.prog 95 [jT 1 (l.map (aO .i64)),aO .i64 v] (aD (l.any fun x=>decide (v = x))):=by
 refine bH.intro Tryz.func95 rfl Tryz.ntmps95 rfl (fun cx=>(ts (ro rfl (cX cW) (eZ (ts (rm rfl (rm rfl (ro rfl (cJ Tryz.call192 (Lv zo) ⟨(Ht rfl),(Ht rfl),trivial⟩) (ro rfl (lQ (Ht rfl) cW) (ra rfl (eZ (fG rfl (fZ (eY rfl) ?_)))))))))))))
 exact (dH (Bj _ l))
theorem a0q {z:List Qi} {s:List (List Qi)} {G:List Nat} (hl:z.length ≤ 1000) (hG:G.length ≤ 1000):bH Tryz.prog 121 [gT z s,jT 1 ((gnI G).map (aO .i64))] (nN ((gR G z.length).map Nat.succ)):=by
 refine bH.intro Tryz.func121 rfl Tryz.ntmps121 rfl (fun cx=>(ts (rn rfl (fK (Ht rfl)) fun B2=>(ro rfl (cX cW) (eZ (ts (ro rfl (cX cW) (eZ (cU (ts (ro rfl (cX (cV 1)) (eZ (eK (yK 3 1 ?_))))))))))))))
 refine fS (fun (i : Nat) (v : Value) => i ≤ z.length) (fun (i : Nat) (v : Value) => z.length - i) (fun (i : Nat) (v : Value) => [(1, jT 1 ((gnI G).map (aO .i64))), (2, bT B2 0), (5, Is v), (6, NT .i64 (i + 1))]) (fun (i : Nat) (v : Value) => [box B2 32 [aR z, bB s], cC 3 1 v (((gR G i).map Nat.succ).map (NT .i64))]) 0 (.slice none 0 0) (Nat.zero_le _)
  (zS rfl) (aU (aB rfl) (aU (bR rfl) aY)) (fun i v hi=>?_)
 refine cU (ts (rm rfl (ro rfl (eJ kF (Ht rfl) rfl) (ro rfl (fQ A_29 Z_29 (Ht rfl) (i:=0) rfl rfl) (ro rfl (dK U_29 (Ht rfl) aA) (ro rfl (zX (Ht rfl) (Ht rfl)) (eZ (dX (Ht rfl) (fun hd=>?_) (fun hd=>?_)))))))))
 ·simp only [decide_eq_true_eq] at hd
  have hcl:=Gg G i
  refine cY (cU (eK (jW (fun (v2:Value)=>True) (fun (v2:Value)=>[(1,jT 1 ((gnI G).map (aO .i64))),(2,bT B2 0),(5,Is v2),(6,NT .i64 (i + 1))]) (fun (v2:Value)=>[box B2 32 [aR z,bB s],cC 3 1 v2 (((gR G (i + 1)).map Nat.succ).map (NT .i64))]) ?_ (fun v2 _=>?_))))
  ·refine ts (rm rfl (rm rfl (ro rfl (cJ Tryz.call95 (uX (l := gnI G) (v := ((i + 1 : Nat) : Int)) (by rw [List.length_map]; omega)) ⟨(Ht rfl), (Ht rfl), trivial⟩) ?_)))
   refine ro rfl (eN (Ht rfl)) (eZ (dX (Ht rfl) (fun he=>?_) (fun he=>?_)))
   ·rw [Xa] at he
    have he2:i ∉ G:=by simpa using he
    have hnx:gR G (i + 1) = gR G i ++ [i]:=by rw [gR,if_neg he2]
    refine dQ (rm rfl (rm rfl (ro rfl (cR (xs:=[.tmp 19]) U_72 Z_3 Tryz.zeroValue3 (cG (Ht rfl) cK) rfl rfl rfl) (qH (inf:=Tryz.t3) a4D a3A rfl rfl rfl (Ht rfl) (Ht rfl) (i:=1) rfl (by simp) (fun T hT=>by simp at hT; subst hT; exact El.one) (by show _ * 8 ≤ _; simp only [List.length_map,List.length_cons,List.length_nil]; omega) (by simp only [List.length_map,List.length_cons,List.length_nil]; omega) rfl (fun v3=>?_)))))
    refine ra rfl (eZ (bD v3 trivial (zS rfl) (aU (aB rfl) (aU (bR (by rw [hnx,List.map_append,List.map_append]; rfl)) aY))))
   ·rw [Xa] at he
    have he2:i ∈ G:=by simpa using he
    have hnx:gR G (i + 1) = gR G i:=by rw [gR,if_pos he2,List.append_nil]
    refine cY (bD v trivial (zS rfl) (aU (aB rfl) (aU (bR (by rw [hnx])) aY)))
  ·refine bO (dQ (rm rfl (ro rfl (dW (Ht rfl) (cV 1) z6) (ra rfl (eZ (fY (i + 1,v2) hd (by dsimp only; omega) (zS rfl) (dM.refl _)))))))
 ·simp only [decide_eq_false_iff_not] at hd
  obtain rfl:z.length = i:=Nat.le_antisymm zo hi
  refine gW rfl (gV (i:=1) (tt:=5) rfl rfl iW (ts (rm rfl (ra rfl (eZ ?_)))))
  exact fG rfl (eY rfl)
theorem a3d {z:List Qi} {s:List (List Qi)} {p:Nat} (hp:p < z.length) (hl:z.length ≤ 1000):bH Tryz.prog 121 [gT z s,jT 1 [aO .i64 ((p:Int) + 1)]] (nN (Bp p (z.length - 1))):=by
 rw [← a15 hp]; exact a0q (G:=[p]) hl (by simp)
theorem a0t {z:List Qi} {s:List (List Qi)} {Q:List Nat} {m:Nat} (hs:cM s z.length z.length) (hQ:∀ x,x ∈ Q → x < z.length) (hm:Q.length = m) (hm2:m ≤ 1000) (hl:z.length ≤ 1000) {i j:Nat} (hi:i < m) (hj:j < m):bH Tryz.prog 206 [NT .i64 i,NT .i64 j,PT (gT z s),PT (nN (Q.map Nat.succ))] (aH (gm s (fR Q i) (fR Q j))):=by
 have hki:fR Q i < z.length:=pH hQ zo
 have hkj:fR Q j < z.length:=pH hQ zo
 have hsl:=hs.1
 have hsr:=hs.row hki
 refine bH.intro Tryz.func206 rfl Tryz.ntmps206 rfl (fun cx=>(ts (rn rfl (eG (Ts:=[Is (.bool false),Is (.slice none 0 0),Is (.bool false),Is (.slice none 0 0),Is (.slice none 0 0)]) O_51 rfl (fun V=>aW zd (aW zd (aW zd (aW zd (aW zd (aG))))))) fun B6=>(eZ (cU (fJ (m:=14) (dp 2 rfl (oO kP (Ht rfl) rfl) (dq 7 0 rfl (dV A_30 Z_30 (Ht rfl)) (dp 3 rfl (dV A_72 Z_72 (Ht rfl)) (dp 0 rfl (cZ (Ht rfl)) ?_))))))))))
 refine dR 9 2 10 3 rfl (dJ U_72 Z_3 (Ht rfl) (Ht rfl) rfl (eQ (xB zo))) (dq 11 4 rfl (dV A_3 Z_3 (Ht rfl)) (dq 12 5 rfl (aM.nat (dG (Ht rfl) (cV 1) zo z6) (show fR Q i + 1 - 1 = fR Q i by omega)) (dR 8 1 13 6 rfl (dJ U_30 Z_29 (Ht rfl) (Ht rfl) rfl (eQ (dY (d:=[]) zo))) (dq 14 7 rfl (dV A_29 Z_29 (Ht rfl)) (dp 3 rfl (dV A_72 Z_72 (Ht rfl)) ?_)))))
 refine dp 1 rfl (cZ (Ht rfl)) (dR 16 9 17 10 rfl (dJ U_72 Z_3 (Ht rfl) (Ht rfl) rfl (eQ (xB zo))) (dq 18 11 rfl (dV A_3 Z_3 (Ht rfl)) (dq 19 12 rfl (aM.nat (dG (Ht rfl) (cV 1) zo z6) (show fR Q j + 1 - 1 = fR Q j by omega)) (fW bE rfl (by kernel_rfl) (zF (zF (zF (aJ (aJ (aV (ro rfl (dJ U_29 Z_51 (Ht rfl) (Ht rfl) rfl (eQ (dY (d:=Qi.zero) zo))) ?_)))))))))))
 refine ro rfl (dV A_51 Z_51 (Ht rfl)) (gX Z_51 (Ht rfl) (Ht rfl) rfl (i:=0) rfl (aK rfl) rfl rfl (eZ ?_))
 exact fG rfl (fU A_51 Z_51 rfl (i:=0) rfl rfl)
theorem Ot {z:List Qi} {s:List (List Qi)} {Q:List Nat} {m:Nat} (hs:cM s z.length z.length) (hQ:∀ x,x ∈ Q → x < z.length) (hm:Q.length = m) (hm2:m ≤ 1000) (hl:z.length ≤ 1000):gO Tryz.prog 122 [gT z s,nN (Q.map Nat.succ)] [] (Nat) (fun B=>eH [aR (uU z Q),Is (.slice (some ⟨B,0,none⟩) m m)]) (fun B=>[nR B 29 51 5 (cE aH (nD s Q))]) (fun _=>True):=by
 have hll:(Q.map Nat.succ).length = m:=by rw [List.length_map]; exact hm
 refine gO.intro Tryz.func122 rfl Tryz.ntmps122 rfl (fun cx Z=>(ts (rn rfl (fK (Ht rfl)) fun B2=>(rn rfl (qW (Ht rfl)) fun B3=>(rn rfl (eG (Ts:=[Is (.slice none 0 0),Is (.slice none 0 0)]) O_32 rfl (fun V=>aW zd (aW zd (aG)))) fun B4=>(eZ (cU (gV (i:=1) (tt:=2) rfl rfl zM (gV (i:=2) (tt:=3) rfl rfl mF (dQ (ro rfl (dV A_72 Z_72 (Ht rfl)) (ro rfl (dK U_72 (Ht rfl) (by rw [List.length_map,hll])) ?_))))))))))))
 refine rn rfl (lV (T:=aH Qi.zero) (i:=Tryz.t51) lR jO rfl rfl (Ht rfl) rfl jQ (El.ag rfl) (by show 88 * _ ≤ _; omega) zo) fun B10=>ra rfl (eZ (cU (ts (ro rfl (dV A_72 Z_72 (Ht rfl)) (ro rfl (dK U_72 (Ht rfl) (by rw [List.length_map,hll])) ?_)))))
 refine ro rfl (cZ (cV 0)) (eZ (eK (cD [0,3,4] rfl (by decide) ?_)))
 refine cF (fun (i : Nat) => i ≤ m) (fun (i : Nat) => m - i) (fun (i : Nat) => [(2, PT (gT z s)), (3, PT (nN (Q.map Nat.succ))), (4, bT B4 0), (5, Is B10), (11, nN (Q.map Nat.succ)), (12, NT .i64 m), (13, NT .i64 i)]) (fun (i : Nat) => [Z, box B4 32 [Is (.slice none 0 0), Is (.slice none 0 0)], cC 51 5 B10 ((mA (fun i => gv z (fR Q i)) Qi.zero m i).map aH)]) 0 (Nat.zero_le _)
  (zS rfl) (aU (fun _ _ _ h=>h) (aU (fun _ _ _ h=>h) (aU (bR (by rw [← jS]; exact Ag aH m)) aY))) (fun i hi=>?_)
 refine ts (ro rfl (gZ (Ht rfl) (Ht rfl)) (eZ (cU (dX (Ht rfl) (fun hd=>?_) (fun hd=>?_)))))
 ·simp only [decide_eq_true_eq] at hd
  have hki:fR Q i < z.length:=pH hQ zo
  refine cY (cU (eK (ts (rm rfl (ro rfl (dJ U_72 Z_3 (Ht rfl) (Ht rfl) rfl (eQ (xB zo))) (ro rfl (dV A_3 Z_3 (Ht rfl)) (ra rfl (ra rfl (eZ (dQ (rm rfl (rm rfl (ro rfl (oO kF (Ht rfl) rfl) (ro rfl (dV A_29 Z_29 (Ht rfl)) (rm rfl (ro rfl (aM.nat (dG (Ht rfl) (cV 1) zo z6) (show fR Q i + 1 - 1 = fR Q i by omega)) (ro rfl (dJ U_29 Z_51 (Ht rfl) (Ht rfl) rfl (eQ (dY (d:=Qi.zero) hki))) ?_)))))))))))))))))
  refine ro rfl (dV A_51 Z_51 (Ht rfl)) (ro rfl (dP U_29 Z_51 (Ht rfl) (Ht rfl) rfl (i:=2) rfl (by rw [List.length_map,eS]; omega) rfl) ?_)
  refine nO Z_51 (Ht rfl) (Ht rfl) (El.ag rfl) (i:=2) rfl rfl (by rw [List.length_map,eS]; omega) rfl ?_
  refine eZ (bO (dQ (ro rfl (dW (Ht rfl) (cV 1) z6) (rm rfl (eZ (fY (i + 1) hd zo (zS rfl) (aU (fun _ _ _ h=>h) (aU (fun _ _ _ h=>h) (aU (bR (by rw [fO,← lJ (f:=(fun i=>gv z (fR Q i)))])) aY)))))))))
 ·simp only [decide_eq_false_iff_not] at hd
  obtain rfl:m = i:=Nat.le_antisymm zo hi
  rw [lI]
  refine gW rfl (gV (i:=2) (tt:=5) rfl rfl iW ?_)
  rw [show uU z Q = tab m fun i=>gv z (fR Q i) from by rw [uU,hm],show nD s Q = tab m fun i=>tab m fun j=>gm s (fR Q i) (fR Q j) from by rw [nD,hm]]
  refine ts (rm rfl (ro rfl (dV A_72 Z_72 (Ht rfl)) (ro rfl (dK U_72 (Ht rfl) (by rw [List.length_map,hll])) ?_)))
  refine ro rfl (oN (γ:=Fin m × Fin m) (Ts:=fun x=>[NT .i64 x.1.1,NT .i64 x.2.1]) (U:=fun x=>aH (gm s (fR Q x.1.1) (fR Q x.2.1))) Tryz.call206 (fun x=>a0t hs hQ hm hm2 hl x.1.2 x.2.2) ⟨(Ht rfl),(Ht rfl),trivial⟩) (kC Tryz.call114 (Oq (n:=m) (f:=fun i j=>gm s (fR Q i) (fR Q j)) zo) ⟨(Ht rfl),(Ht rfl),trivial⟩ rfl (fun B32 _=>(ro rfl (vH (Ht rfl) (Ht rfl)) (gX Z_32 (Ht rfl) (Ht rfl) rfl (i:=1) rfl (aK rfl) rfl rfl (eZ ?_)))))
  exact kH B32 trivial [0,3] ⟨⟨_,rfl,fun _ _ _ h=>h⟩,⟨_,rfl,fun _ _ _ h=>h⟩,trivial⟩ (by decide) (yB rfl (fU A_32 Z_32 rfl (i:=1) rfl rfl))
theorem a0u {z:List Qi} {s:List (List Qi)} {p m:Nat} (hs:cM s z.length z.length) (hp:p < z.length) (hm:m = z.length - 1) (hl:z.length ≤ 1000):gO Tryz.prog 122 [gT z s,nN (Bp p m)] [] Nat (fun B=>eH [aR (uT z p m),Is (.slice (some ⟨B,0,none⟩) m m)]) (fun B=>[nR B 29 51 5 (cE aH (a5l s p m))]) (fun _=>True):=by
 have h:=Ot (Q:=tab m (kV p)) hs (a24 hp hm) (aN _ _) zo hl
 rw [Kz,Zv,a17] at h
 exact h
theorem Oy {n:Int} (h1:-9223372036854775808 ≤ n) (h2:n ≤ 9223372036854775807):bH Tryz.prog 109 [aO .i64 n] (aH (Qi.ofInt n)):=by
 refine bH.intro Tryz.func109 rfl Tryz.ntmps109 rfl (fun cx=>(ts (rn rfl (eG (Ts:=[Is (.bool false),Is (.slice none 0 0),Is (.bool false),Is (.slice none 0 0),Is (.slice none 0 0)]) O_51 rfl (fun V=>aW zd (aW zd (aW zd (aW zd (aW zd (aG))))))) fun B2=>(eZ (ts (rn rfl (eG (Ts:=[Is (.bool false),Is (.slice none 0 0),Is (.bool false),Is (.slice none 0 0),Is (.slice none 0 0)]) O_51 rfl (fun V=>aW zd (aW zd (aW zd (aW zd (aW zd (aG))))))) fun B3=>?_))))))
 refine eZ (cU (fJ (m:=4) (dp 3 rfl (eW A_51 Z_51 (Ht rfl) (i:=1) rfl rfl rfl) (dq 4 0 rfl (aT bL (Ht rfl)) (dp 0 rfl (cZ (Ht rfl)) (dq 6 2 rfl (cJ K_77 (oI (n:=n) h1 h2) ⟨(Ht rfl),trivial⟩) (fW bE rfl (by kernel_rfl) (zF (aV (ro rfl (aL mX K_302 Dp (Ht rfl) ⟨(Ht rfl),trivial⟩) (gX Z_51 (Ht rfl) (Ht rfl) rfl (i:=0) rfl (aK rfl) rfl rfl (eZ ?_))))))))))))
 exact fG rfl (fU A_51 Z_51 rfl (i:=0) rfl rfl)
end
section
open Go Go.RowKit
theorem a38 {z:List Qi} {s:List (List Qi)} {port:Int} {g:Qi} {L:Nat} (hs:cM s z.length z.length) (hf:bC s L) (hg:aE g L) (hL:1 ≤ L) (hLb:L ≤ 1000000) (hl:z.length ≤ 1000):bH Tryz.prog 41 [gT z s,aO .i64 port,aH g] (fI [gT (Ct z s port g) (tT z s port g),aO .i64 (pM z s port g)]):=by
 haveI:=hg
 have hsl:=hs.1
 refine bH.intro Tryz.func41 rfl Tryz.ntmps41 rfl (fun cx=>(ts (rn rfl (fK (Ht rfl)) fun B3=>(rn rfl (fK (Ht rfl)) fun B5=>(rn rfl (eG (Ts:=[Is (.slice none 0 0),Is (.slice none 0 0)]) O_32 rfl (fun V=>aW zd (aW zd (aG)))) fun B6=>(ro rfl (cX (cV 0)) (eZ (cU (eK (ts (ro rfl (eW A_32 Z_32 (Ht rfl) (i:=0) rfl rfl rfl) (rm rfl (ro rfl (cJ Tryz.call106 Hz ⟨(Ht rfl),(Ht rfl),trivial⟩) (ro rfl (eN (Ht rfl)) (ra rfl (eZ (dX (Ht rfl) (fun hb=>?_) (fun hb=>?_))))))))))))))))))
 ·have he : pM z s port g = 1 := a4w (by simpa only [Bool.not_eq_true', decide_eq_false_iff_not] using hb)
  refine ts (ro rfl (aM.imp (mC ) mI) (gX Z_32 (Ht rfl) (Ht rfl) rfl (i:=2) rfl (aK rfl) rfl rfl (ro rfl (cX (cV 1)) (eZ (bN rfl (fZ (fU A_32 Z_32 rfl (i:=2) rfl rfl) ?_) (fZ (eY rfl) ?_))))))
  ·exact (Hh he (by decide))
  ·exact (aS he.symm)
 ·have hb2 : 1 ≤ port ∧ port ≤ (z.length : Int) := by simpa using hb
  obtain ⟨p,rfl⟩:∃ p:Nat,port = (p:Int) + 1:=⟨(port - 1).toNat,by omega⟩
  have hp:p < z.length:=by omega
  refine ts (ro rfl (eJ kF (Ht rfl) rfl) (ro rfl (fQ A_29 Z_29 (Ht rfl) (i:=0) rfl rfl) (ro rfl (dK U_29 (Ht rfl) aA) (ro rfl (dO (Ht rfl) (cV 1)) (ra rfl (eZ (dX (Ht rfl) (fun hc=>?_) (fun hc=>?_))))))))
  ·have he : pM z s ((p : Int) + 1) g = 4 := a4x hb2 (by simpa using hc)
   refine ts (ro rfl (aM.imp (mC ) mI) (gX Z_32 (Ht rfl) (Ht rfl) rfl (i:=2) rfl (aK rfl) rfl rfl (ro rfl (cX (cV 4)) (eZ (bN rfl (fZ (fU A_32 Z_32 rfl (i:=2) rfl rfl) ?_) (fZ (eY rfl) ?_))))))
   ·exact (Hh he (by decide))
   ·exact (aS he.symm)
  ·have hn1 : ¬ z.length = 1 := by simpa using hc
   have htd:=a4y (s:=s) (g:=g) hp hn1
   obtain ⟨m,hm⟩:∃ m,m = z.length - 1:=⟨_,rfl⟩
   have hspl:=hs.row hp
   haveI f0:aE (Qi.ofInt 1) 1:=kG
   haveI f1:aE (gm s p p) L:=hf.get hL p p
   refine cY (bO (ts (rm rfl (ro rfl (iK (Ht rfl) cW (r:=((p:Nat):Int)) ((Db (z:=(p:Int) + 1 - 1) zo).trans zo)) ?_))))
   refine ra rfl (eZ (cU (Y.D_start (m:=22) [] (cQ (Ei:=[(5,_)]) rfl rfl (bQ (bJ rfl rfl) bX) rfl rfl (dZ rfl (eW A_51 Z_51 (Ht rfl) (i:=1) rfl rfl rfl)) (cQ (Ei:=[(32,_)]) rfl rfl (bQ (bZ 0 rfl rfl) bX) rfl rfl (dZ rfl (aT bL (Ht rfl))) (cQ (Ei:=[]) rfl rfl bX rfl rfl (dZ rfl (cJ Tryz.call109 (Oy (n:=1) (by decide) (by decide)) ⟨(cV 1),trivial⟩)) (cQ (Ei:=[(34,_)]) rfl rfl (bQ (bZ 2 rfl rfl) bX) rfl rfl (dZ rfl (aT bL (Ht rfl))) ?_)))))))
   refine cQ (Ei:=[(3,_)]) rfl rfl (bQ (bJ rfl rfl) bX) rfl rfl (dZ rfl (eJ kP (Ht rfl) rfl)) (cQ (Ei:=[(36,_)]) rfl rfl (bQ (bZ 4 rfl rfl) bX) rfl rfl (dZ rfl (fQ A_30 Z_30 (Ht rfl) (i:=0) rfl rfl)) (cQ (Ei:=[(8,_)]) rfl rfl (bQ (bJ rfl rfl) bX) rfl rfl (dZ rfl (cZ (Ht rfl))) (cQ (Ei:=[(37,_),(38,_)]) rfl rfl (bQ (bZ 5 rfl rfl) (bQ (bZ 6 rfl rfl) bX)) rfl rfl (dZ rfl (dJ U_30 Z_29 (Ht rfl) (Ht rfl) rfl (eQ (dY (d:=[]) zo)))) ?_)))
   refine cQ (Ei:=[(39,_)]) rfl rfl (bQ (bZ 7 rfl rfl) bX) rfl rfl (dZ rfl (dV A_29 Z_29 (Ht rfl))) (cQ (Ei:=[(8,_)]) rfl rfl (bQ (bJ rfl rfl) bX) rfl rfl (dZ rfl (cZ (Ht rfl))) (cQ (Ei:=[(40,_),(41,_)]) rfl rfl (bQ (bZ 8 rfl rfl) (bQ (bZ 9 rfl rfl) bX)) rfl rfl (dZ rfl (dJ U_29 Z_51 (Ht rfl) (Ht rfl) rfl (eQ (dY (d:=Qi.zero) zo)))) (cQ (Ei:=[(42,_)]) rfl rfl (bQ (bZ 10 rfl rfl) bX) rfl rfl (dZ rfl (dV A_51 Z_51 (Ht rfl))) ?_)))
   refine cQ (Ei:=[(43,_)]) rfl rfl (bQ (bZ 11 rfl rfl) bX) rfl rfl (dZ rfl (aT bL (Ht rfl))) (cQ (Ei:=[(5,_)]) rfl rfl (bQ (bJ rfl rfl) bX) rfl rfl (dZ rfl (eW A_51 Z_51 (Ht rfl) (i:=1) rfl rfl rfl)) (cQ (Ei:=[(44,_),(45,_)]) rfl rfl (bQ (bZ 12 rfl rfl) (bQ (bZ 13 rfl rfl) bX)) rfl rfl (dZ rfl (aL cL K_45 (iT (x:=gm s p p) (y:=g) (L:=L) (M:=L) zo) (Ht rfl) ⟨(Ht rfl),trivial⟩)) (cQ (Ei:=[(35,_),(46,_)]) rfl rfl (bQ (bZ 3 rfl rfl) (bQ (bZ 14 rfl rfl) bX)) rfl rfl (dZ rfl (aL iX K_44 (rV (x:=Qi.ofInt 1) (y:=gm s p p * g) (L:=1) (M:=L + L + 1) (hx:=f0) zo) (Ht rfl) ⟨(Ht rfl),trivial⟩)) ?_)))
   refine cQ (Ei:=[(33,_),(47,_)]) rfl rfl (bQ (bZ 1 rfl rfl) (bQ (bZ 15 rfl rfl) bX)) rfl rfl (dZ rfl (aL lU K_40 (vB (x:=g) (y:=Qi.ofInt 1 - gm s p p * g) (L:=L) (M:=1 + (L + L + 1) + 1) (hy:=@fitSub _ _ _ _ f0 inferInstance) zo) (Ht rfl) ⟨(Ht rfl),trivial⟩)) (cQ (Ei:=[(48,_)]) rfl rfl (bQ (bZ 16 rfl rfl) bX) rfl rfl (dZ rfl (cZ (Ht rfl))) (cQ (Ei:=[(31,_)]) rfl rfl (bQ (bZ 17 rfl rfl) bX) rfl rfl (dZ rfl (dU (Ht rfl) rfl)) ?_))
   refine cQ (Ei:=[(31,_)]) rfl rfl (bQ (bZ 17 rfl rfl) bX) rfl rfl (dZ rfl (dU (Ht rfl) rfl)) (Y.D_newp (Ei:=[]) (fun bb=>box bb 51 [aD (decide ((iO s p g).a < 0)),aI (iO s p g).a.natAbs,aD (decide ((iO s p g).b < 0)),aI (iO s p g).b.natAbs,aI (du (iO s p g))]) 21 rfl rfl rfl bX rfl rfl (by kernel_rfl) (eG (Ts:=[Is (.bool false),Is (.slice none 0 0),Is (.bool false),Is (.slice none 0 0),Is (.slice none 0 0)]) O_51 rfl (fun V=>aW zd (aW zd (aW zd (aW zd (aW zd (aG))))))) ?_)
   refine Y.D_putN (Ei:=[(49,_)]) 20 rfl rfl rfl rfl rfl rfl (bQ (bZ 18 rfl rfl) bX) (fun bb=>lA Z_51 (Ht rfl) (Ht rfl) rfl (i:=0) rfl (aK rfl) rfl rfl) (Y.D_done bE rfl (by kernel_rfl) rfl (by simp [Y.okP]) rfl rfl (bU (bU (bU (bU (bU (bU (bU (bU (bU (bU (bU (bU (bU (bU (bU (bU (bU (bU (bU (bU (Y.F_newp (fun B9=>Y.F_putN (Y.F_nil ?_))))))))))))))))))))))))
   refine ra rfl (eZ (cU (ts (rm rfl (ro rfl (kA (Ht rfl) cW) (eZ (dX (Ht rfl) (fun he=>?_) (fun he=>?_))))))))
   ·have hz : Qi.ofInt 1 - gm s p p * g = Qi.zero := by simp at he; exact he
    have he:pM z s ((p:Int) + 1) g = 6:=by rw [htd,if_pos hz]
    refine ts (ro rfl (aM.imp (mC ) mI) (gX Z_32 (Ht rfl) (Ht rfl) rfl (i:=2) rfl (aK rfl) rfl rfl (ro rfl (cX (cV 6)) (eZ (bN rfl (fZ (fU A_32 Z_32 rfl (i:=2) rfl rfl) ?_) (fZ (eY rfl) ?_))))))
    ·exact (Hh he (by decide))
    ·exact (aS he.symm)
   ·have hz : Qi.ofInt 1 - gm s p p * g ≠ Qi.zero := by simp at he; exact he
    have he:pM z s ((p:Int) + 1) g = 0:=by rw [htd,if_neg hz]
    haveI ff:aE (iO s p g) (7 * L + 11):=Ld hf hg hL hz
    have hll:(Bp p m).length = m:=aN _ _
    refine cY (ts (ro rfl (eW A_32 Z_32 (Ht rfl) (i:=0) rfl rfl rfl) (rm rfl (ro rfl (cR (xs:=[.tmp 55]) U_72 Z_3 Tryz.zeroValue3 (cG (Ht rfl) cK) rfl rfl rfl) (ro rfl (cJ Tryz.call121 (eX (a3d (z:=z) (s:=s) (p:=p) hp hl) (kY (by rw [← hm]))) ⟨(Ht rfl),(Ht rfl),trivial⟩) ?_)))))
    refine ra rfl (eZ (ts (ro rfl (eW A_32 Z_32 (Ht rfl) (i:=0) rfl rfl rfl) (rm rfl (kC Tryz.call122 (a0u (p:=p) (m:=m) hs hp hm hl) ⟨(Ht rfl),(Ht rfl),trivial⟩ rfl (fun B60 _=>(rn rfl (eG (Ts:=[Is (.slice none 0 0),Is (.slice none 0 0)]) O_32 rfl (fun V=>aW zd (aW zd (aG)))) fun B12=>(gX Z_32 (Ht rfl) (Ht rfl) rfl (i:=5) rfl (aK rfl) rfl rfl (eZ (cU (ts (rm rfl (ro rfl (dK U_72 (Ht rfl) (by rw [List.length_map,hll])) ?_)))))))))))))
    refine ro rfl (cZ (cV 0)) (eZ (eK (cD [0,2,3,4,5] rfl (by decide) ?_)))
    refine cF (fun (i : Nat) => i ≤ m) (fun (i : Nat) => m - i) (fun (i : Nat) => [(3, bT B3 0), (6, bT B6 0), (8, NT .i64 p), (9, bT B9 0), (11, nN (Bp p m)), (12, bT B12 0), (61, nN (Bp p m)), (62, NT .i64 m), (63, NT .i64 i)]) (fun (i : Nat) => [box B3 32 [aR z, bB s], box B6 32 [Is (.slice none 0 0), Is (.slice none 0 0)], box B9 51 [aD (decide ((iO s p g).a < 0)), aI (iO s p g).a.natAbs, aD (decide ((iO s p g).b < 0)), aI (iO s p g).b.natAbs, aI (du (iO s p g))], nR B60 29 51 5 (cE aH (nT (fun i => tab m fun j => Hg s p (iO s p g) i j) (fun i => tab m fun j => gm s (kV p i) (kV p j)) m i)), box B12 32 [aR (uT z p m), Is (.slice (some ⟨B60, 0, none⟩) m m)]]) 0 (Nat.zero_le _)
     (zS rfl) (aU (fun _ _ _ h=>h) (aU (fun _ _ _ h=>h) (aU (aB rfl) (aU (cB (by rw [← jU]; rfl)) (aU (aB rfl) aY))))) (fun i hi=>?_)
    refine ts (ro rfl (gZ (Ht rfl) (Ht rfl)) (eZ (cU (dX (Ht rfl) (fun hd=>?_) (fun hd=>?_)))))
    ·simp only [decide_eq_true_eq] at hd
     have hki:kV p i < z.length:=yD zo hp
     have hsr:=hs.row hki
     refine nG 3 (i) rfl (qR hd) (fun v=>(cY (cU (eK (ts (rm rfl (ro rfl (dJ U_72 Z_3 (Ht rfl) (Ht rfl) rfl (eQ (Px hd))) (ro rfl (dV A_3 Z_3 (Ht rfl)) (ra rfl (ra rfl (eZ (ts (rm rfl (ro rfl (dK U_72 (Ht rfl) (by rw [List.length_map,hll])) ?_))))))))))))))
     refine ro rfl (cZ (cV 0)) (eZ (eK ?_))
     refine cF (fun (j : Nat) => j ≤ m) (fun (j : Nat) => m - j) (fun (j : Nat) => [(3, bT B3 0), (6, bT B6 0), (8, NT .i64 p), (9, bT B9 0), (11, nN (Bp p m)), (12, bT B12 0), (13, NT .i64 i), (14, NT .i64 (kV p i + 1)), (61, nN (Bp p m)), (62, NT .i64 m), (63, NT .i64 i), (68, nN (Bp p m)), (69, NT .i64 m), (70, NT .i64 j)]) (fun (j : Nat) => [box B3 32 [aR z, bB s], box B6 32 [Is (.slice none 0 0), Is (.slice none 0 0)], box B9 51 [aD (decide ((iO s p g).a < 0)), aI (iO s p g).a.natAbs, aD (decide ((iO s p g).b < 0)), aI (iO s p g).b.natAbs, aI (du (iO s p g))], Di B60 29 51 5 (cE aH (nT (fun i => tab m fun j => Hg s p (iO s p g) i j) (fun i => tab m fun j => gm s (kV p i) (kV p j)) m i)) i v, box B12 32 [aR (uT z p m), Is (.slice (some ⟨B60, 0, none⟩) m m)], cC 51 5 v ((nT (fun j => Hg s p (iO s p g) i j) (fun j => gm s (kV p i) (kV p j)) m j).map aH)]) 0 (Nat.zero_le _)
      (zS rfl) (aU (fun _ _ _ h=>h) (aU (fun _ _ _ h=>h) (aU (fun _ _ _ h=>h) (aU (fun _ _ _ h=>h) (aU (fun _ _ _ h=>h) (aU (bR (by rw [← jU])) aY)))))) (fun j hj=>?_)
     refine ts (ro rfl (gZ (Ht rfl) (Ht rfl)) (eZ (cU (dX (Ht rfl) (fun hf2=>?_) (fun hf2=>?_)))))
     ·simp only [decide_eq_true_eq] at hf2
      have hkj:kV p j < z.length:=yD zo hp
      have hrl:=jG (fun j=>Hg s p (iO s p g) i j) (fun j=>gm s (kV p i) (kV p j)) m j
      haveI g1:aE (gm s (kV p i) (kV p j)) L:=hf.get hL _ _
      haveI g2:aE (gm s (kV p i) p) L:=hf.get hL _ _
      haveI g3:aE (gm s p (kV p j)) L:=hf.get hL _ _
      refine cY (cU (eK (ts (rm rfl (ro rfl (dJ U_72 Z_3 (Ht rfl) (Ht rfl) rfl (eQ (Px hf2))) (ro rfl (dV A_3 Z_3 (Ht rfl)) (ra rfl (ra rfl (eZ (fJ (m:=39) (dp 12 rfl (eJ kP (Ht rfl) rfl) (dq 75 0 rfl (fQ A_30 Z_30 (Ht rfl) (i:=4) rfl rfl) (dp 13 rfl (cZ (Ht rfl)) (dR 76 1 77 2 rfl (gQ U_30 Z_29 (Ht rfl) (Ht rfl) rfl zo (by rw [Nat.mul_one,Nat.zero_add])) ?_))))))))))))))
      refine dq 78 3 rfl (jZ A_29 Z_29 (Ht rfl) (j:=3) rfl) (dp 15 rfl (cZ (Ht rfl)) (dp 12 rfl (eJ kP (Ht rfl) rfl) (dq 81 6 rfl (fQ A_30 Z_30 (Ht rfl) (i:=4) rfl rfl) (dp 13 rfl (cZ (Ht rfl)) (dR 82 7 83 8 rfl (gQ U_30 Z_29 (Ht rfl) (Ht rfl) rfl zo (by rw [Nat.mul_one,Nat.zero_add])) ?_)))))
      refine dq 84 9 rfl (jZ A_29 Z_29 (Ht rfl) (j:=3) rfl) (dp 15 rfl (cZ (Ht rfl)) (dR 85 10 86 11 rfl (dP U_29 Z_51 (Ht rfl) (Ht rfl) rfl (i:=5) rfl (by simp only [List.length_map,hrl]; omega) rfl) ?_))
      refine dq 87 12 rfl (tG A_51 Z_51 (Ht rfl) (i:=5) rfl rfl (eQ (qV hf2))) (dq 88 13 rfl (aT bL (Ht rfl)) (dp 3 rfl (eJ kP (Ht rfl) rfl) (dq 90 15 rfl (fQ A_30 Z_30 (Ht rfl) (i:=0) rfl rfl) (dp 14 rfl (cZ (Ht rfl)) (dq 92 17 rfl (aM.nat (dG (Ht rfl) (cV 1) zo z6) (show kV p i + 1 - 1 = kV p i by omega)) (dR 91 16 93 18 rfl (dJ U_30 Z_29 (Ht rfl) (Ht rfl) rfl (eQ (dY (d:=[]) zo))) ?_))))))
      refine dq 94 19 rfl (dV A_29 Z_29 (Ht rfl)) (dp 8 rfl (cZ (Ht rfl)) (dR 95 20 96 21 rfl (dJ U_29 Z_51 (Ht rfl) (Ht rfl) rfl (eQ (dY (d:=Qi.zero) zo))) (dq 97 22 rfl (dV A_51 Z_51 (Ht rfl)) (dq 98 23 rfl (aT bL (Ht rfl)) (dp 9 rfl (eW A_51 Z_51 (Ht rfl) (i:=2) rfl rfl rfl) (dq 100 25 rfl (aT bL (Ht rfl)) (dp 3 rfl (eJ kP (Ht rfl) rfl) (dq 102 27 rfl (fQ A_30 Z_30 (Ht rfl) (i:=0) rfl rfl) (dp 8 rfl (cZ (Ht rfl)) ?_)))))))))
      refine dR 103 28 104 29 rfl (dJ U_30 Z_29 (Ht rfl) (Ht rfl) rfl (eQ (dY (d:=[]) zo))) (dq 105 30 rfl (dV A_29 Z_29 (Ht rfl)) (dp 16 rfl (cZ (Ht rfl)) (dq 107 32 rfl (aM.nat (dG (Ht rfl) (cV 1) zo z6) (show kV p j + 1 - 1 = kV p j by omega)) (dR 106 31 108 33 rfl (dJ U_29 Z_51 (Ht rfl) (Ht rfl) rfl (eQ (dY (d:=Qi.zero) zo))) (dq 109 34 rfl (dV A_51 Z_51 (Ht rfl)) ?_)))))
      refine dR 101 26 110 35 rfl (aL cL K_45 (iT (x:=iO s p g) (y:=gm s p (kV p j)) (L:=7 * L + 11) (M:=L) zo) (Ht rfl) ⟨(Ht rfl),trivial⟩) (dR 99 24 111 36 rfl (aL cL K_45 (iT (x:=gm s (kV p i) p) (y:=iO s p g * gm s p (kV p j)) (L:=L) (M:=7 * L + 11 + L + 1) zo) (Ht rfl) ⟨(Ht rfl),trivial⟩) (dR 89 14 112 37 rfl (aL nS K_46 (yL (x:=gm s (kV p i) (kV p j)) (y:=gm s (kV p i) p * (iO s p g * gm s p (kV p j))) (L:=L) (M:=L + (7 * L + 11 + L + 1) + 1) zo) (Ht rfl) ⟨(Ht rfl),trivial⟩) ?_))
      refine fW bE rfl (by kernel_rfl) (zF (zF (zF (zF (zF (zF (zF (zF (zF (aJ (aJ (aJ (aV (ro rfl (dP U_29 Z_51 (Ht rfl) (Ht rfl) rfl (i:=5) rfl (by simp only [List.length_map,hrl]; omega) rfl) ?_))))))))))))))
      refine nO Z_51 (Ht rfl) (Ht rfl) (El.ag rfl) (i:=5) rfl rfl (by simp only [List.length_map,hrl]; omega) rfl ?_
      refine eZ (bO (dQ (ro rfl (dW (Ht rfl) (cV 1) z6) (rm rfl (eZ (fY (j + 1) hf2 zo (zS rfl) (aU (fun _ _ _ h=>h) (aU (fun _ _ _ h=>h) (aU (fun _ _ _ h=>h) (aU (fun _ _ _ h=>h) (aU (fun _ _ _ h=>h) (aU (bR (by rw [fO,← kL (f:=fun j=>Hg s p (iO s p g) i j)]; rfl)) aY))))))))))))
     ·simp only [decide_eq_false_iff_not] at hf2
      obtain rfl:m = j:=Nat.le_antisymm zo hj
      refine gW rfl (bO (fP 3 5 rfl rfl (by decide) (by simp only [cE,List.length_map,jG]; omega) ?_))
      refine dQ (ro rfl (dW (Ht rfl) (cV 1) z6) (rm rfl (eZ (cD [0,1,2,3,4] rfl (by decide) (fY (i + 1) hd zo (zS rfl) (aU (fun _ _ _ h=>h) (aU (fun _ _ _ h=>h) (aU (fun _ _ _ h=>h) (aU (cB (by rw [gH,lC,← kL (f:=(fun i=>tab m fun j=>Hg s p (iO s p g) i j))])) (aU (fun _ _ _ h=>h) aY))))))))))
    ·simp only [decide_eq_false_iff_not] at hd
     obtain rfl:m = i:=Nat.le_antisymm zo hi
     rw [lC]
     refine gW rfl (cU (Ao 4 3 1 rfl rfl rfl (by decide) (a5a (q:=fun _=>True) (M:=yI s p m (iO s p g)) (aN _ _).symm) ?_))
     subst hm
     refine dQ (ro rfl (eW A_32 Z_32 (Ht rfl) (i:=4) rfl rfl rfl) (gX Z_32 (Ht rfl) (Ht rfl) rfl (i:=1) rfl (aK rfl) rfl rfl (ro rfl (cX (cV 0)) (eZ (bN rfl (fZ (fU A_32 Z_32 rfl (i:=1) rfl rfl) ?_) (fZ (eY rfl) ?_))))))
     ·exact (Zz he)
     ·exact (aS he.symm)
end
section
open Go Go.RowKit
theorem Zy {z:List Qi} {s:List (List Qi)} {port:Int} {g:Qi} {L:Nat} (hs:bC s L) (hg:aE g L) (hL:1 ≤ L):bC (tT z s port g) (10 * L + 14):=by
 by_cases h:pM z s port g = 0
 ·refine wS fun r hr => ?_
  obtain ⟨i,_,rfl⟩:=eA.1 hr
  refine bP.tab fun j _=>?_
  have hd : Qi.ofInt 1 - gm s (port - 1).toNat (port - 1).toNat * g ≠ Qi.zero := by
   unfold pM at h
   split at h
   ·omega
   ·split at h
    ·omega
    ·split at h
     ·omega
     ·assumption
  haveI f0:=Ld hs hg hL hd
  haveI f1:aE (gm s (kV (port - 1).toNat i) (kV (port - 1).toNat j)) L:=hs.get hL _ _
  haveI f2:aE (gm s (kV (port - 1).toNat i) (port - 1).toNat) L:=hs.get hL _ _
  haveI f3:aE (gm s (port - 1).toNat (kV (port - 1).toNat j)) L:=hs.get hL _ _
  have f4:aE (Hg s (port - 1).toNat (iO s (port - 1).toNat g) i j) (L + (L + (7 * L + 11 + L + 1) + 1) + 1):=inferInstanceAs (aE (_ + _ * (_ * _)) _)
  exact f4.le zo
 ·rw [tT,dA,if_neg h]; exact bC.nil
end
section
open Go Go.RowKit
theorem Sa {r n:Nat} (hr:r ≤ 1000) (h1:1 ≤ n) (hn:n ≤ 1000):gO Tryz.prog 97 [NT .i64 r,NT .i64 n] [] (Nat) (fun B=>Is (.slice (some ⟨B,0,none⟩) r r)) (fun B=>[mW jN B 29 51 5 (cE aH (qA r n))]) (fun _=>True):=by
 refine gO.intro Tryz.func97 rfl Tryz.ntmps97 rfl (fun cx Z=>(ts (ro rfl (cX cW) (eZ (ts (rm rfl (rn rfl (eM (T:=Is (.slice none 0 0)) (i:=Tryz.t29) V_30 lH rfl rfl (Ht rfl) rfl (fun _=>rfl) trivial (by show 24 * _ ≤ _; omega) zo) fun B8=>(ra rfl (eZ (cU (ts (rm rfl (ro rfl (gA U_30 (Ht rfl)) (ro rfl (cZ (cV 0)) (eZ (eK (nZ 1 rfl (wQ jN ⟨none,0,rfl⟩ (e:=51) (s:=5)) ?_)))))))))))))))))
 refine cF (fun (k : Nat) => k ≤ r) (fun (k : Nat) => r - k) (fun (k : Nat) => [(1, NT .i64 n), (5, Is (.slice (some ⟨B8, 0, none⟩) r r)), (10, NT .i64 r), (11, NT .i64 k)]) (fun (k : Nat) => [Z, mW jN B8 29 51 5 (cE aH (mA (fun _ => (tab n fun _ => Qi.zero)) [] r k))]) 0 (Nat.zero_le _)
  (zS rfl) (aU (fun _ _ _ h=>h) (aU (cB (by rw [← jS,kS]; exact mL aH r)) aY)) (fun k hk=>?_)
 refine ts (ro rfl (gZ (Ht rfl) (Ht rfl)) (eZ (cU (dX (Ht rfl) (fun hd=>?_) (fun hd=>?_)))))
 ·simp only [decide_eq_true_eq] at hd
  refine qI 1 (k) rfl (mE hd) (fun v hv=>(cY (cU (eK (ts (rm rfl (ra rfl (eZ (dQ (rm rfl (rm rfl (ro rfl (cJ K_77 (oI (n:=0) (by decide) (by decide)) ⟨(cV 0),trivial⟩) (ro rfl (cJ K_98 Dg ⟨(Ht rfl),trivial⟩) (ro rfl (cR (xs:=[.tmp 17]) U_29 Z_51 O_51 (cG (Ht rfl) cK) rfl rfl rfl) (rm rfl (kC Tryz.call191 (Lz (m:=n) h1 hn) ⟨(Ht rfl),(Ht rfl),trivial⟩ rfl (fun B20 _=>?_)))))))))))))))))
  have hB20:=B20.2
  refine ro rfl (gQ U_30 Z_29 (Ht rfl) (Ht rfl) rfl zo (by rw [Nat.mul_one,Nat.zero_add])) ?_
  refine uV Z_29 (Ht rfl) (Ht rfl) (by simp only [cE,List.length_map,eS]; omega) (j:=1) (l:=3) rfl rfl rfl ?_
  refine eZ (bO (fP 1 3 rfl rfl (by decide) (by simp only [cE,List.length_map,eS]; omega) ?_))
  refine dQ (ro rfl (dW (Ht rfl) (cV 1) z6) (rm rfl (eZ (cD [0,1] rfl (by decide) (fY (k + 1) hd zo (zS rfl) (aU (fun _ _ _ h=>h) (aU (cB (by rw [gH,← lJ (f:=fun _=>(tab n fun _=>Qi.zero))])) aY)))))))
 ·simp only [decide_eq_false_iff_not] at hd
  obtain rfl:r = k:=Nat.le_antisymm zo hk
  refine gW rfl (ts (rm rfl (ra rfl (eZ ?_))))
  exact kH B8 trivial [0,1] ⟨⟨_,rfl,fun _ _ _ h=>h⟩,⟨_,rfl,(cB (by rw [lI]; rfl))⟩,trivial⟩ (by decide) (yB rfl (eY rfl))
theorem Vl {z:List Qi} {s c:List (List Qi)} {port:Int} {g t:Qi} {G:Nat} (hG:28 ≤ G) (hGb:G ≤ 1000000) (hz:bP z 2) (hs:bC s 2) (hc:bC c G) (hg:aE g 2) (ht:aE t 2) (hsh:cM s z.length z.length) (hch:cM c z.length z.length) (hl:z.length ≤ 8):bH Tryz.prog 61 [fD z s c,aO .i64 port,aH g,aH t] (fI [fD (ntZ z s port g t) (ntS z s port g t) (ntQ z s c port g t),aO .i64 (Lj z s port g t)]):=by
 haveI:=hg
 haveI:=ht
 haveI f0:=kG
 have hsl:=hsh.1
 refine bH.intro Tryz.func61 rfl Tryz.ntmps61 rfl (fun cx=>(ts (rn rfl (fK (Ht rfl)) fun B4=>(rn rfl (fK (Ht rfl)) fun B6=>(rn rfl (fK (Ht rfl)) fun B7=>(rn rfl (eG (Ts:=[Is (.slice none 0 0),Is (.slice none 0 0),Is (.slice none 0 0)]) O_34 rfl (fun V=>aW zd (aW zd (aW zd (aG))))) fun B8=>(ro rfl (cX (cV 0)) (eZ (cU (ts (ro rfl (eW A_51 Z_51 (Ht rfl) (i:=2) rfl rfl rfl) (ro rfl (cJ Tryz.call159 (Mj zo) ⟨(Ht rfl),trivial⟩) ?_))))))))))))
 refine ro rfl (eN (Ht rfl)) (eZ (dX (Ht rfl) (fun hb=>?_) (fun hb=>?_)))
 ·have hw : jJ t ≠ 0 := by simp only [Bool.not_eq_true'] at hb; rw [jJ, hb]; decide
  have hw1:jJ t = 1:=by simp only [Bool.not_eq_true'] at hb; rw [jJ,hb]; rfl
  have he1:Lj z s port g t = 1:=by rw [Lj,if_neg hw,hw1]
  have he:Lj z s port g t ≠ 0:=by rw [he1]; decide
  refine ts (ro rfl (aM.imp (rH ) mY) (gX Z_34 (Ht rfl) (Ht rfl) rfl (i:=3) rfl (aK rfl) rfl rfl (ro rfl (cX (cV 1)) (eZ (bN rfl (fZ (fU A_34 Z_34 rfl (i:=3) rfl rfl) ?_) (fZ (eY rfl) ?_))))))
  ·exact (fun v V h=>by rw [ntZ,ntS,ntQ,dA,dA,dA,if_neg he,if_neg he,if_neg he]; exact h)
  ·exact (aS he1.symm)
 ·have hw : jJ t = 0 := by simp only [Bool.not_eq_false'] at hb; rw [jJ, hb]; rfl
  have hee:Lj z s port g t = pM z s port g:=by rw [Lj,if_pos hw]
  refine cY (ts (ro rfl (eJ mD (Ht rfl) rfl) (ro rfl (eW A_32 Z_32 (Ht rfl) (i:=0) rfl rfl rfl) (rm rfl (ro rfl (eW A_51 Z_51 (Ht rfl) (i:=1) rfl rfl rfl) (ro rfl (cJ Tryz.call41 (a38 (z:=z) (s:=s) (port:=port) (g:=g) (L:=2) hsh hs hg (by decide) (by decide) zo) ⟨(Ht rfl),(Ht rfl),(Ht rfl),trivial⟩) (rm rfl (ro rfl (dU (Ht rfl) rfl) (ro rfl (dU (Ht rfl) rfl) (rn rfl (eG (Ts:=[Is (.slice none 0 0),Is (.slice none 0 0)]) O_32 rfl (fun V=>aW zd (aW zd (aG)))) fun B10=>?_))))))))))
  refine gX Z_32 (Ht rfl) (Ht rfl) rfl (i:=4) rfl (aK rfl) rfl rfl (ra rfl (eZ (cU (ts (rm rfl (ro rfl (kA (Ht rfl) cW) (eZ (dX (Ht rfl) (fun hd=>?_) (fun hd=>?_)))))))))
  ·have he : Lj z s port g t ≠ 0 := by rw [hee]; simpa using hd
   refine ts (ro rfl (aM.imp (rH ) mY) (rm rfl (gX Z_34 (Ht rfl) (Ht rfl) rfl (i:=3) rfl (aK rfl) rfl rfl (ra rfl (eZ (bN rfl (fZ (fU A_34 Z_34 rfl (i:=3) rfl rfl) ?_) (fZ (eY rfl) ?_)))))))
   ·exact (fun v V h=>by rw [ntZ,ntS,ntQ,dA,dA,dA,if_neg he,if_neg he,if_neg he]; exact h)
   ·exact (aS hee.symm)
  ·have hd0 : pM z s port g = 0 := by simpa using hd
   obtain ⟨hb1,hn1,hD⟩:=Le hd0
   obtain ⟨p,rfl⟩:∃ p:Nat,port = ((p + 1:Nat):Int):=⟨(port - 1).toNat,by omega⟩
   have hpz:(((p + 1:Nat):Int) - 1).toNat = p:=by omega
   rw [hpz] at hD
   have hpn:p < z.length:=by omega
   have he:Lj z s ((p + 1:Nat):Int) g t = 0:=by rw [hee,hd0]
   have hrz:Ct z s ((p + 1:Nat):Int) g = uT z p (z.length - 1):=by rw [Ct,hd0,hpz]; rfl
   have hrs:tT z s ((p + 1:Nat):Int) g = yI s p (z.length - 1) (iO s p g):=by rw [tT,hd0,hpz]; rfl
   rw [hrz,hrs]
   have hrf : bH Tryz.prog 23 [gT z s, NT .i64 (p + 1)] (fI [aH (gv z p), aO .i64 0]) := by
    have h:=Vh (z:=z) (s:=s) (i:=((p + 1:Nat):Int)) zo
    rw [show Yu z ((p + 1:Nat):Int) = gv z p from Nc hpn,if_pos zo] at h; exact h
   have hsp:=hsh.row hpn
   haveI f1:aE (gm s p p) 2:=hs.get (by decide) p p
   haveI f2:aE (gv z p) 2:=hz.get (by decide) p
   haveI f3:aE (Qi.ofInt 1 - gm s p p * g) 7:=(fitSub (x:=Qi.ofInt 1) (y:=gm s p p * g))
   refine cY (ts (ro rfl (eJ mD (Ht rfl) rfl) (ro rfl (eW A_32 Z_32 (Ht rfl) (i:=0) rfl rfl rfl) (ro rfl (cJ Tryz.call93 (Ft hsh hl) ⟨(Ht rfl),trivial⟩) (rm rfl (ro rfl (aM.nat (dG (Ht rfl) (cV 1) zo z6) (show p + 1 - 1 = p by omega)) (ro rfl (cJ K_77 (oI (n:=1) (by decide) (by decide)) ⟨(cV 1),trivial⟩) (ro rfl (cJ K_98 Dg ⟨(Ht rfl),trivial⟩) (rn rfl (eG (Ts:=[Is (.bool false),Is (.slice none 0 0),Is (.bool false),Is (.slice none 0 0),Is (.slice none 0 0)]) O_51 rfl (fun V=>aW zd (aW zd (aW zd (aW zd (aW zd (aG))))))) fun B14=>?_)))))))))
   refine ra rfl (ra rfl (gX Z_51 (Ht rfl) (Ht rfl) rfl (i:=5) rfl (aK rfl) rfl rfl (eZ (cU (cD [0,1,2,3,4,5] rfl (by decide) (dQ (ro rfl (eJ mD (Ht rfl) rfl) (ro rfl (eW A_32 Z_32 (Ht rfl) (i:=0) rfl rfl rfl) (rm rfl (ro rfl (cJ Tryz.call23 hrf ⟨(Ht rfl),(Ht rfl),trivial⟩) (rm rfl (ro rfl (dU (Ht rfl) rfl) (ro rfl (dU (Ht rfl) rfl) (rn rfl (eG (Ts:=[Is (.bool false),Is (.slice none 0 0),Is (.bool false),Is (.slice none 0 0),Is (.slice none 0 0)]) O_51 rfl (fun V=>aW zd (aW zd (aW zd (aW zd (aW zd (aG))))))) fun B15=>?_))))))))))))))
   refine gX Z_51 (Ht rfl) (Ht rfl) rfl (i:=6) rfl (aK rfl) rfl rfl (ra rfl (eZ (cU (cD [0,1,2,3,4,5,6] rfl (by decide) (fJ (m:=14) (dp 14 rfl (eW A_51 Z_51 (Ht rfl) (i:=5) rfl rfl rfl) (dq 61 0 rfl (aT bL (Ht rfl)) (dp 12 rfl (cZ (Ht rfl)) (dp 13 rfl (cZ (Ht rfl)) (dR 63 2 64 3 rfl (dJ U_30 Z_29 (Ht rfl) (Ht rfl) rfl (eQ (dY (d:=[]) zo))) (dq 65 4 rfl (dV A_29 Z_29 (Ht rfl)) (dp 13 rfl (cZ (Ht rfl)) (dR 66 5 67 6 rfl (dJ U_29 Z_51 (Ht rfl) (Ht rfl) rfl (eQ (dY (d:=Qi.zero) zo))) ?_)))))))))))))
   refine dq 68 7 rfl (dV A_51 Z_51 (Ht rfl)) (dq 69 8 rfl (aT bL (Ht rfl)) (dp 6 rfl (eW A_51 Z_51 (Ht rfl) (i:=1) rfl rfl rfl) (dR 70 9 71 10 rfl (aL cL K_45 (iT (x:=gm s p p) (y:=g) (L:=2) (M:=2) (by decide)) (Ht rfl) ⟨(Ht rfl),trivial⟩) (dR 62 1 72 11 rfl (aL iX K_44 (rV (x:=Qi.ofInt 1) (y:=gm s p p * g) (L:=1) (M:=5) (by decide)) (Ht rfl) ⟨(Ht rfl),trivial⟩) (C.D_new (Ei:=[]) rfl rfl rfl bW (eG (Ts:=[Is (.bool false),Is (.slice none 0 0),Is (.bool false),Is (.slice none 0 0),Is (.slice none 0 0)]) O_51 rfl (fun V=>aW zd (aW zd (aW zd (aW zd (aW zd (aG))))))) ?_)))))
   refine fW bE rfl (by kernel_rfl) (zF (zF (zF (aJ (C.F_new (fun B17=>aV (gX Z_51 (Ht rfl) (Ht rfl) rfl (i:=7) rfl (aK rfl) rfl rfl (eZ (cU (cD [0,1,2,3,4,5,6,7] rfl (by decide) (dQ (ro rfl (eW A_51 Z_51 (Ht rfl) (i:=1) rfl rfl rfl) (ro rfl (aT bL (Ht rfl)) (ro rfl (eW A_51 Z_51 (Ht rfl) (i:=7) rfl rfl rfl) (ro rfl (aL lU K_40 (vB (x:=g) (y:=(Qi.ofInt 1 - gm s p p * g)) (L:=2) (M:=7) (by decide)) (Ht rfl) ⟨(Ht rfl),trivial⟩) ?_)))))))))))))))
   refine rm rfl (ro rfl (dU (Ht rfl) rfl) (ro rfl (dU (Ht rfl) rfl) (rn rfl (eG (Ts:=[Is (.bool false),Is (.slice none 0 0),Is (.bool false),Is (.slice none 0 0),Is (.slice none 0 0)]) O_51 rfl (fun V=>aW zd (aW zd (aW zd (aW zd (aW zd (aG))))))) fun B18=>(gX Z_51 (Ht rfl) (Ht rfl) rfl (i:=8) rfl (aK rfl) rfl rfl (ra rfl (eZ (cU (cD [0,1,2,3,4,5,6,7,8] rfl (by decide) (dQ (ro rfl (eW A_51 Z_51 (Ht rfl) (i:=5) rfl rfl rfl) ?_))))))))))
   refine ro rfl (aT bL (Ht rfl)) (ro rfl (eW A_51 Z_51 (Ht rfl) (i:=7) rfl rfl rfl) (ro rfl (aL lU K_40 (vB (x:=Qi.ofInt 1) (y:=(Qi.ofInt 1 - gm s p p * g)) (L:=1) (M:=7) (by decide)) (Ht rfl) ⟨(Ht rfl),trivial⟩) (rm rfl (ro rfl (dU (Ht rfl) rfl) (ro rfl (dU (Ht rfl) rfl) (rn rfl (eG (Ts:=[Is (.bool false),Is (.slice none 0 0),Is (.bool false),Is (.slice none 0 0),Is (.slice none 0 0)]) O_51 rfl (fun V=>aW zd (aW zd (aW zd (aW zd (aW zd (aG))))))) fun B20=>?_))))))
   refine gX Z_51 (Ht rfl) (Ht rfl) rfl (i:=9) rfl (aK rfl) rfl rfl (ra rfl (eZ (cU (cD [0,1,2,3,4,5,6,7,8,9] rfl (by decide) (fJ (m:=16) (dp 7 rfl (eW A_51 Z_51 (Ht rfl) (i:=2) rfl rfl rfl) (dp 15 rfl (eW A_51 Z_51 (Ht rfl) (i:=6) rfl rfl rfl) (dR 88 0 89 1 rfl (cJ K_45 (iT (x:=t) (y:=gv z p) (L:=2) (M:=2) (by decide)) ⟨(Ht rfl),(Ht rfl),trivial⟩) (dq 90 2 rfl (cJ K_98 Dg ⟨(Ht rfl),trivial⟩) (dq 91 3 rfl (aT bL (Ht rfl)) (dp 14 rfl (eW A_51 Z_51 (Ht rfl) (i:=5) rfl rfl rfl) ?_)))))))))))
   refine dq 93 5 rfl (aT bL (Ht rfl)) (dp 6 rfl (eW A_51 Z_51 (Ht rfl) (i:=1) rfl rfl rfl) (dq 95 7 rfl (aT bL (Ht rfl)) (dp 6 rfl (eW A_51 Z_51 (Ht rfl) (i:=1) rfl rfl rfl) (dq 97 9 rfl (aT bL (Ht rfl)) (dq 98 10 rfl (aL mG K_175 xJ (Ht rfl) trivial) (dR 96 8 99 11 rfl (aL cL K_45 (iT (x:=g) (y:=g.conj) (L:=2) (M:=2) (by decide)) (Ht rfl) ⟨(Ht rfl),trivial⟩) (dR 94 6 100 12 rfl (aL iX K_44 (rV (x:=Qi.ofInt 1) (y:=g * g.conj) (L:=1) (M:=5) (by decide)) (Ht rfl) ⟨(Ht rfl),trivial⟩) ?_)))))))
   refine dR 92 4 101 13 rfl (aL cL K_45 (iT (x:=t * gv z p) (y:=Qi.ofInt 1 - g * g.conj) (L:=5) (M:=7) (by decide)) (Ht rfl) ⟨(Ht rfl),trivial⟩) (C.D_new (Ei:=[]) rfl rfl rfl bW (eG (Ts:=[Is (.bool false),Is (.slice none 0 0),Is (.bool false),Is (.slice none 0 0),Is (.slice none 0 0)]) O_51 rfl (fun V=>aW zd (aW zd (aW zd (aW zd (aW zd (aG))))))) (fW bE rfl (by kernel_rfl) (zF (zF (zF (aJ (aJ (aJ (C.F_new (fun B22=>aV ?_))))))))))
   refine gX Z_51 (Ht rfl) (Ht rfl) rfl (i:=10) rfl (aK rfl) rfl rfl (eZ (ts (ro rfl (cX cW) (eZ (ts (ro rfl (cX cW) (eZ (cU (cU (cD [0,3,4,5,8,9,10] rfl (by decide) (yK 29 1 (yK 51 5 (dQ (rm rfl (ro rfl (dK U_30 (Ht rfl) (by rw [List.length_map,hsl])) ?_)))))))))))))))
   refine ro rfl (cZ (cV 0)) (eZ (eK ?_))
   refine kD (fun (i : Nat) (vA : Value) (vU : Value) => i ≤ z.length) (fun (i : Nat) (vA : Value) (vU : Value) => z.length - i) (fun (i : Nat) (vA : Value) (vU : Value) => [(4, bT B4 0), (8, bT B8 0), (10, bT B10 0), (12, bB s), (13, NT .i64 p), (14, bT B14 0), (18, bT B18 0), (20, bT B20 0), (22, bT B22 0), (23, Is vA), (24, Is vU), (104, NT .i64 z.length), (105, NT .i64 i)]) (fun (i : Nat) (vA : Value) (vU : Value) => [box B4 34 [aR z, bB s, bB c], box B8 34 [Is (.slice none 0 0), Is (.slice none 0 0), Is (.slice none 0 0)], box B10 32 [aR (uT z p (z.length - 1)), bB (yI s p (z.length - 1) (iO s p g))], box B14 51 [aD (decide ((Qi.ofInt 1).a < 0)), aI (Qi.ofInt 1).a.natAbs, aD (decide ((Qi.ofInt 1).b < 0)), aI (Qi.ofInt 1).b.natAbs, aI (du (Qi.ofInt 1))], box B18 51 [aD (decide ((g / (Qi.ofInt 1 - gm s p p * g)).a < 0)), aI (g / (Qi.ofInt 1 - gm s p p * g)).a.natAbs, aD (decide ((g / (Qi.ofInt 1 - gm s p p * g)).b < 0)), aI (g / (Qi.ofInt 1 - gm s p p * g)).b.natAbs, aI (du (g / (Qi.ofInt 1 - gm s p p * g)))], box B20 51 [aD (decide ((Qi.ofInt 1 / (Qi.ofInt 1 - gm s p p * g)).a < 0)), aI (Qi.ofInt 1 / (Qi.ofInt 1 - gm s p p * g)).a.natAbs, aD (decide ((Qi.ofInt 1 / (Qi.ofInt 1 - gm s p p * g)).b < 0)), aI (Qi.ofInt 1 / (Qi.ofInt 1 - gm s p p * g)).b.natAbs, aI (du (Qi.ofInt 1 / (Qi.ofInt 1 - gm s p p * g)))], box B22 51 [aD (decide ((t * gv z p * (Qi.ofInt 1 - g * g.conj)).a < 0)), aI (t * gv z p * (Qi.ofInt 1 - g * g.conj)).a.natAbs, aD (decide ((t * gv z p * (Qi.ofInt 1 - g * g.conj)).b < 0)), aI (t * gv z p * (Qi.ofInt 1 - g * g.conj)).b.natAbs, aI (du (t * gv z p * (Qi.ofInt 1 - g * g.conj)))], cC 29 1 vA ((yY s g p z.length i).map aR), cC 51 5 vU ((Ej s g p i).map aH)]) 0 _ _ (Nat.zero_le _)
    (zS rfl) (aU (aB rfl) (aU (aB rfl) (aU (aB rfl) (aU (aB rfl) (aU (aB rfl) (aU (aB rfl) (aU (aB rfl) (aU (bR rfl) (aU (bR rfl) aY))))))))) (fun i vA vU hi=>?_)
   refine ts (ro rfl (gZ (Ht rfl) (Ht rfl)) (eZ (cU (dX (Ht rfl) (fun hc1=>?_) (fun hc1=>?_)))))
   ·have hin : i < z.length := by simp only [decide_eq_true_eq] at hc1; omega
    have hfl:=Gg [p] i
    have hsi:=hsh.row hin
    refine cY (cU (eK (ts (rm rfl (ra rfl (eZ (cU (ts (rm rfl (rm rfl (ro rfl (dO (Ht rfl) (Ht rfl)) (eZ (dX (Ht rfl) (fun hx=>?_) (fun hx=>?_))))))))))))))
    ·have hip : i = p := by simpa using hx
     have hnx:gR [p] (i + 1) = gR [p] i:=by rw [gR,if_pos (by simp [hip]),List.append_nil]
     refine gW rfl (dQ (ro rfl (dW (Ht rfl) (cV 1) z6) (rm rfl (eZ (fY (i + 1,vA,vU) hin (by dsimp only; omega) (zS rfl) (aU (aB rfl) (aU (aB rfl) (aU (aB rfl) (aU (aB rfl) (aU (aB rfl) (aU (aB rfl) (aU (aB rfl) (aU (bR (by rw [yY,yY,hnx])) (aU (bR (by rw [Ej,Ej,hnx])) aY))))))))))))))
    ·have hip : ¬ i = p := by simpa using hx
     have hnx:gR [p] (i + 1) = gR [p] i ++ [i]:=by rw [gR,if_neg (by simp [hip])]
     haveI f4:aE (gm s i p) 2:=hs.get (by decide) i p
     refine cY (ts (rm rfl (ro rfl (dK U_30 (Ht rfl) (by rw [List.length_map,hsl])) ?_)))
     refine kC Tryz.call97 (Sa (r:=1) (n:=z.length) (by decide) zo zo) ⟨(cV 1),(Ht rfl),trivial⟩ rfl (fun B113 _=>?_)
     refine a05 9 0 (Ts:=(tab z.length fun _=>Qi.zero).map aH) rfl rfl (fun v0=>(ro rfl (gQ U_30 Z_29 (Ht rfl) (cV 0) rfl (by decide) (by rw [Nat.mul_one,Nat.zero_add])) ?_))
     refine ro rfl (jZ A_29 Z_29 (Ht rfl) (j:=9) rfl) (ra rfl (eZ (cU (cD [0,1,2,3,4,5,6,7,8,10] rfl (by decide) (W.D_start (m:=17) (fun b=>cond b ([box B4 34 [aR z,bB s,bB c],box B8 34 [Is (.slice none 0 0),Is (.slice none 0 0),Is (.slice none 0 0)],box B10 32 [aR (uT z p (z.length - 1)),bB (yI s p (z.length - 1) (iO s p g))],box B14 51 [aD (decide ((Qi.ofInt 1).a < 0)),aI (Qi.ofInt 1).a.natAbs,aD (decide ((Qi.ofInt 1).b < 0)),aI (Qi.ofInt 1).b.natAbs,aI (du (Qi.ofInt 1))],box B18 51 [aD (decide ((g / (Qi.ofInt 1 - gm s p p * g)).a < 0)),aI (g / (Qi.ofInt 1 - gm s p p * g)).a.natAbs,aD (decide ((g / (Qi.ofInt 1 - gm s p p * g)).b < 0)),aI (g / (Qi.ofInt 1 - gm s p p * g)).b.natAbs,aI (du (g / (Qi.ofInt 1 - gm s p p * g)))],box B20 51 [aD (decide ((Qi.ofInt 1 / (Qi.ofInt 1 - gm s p p * g)).a < 0)),aI (Qi.ofInt 1 / (Qi.ofInt 1 - gm s p p * g)).a.natAbs,aD (decide ((Qi.ofInt 1 / (Qi.ofInt 1 - gm s p p * g)).b < 0)),aI (Qi.ofInt 1 / (Qi.ofInt 1 - gm s p p * g)).b.natAbs,aI (du (Qi.ofInt 1 / (Qi.ofInt 1 - gm s p p * g)))],box B22 51 [aD (decide ((t * gv z p * (Qi.ofInt 1 - g * g.conj)).a < 0)),aI (t * gv z p * (Qi.ofInt 1 - g * g.conj)).a.natAbs,aD (decide ((t * gv z p * (Qi.ofInt 1 - g * g.conj)).b < 0)),aI (t * gv z p * (Qi.ofInt 1 - g * g.conj)).b.natAbs,aI (du (t * gv z p * (Qi.ofInt 1 - g * g.conj)))],cC 29 1 vA ((yY s g p z.length i).map aR),cC 51 5 vU ((Ej s g p i).map aH),cC 51 5 v0 (((tab z.length fun _=>Qi.zero).map aH).set i (aH (Qi.ofInt 1)))]) _) 16 ?_)))))
     refine W.D_step (Ei:=[(26,_)]) rfl rfl (W.Srcs.cons (W.Src.pre rfl rfl) W.Srcs.nil) rfl (by kernel_rfl) (dZ rfl (cZ (Ht rfl))) (W.D_step (Ei:=[(25,_)]) rfl rfl (W.Srcs.cons (W.Src.pre rfl rfl) W.Srcs.nil) rfl (by kernel_rfl) (dZ rfl (cZ (Ht rfl))) (W.D_pure (Ei:=[(26,_)]) rfl rfl (W.Srcs.cons (W.Src.pre rfl rfl) W.Srcs.nil) rfl (fun _=>dZ rfl (cZ (Ht rfl))) (W.D_pure (Ei:=[(13,_)]) rfl rfl (W.Srcs.cons (W.Src.pre rfl rfl) W.Srcs.nil) rfl (fun _=>dZ rfl (cZ (Ht rfl))) (W.D_step (Ei:=[(14,_)]) rfl rfl (W.Srcs.cons (W.Src.pre rfl rfl) W.Srcs.nil) rfl (by kernel_rfl) (dZ rfl (eW A_51 Z_51 (Ht rfl) (i:=3) rfl rfl rfl)) ?_))))
     refine W.D_step (Ei:=[(12,_)]) rfl rfl (W.Srcs.cons (W.Src.pre rfl rfl) W.Srcs.nil) rfl (by kernel_rfl) (dZ rfl (cZ (Ht rfl))) (W.D_step (Ei:=[(25,_)]) rfl rfl (W.Srcs.cons (W.Src.pre rfl rfl) W.Srcs.nil) rfl (by kernel_rfl) (dZ rfl (cZ (Ht rfl))) (W.D_step (Ei:=[(121,_),(122,_)]) rfl rfl (W.Srcs.cons (W.Src.op 5 rfl rfl) (W.Srcs.cons (W.Src.op 6 rfl rfl) W.Srcs.nil)) rfl (by kernel_rfl) (dZ rfl (dJ U_30 Z_29 (Ht rfl) (Ht rfl) rfl (eQ (dY (d:=[]) zo)))) (W.D_step (Ei:=[(123,_)]) rfl rfl (W.Srcs.cons (W.Src.op 7 rfl rfl) W.Srcs.nil) rfl (by kernel_rfl) (dZ rfl (dV A_29 Z_29 (Ht rfl))) ?_)))
     refine W.D_step (Ei:=[(13,_)]) rfl rfl (W.Srcs.cons (W.Src.pre rfl rfl) W.Srcs.nil) rfl (by kernel_rfl) (dZ rfl (cZ (Ht rfl))) (W.D_step (Ei:=[(124,_),(125,_)]) rfl rfl (W.Srcs.cons (W.Src.op 8 rfl rfl) (W.Srcs.cons (W.Src.op 9 rfl rfl) W.Srcs.nil)) rfl (by kernel_rfl) (dZ rfl (dJ U_29 Z_51 (Ht rfl) (Ht rfl) rfl (eQ (dY (d:=Qi.zero) zo)))) (W.D_step (Ei:=[(126,_)]) rfl rfl (W.Srcs.cons (W.Src.op 10 rfl rfl) W.Srcs.nil) rfl (by kernel_rfl) (dZ rfl (dV A_51 Z_51 (Ht rfl))) (W.D_step (Ei:=[(127,_)]) rfl rfl (W.Srcs.cons (W.Src.op 11 rfl rfl) W.Srcs.nil) rfl (by kernel_rfl) (dZ rfl (aT bL (Ht rfl))) ?_)))
     refine W.D_step (Ei:=[(18,_)]) rfl rfl (W.Srcs.cons (W.Src.pre rfl rfl) W.Srcs.nil) rfl (by kernel_rfl) (dZ rfl (eW A_51 Z_51 (Ht rfl) (i:=4) rfl rfl rfl)) (W.D_step (Ei:=[(128,_),(129,_)]) rfl rfl (W.Srcs.cons (W.Src.op 12 rfl rfl) (W.Srcs.cons (W.Src.op 13 rfl rfl) W.Srcs.nil)) rfl (by kernel_rfl) (dZ rfl (aL cL K_45 (iT (x:=gm s i p) (y:=(g / (Qi.ofInt 1 - gm s p p * g))) (L:=2) (M:=25) (by decide)) (Ht rfl) ⟨(Ht rfl),trivial⟩)) (W.D_step (Ei:=[(116,_),(117,_)]) rfl rfl (W.Srcs.cons (W.Src.op 0 rfl rfl) (W.Srcs.cons (W.Src.op 1 rfl rfl) W.Srcs.nil)) rfl (by kernel_rfl) (dZ rfl (dP U_29 Z_51 (Ht rfl) (Ht rfl) rfl (i:=9) rfl (by rw [List.length_map,aN]; omega) rfl)) ?_))
     refine W.D_put (Ei:=[(131,_),(120,_)]) rfl rfl (W.Srcs.cons (W.Src.op 15 rfl rfl) (W.Srcs.cons (W.Src.op 4 rfl rfl) W.Srcs.nil)) rfl (Hl Z_51 (Ht rfl) (Ht rfl) (El.ag rfl) (i:=9) rfl rfl (by rw [List.length_map,aN]; omega)) ?_
     refine W.D_done bE rfl (by kernel_rfl) rfl (W.F_val (W.F_val (W.F_val (W.F_val (W.F_val (W.F_val (W.F_val (W.F_val (W.F_val (W.F_val (W.F_val (W.F_val (W.F_val (W.F_val (W.F_val (W.F_val (W.F_put (W.F_nil (ro rfl (dP U_29 Z_51 (Ht rfl) (Ht rfl) rfl (i:=9) rfl (by rw [List.length_set,List.length_map,aN]; omega) rfl) ?_)))))))))))))))))))
     refine nO Z_51 (Ht rfl) (Ht rfl) (El.ag rfl) (i:=9) rfl rfl (by rw [List.length_set,List.length_map,aN]; omega) rfl ?_
     refine eZ (nZ 9 rfl (bR (e:=51) (s:=5) (by rw [fO,fO]; rfl:_ = (By s g p z.length i).map aH)) ?_)
     refine gV (i:=9) (tt:=26) rfl rfl iW (Y.D_startA (m:=16) [] 3 7 rfl rfl (cQ (Ei:=[(23,_)]) rfl rfl (bQ (bJ rfl rfl) bX) rfl rfl (dZ rfl (cZ (Ht rfl))) (cQ (Ei:=[(26,_)]) rfl rfl (bQ (bJ rfl rfl) bX) rfl rfl (dZ rfl (cZ (Ht rfl))) (cQ (Ei:=[(134,_)]) rfl rfl (bQ (bZ 1 rfl rfl) bX) rfl rfl (dZ rfl (cR (xs:=[.tmp 134]) U_30 Z_29 O_29 (cG (Ht rfl) cK) rfl rfl rfl)) (Y.D_app (Ei:=[(133,_),(135,_)]) rfl rfl rfl rfl (bQ (bZ 0 rfl rfl) (bQ (bZ 2 rfl rfl) bX)) rfl (qF (inf:=Tryz.t29) Nt lH rfl rfl rfl (Ht rfl) (Ht rfl) (by simp) (fun T hT=>by simp at hT; subst hT; exact El.one) (by show _ * 24 ≤ _; simp only [List.length_map,List.length_append,List.length_cons,List.length_nil,yY,Ej]; omega) (by simp only [List.length_map,List.length_append,List.length_cons,List.length_nil,yY,Ej]; omega)) ?_)))))
     refine cQ (Ei:=[(24,_)]) rfl rfl (bQ (bJ rfl rfl) bX) rfl rfl (dZ rfl (cZ (Ht rfl))) (cQ (Ei:=[(12,_)]) rfl rfl (bQ (bJ rfl rfl) bX) rfl rfl (dZ rfl (cZ (Ht rfl))) (cQ (Ei:=[(25,_)]) rfl rfl (bQ (bJ rfl rfl) bX) rfl rfl (dZ rfl (cZ (Ht rfl))) (cQ (Ei:=[(138,_),(139,_)]) rfl rfl (bQ (bZ 5 rfl rfl) (bQ (bZ 6 rfl rfl) bX)) rfl rfl (dZ rfl (dJ U_30 Z_29 (Ht rfl) (Ht rfl) rfl (eQ (dY (d:=[]) zo)))) ?_)))
     refine cQ (Ei:=[(140,_)]) rfl rfl (bQ (bZ 7 rfl rfl) bX) rfl rfl (dZ rfl (dV A_29 Z_29 (Ht rfl))) (cQ (Ei:=[(13,_)]) rfl rfl (bQ (bJ rfl rfl) bX) rfl rfl (dZ rfl (cZ (Ht rfl))) (cQ (Ei:=[(141,_),(142,_)]) rfl rfl (bQ (bZ 8 rfl rfl) (bQ (bZ 9 rfl rfl) bX)) rfl rfl (dZ rfl (dJ U_29 Z_51 (Ht rfl) (Ht rfl) rfl (eQ (dY (d:=Qi.zero) zo)))) (cQ (Ei:=[(143,_)]) rfl rfl (bQ (bZ 10 rfl rfl) bX) rfl rfl (dZ rfl (dV A_51 Z_51 (Ht rfl))) ?_)))
     refine cQ (Ei:=[(144,_)]) rfl rfl (bQ (bZ 11 rfl rfl) bX) rfl rfl (dZ rfl (aT bL (Ht rfl))) (cQ (Ei:=[(20,_)]) rfl rfl (bQ (bJ rfl rfl) bX) rfl rfl (dZ rfl (eW A_51 Z_51 (Ht rfl) (i:=5) rfl rfl rfl)) (cQ (Ei:=[(145,_),(146,_)]) rfl rfl (bQ (bZ 12 rfl rfl) (bQ (bZ 13 rfl rfl) bX)) rfl rfl (dZ rfl (aL cL K_45 (iT (x:=gm s i p) (y:=(Qi.ofInt 1 / (Qi.ofInt 1 - gm s p p * g))) (L:=2) (M:=24) (by decide)) (Ht rfl) ⟨(Ht rfl),trivial⟩)) ?_))
     refine cQ (Ei:=[(147,_)]) rfl rfl (bQ (bZ 14 rfl rfl) bX) rfl rfl (dZ rfl (cR (xs:=[.tmp 147]) U_29 Z_51 O_51 (cG (Ht rfl) cK) rfl rfl rfl)) (Y.D_done bE rfl (by kernel_rfl) rfl (by simp [Y.okP]) rfl rfl (bU (bU (bU (Y.F_app (fun vA2=>bU (bU (bU (bU (bU (bU (bU (bU (bU (bU (bU (bU (Y.F_nil ?_))))))))))))))))))
     refine qH (inf:=Tryz.t51) lR jO rfl rfl rfl (Ht rfl) (Ht rfl) (i:=8) rfl (by simp) (fun T hT=>by simp at hT; subst hT; exact El.ag rfl) (by show _ * 88 ≤ _; simp only [List.length_map,List.length_append,List.length_cons,List.length_nil,yY,Ej]; omega) (by simp only [List.length_map,List.length_append,List.length_cons,List.length_nil,yY,Ej]; omega) rfl (fun vU2=>?_)
     refine ra rfl (ra rfl (eZ (bO (dQ (ro rfl (dW (Ht rfl) (cV 1) z6) (rm rfl (eZ (cD [0,1,2,3,4,5,6,10,8] rfl (by decide) (fY (i + 1,vA2,vU2) hin (by dsimp only; omega) (zS rfl) (aU (aB rfl) (aU (aB rfl) (aU (aB rfl) (aU (aB rfl) (aU (aB rfl) (aU (aB rfl) (aU (aB rfl) (aU (bR (by rw [yY,yY,hnx,List.map_append,List.map_append]; rfl)) (aU (bR (by rw [Ej,Ej,hnx,List.map_append,List.map_append]; rfl)) aY))))))))))))))))))
   ·have hin : i = z.length := by simp only [decide_eq_false_iff_not] at hc1; omega
    rw [hin]
    refine gW rfl (gV (i:=7) (tt:=23) rfl rfl iW (gV (i:=8) (tt:=24) rfl rfl iW ?_))
    have hA:=Qe s g hpn
    have hAl:=hA.1
    have hAf:=a1n (p:=p) (n:=z.length) (k:=z.length) hs hg
    have hUf:=a1p (p:=p) (k:=z.length) hs hg
    have hUl:(Ej s g p z.length).length = z.length - 1:=by rw [Ej,List.length_map,wO hpn]
    have hXf:=wA (hAf.le hG) hc zo (by rw [hch.1]; exact hl)
    have hX:cM (jD (yY s g p z.length z.length) c) (z.length - 1) (z.length - 1):=by have h:=oY (p:=yY s g p z.length z.length) (c:=c); rw [hAl] at h; exact h
    obtain ⟨m,hm⟩:∃ m,m = z.length - 1:=⟨_,rfl⟩
    rw [← hm] at hA hAl hUl hX
    obtain ⟨X,hXd⟩:∃ X,X = jD (yY s g p z.length z.length) c:=⟨_,rfl⟩
    obtain ⟨U,hUd⟩:∃ U,U = Ej s g p z.length:=⟨_,rfl⟩
    have hcar : gO Tryz.prog 99 [bB (yY s g p z.length z.length), bB c] [] Nat (fun B => Is (.slice (some ⟨B, 0, none⟩) m m)) (fun B => [nR B 29 51 5 (cE aH X)]) (fun _ => True) := by
     rw [hXd]
     exact Mb (p:=yY s g p z.length z.length) (c:=c) (n:=m) (m:=z.length) (L:=G) hA hch (hAf.le hG) hc zo zo zo zo zo hl
    rw [← hXd] at hXf hX
    rw [← hUd] at hUf hUl
    rw [← hUd]
    haveI fr:aE (t * gv z p * (Qi.ofInt 1 - g * g.conj)) 13:=a1o (p:=p) hz hg ht
    refine ts (rm rfl (ro rfl (eJ lG (Ht rfl) rfl) (ro rfl (fQ A_30 Z_30 (Ht rfl) (i:=0) rfl rfl) (kC Tryz.call99 hcar ⟨(Ht rfl),(Ht rfl),trivial⟩ rfl (fun B154 _=>(ra rfl (eZ (cU (ts (rm rfl (ro rfl (gA U_30 (Ht rfl)) (ro rfl (cZ (cV 0)) (eZ (eK (cD [1,2,6,9] rfl (by decide) ?_)))))))))))))))
    refine cF (fun (i : Nat) => i ≤ m) (fun (i : Nat) => m - i) (fun (i : Nat) => [(8, bT B8 0), (10, bT B10 0), (22, bT B22 0), (24, aR U), (27, Is (.slice (some ⟨B154, 0, none⟩) m m)), (155, Is (.slice (some ⟨B154, 0, none⟩) m m)), (156, NT .i64 m), (157, NT .i64 i)]) (fun (i : Nat) => [box B8 34 [Is (.slice none 0 0), Is (.slice none 0 0), Is (.slice none 0 0)], box B10 32 [aR (uT z p (z.length - 1)), bB (yI s p (z.length - 1) (iO s p g))], box B22 51 [aD (decide ((t * gv z p * (Qi.ofInt 1 - g * g.conj)).a < 0)), aI (t * gv z p * (Qi.ofInt 1 - g * g.conj)).a.natAbs, aD (decide ((t * gv z p * (Qi.ofInt 1 - g * g.conj)).b < 0)), aI (t * gv z p * (Qi.ofInt 1 - g * g.conj)).b.natAbs, aI (du (t * gv z p * (Qi.ofInt 1 - g * g.conj)))], nR B154 29 51 5 (cE aH (nT (fun i => tab m fun k => (gm X i k + (t * gv z p * (Qi.ofInt 1 - g * g.conj)) * (gv U i * (gv U k).conj))) (fun i => tab m fun k => gm X i k) m i))]) 0 (Nat.zero_le _)
     (zS rfl) (aU (aB rfl) (aU (aB rfl) (aU (aB rfl) (aU (cB (by rw [← jU]; exact congrArg _ (pV hX))) aY)))) (fun i hi=>?_)
    refine ts (ro rfl (gZ (Ht rfl) (Ht rfl)) (eZ (cU (dX (Ht rfl) (fun he2=>?_) (fun he2=>?_)))))
    ·simp only [decide_eq_true_eq] at he2
     refine nG 3 (i) rfl (qR he2) (fun v=>(cY (cU (eK (ts (rm rfl (ro rfl (gQ U_30 Z_29 (Ht rfl) (Ht rfl) rfl zo (by rw [Nat.mul_one,Nat.zero_add])) ?_)))))))
     refine ro rfl (jZ A_29 Z_29 (Ht rfl) (j:=3) rfl) (ra rfl (ra rfl (eZ (ts (rm rfl (ro rfl (rO U_29 (Ht rfl) (i:=4) rfl (show (((tab m fun k=>gm X i k).map aH).length:Int) = ((m:Nat):Int) by rw [List.length_map,aN])) (ro rfl (cZ (cV 0)) (eZ (eK ?_)))))))))
     refine cF (fun (j : Nat) => j ≤ m) (fun (j : Nat) => m - j) (fun (j : Nat) => [(8, bT B8 0), (10, bT B10 0), (22, bT B22 0), (24, aR U), (27, Is (.slice (some ⟨B154, 0, none⟩) m m)), (28, NT .i64 i), (29, Is v), (155, Is (.slice (some ⟨B154, 0, none⟩) m m)), (156, NT .i64 m), (157, NT .i64 i), (163, NT .i64 m), (164, NT .i64 j)]) (fun (j : Nat) => [box B8 34 [Is (.slice none 0 0), Is (.slice none 0 0), Is (.slice none 0 0)], box B10 32 [aR (uT z p (z.length - 1)), bB (yI s p (z.length - 1) (iO s p g))], box B22 51 [aD (decide ((t * gv z p * (Qi.ofInt 1 - g * g.conj)).a < 0)), aI (t * gv z p * (Qi.ofInt 1 - g * g.conj)).a.natAbs, aD (decide ((t * gv z p * (Qi.ofInt 1 - g * g.conj)).b < 0)), aI (t * gv z p * (Qi.ofInt 1 - g * g.conj)).b.natAbs, aI (du (t * gv z p * (Qi.ofInt 1 - g * g.conj)))], Di B154 29 51 5 (cE aH (nT (fun i => tab m fun k => (gm X i k + (t * gv z p * (Qi.ofInt 1 - g * g.conj)) * (gv U i * (gv U k).conj))) (fun i => tab m fun k => gm X i k) m i)) i v, cC 51 5 v ((nT (fun k => (gm X i k + (t * gv z p * (Qi.ofInt 1 - g * g.conj)) * (gv U i * (gv U k).conj))) (fun k => gm X i k) m j).map aH)]) 0 (Nat.zero_le _)
      (zS rfl) (aU (aB rfl) (aU (aB rfl) (aU (aB rfl) (aU (fun _ _ _ h=>h) (aU (bR (by rw [← jU])) aY))))) (fun j hj=>?_)
     refine ts (ro rfl (gZ (Ht rfl) (Ht rfl)) (eZ (cU (dX (Ht rfl) (fun hf=>?_) (fun hf=>?_)))))
     ·simp only [decide_eq_true_eq] at hf
      have hrl:=jG (fun k=>(gm X i k + (t * gv z p * (Qi.ofInt 1 - g * g.conj)) * (gv U i * (gv U k).conj))) (fun k=>gm X i k) m j
      haveI q1:aE (gm X i j) (200 * G + 300):=hXf.get zo i j
      haveI q2:aE (gv U i) 27:=hUf.get (by decide) i
      haveI q3:aE (gv U j) 27:=hUf.get (by decide) j
      refine cY (cU (eK (ts (rm rfl (ra rfl (eZ (fJ (m:=23) (dp 29 rfl (cZ (Ht rfl)) (dp 30 rfl (cZ (Ht rfl)) (dp 29 rfl (cZ (Ht rfl)) (dp 30 rfl (cZ (Ht rfl)) (dR 169 2 170 3 rfl (dP U_29 Z_51 (Ht rfl) (Ht rfl) rfl (i:=4) rfl (by simp only [List.length_map,hrl]; omega) rfl) ?_))))))))))))
      refine dq 171 4 rfl (tG A_51 Z_51 (Ht rfl) (i:=4) rfl rfl (eQ (qV hf))) (dq 172 5 rfl (aT bL (Ht rfl)) (dp 22 rfl (eW A_51 Z_51 (Ht rfl) (i:=2) rfl rfl rfl) (dq 174 7 rfl (aT bL (Ht rfl)) (dp 24 rfl (cZ (Ht rfl)) (dp 28 rfl (cZ (Ht rfl)) (dR 176 9 177 10 rfl (dJ U_29 Z_51 (Ht rfl) (Ht rfl) rfl (eQ (dY (d:=Qi.zero) zo))) (dq 178 11 rfl (dV A_51 Z_51 (Ht rfl)) (dq 179 12 rfl (aT bL (Ht rfl)) (dp 24 rfl (cZ (Ht rfl)) ?_)))))))))
      refine dp 30 rfl (cZ (Ht rfl)) (dR 181 14 182 15 rfl (dJ U_29 Z_51 (Ht rfl) (Ht rfl) rfl (eQ (dY (d:=Qi.zero) zo))) (dq 183 16 rfl (dV A_51 Z_51 (Ht rfl)) (dq 184 17 rfl (aT bL (Ht rfl)) (dq 185 18 rfl (aL mG K_175 xJ (Ht rfl) trivial) (dR 180 13 186 19 rfl (aL cL K_45 (iT (x:=gv U i) (y:=(gv U j).conj) (L:=27) (M:=27) (by decide)) (Ht rfl) ⟨(Ht rfl),trivial⟩) (dR 175 8 187 20 rfl (aL cL K_45 (iT (x:=(t * gv z p * (Qi.ofInt 1 - g * g.conj))) (y:=gv U i * (gv U j).conj) (L:=13) (M:=55) (by decide)) (Ht rfl) ⟨(Ht rfl),trivial⟩) ?_))))))
      refine dR 173 6 188 21 rfl (aL nS K_46 (yL (x:=gm X i j) (y:=(t * gv z p * (Qi.ofInt 1 - g * g.conj)) * (gv U i * (gv U j).conj)) (L:=200 * G + 300) (M:=69) zo) (Ht rfl) ⟨(Ht rfl),trivial⟩) (fW bE rfl (by kernel_rfl) (zF (zF (zF (zF (zF (aJ (aJ (aJ (aV (ro rfl (dP U_29 Z_51 (Ht rfl) (Ht rfl) rfl (i:=4) rfl (by simp only [List.length_map,hrl]; omega) rfl) ?_)))))))))))
      refine nO Z_51 (Ht rfl) (Ht rfl) (El.ag rfl) (i:=4) rfl rfl (by simp only [List.length_map,hrl]; omega) rfl ?_
      refine eZ (bO (dQ (ro rfl (dW (Ht rfl) (cV 1) z6) (rm rfl (eZ (cD [0,1,2,3,4] rfl (by decide) (fY (j + 1) hf zo (zS rfl) (aU (aB rfl) (aU (aB rfl) (aU (aB rfl) (aU (fun _ _ _ h=>h) (aU (bR (by rw [fO,← kL (f:=fun k=>(gm X i k + (t * gv z p * (Qi.ofInt 1 - g * g.conj)) * (gv U i * (gv U k).conj)))])) aY))))))))))))
     ·simp only [decide_eq_false_iff_not] at hf
      obtain rfl:j = m:=Nat.le_antisymm hj zo
      refine gW rfl (bO (fP 3 4 rfl rfl (by decide) (by simp only [cE,List.length_map,jG]; omega) ?_))
      refine dQ (ro rfl (dW (Ht rfl) (cV 1) z6) (rm rfl (eZ (cD [0,1,2,3] rfl (by decide) (fY (i + 1) he2 zo (zS rfl) (aU (aB rfl) (aU (aB rfl) (aU (aB rfl) (aU (cB (by rw [gH,lC,← kL (f:=(fun i=>tab j fun k=>(gm X i k + (t * gv z p * (Qi.ofInt 1 - g * g.conj)) * (gv U i * (gv U k).conj))))])) aY)))))))))
    ·simp only [decide_eq_false_iff_not] at he2
     have him:i = m:=Nat.le_antisymm hi zo
     rw [him,lC]
     refine gW rfl (cU (gV (i:=3) (tt:=27) rfl rfl (iB (s:=5) (M:=tab m (fun i=>tab m fun k=>(gm X i k + (t * gv z p * (Qi.ofInt 1 - g * g.conj)) * (gv U i * (gv U k).conj)))) (aN _ _).symm) ?_))
     have hQ:tab m (fun i=>tab m fun k=>(gm X i k + (t * gv z p * (Qi.ofInt 1 - g * g.conj)) * (gv U i * (gv U k).conj))) = ntC z s c g t p:=by rw [hUd,hXd,hm]; rfl
     rw [hQ]
     refine dQ (ro rfl (eW A_32 Z_32 (Ht rfl) (i:=1) rfl rfl rfl) (rm rfl (ro rfl (mS (Ht rfl) (Ht rfl)) (gX Z_34 (Ht rfl) (Ht rfl) rfl (i:=0) rfl (aK rfl) rfl rfl (ro rfl (cX (cV 0)) (eZ (bN rfl (fZ (fU A_34 Z_34 rfl (i:=0) rfl rfl) ?_) (fZ (eY rfl) ?_))))))))
     ·exact (fun v V h=>by rw [ntZ,ntS,ntQ,dA,dA,dA,if_pos he,if_pos he,if_pos he,hpz]; exact h)
     ·exact (aS he.symm)
end
section
open Go Go.RowKit
theorem Mf {Y M:List (List Qi)} {n G X K:Nat} (hY:cM Y n n) (hM:cM M n n) (hfY:bC Y K) (hK:1 ≤ K) (hKb:K ≤ 900000000000) (hz:∀ i,i < n → SzS M (ek n i) n G X) (hX:X ≤ 900000000000) (hn:n ≤ 8):bH Tryz.prog 186 [bB Y,bB M] (fI [bB (ovX Y M n),aO .i64 (ovE M n)]):=by
 refine bH.intro Tryz.func186 rfl Tryz.ntmps186 rfl (fun cx=>(ts (ro rfl (cX cW) (ro rfl (cX (cV 0)) (eZ (ts (rm rfl (ro rfl (cJ Tryz.call248 (a34 hM hz zo) ⟨(Ht rfl),trivial⟩) (rm rfl (ro rfl (dU (Ht rfl) rfl) (ro rfl (dU (Ht rfl) rfl) (ra rfl (ra rfl (eZ (cU (ts (rm rfl (ro rfl (kA (Ht rfl) cW) (eZ (dX (Ht rfl) (fun he=>?_) (fun he=>?_)))))))))))))))))))))
 ·have he2 : ¬ sO M n = 0 := by simpa using he
  have ho:ovE M n = 5:=if_neg he2
  refine ts (ro rfl (cX cW) (ro rfl (cX (cV 5)) (eZ (bN rfl (fZ (eY rfl) ?_) (fZ (eY rfl) ?_)))))
  ·exact (fun v V h=>by rw [ovX,ho]; exact iM v V h)
  ·exact (aS ho.symm)
 ·have he2 : sO M n = 0 := by simpa using he
  have ho:ovE M n = 0:=if_pos he2
  have hif:bC (qU M n) (max X 1):=(Ef hz he2).le (Nat.le_max_left X 1)
  have h1:1 ≤ n ∨ n = 0:=by omega
  refine qJ (E':=[(0,_),(1,_),(4,_),(5,_),(6,_),(7,_),(8,_),(9,_),(10,_),(11,_),(12,_),(13,_),(14,_)]) (aQ rfl (aQ rfl (aQ rfl (aQ rfl (aZ rfl (kY (Us:=(qU M n).map aR) (by rw [he2]; rfl)) (zS rfl)))))) ?_
  refine cY (ts (rm rfl (rm rfl (ro rfl (cJ Tryz.call195 (a0j (n:=n) (k:=n) (m:=n) hY (Bl M n) hfY hif hK zo hKb zo h1 h1 hn hn hn) ⟨(Ht rfl),(Ht rfl),trivial⟩) (ro rfl (dU (Ht rfl) rfl) (ro rfl (dU (Ht rfl) rfl) (ra rfl (ra rfl (eZ (bN rfl (fZ (eY rfl) ?_) (fZ (eY rfl) ?_)))))))))))
  ·exact (kY (by rw [ovX,ho]; rfl))
  ·exact (aS ho.symm)
theorem a1P {P:Program} {f:FuncId} {A1 A2 B1 B2 C1 C2:Ty} {R1 R2:Ty} {x:Bool} (h1:bH P f [A1,A2,C1,C2] R1) (h2:bH P f [B1,B2,C1,C2] R2):bH P f ((cond x [A1,A2] [B1,B2]) ++ [C1,C2]) (cond x R1 R2):=by cases x; exact h2; exact h1
theorem a3k {st fa z:List Qi} {s:List (List Qi)} {n i j K L:Nat} (hst:st.length = n) (hfa:fa.length = n) (hs:cM s n n) (h1:bP st K) (h2:bP fa K) (h3:bC s L) (hK:1 ≤ K) (hL:1 ≤ L) (hb:2 * K + L + 2 ≤ 900000000000) (hi:i < n) (hj:j < n):bH Tryz.prog 185 [NT .i64 i,NT .i64 j,PT (aR st),PT (aR fa),PT (gT z s)] (aH (mxE st fa s i j)):=by
 have hsl:=hs.1
 have hsr:=hs.row hi
 haveI f1:aE (gv fa i) K:=h2.get hK i
 haveI f2:aE (gm s i j) L:=h3.get hL i j
 refine bH.intro Tryz.func185 rfl Tryz.ntmps185 rfl (fun cx=>(ts (rn rfl (eG (Ts:=[Is (.bool false),Is (.slice none 0 0),Is (.bool false),Is (.slice none 0 0),Is (.slice none 0 0)]) O_51 rfl (fun V=>aW zd (aW zd (aW zd (aW zd (aW zd (aG))))))) fun B7=>(eZ (ts (ro rfl (cJ Tryz.call109 (Oy (n:=0) (by decide) (by decide)) ⟨(cV 0),trivial⟩) (rn rfl (eG (Ts:=[Is (.bool false),Is (.slice none 0 0),Is (.bool false),Is (.slice none 0 0),Is (.slice none 0 0)]) O_51 rfl (fun V=>aW zd (aW zd (aW zd (aW zd (aW zd (aG))))))) fun B8=>?_)))))))
 refine gX Z_51 (Ht rfl) (Ht rfl) rfl (i:=1) rfl (aK rfl) rfl rfl (eZ (cU (jW (fun (x:Qi)=>x = (if i = j then gv st i else Qi.ofInt 0)) (fun (x:Qi)=>[(0,NT .i64 i),(1,NT .i64 j),(3,PT (aR fa)),(4,PT (gT z s)),(7,bT B7 0),(8,bT B8 0)]) (fun (x:Qi)=>[box B7 51 [Is (.bool false),Is (.slice none 0 0),Is (.bool false),Is (.slice none 0 0),Is (.slice none 0 0)],box B8 51 [aD (decide (x.a < 0)),aI x.a.natAbs,aD (decide (x.b < 0)),aI x.b.natAbs,aI (du x)]]) ?_ (fun x hx=>?_))))
 ·refine ts (rm rfl (rm rfl (ro rfl (dO (Ht rfl) (Ht rfl)) (eZ (dX (Ht rfl) (fun hb => ?_) (fun hb => ?_))))))
  ·have hij : i = j := by simpa using hb
   refine dQ (ro rfl (dV A_29 Z_29 (Ht rfl)) (rm rfl (ro rfl (dJ U_29 Z_51 (Ht rfl) (Ht rfl) rfl (eQ (dY (d:=Qi.zero) zo))) (ro rfl (dV A_51 Z_51 (Ht rfl)) (gX Z_51 (Ht rfl) (Ht rfl) rfl (i:=1) rfl (aK rfl) rfl rfl (eZ (bD (gv st i) (by rw [if_pos hij]) (zS rfl) (dM.refl _))))))))
  ·have hij : ¬ i = j := by simpa using hb
   refine cY (bD (Qi.ofInt 0) (by rw [if_neg hij]) (zS rfl) (dM.refl _))
 ·haveI f3 : aE x K := by
   rw [hx]; split
   ·exact h1.get hK i
   ·exact aE.zero hK
  refine cU (fJ (m:=16) (dp 8 rfl (eW A_51 Z_51 (Ht rfl) (i:=1) rfl rfl rfl) (dq 17 0 rfl (aT bL (Ht rfl)) (dp 3 rfl (dV A_29 Z_29 (Ht rfl)) (dp 0 rfl (cZ (Ht rfl)) (dR 19 2 20 3 rfl (dJ U_29 Z_51 (Ht rfl) (Ht rfl) rfl (eQ (dY (d:=Qi.zero) zo))) (dq 21 4 rfl (dV A_51 Z_51 (Ht rfl)) (dq 22 5 rfl (aT bL (Ht rfl)) (dp 4 rfl (oO kP (Ht rfl) rfl) (dq 24 7 rfl (dV A_30 Z_30 (Ht rfl)) (dp 0 rfl (cZ (Ht rfl)) ?_)))))))))))
  refine dR 25 8 26 9 rfl (dJ U_30 Z_29 (Ht rfl) (Ht rfl) rfl (eQ (dY (d:=[]) zo))) (dq 27 10 rfl (dV A_29 Z_29 (Ht rfl)) (dp 1 rfl (cZ (Ht rfl)) (dR 28 11 29 12 rfl (dJ U_29 Z_51 (Ht rfl) (Ht rfl) rfl (eQ (dY (d:=Qi.zero) zo))) (dq 30 13 rfl (dV A_51 Z_51 (Ht rfl)) (dR 23 6 31 14 rfl (aL cL K_45 (iT (x:=gv fa i) (y:=gm s i j) (L:=K) (M:=L) zo) (Ht rfl) ⟨(Ht rfl),trivial⟩) (fW bE rfl (by kernel_rfl) (zF (zF (zF (zF (aV ?_)))))))))))
  refine ro rfl (aL nS K_46 (yL (x:=x) (y:=gv fa i * gm s i j) (L:=K) (M:=K + L + 1) zo) (Ht rfl) ⟨(Ht rfl),trivial⟩) (gX Z_51 (Ht rfl) (Ht rfl) rfl (i:=0) rfl (aK rfl) rfl rfl (eZ (fG rfl (fZ (fU A_51 Z_51 rfl (i:=0) rfl rfl) ?_))))
  exact (lP (by rw [hx]; rfl))
theorem a2p {st fa z w:List Qi} {s:List (List Qi)} {n K L:Nat} (hw:w.length = n) (hn:n ≤ 1000) (hst:st.length = n) (hfa:fa.length = n) (hs:cM s n n) (h1:bP st K) (h2:bP fa K) (h3:bC s L) (hK:1 ≤ K) (hL:1 ≤ L) (hb:2 * K + L + 2 ≤ 900000000000):bH Tryz.prog 184 [aR st,aR fa,PT (aR w),PT (gT z s)] (bB (mxM st fa s n)):=by
 refine bH.intro Tryz.func184 rfl Tryz.ntmps184 rfl (fun cx=>(ts (rn rfl (qW (Ht rfl)) fun B4=>(rn rfl (qW (Ht rfl)) fun B5=>(ro rfl (cX cW) (eZ (cU (gV (i:=0) (tt:=4) rfl rfl mF (gV (i:=1) (tt:=5) rfl rfl mF (dQ (ro rfl (dV A_29 Z_29 (Ht rfl)) (ro rfl (dK U_29 (Ht rfl) (by rw [List.length_map,hw])) ?_))))))))))))
 refine ro rfl (oN (γ:=Fin n × Fin n) (Ts:=fun x=>[NT .i64 x.1.1,NT .i64 x.2.1]) (U:=fun x=>aH (mxE st fa s x.1.1 x.2.1)) Tryz.call185 (fun x=>a3k hst hfa hs h1 h2 h3 hK hL hb x.1.2 x.2.2) ⟨(Ht rfl),(Ht rfl),(Ht rfl),trivial⟩) (ro rfl (cJ Tryz.call114 (Md (n:=n) (f:=fun i j=>mxE st fa s i j) hn) ⟨(Ht rfl),(Ht rfl),trivial⟩) (ra rfl (eZ ?_)))
 exact fG rfl (eY rfl)
theorem Rp {z w:List Qi} {s:List (List Qi)} {L M K G X:Nat} (hs:cM s z.length z.length) (hz:bP z L) (hw:bP w M) (hf:bC s K) (hL:1 ≤ L) (hM:1 ≤ M) (hK:1 ≤ K) (hLb:L ≤ 1000000000) (hMb:M ≤ 1000000000) (hKb:K ≤ 100000000000) (hp:z.all fB = true) (h8:z.length ≤ 8) (hwl:w.length ≤ 1000) (hsz:w.length = z.length → ∀ i,i < w.length → SzS (yR z w s) (ek w.length i) w.length G X) (hX:X ≤ 900000000000):bH Tryz.prog 84 [gT z s,aR w] (fI [gT (Zf z w s) (nX z w s),aO .i64 (Aa z w s)]):=by
 refine bH.intro Tryz.func84 rfl Tryz.ntmps84 rfl (fun cx=>(ts (rn rfl (fK (Ht rfl)) fun B2=>(rn rfl (qW (Ht rfl)) fun B3=>(rn rfl (eG (Ts:=[Is (.slice none 0 0),Is (.slice none 0 0)]) O_32 rfl (fun V=>aW zd (aW zd (aG)))) fun B4=>(ro rfl (cX (cV 0)) (eZ (cU (ts (ro rfl (fQ A_29 Z_29 (Ht rfl) (i:=1) rfl rfl) (ro rfl (dK U_29 (Ht rfl) aA) (ro rfl (eJ kF (Ht rfl) rfl) (ro rfl (fQ A_29 Z_29 (Ht rfl) (i:=0) rfl rfl) ?_)))))))))))))
 refine ro rfl (dK U_29 (Ht rfl) aA) (ro rfl (gB (Ht rfl) (Ht rfl)) (eZ (dX (Ht rfl) (fun hb=>?_) (fun hb=>?_))))
 ·have hn : w.length ≠ z.length := by simpa using hb
  have he:=Qx (s:=s) hn
  refine ts (ro rfl (aM.imp (mC ) mI) (gX Z_32 (Ht rfl) (Ht rfl) rfl (i:=2) rfl (aK rfl) rfl rfl (ro rfl (cX (cV 4)) (eZ (bN rfl (fZ (fU A_32 Z_32 rfl (i:=2) rfl rfl) ?_) (fZ (eY rfl) ?_))))))
  ·exact (fun v V h=>by rw [Zf,nX,dA,dA,he]; exact h)
  ·exact (aS he.symm)
 ·have hl : w.length = z.length := by simpa using hb
  have hsz:=hsz hl
  refine cY (cU (ts (ro rfl (fQ A_29 Z_29 (Ht rfl) (i:=1) rfl rfl) (ro rfl (cJ Tryz.call183 (yM (L:=M) hw zo zo) ⟨(Ht rfl),trivial⟩) (ra rfl (eZ (ts (rm rfl (ro rfl (kA (Ht rfl) cW) (eZ (dX (Ht rfl) (fun hb2=>?_) (fun hb2=>?_))))))))))))
  ·have hq : w.all fB ≠ true := fun e => by rw [e] at hb2; simp at hb2
   have he:=a4d (s:=s) hl hq
   refine ts (ro rfl (aM.imp (mC ) mI) (rm rfl (gX Z_32 (Ht rfl) (Ht rfl) rfl (i:=2) rfl (aK rfl) rfl rfl (ra rfl (eZ (bN rfl (fZ (fU A_32 Z_32 rfl (i:=2) rfl rfl) ?_) (fZ (eY rfl) ?_)))))))
   ·exact (fun v V h=>by rw [Zf,nX,dA,dA,he]; exact h)
   ·exact (aS (by rw [if_neg hq,he]))
  ·have hq : w.all fB = true := by
    apply Decidable.byContradiction; intro e
    rw [if_neg e] at hb2; simp at hb2
   have hov:=a2D (s:=s) hl hq
   have hovX:=a4e (s:=s) hl hq
   haveI f0:=kG
   have hPf:=Gx hz hw hL hM hp hl
   have hMf:=Gw hz hw hL hM hp hl
   have hPl:(rnP z w).length = w.length:=aN _ _
   have hMl:(rnM z w).length = w.length:=aN _ _
   refine cY (ts (rn rfl (eG (Ts:=[Is (.bool false),Is (.slice none 0 0),Is (.bool false),Is (.slice none 0 0),Is (.slice none 0 0)]) O_51 rfl (fun V=>aW zd (aW zd (aW zd (aW zd (aW zd (aG))))))) fun B7=>(eZ (ts (ro rfl (cJ K_77 (oI (n:=1) (by decide) (by decide)) ⟨(cV 1),trivial⟩) (rn rfl (eG (Ts:=[Is (.bool false),Is (.slice none 0 0),Is (.bool false),Is (.slice none 0 0),Is (.slice none 0 0)]) O_51 rfl (fun V=>aW zd (aW zd (aW zd (aW zd (aW zd (aG))))))) fun B8=>?_))))))
   refine gX Z_51 (Ht rfl) (Ht rfl) rfl (i:=4) rfl (aK rfl) rfl rfl (eZ (cU (fJ (m:=7) (dp 3 rfl (fQ A_29 Z_29 (Ht rfl) (i:=1) rfl rfl) (dq 31 0 rfl (dK U_29 (Ht rfl) aA) (C.D_new (Ei:=[(32,_)]) rfl rfl rfl (bV (bG 1 rfl rfl) bW) (lV (T:=aH Qi.zero) (i:=Tryz.t51) lR jO rfl rfl (Ht rfl) rfl jQ (El.ag rfl) (by show 88 * _ ≤ _; omega) zo) (dp 3 rfl (fQ A_29 Z_29 (Ht rfl) (i:=1) rfl rfl) (dq 34 3 rfl (dK U_29 (Ht rfl) aA) ?_))))))))
   refine C.D_new (Ei:=[(35,_)]) rfl rfl rfl (bV (bG 4 rfl rfl) bW) (lV (T:=aH Qi.zero) (i:=Tryz.t51) lR jO rfl rfl (Ht rfl) rfl jQ (El.ag rfl) (by show 88 * _ ≤ _; omega) zo) (C.D_cpy 2 rfl rfl rfl rfl rfl C.cpy_assign (fW bE rfl (by kernel_rfl) (aJ (aJ (C.F_new (fun B33=>aJ (aJ (C.F_new (fun B36=>C.F_cpy rfl (aV (ra rfl (eZ (cU (ts (ro rfl (fQ A_29 Z_29 (Ht rfl) (i:=1) rfl rfl) (ro rfl (dK U_29 (Ht rfl) aA) (ro rfl (cZ (cV 0)) ?_)))))))))))))))))
   refine eZ (eK ?_)
   refine cF (fun (i : Nat) => i ≤ w.length) (fun (i : Nat) => w.length - i) (fun (i : Nat) => [(2, bT B2 0), (3, bT B3 0), (4, bT B4 0), (7, bT B7 0), (8, bT B8 0), (9, Is B33), (10, Is B36), (38, NT .i64 w.length), (39, NT .i64 i)]) (fun (i : Nat) => [box B2 32 [aR z, bB s], box B3 29 [aR w], box B4 32 [Is (.slice none 0 0), Is (.slice none 0 0)], box B7 51 [Is (.bool false), Is (.slice none 0 0), Is (.bool false), Is (.slice none 0 0), Is (.slice none 0 0)], box B8 51 [aD (decide ((Qi.ofInt 1).a < 0)), aI (Qi.ofInt 1).a.natAbs, aD (decide ((Qi.ofInt 1).b < 0)), aI (Qi.ofInt 1).b.natAbs, aI (du (Qi.ofInt 1))], cC 51 5 B33 ((mA (fun i => Qi.ofInt 1 + jV z w i) Qi.zero w.length i).map aH), cC 51 5 B36 ((mA (fun i => Qi.ofInt 1 - jV z w i) Qi.zero w.length i).map aH)]) 0 (Nat.zero_le _)
    (zS rfl) (aU (aB rfl) (aU (aB rfl) (aU (aB rfl) (aU (aB rfl) (aU (aB rfl) (aU (bR (by rw [← jS]; exact Ag aH _)) (aU (bR (by rw [← jS]; exact Ag aH _)) aY))))))) (fun i hi=>?_)
   refine ts (ro rfl (gZ (Ht rfl) (Ht rfl)) (eZ (cU (dX (Ht rfl) (fun hc=>?_) (fun hc=>?_)))))
   ·have hin : i < w.length := by simp only [decide_eq_true_eq] at hc; omega
    have hzn:=sB hp (show i < z.length by omega)
    haveI g1:aE (gv w i) M:=hw.get hM i
    haveI g2:aE (gv z i) L:=hz.get hL i
    haveI g3:aE (jV z w i) (M + 3 * L + 2):=wX hz hw hL hM hp zo
    have hl9:=eS (fun i=>Qi.ofInt 1 + jV z w i) Qi.zero w.length i
    have hl10:=eS (fun i=>Qi.ofInt 1 - jV z w i) Qi.zero w.length i
    refine cY (cU (eK (ts (rm rfl (ra rfl (eZ (cU (Y.D_start (m:=15) [] (cQ (Ei:=[(3,_)]) rfl rfl (bQ (bJ rfl rfl) bX) rfl rfl (dZ rfl (fQ A_29 Z_29 (Ht rfl) (i:=1) rfl rfl)) (cQ (Ei:=[(11,_)]) rfl rfl (bQ (bJ rfl rfl) bX) rfl rfl (dZ rfl (cZ (Ht rfl))) (cQ (Ei:=[(43,_),(44,_)]) rfl rfl (bQ (bZ 0 rfl rfl) (bQ (bZ 1 rfl rfl) bX)) rfl rfl (dZ rfl (dJ U_29 Z_51 (Ht rfl) (Ht rfl) rfl (eQ (dY (d:=Qi.zero) zo)))) ?_)))))))))))
    refine cQ (Ei:=[(45,_)]) rfl rfl (bQ (bZ 2 rfl rfl) bX) rfl rfl (dZ rfl (dV A_51 Z_51 (Ht rfl))) (cQ (Ei:=[(2,_)]) rfl rfl (bQ (bJ rfl rfl) bX) rfl rfl (dZ rfl (eJ kF (Ht rfl) rfl)) (cQ (Ei:=[(47,_)]) rfl rfl (bQ (bZ 4 rfl rfl) bX) rfl rfl (dZ rfl (fQ A_29 Z_29 (Ht rfl) (i:=0) rfl rfl)) (cQ (Ei:=[(11,_)]) rfl rfl (bQ (bJ rfl rfl) bX) rfl rfl (dZ rfl (cZ (Ht rfl))) (cQ (Ei:=[(48,_),(49,_)]) rfl rfl (bQ (bZ 5 rfl rfl) (bQ (bZ 6 rfl rfl) bX)) rfl rfl (dZ rfl (dJ U_29 Z_51 (Ht rfl) (Ht rfl) rfl (eQ (dY (d:=Qi.zero) zo)))) ?_))))
    refine cQ (Ei:=[(50,_)]) rfl rfl (bQ (bZ 7 rfl rfl) bX) rfl rfl (dZ rfl (dV A_51 Z_51 (Ht rfl))) (cQ (Ei:=[(46,_),(51,_)]) rfl rfl (bQ (bZ 3 rfl rfl) (bQ (bZ 8 rfl rfl) bX)) rfl rfl (dZ rfl (cJ K_40 (vB (x:=gv w i) (y:=gv z i) (L:=M) (M:=L) zo) ⟨(Ht rfl),(Ht rfl),trivial⟩)) (cQ (Ei:=[(52,_)]) rfl rfl (bQ (bZ 9 rfl rfl) bX) rfl rfl (dZ rfl (cZ (Ht rfl))) (cQ (Ei:=[(42,_)]) rfl rfl (bQ (bZ 10 rfl rfl) bX) rfl rfl (dZ rfl (dU (Ht rfl) rfl)) ?_)))
    refine cQ (Ei:=[(42,_)]) rfl rfl (bQ (bZ 10 rfl rfl) bX) rfl rfl (dZ rfl (dU (Ht rfl) rfl)) (Y.D_newp (Ei:=[]) (fun bb=>box bb 51 [aD (decide ((jV z w i).a < 0)),aI (jV z w i).a.natAbs,aD (decide ((jV z w i).b < 0)),aI (jV z w i).b.natAbs,aI (du (jV z w i))]) 14 rfl rfl rfl bX rfl rfl (by kernel_rfl) (eG (Ts:=[Is (.bool false),Is (.slice none 0 0),Is (.bool false),Is (.slice none 0 0),Is (.slice none 0 0)]) O_51 rfl (fun V=>aW zd (aW zd (aW zd (aW zd (aW zd (aG))))))) ?_)
    refine Y.D_putN (Ei:=[(53,_)]) 13 rfl rfl rfl rfl rfl rfl (bQ (bZ 11 rfl rfl) bX) (fun bb=>lA Z_51 (Ht rfl) (Ht rfl) rfl (i:=0) rfl (aK rfl) rfl rfl) (Y.D_done bE rfl (by kernel_rfl) rfl (by simp [Y.okP]) rfl rfl (bU (bU (bU (bU (bU (bU (bU (bU (bU (bU (bU (bU (bU (Y.F_newp (fun B12=>Y.F_putN (Y.F_nil ?_)))))))))))))))))
    refine ra rfl (eZ (Y.D_start (m:=18) [(17,5,cC 51 5 B33 (((mA (fun i=>Qi.ofInt 1 + jV z w i) Qi.zero w.length i).map aH).set i (aH (Qi.ofInt 1 + jV z w i))))] (Y.D_step (Ei:=[(9,_)]) rfl rfl (bQ (bJ rfl rfl) bX) rfl rfl (by kernel_rfl) (dZ rfl (cZ (Ht rfl))) (Y.D_step (Ei:=[(11,_)]) rfl rfl (bQ (bJ rfl rfl) bX) rfl rfl (by kernel_rfl) (dZ rfl (cZ (Ht rfl))) (cQ (Ei:=[(10,_)]) rfl rfl (bQ (bJ rfl rfl) bX) rfl rfl (dZ rfl (cZ (Ht rfl))) (cQ (Ei:=[(11,_)]) rfl rfl (bQ (bJ rfl rfl) bX) rfl rfl (dZ rfl (cZ (Ht rfl))) ?_))))))
    refine Y.D_step (Ei:=[(7,_)]) rfl rfl (bQ (bJ rfl rfl) bX) rfl rfl (by kernel_rfl) (dZ rfl (eW A_51 Z_51 (Ht rfl) (i:=3) rfl rfl rfl)) (Y.D_step (Ei:=[(59,_)]) rfl rfl (bQ (bZ 4 rfl rfl) bX) rfl rfl (by kernel_rfl) (dZ rfl (aT bL (Ht rfl))) (Y.D_step (Ei:=[(8,_)]) rfl rfl (bQ (bJ rfl rfl) bX) rfl rfl (by kernel_rfl) (dZ rfl (eW A_51 Z_51 (Ht rfl) (i:=4) rfl rfl rfl)) (Y.D_step (Ei:=[(12,_)]) rfl rfl (bQ (bJ rfl rfl) bX) rfl rfl (by kernel_rfl) (dZ rfl (eW A_51 Z_51 (Ht rfl) (i:=7) rfl rfl rfl)) ?_)))
    refine Y.D_step (Ei:=[(61,_),(62,_)]) rfl rfl (bQ (bZ 6 rfl rfl) (bQ (bZ 7 rfl rfl) bX)) rfl rfl (by kernel_rfl) (dZ rfl (cJ K_46 (yL (x:=Qi.ofInt 1) (y:=jV z w i) (L:=1) (M:=M + 3 * L + 2) zo) ⟨(Ht rfl),(Ht rfl),trivial⟩)) (Y.D_step (Ei:=[(60,_),(63,_)]) rfl rfl (bQ (bZ 5 rfl rfl) (bQ (bZ 8 rfl rfl) bX)) rfl rfl (by kernel_rfl) (dZ rfl (aL mX K_302 Dp (Ht rfl) ⟨(Ht rfl),trivial⟩)) (Y.D_step (Ei:=[(7,_)]) rfl rfl (bQ (bJ rfl rfl) bX) rfl rfl (by kernel_rfl) (dZ rfl (eW A_51 Z_51 (Ht rfl) (i:=3) rfl rfl rfl)) ?_))
    refine Y.D_step (Ei:=[(65,_)]) rfl rfl (bQ (bZ 10 rfl rfl) bX) rfl rfl (by kernel_rfl) (dZ rfl (aT bL (Ht rfl))) (Y.D_step (Ei:=[(8,_)]) rfl rfl (bQ (bJ rfl rfl) bX) rfl rfl (by kernel_rfl) (dZ rfl (eW A_51 Z_51 (Ht rfl) (i:=4) rfl rfl rfl)) (Y.D_step (Ei:=[(12,_)]) rfl rfl (bQ (bJ rfl rfl) bX) rfl rfl (by kernel_rfl) (dZ rfl (eW A_51 Z_51 (Ht rfl) (i:=7) rfl rfl rfl)) (Y.D_step (Ei:=[(67,_),(68,_)]) rfl rfl (bQ (bZ 12 rfl rfl) (bQ (bZ 13 rfl rfl) bX)) rfl rfl (by kernel_rfl) (dZ rfl (cJ K_44 (rV (x:=Qi.ofInt 1) (y:=jV z w i) (L:=1) (M:=M + 3 * L + 2) zo) ⟨(Ht rfl),(Ht rfl),trivial⟩)) ?_)))
    refine Y.D_step (Ei:=[(66,_),(69,_)]) rfl rfl (bQ (bZ 11 rfl rfl) (bQ (bZ 14 rfl rfl) bX)) rfl rfl (by kernel_rfl) (dZ rfl (aL mX K_302 Dp (Ht rfl) ⟨(Ht rfl),trivial⟩)) (Y.D_step (Ei:=[(55,_),(56,_)]) rfl rfl (bQ (bZ 0 rfl rfl) (bQ (bZ 1 rfl rfl) bX)) rfl rfl (by kernel_rfl) (dZ rfl (dP U_29 Z_51 (Ht rfl) (Ht rfl) rfl (i:=5) rfl (by rw [List.length_map,hl9]; exact hin) rfl)) ?_)
    refine Y.D_putI (Ei:=[(71,_),(64,_)]) 5 rfl rfl rfl (bQ (bZ 16 rfl rfl) (bQ (bZ 9 rfl rfl) bX)) (.head _) rfl (Hl Z_51 (Ht rfl) (Ht rfl) (El.ag rfl) (i:=0) rfl rfl (by rw [List.length_map,hl9]; exact hin)) ?_
    refine Y.D_done bE rfl (by kernel_rfl) rfl (by simp [Y.okP]) rfl rfl (bU (bU (bU (bU (bU (bU (bU (bU (bU (bU (bU (bU (bU (bU (bU (bU (bU (Y.F_putI (Y.F_nil ?_)))))))))))))))))))
    refine ro rfl (dP U_29 Z_51 (Ht rfl) (Ht rfl) rfl (i:=6) rfl (by rw [List.length_map,hl10]; exact hin) rfl) ?_
    refine nO Z_51 (Ht rfl) (Ht rfl) (El.ag rfl) (i:=6) rfl rfl (by rw [List.length_map,hl10]; exact hin) rfl ?_
    refine eZ (bO (dQ (ro rfl (dW (Ht rfl) (cV 1) z6) (rm rfl (eZ (cD [0,1,2,3,4,5,6] rfl (by decide) (fY (i + 1) hin zo (zS rfl) (aU (aB rfl) (aU (aB rfl) (aU (aB rfl) (aU (aB rfl) (aU (aB rfl) (aU (bR (by rw [fO]; exact congrArg _ (lJ (f:=(fun i=>Qi.ofInt 1 + jV z w i))))) (aU (bR (by rw [fO]; exact congrArg _ (lJ (f:=(fun i=>Qi.ofInt 1 - jV z w i))))) aY))))))))))))))
   ·have hin : i = w.length := by simp only [decide_eq_false_iff_not] at hc; omega
    rw [hin,lI,lI]
    refine gW rfl (gV (i:=5) (tt:=9) rfl rfl iW (gV (i:=6) (tt:=10) rfl rfl iW (gV (i:=0) (tt:=2) rfl rfl zM (gV (i:=1) (tt:=3) rfl rfl mF (ts (ro rfl (oN (γ:=Bool) (Ts:=fun x=>cond x [aR (rnM z w),aR (rnP z w)] [aR (rnP z w),aR (rnM z w)]) (U:=fun x=>cond x (bB (Ud z w s)) (bB (yR z w s))) Tryz.call184 (fun x=>a1P (x:=x) (a2p (z:=z) (s:=s) rfl zo hMl hPl (by rw [hl]; exact hs) hMf hPf hf zo hK zo) (a2p (z:=z) (s:=s) rfl zo hPl hMl (by rw [hl]; exact hs) hPf hMf hf zo hK zo)) ⟨(Ht rfl),(Ht rfl),trivial⟩) ?_))))))
    refine ra rfl (eZ (ts (rm rfl (rm rfl (rm rfl (ro rfl (pF true (Ht rfl) ⟨(Ht rfl),(Ht rfl),trivial⟩) (rm rfl (rm rfl (rm rfl (ro rfl (pF false (Ht rfl) ⟨(Ht rfl),(Ht rfl),trivial⟩) (ro rfl (cJ Tryz.call186 (Mf (Y:=Ud z w s) (M:=yR z w s) (n:=w.length) (K:=2 * (M + 3 * L + 4) + K + 2) (zW _ _ _ _) (zW _ _ _ _) (Gj hMf hPf hf zo hK) zo zo hsz hX zo) ⟨(Ht rfl),(Ht rfl),trivial⟩) (rm rfl (ro rfl (dU (Ht rfl) rfl) (ro rfl (dU (Ht rfl) rfl) (ra rfl (ra rfl (eZ (cU (ts ?_)))))))))))))))))))
    refine rm rfl (ro rfl (kA (Ht rfl) cW) (eZ (dX (Ht rfl) (fun hd=>?_) (fun hd=>?_))))
    ·have hno : ovE (yR z w s) w.length ≠ 0 := by simpa using hd
     refine ts (ro rfl (aM.imp (mC ) mI) (rm rfl (gX Z_32 (Ht rfl) (Ht rfl) rfl (i:=2) rfl (aK rfl) rfl rfl (ra rfl (eZ (bN rfl (fZ (fU A_32 Z_32 rfl (i:=2) rfl rfl) ?_) (fZ (eY rfl) ?_)))))))
     ·exact (fun v V h=>by rw [Zf,nX,dA,dA,hov,if_neg hno,if_neg hno]; exact h)
     ·exact (aS hov.symm)
    ·have hno : ovE (yR z w s) w.length = 0 := by simpa using hd
     refine cY (ts (ro rfl (dV A_29 Z_29 (Ht rfl)) (ro rfl (cJ Tryz.call158 (Fl (l:=w) zo) ⟨(Ht rfl),trivial⟩) (rm rfl (ro rfl (vH (Ht rfl) (Ht rfl)) (gX Z_32 (Ht rfl) (Ht rfl) rfl (i:=2) rfl (aK rfl) rfl rfl (ro rfl (cX (cV 0)) (eZ (bN rfl (fZ (fU A_32 Z_32 rfl (i:=2) rfl rfl) ?_) (fZ (eY rfl) ?_))))))))))
     ·exact (fun v V h=>by rw [Zf,dA,hov,hno,if_pos rfl,hovX]; exact h)
     ·exact (aS (hov.trans hno).symm)
end
section
open Go Go.RowKit
theorem Jo (v : Value) (w : World) : (method (Tryz.prog.types.size + Made.depth) 51 v "Neg").run Tryz.prog w = .ok (140, v) w := by kernel_rfl
end
section
open Go Go.RowKit
theorem a1m {z w:List Qi} {S:List (List Qi)} {i k V D:Nat} (hS:bC S V) (hV:1 ≤ V) (hr:aE (jV z w k) D):aE (xE z w S i k) (V + 2 * D + 12):=by
 haveI:=hr; haveI:=Po; haveI:=kG; haveI:=hS.get hV i k
 haveI a1:aE (Qi.ofInt 1 + jV z w k) (1 + D + 1):=fitAdd
 haveI a2:aE (Qi.ofInt 1 - jV z w k) (1 + D + 1):=fitSub
 haveI a3:aE ((Qi.ofInt 1 + jV z w k) * pU) (1 + D + 1 + 2 + 1):=fitMul (L:=1 + D + 1) (M:=2)
 haveI a4:aE ((Qi.ofInt 1 - jV z w k) * pU) (1 + D + 1 + 2 + 1):=fitMul (L:=1 + D + 1) (M:=2)
 haveI a5:aE (gm S i k * ((Qi.ofInt 1 - jV z w k) * pU)) (V + (1 + D + 1 + 2 + 1) + 1):=fitMul (L:=V) (M:=1 + D + 1 + 2 + 1)
 unfold xE
 by_cases e:i = k
 ·rw [if_pos e]; exact (fitSub (x:=(Qi.ofInt 1 + jV z w k) * pU) (y:=gm S i k * ((Qi.ofInt 1 - jV z w k) * pU)) (L:=1 + D + 1 + 2 + 1) (M:=V + (1 + D + 1 + 2 + 1) + 1)).le zo
 ·rw [if_neg e]; exact (fitNeg (x:=gm S i k * ((Qi.ofInt 1 - jV z w k) * pU))).le zo
theorem Zg {z w:List Qi} {s:List (List Qi)} (h:Aa z w s = 0):w.length = z.length:=by
 apply Decidable.byContradiction; intro c
 rw [Qx c] at h; omega
theorem Rr {z w:List Qi} {s c:List (List Qi)} {L M K V W G X:Nat} (hs:cM s z.length z.length) (hch:cM c z.length z.length) (hz:bP z L) (hw:bP w M) (hf:bC s K) (hfc:bC c W) (hL:1 ≤ L) (hM:1 ≤ M) (hK:1 ≤ K) (hW:1 ≤ W) (hLb:L ≤ 1000) (hMb:M ≤ 1000) (hKb:K ≤ 100000000000) (hWb:W ≤ 450000000) (hp:z.all fB = true) (h8:z.length ≤ 8) (hwl:w.length ≤ 1000) (hsz:w.length = z.length → ∀ i,i < w.length → SzS (yR z w s) (ek w.length i) w.length G X) (hX:X ≤ 900000000000) (hV:bC (nX z w s) V) (hV1:1 ≤ V) (hVb:V ≤ 400000000):bH Tryz.prog 47 [fD z s c,aR w] (fI [fD (Zf z w s) (nX z w s) (nrC z w s c),aO .i64 (Aa z w s)]):=by
 have hR:=Rp hs hz hw hf hL hM hK zo zo hKb hp h8 hwl hsz hX
 haveI h5:=Po
 haveI h6:=kG
 refine bH.intro Tryz.func47 rfl Tryz.ntmps47 rfl (fun cx=>(ts (rn rfl (fK (Ht rfl)) fun B2=>(rn rfl (eG (Ts:=[Is (.slice none 0 0),Is (.slice none 0 0),Is (.slice none 0 0)]) O_34 rfl (fun V=>aW zd (aW zd (aW zd (aG))))) fun B4=>(ro rfl (cX (cV 0)) (eZ (ts (ro rfl (eJ mD (Ht rfl) rfl) (ro rfl (eW A_32 Z_32 (Ht rfl) (i:=0) rfl rfl rfl) (rm rfl (ro rfl (cJ Tryz.call84 hR ⟨(Ht rfl),(Ht rfl),trivial⟩) (rm rfl (ro rfl (dU (Ht rfl) rfl) ?_)))))))))))))
 refine ro rfl (dU (Ht rfl) rfl) (rn rfl (eG (Ts:=[Is (.slice none 0 0),Is (.slice none 0 0)]) O_32 rfl (fun V=>aW zd (aW zd (aG)))) fun B6=>(gX Z_32 (Ht rfl) (Ht rfl) rfl (i:=2) rfl (aK rfl) rfl rfl (ra rfl (eZ (cU (ts (rm rfl (ro rfl (kA (Ht rfl) cW) (eZ (dX (Ht rfl) (fun hb=>?_) (fun hb=>?_)))))))))))
 ·have he : Aa z w s ≠ 0 := by simpa using hb
  refine ts (ro rfl (aM.imp (rH ) mY) (rm rfl (gX Z_34 (Ht rfl) (Ht rfl) rfl (i:=1) rfl (aK rfl) rfl rfl (ra rfl (eZ (bN rfl (fZ (fU A_34 Z_34 rfl (i:=1) rfl rfl) ?_) (eY rfl)))))))
  exact (fun v V h=>by rw [Zf,nX,nrC,dA,dA,dA,if_neg he,if_neg he,if_neg he]; exact h)
 ·have he : Aa z w s = 0 := by simpa using hb
  have hl:=Zg he
  obtain ⟨hq,-,hSx,hZ⟩:=wY (n:=z.length) rfl hl he
  have hS2:cM (nX z w s) w.length w.length:=by rw [hSx,hl]; exact kM
  have hC:nrC z w s c = jD (Yb z w (nX z w s) w.length) c:=by rw [nrC,dA,if_pos he]
  rw [hZ,hC,he]
  clear hR hsz hSx hZ hC he hb hs
  generalize nX z w s = S at *
  obtain ⟨n,hn⟩:∃ n,n = w.length:=⟨_,rfl⟩
  have hzl:z.length = n:=by omega
  obtain ⟨D,hD⟩:∃ D,D = M + 3 * L + 2:=⟨_,rfl⟩
  refine cY (ts (ro rfl (cJ Tryz.call141 (a2k (p:=1) (q:=0) (d:=2) (by decide) (by decide) (by decide) (by decide) (by decide) (by decide) (by decide)) ⟨(cV 1),(cV 0),(cV 2),trivial⟩) (rm rfl (ro rfl (dU (Ht rfl) rfl) (ro rfl (dU (Ht rfl) rfl) (rn rfl (eG (Ts:=[Is (.bool false),Is (.slice none 0 0),Is (.bool false),Is (.slice none 0 0),Is (.slice none 0 0)]) O_51 rfl (fun V=>aW zd (aW zd (aW zd (aW zd (aW zd (aG))))))) fun B8=>?_))))))
  refine gX Z_51 (Ht rfl) (Ht rfl) rfl (i:=3) rfl (aK rfl) rfl rfl (ra rfl (eZ (cU (gV (i:=3) (tt:=8) rfl rfl zM (cD [0,1,2] rfl (by decide) (dQ (ro rfl (eW A_32 Z_32 (Ht rfl) (i:=2) rfl rfl rfl) (kC Tryz.call93 (Ow (z:=w) (s:=S) hS2 zo) ⟨(Ht rfl),trivial⟩ rfl (fun B34 _=>(ra rfl (eZ (ts (ro rfl (eJ mD (Ht rfl) rfl) (ro rfl (eW A_32 Z_32 (Ht rfl) (i:=0) rfl rfl rfl) (ro rfl (cJ Tryz.call142 (Mi zo) ⟨(Ht rfl),trivial⟩) ?_)))))))))))))))
  refine ra rfl (eZ (cU (cU ?_)))
  rw [← hn]
  refine dQ (rm rfl (ro rfl (gA U_30 (Ht rfl)) (ro rfl (cZ (cV 0)) (eZ (eK ?_)))))
  refine cF (fun (i : Nat) => i ≤ n) (fun (i : Nat) => n - i) (fun (i : Nat) => [(1, aR w), (2, bT B2 0), (4, bT B4 0), (6, bT B6 0), (8, PT (aH pU)), (10, Is (.slice (some ⟨B34, 0, none⟩) n n)), (11, aR z), (38, Is (.slice (some ⟨B34, 0, none⟩) n n)), (39, NT .i64 n), (40, NT .i64 i)]) (fun (i : Nat) => [box B2 34 [aR z, bB s, bB c], box B4 34 [Is (.slice none 0 0), Is (.slice none 0 0), Is (.slice none 0 0)], box B6 32 [aR w, bB S], nR B34 29 51 5 (cE aH (nT (fun i => tab n fun k => xE z w S i k) (fun i => tab n fun k => gm S i k) n i))]) 0 (Nat.zero_le _)
   (zS rfl) (aU (aB rfl) (aU (aB rfl) (aU (aB rfl) (aU (cB (by rw [← jU])) aY)))) (fun i hi=>?_)
  refine ts (ro rfl (gZ (Ht rfl) (Ht rfl)) (eZ (cU (dX (Ht rfl) (fun hd=>?_) (fun hd=>?_)))))
  ·have hdn : i < n := by simp only [decide_eq_true_eq] at hd; omega
   refine nG 3 (i) rfl (qR hdn) (fun v=>(cY (cU (eK (ts (rm rfl (ro rfl (gQ U_30 Z_29 (Ht rfl) (Ht rfl) rfl zo (by rw [Nat.mul_one,Nat.zero_add])) ?_)))))))
   refine ro rfl (jZ A_29 Z_29 (Ht rfl) (j:=3) rfl) (ra rfl (ra rfl (eZ (ts (rm rfl (ro rfl (rO U_29 (Ht rfl) (i:=4) rfl (show (((tab n fun k=>gm S i k).map aH).length:Int) = ((n:Nat):Int) by rw [List.length_map,aN])) (ro rfl (cZ (cV 0)) (eZ (eK ?_)))))))))
   refine cF (fun (j : Nat) => j ≤ n) (fun (j : Nat) => n - j) (fun (j : Nat) => [(1, aR w), (2, bT B2 0), (4, bT B4 0), (6, bT B6 0), (8, PT (aH pU)), (10, Is (.slice (some ⟨B34, 0, none⟩) n n)), (11, aR z), (12, NT .i64 i), (13, Is v), (38, Is (.slice (some ⟨B34, 0, none⟩) n n)), (39, NT .i64 n), (40, NT .i64 i), (46, NT .i64 n), (47, NT .i64 j)]) (fun (j : Nat) => [box B2 34 [aR z, bB s, bB c], box B4 34 [Is (.slice none 0 0), Is (.slice none 0 0), Is (.slice none 0 0)], box B6 32 [aR w, bB S], Di B34 29 51 5 (cE aH (nT (fun i => tab n fun k => xE z w S i k) (fun i => tab n fun k => gm S i k) n i)) i v, cC 51 5 v ((nT (fun k => xE z w S i k) (fun k => gm S i k) n j).map aH)]) 0 (Nat.zero_le _)
    (zS rfl) (aU (aB rfl) (aU (aB rfl) (aU (aB rfl) (aU (fun _ _ _ h=>h) (aU (bR (by rw [← jU])) aY))))) (fun j hj=>?_)
   refine ts (ro rfl (gZ (Ht rfl) (Ht rfl)) (eZ (cU (dX (Ht rfl) (fun hf2=>?_) (fun hf2=>?_)))))
   ·have hjn : j < n := by simp only [decide_eq_true_eq] at hf2; omega
    have hrl:=jG (fun k=>xE z w S i k) (fun k=>gm S i k) n j
    haveI q1:aE (gm S i j) V:=hV.get hV1 i j
    haveI q2:aE (gv w j) M:=hw.get hM j
    haveI q3:aE (gv z j) L:=hz.get hL j
    haveI q4:aE (jV z w j) D:=by rw [hD]; exact wX hz hw hL hM hp zo
    have hne:=sB hp (show j < z.length by omega)
    refine cY (cU (eK (ts (rm rfl (ra rfl (eZ (cU (Y.D_start (m:=14) [] (cQ (Ei:=[(1,_)]) rfl rfl (bQ (bJ rfl rfl) bX) rfl rfl (dZ rfl (cZ (Ht rfl))) (cQ (Ei:=[(14,_)]) rfl rfl (bQ (bJ rfl rfl) bX) rfl rfl (dZ rfl (cZ (Ht rfl))) (cQ (Ei:=[(51,_),(52,_)]) rfl rfl (bQ (bZ 0 rfl rfl) (bQ (bZ 1 rfl rfl) bX)) rfl rfl (dZ rfl (dJ U_29 Z_51 (Ht rfl) (Ht rfl) rfl (eQ (dY (d:=Qi.zero) zo)))) ?_)))))))))))
    refine cQ (Ei:=[(53,_)]) rfl rfl (bQ (bZ 2 rfl rfl) bX) rfl rfl (dZ rfl (dV A_51 Z_51 (Ht rfl))) (cQ (Ei:=[(11,_)]) rfl rfl (bQ (bJ rfl rfl) bX) rfl rfl (dZ rfl (cZ (Ht rfl))) (cQ (Ei:=[(14,_)]) rfl rfl (bQ (bJ rfl rfl) bX) rfl rfl (dZ rfl (cZ (Ht rfl))) (cQ (Ei:=[(55,_),(56,_)]) rfl rfl (bQ (bZ 4 rfl rfl) (bQ (bZ 5 rfl rfl) bX)) rfl rfl (dZ rfl (dJ U_29 Z_51 (Ht rfl) (Ht rfl) rfl (eQ (dY (d:=Qi.zero) zo)))) ?_)))
    refine cQ (Ei:=[(57,_)]) rfl rfl (bQ (bZ 6 rfl rfl) bX) rfl rfl (dZ rfl (dV A_51 Z_51 (Ht rfl))) (cQ (Ei:=[(54,_),(58,_)]) rfl rfl (bQ (bZ 3 rfl rfl) (bQ (bZ 7 rfl rfl) bX)) rfl rfl (dZ rfl (cJ K_40 (vB (x:=gv w j) (y:=gv z j) (L:=M) (M:=L) zo) ⟨(Ht rfl),(Ht rfl),trivial⟩)) (cQ (Ei:=[(59,_)]) rfl rfl (bQ (bZ 8 rfl rfl) bX) rfl rfl (dZ rfl (cZ (Ht rfl))) (cQ (Ei:=[(50,_)]) rfl rfl (bQ (bZ 9 rfl rfl) bX) rfl rfl (dZ rfl (dU (Ht rfl) rfl)) ?_)))
    refine cQ (Ei:=[(50,_)]) rfl rfl (bQ (bZ 9 rfl rfl) bX) rfl rfl (dZ rfl (dU (Ht rfl) rfl)) (Y.D_newp (Ei:=[]) (fun bb=>box bb 51 [aD (decide ((jV z w j).a < 0)),aI (jV z w j).a.natAbs,aD (decide ((jV z w j).b < 0)),aI (jV z w j).b.natAbs,aI (du (jV z w j))]) 13 rfl rfl rfl bX rfl rfl (by kernel_rfl) (eG (Ts:=[Is (.bool false),Is (.slice none 0 0),Is (.bool false),Is (.slice none 0 0),Is (.slice none 0 0)]) O_51 rfl (fun V=>aW zd (aW zd (aW zd (aW zd (aW zd (aG))))))) ?_)
    refine Y.D_putN (Ei:=[(60,_)]) 12 rfl rfl rfl rfl rfl rfl (bQ (bZ 10 rfl rfl) bX) (fun bb=>lA Z_51 (Ht rfl) (Ht rfl) rfl (i:=0) rfl (aK rfl) rfl rfl) (Y.D_done bE rfl (by kernel_rfl) rfl (by simp [Y.okP]) rfl rfl (bU (bU (bU (bU (bU (bU (bU (bU (bU (bU (bU (bU (Y.F_newp (fun B15=>Y.F_putN (Y.F_nil ?_))))))))))))))))
    refine ra rfl (eZ (cU (fJ (m:=13) (dp 13 rfl (cZ (Ht rfl)) (dp 14 rfl (cZ (Ht rfl)) (dR 62 0 63 1 rfl (dP U_29 Z_51 (Ht rfl) (Ht rfl) rfl (i:=4) rfl (by simp only [List.length_map,hrl]; omega) rfl) ?_))))))
    refine dq 64 2 rfl (tG A_51 Z_51 (Ht rfl) (i:=4) rfl rfl (eQ (qV hjn))) (dq 65 3 rfl (aT bL (Ht rfl)) (d0 rfl (cJ K_77 (oI (n:=1) (by decide) (by decide)) ⟨(cV 1),trivial⟩) (dp 15 rfl (eW A_51 Z_51 (Ht rfl) (i:=5) rfl rfl rfl) (dR 67 5 68 6 rfl (cJ K_44 (rV (x:=Qi.ofInt 1) (y:=jV z w j) (L:=1) (M:=D) zo) ⟨(Ht rfl),(Ht rfl),trivial⟩) (dp 8 rfl (dV A_51 Z_51 (Ht rfl)) (dR 69 7 70 8 rfl (cJ K_45 (iT (x:=Qi.ofInt 1 - jV z w j) (y:=pU) (L:=1 + D + 1) (M:=2) zo) ⟨(Ht rfl),(Ht rfl),trivial⟩) ?_))))))
    refine dq 71 9 rfl (cJ K_98 Dg ⟨(Ht rfl),trivial⟩) (dR 66 4 72 10 rfl (aL cL K_45 (iT (x:=gm S i j) (y:=(Qi.ofInt 1 - jV z w j) * pU) (L:=V) (M:=1 + D + 1 + 2 + 1) zo) (Ht rfl) ⟨(Ht rfl),trivial⟩) (C.D_new (Ei:=[]) rfl rfl rfl bW (eG (Ts:=[Is (.bool false),Is (.slice none 0 0),Is (.bool false),Is (.slice none 0 0),Is (.slice none 0 0)]) O_51 rfl (fun V=>aW zd (aW zd (aW zd (aW zd (aW zd (aG))))))) ?_))
    refine fW bE rfl (by kernel_rfl) (zF (zF (zF (C.F_new (fun B17=>aV (gX Z_51 (Ht rfl) (Ht rfl) rfl (i:=6) rfl (aK rfl) rfl rfl (eZ (ts (rm rfl (rm rfl (ro rfl (dO (Ht rfl) (Ht rfl)) (eZ (dX (Ht rfl) (fun hij=>?_) (fun hij=>?_))))))))))))))
    ·have hij2 : i = j := by simpa using hij
     have hval:xE z w S i j = ((Qi.ofInt 1 + jV z w j) * pU - gm S i j * ((Qi.ofInt 1 - jV z w j) * pU)):=by rw [xE,if_pos hij2]; rfl
     refine fJ (m:=11) (dp 13 rfl (cZ (Ht rfl)) (dp 14 rfl (cZ (Ht rfl)) (d0 rfl (cJ K_77 (oI (n:=1) (by decide) (by decide)) ⟨(cV 1),trivial⟩) (dp 15 rfl (eW A_51 Z_51 (Ht rfl) (i:=5) rfl rfl rfl) (dR 79 2 80 3 rfl (cJ K_46 (yL (x:=Qi.ofInt 1) (y:=jV z w j) (L:=1) (M:=D) zo) ⟨(Ht rfl),(Ht rfl),trivial⟩) (dp 8 rfl (dV A_51 Z_51 (Ht rfl)) (dR 81 4 82 5 rfl (cJ K_45 (iT (x:=Qi.ofInt 1 + jV z w j) (y:=pU) (L:=1 + D + 1) (M:=2) zo) ⟨(Ht rfl),(Ht rfl),trivial⟩) ?_)))))))
     refine dq 83 6 rfl (cJ K_98 Dg ⟨(Ht rfl),trivial⟩) (dq 84 7 rfl (aT bL (Ht rfl)) (dp 17 rfl (eW A_51 Z_51 (Ht rfl) (i:=6) rfl rfl rfl) (dR 85 8 86 9 rfl (aL iX K_44 (rV (x:=(Qi.ofInt 1 + jV z w j) * pU) (y:=gm S i j * ((Qi.ofInt 1 - jV z w j) * pU)) (L:=1 + D + 1 + 2 + 1) (M:=V + (1 + D + 1 + 2 + 1) + 1) zo) (Ht rfl) ⟨(Ht rfl),trivial⟩) (fW bE rfl (by kernel_rfl) (zF (zF (aJ (aJ (aJ (aV (ro rfl (dP U_29 Z_51 (Ht rfl) (Ht rfl) rfl (i:=4) rfl (by simp only [List.length_map,hrl]; omega) rfl) ?_)))))))))))
     refine nO Z_51 (Ht rfl) (Ht rfl) (El.ag rfl) (i:=4) rfl rfl (by simp only [List.length_map,hrl]; omega) rfl ?_
     refine eZ (bO (dQ (ro rfl (dW (Ht rfl) (cV 1) z6) (rm rfl (eZ (cD [0,1,2,3,4] rfl (by decide) (fY (j + 1) hjn zo (zS rfl) (aU (aB rfl) (aU (aB rfl) (aU (aB rfl) (aU (fun _ _ _ h=>h) (aU (bR (by rw [fO,← hval]; exact congrArg _ (kL (f:=fun k=>xE z w S i k)))) aY))))))))))))
    ·have hij2 : ¬ i = j := by simpa using hij
     have hval:xE z w S i j = (-(gm S i j * ((Qi.ofInt 1 - jV z w j) * pU))):=by rw [xE,if_neg hij2]; rfl
     refine dQ (rm rfl (rm rfl (ro rfl (eW A_51 Z_51 (Ht rfl) (i:=6) rfl rfl rfl) (ro rfl (aT bL (Ht rfl)) (ro rfl (aL Jo Tryz.call140 (a2j (x:=gm S i j * ((Qi.ofInt 1 - jV z w j) * pU))) (Ht rfl) trivial) (ro rfl (dP U_29 Z_51 (Ht rfl) (Ht rfl) rfl (i:=4) rfl (by simp only [List.length_map,hrl]; omega) rfl) ?_))))))
     refine nO Z_51 (Ht rfl) (Ht rfl) (El.ag rfl) (i:=4) rfl rfl (by simp only [List.length_map,hrl]; omega) rfl ?_
     refine eZ (bO (dQ (ro rfl (dW (Ht rfl) (cV 1) z6) (rm rfl (eZ (cD [0,1,2,3,4] rfl (by decide) (fY (j + 1) hjn zo (zS rfl) (aU (aB rfl) (aU (aB rfl) (aU (aB rfl) (aU (fun _ _ _ h=>h) (aU (bR (by rw [fO,← hval]; exact congrArg _ (kL (f:=fun k=>xE z w S i k)))) aY))))))))))))
   ·have hjn : j = n := by simp only [decide_eq_false_iff_not] at hf2; omega
    rw [hjn]
    refine gW rfl (bO (fP 3 4 rfl rfl (by decide) (by simp only [cE,List.length_map,jG]; omega) ?_))
    refine dQ (ro rfl (dW (Ht rfl) (cV 1) z6) (rm rfl (eZ (cD [0,1,2,3] rfl (by decide) (fY (i + 1) hdn zo (zS rfl) (aU (aB rfl) (aU (aB rfl) (aU (aB rfl) (aU (cB (by rw [gH,lC]; exact congrArg _ (kL (f:=(fun i=>tab n fun k=>xE z w S i k))))) aY)))))))))
  ·have hdn : i = n := by simp only [decide_eq_false_iff_not] at hd; omega
   rw [hdn,lC,show tab n (fun i=>tab n fun k=>xE z w S i k) = Yb z w S n from rfl]
   refine gW rfl (cU (gV (i:=3) (tt:=10) rfl rfl (iB (s:=5) (M:=Yb z w S n) (aN _ _).symm) ?_))
   have hnf:bC (Yb z w S n) (V + 2 * D + 12 + W):=bC.tab fun i k _ hk=>(a1m (D:=D) hV hV1 (by rw [hD]; exact wX hz hw hL hM hp zo)).le zo
   rw [hzl] at hch
   refine fJ (m:=5) (dp 6 rfl (eW A_32 Z_32 (Ht rfl) (i:=2) rfl rfl rfl) (dp 10 rfl (cZ (Ht rfl)) (dp 2 rfl (eJ lG (Ht rfl) rfl) (dq 99 2 rfl (fQ A_30 Z_30 (Ht rfl) (i:=0) rfl rfl) (dR 98 1 100 3 rfl (cJ Tryz.call99 (a3b (L:=V + 2 * D + 12 + W) (Gm z w S n) hch hnf (hfc.le zo) zo zo rfl zo zo) ⟨(Ht rfl),(Ht rfl),trivial⟩) (fW bE rfl (by kernel_rfl) (zF (aJ (aV (ro rfl (mS (Ht rfl) (Ht rfl)) (gX Z_34 (Ht rfl) (Ht rfl) rfl (i:=1) rfl (aK rfl) rfl rfl ?_)))))))))))
   refine ro rfl (cX (cV 0)) (eZ ?_)
   exact bN rfl (fU A_34 Z_34 rfl (i:=1) rfl rfl) (eY rfl)
end
section
open Go Go.RowKit
theorem a0p {z:List Qi} {s:List (List Qi)} {q:Int} {o:List Int} (hl:z.length ≤ 1000) (ho:o.length ≤ 1000):bH Tryz.prog 125 [gT z s,aO .i64 q,jT 1 (o.map (aO .i64))] (aO .i64 (fE z.length q o)):=by
 refine bH.intro Tryz.func125 rfl Tryz.ntmps125 rfl (fun cx=>(ts (rn rfl (fK (Ht rfl)) fun B3=>(ro rfl (cX (cV 0)) (eZ (cU (eK (ts (ro rfl (eW A_32 Z_32 (Ht rfl) (i:=0) rfl rfl rfl) (rm rfl (ro rfl (cJ Tryz.call106 Hz ⟨(Ht rfl),(Ht rfl),trivial⟩) (ro rfl (eN (Ht rfl)) (ra rfl (eZ (dX (Ht rfl) (fun hb1=>?_) (fun hb1=>?_))))))))))))))))
 ·have h2 : ¬ (1 ≤ q ∧ q ≤ (z.length : Int)) := by simpa only [Bool.not_eq_true', decide_eq_false_iff_not] using hb1
  refine ts (ro rfl (cX (cV 1)) (eZ (fG rfl (fZ (eY rfl) ?_))))
  exact (aS (if_pos h2).symm)
 ·have h2 : 1 ≤ q ∧ q ≤ (z.length : Int) := by simpa using hb1
  refine ts (rm rfl (rm rfl (ro rfl (cJ Tryz.call95 (uX (l:=o) (v:=q) zo) ⟨(Ht rfl),(Ht rfl),trivial⟩) (ra rfl (eZ (dX (Ht rfl) (fun hb2=>?_) (fun hb2=>?_)))))))
  ·refine ts (ro rfl (cX (cV 8)) (eZ (fG rfl (fZ (eY rfl) ?_))))
   exact (aS (by rw [fE,if_neg (fun k=>k h2),if_pos hb2]; rfl))
  ·refine cY (bO (ts (ro rfl (cX (cV 0)) (eZ (fG rfl (fZ (eY rfl) ?_))))))
   exact (aS (by rw [fE,if_neg (fun k=>k h2),if_neg (by rw [hb2]; decide)]; rfl))
theorem a0l {z:List Qi} {s:List (List Qi)} {l:List Int} (hs:cM s z.length z.length) (hl:z.length ≤ 1000) (hll:l.length ≤ 1000):bH Tryz.prog 33 [gT z s,jT 1 (l.map (aO .i64))] (fI [gT (yZ z l) (qZ z s l),aO .i64 (vO z.length l)]):=by
 refine bH.intro Tryz.func33 rfl Tryz.ntmps33 rfl (fun cx=>(ts (rn rfl (fK (Ht rfl)) fun B2=>(rn rfl (eG (Ts:=[Is (.slice none 0 0),Is (.slice none 0 0)]) O_32 rfl (fun V=>aW zd (aW zd (aG)))) fun B4=>(ro rfl (cX (cV 0)) (eZ (cU (ts (rm rfl (ro rfl (dK U_72 (Ht rfl) aA) (ro rfl (eJ kF (Ht rfl) rfl) (ro rfl (fQ A_29 Z_29 (Ht rfl) (i:=0) rfl rfl) (ro rfl (dK U_29 (Ht rfl) aA) (ro rfl (gB (Ht rfl) (Ht rfl)) ?_))))))))))))))
 refine eZ (dX (Ht rfl) (fun hb1=>?_) (fun hb1=>?_))
 ·have h2 : l.length ≠ z.length := by simpa using hb1
  have he:=Ce h2
  refine ts (ro rfl (aM.imp (mC ) mI) (gX Z_32 (Ht rfl) (Ht rfl) rfl (i:=1) rfl (aK rfl) rfl rfl (ro rfl (cX (cV 4)) (eZ (bN rfl (fZ (fU A_32 Z_32 rfl (i:=1) rfl rfl) ?_) (fZ (eY rfl) ?_))))))
  ·exact (fun v V h=>by rw [yZ,qZ,dA,dA,he]; exact h)
  ·exact (aS he.symm)
 ·have h2 : l.length = z.length := by simpa using hb1
  have hok:=Nh h2
  refine cY (cU (ts (rm rfl (ro rfl (dK U_72 (Ht rfl) aA) (ro rfl (cZ (cV 0)) (eZ (eK ?_)))))))
  refine cF (fun (i : Nat) => i ≤ l.length ∧ ∀ j, j < i → (fun i => fE z.length (l.getD i 0) (l.take i)) j = 0) (fun (i : Nat) => l.length - i) (fun (i : Nat) => [(1, jT 1 (l.map (aO .i64))), (2, bT B2 0), (4, bT B4 0), (16, jT 1 (l.map (aO .i64))), (17, NT .i64 l.length), (18, NT .i64 i)]) (fun (i : Nat) => [box B2 32 [aR z, bB s], box B4 32 [Is (.slice none 0 0), Is (.slice none 0 0)]]) 0 ⟨Nat.zero_le _, fun j h => by omega⟩
   (zS rfl) (aU (aB rfl) (aU (aB rfl) aY)) (fun i ⟨hi,h0⟩=>?_)
  refine ts (ro rfl (gZ (Ht rfl) (Ht rfl)) (eZ (cU (dX (Ht rfl) (fun hd=>?_) (fun hd=>?_)))))
  ·have hin : i < l.length := by simp only [decide_eq_true_eq] at hd; omega
   refine cY (cU (eK (ts (rm rfl (ro rfl (dJ U_72 Z_3 (Ht rfl) (Ht rfl) rfl (eQ (dY (d:=0) zo))) (ro rfl (dV A_3 Z_3 (Ht rfl)) (ra rfl (ra rfl (eZ (cU (fJ (m:=5) (dp 2 rfl (eW A_32 Z_32 (Ht rfl) (i:=0) rfl rfl rfl) (dp 7 rfl (cZ (Ht rfl)) (dp 1 rfl (cZ (Ht rfl)) (dp 6 rfl (cZ (Ht rfl)) (dR 25 2 26 3 rfl (qX U_72 Z_3 (Ht rfl) (Ht rfl) (fun m e=>by cases e) zo (by rw [List.length_map]; omega) (Us:=(l.take i).map (aO .i64)) (by rw [Int.toNat_natCast,List.map_take])) ?_))))))))))))))))
   refine fW bE rfl (by kernel_rfl) (zF (aJ (aV (ro rfl (cJ Tryz.call125 (a0p (q:=l.getD i 0) (o:=l.take i) hl (by rw [List.length_take]; omega)) ⟨(Ht rfl),(Ht rfl),(Ht rfl),trivial⟩) ?_))))
   refine ra rfl (eZ (ts (rm rfl (ro rfl (kA (Ht rfl) cW) (eZ (dX (Ht rfl) (fun he=>?_) (fun he=>?_)))))))
   ·have h3 : (fun i => fE z.length (l.getD i 0) (l.take i)) i ≠ 0 := by simpa using he
    have he2:vO z.length l = fE z.length (l.getD i 0) (l.take i):=hok.trans (xT h0 h3 hin)
    refine ts (ro rfl (aM.imp (mC ) mI) (rm rfl (gX Z_32 (Ht rfl) (Ht rfl) rfl (i:=1) rfl (aK rfl) rfl rfl (ra rfl (eZ (bN rfl (fZ (fU A_32 Z_32 rfl (i:=1) rfl rfl) ?_) (fZ (eY rfl) ?_)))))))
    ·exact (fun v V h=>by rw [yZ,qZ,dA,dA,he2,if_neg h3,if_neg h3]; exact h)
    ·exact (aS he2.symm)
   ·have h3 : (fun i => fE z.length (l.getD i 0) (l.take i)) i = 0 := by simpa using he
    refine cY (bO (dQ (ro rfl (dW (Ht rfl) (cV 1) z6) (rm rfl (eZ (cD [0,1] rfl (by decide) ?_))))))
    refine fY (i + 1) ⟨hin, fun j h => by
      by_cases e:j = i
      ·rw [e]; exact h3
      ·exact h0 j zo⟩ zo (zS rfl) (aU (aB rfl) (aU (aB rfl) aY))
  ·have hin : i = l.length := by simp only [decide_eq_false_iff_not] at hd; omega
   have h3:rY z.length l = 0:=jL (by rw [hin] at h0; exact h0)
   have he:vO z.length l = 0:=hok.trans h3
   refine gW rfl (ts (ro rfl (eW A_32 Z_32 (Ht rfl) (i:=0) rfl rfl rfl) (ro rfl (cZ (bM.to (Ht rfl) (kY (Ka h3)))) (kC Tryz.call122 (Ot (Q:=iN l) (m:=l.length) hs (Gs h3) (tK l) hll hl) ⟨(Ht rfl),(Ht rfl),trivial⟩ rfl (fun B36 _=>(gX Z_32 (Ht rfl) (Ht rfl) rfl (i:=1) rfl (aK rfl) rfl rfl (ro rfl (cX (cV 0)) (eZ (Ao 1 2 1 rfl rfl rfl (by decide) (a5a (q:=fun _=>True) (M:=nD s (iN l)) (by rw [(tR s (iN l)).1,tK])) ?_)))))))))
   refine bN rfl (fZ (fU A_32 Z_32 rfl (i:=1) rfl rfl) ?_) (fZ (eY rfl) ?_)
   ·exact (fun v V h=>by rw [yZ,qZ,dA,dA,he]; exact h)
   ·exact (aS he.symm)
end
section
open Go Go.RowKit
section
variable {P:Program} {R:hJ} {cx:Cx} {n:Nat} {k:List It} {E:cT} {H:Hp}
theorem HH.two {base:Nat} {w:World} {V:bA} {Z:SA} {X:Hp} (h:HH base w V (Z :: X)):HH base w V [Z,gL (SA.emp :: X)]:=by
 have h1:HH base w V ((Z :: X).set 0 SA.emp ++ [Z]):=h.last rfl
 have h2:HH base w V (gL (SA.emp :: X) :: [Z]):=HH.repack h1
 exact h2.pick (is:=[1,0]) ⟨⟨_,rfl,fun _ _ _ h=>h⟩,⟨_,rfl,fun _ _ _ h=>h⟩,trivial⟩ (by decide)
theorem gO.pack {f : FuncId} {Ts : List Ty} {γ : Type} {U : γ → Ty} {X : γ → Hp} {Q : γ → Prop} (h : gO P f Ts [] γ U X Q) : gO P f Ts [] γ U (fun x => [gL (SA.emp :: X x)]) Q :=
 fun cx Z vs V w h1 h2=>(h cx Z vs V w h1 h2).mono fun e w' ⟨v,V',x,a,b,c,d,e'⟩=>⟨v,V',x,a,b,c.withHH c.hp.two,d,e'⟩
end
namespace W
variable {P:Program} {R:hJ} {cx:Cx} {n:Nat} {k:List It} {E:cT} {H:Hp} {Hf:Bool → Hp} {p:Nat}
end W
end
section
open Go Go.RowKit
section
variable {P:Program} {R:hJ} {cx:Cx} {n:Nat} {k:List It} {E:cT} {H:Hp} {ops:Array Oper} {o:Oper} {rest:List Oper}
variable {d:Option Tmp} {t:TypeId} {pos:String} {af:Array Edge} {g:Option (Nat × Bool)}
def hdr : Option (Nat × Nat) → Nat → Value
 | none,_=>.slice none 0 0
 | some (b,cp),l=>.slice (some ⟨b,0,none⟩) l cp
instance shHdr (x:Option (Nat × Nat)) (l:Nat):dI (Is (hdr x l)) 1 false:=by
 match x with
 | none=>exact inferInstanceAs (dI (Is (.slice none 0 0)) 1 false)
 | some (b,cp)=>exact inferInstanceAs (dI (Is (.slice (some ⟨b,0,none⟩) l cp)) 1 false)
end
end
section
open Go Go.RowKit
theorem Km {n:Nat} {l:List Int} (h:vO n l = 0):l.length = n ∧ rY n l = 0:=by
 by_cases c:l.length = n
 ·exact ⟨c,by rw [← Nh c]; exact h⟩
 ·rw [Ce c] at h; omega
theorem a3g {z:List Qi} {s c:List (List Qi)} {l:List Int} (hs:cM s z.length z.length) (hc:cM c z.length z.length) (hl:z.length ≤ 100) (hll:l.length ≤ 1000):bH Tryz.prog 36 [fD z s c,jT 1 (l.map (aO .i64))] (fI [fD (yZ z l) (qZ z s l) (qZ z c l),aO .i64 (vO z.length l)]):=by
 have hcl:=hc.1
 have hR:=a0l (z:=z) (s:=s) (l:=l) hs zo hll
 refine bH.intro Tryz.func36 rfl Tryz.ntmps36 rfl (fun cx=>(ts (rn rfl (fK (Ht rfl)) fun B2=>(rn rfl (eG (Ts:=[Is (.slice none 0 0),Is (.slice none 0 0),Is (.slice none 0 0)]) O_34 rfl (fun V=>aW zd (aW zd (aW zd (aG))))) fun B4=>(ro rfl (cX (cV 0)) (eZ (ts (ro rfl (eJ mD (Ht rfl) rfl) (ro rfl (eW A_32 Z_32 (Ht rfl) (i:=0) rfl rfl rfl) (rm rfl (ro rfl (cJ Tryz.call33 hR ⟨(Ht rfl),(Ht rfl),trivial⟩) (rm rfl (ro rfl (dU (Ht rfl) rfl) ?_)))))))))))))
 refine ro rfl (dU (Ht rfl) rfl) (rn rfl (eG (Ts:=[Is (.slice none 0 0),Is (.slice none 0 0)]) O_32 rfl (fun V=>aW zd (aW zd (aG)))) fun B6=>(gX Z_32 (Ht rfl) (Ht rfl) rfl (i:=2) rfl (aK rfl) rfl rfl (ra rfl (eZ (cU (ts (rm rfl (ro rfl (kA (Ht rfl) cW) (eZ (dX (Ht rfl) (fun hb1=>?_) (fun hb1=>?_)))))))))))
 ·have he : vO z.length l ≠ 0 := by simpa using hb1
  refine ts (ro rfl (aM.imp (rH ) mY) (rm rfl (gX Z_34 (Ht rfl) (Ht rfl) rfl (i:=1) rfl (aK rfl) rfl rfl (ra rfl (eZ (bN rfl (fZ (fU A_34 Z_34 rfl (i:=1) rfl rfl) ?_) (eY rfl)))))))
  exact (fun v V h=>by rw [yZ,qZ,qZ,dA,dA,dA,if_neg he,if_neg he,if_neg he]; exact h)
 ·have he : vO z.length l = 0 := by simpa using hb1
  obtain ⟨hll2,hp⟩:=Km he
  have hz:yZ z l = uU z (iN l):=by rw [yZ,dA,if_pos he]
  have hs2:qZ z s l = nD s (iN l):=by rw [qZ,dA,if_pos he]
  have hc2:qZ z c l = nD c (iN l):=by rw [qZ,dA,if_pos he]
  have hpi:=Ka hp
  have hQ:=Gs hp
  have hQl:=tK l
  rw [hz,hs2,hc2,he]
  rw [hpi]
  generalize iN l = Q at *
  have hQn:Q.length = z.length:=by omega
  refine cY (ts (rm rfl (ro rfl (dK U_72 (Ht rfl) (show ((((Q.map Nat.succ).map (NT .i64)).length:Nat):Int) = ((Q.length:Nat):Int) by simp)) (rn rfl (eM (T:=Is (.slice none 0 0)) (i:=Tryz.t29) V_30 lH rfl rfl (Ht rfl) rfl (fun _=>rfl) trivial (by show 24 * _ ≤ _; omega) zo) fun B26=>(ra rfl (eZ (cU (ts (rm rfl (ro rfl (dK U_72 (Ht rfl) (show ((((Q.map Nat.succ).map (NT .i64)).length:Nat):Int) = ((Q.length:Nat):Int) by simp)) (ro rfl (cZ (cV 0)) (eZ (eK (nZ 3 rfl (uI (e:=51) (s:=5)) ?_))))))))))))))
  refine cF (fun (i : Nat) => i ≤ Q.length) (fun (i : Nat) => Q.length - i) (fun (i : Nat) => [(1, nN (Q.map Nat.succ)), (2, bT B2 0), (4, bT B4 0), (6, bT B6 0), (8, Is (.slice (some ⟨B26, 0, none⟩) Q.length Q.length)), (27, nN (Q.map Nat.succ)), (28, NT .i64 Q.length), (29, NT .i64 i)]) (fun (i : Nat) => [box B2 34 [aR z, bB s, bB c], box B4 34 [Is (.slice none 0 0), Is (.slice none 0 0), Is (.slice none 0 0)], box B6 32 [aR (uU z Q), bB (nD s Q)], nR B26 29 51 5 (cE aH (mA (fun i => tab Q.length fun j => gm c (fR Q i) (fR Q j)) [] Q.length i))]) 0 (Nat.zero_le _)
   (zS rfl) (aU (aB rfl) (aU (aB rfl) (aU (aB rfl) (aU (cB (by rw [← jS,kS]; exact mL aH _)) aY)))) (fun i hi=>?_)
  refine ts (ro rfl (gZ (Ht rfl) (Ht rfl)) (eZ (cU (dX (Ht rfl) (fun hd=>?_) (fun hd=>?_)))))
  ·have hdn : i < Q.length := by simp only [decide_eq_true_eq] at hd; omega
   have hqi:=pH hQ hdn
   have hcr:=hc.row hqi
   refine nG 3 (i) rfl (mE hdn) (fun v=>(cY (cU (eK (ts (rm rfl (ro rfl (dJ U_72 Z_3 (Ht rfl) (Ht rfl) rfl (eQ (xB hdn))) (ro rfl (dV A_3 Z_3 (Ht rfl)) (ra rfl (ra rfl (eZ (ts (rm rfl (ro rfl (dK U_72 (Ht rfl) (show ((((Q.map Nat.succ).map (NT .i64)).length:Nat):Int) = ((Q.length:Nat):Int) by simp)) (ro rfl (cZ (cV 0)) (eZ (eK ?_)))))))))))))))))
   refine fS (fun (j : Nat) (v : Value) => j ≤ Q.length) (fun (j : Nat) (v : Value) => Q.length - j) (fun (j : Nat) (v : Value) => [(1, nN (Q.map Nat.succ)), (2, bT B2 0), (4, bT B4 0), (6, bT B6 0), (8, Is (.slice (some ⟨B26, 0, none⟩) Q.length Q.length)), (9, NT .i64 i), (10, NT .i64 (fR Q i + 1)), (27, nN (Q.map Nat.succ)), (28, NT .i64 Q.length), (29, NT .i64 i), (34, nN (Q.map Nat.succ)), (35, NT .i64 Q.length), (36, NT .i64 j)]) (fun (j : Nat) (v : Value) => [box B2 34 [aR z, bB s, bB c], box B4 34 [Is (.slice none 0 0), Is (.slice none 0 0), Is (.slice none 0 0)], box B6 32 [aR (uU z Q), bB (nD s Q)], Di B26 29 51 5 (cE aH (mA (fun i => tab Q.length fun j => gm c (fR Q i) (fR Q j)) [] Q.length i)) i v, cC 51 5 v ((tab j fun j => gm c (fR Q i) (fR Q j)).map aH)]) 0 v (Nat.zero_le _)
    (zS rfl) (dM.refl _) (fun j v hj=>?_)
   refine ts (ro rfl (gZ (Ht rfl) (Ht rfl)) (eZ (cU (dX (Ht rfl) (fun he2=>?_) (fun he2=>?_)))))
   ·have hjn : j < Q.length := by simp only [decide_eq_true_eq] at he2; omega
    have hqj:=pH hQ hjn
    refine cY (cU (eK (ts (ro rfl (dJ U_72 Z_3 (Ht rfl) (Ht rfl) rfl (eQ (xB hjn))) (ro rfl (dV A_3 Z_3 (Ht rfl)) (ra rfl (eZ (Y.D_startA (m:=18) [] 17 4 rfl rfl (cQ (Ei:=[(8,_)]) rfl rfl (bQ (bJ rfl rfl) bX) rfl rfl (dZ rfl (cZ (Ht rfl))) (cQ (Ei:=[(9,_)]) rfl rfl (bQ (bJ rfl rfl) bX) rfl rfl (dZ rfl (cZ (Ht rfl))) (cQ (Ei:=[(8,_)]) rfl rfl (bQ (bJ rfl rfl) bX) rfl rfl (dZ rfl (cZ (Ht rfl))) ?_)))))))))))
    refine cQ (Ei:=[(9,_)]) rfl rfl (bQ (bJ rfl rfl) bX) rfl rfl (dZ rfl (cZ (Ht rfl))) (cQ (Ei:=[(42,_),(43,_)]) rfl rfl (bQ (bZ 2 rfl rfl) (bQ (bZ 3 rfl rfl) bX)) rfl rfl (dZ rfl (gQ U_30 Z_29 (Ht rfl) (Ht rfl) rfl zo (by rw [Nat.mul_one,Nat.zero_add]))) ?_)
    refine cQ (Ei:=[(44,_)]) rfl rfl (bQ (bZ 4 rfl rfl) bX) rfl rfl (dZ rfl (jZ A_29 Z_29 (Ht rfl) (j:=3) rfl)) (cQ (Ei:=[(2,_)]) rfl rfl (bQ (bJ rfl rfl) bX) rfl rfl (dZ rfl (eJ lG (Ht rfl) rfl)) (cQ (Ei:=[(46,_)]) rfl rfl (bQ (bZ 6 rfl rfl) bX) rfl rfl (dZ rfl (fQ A_30 Z_30 (Ht rfl) (i:=0) rfl rfl)) (cQ (Ei:=[(10,_)]) rfl rfl (bQ (bJ rfl rfl) bX) rfl rfl (dZ rfl (cZ (Ht rfl))) (cQ (Ei:=[(48,_)]) rfl rfl (bQ (bZ 8 rfl rfl) bX) rfl rfl (dZ rfl (aM.nat (dG (Ht rfl) (cV 1) zo z6) (show fR Q i + 1 - 1 = fR Q i by omega))) ?_))))
    refine cQ (Ei:=[(47,_),(49,_)]) rfl rfl (bQ (bZ 7 rfl rfl) (bQ (bZ 9 rfl rfl) bX)) rfl rfl (dZ rfl (dJ U_30 Z_29 (Ht rfl) (Ht rfl) rfl (eQ (dY (d:=[]) zo)))) (cQ (Ei:=[(50,_)]) rfl rfl (bQ (bZ 10 rfl rfl) bX) rfl rfl (dZ rfl (dV A_29 Z_29 (Ht rfl))) (cQ (Ei:=[(12,_)]) rfl rfl (bQ (bJ rfl rfl) bX) rfl rfl (dZ rfl (cZ (Ht rfl))) (cQ (Ei:=[(52,_)]) rfl rfl (bQ (bZ 12 rfl rfl) bX) rfl rfl (dZ rfl (aM.nat (dG (Ht rfl) (cV 1) zo z6) (show fR Q j + 1 - 1 = fR Q j by omega))) ?_)))
    refine cQ (Ei:=[(51,_),(53,_)]) rfl rfl (bQ (bZ 11 rfl rfl) (bQ (bZ 13 rfl rfl) bX)) rfl rfl (dZ rfl (dJ U_29 Z_51 (Ht rfl) (Ht rfl) rfl (eQ (dY (d:=Qi.zero) zo)))) (cQ (Ei:=[(54,_)]) rfl rfl (bQ (bZ 14 rfl rfl) bX) rfl rfl (dZ rfl (dV A_51 Z_51 (Ht rfl))) (cQ (Ei:=[(55,_)]) rfl rfl (bQ (bZ 15 rfl rfl) bX) rfl rfl (dZ rfl (cR (xs:=[.tmp 55]) U_29 Z_51 O_51 (cG (Ht rfl) cK) rfl rfl rfl)) ?_))
    refine Y.D_app (Ei:=[(45,_),(56,_)]) rfl rfl rfl rfl (bQ (bZ 5 rfl rfl) (bQ (bZ 16 rfl rfl) bX)) rfl (qF (inf:=Tryz.t51) lR jO rfl rfl rfl (Ht rfl) (Ht rfl) (by simp) (fun T hT=>by simp at hT; subst hT; exact El.ag rfl) (by show _ * 88 ≤ _; simp only [List.length_map,aN,List.length_cons,List.length_nil]; omega) (by simp only [List.length_map,aN,List.length_cons,List.length_nil]; omega)) ?_
    refine Y.D_done bE rfl (by kernel_rfl) rfl (by simp [Y.okP]) rfl rfl (bU (bU (bU (bU (bU (bU (bU (bU (bU (bU (bU (bU (bU (bU (bU (bU (bU (Y.F_app (fun v2=>Y.F_nil ?_)))))))))))))))))))
    refine ro rfl (gQ U_30 Z_29 (Ht rfl) (Ht rfl) rfl zo (by rw [Nat.mul_one,Nat.zero_add])) ?_
    refine uV Z_29 (Ht rfl) (Ht rfl) (by simp only [cE,List.length_map,eS]; omega) (j:=3) (l:=5) rfl rfl rfl ?_
    refine eZ (bO (dQ (ro rfl (dW (Ht rfl) (cV 1) z6) (rm rfl (eZ (cD [0,1,2,3,5] rfl (by decide) (fY (j + 1,v2) hjn (by dsimp only; omega) (zS rfl) (aU (aB rfl) (aU (aB rfl) (aU (aB rfl) (aU (fun _ _ _ h=>h) (aU (bR (by rw [tS,List.map_append]; rfl)) aY))))))))))))
   ·have hjn : j = Q.length := by simp only [decide_eq_false_iff_not] at he2; omega
    rw [hjn]
    refine gW rfl (bO (fP 3 4 rfl rfl (by decide) (by simp only [cE,List.length_map,eS]; omega) ?_))
    refine dQ (ro rfl (dW (Ht rfl) (cV 1) z6) (rm rfl (eZ (cD [0,1,2,3] rfl (by decide) (fY (i + 1) hdn zo (zS rfl) (aU (aB rfl) (aU (aB rfl) (aU (aB rfl) (aU (cB (by rw [gH,← lJ (f:=(fun i=>tab Q.length fun j=>gm c (fR Q i) (fR Q j)))])) aY)))))))))
  ·have hdn : i = Q.length := by simp only [decide_eq_false_iff_not] at hd; omega
   rw [hdn,lI,show tab Q.length (fun i=>tab Q.length fun j=>gm c (fR Q i) (fR Q j)) = nD c Q from rfl]
   refine gW rfl (gV (i:=3) (tt:=8) rfl rfl (iB (s:=5) (M:=nD c Q) (aN _ _).symm) (ts (ro rfl (eW A_32 Z_32 (Ht rfl) (i:=2) rfl rfl rfl) (rm rfl (ro rfl (mS (Ht rfl) (Ht rfl)) (gX Z_34 (Ht rfl) (Ht rfl) rfl (i:=1) rfl (aK rfl) rfl rfl (ro rfl (cX (cV 0)) (eZ ?_))))))))
   exact bN rfl (fU A_34 Z_34 rfl (i:=1) rfl rfl) (eY rfl)
end
section
open Go Go.RowKit
section
variable {z:List Qi} {s:List (List Qi)} {js:List (Int × Int)}
end
theorem Tb {α:Type} (l:List α):dA 0 l = l:=rfl
theorem a2b {t:Qi} (h:jJ t ≠ 0):jJ t = 1:=by
 unfold jJ at h ⊢; split at h
 ·exact absurd rfl h
 ·rename_i k; rw [if_neg k]
end
section
open Go Go.RowKit
theorem a3P {z:List Rt} {s c:List (List Rt)}:(Li z s c).all fB = true:=by
 unfold Li dA; split
 ·split
  ·rename_i h; exact (uJ h).2.2.2
  ·rfl
 ·rfl
structure a04 (t:Qi) (A0:List Qi) (A1 A2:List (List Qi)) (L:Nat):Prop where
 z:bP A0 L
 s:bC A1 L
 h:cM A1 A0.length A0.length
 l:A0.length ≤ 8
 e:A2 = jA t (gG A0 A1) A0.length
theorem Ca {t:Qi} {A0:List Qi} {A1 A2:List (List Qi)} {L:Nat} (h:a04 t A0 A1 A2 L) (hL:2 ≤ L) (hLb:L ≤ 10000000) (ht:aE t 2) (hw:jJ t = 0):bH Tryz.prog 57 [gT A0 A1,aH t] (fI [fD A0 A1 A2,aO .i64 0]) ∧ bH Tryz.prog 52 [fD A0 A1 A2,fD A0 A1 A2] (aD true):=by
 obtain ⟨h1,h2,h3,h4,rfl⟩:=h
 have a:=Vg h1 h2 (ht.le hL) zo hLb h3 h4
 rw [hw,Tb,Tb,Tb] at a
 have b:=Au (L:=5000000000) (h1.le zo) (h1.le zo) (h2.le zo) (h2.le zo) (by decide) (by decide) h3 h3 zo zo ((Cj ht (tJ h1 h2 zo h4) zo).le zo) ((Cj ht (tJ h1 h2 zo h4) zo).le zo) mN mN
 rw [Bw,decide_eq_true rfl] at b
 exact ⟨a,b⟩
section
variable {z w:List Qi} {s:List (List Qi)} {t g:Qi} {port:Int} {l:List Int}
theorem a1X {X:List (List Qi)} {Q:List Nat} {n:Nat} (hl:Q.length = n) (hQ:∀ x,x ∈ Q → x < n):nD (jA t X n) Q = jA t (nD X Q) n:=by
 refine jP (n:=n) (m:=n) (by rw [← hl]; exact tR _ _) mN fun i hi j hj=>?_
 have a:=pH hQ (show i < Q.length by omega)
 have b:=pH hQ (show j < Q.length by omega)
 rw [show gm (nD (jA t X n) Q) i j = gm (jA t X n) (fR Q i) (fR Q j) from eR zo zo,jA,eR a b,jA,eR hi hj,show gm (nD X Q) i j = gm X (fR Q i) (fR Q j) from eR zo zo]
theorem a00 (hz:bP z 2) (hs:bC s 2) (hsh:cM s z.length z.length) (hl:z.length ≤ 8) (hg:aE g 2) (he:Lj z s port g t = 0):a04 t (ntZ z s port g t) (ntS z s port g t) (ntQ z s (jA t (gG z s) z.length) port g t) 100:=by
 have hw : jJ t = 0 := by
  apply Decidable.byContradiction; intro h
  rw [Lj,if_neg h] at he; exact h he
 have ht:pM z s port g = 0:=by rw [Lj,if_pos hw] at he; exact he
 obtain ⟨hb,hn1,hD⟩:=Le ht
 have e1:ntZ z s port g t = uT z (port - 1).toNat (z.length - 1):=by rw [ntZ,dA,if_pos he]
 have e2:ntS z s port g t = yI s (port - 1).toNat (z.length - 1) (iO s (port - 1).toNat g):=by rw [ntS,dA,if_pos he]
 have e3:tT z s port g = yI s (port - 1).toNat (z.length - 1) (iO s (port - 1).toNat g):=by rw [tT,dA,if_pos ht]
 have e4:ntQ z s (jA t (gG z s) z.length) port g t = ntC z s (jA t (gG z s) z.length) g t (port - 1).toNat:=by rw [ntQ,dA,if_pos he]
 have hl1:(uT z (port - 1).toNat (z.length - 1)).length = z.length - 1:=aN _ _
 rw [e1,e2,e4]
 refine ⟨fun x hx=>?_,?_,?_,by omega,?_⟩
 ·obtain ⟨i, hi, rfl⟩ := eA.1 hx
  exact (hz.get (by decide) _).le (by decide)
 ·rw [← e3]; exact (Zy hs hg (by decide)).le (by decide)
 ·rw [hl1]; exact cM.tab
 ·rw [hl1]; exact a26 rfl hsh zo hn1 hD
theorem Zd (hz:bP z 2) (hs:bC s 2) (hsh:cM s z.length z.length) (hl:z.length ≤ 8) (he:vO z.length l = 0):a04 t (yZ z l) (qZ z s l) (qZ z (jA t (gG z s) z.length) l) 100:=by
 obtain ⟨h0,hp⟩:=Km he
 have hQ:=Gs hp
 have hQl:(iN l).length = z.length:=by rw [tK,h0]
 have e1:yZ z l = uU z (iN l):=by rw [yZ,dA,if_pos he]
 have e2:qZ z s l = nD s (iN l):=by rw [qZ,dA,if_pos he]
 have e3:qZ z (jA t (gG z s) z.length) l = nD (jA t (gG z s) z.length) (iN l):=by rw [qZ,dA,if_pos he]
 rw [e1,e2,e3]
 refine ⟨fun x hx=>?_,bC.tab fun i j _ _=>(hs.get (by decide) _ _).le (by decide),?_,by rw [nW]; omega,?_⟩
 ·obtain ⟨i, hi, rfl⟩ := eA.1 hx
  exact (hz.get (by decide) _).le (by decide)
 ·rw [nW]; exact tR _ _
 ·rw [a1X hQl hQ,a1M hsh he,nW,hQl]
theorem a2E (hz : bP z 2) (hw : bP w 2) (hs : bC s 2) (hp : z.all fB = true) (hl8 : z.length ≤ 8) (hl : w.length = z.length) (i : Nat) (_ : i < w.length) : SzS (yR z w s) (ek w.length i) w.length (st8 28) (Ku 28) :=
 a5H (zW _ _ _ _) (Gj (Gx hz hw (by decide) (by decide) hp hl) (Gw hz hw (by decide) (by decide) hp hl) hs (by decide) (by decide)) (a3s (by decide)) (by decide) (by decide) zo
theorem Qw (hz:bP z 2) (hw:bP w 2) (hs:bC s 2) (hp:z.all fB = true) (hl8:z.length ≤ 8):bC (nX z w s) 2060000:=by
 by_cases h:Aa z w s = 0
 ·have hl := Zg h
  obtain ⟨hq,hi,-,-⟩:=wY (n:=w.length) hl.symm rfl h
  rw [nX,dA,if_pos h]
  exact (Jr (L:=28) (M:=Ku 28) (Gj (Gw hz hw (by decide) (by decide) hp hl) (Gx hz hw (by decide) (by decide) hp hl) hs (by decide) (by decide)) (Ef (a2E hz hw hs hp hl8 hl) hi) (by decide) (Nm 28) zo).le (by decide)
 ·rw [nX,dA,if_neg h]; exact bC.nil
theorem a1Q (hz:bP z 2) (hw:bP w 2) (hs:bC s 2) (hsh:cM s z.length z.length) (hl8:z.length ≤ 8) (hp:z.all fB = true) (he:Aa z w s = 0):a04 t (Zf z w s) (nX z w s) (nrC z w s (jA t (gG z s) z.length)) 2060000:=by
 have hl:=Zg he
 obtain ⟨hq,hi,hS,hZ⟩:=wY (n:=w.length) hl.symm rfl he
 have hS2:cM (nX z w s) w.length w.length:=by rw [hS]; exact kM
 refine ⟨by rw [hZ]; exact hw.le (by decide),Qw hz hw hs hp hl8,by rw [hZ]; exact hS2,by rw [hZ]; omega,?_⟩
 rw [nrC,dA,if_pos he,hZ,If (by rw [(lE z s).1]),a3U hl.symm rfl (by rw [hl]; exact hsh) hp he,(Gm z w (nX z w s) w.length).1]
end
theorem uS {z w:List Rt} {s c:List (List Rt)} {g h:Rt} {port:Int} {l:List Int}:bH Tryz.prog 11 [Ug z s c,Hm g,Hm h,aO .i64 port,jT 1 (l.map (aO .i64)),pP w] (aD true):=by
 refine bH.intro Tryz.func11 rfl Tryz.ntmps11 rfl (fun cx=>(ts (rn rfl (fK (Ht rfl)) fun B6=>(rn rfl (fK (Ht rfl)) fun B7=>(rn rfl (fK (Ht rfl)) fun B8=>(ro rfl (cX cW) (eZ (cU (ts (ro rfl (eW Tryz.isAgg25 Tryz.sizeOf25 (Ht rfl) (i:=0) rfl rfl rfl) (ro rfl (cJ Tryz.call15 a4Z ⟨(Ht rfl),trivial⟩) (ro rfl (eN (Ht rfl)) (rm rfl (fX rfl rfl (eU rfl rfl (Ht rfl) (fun h=>cZ (Ht rfl))) (fX rfl rfl (eU rfl rfl (Ht rfl) (fun h=>dK U_72 (fV rfl h) aA)) (fX rfl rfl (eU rfl rfl (Ht rfl) (fun h=>eL (fV rfl h) (cV 9))) ?_))))))))))))))))
 refine ro rfl (jI (Ht rfl) (fun h=>(fV rfl h))) (rm rfl (fX rfl rfl (eU rfl rfl (Ht rfl) (fun h=>cZ (Ht rfl))) (fX rfl rfl (eU rfl rfl (Ht rfl) (fun h=>dK U_22 (fV rfl h) aA)) (fX rfl rfl (eU rfl rfl (Ht rfl) (fun h=>eL (fV rfl h) (cV 9))) (ro rfl (jI (Ht rfl) (fun h=>(fV rfl h))) (eZ (dX (Ht rfl) (fun hb=>?_) (fun hb=>?_))))))))
 ·refine ts (ro rfl (cJ Tryz.call16 zC trivial) (ra rfl (eZ ?_)))
  exact fG rfl (eY rfl)
 ·have hf1 : xS z s c = true := by
   apply Decidable.byContradiction; intro h
   simp [h] at hb
  have hll : l.length ≤ 9 := by
   apply Decidable.byContradiction; intro h
   simp [hf1] at hb; omega
  have hwl : w.length ≤ 9 := by
   apply Decidable.byContradiction; intro h
   simp [hf1] at hb; omega
  have hm1:=a3f hf1
  obtain ⟨m1,m2,m3⟩:=Xs (z:=z) (s:=s) (c:=c)
  obtain ⟨m4,m5,m6⟩:=a3O (z:=z) (s:=s) (c:=c)
  have mp:=a3P (z:=z) (s:=s) (c:=c)
  have hg2:aE g.q 2:=inferInstance
  have hh2:aE h.q 2:=inferInstance
  have hw2:bP (w.map Rt.q) 2:=bP.rt
  obtain ⟨X0,hX0⟩:∃ X0,X0 = Li z s c:=⟨_,rfl⟩
  obtain ⟨X1,hX1⟩:∃ X1,X1 = mdS z s c:=⟨_,rfl⟩
  rw [← hX0,← hX1] at hm1 m1
  rw [← hX0] at m2 m3 m4 mp
  rw [← hX1] at m5
  have hO1:=Vg (z:=X0) (s:=X1) (t:=g.q) (L:=2) m4 m5 hg2 (by decide) (by decide) m1 m3
  obtain ⟨e,he⟩:∃ e,e = jJ g.q:=⟨_,rfl⟩
  rw [← he] at hO1
  obtain ⟨C1,hC1⟩:∃ C1,C1 = jA g.q (gG X0 X1) X0.length:=⟨_,rfl⟩
  rw [← hC1] at hO1
  have s1:cM C1 X0.length X0.length:=by rw [hC1]; exact mN
  have g1:bC C1 60000:=by rw [hC1]; exact (Cj hg2 (tJ m4 m5 (by decide) m3) (by decide)).le (by decide)
  have hLo:=Ly (z:=X0) (s:=X1) (L:=2) m4 m5 (by decide) (by decide) mp m1 m3
  have hz0:bC (qA X0.length X0.length) 60000:=bC.tab fun _ _ _ _=>aE.zero (by decide)
  have hEq:=Au (L:=60000) (m4.le (by decide)) (m4.le (by decide)) (m5.le (by decide)) (m5.le (by decide)) (by decide) (by decide) m1 m1 zo zo g1 hz0 s1 (uP _ _)
  rw [Bw] at hEq
  have hlos:Bs X0 X1 = true → C1 = qA X0.length X0.length:=fun h=>by rw [hC1,Xo m1 mp h,Zj]
  refine cY (ts (ro rfl (eW Tryz.isAgg25 Tryz.sizeOf25 (Ht rfl) (i:=0) rfl rfl rfl) (ro rfl (cJ Tryz.call17 hm1 ⟨(Ht rfl),trivial⟩) (rm rfl (ro rfl (dU (Ht rfl) rfl) (ro rfl (dU (Ht rfl) rfl) (ro rfl (dU (Ht rfl) rfl) (rn rfl (eG (Ts:=[Is (.slice none 0 0),Is (.slice none 0 0),Is (.slice none 0 0)]) O_34 rfl (fun V=>aW zd (aW zd (aW zd (aG))))) fun B13=>(rn rfl (eG (Ts:=[Is (.slice none 0 0),Is (.slice none 0 0),Is (.slice none 0 0)]) O_40 rfl (fun V=>aW zd (aW zd (aW zd (aG))))) fun B14=>?_)))))))))
  refine gX Z_34 (Ht rfl) (Ht rfl) rfl (i:=3) rfl (aK rfl) rfl rfl (gX Z_40 (Ht rfl) (Ht rfl) rfl (i:=4) rfl (aK rfl) rfl rfl (ra rfl (eZ (cU (cD [0,1,2,3,4] rfl (by decide) (dQ (ro rfl (eW A_102 Z_102 (Ht rfl) (i:=1) rfl rfl rfl) (ro rfl (cJ Tryz.call58 Fo ⟨(Ht rfl),trivial⟩) (rn rfl (eG (Ts:=[Is (.bool false),Is (.slice none 0 0),Is (.bool false),Is (.slice none 0 0),Is (.slice none 0 0)]) O_51 rfl (fun V=>aW zd (aW zd (aW zd (aW zd (aW zd (aG))))))) fun B16=>?_)))))))))
  refine gX Z_51 (Ht rfl) (Ht rfl) rfl (i:=5) rfl (aK rfl) rfl rfl (eZ (cU (cD [0,1,2,3,4,5] rfl (by decide) (Y.D_start (m:=9) [] (cQ (Ei:=[(13,_)]) rfl rfl (bQ (bJ rfl rfl) bX) rfl rfl (dZ rfl (eW A_34 Z_34 (Ht rfl) (i:=3) rfl rfl rfl)) (cQ (Ei:=[(49,_)]) rfl rfl (bQ (bZ 0 rfl rfl) bX) rfl rfl (dZ rfl (cJ K_51 qL ⟨(Ht rfl),trivial⟩)) (cQ (Ei:=[(16,_)]) rfl rfl (bQ (bJ rfl rfl) bX) rfl rfl (dZ rfl (eW A_51 Z_51 (Ht rfl) (i:=5) rfl rfl rfl)) ?_)))))))
  refine cQ (Ei:=[(50,_),(51,_)]) rfl rfl (bQ (bZ 1 rfl rfl) (bQ (bZ 2 rfl rfl) bX)) rfl rfl (dZ rfl (cJ Tryz.call57 hO1 ⟨(Ht rfl),(Ht rfl),trivial⟩)) (cQ (Ei:=[(52,_)]) rfl rfl (bQ (bZ 3 rfl rfl) bX) rfl rfl (dZ rfl (cZ (Ht rfl))) (cQ (Ei:=[(48,_)]) rfl rfl (bQ (bZ 4 rfl rfl) bX) rfl rfl (dZ rfl (dU (Ht rfl) rfl)) (cQ (Ei:=[(48,_)]) rfl rfl (bQ (bZ 4 rfl rfl) bX) rfl rfl (dZ rfl (dU (Ht rfl) rfl)) (Y.D_newp (Ei:=[]) (fun bb=>box bb 34 [aR (dA e X0),bB (dA e X1),bB (dA e C1)]) 8 rfl rfl rfl bX rfl rfl (by kernel_rfl) (eG (Ts:=[Is (.slice none 0 0),Is (.slice none 0 0),Is (.slice none 0 0)]) O_34 rfl (fun V=>aW zd (aW zd (aW zd (aG))))) ?_))))
  refine Y.D_putN (Ei:=[(53,_)]) 7 rfl rfl rfl rfl rfl rfl (bQ (bZ 5 rfl rfl) bX) (fun bb=>lA Z_34 (Ht rfl) (Ht rfl) rfl (i:=0) rfl (aK rfl) rfl rfl) (Y.D_done bE rfl (by kernel_rfl) rfl (by simp [Y.okP]) rfl rfl (bU (bU (bU (bU (bU (bU (bU (Y.F_newp (fun B17=>Y.F_putN (Y.F_nil ?_)))))))))))
  refine ra rfl (eZ (cU (cU (cD [0,1,2,3,4,5,6] rfl (by decide) (dQ (rm rfl (ro rfl (kA (Ht rfl) cW) (eZ (dX (Ht rfl) (fun hc=>?_) (fun hc=>?_))))))))))
  ·have h1 : e = 1 := by rw [he]; exact a2b (by rw [← he]; simpa using hc)
   refine ts (rm rfl (ro rfl (jH (Ht rfl) cW) (rm rfl (fX rfl rfl (eU rfl rfl (Ht rfl) (fun h=>cJ Tryz.call16 zC trivial)) (ro rfl (fM (Ht rfl) (fun h=>(fV rfl h))) (ra rfl (eZ (fG rfl (fZ (eY rfl) ?_)))))))))
   exact (dH (by simp [h1]))
  ·have h0 : e = 0 := by simpa using hc
   obtain rfl:=h0
   rw [Tb,Tb,Tb]
   have hT:=Vl (port:=port) (G:=60000) (by decide) (by decide) m4 m5 g1 hh2 hg2 m1 s1 m3
   have hTo:Lj X0 X1 port h.q g.q = 0 → _:=fun hE=>Ca (a00 (t:=g.q) m4 m5 m1 m3 hh2 hE) (by decide) (by decide) hg2 he.symm
   rw [← hC1] at hTo
   have hR:=a3g (l:=l) m1 s1 zo zo
   have hRo:vO X0.length l = 0 → _:=fun hE=>Ca (Zd (t:=g.q) (l:=l) m4 m5 m1 m3 hE) (by decide) (by decide) hg2 he.symm
   rw [← hC1] at hRo
   have hN:=Rr (w:=w.map Rt.q) (c:=C1) (V:=2060000) m1 s1 m4 hw2 m5 g1 (by decide) (by decide) (by decide) (by decide) (by decide) (by decide) (by decide) (by decide) mp m3 (by rw [List.length_map]; omega) (fun hl=>a2E m4 hw2 m5 mp m3 hl) (by decide) (Qw m4 hw2 m5 mp m3) (by decide) (by decide)
   have hNo:Aa X0 (w.map Rt.q) X1 = 0 → _:=fun hE=>Ca (a1Q (t:=g.q) m4 hw2 m5 m1 m3 mp hE) (by decide) (by decide) hg2 he.symm
   rw [← hC1] at hNo
   obtain ⟨U0,hU0⟩:∃ x,x = ntZ X0 X1 port h.q g.q:=⟨_,rfl⟩
   obtain ⟨V0,hV0⟩:∃ x,x = ntS X0 X1 port h.q g.q:=⟨_,rfl⟩
   obtain ⟨W0,hW0⟩:∃ x,x = ntQ X0 X1 C1 port h.q g.q:=⟨_,rfl⟩
   obtain ⟨Y0,hY0⟩:∃ x,x = Lj X0 X1 port h.q g.q:=⟨_,rfl⟩
   rw [← hU0,← hV0,← hW0,← hY0] at hT hTo
   obtain ⟨U1,hU1⟩:∃ x,x = yZ X0 l:=⟨_,rfl⟩
   obtain ⟨V1,hV1⟩:∃ x,x = qZ X0 X1 l:=⟨_,rfl⟩
   obtain ⟨W1,hW1⟩:∃ x,x = qZ X0 C1 l:=⟨_,rfl⟩
   obtain ⟨Y1,hY1⟩:∃ x,x = vO X0.length l:=⟨_,rfl⟩
   rw [← hU1,← hV1,← hW1,← hY1] at hR hRo
   obtain ⟨U2,hU2⟩:∃ x,x = Zf X0 (w.map Rt.q) X1:=⟨_,rfl⟩
   obtain ⟨V2,hV2⟩:∃ x,x = nX X0 (w.map Rt.q) X1:=⟨_,rfl⟩
   obtain ⟨W2,hW2⟩:∃ x,x = nrC X0 (w.map Rt.q) X1 C1:=⟨_,rfl⟩
   obtain ⟨Y2,hY2⟩:∃ x,x = Aa X0 (w.map Rt.q) X1:=⟨_,rfl⟩
   rw [← hU2,← hV2,← hW2,← hY2] at hN hNo
   refine cY (cU (cU (fJ (m:=8) (dp 13 rfl (eW A_34 Z_34 (Ht rfl) (i:=3) rfl rfl rfl) (dq 62 0 rfl (cJ K_51 qL ⟨(Ht rfl),trivial⟩) (dq 63 1 rfl (cJ Tryz.call59 hLo ⟨(Ht rfl),trivial⟩) (dq 64 2 rfl (cZ (Ht rfl)) (C.D_step (Ei:=[(17,_),(65,_)]) rfl rfl (bV (bK rfl rfl) (bV (bG 3 rfl rfl) bW)) (eU rfl rfl (Ht rfl) (fun h=>eW A_34 Z_34 (Ht rfl) (i:=6) rfl rfl rfl)) (C.D_step (Ei:=[(13,_),(65,_)]) rfl rfl (bV (bK rfl rfl) (bV (bG 3 rfl rfl) bW)) (eU rfl rfl (Ht rfl) (fun h=>eW A_34 Z_34 (Ht rfl) (i:=3) rfl rfl rfl)) ?_)))))))))
   refine C.D_step (Ei:=[(67,_),(65,_)]) rfl rfl (bV (bG 5 rfl rfl) (bV (bG 3 rfl rfl) bW)) (eU rfl rfl (Ht rfl) (fun h=>cJ K_51 qL ⟨(fV rfl h),trivial⟩)) (C.D_step (Ei:=[(68,_),(65,_)]) rfl rfl (bV (bG 6 rfl rfl) (bV (bG 3 rfl rfl) bW)) (eU rfl rfl (Ht rfl) (fun h=>cJ Tryz.call60 (a0k zo) ⟨(fV rfl h),trivial⟩)) (fW bE rfl (by kernel_rfl) (zF (zF (aV (fX rfl rfl (eU rfl rfl (Ht rfl) (fun h=>cJ Tryz.call52 hEq ⟨(fV rfl h),(fV rfl h),trivial⟩)) ?_))))))
   refine fX rfl rfl (eU rfl rfl (Ht rfl) (fun h=>eN (fV rfl h))) (ro rfl (fM (Ht rfl) (fun h=>(fV rfl h))) (eZ (nF (Ht rfl) (by by_cases hl:Bs X0 X1 = true <;> simp [hl,hlos]) ?_)))
   refine cY (cU (Y.D_start (m:=11) [] (cQ (Ei:=[(17,_)]) rfl rfl (bQ (bJ rfl rfl) bX) rfl rfl (dZ rfl (eW A_34 Z_34 (Ht rfl) (i:=6) rfl rfl rfl)) (cQ (Ei:=[(3,_)]) rfl rfl (bQ (bJ rfl rfl) bX) rfl rfl (dZ rfl (cZ (Ht rfl))) (cQ (Ei:=[(8,_)]) rfl rfl (bQ (bJ rfl rfl) bX) rfl rfl (dZ rfl (eW A_102 Z_102 (Ht rfl) (i:=2) rfl rfl rfl)) (cQ (Ei:=[(76,_)]) rfl rfl (bQ (bZ 2 rfl rfl) bX) rfl rfl (dZ rfl (cJ Tryz.call58 Fo ⟨(Ht rfl),trivial⟩)) ?_))))))
   refine cQ (Ei:=[(16,_)]) rfl rfl (bQ (bJ rfl rfl) bX) rfl rfl (dZ rfl (eW A_51 Z_51 (Ht rfl) (i:=5) rfl rfl rfl)) (cQ (Ei:=[(74,_),(75,_),(77,_),(78,_)]) rfl rfl (bQ (bZ 0 rfl rfl) (bQ (bZ 1 rfl rfl) (bQ (bZ 3 rfl rfl) (bQ (bZ 4 rfl rfl) bX)))) rfl rfl (dZ rfl (cJ Tryz.call61 hT ⟨(Ht rfl),(Ht rfl),(Ht rfl),(Ht rfl),trivial⟩)) (cQ (Ei:=[(79,_)]) rfl rfl (bQ (bZ 5 rfl rfl) bX) rfl rfl (dZ rfl (cZ (Ht rfl))) ?_))
   refine cQ (Ei:=[(73,_)]) rfl rfl (bQ (bZ 6 rfl rfl) bX) rfl rfl (dZ rfl (dU (Ht rfl) rfl)) (cQ (Ei:=[(73,_)]) rfl rfl (bQ (bZ 6 rfl rfl) bX) rfl rfl (dZ rfl (dU (Ht rfl) rfl)) (Y.D_newp (Ei:=[]) (fun bb=>box bb 34 [aR U0,bB V0,bB W0]) 10 rfl rfl rfl bX rfl rfl (by kernel_rfl) (eG (Ts:=[Is (.slice none 0 0),Is (.slice none 0 0),Is (.slice none 0 0)]) O_34 rfl (fun V=>aW zd (aW zd (aW zd (aG))))) ?_))
   refine Y.D_putN (Ei:=[(80,_)]) 9 rfl rfl rfl rfl rfl rfl (bQ (bZ 7 rfl rfl) bX) (fun bb=>lA Z_34 (Ht rfl) (Ht rfl) rfl (i:=0) rfl (aK rfl) rfl rfl) (Y.D_done bE rfl (by kernel_rfl) rfl (by simp [Y.okP]) rfl rfl (bU (bU (bU (bU (bU (bU (bU (bU (bU (Y.F_newp (fun B19=>Y.F_putN (Y.F_nil ?_)))))))))))))
   refine ra rfl (eZ (cU (cD [5,6,7] rfl (by decide) (Fg (fun (A0:List Qi) (A1:List (List Qi)) (A2:List (List Qi))=>True) (fun (A0:List Qi) (A1:List (List Qi)) (A2:List (List Qi))=>[(4,jT 1 (l.map (aO .i64))),(5,pP w),(16,bT B16 0),(17,bT B17 0),(19,bT B19 0)]) (fun (A0:List Qi) (A1:List (List Qi)) (A2:List (List Qi))=>[box B16 51 [aD (decide (g.q.a < 0)),aI g.q.a.natAbs,aD (decide (g.q.b < 0)),aI g.q.b.natAbs,aI (du g.q)],box B17 34 [aR X0,bB X1,bB C1],box B19 34 [aR A0,bB A1,bB A2]]) ?_ (fun A0 A1 A2 _=>?_)))))
   ·refine ts (rm rfl (ro rfl (jH (Ht rfl) cW) (eZ (dX (Ht rfl) (fun hd0 => ?_) (fun hd0 => ?_)))))
    ·have hE0 : Y0 = 0 := by simpa using hd0
     obtain ⟨q1,q2⟩:=hTo hE0
     refine cU (Y.D_start (m:=9) [] (cQ (Ei:=[(19,_)]) rfl rfl (bQ (bJ rfl rfl) bX) rfl rfl (dZ rfl (eW A_34 Z_34 (Ht rfl) (i:=2) rfl rfl rfl)) (cQ (Ei:=[(85,_)]) rfl rfl (bQ (bZ 0 rfl rfl) bX) rfl rfl (dZ rfl (cJ K_51 qL ⟨(Ht rfl),trivial⟩)) (cQ (Ei:=[(16,_)]) rfl rfl (bQ (bJ rfl rfl) bX) rfl rfl (dZ rfl (eW A_51 Z_51 (Ht rfl) (i:=0) rfl rfl rfl)) (cQ (Ei:=[(86,_),(87,_)]) rfl rfl (bQ (bZ 1 rfl rfl) (bQ (bZ 2 rfl rfl) bX)) rfl rfl (dZ rfl (cJ Tryz.call57 q1 ⟨(Ht rfl),(Ht rfl),trivial⟩)) ?_)))))
     refine cQ (Ei:=[(88,_)]) rfl rfl (bQ (bZ 3 rfl rfl) bX) rfl rfl (dZ rfl (cZ (Ht rfl))) (cQ (Ei:=[(84,_)]) rfl rfl (bQ (bZ 4 rfl rfl) bX) rfl rfl (dZ rfl (dU (Ht rfl) rfl)) (cQ (Ei:=[(84,_)]) rfl rfl (bQ (bZ 4 rfl rfl) bX) rfl rfl (dZ rfl (dU (Ht rfl) rfl)) (Y.D_newp (Ei:=[]) (fun bb=>box bb 34 [aR U0,bB V0,bB W0]) 8 rfl rfl rfl bX rfl rfl (by kernel_rfl) (eG (Ts:=[Is (.slice none 0 0),Is (.slice none 0 0),Is (.slice none 0 0)]) O_34 rfl (fun V=>aW zd (aW zd (aW zd (aG))))) ?_)))
     refine Y.D_putN (Ei:=[(89,_)]) 7 rfl rfl rfl rfl rfl rfl (bQ (bZ 5 rfl rfl) bX) (fun bb=>lA Z_34 (Ht rfl) (Ht rfl) rfl (i:=0) rfl (aK rfl) rfl rfl) (Y.D_done bE rfl (by kernel_rfl) rfl (by simp [Y.okP]) rfl rfl (bU (bU (bU (bU (bU (bU (bU (Y.F_newp (fun B20=>Y.F_putN (Y.F_nil ?_)))))))))))
     refine ra rfl (eZ (ts (rm rfl (ro rfl (kA (Ht rfl) cW) (rm rfl (fX rfl rfl (eU rfl rfl (Ht rfl) (fun h=>eW A_34 Z_34 (Ht rfl) (i:=2) rfl rfl rfl)) (fX rfl rfl (eU rfl rfl (Ht rfl) (fun h=>eW A_34 Z_34 (Ht rfl) (i:=3) rfl rfl rfl)) (fX rfl rfl (eU rfl rfl (Ht rfl) (fun h=>cJ Tryz.call52 q2 ⟨(fV rfl h),(fV rfl h),trivial⟩)) (fX rfl rfl (eU rfl rfl (Ht rfl) (fun h=>eN (fV rfl h))) (ro rfl (jI (Ht rfl) (fun h=>(fV rfl h))) (eZ (nF (Ht rfl) (by simp) ?_))))))))))))
     refine cY (cD [0,1,2] rfl (by decide) (bD (U0,V0,W0) trivial (zS rfl) (aU (aB rfl) (aU (aB rfl) (aU (aB rfl) aY)))))
    ·skip
     refine cY (bD (U0,V0,W0) trivial (zS rfl) (aU (aB rfl) (aU (aB rfl) (aU (aB rfl) aY))))
   ·refine ts (ro rfl (eW A_34 Z_34 (Ht rfl) (i := 1) rfl rfl rfl) (rm rfl (ro rfl (cJ Tryz.call36 hR ⟨(Ht rfl), (Ht rfl), trivial⟩) (rm rfl (ro rfl (dU (Ht rfl) rfl) (ro rfl (dU (Ht rfl) rfl) (gX Z_34 (Ht rfl) (Ht rfl) rfl (i := 2) rfl (aK rfl) rfl rfl (ra rfl (eZ (cU (Fg (fun (A0 : List Qi) (A1 : List (List Qi)) (A2 : List (List Qi)) => True) (fun (A0 : List Qi) (A1 : List (List Qi)) (A2 : List (List Qi)) => [(4, jT 1 (l.map (aO .i64))), (5, pP w), (16, bT B16 0), (17, bT B17 0), (19, bT B19 0)]) (fun (A0 : List Qi) (A1 : List (List Qi)) (A2 : List (List Qi)) => [box B16 51 [aD (decide (g.q.a < 0)), aI g.q.a.natAbs, aD (decide (g.q.b < 0)), aI g.q.b.natAbs, aI (du g.q)], box B17 34 [aR X0, bB X1, bB C1], box B19 34 [aR A0, bB A1, bB A2]]) ?_ (fun A0 A1 A2 _ => ?_))))))))))))
    ·refine ts (rm rfl (ro rfl (jH (Ht rfl) cW) (eZ (dX (Ht rfl) (fun hd1 => ?_) (fun hd1 => ?_)))))
     ·have hE1 : Y1 = 0 := by simpa using hd1
      obtain ⟨q1,q2⟩:=hRo hE1
      refine cU (Y.D_start (m:=9) [] (cQ (Ei:=[(19,_)]) rfl rfl (bQ (bJ rfl rfl) bX) rfl rfl (dZ rfl (eW A_34 Z_34 (Ht rfl) (i:=2) rfl rfl rfl)) (cQ (Ei:=[(108,_)]) rfl rfl (bQ (bZ 0 rfl rfl) bX) rfl rfl (dZ rfl (cJ K_51 qL ⟨(Ht rfl),trivial⟩)) (cQ (Ei:=[(16,_)]) rfl rfl (bQ (bJ rfl rfl) bX) rfl rfl (dZ rfl (eW A_51 Z_51 (Ht rfl) (i:=0) rfl rfl rfl)) (cQ (Ei:=[(109,_),(110,_)]) rfl rfl (bQ (bZ 1 rfl rfl) (bQ (bZ 2 rfl rfl) bX)) rfl rfl (dZ rfl (cJ Tryz.call57 q1 ⟨(Ht rfl),(Ht rfl),trivial⟩)) ?_)))))
      refine cQ (Ei:=[(111,_)]) rfl rfl (bQ (bZ 3 rfl rfl) bX) rfl rfl (dZ rfl (cZ (Ht rfl))) (cQ (Ei:=[(107,_)]) rfl rfl (bQ (bZ 4 rfl rfl) bX) rfl rfl (dZ rfl (dU (Ht rfl) rfl)) (cQ (Ei:=[(107,_)]) rfl rfl (bQ (bZ 4 rfl rfl) bX) rfl rfl (dZ rfl (dU (Ht rfl) rfl)) (Y.D_newp (Ei:=[]) (fun bb=>box bb 34 [aR U1,bB V1,bB W1]) 8 rfl rfl rfl bX rfl rfl (by kernel_rfl) (eG (Ts:=[Is (.slice none 0 0),Is (.slice none 0 0),Is (.slice none 0 0)]) O_34 rfl (fun V=>aW zd (aW zd (aW zd (aG))))) ?_)))
      refine Y.D_putN (Ei:=[(112,_)]) 7 rfl rfl rfl rfl rfl rfl (bQ (bZ 5 rfl rfl) bX) (fun bb=>lA Z_34 (Ht rfl) (Ht rfl) rfl (i:=0) rfl (aK rfl) rfl rfl) (Y.D_done bE rfl (by kernel_rfl) rfl (by simp [Y.okP]) rfl rfl (bU (bU (bU (bU (bU (bU (bU (Y.F_newp (fun B22=>Y.F_putN (Y.F_nil ?_)))))))))))
      refine ra rfl (eZ (ts (rm rfl (ro rfl (kA (Ht rfl) cW) (rm rfl (fX rfl rfl (eU rfl rfl (Ht rfl) (fun h=>eW A_34 Z_34 (Ht rfl) (i:=2) rfl rfl rfl)) (fX rfl rfl (eU rfl rfl (Ht rfl) (fun h=>eW A_34 Z_34 (Ht rfl) (i:=3) rfl rfl rfl)) (fX rfl rfl (eU rfl rfl (Ht rfl) (fun h=>cJ Tryz.call52 q2 ⟨(fV rfl h),(fV rfl h),trivial⟩)) (fX rfl rfl (eU rfl rfl (Ht rfl) (fun h=>eN (fV rfl h))) (ro rfl (jI (Ht rfl) (fun h=>(fV rfl h))) (eZ (nF (Ht rfl) (by simp) ?_))))))))))))
      refine cY (cD [0,1,2] rfl (by decide) (bD (U1,V1,W1) trivial (zS rfl) (aU (aB rfl) (aU (aB rfl) (aU (aB rfl) aY)))))
     ·skip
      refine cY (bD (U1,V1,W1) trivial (zS rfl) (aU (aB rfl) (aU (aB rfl) (aU (aB rfl) aY))))
    ·refine cU (Y.D_start (m := 8) [(7, 2, box B19 34 [aR U2, bB V2, bB W2])] (Y.D_step (Ei := [(17, _)]) rfl rfl (bQ (bJ rfl rfl) bX) rfl rfl (by kernel_rfl) (dZ rfl (eW A_34 Z_34 (Ht rfl) (i := 1) rfl rfl rfl)) (Y.D_step (Ei := [(5, _)]) rfl rfl (bQ (bJ rfl rfl) bX) rfl rfl (by kernel_rfl) (dZ rfl (cZ (Ht rfl))) (Y.D_step (Ei := [(124, _)]) rfl rfl (bQ (bZ 1 rfl rfl) bX) rfl rfl (by kernel_rfl) (dZ rfl (cJ Tryz.call48 (tW zo) ⟨(Ht rfl), trivial⟩)) (Y.D_step (Ei := [(123, _), (125, _)]) rfl rfl (bQ (bZ 0 rfl rfl) (bQ (bZ 2 rfl rfl) bX)) rfl rfl (by kernel_rfl) (dZ rfl (cJ Tryz.call47 hN ⟨(Ht rfl), (Ht rfl), trivial⟩)) ?_)))))
     refine Y.D_step (Ei:=[(126,_)]) rfl rfl (bQ (bZ 3 rfl rfl) bX) rfl rfl (by kernel_rfl) (dZ rfl (cZ (Ht rfl))) (Y.D_step (Ei:=[(122,_)]) rfl rfl (bQ (bZ 4 rfl rfl) bX) rfl rfl (by kernel_rfl) (dZ rfl (dU (Ht rfl) rfl)) (cQ (Ei:=[(122,_)]) rfl rfl (bQ (bZ 4 rfl rfl) bX) rfl rfl (dZ rfl (dU (Ht rfl) rfl)) (Y.D_putI (Ei:=[(19,_),(127,_)]) 2 rfl rfl rfl (bQ (bJ rfl rfl) (bQ (bZ 5 rfl rfl) bX)) (.head _) rfl (lA Z_34 (Ht rfl) (Ht rfl) rfl (i:=0) rfl (aK rfl) rfl rfl) ?_)))
     refine Y.D_done bE rfl (by kernel_rfl) rfl (by simp [Y.okP]) rfl rfl (bU (bU (bU (bU (bU (bU (bU (Y.F_putI (Y.F_nil ?_)))))))))
     refine ra rfl (eZ (cU (cU (cD [0,1,2] rfl (by decide) (dQ (rm rfl (ro rfl (jH (Ht rfl) cW) (eZ (dX (Ht rfl) (fun hd2=>?_) (fun hd2=>?_))))))))))
     ·have hE2 : Y2 = 0 := by simpa using hd2
      obtain ⟨q1,q2⟩:=hNo hE2
      refine cU (Y.D_start (m:=9) [] (cQ (Ei:=[(19,_)]) rfl rfl (bQ (bJ rfl rfl) bX) rfl rfl (dZ rfl (eW A_34 Z_34 (Ht rfl) (i:=2) rfl rfl rfl)) (cQ (Ei:=[(132,_)]) rfl rfl (bQ (bZ 0 rfl rfl) bX) rfl rfl (dZ rfl (cJ K_51 qL ⟨(Ht rfl),trivial⟩)) (cQ (Ei:=[(16,_)]) rfl rfl (bQ (bJ rfl rfl) bX) rfl rfl (dZ rfl (eW A_51 Z_51 (Ht rfl) (i:=0) rfl rfl rfl)) (cQ (Ei:=[(133,_),(134,_)]) rfl rfl (bQ (bZ 1 rfl rfl) (bQ (bZ 2 rfl rfl) bX)) rfl rfl (dZ rfl (cJ Tryz.call57 q1 ⟨(Ht rfl),(Ht rfl),trivial⟩)) ?_)))))
      refine cQ (Ei:=[(135,_)]) rfl rfl (bQ (bZ 3 rfl rfl) bX) rfl rfl (dZ rfl (cZ (Ht rfl))) (cQ (Ei:=[(131,_)]) rfl rfl (bQ (bZ 4 rfl rfl) bX) rfl rfl (dZ rfl (dU (Ht rfl) rfl)) (cQ (Ei:=[(131,_)]) rfl rfl (bQ (bZ 4 rfl rfl) bX) rfl rfl (dZ rfl (dU (Ht rfl) rfl)) (Y.D_newp (Ei:=[]) (fun bb=>box bb 34 [aR U2,bB V2,bB W2]) 8 rfl rfl rfl bX rfl rfl (by kernel_rfl) (eG (Ts:=[Is (.slice none 0 0),Is (.slice none 0 0),Is (.slice none 0 0)]) O_34 rfl (fun V=>aW zd (aW zd (aW zd (aG))))) ?_)))
      refine Y.D_putN (Ei:=[(136,_)]) 7 rfl rfl rfl rfl rfl rfl (bQ (bZ 5 rfl rfl) bX) (fun bb=>lA Z_34 (Ht rfl) (Ht rfl) rfl (i:=0) rfl (aK rfl) rfl rfl) (Y.D_done bE rfl (by kernel_rfl) rfl (by simp [Y.okP]) rfl rfl (bU (bU (bU (bU (bU (bU (bU (Y.F_newp (fun B24=>Y.F_putN (Y.F_nil ?_)))))))))))
      refine ra rfl (eZ (ts (rm rfl (ro rfl (kA (Ht rfl) cW) (rm rfl (fX rfl rfl (eU rfl rfl (Ht rfl) (fun h=>eW A_34 Z_34 (Ht rfl) (i:=2) rfl rfl rfl)) (fX rfl rfl (eU rfl rfl (Ht rfl) (fun h=>eW A_34 Z_34 (Ht rfl) (i:=3) rfl rfl rfl)) (fX rfl rfl (eU rfl rfl (Ht rfl) (fun h=>cJ Tryz.call52 q2 ⟨(fV rfl h),(fV rfl h),trivial⟩)) (fX rfl rfl (eU rfl rfl (Ht rfl) (fun h=>eN (fV rfl h))) (ro rfl (jI (Ht rfl) (fun h=>(fV rfl h))) (eZ (nF (Ht rfl) (by simp) ?_))))))))))))
      refine cY (ts (ro rfl (cJ Tryz.call16 zC trivial) (ra rfl (eZ ?_))))
      exact fG rfl (eY rfl)
     ·skip
      refine cY (ts (ro rfl (cJ Tryz.call16 zC trivial) (ra rfl (eZ ?_))))
      exact fG rfl (eY rfl)
end
section
open Go Go.ChangeShapes Go.WideShapes Go.ChangeAt Go.RowKit Go.Deep
section
variable {H:Type} {enc:TypeId × Value → H} {W:World} {base:Nat} {sp:Nat → Bool} {held:Bool}
theorem Tc {n : Nat} {cs : List Value} {y : DataW H × List MemPlace} (h : DataW.trod enc Tryz.prog W base sp held n 72 cs = some y) : ∃ (v : Value) (l : List Int), cs = [v] ∧ (jT 1 (l.map (aO .i64))).p v (hv W) :=
 Gr (F:=aO .i64) Tryz.underlying72 (by kernel_rfl) (by decide) (fun n cs y h=>by obtain ⟨i,e,_,_⟩:=DataW.trod_int Tryz.underlying3 h; exact ⟨i,.int .i64 i,by rw [e]; rfl,rfl⟩) h
theorem Nq {b0:Nat} {v:Value} {d:DataW H} {p:List MemPlace} (ho:Value.okWide Tryz.prog W .any b0 72 v) (h:DataW.Trod enc Tryz.prog W base sp held 72 v d p):∃ l:List Int,(jT 1 (l.map (aO .i64))).p v (hv W):=by
 obtain ⟨a,n,k,rfl⟩:=okWide_slice Tryz.underlying72 ho
 obtain ⟨m,hm⟩:=h
 obtain ⟨v,l,e,hl⟩:=Tc hm
 have:[Value.slice a n k] = [v]:=e
 simp only [List.cons.injEq,and_true] at this
 subst this
 exact ⟨l,hl⟩
end
end
end Go.Proofs.YteohomnhncjcnaaGreat
