/- What functions of the program compute, proved by walks over their code, and the plain mathematics of it; a part of the proof in the last text. -/
import Derived.Test.YtdlciihkiefckaaGreatP05
set_option linter.unusedVariables false
set_option linter.unusedSimpArgs false
set_option maxRecDepth 100000
set_option maxHeartbeats 4000000
namespace Go.Proofs.YtdlciihkiefckaaGreat
section
open Go Go.RowKit
theorem a2U {a:Nat} {zl sl:List Rt} {r:Rt} (ha:a < 256):bB Tryz.prog 137 [Aw a zl sl,mQ r] (eH [cO ((qK a [r]).map Rt.q) (rq (rZ a sl)),aH true]):=by
 have hB:=a2L (a:=a) (zl:=[r]) (sl:=sl) ha
 refine bB.intro Tryz.func137 rfl Tryz.ntmps137 rfl (fun cx=>(ts (rn rfl (fY (Ht rfl)) fun B2=>(rn rfl (fY (Ht rfl)) fun B3=>(rn rfl (eU (Ts:=[Is (.slice none 0 0),Is (.slice none 0 0)]) O_28 rfl (fun V=>aW zd (aW zd (aG)))) fun B4=>(ro rfl (cX cW) (eW (ts (ro rfl (eK A_48 Z_48 (Ht rfl) (i:=1) rfl rfl rfl) (ro rfl (eB (xs:=[.tmp 9]) U_22 Z_48 O_48 (cG (Ht rfl) cK) rfl rfl rfl) (ro rfl (eG Ub (Ht rfl) rfl) ?_)))))))))))
 refine lP Z_22 (Ht rfl) (Ht rfl) (i:=0) rfl (aK rfl) rfl (eW (ts (ro rfl (eK A_24 Z_24 (Ht rfl) (i:=0) rfl rfl rfl) (ro rfl (cJ Tryz.call15 hB ⟨(Ht rfl),trivial⟩) (rm rfl (ro rfl (eQ (Ht rfl) rfl) (ro rfl (eQ (Ht rfl) rfl) (ro rfl (eQ (Ht rfl) rfl) (rn rfl (eU (Ts:=[Is (.slice none 0 0),Is (.slice none 0 0)]) O_28 rfl (fun V=>aW zd (aW zd (aG)))) fun B6=>(rn rfl (eU (Ts:=[Is (.slice none 0 0),Is (.slice none 0 0)]) O_32 rfl (fun V=>aW zd (aW zd (aG)))) fun B7=>?_))))))))))
 refine gJ Z_28 (Ht rfl) (Ht rfl) rfl (i:=3) rfl (aK rfl) rfl rfl (gJ Z_32 (Ht rfl) (Ht rfl) rfl (i:=4) rfl (aK rfl) rfl rfl (ra rfl (eW (ts (ro rfl (eK A_28 Z_28 (Ht rfl) (i:=3) rfl rfl rfl) (rm rfl (gJ Z_28 (Ht rfl) (Ht rfl) rfl (i:=2) rfl (aK rfl) rfl rfl (ra rfl (eW ?_)))))))))
 exact bN rfl (gQ A_28 Z_28 rfl (i:=2) rfl rfl) (fX rfl)
end
section
open Go Go.RowKit
theorem a4S (z:List Qi) (s:List (List Qi)) (port:Int) (g:Qi):cB (pO z s port g) (nG z s port g).length (nG z s port g).length ∧ (nG z s port g).length ≤ z.length:=by
 by_cases h:oQ z s port g = 0
 ·rw [nG,pO,iD,iD,h,if_pos rfl,if_pos rfl,zA,aE]; exact ⟨cB.tab,Nat.sub_le _ _⟩
 ·rw [nG,pO,iD,iD,if_neg h,if_neg h]; exact ⟨⟨rfl,fun r hr=>by cases hr⟩,Nat.zero_le _⟩
theorem a2l {z:List Qi} {s:List (List Qi)} {port:Int} {g:Qi} {L:Nat} (h:bI z L) (hL:1 ≤ L):bI (nG z s port g) L:=Vf (bI.tab fun i _=>h.get hL _)
theorem a2k {z:List Qi} {s:List (List Qi)} {port:Int} {g:Qi} {L:Nat} (hs:bE s L) (hg:aF g L) (hL:1 ≤ L):bE (pO z s port g) (10 * L + 14):=by
 by_cases h:oQ z s port g = 0
 ·refine a1u fun r hr => ?_
  obtain ⟨i,_,rfl⟩:=dR.1 hr
  refine bI.tab fun j _=>?_
  have hd : Qi.ofInt 1 - gm s (port - 1).toNat (port - 1).toNat * g ≠ Qi.zero := by
   unfold oQ at h
   split at h
   ·omega
   ·split at h
    ·omega
    ·split at h
     ·omega
     ·assumption
  haveI f0:=Ow hs hg hL hd
  haveI f1:aF (gm s (lI (port - 1).toNat i) (lI (port - 1).toNat j)) L:=hs.get hL _ _
  haveI f2:aF (gm s (lI (port - 1).toNat i) (port - 1).toNat) L:=hs.get hL _ _
  haveI f3:aF (gm s (port - 1).toNat (lI (port - 1).toNat j)) L:=hs.get hL _ _
  have f4:aF (La s (port - 1).toNat (kW s (port - 1).toNat g) i j) (L + (L + (7 * L + 11 + L + 1) + 1) + 1):=inferInstanceAs (aF (_ + _ * (_ * _)) _)
  exact f4.le zo
 ·rw [pO,iD,if_neg h]; exact bE.nil
end
section
open Go Go.RowKit
theorem rE.eqv {r r':List Qi} {w:Nat} (h:rE r w) (e:∀ j,gv r' j = gv r j):rE r' w:=by
 obtain ⟨d,d0,dg,dj⟩:=h
 exact ⟨d,d0,dg,fun j=>by rw [e]; exact dj j⟩
def Zu (G V:List (List Qi)) (r:Nat):List Qi:=eC G r ++ (V.getD r []).map Qi.conj
theorem wF {G V:List (List Qi)} {n r j:Nat} (hG:cB G n n) (hr:r < n) (hj:j < n):gv (Zu G V r) j = gm G r j:=Cf (by rw [show (eC G r).length = n from hG.row hr]; exact hj)
theorem Lm {G V:List (List Qi)} {n r j:Nat} (hG:cB G n n) (hr:r < n) (hV:(V.getD r []).length = n) (hj:j < n):gv (Zu G V r) (n + j) = (gv (V.getD r []) j).conj:=by
 have hl:(eC G r).length = n:=hG.row hr
 have e:=Jr (z:=eC G r) (zb:=(V.getD r []).map Qi.conj) (k:=j)
 rw [hl] at e
 rw [Zu,e]
 generalize V.getD r [] = v at *
 simp only [gv,List.getD,List.getElem?_map]
 rw [List.getElem?_eq_getElem (show j < v.length by omega)]
 rfl
theorem Zv {G V : List (List Qi)} {n r j : Nat} (hG : cB G n n) (hr : r < n) (hV : (V.getD r []).length = n) (hj : n + n ≤ j) : gv (Zu G V r) j = 0 := Js (by
 have hl:(eC G r).length = n:=hG.row hr
 rw [Zu,List.length_append,List.length_map,hl,hV]; exact hj)
theorem Sh {G V:List (List Qi)} {n r:Nat} (hG:cB G n n) (hr:r < n) (hV:(V.getD r []).length = n):(Zu G V r).length = n + n:=by
 have hl:(eC G r).length = n:=hG.row hr
 rw [Zu,List.length_append,List.length_map,hl,hV]
theorem Tl {h : List (List Qi)} {n w : Nat} (hs : cB h n n) (hh : nP h n = true) (h0 : ∀ r, r < n → rE (Zu h (rQ n) r) w) : ∀ i, i ≤ n → ∀ r, r < n → rE (Zu (gH h n i).1 (gH h n i).2 r) (Lc w i)
 | 0,_,r,hr=>h0 r hr
 | i + 1, hi, r, hr => by
  have ih:=Tl hs hh h0 i zo
  obtain ⟨sG,sV⟩:=pX hs i zo
  by_cases k:gm (gH h n i).1 i i = 0
  ·rw [sJ k]; exact (ih r hr).le (by simp only [Lc]; omega)
  ·have hE1 : ∀ c, c < n → gm (Ti (gH h n i).1 n i) r c = if i < r ∧ i < c then gm (gH h n i).1 r c - gm (gH h n i).1 r i * (gm (gH h n i).1 i c / gm (gH h n i).1 i i) else gm (gH h n i).1 r c := fun c hc => by
    rw [Ti,xT,eI hr hc]
    by_cases a:i < r ∧ i < c
    ·rw [if_pos ⟨a,.inl hc⟩,if_pos a]
    ·rw [if_neg (fun b=>a b.1),if_neg a]
   have sE:cB (Ti (gH h n i).1 n i) n n:=rK _ _ _ _ _
   have hVr:∀ r,r < n → ((gH h n i).2.getD r []).length = n:=fun r hr=>sV.row hr
   have hV2 : (pQ (gH h n i).1 (gH h n i).2 n i n).getD r [] = if i < r then mxV ((gH h n i).2.getD r []) (-(gm (gH h n i).1 i r / gm (gH h n i).1 i i)) ((gH h n i).2.getD i []) else (gH h n i).2.getD r [] := by
    rw [pQ,kT hr]
    by_cases a:i < r
    ·rw [if_pos ⟨a,hr⟩,if_pos a]
    ·rw [if_neg (fun b=>a b.1),if_neg a]
   have hl2 : ((pQ (gH h n i).1 (gH h n i).2 n i n).getD r []).length = n := by
    rw [hV2]; split
    ·rw [Cm]; exact hVr r hr
    ·exact hVr r hr
   rw [Ad k]
   by_cases c:i < r
   ·have hrd := rE.red (P := fun j => i < j) (ih r hr) (ih i zo) (c := i) (by rw [wF sG zo zo]; exact k)
    refine hrd.eqv fun j=>?_
    have hal:=Sh sG hr (hVr r hr)
    by_cases hj:j < n + n
    ·rw [gF (by rw [hal]; exact hj)]
     by_cases hjn:j < n
     ·rw [wF sE hr hjn, hE1 j hjn, wF sG hr hjn, wF sG hr zo, wF sG zo zo, wF sG zo hjn]
      by_cases a:i < j
      ·rw [if_pos ⟨c,a⟩,if_pos a,Qi.div_def,Qi.div_def]; grind
      ·rw [if_neg (fun b=>a b.2),if_neg a]
     ·obtain ⟨j', rfl⟩ : ∃ j', j = n + j' := ⟨j - n, by omega⟩
      have hj':j' < n:=by omega
      rw [if_pos (show i < n + j' by omega),Lm sE hr hl2 hj',Lm sG hr (hVr r hr) hj',wF sG hr zo,wF sG zo zo,Lm sG zo (hVr i zo) hj',hV2,if_pos c]
      rw [mxV,gF (by rw [hVr r hr]; exact hj'),nN,dS]
      have e1 : (-(gm (gH h n i).1 i r / gm (gH h n i).1 i i)).conj = -(gm (gH h n i).1 r i / gm (gH h n i).1 i i) := by
       have a1:=uI hs hh (i:=i) (r:=r) (c:=i) zo zo hr (Nat.le_refl i) zo
       have a2:=uI hs hh (i:=i) (r:=i) (c:=i) zo (Nat.le_refl i) zo (Nat.le_refl i) zo
       have a3:=Dz (x:=gm (gH h n i).1 i r) a2.symm k
       have a4:∀ x:Qi,(-x).conj = -x.conj:=fun x=>Qi.ext' rfl rfl
       rw [a4,a3,← a1]
      rw [e1]; grind
    ·rw [Zv sE hr hl2 zo,Js (by rw [aE,hal]; omega)]
   ·refine ((ih r hr).le (by simp only [Lc]; omega)).eqv fun j => ?_
    by_cases hjn:j < n
    ·rw [wF sE hr hjn,hE1 j hjn,wF sG hr hjn,if_neg (fun b=>c b.1)]
    ·by_cases hj : j < n + n
     ·obtain ⟨j', rfl⟩ : ∃ j', j = n + j' := ⟨j - n, by omega⟩
      rw [Lm sE hr hl2 zo,Lm sG hr (hVr r hr) zo,hV2,if_neg c]
     ·rw [Zv sE hr hl2 zo,Zv sG hr (hVr r hr) zo]
theorem a8r {h:List (List Qi)} {n L:Nat} (hs:cB h n n) (hh:nP h n = true) (hf:bE h L) (hL:1 ≤ L) (hLb:L ≤ 40000000) (hn:n ≤ 8):SzD h n (16384 * L + 1026) (16384 * L + 1026):=by
 have hi:bE (rQ n) 1:=Ch (Nat.le_refl 1)
 have hb : ∀ r, r < n → rE (Zu h (rQ n) r) (16 * L) := fun r hr => by
  have hl:=Sh hs hr (V:=rQ n) ((nQ n).row hr)
  refine (Vu hl (L:=L) (fun x hx=>?_) hL).le (Nat.mul_le_mul_right _ zo)
  rcases List.mem_append.1 hx with k | k
  ·exact hf.row r x k
  ·obtain ⟨y, hy, rfl⟩ := List.mem_map.1 k
   haveI:aF y 1:=hi.row r y hy
   exact (fitConj:aF y.conj 1).le hL
 have ha:=Tl hs hh hb
 have key : ∀ i, i ≤ n → ∀ r, r < n → bI (Zu (gH h n i).1 (gH h n i).2 r) (16384 * L + 1026) := fun i hi r hr x hx => by
  refine ((((ha i hi r hr).le (Nat.le_trans (sY _ hi) (sY _ hn))).fit x hx)).le ?_
  simp only [Lc]; omega
 refine ⟨fun i hi r hr x hx=>?_,fun i hi r hr x hx=>?_,by omega,by omega,by omega⟩
 ·obtain ⟨j, hj, e⟩ := List.getElem_of_mem hr
  have hl:=(pX hs i hi).1.1
  refine key i hi j zo x (List.mem_append_left _ ?_)
  rw [show eC (gH h n i).1 j = r by rw [← e]; simp [eC,List.getD,hj]]; exact hx
 ·obtain ⟨j, hj, e⟩ := List.getElem_of_mem hr
  have hl:=(pX hs i hi).2.1
  have:=key i hi j zo x.conj (List.mem_append_right _ (List.mem_map.2 ⟨x,by rw [show (gH h n i).2.getD j [] = r by rw [← e]; simp [List.getD,hj]]; exact hx,rfl⟩))
  rw [← jN x]; exact fitConj
end
section
open Go Go.RowKit
structure Qt (z:List Qi) (s:List (List Qi)) (L:Nat):Prop where
 fz:bI z L
 fs:bE s L
 hL:1 ≤ L
 hb:L ≤ 700000
 sh:cB s z.length z.length
 h8:z.length ≤ 8
 pos:z.all eA = true
theorem Qt.nil {L:Nat} (h:1 ≤ L) (h2:L ≤ 700000):Qt [] [] L:=⟨bI.nil,bE.nil,h,h2,⟨rfl,fun r hr=>by cases hr⟩,by simp,rfl⟩
theorem Qt.szd {z : List Qi} {s : List (List Qi)} {L : Nat} (k : Qt z s L) : SzD (xJ z s) z.length (16384 * (51 * L + 43) + 1026) (16384 * (51 * L + 43) + 1026) :=
 a8r (Cq z s) (Vt k.pos) (Cp k.fz k.fs k.hL k.pos k.h8) zo (by have:=k.hb; omega) k.h8
theorem Km {z:List Qi} {i:Nat} (hp:z.all eA = true) (hi:i < z.length):eA (gv z i) = true:=List.all_eq_true.1 hp _ (by rw [show gv z i = z[i] by simp [gv,List.getD,hi]]; exact List.getElem_mem hi)
theorem xP {z:List Qi} {s:List (List Qi)} {e:Int} {L:Nat} (k:Qt z s L) (h:e = 0 → sZ z.length (gm (iA z s))):bB Tryz.prog 38 [cO z s,aL .i64 e] (aH true):=by
 have hP:=zV k.fz k.fs k.hL (Nat.le_trans k.hb (by decide)) k.sh k.h8 k.pos (fun _=>k.szd)
 have hd:e = 0 → He (xJ z s) z.length = true:=fun he=>(Jf k.sh k.pos).2 (h he)
 refine bB.intro Tryz.func38 rfl Tryz.ntmps38 rfl (fun cx=>(ts (rn rfl (fY (Ht rfl)) fun B2=>(ro rfl (cX cW) (eW (ts (ro rfl (eK A_28 Z_28 (Ht rfl) (i:=0) rfl rfl rfl) (ro rfl (cJ Tryz.call16 hP ⟨(Ht rfl),trivial⟩) (rm rfl (ro rfl (eQ (Ht rfl) rfl) (ro rfl (eQ (Ht rfl) rfl) (ra rfl (ra rfl (eW (ts (rm rfl (ro rfl (iM (Ht rfl) cW) (rm rfl (fJ rfl rfl (fQ rfl rfl (Ht rfl) (fun h=>cZ (Ht rfl))) (ro rfl (kQ (Ht rfl) (fun h=>(fG rfl h))) (ra rfl (eW (fU rfl (fV (fX rfl) ?_))))))))))))))))))))))))
 exact (fA (by by_cases he:e = 0 <;> simp [he,hd]))
theorem zX {a:Nat} {zl sl:List Rt} {r:Rt} (ha:a < 256):bB Tryz.prog 37 [Aw a zl sl,mQ r] (eH [cO ((qK a [r]).map Rt.q) (zK (rq (rZ a sl)) ((qK a [r]).map Rt.q).length (Rr ((qK a [r]).map Rt.q) (rq (rZ a sl)))),aH true]):=by
 obtain ⟨h1,h8,hsh,hp⟩:=sQ (Rl a [r] sl)
 have hA:=a2U (a:=a) (zl:=zl) (sl:=sl) (r:=r) ha
 have hz:bI ((qK a [r]).map Rt.q) 2:=bI.rt
 have hs:bE (rq (rZ a sl)) 2:=bE.rt
 generalize ((qK a [r]).map Rt.q) = X at *
 generalize (rq (rZ a sl)) = S at *
 have hK:=a0c hz hs (by decide) (by decide) hp hsh h1 h8
 obtain ⟨k1,k2⟩:=Fo X S
 have hz5:bI X 5:=hz.le (by decide)
 have hf5:bE (zK S X.length (Rr X S)) 5:=Kt hs (by decide) zo
 have hP:=zV hz5 hf5 (by decide) (by decide) (vW _ _ _) h8 hp (fun _=>a8q (Cq _ _) (Cp hz5 hf5 (by decide) hp h8) (by decide) (by decide) h8)
 rw [Vy hp] at hP
 refine bB.intro Tryz.func37 rfl Tryz.ntmps37 rfl (fun cx=>(ts (rn rfl (fY (Ht rfl)) fun B2=>(rn rfl (fY (Ht rfl)) fun B3=>(rn rfl (eU (Ts:=[Is (.slice none 0 0),Is (.slice none 0 0)]) O_28 rfl (fun V=>aW zd (aW zd (aG)))) fun B4=>(ro rfl (cX cW) (eW (ts (ro rfl (eK A_24 Z_24 (Ht rfl) (i:=0) rfl rfl rfl) (ro rfl (eK A_48 Z_48 (Ht rfl) (i:=1) rfl rfl rfl) (ro rfl (cJ Tryz.call137 hA ⟨(Ht rfl),(Ht rfl),trivial⟩) (rm rfl (ro rfl (eQ (Ht rfl) rfl) ?_)))))))))))))
 refine ro rfl (eQ (Ht rfl) rfl) (rn rfl (eU (Ts:=[Is (.slice none 0 0),Is (.slice none 0 0)]) O_28 rfl (fun V=>aW zd (aW zd (aG)))) fun B6=>(gJ Z_28 (Ht rfl) (Ht rfl) rfl (i:=3) rfl (aK rfl) rfl rfl (ra rfl (eW (ts (ro rfl (eK A_28 Z_28 (Ht rfl) (i:=3) rfl rfl rfl) (ro rfl (cJ Tryz.call23 hK ⟨(Ht rfl),trivial⟩) (rm rfl (ro rfl (eQ (Ht rfl) rfl) (ro rfl (eQ (Ht rfl) rfl) (rn rfl (eU (Ts:=[Is (.slice none 0 0),Is (.slice none 0 0)]) O_28 rfl (fun V=>aW zd (aW zd (aG)))) fun B8=>?_)))))))))))
 refine gJ Z_28 (Ht rfl) (Ht rfl) rfl (i:=4) rfl (aK rfl) rfl rfl (ra rfl (eW (ts (ro rfl (eK A_28 Z_28 (Ht rfl) (i:=4) rfl rfl rfl) (ro rfl (cJ Tryz.call16 hP ⟨(Ht rfl),trivial⟩) (rm rfl (ro rfl (eQ (Ht rfl) rfl) (ro rfl (eQ (Ht rfl) rfl) (ra rfl (ra rfl (eW (cU (Y.D_start (m:=13) [(12,2,box B4 28 [bC X,dF (zK S X.length (Rr X S))])] (Y.D_step (Ei:=[(8,_)]) rfl rfl (bQ (bJ rfl rfl) bX) rfl rfl (by kernel_rfl) (dZ rfl (eK A_28 Z_28 (Ht rfl) (i:=4) rfl rfl rfl)) ?_))))))))))))))
 refine Y.D_step (Ei:=[(7,_)]) rfl rfl (bQ (bJ rfl rfl) bX) rfl rfl (by kernel_rfl) (dZ rfl (cZ (Ht rfl))) (Y.D_step (Ei:=[(29,_)]) rfl rfl (bQ (bZ 1 rfl rfl) bX) rfl rfl (by kernel_rfl) (dZ rfl (cZ (Ht rfl))) (Y.D_step (Ei:=[(10,_),(30,_)]) rfl rfl (bQ (bJ rfl rfl) (bQ (bZ 2 rfl rfl) bX)) rfl rfl (by kernel_rfl) (fQ rfl rfl (Ht rfl) (fun h=>cZ (Ht rfl))) (Y.D_step (Ei:=[(30,_),(31,_)]) rfl rfl (bQ (bZ 2 rfl rfl) (bQ (bZ 3 rfl rfl) bX)) rfl rfl (by kernel_rfl) (dZ rfl (fC (Ht rfl) (fun h=>(fG rfl h)))) ?_)))
 refine Y.D_step (Ei:=[(32,_)]) rfl rfl (bQ (bZ 4 rfl rfl) bX) rfl rfl (by kernel_rfl) (dZ rfl (cZ (Ht rfl))) (Y.D_step (Ei:=[(8,_),(33,_)]) rfl rfl (bQ (bJ rfl rfl) (bQ (bZ 5 rfl rfl) bX)) rfl rfl (by kernel_rfl) (fQ rfl rfl (Ht rfl) (fun h=>eK A_28 Z_28 (Ht rfl) (i:=4) rfl rfl rfl)) (Y.D_step (Ei:=[(34,_),(33,_)]) rfl rfl (bQ (bZ 6 rfl rfl) (bQ (bZ 5 rfl rfl) bX)) rfl rfl (by kernel_rfl) (fQ rfl rfl (Ht rfl) (fun h=>cJ K_31 nL ⟨(fG rfl h),trivial⟩)) ?_))
 refine Y.D_step (Ei:=[(6,_),(33,_)]) rfl rfl (bQ (bJ rfl rfl) (bQ (bZ 5 rfl rfl) bX)) rfl rfl (by kernel_rfl) (fQ rfl rfl (Ht rfl) (fun h=>eK A_28 Z_28 (Ht rfl) (i:=3) rfl rfl rfl)) (Y.D_step (Ei:=[(36,_),(33,_)]) rfl rfl (bQ (bZ 8 rfl rfl) (bQ (bZ 5 rfl rfl) bX)) rfl rfl (by kernel_rfl) (fQ rfl rfl (Ht rfl) (fun h=>cJ K_31 nL ⟨(fG rfl h),trivial⟩)) (cQ (Ei:=[(35,_),(37,_),(33,_)]) rfl rfl (bQ (bZ 7 rfl rfl) (bQ (bZ 9 rfl rfl) (bQ (bZ 5 rfl rfl) bX))) rfl rfl (fQ rfl rfl (Ht rfl) (fun h=>cL (fG rfl h) (fG rfl h))) ?_))
 refine cQ (Ei:=[(33,_),(38,_)]) rfl rfl (bQ (bZ 5 rfl rfl) (bQ (bZ 10 rfl rfl) bX)) rfl rfl (dZ rfl (fC (Ht rfl) (fun h=>(fG rfl h)))) (Y.D_putI (Ei:=[(4,_),(28,_)]) 2 rfl rfl rfl (bQ (bJ rfl rfl) (bQ (bZ 0 rfl rfl) bX)) (.head _) rfl (mO Z_28 (Ht rfl) (Ht rfl) rfl (i:=0) rfl (aK rfl) rfl rfl) (Y.D_done aS rfl (by kernel_rfl) rfl (by simp [Y.okP]) rfl rfl (bU (bU (bU (bU (bU (bU (bU (bU (bU (bU (bU (bU (Y.F_putI (Y.F_nil ?_))))))))))))))))
 refine ra rfl (eW (bN rfl (gQ A_28 Z_28 rfl (i:=2) rfl rfl) (fV (fX rfl) ?_)))
 exact (fA (by simp))
section
variable {z w zf:List Qi} {S F:List (List Qi)} {p q:Nat} {g:Qi}
theorem a4u (k:Qt z S 5) (h4:z.length ≤ 4) (h:sZ z.length (gm (iA z S))):bB Tryz.prog 32 [cO z S,kU 2 [eT [NT .i64 (p + 1),NT .i64 (q + 1)]]] (eH [cO (xI z S (J1 p q)) (Ge z S (J1 p q)),aL .i64 (yE z S (J1 p q))]) ∧ Qt (xI z S (J1 p q)) (Ge z S (J1 p q)) 20000 ∧ (yE z S (J1 p q) = 0 → sZ (xI z S (J1 p q)).length (gm (iA (xI z S (J1 p q)) (Ge z S (J1 p q))))):=by
 have hg:∀ B,6 * lG 7 2 + 4 ≤ B → ∀ k,2 * k < z.length → 6 * lG (5 + 2) (2 * k) + 4 ≤ B:=fun B h k hk=>Nat.le_trans (Nat.add_le_add_right (Nat.mul_le_mul_left 6 (qJ _ (show 2 * k ≤ 2 by omega))) 4) h
 have hx:∀ B,wN (lG 7 2) 3 ≤ B → ∀ k,2 * k < z.length → wN (lG (5 + 2) (2 * k)) (2 * k + 1) ≤ B:=fun B h k hk=>Nat.le_trans (Nat.le_trans (Ii (qJ _ (show 2 * k ≤ 2 by omega)) _) (Fz _ (show 2 * k + 1 ≤ 3 by omega))) h
 refine ⟨a5O (js:=J1 p q) (L:=5) k.sh k.fs k.fz (by decide) (by decide) zo (by simp) (hg _ (by decide)) (hx _ (by decide)),?_,fun hE=>a1L k.sh hE k.h8 h⟩
 have hsh:=(a18 (js:=J1 p q) k.sh)
 have h0:(J1 p q).length ≠ 0:=by simp
 by_cases hE:yE z S (J1 p q) = 0
 ·obtain ⟨hd, hj6, hk, hne⟩ := Ng hE k.h8
  refine ⟨a3H k.fz (by decide) (by decide),?_,by decide,by decide,hsh.1,by have:=k.h8; omega,?_⟩
  ·rw [Ge, iD, if_pos hE, if_neg h0, Ak]
   exact bE.tab fun i j _ _=>(a3G (L:=5) (G:=3000) k.fs (by decide) (by show wN (lG 7 2) 2 ≤ 3000; decide) (hk _)).le (by show 5 + 2 * (2 * 3000 + 2) ≤ 20000; decide)
  ·rw [xI, iD, if_pos hE, if_neg h0, Bq, List.all_eq_true]
   intro x hx
   obtain ⟨i,hi,rfl⟩:=dR.1 hx
   exact Km k.pos (Qo hi)
 ·rw [xI,Ge,iD,iD,if_neg hE,if_neg hE]; exact Qt.nil (by decide) (by decide)
theorem a70 (k : Qt z S 5) (h2 : z.length ≠ 1) (hp : p < z.length) (hg5 : aF g 5) (hg : (g * g.conj).re ≤ 1) (h : sZ z.length (gm (iA z S))) : bB Tryz.prog 40 [cO z S, NT .i64 (p + 1), aI g] (eH [cO (nG z S ((p + 1 : Nat) : Int) g) (pO z S ((p + 1 : Nat) : Int) g), aL .i64 (oQ z S ((p + 1 : Nat) : Int) g)])
  ∧ Qt (nG z S ((p + 1:Nat):Int) g) (pO z S ((p + 1:Nat):Int) g) 100 ∧ (oQ z S ((p + 1:Nat):Int) g = 0 → sZ (nG z S ((p + 1:Nat):Int) g).length (gm (iA (nG z S ((p + 1:Nat):Int) g) (pO z S ((p + 1:Nat):Int) g)))):=by
 have h8:=k.h8
 obtain ⟨q1,q2⟩:=a4S z S ((p + 1:Nat):Int) g
 have hpi:(((p + 1:Nat):Int) - 1).toNat = p:=by omega
 refine ⟨a0e (L:=5) k.sh k.fs hg5 (by decide) (by decide) zo,⟨(a2l k.fz (by decide)).le (by decide),(a2k k.fs hg5 (by decide)).le (by decide),by decide,by decide,q1,by omega,?_⟩,fun hE=>?_⟩
 ·rw [nG, iD]; split
  ·rw [List.all_eq_true]
   intro x hx
   obtain ⟨i,hi,rfl⟩:=dR.1 hx
   exact Km k.pos (xC hi zo)
  ·rfl
 ·obtain ⟨_, _, hd⟩ := a2n hE
  rw [hpi] at hd
  rw [nG,pO,iD,iD,if_pos hE,if_pos hE,hpi]
  have:=a4s (g:=g) rfl k.sh hp h2 k.pos hd hg h
  rwa [show (zA z p (z.length - 1)).length = z.length - 1 from aE _ _]
theorem a6Z (k:Qt z S 5) (h4:z.length ≤ 4) (hw:w.length = z.length) (hwf:bI w 2) (hz2:bI z 2) (hq:w.all eA = true) (h:sZ z.length (gm (iA z S))):bB Tryz.prog 35 [cO z S,bC w] (eH [cO w (rB z w S),aL .i64 0]) ∧ Qt w (rB z w S) 80000 ∧ sZ w.length (gm (iA w (rB z w S))):=by
 have hE:Lf z w S = 0:=a4z rfl hw k.pos hq ((Kj k.sh k.pos).2 h)
 have hmx:bE (An z w S) 31:=Ka (Kp hz2 hwf (by decide) (by decide) k.pos hw) (Ko hz2 hwf (by decide) (by decide) k.pos hw) k.fs (by decide) (by decide)
 have hma:bE (Yo z w S) 31:=Ka (Ko hz2 hwf (by decide) (by decide) k.pos hw) (Kp hz2 hwf (by decide) (by decide) k.pos hw) k.fs (by decide) (by decide)
 have h8:=k.h8
 have hsz:∀ i,i < w.length → Zm (An z w S) (ek w.length i) w.length (st8 31) (Ru 31):=fun i hi=>a8K (vM _ _ _ _) hmx (Qj (by decide)) (by decide) (by decide) zo
 have hr:=Wu (z:=z) (w:=w) (s:=S) (L:=2) (M:=2) (K:=5) k.sh hz2 hwf k.fs (by decide) (by decide) (by decide) (by decide) (by decide) (by decide) k.pos h8 zo (fun _=>hsz) (by decide)
 obtain ⟨q1,q2,q3,q4⟩:=Kr rfl hw hE
 rw [hE,q4] at hr
 refine ⟨hr,⟨hwf.le (by decide),?_,by decide,by decide,by rw [q3,hw]; exact nT,by omega,hq⟩,by rw [hw]; exact a6Y rfl hw k.sh k.pos hE h⟩
 rw [rB,iD,if_pos hE]
 rw [← hw] at q2
 exact (a1h (L:=31) (M:=a24 31) hma (Xv (vM _ _ _ _) hmx (by decide) zo q2) (by decide) (by decide) zo).le (by decide)
theorem a8i (k : Qt z S 5) (m : Qt zf F 5) (h2 : zf.length = 2) (h6 : z.length ≤ 6) (hp : p < z.length) (hpz : gv zf 1 = gv z p) (h : sZ z.length (gm (iA z S))) (hf : sZ zf.length (gm (iA zf F))) : bB Tryz.prog 36 [cO z S, NT .i64 (p + 1), cO zf F] (eH [cO (Qk z S zf F ((p + 1 : Nat) : Int)) (Ua z S zf F ((p + 1 : Nat) : Int)), aL .i64 (Ga z S zf F ((p + 1 : Nat) : Int))])
  ∧ Qt (Qk z S zf F ((p + 1:Nat):Int)) (Ua z S zf F ((p + 1:Nat):Int)) 200 ∧ (Ga z S zf F ((p + 1:Nat):Int) = 0 → sZ (Qk z S zf F ((p + 1:Nat):Int)).length (gm (iA (Qk z S zf F ((p + 1:Nat):Int)) (Ua z S zf F ((p + 1:Nat):Int))))):=by
 have hsf:cB F 2 2:=by have:=m.sh; rwa [h2] at this
 have hpi:(((p + 1:Nat):Int) - 1).toNat = p:=by omega
 have hfx : Gc z zf ((p + 1 : Nat) : Int) 2 = 0 := by
  rw [Gc,if_neg (by rw [h2]; simp),if_neg (fun k=>k ⟨by omega,by omega⟩),if_pos]
  rw [hpi]; exact hpz
 have hl:(z.set p (gv zf 0)).length = z.length:=List.length_set
 refine ⟨a2M (z:=z) (fz:=zf) (s:=S) (f:=F) (port:=((p + 1:Nat):Int)) (L:=5) k.sh zo zo k.fs m.fs k.fz m.fz (by decide) (by decide) (fun _=>hsf),?_,fun hE=>?_⟩
 ·by_cases hE : Ga z S zf F ((p + 1 : Nat) : Int) = 0
  ·have hD : oD S F p ≠ Qi.zero := fun d => by
    have:=a0G (s:=S) (f:=F) hfx (by rw [hpi]; exact d)
    omega
   rw [Qk,Ua,iD,iD,if_pos hE,if_pos hE,hpi]
   refine ⟨fun x hx=>(List.mem_or_eq_of_mem_set hx).elim (fun j=>(k.fz x j).le (by decide)) fun e=>e ▸ (m.fz.get (by decide) 0).le (by decide),(a0I k.fs m.fs (by decide) hD).le (by decide),by decide,by decide,by rw [hl]; exact cB.tab,by have:=k.h8; omega,?_⟩
   rw [List.all_eq_true]
   intro x hx
   exact (List.mem_or_eq_of_mem_set hx).elim (fun j=>List.all_eq_true.1 k.pos x j) fun e=>e ▸ Km m.pos zo
  ·rw [Qk,Ua,iD,iD,if_neg hE,if_neg hE]; exact Qt.nil (by decide) (by decide)
 ·have hD : oD S F p ≠ Qi.zero := fun d => by
   have:=a0G (s:=S) (f:=F) hfx (by rw [hpi]; exact d)
   omega
  rw [Qk,Ua,iD,iD,if_pos hE,if_pos hE,hpi,hl]
  rw [h2] at hf
  exact a6W rfl h2 hp zo hpz hD k.sh hsf h hf
end
theorem a3P {z:List Qi} {s:List (List Qi)} (h1:z.length = 1) (hp:z.all eA = true) (h:sZ z.length (gm (xJ z s))):(gm s 0 0 * (gm s 0 0).conj).re ≤ 1:=by
 have hx:=h fun _=>1
 rw [Cr,h1] at hx
 have hv:=Sb hp 0 zo
 have hn:=kN (nK hp (show 0 < z.length by omega))
 have e1 : tS 1 (fun i => Qi.inv (gv z i)) (fun _ => 1) = Qi.inv (gv z 0) := by
  show (0:Qi) + 1 * Qi.inv (gv z 0) * (1:Qi).conj = _
  rw [jY]; grind
 have e2 : tS 1 (fun i => Qi.inv (gv z i)) (fun u => aC 1 fun a => (fun _ => 1) a * (gm s u a).conj) = Qi.inv (gv z 0) * (gm s 0 0 * (gm s 0 0).conj) := by
  show (0:Qi) + ((0:Qi) + 1 * (gm s 0 0).conj) * Qi.inv (gv z 0) * ((0:Qi) + 1 * (gm s 0 0).conj).conj = _
  rw [show (0:Qi) + 1 * (gm s 0 0).conj = (gm s 0 0).conj by grind,jN]; grind
 rw [e1,e2] at hx
 generalize gm s 0 0 * (gm s 0 0).conj = G at *
 obtain ⟨c1,c2⟩:(Qi.inv (gv z 0)).conj = Qi.inv (gv z 0) ∧ 0 ≤ (Qi.inv (gv z 0)).re:=hv
 have i0:(Qi.inv (gv z 0)).im = 0:=vS c1.symm
 generalize Qi.inv (gv z 0) = v at *
 have e3:(v - v * G).re = v.re - (v.re * G.re - v.im * G.im):=rfl
 rw [e3,i0] at hx
 have hv0 : v.re ≠ 0 := fun e => by
  have:v = 0:=Qi.ext' e i0
  rw [this] at hn
  have:gv z 0 * 0 = 0:=by grind
  rw [this] at hn
  have:=congrArg Qi.re hn
  revert this; decide +kernel
 rcases Rat.le_total (a:=G.re) (b:=1) with k | k
 ·exact k
 ·have k2 := Rat.mul_nonneg c2 (show (0 : Rat) ≤ G.re - 1 by grind)
  have k3:v.re * (G.re - 1) = 0:=by grind
  rcases Rat.mul_eq_zero.1 k3 with q | q
  ·exact absurd q hv0
  ·grind
theorem zU {a m o l0 l1 l2 l3:Nat} {zl sl zm sm zt st:List Rt} {r:Rt} (ha:a < 256) (hm:m < 256) (ho:o < 256) (hl0:l0 < 256) (hl1:l1 < 256) (hl2:l2 < 256) (hl3:l3 < 256):bB Tryz.prog 5 [Aw a zl sl,Aw m zm sm,Aw o zt st,mQ r,eT [NT .u8 l0,NT .u8 l1,NT .u8 l2,NT .u8 l3]] (aH true):=by
 have n1:1 ≤ mN (a % 2) ∧ mN (a % 2) ≤ 2:=by unfold mN; omega
 have n2:1 ≤ mN (m % 2) ∧ mN (m % 2) ≤ 2:=by unfold mN; omega
 have hA1:=zX (a:=a % 2) (zl:=zl) (sl:=sl) (r:=r) zo
 have hA2:=zX (a:=m % 2) (zl:=zm) (sl:=sm) (r:=r) zo
 have hA3:=zX (a:=0) (zl:=zt) (sl:=st) (r:=r) zo
 have mk : ∀ (x : Nat) (sl : List Rt), ((qK x [r]).map Rt.q).length = mN x ∧ bI ((qK x [r]).map Rt.q) 2 ∧ (∀ i, i < mN x → gv ((qK x [r]).map Rt.q) i = (Pc r).q) ∧ Qt ((qK x [r]).map Rt.q) (zK (rq (rZ x sl)) ((qK x [r]).map Rt.q).length (Rr ((qK x [r]).map Rt.q) (rq (rZ x sl)))) 5 ∧ sZ ((qK x [r]).map Rt.q).length (gm (iA ((qK x [r]).map Rt.q) (zK (rq (rZ x sl)) ((qK x [r]).map Rt.q).length (Rr ((qK x [r]).map Rt.q) (rq (rZ x sl)))))) := fun x sl => by
  obtain ⟨h1,h8,hsh,hp⟩:=sQ (Rl x [r] sl)
  obtain ⟨k1,k2⟩:=Fo ((qK x [r]).map Rt.q) (rq (rZ x sl))
  refine ⟨by rw [List.length_map,qK,aE],bI.rt,fun i hi=>?_,⟨(bI.rt:bI ((qK x [r]).map Rt.q) 2).le (by decide),Kt (bE.rt:bE (rq (rZ x sl)) 2) (by decide) zo,by decide,by decide,vW _ _ _,h8,hp⟩,(Jf (vW _ _ _) hp).1 (Vy hp)⟩
  rw [qK,pF,gF hi]; simp [Pd,Nat.mod_one]
 obtain ⟨e1,f1,g1,k1,p1⟩:=mk (a % 2) sl
 obtain ⟨e2,f2,g2,k2,p2⟩:=mk (m % 2) sm
 obtain ⟨e4,f4,g4,k4,p4⟩:=mk 0 st
 generalize (qK (a % 2) [r]).map Rt.q = z1 at *
 generalize (qK (m % 2) [r]).map Rt.q = z2 at *
 generalize (qK 0 [r]).map Rt.q = z4 at *
 generalize zK (rq (rZ (a % 2) sl)) z1.length (Rr z1 (rq (rZ (a % 2) sl))) = s1 at *
 generalize zK (rq (rZ (m % 2) sm)) z2.length (Rr z2 (rq (rZ (m % 2) sm))) = s2 at *
 generalize zK (rq (rZ 0 st)) z4.length (Rr z4 (rq (rZ 0 st))) = s4 at *
 rw [← e1] at n1 g1
 rw [← e2] at n2 g2
 have e5:z4.length = 1:=by rw [e4]; rfl
 have hk:=a2d (x:=z1.length) (y:=z2.length) zo
 obtain ⟨z3,hz3⟩:∃ z3,z3 = z1 ++ z2:=⟨_,rfl⟩
 obtain ⟨s3,hs3⟩:∃ s3,s3 = nI s1 s2 z1.length z2.length:=⟨_,rfl⟩
 have hcs : bB Tryz.prog 29 [cO z1 s1, cO z2 s2] (eH [cO z3 s3, aL .i64 0]) := by
  have h:=a2S (z:=z1) (zb:=z2) k1.sh k2.sh zo zo
  rw [a4P,a4O,hk] at h
  rw [hz3,hs3]; exact h
 have hN:z3.length = z1.length + z2.length:=by rw [hz3,List.length_append]
 have f3:bI z3 2:=by rw [hz3]; exact a0K f1 f2
 have k3:Qt z3 s3 5:=⟨f3.le (by decide),by rw [hs3]; exact a22 k1.fs k2.fs (by decide),by decide,by decide,by rw [hN,hs3]; exact mV _ _ _ _,by omega,by rw [hz3]; exact a2B k1.pos k2.pos⟩
 have p3:sZ z3.length (gm (iA z3 s3)):=by rw [hz3,hs3]; exact zB k1.sh.1 k2.sh.1 p1 p2
 have hc3:=xP (e:=0) k3 (fun _=>p3)
 have hg:=a3P e5 k4.pos ((Kj k4.sh k4.pos).2 p4)
 have hat : bB Tryz.prog 39 [cO z4 s4, NT .i64 1, NT .i64 1] (eH [aI (gm s4 0 0), aL .i64 0]) := by
  have h:=a5M (z:=z4) (s:=s4) (i:=((0 + 1:Nat):Int)) (j:=((0 + 1:Nat):Int)) k4.sh zo
  rw [show pkm z4.length s4 ((0 + 1:Nat):Int) ((0 + 1:Nat):Int) = gm s4 0 0 from a1G zo zo,if_pos zo] at h; exact h
 have g5:aF (gm s4 0 0) 5:=k4.fs.get (by decide) 0 0
 have hN2:2 ≤ z3.length ∧ z3.length ≤ 4:=by omega
 refine bB.intro Tryz.func5 rfl Tryz.ntmps5 rfl (fun cx=>(ts (rn rfl (fY (Ht rfl)) fun B5=>(rn rfl (fY (Ht rfl)) fun B6=>(rn rfl (fY (Ht rfl)) fun B7=>(rn rfl (fY (Ht rfl)) fun B8=>(rn rfl (fY (Ht rfl)) fun B9=>(ro rfl (cX cW) (eW (cU (Y.D_start (m:=8) [(7,0,box B5 24 [NT .u8 (a % 2),mR zl,mR sl])] (Y.D_step (Ei:=[(5,_)]) rfl rfl (bQ (bJ rfl rfl) bX) rfl rfl (by kernel_rfl) (dZ rfl (eG vF (Ht rfl) rfl)) (Y.D_step (Ei:=[(33,_)]) rfl rfl (bQ (bZ 0 rfl rfl) bX) rfl rfl (by kernel_rfl) (dZ rfl (fZ A_5 Z_5 (Ht rfl) (i:=0) rfl rfl)) ?_)))))))))))))
 refine Y.D_step (Ei:=[(34,_)]) rfl rfl (bQ (bZ 1 rfl rfl) bX) rfl rfl (by kernel_rfl) (dZ rfl (jT (Ht rfl) (cV 2) zo)) (cQ (Ei:=[(6,_)]) rfl rfl (bQ (bJ rfl rfl) bX) rfl rfl (dZ rfl (eG vF (Ht rfl) rfl)) (cQ (Ei:=[(36,_)]) rfl rfl (bQ (bZ 3 rfl rfl) bX) rfl rfl (dZ rfl (fZ A_5 Z_5 (Ht rfl) (i:=1) rfl rfl)) (cQ (Ei:=[(37,_)]) rfl rfl (bQ (bZ 4 rfl rfl) bX) rfl rfl (dZ rfl (jT (Ht rfl) (cV 2) zo)) ?_)))
 refine Y.D_step (Ei:=[(5,_)]) rfl rfl (bQ (bJ rfl rfl) bX) rfl rfl (by kernel_rfl) (dZ rfl (eG vF (Ht rfl) rfl)) (Y.D_putI (Ei:=[(39,_),(35,_)]) 0 rfl rfl rfl (bQ (bZ 6 rfl rfl) (bQ (bZ 2 rfl rfl) bX)) (.head _) rfl (Gq Z_5 (Ht rfl) (Ht rfl) (i:=0) rfl (aK rfl) rfl rfl) (Y.D_done aS rfl (by kernel_rfl) rfl (by simp [Y.okP]) rfl rfl (bU (bU (bU (bU (bU (bU (bU (Y.F_putI (Y.F_nil ?_)))))))))))
 refine ro rfl (eG vF (Ht rfl) rfl) (lP Z_5 (Ht rfl) (Ht rfl) (i:=1) rfl (aK rfl) rfl (ro rfl (eG vF (Ht rfl) rfl) (lP Z_5 (Ht rfl) (cV 0) (i:=2) rfl (aK rfl) rfl (eW (cU (cM [0,1,2,3,4] rfl (by decide) (dQ (ro rfl (eK A_24 Z_24 (Ht rfl) (i:=0) rfl rfl rfl) (ro rfl (eK A_48 Z_48 (Ht rfl) (i:=3) rfl rfl rfl) (ro rfl (cJ Tryz.call37 hA1 ⟨(Ht rfl),(Ht rfl),trivial⟩) (rm rfl (ro rfl (eQ (Ht rfl) rfl) (ro rfl (eQ (Ht rfl) rfl) ?_)))))))))))))
 refine rn rfl (eU (Ts:=[Is (.slice none 0 0),Is (.slice none 0 0)]) O_28 rfl (fun V=>aW zd (aW zd (aG)))) fun B11=>gJ Z_28 (Ht rfl) (Ht rfl) rfl (i:=5) rfl (aK rfl) rfl rfl (ra rfl (eW (cU (cM [0,1,2,3,4,5] rfl (by decide) (dQ (ro rfl (eK A_24 Z_24 (Ht rfl) (i:=1) rfl rfl rfl) (ro rfl (eK A_48 Z_48 (Ht rfl) (i:=3) rfl rfl rfl) (ro rfl (cJ Tryz.call37 hA2 ⟨(Ht rfl),(Ht rfl),trivial⟩) (rm rfl (ro rfl (eQ (Ht rfl) rfl) ?_))))))))))
 refine ro rfl (eQ (Ht rfl) rfl) (rn rfl (eU (Ts:=[Is (.slice none 0 0),Is (.slice none 0 0)]) O_28 rfl (fun V=>aW zd (aW zd (aG)))) fun B13=>(gJ Z_28 (Ht rfl) (Ht rfl) rfl (i:=6) rfl (aK rfl) rfl rfl (ra rfl (eW (cU (cM [0,1,2,3,4,5,6] rfl (by decide) (dQ (ro rfl (eK A_24 Z_24 (Ht rfl) (i:=2) rfl rfl rfl) (ro rfl (eK A_48 Z_48 (Ht rfl) (i:=3) rfl rfl rfl) (ro rfl (cJ Tryz.call37 hA3 ⟨(Ht rfl),(Ht rfl),trivial⟩) ?_))))))))))
 refine rm rfl (ro rfl (eQ (Ht rfl) rfl) (ro rfl (eQ (Ht rfl) rfl) (rn rfl (eU (Ts:=[Is (.slice none 0 0),Is (.slice none 0 0)]) O_28 rfl (fun V=>aW zd (aW zd (aG)))) fun B15=>(gJ Z_28 (Ht rfl) (Ht rfl) rfl (i:=7) rfl (aK rfl) rfl rfl (ra rfl (eW (cU (cM [0,1,2,3,4,5,6,7] rfl (by decide) (dQ (ro rfl (eK A_28 Z_28 (Ht rfl) (i:=5) rfl rfl rfl) (ro rfl (eK A_28 Z_28 (Ht rfl) (i:=6) rfl rfl rfl) ?_)))))))))))
 refine ro rfl (cJ Tryz.call29 hcs ⟨(Ht rfl),(Ht rfl),trivial⟩) (rm rfl (ro rfl (eQ (Ht rfl) rfl) (ro rfl (eQ (Ht rfl) rfl) (rn rfl (eU (Ts:=[Is (.slice none 0 0),Is (.slice none 0 0)]) O_28 rfl (fun V=>aW zd (aW zd (aG)))) fun B17=>(gJ Z_28 (Ht rfl) (Ht rfl) rfl (i:=8) rfl (aK rfl) rfl rfl (ra rfl (eW (cU (ts (rm rfl (ro rfl (eS (Ht rfl)) (rm rfl (fJ rfl rfl (fQ rfl rfl (Ht rfl) (fun h=>cZ (Ht rfl))) (fJ rfl rfl (fQ rfl rfl (Ht rfl) (fun h=>eS (fG rfl h))) ?_))))))))))))))
 refine ro rfl (kQ (Ht rfl) (fun h=>(fG rfl h))) (rm rfl (fJ rfl rfl (fQ rfl rfl (Ht rfl) (fun h=>cZ (Ht rfl))) (fJ rfl rfl (fQ rfl rfl (Ht rfl) (fun h=>eS (fG rfl h))) (ro rfl (kQ (Ht rfl) (fun h=>(fG rfl h))) (rm rfl (fJ rfl rfl (fQ rfl rfl (Ht rfl) (fun h=>cZ (Ht rfl))) (fJ rfl rfl (fQ rfl rfl (Ht rfl) (fun h=>iM (fG rfl h) cW)) (ro rfl (kQ (Ht rfl) (fun h=>(fG rfl h))) (rm rfl (fJ rfl rfl (fQ rfl rfl (Ht rfl) (fun h=>eK A_28 Z_28 (Ht rfl) (i:=8) rfl rfl rfl)) ?_))))))))))
 refine fJ rfl rfl (fQ rfl rfl (Ht rfl) (fun h=>cZ (Ht rfl))) (fJ rfl rfl (fQ rfl rfl (Ht rfl) (fun h=>cJ Tryz.call38 hc3 ⟨(fG rfl h),(fG rfl h),trivial⟩)) (fJ rfl rfl (fQ rfl rfl (Ht rfl) (fun h=>eS (fG rfl h))) (ro rfl (kQ (Ht rfl) (fun h=>(fG rfl h))) (rm rfl (fJ rfl rfl (fQ rfl rfl (Ht rfl) (fun h=>eK A_28 Z_28 (Ht rfl) (i:=8) rfl rfl rfl)) (fJ rfl rfl (fQ rfl rfl (Ht rfl) (fun h=>cJ K_31 nL ⟨(fG rfl h),trivial⟩)) (fJ rfl rfl (fQ rfl rfl (Ht rfl) (fun h=>gV (fG rfl h) (cV 2))) ?_)))))))
 refine ro rfl (kQ (Ht rfl) (fun h=>(fG rfl h))) (eW (jQ (Ht rfl) (by simp; omega) ?_))
 have hm1:=Nat.mod_lt l0 (show 0 < z3.length by omega)
 have hm2:=Nat.mod_lt l1 (show 0 < z3.length - 1 by omega)
 have hm3:=Nat.mod_lt (l0 % z3.length + 1 + l1 % (z3.length - 1)) (show 0 < z3.length by omega)
 refine cY (cU (fW (m:=5) (dp 9 rfl (kO U_49 Z_5 (Ht rfl) (cV 0) rfl (by decide) rfl) (dq 91 0 rfl (fZ A_5 Z_5 (Ht rfl) (i:=4) rfl rfl) (dq 92 1 rfl (gW U_5 U_3 (Ht rfl) z6) (dp 17 rfl (eK A_28 Z_28 (Ht rfl) (i:=8) rfl rfl rfl) (dq 94 3 rfl (cJ K_31 nL ⟨(Ht rfl),trivial⟩) (fK aS rfl (by kernel_rfl) (zF (aJ (aV ?_)))))))))))
 refine ro rfl (jT (Ht rfl) (Ht rfl) zo) (ro rfl (dK (Ht rfl) (cV 1) z6) (ra rfl (eW (cU (fW (m:=11) (dp 19 rfl (cZ (Ht rfl)) (dp 9 rfl (kO U_49 Z_5 (Ht rfl) (cV 1) rfl (by decide) rfl) (dq 99 1 rfl (fZ A_5 Z_5 (Ht rfl) (i:=4) rfl rfl) (dq 100 2 rfl (gW U_5 U_3 (Ht rfl) z6) (dp 17 rfl (eK A_28 Z_28 (Ht rfl) (i:=8) rfl rfl rfl) ?_))))))))))
 refine dq 102 4 rfl (cJ K_31 nL ⟨(Ht rfl),trivial⟩) (dq 103 5 rfl (dU (Ht rfl) (cV 1) zo z6) (dE 101 3 104 6 rfl (jT (Ht rfl) (Ht rfl) zo) (dE 98 0 105 7 rfl (dK (Ht rfl) (Ht rfl) z6) (dp 17 rfl (eK A_28 Z_28 (Ht rfl) (i:=8) rfl rfl rfl) (dq 107 9 rfl (cJ K_31 nL ⟨(Ht rfl),trivial⟩) (fK aS rfl (by kernel_rfl) (zF (zF (aJ (aJ (aJ (aV ?_))))))))))))
 refine ro rfl (jT (Ht rfl) (Ht rfl) zo) (ro rfl (dK (Ht rfl) (cV 1) z6) (ra rfl (eW (cU (cM [0,1,2,3,4,5,6,7,8] rfl (by decide) ?_)))))
 obtain ⟨p,hpd⟩:∃ p,p = l0 % z3.length:=⟨_,rfl⟩
 rw [← hpd] at hm1 hm3 ⊢
 obtain ⟨q,hqd⟩:∃ q,q = (p + 1 + l1 % (z3.length - 1)) % z3.length:=⟨_,rfl⟩
 rw [← hqd] at hm3 ⊢
 obtain ⟨hjn,kA,pA⟩:=a4u (p:=p) (q:=q) k3 hN2.2 p3
 have hcA:=xP (e:=yE z3 s3 (J1 p q)) kA pA
 generalize xI z3 s3 (J1 p q) = ZA at *
 generalize Ge z3 s3 (J1 p q) = SA at *
 generalize yE z3 s3 (J1 p q) = EA at *
 obtain ⟨hte,kC,pC⟩:=a70 (p:=p) k3 zo hm1 g5 hg p3
 have hcC:=xP (e:=oQ z3 s3 ((p + 1:Nat):Int) (gm s4 0 0)) kC pC
 generalize nG z3 s3 ((p + 1:Nat):Int) (gm s4 0 0) = ZC at *
 generalize pO z3 s3 ((p + 1:Nat):Int) (gm s4 0 0) = SC at *
 generalize oQ z3 s3 ((p + 1:Nat):Int) (gm s4 0 0) = EC at *
 obtain ⟨w1,hw1⟩:∃ w1,w1 = otW z3.length l2 0:=⟨_,rfl⟩
 have hwl:w1.length = z3.length:=by rw [hw1]; exact a4i _ _ _
 obtain ⟨hrn,kB,pB⟩:=a6Z (w:=w1) k3 hN2.2 hwl (by rw [hw1]; exact a4h _ _ _) f3 (by rw [hw1]; exact a4j _ _ _) p3
 have hcB:=xP (e:=0) kB (fun _=>pB)
 generalize rB z3 w1 s3 = SB at *
 refine dQ (ro rfl (eK A_28 Z_28 (Ht rfl) (i:=8) rfl rfl rfl) (rm rfl (rm rfl (ro rfl (Pp (Ht rfl) (Ht rfl)) (ro rfl (eB (xs:=[.tmp 115]) U_65 Z_64 Tryz.zeroValue64 (cG (Ht rfl) cK) rfl rfl rfl) (ro rfl (cJ Tryz.call32 hjn ⟨(Ht rfl),(Ht rfl),trivial⟩) (rm rfl (ro rfl (eQ (Ht rfl) rfl) (ro rfl (eQ (Ht rfl) rfl) (rn rfl (eU (Ts:=[Is (.slice none 0 0),Is (.slice none 0 0)]) O_28 rfl (fun V=>aW zd (aW zd (aG)))) fun B21=>?_))))))))))
 refine gJ Z_28 (Ht rfl) (Ht rfl) rfl (i:=9) rfl (aK rfl) rfl rfl (ra rfl (eW (cU (cM [0,1,2,3,4,5,6,7,8,9] rfl (by decide) (dQ (ro rfl (eK A_28 Z_28 (Ht rfl) (i:=7) rfl rfl rfl) (ro rfl (cJ Tryz.call39 hat ⟨(Ht rfl),(cV 1),(cV 1),trivial⟩) (rm rfl (ro rfl (eQ (Ht rfl) rfl) (ro rfl (eQ (Ht rfl) rfl) (rn rfl (eU (Ts:=[Is (.bool false),Is (.slice none 0 0),Is (.bool false),Is (.slice none 0 0),Is (.slice none 0 0)]) O_60 rfl (fun V=>aW zd (aW zd (aW zd (aW zd (aW zd (aG))))))) fun B23=>?_)))))))))))
 refine gJ Z_60 (Ht rfl) (Ht rfl) rfl (i:=10) rfl (aK rfl) rfl rfl (ra rfl (eW (cU (cM [0,1,2,3,4,5,6,7,8,9,10] rfl (by decide) (dQ (ro rfl (eK A_28 Z_28 (Ht rfl) (i:=8) rfl rfl rfl) (rm rfl (ro rfl (eK A_60 Z_60 (Ht rfl) (i:=10) rfl rfl rfl) (ro rfl (cJ Tryz.call40 hte ⟨(Ht rfl),(Ht rfl),(Ht rfl),trivial⟩) (rm rfl (ro rfl (eQ (Ht rfl) rfl) (ro rfl (eQ (Ht rfl) rfl) (rn rfl (eU (Ts:=[Is (.slice none 0 0),Is (.slice none 0 0)]) O_28 rfl (fun V=>aW zd (aW zd (aG)))) fun B25=>?_)))))))))))))
 refine gJ Z_28 (Ht rfl) (Ht rfl) rfl (i:=11) rfl (aK rfl) rfl rfl (ra rfl (eW (cU (cU (cM [0,1,2,3,4,5,6,7,8,9,10,11] rfl (by decide) (dQ (ro rfl (eK A_28 Z_28 (Ht rfl) (i:=9) rfl rfl rfl) (rm rfl (ro rfl (cJ Tryz.call38 hcA ⟨(Ht rfl),(Ht rfl),trivial⟩) (ro rfl (eS (Ht rfl)) (rm rfl (fJ rfl rfl (fQ rfl rfl (Ht rfl) (fun h=>eK A_28 Z_28 (Ht rfl) (i:=11) rfl rfl rfl)) (fJ rfl rfl (fQ rfl rfl (Ht rfl) (fun h=>cZ (Ht rfl))) (fJ rfl rfl (fQ rfl rfl (Ht rfl) (fun h=>cJ Tryz.call38 hcC ⟨(fG rfl h),(fG rfl h),trivial⟩)) ?_))))))))))))))
 refine fJ rfl rfl (fQ rfl rfl (Ht rfl) (fun h=>eS (fG rfl h))) (ro rfl (kQ (Ht rfl) (fun h=>(fG rfl h))) (eW (jQ (Ht rfl) (by simp) ?_)))
 refine cY (ts (ro rfl (eK A_28 Z_28 (Ht rfl) (i:=8) rfl rfl rfl) (ro rfl (cJ K_31 nL ⟨(Ht rfl),trivial⟩) (rn rfl (iU (T:=aI Qi.zero) (i:=Tryz.t60) lE jH rfl rfl (Ht rfl) rfl jB (El.ag rfl) (by show 88 * _ ≤ _; omega) zo) fun B144=>(ra rfl (eW (cU (ts (rm rfl (ro rfl (oX U_25 (Ht rfl) (i:=12) rfl (show ((List.replicate z3.length (aI Qi.zero)).length:Int) = ((z3.length:Nat):Int) from by simp)) (ro rfl (cZ (cV 0)) (eW (eY (cM [4,5,6,8,12] rfl (by decide) ?_))))))))))))))
 refine cP (fun (k : Nat) => k ≤ z3.length) (fun (k : Nat) => z3.length - k) (fun (k : Nat) => [(9, cC B9 0), (11, cC B11 0), (13, cC B13 0), (17, cC B17 0), (27, Is B144), (146, NT .i64 z3.length), (147, NT .i64 k)]) (fun (k : Nat) => [box B9 49 [NT .u8 l0, NT .u8 l1, NT .u8 l2, NT .u8 l3], box B11 28 [bC z1, dF s1], box B13 28 [bC z2, dF s2], box B17 28 [bC z3, dF s3], bP 60 5 B144 ((nA (fun k => (Pc (otR l2 0 k)).q) Qi.zero z3.length k).map aI)]) 0 (Nat.zero_le _)
  (zS rfl) (aU (aD rfl) (aU (aD rfl) (aU (aD rfl) (aU (aD rfl) (aU (bD (by rw [← kF]; exact rU aI _)) aY))))) (fun k hi=>?_)
 refine ts (ro rfl (gV (Ht rfl) (Ht rfl)) (eW (cU (dX (Ht rfl) (fun hc=>?_) (fun hc=>?_)))))
 ·have hin : k < z3.length := by simp only [decide_eq_true_eq] at hc; omega
  refine cY (cU (eY (ts (rm rfl (ra rfl (eW (dQ (rm rfl (rm rfl (ro rfl (kO U_49 Z_5 (Ht rfl) (cV 2) rfl (by decide) rfl) (ro rfl (fZ A_5 Z_5 (Ht rfl) (i:=0) rfl rfl) (ro rfl (gW U_5 U_2 (Ht rfl) z6) (rm rfl (ro rfl (aM.nat (dK (Ht rfl) (Ht rfl) z6) (show l2 + k = l2 % 256 + k % 1000 from by omega)) (ro rfl (Do (Ht rfl)) ?_)))))))))))))))
  refine ro rfl (cJ Tryz.call34 (Ss (r:=otR l2 0 k)) ⟨(Ht rfl),trivial⟩) ?_
  refine ro rfl (cJ Tryz.call33 (Sv (r:=Pc (otR l2 0 k))) ⟨(Ht rfl),trivial⟩) ?_
  refine ro rfl (dB U_25 Z_60 (Ht rfl) (Ht rfl) rfl (i:=4) rfl (by rw [List.length_map,eR]; omega) rfl) ?_
  refine mP Z_60 (Ht rfl) (Ht rfl) (El.ag rfl) (i:=4) rfl rfl (by rw [List.length_map,eR]; omega) rfl ?_
  refine eW (bM (dQ (ro rfl (dK (Ht rfl) (cV 1) z6) (rm rfl (eW (gX (k + 1) hin zo (zS rfl) (aU (aD rfl) (aU (aD rfl) (aU (aD rfl) (aU (aD rfl) (aU (bD (by rw [iR]; exact congrArg _ (lN (f:=(fun k=>(Pc (otR l2 0 k)).q))))) aY)))))))))))
 ·obtain rfl : k = z3.length := by simp only [decide_eq_false_iff_not] at hc; omega
  rw [lM,show tab z3.length (fun k=>(Pc (otR l2 0 k)).q) = w1 from hw1.symm]
  refine gK rfl (cU (gG (i:=4) (tt:=27) rfl rfl fR (dQ (ro rfl (eK A_28 Z_28 (Ht rfl) (i:=3) rfl rfl rfl) (rm rfl (ro rfl (cJ Tryz.call35 hrn ⟨(Ht rfl),(Ht rfl),trivial⟩) (rm rfl (ro rfl (eQ (Ht rfl) rfl) (ro rfl (eQ (Ht rfl) rfl) (rn rfl (eU (Ts:=[Is (.slice none 0 0),Is (.slice none 0 0)]) O_28 rfl (fun V=>aW zd (aW zd (aG)))) fun B29=>(gJ Z_28 (Ht rfl) (Ht rfl) rfl (i:=5) rfl (aK rfl) rfl rfl (ra rfl ?_))))))))))))
  refine eW (cU (cU (cM [0,1,2,3,4,5] rfl (by decide) (dQ (ro rfl (eK A_28 Z_28 (Ht rfl) (i:=5) rfl rfl rfl) (rm rfl (ro rfl (cJ Tryz.call38 hcB ⟨(Ht rfl),(Ht rfl),trivial⟩) (ro rfl (eS (Ht rfl)) (rm rfl (fJ rfl rfl (fQ rfl rfl (Ht rfl) (fun h=>eK A_28 Z_28 (Ht rfl) (i:=2) rfl rfl rfl)) (fJ rfl rfl (fQ rfl rfl (Ht rfl) (fun h=>cJ K_31 nL ⟨(fG rfl h),trivial⟩)) (fJ rfl rfl (fQ rfl rfl (Ht rfl) (fun h=>jR (fG rfl h) (cV 2))) (ro rfl (kQ (Ht rfl) (fun h=>(fG rfl h))) ?_)))))))))))))
  refine eW (dX (Ht rfl) (fun hP=>?_) (fun hP=>?_))
  ·refine ts (rm rfl (ro rfl (lY (Ht rfl) cW) (rm rfl (fJ rfl rfl (fQ rfl rfl (Ht rfl) (fun h => cJ Tryz.call27 Lq trivial)) (ro rfl (fC (Ht rfl) (fun h => (fG rfl h))) (ra rfl (eW (fU rfl (fV (fX rfl) ?_)))))))))
   exact (fA (by simp))
  ·have h22 : z2.length = 2 := by simpa using hP
   have hm4:=Nat.mod_lt l3 (show 0 < z1.length by omega)
   obtain ⟨hem,kE,pE⟩:=a8i (p:=l3 % z1.length) k1 k2 h22 zo hm4 ((g2 1 zo).trans (g1 _ hm4).symm) p1 p2
   have hcE:=xP (e:=Ga z1 s1 z2 s2 ((l3 % z1.length + 1:Nat):Int)) kE pE
   obtain ⟨o1,ho1⟩:∃ o1,o1 = l3 % z1.length:=⟨_,rfl⟩
   rw [← ho1] at hem hcE hm4
   generalize Qk z1 s1 z2 s2 ((o1 + 1:Nat):Int) = ZE at *
   generalize Ua z1 s1 z2 s2 ((o1 + 1:Nat):Int) = SE at *
   generalize Ga z1 s1 z2 s2 ((o1 + 1:Nat):Int) = EE at *
   refine cY (cU (Y.D_start (m:=15) [] (cQ (Ei:=[(11,_)]) rfl rfl (bQ (bJ rfl rfl) bX) rfl rfl (dZ rfl (eK A_28 Z_28 (Ht rfl) (i:=1) rfl rfl rfl)) (cQ (Ei:=[(9,_)]) rfl rfl (bQ (bJ rfl rfl) bX) rfl rfl (dZ rfl (kO U_49 Z_5 (Ht rfl) (cV 3) rfl (by decide) rfl)) (cQ (Ei:=[(184,_)]) rfl rfl (bQ (bZ 1 rfl rfl) bX) rfl rfl (dZ rfl (fZ A_5 Z_5 (Ht rfl) (i:=0) rfl rfl)) (cQ (Ei:=[(185,_)]) rfl rfl (bQ (bZ 2 rfl rfl) bX) rfl rfl (dZ rfl (gW U_5 U_3 (Ht rfl) z6)) ?_))))))
   refine cQ (Ei:=[(11,_)]) rfl rfl (bQ (bJ rfl rfl) bX) rfl rfl (dZ rfl (eK A_28 Z_28 (Ht rfl) (i:=1) rfl rfl rfl)) (cQ (Ei:=[(187,_)]) rfl rfl (bQ (bZ 4 rfl rfl) bX) rfl rfl (dZ rfl (cJ K_31 nL ⟨(Ht rfl),trivial⟩)) (cQ (Ei:=[(186,_),(188,_)]) rfl rfl (bQ (bZ 3 rfl rfl) (bQ (bZ 5 rfl rfl) bX)) rfl rfl (dZ rfl (aM.nat (jT (Ht rfl) (Ht rfl) zo) ho1.symm)) (cQ (Ei:=[(189,_)]) rfl rfl (bQ (bZ 6 rfl rfl) bX) rfl rfl (dZ rfl (dK (Ht rfl) (cV 1) z6)) ?_)))
   refine cQ (Ei:=[(13,_)]) rfl rfl (bQ (bJ rfl rfl) bX) rfl rfl (dZ rfl (eK A_28 Z_28 (Ht rfl) (i:=2) rfl rfl rfl)) (cQ (Ei:=[(183,_),(190,_),(191,_)]) rfl rfl (bQ (bZ 0 rfl rfl) (bQ (bZ 7 rfl rfl) (bQ (bZ 8 rfl rfl) bX))) rfl rfl (dZ rfl (cJ Tryz.call36 hem ⟨(Ht rfl),(Ht rfl),(Ht rfl),trivial⟩)) (cQ (Ei:=[(192,_)]) rfl rfl (bQ (bZ 9 rfl rfl) bX) rfl rfl (dZ rfl (cZ (Ht rfl))) (cQ (Ei:=[(182,_)]) rfl rfl (bQ (bZ 10 rfl rfl) bX) rfl rfl (dZ rfl (eQ (Ht rfl) rfl)) ?_)))
   refine cQ (Ei:=[(182,_)]) rfl rfl (bQ (bZ 10 rfl rfl) bX) rfl rfl (dZ rfl (eQ (Ht rfl) rfl)) (Y.D_newp (Ei:=[]) (fun bb=>box bb 28 [bC ZE,dF SE]) 14 rfl rfl rfl bX rfl rfl (by kernel_rfl) (eU (Ts:=[Is (.slice none 0 0),Is (.slice none 0 0)]) O_28 rfl (fun V=>aW zd (aW zd (aG)))) (Y.D_putN (Ei:=[(193,_)]) 13 rfl rfl rfl rfl rfl rfl (bQ (bZ 11 rfl rfl) bX) (fun bb=>mO Z_28 (Ht rfl) (Ht rfl) rfl (i:=0) rfl (aK rfl) rfl rfl) ?_))
   refine Y.D_done aS rfl (by kernel_rfl) rfl (by simp [Y.okP]) rfl rfl (bU (bU (bU (bU (bU (bU (bU (bU (bU (bU (bU (bU (bU (Y.F_newp (fun B31=>Y.F_putN (Y.F_nil ?_))))))))))))))))
   refine ra rfl (eW (cU (cM [0,1,2,3,4,5,6] rfl (by decide) (dQ (ro rfl (eK A_28 Z_28 (Ht rfl) (i:=6) rfl rfl rfl) (rm rfl (ro rfl (cJ Tryz.call38 hcE ⟨(Ht rfl),(Ht rfl),trivial⟩) (rm rfl (fJ rfl rfl (fQ rfl rfl (Ht rfl) (fun h=>cZ (Ht rfl))) (fJ rfl rfl (fQ rfl rfl (Ht rfl) (fun h=>lY (fG rfl h) cW)) (ro rfl (fC (Ht rfl) (fun h=>(fG rfl h))) (rm rfl (fJ rfl rfl (fQ rfl rfl (Ht rfl) (fun h=>cJ Tryz.call27 Lq trivial)) (ro rfl (fC (Ht rfl) (fun h=>(fG rfl h))) ?_))))))))))))))
   refine ra rfl (eW (fU rfl (fV (fX rfl) ?_)))
   exact (fA (by simp))
end
section
open Go Go.ChangeShapes Go.WideShapes Go.ChangeAt Go.RowKit Go.Deep
section
variable {H:Type} {enc:TypeId × Value → H} {W:World} {base:Nat} {sp:Nat → Bool} {held:Bool}
theorem a8I:S3 Tryz.prog 24 5 22 22:=⟨⟨_,_,_,Tryz.underlying24,rfl,rfl,rfl,rfl,rfl,rfl⟩,by kernel_rfl,by kernel_rfl,by kernel_rfl,by kernel_rfl⟩
theorem xE {b0:Nat} {v:Value} {d:DataW H} {p:List MemPlace} (ho:Value.okWide Tryz.prog W .any b0 24 v) (h:DataW.Trod enc Tryz.prog W base sp held 24 v d p):∃ (a:Nat) (zl sl:List Rt),(eT [NT .u8 a,mR zl,mR sl]).p v (hv W) ∧ a < 256:=by
 obtain ⟨cs,rfl,_⟩:=okWide_struct Tryz.underlying24 ho
 obtain ⟨n,hn⟩:=h
 obtain ⟨x0,x1,x2,m,y0,y1,y2,hcs,h0,h1,h2⟩:=a8I.open hn
 obtain ⟨i,e0,_,w⟩:=DataW.trod_int V_5 h0
 obtain ⟨v1,z,e1,k1⟩:=Hy h1
 obtain ⟨v2,s,e2,k2⟩:=Hy h2
 simp only [List.cons.injEq,and_true] at e0 e1 e2
 subst e0 e1 e2
 have hw:=Pa w
 have e:((i.toNat:Nat):Int) = i:=by omega
 have hi:∀ V,(NT .u8 i.toNat).p (.int .u8 i) V:=fun V=>by rw [show NT .u8 i.toNat = aL .u8 i from congrArg (aL .u8) e]; rfl
 have hcs2:cs.toList = [.int .u8 i,x1,x2]:=hcs
 exact ⟨i.toNat,z,s,⟨cs.toList,rfl,by rw [hcs2]; exact aW ⟨hi _,trivial⟩ (aW ⟨k1,(Oj k1).2⟩ (aW ⟨k2,(Oj k2).2⟩ aG))⟩,by omega⟩
end
end
section
open Go Go.ChangeShapes Go.WideShapes Go.ChangeAt Go.RowKit Go.Deep
section
variable {H:Type} {enc:TypeId × Value → H} {W:World} {base:Nat} {sp:Nat → Bool} {held:Bool}
theorem Rf {P:Program} {w:World} {r:Reach} {base:Nat} {t:TypeId} {v:Value} {n:Nat} {e:TypeId} (ht:P.underlying t = some (.array n e)) (h:Value.okWide P w r base t v):∃ cs,v = .agg cs ∧ cs.size = P.cellsOf t:=by
 simp only [Value.okWide,ht] at h
 obtain ⟨cs,h1,h2,_⟩:=h
 exact ⟨cs,h1,h2⟩
theorem Wi {i : Int} (w : 0 ≤ i ∧ i < 256) : ∀ V, (NT .u8 i.toNat).p (.int .u8 i) V := fun V => by
 have e:((i.toNat:Nat):Int) = i:=by omega
 rw [show NT .u8 i.toNat = aL .u8 i from congrArg (aL .u8) e]; rfl
theorem a2o {b0 : Nat} {v : Value} {d : DataW H} {p : List MemPlace} (ho : Value.okWide Tryz.prog W .any b0 49 v) (h : DataW.Trod enc Tryz.prog W base sp held 49 v d p) :
  ∃ a b c e:Nat,(eT [NT .u8 a,NT .u8 b,NT .u8 c,NT .u8 e]).p v (hv W) ∧ a < 256 ∧ b < 256 ∧ c < 256 ∧ e < 256:=by
 obtain ⟨cs,rfl,_⟩:=Rf Tryz.underlying49 ho
 obtain ⟨n,hn⟩:=h
 obtain ⟨xs,m,_,_,hl,hx,he⟩:=DataW.trod_array Tryz.underlying49 hn
 have hc:Tryz.prog.cellsOf 49 = 4:=by kernel_rfl
 have hi:Tryz.prog.cellsOf 5 = 1:=by kernel_rfl
 rw [hc] at hl
 obtain ⟨cl,hcl⟩:∃ cl,cl = cs.toList:=⟨_,rfl⟩
 have e9:(Value.agg cs).cells.toList = cl:=hcl.symm
 rw [e9] at hl he
 match cl,hl with
 | [c0, c1, c2, c3], _ =>
  match xs,hx with
  | [y0, y1, y2, y3], _ =>
   have e0:=he 0 zo
   have e1:=he 1 zo
   have e2:=he 2 zo
   have e3:=he 3 zo
   rw [hi] at e0 e1 e2 e3
   obtain ⟨i0,q0,_,w0⟩:=DataW.trod_int V_5 (show DataW.trod enc Tryz.prog W base sp held m 5 [c0] = some y0 from e0)
   obtain ⟨i1,q1,_,w1⟩:=DataW.trod_int V_5 (show DataW.trod enc Tryz.prog W base sp held m 5 [c1] = some y1 from e1)
   obtain ⟨i2,q2,_,w2⟩:=DataW.trod_int V_5 (show DataW.trod enc Tryz.prog W base sp held m 5 [c2] = some y2 from e2)
   obtain ⟨i3,q3,_,w3⟩:=DataW.trod_int V_5 (show DataW.trod enc Tryz.prog W base sp held m 5 [c3] = some y3 from e3)
   simp only [List.cons.injEq,and_true] at q0 q1 q2 q3
   subst q0 q1 q2 q3
   have b0:=Pa w0
   have b1:=Pa w1
   have b2:=Pa w2
   have b3:=Pa w3
   exact ⟨i0.toNat,i1.toNat,i2.toNat,i3.toNat,⟨cs.toList,rfl,by rw [← hcl]; exact aW ⟨Wi ⟨by omega,by omega⟩ _,trivial⟩ (aW ⟨Wi ⟨by omega,by omega⟩ _,trivial⟩ (aW ⟨Wi ⟨by omega,by omega⟩ _,trivial⟩ (aW ⟨Wi ⟨by omega,by omega⟩ _,trivial⟩ aG)))⟩,by omega,by omega,by omega,by omega⟩
end
end
end Go.Proofs.YtdlciihkiefckaaGreat
