/- What functions of the program compute, proved by walks over their code, and the plain mathematics of it; a part of the proof in the last text. -/
import Derived.Test.YteohomnhncjcnaaGreatP05
set_option linter.unusedVariables false
set_option linter.unusedSimpArgs false
set_option maxRecDepth 100000
set_option maxHeartbeats 4000000
namespace Go.Proofs.YteohomnhncjcnaaGreat
section
open Go Go.RowKit
theorem gG.tk {V : bE} : ∀ {Ts : List Ty} {vs : List Value} (k : Nat), gG Ts vs V → gG (Ts.take k) (vs.take k) V
 | _,_,0,_=>by simp [gG]
 | [],[],k + 1,_=>by simp [gG]
 | T :: Ts, v :: vs, k + 1, h => by
  rw [List.take_succ_cons,List.take_succ_cons]; exact ⟨h.1,gG.tk k h.2⟩
 | [],_ :: _,_ + 1,h=>h.elim
 | _ :: _,[],_ + 1,h=>h.elim
theorem gG.dr {V : bE} : ∀ {Ts : List Ty} {vs : List Value} (k : Nat), gG Ts vs V → gG (Ts.drop k) (vs.drop k) V
 | _,_,0,h=>h
 | [],[],k + 1,_=>by simp [gG]
 | T :: Ts, v :: vs, k + 1, h => by
  rw [List.drop_succ_cons,List.drop_succ_cons]; exact gG.dr k h.2
 | [],_ :: _,_ + 1,h=>h.elim
 | _ :: _,[],_ + 1,h=>h.elim
section
variable {P:Program} {R:iO} {cx:Cx} {n:Nat} {k:List It} {E:dB} {H:Hp} {ops:Array Oper} {o:Oper} {rest:List Oper}
variable {d:Option Tmp} {t:TypeId} {pos:String} {af:Array Edge} {g:Option (Nat × Bool)}
theorem Er {x y : Operand} {i e e' s lo p : Nat} {ta tb : TypeId} {v : Value} {Ts Us : List Ty} {a : Act} {w : World} {V : bE} {b0 o0 cp dd : Nat} {ys : List Value} {t' : TypeId} (hU : ∀ w, (underlying ta).run P w = .ok (.slice e) w) (hS : ∀ w, (sizeOf e).run P w = .ok s w)
  (hinv:iR cx V H w) (hH:H[i]? = some (bN e' s v Ts)) (hxv:(Hu s v lo p).p (a.eval x) V) (ey:a.eval y = .slice (some ⟨b0,o0,none⟩) Us.length cp) (hqp:Us.length ≤ p)
  (hrow:zP s Us ys V) (hcells:∀ (j:Nat) u,(dC ys)[j]? = some u → w.cell? ((⟨b0,o0,none⟩:Addr).add j) = some u) :
  ∃ w',(execOp a.eval ⟨some dd,.call ⟨.builtin .copy,#[x,y],#[ta,tb]⟩,t',pos,af,g⟩).run P w = .ok (.value (goInt Us.length)) w' ∧ iR cx V (H.set i (bN e' s v (Ts.take lo ++ Us ++ Ts.drop (lo + Us.length)))) w':=by
 obtain ⟨S,hR⟩:=(show HH cx.w0.heap.size w V (H ++ []) by simpa using hinv.hp).get hH
 obtain ⟨xs,hrx,h2⟩:=hR
 obtain ⟨g1,l0,cap0,hv,hlo,hlc,ex⟩:=hxv
 rcases h2 with ⟨h0,_⟩ | ⟨g2,cap,cur,h3,hS',hg,hle,hcm,hcs,htake⟩
 ·rw [hv] at h0; cases h0
 rw [hv] at h3
 simp only [Value.slice.injEq,Option.some.injEq,Addr.mk.injEq] at h3
 obtain ⟨⟨rfl,_⟩,rfl,rfl⟩:=h3
 have hyl:ys.length = Us.length:=hrow.all.length
 have hxl:xs.length = Ts.length:=hrx.all.length
 have hmin:Nat.min Us.length p = Us.length:=Nat.min_eq_left hqp
 have hfl:(dC ys).length = Us.length * s:=by rw [jK _ (fun z hz=>hrow.size z hz),hyl]
 have hg':w.heap[g1]? = some (.cells cur e' (0,0)):=hg
 have h1s:(lo + Us.length) * s ≤ Ts.length * s:=Nat.mul_le_mul_right _ zo
 have h2s:Ts.length * s ≤ cap0 * s:=Nat.mul_le_mul_right _ hle
 have h3s:(lo + Us.length) * s = lo * s + Us.length * s:=Nat.add_mul _ _ _
 have hpl:∀ u,u ∈ dC ys → kC u:=fun u hu=>hrow.plain u hu
 obtain ⟨w',q1,⟨c',q2,q2'⟩,q3,q4,q5,q6,q7⟩:=mT (P:=P) (dC ys) (lo * s) 0 w cur hg' (by rw [hfl]; omega) hpl
 have hf:=run_firstCells_some (P:=P) w s Us.length ⟨b0,o0,none⟩ Us.length cp (dC ys) hfl hcells
 refine ⟨w',?_,?_⟩
 ·simp [execOp,resolve,invoke,builtin,ex,ey,Builtin.copy_,Builtin.lenOf,Sem.run_bind,hU,hS,Result.andThen,hmin,hf,q1]
 ·refine hinv.upd hH q4 q5 q6 q7 (fun S2 hS2 => ?_)
  obtain ⟨xs2,hrx2,h4⟩:=hS2
  rcases h4 with ⟨h0,_⟩ | ⟨g3,cap3,cur3,h5,hS3,hg3,hle3,hcm3,hcs3,htake3⟩
  ·rw [hv] at h0; cases h0
  rw [hv] at h5
  simp only [Value.slice.injEq,Option.some.injEq,Addr.mk.injEq] at h5
  obtain ⟨⟨rfl,_⟩,_,rfl⟩:=h5
  have hg4:w.heap[g1]? = some (.cells cur3 e' (0,0)):=hg3
  rw [hg'] at hg4; simp at hg4; subst hg4
  subst hS3
  have hx2l:xs2.length = Ts.length:=hrx2.all.length
  have hnl:(Ts.take lo ++ Us ++ Ts.drop (lo + Us.length)).length = Ts.length:=by simp only [List.length_append,List.length_take,List.length_drop]; omega
  refine ⟨fun b hb=>q3 b (by simpa using hb),xs2.take lo ++ ys ++ xs2.drop (lo + Us.length),⟨((hrx2.all.tk lo).append hrow.all).append (hrx2.all.dr _),fun z hz=>?_,fun u hu=>?_⟩,.inr ⟨g1,cap0,c',by rw [hv,hnl],rfl,q2,by rw [hnl]; exact hle,hcm,?_,?_⟩⟩
  ·simp only [List.mem_append] at hz
   rcases hz with (hz | hz) | hz
   ·exact hrx2.size z (List.mem_of_mem_take hz)
   ·exact hrow.size z hz
   ·exact hrx2.size z (List.mem_of_mem_drop hz)
  ·obtain ⟨z, hz, hu'⟩ := iA.1 hu
   simp only [List.mem_append] at hz
   rcases hz with (hz | hz) | hz
   ·exact hrx2.plain u (iA.2 ⟨z,List.mem_of_mem_take hz,hu'⟩)
   ·exact hrow.plain u (iA.2 ⟨z,hz,hu'⟩)
   ·exact hrx2.plain u (iA.2 ⟨z,List.mem_of_mem_drop hz,hu'⟩)
  ·have : c'.toList.length = cur.toList.length := by
    rw [q2']; simp only [List.length_append,List.length_take,List.length_drop,Array.length_toList,hfl]; omega
   simpa [hcs] using this
  ·rw [hnl, q2', sT, sT, Db hrx2.size lo zo, Vb hrx2.size (lo + Us.length) zo, ← htake3, h3s]
   simp only [Nat.add_zero,hfl]
   exact He _ _ _ _ _ hfl zo (by simp only [Array.length_toList]; omega)
theorem a2u {x y : Operand} {i e e' s lo p dd : Nat} {ta tb : TypeId} {v : Value} {Ts Us : List Ty} (hU : ∀ w, (underlying ta).run P w = .ok (.slice e) w) (hS : ∀ w, (sizeOf e).run P w = .ok s w)
  (hH:H[i]? = some (bN e' s v Ts)) (hx:bH E x (Hu s v lo p)) (hy:bH E y (jA s Us)) (hq:Us ≠ []) (hqp:Us.length ≤ p) (hEl:∀ T,T ∈ Us → El s T) (hn:Nat.blt dd n = true) {t':TypeId}
  (h:Rg P R cx n ops rest k ((dd,NT .i64 Us.length) :: E) (H.set i (bN e' s v (Ts.take lo ++ Us ++ Ts.drop (lo + Us.length))))) :
  Rg P R cx n ops (⟨some dd,.call ⟨.builtin .copy,#[x,y],#[ta,tb]⟩,t',pos,af,none⟩ :: rest) k E H:=by
 intro a w ⟨V,hinv,hs⟩
 unfold wpList
 rw [if_pos (by simp [Region.wanted])]
 left
 obtain ⟨b0,o0,cp,ys,ey,_,hrow,hcells⟩:=jA.row (hy n V a hs) hq hEl
 obtain ⟨w',hrun,hi'⟩:=Er (dd:=dd) (pos:=pos) (af:=af) (g:=none) (t':=t') (tb:=tb) hU hS hinv hH (hx n V a hs) ey hqp hrow (hcells w hinv.on)
 simp only [Oper.wp,hrun,Oper.upon_value]
 exact h _ _ ⟨V,hi',hs.put (aK hn) rfl⟩
theorem a2v {x y : Operand} {i e e' s dd : Nat} {ta tb : TypeId} {v : Value} {Ts Us : List Ty} (hU : ∀ w, (underlying ta).run P w = .ok (.slice e) w) (hS : ∀ w, (sizeOf e).run P w = .ok s w)
  (hH:H[i]? = some (bN e' s v Ts)) (hx:bH E x (Is v)) (hy:bH E y (jA s Us)) (hq:Us ≠ []) (hqp:Us.length ≤ Ts.length) (hEl:∀ T,T ∈ Us → El s T) (hn:Nat.blt dd n = true) {t':TypeId}
  (h:Rg P R cx n ops rest k ((dd,NT .i64 Us.length) :: E) (H.set i (bN e' s v (Us ++ Ts.drop Us.length)))) :
  Rg P R cx n ops (⟨some dd,.call ⟨.builtin .copy,#[x,y],#[ta,tb]⟩,t',pos,af,none⟩ :: rest) k E H:=by
 intro a w ⟨V,hinv,hs⟩
 unfold wpList
 rw [if_pos (by simp [Region.wanted])]
 left
 obtain ⟨b0,o0,cp,ys,ey,_,hrow,hcells⟩:=jA.row (hy n V a hs) hq hEl
 obtain ⟨S,hR⟩:=(show HH cx.w0.heap.size w V (H ++ []) by simpa using hinv.hp).get hH
 have hxv : (Hu s v 0 Ts.length).p (a.eval x) V := by
  obtain ⟨xs,_,h2⟩:=hR
  rcases h2 with ⟨_,h0,_⟩ | ⟨g1,cap,cur,hv,_,_,hle,_⟩
  ·have := List.length_pos_iff.2 hq
   rw [h0] at hqp; simp at hqp; exact absurd hqp hq
  ·have ex : a.eval x = v := hx n V a hs
   exact ⟨g1,Ts.length,cap,hv,by omega,hle,by rw [ex,hv]; simp⟩
 obtain ⟨w',hrun,hi'⟩:=Er (dd:=dd) (pos:=pos) (af:=af) (g:=none) (t':=t') (tb:=tb) hU hS hinv hH hxv ey hqp hrow (hcells w hinv.on)
 rw [Nat.zero_add,List.take_zero,List.nil_append] at hi'
 simp only [Oper.wp,hrun,Oper.upon_value]
 exact h _ _ ⟨V,hi',hs.put (aK hn) rfl⟩
def hdr : Option (Nat × Nat) → Nat → Value
 | none,_=>.slice none 0 0
 | some (b,cp),l=>.slice (some ⟨b,0,none⟩) l cp
instance shHdr (x:Option (Nat × Nat)) (l:Nat):dA (Is (hdr x l)) 1 false:=by
 match x with
 | none=>exact inferInstanceAs (dA (Is (.slice none 0 0)) 1 false)
 | some (b,cp)=>exact inferInstanceAs (dA (Is (.slice (some ⟨b,0,none⟩) l cp)) 1 false)
theorem Ig {x y : Operand} {s e : Nat} {v : Value} {Ts Us : List Ty} {inf : TypeInfo} {z : Value} {dd : Nat} (ht : P.underlying t = some (.slice e)) (hi : P.info? e = some inf) (hz : inf.zero = some z) (hsize : inf.size = s) (hzs : z.cells.size = s)
  (hx:bH E x (Is v)) (hy:bH E y (jA s Us)) (hEl:∀ T,T ∈ Us → El s T) (hlen:(Ts.length + Us.length) * inf.bytes ≤ 140737488355328) (h63:Ts.length + Us.length ≤ 9223372036854775807) {t':TypeId} :
  Dy P n E (bN e s v Ts) ⟨some dd,.call ⟨.builtin .append,#[x,y],#[t,t]⟩,t',pos,af,none⟩ (Option (Nat × Nat)) (fun v=>Is (hdr v (Ts ++ Us).length)) (fun v=>bN e s (hdr v (Ts ++ Us).length) (Ts ++ Us)):=fun cx X a w V hinv hs=>by
 obtain ⟨v',w',hrun,hi'⟩:=Ee (dd:=dd) (pos:=pos) (af:=af) (t':=t') (H:=[bN e s v Ts] ++ X) (i:=0) ht hi hz hsize hzs hx hy rfl hEl hlen h63 hinv hs
 obtain ⟨S,xs,_,h2⟩:=(show HH cx.w0.heap.size w' V ((([bN e s v Ts] ++ X).set 0 (bN e s v' (Ts ++ Us))) ++ []) by simpa using hi'.hp).get (i:=0) (A:=bN e s v' (Ts ++ Us)) rfl
 have key : ∃ q : Option (Nat × Nat), v' = hdr q (Ts ++ Us).length := by
  rcases h2 with ⟨rfl,_,_⟩ | ⟨g,cap2,cur,rfl,_⟩
  ·exact ⟨none,rfl⟩
  ·exact ⟨some (g,cap2),rfl⟩
 obtain ⟨q,rfl⟩:=key
 exact ⟨q,_,w',hrun,rfl,hi'⟩
end
end
section
open Go Go.RowKit
theorem a5A {c cb:List (List Qi)} {x y i:Nat} (hc:cP c x x) (hi:i < x):(c.getD i []).map aF ++ ((tab (x + y) fun _=>Qi.zero).map aF).drop ((c.getD i []).map aF).length = (mG c cb x y i).map aF:=by
 have hr:=hc.row hi
 rw [List.length_map,hr,← List.map_drop,← List.map_append]
 congr 1
 refine List.ext_getElem (by rw [List.length_append,List.length_drop,hr,aC,mG,aC]; omega) fun j h1 h2=>?_
 have hj:j < x + y:=by rw [mG,aC] at h2; exact h2
 have e:(mG c cb x y i)[j] = if i < x then (if j < x then gm c i j else Qi.zero) else (if x ≤ j then gm cb (i - x) (j - x) else Qi.zero):=by simp [mG,tab]
 rw [e,if_pos hi]
 by_cases k:j < x
 ·rw [if_pos k,List.getElem_append_left zo]; simp [gm,List.getD,show j < (c[i]?.getD []).length by simpa [List.getD] using (by omega:j < (c.getD i []).length)]
 ·rw [if_neg k,List.getElem_append_right zo,List.getElem_drop]; simp [tab]
theorem a5B {c cb:List (List Qi)} {x y r:Nat} (hb:cP cb y y) (hr:r < y):((tab (x + y) fun _=>Qi.zero).map aF).take x ++ (cb.getD r []).map aF ++ ((tab (x + y) fun _=>Qi.zero).map aF).drop (x + ((cb.getD r []).map aF).length) = (mG c cb x y (x + r)).map aF:=by
 have hl:=hb.row hr
 rw [List.length_map,hl,← List.map_take,← List.map_drop,← List.map_append,← List.map_append,List.drop_eq_nil_of_le (by rw [aC]; exact Nat.le_refl _),List.append_nil]
 congr 1
 refine List.ext_getElem (by rw [List.length_append,List.length_take,hl,aC,mG,aC]; omega) fun j h1 h2=>?_
 have hj:j < x + y:=by rw [mG,aC] at h2; exact h2
 have e:(mG c cb x y (x + r))[j] = if x + r < x then (if j < x then gm c (x + r) j else Qi.zero) else (if x ≤ j then gm cb (x + r - x) (j - x) else Qi.zero):=by simp [mG,tab]
 rw [e,if_neg zo,Nat.add_sub_cancel_left]
 have htl:((tab (x + y) fun _=>Qi.zero).take x).length = x:=by rw [List.length_take,aC]; omega
 by_cases k:x ≤ j
 ·rw [if_pos k, List.getElem_append_right zo]
  simp only [htl]
  simp [gm,List.getD,show j - x < (cb[r]?.getD []).length by simpa [List.getD] using (by omega:j - x < (cb.getD r []).length)]
 ·rw [if_neg k,List.getElem_append_left zo,List.getElem_take]; simp [tab]
theorem Wa {l : List Qi} (h : 1 ≤ l.length) : l.map aF ≠ [] := fun e => by
 have h2:=congrArg List.length e
 rw [List.length_map,List.length_nil] at h2; omega
theorem Ni {z zb:List Qi} {a b c cb:List (List Qi)} (ha:cP a z.length z.length) (hb:cP b zb.length zb.length) (hc:cP c z.length z.length) (hcb:cP cb zb.length zb.length) (hx:z.length ≤ 100) (hy:zb.length ≤ 100):bL Tryz.prog 34 [eR z a c,eR zb b cb] (fS [eR (tD z zb) (nS z zb a b) (nS z zb c cb),aL .i64 (Bh z.length zb.length)]):=by
 have hcl:=hc.1
 have hbl:=hcb.1
 have hS:=a2M ha hb hx hy
 refine bL.intro Tryz.func34 rfl Tryz.ntmps34 rfl (fun cx=>(ts (rn rfl (fK (Ht rfl)) fun B2=>(rn rfl (fK (Ht rfl)) fun B3=>(rn rfl (eG (Ts:=[Is (.slice none 0 0),Is (.slice none 0 0),Is (.slice none 0 0)]) O_34 rfl (fun V=>aW zd (aW zd (aW zd (aG))))) fun B4=>(ro rfl (cX (cV 0)) (eZ (ts (ro rfl (eJ oJ (Ht rfl) rfl) (ro rfl (eW A_32 Z_32 (Ht rfl) (i:=0) rfl rfl rfl) (ro rfl (eJ oJ (Ht rfl) rfl) (ro rfl (eW A_32 Z_32 (Ht rfl) (i:=1) rfl rfl rfl) ?_))))))))))))
 refine ro rfl (cJ Tryz.call30 hS ⟨(Ht rfl),(Ht rfl),trivial⟩) (rm rfl (ro rfl (dU (Ht rfl) rfl) (ro rfl (dU (Ht rfl) rfl) (rn rfl (eG (Ts:=[Is (.slice none 0 0),Is (.slice none 0 0)]) O_32 rfl (fun V=>aW zd (aW zd (aG)))) fun B6=>(gX Z_32 (Ht rfl) (Ht rfl) rfl (i:=3) rfl (aK rfl) rfl rfl (ra rfl (eZ (cU (ts (rm rfl (ro rfl (gD (Ht rfl) cW) (eZ (dX (Ht rfl) (fun hb1=>?_) (fun hb1=>?_))))))))))))))
 ·have he : Bh z.length zb.length ≠ 0 := by simpa using hb1
  refine ts (ro rfl (aI.imp (vX ) pW) (rm rfl (gX Z_34 (Ht rfl) (Ht rfl) rfl (i:=2) rfl (aK rfl) rfl rfl (ra rfl (eZ (bR rfl (fZ (fU A_34 Z_34 rfl (i:=2) rfl rfl) ?_) (eY rfl)))))))
  exact (fun v V h=>by rw [tD,nS,nS,cD,cD,cD,if_neg he,if_neg he,if_neg he]; exact h)
 ·have he : Bh z.length zb.length = 0 := by simpa using hb1
  have hz:tD z zb = z ++ zb:=by rw [tD,cD,if_pos he]
  have hs:nS z zb a b = mA a b z.length zb.length:=by rw [nS,cD,if_pos he]
  have hq:nS z zb c cb = mA c cb z.length zb.length:=by rw [nS,cD,if_pos he]
  rw [hz,hs,hq,he]
  obtain ⟨x,hxl⟩:∃ x,x = z.length:=⟨_,rfl⟩
  obtain ⟨y,hyl⟩:∃ y,y = zb.length:=⟨_,rfl⟩
  have hzl:(z ++ zb).length = x + y:=by rw [List.length_append,hxl,hyl]
  rw [← hxl,← hyl]
  rw [← hxl] at hc hcl hx
  rw [← hyl] at hcb hbl hy
  refine cY (cU (fJ (m:=3) (dp 6 rfl (eW A_32 Z_32 (Ht rfl) (i:=3) rfl rfl rfl) (dq 25 0 rfl (aI.nat (cJ K_22 lS ⟨(Ht rfl),trivial⟩) hzl) (dp 6 rfl (eW A_32 Z_32 (Ht rfl) (i:=3) rfl rfl rfl) (fW bA rfl (by kernel_rfl) (aJ (aJ (aJ (aV (ro rfl (aI.nat (cJ K_22 lS ⟨(Ht rfl),trivial⟩) hzl) (rn rfl (nZ Tryz.call97 (En (n:=x + y) zo) ⟨(Ht rfl),(Ht rfl),trivial⟩) fun B29=>(ra rfl (eZ (cU (ts (ro rfl (eJ kI (Ht rfl) rfl) ?_)))))))))))))))))
  refine ro rfl (fQ A_30 Z_30 (Ht rfl) (i:=0) rfl rfl) (ro rfl (dK U_30 (Ht rfl) (by rw [List.length_map,hcl])) ?_)
  refine ro rfl (cZ (cV 0)) (eZ (eK ?_))
  refine bP (fun (i : Nat) => i ≤ x) (fun (i : Nat) => x - i) (fun (i : Nat) => [(2, bF B2 0), (3, bF B3 0), (4, bF B4 0), (6, bF B6 0), (8, Is (.slice (some ⟨B29, 0, none⟩) (x + y) (x + y))), (31, bM c), (32, NT .i64 x), (33, NT .i64 i)]) (fun (i : Nat) => [box B2 34 [aR z, bM a, bM c], box B3 34 [aR zb, bM b, bM cb], box B4 34 [Is (.slice none 0 0), Is (.slice none 0 0), Is (.slice none 0 0)], box B6 32 [aR (z ++ zb), bM (mA a b x y)], kK eM B29 29 51 5 (bS aF (iP (mG c cb x y) (tab (x + y) fun _ => Qi.zero) (x + y) i))]) 0 (Nat.zero_le _)
   (zS rfl) (aU (aB rfl) (aU (aB rfl) (aU (aB rfl) (aU (aB rfl) (aU (bD (by rw [zO,fF])) aY))))) (fun i hi=>?_)
  refine ts (ro rfl (gZ (Ht rfl) (Ht rfl)) (eZ (cU (dX (Ht rfl) (fun hd=>?_) (fun hd=>?_)))))
  ·have hdn : i < x := by simp only [decide_eq_true_eq] at hd; omega
   have hcr:=hc.row hdn
   refine iS 4 (i) rfl (iB zo) (fun v0 hv0=>(cY (cU (eK (ts (rm rfl (ro rfl (dJ U_30 Z_29 (Ht rfl) (Ht rfl) rfl (eQ (dY (d:=[]) zo))) (ro rfl (dV A_29 Z_29 (Ht rfl)) (ra rfl (ra rfl (eZ (dQ (rm rfl (rm rfl (ro rfl (gQ U_30 Z_29 (Ht rfl) (Ht rfl) rfl zo (by rw [Nat.mul_one,Nat.zero_add])) ?_)))))))))))))))
   refine ro rfl (gM A_29 Z_29 (Ht rfl) (j:=4) rfl) (rm rfl (a2v U_29 Z_51 (i:=5) rfl (Ht rfl) (Ht rfl) (Wa zo) (by rw [List.length_map,List.length_map,aC]; omega) (fun T hT=>by obtain ⟨x,_,rfl⟩:=List.mem_map.1 hT; exact El.ag rfl) rfl ?_))
   refine eZ (aT ?_)
   rw [a5A (cb:=cb) hc hdn]
   refine dI 4 5 rfl rfl (by decide) (by simp only [bS,List.length_map,cL]; omega) ?_
   refine dQ (ro rfl (dW (Ht rfl) (cV 1) z6) (rm rfl (eZ (bI [0,1,2,3,4] rfl (by decide) (fY (i + 1) hdn zo (zS rfl) (aU (aB rfl) (aU (aB rfl) (aU (aB rfl) (aU (aB rfl) (aU (bD (by rw [eN,← fR (f:=mG c cb x y)])) aY))))))))))
  ·have hdn : i = x := by simp only [decide_eq_false_iff_not] at hd; omega
   rw [hdn]
   refine gW rfl (cU (ts (ro rfl (eJ kI (Ht rfl) rfl) (ro rfl (fQ A_30 Z_30 (Ht rfl) (i:=1) rfl rfl) (ro rfl (dK U_30 (Ht rfl) (by rw [List.length_map,hbl])) ?_)))))
   refine ro rfl (cZ (cV 0)) (eZ (eK (bI [0,1,2,3,4] rfl (by decide) ?_)))
   refine bP (fun (r : Nat) => r ≤ y) (fun (r : Nat) => y - r) (fun (r : Nat) => [(2, bF B2 0), (3, bF B3 0), (4, bF B4 0), (6, bF B6 0), (8, Is (.slice (some ⟨B29, 0, none⟩) (x + y) (x + y))), (46, bM cb), (47, NT .i64 y), (48, NT .i64 r)]) (fun (r : Nat) => [box B2 34 [aR z, bM a, bM c], box B3 34 [aR zb, bM b, bM cb], box B4 34 [Is (.slice none 0 0), Is (.slice none 0 0), Is (.slice none 0 0)], box B6 32 [aR (z ++ zb), bM (mA a b x y)], kK eM B29 29 51 5 (bS aF (iP (mG c cb x y) (tab (x + y) fun _ => Qi.zero) (x + y) (x + r)))]) 0 (Nat.zero_le _)
    (zS rfl) (aU (aB rfl) (aU (aB rfl) (aU (aB rfl) (aU (aB rfl) (aU (bD rfl) aY))))) (fun r hr=>?_)
   refine ts (ro rfl (gZ (Ht rfl) (Ht rfl)) (eZ (cU (dX (Ht rfl) (fun hd2=>?_) (fun hd2=>?_)))))
   ·have hdn2 : r < y := by simp only [decide_eq_true_eq] at hd2; omega
    have hcr:=hcb.row hdn2
    refine iS 4 ((x + r)) rfl (iB zo) (fun v0 hv0=>(cY (cU (eK (ts (rm rfl (ro rfl (dJ U_30 Z_29 (Ht rfl) (Ht rfl) rfl (eQ (dY (d:=[]) zo))) (ro rfl (dV A_29 Z_29 (Ht rfl)) (ra rfl (ra rfl (eZ (fJ (m:=13) (dp 8 rfl (cZ (Ht rfl)) (dp 2 rfl (eJ kI (Ht rfl) rfl) (dq 54 1 rfl (fQ A_30 Z_30 (Ht rfl) (i:=0) rfl rfl) (dq 55 2 rfl (dK U_30 (Ht rfl) (by rw [List.length_map,hcl])) ?_))))))))))))))))
    refine dp 11 rfl (cZ (Ht rfl)) (dT 56 3 57 4 rfl (dW (Ht rfl) (Ht rfl) z6) (dT 53 0 58 5 rfl (gQ U_30 Z_29 (Ht rfl) (Ht rfl) rfl zo (by rw [Nat.mul_one,Nat.zero_add])) ?_))
    refine dq 59 6 rfl (gM A_29 Z_29 (Ht rfl) (j:=4) rfl) (dp 2 rfl (eJ kI (Ht rfl) rfl) (dq 61 8 rfl (fQ A_30 Z_30 (Ht rfl) (i:=0) rfl rfl) (dq 62 9 rfl (dK U_30 (Ht rfl) (by rw [List.length_map,hcl])) ?_)))
    refine dT 60 7 63 10 rfl (Pe U_29 Z_51 (Ht rfl) (Ht rfl) rfl (i:=5) rfl (by rw [List.length_map,aC]; omega)) ?_
    refine dp 12 rfl (cZ (Ht rfl)) (fW bA rfl (by kernel_rfl) (zF (zF (zF (aJ (aV (a2u U_29 Z_51 (i:=5) rfl (Ht rfl) (Ht rfl) (Wa zo) (by rw [List.length_map,List.length_map,aC]; omega) (fun T hT=>by obtain ⟨x,_,rfl⟩:=List.mem_map.1 hT; exact El.ag rfl) rfl ?_)))))))
    refine eZ (aT ?_)
    rw [a5B (c:=c) hcb hdn2]
    refine dI 4 5 rfl rfl (by decide) (by simp only [bS,List.length_map,cL]; omega) ?_
    refine dQ (ro rfl (dW (Ht rfl) (cV 1) z6) (rm rfl (eZ (bI [0,1,2,3,4] rfl (by decide) (fY (r + 1) hdn2 zo (zS rfl) (aU (aB rfl) (aU (aB rfl) (aU (aB rfl) (aU (aB rfl) (aU (bD (by rw [eN,fR (f:=mG c cb x y)]; rfl)) aY))))))))))
   ·have hdn2 : r = y := by simp only [decide_eq_false_iff_not] at hd2; omega
    rw [hdn2,gO,show tab (x + y) (mG c cb x y) = mA c cb x y from rfl]
    refine gW rfl (gV (i:=4) (tt:=8) rfl rfl (iT (s:=5) (M:=mA c cb x y) (aC _ _).symm) (ts (ro rfl (eW A_32 Z_32 (Ht rfl) (i:=3) rfl rfl rfl) (rm rfl (ro rfl (qF (Ht rfl) (Ht rfl)) (gX Z_34 (Ht rfl) (Ht rfl) rfl (i:=2) rfl (aK rfl) rfl rfl (ro rfl (cX (cV 0)) (eZ ?_))))))))
    exact bR rfl (fU A_34 Z_34 rfl (i:=2) rfl rfl) (eY rfl)
end
section
open Go Go.RowKit
theorem a4R {z:List Rt} {s c:List (List Rt)}:(uH z s c).length ≤ z.length:=Nat.le_trans (yY _ _) (Nat.le_trans (yY _ _) (by rw [List.length_map]; exact Nat.le_refl _))
theorem a1a {z:List Rt} {s c:List (List Rt)} (hf:nQ z s c = true) (h:z.length ≤ 9):nQ (Ey z) s (Zq z.length) = true:=by
 simp only [nQ,Bool.and_eq_true,decide_eq_true_eq,List.all_eq_true] at hf ⊢
 refine ⟨⟨⟨⟨by rw [aC]; exact h,hf.1.1.1.2⟩,by rw [aC]; exact h⟩,hf.1.2⟩,fun r hr=>?_⟩
 obtain ⟨_,_,rfl⟩:=iV.1 hr
 rw [aC]; exact h
theorem a3f {z z':List Rt} {s c:List (List Rt)} (hf:nQ z s c = true) (h:z'.length = z.length):nQ z' s c = true:=by rw [nQ] at hf ⊢; rw [h]; exact hf
section
variable {z:List Qi} {s:List (List Qi)} {js:List (Int × Int)}
theorem a1G (hs:bB s 2) (hl:z.length ≤ 8):bB (jT z s js) 1000000:=by
 by_cases h:kE z s js = 0
 ·obtain ⟨hd, hj6, hk, hne⟩ := jN h hl
  rw [jT]
  refine nH ?_
  by_cases h0:js.length = 0
  ·rw [if_pos h0]; exact hs.le (by decide)
  ·rw [if_neg h0]
   refine bB.tab fun x y _ _=>?_
   rw [← Rq]
   have hv : cH (jB (lW s (cC js) (2 * js.length)) (uG s (cC js) (2 * js.length) (cB (eE z js) y)) (2 * js.length)) 7082 :=
    Gw (m:=6) (K:=1770) (L:=4) (jW _ _ _) (tR hs (by decide)) ((Dg hs (by decide)).le (by decide)) (by decide) hj6 (Jb hj6) (by decide) (hk _)
   exact (yI (hs.get (by decide) _ _) (cH.tab fun x _ => (hs.get (by decide) _ (gq (cC js) x)).le (by decide)) hv (by decide) (2 * js.length)).le (by
    have:2 * js.length * (2 * 7082 + 2) ≤ 6 * (2 * 7082 + 2):=Nat.mul_le_mul_right _ hj6
    omega)
 ·rw [jT,cD,if_neg h]; exact bB.nil
end
theorem a1A {α β:Type} [Inhabited α] (l:List α) (F:α → β):l.map F = tab l.length fun j=>F (l.getD j default):=by
 refine List.ext_getElem (by rw [List.length_map,aC]) fun i h1 h2=>?_
 rw [List.length_map] at h1
 simp [tab,List.getD,h1]
theorem Mg {α:Type} (l:List α):cD 0 l = l:=rfl
theorem a4t {t:Qi} (h:nB t ≠ 0):nB t = 1:=by
 unfold nB at h ⊢; split at h
 ·exact absurd rfl h
 ·rename_i k; rw [if_neg k]
theorem Eg {z zm:List Rt} {s c sm cm:List (List Rt)} {g:Rt} {js:List (Int × Int)}:bL Tryz.prog 10 [Bx z s c,Bx zm sm cm,uF g,Qr js] (aH true):=by
 refine bL.intro Tryz.func10 rfl Tryz.ntmps10 rfl (fun cx=>(ts (rn rfl (fK (Ht rfl)) fun B4=>(rn rfl (fK (Ht rfl)) fun B5=>(rn rfl (fK (Ht rfl)) fun B6=>(ro rfl (cX cW) (eZ (cU (ts (ro rfl (eW A_25 Z_25 (Ht rfl) (i:=0) rfl rfl rfl) (ro rfl (cJ K_15 Ej ⟨(Ht rfl),trivial⟩) (ro rfl (fB (Ht rfl)) (rm rfl (fX rfl rfl (eU rfl rfl (Ht rfl) (fun h=>eW A_25 Z_25 (Ht rfl) (i:=1) rfl rfl rfl)) (fX rfl rfl (eU rfl rfl (Ht rfl) (fun h=>cJ K_15 Ej ⟨(fV rfl h),trivial⟩)) ?_)))))))))))))))
 refine fX rfl rfl (eU rfl rfl (Ht rfl) (fun h=>fB (fV rfl h))) (ro rfl (fO (Ht rfl) (fun h=>(fV rfl h))) (rm rfl (fX rfl rfl (eU rfl rfl (Ht rfl) (fun h=>eJ iK (Ht rfl) rfl)) (fX rfl rfl (eU rfl rfl (Ht rfl) (fun h=>fQ A_22 Z_22 (fV rfl h) (i:=0) rfl rfl)) (fX rfl rfl (eU rfl rfl (Ht rfl) (fun h=>dK U_22 (fV rfl h) aA)) (fX rfl rfl (eU rfl rfl (Ht rfl) (fun h=>dP (fV rfl h) (cV 0))) (ro rfl (fO (Ht rfl) (fun h=>(fV rfl h))) (rm rfl (fX rfl rfl (eU rfl rfl (Ht rfl) (fun h=>eJ iK (Ht rfl) rfl)) ?_)))))))))
 refine fX rfl rfl (eU rfl rfl (Ht rfl) (fun h=>fQ A_22 Z_22 (fV rfl h) (i:=1) rfl rfl)) (fX rfl rfl (eU rfl rfl (Ht rfl) (fun h=>dK U_22 (fV rfl h) aA)) (fX rfl rfl (eU rfl rfl (Ht rfl) (fun h=>dP (fV rfl h) (cV 0))) (ro rfl (fO (Ht rfl) (fun h=>(fV rfl h))) (rm rfl (fX rfl rfl (eU rfl rfl (Ht rfl) (fun h=>eJ iK (Ht rfl) rfl)) (fX rfl rfl (eU rfl rfl (Ht rfl) (fun h=>fQ A_22 Z_22 (fV rfl h) (i:=0) rfl rfl)) (fX rfl rfl (eU rfl rfl (Ht rfl) (fun h=>dK U_22 (fV rfl h) aA)) ?_)))))))
 refine fX rfl rfl (eU rfl rfl (Ht rfl) (fun h=>dF (fV rfl h) (cV 4))) (ro rfl (fO (Ht rfl) (fun h=>(fV rfl h))) (rm rfl (fX rfl rfl (eU rfl rfl (Ht rfl) (fun h=>eJ iK (Ht rfl) rfl)) (fX rfl rfl (eU rfl rfl (Ht rfl) (fun h=>fQ A_22 Z_22 (fV rfl h) (i:=1) rfl rfl)) (fX rfl rfl (eU rfl rfl (Ht rfl) (fun h=>dK U_22 (fV rfl h) aA)) (fX rfl rfl (eU rfl rfl (Ht rfl) (fun h=>dF (fV rfl h) (cV 4))) (ro rfl (fO (Ht rfl) (fun h=>(fV rfl h))) (rm rfl ?_))))))))
 refine fX rfl rfl (eU rfl rfl (Ht rfl) (fun h=>cZ (Ht rfl))) (fX rfl rfl (eU rfl rfl (Ht rfl) (fun h=>dK U_26 (fV rfl h) aA)) (fX rfl rfl (eU rfl rfl (Ht rfl) (fun h=>dF (fV rfl h) (cV 4))) (ro rfl (fO (Ht rfl) (fun h=>(fV rfl h))) (eZ (dX (Ht rfl) (fun hb=>?_) (fun hb=>?_))))))
 ·refine ts (ro rfl (cJ K_16 lT trivial) (ra rfl (eZ ?_)))
  exact fG rfl (eY rfl)
 ·have hf1 : nQ z s c = true := by
   apply Decidable.byContradiction; intro h
   simp [h] at hb
  have hf2 : nQ zm sm cm = true := by
   apply Decidable.byContradiction; intro h
   simp [h] at hb
  have h01:z.length ≠ 0:=fun h=>by simp [hf1,h] at hb
  have h02:zm.length ≠ 0:=fun h=>by simp [hf1,hf2,h] at hb
  have h41 : z.length ≤ 4 := by
   apply Decidable.byContradiction; intro h
   simp [hf1,hf2,h01,h02] at hb; omega
  have h42 : zm.length ≤ 4 := by
   apply Decidable.byContradiction; intro h
   simp [hf1,hf2,h01,h02] at hb; omega
  have hjl : js.length ≤ 4 := by
   apply Decidable.byContradiction; intro h
   simp [hf1,hf2,h01,h02] at hb; omega
  obtain ⟨zn,hzn⟩:∃ zn:List Rt,zn = tab zm.length fun _=>z.getD 0 default:=⟨_,rfl⟩
  have hznl:zn.length = zm.length:=by rw [hzn,aC]
  have hm1:=xL (a1a hf1 zo)
  have hm2:=xL (a1a (a3f (z':=zn) hf2 hznl) zo)
  obtain ⟨m1,m2,m3⟩:=oW (z:=Ey z) (s:=s) (c:=Zq z.length)
  obtain ⟨m4,m5,m6⟩:=xR (z:=Ey z) (s:=s) (c:=Zq z.length)
  obtain ⟨n1,n2,n3⟩:=oW (z:=Ey zn) (s:=sm) (c:=Zq zn.length)
  obtain ⟨n4,n5,n6⟩:=xR (z:=Ey zn) (s:=sm) (c:=Zq zn.length)
  have m7:(uH (Ey z) s (Zq z.length)).length ≤ 4:=Nat.le_trans a4R (by rw [aC]; exact h41)
  have n7:(uH (Ey zn) sm (Zq zn.length)).length ≤ 4:=Nat.le_trans a4R (by rw [aC]; omega)
  have hg2:aM g.q 2:=inferInstance
  obtain ⟨X0,hX0⟩:∃ X0,X0 = uH (Ey z) s (Zq z.length):=⟨_,rfl⟩
  obtain ⟨X1,hX1⟩:∃ X1,X1 = Ji (Ey z) s (Zq z.length):=⟨_,rfl⟩
  obtain ⟨Y0,hY0⟩:∃ Y0,Y0 = uH (Ey zn) sm (Zq zn.length):=⟨_,rfl⟩
  obtain ⟨Y1,hY1⟩:∃ Y1,Y1 = Ji (Ey zn) sm (Zq zn.length):=⟨_,rfl⟩
  rw [← hX0,← hX1] at hm1 m1
  rw [← hX0] at m2 m3 m4 m7
  rw [← hX1] at m5
  rw [← hY0,← hY1] at hm2 n1
  rw [← hY0] at n2 n3 n4 n7
  rw [← hY1] at n5
  have hO1:=Rd (z:=X0) (s:=X1) (t:=g.q) (L:=2) m4 m5 hg2 (by decide) (by decide) m1 m3
  have hO2:=Rd (z:=Y0) (s:=Y1) (t:=g.q) (L:=2) n4 n5 hg2 (by decide) (by decide) n1 n3
  obtain ⟨e,he⟩:∃ e,e = nB g.q:=⟨_,rfl⟩
  rw [← he] at hO1 hO2
  obtain ⟨C1,hC1⟩:∃ C1,C1 = qS g.q (lL X0 X1) X0.length:=⟨_,rfl⟩
  obtain ⟨C2,hC2⟩:∃ C2,C2 = qS g.q (lL Y0 Y1) Y0.length:=⟨_,rfl⟩
  rw [← hC1] at hO1
  rw [← hC2] at hO2
  have s1:cP C1 X0.length X0.length:=by rw [hC1]; exact tB
  have s2:cP C2 Y0.length Y0.length:=by rw [hC2]; exact tB
  have g1:bB C1 60000:=by rw [hC1]; exact (Pw hg2 (zB m4 m5 (by decide) m3) (by decide)).le (by decide)
  have g2:bB C2 60000:=by rw [hC2]; exact (Pw hg2 (zB n4 n5 (by decide) n3) (by decide)).le (by decide)
  have l1:=yY e X0
  have l2:=yY e Y0
  have hSt:=Ni (Dk (e:=e) m1) (Dk (e:=e) n1) (Dk (e:=e) s1) (Dk (e:=e) s2) zo zo
  refine cY (ts (rn rfl (vA U_22 Z_102 O_102) fun B63=>(ro rfl (eJ iK (Ht rfl) rfl) (ro rfl (fQ A_22 Z_22 (Ht rfl) (i:=1) rfl rfl) (zQ (inf:=Tryz.t102) Tf Fd rfl rfl rfl (Ht rfl) (Ht rfl) (i:=3) rfl (fun T hT=>by obtain ⟨x,_,rfl⟩:=List.mem_map.1 hT; exact El.ag rfl) (by show _ * 24 ≤ _; simp only [List.length_map,List.length_nil]; omega) (by simp only [List.length_map,List.length_nil]; omega) rfl (fun v66=>?_))))))
  refine ro rfl (eJ iK (Ht rfl) rfl) (a01 (l:=3) Z_22 (Ht rfl) (Ht rfl) (i:=1) rfl rfl (aK rfl) rfl (eZ (cU (ts (ro rfl (eJ iK (Ht rfl) rfl) (ro rfl (zA A_22 Z_22 (Ht rfl) (i:=1) rfl rfl) (ro rfl (mL U_22 (Ht rfl) (i:=3) rfl aA) (ro rfl (cZ (cV 0)) (eZ (eK ?_))))))))))
  refine bP (fun (i : Nat) => i ≤ zm.length) (fun (i : Nat) => zm.length - i) (fun (i : Nat) => [(3, Qr js), (4, bF B4 0), (5, bF B5 0), (6, bF B6 0), (70, NT .i64 zm.length), (71, NT .i64 i)]) (fun (i : Nat) => [box B4 25 [pI z, qC s, qC c], box B5 25 [Is v66, qC sm, qC cm], box B6 102 [aL .i64 g.re, aL .i64 g.im, aL .i64 g.den], bN 102 3 v66 (lB (fun _ => uF (z.getD 0 default)) (fun j => uF (zm.getD j default)) zm.length i)]) 0 (Nat.zero_le _)
   (aQ rfl (aQ rfl (aQ rfl (aQ rfl (aZ rfl (lK (by simp)) (zS rfl)))))) (aU (aB rfl) (aU (aB rfl) (aU (aB rfl) (aU (aN (by rw [List.nil_append,a1A,kA])) aY)))) (fun i hi=>?_)
  refine ts (ro rfl (gZ (Ht rfl) (Ht rfl)) (eZ (cU (dX (Ht rfl) (fun hd=>?_) (fun hd=>?_)))))
  ·have hdn : i < zm.length := by simp only [decide_eq_true_eq] at hd; omega
   have hml:=jL (fun _=>uF (z.getD 0 default)) (fun j=>uF (zm.getD j default)) zm.length i
   refine cY (cU (eK (ts (rm rfl (ra rfl (eZ (fJ (m:=7) (dp 5 rfl (eJ iK (Ht rfl) rfl) (dq 74 0 rfl (zA A_22 Z_22 (Ht rfl) (i:=1) rfl rfl) (dp 9 rfl (cZ (Ht rfl)) (dp 4 rfl (eJ iK (Ht rfl) rfl) (dq 77 3 rfl (fQ A_22 Z_22 (Ht rfl) (i:=0) rfl rfl) (dq 78 4 rfl (dJ U_22 Z_102 (Ht rfl) (cV 0) rfl (eQ (dY (d:=default) zo))) (dq 79 5 rfl (dV A_102 Z_102 (Ht rfl)) (fW bA rfl (by kernel_rfl) (zF (aJ (aJ (aJ (aV ?_))))))))))))))))))))
   refine ro rfl (cR U_22 Z_102 (Ht rfl) (Ht rfl) rfl (i:=3) rfl (by rw [hml]; exact hdn) rfl) ?_
   refine jS Z_102 (Ht rfl) (Ht rfl) (El.ag rfl) (i:=3) rfl rfl (by rw [hml]; exact hdn) rfl ?_
   refine eZ (aT (dQ (ro rfl (dW (Ht rfl) (cV 1) z6) (rm rfl (eZ (fY (i + 1) hdn zo (zS rfl) (aU (aB rfl) (aU (aB rfl) (aU (aB rfl) (aU (aN (lJ (f:=fun _=>uF (z.getD 0 default)))) aY))))))))))
  ·have hdn : i = zm.length := by simp only [decide_eq_false_iff_not] at hd; omega
   rw [hdn,lI]
   refine gW rfl (sJ 1 3 0 rfl rfl rfl (by decide) ?_)
   rw [show jA 3 (tab zm.length fun _=>uF (z.getD 0 default)) = pI zn by rw [hzn,pI,oO]]
   refine bI [0,1,2] rfl (by decide) (ts (ro rfl (eW A_25 Z_25 (Ht rfl) (i:=0) rfl rfl rfl) (ro rfl (cJ Tryz.call56 (Kn zo zo) ⟨(Ht rfl),trivial⟩) (ro rfl (cJ K_17 hm1 ⟨(Ht rfl),trivial⟩) (rm rfl (ro rfl (dU (Ht rfl) rfl) (ro rfl (dU (Ht rfl) rfl) (ro rfl (dU (Ht rfl) rfl) (rn rfl (eG (Ts:=[Is (.slice none 0 0),Is (.slice none 0 0),Is (.slice none 0 0)]) O_34 rfl (fun V=>aW zd (aW zd (aW zd (aG))))) fun B10=>?_)))))))))
   refine rn rfl (eG (Ts:=[Is (.slice none 0 0),Is (.slice none 0 0),Is (.slice none 0 0)]) O_40 rfl (fun V=>aW zd (aW zd (aW zd (aG))))) fun B11=>gX Z_34 (Ht rfl) (Ht rfl) rfl (i:=3) rfl (aK rfl) rfl rfl (gX Z_40 (Ht rfl) (Ht rfl) rfl (i:=4) rfl (aK rfl) rfl rfl (ra rfl (eZ (ts (ro rfl (eW A_25 Z_25 (Ht rfl) (i:=1) rfl rfl rfl) (ro rfl (cJ Tryz.call56 (Kn zo zo) ⟨(Ht rfl),trivial⟩) ?_))))))
   refine ro rfl (cJ K_17 hm2 ⟨(Ht rfl),trivial⟩) (rm rfl (ro rfl (dU (Ht rfl) rfl) (ro rfl (dU (Ht rfl) rfl) (ro rfl (dU (Ht rfl) rfl) (rn rfl (eG (Ts:=[Is (.slice none 0 0),Is (.slice none 0 0),Is (.slice none 0 0)]) O_34 rfl (fun V=>aW zd (aW zd (aW zd (aG))))) fun B13=>(rn rfl (eG (Ts:=[Is (.slice none 0 0),Is (.slice none 0 0),Is (.slice none 0 0)]) O_40 rfl (fun V=>aW zd (aW zd (aW zd (aG))))) fun B14=>?_))))))
   refine gX Z_34 (Ht rfl) (Ht rfl) rfl (i:=5) rfl (aK rfl) rfl rfl (gX Z_40 (Ht rfl) (Ht rfl) rfl (i:=6) rfl (aK rfl) rfl rfl (ra rfl (eZ (cU (bI [0,1,2,3,4,5,6] rfl (by decide) (Y.D_start (m:=10) [] (cQ (Ei:=[(10,_)]) rfl rfl (bQ (bJ rfl rfl) bX) rfl rfl (dZ rfl (eW A_34 Z_34 (Ht rfl) (i:=3) rfl rfl rfl)) (cQ (Ei:=[(98,_)]) rfl rfl (bQ (bZ 0 rfl rfl) bX) rfl rfl (dZ rfl (cJ K_51 nC ⟨(Ht rfl),trivial⟩)) ?_))))))))
   refine cQ (Ei:=[(6,_)]) rfl rfl (bQ (bJ rfl rfl) bX) rfl rfl (dZ rfl (eW A_102 Z_102 (Ht rfl) (i:=2) rfl rfl rfl)) (cQ (Ei:=[(100,_)]) rfl rfl (bQ (bZ 2 rfl rfl) bX) rfl rfl (dZ rfl (cJ Tryz.call58 Cu ⟨(Ht rfl),trivial⟩)) (cQ (Ei:=[(99,_),(101,_)]) rfl rfl (bQ (bZ 1 rfl rfl) (bQ (bZ 3 rfl rfl) bX)) rfl rfl (dZ rfl (cJ Tryz.call57 hO1 ⟨(Ht rfl),(Ht rfl),trivial⟩)) (cQ (Ei:=[(102,_)]) rfl rfl (bQ (bZ 4 rfl rfl) bX) rfl rfl (dZ rfl (cZ (Ht rfl))) ?_)))
   refine cQ (Ei:=[(97,_)]) rfl rfl (bQ (bZ 5 rfl rfl) bX) rfl rfl (dZ rfl (dU (Ht rfl) rfl)) (cQ (Ei:=[(97,_)]) rfl rfl (bQ (bZ 5 rfl rfl) bX) rfl rfl (dZ rfl (dU (Ht rfl) rfl)) (Y.D_newp (Ei:=[]) (fun bb=>box bb 34 [aR (cD e X0),bM (cD e X1),bM (cD e C1)]) 9 rfl rfl rfl bX rfl rfl (by kernel_rfl) (eG (Ts:=[Is (.slice none 0 0),Is (.slice none 0 0),Is (.slice none 0 0)]) O_34 rfl (fun V=>aW zd (aW zd (aW zd (aG))))) ?_))
   refine Y.D_putN (Ei:=[(103,_)]) 8 rfl rfl rfl rfl rfl rfl (bQ (bZ 6 rfl rfl) bX) (fun bb=>qB Z_34 (Ht rfl) (Ht rfl) rfl (i:=0) rfl (aK rfl) rfl rfl) (Y.D_done bA rfl (by kernel_rfl) rfl (by simp [Y.okP]) rfl rfl (bU (bU (bU (bU (bU (bU (bU (bU (Y.F_newp (fun B16=>Y.F_putN (Y.F_nil ?_))))))))))))
   refine ra rfl (eZ (cU (bI [0,1,2,3,4,5,6,7] rfl (by decide) (Y.D_start (m:=10) [] (cQ (Ei:=[(13,_)]) rfl rfl (bQ (bJ rfl rfl) bX) rfl rfl (dZ rfl (eW A_34 Z_34 (Ht rfl) (i:=5) rfl rfl rfl)) (cQ (Ei:=[(106,_)]) rfl rfl (bQ (bZ 0 rfl rfl) bX) rfl rfl (dZ rfl (cJ K_51 nC ⟨(Ht rfl),trivial⟩)) (cQ (Ei:=[(6,_)]) rfl rfl (bQ (bJ rfl rfl) bX) rfl rfl (dZ rfl (eW A_102 Z_102 (Ht rfl) (i:=2) rfl rfl rfl)) ?_)))))))
   refine cQ (Ei:=[(108,_)]) rfl rfl (bQ (bZ 2 rfl rfl) bX) rfl rfl (dZ rfl (cJ Tryz.call58 Cu ⟨(Ht rfl),trivial⟩)) (cQ (Ei:=[(107,_),(109,_)]) rfl rfl (bQ (bZ 1 rfl rfl) (bQ (bZ 3 rfl rfl) bX)) rfl rfl (dZ rfl (cJ Tryz.call57 hO2 ⟨(Ht rfl),(Ht rfl),trivial⟩)) (cQ (Ei:=[(110,_)]) rfl rfl (bQ (bZ 4 rfl rfl) bX) rfl rfl (dZ rfl (cZ (Ht rfl))) (cQ (Ei:=[(105,_)]) rfl rfl (bQ (bZ 5 rfl rfl) bX) rfl rfl (dZ rfl (dU (Ht rfl) rfl)) ?_)))
   refine cQ (Ei:=[(105,_)]) rfl rfl (bQ (bZ 5 rfl rfl) bX) rfl rfl (dZ rfl (dU (Ht rfl) rfl)) (Y.D_newp (Ei:=[]) (fun bb=>box bb 34 [aR (cD e Y0),bM (cD e Y1),bM (cD e C2)]) 9 rfl rfl rfl bX rfl rfl (by kernel_rfl) (eG (Ts:=[Is (.slice none 0 0),Is (.slice none 0 0),Is (.slice none 0 0)]) O_34 rfl (fun V=>aW zd (aW zd (aW zd (aG))))) (Y.D_putN (Ei:=[(111,_)]) 8 rfl rfl rfl rfl rfl rfl (bQ (bZ 6 rfl rfl) bX) (fun bb=>qB Z_34 (Ht rfl) (Ht rfl) rfl (i:=0) rfl (aK rfl) rfl rfl) ?_))
   refine Y.D_done bA rfl (by kernel_rfl) rfl (by simp [Y.okP]) rfl rfl (bU (bU (bU (bU (bU (bU (bU (bU (Y.F_newp (fun B18=>Y.F_putN (Y.F_nil ?_)))))))))))
   refine ra rfl (eZ (cU (bI [0,1,2,3,4,5,6,7,8] rfl (by decide) (dQ (ro rfl (eW A_34 Z_34 (Ht rfl) (i:=7) rfl rfl rfl) (ro rfl (eW A_34 Z_34 (Ht rfl) (i:=8) rfl rfl rfl) (ro rfl (cJ Tryz.call34 hSt ⟨(Ht rfl),(Ht rfl),trivial⟩) (rm rfl (ro rfl (dU (Ht rfl) rfl) (ro rfl (dU (Ht rfl) rfl) (rn rfl (eG (Ts:=[Is (.slice none 0 0),Is (.slice none 0 0),Is (.slice none 0 0)]) O_34 rfl (fun V=>aW zd (aW zd (aW zd (aG))))) fun B20=>?_)))))))))))
   refine gX Z_34 (Ht rfl) (Ht rfl) rfl (i:=9) rfl (aK rfl) rfl rfl (ra rfl (eZ (cU (cU (bI [0,1,2,3,4,5,6,7,8,9] rfl (by decide) (dQ (rm rfl (rm rfl (ro rfl (gD (Ht rfl) (Ht rfl)) (rm rfl (fX rfl rfl (eU rfl rfl (Ht rfl) (fun h=>cZ (Ht rfl))) (fX rfl rfl (eU rfl rfl (Ht rfl) (fun h=>gD (fV rfl h) cW)) (ro rfl (fO (Ht rfl) (fun h=>(fV rfl h))) (eZ (dX (Ht rfl) (fun hc=>?_) (fun hc=>?_))))))))))))))))
   ·have h1 : e = 1 := by rw [he]; exact a4t (by rw [← he]; simpa using hc)
    refine ts (rm rfl (rm rfl (ro rfl (iQ (Ht rfl) (Ht rfl)) (rm rfl (fX rfl rfl (eU rfl rfl (Ht rfl) (fun h=>cZ (Ht rfl))) (fX rfl rfl (eU rfl rfl (Ht rfl) (fun h=>iQ (fV rfl h) cW)) (ro rfl (dM (Ht rfl) (fun h=>(fV rfl h))) (rm rfl (fX rfl rfl (eU rfl rfl (Ht rfl) (fun h=>cJ K_16 lT trivial)) (ro rfl (dM (Ht rfl) (fun h=>(fV rfl h))) (ra rfl (eZ (fG rfl (fZ (eY rfl) ?_))))))))))))))
    exact (dN (by simp [h1]))
   ·have h0 : e = 0 := by simpa using hc
    obtain rfl:=h0
    rw [Mg,Mg,Mg,Mg,Mg,Mg]
    have hk:=Sw (x:=X0.length) (y:=Y0.length) zo
    rw [show tD X0 Y0 = X0 ++ Y0 by rw [tD,cD,if_pos hk],show nS X0 Y0 X1 Y1 = mA X1 Y1 X0.length Y0.length by rw [nS,cD,if_pos hk],show nS X0 Y0 C1 C2 = mA C1 C2 X0.length Y0.length by rw [nS,cD,if_pos hk],hk]
    obtain ⟨W0,hW0⟩:∃ W0,W0 = X0 ++ Y0:=⟨_,rfl⟩
    obtain ⟨W1,hW1⟩:∃ W1,W1 = mA X1 Y1 X0.length Y0.length:=⟨_,rfl⟩
    obtain ⟨WC,hWC⟩:∃ WC,WC = mA C1 C2 X0.length Y0.length:=⟨_,rfl⟩
    have hwl:W0.length = X0.length + Y0.length:=by rw [hW0,List.length_append]
    have w1:cP W1 W0.length W0.length:=by rw [hW1,hwl]; exact qU _ _ _ _
    have w2:cP WC W0.length W0.length:=by rw [hWC,hwl]; exact qU _ _ _ _
    have w4:cH W0 2:=by rw [hW0]; exact Oe m4 n4
    have w5:bB W1 2:=by rw [hW1]; exact Gv m5 n5 (by decide)
    have w6:bB WC 60000:=by rw [hWC]; exact Gv g1 g2 (by decide)
    have hown:WC = qS g.q (lL W0 W1) W0.length:=by rw [hWC,hC1,hC2,hwl,hW0,hW1,a1V m1.1 n1.1,a2a]
    have hJ:=tI (z:=W0) (s:=W1) (c:=WC) (js:=js) w4 w5 w6 w1 w2 zo zo
    have hN:=a0m (z:=W0) (S:=W1) (js:=js) (L:=2) w1 w5 w4 (by decide) (by decide) zo zo (hgN zo) (hxN zo)
    have hnj:=fun hE=>a61 (z:=W0) (S:=W1) (js:=js) w1 hE zo (t:=g.q)
    rw [← hown] at hnj
    obtain ⟨j1,j3⟩:=xQ (js:=js) w1
    have j2:=rU (js:=js) (s:=W1) w2
    have j4:cH (jZ W0 W1 js) 1000000:=yP w4 (by decide) (by decide)
    have j5:bB (jT W0 W1 js) 1000000:=a1G w5 zo
    have hO3:=Rd (z:=jZ W0 W1 js) (s:=jT W0 W1 js) (t:=g.q) (L:=1000000) j4 j5 (hg2.le (by decide)) (by decide) (by decide) j1 zo
    rw [← he,Mg,Mg,Mg] at hO3
    have j6:=Ft (js:=js) w5 w6 zo w2
    have heq:=tJ (L:=900000000000) (j4.le (by decide)) (j4.le (by decide)) (j5.le (by decide)) (j5.le (by decide)) (by decide) (by decide) j1 j1 zo zo (j6.le (by decide)) (j6.le (by decide)) j2 j2
    rw [tV,decide_eq_true rfl] at heq
    obtain ⟨J0,hJ0⟩:∃ J0,J0 = jZ W0 W1 js:=⟨_,rfl⟩
    obtain ⟨J1,hJ1⟩:∃ J1,J1 = jT W0 W1 js:=⟨_,rfl⟩
    obtain ⟨JC,hJC⟩:∃ JC,JC = pN W0 W1 WC js:=⟨_,rfl⟩
    obtain ⟨JE,hJE⟩:∃ JE,JE = kE W0 W1 js:=⟨_,rfl⟩
    rw [← hJ0,← hJ1,← hJC,← hJE] at hJ
    rw [← hJ0,← hJ1,← hJE] at hN
    rw [← hJ0,← hJ1,← hJC,← hJE] at hnj
    rw [← hJ0,← hJ1] at hO3
    rw [← hJ0,← hJ1,← hJC] at heq
    rw [← hW0,← hW1,← hWC]
    refine cY (cU (ts (rm rfl (ro rfl (gD (Ht rfl) cW) (eZ (kF (Ht rfl) (by rfl) ?_))))))
    refine cY (ts (ro rfl (eW A_34 Z_34 (Ht rfl) (i:=9) rfl rfl rfl) (rm rfl (ro rfl (cJ K_18 hJ ⟨(Ht rfl),(Ht rfl),trivial⟩) (rm rfl (ro rfl (dU (Ht rfl) rfl) (ro rfl (dU (Ht rfl) rfl) (rn rfl (eG (Ts:=[Is (.slice none 0 0),Is (.slice none 0 0),Is (.slice none 0 0)]) O_34 rfl (fun V=>aW zd (aW zd (aW zd (aG))))) fun B22=>(gX Z_34 (Ht rfl) (Ht rfl) rfl (i:=10) rfl (aK rfl) rfl rfl (ra rfl (eZ (ts ?_))))))))))))
    refine ro rfl (eW A_34 Z_34 (Ht rfl) (i:=9) rfl rfl rfl) (ro rfl (cJ K_51 nC ⟨(Ht rfl),trivial⟩) (rm rfl (ro rfl (cJ Tryz.call31 hN ⟨(Ht rfl),(Ht rfl),trivial⟩) (rm rfl (ro rfl (dU (Ht rfl) rfl) (ro rfl (dU (Ht rfl) rfl) (rn rfl (eG (Ts:=[Is (.slice none 0 0),Is (.slice none 0 0)]) O_32 rfl (fun V=>aW zd (aW zd (aG)))) fun B23=>(gX Z_32 (Ht rfl) (Ht rfl) rfl (i:=11) rfl (aK rfl) rfl rfl (ra rfl (eZ (cU (cU ?_))))))))))))
    refine bI [0,1,2,3,4,5,6,7,8,9,10,11] rfl (by decide) (dQ (rm rfl (rm rfl (ro rfl (gD (Ht rfl) (Ht rfl)) (eZ (kF (Ht rfl) (by simp) ?_))))))
    refine cY (cU (ts (rm rfl (ro rfl (gD (Ht rfl) cW) (eZ (dX (Ht rfl) (fun hc2=>?_) (fun hc2=>?_)))))))
    ·refine ts (ro rfl (cJ K_16 lT trivial) (ra rfl (eZ ?_)))
     exact fG rfl (eY rfl)
    ·have hE : JE = 0 := by simpa using hc2
     rw [← hnj hE] at hO3
     refine cY (cU (Y.D_start (m:=9) [] (cQ (Ei:=[(23,_)]) rfl rfl (bQ (bJ rfl rfl) bX) rfl rfl (dZ rfl (eW A_32 Z_32 (Ht rfl) (i:=11) rfl rfl rfl)) (cQ (Ei:=[(6,_)]) rfl rfl (bQ (bJ rfl rfl) bX) rfl rfl (dZ rfl (eW A_102 Z_102 (Ht rfl) (i:=2) rfl rfl rfl)) (cQ (Ei:=[(159,_)]) rfl rfl (bQ (bZ 1 rfl rfl) bX) rfl rfl (dZ rfl (cJ Tryz.call58 Cu ⟨(Ht rfl),trivial⟩)) (cQ (Ei:=[(158,_),(160,_)]) rfl rfl (bQ (bZ 0 rfl rfl) (bQ (bZ 2 rfl rfl) bX)) rfl rfl (dZ rfl (cJ Tryz.call57 hO3 ⟨(Ht rfl),(Ht rfl),trivial⟩)) ?_))))))
     refine cQ (Ei:=[(161,_)]) rfl rfl (bQ (bZ 3 rfl rfl) bX) rfl rfl (dZ rfl (cZ (Ht rfl))) (cQ (Ei:=[(157,_)]) rfl rfl (bQ (bZ 4 rfl rfl) bX) rfl rfl (dZ rfl (dU (Ht rfl) rfl)) (cQ (Ei:=[(157,_)]) rfl rfl (bQ (bZ 4 rfl rfl) bX) rfl rfl (dZ rfl (dU (Ht rfl) rfl)) (Y.D_newp (Ei:=[]) (fun bb=>box bb 34 [aR J0,bM J1,bM JC]) 8 rfl rfl rfl bX rfl rfl (by kernel_rfl) (eG (Ts:=[Is (.slice none 0 0),Is (.slice none 0 0),Is (.slice none 0 0)]) O_34 rfl (fun V=>aW zd (aW zd (aW zd (aG))))) ?_)))
     refine Y.D_putN (Ei:=[(162,_)]) 7 rfl rfl rfl rfl rfl rfl (bQ (bZ 5 rfl rfl) bX) (fun bb=>qB Z_34 (Ht rfl) (Ht rfl) rfl (i:=0) rfl (aK rfl) rfl rfl) (Y.D_done bA rfl (by kernel_rfl) rfl (by simp [Y.okP]) rfl rfl (bU (bU (bU (bU (bU (bU (bU (Y.F_newp (fun B24=>Y.F_putN (Y.F_nil ?_)))))))))))
     refine ra rfl (eZ (cU (bI [0,1,2,3,4,5,6,7,8,9,10,11,12] rfl (by decide) (dQ (rm rfl (ro rfl (iQ (Ht rfl) cW) (rm rfl (fX rfl rfl (eU rfl rfl (Ht rfl) (fun h=>eW A_34 Z_34 (Ht rfl) (i:=10) rfl rfl rfl)) (fX rfl rfl (eU rfl rfl (Ht rfl) (fun h=>eW A_34 Z_34 (Ht rfl) (i:=12) rfl rfl rfl)) (fX rfl rfl (eU rfl rfl (Ht rfl) (fun h=>cJ Tryz.call52 heq ⟨(fV rfl h),(fV rfl h),trivial⟩)) (ro rfl (dM (Ht rfl) (fun h=>(fV rfl h))) (rm rfl (fX rfl rfl (eU rfl rfl (Ht rfl) (fun h=>cJ K_16 lT trivial)) ?_)))))))))))))
     refine ro rfl (dM (Ht rfl) (fun h=>(fV rfl h))) (ra rfl (eZ ?_))
     exact fG rfl (eY rfl)
end
section
open Go Go.RowKit
theorem a2X {z:List Qi} {s:List (List Qi)} {Q:List Nat} (hs:cP s z.length z.length) (hQ:∀ x,x ∈ Q → x < z.length) (hm:Q.length ≤ 1000):bL Tryz.prog 213 [oT z s,fN Q] (oT (pH z Q) (sG s Q)):=by
 have hsl:=hs.1
 refine bL.intro Tryz.func213 rfl Tryz.ntmps213 rfl (fun cx=>(ts (rn rfl (fK (Ht rfl)) fun B2=>(rn rfl (eG (Ts:=[Is (.slice none 0 0),Is (.slice none 0 0)]) O_38 rfl (fun V=>aW zd (aW zd (aG)))) fun B4=>(eZ (cU (fJ (m:=10) (dp 1 rfl (cZ (Ht rfl)) (dq 8 0 rfl (dK U_72 (Ht rfl) aA) (C.D_new (Ei:=[(9,_)]) rfl rfl rfl (bV (bG 1 rfl rfl) bW) (Ys (T:=ZQ) (i:=Tryz.t131) Hh uU rfl rfl (Ht rfl) rfl a7j (El.ag rfl) (by show 88 * _ ≤ _; omega) zo) ?_))))))))))
 refine dp 1 rfl (cZ (Ht rfl)) (dq 11 3 rfl (dK U_72 (Ht rfl) aA) (dp 1 rfl (cZ (Ht rfl)) (dq 13 5 rfl (dK U_72 (Ht rfl) aA) (C.D_new (Ei:=[(12,_),(14,_)]) rfl rfl rfl (bV (bG 4 rfl rfl) (bV (bG 6 rfl rfl) bW)) (nZ Tryz.call129 (yE (n:=Q.length) (m:=Q.length) zo zo) ⟨(Ht rfl),(Ht rfl),trivial⟩) (C.D_dep (fun T U=>eI [T,U]) 2 7 rfl rfl rfl rfl rfl rfl (fun T U hT hU=>by obtain ⟨x,rfl⟩:=hT; obtain ⟨y,rfl⟩:=hU; (try dsimp only); exact dZ rfl (xI (Ht rfl) (Ht rfl))) ?_)))))
 refine C.D_new (Ei:=[]) rfl rfl rfl bW (eG (Ts:=[Is (.slice none 0 0),Is (.slice none 0 0)]) O_38 rfl (fun V=>aW zd (aW zd (aG)))) (fW bA rfl (by kernel_rfl) (aJ (aJ (C.F_new (fun B10=>aJ (aJ (aJ (aJ (C.F_new (fun B15=>C.F_dep rfl rfl (C.F_new (fun B5=>aV (gX Z_38 (Ht rfl) (Ht rfl) rfl (i:=4) rfl (aK rfl) rfl rfl (eZ (cU (ts (ro rfl (cX (cV 0)) (eZ (eK ?_)))))))))))))))))))
 refine bP (fun (i : Nat) => i ≤ Q.length) (fun (i : Nat) => Q.length - i) (fun (i : Nat) => [(1, fN Q), (2, bF B2 0), (4, bF B4 0), (5, bF B5 0), (6, NT .i64 i)]) (fun (i : Nat) => [box B2 38 [wY z, QM s], box B4 38 [Is (.slice none 0 0), Is (.slice none 0 0)], bN 131 5 (.slice (some ⟨B10, 0, none⟩) Q.length Q.length) (iP (fun i => QT (gv z (cB Q i))) ZQ Q.length i), kK eM B15 35 131 5 (bS QT (iP (fun i => tab Q.length fun j => gm s (cB Q i) (cB Q j)) (tab Q.length fun _ => Qi.zero) Q.length i)), box B5 38 [Is (.slice (some ⟨B10, 0, none⟩) Q.length Q.length), Is (.slice (some ⟨B15, 0, none⟩) Q.length Q.length)]]) 0 (Nat.zero_le _)
  (zS rfl) (aU (aB rfl) (aU (aB rfl) (aU (aN (by rw [← fF]; exact zI _ _)) (aU (bD (by rw [zO,fF])) (aU (aB rfl) aY))))) (fun i hi=>?_)
 refine cU (ts (rm rfl (rm rfl (ro rfl (dK U_72 (Ht rfl) aA) (ro rfl (gZ (Ht rfl) (Ht rfl)) (eZ (dX (Ht rfl) (fun hd=>?_) (fun hd=>?_))))))))
 ·have hin : i < Q.length := by simp only [decide_eq_true_eq] at hd; omega
  have hki:=oB hQ hin
  have hsr:=hs.row hki
  refine iS 3 (i) rfl (iB hin) (fun v0 hv0=>(cY (cU (eK (cU (fJ (m:=11) (dp 5 rfl (eJ kJ (Ht rfl) rfl) (dq 23 0 rfl (zA A_35 Z_35 (Ht rfl) (i:=4) rfl rfl) (dp 6 rfl (cZ (Ht rfl)) (dp 2 rfl (eJ kJ (Ht rfl) rfl) (dq 26 3 rfl (fQ A_35 Z_35 (Ht rfl) (i:=0) rfl rfl) (dp 1 rfl (cZ (Ht rfl)) (dp 6 rfl (cZ (Ht rfl)) (dT 28 5 29 6 rfl (dJ U_72 Z_3 (Ht rfl) (Ht rfl) rfl (eQ (dY (d:=0) zo))) (dq 30 7 rfl (dV A_3 Z_3 (Ht rfl)) ?_)))))))))))))))
  refine dT 27 4 31 8 rfl (dJ U_35 Z_131 (Ht rfl) (Ht rfl) rfl (eQ (dY (d:=Qi.zero) zo))) (dq 32 9 rfl (dV A_131 Z_131 (Ht rfl)) (fW bA rfl (by kernel_rfl) (zF (zF (aJ (aJ (aJ (aV (ro rfl (cR U_35 Z_131 (Ht rfl) (Ht rfl) rfl (i:=2) rfl (by rw [cL]; omega) rfl) ?_)))))))))
  refine jS Z_131 (Ht rfl) (Ht rfl) (El.ag rfl) (i:=2) rfl rfl (by rw [cL]; omega) rfl ?_
  refine eZ (ts (ro rfl (cX (cV 0)) (eZ (eK ?_))))
  refine bP (fun (j : Nat) => j ≤ Q.length) (fun (j : Nat) => Q.length - j) (fun (j : Nat) => [(1, fN Q), (2, bF B2 0), (4, bF B4 0), (5, bF B5 0), (6, NT .i64 i), (7, NT .i64 j)]) (fun (j : Nat) => [box B2 38 [wY z, QM s], box B4 38 [Is (.slice none 0 0), Is (.slice none 0 0)], bN 131 5 (.slice (some ⟨B10, 0, none⟩) Q.length Q.length) (iP (fun i => QT (gv z (cB Q i))) ZQ Q.length (i + 1)), qN eM B15 35 131 5 (bS QT (iP (fun i => tab Q.length fun j => gm s (cB Q i) (cB Q j)) (tab Q.length fun _ => Qi.zero) Q.length i)) i v0, box B5 38 [Is (.slice (some ⟨B10, 0, none⟩) Q.length Q.length), Is (.slice (some ⟨B15, 0, none⟩) Q.length Q.length)], bN 131 5 v0 ((iP (fun j => gm s (cB Q i) (cB Q j)) Qi.zero Q.length j).map QT)]) 0 (Nat.zero_le _)
   (zS rfl) (aU (aB rfl) (aU (aB rfl) (aU (aN (fR (f:=(fun i=>QT (gv z (cB Q i)))))) (aU (fun _ _ _ h=>h) (aU (aB rfl) (aU (aN (by rw [← fF])) aY)))))) (fun j hj=>?_)
  refine cU (ts (rm rfl (rm rfl (ro rfl (dK U_72 (Ht rfl) aA) (ro rfl (gZ (Ht rfl) (Ht rfl)) (eZ (dX (Ht rfl) (fun he=>?_) (fun he=>?_))))))))
  ·have hjn : j < Q.length := by simp only [decide_eq_true_eq] at he; omega
   have hkj:=oB hQ hjn
   have hrl:=cL (fun j=>gm s (cB Q i) (cB Q j)) Qi.zero Q.length j
   refine cY (cU (eK (fJ (m:=20) (dp 5 rfl (eJ tN (Ht rfl) rfl) (dq 41 0 rfl (fQ A_36 Z_36 (Ht rfl) (i:=4) rfl rfl) (dp 6 rfl (cZ (Ht rfl)) (dT 42 1 43 2 rfl (gQ U_36 Z_35 (Ht rfl) (Ht rfl) rfl zo (by rw [Nat.mul_one,Nat.zero_add])) ?_)))))))
   refine dq 44 3 rfl (gM A_35 Z_35 (Ht rfl) (j:=3) rfl) (dp 7 rfl (cZ (Ht rfl)) (dp 2 rfl (eJ tN (Ht rfl) rfl) (dq 47 6 rfl (fQ A_36 Z_36 (Ht rfl) (i:=0) rfl rfl) (dp 1 rfl (cZ (Ht rfl)) (dp 6 rfl (cZ (Ht rfl)) (dT 49 8 50 9 rfl (dJ U_72 Z_3 (Ht rfl) (Ht rfl) rfl (eQ (dY (d:=0) zo))) (dq 51 10 rfl (dV A_3 Z_3 (Ht rfl)) (dT 48 7 52 11 rfl (dJ U_36 Z_35 (Ht rfl) (Ht rfl) rfl (eQ (dY (d:=[]) (show cB Q i < s.length by omega)))) ?_))))))))
   refine dq 53 12 rfl (dV A_35 Z_35 (Ht rfl)) (dp 1 rfl (cZ (Ht rfl)) (dp 7 rfl (cZ (Ht rfl)) (dT 55 14 56 15 rfl (dJ U_72 Z_3 (Ht rfl) (Ht rfl) rfl (eQ (dY (d:=0) zo))) (dq 57 16 rfl (dV A_3 Z_3 (Ht rfl)) (dT 54 13 58 17 rfl (dJ U_35 Z_131 (Ht rfl) (Ht rfl) rfl (eQ (dY (d:=Qi.zero) (show cB Q j < (s.getD (cB Q i) []).length by omega)))) (dq 59 18 rfl (dV A_131 Z_131 (Ht rfl)) (fW bA rfl (by kernel_rfl) (zF (zF (zF (zF (zF (aV ?_)))))))))))))
   refine ro rfl (cR U_35 Z_131 (Ht rfl) (Ht rfl) rfl (i:=5) rfl (by rw [List.length_map,hrl]; exact hjn) rfl) ?_
   refine jS Z_131 (Ht rfl) (Ht rfl) (El.ag rfl) (i:=5) rfl rfl (by rw [List.length_map,hrl]; exact hjn) rfl ?_
   refine eZ (aT (dQ (rm rfl (ro rfl (dW (Ht rfl) (cV 1) z6) (ra rfl (eZ (fY (j + 1) hjn zo (zS rfl) (aU (aB rfl) (aU (aB rfl) (aU (fun _ _ _ h=>h) (aU (fun _ _ _ h=>h) (aU (aB rfl) (aU (aN (by rw [fI]; exact congrArg _ (fR (f:=(fun j=>gm s (cB Q i) (cB Q j)))))) aY)))))))))))))
  ·have hjn : j = Q.length := by simp only [decide_eq_false_iff_not] at he; omega
   rw [hjn,gO (fun j=>gm s (cB Q i) (cB Q j))]
   refine gW rfl (aT (dI 3 5 rfl rfl (by decide) (by simp only [bS,List.length_map,cL]; omega) ?_))
   refine dQ (rm rfl (ro rfl (dW (Ht rfl) (cV 1) z6) (ra rfl (eZ (bI [0,1,2,3,4] rfl (by decide) (fY (i + 1) hin zo (zS rfl) (aU (aB rfl) (aU (aB rfl) (aU (fun _ _ _ h=>h) (aU (bD (by rw [eN]; exact congrArg _ (fR (f:=(fun i=>tab Q.length fun j=>gm s (cB Q i) (cB Q j)))))) (aU (aB rfl) aY)))))))))))
 ·have hin : i = Q.length := by simp only [decide_eq_false_iff_not] at hd; omega
  rw [hin,gO,gO]
  refine gW rfl (cU (sJ 4 2 0 rfl rfl rfl (by decide) (qE 4 3 1 rfl rfl rfl (by decide) (a3h (q:=eM) (M:=sG s Q) (aC _ _).symm) (dQ (ro rfl (eW A_38 Z_38 (Ht rfl) (i:=4) rfl rfl rfl) (gX Z_38 (Ht rfl) (Ht rfl) rfl (i:=1) rfl (aK rfl) rfl rfl (eZ (fG rfl (fZ (fU A_38 Z_38 rfl (i:=1) rfl rfl) ?_)))))))))
  exact (a4V (by rw [pH,oO]))
theorem a0y {z:List Qi} {s:List (List Qi)} {l:List Int} (hs:cP s z.length z.length) (hl:z.length ≤ 1000) (hll:l.length ≤ 1000):bL Tryz.prog 128 [oT z s,jA 1 (l.map (aL .i64))] (fS [oT (rA z l) (nM z s l),aL .i64 (vJ z.length l)]):=by
 refine bL.intro Tryz.func128 rfl Tryz.ntmps128 rfl (fun cx=>(ts (rn rfl (fK (Ht rfl)) fun B2=>(rn rfl (eG (Ts:=[Is (.slice none 0 0),Is (.slice none 0 0)]) O_38 rfl (fun V=>aW zd (aW zd (aG)))) fun B4=>(ro rfl (cX (cV 0)) (eZ (cU (ts (rm rfl (ro rfl (dK U_72 (Ht rfl) aA) (ro rfl (eJ kJ (Ht rfl) rfl) (ro rfl (fQ A_35 Z_35 (Ht rfl) (i:=0) rfl rfl) (ro rfl (dK U_35 (Ht rfl) aA) (ro rfl (fT (Ht rfl) (Ht rfl)) ?_))))))))))))))
 refine eZ (dX (Ht rfl) (fun hb1=>?_) (fun hb1=>?_))
 ·have h2 : l.length ≠ z.length := by simpa using hb1
  have he:=Gp h2
  refine ts (ro rfl (aI.imp (yD ) vH) (gX Z_38 (Ht rfl) (Ht rfl) rfl (i:=1) rfl (aK rfl) rfl rfl (ro rfl (cX (cV 4)) (eZ (bR rfl (fZ (fU A_38 Z_38 rfl (i:=1) rfl rfl) ?_) (fZ (eY rfl) ?_))))))
  ·exact (fun v V h=>by rw [rA,nM,cD,cD,he]; exact h)
  ·exact (aO he.symm)
 ·have h2 : l.length = z.length := by simpa using hb1
  have hok:=Ss h2
  refine cY (cU (ts (ro rfl (eJ kJ (Ht rfl) rfl) (ro rfl (fQ A_35 Z_35 (Ht rfl) (i:=0) rfl rfl) (ro rfl (dK U_35 (Ht rfl) aA) (rm rfl (ro rfl (cJ Tryz.call212 (a0x (n:=z.length) hll) ⟨(Ht rfl),(Ht rfl),trivial⟩) (ra rfl (eZ (ts (rm rfl (ro rfl (gD (Ht rfl) cW) (eZ (dX (Ht rfl) (fun he=>?_) (fun he=>?_)))))))))))))))
  ·have h3 : qR z.length l ≠ 0 := by simpa using he
   refine ts (ro rfl (aI.imp (yD ) vH) (rm rfl (gX Z_38 (Ht rfl) (Ht rfl) rfl (i:=1) rfl (aK rfl) rfl rfl (ra rfl (eZ (bR rfl (fZ (fU A_38 Z_38 rfl (i:=1) rfl rfl) ?_) (fZ (eY rfl) ?_)))))))
   ·exact (fun v V h=>by rw [rA,nM,cD,cD,hok,if_neg h3,if_neg h3]; exact h)
   ·exact (aO hok.symm)
  ·have h3 : qR z.length l = 0 := by simpa using he
   have he2:vJ z.length l = 0:=hok.trans h3
   refine cY (ts (rm rfl (ro rfl (dK U_72 (Ht rfl) aA) (rn rfl (kS (T:=NT .i64 0) (i:=Tryz.t3) Hi Fe rfl rfl (Ht rfl) rfl (fun V=>rfl) El.one (by show 8 * _ ≤ _; omega) zo) fun B27=>(ra rfl (eZ (cU (ts (ro rfl (cX (cV 0)) (eZ (eK ?_)))))))))))
   refine bP (fun (i : Nat) => i ≤ l.length) (fun (i : Nat) => l.length - i) (fun (i : Nat) => [(1, jA 1 (l.map (aL .i64))), (2, bF B2 0), (4, bF B4 0), (7, Is B27), (8, NT .i64 i)]) (fun (i : Nat) => [box B2 38 [wY z, QM s], box B4 38 [Is (.slice none 0 0), Is (.slice none 0 0)], bN 3 1 B27 (iP (fun i => NT .i64 (cB (oA l) i)) (NT .i64 0) l.length i)]) 0 (Nat.zero_le _)
    (zS rfl) (aU (aB rfl) (aU (aB rfl) (aU (aN (by rw [← fF]; exact zI _ _)) aY))) (fun i hi=>?_)
   refine cU (ts (rm rfl (rm rfl (ro rfl (mL U_72 (Ht rfl) (i:=2) rfl (by rw [cL])) ?_))))
   refine ro rfl (gZ (Ht rfl) (Ht rfl)) (eZ (dX (Ht rfl) (fun hd=>?_) (fun hd=>?_)))
   ·have hin : i < l.length := by simp only [decide_eq_true_eq] at hd; omega
    obtain ⟨hq1,hq2⟩:=a43 h3 hin
    have hq3:=Bd h3 (l.getD i 0) (by rw [show l.getD i 0 = l[i] by simp [List.getD,hin]]; exact List.getElem_mem hin)
    refine cY (cU (eK (dQ (rm rfl (rm rfl (rm rfl (rm rfl (ro rfl (dJ U_72 Z_3 (Ht rfl) (Ht rfl) rfl (eQ (dY (d:=0) zo))) (ro rfl (dV A_3 Z_3 (Ht rfl)) (ro rfl (gE (Ht rfl) cW (r:=((cB (oA l) i:Nat):Int)) ((yA (z:=l.getD i 0 - 1) zo).trans zo)) ?_))))))))))
    refine ro rfl (cR U_72 Z_3 (Ht rfl) (Ht rfl) rfl (i:=2) rfl (by rw [cL]; omega) rfl) ?_
    refine jS Z_3 (Ht rfl) (Ht rfl) El.one (i:=2) rfl rfl (by rw [cL]; omega) rfl ?_
    refine eZ (aT (dQ (rm rfl (ro rfl (dW (Ht rfl) (cV 1) z6) (ra rfl (eZ (fY (i + 1) hin zo (zS rfl) (aU (aB rfl) (aU (aB rfl) (aU (aN (fR (f:=(fun i=>NT .i64 (cB (oA l) i))))) aY))))))))))
   ·have hin : i = l.length := by simp only [decide_eq_false_iff_not] at hd; omega
    rw [hin,gO,show (tab l.length fun i=>NT .i64 (cB (oA l) i)) = (oA l).map (NT .i64) from by rw [← qQ]; exact zL (oA l) (NT .i64)]
    refine gW rfl (gV (i:=2) (tt:=7) rfl rfl gK (ts (ro rfl (eW A_38 Z_38 (Ht rfl) (i:=0) rfl rfl rfl) (rm rfl (ro rfl (cJ Tryz.call213 (a2X (Q:=oA l) hs (Ml h3) (by rw [qQ]; omega)) ⟨(Ht rfl),(Ht rfl),trivial⟩) ?_)))))
    refine gX Z_38 (Ht rfl) (Ht rfl) rfl (i:=1) rfl (aK rfl) rfl rfl (ro rfl (cX (cV 0)) (eZ (bR rfl (fZ (fU A_38 Z_38 rfl (i:=1) rfl rfl) ?_) (fZ (eY rfl) ?_))))
    ·exact (fun v V h=>by rw [rA,nM,cD,cD,he2]; exact h)
    ·exact (aO he2.symm)
end
section
open Go Go.RowKit
theorem Pq {n:Nat} {l:List Int} (h:vJ n l = 0):l.length = n ∧ qR n l = 0:=by
 by_cases c:l.length = n
 ·exact ⟨c,by rw [← Ss c]; exact h⟩
 ·rw [Gp c] at h; omega
theorem a5s {z:List Qi} {s c:List (List Qi)} {l:List Int} (hs:cP s z.length z.length) (hc:cP c z.length z.length) (hl:z.length ≤ 100) (hll:l.length ≤ 1000):bL Tryz.prog 36 [eR z s c,jA 1 (l.map (aL .i64))] (fS [eR (rA z l) (nM z s l) (nM z c l),aL .i64 (vJ z.length l)]):=by
 have hcl:=hc.1
 have hR:=a2L (z:=z) (s:=s) (l:=l) hs zo hll
 refine bL.intro Tryz.func36 rfl Tryz.ntmps36 rfl (fun cx=>(ts (rn rfl (fK (Ht rfl)) fun B2=>(rn rfl (eG (Ts:=[Is (.slice none 0 0),Is (.slice none 0 0),Is (.slice none 0 0)]) O_34 rfl (fun V=>aW zd (aW zd (aW zd (aG))))) fun B4=>(ro rfl (cX (cV 0)) (eZ (ts (ro rfl (eJ oJ (Ht rfl) rfl) (ro rfl (eW A_32 Z_32 (Ht rfl) (i:=0) rfl rfl rfl) (rm rfl (ro rfl (cJ Tryz.call33 hR ⟨(Ht rfl),(Ht rfl),trivial⟩) (rm rfl (ro rfl (dU (Ht rfl) rfl) ?_)))))))))))))
 refine ro rfl (dU (Ht rfl) rfl) (rn rfl (eG (Ts:=[Is (.slice none 0 0),Is (.slice none 0 0)]) O_32 rfl (fun V=>aW zd (aW zd (aG)))) fun B6=>(gX Z_32 (Ht rfl) (Ht rfl) rfl (i:=2) rfl (aK rfl) rfl rfl (ra rfl (eZ (cU (ts (rm rfl (ro rfl (gD (Ht rfl) cW) (eZ (dX (Ht rfl) (fun hb1=>?_) (fun hb1=>?_)))))))))))
 ·have he : vJ z.length l ≠ 0 := by simpa using hb1
  refine ts (ro rfl (aI.imp (vX ) pW) (rm rfl (gX Z_34 (Ht rfl) (Ht rfl) rfl (i:=1) rfl (aK rfl) rfl rfl (ra rfl (eZ (bR rfl (fZ (fU A_34 Z_34 rfl (i:=1) rfl rfl) ?_) (eY rfl)))))))
  exact (fun v V h=>by rw [rA,nM,nM,cD,cD,cD,if_neg he,if_neg he,if_neg he]; exact h)
 ·have he : vJ z.length l = 0 := by simpa using hb1
  obtain ⟨hll2,hp⟩:=Pq he
  have hz:rA z l = pH z (oA l):=by rw [rA,cD,if_pos he]
  have hs2:nM z s l = sG s (oA l):=by rw [nM,cD,if_pos he]
  have hc2:nM z c l = sG c (oA l):=by rw [nM,cD,if_pos he]
  have hpi:=zC hp
  have hQ:=Ml hp
  have hQl:=qQ l
  rw [hz,hs2,hc2,he]
  rw [hpi]
  generalize oA l = Q at *
  have hQn:Q.length = z.length:=by omega
  refine cY (ts (rm rfl (ro rfl (dK U_72 (Ht rfl) (show ((((Q.map Nat.succ).map (NT .i64)).length:Nat):Int) = ((Q.length:Nat):Int) by simp)) (rn rfl (eS (T:=Is (.slice none 0 0)) (i:=Tryz.t29) V_30 lV rfl rfl (Ht rfl) rfl (fun _=>rfl) trivial (by show 24 * _ ≤ _; omega) zo) fun B26=>(ra rfl (eZ (cU (ts (rm rfl (ro rfl (dK U_72 (Ht rfl) (show ((((Q.map Nat.succ).map (NT .i64)).length:Nat):Int) = ((Q.length:Nat):Int) by simp)) (ro rfl (cZ (cV 0)) (eZ (eK (mQ 3 rfl (rP (e:=51) (s:=5)) ?_))))))))))))))
  refine bP (fun (i : Nat) => i ≤ Q.length) (fun (i : Nat) => Q.length - i) (fun (i : Nat) => [(1, fN (Q.map Nat.succ)), (2, bF B2 0), (4, bF B4 0), (6, bF B6 0), (8, Is (.slice (some ⟨B26, 0, none⟩) Q.length Q.length)), (27, fN (Q.map Nat.succ)), (28, NT .i64 Q.length), (29, NT .i64 i)]) (fun (i : Nat) => [box B2 34 [aR z, bM s, bM c], box B4 34 [Is (.slice none 0 0), Is (.slice none 0 0), Is (.slice none 0 0)], box B6 32 [aR (pH z Q), bM (sG s Q)], pE B26 29 51 5 (bS aF (iP (fun i => tab Q.length fun j => gm c (cB Q i) (cB Q j)) [] Q.length i))]) 0 (Nat.zero_le _)
   (zS rfl) (aU (aB rfl) (aU (aB rfl) (aU (aB rfl) (aU (bD (by rw [← fF,kT]; exact lM aF _)) aY)))) (fun i hi=>?_)
  refine ts (ro rfl (gZ (Ht rfl) (Ht rfl)) (eZ (cU (dX (Ht rfl) (fun hd=>?_) (fun hd=>?_)))))
  ·have hdn : i < Q.length := by simp only [decide_eq_true_eq] at hd; omega
   have hqi:=oB hQ hdn
   have hcr:=hc.row hqi
   refine oH 3 (i) rfl (iB hdn) (fun v=>(cY (cU (eK (ts (rm rfl (ro rfl (dJ U_72 Z_3 (Ht rfl) (Ht rfl) rfl (eQ (mN hdn))) (ro rfl (dV A_3 Z_3 (Ht rfl)) (ra rfl (ra rfl (eZ (ts (rm rfl (ro rfl (dK U_72 (Ht rfl) (show ((((Q.map Nat.succ).map (NT .i64)).length:Nat):Int) = ((Q.length:Nat):Int) by simp)) (ro rfl (cZ (cV 0)) (eZ (eK ?_)))))))))))))))))
   refine eO (fun (j : Nat) (v : Value) => j ≤ Q.length) (fun (j : Nat) (v : Value) => Q.length - j) (fun (j : Nat) (v : Value) => [(1, fN (Q.map Nat.succ)), (2, bF B2 0), (4, bF B4 0), (6, bF B6 0), (8, Is (.slice (some ⟨B26, 0, none⟩) Q.length Q.length)), (9, NT .i64 i), (10, NT .i64 (cB Q i + 1)), (27, fN (Q.map Nat.succ)), (28, NT .i64 Q.length), (29, NT .i64 i), (34, fN (Q.map Nat.succ)), (35, NT .i64 Q.length), (36, NT .i64 j)]) (fun (j : Nat) (v : Value) => [box B2 34 [aR z, bM s, bM c], box B4 34 [Is (.slice none 0 0), Is (.slice none 0 0), Is (.slice none 0 0)], box B6 32 [aR (pH z Q), bM (sG s Q)], Lp B26 29 51 5 (bS aF (iP (fun i => tab Q.length fun j => gm c (cB Q i) (cB Q j)) [] Q.length i)) i v, bN 51 5 v ((tab j fun j => gm c (cB Q i) (cB Q j)).map aF)]) 0 v (Nat.zero_le _)
    (zS rfl) (dD.refl _) (fun j v hj=>?_)
   refine ts (ro rfl (gZ (Ht rfl) (Ht rfl)) (eZ (cU (dX (Ht rfl) (fun he2=>?_) (fun he2=>?_)))))
   ·have hjn : j < Q.length := by simp only [decide_eq_true_eq] at he2; omega
    have hqj:=oB hQ hjn
    refine cY (cU (eK (ts (ro rfl (dJ U_72 Z_3 (Ht rfl) (Ht rfl) rfl (eQ (mN hjn))) (ro rfl (dV A_3 Z_3 (Ht rfl)) (ra rfl (eZ (Y.D_startA (m:=18) [] 17 4 rfl rfl (cQ (Ei:=[(8,_)]) rfl rfl (bQ (bJ rfl rfl) bX) rfl rfl (dZ rfl (cZ (Ht rfl))) (cQ (Ei:=[(9,_)]) rfl rfl (bQ (bJ rfl rfl) bX) rfl rfl (dZ rfl (cZ (Ht rfl))) (cQ (Ei:=[(8,_)]) rfl rfl (bQ (bJ rfl rfl) bX) rfl rfl (dZ rfl (cZ (Ht rfl))) ?_)))))))))))
    refine cQ (Ei:=[(9,_)]) rfl rfl (bQ (bJ rfl rfl) bX) rfl rfl (dZ rfl (cZ (Ht rfl))) (cQ (Ei:=[(42,_),(43,_)]) rfl rfl (bQ (bZ 2 rfl rfl) (bQ (bZ 3 rfl rfl) bX)) rfl rfl (dZ rfl (gQ U_30 Z_29 (Ht rfl) (Ht rfl) rfl zo (by rw [Nat.mul_one,Nat.zero_add]))) ?_)
    refine cQ (Ei:=[(44,_)]) rfl rfl (bQ (bZ 4 rfl rfl) bX) rfl rfl (dZ rfl (gM A_29 Z_29 (Ht rfl) (j:=3) rfl)) (cQ (Ei:=[(2,_)]) rfl rfl (bQ (bJ rfl rfl) bX) rfl rfl (dZ rfl (eJ kI (Ht rfl) rfl)) (cQ (Ei:=[(46,_)]) rfl rfl (bQ (bZ 6 rfl rfl) bX) rfl rfl (dZ rfl (fQ A_30 Z_30 (Ht rfl) (i:=0) rfl rfl)) (cQ (Ei:=[(10,_)]) rfl rfl (bQ (bJ rfl rfl) bX) rfl rfl (dZ rfl (cZ (Ht rfl))) (cQ (Ei:=[(48,_)]) rfl rfl (bQ (bZ 8 rfl rfl) bX) rfl rfl (dZ rfl (aI.nat (dG (Ht rfl) (cV 1) zo z6) (show cB Q i + 1 - 1 = cB Q i by omega))) ?_))))
    refine cQ (Ei:=[(47,_),(49,_)]) rfl rfl (bQ (bZ 7 rfl rfl) (bQ (bZ 9 rfl rfl) bX)) rfl rfl (dZ rfl (dJ U_30 Z_29 (Ht rfl) (Ht rfl) rfl (eQ (dY (d:=[]) zo)))) (cQ (Ei:=[(50,_)]) rfl rfl (bQ (bZ 10 rfl rfl) bX) rfl rfl (dZ rfl (dV A_29 Z_29 (Ht rfl))) (cQ (Ei:=[(12,_)]) rfl rfl (bQ (bJ rfl rfl) bX) rfl rfl (dZ rfl (cZ (Ht rfl))) (cQ (Ei:=[(52,_)]) rfl rfl (bQ (bZ 12 rfl rfl) bX) rfl rfl (dZ rfl (aI.nat (dG (Ht rfl) (cV 1) zo z6) (show cB Q j + 1 - 1 = cB Q j by omega))) ?_)))
    refine cQ (Ei:=[(51,_),(53,_)]) rfl rfl (bQ (bZ 11 rfl rfl) (bQ (bZ 13 rfl rfl) bX)) rfl rfl (dZ rfl (dJ U_29 Z_51 (Ht rfl) (Ht rfl) rfl (eQ (dY (d:=Qi.zero) zo)))) (cQ (Ei:=[(54,_)]) rfl rfl (bQ (bZ 14 rfl rfl) bX) rfl rfl (dZ rfl (dV A_51 Z_51 (Ht rfl))) (cQ (Ei:=[(55,_)]) rfl rfl (bQ (bZ 15 rfl rfl) bX) rfl rfl (dZ rfl (cA (xs:=[.tmp 55]) U_29 Z_51 O_51 (cG (Ht rfl) cK) rfl rfl rfl)) ?_))
    refine Y.D_app (Ei:=[(45,_),(56,_)]) rfl rfl rfl rfl (bQ (bZ 5 rfl rfl) (bQ (bZ 16 rfl rfl) bX)) rfl (qA (inf:=Tryz.t51) kX jD rfl rfl rfl (Ht rfl) (Ht rfl) (by simp) (fun T hT=>by simp at hT; subst hT; exact El.ag rfl) (by show _ * 88 ≤ _; simp only [List.length_map,aC,List.length_cons,List.length_nil]; omega) (by simp only [List.length_map,aC,List.length_cons,List.length_nil]; omega)) ?_
    refine Y.D_done bA rfl (by kernel_rfl) rfl (by simp [Y.okP]) rfl rfl (bU (bU (bU (bU (bU (bU (bU (bU (bU (bU (bU (bU (bU (bU (bU (bU (bU (Y.F_app (fun v2=>Y.F_nil ?_)))))))))))))))))))
    refine ro rfl (gQ U_30 Z_29 (Ht rfl) (Ht rfl) rfl zo (by rw [Nat.mul_one,Nat.zero_add])) ?_
    refine sH Z_29 (Ht rfl) (Ht rfl) (by simp only [bS,List.length_map,cL]; omega) (j:=3) (l:=5) rfl rfl rfl ?_
    refine eZ (aT (dQ (ro rfl (dW (Ht rfl) (cV 1) z6) (rm rfl (eZ (bI [0,1,2,3,5] rfl (by decide) (fY (j + 1,v2) hjn (by dsimp only; omega) (zS rfl) (aU (aB rfl) (aU (aB rfl) (aU (aB rfl) (aU (fun _ _ _ h=>h) (aU (aN (by rw [mH,List.map_append]; rfl)) aY))))))))))))
   ·have hjn : j = Q.length := by simp only [decide_eq_false_iff_not] at he2; omega
    rw [hjn]
    refine gW rfl (aT (dI 3 4 rfl rfl (by decide) (by simp only [bS,List.length_map,cL]; omega) ?_))
    refine dQ (ro rfl (dW (Ht rfl) (cV 1) z6) (rm rfl (eZ (bI [0,1,2,3] rfl (by decide) (fY (i + 1) hdn zo (zS rfl) (aU (aB rfl) (aU (aB rfl) (aU (aB rfl) (aU (bD (by rw [eN,← fR (f:=(fun i=>tab Q.length fun j=>gm c (cB Q i) (cB Q j)))])) aY)))))))))
  ·have hdn : i = Q.length := by simp only [decide_eq_false_iff_not] at hd; omega
   rw [hdn,gO,show tab Q.length (fun i=>tab Q.length fun j=>gm c (cB Q i) (cB Q j)) = sG c Q from rfl]
   refine gW rfl (gV (i:=3) (tt:=8) rfl rfl (iT (s:=5) (M:=sG c Q) (aC _ _).symm) (ts (ro rfl (eW A_32 Z_32 (Ht rfl) (i:=2) rfl rfl rfl) (rm rfl (ro rfl (qF (Ht rfl) (Ht rfl)) (gX Z_34 (Ht rfl) (Ht rfl) rfl (i:=1) rfl (aK rfl) rfl rfl (ro rfl (cX (cV 0)) (eZ ?_))))))))
   exact bR rfl (fU A_34 Z_34 rfl (i:=1) rfl rfl) (eY rfl)
theorem a31 {z zb:List Qi} {a b:List (List Qi)} {x y:Nat} (ha:cP a x x) (hb:cP b y y) (hz:z.length = x) (hzb:zb.length = y) (hx:x ≤ 100) (hy:y ≤ 100):bL Tryz.prog 211 [oT z a,oT zb b] (oT (z ++ zb) (mA a b x y)):=by
 have hal:=ha.1
 have hbl:=hb.1
 refine bL.intro Tryz.func211 rfl Tryz.ntmps211 rfl (fun cx=>(ts (rn rfl (fK (Ht rfl)) fun B2=>(rn rfl (fK (Ht rfl)) fun B3=>(rn rfl (eG (Ts:=[Is (.slice none 0 0),Is (.slice none 0 0)]) O_38 rfl (fun V=>aW zd (aW zd (aG)))) fun B4=>(eZ (cU (fJ (m:=7) (dp 2 rfl (eJ kJ (Ht rfl) rfl) (dq 12 0 rfl (fQ A_35 Z_35 (Ht rfl) (i:=0) rfl rfl) (dq 13 1 rfl (dK U_35 (Ht rfl) (by rw [List.length_map,hz])) ?_)))))))))))
 refine dp 3 rfl (eJ kJ (Ht rfl) rfl) (dq 15 3 rfl (fQ A_35 Z_35 (Ht rfl) (i:=1) rfl rfl) (dq 16 4 rfl (dK U_35 (Ht rfl) (by rw [List.length_map,hzb])) ?_))
 refine dq 14 2 rfl (cX (Ht rfl)) (fW bA rfl (by kernel_rfl) (zF (aJ (aJ (aJ (aV (ra rfl (eZ (cU (fJ (m:=16) (C.D_tmp (Ei:=[]) rfl rfl rfl bW (vA U_35 Z_131 O_131) (dp 2 rfl (eJ kJ (Ht rfl) rfl) (dq 19 1 rfl (fQ A_35 Z_35 (Ht rfl) (i:=0) rfl rfl) (C.D_app (Ei:=[(20,_)]) 0 false rfl rfl rfl rfl rfl rfl (bV (bG 2 rfl rfl) bW) (fun x21=>Ig (inf:=Tryz.t131) Hh uU rfl rfl rfl (Ht rfl) (Ht rfl)  (fun T hT=>by obtain ⟨x,_,rfl⟩:=List.mem_map.1 hT; exact El.ag rfl) (by show _ * 88 ≤ _; simp only [List.length_map,List.length_append,List.length_nil]; omega) (by simp only [List.length_map,List.length_append,List.length_nil]; omega)) ?_))))))))))))))
 refine dp 3 rfl (eJ kJ (Ht rfl) rfl) (dq 22 4 rfl (fQ A_35 Z_35 (Ht rfl) (i:=1) rfl rfl) (C.D_app (Ei:=[(23,_)]) 3 true rfl rfl rfl rfl rfl rfl (bV (bG 5 rfl rfl) bW) (fun x24=>Ig (inf:=Tryz.t131) Hh uU rfl rfl rfl (Ht rfl) (Ht rfl)  (fun T hT=>by obtain ⟨x,_,rfl⟩:=List.mem_map.1 hT; exact El.ag rfl) (by show _ * 88 ≤ _; simp only [List.length_map,List.length_append,List.length_nil]; omega) (by simp only [List.length_map,List.length_append,List.length_nil]; omega)) ?_))
 refine dp 5 rfl (cZ (Ht rfl)) (dp 6 rfl (cZ (Ht rfl)) (dT 25 7 26 8 rfl (dW (Ht rfl) (Ht rfl) z6) (dp 5 rfl (cZ (Ht rfl)) (dp 6 rfl (cZ (Ht rfl)) (dT 28 10 29 11 rfl (dW (Ht rfl) (Ht rfl) z6) (C.D_new (Ei:=[(27,_),(30,_)]) rfl rfl rfl (bV (bG 9 rfl rfl) (bV (bG 12 rfl rfl) bW)) (nZ Tryz.call129 (yE (n:=x + y) (m:=x + y) zo zo) ⟨(Ht rfl),(Ht rfl),trivial⟩) ?_))))))
 refine C.D_dep (fun T U=>eI [T,U]) 6 13 rfl rfl rfl rfl rfl rfl (fun T U hT hU=>by obtain ⟨x,rfl⟩:=hT; obtain ⟨y,rfl⟩:=hU; (try dsimp only); exact dZ rfl (xI (Ht rfl) (Ht rfl))) (C.D_new (Ei:=[]) rfl rfl rfl bW (eG (Ts:=[Is (.slice none 0 0),Is (.slice none 0 0)]) O_38 rfl (fun V=>aW zd (aW zd (aG)))) (fW bA rfl (by kernel_rfl) (C.F_tmp (fun B18=>aJ (aJ (C.F_tmp (fun v21=>aJ (aJ (C.F_new (fun v24=>aJ (zF (aJ (C.F_new (fun B31=>C.F_dep rfl rfl (C.F_new (fun B7=>aV ?_))))))))))))))))
 refine gX Z_38 (Ht rfl) (Ht rfl) rfl (i:=5) rfl (aK rfl) rfl rfl (eZ (cU (ts (ro rfl (cX (cV 0)) (eZ (eK ?_))))))
 generalize hdr v24 ([] ++ List.map QT z ++ List.map QT zb).length = vz
 refine bP (fun (i : Nat) => i ≤ x) (fun (i : Nat) => x - i) (fun (i : Nat) => [(2, bF B2 0), (3, bF B3 0), (4, bF B4 0), (5, NT .i64 x), (6, NT .i64 y), (7, bF B7 0), (8, NT .i64 i)]) (fun (i : Nat) => [box B2 38 [wY z, QM a], box B3 38 [wY zb, QM b], box B4 38 [Is (.slice none 0 0), Is (.slice none 0 0)], bN 131 5 vz ([] ++ List.map QT z ++ List.map QT zb), kK eM B31 35 131 5 (bS QT (iP (mG a b x y) (tab (x + y) fun _ => Qi.zero) (x + y) i)), box B7 38 [Is vz, Is (.slice (some ⟨B31, 0, none⟩) (x + y) (x + y))]]) 0 (Nat.zero_le _)
  (zS rfl) (aU (aB rfl) (aU (aB rfl) (aU (aB rfl) (aU (fun _ _ _ h=>h) (aU (bD (by rw [zO,fF])) (aU (aB rfl) aY)))))) (fun i hi=>?_)
 refine cU (ts (rm rfl (rm rfl (ro rfl (gZ (Ht rfl) (Ht rfl)) (eZ (dX (Ht rfl) (fun hd=>?_) (fun hd=>?_)))))))
 ·have hdn : i < x := by simp only [decide_eq_true_eq] at hd; omega
  have har:=ha.row hdn
  refine iS 4 (i) rfl (iB zo) (fun v0 hv0=>(cY (cU (eK (ts (ro rfl (cX (cV 0)) (eZ (eK ?_))))))))
  refine bP (fun (j : Nat) => j ≤ x) (fun (j : Nat) => x - j) (fun (j : Nat) => [(2, bF B2 0), (3, bF B3 0), (4, bF B4 0), (5, NT .i64 x), (6, NT .i64 y), (7, bF B7 0), (8, NT .i64 i), (9, NT .i64 j)]) (fun (j : Nat) => [box B2 38 [wY z, QM a], box B3 38 [wY zb, QM b], box B4 38 [Is (.slice none 0 0), Is (.slice none 0 0)], bN 131 5 vz ([] ++ List.map QT z ++ List.map QT zb), qN eM B31 35 131 5 (bS QT (iP (mG a b x y) (tab (x + y) fun _ => Qi.zero) (x + y) i)) i v0, box B7 38 [Is vz, Is (.slice (some ⟨B31, 0, none⟩) (x + y) (x + y))], bN 131 5 v0 ((Be (gm a i) 0 j (x + y)).map QT)]) 0 (Nat.zero_le _)
   (zS rfl) (aU (aB rfl) (aU (aB rfl) (aU (aB rfl) (aU (fun _ _ _ h=>h) (aU (fun _ _ _ h=>h) (aU (aB rfl) (aU (aN (by rw [← tZ])) aY))))))) (fun j hj=>?_)
  refine cU (ts (rm rfl (rm rfl (ro rfl (gZ (Ht rfl) (Ht rfl)) (eZ (dX (Ht rfl) (fun he=>?_) (fun he=>?_)))))))
  ·have hen : j < x := by simp only [decide_eq_true_eq] at he; omega
   refine cY (cU (eK (fJ (m:=14) (dp 7 rfl (eJ tN (Ht rfl) rfl) (dq 43 0 rfl (fQ A_36 Z_36 (Ht rfl) (i:=5) rfl rfl) (dp 8 rfl (cZ (Ht rfl)) (dT 44 1 45 2 rfl (gQ U_36 Z_35 (Ht rfl) (Ht rfl) rfl zo (by rw [Nat.mul_one,Nat.zero_add])) ?_)))))))
   refine dq 46 3 rfl (gM A_35 Z_35 (Ht rfl) (j:=4) rfl) (dp 9 rfl (cZ (Ht rfl)) (dp 2 rfl (eJ tN (Ht rfl) rfl) (dq 49 6 rfl (fQ A_36 Z_36 (Ht rfl) (i:=0) rfl rfl) (dp 8 rfl (cZ (Ht rfl)) (dT 50 7 51 8 rfl (dJ U_36 Z_35 (Ht rfl) (Ht rfl) rfl (eQ (dY (d:=[]) zo))) (dq 52 9 rfl (dV A_35 Z_35 (Ht rfl)) (dp 9 rfl (cZ (Ht rfl)) (dT 53 10 54 11 rfl (dJ U_35 Z_131 (Ht rfl) (Ht rfl) rfl (eQ (dY (d:=Qi.zero) zo))) ?_))))))))
   refine dq 55 12 rfl (dV A_131 Z_131 (Ht rfl)) (fW bA rfl (by kernel_rfl) (zF (zF (zF (aJ (aJ (aV (ro rfl (cR U_35 Z_131 (Ht rfl) (Ht rfl) rfl (i:=6) rfl (by rw [List.length_map,lN]; omega) rfl) ?_))))))))
   refine jS Z_131 (Ht rfl) (Ht rfl) (El.ag rfl) (i:=6) rfl rfl (by rw [List.length_map,lN]; omega) rfl ?_
   refine eZ (aT (dQ (rm rfl (ro rfl (dW (Ht rfl) (cV 1) z6) (ra rfl (eZ (fY (j + 1) hen zo (zS rfl) (aU (aB rfl) (aU (aB rfl) (aU (aB rfl) (aU (fun _ _ _ h=>h) (aU (fun _ _ _ h=>h) (aU (aB rfl) (aU (aN (by rw [fI]; exact congrArg _ (wP (Nat.zero_le _)))) aY))))))))))))))
  ·have hjx : j = x := by simp only [decide_eq_false_iff_not] at he; omega
   subst hjx
   rw [Pt hdn]
   refine gW rfl (aT (dI 4 6 rfl rfl (by decide) (by simp only [bS,List.length_map,cL]; omega) ?_))
   refine dQ (rm rfl (ro rfl (dW (Ht rfl) (cV 1) z6) (ra rfl (eZ (bI [0,1,2,3,4,5] rfl (by decide) (fY (i + 1) hdn zo (zS rfl) (aU (aB rfl) (aU (aB rfl) (aU (aB rfl) (aU (fun _ _ _ h=>h) (aU (bD (by rw [eN,← fR (f:=mG a b j y)])) (aU (aB rfl) aY))))))))))))
 ·have hix : i = x := by simp only [decide_eq_false_iff_not] at hd; omega
  subst hix
  refine gW rfl (cU (ts (ro rfl (cX (cV 0)) (eZ (eK ?_)))))
  refine bP (fun (r : Nat) => r ≤ y) (fun (r : Nat) => y - r) (fun (r : Nat) => [(2, bF B2 0), (3, bF B3 0), (4, bF B4 0), (5, NT .i64 i), (6, NT .i64 y), (7, bF B7 0), (10, NT .i64 r)]) (fun (r : Nat) => [box B2 38 [wY z, QM a], box B3 38 [wY zb, QM b], box B4 38 [Is (.slice none 0 0), Is (.slice none 0 0)], bN 131 5 vz ([] ++ List.map QT z ++ List.map QT zb), kK eM B31 35 131 5 (bS QT (iP (mG a b i y) (tab (i + y) fun _ => Qi.zero) (i + y) (i + r))), box B7 38 [Is vz, Is (.slice (some ⟨B31, 0, none⟩) (i + y) (i + y))]]) 0 (Nat.zero_le _)
   (zS rfl) (aU (aB rfl) (aU (aB rfl) (aU (aB rfl) (aU (fun _ _ _ h=>h) (aU (bD rfl) (aU (aB rfl) aY)))))) (fun r hr=>?_)
  refine cU (ts (rm rfl (rm rfl (ro rfl (gZ (Ht rfl) (Ht rfl)) (eZ (dX (Ht rfl) (fun hd2=>?_) (fun hd2=>?_)))))))
  ·have hrn : r < y := by simp only [decide_eq_true_eq] at hd2; omega
   have hbr:=hb.row hrn
   refine iS 4 ((i + r)) rfl (iB zo) (fun v0 hv0=>(cY (cU (eK (ts (ro rfl (cX (cV 0)) (eZ (eK ?_))))))))
   refine bP (fun (j : Nat) => j ≤ y) (fun (j : Nat) => y - j) (fun (j : Nat) => [(2, bF B2 0), (3, bF B3 0), (4, bF B4 0), (5, NT .i64 i), (6, NT .i64 y), (7, bF B7 0), (10, NT .i64 r), (11, NT .i64 j)]) (fun (j : Nat) => [box B2 38 [wY z, QM a], box B3 38 [wY zb, QM b], box B4 38 [Is (.slice none 0 0), Is (.slice none 0 0)], bN 131 5 vz ([] ++ List.map QT z ++ List.map QT zb), qN eM B31 35 131 5 (bS QT (iP (mG a b i y) (tab (i + y) fun _ => Qi.zero) (i + y) (i + r))) (i + r) v0, box B7 38 [Is vz, Is (.slice (some ⟨B31, 0, none⟩) (i + y) (i + y))], bN 131 5 v0 ((Be (fun k => gm b r (k - i)) i (i + j) (i + y)).map QT)]) 0 (Nat.zero_le _)
    (zS rfl) (aU (aB rfl) (aU (aB rfl) (aU (aB rfl) (aU (fun _ _ _ h=>h) (aU (fun _ _ _ h=>h) (aU (aB rfl) (aU (aN (by rw [tZ (fun k=>gm b r (k - i)) i]; rfl)) aY))))))) (fun j hj2=>?_)
   refine cU (ts (rm rfl (rm rfl (ro rfl (gZ (Ht rfl) (Ht rfl)) (eZ (dX (Ht rfl) (fun he2=>?_) (fun he2=>?_)))))))
   ·have hen : j < y := by simp only [decide_eq_true_eq] at he2; omega
    have hnx:=wP (f:=(fun k=>gm b r (k - i))) (lo:=i) (hi:=i + j) (n:=i + y) zo
    simp only [Nat.add_sub_cancel_left] at hnx
    refine cY (cU (eK (fJ (m:=18) (dp 7 rfl (eJ tN (Ht rfl) rfl) (dq 68 0 rfl (fQ A_36 Z_36 (Ht rfl) (i:=5) rfl rfl) (dp 5 rfl (cZ (Ht rfl)) (dp 10 rfl (cZ (Ht rfl)) (dT 70 2 71 3 rfl (dW (Ht rfl) (Ht rfl) z6) (dT 69 1 72 4 rfl (gQ U_36 Z_35 (Ht rfl) (Ht rfl) rfl zo (by rw [Nat.mul_one,Nat.zero_add])) ?_)))))))))
    refine dq 73 5 rfl (gM A_35 Z_35 (Ht rfl) (j:=4) rfl) (dp 5 rfl (cZ (Ht rfl)) (dp 11 rfl (cZ (Ht rfl)) (dT 75 7 76 8 rfl (dW (Ht rfl) (Ht rfl) z6) (dp 3 rfl (eJ tN (Ht rfl) rfl) (dq 78 10 rfl (fQ A_36 Z_36 (Ht rfl) (i:=1) rfl rfl) (dp 10 rfl (cZ (Ht rfl)) (dT 79 11 80 12 rfl (dJ U_36 Z_35 (Ht rfl) (Ht rfl) rfl (eQ (dY (d:=[]) zo))) (dq 81 13 rfl (dV A_35 Z_35 (Ht rfl)) ?_))))))))
    refine dp 11 rfl (cZ (Ht rfl)) (dT 82 14 83 15 rfl (dJ U_35 Z_131 (Ht rfl) (Ht rfl) rfl (eQ (dY (d:=Qi.zero) zo))) (dq 84 16 rfl (dV A_131 Z_131 (Ht rfl)) (fW bA rfl (by kernel_rfl) (zF (zF (zF (zF (aJ (aJ (aV (ro rfl (cR U_35 Z_131 (Ht rfl) (Ht rfl) rfl (i:=6) rfl (by rw [List.length_map,lN]; omega) rfl) ?_)))))))))))
    refine jS Z_131 (Ht rfl) (Ht rfl) (El.ag rfl) (i:=6) rfl rfl (by rw [List.length_map,lN]; omega) rfl ?_
    refine eZ (aT (dQ (rm rfl (ro rfl (dW (Ht rfl) (cV 1) z6) (ra rfl (eZ (fY (j + 1) hen zo (zS rfl) (aU (aB rfl) (aU (aB rfl) (aU (aB rfl) (aU (fun _ _ _ h=>h) (aU (fun _ _ _ h=>h) (aU (aB rfl) (aU (aN (by rw [fI]; exact congrArg _ hnx)) aY))))))))))))))
   ·have hjx : j = y := by simp only [decide_eq_false_iff_not] at he2; omega
    subst hjx
    rw [Pu (a:=a) (b:=b)]
    refine gW rfl (aT (dI 4 6 rfl rfl (by decide) (by simp only [bS,List.length_map,cL]; omega) ?_))
    refine dQ (rm rfl (ro rfl (dW (Ht rfl) (cV 1) z6) (ra rfl (eZ (bI [0,1,2,3,4,5] rfl (by decide) (fY (r + 1) hrn zo (zS rfl) (aU (aB rfl) (aU (aB rfl) (aU (aB rfl) (aU (fun _ _ _ h=>h) (aU (bD (by rw [eN,fR (f:=mG a b i j)]; rfl)) (aU (aB rfl) aY))))))))))))
  ·have hry : r = y := by simp only [decide_eq_false_iff_not] at hd2; omega
   subst hry
   rw [gO]
   refine gW rfl (cU (sJ 5 3 0 rfl rfl rfl (by decide) (qE 5 4 1 rfl rfl rfl (by decide) (a3h (q:=eM) (M:=mA a b i r) (aC _ _).symm) (dQ (ro rfl (eW A_38 Z_38 (Ht rfl) (i:=5) rfl rfl rfl) (gX Z_38 (Ht rfl) (Ht rfl) rfl (i:=2) rfl (aK rfl) rfl rfl (eZ (fG rfl (fZ (fU A_38 Z_38 rfl (i:=2) rfl rfl) ?_)))))))))
   exact (a4V (by rw [List.nil_append,List.map_append]))
theorem Xy {z zb:List Qi} {a b:List (List Qi)} (ha:cP a z.length z.length) (hb:cP b zb.length zb.length) (hx:z.length ≤ 100) (hy:zb.length ≤ 100):bL Tryz.prog 126 [oT z a,oT zb b] (fS [oT (tD z zb) (nS z zb a b),aL .i64 (Bh z.length zb.length)]):=by
 refine bL.intro Tryz.func126 rfl Tryz.ntmps126 rfl (fun cx=>(ts (rn rfl (fK (Ht rfl)) fun B2=>(rn rfl (fK (Ht rfl)) fun B3=>(rn rfl (eG (Ts:=[Is (.slice none 0 0),Is (.slice none 0 0)]) O_38 rfl (fun V=>aW zd (aW zd (aG)))) fun B4=>(ro rfl (cX (cV 0)) (eZ (cU (ts (ro rfl (eJ kJ (Ht rfl) rfl) (ro rfl (fQ A_35 Z_35 (Ht rfl) (i:=0) rfl rfl) (ro rfl (dK U_35 (Ht rfl) aA) (ro rfl (eJ kJ (Ht rfl) rfl) (ro rfl (fQ A_35 Z_35 (Ht rfl) (i:=1) rfl rfl) ?_))))))))))))))
 refine ro rfl (dK U_35 (Ht rfl) aA) (ro rfl (dW (Ht rfl) (Ht rfl) z6) (ro rfl (dF (Ht rfl) (cV 8)) (eZ (dX (Ht rfl) (fun hb1=>?_) (fun hb1=>?_)))))
 ·have h2 : 8 < z.length + zb.length := by simpa using hb1
  have he:=Xg h2
  refine ts (ro rfl (aI.imp (yD ) vH) (gX Z_38 (Ht rfl) (Ht rfl) rfl (i:=2) rfl (aK rfl) rfl rfl (ro rfl (cX (cV 4)) (eZ (bR rfl (fZ (fU A_38 Z_38 rfl (i:=2) rfl rfl) ?_) (fZ (eY rfl) ?_))))))
  ·exact (fun v V h=>by rw [tD,nS,cD,cD,he]; exact h)
  ·exact (aO he.symm)
 ·have h2 : ¬ 8 < z.length + zb.length := by simpa using hb1
  have he:=Sw h2
  refine cY (ts (ro rfl (eW A_38 Z_38 (Ht rfl) (i:=0) rfl rfl rfl) (ro rfl (eW A_38 Z_38 (Ht rfl) (i:=1) rfl rfl rfl) (ro rfl (cJ Tryz.call211 (a31 ha hb rfl rfl hx hy) ⟨(Ht rfl),(Ht rfl),trivial⟩) (gX Z_38 (Ht rfl) (Ht rfl) rfl (i:=2) rfl (aK rfl) rfl rfl (ro rfl (cX (cV 0)) (eZ (bR rfl (fZ (fU A_38 Z_38 rfl (i:=2) rfl rfl) ?_) (fZ (eY rfl) ?_)))))))))
  ·exact (fun v V h=>by rw [tD,nS,cD,cD,he]; exact h)
  ·exact (aO he.symm)
theorem Xz {z zb:List Qi} {a b c cb:List (List Qi)} (ha:cP a z.length z.length) (hb:cP b zb.length zb.length) (hc:cP c z.length z.length) (hcb:cP cb zb.length zb.length) (hx:z.length ≤ 100) (hy:zb.length ≤ 100):bL Tryz.prog 35 [lP z a c,lP zb b cb] (fS [lP (tD z zb) (nS z zb a b) (nS z zb c cb),aL .i64 (Bh z.length zb.length)]):=by
 refine bL.intro Tryz.func35 rfl Tryz.ntmps35 rfl (fun cx=>(ts (rn rfl (fK (Ht rfl)) fun B2=>(rn rfl (fK (Ht rfl)) fun B3=>(rn rfl (eG (Ts:=[Is (.slice none 0 0),Is (.slice none 0 0),Is (.slice none 0 0)]) O_40 rfl (fun V=>aW zd (aW zd (aW zd (aG))))) fun B4=>(ro rfl (cX (cV 0)) (eZ (ts (ro rfl (eJ tO (Ht rfl) rfl) (ro rfl (eW A_38 Z_38 (Ht rfl) (i:=0) rfl rfl rfl) (ro rfl (eJ tO (Ht rfl) rfl) (ro rfl (eW A_38 Z_38 (Ht rfl) (i:=1) rfl rfl rfl) ?_))))))))))))
 refine ro rfl (cJ Tryz.call126 (Xy ha hb hx hy) ⟨(Ht rfl),(Ht rfl),trivial⟩) (rm rfl (ro rfl (dU (Ht rfl) rfl) (ro rfl (dU (Ht rfl) rfl) (rn rfl (eG (Ts:=[Is (.slice none 0 0),Is (.slice none 0 0)]) O_38 rfl (fun V=>aW zd (aW zd (aG)))) fun B6=>(gX Z_38 (Ht rfl) (Ht rfl) rfl (i:=3) rfl (aK rfl) rfl rfl (ra rfl (eZ (cU (ts (rm rfl (ro rfl (gD (Ht rfl) cW) (eZ (dX (Ht rfl) (fun hb1=>?_) (fun hb1=>?_))))))))))))))
 ·have he : Bh z.length zb.length ≠ 0 := by simpa using hb1
  refine ts (ro rfl (aI.imp (Ct ) tY) (rm rfl (gX Z_40 (Ht rfl) (Ht rfl) rfl (i:=2) rfl (aK rfl) rfl rfl (ra rfl (eZ (bR rfl (fZ (fU A_40 Z_40 rfl (i:=2) rfl rfl) ?_) (eY rfl)))))))
  exact (fun v V h=>by rw [tD,nS,nS,cD,cD,cD,if_neg he,if_neg he,if_neg he]; exact h)
 ·have he : Bh z.length zb.length = 0 := by simpa using hb1
  refine cY (cU (fJ (m:=6) (dp 6 rfl (eW A_38 Z_38 (Ht rfl) (i:=3) rfl rfl rfl) (dp 2 rfl (eJ tP (Ht rfl) rfl) (dq 21 1 rfl (fQ A_36 Z_36 (Ht rfl) (i:=0) rfl rfl) (dp 3 rfl (eJ tP (Ht rfl) rfl) (dq 23 3 rfl (fQ A_36 Z_36 (Ht rfl) (i:=1) rfl rfl) (dT 22 2 24 4 rfl (cJ Tryz.call127 (a0p hc hcb hx hy) ⟨(Ht rfl),(Ht rfl),trivial⟩) (fW bA rfl (by kernel_rfl) (zF (aJ (aJ (aV (ro rfl (xJ (Ht rfl) (Ht rfl)) ?_))))))))))))))
  refine gX Z_40 (Ht rfl) (Ht rfl) rfl (i:=2) rfl (aK rfl) rfl rfl (ro rfl (cX (cV 0)) (eZ (bR rfl (fZ (fU A_40 Z_40 rfl (i:=2) rfl rfl) ?_) (fZ (eY rfl) ?_))))
  ·exact (fun v V h=>by rw [show nS z zb c cb = mA c cb z.length zb.length by rw [nS,cD,if_pos he]]; exact h)
  ·exact (aO he.symm)
theorem a2Z {z:List Qi} {s c:List (List Qi)} {l:List Int} (hs:cP s z.length z.length) (hc:cP c z.length z.length) (hl:z.length ≤ 100) (hll:l.length ≤ 1000):bL Tryz.prog 37 [lP z s c,jA 1 (l.map (aL .i64))] (fS [lP (rA z l) (nM z s l) (nM z c l),aL .i64 (vJ z.length l)]):=by
 have hcl:=hc.1
 have hR:=a0y (z:=z) (s:=s) (l:=l) hs zo hll
 refine bL.intro Tryz.func37 rfl Tryz.ntmps37 rfl (fun cx=>(ts (rn rfl (fK (Ht rfl)) fun B2=>(rn rfl (eG (Ts:=[Is (.slice none 0 0),Is (.slice none 0 0),Is (.slice none 0 0)]) O_40 rfl (fun V=>aW zd (aW zd (aW zd (aG))))) fun B4=>(ro rfl (cX (cV 0)) (eZ (ts (ro rfl (eJ tO (Ht rfl) rfl) (ro rfl (eW A_38 Z_38 (Ht rfl) (i:=0) rfl rfl rfl) (rm rfl (ro rfl (cJ Tryz.call128 hR ⟨(Ht rfl),(Ht rfl),trivial⟩) (rm rfl (ro rfl (dU (Ht rfl) rfl) ?_)))))))))))))
 refine ro rfl (dU (Ht rfl) rfl) (rn rfl (eG (Ts:=[Is (.slice none 0 0),Is (.slice none 0 0)]) O_38 rfl (fun V=>aW zd (aW zd (aG)))) fun B6=>(gX Z_38 (Ht rfl) (Ht rfl) rfl (i:=2) rfl (aK rfl) rfl rfl (ra rfl (eZ (cU (ts (rm rfl (ro rfl (gD (Ht rfl) cW) (eZ (dX (Ht rfl) (fun hb1=>?_) (fun hb1=>?_)))))))))))
 ·have he : vJ z.length l ≠ 0 := by simpa using hb1
  refine ts (ro rfl (aI.imp (Ct ) tY) (rm rfl (gX Z_40 (Ht rfl) (Ht rfl) rfl (i:=1) rfl (aK rfl) rfl rfl (ra rfl (eZ (bR rfl (fZ (fU A_40 Z_40 rfl (i:=1) rfl rfl) ?_) (eY rfl)))))))
  exact (fun v V h=>by rw [rA,nM,nM,cD,cD,cD,if_neg he,if_neg he,if_neg he]; exact h)
 ·have he : vJ z.length l = 0 := by simpa using hb1
  obtain ⟨hll2,hp⟩:=Pq he
  have hz:rA z l = pH z (oA l):=by rw [rA,cD,if_pos he]
  have hs2:nM z s l = sG s (oA l):=by rw [nM,cD,if_pos he]
  have hc2:nM z c l = sG c (oA l):=by rw [nM,cD,if_pos he]
  have hpi:=zC hp
  have hQ:=Ml hp
  have hQl:=qQ l
  rw [hz,hs2,hc2,he]
  rw [hpi]
  generalize oA l = Q at *
  have hQn:Q.length = z.length:=by omega
  refine cY (ts (rm rfl (ro rfl (dK U_72 (Ht rfl) (show ((((Q.map Nat.succ).map (NT .i64)).length:Nat):Int) = ((Q.length:Nat):Int) by simp)) (rm rfl (ro rfl (dK U_72 (Ht rfl) (show ((((Q.map Nat.succ).map (NT .i64)).length:Nat):Int) = ((Q.length:Nat):Int) by simp)) (rn rfl (nZ Tryz.call129 (yE (n:=Q.length) (m:=Q.length) zo zo) ⟨(Ht rfl),(Ht rfl),trivial⟩) fun B26=>(ra rfl (eZ (cU (ts (ro rfl (cX (cV 0)) (eZ (eK ?_)))))))))))))
  refine bP (fun (i : Nat) => i ≤ Q.length) (fun (i : Nat) => Q.length - i) (fun (i : Nat) => [(1, fN (Q.map Nat.succ)), (2, bF B2 0), (4, bF B4 0), (6, bF B6 0), (8, Is (.slice (some ⟨B26, 0, none⟩) Q.length Q.length)), (9, NT .i64 i)]) (fun (i : Nat) => [box B2 40 [wY z, QM s, QM c], box B4 40 [Is (.slice none 0 0), Is (.slice none 0 0), Is (.slice none 0 0)], box B6 38 [wY (pH z Q), QM (sG s Q)], kK eM B26 35 131 5 (bS QT (iP (fun i => tab Q.length fun j => gm c (cB Q i) (cB Q j)) (tab Q.length fun _ => Qi.zero) Q.length i))]) 0 (Nat.zero_le _)
   (zS rfl) (aU (aB rfl) (aU (aB rfl) (aU (aB rfl) (aU (bD (by rw [zO,fF])) aY)))) (fun i hi=>?_)
  refine cU (ts (rm rfl (rm rfl (ro rfl (dK U_72 (Ht rfl) (show ((((Q.map Nat.succ).map (NT .i64)).length:Nat):Int) = ((Q.length:Nat):Int) by simp)) (ro rfl (gZ (Ht rfl) (Ht rfl)) (eZ (dX (Ht rfl) (fun hd=>?_) (fun hd=>?_))))))))
  ·have hdn : i < Q.length := by simp only [decide_eq_true_eq] at hd; omega
   have hqi:=oB hQ hdn
   have hcr:=hc.row hqi
   refine iS 3 (i) rfl (iB hdn) (fun v0 hv0=>(cY (cU (eK (ts (ro rfl (cX (cV 0)) (eZ (eK ?_))))))))
   refine bP (fun (j : Nat) => j ≤ Q.length) (fun (j : Nat) => Q.length - j) (fun (j : Nat) => [(1, fN (Q.map Nat.succ)), (2, bF B2 0), (4, bF B4 0), (6, bF B6 0), (8, Is (.slice (some ⟨B26, 0, none⟩) Q.length Q.length)), (9, NT .i64 i), (10, NT .i64 j)]) (fun (j : Nat) => [box B2 40 [wY z, QM s, QM c], box B4 40 [Is (.slice none 0 0), Is (.slice none 0 0), Is (.slice none 0 0)], box B6 38 [wY (pH z Q), QM (sG s Q)], qN eM B26 35 131 5 (bS QT (iP (fun i => tab Q.length fun j => gm c (cB Q i) (cB Q j)) (tab Q.length fun _ => Qi.zero) Q.length i)) i v0, bN 131 5 v0 ((iP (fun j => gm c (cB Q i) (cB Q j)) Qi.zero Q.length j).map QT)]) 0 (Nat.zero_le _)
    (zS rfl) (aU (aB rfl) (aU (aB rfl) (aU (aB rfl) (aU (fun _ _ _ h=>h) (aU (aN (by rw [← fF])) aY))))) (fun j hj=>?_)
   refine cU (ts (rm rfl (rm rfl (ro rfl (dK U_72 (Ht rfl) (show ((((Q.map Nat.succ).map (NT .i64)).length:Nat):Int) = ((Q.length:Nat):Int) by simp)) (ro rfl (gZ (Ht rfl) (Ht rfl)) (eZ (dX (Ht rfl) (fun he2=>?_) (fun he2=>?_))))))))
   ·have hjn : j < Q.length := by simp only [decide_eq_true_eq] at he2; omega
    have hqj:=oB hQ hjn
    have hrl:=cL (fun j=>gm c (cB Q i) (cB Q j)) Qi.zero Q.length j
    refine cY (cU (eK (fJ (m:=21) (dp 8 rfl (cZ (Ht rfl)) (dp 9 rfl (cZ (Ht rfl)) (dT 39 0 40 1 rfl (gQ U_36 Z_35 (Ht rfl) (Ht rfl) rfl zo (by rw [Nat.mul_one,Nat.zero_add])) ?_))))))
    refine dq 41 2 rfl (gM A_35 Z_35 (Ht rfl) (j:=3) rfl) (dp 10 rfl (cZ (Ht rfl)) (dp 2 rfl (eJ tP (Ht rfl) rfl) (dq 44 5 rfl (fQ A_36 Z_36 (Ht rfl) (i:=0) rfl rfl) (dp 1 rfl (cZ (Ht rfl)) (dp 9 rfl (cZ (Ht rfl)) (dT 46 7 47 8 rfl (dJ U_72 Z_3 (Ht rfl) (Ht rfl) rfl (eQ (mN hdn))) (dq 48 9 rfl (dV A_3 Z_3 (Ht rfl)) (dq 49 10 rfl (aI.nat (dG (Ht rfl) (cV 1) zo z6) (show cB Q i + 1 - 1 = cB Q i by omega)) ?_))))))))
    refine dT 45 6 50 11 rfl (dJ U_36 Z_35 (Ht rfl) (Ht rfl) rfl (eQ (dY (d:=[]) zo))) (dq 51 12 rfl (dV A_35 Z_35 (Ht rfl)) (dp 1 rfl (cZ (Ht rfl)) (dp 10 rfl (cZ (Ht rfl)) (dT 53 14 54 15 rfl (dJ U_72 Z_3 (Ht rfl) (Ht rfl) rfl (eQ (mN hjn))) (dq 55 16 rfl (dV A_3 Z_3 (Ht rfl)) (dq 56 17 rfl (aI.nat (dG (Ht rfl) (cV 1) zo z6) (show cB Q j + 1 - 1 = cB Q j by omega)) ?_))))))
    refine dT 52 13 57 18 rfl (dJ U_35 Z_131 (Ht rfl) (Ht rfl) rfl (eQ (dY (d:=Qi.zero) zo))) (dq 58 19 rfl (dV A_131 Z_131 (Ht rfl)) (fW bA rfl (by kernel_rfl) (zF (zF (zF (zF (zF (aJ (aV (ro rfl (cR U_35 Z_131 (Ht rfl) (Ht rfl) rfl (i:=4) rfl (by rw [List.length_map,hrl]; exact hjn) rfl) ?_))))))))))
    refine jS Z_131 (Ht rfl) (Ht rfl) (El.ag rfl) (i:=4) rfl rfl (by rw [List.length_map,hrl]; exact hjn) rfl ?_
    refine eZ (aT (dQ (rm rfl (ro rfl (dW (Ht rfl) (cV 1) z6) (ra rfl (eZ (fY (j + 1) hjn zo (zS rfl) (aU (aB rfl) (aU (aB rfl) (aU (aB rfl) (aU (fun _ _ _ h=>h) (aU (aN (by rw [fI]; exact congrArg _ (fR (f:=(fun j=>gm c (cB Q i) (cB Q j)))))) aY))))))))))))
   ·have hjn : j = Q.length := by simp only [decide_eq_false_iff_not] at he2; omega
    rw [hjn,gO (fun j=>gm c (cB Q i) (cB Q j))]
    refine gW rfl (aT (dI 3 4 rfl rfl (by decide) (by simp only [bS,List.length_map,cL]; omega) ?_))
    refine dQ (rm rfl (ro rfl (dW (Ht rfl) (cV 1) z6) (ra rfl (eZ (bI [0,1,2,3] rfl (by decide) (fY (i + 1) hdn zo (zS rfl) (aU (aB rfl) (aU (aB rfl) (aU (aB rfl) (aU (bD (by rw [eN]; exact congrArg _ (fR (f:=(fun i=>tab Q.length fun j=>gm c (cB Q i) (cB Q j)))))) aY))))))))))
  ·have hdn : i = Q.length := by simp only [decide_eq_false_iff_not] at hd; omega
   rw [hdn,gO,show tab Q.length (fun i=>tab Q.length fun j=>gm c (cB Q i) (cB Q j)) = sG c Q from rfl]
   refine gW rfl (gV (i:=3) (tt:=8) rfl rfl (iT (s:=5) (M:=sG c Q) (aC _ _).symm) (ts (ro rfl (eW A_38 Z_38 (Ht rfl) (i:=2) rfl rfl rfl) (rm rfl (ro rfl (xJ (Ht rfl) (Ht rfl)) (gX Z_40 (Ht rfl) (Ht rfl) rfl (i:=1) rfl (aK rfl) rfl rfl (ro rfl (cX (cV 0)) (eZ ?_))))))))
   exact bR rfl (fU A_40 Z_40 rfl (i:=1) rfl rfl) (eY rfl)
theorem Hw {z zm:List Rt} {s c sm cm:List (List Rt)} {l:List Int}:bL Tryz.prog 5 [Bx z s c,Bx zm sm cm,jA 1 (l.map (aL .i64))] (aH true):=by
 refine bL.intro Tryz.func5 rfl Tryz.ntmps5 rfl (fun cx=>(ts (rn rfl (fK (Ht rfl)) fun B3=>(rn rfl (fK (Ht rfl)) fun B4=>(ro rfl (cX cW) (eZ (cU (ts (ro rfl (eW A_25 Z_25 (Ht rfl) (i:=0) rfl rfl rfl) (ro rfl (cJ K_15 Ej ⟨(Ht rfl),trivial⟩) (ro rfl (fB (Ht rfl)) (rm rfl (fX rfl rfl (eU rfl rfl (Ht rfl) (fun h=>eW A_25 Z_25 (Ht rfl) (i:=1) rfl rfl rfl)) (fX rfl rfl (eU rfl rfl (Ht rfl) (fun h=>cJ K_15 Ej ⟨(fV rfl h),trivial⟩)) (fX rfl rfl (eU rfl rfl (Ht rfl) (fun h=>fB (fV rfl h))) ?_)))))))))))))))
 refine ro rfl (fO (Ht rfl) (fun h=>(fV rfl h))) (rm rfl (fX rfl rfl (eU rfl rfl (Ht rfl) (fun h=>cZ (Ht rfl))) (fX rfl rfl (eU rfl rfl (Ht rfl) (fun h=>dK U_72 (fV rfl h) aA)) (fX rfl rfl (eU rfl rfl (Ht rfl) (fun h=>dF (fV rfl h) (cV 20))) (ro rfl (fO (Ht rfl) (fun h=>(fV rfl h))) (eZ (dX (Ht rfl) (fun hb=>?_) (fun hb=>?_))))))))
 ·refine ts (ro rfl (cJ K_16 lT trivial) (ra rfl (eZ ?_)))
  exact fG rfl (eY rfl)
 ·have hf1 : nQ z s c = true := by
   apply Decidable.byContradiction; intro h
   simp [h] at hb
  have hf2 : nQ zm sm cm = true := by
   apply Decidable.byContradiction; intro h
   simp [h] at hb
  have hll : l.length ≤ 20 := by
   apply Decidable.byContradiction; intro h
   simp [hf1,hf2] at hb; omega
  have hm1:=xL hf1
  have hm2:=xL hf2
  obtain ⟨m1,m2,m3⟩:=oW (z:=z) (s:=s) (c:=c)
  obtain ⟨m4,m5,m6⟩:=xR (z:=z) (s:=s) (c:=c)
  obtain ⟨n1,n2,n3⟩:=oW (z:=zm) (s:=sm) (c:=cm)
  obtain ⟨n4,n5,n6⟩:=xR (z:=zm) (s:=sm) (c:=cm)
  generalize uH z s c = X0 at *
  generalize Ji z s c = X1 at *
  generalize Vv z s c = X2 at *
  generalize uH zm sm cm = Y0 at *
  generalize Ji zm sm cm = Y1 at *
  generalize Vv zm sm cm = Y2 at *
  have h1:=Ni m1 n1 m2 n2 zo zo
  have h2:=Xz m1 n1 m2 n2 zo zo
  have h3:=a5s (l:=l) m1 m2 zo zo
  have h4:=a2Z (l:=l) m1 m2 zo zo
  obtain ⟨a1,a3⟩:=Xh X0 Y0 X1 Y1
  have a2:=(Xh X0 Y0 X2 Y2).1
  obtain ⟨b1,b3⟩:=Wz X0 X1 l
  have b2:=(Wz X0 X2 l).1
  have i1:=a4E (L:=2) (a2m m4 n4) (Qf (z:=X0) (zb:=Y0) m5 n5 (by decide)) (Qf (z:=X0) (zb:=Y0) m6 n6 (by decide)) (by decide) (by decide) a1 a2 zo
  have i2:=a4E (z:=rA X0 l) (s:=nM X0 X1 l) (c:=nM X0 X2 l) (L:=2) (yX (Qk m4 (by decide))) (nH (Qg m5 (by decide))) (nH (Qg m6 (by decide))) (by decide) (by decide) b1 b2 zo
  refine cY (ts (ro rfl (eW A_25 Z_25 (Ht rfl) (i:=0) rfl rfl rfl) (ro rfl (cJ K_17 hm1 ⟨(Ht rfl),trivial⟩) (rm rfl (ro rfl (dU (Ht rfl) rfl) (ro rfl (dU (Ht rfl) rfl) (ro rfl (dU (Ht rfl) rfl) (rn rfl (eG (Ts:=[Is (.slice none 0 0),Is (.slice none 0 0),Is (.slice none 0 0)]) O_34 rfl (fun V=>aW zd (aW zd (aW zd (aG))))) fun B7=>(rn rfl (eG (Ts:=[Is (.slice none 0 0),Is (.slice none 0 0),Is (.slice none 0 0)]) O_40 rfl (fun V=>aW zd (aW zd (aW zd (aG))))) fun B8=>?_)))))))))
  refine gX Z_34 (Ht rfl) (Ht rfl) rfl (i:=2) rfl (aK rfl) rfl rfl (gX Z_40 (Ht rfl) (Ht rfl) rfl (i:=3) rfl (aK rfl) rfl rfl (ra rfl (eZ (ts (ro rfl (eW A_25 Z_25 (Ht rfl) (i:=1) rfl rfl rfl) (ro rfl (cJ K_17 hm2 ⟨(Ht rfl),trivial⟩) (rm rfl (ro rfl (dU (Ht rfl) rfl) (ro rfl (dU (Ht rfl) rfl) (ro rfl (dU (Ht rfl) rfl) (rn rfl (eG (Ts:=[Is (.slice none 0 0),Is (.slice none 0 0),Is (.slice none 0 0)]) O_34 rfl (fun V=>aW zd (aW zd (aW zd (aG))))) fun B10=>?_)))))))))))
  refine rn rfl (eG (Ts:=[Is (.slice none 0 0),Is (.slice none 0 0),Is (.slice none 0 0)]) O_40 rfl (fun V=>aW zd (aW zd (aW zd (aG))))) fun B11=>gX Z_34 (Ht rfl) (Ht rfl) rfl (i:=4) rfl (aK rfl) rfl rfl (gX Z_40 (Ht rfl) (Ht rfl) rfl (i:=5) rfl (aK rfl) rfl rfl (ra rfl (eZ (cU (bI [0,1,2,3,4,5] rfl (by decide) (dQ (ro rfl (eW A_34 Z_34 (Ht rfl) (i:=2) rfl rfl rfl) (ro rfl (eW A_34 Z_34 (Ht rfl) (i:=4) rfl rfl rfl) ?_))))))))
  refine ro rfl (cJ Tryz.call34 h1 ⟨(Ht rfl),(Ht rfl),trivial⟩) (rm rfl (ro rfl (dU (Ht rfl) rfl) (ro rfl (dU (Ht rfl) rfl) (rn rfl (eG (Ts:=[Is (.slice none 0 0),Is (.slice none 0 0),Is (.slice none 0 0)]) O_34 rfl (fun V=>aW zd (aW zd (aW zd (aG))))) fun B13=>(gX Z_34 (Ht rfl) (Ht rfl) rfl (i:=6) rfl (aK rfl) rfl rfl (ra rfl (eZ (ts (ro rfl (eW A_40 Z_40 (Ht rfl) (i:=3) rfl rfl rfl) (ro rfl (eW A_40 Z_40 (Ht rfl) (i:=5) rfl rfl rfl) ?_))))))))))
  refine ro rfl (cJ Tryz.call35 h2 ⟨(Ht rfl),(Ht rfl),trivial⟩) (rm rfl (ro rfl (dU (Ht rfl) rfl) (ro rfl (dU (Ht rfl) rfl) (rn rfl (eG (Ts:=[Is (.slice none 0 0),Is (.slice none 0 0),Is (.slice none 0 0)]) O_40 rfl (fun V=>aW zd (aW zd (aW zd (aG))))) fun B15=>(gX Z_40 (Ht rfl) (Ht rfl) rfl (i:=7) rfl (aK rfl) rfl rfl (ra rfl (eZ (ts (ro rfl (eW A_34 Z_34 (Ht rfl) (i:=2) rfl rfl rfl) (rm rfl (ro rfl (cJ Tryz.call36 h3 ⟨(Ht rfl),(Ht rfl),trivial⟩) ?_)))))))))))
  refine rm rfl (ro rfl (dU (Ht rfl) rfl) (ro rfl (dU (Ht rfl) rfl) (rn rfl (eG (Ts:=[Is (.slice none 0 0),Is (.slice none 0 0),Is (.slice none 0 0)]) O_34 rfl (fun V=>aW zd (aW zd (aW zd (aG))))) fun B17=>(gX Z_34 (Ht rfl) (Ht rfl) rfl (i:=8) rfl (aK rfl) rfl rfl (ra rfl (eZ (ts (ro rfl (eW A_40 Z_40 (Ht rfl) (i:=3) rfl rfl rfl) (rm rfl (ro rfl (cJ Tryz.call37 h4 ⟨(Ht rfl),(Ht rfl),trivial⟩) (rm rfl (ro rfl (dU (Ht rfl) rfl) ?_))))))))))))
  refine ro rfl (dU (Ht rfl) rfl) (rn rfl (eG (Ts:=[Is (.slice none 0 0),Is (.slice none 0 0),Is (.slice none 0 0)]) O_40 rfl (fun V=>aW zd (aW zd (aW zd (aG))))) fun B19=>(gX Z_40 (Ht rfl) (Ht rfl) rfl (i:=9) rfl (aK rfl) rfl rfl (ra rfl (eZ (cU (bI [0,1,2,3,4,5,6,7,8,9] rfl (by decide) (dQ (rm rfl (rm rfl (fX rfl rfl (eU rfl rfl (Ht rfl) (fun h=>cZ (Ht rfl))) (ro rfl (dM (Ht rfl) (fun h=>(fV rfl h))) ?_)))))))))))
  refine rm rfl (fX rfl rfl (eU rfl rfl (Ht rfl) (fun h=>cZ (Ht rfl))) (fX rfl rfl (eU rfl rfl (Ht rfl) (fun h=>cZ (Ht rfl))) (fX rfl rfl (eU rfl rfl (Ht rfl) (fun h=>iQ (fV rfl h) (fV rfl h))) (ro rfl (dM (Ht rfl) (fun h=>(fV rfl h))) (rm rfl (fX rfl rfl (eU rfl rfl (Ht rfl) (fun h=>eW A_34 Z_34 (Ht rfl) (i:=6) rfl rfl rfl)) (fX rfl rfl (eU rfl rfl (Ht rfl) (fun h=>eW A_40 Z_40 (Ht rfl) (i:=7) rfl rfl rfl)) (fX rfl rfl (eU rfl rfl (Ht rfl) (fun h=>cJ Tryz.call20 i1 ⟨(fV rfl h),(fV rfl h),trivial⟩)) ?_))))))))
  refine ro rfl (dM (Ht rfl) (fun h=>(fV rfl h))) (rm rfl (fX rfl rfl (eU rfl rfl (Ht rfl) (fun h=>cZ (Ht rfl))) (fX rfl rfl (eU rfl rfl (Ht rfl) (fun h=>cZ (Ht rfl))) (fX rfl rfl (eU rfl rfl (Ht rfl) (fun h=>iQ (fV rfl h) (fV rfl h))) (ro rfl (dM (Ht rfl) (fun h=>(fV rfl h))) (rm rfl (fX rfl rfl (eU rfl rfl (Ht rfl) (fun h=>eW A_34 Z_34 (Ht rfl) (i:=8) rfl rfl rfl)) (fX rfl rfl (eU rfl rfl (Ht rfl) (fun h=>eW A_40 Z_40 (Ht rfl) (i:=9) rfl rfl rfl)) (fX rfl rfl (eU rfl rfl (Ht rfl) (fun h=>cJ Tryz.call20 i2 ⟨(fV rfl h),(fV rfl h),trivial⟩)) ?_)))))))))
  refine ro rfl (dM (Ht rfl) (fun h=>(fV rfl h))) (rm rfl (fX rfl rfl (eU rfl rfl (Ht rfl) (fun h=>cJ K_16 lT trivial)) (ro rfl (dM (Ht rfl) (fun h=>(fV rfl h))) (ra rfl (eZ (fG rfl (fZ (eY rfl) ?_)))))))
  exact (dN (by simp))
end
end Go.Proofs.YteohomnhncjcnaaGreat
