/- What functions of the program compute, proved by walks over their code, and the plain mathematics of it; a part of the proof in the last text. -/
import Derived.Test.YteimkhgiekndjaaGreatP04
set_option linter.unusedVariables false
set_option linter.unusedSimpArgs false
set_option maxRecDepth 100000
set_option maxHeartbeats 4000000
namespace Go.Proofs.YteimkhgiekndjaaGreat
section
open Go Go.RowKit
abbrev cpRow (M bs:List (List Qi)) (i:Nat):List Qi:=rw' M i ++ bs.map fun b=>gv b i
def copyM (M bs:List (List Qi)) (n:Nat):List (List Qi):=tab n (cpRow M bs)
theorem copyM_shp {M bs:List (List Qi)} {n m:Nat} (h:Shp M n m):Shp (copyM M bs n) n (m + bs.length):=by
 refine ⟨tab_len _ _,fun r hr=>?_⟩
 obtain ⟨i,hi,rfl⟩:=tab_mem.1 hr
 rw [List.length_append,List.length_map,h.row hi]
theorem copyM_fit {M bs : List (List Qi)} {n L : Nat} (h : FitM M L) (hb : FitM bs L) (hL : 1 ≤ L) : FitM (copyM M bs n) L := fun r hr x hx => by
 obtain ⟨i,hi,rfl⟩:=tab_mem.1 hr
 rcases List.mem_append.1 hx with h1 | h1
 ·exact h.row i x h1
 ·obtain ⟨b, hb1, rfl⟩ := List.mem_map.1 h1
  exact FitL.get (hb b hb1) hL i
def subS (U : List (List Qi)) (x : List Qi) (n c : Nat) : Nat → Qi
 | 0=>gm U c n
 | k + 1=>subS U x n c k - gm U c (c + 1 + k) * gv x (c + 1 + k)
def bkS (U : List (List Qi)) (n : Nat) : Nat → List Qi
 | 0=>tab n fun _=>Qi.zero
 | j + 1=>(bkS U n j).set (n - (j + 1)) (subS U (bkS U n j) n (n - (j + 1)) j / gm U (n - (j + 1)) (n - (j + 1)))
theorem bkS_len (U : List (List Qi)) (n : Nat) : ∀ j, (bkS U n j).length = n
 | 0=>tab_len _ _
 | j + 1=>by rw [bkS,List.length_set,bkS_len U n j]
def slvU (M:List (List Qi)) (b:List Qi) (n:Nat):List (List Qi) × Nat × Int:=elimTo (copyM M [b] n) n
def slvE (M:List (List Qi)) (b:List Qi) (n:Nat):Int:=if 0 ≤ (slvU M b n).2.2 then 6 else 0
def slvX (M:List (List Qi)) (b:List Qi) (n:Nat):List Qi:=bkS (slvU M b n).1 n n
theorem elim_diag {M : List (List Qi)} {n m : Nat} (hs : Shp M n m) : ∀ {c : Nat}, c ≤ n → (elimTo M c).2.2 < 0 → ∀ i, i < c → gm (elimTo M c).1 i i ≠ Qi.zero
 | 0,_,_,i,hi=>by omega
 | c + 1, hc, hst, i, hi => by
  have sh:=elim_shp hs (c:=c) (by omega)
  obtain ⟨_,i2,i3,i4⟩:=pv_spec (M:=(elimTo M c).1) (c:=c) (n:=M.length) (by rw [hs.1]; omega)
  simp only [elimTo] at hst ⊢
  split at hst
  ·rename_i h0; omega
  ·rename_i h0
   rw [if_neg h0]
   split at hst
   ·simp at hst; omega
   ·rename_i h1
    rw [if_neg h1]
    have ih:=elim_diag hs (c:=c) (by omega) (by omega)
    have hl : ∀ X : List (List Qi), X.length = n → gm (redM X c M.length) i i = gm X i i := fun X hX => by
     show gv (rw' (redM X c M.length) i) i = _
     rw [redM_at (by omega) (by omega)]
    by_cases e:pv (elimTo M c).1 c M.length = c
    ·rw [if_pos e, hl _ sh.1]
     by_cases e2:i = c
     ·rw [e2]; have:=i4 (by have:=hs.1; omega); rw [e] at this; exact this
     ·exact ih i (by omega)
    ·have hpl : pv (elimTo M c).1 c M.length < n := by rw [← hs.1]; omega
     rw [if_neg e,hl _ ((swp_len _ _ _ _).trans sh.1)]
     by_cases e2:i = c
     ·rw [e2]
      show gv (rw' (swp [] _ _ c) c) c ≠ _
      rw [swp_at (by rw [sh.1]; omega)]
      exact i4 (by have:=hs.1; omega)
     ·have : rw' (swp [] (elimTo M c).1 (pv (elimTo M c).1 c M.length) c) i = rw' (elimTo M c).1 i := by
       simp only [rw',swp,List.getD]
       rw [List.getElem?_set_ne (Ne.symm e2),List.getElem?_set_ne (by omega)]
      show gv (rw' (swp [] _ _ c) i) i ≠ _
      rw [this]; exact ih i (by omega)
def unitR (n i:Nat):List Qi:=(tab n fun _=>Qi.zero).set i (Qi.ofInt 1)
def idM (n:Nat):List (List Qi):=tab n (unitR n)
theorem idM_shp (n:Nat):Shp (idM n) n n:=⟨tab_len _ _,fun r hr=>by obtain ⟨i,_,rfl⟩:=tab_mem.1 hr; rw [unitR,List.length_set,tab_len]⟩
theorem fit_one:FitC (Qi.ofInt 1) 1:=⟨Qi.Fit.int (L:=1) (by decide) (by decide)⟩
theorem unitR_fit {n i L : Nat} (h : 1 ≤ L) : FitL (unitR n i) L := fun x hx => by
 rcases List.mem_or_eq_of_mem_set hx with h1 | h1
 ·obtain ⟨_,_,rfl⟩:=tab_mem.1 h1; exact FitC.zero h
 ·rw [h1]; exact fit_one.le h
theorem idM_fit {n L:Nat} (h:1 ≤ L):FitM (idM n) L:=fun r hr=>by obtain ⟨i,_,rfl⟩:=tab_mem.1 hr; exact unitR_fit h
theorem tab_rep (F:Qi → Ty) (n:Nat):List.replicate n (F Qi.zero) = (tab n fun _=>Qi.zero).map F:=by rw [tab_map,rep_tab]
end
section
open Go Go.RowKit
abbrev ek (n k:Nat):List Qi:=(idM n).getD k []
theorem ek_fit {n k L:Nat} (h:1 ≤ L):FitL (ek n k) L:=(idM_fit h).row k
theorem tab_getD {α:Type} {n i:Nat} {f:Nat → α} {d:α} (h:i < n):(tab n f).getD i d = f i:=by simp [List.getD,tab_get h]
end
section
open Go Go.RowKit
section
variable {P:Program} {R:Post} {cx:Cx} {n:Nat} {k:List It} {E:Env} {H:Hp}
theorem T_frzcellG (i l off : Nat) {B : Nat} {BT : TypeId} {Us : List Ty} {v : Value} {A : SA} {T : Ty} (hB : H[i]? = some (box B BT Us)) (hU : Us[off]? = some (Is v)) (hL : H[l]? = some A) (hne : i ≠ l) (hT : ∀ S V, A.h S V V → T.p v V)
  (h:Tr P R cx n k E ((H.set l SA.emp).set i (box B BT (Us.set off T)))):Tr P R cx n k E H:=fun a w ⟨V,hi,hs⟩=>by
 obtain ⟨V',S,hle,hi',hA⟩:=hi.freeze hL
 have hT:=hT S V' hA
 refine h a w ⟨V',hi'.withHH ?_,hs.mono hle⟩
 obtain ⟨F,h1,h2⟩:=hi'.hp
 have hB':(H.set l SA.emp)[i]? = some (box B BT Us):=by rw [List.getElem?_set_ne (Ne.symm hne)]; exact hB
 have hil:=(List.getElem?_eq_some_iff.1 hB').1
 refine ⟨F,fun q A hq=>?_,fun q r b hq hr=>h2 q r b (by simpa using hq) (by simpa using hr)⟩
 by_cases c:i = q
 ·subst c
  rw [List.getElem?_set_self hil] at hq
  obtain rfl:=Option.some.inj hq
  obtain ⟨⟨k1,cs,k2,k3⟩,k4⟩:=h1 i _ hB'
  obtain ⟨u,u1,u2⟩:=k3.get hU
  obtain rfl:u = v:=u2
  have hset : cs.set off u = cs := by
   apply List.ext_getElem?
   intro j
   by_cases cj:off = j
   ·subst cj; rw [List.getElem?_set_self (List.getElem?_eq_some_iff.1 u1).1,u1]
   ·rw [List.getElem?_set_ne cj]
  refine ⟨⟨k1,cs,k2,?_⟩,k4⟩
  have:=k3.set off (v:=u) hT (k3.pl u (List.mem_of_getElem? u1))
  rwa [hset] at this
 ·rw [List.getElem?_set_ne c] at hq
  exact h1 q A hq
theorem frzM {B e l : Nat} {BT : TypeId} {F : Qi → Ty} {q : Value → Prop} {M : List (List Qi)} (hl : l = M.length) : ∀ S V, (matP q B BT e 5 (FRow F M)).h S V V → (SlT 1 (M.map fun r => SlT 5 (r.map F))).p (.slice (some ⟨B, 0, none⟩) l l) V := fun S V h =>
 frz_matF (s:=5) (M:=M) hl _ S V rfl h
end
def skp (p i:Nat):Nat:=if i < p then i else i + 1
abbrev IntsT (l:List Nat):Ty:=SlT 1 (l.map (NT .i64))
def lftL (p n:Nat):List Nat:=tab n fun j=>skp p j + 1
def cnt (p i:Nat):Nat:=if i ≤ p then i else i - 1
theorem cnt_fin {p n:Nat} (h:p < n):cnt p n = n - 1:=by unfold cnt; split <;> omega
theorem skp_lt {p i n:Nat} (h:i < n - 1) (hp:p < n):skp p i < n:=by unfold skp; split <;> omega
theorem lft_get {p n j:Nat} (h:j < n):(lftL p n)[j]? = some (skp p j + 1):=tab_get h
def prtZ (z:List Qi) (p m:Nat):List Qi:=tab m fun i=>gv z (skp p i)
def prtS (s:List (List Qi)) (p m:Nat):List (List Qi):=tab m fun i=>tab m fun j=>gm s (skp p i) (skp p j)
def trmX (s:List (List Qi)) (p:Nat) (f:Qi) (i j:Nat):Qi:=gm s (skp p i) (skp p j) + gm s (skp p i) p * (f * gm s p (skp p j))
def trmS (s:List (List Qi)) (p m:Nat) (f:Qi):List (List Qi):=tab m fun i=>tab m fun j=>trmX s p f i j
def trmF (s:List (List Qi)) (p:Nat) (g:Qi):Qi:=g / (Qi.ofInt 1 - gm s p p * g)
def trmE (z : List Qi) (s : List (List Qi)) (port : Int) (g : Qi) : Int :=
 if ¬ (1 ≤ port ∧ port ≤ z.length) then 1 else if z.length = 1 then 4 else if Qi.ofInt 1 - gm s (port - 1).toNat (port - 1).toNat * g = Qi.zero then 6 else 0
def trmRZ (z:List Qi) (s:List (List Qi)) (port:Int) (g:Qi):List Qi:=okL (trmE z s port g) (prtZ z (port - 1).toNat (z.length - 1))
def trmRS (z:List Qi) (s:List (List Qi)) (port:Int) (g:Qi):List (List Qi):=okL (trmE z s port g) (trmS s (port - 1).toNat (z.length - 1) (trmF s (port - 1).toNat g))
theorem trm_bad {z:List Qi} {s:List (List Qi)} {port:Int} {g:Qi} {e:Int} (h:trmE z s port g = e) (he:e ≠ 0):∀ v V,(NetT [] []).p v V → (NetT (trmRZ z s port g) (trmRS z s port g)).p v V:=by
 rw [trmRZ,trmRS,okL,okL,h,if_neg he,if_neg he]; exact fun _ _ k=>k
theorem trm_p (p:Nat):((p:Int) + 1 - 1).toNat = p:=by omega
theorem trm_good {z:List Qi} {s:List (List Qi)} {p:Nat} {g:Qi} (h:trmE z s ((p:Int) + 1) g = 0):∀ v V,(NetT (prtZ z p (z.length - 1)) (trmS s p (z.length - 1) (trmF s p g))).p v V → (NetT (trmRZ z s ((p:Int) + 1) g) (trmRS z s ((p:Int) + 1) g)).p v V:=by
 rw [trmRZ,trmRS,okL,okL,h,if_pos rfl,if_pos rfl,trm_p]; exact fun _ _ k=>k
theorem trmE_1 {z:List Qi} {s:List (List Qi)} {port:Int} {g:Qi} (h:¬ (1 ≤ port ∧ port ≤ z.length)):trmE z s port g = 1:=by rw [trmE,if_pos h]
theorem trmE_4 {z:List Qi} {s:List (List Qi)} {port:Int} {g:Qi} (h:1 ≤ port ∧ port ≤ z.length) (h1:z.length = 1):trmE z s port g = 4:=by rw [trmE,if_neg (fun k=>k h),if_pos h1]
theorem trmE_d {z:List Qi} {s:List (List Qi)} {p:Nat} {g:Qi} (h:p < z.length) (h1:¬ z.length = 1):trmE z s ((p:Int) + 1) g = if Qi.ofInt 1 - gm s p p * g = Qi.zero then 6 else 0:=by
 rw [trmE,if_neg (fun k=>k (by omega)),if_neg h1,trm_p]
theorem trmF_fit {s:List (List Qi)} {p L:Nat} {g:Qi} (hs:FitM s L) (hg:FitC g L) (hL:1 ≤ L) (hd:Qi.ofInt 1 - gm s p p * g ≠ Qi.zero):FitC (trmF s p g) (7 * L + 11):=by
 haveI f0:=fit_one
 haveI f1:=hs.get hL p p
 haveI f2:=hg
 have f3:FitC (Qi.ofInt 1 - gm s p p * g) (1 + (L + L + 1) + 1):=@fitSub _ _ _ _ f0 inferInstance
 have:FitC (trmF s p g) (L + 3 * (1 + (L + L + 1) + 1) + 2):=⟨f2.fit.div f3.fit hd⟩
 exact this.le (by omega)
end
section
open Go Go.RowKit
abbrev gnI (G:List Nat):List Int:=G.map fun (q:Nat)=>(q:Int) + 1
def lfG (G : List Nat) : Nat → List Nat
 | 0=>[]
 | k + 1=>lfG G k ++ (if k ∈ G then [] else [k])
theorem lfG_len (G : List Nat) : ∀ k, (lfG G k).length ≤ k
 | 0=>Nat.le_refl _
 | k + 1 => by
  have:=lfG_len G k
  simp only [lfG,List.length_append]
  split
  ·simp; omega
  ·simp; omega
theorem lfG_lt {G : List Nat} : ∀ {k x : Nat}, x ∈ lfG G k → x < k
 | 0,x,h=>by cases h
 | k + 1, x, h => by
  rcases List.mem_append.1 h with h1 | h1
  ·have:=lfG_lt h1; omega
  ·split at h1
   ·cases h1
   ·have:=List.mem_singleton.1 h1; omega
theorem lfG_one {p : Nat} : ∀ {k : Nat}, lfG [p] k = tab (cnt p k) (skp p)
 | 0=>by rw [lfG,show cnt p 0 = 0 by unfold cnt; split <;> omega]; rfl
 | k + 1 => by
  rw [lfG,lfG_one]
  by_cases c:k = p
  ·subst c
   rw [if_pos (by simp),List.append_nil,show cnt k (k + 1) = cnt k k by unfold cnt; split <;> split <;> omega]
  ·rw [if_neg (by simpa using c)]
   have e1:skp p (cnt p k) = k:=by unfold skp cnt; split <;> split <;> omega
   have e2:cnt p (k + 1) = cnt p k + 1:=by unfold cnt; split <;> split <;> omega
   rw [e2,tab_succ,e1]
theorem lfG_lft {p n:Nat} (h:p < n):(lfG [p] n).map Nat.succ = lftL p (n - 1):=by rw [lfG_one,cnt_fin h,tab_map]; rfl
theorem gn_any {G:List Nat} {i:Nat}:((gnI G).any fun x=>decide (((i + 1:Nat):Int) = x)) = decide (i ∈ G):=by
 rw [Bool.eq_iff_iff]
 simp only [gnI,List.any_map,List.any_eq_true,Function.comp,decide_eq_true_eq]
 constructor
 ·rintro ⟨q, h1, h2⟩
  obtain rfl:i = q:=by omega
  exact h1
 ·intro h; exact ⟨i,h,by omega⟩
abbrev qat (Q:List Nat) (i:Nat):Nat:=Q.getD i 0
def subZ (z:List Qi) (Q:List Nat):List Qi:=tab Q.length fun i=>gv z (qat Q i)
def subM (s:List (List Qi)) (Q:List Nat):List (List Qi):=tab Q.length fun i=>tab Q.length fun j=>gm s (qat Q i) (qat Q j)
theorem qat_lt {Q:List Nat} {n i:Nat} (h:∀ x,x ∈ Q → x < n) (hi:i < Q.length):qat Q i < n:=h _ (by rw [show qat Q i = Q[i] by simp [qat,List.getD,hi]]; exact List.getElem_mem hi)
theorem suc_get {Q:List Nat} {i:Nat} (h:i < Q.length):(Q.map Nat.succ)[i]? = some (qat Q i + 1):=by simp [qat,List.getD,h]
theorem tabQ_get {m i:Nat} {p:Nat} (h:i < m):qat (tab m (skp p)) i = skp p i:=tab_getD h
theorem subZ_skp (z:List Qi) (p m:Nat):subZ z (tab m (skp p)) = prtZ z p m:=by
 rw [subZ,tab_len]; exact tab_congr fun i hi=>by rw [tabQ_get hi]
theorem subM_skp (s:List (List Qi)) (p m:Nat):subM s (tab m (skp p)) = prtS s p m:=by
 rw [subM,tab_len]; exact tab_congr fun i hi=>tab_congr fun j hj=>by rw [tabQ_get hi,tabQ_get hj]
theorem skp_all {p m n : Nat} (hp : p < n) (hm : m = n - 1) : ∀ x, x ∈ tab m (skp p) → x < n := fun x hx => by
 obtain ⟨i,hi,rfl⟩:=tab_mem.1 hx; exact skp_lt (by omega) hp
theorem lft_skp (p m:Nat):(tab m (skp p)).map Nat.succ = lftL p m:=by rw [tab_map]; rfl
end
section
open Go Go.RowKit
theorem info_3:Tryz.prog.info? 3 = some Tryz.t3:=by kernel_rfl
theorem und_69:Tryz.prog.underlying 69 = some (.slice 3):=by kernel_rfl
end
section
open Go Go.RowKit
theorem c_IndexInt {l:List Int} {v:Int} (hl:l.length ≤ 1000000):Fun Tryz.prog 242 [SlT 1 (l.map (IntT .i64)),IntT .i64 v] (IntT .i64 (idxZ (fun x=>decide (v = x)) l)):=by
 refine Fun.intro Tryz.func242 rfl Tryz.ntmps242 rfl (fun cx=>(ts (ro rfl (cQ (cJ 0)) (eX (cK (ts (rm rfl (ro rfl (dG U_69 (Ht rfl) len_map) (ro rfl (cX (cJ 0)) (eX (eG ?_)))))))))))
 refine T_loop (fun (k : Nat) => k ≤ l.length ∧ ∀ (i : Nat) (x : Int), i < k → l[i]? = some x → decide (v = x) = false) (fun (k : Nat) => l.length - k) (fun (k : Nat) => [(0, SlT 1 (l.map (IntT .i64))), (1, IntT .i64 v), (7, NT .i64 l.length), (8, NT .i64 k)]) (fun (k : Nat) => []) 0 ⟨Nat.zero_le _, fun i x h => by omega⟩
  (aQ rfl (aQ rfl (aQ rfl (aQ rfl aX)))) aY (fun k ⟨hk,hn⟩=>?_)
 refine ts (ro rfl (gX (Ht rfl) (Ht rfl)) (eX (cK (dQ (Ht rfl) (fun hb=>?_) (fun hb=>?_)))))
 ·simp only [decide_eq_true_eq] at hb
  refine cU (cK (eG (ts (rm rfl (ra rfl (eX (ts (rm rfl (rm rfl (rm rfl (ro rfl (dZ U_69 Z_3 (Ht rfl) (Ht rfl) rfl (dY (getq hb))) (ro rfl (dJ A_3 Z_3 (Ht rfl)) (ro rfl (op_eql (Ht rfl) (Ht rfl)) (eX (dQ (Ht rfl) (fun hc=>?_) (fun hc=>?_))))))))))))))))
  ·refine ts (rm rfl (ra rfl (eX (fW rfl (fX (eU rfl) ?_)))))
   exact (int_of (idxZ_at (p:=fun x=>decide (v = x)) (getq hb) hc hn).symm)
  ·refine cU (T_blk (cY (ro rfl (dV (Ht rfl) (cJ 1) (by show _ < 9223372036854775808; first | omega | (simp only [lim]; omega))) (rm rfl (eX ?_)))))
   refine fU (k + 1) ⟨hb, fun i x h1 h2 => by
    by_cases e:i = k
    ·subst e; rw [getq hb] at h2; obtain rfl:=Option.some.inj h2; exact hc
    ·exact hn i x (by omega) h2⟩ (by omega) (aQ rfl (aQ rfl (aQ rfl (aQ rfl aX)))) aY
 ·simp only [decide_eq_false_iff_not] at hb
  refine gV rfl (ts (ro rfl (cQ cV) (eX (fW rfl (fX (eU rfl) ?_)))))
  exact (int_of (idxZ_none (p:=fun x=>decide (v = x)) (fun i x h=>hn i x (by have:=(List.getElem?_eq_some_iff.1 h).1; omega) h)).symm)
theorem c_ContainsInt {l:List Int} {v:Int} (hl:l.length ≤ 1000000):Fun Tryz.prog 178 [SlT 1 (l.map (IntT .i64)),IntT .i64 v] (BoolT (l.any fun x=>decide (v = x))):=by
 refine Fun.intro Tryz.func178 rfl Tryz.ntmps178 rfl (fun cx=>(ts (ro rfl (cQ cV) (eX (ts (rm rfl (rm rfl (ro rfl (cZ Tryz.call242 (c_IndexInt (by omega)) ⟨(Ht rfl),(Ht rfl),trivial⟩) (ro rfl (op_geq (Ht rfl) cV) (ra rfl (eX (fW rfl (fX (eU rfl) ?_)))))))))))))
 exact (bool_of (idxZ_any _ l))
theorem c_leftG {z:List Qi} {s:List (List Qi)} {G:List Nat} (hl:z.length ≤ 1000) (hG:G.length ≤ 1000):Fun Tryz.prog 112 [NetT z s,SlT 1 ((gnI G).map (IntT .i64))] (IntsT ((lfG G z.length).map Nat.succ)):=by
 refine Fun.intro Tryz.func112 rfl Tryz.ntmps112 rfl (fun cx=>(ts (rn rfl (fG (Ht rfl)) fun B2=>(ro rfl (cQ cV) (eX (ts (ro rfl (cQ cV) (eX (cK (ts (ro rfl (cQ (cJ 1)) (eX (eG (T_row 3 1 ?_))))))))))))))
 refine T_loop2 (fun (i : Nat) (v : Value) => i ≤ z.length) (fun (i : Nat) (v : Value) => z.length - i) (fun (i : Nat) (v : Value) => [(1, SlT 1 ((gnI G).map (IntT .i64))), (2, PtrB B2 0), (5, Is v), (6, NT .i64 (i + 1))]) (fun (i : Nat) (v : Value) => [box B2 30 [NumsT z, NumM s], rowO 3 1 v (((lfG G i).map Nat.succ).map (NT .i64))]) 0 (.slice none 0 0) (Nat.zero_le _)
  (aQ rfl (aQ rfl (aQ rfl (aQ rfl aX)))) (aU (box_of rfl) (aU (rowO_of rfl) aY)) (fun i v hi=>?_)
 refine cK (ts (rm rfl (ro rfl (eZ fa_30_0 (Ht rfl) rfl) (ro rfl (eY A_27 Z_27 (Ht rfl) (i:=0) rfl rfl) (ro rfl (dG U_27 (Ht rfl) len_map) (ro rfl (op_leqN (Ht rfl) (Ht rfl)) (eX (dQ (Ht rfl) (fun hd=>?_) (fun hd=>?_)))))))))
 ·simp only [decide_eq_true_eq] at hd
  have hcl:=lfG_len G i
  refine cU (cK (eG (T_join (fun (v2:Value)=>True) (fun (v2:Value)=>[(1,SlT 1 ((gnI G).map (IntT .i64))),(2,PtrB B2 0),(5,Is v2),(6,NT .i64 (i + 1))]) (fun (v2:Value)=>[box B2 30 [NumsT z,NumM s],rowO 3 1 v2 (((lfG G (i + 1)).map Nat.succ).map (NT .i64))]) ?_ (fun v2 _=>?_))))
  ·refine ts (rm rfl (rm rfl (ro rfl (cZ Tryz.call178 (c_ContainsInt (l := gnI G) (v := ((i + 1 : Nat) : Int)) (by rw [List.length_map]; omega)) ⟨(Ht rfl), (Ht rfl), trivial⟩) ?_)))
   refine ro rfl (op_not (Ht rfl)) (eX (dQ (Ht rfl) (fun he=>?_) (fun he=>?_)))
   ·rw [gn_any] at he
    have he2:i ∉ G:=by simpa using he
    have hnx:lfG G (i + 1) = lfG G i ++ [i]:=by rw [lfG,if_neg he2]
    refine cY (rm rfl (rm rfl (ro rfl (op_bslice (xs:=[.tmp 19]) U_69 Z_3 O_3 (cW (Ht rfl) cG) rfl rfl rfl) (R_append (inf:=Tryz.t3) und_69 info_3 rfl rfl rfl (Ht rfl) (Ht rfl) (i:=1) rfl (by simp) (fun T hT=>by simp at hT; subst hT; exact El.one) (by show _ * 8 ≤ _; simp only [List.length_map,List.length_cons,List.length_nil]; omega) (by simp only [List.length_map,List.length_cons,List.length_nil]; omega) rfl (fun v3=>?_)))))
    refine ra rfl (eX (T_joined v3 trivial (aQ rfl (aQ rfl (aQ rfl (aQ rfl aX)))) (aU (box_of rfl) (aU (rowO_of (by rw [hnx,List.map_append,List.map_append]; rfl)) aY))))
   ·rw [gn_any] at he
    have he2:i ∈ G:=by simpa using he
    have hnx:lfG G (i + 1) = lfG G i:=by rw [lfG,if_pos he2,List.append_nil]
    refine cU (T_joined v trivial (aQ rfl (aQ rfl (aQ rfl (aQ rfl aX)))) (aU (box_of rfl) (aU (rowO_of (by rw [hnx])) aY)))
  ·refine T_blk (cY (rm rfl (ro rfl (dV (Ht rfl) (cJ 1) (by show _ < 9223372036854775808; first | omega | (simp only [lim]; omega))) (ra rfl (eX (fU (i + 1,v2) hd (by dsimp only; omega) (aQ rfl (aQ rfl (aQ rfl (aQ rfl aX)))) (HSub.refl _)))))))
 ·simp only [decide_eq_false_iff_not] at hd
  obtain rfl:z.length = i:=Nat.le_antisymm (by omega) hi
  refine gV rfl (gJ (i:=1) (tt:=5) rfl rfl frz_row (ts (rm rfl (ra rfl (eX ?_)))))
  exact fW rfl (eU rfl)
theorem c_left {z:List Qi} {s:List (List Qi)} {p:Nat} (hp:p < z.length) (hl:z.length ≤ 1000):Fun Tryz.prog 112 [NetT z s,SlT 1 [IntT .i64 ((p:Int) + 1)]] (IntsT (lftL p (z.length - 1))):=by
 rw [← lfG_lft hp]; exact c_leftG (G:=[p]) hl (by simp)
theorem c_part1 {z:List Qi} {s:List (List Qi)} {Q:List Nat} {m:Nat} (hs:Shp s z.length z.length) (hQ:∀ x,x ∈ Q → x < z.length) (hm:Q.length = m) (hm2:m ≤ 1000) (hl:z.length ≤ 1000) {i j:Nat} (hi:i < m) (hj:j < m):Fun Tryz.prog 210 [NT .i64 i,NT .i64 j,PT (NetT z s),PT (IntsT (Q.map Nat.succ))] (NumT (gm s (qat Q i) (qat Q j))):=by
 have hki:qat Q i < z.length:=qat_lt hQ (by omega)
 have hkj:qat Q j < z.length:=qat_lt hQ (by omega)
 have hsl:=hs.1
 have hsr:=hs.row hki
 refine Fun.intro Tryz.func210 rfl Tryz.ntmps210 rfl (fun cx=>(ts (rn rfl (eW (Ts:=[Is (.bool false),Is (.slice none 0 0),Is (.bool false),Is (.slice none 0 0),Is (.slice none 0 0)]) O_45 rfl (fun V=>aW ⟨rfl,trivial⟩ (aW ⟨rfl,trivial⟩ (aW ⟨rfl,trivial⟩ (aW ⟨rfl,trivial⟩ (aW ⟨rfl,trivial⟩ (aG))))))) fun B6=>(eX (cK (fZ (m:=14) (dp 2 rfl (op_fld1 fa_30_1 (Ht rfl) rfl) (dq 7 0 rfl (dJ A_28 Z_28 (Ht rfl)) (dp 3 rfl (dJ A_69 Z_69 (Ht rfl)) (dp 0 rfl (cX (Ht rfl)) ?_))))))))))
 refine dqq 9 2 10 3 rfl (dZ U_69 Z_3 (Ht rfl) (Ht rfl) rfl (dY (suc_get (by omega)))) (dq 11 4 rfl (dJ A_3 Z_3 (Ht rfl)) (dq 12 5 rfl (OpTy.nat (dW (Ht rfl) (cJ 1) (by omega) (by show _ < 9223372036854775808; first | omega | (simp only [lim]; omega))) (show qat Q i + 1 - 1 = qat Q i by omega)) (dqq 8 1 13 6 rfl (dZ U_28 Z_27 (Ht rfl) (Ht rfl) rfl (dY (dU (d:=[]) (by omega)))) (dq 14 7 rfl (dJ A_27 Z_27 (Ht rfl)) (dp 3 rfl (dJ A_69 Z_69 (Ht rfl)) ?_)))))
 refine dp 1 rfl (cX (Ht rfl)) (dqq 16 9 17 10 rfl (dZ U_69 Z_3 (Ht rfl) (Ht rfl) rfl (dY (suc_get (by omega)))) (dq 18 11 rfl (dJ A_3 Z_3 (Ht rfl)) (dq 19 12 rfl (OpTy.nat (dW (Ht rfl) (cJ 1) (by omega) (by show _ < 9223372036854775808; first | omega | (simp only [lim]; omega))) (show qat Q j + 1 - 1 = qat Q j by omega)) (fV mixed rfl (by kernel_rfl) (aJ (aJ (aJ (aJ (aJ (aJ (aJ (aJ (aJ (aJ (aJ (aJ (aJ (aJ (aV (ro rfl (dZ U_27 Z_45 (Ht rfl) (Ht rfl) rfl (dY (dU (d:=Qi.zero) (by omega)))) ?_))))))))))))))))))))
 refine ro rfl (dJ A_45 Z_45 (Ht rfl)) (gQ Z_45 (Ht rfl) (Ht rfl) rfl (i:=0) rfl (aK rfl) rfl rfl (eX ?_))
 exact fW rfl (fK A_45 Z_45 rfl (i:=0) rfl rfl)
theorem c_partG {z:List Qi} {s:List (List Qi)} {Q:List Nat} {m:Nat} (hs:Shp s z.length z.length) (hQ:∀ x,x ∈ Q → x < z.length) (hm:Q.length = m) (hm2:m ≤ 1000) (hl:z.length ≤ 1000):FunO Tryz.prog 111 [NetT z s,IntsT (Q.map Nat.succ)] [] (Nat) (fun B=>AggT [NumsT (subZ z Q),Is (.slice (some ⟨B,0,none⟩) m m)]) (fun B=>[matO B 27 45 5 (FRow NumT (subM s Q))]) (fun _=>True):=by
 have hll:(Q.map Nat.succ).length = m:=by rw [List.length_map]; exact hm
 refine FunO.intro Tryz.func111 rfl Tryz.ntmps111 rfl (fun cx Z=>(ts (rn rfl (fG (Ht rfl)) fun B2=>(rn rfl (new_box1 (Ht rfl)) fun B3=>(rn rfl (eW (Ts:=[Is (.slice none 0 0),Is (.slice none 0 0)]) O_30 rfl (fun V=>aW ⟨rfl,trivial⟩ (aW ⟨rfl,trivial⟩ (aG)))) fun B4=>(eX (cK (gJ (i:=1) (tt:=2) rfl rfl frz_ptr (gJ (i:=2) (tt:=3) rfl rfl frz_ptr1 (cY (ro rfl (dJ A_69 Z_69 (Ht rfl)) (ro rfl (dG U_69 (Ht rfl) (by rw [List.length_map,hll])) ?_))))))))))))
 refine rn rfl (new_makeO (T:=NumT Qi.zero) (i:=Tryz.t45) und_27 info_45 rfl rfl (Ht rfl) rfl num_zero_p (El.ag rfl) (by show 88 * _ ≤ _; omega) (by omega)) fun B10=>ra rfl (eX (cK (ts (ro rfl (dJ A_69 Z_69 (Ht rfl)) (ro rfl (dG U_69 (Ht rfl) (by rw [List.length_map,hll])) ?_)))))
 refine ro rfl (cX (cJ 0)) (eX (eG (T_keep [0,3,4] rfl (by decide) ?_)))
 refine T_loop (fun (i : Nat) => i ≤ m) (fun (i : Nat) => m - i) (fun (i : Nat) => [(2, PT (NetT z s)), (3, PT (IntsT (Q.map Nat.succ))), (4, PtrB B4 0), (5, Is B10), (11, IntsT (Q.map Nat.succ)), (12, NT .i64 m), (13, NT .i64 i)]) (fun (i : Nat) => [Z, box B4 30 [Is (.slice none 0 0), Is (.slice none 0 0)], rowO 45 5 B10 ((mixT (fun i => gv z (qat Q i)) Qi.zero m i).map NumT)]) 0 (Nat.zero_le _)
  (aQ rfl (aQ rfl (aQ rfl (aQ rfl (aQ rfl (aQ rfl (aQ rfl aX))))))) (aU (fun _ _ _ h=>h) (aU (fun _ _ _ h=>h) (aU (rowO_of (by rw [← mix_zero]; exact tab_rep NumT m)) aY))) (fun i hi=>?_)
 refine ts (ro rfl (gX (Ht rfl) (Ht rfl)) (eX (cK (dQ (Ht rfl) (fun hd=>?_) (fun hd=>?_)))))
 ·simp only [decide_eq_true_eq] at hd
  have hki:qat Q i < z.length:=qat_lt hQ (by omega)
  refine cU (cK (eG (ts (rm rfl (ro rfl (dZ U_69 Z_3 (Ht rfl) (Ht rfl) rfl (dY (suc_get (by omega)))) (ro rfl (dJ A_3 Z_3 (Ht rfl)) (ra rfl (ra rfl (eX (cY (rm rfl (rm rfl (ro rfl (op_fld1 fa_30_0 (Ht rfl) rfl) (ro rfl (dJ A_27 Z_27 (Ht rfl)) (rm rfl (ro rfl (OpTy.nat (dW (Ht rfl) (cJ 1) (by omega) (by show _ < 9223372036854775808; first | omega | (simp only [lim]; omega))) (show qat Q i + 1 - 1 = qat Q i by omega)) (ro rfl (dZ U_27 Z_45 (Ht rfl) (Ht rfl) rfl (dY (dU (d:=Qi.zero) hki))) ?_)))))))))))))))))
  refine ro rfl (dJ A_45 Z_45 (Ht rfl)) (ro rfl (op_idxO U_27 Z_45 (Ht rfl) (Ht rfl) rfl (i:=2) rfl (by rw [List.length_map,mix_len]; omega) rfl) ?_)
  refine R_stO Z_45 (Ht rfl) (Ht rfl) (El.ag rfl) (i:=2) rfl rfl (by rw [List.length_map,mix_len]; omega) rfl ?_
  refine eX (T_blk (cY (ro rfl (dV (Ht rfl) (cJ 1) (by show _ < 9223372036854775808; first | omega | (simp only [lim]; omega))) (rm rfl (eX (fU (i + 1) hd (by omega) (aQ rfl (aQ rfl (aQ rfl (aQ rfl (aQ rfl (aQ rfl (aQ rfl aX))))))) (aU (fun _ _ _ h=>h) (aU (fun _ _ _ h=>h) (aU (rowO_of (by rw [set_mapF,← mix_set (f:=(fun i=>gv z (qat Q i)))])) aY)))))))))
 ·simp only [decide_eq_false_iff_not] at hd
  obtain rfl:m = i:=Nat.le_antisymm (by omega) hi
  rw [mix_fin]
  refine gV rfl (gJ (i:=2) (tt:=5) rfl rfl frz_row ?_)
  rw [show subZ z Q = tab m fun i=>gv z (qat Q i) from by rw [subZ,hm],show subM s Q = tab m fun i=>tab m fun j=>gm s (qat Q i) (qat Q j) from by rw [subM,hm]]
  refine ts (rm rfl (ro rfl (dJ A_69 Z_69 (Ht rfl)) (ro rfl (dG U_69 (Ht rfl) (by rw [List.length_map,hll])) ?_)))
  refine ro rfl (op_clos (γ:=Fin m × Fin m) (Ts:=fun x=>[NT .i64 x.1.1,NT .i64 x.2.1]) (U:=fun x=>NumT (gm s (qat Q x.1.1) (qat Q x.2.1))) Tryz.call210 (fun x=>c_part1 hs hQ hm hm2 hl x.1.2 x.2.2) ⟨(Ht rfl),(Ht rfl),trivial⟩) (R_call0 Tryz.call119 (c_fillO (n:=m) (f:=fun i j=>gm s (qat Q i) (qat Q j)) (by omega)) ⟨(Ht rfl),(Ht rfl),trivial⟩ rfl (fun B32 _=>(ro rfl (bld_30_0_1 (Ht rfl) (Ht rfl)) (gQ Z_30 (Ht rfl) (Ht rfl) rfl (i:=1) rfl (aK rfl) rfl rfl (eX ?_)))))
  exact T_retO B32 trivial [0,3] ⟨⟨_,rfl,fun _ _ _ h=>h⟩,⟨_,rfl,fun _ _ _ h=>h⟩,trivial⟩ (by decide) (rvs1 rfl (fK A_30 Z_30 rfl (i:=1) rfl rfl))
theorem c_partO {z:List Qi} {s:List (List Qi)} {p m:Nat} (hs:Shp s z.length z.length) (hp:p < z.length) (hm:m = z.length - 1) (hl:z.length ≤ 1000):FunO Tryz.prog 111 [NetT z s,IntsT (lftL p m)] [] Nat (fun B=>AggT [NumsT (prtZ z p m),Is (.slice (some ⟨B,0,none⟩) m m)]) (fun B=>[matO B 27 45 5 (FRow NumT (prtS s p m))]) (fun _=>True):=by
 have h:=c_partG (Q:=tab m (skp p)) hs (skp_all hp hm) (tab_len _ _) (by omega) hl
 rw [subZ_skp,subM_skp,lft_skp] at h
 exact h
theorem c_whole {n:Int} (h1:-9223372036854775808 ≤ n) (h2:n ≤ 9223372036854775807):Fun Tryz.prog 121 [IntT .i64 n] (NumT (Qi.ofInt n)):=by
 refine Fun.intro Tryz.func121 rfl Tryz.ntmps121 rfl (fun cx=>(ts (rn rfl (eW (Ts:=[Is (.bool false),Is (.slice none 0 0),Is (.bool false),Is (.slice none 0 0),Is (.slice none 0 0)]) O_45 rfl (fun V=>aW ⟨rfl,trivial⟩ (aW ⟨rfl,trivial⟩ (aW ⟨rfl,trivial⟩ (aW ⟨rfl,trivial⟩ (aW ⟨rfl,trivial⟩ (aG))))))) fun B2=>(eX (ts (rn rfl (eW (Ts:=[Is (.bool false),Is (.slice none 0 0),Is (.bool false),Is (.slice none 0 0),Is (.slice none 0 0)]) O_45 rfl (fun V=>aW ⟨rfl,trivial⟩ (aW ⟨rfl,trivial⟩ (aW ⟨rfl,trivial⟩ (aW ⟨rfl,trivial⟩ (aW ⟨rfl,trivial⟩ (aG))))))) fun B3=>?_))))))
 refine eX (cK (fZ (m:=4) (dp 3 rfl (eJ A_45 Z_45 (Ht rfl) (i:=1) rfl rfl rfl) (dq 4 0 rfl (op_iface mkif_45 (Ht rfl)) (dp 0 rfl (cX (Ht rfl)) (dq 6 2 rfl (cZ K_86 (c_Int (n:=n) h1 h2) ⟨(Ht rfl),trivial⟩) (fV mixed rfl (by kernel_rfl) (aJ (aJ (aJ (aJ (aV (ro rfl (op_invoke meth_45_Of Tryz.call302 c_OfZ (Ht rfl) ⟨(Ht rfl),trivial⟩) (gQ Z_45 (Ht rfl) (Ht rfl) rfl (i:=0) rfl (aK rfl) rfl rfl (eX ?_)))))))))))))))
 exact fW rfl (fK A_45 Z_45 rfl (i:=0) rfl rfl)
end
section
open Go Go.RowKit
theorem c_Term {z:List Qi} {s:List (List Qi)} {port:Int} {g:Qi} {L:Nat} (hs:Shp s z.length z.length) (hf:FitM s L) (hg:FitC g L) (hL:1 ≤ L) (hLb:L ≤ 1000000) (hl:z.length ≤ 1000):Fun Tryz.prog 60 [NetT z s,IntT .i64 port,NumT g] (TupT [NetT (trmRZ z s port g) (trmRS z s port g),IntT .i64 (trmE z s port g)]):=by
 haveI:=hg
 have hsl:=hs.1
 refine Fun.intro Tryz.func60 rfl Tryz.ntmps60 rfl (fun cx=>(ts (rn rfl (fG (Ht rfl)) fun B3=>(rn rfl (fG (Ht rfl)) fun B5=>(rn rfl (eW (Ts:=[Is (.slice none 0 0),Is (.slice none 0 0)]) O_30 rfl (fun V=>aW ⟨rfl,trivial⟩ (aW ⟨rfl,trivial⟩ (aG)))) fun B6=>(ro rfl (cQ (cJ 0)) (eX (cK (eG (ts (ro rfl (eJ A_30 Z_30 (Ht rfl) (i:=0) rfl rfl rfl) (rm rfl (ro rfl (cZ Tryz.call171 c_has ⟨(Ht rfl),(Ht rfl),trivial⟩) (ro rfl (op_not (Ht rfl)) (ra rfl (eX (dQ (Ht rfl) (fun hb=>?_) (fun hb=>?_))))))))))))))))))
 ·have he : trmE z s port g = 1 := trmE_1 (by simpa only [Bool.not_eq_true', decide_eq_false_iff_not] using hb)
  refine ts (ro rfl (OpTy.imp (bld_30_ ) net_nil) (gQ Z_30 (Ht rfl) (Ht rfl) rfl (i:=2) rfl (aK rfl) rfl rfl (ro rfl (cQ (cJ 1)) (eX (T_ret2 rfl (fX (fK A_30 Z_30 rfl (i:=2) rfl rfl) ?_) (fX (eU rfl) ?_))))))
  ·exact (trm_bad he (by decide))
  ·exact (int_of he.symm)
 ·have hb2 : 1 ≤ port ∧ port ≤ (z.length : Int) := by simpa using hb
  obtain ⟨p,rfl⟩:∃ p:Nat,port = (p:Int) + 1:=⟨(port - 1).toNat,by omega⟩
  have hp:p < z.length:=by omega
  refine ts (ro rfl (eZ fa_30_0 (Ht rfl) rfl) (ro rfl (eY A_27 Z_27 (Ht rfl) (i:=0) rfl rfl) (ro rfl (dG U_27 (Ht rfl) len_map) (ro rfl (op_eqlN (Ht rfl) (cJ 1)) (ra rfl (eX (dQ (Ht rfl) (fun hc=>?_) (fun hc=>?_))))))))
  ·have he : trmE z s ((p : Int) + 1) g = 4 := trmE_4 hb2 (by simpa using hc)
   refine ts (ro rfl (OpTy.imp (bld_30_ ) net_nil) (gQ Z_30 (Ht rfl) (Ht rfl) rfl (i:=2) rfl (aK rfl) rfl rfl (ro rfl (cQ (cJ 4)) (eX (T_ret2 rfl (fX (fK A_30 Z_30 rfl (i:=2) rfl rfl) ?_) (fX (eU rfl) ?_))))))
   ·exact (trm_bad he (by decide))
   ·exact (int_of he.symm)
  ·have hn1 : ¬ z.length = 1 := by simpa using hc
   have htd:=trmE_d (s:=s) (g:=g) hp hn1
   obtain ⟨m,hm⟩:∃ m,m = z.length - 1:=⟨_,rfl⟩
   have hspl:=hs.row hp
   haveI f0:FitC (Qi.ofInt 1) 1:=fit_one
   haveI f1:FitC (gm s p p) L:=hf.get hL p p
   refine cU (T_blk (ts (rm rfl (ro rfl (op_sub (Ht rfl) cV (r:=((p:Nat):Int)) ((w64 (z:=(p:Int) + 1 - 1) (by omega)).trans (by omega))) ?_))))
   refine ra rfl (eX (cK (Y.D_start (m:=22) [] (bY (Ei:=[(5,_)]) rfl rfl (bQ (bJ rfl rfl) bX) rfl rfl (dX rfl (eJ A_45 Z_45 (Ht rfl) (i:=1) rfl rfl rfl)) (bY (Ei:=[(32,_)]) rfl rfl (bQ (bZ 0 rfl rfl) bX) rfl rfl (dX rfl (op_iface mkif_45 (Ht rfl))) (bY (Ei:=[]) rfl rfl bX rfl rfl (dX rfl (cZ Tryz.call121 (c_whole (n:=1) (by decide) (by decide)) ⟨(cJ 1),trivial⟩)) (bY (Ei:=[(34,_)]) rfl rfl (bQ (bZ 2 rfl rfl) bX) rfl rfl (dX rfl (op_iface mkif_45 (Ht rfl))) ?_)))))))
   refine bY (Ei:=[(3,_)]) rfl rfl (bQ (bJ rfl rfl) bX) rfl rfl (dX rfl (eZ fa_30_1 (Ht rfl) rfl)) (bY (Ei:=[(36,_)]) rfl rfl (bQ (bZ 4 rfl rfl) bX) rfl rfl (dX rfl (eY A_28 Z_28 (Ht rfl) (i:=0) rfl rfl)) (bY (Ei:=[(8,_)]) rfl rfl (bQ (bJ rfl rfl) bX) rfl rfl (dX rfl (cX (Ht rfl))) (bY (Ei:=[(37,_),(38,_)]) rfl rfl (bQ (bZ 5 rfl rfl) (bQ (bZ 6 rfl rfl) bX)) rfl rfl (dX rfl (dZ U_28 Z_27 (Ht rfl) (Ht rfl) rfl (dY (dU (d:=[]) (by omega))))) ?_)))
   refine bY (Ei:=[(39,_)]) rfl rfl (bQ (bZ 7 rfl rfl) bX) rfl rfl (dX rfl (dJ A_27 Z_27 (Ht rfl))) (bY (Ei:=[(8,_)]) rfl rfl (bQ (bJ rfl rfl) bX) rfl rfl (dX rfl (cX (Ht rfl))) (bY (Ei:=[(40,_),(41,_)]) rfl rfl (bQ (bZ 8 rfl rfl) (bQ (bZ 9 rfl rfl) bX)) rfl rfl (dX rfl (dZ U_27 Z_45 (Ht rfl) (Ht rfl) rfl (dY (dU (d:=Qi.zero) (by omega))))) (bY (Ei:=[(42,_)]) rfl rfl (bQ (bZ 10 rfl rfl) bX) rfl rfl (dX rfl (dJ A_45 Z_45 (Ht rfl))) ?_)))
   refine bY (Ei:=[(43,_)]) rfl rfl (bQ (bZ 11 rfl rfl) bX) rfl rfl (dX rfl (op_iface mkif_45 (Ht rfl))) (bY (Ei:=[(5,_)]) rfl rfl (bQ (bJ rfl rfl) bX) rfl rfl (dX rfl (eJ A_45 Z_45 (Ht rfl) (i:=1) rfl rfl rfl)) (bY (Ei:=[(44,_),(45,_)]) rfl rfl (bQ (bZ 12 rfl rfl) (bQ (bZ 13 rfl rfl) bX)) rfl rfl (dX rfl (op_invoke meth_45_Mul K_67 (c_Mul (x:=gm s p p) (y:=g) (L:=L) (M:=L) (by omega)) (Ht rfl) ⟨(Ht rfl),trivial⟩)) (bY (Ei:=[(35,_),(46,_)]) rfl rfl (bQ (bZ 3 rfl rfl) (bQ (bZ 14 rfl rfl) bX)) rfl rfl (dX rfl (op_invoke meth_45_Sub K_66 (c_Sub (x:=Qi.ofInt 1) (y:=gm s p p * g) (L:=1) (M:=L + L + 1) (hx:=f0) (by omega)) (Ht rfl) ⟨(Ht rfl),trivial⟩)) ?_)))
   refine bY (Ei:=[(33,_),(47,_)]) rfl rfl (bQ (bZ 1 rfl rfl) (bQ (bZ 15 rfl rfl) bX)) rfl rfl (dX rfl (op_invoke meth_45_Div Tryz.call59 (c_Div (x:=g) (y:=Qi.ofInt 1 - gm s p p * g) (L:=L) (M:=1 + (L + L + 1) + 1) (hy:=@fitSub _ _ _ _ f0 inferInstance) (by omega)) (Ht rfl) ⟨(Ht rfl),trivial⟩)) (bY (Ei:=[(48,_)]) rfl rfl (bQ (bZ 16 rfl rfl) bX) rfl rfl (dX rfl (cX (Ht rfl))) (bY (Ei:=[(31,_)]) rfl rfl (bQ (bZ 17 rfl rfl) bX) rfl rfl (dX rfl (dK (Ht rfl) rfl)) ?_))
   refine bY (Ei:=[(31,_)]) rfl rfl (bQ (bZ 17 rfl rfl) bX) rfl rfl (dX rfl (dK (Ht rfl) rfl)) (Y.D_newp (Ei:=[]) (fun bb=>box bb 45 [BoolT (decide ((trmF s p g).a < 0)),NatT (trmF s p g).a.natAbs,BoolT (decide ((trmF s p g).b < 0)),NatT (trmF s p g).b.natAbs,NatT (du (trmF s p g))]) 21 rfl rfl rfl bX rfl rfl (by kernel_rfl) (eW (Ts:=[Is (.bool false),Is (.slice none 0 0),Is (.bool false),Is (.slice none 0 0),Is (.slice none 0 0)]) O_45 rfl (fun V=>aW ⟨rfl,trivial⟩ (aW ⟨rfl,trivial⟩ (aW ⟨rfl,trivial⟩ (aW ⟨rfl,trivial⟩ (aW ⟨rfl,trivial⟩ (aG))))))) ?_)
   refine Y.D_putN (Ei:=[(49,_)]) 20 rfl rfl rfl rfl rfl rfl (bQ (bZ 18 rfl rfl) bX) (fun bb=>P_stA Z_45 (Ht rfl) (Ht rfl) rfl (i:=0) rfl (aK rfl) rfl rfl) (Y.D_done mixed rfl (by kernel_rfl) rfl (by simp [Y.okP]) rfl rfl (bU (bU (bU (bU (bU (bU (bU (bU (bU (bU (bU (bU (bU (bU (bU (bU (bU (bU (bU (bU (Y.F_newp (fun B9=>Y.F_putN (Y.F_nil ?_))))))))))))))))))))))))
   refine ra rfl (eX (cK (ts (rm rfl (ro rfl (op_neq (Ht rfl) cV) (eX (dQ (Ht rfl) (fun he=>?_) (fun he=>?_))))))))
   ·have hz : Qi.ofInt 1 - gm s p p * g = Qi.zero := by simp at he; exact he
    have he:trmE z s ((p:Int) + 1) g = 6:=by rw [htd,if_pos hz]
    refine ts (ro rfl (OpTy.imp (bld_30_ ) net_nil) (gQ Z_30 (Ht rfl) (Ht rfl) rfl (i:=2) rfl (aK rfl) rfl rfl (ro rfl (cQ (cJ 6)) (eX (T_ret2 rfl (fX (fK A_30 Z_30 rfl (i:=2) rfl rfl) ?_) (fX (eU rfl) ?_))))))
    ·exact (trm_bad he (by decide))
    ·exact (int_of he.symm)
   ·have hz : Qi.ofInt 1 - gm s p p * g ≠ Qi.zero := by simp at he; exact he
    have he:trmE z s ((p:Int) + 1) g = 0:=by rw [htd,if_neg hz]
    haveI ff:FitC (trmF s p g) (7 * L + 11):=trmF_fit hf hg hL hz
    have hll:(lftL p m).length = m:=tab_len _ _
    refine cU (ts (ro rfl (eJ A_30 Z_30 (Ht rfl) (i:=0) rfl rfl rfl) (rm rfl (ro rfl (op_bslice (xs:=[.tmp 55]) U_69 Z_3 O_3 (cW (Ht rfl) cG) rfl rfl rfl) (ro rfl (cZ Tryz.call112 (eQ (c_left (z:=z) (s:=s) (p:=p) hp hl) (slT_of (by rw [← hm]))) ⟨(Ht rfl),(Ht rfl),trivial⟩) ?_)))))
    refine ra rfl (eX (ts (ro rfl (eJ A_30 Z_30 (Ht rfl) (i:=0) rfl rfl rfl) (rm rfl (R_call0 Tryz.call111 (c_partO (p:=p) (m:=m) hs hp hm hl) ⟨(Ht rfl),(Ht rfl),trivial⟩ rfl (fun B60 _=>(rn rfl (eW (Ts:=[Is (.slice none 0 0),Is (.slice none 0 0)]) O_30 rfl (fun V=>aW ⟨rfl,trivial⟩ (aW ⟨rfl,trivial⟩ (aG)))) fun B12=>(gQ Z_30 (Ht rfl) (Ht rfl) rfl (i:=5) rfl (aK rfl) rfl rfl (eX (cK (ts (rm rfl (ro rfl (dG U_69 (Ht rfl) (by rw [List.length_map,hll])) ?_)))))))))))))
    refine ro rfl (cX (cJ 0)) (eX (eG (T_keep [0,2,3,4,5] rfl (by decide) ?_)))
    refine T_loop (fun (i : Nat) => i ≤ m) (fun (i : Nat) => m - i) (fun (i : Nat) => [(3, PtrB B3 0), (6, PtrB B6 0), (8, NT .i64 p), (9, PtrB B9 0), (11, IntsT (lftL p m)), (12, PtrB B12 0), (61, IntsT (lftL p m)), (62, NT .i64 m), (63, NT .i64 i)]) (fun (i : Nat) => [box B3 30 [NumsT z, NumM s], box B6 30 [Is (.slice none 0 0), Is (.slice none 0 0)], box B9 45 [BoolT (decide ((trmF s p g).a < 0)), NatT (trmF s p g).a.natAbs, BoolT (decide ((trmF s p g).b < 0)), NatT (trmF s p g).b.natAbs, NatT (du (trmF s p g))], matO B60 27 45 5 (FRow NumT (mixG (fun i => tab m fun j => trmX s p (trmF s p g) i j) (fun i => tab m fun j => gm s (skp p i) (skp p j)) m i)), box B12 30 [NumsT (prtZ z p m), Is (.slice (some ⟨B60, 0, none⟩) m m)]]) 0 (Nat.zero_le _)
     (aQ rfl (aQ rfl (aQ rfl (aQ rfl (aQ rfl (aQ rfl (aQ rfl (aQ rfl (aQ rfl aX))))))))) (aU (fun _ _ _ h=>h) (aU (fun _ _ _ h=>h) (aU (box_of rfl) (aU (matO_of (by rw [← mixG_zero]; rfl)) (aU (box_of rfl) aY))))) (fun i hi=>?_)
    refine ts (ro rfl (gX (Ht rfl) (Ht rfl)) (eX (cK (dQ (Ht rfl) (fun hd=>?_) (fun hd=>?_)))))
    ·simp only [decide_eq_true_eq] at hd
     have hki:skp p i < z.length:=skp_lt (by omega) hp
     have hsr:=hs.row hki
     refine T_focus 3 (i) rfl (frow_mixG hd) (fun v=>(cU (cK (eG (ts (rm rfl (ro rfl (dZ U_69 Z_3 (Ht rfl) (Ht rfl) rfl (dY (lft_get hd))) (ro rfl (dJ A_3 Z_3 (Ht rfl)) (ra rfl (ra rfl (eX (ts (rm rfl (ro rfl (dG U_69 (Ht rfl) (by rw [List.length_map,hll])) ?_))))))))))))))
     refine ro rfl (cX (cJ 0)) (eX (eG ?_))
     refine T_loop (fun (j : Nat) => j ≤ m) (fun (j : Nat) => m - j) (fun (j : Nat) => [(3, PtrB B3 0), (6, PtrB B6 0), (8, NT .i64 p), (9, PtrB B9 0), (11, IntsT (lftL p m)), (12, PtrB B12 0), (13, NT .i64 i), (14, NT .i64 (skp p i + 1)), (61, IntsT (lftL p m)), (62, NT .i64 m), (63, NT .i64 i), (68, IntsT (lftL p m)), (69, NT .i64 m), (70, NT .i64 j)]) (fun (j : Nat) => [box B3 30 [NumsT z, NumM s], box B6 30 [Is (.slice none 0 0), Is (.slice none 0 0)], box B9 45 [BoolT (decide ((trmF s p g).a < 0)), NatT (trmF s p g).a.natAbs, BoolT (decide ((trmF s p g).b < 0)), NatT (trmF s p g).b.natAbs, NatT (du (trmF s p g))], matH B60 27 45 5 (FRow NumT (mixG (fun i => tab m fun j => trmX s p (trmF s p g) i j) (fun i => tab m fun j => gm s (skp p i) (skp p j)) m i)) i v, box B12 30 [NumsT (prtZ z p m), Is (.slice (some ⟨B60, 0, none⟩) m m)], rowO 45 5 v ((mixG (fun j => trmX s p (trmF s p g) i j) (fun j => gm s (skp p i) (skp p j)) m j).map NumT)]) 0 (Nat.zero_le _)
      (aQ rfl (aQ rfl (aQ rfl (aQ rfl (aQ rfl (aQ rfl (aQ rfl (aQ rfl (aQ rfl (aQ rfl (aQ rfl (aQ rfl (aQ rfl (aQ rfl aX)))))))))))))) (aU (fun _ _ _ h=>h) (aU (fun _ _ _ h=>h) (aU (fun _ _ _ h=>h) (aU (fun _ _ _ h=>h) (aU (fun _ _ _ h=>h) (aU (rowO_of (by rw [← mixG_zero])) aY)))))) (fun j hj=>?_)
     refine ts (ro rfl (gX (Ht rfl) (Ht rfl)) (eX (cK (dQ (Ht rfl) (fun hf2=>?_) (fun hf2=>?_)))))
     ·simp only [decide_eq_true_eq] at hf2
      have hkj:skp p j < z.length:=skp_lt (by omega) hp
      have hrl:=mixG_len (fun j=>trmX s p (trmF s p g) i j) (fun j=>gm s (skp p i) (skp p j)) m j
      haveI g1:FitC (gm s (skp p i) (skp p j)) L:=hf.get hL _ _
      haveI g2:FitC (gm s (skp p i) p) L:=hf.get hL _ _
      haveI g3:FitC (gm s p (skp p j)) L:=hf.get hL _ _
      refine cU (cK (eG (ts (rm rfl (ro rfl (dZ U_69 Z_3 (Ht rfl) (Ht rfl) rfl (dY (lft_get hf2))) (ro rfl (dJ A_3 Z_3 (Ht rfl)) (ra rfl (ra rfl (eX (fZ (m:=39) (dp 12 rfl (eZ fa_30_1 (Ht rfl) rfl) (dq 75 0 rfl (eY A_28 Z_28 (Ht rfl) (i:=4) rfl rfl) (dp 13 rfl (cX (Ht rfl)) (dqq 76 1 77 2 rfl (fY U_28 Z_27 (Ht rfl) (Ht rfl) rfl (by omega) (by rw [Nat.mul_one,Nat.zero_add])) ?_))))))))))))))
      refine dq 78 3 rfl (op_ldH A_27 Z_27 (Ht rfl) (j:=3) rfl) (dp 15 rfl (cX (Ht rfl)) (dp 12 rfl (eZ fa_30_1 (Ht rfl) rfl) (dq 81 6 rfl (eY A_28 Z_28 (Ht rfl) (i:=4) rfl rfl) (dp 13 rfl (cX (Ht rfl)) (dqq 82 7 83 8 rfl (fY U_28 Z_27 (Ht rfl) (Ht rfl) rfl (by omega) (by rw [Nat.mul_one,Nat.zero_add])) ?_)))))
      refine dq 84 9 rfl (op_ldH A_27 Z_27 (Ht rfl) (j:=3) rfl) (dp 15 rfl (cX (Ht rfl)) (dqq 85 10 86 11 rfl (op_idxO U_27 Z_45 (Ht rfl) (Ht rfl) rfl (i:=5) rfl (by simp only [List.length_map,hrl]; omega) rfl) ?_))
      refine dq 87 12 rfl (op_ldO A_45 Z_45 (Ht rfl) (i:=5) rfl rfl (dY (mixG_get hf2))) (dq 88 13 rfl (op_iface mkif_45 (Ht rfl)) (dp 3 rfl (eZ fa_30_1 (Ht rfl) rfl) (dq 90 15 rfl (eY A_28 Z_28 (Ht rfl) (i:=0) rfl rfl) (dp 14 rfl (cX (Ht rfl)) (dq 92 17 rfl (OpTy.nat (dW (Ht rfl) (cJ 1) (by omega) (by show _ < 9223372036854775808; first | omega | (simp only [lim]; omega))) (show skp p i + 1 - 1 = skp p i by omega)) (dqq 91 16 93 18 rfl (dZ U_28 Z_27 (Ht rfl) (Ht rfl) rfl (dY (dU (d:=[]) (by omega)))) ?_))))))
      refine dq 94 19 rfl (dJ A_27 Z_27 (Ht rfl)) (dp 8 rfl (cX (Ht rfl)) (dqq 95 20 96 21 rfl (dZ U_27 Z_45 (Ht rfl) (Ht rfl) rfl (dY (dU (d:=Qi.zero) (by omega)))) (dq 97 22 rfl (dJ A_45 Z_45 (Ht rfl)) (dq 98 23 rfl (op_iface mkif_45 (Ht rfl)) (dp 9 rfl (eJ A_45 Z_45 (Ht rfl) (i:=2) rfl rfl rfl) (dq 100 25 rfl (op_iface mkif_45 (Ht rfl)) (dp 3 rfl (eZ fa_30_1 (Ht rfl) rfl) (dq 102 27 rfl (eY A_28 Z_28 (Ht rfl) (i:=0) rfl rfl) (dp 8 rfl (cX (Ht rfl)) ?_)))))))))
      refine dqq 103 28 104 29 rfl (dZ U_28 Z_27 (Ht rfl) (Ht rfl) rfl (dY (dU (d:=[]) (by omega)))) (dq 105 30 rfl (dJ A_27 Z_27 (Ht rfl)) (dp 16 rfl (cX (Ht rfl)) (dq 107 32 rfl (OpTy.nat (dW (Ht rfl) (cJ 1) (by omega) (by show _ < 9223372036854775808; first | omega | (simp only [lim]; omega))) (show skp p j + 1 - 1 = skp p j by omega)) (dqq 106 31 108 33 rfl (dZ U_27 Z_45 (Ht rfl) (Ht rfl) rfl (dY (dU (d:=Qi.zero) (by omega)))) (dq 109 34 rfl (dJ A_45 Z_45 (Ht rfl)) ?_)))))
      refine dqq 101 26 110 35 rfl (op_invoke meth_45_Mul K_67 (c_Mul (x:=trmF s p g) (y:=gm s p (skp p j)) (L:=7 * L + 11) (M:=L) (by omega)) (Ht rfl) ⟨(Ht rfl),trivial⟩) (dqq 99 24 111 36 rfl (op_invoke meth_45_Mul K_67 (c_Mul (x:=gm s (skp p i) p) (y:=trmF s p g * gm s p (skp p j)) (L:=L) (M:=7 * L + 11 + L + 1) (by omega)) (Ht rfl) ⟨(Ht rfl),trivial⟩) (dqq 89 14 112 37 rfl (op_invoke meth_45_Add Tryz.call68 (c_Add (x:=gm s (skp p i) (skp p j)) (y:=gm s (skp p i) p * (trmF s p g * gm s p (skp p j))) (L:=L) (M:=L + (7 * L + 11 + L + 1) + 1) (by omega)) (Ht rfl) ⟨(Ht rfl),trivial⟩) ?_))
      refine fV mixed rfl (by kernel_rfl) (aJ (aJ (aJ (aJ (aJ (aJ (aJ (aJ (aJ (aJ (aJ (aJ (aJ (aJ (aJ (aJ (aJ (aJ (aJ (aJ (aJ (aJ (aJ (aJ (aJ (aJ (aJ (aJ (aJ (aJ (aJ (aJ (aJ (aJ (aJ (aJ (aJ (aJ (aJ (aV (ro rfl (op_idxO U_27 Z_45 (Ht rfl) (Ht rfl) rfl (i:=5) rfl (by simp only [List.length_map,hrl]; omega) rfl) ?_)))))))))))))))))))))))))))))))))))))))))
      refine R_stO Z_45 (Ht rfl) (Ht rfl) (El.ag rfl) (i:=5) rfl rfl (by simp only [List.length_map,hrl]; omega) rfl ?_
      refine eX (T_blk (cY (ro rfl (dV (Ht rfl) (cJ 1) (by show _ < 9223372036854775808; first | omega | (simp only [lim]; omega))) (rm rfl (eX (fU (j + 1) hf2 (by omega) (aQ rfl (aQ rfl (aQ rfl (aQ rfl (aQ rfl (aQ rfl (aQ rfl (aQ rfl (aQ rfl (aQ rfl (aQ rfl (aQ rfl (aQ rfl (aQ rfl aX)))))))))))))) (aU (fun _ _ _ h=>h) (aU (fun _ _ _ h=>h) (aU (fun _ _ _ h=>h) (aU (fun _ _ _ h=>h) (aU (fun _ _ _ h=>h) (aU (rowO_of (by rw [set_mapF,← mixG_set (f:=fun j=>trmX s p (trmF s p g) i j)]; rfl)) aY))))))))))))
     ·simp only [decide_eq_false_iff_not] at hf2
      obtain rfl:m = j:=Nat.le_antisymm (by omega) hj
      refine gV rfl (T_blk (T_unfocus 3 5 rfl rfl (by decide) (by simp only [FRow,List.length_map,mixG_len]; omega) ?_))
      refine cY (ro rfl (dV (Ht rfl) (cJ 1) (by show _ < 9223372036854775808; first | omega | (simp only [lim]; omega))) (rm rfl (eX (T_keep [0,1,2,3,4] rfl (by decide) (fU (i + 1) hd (by omega) (aQ rfl (aQ rfl (aQ rfl (aQ rfl (aQ rfl (aQ rfl (aQ rfl (aQ rfl (aQ rfl aX))))))))) (aU (fun _ _ _ h=>h) (aU (fun _ _ _ h=>h) (aU (fun _ _ _ h=>h) (aU (matO_of (by rw [set_FRow,mixG_fin,← mixG_set (f:=(fun i=>tab m fun j=>trmX s p (trmF s p g) i j))])) (aU (fun _ _ _ h=>h) aY))))))))))
    ·simp only [decide_eq_false_iff_not] at hd
     obtain rfl:m = i:=Nat.le_antisymm (by omega) hi
     rw [mixG_fin]
     refine gV rfl (cK (T_frzcellG 4 3 1 rfl rfl rfl (by decide) (frzM (q:=fun _=>True) (M:=trmS s p m (trmF s p g)) (tab_len _ _).symm) ?_))
     subst hm
     refine cY (ro rfl (eJ A_30 Z_30 (Ht rfl) (i:=4) rfl rfl rfl) (gQ Z_30 (Ht rfl) (Ht rfl) rfl (i:=1) rfl (aK rfl) rfl rfl (ro rfl (cQ (cJ 0)) (eX (T_ret2 rfl (fX (fK A_30 Z_30 rfl (i:=1) rfl rfl) ?_) (fX (eU rfl) ?_))))))
     ·exact (trm_good he)
     ·exact (int_of he.symm)
end
section
open Go Go.RowKit
namespace Qi
def npow' (x : Qi) : Nat → Qi
 | 0=>Qi.ofInt 1
 | k + 1=>npow' x k * x
theorem one_mul2 (x:Qi):Qi.ofInt 1 * x = x:=ext' (by show ((1:Int):Rat) * x.re - 0 * x.im = x.re; grind) (by show ((1:Int):Rat) * x.im + 0 * x.re = x.im; grind)
theorem mul_one2 (x:Qi):x * Qi.ofInt 1 = x:=by rw [mul_comm',one_mul2]
end Qi
instance qiField:Lean.Grind.CommRing Qi where
 natCast:=⟨fun n=>Qi.ofInt n⟩
 ofNat n:=⟨Qi.ofInt n⟩
 nsmul:=⟨fun n x=>Qi.ofInt n * x⟩
 npow:=⟨Qi.npow'⟩
 add_zero:=Qi.add_zero'
 add_comm:=Qi.add_comm'
 add_assoc:=Qi.add_assoc'
 mul_assoc:=Qi.mul_assoc'
 mul_comm:=Qi.mul_comm'
 mul_one:=Qi.mul_one2
 one_mul:=Qi.one_mul2
 left_distrib:=Qi.mul_add'
 right_distrib:=Qi.add_mul'
 zero_mul:=Qi.zero_mul'
 mul_zero:=Qi.mul_zero'
 pow_zero _:=rfl
 pow_succ _ _:=rfl
 ofNat_succ n:=Qi.ext' (by show (((n + 1:Nat):Int):Rat) = ((n:Int):Rat) + ((1:Int):Rat); rw [Int.natCast_add,Rat.intCast_add]; rfl) (by show (0:Rat) = 0 + 0; grind)
 intCast:=⟨Qi.ofInt⟩
 zsmul:=⟨fun n x=>Qi.ofInt n * x⟩
 neg_add_cancel x:=Qi.ext' (by show -x.re + x.re = ((0:Int):Rat); grind) (by show -x.im + x.im = 0; grind)
 sub_eq_add_neg:=Qi.sub_def
 neg_zsmul i x:=Qi.ext' (by show ((-i:Int):Rat) * x.re - 0 * x.im = -((i:Rat) * x.re - 0 * x.im); rw [Rat.intCast_neg]; grind) (by show ((-i:Int):Rat) * x.im + 0 * x.re = -((i:Rat) * x.im + 0 * x.re); rw [Rat.intCast_neg]; grind)
 intCast_neg i:=Qi.ext' (Rat.intCast_neg i) (by show (0:Rat) = -0; grind)
theorem q0:Qi.zero = 0:=rfl
theorem q1:Qi.ofInt 1 = 1:=rfl
theorem mul_inv2 {x:Qi} (h:x ≠ 0):x * Qi.inv x = 1:=by
 have hn:x.nrm ≠ 0:=fun e=>h (Qi.nrm_zero.1 e)
 have e:x.re * x.re + x.im * x.im = x.nrm:=rfl
 refine Qi.ext' ?_ ?_
 ·show x.re * (x.re / x.nrm) - x.im * (-x.im / x.nrm) = ((1 : Int) : Rat)
  grind
 ·show x.re * (-x.im / x.nrm) + x.im * (x.re / x.nrm) = 0
  grind
theorem div_eq {x y:Qi} (h:y ≠ 0):x / y * y = x:=by
 rw [Qi.div_def]
 have:=mul_inv2 h
 grind
theorem eq_div {x y z:Qi} (h:y ≠ 0) (e:x = z * y):x / y = z:=by
 have h1:=div_eq (x:=x) h
 have h2:=mul_inv2 h
 grind
theorem mul_zero_or {x y:Qi} (h:x * y = 0):x = 0 ∨ y = 0:=by
 by_cases e:x = 0
 ·exact .inl e
 ·right; have:=mul_inv2 e; grind
end
section
open Go Go.RowKit
theorem sumN_sub (m:Nat) (f:Qi) (a b:Nat → Qi):sumN m (fun k=>a k - f * b k) = sumN m a - f * sumN m b:=by
 induction m with
 | zero=>simp only [sumN,q0]; grind
 | succ m ih=>simp only [sumN,ih]; grind
theorem sumN_single {m i:Nat} (hi:i < m) {f:Nat → Qi} (h:∀ k,k < m → k ≠ i → f k = 0):sumN m f = f i:=by
 induction m with
 | zero=>omega
 | succ m ih =>
  by_cases e:i = m
  ·subst e
   have : sumN i f = 0 := by
    rw [← q0,← sumN_zero i]
    exact sumN_congr fun k hk=>h k (by omega) (by omega)
   simp only [sumN,this]; grind
  ·have h1 := ih (by omega) (fun k hk => h k (by omega))
   have h2:=h m (by omega) (by omega)
   simp only [sumN,h1,h2]; grind
theorem sumN_two {m i c:Nat} (hi:i < m) (hc:c < m) (hic:i ≠ c) {f:Nat → Qi} (h:∀ k,k < m → k ≠ i → k ≠ c → f k = 0):sumN m f = f i + f c:=by
 have e : sumN m f = sumN m fun k => (if k = i then f i else 0) + (if k = c then f c else 0) := sumN_congr fun k hk => by
  by_cases e1:k = i
  ·subst e1; rw [if_pos rfl,if_neg hic]; grind
  ·by_cases e2 : k = c
   ·subst e2; rw [if_neg e1,if_pos rfl]; grind
   ·rw [if_neg e1,if_neg e2,h k hk e1 e2]; grind
 rw [e,sumN_add,sumN_single hi (fun k _ hk=>if_neg hk),sumN_single hc (fun k _ hk=>if_neg hk),if_pos rfl,if_pos rfl]
theorem sumN_all0 {m:Nat} {f:Nat → Qi} (h:∀ k,k < m → f k = 0):sumN m f = 0:=by
 rw [← q0,← sumN_zero m]; exact sumN_congr h
def Ker (M:List (List Qi)) (n m:Nat) (x:Nat → Qi):Prop:=∀ i,i < n → sumN m (fun k=>gm M i k * x k) = 0
def redJR (rr rc:List Qi) (c k:Nat):List Qi:=tab rr.length fun j=>if c ≤ j ∧ j < k then gv rr j - gv rr c / gv rc c * gv rc j else gv rr j
def redJ (M:List (List Qi)) (c r:Nat):List (List Qi):=tab M.length fun i=>if i ≠ c ∧ i < r then redJR (rw' M i) (rw' M c) c (rw' M i).length else rw' M i
def gjTo (M : List (List Qi)) : Nat → Option (List (List Qi))
 | 0=>some M
 | c + 1=>(gjTo M c).bind fun A=>if pv A c M.length = M.length then none else some (redJ (swp [] A (pv A c M.length) c) c M.length)
theorem redJ_len (M:List (List Qi)) (c r:Nat):(redJ M c r).length = M.length:=tab_len _ _
theorem redJR_len (rr rc:List Qi) (c k:Nat):(redJR rr rc c k).length = rr.length:=tab_len _ _
theorem redJ_row {M:List (List Qi)} {c r i:Nat} (hi:i < M.length):rw' (redJ M c r) i = if i ≠ c ∧ i < r then redJR (rw' M i) (rw' M c) c (rw' M i).length else rw' M i:=by
 simp only [rw',redJ,List.getD]; rw [tab_get hi]; rfl
theorem redJ_shp {M:List (List Qi)} {n m c r:Nat} (h:Shp M n m):Shp (redJ M c r) n m:=by
 refine ⟨(redJ_len _ _ _).trans h.1,fun x hx=>?_⟩
 obtain ⟨i,hi,rfl⟩:=tab_mem.1 hx
 have hr:=h.row (i:=i) (by rw [← h.1]; exact hi)
 show (if i ≠ c ∧ i < r then redJR (rw' M i) (rw' M c) c (rw' M i).length else rw' M i).length = m
 split
 ·rw [redJR_len]; exact hr
 ·exact hr
theorem redJ_gm {M:List (List Qi)} {n m c i j:Nat} (h:Shp M n m) (hi:i < n) (hj:j < m):gm (redJ M c n) i j = if i ≠ c ∧ c ≤ j then gm M i j - gm M i c / gm M c c * gm M c j else gm M i j:=by
 have hr:(rw' M i).length = m:=h.row hi
 show gv (rw' (redJ M c n) i) j = _
 rw [redJ_row (by rw [h.1]; exact hi)]
 by_cases e:i = c
 ·rw [if_neg (fun k=>k.1 e),if_neg (fun k=>k.1 e)]
 ·rw [if_pos ⟨e, hi⟩, redJR, gv_tab (by omega)]
  by_cases e2:c ≤ j
  ·rw [if_pos ⟨e2,by omega⟩,if_pos ⟨e,e2⟩]
  ·rw [if_neg (fun k=>e2 k.1),if_neg (fun k=>e2 k.2)]
theorem swp_rw {M:List (List Qi)} {p c i:Nat} (hp:p < M.length) (hc:c < M.length):rw' (swp [] M p c) i = rw' M (if i = c then p else if i = p then c else i):=by
 simp only [rw',swp,List.getD]
 by_cases e:i = c
 ·subst e; rw [List.getElem?_set_self (by simpa using hc),if_pos rfl]; rfl
 ·rw [List.getElem?_set_ne (Ne.symm e), if_neg e]
  by_cases e2:i = p
  ·subst e2; rw [List.getElem?_set_self hp,if_pos rfl]; rfl
  ·rw [List.getElem?_set_ne (Ne.symm e2),if_neg e2]
theorem ker_swp {M:List (List Qi)} {n m p c:Nat} {x:Nat → Qi} (hl:M.length = n) (hp:p < n) (hc:c < n):Ker (swp [] M p c) n m x ↔ Ker M n m x:=by
 have key : ∀ i, gm (swp [] M p c) i = gm M (if i = c then p else if i = p then c else i) := fun i => by
  funext j; exact congrArg (fun r=>gv r j) (swp_rw (by omega) (by omega))
 constructor
 ·intro h i hi
  have h1:=h (if i = c then p else if i = p then c else i) (by split <;> (try split) <;> omega)
  rw [key] at h1
  have e : (if (if i = c then p else if i = p then c else i) = c then p else if (if i = c then p else if i = p then c else i) = p then c else (if i = c then p else if i = p then c else i)) = i := by
   by_cases e1:i = c
   ·subst e1; rw [if_pos rfl]
    by_cases e2:p = i
    ·rw [if_pos e2]; exact e2
    ·rw [if_neg e2,if_pos rfl]
   ·rw [if_neg e1]
    by_cases e2:i = p
    ·subst e2; rw [if_pos rfl,if_pos rfl]
    ·rw [if_neg e2,if_neg e1,if_neg e2]
  rw [e] at h1; exact h1
 ·intro h i hi
  rw [key]; exact h _ (by split <;> (try split) <;> omega)
theorem ker_red {M:List (List Qi)} {n m c:Nat} {x:Nat → Qi} (hs:Shp M n m) (hc:c < n) (hz:∀ j,j < c → gm M c j = 0):Ker (redJ M c n) n m x ↔ Ker M n m x:=by
 have key : ∀ i, i < n → i ≠ c → sumN m (fun k => gm (redJ M c n) i k * x k) = sumN m (fun k => gm M i k * x k) - gm M i c / gm M c c * sumN m (fun k => gm M c k * x k) := fun i hi e => by
  rw [← sumN_sub]
  refine sumN_congr fun k hk=>?_
  rw [redJ_gm hs hi hk]
  by_cases e2:c ≤ k
  ·rw [if_pos ⟨e,e2⟩]; grind
  ·rw [if_neg (fun h=>e2 h.2),hz k (by omega)]; grind
 have keyc:sumN m (fun k=>gm (redJ M c n) c k * x k) = sumN m (fun k=>gm M c k * x k):=sumN_congr fun k hk=>by rw [redJ_gm hs hc hk,if_neg (fun h=>h.1 rfl)]
 constructor
 ·intro h i hi
  have h0:=h c hc
  rw [keyc] at h0
  by_cases e:i = c
  ·rw [e]; exact h0
  ·have h1 := h i hi
   rw [key i hi e,h0] at h1
   grind
 ·intro h i hi
  have h0:=h c hc
  by_cases e:i = c
  ·rw [e,keyc]; exact h0
  ·rw [key i hi e,h0,h i hi]; grind
structure GJ (M A:List (List Qi)) (n m c:Nat):Prop where
 sh:Shp A n m
 ker:∀ x,Ker A n m x ↔ Ker M n m x
 off:∀ j,j < c → ∀ i,i < n → i ≠ j → gm A i j = 0
 dg:∀ j,j < c → gm A j j ≠ 0
theorem GJ.next {M A:List (List Qi)} {n m c p:Nat} (h:GJ M A n m c) (hc:c < n) (hnm:n ≤ m) (hcp:c ≤ p) (hp:p < n) (hz:gm A p c ≠ 0):GJ M (redJ (swp [] A p c) c n) n m (c + 1):=by
 have hs:Shp (swp [] A p c) n m:=swp_shp h.sh hp hc
 have hl:=h.sh.1
 have key : ∀ i, gm (swp [] A p c) i = gm A (if i = c then p else if i = p then c else i) := fun i => by
  funext j; exact congrArg (fun r=>gv r j) (swp_rw (by omega) (by omega))
 have hcc:gm (swp [] A p c) c c ≠ 0:=by rw [key,if_pos rfl]; exact hz
 have hoff : ∀ j, j < c → ∀ i, i < n → i ≠ j → gm (swp [] A p c) i j = 0 := fun j hj i hi hij => by
  rw [key]
  by_cases e1:i = c
  ·rw [if_pos e1]; exact h.off j hj p hp (by omega)
  ·rw [if_neg e1]
   by_cases e2:i = p
   ·rw [if_pos e2]; exact h.off j hj c hc (by omega)
   ·rw [if_neg e2]; exact h.off j hj i hi hij
 refine ⟨redJ_shp hs,fun x=>(ker_red hs hc (fun j hj=>hoff j hj c hc (by omega))).trans ((ker_swp hl hp hc).trans (h.ker x)),fun j hj i hi hij=>?_,fun j hj=>?_⟩
 ·rw [redJ_gm hs hi (by omega)]
  by_cases e:j = c
  ·subst e
   rw [if_pos ⟨hij,Nat.le_refl _⟩]
   have:=div_eq (x:=gm (swp [] A p j) i j) hcc
   grind
  ·rw [if_neg (fun k=>by omega)]; exact hoff j (by omega) i hi hij
 ·rw [redJ_gm hs (by omega) (by omega)]
  by_cases e:j = c
  ·subst e; rw [if_neg (fun k=>k.1 rfl)]; exact hcc
  ·rw [if_neg (fun k=>by omega),key,if_neg (by omega),if_neg (by omega)]; exact h.dg j (by omega)
theorem gj_inv {M : List (List Qi)} {n m : Nat} (hs : Shp M n m) (hnm : n ≤ m) : ∀ {c : Nat} {A : List (List Qi)}, c ≤ n → gjTo M c = some A → GJ M A n m c
 | 0, A, _, h => by
  obtain rfl:=Option.some.inj h
  exact ⟨hs,fun _=>Iff.rfl,fun j hj=>by omega,fun j hj=>by omega⟩
 | c + 1, A, hc, h => by
  simp only [gjTo] at h
  obtain ⟨B,h1,h2⟩:=Option.bind_eq_some_iff.1 h
  split at h2
  ·cases h2
  ·rename_i e
   obtain rfl:=Option.some.inj h2
   have ih:=gj_inv hs hnm (c:=c) (by omega) h1
   rw [hs.1] at e ⊢
   obtain ⟨_,i2,i3,i4⟩:=pv_spec (M:=B) (c:=c) (n:=n) (by omega)
   exact ih.next (by omega) hnm i2 (by omega) (i4 (by omega))
theorem gj_stop {M : List (List Qi)} : ∀ {n : Nat}, gjTo M n = none → ∃ c A, c < n ∧ gjTo M c = some A ∧ pv A c M.length = M.length
 | 0,h=>by cases h
 | c + 1, h => by
  cases e:gjTo M c with
  | none =>
   obtain ⟨d,A,h1,h2,h3⟩:=gj_stop e
   exact ⟨d,A,by omega,h2,h3⟩
  | some A =>
   refine ⟨c,A,by omega,e,?_⟩
   simp only [gjTo,e,Option.bind_some] at h
   by_cases e2:pv A c M.length = M.length
   ·exact e2
   ·rw [if_neg e2] at h; cases h
theorem gj_sol {M A : List (List Qi)} {n : Nat} (h : GJ M A n (n + 1) n) : Ker M n (n + 1) fun k => if k < n then gm A k n / gm A k k else -1 := (h.ker _).1 fun i hi => by
 have hd:=h.dg i hi
 have e : sumN n (fun k => gm A i k * if k < n then gm A k n / gm A k k else -1) = gm A i n := by
  rw [sumN_single hi (fun k hk hki=>by rw [h.off k hk i hi (Ne.symm hki)]; grind),if_pos hi]
  have:=div_eq (x:=gm A i n) hd
  grind
 simp only [sumN,e]
 rw [if_neg (by omega)]; grind
theorem gj_triv {M A : List (List Qi)} {n : Nat} (h : GJ M A n (n + 1) n) {x : Nat → Qi} (hx : Ker M n (n + 1) x) (h0 : x n = 0) : ∀ k, k < n → x k = 0 := fun k hk => by
 have h1:=(h.ker x).2 hx k hk
 have e:sumN n (fun j=>gm A k j * x j) = gm A k k * x k:=sumN_single hk (fun j hj hjk=>by rw [h.off j hj k hk (Ne.symm hjk)]; grind)
 simp only [sumN,e,h0] at h1
 rcases mul_zero_or (x:=gm A k k) (y:=x k) (by grind) with h2 | h2
 ·exact absurd h2 (h.dg k hk)
 ·exact h2
theorem gj_sing {M A : List (List Qi)} {n m c : Nat} (h : GJ M A n m c) (hc : c < n) (hnm : n ≤ m) (hz : ∀ r, c ≤ r → r < n → gm A r c = 0) : Ker M n m fun k => if k < c then -(gm A k c / gm A k k) else if k = c then 1 else 0 := (h.ker _).1 fun i hi => by
 by_cases e:i < c
 ·rw [sumN_two (i := i) (c := c) (by omega) (by omega) (by omega) (fun k hk h1 h2 => ?_)]
  ·rw [if_pos e, if_neg (by omega), if_pos rfl]
   have:=div_eq (x:=gm A i c) (h.dg i e)
   grind
  ·by_cases e2 : k < c
   ·rw [h.off k e2 i hi (Ne.symm h1)]; grind
   ·rw [if_neg e2,if_neg h2]; grind
 ·refine sumN_all0 fun k hk => ?_
  by_cases e2:k < c
  ·rw [h.off k e2 i hi (by omega)]; grind
  ·rw [if_neg e2]
   by_cases e3:k = c
   ·rw [e3,hz i (by omega) hi]; grind
   ·rw [if_neg e3]; grind
def gjX (M:List (List Qi)) (b:List Qi) (n:Nat):Option (List Qi):=(gjTo (copyM M [b] n) n).map fun A=>tab n fun i=>gm A i n / gm A i i
theorem gv_app {l:List Qi} {z:Qi} {k:Nat} (h:k < l.length):gv (l ++ [z]) k = gv l k:=by
 simp only [gv,List.getD]; rw [List.getElem?_append_left h]
theorem gv_end {l:List Qi} {z:Qi}:gv (l ++ [z]) l.length = z:=by
 simp [gv,List.getD]
theorem cp_gm {M:List (List Qi)} {b:List Qi} {n i:Nat} (h:Shp M n n) (hi:i < n):(∀ k,k < n → gm (copyM M [b] n) i k = gm M i k) ∧ gm (copyM M [b] n) i n = gv b i:=by
 obtain ⟨r,hr⟩:∃ r,r = rw' M i:=⟨_,rfl⟩
 have hl:r.length = n:=by rw [hr]; exact h.row hi
 have e : rw' (copyM M [b] n) i = r ++ [gv b i] := by
  rw [hr]; simp only [rw',copyM,List.getD]; rw [tab_get hi]; rfl
 refine ⟨fun k hk=>?_,?_⟩
 ·show gv (rw' (copyM M [b] n) i) k = gv (rw' M i) k
  rw [e,← hr,gv_app (by omega)]
 ·show gv (rw' (copyM M [b] n) i) n = gv b i
  rw [e,← hl,gv_end]
theorem cp_sum {M:List (List Qi)} {b:List Qi} {n i:Nat} (h:Shp M n n) (hi:i < n) (x:Nat → Qi):sumN (n + 1) (fun k=>gm (copyM M [b] n) i k * x k) = sumN n (fun k=>gm M i k * x k) + gv b i * x n:=by
 obtain ⟨h1,h2⟩:=cp_gm (b:=b) h hi
 simp only [sumN,h2]
 rw [sumN_congr (fun k hk=>by rw [h1 k hk])]
theorem gjX_some {M:List (List Qi)} {b X:List Qi} {n:Nat} (h:Shp M n n) (hX:gjX M b n = some X):X.length = n ∧ (∀ i,i < n → sumN n (fun k=>gm M i k * gv X k) = gv b i) ∧ ∀ y:Nat → Qi,(∀ i,i < n → sumN n (fun k=>gm M i k * y k) = 0) → ∀ k,k < n → y k = 0:=by
 obtain ⟨A,hA,rfl⟩:=Option.map_eq_some_iff.1 hX
 have hg:=gj_inv (copyM_shp (bs:=[b]) h) (Nat.le_succ n) (Nat.le_refl n) hA
 refine ⟨tab_len _ _,fun i hi=>?_,fun y hy k hk=>?_⟩
 ·have h1 := gj_sol hg i hi
  rw [cp_sum h hi] at h1
  have e:sumN n (fun k=>gm M i k * if k < n then gm A k n / gm A k k else -1) = sumN n (fun k=>gm M i k * gv (tab n fun i=>gm A i n / gm A i i) k):=sumN_congr fun k hk=>by rw [if_pos hk,gv_tab hk]
  rw [e,if_neg (by omega)] at h1
  grind
 ·have h1 := gj_triv hg (x := fun k => if k < n then y k else 0) (fun i hi => ?_) (if_neg (by omega)) k hk
  ·simpa [hk] using h1
  ·rw [cp_sum h hi,if_neg (by omega),sumN_congr (fun k hk=>by rw [if_pos hk]),hy i hi]; grind
theorem gjX_none {M:List (List Qi)} {b:List Qi} {n:Nat} (h:Shp M n n) (hX:gjX M b n = none):∃ y:Nat → Qi,(∀ i,i < n → sumN n (fun k=>gm M i k * y k) = 0) ∧ ∃ k,k < n ∧ y k ≠ 0:=by
 have hcs:Shp (copyM M [b] n) n (n + 1):=copyM_shp h
 obtain ⟨c,A,hc,hA,hp⟩:=gj_stop (Option.map_eq_none_iff.1 hX)
 have hg:=gj_inv hcs (Nat.le_succ n) (by omega) hA
 rw [hcs.1] at hp
 have hz:=(pv_spec (M:=A) (c:=c) (n:=n) (by omega)).1
 rw [hp] at hz
 have hk:=gj_sing hg hc (Nat.le_succ n) hz
 refine ⟨fun k=>if k < c then -(gm A k c / gm A k k) else if k = c then 1 else 0,fun i hi=>?_,c,hc,?_⟩
 ·have h1 := hk i hi
  rw [cp_sum h hi,if_neg (by omega),if_neg (by omega)] at h1
  grind
 ·show (if c < c then -(gm A c c / gm A c c) else if c = c then (1 : Qi) else 0) ≠ 0
  rw [if_neg (by omega),if_pos rfl]
  intro e
  have:=congrArg Qi.re e
  exact absurd this (by decide)
theorem redJR_fit {rr rc : List Qi} {L c k : Nat} (h1 : FitL rr L) (h2 : FitL rc L) (hL : 1 ≤ L) (hp : gv rc c ≠ Qi.zero) : FitL (redJR rr rc c k) (6 * L + 4) := FitL.tab fun j _ => by
 split
 ·exact elt_fit h1 h2 hL hp
 ·exact (h1.get hL j).le (by omega)
theorem redJ_fit {M : List (List Qi)} {L c r : Nat} (h : FitM M L) (hL : 1 ≤ L) (hp : gm M c c ≠ Qi.zero) : FitM (redJ M c r) (6 * L + 4) := fun x hx => by
 obtain ⟨i,hi,rfl⟩:=tab_mem.1 hx
 show FitL (if i ≠ c ∧ i < r then redJR (rw' M i) (rw' M c) c (rw' M i).length else rw' M i) _
 split
 ·exact redJR_fit (h.row i) (h.row c) hL hp
 ·exact (h.row i).le (by omega)
theorem gj_fit {M : List (List Qi)} {n m L : Nat} (hs : Shp M n m) (hnm : n ≤ m) (h : FitM M L) (hL : 1 ≤ L) : ∀ {c : Nat} {A : List (List Qi)}, c ≤ n → gjTo M c = some A → FitM A (grow L c)
 | 0,A,_,e=>by obtain rfl:=Option.some.inj e; exact h
 | c + 1, A, hc, e => by
  simp only [gjTo] at e
  obtain ⟨B,h1,h2⟩:=Option.bind_eq_some_iff.1 e
  split at h2
  ·cases h2
  ·rename_i e3
   obtain rfl:=Option.some.inj h2
   have ih:=gj_fit hs hnm h hL (c:=c) (by omega) h1
   have hsB:=(gj_inv hs hnm (c:=c) (by omega) h1).sh
   rw [hs.1] at e3 ⊢
   obtain ⟨_,i2,i3,i4⟩:=pv_spec (M:=B) (c:=c) (n:=n) (by omega)
   refine redJ_fit (swp_fit ih) (Nat.le_trans hL (grow_le L c)) ?_
   show gv (rw' (swp [] _ _ c) c) c ≠ _
   rw [swp_at (by rw [hsB.1]; omega)]
   exact i4 (by omega)
theorem redJR_start {rr rc:List Qi} {c:Nat}:rr = redJR rr rc c c:=by
 unfold redJR
 have:(tab rr.length fun j=>if c ≤ j ∧ j < c then gv rr j - gv rr c / gv rc c * gv rc j else gv rr j) = tab rr.length (gv rr):=tab_congr fun j _=>by rw [if_neg (by omega)]
 rw [this]; exact list_tab rfl
theorem redJR_get {rr rc:List Qi} {c k:Nat} (hk:k < rr.length):gv (redJR rr rc c k) k = gv rr k:=by
 rw [redJR,gv_tab hk,if_neg (by omega)]
theorem redJR_next {rr rc:List Qi} {c k:Nat} (hk:k < rr.length) (h:c ≤ k):(redJR rr rc c k).set k (gv (redJR rr rc c k) k - gv rr c / gv rc c * gv rc k) = redJR rr rc c (k + 1):=by
 rw [redJR_get hk]
 apply List.ext_getElem?
 intro j
 by_cases hj:j < rr.length
 ·by_cases e : j = k
  ·subst e
   rw [List.getElem?_set_self (by rw [redJR_len]; exact hj),redJR,tab_get hj,if_pos (by omega)]
  ·rw [List.getElem?_set_ne (Ne.symm e), redJR, redJR, tab_get hj, tab_get hj]
   by_cases e2:c ≤ j ∧ j < k
   ·rw [if_pos e2,if_pos (by omega)]
   ·rw [if_neg e2,if_neg (by omega)]
 ·rw [List.getElem?_eq_none (by rw [List.length_set,redJR_len]; omega),List.getElem?_eq_none (by rw [redJR_len]; omega)]
theorem redJ_start {M:List (List Qi)} {c:Nat}:M = redJ M c 0:=by
 unfold redJ
 have:(tab M.length fun i=>if i ≠ c ∧ i < 0 then redJR (rw' M i) (rw' M c) c (rw' M i).length else rw' M i) = tab M.length (rw' M):=tab_congr fun i _=>by rw [if_neg (by omega)]
 rw [this]; exact tab_eq (h:=rfl)
theorem redJ_at {M:List (List Qi)} {c r i:Nat} (hi:i < M.length) (h:¬ (i ≠ c ∧ i < r)):rw' (redJ M c r) i = rw' M i:=by rw [redJ_row hi,if_neg h]
theorem redJ_skip {M : List (List Qi)} {c : Nat} : redJ M c c = redJ M c (c + 1) := tab_congr fun i _ => by
 by_cases e:i ≠ c ∧ i < c
 ·rw [if_pos e,if_pos (by omega)]
 ·rw [if_neg e,if_neg (by omega)]
theorem redJ_next {M:List (List Qi)} {c r:Nat} (hr:r < M.length) (h:r ≠ c):(redJ M c r).set r (redJR (rw' M r) (rw' M c) c (rw' M r).length) = redJ M c (r + 1):=by
 apply List.ext_getElem?
 intro j
 by_cases hj:j < M.length
 ·by_cases e : j = r
  ·subst e
   rw [List.getElem?_set_self (by rw [redJ_len]; exact hj),redJ,tab_get hj,if_pos ⟨h,by omega⟩]
  ·rw [List.getElem?_set_ne (Ne.symm e), redJ, redJ, tab_get hj, tab_get hj]
   by_cases e2:j ≠ c ∧ j < r
   ·rw [if_pos e2,if_pos ⟨e2.1,by omega⟩]
   ·rw [if_neg e2,if_neg (fun k=>e2 ⟨k.1,by omega⟩)]
 ·rw [List.getElem?_eq_none (by rw [List.length_set,redJ_len]; omega),List.getElem?_eq_none (by rw [redJ_len]; omega)]
theorem stepJ_row {D : List (List Qi)} {r c : Nat} (hr : r < D.length) (h : r ≠ c) (hc : c < D.length) :
  (redJ D c r).set r (redJR (rw' (redJ D c r) r) (rw' (redJ D c r) c) c (rw' (redJ D c r) r).length) = redJ D c (r + 1):=by
 rw [redJ_at hr (by omega),redJ_at hc (by omega)]; exact redJ_next hr h
theorem stepJ_elt {X : List (List Qi)} {r c k : Nat} (hr : r < X.length) (hne : r ≠ c) (hk : k < (rw' X r).length) (hck : c ≤ k) :
  (X.set r (redJR (rw' X r) (rw' X c) c k)).set r ((rw' (X.set r (redJR (rw' X r) (rw' X c) c k)) r).set k (gm (X.set r (redJR (rw' X r) (rw' X c) c k)) r k - gm X r c / gm X c c * gm (X.set r (redJR (rw' X r) (rw' X c) c k)) c k)) = X.set r (redJR (rw' X r) (rw' X c) c (k + 1)):=by
 rw [set_set',rw_set hr]
 have e1:gm (X.set r (redJR (rw' X r) (rw' X c) c k)) r k = gv (redJR (rw' X r) (rw' X c) c k) k:=by show gv (rw' (X.set r _) r) k = _; rw [rw_set hr]
 have e2:gm (X.set r (redJR (rw' X r) (rw' X c) c k)) c k = gv (rw' X c) k:=by show gv (rw' (X.set r _) c) k = _; rw [rw_set_ne hne]
 rw [e1,e2]
 exact congrArg _ (redJR_next hk hck)
theorem eltJ_r {X:List (List Qi)} {r c k:Nat} (hr:r < X.length) (hk:k < (rw' X r).length):gm (X.set r (redJR (rw' X r) (rw' X c) c k)) r k = gv (rw' X r) k:=by
 show gv (rw' (X.set r _) r) k = _
 rw [rw_set hr,redJR_get hk]
theorem eltJ_c {X:List (List Qi)} {r c k j:Nat} (h:r ≠ c):gm (X.set r (redJR (rw' X r) (rw' X c) c k)) c j = gv (rw' X c) j:=by
 show gv (rw' (X.set r _) c) j = _
 rw [rw_set_ne h]
theorem gj_next {M A:List (List Qi)} {n c p:Nat} (hl:M.length = n) (hA:gjTo M c = some A) (hp:pv A c n = p) (hpn:p < n):gjTo M (c + 1) = some (redJ (swp [] A p c) c n):=by
 simp only [gjTo,hA,Option.bind_some,hl,hp]
 rw [if_neg (by omega)]
theorem gj_end {M A : List (List Qi)} {n c : Nat} (hl : M.length = n) (hA : gjTo M c = some A) (hp : pv A c n = n) : ∀ {d : Nat}, c < d → gjTo M d = none
 | 0,h=>by omega
 | d + 1, h => by
  simp only [gjTo]
  by_cases e:c = d
  ·rw [← e,hA,Option.bind_some,hl,if_pos hp]
  ·rw [gj_end hl hA hp (d:=d) (by omega)]; rfl
def gjL (M:List (List Qi)) (b:List Qi) (n:Nat):List Qi:=(gjX M b n).getD []
def gjE (M:List (List Qi)) (b:List Qi) (n:Nat):Int:=if (gjX M b n).isSome then 0 else 6
end
section
open Go Go.RowKit
theorem c_rValid {M:List (List Qi)} {n m:Nat} (h:Shp M n m) (hn:n ≤ 32) (hm:m ≤ 32):Fun Tryz.prog 214 [QM M] (BoolT true):=by
 have hl:=h.1
 refine Fun.intro Tryz.func214 rfl Tryz.ntmps214 rfl (fun cx=>(ts (ro rfl (cQ cV) (eX (cK (ts (rm rfl (ro rfl (dG U_32 (Ht rfl) len_map) (ro rfl (op_gtrN (Ht rfl) (cJ 32)) (eX (T_condF (Ht rfl) (by simp [hl]; omega) ?_)))))))))))
 refine cU (cK (ts (ro rfl (cQ (cJ 0)) (eX (eG ?_)))))
 refine T_loop (fun (i : Nat) => i ≤ n) (fun (i : Nat) => n - i) (fun (i : Nat) => [(0, QM M), (3, NT .i64 i)]) (fun (i : Nat) => []) 0 (Nat.zero_le _)
  (aQ rfl (aQ rfl aX)) aY (fun i hi=>?_)
 refine cK (ts (rm rfl (rm rfl (ro rfl (dG U_32 (Ht rfl) len_map) (ro rfl (gX (Ht rfl) (Ht rfl)) (eX (dQ (Ht rfl) (fun hd=>?_) (fun hd=>?_))))))))
 ·have hdn : i < n := by simp only [decide_eq_true_eq] at hd; omega
  have hr:=h.row hdn
  have hr0:=h.row (i:=0) (by omega)
  simp at hr hr0
  refine cU (cK (eG (cK (fZ (m:=13) (dp 0 rfl (cX (Ht rfl)) (dp 3 rfl (cX (Ht rfl)) (dqq 13 0 14 1 rfl (dZ U_32 Z_31 (Ht rfl) (Ht rfl) rfl (dY (dU (d:=[]) (by omega)))) (dq 15 2 rfl (dJ A_31 Z_31 (Ht rfl)) (dq 16 3 rfl (dG U_31 (Ht rfl) len_map) (dp 0 rfl (cX (Ht rfl)) (dq 18 5 rfl (dZ U_32 Z_31 (Ht rfl) (cJ 0) rfl (dY (dU (d:=[]) (by omega)))) (dq 19 6 rfl (dJ A_31 Z_31 (Ht rfl)) (dq 20 7 rfl (dG U_31 (Ht rfl) len_map) ?_)))))))))))))
  refine dqq 17 4 21 8 rfl (op_neqN (Ht rfl) (Ht rfl)) (dq 22 9 rfl (cX (Ht rfl)) (C.D_step (Ei:=[(0,_),(23,_)]) rfl rfl (bV (bK rfl rfl) (bV (bG 10 rfl rfl) bW)) (eK rfl rfl (Ht rfl) (fun h=>cX (Ht rfl))) (C.D_step (Ei:=[(3,_),(23,_)]) rfl rfl (bV (bK rfl rfl) (bV (bG 10 rfl rfl) bW)) (eK rfl rfl (Ht rfl) (fun h=>cX (Ht rfl))) (fV mixed rfl (by kernel_rfl) (aJ (aJ (aJ (aJ (aJ (aJ (aJ (aJ (aJ (aJ (aJ (aJ (aJ (aV ?_))))))))))))))))))
  refine fQ rfl rfl (eK rfl rfl (Ht rfl) (fun h=>dZ U_32 Z_31 (fJ rfl h) (fJ rfl h) rfl (dY (dU (d:=[]) (by omega))))) (fQ rfl rfl (eK rfl rfl (Ht rfl) (fun h=>dJ A_31 Z_31 (fJ rfl h))) (fQ rfl rfl (eK rfl rfl (Ht rfl) (fun h=>dG U_31 (fJ rfl h) len_map)) (fQ rfl rfl (eK rfl rfl (Ht rfl) (fun h=>op_gtrN (fJ rfl h) (cJ 32))) (ro rfl (op_or (Ht rfl) (fun h=>(fJ rfl h))) (eX (T_condF (Ht rfl) (by simp [hr,hr0]; omega) ?_))))))
  refine cU (T_blk (cY (rm rfl (ro rfl (dV (Ht rfl) (cJ 1) (by show _ < 9223372036854775808; first | omega | (simp only [lim]; omega))) (ra rfl (eX (fU (i + 1) hdn (by omega) (aQ rfl (aQ rfl aX)) aY)))))))
 ·refine gV rfl (ts (ro rfl (cQ cV) (eX ?_)))
  exact fW rfl (eU rfl)
theorem c_rColumns {M:List (List Qi)} {n m:Nat} (h:Shp M n m) (h1:1 ≤ n):Fun Tryz.prog 215 [QM M] (NT .i64 m):=by
 have hl:=h.1
 have hr0:=h.row (i:=0) (by omega)
 refine Fun.intro Tryz.func215 rfl Tryz.ntmps215 rfl (fun cx=>(ts (ro rfl (cQ (cJ 0)) (eX (cK (ts (rm rfl (ro rfl (dG U_32 (Ht rfl) len_map) (ro rfl (op_eqlN (Ht rfl) (cJ 0)) (eX (T_condF (Ht rfl) (by simp [hl]; omega) ?_)))))))))))
 refine cU (ts (rm rfl (ro rfl (dZ U_32 Z_31 (Ht rfl) (cJ 0) rfl (dY (dU (d:=[]) (by omega)))) (ro rfl (dJ A_31 Z_31 (Ht rfl)) (ro rfl (dG U_31 (Ht rfl) len_map) (ra rfl (eX (fW rfl (fX (eU rfl) ?_)))))))))
 exact (nt_of hr0)
theorem c_rSquare {M:List (List Qi)} {n:Nat} (hM:Shp M n n) (h1:1 ≤ n) (hn:n ≤ 32):Fun Tryz.prog 252 [QM M] (BoolT true):=by
 have hl:=hM.1
 refine Fun.intro Tryz.func252 rfl Tryz.ntmps252 rfl (fun cx=>(ts (ro rfl (cQ cV) (eX (ts (rm rfl (ro rfl (cZ Tryz.call214 (c_rValid hM hn hn) ⟨(Ht rfl),trivial⟩) (rm rfl (fQ rfl rfl (eK rfl rfl (Ht rfl) (fun h=>cX (Ht rfl))) (fQ rfl rfl (eK rfl rfl (Ht rfl) (fun h=>dG U_32 (fJ rfl h) len_map)) (fQ rfl rfl (eK rfl rfl (Ht rfl) (fun h=>cX (Ht rfl))) (fQ rfl rfl (eK rfl rfl (Ht rfl) (fun h=>cZ Tryz.call215 (c_rColumns hM h1) ⟨(fJ rfl h),trivial⟩)) (fQ rfl rfl (eK rfl rfl (Ht rfl) (fun h=>op_eqlN (fJ rfl h) (fJ rfl h))) ?_)))))))))))))
 refine ro rfl (op_and (Ht rfl) (fun h=>(fJ rfl h))) (ra rfl (eX (fW rfl (fX (eU rfl) ?_))))
 exact (bool_of (by simp [hl]))
theorem c_rCopyO {M:List (List Qi)} {n m:Nat} (hM:Shp M n m) (hn:n ≤ 1000) (h1:1 ≤ m) (hm:m ≤ 1000):FunO Tryz.prog 105 [QM M] [] (Nat) (fun B=>Is (.slice (some ⟨B,0,none⟩) n n)) (fun B=>[matO B 31 98 5 (FRow QT M)]) (fun _=>True):=by
 have hMl:=hM.1
 refine FunO.intro Tryz.func105 rfl Tryz.ntmps105 rfl (fun cx Z=>(ts (ro rfl (cQ cV) (eX (ts (rm rfl (ro rfl (dG U_32 (Ht rfl) (by rw [List.length_map,hMl])) ?_)))))))
 refine rn rfl (new_make (T:=Is (.slice none 0 0)) (i:=Tryz.t31) Tryz.underlying32 info_31 rfl rfl (Ht rfl) rfl (fun _=>rfl) trivial (by show 24 * _ ≤ _; omega) (by omega)) fun B7=>ra rfl (eX (cK (ts (ro rfl (cQ (cJ 0)) (eX (eG (T_conv 1 rfl (mat_nil (e:=98) (s:=5)) ?_)))))))
 refine T_loop (fun (i : Nat) => i ≤ n) (fun (i : Nat) => n - i) (fun (i : Nat) => [(0, QM M), (3, Is (.slice (some ⟨B7, 0, none⟩) n n)), (4, NT .i64 i)]) (fun (i : Nat) => [Z, matO B7 31 98 5 (FRow QT (mixT (rw' M) [] n i))]) 0 (Nat.zero_le _)
  (aQ rfl (aQ rfl (aQ rfl aX))) (aU (fun _ _ _ h=>h) (aU (matO_of (by rw [← mix_zero,tab_const]; exact rep_FRow QT n)) aY)) (fun i hi=>?_)
 refine cK (ts (rm rfl (rm rfl (ro rfl (dG U_32 (Ht rfl) len_map) (ro rfl (gX (Ht rfl) (Ht rfl)) (eX (dQ (Ht rfl) (fun hd0=>?_) (fun hd0=>?_))))))))
 ·have hdn : i < n := by simp only [decide_eq_true_eq] at hd0; omega
  have hrl:(rw' M i).length = m:=hM.row hdn
  have hrl2:(M.getD i []).length = m:=hrl
  refine T_focus 1 (i) rfl (frow_mix hdn) (fun v0=>(cU (cK (eG (cY (rm rfl (rm rfl (rn rfl (new_bslice0 U_31 Z_98 O_98) fun B16=>(rm rfl (rm rfl (ro rfl (dZ U_32 Z_31 (Ht rfl) (Ht rfl) rfl (dY (dU (d:=[]) (by omega)))) (ro rfl (dJ A_31 Z_31 (Ht rfl)) (R_appendA (inf:=Tryz.t98) und_31 info_98 rfl rfl rfl (Ht rfl) (Ht rfl) (i:=3) rfl (fun T hT=>by obtain ⟨x,_,rfl⟩:=List.mem_map.1 hT; exact El.ag rfl) (by show _ * 88 ≤ _; simp only [List.length_map,List.length_append,List.length_take,List.length_cons,List.length_nil]; omega) (by simp only [List.length_map,List.length_append,List.length_take,List.length_cons,List.length_nil]; omega) rfl (fun v1=>?_))))))))))))))
  refine ro rfl (fY U_32 Z_31 (Ht rfl) (Ht rfl) rfl (by omega) (by rw [Nat.mul_one,Nat.zero_add])) ?_
  refine R_stH Z_31 (Ht rfl) (Ht rfl) (by simp only [FRow,List.length_map,mix_len]; omega) (j:=1) (l:=3) rfl rfl rfl ?_
  refine eX (T_blk (T_keep [0,1,3] rfl (by decide) (T_unfocus 1 2 rfl rfl (by decide) (by simp only [FRow,List.length_map,mix_len]; omega) ?_)))
  refine cY (rm rfl (ro rfl (dV (Ht rfl) (cJ 1) (by show _ < 9223372036854775808; first | omega | (simp only [lim]; omega))) (ra rfl (eX (T_keep [0,1] rfl (by decide) (fU (i + 1) hdn (by omega) (aQ rfl (aQ rfl (aQ rfl aX))) (aU (fun _ _ _ h=>h) (aU (matO_of (by rw [List.nil_append,set_FRow,← mix_set (f:=rw' M)])) aY))))))))
 ·have hin : i = n := by simp only [decide_eq_false_iff_not] at hd0; omega
  subst hin
  refine gV rfl (ts (rm rfl (ra rfl (eX ?_))))
  exact T_retO B7 trivial [0,1] ⟨⟨_,rfl,fun _ _ _ h=>h⟩,⟨_,rfl,(matO_of (by rw [mix_fin]; exact congrArg _ (tab_eq (h:=hMl)).symm))⟩,trivial⟩ (by decide) (rvs1 rfl (eU rfl))
theorem c_rIdO {n:Nat} (hn:n ≤ 32):FunO Tryz.prog 213 [NT .i64 n] [] (Nat) (fun B=>Is (.slice (some ⟨B,0,none⟩) n n)) (fun B=>[matP exactH B 31 98 5 (FRow QT (idM n))]) (fun _=>True):=by
 refine FunO.intro Tryz.func213 rfl Tryz.ntmps213 rfl (fun cx Z=>(ts (ro rfl (cQ cV) (eX (cK (ts (rm rfl (ro rfl (gX (Ht rfl) (cJ 0)) (eX (T_condF (Ht rfl) (by simp) ?_))))))))))
 refine cU (cK (ts (rm rfl (ro rfl (op_gtrN (Ht rfl) (cJ 32)) (eX (T_condF (Ht rfl) (by simp; omega) ?_))))))
 refine cU (ts (rm rfl (rm rfl (R_call0 K_138 (c_ZerosO (n:=n) (m:=n) (by omega) (by omega)) ⟨(Ht rfl),(Ht rfl),trivial⟩ rfl (fun B11 _=>(ra rfl (eX (cK (ts (ro rfl (cQ (cJ 0)) (eX (eG ?_))))))))))))
 refine T_loop (fun (i : Nat) => i ≤ n) (fun (i : Nat) => n - i) (fun (i : Nat) => [(0, NT .i64 n), (3, Is (.slice (some ⟨B11, 0, none⟩) n n)), (4, NT .i64 i)]) (fun (i : Nat) => [Z, matP exactH B11 31 98 5 (FRow QT (mixT (unitR n) (tab n fun _ => Qi.zero) n i))]) 0 (Nat.zero_le _)
  (aQ rfl (aQ rfl (aQ rfl aX))) (aU (fun _ _ _ h=>h) (aU (matO_of (by rw [zeroM,mix_zero])) aY)) (fun i hi=>?_)
 refine cK (ts (rm rfl (rm rfl (ro rfl (gX (Ht rfl) (Ht rfl)) (eX (dQ (Ht rfl) (fun hd0=>?_) (fun hd0=>?_)))))))
 ·have hdn : i < n := by simp only [decide_eq_true_eq] at hd0; omega
  refine T_focusE 1 (i) rfl (frow_mix hdn) (fun v0 hv0=>(cU (cK (eG (fZ (m:=6) (dp 3 rfl (cX (Ht rfl)) (dp 4 rfl (cX (Ht rfl)) (dqq 17 0 18 1 rfl (fY U_32 Z_31 (Ht rfl) (Ht rfl) rfl (by omega) (by rw [Nat.mul_one,Nat.zero_add])) ?_))))))))
  refine dq 19 2 rfl (op_ldH A_31 Z_31 (Ht rfl) (j:=1) rfl) (dp 4 rfl (cX (Ht rfl)) (d0 rfl (cZ K_117 (c_rWhole (n:=1) (by decide) (by decide)) ⟨(cJ 1),trivial⟩) (fV mixed rfl (by kernel_rfl) (aJ (aJ (aJ (aJ (aJ (aJ (aV (ro rfl (op_idxO U_31 Z_98 (Ht rfl) (Ht rfl) rfl (i:=2) rfl (by simp only [List.length_map,tab_len]; omega) rfl) ?_)))))))))))
  refine R_stO Z_98 (Ht rfl) (Ht rfl) (El.ag rfl) (i:=2) rfl rfl (by simp only [List.length_map,tab_len]; omega) rfl ?_
  refine eX (T_blk (T_unfocus 1 2 rfl rfl (by decide) (by simp only [FRow,List.length_map,mix_len]; omega) ?_))
  refine cY (rm rfl (ro rfl (dV (Ht rfl) (cJ 1) (by show _ < 9223372036854775808; first | omega | (simp only [lim]; omega))) (ra rfl (eX (T_keep [0,1] rfl (by decide) (fU (i + 1) hdn (by omega) (aQ rfl (aQ rfl (aQ rfl aX))) (aU (fun _ _ _ h=>h) (aU (matO_of (by rw [set_mapF,set_FRow,← mix_set (f:=unitR n),unitR])) aY))))))))
 ·have hin : i = n := by simp only [decide_eq_false_iff_not] at hd0; omega
  subst hin
  refine gV rfl (ts (rm rfl (ra rfl (eX ?_))))
  exact T_retO B11 trivial [0,1] ⟨⟨_,rfl,fun _ _ _ h=>h⟩,⟨_,rfl,(matO_of (by rw [mix_fin]; rfl))⟩,trivial⟩ (by decide) (rvs1 rfl (eU rfl))
end
section
open Go Go.RowKit
def apM (M:List (List Qi)) (b:List Qi) (n i:Nat):List (List Qi):=tab n fun j=>if j < i then cpRow M [b] j else rw' M j
theorem ap_start {M:List (List Qi)} {b:List Qi} {n:Nat} (h:M.length = n):M = apM M b n 0:=by
 have:apM M b n 0 = tab n (rw' M):=tab_congr fun j _=>by rw [if_neg (by omega)]
 rw [this]; exact tab_eq (h:=h)
theorem ap_fin {M:List (List Qi)} {b:List Qi} {n:Nat}:apM M b n n = copyM M [b] n:=tab_congr fun j hj=>by rw [if_pos hj]
theorem ap_len {M:List (List Qi)} {b:List Qi} {n i:Nat}:(apM M b n i).length = n:=tab_len _ _
theorem frow_ap {M:List (List Qi)} {b:List Qi} {n i:Nat} (h:i < n):(FRow QT (apM M b n i))[i]? = some ((rw' M i).map QT):=by
 rw [FRow,List.getElem?_map,apM,tab_get h,if_neg (by omega)]; rfl
theorem ap_next {M:List (List Qi)} {b:List Qi} {n i:Nat} (h:i < n):(apM M b n i).set i (cpRow M [b] i) = apM M b n (i + 1):=by
 apply List.ext_getElem?
 intro j
 by_cases hj:j < n
 ·by_cases e : j = i
  ·subst e
   rw [List.getElem?_set_self (by rw [ap_len]; exact hj),apM,tab_get hj,if_pos (by omega)]
  ·rw [List.getElem?_set_ne (Ne.symm e), apM, apM, tab_get hj, tab_get hj]
   by_cases e2:j < i
   ·rw [if_pos e2,if_pos (by omega)]
   ·rw [if_neg e2,if_neg (by omega)]
 ·rw [List.getElem?_eq_none (by rw [List.length_set,ap_len]; omega),List.getElem?_eq_none (by rw [ap_len]; omega)]
theorem gjL_of {M A:List (List Qi)} {b:List Qi} {n:Nat} (h:gjTo (copyM M [b] n) n = some A):(tab n fun i=>QT (gm A i n / gm A i i)) = (gjL M b n).map QT:=by rw [gjL,gjX,h,Option.map_some,Option.getD_some,tab_map]
theorem gjE_of {M A:List (List Qi)} {b:List Qi} {n:Nat} (h:gjTo (copyM M [b] n) n = some A):gjE M b n = 0:=by rw [gjE,gjX,h]; rfl
theorem gjL_no {M:List (List Qi)} {b:List Qi} {n:Nat} (h:gjTo (copyM M [b] n) n = none):gjL M b n = []:=by rw [gjL,gjX,h]; rfl
theorem gjE_no {M:List (List Qi)} {b:List Qi} {n:Nat} (h:gjTo (copyM M [b] n) n = none):gjE M b n = 6:=by rw [gjE,gjX,h]; rfl
theorem c_rSolve {M:List (List Qi)} {b:List Qi} {n L:Nat} (hM:Shp M n n) (hb:b.length = n) (hf:FitM M L) (hfb:FitL b L) (hL:1 ≤ L) (h1:1 ≤ n) (hn:n ≤ 32) (hg:6 * grow L n + 4 ≤ 17592186044415):Fun Tryz.prog 230 [QM M,QsT b] (TupT [QsT (gjL M b n),IntT .i64 (gjE M b n)]):=by
 have hMl:=hM.1
 obtain ⟨CM,hC⟩:∃ CM,CM = copyM M [b] n:=⟨_,rfl⟩
 have hs:Shp CM n (n + 1):=by rw [hC]; exact copyM_shp hM
 have hcf:FitM CM L:=by rw [hC]; exact copyM_fit hf (fun r hr=>by simp at hr; subst hr; exact hfb) hL
 have hs1:=hs.1
 refine Fun.intro Tryz.func230 rfl Tryz.ntmps230 rfl (fun cx=>(ts (ro rfl (cQ cV) (ro rfl (cQ (cJ 0)) (eX (cK (ts (rm rfl (ro rfl (cZ Tryz.call252 (c_rSquare hM h1 hn) ⟨(Ht rfl),trivial⟩) (ro rfl (op_not (Ht rfl)) (rm rfl (fQ rfl rfl (eK rfl rfl (Ht rfl) (fun h=>cX (Ht rfl))) (fQ rfl rfl (eK rfl rfl (Ht rfl) (fun h=>dG U_31 (fJ rfl h) len_map)) (fQ rfl rfl (eK rfl rfl (Ht rfl) (fun h=>cX (Ht rfl))) (fQ rfl rfl (eK rfl rfl (Ht rfl) (fun h=>dG U_32 (fJ rfl h) len_map)) ?_)))))))))))))))
 refine fQ rfl rfl (eK rfl rfl (Ht rfl) (fun h=>op_neqN (fJ rfl h) (fJ rfl h))) (ro rfl (op_or (Ht rfl) (fun h=>(fJ rfl h))) (eX (T_condF (Ht rfl) (by simp [hMl,hb]) ?_)))
 refine cU (ts (rm rfl (ro rfl (dG U_32 (Ht rfl) (by rw [List.length_map,hMl])) ?_)))
 refine ra rfl (eX (ts (rm rfl (R_call0 Tryz.call105 (c_rCopyO hM (by omega) h1 (by omega)) ⟨(Ht rfl),trivial⟩ rfl (fun B30 _=>(ra rfl (eX (cK (ts (ro rfl (cQ (cJ 0)) (eX (eG ?_))))))))))))
 refine T_loop (fun (i : Nat) => i ≤ n) (fun (i : Nat) => n - i) (fun (i : Nat) => [(0, QM M), (1, QsT b), (6, NT .i64 n), (7, Is (.slice (some ⟨B30, 0, none⟩) n n)), (8, NT .i64 i)]) (fun (i : Nat) => [matO B30 31 98 5 (FRow QT (apM M b n i))]) 0 (Nat.zero_le _)
  (aQ rfl (aQ rfl (aQ rfl (aQ rfl (aQ rfl aX))))) (aU (matO_of (congrArg _ (ap_start hMl))) aY) (fun i hi=>?_)
 refine cK (ts (rm rfl (rm rfl (ro rfl (gX (Ht rfl) (Ht rfl)) (eX (dQ (Ht rfl) (fun hd0=>?_) (fun hd0=>?_)))))))
 ·have hdn : i < n := by simp only [decide_eq_true_eq] at hd0; omega
  have hrl:(rw' M i).length = n:=hM.row hdn
  have hrl2:(M.getD i []).length = n:=hrl
  refine T_focus 0 (i) rfl (frow_ap hdn) (fun v0=>(cU (cK (eG (Y.D_startA (m:=12) [] 11 1 rfl rfl (bY (Ei:=[(7,_)]) rfl rfl (bQ (bJ rfl rfl) bX) rfl rfl (dX rfl (cX (Ht rfl))) (bY (Ei:=[(8,_)]) rfl rfl (bQ (bJ rfl rfl) bX) rfl rfl (dX rfl (cX (Ht rfl))) (bY (Ei:=[(7,_)]) rfl rfl (bQ (bJ rfl rfl) bX) rfl rfl (dX rfl (cX (Ht rfl))) (bY (Ei:=[(8,_)]) rfl rfl (bQ (bJ rfl rfl) bX) rfl rfl (dX rfl (cX (Ht rfl))) ?_)))))))))
  refine bY (Ei:=[(38,_),(39,_)]) rfl rfl (bQ (bZ 2 rfl rfl) (bQ (bZ 3 rfl rfl) bX)) rfl rfl (dX rfl (fY U_32 Z_31 (Ht rfl) (Ht rfl) rfl (by omega) (by rw [Nat.mul_one,Nat.zero_add]))) ?_
  refine bY (Ei:=[(40,_)]) rfl rfl (bQ (bZ 4 rfl rfl) bX) rfl rfl (dX rfl (op_ldH A_31 Z_31 (Ht rfl) (j:=0) rfl)) (bY (Ei:=[(1,_)]) rfl rfl (bQ (bJ rfl rfl) bX) rfl rfl (dX rfl (cX (Ht rfl))) (bY (Ei:=[(8,_)]) rfl rfl (bQ (bJ rfl rfl) bX) rfl rfl (dX rfl (cX (Ht rfl))) (bY (Ei:=[(42,_),(43,_)]) rfl rfl (bQ (bZ 6 rfl rfl) (bQ (bZ 7 rfl rfl) bX)) rfl rfl (dX rfl (dZ U_31 Z_98 (Ht rfl) (Ht rfl) rfl (dY (dU (d:=Qi.zero) (by omega))))) ?_)))
  refine bY (Ei:=[(44,_)]) rfl rfl (bQ (bZ 8 rfl rfl) bX) rfl rfl (dX rfl (dJ A_98 Z_98 (Ht rfl))) (bY (Ei:=[(45,_)]) rfl rfl (bQ (bZ 9 rfl rfl) bX) rfl rfl (dX rfl (op_bslice (xs:=[.tmp 45]) U_31 Z_98 O_98 (cW (Ht rfl) cG) rfl rfl rfl)) (Y.D_app (Ei:=[(41,_),(46,_)]) rfl rfl rfl rfl (bQ (bZ 5 rfl rfl) (bQ (bZ 10 rfl rfl) bX)) rfl (A_append (inf:=Tryz.t98) und_31 info_98 rfl rfl rfl (Ht rfl) (Ht rfl) (by simp) (fun T hT=>by simp at hT; subst hT; exact El.ag rfl) (by show _ * 88 ≤ _; simp only [List.length_map,List.length_append,List.length_take,List.length_cons,List.length_nil]; omega) (by simp only [List.length_map,List.length_append,List.length_take,List.length_cons,List.length_nil]; omega)) ?_))
  refine Y.D_done mixed rfl (by kernel_rfl) rfl (by simp [Y.okP]) rfl rfl (bU (bU (bU (bU (bU (bU (bU (bU (bU (bU (bU (Y.F_app (fun v2=>Y.F_nil ?_)))))))))))))
  refine ro rfl (fY U_32 Z_31 (Ht rfl) (Ht rfl) rfl (by omega) (by rw [Nat.mul_one,Nat.zero_add])) ?_
  refine R_stH Z_31 (Ht rfl) (Ht rfl) (by simp only [FRow,List.length_map,ap_len]; omega) (j:=0) (l:=2) rfl rfl rfl ?_
  refine eX (T_blk (T_keep [0,2] rfl (by decide) (T_unfocus 0 1 rfl rfl (by decide) (by simp only [FRow,List.length_map,ap_len]; omega) ?_)))
  refine cY (rm rfl (ro rfl (dV (Ht rfl) (cJ 1) (by show _ < 9223372036854775808; first | omega | (simp only [lim]; omega))) (ra rfl (eX (T_keep [0] rfl (by decide) (fU (i + 1) hdn (by omega) (aQ rfl (aQ rfl (aQ rfl (aQ rfl (aQ rfl aX))))) (aU (matO_of (by rw [app_mapF QT _ (gv b i),set_FRow]; exact congrArg _ (ap_next hdn))) aY)))))))
 ·have hin : i = n := by simp only [decide_eq_false_iff_not] at hd0; omega
  subst hin
  rw [ap_fin,← hC]
  refine gV rfl (T_openW 0 rfl (fun vs hvs=>?_))
  have hvs2:Hds vs i:=by have h:=hvs; rw [FRow,List.length_map,hs1] at h; exact h
  refine cK (ts (ro rfl (cQ (cJ 0)) (eX (eG ?_))))
  refine T_loop3 (fun (c : Nat) (vs : List Value) (A : List (List Qi)) => c ≤ i ∧ gjTo CM c = some A ∧ Hds vs i) (fun (c : Nat) (vs : List Value) (A : List (List Qi)) => i - c) (fun (c : Nat) (vs : List Value) (A : List (List Qi)) => [(6, NT .i64 i), (7, Is (.slice (some ⟨B30, 0, none⟩) i i)), (9, NT .i64 c)]) (fun (c : Nat) (vs : List Value) (A : List (List Qi)) => [matW B30 31 98 5 vs vs (FRow QT A)]) 0 vs CM ⟨Nat.zero_le _, rfl, hvs2⟩
   (aQ rfl (aQ rfl (aQ rfl aX))) (HSub.refl _) (fun c vs A ⟨hc,hA,hvs⟩=>?_)
  refine cK (ts (rm rfl (rm rfl (ro rfl (gX (Ht rfl) (Ht rfl)) (eX (dQ (Ht rfl) (fun hcn=>?_) (fun hcn=>?_)))))))
  ·simp only [decide_eq_true_eq] at hcn
   have hcn:c < i:=by omega
   have hvl:=hvs.len
   have hgj:=gj_inv hs (Nat.le_succ i) hc hA
   have hAs:Shp A i (i + 1):=hgj.sh
   have hAf:FitM A (grow L c):=gj_fit hs (Nat.le_succ i) hcf hL hc hA
   have hAl:=hAs.1
   have hgr:grow L c ≤ grow L i:=grow_mono L hc
   have hG1:1 ≤ grow L c:=Nat.le_trans hL (grow_le L c)
   refine cU (cK (eG (ts (rm rfl (ra rfl (eX (cK (eG ?_))))))))
   refine T_loop (fun (p : Nat) => (c ≤ p ∧ p ≤ i) ∧ ∀ r, c ≤ r → r < p → gm A r c = Qi.zero) (fun (p : Nat) => i - p) (fun (p : Nat) => [(6, NT .i64 i), (7, Is (.slice (some ⟨B30, 0, none⟩) i i)), (9, NT .i64 c), (10, NT .i64 p)]) (fun (p : Nat) => [matW B30 31 98 5 vs vs (FRow QT A)]) c ⟨⟨Nat.le_refl _, hc⟩, fun r h1 h2 => by omega⟩
    (aQ rfl (aQ rfl (aQ rfl (aQ rfl aX)))) (HSub.refl _) (fun p ⟨⟨hcp,hpn⟩,hz⟩=>?_)
   refine cK (ts (rm rfl (rm rfl (ro rfl (gX (Ht rfl) (Ht rfl)) (rm rfl (fQ rfl rfl (eK rfl rfl (Ht rfl) (fun h=>cX (Ht rfl))) (fQ rfl rfl (eK rfl rfl (Ht rfl) (fun h=>cX (Ht rfl))) (fQ rfl rfl (eK rfl rfl (Ht rfl) (fun h=>fY U_32 Z_31 (fJ rfl h) (fJ rfl h) rfl (by first | omega | (simp at h; omega)) (by rw [Nat.mul_one,Nat.zero_add]))) ?_))))))))
   refine fQ rfl rfl (eK rfl rfl (Ht rfl) (fun h=>op_ldHW A_31 Z_31 (fJ rfl h) (j:=0) rfl (by simp at h; omega))) ?_
   refine fQ rfl rfl (eK rfl rfl (Ht rfl) (fun h=>cX (Ht rfl))) (fQ rfl rfl (eK rfl rfl (Ht rfl) (fun h=>op_idxW U_31 Z_98 (fJ rfl h) (fJ rfl h) rfl (j:=0) rfl (by omega) (by simp at h; omega) (by simp at h; rw [hAs.row h]; omega))) ?_)
   refine fQ rfl rfl (eK rfl rfl (Ht rfl) (fun h=>op_ldW A_98 Z_98 (fJ rfl h) (j:=0) rfl (by omega) (by simp at h; omega) (by simp at h; rw [hAs.row h]; omega))) ?_
   refine fQ rfl rfl (eK rfl rfl (Ht rfl) (fun h=>cZ Tryz.call160 (c_rZero (x:=gm A p c)) ⟨(fJ rfl h),trivial⟩)) (ro rfl (op_and (Ht rfl) (fun h=>(fJ rfl h))) (eX (dQ (Ht rfl) (fun he=>?_) (fun he=>?_))))
   ·have he2 : p < i ∧ gm A p c = Qi.zero := by simpa using he
    refine cU (eG (cY (rm rfl (ro rfl (dV (Ht rfl) (cJ 1) (by show _ < 9223372036854775808; first | omega | (simp only [lim]; omega))) (ra rfl (eX (T_blk ?_)))))))
    refine fU (p + 1) ⟨⟨by omega, by omega⟩, fun r h1 h2 => by
      by_cases e:r = p
      ·rw [e]; exact he2.2
      ·exact hz r h1 (by omega)⟩ (by omega) (aQ rfl (aQ rfl (aQ rfl (aQ rfl aX)))) (HSub.refl _)
   ·have hpv : pv A c i = p := pv_eq hcp hpn hz (fun h => by simp at he; exact he h)
    refine gV rfl (cK (ts (rm rfl (rm rfl (ro rfl (op_eqlN (Ht rfl) (Ht rfl)) (eX (dQ (Ht rfl) (fun hp=>?_) (fun hp=>?_))))))))
    ·have hp2 : p = i := by simpa using hp
     have hend:gjTo CM i = none:=gj_end hs1 hA (by rw [hpv]; exact hp2) hcn
     rw [hC] at hend
     refine ts (ro rfl (cQ cV) (ro rfl (cQ (cJ 6)) (eX (T_ret2 rfl (fX (eU rfl) ?_) (fX (eU rfl) ?_)))))
     ·exact (fun v V k=>by rw [gjL_no hend]; exact nil_slT v V k)
     ·exact (int_of (gjE_no hend).symm)
    ·have hp2 : p < i := by simp at hp; omega
     have hpz:=(pv_spec (M:=A) (c:=c) (n:=i) hc).2.2.2 (by rw [hpv]; exact hp2)
     rw [hpv] at hpz
     have hnx:=gj_next hs1 hA hpv hp2
     refine cU (cK (Y.D_start (m:=14) [(13,0,matW B30 31 98 5 (vs.set p (hd vs c)) vs (FRow QT A))] (Y.D_step (Ei:=[(7,_)]) rfl rfl (bQ (bJ rfl rfl) bX) rfl rfl (by kernel_rfl) (dX rfl (cX (Ht rfl))) (Y.D_step (Ei:=[(10,_)]) rfl rfl (bQ (bJ rfl rfl) bX) rfl rfl (by kernel_rfl) (dX rfl (cX (Ht rfl))) (bY (Ei:=[(7,_)]) rfl rfl (bQ (bJ rfl rfl) bX) rfl rfl (dX rfl (cX (Ht rfl))) (bY (Ei:=[(9,_)]) rfl rfl (bQ (bJ rfl rfl) bX) rfl rfl (dX rfl (cX (Ht rfl))) ?_))))))
     refine Y.D_step (Ei:=[(7,_)]) rfl rfl (bQ (bJ rfl rfl) bX) rfl rfl (by kernel_rfl) (dX rfl (cX (Ht rfl))) (Y.D_step (Ei:=[(9,_)]) rfl rfl (bQ (bJ rfl rfl) bX) rfl rfl (by kernel_rfl) (dX rfl (cX (Ht rfl))) (Y.D_step (Ei:=[(77,_),(78,_)]) rfl rfl (bQ (bZ 4 rfl rfl) (bQ (bZ 5 rfl rfl) bX)) rfl rfl (by kernel_rfl) (dX rfl (fY U_32 Z_31 (Ht rfl) (Ht rfl) rfl (by omega) (by rw [Nat.mul_one,Nat.zero_add]))) ?_))
     refine Y.D_step (Ei:=[(79,_)]) rfl rfl (bQ (bZ 6 rfl rfl) bX) rfl rfl (by kernel_rfl) (dX rfl (op_ldHW A_31 Z_31 (Ht rfl) (j:=0) rfl (by omega))) (Y.D_step (Ei:=[(7,_)]) rfl rfl (bQ (bJ rfl rfl) bX) rfl rfl (by kernel_rfl) (dX rfl (cX (Ht rfl))) (Y.D_step (Ei:=[(10,_)]) rfl rfl (bQ (bJ rfl rfl) bX) rfl rfl (by kernel_rfl) (dX rfl (cX (Ht rfl))) (Y.D_step (Ei:=[(81,_),(82,_)]) rfl rfl (bQ (bZ 8 rfl rfl) (bQ (bZ 9 rfl rfl) bX)) rfl rfl (by kernel_rfl) (dX rfl (fY U_32 Z_31 (Ht rfl) (Ht rfl) rfl (by omega) (by rw [Nat.mul_one,Nat.zero_add]))) ?_)))
     refine Y.D_step (Ei:=[(83,_)]) rfl rfl (bQ (bZ 10 rfl rfl) bX) rfl rfl (by kernel_rfl) (dX rfl (op_ldHW A_31 Z_31 (Ht rfl) (j:=0) rfl (by omega))) (Y.D_step (Ei:=[(73,_),(74,_)]) rfl rfl (bQ (bZ 0 rfl rfl) (bQ (bZ 1 rfl rfl) bX)) rfl rfl (by kernel_rfl) (dX rfl (fY U_32 Z_31 (Ht rfl) (Ht rfl) rfl (by omega) (by rw [Nat.mul_one,Nat.zero_add]))) ?_)
     refine Y.D_putI (Ei:=[(85,_),(80,_)]) 0 rfl rfl rfl (bQ (bZ 12 rfl rfl) (bQ (bZ 7 rfl rfl) bX)) (.head _) rfl (P_stHW Z_31 (Ht rfl) (Ht rfl) (hvs.pl c (by omega)) (i:=p) (hs:=vs) (by omega)) (Y.D_done mixed rfl (by kernel_rfl) rfl (by simp [Y.okP]) rfl rfl (bU (bU (bU (bU (bU (bU (bU (bU (bU (bU (bU (bU (bU (Y.F_putI (Y.F_nil ?_))))))))))))))))
     refine ro rfl (fY U_32 Z_31 (Ht rfl) (Ht rfl) rfl (by omega) (by rw [Nat.mul_one,Nat.zero_add])) ?_
     refine R_stHW Z_31 (Ht rfl) (Ht rfl) (j:=0) rfl (hvs.pl p (by omega)) (by rw [List.length_set]; omega) rfl ?_
     refine eX (cK (T_conv 0 rfl (matW_swap (hs:=swp nilV vs p c) (p:=p) (c:=c) (by omega) (by omega) (by omega)) ?_))
     have hus:=hvs.swp hp2 hcn
     have hDs:Shp (swp [] A p c) i (i + 1):=swp_shp hAs hp2 hcn
     have hDf:FitM (swp [] A p c) (grow L c):=swp_fit hAf
     have hDz : gm (swp [] A p c) c c ≠ Qi.zero := by
      show gv (rw' (swp [] A p c) c) c ≠ _
      rw [swp_at (by omega)]; exact hpz
     obtain ⟨us,hus2⟩:∃ us,us = swp nilV vs p c:=⟨_,rfl⟩
     obtain ⟨D,hD⟩:∃ D,D = swp [] A p c:=⟨_,rfl⟩
     rw [← hus2] at hus ⊢
     rw [← hD] at hDs hDf hDz hnx ⊢
     have hul:=hus.len
     have hDl:=hDs.1
     refine cY (ro rfl (cQ (cJ 0)) (eX (eG ?_)))
     refine T_loop (fun (r : Nat) => r ≤ i) (fun (r : Nat) => i - r) (fun (r : Nat) => [(6, NT .i64 i), (7, Is (.slice (some ⟨B30, 0, none⟩) i i)), (9, NT .i64 c), (11, NT .i64 r)]) (fun (r : Nat) => [matW B30 31 98 5 us us (FRow QT (redJ D c r))]) 0 (Nat.zero_le _)
      (aQ rfl (aQ rfl (aQ rfl (aQ rfl aX)))) (aU (matW_of (congrArg _ redJ_start)) aY) (fun r hrn=>?_)
     refine cK (ts (rm rfl (rm rfl (ro rfl (gX (Ht rfl) (Ht rfl)) (eX (dQ (Ht rfl) (fun hr=>?_) (fun hr=>?_)))))))
     ·have hr : r < i := by simp only [decide_eq_true_eq] at hr; omega
      refine cU (cK (eG (ts (rm rfl (rm rfl (ro rfl (op_neqN (Ht rfl) (Ht rfl)) (eX (dQ (Ht rfl) (fun hrc=>?_) (fun hrc=>?_)))))))))
      ·have hrc : r ≠ c := by simpa using hrc
       obtain ⟨X,hX⟩:∃ X,X = redJ D c r:=⟨_,rfl⟩
       have hXr:rw' X r = rw' D r:=by rw [hX]; exact redJ_at (by omega) (by omega)
       have hXc:rw' X c = rw' D c:=by rw [hX]; exact redJ_at (by omega) (by omega)
       have hXl:X.length = i:=by rw [hX,redJ_len]; exact hDl
       have hXrl:(rw' X r).length = i + 1:=by rw [hXr]; exact hDs.row hr
       have hXcl:(rw' X c).length = i + 1:=by rw [hXc]; exact hDs.row hcn
       have hXrg:(X.getD r []).length = i + 1:=hXrl
       have hXcg:(X.getD c []).length = i + 1:=hXcl
       have hXfr:FitL (rw' X r) (grow L c):=by rw [hXr]; exact hDf.row r
       have hXfc:FitL (rw' X c) (grow L c):=by rw [hXc]; exact hDf.row c
       haveI g1:FitC (gm X r c) (grow L c):=hXfr.get hG1 c
       haveI g2:FitC (gm X c c) (grow L c):=hXfc.get hG1 c
       have hXz:gm X c c ≠ Qi.zero:=by show gv (rw' X c) c ≠ _; rw [hXc]; exact hDz
       haveI g3:FitC (gm X r c / gm X c c) (grow L c + 3 * grow L c + 2):=⟨g1.fit.div g2.fit hXz⟩
       have hend:=stepJ_row (D:=D) (r:=r) (c:=c) (by omega) hrc (by omega)
       rw [← hX] at hend ⊢
       rw [hXrl] at hend
       have hrU:r < us.length:=by rw [hul]; exact hr
       have hcU:c < us.length:=by rw [hul]; exact hcn
       have hXU:us.length = X.length:=by rw [hul,hXl]
       have hrX:r < X.length:=by rw [hXl]; exact hr
       have hcX:c < X.length:=by rw [hXl]; exact hcn
       have hcr:c < (X.getD r []).length:=by rw [hXrg]; exact Nat.lt_succ_of_lt hcn
       have hcc:c < (X.getD c []).length:=by rw [hXcg]; exact Nat.lt_succ_of_lt hcn
       clear hXrg hXcg hXr hXc
       refine cK (Y.D_start (m:=20) [] (bY (Ei:=[(7,_)]) rfl rfl (bQ (bJ rfl rfl) bX) rfl rfl (dX rfl (cX (Ht rfl))) (bY (Ei:=[(11,_)]) rfl rfl (bQ (bJ rfl rfl) bX) rfl rfl (dX rfl (cX (Ht rfl))) (bY (Ei:=[(96,_),(97,_)]) rfl rfl (bQ (bZ 0 rfl rfl) (bQ (bZ 1 rfl rfl) bX)) rfl rfl (dX rfl (fY U_32 Z_31 (Ht rfl) (Ht rfl) rfl (by omega) (by rw [Nat.mul_one,Nat.zero_add]))) ?_))))
       refine bY (Ei:=[(98,_)]) rfl rfl (bQ (bZ 2 rfl rfl) bX) rfl rfl (dX rfl (op_ldHW A_31 Z_31 (Ht rfl) (j:=0) rfl hrU)) (bY (Ei:=[(9,_)]) rfl rfl (bQ (bJ rfl rfl) bX) rfl rfl (dX rfl (cX (Ht rfl))) (bY (Ei:=[(99,_),(100,_)]) rfl rfl (bQ (bZ 3 rfl rfl) (bQ (bZ 4 rfl rfl) bX)) rfl rfl (dX rfl (op_idxW U_31 Z_98 (Ht rfl) (Ht rfl) rfl (j:=0) rfl hXU hrX hcr)) (bY (Ei:=[(101,_)]) rfl rfl (bQ (bZ 5 rfl rfl) bX) rfl rfl (dX rfl (op_ldW A_98 Z_98 (Ht rfl) (j:=0) rfl hXU hrX hcr)) ?_)))
       refine bY (Ei:=[(7,_)]) rfl rfl (bQ (bJ rfl rfl) bX) rfl rfl (dX rfl (cX (Ht rfl))) (bY (Ei:=[(9,_)]) rfl rfl (bQ (bJ rfl rfl) bX) rfl rfl (dX rfl (cX (Ht rfl))) (bY (Ei:=[(103,_),(104,_)]) rfl rfl (bQ (bZ 7 rfl rfl) (bQ (bZ 8 rfl rfl) bX)) rfl rfl (dX rfl (fY U_32 Z_31 (Ht rfl) (Ht rfl) rfl (by omega) (by rw [Nat.mul_one,Nat.zero_add]))) ?_))
       refine bY (Ei:=[(105,_)]) rfl rfl (bQ (bZ 9 rfl rfl) bX) rfl rfl (dX rfl (op_ldHW A_31 Z_31 (Ht rfl) (j:=0) rfl hcU)) (bY (Ei:=[(9,_)]) rfl rfl (bQ (bJ rfl rfl) bX) rfl rfl (dX rfl (cX (Ht rfl))) (bY (Ei:=[(106,_),(107,_)]) rfl rfl (bQ (bZ 10 rfl rfl) (bQ (bZ 11 rfl rfl) bX)) rfl rfl (dX rfl (op_idxW U_31 Z_98 (Ht rfl) (Ht rfl) rfl (j:=0) rfl hXU hcX hcc)) (bY (Ei:=[(108,_)]) rfl rfl (bQ (bZ 12 rfl rfl) bX) rfl rfl (dX rfl (op_ldW A_98 Z_98 (Ht rfl) (j:=0) rfl hXU hcX hcc)) ?_)))
       refine bY (Ei:=[(102,_),(109,_)]) rfl rfl (bQ (bZ 6 rfl rfl) (bQ (bZ 13 rfl rfl) bX)) rfl rfl (dX rfl (cZ Tryz.call102 (c_rQDiv (x:=gm X r c) (y:=gm X c c) (L:=grow L c) (M:=grow L c) (by omega)) ⟨(Ht rfl),(Ht rfl),trivial⟩)) (bY (Ei:=[(110,_)]) rfl rfl (bQ (bZ 14 rfl rfl) bX) rfl rfl (dX rfl (cX (Ht rfl))) (bY (Ei:=[(95,_)]) rfl rfl (bQ (bZ 15 rfl rfl) bX) rfl rfl (dX rfl (dK (Ht rfl) rfl)) (bY (Ei:=[(95,_)]) rfl rfl (bQ (bZ 15 rfl rfl) bX) rfl rfl (dX rfl (dK (Ht rfl) rfl)) ?_)))
       refine Y.D_newp (Ei:=[]) (fun bb=>box bb 98 [BoolT (decide ((gm X r c / gm X c c).a < 0)),NatT (gm X r c / gm X c c).a.natAbs,BoolT (decide ((gm X r c / gm X c c).b < 0)),NatT (gm X r c / gm X c c).b.natAbs,NatT (gm X r c / gm X c c).den]) 19 rfl rfl rfl bX rfl rfl (by kernel_rfl) (eW (Ts:=[Is (.bool false),Is (.slice none 0 0),Is (.bool false),Is (.slice none 0 0),Is (.slice none 0 0)]) O_98 rfl (fun V=>aW ⟨rfl,trivial⟩ (aW ⟨rfl,trivial⟩ (aW ⟨rfl,trivial⟩ (aW ⟨rfl,trivial⟩ (aW ⟨rfl,trivial⟩ (aG))))))) ?_
       refine Y.D_putN (Ei:=[(111,_)]) 18 rfl rfl rfl rfl rfl rfl (bQ (bZ 16 rfl rfl) bX) (fun bb=>P_stA Z_98 (Ht rfl) (Ht rfl) rfl (i:=0) rfl (aK rfl) rfl rfl) (Y.D_done mixed rfl (by kernel_rfl) rfl (by simp [Y.okP]) rfl rfl (bU (bU (bU (bU (bU (bU (bU (bU (bU (bU (bU (bU (bU (bU (bU (bU (bU (bU (Y.F_newp (fun B12=>Y.F_putN (Y.F_nil ?_))))))))))))))))))))))
       refine ra rfl (eX (ts (rm rfl (ra rfl (eX (eG ?_))))))
       refine T_loop (fun (k : Nat) => c ≤ k ∧ k ≤ i + 1) (fun (k : Nat) => i + 1 - k) (fun (k : Nat) => [(6, NT .i64 i), (7, Is (.slice (some ⟨B30, 0, none⟩) i i)), (9, NT .i64 c), (11, NT .i64 r), (12, PtrB B12 0), (14, NT .i64 k)]) (fun (k : Nat) => [matW B30 31 98 5 us us (FRow QT (X.set r (redJR (rw' X r) (rw' X c) c k))), box B12 98 [BoolT (decide ((gm X r c / gm X c c).a < 0)), NatT (gm X r c / gm X c c).a.natAbs, BoolT (decide ((gm X r c / gm X c c).b < 0)), NatT (gm X r c / gm X c c).b.natAbs, NatT (gm X r c / gm X c c).den]]) c ⟨Nat.le_refl _, by omega⟩
        (aQ rfl (aQ rfl (aQ rfl (aQ rfl (aQ rfl (aQ rfl aX)))))) (aU (matW_of (by rw [← redJR_start,set_rw (by omega)])) (aU (box_of rfl) aY)) (fun k ⟨hck,hkm⟩=>?_)
       refine cK (ts (rm rfl (rm rfl (ro rfl (op_leqN (Ht rfl) (Ht rfl)) (eX (dQ (Ht rfl) (fun hk=>?_) (fun hk=>?_)))))))
       ·have hk2 : k < i + 1 := by simp only [decide_eq_true_eq] at hk; omega
        obtain ⟨Y,hY⟩:∃ Y,Y = (X.set r (redJR (rw' X r) (rw' X c) c k)):=⟨_,rfl⟩
        have e1:gm Y r k = gv (rw' X r) k:=by rw [hY]; exact eltJ_r hrX (by rw [hXrl]; exact hk2)
        have e2:gm Y c k = gv (rw' X c) k:=by rw [hY]; exact eltJ_c hrc
        haveI y1:FitC (gm Y r k) (grow L c):=by rw [e1]; exact hXfr.get hG1 k
        haveI y2:FitC (gm Y c k) (grow L c):=by rw [e2]; exact hXfc.get hG1 k
        have hst:=stepJ_elt (X:=X) (r:=r) (c:=c) (k:=k) hrX hrc (by rw [hXrl]; exact hk2) hck
        have hYU:us.length = Y.length:=by rw [hY,List.length_set]; exact hXU
        have hrY:r < Y.length:=by rw [← hYU]; exact hrU
        have hcY:c < Y.length:=by rw [← hYU]; exact hcU
        have hkr:k < (Y.getD r []).length:=by show k < (rw' Y r).length; rw [hY,rw_set hrX,redJR_len,hXrl]; exact hk2
        have hkc:k < (Y.getD c []).length:=by show k < (rw' Y c).length; rw [hY,rw_set_ne hrc,hXcl]; exact hk2
        rw [← hY] at hst ⊢
        clear hXrl hXcl hXU hrX hcX hcr hcc
        refine cU (cK (eG (fZ (m:=22) (dp 7 rfl (cX (Ht rfl)) (dp 11 rfl (cX (Ht rfl)) (dqq 119 0 120 1 rfl (fY U_32 Z_31 (Ht rfl) (Ht rfl) rfl (by omega) (by rw [Nat.mul_one,Nat.zero_add])) ?_))))))
        refine dq 121 2 rfl (op_ldHW A_31 Z_31 (Ht rfl) (j:=0) rfl hrU) (dp 14 rfl (cX (Ht rfl)) (dp 7 rfl (cX (Ht rfl)) (dp 11 rfl (cX (Ht rfl)) (dqq 124 5 125 6 rfl (fY U_32 Z_31 (Ht rfl) (Ht rfl) rfl (by omega) (by rw [Nat.mul_one,Nat.zero_add])) ?_))))
        refine dq 126 7 rfl (op_ldHW A_31 Z_31 (Ht rfl) (j:=0) rfl hrU) (dp 14 rfl (cX (Ht rfl)) (dqq 127 8 128 9 rfl (op_idxW U_31 Z_98 (Ht rfl) (Ht rfl) rfl (j:=0) rfl hYU hrY hkr) (dq 129 10 rfl (op_ldW A_98 Z_98 (Ht rfl) (j:=0) rfl hYU hrY hkr) (dp 12 rfl (eJ A_98 Z_98 (Ht rfl) (i:=1) rfl rfl rfl) (dp 7 rfl (cX (Ht rfl)) (dp 9 rfl (cX (Ht rfl)) (dqq 132 13 133 14 rfl (fY U_32 Z_31 (Ht rfl) (Ht rfl) rfl (by omega) (by rw [Nat.mul_one,Nat.zero_add])) ?_)))))))
        refine dq 134 15 rfl (op_ldHW A_31 Z_31 (Ht rfl) (j:=0) rfl hcU) (dp 14 rfl (cX (Ht rfl)) (dqq 135 16 136 17 rfl (op_idxW U_31 Z_98 (Ht rfl) (Ht rfl) rfl (j:=0) rfl hYU hcY hkc) (dq 137 18 rfl (op_ldW A_98 Z_98 (Ht rfl) (j:=0) rfl hYU hcY hkc) (dqq 131 12 138 19 rfl (cZ K_99 (c_rMul (x:=gm X r c / gm X c c) (y:=gm Y c k) (L:=grow L c + 3 * grow L c + 2) (M:=grow L c) (by omega)) ⟨(Ht rfl),(Ht rfl),trivial⟩) (dqq 130 11 139 20 rfl (cZ Tryz.call158 (c_rSub (x:=gm Y r k) (y:=gm X r c / gm X c c * gm Y c k) (L:=grow L c) (M:=grow L c + 3 * grow L c + 2 + grow L c + 1) (by omega)) ⟨(Ht rfl),(Ht rfl),trivial⟩) ?_)))))
        refine fV mixed rfl (by kernel_rfl) (aJ (aJ (aJ (aJ (aJ (aJ (aJ (aJ (aJ (aJ (aJ (aJ (aJ (aJ (aJ (aJ (aJ (aJ (aJ (aJ (aJ (aJ (aV (ro rfl (op_idxW U_31 Z_98 (Ht rfl) (Ht rfl) rfl (j:=0) rfl hYU hrY hkr) (R_stW Z_98 (Ht rfl) (Ht rfl) (j:=0) rfl (El.ag rfl) (F:=QT) (z:=gm Y r k - gm X r c / gm X c c * gm Y c k) hYU hrY hkr rfl (eX (T_blk (cY (rm rfl (ro rfl (dV (Ht rfl) (cJ 1) (by show _ < 9223372036854775808; first | omega | (simp only [lim]; omega))) ?_))))))))))))))))))))))))))))))
        refine ra rfl (eX (fU (k + 1) ⟨by omega,hk2⟩ (by omega) (aQ rfl (aQ rfl (aQ rfl (aQ rfl (aQ rfl (aQ rfl aX)))))) (aU (matW_of (congrArg _ hst)) (aU (box_of rfl) aY))))
       ·have hk3 : k = i + 1 := by simp only [decide_eq_false_iff_not] at hk; omega
        subst hk3
        refine gV rfl (T_blk (cY (rm rfl (ro rfl (dV (Ht rfl) (cJ 1) (by show _ < 9223372036854775808; first | omega | (simp only [lim]; omega))) (ra rfl (eX (T_keep [0] rfl (by decide) (fU (r + 1) hr (by omega) (aQ rfl (aQ rfl (aQ rfl (aQ rfl aX)))) (aU (matW_of (congrArg _ hend)) aY)))))))))
      ·have hrc : r = c := by simpa using hrc
       subst hrc
       refine cU (T_blk (cY (rm rfl (ro rfl (dV (Ht rfl) (cJ 1) (by show _ < 9223372036854775808; first | omega | (simp only [lim]; omega))) (ra rfl (eX (fU (r + 1) hr (by omega) (aQ rfl (aQ rfl (aQ rfl (aQ rfl aX)))) (aU (matW_of (congrArg _ redJ_skip)) aY))))))))
     ·have hri : r = i := by simp only [decide_eq_false_iff_not] at hr; omega
      subst hri
      refine gV rfl (T_blk (cY (rm rfl (ro rfl (dV (Ht rfl) (cJ 1) (by show _ < 9223372036854775808; first | omega | (simp only [lim]; omega))) (ra rfl (eX (fU (c + 1,us,redJ D c r) ⟨hcn,hnx,hus⟩ (by dsimp only; omega) (aQ rfl (aQ rfl (aQ rfl aX))) (HSub.refl _))))))))
  ·have hci : c = i := by simp only [decide_eq_false_iff_not] at hcn; omega
   subst hci
   have hvl:=hvs.len
   have hgj:=gj_inv hs (Nat.le_succ c) hc hA
   have hAs:Shp A c (c + 1):=hgj.sh
   have hAf:FitM A (grow L c):=gj_fit hs (Nat.le_succ c) hcf hL hc hA
   have hAl:=hAs.1
   have hG1:1 ≤ grow L c:=Nat.le_trans hL (grow_le L c)
   rw [hC] at hA
   refine gV rfl (ts (rm rfl (rn rfl (new_makeO (T:=ZQ) (i:=Tryz.t98) und_31 info_98 rfl rfl (Ht rfl) rfl zq_p (El.ag rfl) (by show 88 * _ ≤ _; omega) (by omega)) fun B143=>(ra rfl (eX (cK (ts (ro rfl (cQ (cJ 0)) (eX (eG ?_))))))))))
   refine T_loop (fun (j : Nat) => j ≤ c) (fun (j : Nat) => c - j) (fun (j : Nat) => [(6, NT .i64 c), (7, Is (.slice (some ⟨B30, 0, none⟩) c c)), (15, Is B143), (16, NT .i64 j)]) (fun (j : Nat) => [matW B30 31 98 5 vs vs (FRow QT A), rowO 98 5 B143 (mixT (fun j => QT (gm A j c / gm A j j)) ZQ c j)]) 0 (Nat.zero_le _)
    (aQ rfl (aQ rfl (aQ rfl (aQ rfl aX)))) (aU (fun _ _ _ h=>h) (aU (rowO_of (by rw [← mix_zero]; exact rep_tab _ _)) aY)) (fun j hj=>?_)
   refine cK (ts (rm rfl (rm rfl (ro rfl (gX (Ht rfl) (Ht rfl)) (eX (dQ (Ht rfl) (fun hq=>?_) (fun hq=>?_)))))))
   ·have hq : j < c := by simp only [decide_eq_true_eq] at hq; omega
    have hrr:(A.getD j []).length = c + 1:=hAs.row hq
    haveI f1:FitC (gm A j c) (grow L c):=hAf.get hG1 j c
    haveI f2:FitC (gm A j j) (grow L c):=hAf.get hG1 j j
    refine cU (cK (eG (Y.D_start (m:=22) [(21,1,rowO 98 5 B143 ((mixT (fun j=>QT (gm A j c / gm A j j)) ZQ c j).set j (QT (gm A j c / gm A j j))))] (Y.D_step (Ei:=[(15,_)]) rfl rfl (bQ (bJ rfl rfl) bX) rfl rfl (by kernel_rfl) (dX rfl (cX (Ht rfl))) (Y.D_step (Ei:=[(16,_)]) rfl rfl (bQ (bJ rfl rfl) bX) rfl rfl (by kernel_rfl) (dX rfl (cX (Ht rfl))) (Y.D_step (Ei:=[(7,_)]) rfl rfl (bQ (bJ rfl rfl) bX) rfl rfl (by kernel_rfl) (dX rfl (cX (Ht rfl))) (Y.D_step (Ei:=[(16,_)]) rfl rfl (bQ (bJ rfl rfl) bX) rfl rfl (by kernel_rfl) (dX rfl (cX (Ht rfl))) ?_)))))))
    refine Y.D_step (Ei:=[(152,_),(153,_)]) rfl rfl (bQ (bZ 2 rfl rfl) (bQ (bZ 3 rfl rfl) bX)) rfl rfl (by kernel_rfl) (dX rfl (fY U_32 Z_31 (Ht rfl) (Ht rfl) rfl (by omega) (by rw [Nat.mul_one,Nat.zero_add]))) ?_
    refine Y.D_step (Ei:=[(154,_)]) rfl rfl (bQ (bZ 4 rfl rfl) bX) rfl rfl (by kernel_rfl) (dX rfl (op_ldHW A_31 Z_31 (Ht rfl) (j:=0) rfl (by omega))) (Y.D_step (Ei:=[(6,_)]) rfl rfl (bQ (bJ rfl rfl) bX) rfl rfl (by kernel_rfl) (dX rfl (cX (Ht rfl))) (Y.D_step (Ei:=[(155,_),(156,_)]) rfl rfl (bQ (bZ 5 rfl rfl) (bQ (bZ 6 rfl rfl) bX)) rfl rfl (by kernel_rfl) (dX rfl (op_idxW U_31 Z_98 (Ht rfl) (Ht rfl) rfl (j:=0) rfl (by omega) (by omega) (by omega))) ?_))
    refine Y.D_step (Ei:=[(157,_)]) rfl rfl (bQ (bZ 7 rfl rfl) bX) rfl rfl (by kernel_rfl) (dX rfl (op_ldW A_98 Z_98 (Ht rfl) (j:=0) rfl (by omega) (by omega) (by omega))) (Y.D_step (Ei:=[(7,_)]) rfl rfl (bQ (bJ rfl rfl) bX) rfl rfl (by kernel_rfl) (dX rfl (cX (Ht rfl))) (Y.D_step (Ei:=[(16,_)]) rfl rfl (bQ (bJ rfl rfl) bX) rfl rfl (by kernel_rfl) (dX rfl (cX (Ht rfl))) (Y.D_step (Ei:=[(159,_),(160,_)]) rfl rfl (bQ (bZ 9 rfl rfl) (bQ (bZ 10 rfl rfl) bX)) rfl rfl (by kernel_rfl) (dX rfl (fY U_32 Z_31 (Ht rfl) (Ht rfl) rfl (by omega) (by rw [Nat.mul_one,Nat.zero_add]))) ?_)))
    refine Y.D_step (Ei:=[(161,_)]) rfl rfl (bQ (bZ 11 rfl rfl) bX) rfl rfl (by kernel_rfl) (dX rfl (op_ldHW A_31 Z_31 (Ht rfl) (j:=0) rfl (by omega))) (Y.D_step (Ei:=[(16,_)]) rfl rfl (bQ (bJ rfl rfl) bX) rfl rfl (by kernel_rfl) (dX rfl (cX (Ht rfl))) (Y.D_step (Ei:=[(162,_),(163,_)]) rfl rfl (bQ (bZ 12 rfl rfl) (bQ (bZ 13 rfl rfl) bX)) rfl rfl (by kernel_rfl) (dX rfl (op_idxW U_31 Z_98 (Ht rfl) (Ht rfl) rfl (j:=0) rfl (by omega) (by omega) (by omega))) ?_))
    refine Y.D_step (Ei:=[(164,_)]) rfl rfl (bQ (bZ 14 rfl rfl) bX) rfl rfl (by kernel_rfl) (dX rfl (op_ldW A_98 Z_98 (Ht rfl) (j:=0) rfl (by omega) (by omega) (by omega))) (Y.D_step (Ei:=[(158,_),(165,_)]) rfl rfl (bQ (bZ 8 rfl rfl) (bQ (bZ 15 rfl rfl) bX)) rfl rfl (by kernel_rfl) (dX rfl (cZ Tryz.call102 (c_rQDiv (x:=gm A j c) (y:=gm A j j) (L:=grow L c) (M:=grow L c) (by omega)) ⟨(Ht rfl),(Ht rfl),trivial⟩)) (Y.D_step (Ei:=[(166,_)]) rfl rfl (bQ (bZ 16 rfl rfl) bX) rfl rfl (by kernel_rfl) (dX rfl (cX (Ht rfl))) ?_))
    refine Y.D_step (Ei:=[(149,_)]) rfl rfl (bQ (bZ 17 rfl rfl) bX) rfl rfl (by kernel_rfl) (dX rfl (dK (Ht rfl) rfl)) (bY (Ei:=[(149,_)]) rfl rfl (bQ (bZ 17 rfl rfl) bX) rfl rfl (dX rfl (dK (Ht rfl) rfl)) (Y.D_step (Ei:=[(150,_),(151,_)]) rfl rfl (bQ (bZ 0 rfl rfl) (bQ (bZ 1 rfl rfl) bX)) rfl rfl (by kernel_rfl) (dX rfl (op_idxO U_31 Z_98 (Ht rfl) (Ht rfl) rfl (i:=1) rfl (by rw [mix_len]; omega) rfl)) ?_))
    refine Y.D_putI (Ei:=[(169,_),(167,_)]) 1 rfl rfl rfl (bQ (bZ 20 rfl rfl) (bQ (bZ 18 rfl rfl) bX)) (.head _) rfl (P_stO Z_98 (Ht rfl) (Ht rfl) (El.ag rfl) (i:=0) rfl rfl (by rw [mix_len]; omega)) ?_
    refine Y.D_done mixed rfl (by kernel_rfl) rfl (by simp [Y.okP]) rfl rfl (bU (bU (bU (bU (bU (bU (bU (bU (bU (bU (bU (bU (bU (bU (bU (bU (bU (bU (bU (bU (bU (Y.F_putI (Y.F_nil ?_)))))))))))))))))))))))
    refine eX (T_blk (cY (rm rfl (ro rfl (dV (Ht rfl) (cJ 1) (by show _ < 9223372036854775808; first | omega | (simp only [lim]; omega))) (ra rfl (eX (fU (j + 1) hq (by omega) (aQ rfl (aQ rfl (aQ rfl (aQ rfl aX)))) (aU (fun _ _ _ h=>h) (aU (rowO_of (mix_set (f:=(fun j=>QT (gm A j c / gm A j j))))) aY)))))))))
   ·have hjc : j = c := by simp only [decide_eq_false_iff_not] at hq; omega
    subst hjc
    rw [mix_fin]
    refine gV rfl (gJ (i:=1) (tt:=15) rfl rfl frz_row (ts (rm rfl (ra rfl (ro rfl (cQ (cJ 0)) (eX (T_ret2 rfl (fX (eU rfl) ?_) (fX (eU rfl) ?_))))))))
    ·exact (slT_of (gjL_of hA))
    ·exact (int_of (gjE_of hA).symm)
end
section
open Go Go.RowKit
def sidR (a b:List (List Qi)) (x y i:Nat):List Qi:=tab (x + y) fun j=>if i < x then (if j < x then gm a i j else Qi.zero) else (if x ≤ j then gm b (i - x) (j - x) else Qi.zero)
def sidM (a b:List (List Qi)) (x y:Nat):List (List Qi):=tab (x + y) (sidR a b x y)
theorem sidM_shp (a b:List (List Qi)) (x y:Nat):Shp (sidM a b x y) (x + y) (x + y):=⟨tab_len _ _,fun r hr=>by obtain ⟨i,_,rfl⟩:=tab_mem.1 hr; exact tab_len _ _⟩
theorem sidM_fit {a b : List (List Qi)} {x y L : Nat} (ha : FitM a L) (hb : FitM b L) (hL : 1 ≤ L) : FitM (sidM a b x y) L := fun r hr => by
 obtain ⟨i,_,rfl⟩:=tab_mem.1 hr
 refine FitL.tab fun j _=>?_
 split
 ·split
  ·exact ha.get hL _ _
  ·exact FitC.zero hL
 ·split
  ·exact hb.get hL _ _
  ·exact FitC.zero hL
theorem sidM_gm {a b:List (List Qi)} {x y i j:Nat} (hi:i < x + y) (hj:j < x + y):gm (sidM a b x y) i j = if i < x then (if j < x then gm a i j else Qi.zero) else (if x ≤ j then gm b (i - x) (j - x) else Qi.zero):=by
 have e:(sidM a b x y).getD i [] = sidR a b x y i:=by rw [sidM,List.getD,tab_get hi]; rfl
 show gv ((sidM a b x y).getD i []) j = _
 rw [e,sidR,gv_tab hj]
def rowS (f:Nat → Qi) (lo hi n:Nat):List Qi:=tab n fun k=>if lo ≤ k ∧ k < hi then f k else Qi.zero
theorem rowS_len (f:Nat → Qi) (lo hi n:Nat):(rowS f lo hi n).length = n:=tab_len _ _
theorem rowS_start (f:Nat → Qi) (lo n:Nat):(tab n fun _=>Qi.zero) = rowS f lo lo n:=tab_congr fun k _=>by rw [if_neg (by omega)]
theorem rowS_next {f:Nat → Qi} {lo hi n:Nat} (h:lo ≤ hi):(rowS f lo hi n).set hi (f hi) = rowS f lo (hi + 1) n:=by
 apply List.ext_getElem?
 intro j
 by_cases hj:j < n
 ·by_cases e : j = hi
  ·subst e; rw [List.getElem?_set_self (by rw [rowS_len]; exact hj),rowS,tab_get hj,if_pos (by omega)]
  ·rw [List.getElem?_set_ne (Ne.symm e), rowS, rowS, tab_get hj, tab_get hj]
   by_cases e2:lo ≤ j ∧ j < hi
   ·rw [if_pos e2,if_pos (by omega)]
   ·rw [if_neg e2,if_neg (by omega)]
 ·rw [List.getElem?_eq_none (by rw [List.length_set,rowS_len]; omega),List.getElem?_eq_none (by rw [rowS_len]; omega)]
theorem rowS_fst {a b : List (List Qi)} {x y i : Nat} (h : i < x) : rowS (gm a i) 0 x (x + y) = sidR a b x y i := tab_congr fun k _ => by
 rw [if_pos h]
 by_cases e:k < x
 ·rw [if_pos ⟨Nat.zero_le _,e⟩,if_pos e]
 ·rw [if_neg (fun k=>e k.2),if_neg e]
theorem rowS_snd {a b : List (List Qi)} {x y i : Nat} : rowS (fun k => gm b i (k - x)) x (x + y) (x + y) = sidR a b x y (x + i) := tab_congr fun k hk => by
 rw [if_neg (show ¬ x + i < x by omega),show x + i - x = i by omega]
 by_cases e:x ≤ k
 ·rw [if_pos ⟨e,hk⟩,if_pos e]
 ·rw [if_neg (fun k=>e k.1),if_neg e]
end
section
open Go Go.RowKit
theorem mapQ_ne {l : List Qi} (h : 1 ≤ l.length) : l.map QT ≠ [] := fun e => by
 have h2:=congrArg List.length e
 rw [List.length_map,List.length_nil] at h2; omega
theorem rn_of {Ts:List Ty} {T:Ty} {z:List Qi} (h:Ts = z.map QT):∀ v V,(AggT [SlT 5 Ts,T]).p v V → (AggT [SlT 5 (z.map QT),T]).p v V:=fun _ _ k=>h ▸ k
theorem c_side {z zb:List Qi} {a b:List (List Qi)} {x y:Nat} (ha:Shp a x x) (hb:Shp b y y) (hz:z.length = x) (hzb:zb.length = y) (hx1:1 ≤ x) (hy1:1 ≤ y) (hx:x ≤ 100) (hy:y ≤ 100):Fun Tryz.prog 155 [RNetT z a,RNetT zb b] (RNetT (z ++ zb) (sidM a b x y)):=by
 have hal:=ha.1
 have hbl:=hb.1
 refine Fun.intro Tryz.func155 rfl Tryz.ntmps155 rfl (fun cx=>(ts (rn rfl (fG (Ht rfl)) fun B2=>(rn rfl (fG (Ht rfl)) fun B3=>(rn rfl (eW (Ts:=[Is (.slice none 0 0),Is (.slice none 0 0)]) O_34 rfl (fun V=>aW ⟨rfl,trivial⟩ (aW ⟨rfl,trivial⟩ (aG)))) fun B4=>(eX (cK (fZ (m:=7) (dp 2 rfl (eZ fa_34_0 (Ht rfl) rfl) (dq 12 0 rfl (eY A_31 Z_31 (Ht rfl) (i:=0) rfl rfl) (dq 13 1 rfl (dG U_31 (Ht rfl) (by rw [List.length_map,hz])) ?_)))))))))))
 refine dp 3 rfl (eZ fa_34_0 (Ht rfl) rfl) (dq 15 3 rfl (eY A_31 Z_31 (Ht rfl) (i:=1) rfl rfl) (dq 16 4 rfl (dG U_31 (Ht rfl) (by rw [List.length_map,hzb])) ?_))
 refine dq 14 2 rfl (cQ (Ht rfl)) (fV mixed rfl (by kernel_rfl) (aJ (aJ (aJ (aJ (aJ (aJ (aJ (aV (ra rfl (eX (cK (fZ (m:=16) (C.D_tmp (Ei:=[]) rfl rfl rfl bW (new_bslice0 U_31 Z_98 O_98) (dp 2 rfl (eZ fa_34_0 (Ht rfl) rfl) (dq 19 1 rfl (eY A_31 Z_31 (Ht rfl) (i:=0) rfl rfl) (C.D_app (Ei:=[(20,_)]) 0 false rfl rfl rfl rfl rfl rfl (bV (bG 2 rfl rfl) bW) (fun x21=>A_appendS (inf:=Tryz.t98) und_31 info_98 rfl rfl rfl (Ht rfl) (Ht rfl) (mapQ_ne (by omega)) (fun T hT=>by obtain ⟨x,_,rfl⟩:=List.mem_map.1 hT; exact El.ag rfl) (by show _ * 88 ≤ _; simp only [List.length_map,List.length_append,List.length_nil]; omega) (by simp only [List.length_map,List.length_append,List.length_nil]; omega)) ?_)))))))))))))))))
 refine dp 3 rfl (eZ fa_34_0 (Ht rfl) rfl) (dq 22 4 rfl (eY A_31 Z_31 (Ht rfl) (i:=1) rfl rfl) (C.D_app (Ei:=[(23,_)]) 3 true rfl rfl rfl rfl rfl rfl (bV (bG 5 rfl rfl) bW) (fun x24=>A_appendS (inf:=Tryz.t98) und_31 info_98 rfl rfl rfl (Ht rfl) (Ht rfl) (mapQ_ne (by omega)) (fun T hT=>by obtain ⟨x,_,rfl⟩:=List.mem_map.1 hT; exact El.ag rfl) (by show _ * 88 ≤ _; simp only [List.length_map,List.length_append,List.length_nil]; omega) (by simp only [List.length_map,List.length_append,List.length_nil]; omega)) ?_))
 refine dp 5 rfl (cX (Ht rfl)) (dp 6 rfl (cX (Ht rfl)) (dqq 25 7 26 8 rfl (dV (Ht rfl) (Ht rfl) (by show _ < 9223372036854775808; first | omega | (simp only [lim]; omega))) (dp 5 rfl (cX (Ht rfl)) (dp 6 rfl (cX (Ht rfl)) (dqq 28 10 29 11 rfl (dV (Ht rfl) (Ht rfl) (by show _ < 9223372036854775808; first | omega | (simp only [lim]; omega))) (C.D_new (Ei:=[(27,_),(30,_)]) rfl rfl rfl (bV (bG 9 rfl rfl) (bV (bG 12 rfl rfl) bW)) (new_call0 K_138 (c_ZerosO (n:=x + y) (m:=x + y) (by omega) (by omega)) ⟨(Ht rfl),(Ht rfl),trivial⟩) ?_))))))
 refine C.D_dep (fun T U=>AggT [T,U]) 6 13 rfl rfl rfl rfl rfl rfl (fun T U hT hU=>by obtain ⟨x,rfl⟩:=hT; obtain ⟨y,rfl⟩:=hU; (try dsimp only); exact dX rfl (bld_34_0_1 (Ht rfl) (Ht rfl))) (C.D_new (Ei:=[]) rfl rfl rfl bW (eW (Ts:=[Is (.slice none 0 0),Is (.slice none 0 0)]) O_34 rfl (fun V=>aW ⟨rfl,trivial⟩ (aW ⟨rfl,trivial⟩ (aG)))) (fV mixed rfl (by kernel_rfl) (C.F_tmp (fun B18=>aJ (aJ (C.F_tmp (fun v21=>aJ (aJ (C.F_new (fun v24=>aJ (aJ (aJ (aJ (aJ (aJ (C.F_new (fun B31=>C.F_dep rfl rfl (C.F_new (fun B7=>aV ?_)))))))))))))))))))
 refine gQ Z_34 (Ht rfl) (Ht rfl) rfl (i:=5) rfl (aK rfl) rfl rfl (eX (cK (ts (ro rfl (cQ (cJ 0)) (eX (eG ?_))))))
 generalize Value.slice (some ⟨v24.1,0,none⟩) ([] ++ List.map QT z ++ List.map QT zb).length v24.2 = vz
 refine T_loop (fun (i : Nat) => i ≤ x) (fun (i : Nat) => x - i) (fun (i : Nat) => [(2, PtrB B2 0), (3, PtrB B3 0), (4, PtrB B4 0), (5, NT .i64 x), (6, NT .i64 y), (7, PtrB B7 0), (8, NT .i64 i)]) (fun (i : Nat) => [box B2 34 [QsT z, QM a], box B3 34 [QsT zb, QM b], box B4 34 [Is (.slice none 0 0), Is (.slice none 0 0)], rowO 98 5 vz ([] ++ List.map QT z ++ List.map QT zb), matP exactH B31 31 98 5 (FRow QT (mixT (sidR a b x y) (tab (x + y) fun _ => Qi.zero) (x + y) i)), box B7 34 [Is vz, Is (.slice (some ⟨B31, 0, none⟩) (x + y) (x + y))]]) 0 (Nat.zero_le _)
  (aQ rfl (aQ rfl (aQ rfl (aQ rfl (aQ rfl (aQ rfl (aQ rfl aX))))))) (aU (box_of rfl) (aU (box_of rfl) (aU (box_of rfl) (aU (fun _ _ _ h=>h) (aU (matO_of (by rw [zeroM,mix_zero])) (aU (box_of rfl) aY)))))) (fun i hi=>?_)
 refine cK (ts (rm rfl (rm rfl (ro rfl (gX (Ht rfl) (Ht rfl)) (eX (dQ (Ht rfl) (fun hd=>?_) (fun hd=>?_)))))))
 ·have hdn : i < x := by simp only [decide_eq_true_eq] at hd; omega
  have har:=ha.row hdn
  refine T_focusE 4 (i) rfl (frow_mix (by omega)) (fun v0 hv0=>(cU (cK (eG (ts (ro rfl (cQ (cJ 0)) (eX (eG ?_))))))))
  refine T_loop (fun (j : Nat) => j ≤ x) (fun (j : Nat) => x - j) (fun (j : Nat) => [(2, PtrB B2 0), (3, PtrB B3 0), (4, PtrB B4 0), (5, NT .i64 x), (6, NT .i64 y), (7, PtrB B7 0), (8, NT .i64 i), (9, NT .i64 j)]) (fun (j : Nat) => [box B2 34 [QsT z, QM a], box B3 34 [QsT zb, QM b], box B4 34 [Is (.slice none 0 0), Is (.slice none 0 0)], rowO 98 5 vz ([] ++ List.map QT z ++ List.map QT zb), matQ exactH B31 31 98 5 (FRow QT (mixT (sidR a b x y) (tab (x + y) fun _ => Qi.zero) (x + y) i)) i v0, box B7 34 [Is vz, Is (.slice (some ⟨B31, 0, none⟩) (x + y) (x + y))], rowO 98 5 v0 ((rowS (gm a i) 0 j (x + y)).map QT)]) 0 (Nat.zero_le _)
   (aQ rfl (aQ rfl (aQ rfl (aQ rfl (aQ rfl (aQ rfl (aQ rfl (aQ rfl aX)))))))) (aU (box_of rfl) (aU (box_of rfl) (aU (box_of rfl) (aU (fun _ _ _ h=>h) (aU (fun _ _ _ h=>h) (aU (box_of rfl) (aU (rowO_of (by rw [← rowS_start])) aY))))))) (fun j hj=>?_)
  refine cK (ts (rm rfl (rm rfl (ro rfl (gX (Ht rfl) (Ht rfl)) (eX (dQ (Ht rfl) (fun he=>?_) (fun he=>?_)))))))
  ·have hen : j < x := by simp only [decide_eq_true_eq] at he; omega
   refine cU (cK (eG (fZ (m:=14) (dp 7 rfl (eZ fa_34_1 (Ht rfl) rfl) (dq 43 0 rfl (eY A_32 Z_32 (Ht rfl) (i:=5) rfl rfl) (dp 8 rfl (cX (Ht rfl)) (dqq 44 1 45 2 rfl (fY U_32 Z_31 (Ht rfl) (Ht rfl) rfl (by omega) (by rw [Nat.mul_one,Nat.zero_add])) ?_)))))))
   refine dq 46 3 rfl (op_ldH A_31 Z_31 (Ht rfl) (j:=4) rfl) (dp 9 rfl (cX (Ht rfl)) (dp 2 rfl (eZ fa_34_1 (Ht rfl) rfl) (dq 49 6 rfl (eY A_32 Z_32 (Ht rfl) (i:=0) rfl rfl) (dp 8 rfl (cX (Ht rfl)) (dqq 50 7 51 8 rfl (dZ U_32 Z_31 (Ht rfl) (Ht rfl) rfl (dY (dU (d:=[]) (by omega)))) (dq 52 9 rfl (dJ A_31 Z_31 (Ht rfl)) (dp 9 rfl (cX (Ht rfl)) (dqq 53 10 54 11 rfl (dZ U_31 Z_98 (Ht rfl) (Ht rfl) rfl (dY (dU (d:=Qi.zero) (by omega)))) ?_))))))))
   refine dq 55 12 rfl (dJ A_98 Z_98 (Ht rfl)) (fV mixed rfl (by kernel_rfl) (aJ (aJ (aJ (aJ (aJ (aJ (aJ (aJ (aJ (aJ (aJ (aJ (aJ (aJ (aV (ro rfl (op_idxO U_31 Z_98 (Ht rfl) (Ht rfl) rfl (i:=6) rfl (by rw [List.length_map,rowS_len]; omega) rfl) ?_)))))))))))))))))
   refine R_stO Z_98 (Ht rfl) (Ht rfl) (El.ag rfl) (i:=6) rfl rfl (by rw [List.length_map,rowS_len]; omega) rfl ?_
   refine eX (T_blk (cY (rm rfl (ro rfl (dV (Ht rfl) (cJ 1) (by show _ < 9223372036854775808; first | omega | (simp only [lim]; omega))) (ra rfl (eX (fU (j + 1) hen (by omega) (aQ rfl (aQ rfl (aQ rfl (aQ rfl (aQ rfl (aQ rfl (aQ rfl (aQ rfl aX)))))))) (aU (box_of rfl) (aU (box_of rfl) (aU (box_of rfl) (aU (fun _ _ _ h=>h) (aU (fun _ _ _ h=>h) (aU (box_of rfl) (aU (rowO_of (by rw [set_mapF]; exact congrArg _ (rowS_next (Nat.zero_le _)))) aY))))))))))))))
  ·have hjx : j = x := by simp only [decide_eq_false_iff_not] at he; omega
   subst hjx
   rw [rowS_fst hdn]
   refine gV rfl (T_blk (T_unfocus 4 6 rfl rfl (by decide) (by simp only [FRow,List.length_map,mix_len]; omega) ?_))
   refine cY (rm rfl (ro rfl (dV (Ht rfl) (cJ 1) (by show _ < 9223372036854775808; first | omega | (simp only [lim]; omega))) (ra rfl (eX (T_keep [0,1,2,3,4,5] rfl (by decide) (fU (i + 1) hdn (by omega) (aQ rfl (aQ rfl (aQ rfl (aQ rfl (aQ rfl (aQ rfl (aQ rfl aX))))))) (aU (box_of rfl) (aU (box_of rfl) (aU (box_of rfl) (aU (fun _ _ _ h=>h) (aU (matO_of (by rw [set_FRow,← mix_set (f:=sidR a b j y)])) (aU (box_of rfl) aY))))))))))))
 ·have hix : i = x := by simp only [decide_eq_false_iff_not] at hd; omega
  subst hix
  refine gV rfl (cK (ts (ro rfl (cQ (cJ 0)) (eX (eG ?_)))))
  refine T_loop (fun (r : Nat) => r ≤ y) (fun (r : Nat) => y - r) (fun (r : Nat) => [(2, PtrB B2 0), (3, PtrB B3 0), (4, PtrB B4 0), (5, NT .i64 i), (6, NT .i64 y), (7, PtrB B7 0), (10, NT .i64 r)]) (fun (r : Nat) => [box B2 34 [QsT z, QM a], box B3 34 [QsT zb, QM b], box B4 34 [Is (.slice none 0 0), Is (.slice none 0 0)], rowO 98 5 vz ([] ++ List.map QT z ++ List.map QT zb), matP exactH B31 31 98 5 (FRow QT (mixT (sidR a b i y) (tab (i + y) fun _ => Qi.zero) (i + y) (i + r))), box B7 34 [Is vz, Is (.slice (some ⟨B31, 0, none⟩) (i + y) (i + y))]]) 0 (Nat.zero_le _)
   (aQ rfl (aQ rfl (aQ rfl (aQ rfl (aQ rfl (aQ rfl (aQ rfl aX))))))) (aU (box_of rfl) (aU (box_of rfl) (aU (box_of rfl) (aU (fun _ _ _ h=>h) (aU (matO_of rfl) (aU (box_of rfl) aY)))))) (fun r hr=>?_)
  refine cK (ts (rm rfl (rm rfl (ro rfl (gX (Ht rfl) (Ht rfl)) (eX (dQ (Ht rfl) (fun hd2=>?_) (fun hd2=>?_)))))))
  ·have hrn : r < y := by simp only [decide_eq_true_eq] at hd2; omega
   have hbr:=hb.row hrn
   refine T_focusE 4 ((i + r)) rfl (frow_mix (by omega)) (fun v0 hv0=>(cU (cK (eG (ts (ro rfl (cQ (cJ 0)) (eX (eG ?_))))))))
   refine T_loop (fun (j : Nat) => j ≤ y) (fun (j : Nat) => y - j) (fun (j : Nat) => [(2, PtrB B2 0), (3, PtrB B3 0), (4, PtrB B4 0), (5, NT .i64 i), (6, NT .i64 y), (7, PtrB B7 0), (10, NT .i64 r), (11, NT .i64 j)]) (fun (j : Nat) => [box B2 34 [QsT z, QM a], box B3 34 [QsT zb, QM b], box B4 34 [Is (.slice none 0 0), Is (.slice none 0 0)], rowO 98 5 vz ([] ++ List.map QT z ++ List.map QT zb), matQ exactH B31 31 98 5 (FRow QT (mixT (sidR a b i y) (tab (i + y) fun _ => Qi.zero) (i + y) (i + r))) (i + r) v0, box B7 34 [Is vz, Is (.slice (some ⟨B31, 0, none⟩) (i + y) (i + y))], rowO 98 5 v0 ((rowS (fun k => gm b r (k - i)) i (i + j) (i + y)).map QT)]) 0 (Nat.zero_le _)
    (aQ rfl (aQ rfl (aQ rfl (aQ rfl (aQ rfl (aQ rfl (aQ rfl (aQ rfl aX)))))))) (aU (box_of rfl) (aU (box_of rfl) (aU (box_of rfl) (aU (fun _ _ _ h=>h) (aU (fun _ _ _ h=>h) (aU (box_of rfl) (aU (rowO_of (by rw [rowS_start (fun k=>gm b r (k - i)) i]; rfl)) aY))))))) (fun j hj2=>?_)
   refine cK (ts (rm rfl (rm rfl (ro rfl (gX (Ht rfl) (Ht rfl)) (eX (dQ (Ht rfl) (fun he2=>?_) (fun he2=>?_)))))))
   ·have hen : j < y := by simp only [decide_eq_true_eq] at he2; omega
    have hnx:=rowS_next (f:=(fun k=>gm b r (k - i))) (lo:=i) (hi:=i + j) (n:=i + y) (by omega)
    simp only [Nat.add_sub_cancel_left] at hnx
    refine cU (cK (eG (fZ (m:=18) (dp 7 rfl (eZ fa_34_1 (Ht rfl) rfl) (dq 68 0 rfl (eY A_32 Z_32 (Ht rfl) (i:=5) rfl rfl) (dp 5 rfl (cX (Ht rfl)) (dp 10 rfl (cX (Ht rfl)) (dqq 70 2 71 3 rfl (dV (Ht rfl) (Ht rfl) (by show _ < 9223372036854775808; first | omega | (simp only [lim]; omega))) (dqq 69 1 72 4 rfl (fY U_32 Z_31 (Ht rfl) (Ht rfl) rfl (by omega) (by rw [Nat.mul_one,Nat.zero_add])) ?_)))))))))
    refine dq 73 5 rfl (op_ldH A_31 Z_31 (Ht rfl) (j:=4) rfl) (dp 5 rfl (cX (Ht rfl)) (dp 11 rfl (cX (Ht rfl)) (dqq 75 7 76 8 rfl (dV (Ht rfl) (Ht rfl) (by show _ < 9223372036854775808; first | omega | (simp only [lim]; omega))) (dp 3 rfl (eZ fa_34_1 (Ht rfl) rfl) (dq 78 10 rfl (eY A_32 Z_32 (Ht rfl) (i:=1) rfl rfl) (dp 10 rfl (cX (Ht rfl)) (dqq 79 11 80 12 rfl (dZ U_32 Z_31 (Ht rfl) (Ht rfl) rfl (dY (dU (d:=[]) (by omega)))) (dq 81 13 rfl (dJ A_31 Z_31 (Ht rfl)) ?_))))))))
    refine dp 11 rfl (cX (Ht rfl)) (dqq 82 14 83 15 rfl (dZ U_31 Z_98 (Ht rfl) (Ht rfl) rfl (dY (dU (d:=Qi.zero) (by omega)))) (dq 84 16 rfl (dJ A_98 Z_98 (Ht rfl)) (fV mixed rfl (by kernel_rfl) (aJ (aJ (aJ (aJ (aJ (aJ (aJ (aJ (aJ (aJ (aJ (aJ (aJ (aJ (aJ (aJ (aJ (aJ (aV (ro rfl (op_idxO U_31 Z_98 (Ht rfl) (Ht rfl) rfl (i:=6) rfl (by rw [List.length_map,rowS_len]; omega) rfl) ?_)))))))))))))))))))))))
    refine R_stO Z_98 (Ht rfl) (Ht rfl) (El.ag rfl) (i:=6) rfl rfl (by rw [List.length_map,rowS_len]; omega) rfl ?_
    refine eX (T_blk (cY (rm rfl (ro rfl (dV (Ht rfl) (cJ 1) (by show _ < 9223372036854775808; first | omega | (simp only [lim]; omega))) (ra rfl (eX (fU (j + 1) hen (by omega) (aQ rfl (aQ rfl (aQ rfl (aQ rfl (aQ rfl (aQ rfl (aQ rfl (aQ rfl aX)))))))) (aU (box_of rfl) (aU (box_of rfl) (aU (box_of rfl) (aU (fun _ _ _ h=>h) (aU (fun _ _ _ h=>h) (aU (box_of rfl) (aU (rowO_of (by rw [set_mapF]; exact congrArg _ hnx)) aY))))))))))))))
   ·have hjx : j = y := by simp only [decide_eq_false_iff_not] at he2; omega
    subst hjx
    rw [rowS_snd (a:=a) (b:=b)]
    refine gV rfl (T_blk (T_unfocus 4 6 rfl rfl (by decide) (by simp only [FRow,List.length_map,mix_len]; omega) ?_))
    refine cY (rm rfl (ro rfl (dV (Ht rfl) (cJ 1) (by show _ < 9223372036854775808; first | omega | (simp only [lim]; omega))) (ra rfl (eX (T_keep [0,1,2,3,4,5] rfl (by decide) (fU (r + 1) hrn (by omega) (aQ rfl (aQ rfl (aQ rfl (aQ rfl (aQ rfl (aQ rfl (aQ rfl aX))))))) (aU (box_of rfl) (aU (box_of rfl) (aU (box_of rfl) (aU (fun _ _ _ h=>h) (aU (matO_of (by rw [set_FRow,mix_set (f:=sidR a b i j)]; rfl)) (aU (box_of rfl) aY))))))))))))
  ·have hry : r = y := by simp only [decide_eq_false_iff_not] at hd2; omega
   subst hry
   rw [mix_fin]
   refine gV rfl (cK (T_frzcell 5 3 0 rfl rfl rfl (by decide) (T_frzcellG 5 4 1 rfl rfl rfl (by decide) (frzM (q:=exactH) (M:=sidM a b i r) (tab_len _ _).symm) (cY (ro rfl (eJ A_34 Z_34 (Ht rfl) (i:=5) rfl rfl rfl) (gQ Z_34 (Ht rfl) (Ht rfl) rfl (i:=2) rfl (aK rfl) rfl rfl (eX (fW rfl (fX (fK A_34 Z_34 rfl (i:=2) rfl rfl) ?_)))))))))
   exact (rn_of (by rw [List.nil_append,List.map_append]))
end
section
open Go Go.RowKit
abbrev pA (ps:List (Nat × Nat)) (k:Nat):Nat:=(ps.getD k (0,0)).1
abbrev pB (ps:List (Nat × Nat)) (k:Nat):Nat:=(ps.getD k (0,0)).2
def toL (n : Nat) (ps : List (Nat × Nat)) : Nat → List Int
 | 0=>tab n fun _=>-1
 | k + 1=>((toL n ps k).set (pA ps k) (pB ps k:Int)).set (pB ps k) (pA ps k:Int)
abbrev tv (to:List Int) (i:Nat):Int:=to.getD i 0
theorem toL_len (n : Nat) (ps : List (Nat × Nat)) : ∀ k, (toL n ps k).length = n
 | 0=>tab_len _ _
 | k + 1=>by rw [toL,List.length_set,List.length_set,toL_len n ps k]
theorem toL_mem {n : Nat} {ps : List (Nat × Nat)} : ∀ {k : Nat}, (∀ j, j < k → pA ps j < n ∧ pB ps j < n) → ∀ x, x ∈ toL n ps k → -1 ≤ x ∧ x < n
 | 0,_,x,hx=>by obtain ⟨i,_,rfl⟩:=tab_mem.1 hx; omega
 | k + 1, h, x, hx => by
  have hk:=h k (Nat.lt_succ_self k)
  rcases List.mem_or_eq_of_mem_set hx with h1 | h1
  ·rcases List.mem_or_eq_of_mem_set h1 with h2 | h2
   ·exact toL_mem (fun j hj=>h j (by omega)) x h2
   ·rw [h2]; omega
  ·rw [h1]; omega
theorem tv_mem {to:List Int} {i:Nat} (h:i < to.length):tv to i ∈ to:=by
 have e:tv to i = to[i]:=by simp [tv,List.getD,h]
 rw [e]; exact List.getElem_mem h
def lfL (to : List Int) : Nat → List Nat
 | 0=>[]
 | k + 1=>lfL to k ++ (if tv to k < 0 then [k] else [])
theorem lfL_lt {to : List Int} : ∀ {k x : Nat}, x ∈ lfL to k → x < k
 | 0,x,h=>by cases h
 | k + 1, x, h => by
  rcases List.mem_append.1 h with h1 | h1
  ·have:=lfL_lt h1; omega
  ·split at h1
   ·have:=List.mem_singleton.1 h1; omega
   ·cases h1
theorem lfL_len (to : List Int) : ∀ k, (lfL to k).length ≤ k
 | 0=>Nat.le_refl _
 | k + 1 => by
  have:=lfL_len to k
  simp only [lfL,List.length_append]
  split
  ·simp; omega
  ·simp; omega
def cnR (S : List (List Qi)) (to : List Int) (n i : Nat) : Nat → List Qi
 | 0=>unitR n i
 | j + 1=>if tv to j < 0 then cnR S to n i j else (cnR S to n i j).set (tv to j).toNat (gv (cnR S to n i j) (tv to j).toNat - gm S i j)
theorem unitR_len (n i:Nat):(unitR n i).length = n:=by rw [unitR,List.length_set,tab_len]
theorem cnR_len (S : List (List Qi)) (to : List Int) (n i : Nat) : ∀ j, (cnR S to n i j).length = n
 | 0=>unitR_len n i
 | j + 1 => by
  simp only [cnR]
  split
  ·exact cnR_len S to n i j
  ·rw [List.length_set,cnR_len S to n i j]
theorem cnR_fit {S : List (List Qi)} {to : List Int} {n i L : Nat} (h : FitM S L) (hL : 1 ≤ L) : ∀ j, FitL (cnR S to n i j) (1 + j * (L + 1))
 | 0=>unitR_fit (by omega)
 | j + 1 => by
  have ih:=cnR_fit (to:=to) (n:=n) (i:=i) h hL j
  have e:1 + (j + 1) * (L + 1) = 1 + j * (L + 1) + L + 1:=by rw [Nat.add_mul]; omega
  simp only [cnR]
  split
  ·exact ih.le (by omega)
  ·intro x hx
   rcases List.mem_or_eq_of_mem_set hx with h1 | h1
   ·exact (ih x h1).le (by omega)
   ·rw [h1, e]
    haveI f1:=ih.get (by omega) (tv to j).toNat
    haveI f2:=h.get hL i j
    infer_instance
def cnM (S:List (List Qi)) (to:List Int) (n:Nat):List (List Qi):=tab n fun i=>cnR S to n i n
theorem cnM_shp (S:List (List Qi)) (to:List Int) (n:Nat):Shp (cnM S to n) n n:=⟨tab_len _ _,fun r hr=>by obtain ⟨i,_,rfl⟩:=tab_mem.1 hr; exact cnR_len S to n i n⟩
theorem cnM_fit {S:List (List Qi)} {to:List Int} {n L:Nat} (h:FitM S L) (hL:1 ≤ L):FitM (cnM S to n) (1 + n * (L + 1)):=fun r hr=>by obtain ⟨i,_,rfl⟩:=tab_mem.1 hr; exact cnR_fit h hL n
def cnB (S:List (List Qi)) (n l:Nat):List Qi:=tab n fun i=>gm S i l
theorem cnB_fit {S:List (List Qi)} {n l L:Nat} (h:FitM S L) (hL:1 ≤ L):FitL (cnB S n l) L:=FitL.tab fun i _=>h.get hL i l
def colP (val:Nat → Nat → Qi) (n m k i:Nat):List (List Qi):=tab n fun r=>tab m fun j=>if j < k ∨ j = k ∧ r < i then val r j else Qi.zero
theorem colP_shp (val:Nat → Nat → Qi) (n m k i:Nat):Shp (colP val n m k i) n m:=Shp.tab
theorem colP_zero (val:Nat → Nat → Qi) (n m:Nat):zeroM n m = colP val n m 0 0:=tab_congr fun r _=>tab_congr fun j _=>by rw [if_neg (by omega)]
theorem colP_col (val : Nat → Nat → Qi) (n m k : Nat) : colP val n m k n = colP val n m (k + 1) 0 := tab_congr fun r hr => tab_congr fun j _ => by
 by_cases h:j < k ∨ j = k ∧ r < n
 ·rw [if_pos h,if_pos (by omega)]
 ·rw [if_neg h,if_neg (by omega)]
theorem colP_fin (val:Nat → Nat → Qi) (n m:Nat):colP val n m m 0 = tab n fun r=>tab m fun j=>val r j:=tab_congr fun r _=>tab_congr fun j hj=>by rw [if_pos (by omega)]
theorem colP_next {val:Nat → Nat → Qi} {n m k i:Nat} (hi:i < n) (hk:k < m):(colP val n m k i).set i (((colP val n m k i).getD i []).set k (val i k)) = colP val n m k (i + 1):=by
 apply List.ext_getElem?
 intro r
 by_cases hr:r < n
 ·by_cases e : r = i
  ·subst e
   rw [List.getElem?_set_self (by rw [(colP_shp _ _ _ _ _).1]; exact hr),colP,colP,tab_get (f:=fun r=>tab m fun j=>if j < k ∨ j = k ∧ r < _ + 1 then val r j else Qi.zero) hr]
   congr 1
   have:(tab n fun x=>tab m fun j=>if j < k ∨ j = k ∧ x < r then val x j else Qi.zero).getD r [] = tab m fun j=>if j < k ∨ j = k ∧ r < r then val r j else Qi.zero:=tab_getD hr
   rw [this]
   apply List.ext_getElem?
   intro j
   by_cases hj:j < m
   ·by_cases e2 : j = k
    ·subst e2
     rw [List.getElem?_set_self (by rw [tab_len]; exact hj),tab_get hj,if_pos (by omega)]
    ·rw [List.getElem?_set_ne (Ne.symm e2), tab_get hj, tab_get hj]
     by_cases e3:j < k
     ·rw [if_pos (.inl e3),if_pos (.inl e3)]
     ·rw [if_neg (by omega),if_neg (by omega)]
   ·rw [List.getElem?_eq_none (by rw [List.length_set,tab_len]; omega),List.getElem?_eq_none (by rw [tab_len]; omega)]
  ·rw [List.getElem?_set_ne (Ne.symm e), colP, colP, tab_get hr, tab_get hr]
   congr 1
   refine tab_congr fun j _=>?_
   by_cases e3:j < k ∨ j = k ∧ r < i
   ·rw [if_pos e3,if_pos (by omega)]
   ·rw [if_neg e3,if_neg (by omega)]
 ·rw [List.getElem?_eq_none (by rw [List.length_set,(colP_shp _ _ _ _ _).1]; omega),List.getElem?_eq_none (by rw [(colP_shp _ _ _ _ _).1]; omega)]
def cnV (S:List (List Qi)) (to:List Int) (n:Nat) (lf:List Nat) (x y:Nat):Qi:=gv (gjL (cnM S to n) (cnB S n (lf.getD y 0)) n) (lf.getD x 0)
def cnE (S:List (List Qi)) (to:List Int) (n:Nat) (lf:List Nat):Int:=firstE (fun y=>gjE (cnM S to n) (cnB S n (lf.getD y 0)) n) lf.length
end
section
open Go Go.RowKit
theorem grow_monoL {L M : Nat} (h : L ≤ M) : ∀ c, grow L c ≤ grow M c
 | 0=>h
 | c + 1=>by have:=grow_monoL h c; simp only [grow]; omega
theorem gjL_len {M:List (List Qi)} {b:List Qi} {n:Nat} (h:Shp M n n) (he:gjE M b n = 0):(gjL M b n).length = n:=by
 cases hX:gjX M b n with
 | none=>simp only [gjE,hX,Option.isSome_none] at he; exact absurd he (by decide)
 | some X=>simp only [gjL,hX,Option.getD_some]; exact (gjX_some h hX).1
theorem gv_set {l:List Qi} {t k:Nat} {v:Qi} (ht:t < l.length):gv (l.set t v) k = if k = t then v else gv l k:=by
 simp only [gv,List.getD]
 by_cases e:k = t
 ·subst e; rw [if_pos rfl,List.getElem?_set_self ht]; rfl
 ·rw [if_neg e,List.getElem?_set_ne (Ne.symm e)]
theorem sumN_set {l:List Qi} {n t:Nat} {v:Qi} {x:Nat → Qi} (hl:l.length = n) (ht:t < n):sumN n (fun k=>gv (l.set t v) k * x k) = sumN n (fun k=>gv l k * x k) + (v - gv l t) * x t:=by
 have e : ∀ k, k < n → gv (l.set t v) k * x k = gv l k * x k + (if k = t then (v - gv l t) * x t else 0) := fun k hk => by
  rw [gv_set (by omega)]
  by_cases c:k = t
  ·subst c; rw [if_pos rfl,if_pos rfl]; grind
  ·rw [if_neg c,if_neg c]; grind
 rw [sumN_congr e,sumN_add,sumN_single (i:=t) ht (fun k _ hk=>if_neg hk),if_pos rfl]
def cnT (S:List (List Qi)) (to:List Int) (x:Nat → Qi) (i j:Nat):Qi:=if tv to j < 0 then 0 else gm S i j * x (tv to j).toNat
theorem unitR_sum {n i:Nat} (hi:i < n) (x:Nat → Qi):sumN n (fun k=>gv (unitR n i) k * x k) = x i:=by
 rw [unitR,sumN_set (tab_len _ _) hi,sumN_all0 (fun k hk=>by rw [gv_tab hk,q0]; grind),gv_tab hi,q0,q1]; grind
theorem cnR_sum {S : List (List Qi)} {to : List Int} {n i : Nat} (hi : i < n) (hto : ∀ j, j < n → tv to j < n) (x : Nat → Qi) : ∀ J, J ≤ n → sumN n (fun k => gv (cnR S to n i J) k * x k) = x i - sumN J (cnT S to x i)
 | 0,_=>by rw [cnR,unitR_sum hi]; simp only [sumN,q0]; grind
 | J + 1, h => by
  have ih:=cnR_sum (S:=S) hi hto x J (by omega)
  have hj:=hto J (by omega)
  by_cases c:tv to J < 0
  ·rw [cnR,if_pos c,ih]; simp only [sumN,cnT,if_pos c]; grind
  ·rw [cnR,if_neg c,sumN_set (cnR_len ..) (by omega),ih]; simp only [sumN,cnT,if_neg c]; grind
theorem cnM_row {S:List (List Qi)} {to:List Int} {n i k:Nat} (hi:i < n):gm (cnM S to n) i k = gv (cnR S to n i n) k:=by
 show gv ((cnM S to n).getD i []) k = _
 rw [cnM,tab_getD hi]
theorem cnM_sum {S:List (List Qi)} {to:List Int} {n i:Nat} (hi:i < n) (hto:∀ j,j < n → tv to j < n) (x:Nat → Qi):sumN n (fun k=>gm (cnM S to n) i k * x k) = x i - sumN n (cnT S to x i):=by
 rw [← cnR_sum hi hto x n (Nat.le_refl n)]; exact sumN_congr fun k _=>by rw [cnM_row hi]
theorem cnB_at {S:List (List Qi)} {n l i:Nat} (hi:i < n):gv (cnB S n l) i = gm S i l:=gv_tab hi
def Cyc (S:List (List Qi)) (to:List Int) (n:Nat) (x:Nat → Qi):Prop:=∀ i,i < n → x i - sumN n (cnT S to x i) = 0
theorem cn_ok {S : List (List Qi)} {to : List Int} {n : Nat} {lf : List Nat} {u : Nat → Nat → Qi} (hto : ∀ j, j < n → tv to j < n)
  (hu:∀ y,y < lf.length → ∀ i,i < n → u y i - sumN n (cnT S to (u y) i) = gm S i (lf.getD y 0)) (hk:∀ x,Cyc S to n x → ∀ k,k < n → x k = 0) :
  cnE S to n lf = 0 ∧ ∀ x y,y < lf.length → lf.getD x 0 < n → cnV S to n lf x y = u y (lf.getD x 0):=by
 have hS:=cnM_shp S to n
 have key : ∀ y, y < lf.length → ∃ X, gjX (cnM S to n) (cnB S n (lf.getD y 0)) n = some X ∧ ∀ k, k < n → gv X k = u y k := fun y hy => by
  cases hX:gjX (cnM S to n) (cnB S n (lf.getD y 0)) n with
  | none =>
   obtain ⟨z,h1,k,h2,h3⟩:=gjX_none hS hX
   exact absurd (hk z (fun i hi=>by rw [← cnM_sum hi hto]; exact h1 i hi) k h2) h3
  | some X =>
   refine ⟨X,rfl,fun k hk2=>?_⟩
   obtain ⟨_,h2,h3⟩:=gjX_some hS hX
   have h4 := h3 (fun k => gv X k - 1 * u y k) (fun i hi => by
    have e1:=h2 i hi
    rw [cnB_at hi] at e1
    have e2:=hu y hy i hi
    rw [← cnM_sum hi hto] at e2
    have e3:sumN n (fun k=>gm (cnM S to n) i k * (gv X k - 1 * u y k)) = sumN n (fun k=>gm (cnM S to n) i k * gv X k - 1 * (gm (cnM S to n) i k * u y k)):=sumN_congr fun k _=>by grind
    rw [e3,sumN_sub,e1,e2]; grind) k hk2
   grind
 refine ⟨firstE_none fun y hy=>?_,fun x y hy hx=>?_⟩
 ·obtain ⟨X, hX, _⟩ := key y hy
  simp only [gjE,hX,Option.isSome_some,if_true]
 ·obtain ⟨X, hX, h⟩ := key y hy
  simp only [cnV,gjL,hX,Option.getD_some]
  exact h _ hx
theorem cn_bad {S:List (List Qi)} {to:List Int} {n:Nat} {lf:List Nat} {x:Nat → Qi} (hto:∀ j,j < n → tv to j < n) (hl:1 ≤ lf.length) (hx:Cyc S to n x) {k:Nat} (hk:k < n) (hxk:x k ≠ 0):cnE S to n lf = 6:=by
 have hS:=cnM_shp S to n
 have h0 : gjE (cnM S to n) (cnB S n (lf.getD 0 0)) n = 6 := by
  cases hX:gjX (cnM S to n) (cnB S n (lf.getD 0 0)) n with
  | none=>simp only [gjE,hX,Option.isSome_none]; rfl
  | some X =>
   obtain ⟨_,_,h3⟩:=gjX_some hS hX
   exact absurd (h3 x (fun i hi=>by rw [cnM_sum hi hto]; exact hx i hi) k hk) hxk
 have:=firstE_at (f:=fun y=>gjE (cnM S to n) (cnB S n (lf.getD y 0)) n) (k:=0) (fun i hi=>by omega) (by show gjE _ (cnB S n (lf.getD 0 0)) n ≠ 0; rw [h0]; decide) (n:=lf.length) (by omega)
 rw [cnE,this]; exact h0
abbrev tmS (s:List (List Qi)) (g:Qi) (n:Nat):List (List Qi):=sidM s [[g]] n 1
abbrev tmT (n p:Nat):List Int:=toL (n + 1) [(p,n)] 1
theorem tm_tv {n p j:Nat} (hp:p < n) (hj:j < n + 1):tv (tmT n p) j = if j = n then (p:Int) else if j = p then (n:Int) else -1:=by
 have e:tmT n p = ((tab (n + 1) fun _=>(-1:Int)).set p (n:Int)).set n (p:Int):=rfl
 rw [e,tv,List.getD]
 by_cases c:j = n
 ·subst c; rw [if_pos rfl,List.getElem?_set_self (by rw [List.length_set,tab_len]; omega)]; rfl
 ·rw [if_neg c, List.getElem?_set_ne (Ne.symm c)]
  by_cases c2:j = p
  ·subst c2; rw [if_pos rfl,List.getElem?_set_self (by rw [tab_len]; omega)]; rfl
  ·rw [if_neg c2,List.getElem?_set_ne (Ne.symm c2),tab_get hj]; rfl
theorem tm_lf {n p : Nat} (hp : p < n) : ∀ {k : Nat}, k ≤ n → lfL (tmT n p) k = tab (cnt p k) (skp p)
 | 0,_=>by rw [lfL,show cnt p 0 = 0 by unfold cnt; split <;> omega]; rfl
 | k + 1, h => by
  rw [lfL,tm_lf hp (k:=k) (by omega),tm_tv hp (by omega),if_neg (show ¬ k = n by omega)]
  by_cases c:k = p
  ·subst c
   rw [if_pos rfl,if_neg (by omega),List.append_nil,show cnt k (k + 1) = cnt k k by unfold cnt; split <;> split <;> omega]
  ·rw [if_neg c, if_pos (by omega)]
   have e1:skp p (cnt p k) = k:=by unfold skp cnt; split <;> split <;> omega
   have e2:cnt p (k + 1) = cnt p k + 1:=by unfold cnt; split <;> split <;> omega
   rw [e2,tab_succ,e1]
theorem tm_lf2 {n p:Nat} (hp:p < n):lfL (tmT n p) (n + 1) = tab (n - 1) (skp p):=by
 rw [lfL,tm_lf hp (Nat.le_refl n),tm_tv hp (by omega),if_pos rfl,if_neg (by omega),List.append_nil,cnt_fin hp]
theorem tm_sum {s:List (List Qi)} {g:Qi} {n p i:Nat} (hp:p < n) (hi:i < n + 1) (x:Nat → Qi):sumN (n + 1) (cnT (tmS s g n) (tmT n p) x i) = if i < n then gm s i p * x n else g * x p:=by
 rw [sumN_two (i:=p) (c:=n) (by omega) (by omega) (by omega) (fun k hk h1 h2=>by rw [cnT,tm_tv hp hk,if_neg h2,if_neg h1,if_pos (by omega)])]
 rw [cnT,cnT,tm_tv hp (by omega),tm_tv hp (by omega),if_neg (show ¬ p = n by omega),if_pos rfl,if_pos rfl,if_neg (by omega),if_neg (by omega),sidM_gm hi (by omega),sidM_gm hi (by omega),Int.toNat_natCast,Int.toNat_natCast]
 by_cases c:i < n
 ·rw [if_pos c,if_pos c,if_pos c,if_pos hp,if_neg (by omega),q0]; grind
 ·rw [if_neg c, if_neg c, if_neg c, if_neg (by omega), if_pos (Nat.le_refl n), show i - n = 0 by omega, Nat.sub_self, q0]
  show 0 * x n + g * x p = g * x p
  grind
theorem tm_col {s:List (List Qi)} {g:Qi} {n l i:Nat} (hl:l < n) (hi:i < n + 1):gm (tmS s g n) i l = if i < n then gm s i l else 0:=by
 rw [sidM_gm hi (by omega)]
 by_cases c:i < n
 ·rw [if_pos c,if_pos c,if_pos hl]
 ·rw [if_neg c,if_neg c,if_neg (by omega)]; rfl
theorem tm_bad {s:List (List Qi)} {g:Qi} {n p:Nat} (hp:p < n) (h1:n ≠ 1) (hz:Qi.ofInt 1 - gm s p p * g = Qi.zero):cnE (tmS s g n) (tmT n p) (n + 1) (lfL (tmT n p) (n + 1)) = 6:=by
 rw [q0,q1] at hz
 refine cn_bad (x:=fun i=>if i < n then gm s i p * g else g) (k:=p) (fun j hj=>by rw [tm_tv hp hj]; split <;> (try split) <;> omega) (by rw [tm_lf2 hp,tab_len]; omega) (fun i hi=>?_) (by omega) ?_
 ·rw [tm_sum hp hi]; dsimp only
  by_cases c:i < n
  ·rw [if_pos c,if_pos c,if_neg (by omega)]; grind
  ·rw [if_neg c,if_neg c,if_pos hp]; grind
 ·show (if p < n then gm s p p * g else g) ≠ 0
  rw [if_pos hp]
  intro e
  rw [e] at hz
  have:(1:Qi) = 0:=by grind
  exact absurd (congrArg Qi.re this) (by decide)
theorem tm_ok {s : List (List Qi)} {g : Qi} {n p : Nat} (hp : p < n) (hz : Qi.ofInt 1 - gm s p p * g ≠ Qi.zero) : cnE (tmS s g n) (tmT n p) (n + 1) (lfL (tmT n p) (n + 1)) = 0 ∧
  ∀ x y,x < n - 1 → y < n - 1 → cnV (tmS s g n) (tmT n p) (n + 1) (lfL (tmT n p) (n + 1)) x y = trmX s p (trmF s p g) x y:=by
 rw [q0,q1] at hz
 have hf:trmF s p g * (1 - gm s p p * g) = g:=div_eq hz
 have hlen:(lfL (tmT n p) (n + 1)).length = n - 1:=by rw [tm_lf2 hp,tab_len]
 have hget:∀ y,y < n - 1 → (lfL (tmT n p) (n + 1)).getD y 0 = skp p y:=fun y hy=>by rw [tm_lf2 hp,tab_getD hy]
 obtain ⟨h1, h2⟩ := cn_ok (S := tmS s g n) (to := tmT n p) (n := n + 1) (lf := lfL (tmT n p) (n + 1))
  (u:=fun y i=>if i < n then gm s i (skp p y) + gm s i p * (trmF s p g * gm s p (skp p y)) else trmF s p g * gm s p (skp p y))
  (fun j hj=>by rw [tm_tv hp hj]; split <;> (try split) <;> omega)
  (fun y hy i hi => by
   have hy2:y < n - 1:=by omega
   rw [tm_sum hp hi,hget y hy2,tm_col (skp_lt hy2 hp) hi]
   by_cases c:i < n
   ·rw [if_pos c,if_pos c,if_pos c,if_neg (by omega)]; grind
   ·rw [if_neg c,if_neg c,if_neg c,if_pos hp]; grind)
  (fun x hx k hk => by
   have hn:=hx n (by omega)
   have hpp:=hx p (by omega)
   rw [tm_sum hp (by omega),if_neg (by omega)] at hn
   rw [tm_sum hp (by omega),if_pos hp] at hpp
   have e1:(1 - gm s p p * g) * x p = 0:=by grind
   have e2 : x p = 0 := by
    rcases mul_zero_or e1 with h | h
    ·exact absurd h hz
    ·exact h
   have e3:x n = 0:=by grind
   by_cases c:k < n
   ·have hkk := hx k (by omega)
    rw [tm_sum hp (by omega),if_pos c] at hkk
    grind
   ·rw [show k = n by omega]; exact e3)
 refine ⟨h1,fun x y hx hy=>?_⟩
 have hsx:=skp_lt hx hp
 rw [h2 x y (by omega) (by rw [hget x hx]; omega),hget x hx]
 show (if skp p x < n then _ else _) = _
 rw [if_pos hsx]; rfl
theorem tm_z {z:List Qi} {n p:Nat} {w:List Qi} (hp:p < n) (hz:z.length = n):(lfL (tmT n p) (n + 1)).map (fun l=>gv (z ++ w) l) = prtZ z p (n - 1):=by
 rw [tm_lf2 hp,tab_map,prtZ]
 refine tab_congr fun i hi=>?_
 have:=skp_lt hi hp
 simp only [gv,List.getD]
 rw [List.getElem?_append_left (by omega)]
end
section
open Go Go.RowKit
abbrev PrT (q:Nat × Nat):Ty:=AggT [NT .i64 q.1,NT .i64 q.2]
abbrev PrsT (ps:List (Nat × Nat)):Ty:=SlT 2 (ps.map PrT)
abbrev ZT (x:Int):Ty:=IntT .i64 x
theorem cn_no {z:List Qi} {m:List (List Qi)} {e:Int} (h:e ≠ 0):∀ v V,(RNetT [] []).p v V → (RNetT (okL e z) (okL e m)).p v V:=by rw [okL,okL,if_neg h,if_neg h]; exact fun _ _ k=>k
theorem cn_yes {z:List Qi} {m:List (List Qi)} {e:Int} {Ts:List Ty} {T:Ty} (h:e = 0) (hZ:Ts = z.map QT) (hT:T = QM m):∀ v V,(AggT [SlT 5 Ts,T]).p v V → (RNetT (okL e z) (okL e m)).p v V:=by rw [okL,okL,if_pos h,if_pos h,hZ,hT]; exact fun _ _ k=>k
theorem set_mapZ (l:List Int) (k:Nat) (z:Int):(l.set k z).map ZT = (l.map ZT).set k (ZT z):=by rw [List.map_set]
theorem c_connect {z:List Qi} {S:List (List Qi)} {n L:Nat} {ps:List (Nat × Nat)} (hS:Shp S n n) (hz:z.length = n) (hf:FitM S L) (hL:1 ≤ L) (hLb:L ≤ 1000) (h1:1 ≤ n) (hn:n ≤ 9) (hps:∀ j,j < ps.length → pA ps j < n ∧ pB ps j < n) (hpl:ps.length ≤ 9):Fun Tryz.prog 154 [RNetT z S,PrsT ps] (TupT [RNetT (okL (cnE S (toL n ps ps.length) n (lfL (toL n ps ps.length) n)) ((lfL (toL n ps ps.length) n).map fun l=>gv z l)) (okL (cnE S (toL n ps ps.length) n (lfL (toL n ps ps.length) n)) (tab (lfL (toL n ps ps.length) n).length fun x=>tab (lfL (toL n ps ps.length) n).length fun y=>cnV S (toL n ps ps.length) n (lfL (toL n ps ps.length) n) x y)),BoolT (decide (cnE S (toL n ps ps.length) n (lfL (toL n ps ps.length) n) = 0))]):=by
 have hSl:=hS.1
 refine Fun.intro Tryz.func154 rfl Tryz.ntmps154 rfl (fun cx=>(ts (rn rfl (fG (Ht rfl)) fun B2=>(rn rfl (eW (Ts:=[Is (.slice none 0 0),Is (.slice none 0 0)]) O_34 rfl (fun V=>aW ⟨rfl,trivial⟩ (aW ⟨rfl,trivial⟩ (aG)))) fun B4=>(ro rfl (cQ cV) (eX (ts (ro rfl (eZ fa_34_0 (Ht rfl) rfl) (ro rfl (eY A_31 Z_31 (Ht rfl) (i:=0) rfl rfl) (ro rfl (dG U_31 (Ht rfl) (by rw [List.length_map,hz])) ?_))))))))))
 refine ra rfl (eX (ts (rm rfl (rn rfl (new_makeO (T:=ZT 0) (i:=Tryz.t3) und_69 info_3 rfl rfl (Ht rfl) rfl (fun V=>rfl) El.one (by show 8 * _ ≤ _; omega) (by omega)) fun B26=>(ra rfl (eX (cK (ts (ro rfl (cQ (cJ 0)) (eX (eG ?_)))))))))))
 refine T_loop (fun (i : Nat) => i ≤ n) (fun (i : Nat) => n - i) (fun (i : Nat) => [(1, PrsT ps), (2, PtrB B2 0), (4, PtrB B4 0), (6, NT .i64 n), (7, Is B26), (8, NT .i64 i)]) (fun (i : Nat) => [box B2 34 [QsT z, QM S], box B4 34 [Is (.slice none 0 0), Is (.slice none 0 0)], rowO 3 1 B26 (mixT (fun _ => ZT (-1)) (ZT 0) n i)]) 0 (Nat.zero_le _)
  (aQ rfl (aQ rfl (aQ rfl (aQ rfl (aQ rfl (aQ rfl aX)))))) (aU (box_of rfl) (aU (box_of rfl) (aU (rowO_of (by rw [← mix_zero]; exact rep_tab _ _)) aY))) (fun i hi=>?_)
 refine cK (ts (rm rfl (rm rfl (ro rfl (gX (Ht rfl) (Ht rfl)) (eX (dQ (Ht rfl) (fun hd=>?_) (fun hd=>?_)))))))
 ·have hdn : i < n := by simp only [decide_eq_true_eq] at hd; omega
  refine cU (cK (eG (cY (rm rfl (rm rfl (ro rfl (op_idxO U_69 Z_3 (Ht rfl) (Ht rfl) rfl (i:=2) rfl (by rw [mix_len]; omega) rfl) ?_))))))
  refine R_stO Z_3 (Ht rfl) cV El.one (i:=2) rfl rfl (by rw [mix_len]; omega) rfl ?_
  refine eX (T_blk (cY (rm rfl (ro rfl (dV (Ht rfl) (cJ 1) (by show _ < 9223372036854775808; first | omega | (simp only [lim]; omega))) (ra rfl (eX (fU (i + 1) hdn (by omega) (aQ rfl (aQ rfl (aQ rfl (aQ rfl (aQ rfl (aQ rfl aX)))))) (aU (box_of rfl) (aU (box_of rfl) (aU (rowO_of (mix_set (f:=fun _=>ZT (-1)))) aY))))))))))
 ·have hin : i = n := by simp only [decide_eq_false_iff_not] at hd; omega
  subst hin
  rw [mix_fin]
  refine gV rfl (cK (ts (ro rfl (cQ (cJ 0)) (eX (eG ?_)))))
  refine T_loop (fun (k : Nat) => k ≤ ps.length) (fun (k : Nat) => ps.length - k) (fun (k : Nat) => [(1, PrsT ps), (2, PtrB B2 0), (4, PtrB B4 0), (6, NT .i64 i), (7, Is B26), (9, NT .i64 k)]) (fun (k : Nat) => [box B2 34 [QsT z, QM S], box B4 34 [Is (.slice none 0 0), Is (.slice none 0 0)], rowO 3 1 B26 ((toL i ps k).map ZT)]) 0 (Nat.zero_le _)
   (aQ rfl (aQ rfl (aQ rfl (aQ rfl (aQ rfl (aQ rfl aX)))))) (aU (box_of rfl) (aU (box_of rfl) (aU (rowO_of (by rw [toL,tab_map])) aY))) (fun k hk=>?_)
  refine cK (ts (rm rfl (rm rfl (ro rfl (dG U_59 (Ht rfl) len_map) (ro rfl (gX (Ht rfl) (Ht rfl)) (eX (dQ (Ht rfl) (fun hd2=>?_) (fun hd2=>?_))))))))
  ·have hkn : k < ps.length := by simp only [decide_eq_true_eq] at hd2; omega
   obtain ⟨hpa,hpb⟩:=hps k hkn
   refine cU (cK (eG (cK (fZ (m:=11) (dp 7 rfl (cX (Ht rfl)) (dp 1 rfl (cX (Ht rfl)) (dp 9 rfl (cX (Ht rfl)) (dqq 42 1 43 2 rfl (dZ U_59 Z_120 (Ht rfl) (Ht rfl) rfl (dY (dU (d:=(0,0)) hkn))) (dq 44 3 rfl (op_idxA U_120 Z_3 (Ht rfl) cV rfl (by decide) rfl) (dq 45 4 rfl (dJ A_3 Z_3 (Ht rfl)) (dp 1 rfl (cX (Ht rfl)) (dp 9 rfl (cX (Ht rfl)) (dqq 47 6 48 7 rfl (dZ U_59 Z_120 (Ht rfl) (Ht rfl) rfl (dY (dU (d:=(0,0)) hkn))) ?_)))))))))))))
   refine dq 49 8 rfl (op_idxA U_120 Z_3 (Ht rfl) cV rfl (by decide) rfl) (dq 50 9 rfl (dJ A_3 Z_3 (Ht rfl)) (fV mixed rfl (by kernel_rfl) (aJ (aJ (aJ (aJ (aJ (aJ (aJ (aJ (aJ (aJ (aJ (aV (ro rfl (op_idxO U_69 Z_3 (Ht rfl) (Ht rfl) rfl (i:=2) rfl (by rw [List.length_map,toL_len]; omega) rfl) ?_)))))))))))))))
   refine R_stO Z_3 (Ht rfl) (Ht rfl) El.one (i:=2) rfl rfl (by rw [List.length_map,toL_len]; omega) rfl ?_
   refine eX (fZ (m:=11) (dp 7 rfl (cX (Ht rfl)) (dp 1 rfl (cX (Ht rfl)) (dp 9 rfl (cX (Ht rfl)) (dqq 54 1 55 2 rfl (dZ U_59 Z_120 (Ht rfl) (Ht rfl) rfl (dY (dU (d:=(0,0)) hkn))) (dq 56 3 rfl (op_idxA U_120 Z_3 (Ht rfl) cV rfl (by decide) rfl) (dq 57 4 rfl (dJ A_3 Z_3 (Ht rfl)) (dp 1 rfl (cX (Ht rfl)) (dp 9 rfl (cX (Ht rfl)) (dqq 59 6 60 7 rfl (dZ U_59 Z_120 (Ht rfl) (Ht rfl) rfl (dY (dU (d:=(0,0)) hkn))) (dq 61 8 rfl (op_idxA U_120 Z_3 (Ht rfl) cV rfl (by decide) rfl) ?_)))))))))))
   refine dq 62 9 rfl (dJ A_3 Z_3 (Ht rfl)) (fV mixed rfl (by kernel_rfl) (aJ (aJ (aJ (aJ (aJ (aJ (aJ (aJ (aJ (aJ (aJ (aV (ro rfl (op_idxO U_69 Z_3 (Ht rfl) (Ht rfl) rfl (i:=2) rfl (by rw [List.length_set,List.length_map,toL_len]; omega) rfl) ?_))))))))))))))
   refine R_stO Z_3 (Ht rfl) (Ht rfl) El.one (i:=2) rfl rfl (by rw [List.length_set,List.length_map,toL_len]; omega) rfl ?_
   refine eX (T_blk (cY (rm rfl (ro rfl (dV (Ht rfl) (cJ 1) (by show _ < 9223372036854775808; first | omega | (simp only [lim]; omega))) (ra rfl (eX (fU (k + 1) hkn (by omega) (aQ rfl (aQ rfl (aQ rfl (aQ rfl (aQ rfl (aQ rfl aX)))))) (aU (box_of rfl) (aU (box_of rfl) (aU (rowO_of (by rw [toL,← set_mapZ,← set_mapZ])) aY))))))))))
  ·have hkp : k = ps.length := by simp only [decide_eq_false_iff_not] at hd2; omega
   subst hkp
   have htl:=toL_len i ps ps.length
   have htm:=toL_mem hps
   obtain ⟨to,hto⟩:∃ to,to = toL i ps ps.length:=⟨_,rfl⟩
   rw [← hto] at htl htm ⊢
   refine gV rfl (ts (rn rfl (new_bslice0 U_69 Z_3 O_3) fun B65=>(ra rfl (eX (cK (ts (ro rfl (cQ (cJ 0)) (eX (eG ?_)))))))))
   refine T_loop2 (fun (q : Nat) (vL : Value) => q ≤ i) (fun (q : Nat) (vL : Value) => i - q) (fun (q : Nat) (vL : Value) => [(1, PrsT ps), (2, PtrB B2 0), (4, PtrB B4 0), (6, NT .i64 i), (7, Is B26), (10, Is vL), (11, NT .i64 q)]) (fun (q : Nat) (vL : Value) => [box B2 34 [QsT z, QM S], box B4 34 [Is (.slice none 0 0), Is (.slice none 0 0)], rowO 3 1 B26 (to.map ZT), rowO 3 1 vL ((lfL to q).map (NT .i64))]) 0 _ (Nat.zero_le _)
    (aQ rfl (aQ rfl (aQ rfl (aQ rfl (aQ rfl (aQ rfl (aQ rfl aX))))))) (aU (box_of rfl) (aU (box_of rfl) (aU (fun _ _ _ h=>h) (aU (rowO_of rfl) aY)))) (fun q vL hq=>?_)
   refine cK (ts (rm rfl (rm rfl (ro rfl (gX (Ht rfl) (Ht rfl)) (eX (dQ (Ht rfl) (fun hd3=>?_) (fun hd3=>?_)))))))
   ·have hqn : q < i := by simp only [decide_eq_true_eq] at hd3; omega
    have hll:=lfL_len to q
    refine cU (cK (eG (ts (rm rfl (rm rfl (ro rfl (op_idxO U_69 Z_3 (Ht rfl) (Ht rfl) rfl (i:=2) rfl (by rw [List.length_map]; omega) rfl) ?_))))))
    refine ro rfl (op_ldO A_3 Z_3 (Ht rfl) (i:=2) rfl rfl (dY (dU (d:=0) (by omega)))) (ro rfl (op_lss (Ht rfl) cV) (eX (dQ (Ht rfl) (fun hn=>?_) (fun hn=>?_))))
    ·have hneg : tv to q < 0 := by simpa using hn
     have hnx:lfL to (q + 1) = lfL to q ++ [q]:=by rw [lfL,if_pos hneg]
     refine cY (rm rfl (rm rfl (ro rfl (op_bslice (xs:=[.tmp 77]) U_69 Z_3 O_3 (cW (Ht rfl) cG) rfl rfl rfl) (R_append (inf:=Tryz.t3) und_69 info_3 rfl rfl rfl (Ht rfl) (Ht rfl) (i:=3) rfl (by simp) (fun T hT=>by simp at hT; subst hT; exact El.one) (by show _ * 8 ≤ _; simp only [List.length_map,List.length_cons,List.length_nil]; omega) (by simp only [List.length_map,List.length_cons,List.length_nil]; omega) rfl (fun v2=>?_)))))
     refine ra rfl (eX (T_blk (cY (rm rfl (ro rfl (dV (Ht rfl) (cJ 1) (by show _ < 9223372036854775808; first | omega | (simp only [lim]; omega))) (ra rfl (eX (fU (q + 1,v2) hqn (by dsimp only; omega) (aQ rfl (aQ rfl (aQ rfl (aQ rfl (aQ rfl (aQ rfl (aQ rfl aX))))))) (aU (box_of rfl) (aU (box_of rfl) (aU (fun _ _ _ h=>h) (aU (rowO_of (by rw [hnx,List.map_append]; rfl)) aY))))))))))))
    ·have hneg : ¬ tv to q < 0 := by simpa using hn
     have hnx:lfL to (q + 1) = lfL to q:=by rw [lfL,if_neg hneg,List.append_nil]
     refine cU (T_blk (cY (rm rfl (ro rfl (dV (Ht rfl) (cJ 1) (by show _ < 9223372036854775808; first | omega | (simp only [lim]; omega))) (ra rfl (eX (fU (q + 1,vL) hqn (by dsimp only; omega) (aQ rfl (aQ rfl (aQ rfl (aQ rfl (aQ rfl (aQ rfl (aQ rfl aX))))))) (aU (box_of rfl) (aU (box_of rfl) (aU (fun _ _ _ h=>h) (aU (rowO_of (by rw [hnx])) aY)))))))))))
   ·have hqi : q = i := by simp only [decide_eq_false_iff_not] at hd3; omega
    subst hqi
    refine gV rfl (gJ (i:=2) (tt:=7) rfl rfl frz_row (gJ (i:=3) (tt:=10) rfl rfl frz_row (T_keep [0,1] rfl (by decide) (ts (rm rfl (R_call0 Tryz.call213 (c_rIdO (n:=q) (by omega)) ⟨(Ht rfl),trivial⟩ rfl (fun B81 _=>(ra rfl (eX (cK (ts (ro rfl (cQ (cJ 0)) (eX (eG ?_))))))))))))))
    refine T_loop (fun (r : Nat) => r ≤ q) (fun (r : Nat) => q - r) (fun (r : Nat) => [(2, PtrB B2 0), (4, PtrB B4 0), (6, NT .i64 q), (7, SlT 1 (to.map ZT)), (10, IntsT (lfL to q)), (12, Is (.slice (some ⟨B81, 0, none⟩) q q)), (13, NT .i64 r)]) (fun (r : Nat) => [box B2 34 [QsT z, QM S], box B4 34 [Is (.slice none 0 0), Is (.slice none 0 0)], matP exactH B81 31 98 5 (FRow QT (mixG (fun r => cnR S to q r q) (unitR q) q r))]) 0 (Nat.zero_le _)
     (aQ rfl (aQ rfl (aQ rfl (aQ rfl (aQ rfl (aQ rfl (aQ rfl aX))))))) (aU (box_of rfl) (aU (box_of rfl) (aU (matO_of (by rw [← mixG_zero]; rfl)) aY))) (fun r hr=>?_)
    refine cK (ts (rm rfl (rm rfl (ro rfl (gX (Ht rfl) (Ht rfl)) (eX (dQ (Ht rfl) (fun hd4=>?_) (fun hd4=>?_)))))))
    ·have hrn : r < q := by simp only [decide_eq_true_eq] at hd4; omega
     have hsr:=hS.row hrn
     refine T_focusE 2 (r) rfl (frow_mixG hrn) (fun v0 hv0=>(cU (cK (eG (ts (ro rfl (cQ (cJ 0)) (eX (eG ?_))))))))
     refine T_loop (fun (j : Nat) => j ≤ q) (fun (j : Nat) => q - j) (fun (j : Nat) => [(2, PtrB B2 0), (4, PtrB B4 0), (6, NT .i64 q), (7, SlT 1 (to.map ZT)), (10, IntsT (lfL to q)), (12, Is (.slice (some ⟨B81, 0, none⟩) q q)), (13, NT .i64 r), (14, NT .i64 j)]) (fun (j : Nat) => [box B2 34 [QsT z, QM S], box B4 34 [Is (.slice none 0 0), Is (.slice none 0 0)], matQ exactH B81 31 98 5 (FRow QT (mixG (fun r => cnR S to q r q) (unitR q) q r)) r v0, rowO 98 5 v0 ((cnR S to q r j).map QT)]) 0 (Nat.zero_le _)
      (aQ rfl (aQ rfl (aQ rfl (aQ rfl (aQ rfl (aQ rfl (aQ rfl (aQ rfl aX)))))))) (aU (box_of rfl) (aU (box_of rfl) (aU (fun _ _ _ h=>h) (aU (rowO_of rfl) aY)))) (fun j hj=>?_)
     refine cK (ts (rm rfl (rm rfl (ro rfl (gX (Ht rfl) (Ht rfl)) (eX (dQ (Ht rfl) (fun he=>?_) (fun he=>?_)))))))
     ·have hjn : j < q := by simp only [decide_eq_true_eq] at he; omega
      have hrl:=cnR_len S to q r j
      have htj:=htm _ (tv_mem (i:=j) (by omega))
      refine cU (cK (eG (ts (rm rfl (rm rfl (ro rfl (dZ U_69 Z_3 (Ht rfl) (Ht rfl) rfl (dY (dU (d:=0) (by omega)))) (ro rfl (dJ A_3 Z_3 (Ht rfl)) (ro rfl (op_geq (Ht rfl) cV) (eX (dQ (Ht rfl) (fun hg=>?_) (fun hg=>?_)))))))))))
      ·have hpos : ¬ tv to j < 0 := by simp at hg; simp; omega
       have hqi:tv to j = ((tv to j).toNat:Int):=by omega
       have hnx:cnR S to q r (j + 1) = (cnR S to q r j).set (tv to j).toNat (gv (cnR S to q r j) (tv to j).toNat - gm S r j):=by rw [cnR,if_neg hpos]
       haveI f1:FitC (gv (cnR S to q r j) (tv to j).toNat) (1 + j * (L + 1)):=(cnR_fit hf hL j).get (by omega) _
       haveI f2:FitC (gm S r j) L:=hf.get hL r j
       have hjl:j * (L + 1) ≤ 9 * (L + 1):=Nat.mul_le_mul_right _ (by omega)
       refine fZ (m:=27) (dp 12 rfl (cX (Ht rfl)) (dp 13 rfl (cX (Ht rfl)) (dqq 97 0 98 1 rfl (fY U_32 Z_31 (Ht rfl) (Ht rfl) rfl (by omega) (by rw [Nat.mul_one,Nat.zero_add])) ?_)))
       refine dq 99 2 rfl (op_ldH A_31 Z_31 (Ht rfl) (j:=2) rfl) (dp 7 rfl (cX (Ht rfl)) (dp 14 rfl (cX (Ht rfl)) (dqq 101 4 102 5 rfl (dZ U_69 Z_3 (Ht rfl) (Ht rfl) rfl (dY (dU (d:=0) (by omega)))) (dq 103 6 rfl (dJ A_3 Z_3 (Ht rfl)) (dp 12 rfl (cX (Ht rfl)) (dp 13 rfl (cX (Ht rfl)) (dqq 105 8 106 9 rfl (fY U_32 Z_31 (Ht rfl) (Ht rfl) rfl (by omega) (by rw [Nat.mul_one,Nat.zero_add])) ?_)))))))
       refine dq 107 10 rfl (op_ldH A_31 Z_31 (Ht rfl) (j:=2) rfl) (dp 7 rfl (cX (Ht rfl)) (dp 14 rfl (cX (Ht rfl)) (dqq 109 12 110 13 rfl (dZ U_69 Z_3 (Ht rfl) (Ht rfl) rfl (dY (dU (d:=0) (by omega)))) (dq 111 14 rfl (dJ A_3 Z_3 (Ht rfl)) (dqq 108 11 112 15 rfl (op_idxO U_31 Z_98 (Ht rfl) (Ht rfl) hqi (i:=3) rfl (by rw [List.length_map,hrl]; omega) rfl) ?_)))))
       refine dq 113 16 rfl (op_ldO A_98 Z_98 (Ht rfl) (i:=3) rfl rfl (dY (dU (d:=Qi.zero) (by omega)))) (dp 2 rfl (eZ fa_34_1 (Ht rfl) rfl) (dq 115 18 rfl (eY A_32 Z_32 (Ht rfl) (i:=0) rfl rfl) (dp 13 rfl (cX (Ht rfl)) (dqq 116 19 117 20 rfl (dZ U_32 Z_31 (Ht rfl) (Ht rfl) rfl (dY (dU (d:=[]) (by omega)))) (dq 118 21 rfl (dJ A_31 Z_31 (Ht rfl)) (dp 14 rfl (cX (Ht rfl)) (dqq 119 22 120 23 rfl (dZ U_31 Z_98 (Ht rfl) (Ht rfl) rfl (dY (dU (d:=Qi.zero) (by omega)))) ?_)))))))
       refine dq 121 24 rfl (dJ A_98 Z_98 (Ht rfl)) (dqq 114 17 122 25 rfl (cZ Tryz.call158 (c_rSub (x:=gv (cnR S to q r j) (tv to j).toNat) (y:=gm S r j) (L:=1 + j * (L + 1)) (M:=L) (by omega)) ⟨(Ht rfl),(Ht rfl),trivial⟩) (fV mixed rfl (by kernel_rfl) (aJ (aJ (aJ (aJ (aJ (aJ (aJ (aJ (aJ (aJ (aJ (aJ (aJ (aJ (aJ (aJ (aJ (aJ (aJ (aJ (aJ (aJ (aJ (aJ (aJ (aJ (aJ (aV (ro rfl (op_idxO U_31 Z_98 (Ht rfl) (Ht rfl) hqi (i:=3) rfl (by rw [List.length_map,hrl]; omega) rfl) ?_)))))))))))))))))))))))))))))))
       refine R_stO Z_98 (Ht rfl) (Ht rfl) (El.ag rfl) (i:=3) rfl rfl (by rw [List.length_map,hrl]; omega) rfl ?_
       refine eX (T_blk (cY (rm rfl (ro rfl (dV (Ht rfl) (cJ 1) (by show _ < 9223372036854775808; first | omega | (simp only [lim]; omega))) (ra rfl (eX (fU (j + 1) hjn (by omega) (aQ rfl (aQ rfl (aQ rfl (aQ rfl (aQ rfl (aQ rfl (aQ rfl (aQ rfl aX)))))))) (aU (box_of rfl) (aU (box_of rfl) (aU (fun _ _ _ h=>h) (aU (rowO_of (by rw [set_mapF,hnx])) aY)))))))))))
      ·have hneg : tv to j < 0 := by simp at hg; simp; omega
       have hny:cnR S to q r (j + 1) = cnR S to q r j:=by rw [cnR,if_pos hneg]
       refine cU (T_blk (cY (rm rfl (ro rfl (dV (Ht rfl) (cJ 1) (by show _ < 9223372036854775808; first | omega | (simp only [lim]; omega))) (ra rfl (eX (fU (j + 1) hjn (by omega) (aQ rfl (aQ rfl (aQ rfl (aQ rfl (aQ rfl (aQ rfl (aQ rfl (aQ rfl aX)))))))) (aU (box_of rfl) (aU (box_of rfl) (aU (fun _ _ _ h=>h) (aU (rowO_of (by rw [hny])) aY)))))))))))
     ·have hjq : j = q := by simp only [decide_eq_false_iff_not] at he; omega
      subst hjq
      refine gV rfl (T_blk (T_unfocus 2 3 rfl rfl (by decide) (by simp only [FRow,List.length_map,mixG_len]; omega) ?_))
      refine cY (rm rfl (ro rfl (dV (Ht rfl) (cJ 1) (by show _ < 9223372036854775808; first | omega | (simp only [lim]; omega))) (ra rfl (eX (T_keep [0,1,2] rfl (by decide) (fU (r + 1) hrn (by omega) (aQ rfl (aQ rfl (aQ rfl (aQ rfl (aQ rfl (aQ rfl (aQ rfl aX))))))) (aU (box_of rfl) (aU (box_of rfl) (aU (matO_of (by rw [set_FRow,← mixG_set (f:=fun r=>cnR S to j r j)])) aY)))))))))
    ·have hrq : r = q := by simp only [decide_eq_false_iff_not] at hd4; omega
     subst hrq
     rw [mixG_fin]
     have hlm:∀ i,i < (lfL to r).length → (lfL to r).getD i 0 < r:=fun i hi=>lfL_lt (by rw [show (lfL to r).getD i 0 = (lfL to r)[i] by simp [List.getD,hi]]; exact List.getElem_mem hi)
     have hll:=lfL_len to r
     obtain ⟨lf,hlf⟩:∃ lf,lf = lfL to r:=⟨_,rfl⟩
     rw [← hlf] at hlm hll ⊢
     have hrL:L ≤ 1 + r * (L + 1):=by have:=Nat.mul_le_mul_right (L + 1) h1; omega
     have hrB:1 + r * (L + 1) ≤ 9010:=by have:=Nat.mul_le_mul hn (show L + 1 ≤ 1001 by omega); omega
     have hgr:6 * grow (1 + r * (L + 1)) r + 4 ≤ 17592186044415:=Nat.le_trans (Nat.add_le_add_right (Nat.mul_le_mul_left 6 (Nat.le_trans (grow_monoL hrB r) (grow_mono 9010 hn))) 4) (by decide)
     refine gV rfl (gJ (i:=2) (tt:=12) rfl rfl (frz_matF (s:=5) (M:=cnM S to r) (tab_len _ _).symm) (cK (fZ (m:=10) (dp 10 rfl (cX (Ht rfl)) (dq 125 0 rfl (dG U_69 (Ht rfl) len_map) (C.D_new (Ei:=[(126,_)]) rfl rfl rfl (bV (bG 1 rfl rfl) bW) (new_makeS (T:=ZQ) (i:=Tryz.t98) und_31 info_98 rfl rfl (Ht rfl) rfl zq_p (El.ag rfl) (by show 88 * _ ≤ _; omega) (by omega)) (dp 10 rfl (cX (Ht rfl)) (dq 128 3 rfl (dG U_69 (Ht rfl) len_map) (dp 10 rfl (cX (Ht rfl)) (dq 130 5 rfl (dG U_69 (Ht rfl) len_map) ?_))))))))))
     refine C.D_new (Ei:=[(129,_),(131,_)]) rfl rfl rfl (bV (bG 4 rfl rfl) (bV (bG 6 rfl rfl) bW)) (new_call0 K_138 (c_ZerosO (n:=lf.length) (m:=lf.length) (by omega) (by omega)) ⟨(Ht rfl),(Ht rfl),trivial⟩) (C.D_dep (fun T U=>AggT [T,U]) 2 7 rfl rfl rfl rfl rfl rfl (fun T U hT hU=>by obtain ⟨x,rfl⟩:=hT; obtain ⟨y,rfl⟩:=hU; (try dsimp only); exact dX rfl (bld_34_0_1 (Ht rfl) (Ht rfl))) (C.D_new (Ei:=[]) rfl rfl rfl bW (eW (Ts:=[Is (.slice none 0 0),Is (.slice none 0 0)]) O_34 rfl (fun V=>aW ⟨rfl,trivial⟩ (aW ⟨rfl,trivial⟩ (aG)))) ?_))
     refine fV mixed rfl (by kernel_rfl) (aJ (aJ (C.F_new (fun B127=>aJ (aJ (aJ (aJ (C.F_new (fun B132=>C.F_dep rfl rfl (C.F_new (fun B15=>aV (gQ Z_34 (Ht rfl) (Ht rfl) rfl (i:=5) rfl (aK rfl) rfl rfl (eX (cK (ts (ro rfl (cQ (cJ 0)) (eX (eG (T_keep [0,1,3,4,5] rfl (by decide) ?_)))))))))))))))))))
     refine T_loop (fun (y : Nat) => y ≤ lf.length ∧ ∀ j, j < y → gjE (cnM S to r) (cnB S r (lf.getD j 0)) r = 0) (fun (y : Nat) => lf.length - y) (fun (y : Nat) => [(2, PtrB B2 0), (4, PtrB B4 0), (6, NT .i64 r), (10, IntsT lf), (12, QM (cnM S to r)), (15, PtrB B15 0), (16, NT .i64 y)]) (fun (y : Nat) => [box B2 34 [QsT z, QM S], box B4 34 [Is (.slice none 0 0), Is (.slice none 0 0)], rowO 98 5 (.slice (some ⟨B127, 0, none⟩) lf.length lf.length) (mixT (fun y => QT (gv z (lf.getD y 0))) ZQ lf.length y), matP exactH B132 31 98 5 (FRow QT (colP (cnV S to r lf) lf.length lf.length y 0)), box B15 34 [Is (.slice (some ⟨B127, 0, none⟩) lf.length lf.length), Is (.slice (some ⟨B132, 0, none⟩) lf.length lf.length)]]) 0 ⟨Nat.zero_le _, fun j h => by omega⟩
      (aQ rfl (aQ rfl (aQ rfl (aQ rfl (aQ rfl (aQ rfl (aQ rfl aX))))))) (aU (box_of rfl) (aU (box_of rfl) (aU (rowO_of (by rw [← mix_zero]; exact rep_tab _ _)) (aU (matO_of (by rw [zeroM,← colP_zero]; rfl)) (aU (box_of rfl) aY))))) (fun y ⟨hy,h0⟩=>?_)
     refine cK (ts (rm rfl (rm rfl (ro rfl (dG U_69 (Ht rfl) len_map) (ro rfl (gX (Ht rfl) (Ht rfl)) (eX (dQ (Ht rfl) (fun hyc=>?_) (fun hyc=>?_))))))))
     ·have hyn : y < lf.length := by simp only [decide_eq_true_eq] at hyc; omega
      have hly:=hlm y hyn
      refine cU (cK (eG (cK (fZ (m:=11) (dp 15 rfl (eZ fa_34_0 (Ht rfl) rfl) (dq 140 0 rfl (op_ldBp A_31 Z_31 (Ht rfl) (i:=4) rfl rfl) (dp 16 rfl (cX (Ht rfl)) (dp 2 rfl (eZ fa_34_0 (Ht rfl) rfl) (dq 143 3 rfl (eY A_31 Z_31 (Ht rfl) (i:=0) rfl rfl) (dp 10 rfl (cX (Ht rfl)) (dp 16 rfl (cX (Ht rfl)) (dqq 145 5 146 6 rfl (dZ U_69 Z_3 (Ht rfl) (Ht rfl) rfl (dY (dU (d:=0) (by omega)))) (dq 147 7 rfl (dJ A_3 Z_3 (Ht rfl)) (dqq 144 4 148 8 rfl (dZ U_31 Z_98 (Ht rfl) (Ht rfl) rfl (dY (dU (d:=Qi.zero) (by omega)))) ?_))))))))))))))
      refine dq 149 9 rfl (dJ A_98 Z_98 (Ht rfl)) (fV mixed rfl (by kernel_rfl) (aJ (aJ (aJ (aJ (aJ (aJ (aJ (aJ (aJ (aJ (aJ (aV (ro rfl (op_idxO U_31 Z_98 (Ht rfl) (Ht rfl) rfl (i:=2) rfl (by rw [mix_len]; omega) rfl) ?_))))))))))))))
      refine R_stO Z_98 (Ht rfl) (Ht rfl) (El.ag rfl) (i:=2) rfl rfl (by rw [mix_len]; omega) rfl ?_
      refine eX (ts (rm rfl (rn rfl (new_makeO (T:=ZQ) (i:=Tryz.t98) und_31 info_98 rfl rfl (Ht rfl) rfl zq_p (El.ag rfl) (by show 88 * _ ≤ _; omega) (by omega)) fun B153=>(ra rfl (eX (cK (ts (ro rfl (cQ (cJ 0)) (eX (eG ?_))))))))))
      refine T_loop (fun (i2 : Nat) => i2 ≤ r) (fun (i2 : Nat) => r - i2) (fun (i2 : Nat) => [(2, PtrB B2 0), (4, PtrB B4 0), (6, NT .i64 r), (10, IntsT lf), (12, QM (cnM S to r)), (15, PtrB B15 0), (16, NT .i64 y), (17, Is B153), (18, NT .i64 i2)]) (fun (i2 : Nat) => [box B2 34 [QsT z, QM S], box B4 34 [Is (.slice none 0 0), Is (.slice none 0 0)], rowO 98 5 (.slice (some ⟨B127, 0, none⟩) lf.length lf.length) (mixT (fun y => QT (gv z (lf.getD y 0))) ZQ lf.length (y + 1)), matP exactH B132 31 98 5 (FRow QT (colP (cnV S to r lf) lf.length lf.length y 0)), box B15 34 [Is (.slice (some ⟨B127, 0, none⟩) lf.length lf.length), Is (.slice (some ⟨B132, 0, none⟩) lf.length lf.length)], rowO 98 5 B153 (mixT (fun i => QT (gm S i (lf.getD y 0))) ZQ r i2)]) 0 (Nat.zero_le _)
       (aQ rfl (aQ rfl (aQ rfl (aQ rfl (aQ rfl (aQ rfl (aQ rfl (aQ rfl (aQ rfl aX))))))))) (aU (box_of rfl) (aU (box_of rfl) (aU (rowO_of (mix_set (f:=(fun y=>QT (gv z (lf.getD y 0)))))) (aU (fun _ _ _ h=>h) (aU (box_of rfl) (aU (rowO_of (by rw [← mix_zero]; exact rep_tab _ _)) aY)))))) (fun i2 hi2=>?_)
      refine cK (ts (rm rfl (rm rfl (ro rfl (gX (Ht rfl) (Ht rfl)) (eX (dQ (Ht rfl) (fun hic=>?_) (fun hic=>?_)))))))
      ·have hin : i2 < r := by simp only [decide_eq_true_eq] at hic; omega
       have hsr:=hS.row hin
       refine cU (cK (eG (fZ (m:=13) (dp 17 rfl (cX (Ht rfl)) (dp 18 rfl (cX (Ht rfl)) (dp 2 rfl (eZ fa_34_1 (Ht rfl) rfl) (dq 161 2 rfl (eY A_32 Z_32 (Ht rfl) (i:=0) rfl rfl) (dp 18 rfl (cX (Ht rfl)) (dqq 162 3 163 4 rfl (dZ U_32 Z_31 (Ht rfl) (Ht rfl) rfl (dY (dU (d:=[]) (by omega)))) (dq 164 5 rfl (dJ A_31 Z_31 (Ht rfl)) (dp 10 rfl (cX (Ht rfl)) (dp 16 rfl (cX (Ht rfl)) (dqq 166 7 167 8 rfl (dZ U_69 Z_3 (Ht rfl) (Ht rfl) rfl (dY (dU (d:=0) (by omega)))) ?_)))))))))))))
       refine dq 168 9 rfl (dJ A_3 Z_3 (Ht rfl)) (dqq 165 6 169 10 rfl (dZ U_31 Z_98 (Ht rfl) (Ht rfl) rfl (dY (dU (d:=Qi.zero) (by omega)))) (dq 170 11 rfl (dJ A_98 Z_98 (Ht rfl)) (fV mixed rfl (by kernel_rfl) (aJ (aJ (aJ (aJ (aJ (aJ (aJ (aJ (aJ (aJ (aJ (aJ (aJ (aV (ro rfl (op_idxO U_31 Z_98 (Ht rfl) (Ht rfl) rfl (i:=5) rfl (by rw [mix_len]; omega) rfl) ?_))))))))))))))))))
       refine R_stO Z_98 (Ht rfl) (Ht rfl) (El.ag rfl) (i:=5) rfl rfl (by rw [mix_len]; omega) rfl ?_
       refine eX (T_blk (cY (rm rfl (ro rfl (dV (Ht rfl) (cJ 1) (by show _ < 9223372036854775808; first | omega | (simp only [lim]; omega))) (ra rfl (eX (fU (i2 + 1) hin (by omega) (aQ rfl (aQ rfl (aQ rfl (aQ rfl (aQ rfl (aQ rfl (aQ rfl (aQ rfl (aQ rfl aX))))))))) (aU (box_of rfl) (aU (box_of rfl) (aU (fun _ _ _ h=>h) (aU (fun _ _ _ h=>h) (aU (box_of rfl) (aU (rowO_of (mix_set (f:=(fun i=>QT (gm S i (lf.getD y 0)))))) aY)))))))))))))
      ·have hir : i2 = r := by simp only [decide_eq_false_iff_not] at hic; omega
       rw [hir,mix_fin,show (tab r fun i=>QT (gm S i (lf.getD y 0))) = (cnB S r (lf.getD y 0)).map QT from by rw [cnB,tab_map]]
       refine gV rfl (gJ (i:=5) (tt:=17) rfl rfl frz_row (ts (rm rfl (rm rfl (ro rfl (cZ Tryz.call230 (c_rSolve (M:=cnM S to r) (b:=cnB S r (lf.getD y 0)) (n:=r) (L:=1 + r * (L + 1)) (cnM_shp S to r) (tab_len _ _) (cnM_fit hf hL) ((cnB_fit hf hL).le hrL) (by omega) h1 (by omega) hgr) ⟨(Ht rfl),(Ht rfl),trivial⟩) (rm rfl (ro rfl (dK (Ht rfl) rfl) (ro rfl (dK (Ht rfl) rfl) (ra rfl (ra rfl (eX (cK (ts (rm rfl (ro rfl (op_neq (Ht rfl) cV) (eX (dQ (Ht rfl) (fun hez=>?_) (fun hez=>?_))))))))))))))))))
       ·have hez2 : gjE (cnM S to r) (cnB S r (lf.getD y 0)) r ≠ 0 := by simp at hez; exact hez
        have hcE:cnE S to r lf ≠ 0:=by rw [cnE,firstE_at (f:=fun y=>gjE (cnM S to r) (cnB S r (lf.getD y 0)) r) h0 hez2 hyn]; exact hez2
        refine ts (ro rfl (OpTy.imp (bld_34_ ) rnet_nil) (gQ Z_34 (Ht rfl) (Ht rfl) rfl (i:=1) rfl (aK rfl) rfl rfl (ro rfl (cQ cV) (eX (T_ret2 rfl (fX (fK A_34 Z_34 rfl (i:=1) rfl rfl) ?_) (fX (eU rfl) ?_))))))
        ·exact (cn_no hcE)
        ·exact (bool_of (by simp [hcE]))
       ·have hez2 : gjE (cnM S to r) (cnB S r (lf.getD y 0)) r = 0 := by simp at hez; exact hez
        have hgl:(gjL (cnM S to r) (cnB S r (lf.getD y 0)) r).length = r:=gjL_len (cnM_shp S to r) hez2
        refine cU (ts (ro rfl (cQ (cJ 0)) (eX (eG (T_keep [0,1,2,3,4] rfl (by decide) ?_)))))
        refine T_loop (fun (x : Nat) => x ≤ lf.length) (fun (x : Nat) => lf.length - x) (fun (x : Nat) => [(2, PtrB B2 0), (4, PtrB B4 0), (6, NT .i64 r), (10, IntsT lf), (12, QM (cnM S to r)), (15, PtrB B15 0), (16, NT .i64 y), (19, QsT (gjL (cnM S to r) (cnB S r (lf.getD y 0)) r)), (21, NT .i64 x)]) (fun (x : Nat) => [box B2 34 [QsT z, QM S], box B4 34 [Is (.slice none 0 0), Is (.slice none 0 0)], rowO 98 5 (.slice (some ⟨B127, 0, none⟩) lf.length lf.length) (mixT (fun y => QT (gv z (lf.getD y 0))) ZQ lf.length (y + 1)), matP exactH B132 31 98 5 (FRow QT (colP (cnV S to r lf) lf.length lf.length y x)), box B15 34 [Is (.slice (some ⟨B127, 0, none⟩) lf.length lf.length), Is (.slice (some ⟨B132, 0, none⟩) lf.length lf.length)]]) 0 (Nat.zero_le _)
         (aQ rfl (aQ rfl (aQ rfl (aQ rfl (aQ rfl (aQ rfl (aQ rfl (aQ rfl (aQ rfl aX))))))))) (aU (box_of rfl) (aU (box_of rfl) (aU (fun _ _ _ h=>h) (aU (fun _ _ _ h=>h) (aU (box_of rfl) aY))))) (fun x hx=>?_)
        refine cK (ts (rm rfl (rm rfl (ro rfl (dG U_69 (Ht rfl) len_map) (ro rfl (gX (Ht rfl) (Ht rfl)) (eX (dQ (Ht rfl) (fun hxc=>?_) (fun hxc=>?_))))))))
        ·have hxn : x < lf.length := by simp only [decide_eq_true_eq] at hxc; omega
         have hlx:=hlm x hxn
         have hpl:=(colP_shp (cnV S to r lf) lf.length lf.length y x).1
         have hpr:((colP (cnV S to r lf) lf.length lf.length y x).getD x []).length = lf.length:=(colP_shp (cnV S to r lf) lf.length lf.length y x).row hxn
         refine T_focusE 3 (x) rfl (frow_get (by omega)) (fun v hv=>(cU (cK (eG (fZ (m:=13) (dp 15 rfl (eZ fa_34_1 (Ht rfl) rfl) (dq 188 0 rfl (eY A_32 Z_32 (Ht rfl) (i:=4) rfl rfl) (dp 21 rfl (cX (Ht rfl)) (dqq 189 1 190 2 rfl (fY U_32 Z_31 (Ht rfl) (Ht rfl) rfl (by omega) (by rw [Nat.mul_one,Nat.zero_add])) ?_)))))))))
         refine dq 191 3 rfl (op_ldH A_31 Z_31 (Ht rfl) (j:=3) rfl) (dp 16 rfl (cX (Ht rfl)) (dp 19 rfl (cX (Ht rfl)) (dp 10 rfl (cX (Ht rfl)) (dp 21 rfl (cX (Ht rfl)) (dqq 195 7 196 8 rfl (dZ U_69 Z_3 (Ht rfl) (Ht rfl) rfl (dY (dU (d:=0) (by omega)))) (dq 197 9 rfl (dJ A_3 Z_3 (Ht rfl)) (dqq 194 6 198 10 rfl (dZ U_31 Z_98 (Ht rfl) (Ht rfl) rfl (dY (dU (d:=Qi.zero) (by omega)))) (dq 199 11 rfl (dJ A_98 Z_98 (Ht rfl)) (fV mixed rfl (by kernel_rfl) (aJ (aJ (aJ (aJ (aJ (aJ (aJ (aJ (aJ (aJ (aJ (aJ (aJ (aV ?_)))))))))))))))))))))))
         refine ro rfl (op_idxO U_31 Z_98 (Ht rfl) (Ht rfl) rfl (i:=5) rfl (by rw [List.length_map]; omega) rfl) ?_
         refine R_stO Z_98 (Ht rfl) (Ht rfl) (El.ag rfl) (i:=5) rfl rfl (by rw [List.length_map]; omega) rfl ?_
         refine eX (T_blk (T_unfocus 3 5 rfl rfl (by decide) (by simp only [FRow,List.length_map]; omega) ?_))
         refine cY (rm rfl (ro rfl (dV (Ht rfl) (cJ 1) (by show _ < 9223372036854775808; first | omega | (simp only [lim]; omega))) (ra rfl (eX (T_keep [0,1,2,3,4] rfl (by decide) (fU (x + 1) hxn (by omega) (aQ rfl (aQ rfl (aQ rfl (aQ rfl (aQ rfl (aQ rfl (aQ rfl (aQ rfl (aQ rfl aX))))))))) (aU (box_of rfl) (aU (box_of rfl) (aU (fun _ _ _ h=>h) (aU (matO_of (by rw [set_mapF,set_FRow]; exact congrArg _ (colP_next (val:=cnV S to r lf) hxn hyn))) (aU (box_of rfl) aY)))))))))))
        ·have hxl : x = lf.length := by simp only [decide_eq_false_iff_not] at hxc; omega
         rw [hxl,colP_col]
         refine gV rfl (T_blk (cY (rm rfl (ro rfl (dV (Ht rfl) (cJ 1) (by show _ < 9223372036854775808; first | omega | (simp only [lim]; omega))) (ra rfl (eX ?_))))))
         refine fU (y + 1) ⟨hyn, fun j h => by
          by_cases e:j = y
          ·rw [e]; exact hez2
          ·exact h0 j (by omega)⟩ (by omega) (aQ rfl (aQ rfl (aQ rfl (aQ rfl (aQ rfl (aQ rfl (aQ rfl aX))))))) (aU (box_of rfl) (aU (box_of rfl) (aU (fun _ _ _ h=>h) (aU (fun _ _ _ h=>h) (aU (box_of rfl) aY)))))
     ·have hyl : y = lf.length := by simp only [decide_eq_false_iff_not] at hyc; omega
      rw [hyl,mix_fin,colP_fin]
      have hcE:cnE S to r lf = 0:=firstE_none (by rw [hyl] at h0; exact h0)
      have hZ:(tab lf.length fun y=>QT (gv z (lf.getD y 0))) = (lf.map fun l=>gv z l).map QT:=by rw [List.map_map]; exact tab_list lf (fun l=>QT (gv z l))
      refine gV rfl (cK (T_frzcell 4 2 0 rfl rfl rfl (by decide) (T_frzcellG 4 3 1 rfl rfl rfl (by decide) (frzM (q:=exactH) (M:=tab lf.length fun x=>tab lf.length fun y=>cnV S to r lf x y) (tab_len _ _).symm) (cY (ro rfl (eJ A_34 Z_34 (Ht rfl) (i:=4) rfl rfl rfl) (gQ Z_34 (Ht rfl) (Ht rfl) rfl (i:=1) rfl (aK rfl) rfl rfl (ro rfl (cQ cV) (eX (T_ret2 rfl (fX (fK A_34 Z_34 rfl (i:=1) rfl rfl) ?_) (fX (eU rfl) ?_))))))))))
      ·exact (cn_yes hcE hZ rfl)
      ·exact (bool_of (by simp [hcE]))
end
section
open Go Go.RowKit
theorem bld_120_0_1 {n : Nat} {E : Env} {H : Hp} {d : Option Tmp} {t : TypeId} {pos : String} {af : Array Edge} {g : Option (Nat × Bool)} {x0 x1 : Operand} {T0 T1 : Ty} [s0 : Shape T0 1 false] (h0 : Has E x0 T0) [s1 : Shape T1 1 false] (h1 : Has E x1 T1) :
  OpTy Tryz.prog n E H ⟨d,.build 120 #[(0,x0),(1,x1)],t,pos,af,g⟩ (AggT [T0,T1]) :=
 op_build (parts := [(0, x0), (1, x1)]) fun a V w hs => by
  have p0:=h0 n V a hs
  generalize e0:a.eval x0 = v0 at p0
  have q0:=(s0.ok v0 V p0).2.2 rfl
  have p1:=h1 n V a hs
  generalize e1:a.eval x1 = v1 at p1
  have q1:=(s1.ok v1 V p1).2.2 rfl
  refine ⟨.agg #[v0,v1],?_,[v0,v1],rfl,aW (⟨p0,q0⟩) (aW (⟨p1,q1⟩) (aG))⟩
  simp [e0,e1,Instr.build,Instr.fill,Sem.run_bind,Result.andThen,cells_agg,q0.cells,q1.cells,Tryz.zeroValue120,U_120,Z_3]
end
section
open Go Go.RowKit
abbrev tmC (s:List (List Qi)) (g:Qi) (n p:Nat):Int:=cnE (tmS s g n) (tmT n p) (n + 1) (lfL (tmT n p) (n + 1))
abbrev tmRZ (z:List Qi) (s:List (List Qi)) (g:Qi) (n p:Nat):List Qi:=okL (tmC s g n p) ((lfL (tmT n p) (n + 1)).map fun l=>gv (z ++ [gv z p]) l)
abbrev tmRS (s:List (List Qi)) (g:Qi) (n p:Nat):List (List Qi):=okL (tmC s g n p) (tab (lfL (tmT n p) (n + 1)).length fun x=>tab (lfL (tmT n p) (n + 1)).length fun y=>cnV (tmS s g n) (tmT n p) (n + 1) (lfL (tmT n p) (n + 1)) x y)
theorem rtm_good {z : List Qi} {s : List (List Qi)} {p n : Nat} {g : Qi} (hz : z.length = n) (hp : p < n) (he : trmE z s ((p : Int) + 1) g = 0) (hne : Qi.ofInt 1 - gm s p p * g ≠ Qi.zero) :
  ∀ v V,(RNetT (tmRZ z s g n p) (tmRS s g n p)).p v V → (RNetT (trmRZ z s ((p:Int) + 1) g) (trmRS z s ((p:Int) + 1) g)).p v V:=by
 obtain ⟨h0,h1⟩:=tm_ok hp hne
 have hl:(lfL (tmT n p) (n + 1)).length = n - 1:=by rw [tm_lf2 hp,tab_len]
 have e : (tab (lfL (tmT n p) (n + 1)).length fun x => tab (lfL (tmT n p) (n + 1)).length fun y => cnV (tmS s g n) (tmT n p) (n + 1) (lfL (tmT n p) (n + 1)) x y) = trmS s p (n - 1) (trmF s p g) := by
  rw [hl]; exact tab_congr fun x hx=>tab_congr fun y hy=>h1 x y hx hy
 rw [tmRZ,tmRS,tmC,h0,okL,okL,if_pos rfl,if_pos rfl,e,tm_z hp hz,trmRZ,trmRS,okL,okL,he,if_pos rfl,if_pos rfl,trm_p,hz]; exact fun _ _ k=>k
theorem rtm_bad {z:List Qi} {s:List (List Qi)} {port:Int} {g:Qi} {e:Int} (h:trmE z s port g = e) (he:e ≠ 0):∀ v V,(RNetT [] []).p v V → (RNetT (trmRZ z s port g) (trmRS z s port g)).p v V:=by
 rw [trmRZ,trmRS,okL,okL,h,if_neg he,if_neg he]; exact fun _ _ k=>k
theorem one_shp (g:Qi):Shp [[g]] 1 1:=⟨rfl,fun r hr=>by simp at hr; subst hr; rfl⟩
theorem one_fitM {g : Qi} {L : Nat} (h : FitC g L) : FitM [[g]] L := fun r hr x hx => by
 simp at hr; subst hr; simp at hx; subst hx; exact h
theorem one_ps {p n j:Nat} (hp:p < n) (hj:j < [(p,n)].length):pA [(p,n)] j < n + 1 ∧ pB [(p,n)] j < n + 1:=by
 obtain rfl:j = 0:=by simp at hj; exact hj
 exact ⟨show p < n + 1 by omega,show n < n + 1 by omega⟩
theorem trm_fitZ {z:List Qi} {s:List (List Qi)} {port:Int} {g:Qi} {L:Nat} (h:FitL z L) (hL:1 ≤ L):FitL (trmRZ z s port g) L:=okL_fit (FitL.tab fun i _=>h.get hL _)
theorem trm_fitS {z:List Qi} {s:List (List Qi)} {port:Int} {g:Qi} {L:Nat} (hs:FitM s L) (hg:FitC g L) (hL:1 ≤ L):FitM (trmRS z s port g) (10 * L + 14):=by
 by_cases h:trmE z s port g = 0
 ·refine okL_fitM fun r hr => ?_
  obtain ⟨i,_,rfl⟩:=tab_mem.1 hr
  refine FitL.tab fun j _=>?_
  have hd : Qi.ofInt 1 - gm s (port - 1).toNat (port - 1).toNat * g ≠ Qi.zero := by
   unfold trmE at h
   split at h
   ·omega
   ·split at h
    ·omega
    ·split at h
     ·omega
     ·assumption
  haveI f0:=trmF_fit hs hg hL hd
  haveI f1:FitC (gm s (skp (port - 1).toNat i) (skp (port - 1).toNat j)) L:=hs.get hL _ _
  haveI f2:FitC (gm s (skp (port - 1).toNat i) (port - 1).toNat) L:=hs.get hL _ _
  haveI f3:FitC (gm s (port - 1).toNat (skp (port - 1).toNat j)) L:=hs.get hL _ _
  have f4:FitC (trmX s (port - 1).toNat (trmF s (port - 1).toNat g) i j) (L + (L + (7 * L + 11 + L + 1) + 1) + 1):=inferInstanceAs (FitC (_ + _ * (_ * _)) _)
  exact f4.le (by omega)
 ·rw [trmRS,okL,if_neg h]; exact FitM.nil
theorem c_rTerm {z:List Qi} {s:List (List Qi)} {port:Int} {g:Qi} {L:Nat} (hs:Shp s z.length z.length) (hf:FitM s L) (hg:FitC g L) (hL:1 ≤ L) (hLb:L ≤ 1000) (hl:z.length ≤ 8):Fun Tryz.prog 145 [RNetT z s,IntT .i64 port,QT g] (TupT [RNetT (trmRZ z s port g) (trmRS z s port g),IntT .i64 (trmE z s port g)]):=by
 refine Fun.intro Tryz.func145 rfl Tryz.ntmps145 rfl (fun cx=>(ts (rn rfl (fG (Ht rfl)) fun B3=>(rn rfl (fG (Ht rfl)) fun B5=>(rn rfl (eW (Ts:=[Is (.slice none 0 0),Is (.slice none 0 0)]) O_34 rfl (fun V=>aW ⟨rfl,trivial⟩ (aW ⟨rfl,trivial⟩ (aG)))) fun B6=>(ro rfl (cQ (cJ 0)) (eX (cK (ts (ro rfl (eJ A_34 Z_34 (Ht rfl) (i:=0) rfl rfl rfl) (rm rfl (ro rfl (cZ Tryz.call227 c_rHas ⟨(Ht rfl),(Ht rfl),trivial⟩) (ro rfl (op_not (Ht rfl)) (eX (dQ (Ht rfl) (fun hb=>?_) (fun hb=>?_))))))))))))))))
 ·have he : trmE z s port g = 1 := trmE_1 (by simpa only [Bool.not_eq_true', decide_eq_false_iff_not] using hb)
  refine ts (ro rfl (OpTy.imp (bld_34_ ) rnet_nil) (gQ Z_34 (Ht rfl) (Ht rfl) rfl (i:=2) rfl (aK rfl) rfl rfl (ro rfl (cQ (cJ 1)) (eX (T_ret2 rfl (fX (fK A_34 Z_34 rfl (i:=2) rfl rfl) ?_) (fX (eU rfl) ?_))))))
  ·exact (rtm_bad he (by decide))
  ·exact (int_of he.symm)
 ·have hb2 : 1 ≤ port ∧ port ≤ (z.length : Int) := by simpa using hb
  obtain ⟨p,rfl⟩:∃ p:Nat,port = (p:Int) + 1:=⟨(port - 1).toNat,by omega⟩
  have hp:p < z.length:=by omega
  refine cU (cK (ts (ro rfl (eZ fa_34_0 (Ht rfl) rfl) (ro rfl (eY A_31 Z_31 (Ht rfl) (i:=0) rfl rfl) (ro rfl (dG U_31 (Ht rfl) len_map) (ro rfl (op_eqlN (Ht rfl) (cJ 1)) (eX (dQ (Ht rfl) (fun hc=>?_) (fun hc=>?_)))))))))
  ·have he : trmE z s ((p : Int) + 1) g = 4 := trmE_4 hb2 (by simpa using hc)
   refine ts (ro rfl (OpTy.imp (bld_34_ ) rnet_nil) (gQ Z_34 (Ht rfl) (Ht rfl) rfl (i:=2) rfl (aK rfl) rfl rfl (ro rfl (cQ (cJ 4)) (eX (T_ret2 rfl (fX (fK A_34 Z_34 rfl (i:=2) rfl rfl) ?_) (fX (eU rfl) ?_))))))
   ·exact (rtm_bad he (by decide))
   ·exact (int_of he.symm)
  ·have hn1 : ¬ z.length = 1 := by simpa using hc
   have htd:=trmE_d (s:=s) (g:=g) hp hn1
   refine cU (cK (fZ (m:=12) (dp 3 rfl (eZ fa_34_0 (Ht rfl) rfl) (dq 21 0 rfl (eY A_31 Z_31 (Ht rfl) (i:=0) rfl rfl) (dp 1 rfl (cX (Ht rfl)) (dq 23 2 rfl (op_sub (Ht rfl) cV (r:=((p:Nat):Int)) ((w64 (z:=(p:Int) + 1 - 1) (by omega)).trans (by omega))) ?_))))))
   refine dqq 22 1 24 3 rfl (dZ U_31 Z_98 (Ht rfl) (Ht rfl) rfl (dY (dU (d:=Qi.zero) (by omega)))) (dq 25 4 rfl (dJ A_98 Z_98 (Ht rfl)) (dq 26 5 rfl (op_bslice (xs:=[.tmp 26]) U_31 Z_98 O_98 (cW (Ht rfl) cG) rfl rfl rfl) (dp 5 rfl (eJ A_98 Z_98 (Ht rfl) (i:=1) rfl rfl rfl) (dq 28 7 rfl (op_bslice (xs:=[.tmp 28]) U_31 Z_98 O_98 (cW (Ht rfl) cG) rfl rfl rfl) (dq 29 8 rfl (op_bslice (xs:=[.tmp 29]) U_32 Z_31 O_31 (cW (Ht rfl) cG) rfl rfl rfl) ?_)))))
   refine dqq 27 6 30 9 rfl (bld_34_0_1 (Ht rfl) (Ht rfl)) (C.D_new (Ei:=[]) rfl rfl rfl bW (eW (Ts:=[Is (.slice none 0 0),Is (.slice none 0 0)]) O_34 rfl (fun V=>aW ⟨rfl,trivial⟩ (aW ⟨rfl,trivial⟩ (aG)))) (fV mixed rfl (by kernel_rfl) (aJ (aJ (aJ (aJ (aJ (aJ (aJ (aJ (aJ (aJ (aJ (C.F_new (fun B8=>aV (gQ Z_34 (Ht rfl) (Ht rfl) rfl (i:=3) rfl (aK rfl) rfl rfl (eX (cK (Y.D_start (m:=16) [] (bY (Ei:=[(3,_)]) rfl rfl (bQ (bJ rfl rfl) bX) rfl rfl (dX rfl (eJ A_34 Z_34 (Ht rfl) (i:=0) rfl rfl rfl)) ?_))))))))))))))))))))
   refine bY (Ei:=[(8,_)]) rfl rfl (bQ (bJ rfl rfl) bX) rfl rfl (dX rfl (eJ A_34 Z_34 (Ht rfl) (i:=3) rfl rfl rfl)) (bY (Ei:=[(33,_),(34,_)]) rfl rfl (bQ (bZ 0 rfl rfl) (bQ (bZ 1 rfl rfl) bX)) rfl rfl (dX rfl (cZ Tryz.call155 (c_side (z:=z) (zb:=[gv z p]) (a:=s) (b:=[[g]]) (x:=z.length) (y:=1) hs (one_shp g) rfl rfl (by omega) (by omega) (by omega) (by omega)) ⟨(Ht rfl),(Ht rfl),trivial⟩)) (bY (Ei:=[(1,_)]) rfl rfl (bQ (bJ rfl rfl) bX) rfl rfl (dX rfl (cX (Ht rfl))) ?_))
   refine bY (Ei:=[(36,_)]) rfl rfl (bQ (bZ 3 rfl rfl) bX) rfl rfl (dX rfl (op_sub (Ht rfl) cV (r:=((p:Nat):Int)) ((w64 (z:=(p:Int) + 1 - 1) (by omega)).trans (by omega)))) ?_
   refine bY (Ei:=[(3,_)]) rfl rfl (bQ (bJ rfl rfl) bX) rfl rfl (dX rfl (eZ fa_34_0 (Ht rfl) rfl)) (bY (Ei:=[(38,_)]) rfl rfl (bQ (bZ 5 rfl rfl) bX) rfl rfl (dX rfl (eY A_31 Z_31 (Ht rfl) (i:=0) rfl rfl)) (bY (Ei:=[(39,_)]) rfl rfl (bQ (bZ 6 rfl rfl) bX) rfl rfl (dX rfl (dG U_31 (Ht rfl) len_map)) (bY (Ei:=[(37,_),(40,_)]) rfl rfl (bQ (bZ 4 rfl rfl) (bQ (bZ 7 rfl rfl) bX)) rfl rfl (dX rfl (bld_120_0_1 (Ht rfl) (Ht rfl))) ?_)))
   refine bY (Ei:=[(41,_)]) rfl rfl (bQ (bZ 8 rfl rfl) bX) rfl rfl (dX rfl (op_bslice (xs:=[.tmp 41]) U_59 Z_120 Tryz.zeroValue120 (cW (Ht rfl) cG) rfl rfl rfl)) (bY (Ei:=[(35,_),(42,_)]) rfl rfl (bQ (bZ 2 rfl rfl) (bQ (bZ 9 rfl rfl) bX)) rfl rfl (dX rfl (cZ Tryz.call154 (c_connect (z:=z ++ [gv z p]) (S:=sidM s [[g]] z.length 1) (n:=z.length + 1) (L:=L) (ps:=[(p,z.length)]) (sidM_shp s [[g]] z.length 1) (by simp) (sidM_fit hf (one_fitM hg) hL) hL hLb (by omega) (by omega) (fun j hj=>one_ps hp hj) (by simp)) ⟨(Ht rfl),(Ht rfl),trivial⟩)) ?_)
   refine bY (Ei:=[(43,_)]) rfl rfl (bQ (bZ 10 rfl rfl) bX) rfl rfl (dX rfl (cX (Ht rfl))) (bY (Ei:=[(32,_)]) rfl rfl (bQ (bZ 11 rfl rfl) bX) rfl rfl (dX rfl (dK (Ht rfl) rfl)) (bY (Ei:=[(32,_)]) rfl rfl (bQ (bZ 11 rfl rfl) bX) rfl rfl (dX rfl (dK (Ht rfl) rfl)) (Y.D_newp (Ei:=[]) (fun bb=>box bb 34 [QsT (tmRZ z s g z.length p),QM (tmRS s g z.length p)]) 15 rfl rfl rfl bX rfl rfl (by kernel_rfl) (eW (Ts:=[Is (.slice none 0 0),Is (.slice none 0 0)]) O_34 rfl (fun V=>aW ⟨rfl,trivial⟩ (aW ⟨rfl,trivial⟩ (aG)))) ?_)))
   refine Y.D_putN (Ei:=[(44,_)]) 14 rfl rfl rfl rfl rfl rfl (bQ (bZ 12 rfl rfl) bX) (fun bb=>P_stA Z_34 (Ht rfl) (Ht rfl) rfl (i:=0) rfl (aK rfl) rfl rfl) (Y.D_done mixed rfl (by kernel_rfl) rfl (by simp [Y.okP]) rfl rfl (bU (bU (bU (bU (bU (bU (bU (bU (bU (bU (bU (bU (bU (bU (Y.F_newp (fun B9=>Y.F_putN (Y.F_nil ?_))))))))))))))))))
   refine ra rfl (eX (cK (ts (rm rfl (ro rfl (op_not (Ht rfl)) (eX (dQ (Ht rfl) (fun he=>?_) (fun he=>?_))))))))
   ·have hz : Qi.ofInt 1 - gm s p p * g = Qi.zero := by
     by_cases c:Qi.ofInt 1 - gm s p p * g = Qi.zero
     ·exact c
     ·exact absurd (tm_ok hp c).1 (by simpa using he)
    have he:trmE z s ((p:Int) + 1) g = 6:=by rw [htd,if_pos hz]
    refine ts (ro rfl (OpTy.imp (bld_34_ ) rnet_nil) (gQ Z_34 (Ht rfl) (Ht rfl) rfl (i:=2) rfl (aK rfl) rfl rfl (ro rfl (cQ (cJ 6)) (eX (T_ret2 rfl (fX (fK A_34 Z_34 rfl (i:=2) rfl rfl) ?_) (fX (eU rfl) ?_))))))
    ·exact (rtm_bad he (by decide))
    ·exact (int_of he.symm)
   ·have hz : Qi.ofInt 1 - gm s p p * g ≠ Qi.zero := fun c => by
     have h6:=tm_bad hp hn1 c
     have h0:cnE (tmS s g z.length) (tmT z.length p) (z.length + 1) (lfL (tmT z.length p) (z.length + 1)) = 0:=by simpa using he
     omega
    have he:trmE z s ((p:Int) + 1) g = 0:=by rw [htd,if_neg hz]
    refine cU (ts (ro rfl (eJ A_34 Z_34 (Ht rfl) (i:=4) rfl rfl rfl) (gQ Z_34 (Ht rfl) (Ht rfl) rfl (i:=2) rfl (aK rfl) rfl rfl (ro rfl (cQ (cJ 0)) (eX (T_ret2 rfl (fX (fK A_34 Z_34 rfl (i:=2) rfl rfl) ?_) (fX (eU rfl) ?_)))))))
    ·exact (rtm_good rfl hp he hz)
    ·exact (int_of he.symm)
end
section
open Go Go.RowKit
def clr (A:List (List Qi)) (c i j:Nat):Qi:=if j < c ∧ j < i then 0 else gm A i j
def KerF (F:Nat → Nat → Qi) (n m:Nat) (x:Nat → Qi):Prop:=∀ i,i < n → sumN m (fun k=>F i k * x k) = 0
theorem kerF_congr {F G:Nat → Nat → Qi} {n m:Nat} {x:Nat → Qi} (h:∀ i,i < n → ∀ j,j < m → F i j = G i j):KerF F n m x ↔ KerF G n m x:=by
 have e:∀ i,i < n → sumN m (fun k=>F i k * x k) = sumN m (fun k=>G i k * x k):=fun i hi=>sumN_congr fun k hk=>by rw [h i hi k hk]
 exact ⟨fun k i hi=>by rw [← e i hi]; exact k i hi,fun k i hi=>by rw [e i hi]; exact k i hi⟩
def tau (p c i:Nat):Nat:=if i = c then p else if i = p then c else i
theorem tau_lt {p c i n:Nat} (hp:p < n) (hc:c < n) (hi:i < n):tau p c i < n:=by unfold tau; split <;> (try split) <;> omega
theorem tau_tau (p c i:Nat):tau p c (tau p c i) = i:=by
 unfold tau
 by_cases e1:i = c
 ·subst e1
  rw [if_pos rfl]
  by_cases e2:p = i
  ·rw [if_pos e2]; exact e2
  ·rw [if_neg e2,if_pos rfl]
 ·rw [if_neg e1]
  by_cases e2:i = p
  ·subst e2; rw [if_pos rfl,if_pos rfl]
  ·rw [if_neg e2,if_neg e1,if_neg e2]
theorem kerF_tau {F : Nat → Nat → Qi} {n m p c : Nat} {x : Nat → Qi} (hp : p < n) (hc : c < n) : KerF (fun i => F (tau p c i)) n m x ↔ KerF F n m x :=
 ⟨fun h i hi=>by have:=h _ (tau_lt hp hc hi); simp only [tau_tau] at this; exact this,fun h i hi=>h _ (tau_lt hp hc hi)⟩
theorem kerF_red {F G:Nat → Nat → Qi} {n m c:Nat} {x f:Nat → Qi} (hc:c < n) (hG:∀ i,i < n → ∀ j,j < m → G i j = if c < i then F i j - f i * F c j else F i j):KerF G n m x ↔ KerF F n m x:=by
 have key : ∀ i, i < n → sumN m (fun k => G i k * x k) = if c < i then sumN m (fun k => F i k * x k) - f i * sumN m (fun k => F c k * x k) else sumN m (fun k => F i k * x k) := fun i hi => by
  by_cases e:c < i
  ·rw [if_pos e, ← sumN_sub]
   exact sumN_congr fun k hk=>by rw [hG i hi k hk,if_pos e]; grind
  ·rw [if_neg e]
   exact sumN_congr fun k hk=>by rw [hG i hi k hk,if_neg e]
 have kc:=key c hc
 rw [if_neg (by omega)] at kc
 constructor
 ·intro h i hi
  have h0:=h c hc
  rw [kc] at h0
  have h1:=h i hi
  rw [key i hi] at h1
  by_cases e:c < i
  ·rw [if_pos e,h0] at h1; grind
  ·rw [if_neg e] at h1; exact h1
 ·intro h i hi
  rw [key i hi]
  by_cases e:c < i
  ·rw [if_pos e,h i hi,h c hc]; grind
  ·rw [if_neg e]; exact h i hi
theorem redM_gm {M:List (List Qi)} {n m c i j:Nat} (h:Shp M n m) (hi:i < n) (hj:j < m):gm (redM M c n) i j = if c < i ∧ c < j then gm M i j - gm M i c / gm M c c * gm M c j else gm M i j:=by
 have hr:(rw' M i).length = m:=h.row hi
 have e0 : rw' (redM M c n) i = if c < i ∧ i < n then redR (rw' M i) (rw' M c) c (rw' M i).length else rw' M i := by
  simp only [rw',redM,List.getD]; rw [tab_get (by rw [h.1]; exact hi)]; rfl
 show gv (rw' (redM M c n) i) j = _
 rw [e0]
 by_cases e:c < i
 ·rw [if_pos ⟨e, hi⟩, redR, gv_tab (by omega)]
  by_cases e2:c < j
  ·rw [if_pos ⟨e2,by omega⟩,if_pos ⟨e,e2⟩]
  ·rw [if_neg (fun k=>e2 k.1),if_neg (fun k=>e2 k.2)]
 ·rw [if_neg (fun k=>e k.1),if_neg (fun k=>e k.1)]
theorem clr_swp {A:List (List Qi)} {p c i j:Nat} (hc:c < A.length) (hp:p < A.length) (hcp:c ≤ p):clr (swp [] A p c) c i j = clr A c (tau p c i) j:=by
 have key:gm (swp [] A p c) i j = gm A (tau p c i) j:=congrArg (fun r=>gv r j) (swp_rw (by omega) (by omega))
 unfold clr
 rw [key]
 have e:(j < c ∧ j < i) ↔ (j < c ∧ j < tau p c i):=by unfold tau; split <;> (try split) <;> omega
 by_cases h:j < c ∧ j < i
 ·rw [if_pos h,if_pos (e.1 h)]
 ·rw [if_neg h,if_neg (fun k=>h (e.2 k))]
structure EL (M A:List (List Qi)) (n m c:Nat):Prop where
 sh:Shp A n m
 ker:∀ x,KerF (clr A c) n m x ↔ KerF (gm M) n m x
theorem EL.next {M A:List (List Qi)} {n m c p:Nat} (h:EL M A n m c) (hc:c < n) (hcm:c < m) (hcp:c ≤ p) (hp:p < n) (hz:gm A p c ≠ 0):EL M (redM (if p = c then A else swp [] A p c) c n) n m (c + 1):=by
 have hl:=h.sh.1
 obtain ⟨B,hB⟩:∃ B,B = if p = c then A else swp [] A p c:=⟨_,rfl⟩
 have hs : Shp B n m := by
  rw [hB]; split
  ·exact h.sh
  ·exact swp_shp h.sh hp hc
 have hBk : ∀ x, KerF (clr B c) n m x ↔ KerF (gm M) n m x := fun x => by
  rw [hB]; split
  ·exact h.ker x
  ·exact (kerF_congr (G:=fun i=>clr A c (tau p c i)) fun i hi j hj=>clr_swp (by omega) (by omega) hcp).trans ((kerF_tau hp hc).trans (h.ker x))
 have hBz : gm B c c ≠ 0 := by
  rw [hB]; split
  ·rename_i e; rw [← e] at hz ⊢; exact hz
  ·show gv (rw' (swp [] A p c) c) c ≠ 0
   rw [swp_at (by omega)]; exact hz
 rw [← hB]
 refine ⟨redM_shp hs,fun x=>(kerF_red (f:=fun i=>gm B i c / gm B c c) hc fun i hi j hj=>?_).trans (hBk x)⟩
 have hd:=div_eq (x:=gm B i c) hBz
 unfold clr
 rw [redM_gm hs hi hj]
 by_cases e:c < i
 ·rw [if_pos e]
  by_cases e1:j < c
  ·rw [if_pos (by omega),if_pos (by omega),if_pos (by omega)]; grind
  ·by_cases e2 : j = c
   ·subst e2
    rw [if_pos (by omega),if_neg (by omega),if_neg (by omega)]; grind
   ·rw [if_neg (by omega),if_pos (by omega),if_neg (by omega),if_neg (by omega)]
 ·rw [if_neg e, if_neg (show ¬ (c < i ∧ c < j) from fun k => e k.1)]
  by_cases e1:j < i
  ·rw [if_pos (show j < c + 1 ∧ j < i by omega),if_pos (show j < c ∧ j < i by omega)]
  ·rw [if_neg (show ¬ (j < c + 1 ∧ j < i) by omega),if_neg (show ¬ (j < c ∧ j < i) by omega)]
theorem elim_el {M : List (List Qi)} {n m : Nat} (hs : Shp M n m) (hnm : n ≤ m) : ∀ {c : Nat}, c ≤ n → (elimTo M c).2.2 < 0 → EL M (elimTo M c).1 n m c
 | 0,_,_=>⟨hs,fun x=>kerF_congr fun i _ j _=>by unfold clr; rw [if_neg (by omega)]; rfl⟩
 | c + 1, hc, h => by
  obtain ⟨i1,i2,i3,i4⟩:=pv_spec (M:=(elimTo M c).1) (c:=c) (n:=M.length) (by rw [hs.1]; omega)
  simp only [elimTo] at h ⊢
  by_cases e:0 ≤ (elimTo M c).2.2
  ·rw [if_pos e] at h; omega
  ·rw [if_neg e] at h ⊢
   have ih:=elim_el hs hnm (c:=c) (by omega) (by omega)
   by_cases e2:pv (elimTo M c).1 c M.length = M.length
   ·rw [if_pos e2] at h; simp only at h; omega
   ·rw [if_neg e2]
    rw [hs.1] at i3 i4 e2 ⊢
    exact ih.next (by omega) (by omega) (by rw [hs.1] at i2; exact i2) (by omega) (i4 (by omega))
theorem elim_halt {M : List (List Qi)} : ∀ {n : Nat}, 0 ≤ (elimTo M n).2.2 → ∃ c, c < n ∧ (elimTo M c).2.2 < 0 ∧ pv (elimTo M c).1 c M.length = M.length
 | 0,h=>absurd h (by show ¬ (0:Int) ≤ -1; omega)
 | c + 1, h => by
  by_cases e:0 ≤ (elimTo M c).2.2
  ·obtain ⟨d, h1, h2⟩ := elim_halt e
   exact ⟨d,by omega,h2⟩
  ·simp only [elimTo] at h
   rw [if_neg e] at h
   by_cases e2:pv (elimTo M c).1 c M.length = M.length
   ·exact ⟨c,by omega,by omega,e2⟩
   ·rw [if_neg e2] at h; simp only at h; omega
theorem subS_congr {U : List (List Qi)} {x y : List Qi} {n c : Nat} : ∀ {K : Nat}, (∀ k, k < K → gv x (c + 1 + k) = gv y (c + 1 + k)) → subS U x n c K = subS U y n c K
 | 0,_=>rfl
 | K + 1,h=>by rw [subS,subS,subS_congr (fun k hk=>h k (by omega)),h K (by omega)]
theorem subS_sum (U : List (List Qi)) (x : List Qi) (n c : Nat) : ∀ K, subS U x n c K = gm U c n - sumN K (fun k => gm U c (c + 1 + k) * gv x (c + 1 + k))
 | 0=>by simp only [subS,sumN,q0]; grind
 | K + 1=>by simp only [subS,sumN,subS_sum U x n c K]; grind
theorem bkS_at {U : List (List Qi)} {n : Nat} : ∀ {j : Nat}, j ≤ n → ∀ c, n - j ≤ c → c < n → gv (bkS U n j) c = subS U (bkS U n j) n c (n - 1 - c) / gm U c c
 | 0,_,c,h1,h2=>by omega
 | j + 1, hj, c, h1, h2 => by
  have hl:=bkS_len U n j
  rw [bkS]
  by_cases e:c = n - (j + 1)
  ·subst e
   rw [gv_set (by omega),if_pos rfl,show n - 1 - (n - (j + 1)) = j by omega]
   rw [subS_congr (x:=(bkS U n j).set _ _) (y:=bkS U n j) fun k hk=>by rw [gv_set (by omega),if_neg (by omega)]]
  ·rw [gv_set (by omega), if_neg e, bkS_at (j := j) (by omega) c (by omega) h2]
   rw [subS_congr (x:=(bkS U n j).set _ _) (y:=bkS U n j) fun k hk=>by rw [gv_set (by omega),if_neg (by omega)]]
theorem sumN_app (a : Nat) (f : Nat → Qi) : ∀ b, sumN (a + b) f = sumN a f + sumN b fun k => f (a + k)
 | 0=>by simp only [sumN,q0,Nat.add_zero]; grind
 | b + 1=>by rw [← Nat.add_assoc]; simp only [sumN,sumN_app a f b]; grind
theorem tri_sum {U:List (List Qi)} {n i:Nat} (hi:i < n) (y:Nat → Qi):sumN n (fun k=>clr U n i k * y k) = gm U i i * y i + sumN (n - 1 - i) fun k=>gm U i (i + 1 + k) * y (i + 1 + k):=by
 have e:n = i + 1 + (n - 1 - i):=by omega
 have h1:sumN i (fun k=>clr U n i k * y k) = 0:=sumN_all0 fun k hk=>by unfold clr; rw [if_pos (by omega)]; grind
 have h2:clr U n i i = gm U i i:=by unfold clr; rw [if_neg (by omega)]
 have h3:sumN (n - 1 - i) (fun k=>clr U n i (i + 1 + k) * y (i + 1 + k)) = sumN (n - 1 - i) fun k=>gm U i (i + 1 + k) * y (i + 1 + k):=sumN_congr fun k hk=>by unfold clr; rw [if_neg (by omega)]
 have h4:=sumN_app (i + 1) (fun k=>clr U n i k * y k) (n - 1 - i)
 rw [← e] at h4
 rw [h4,h3]
 simp only [sumN,h1,h2]; grind
theorem tri_sol {U:List (List Qi)} {n i:Nat} (hd:∀ j,j < n → gm U j j ≠ 0) (hi:i < n):sumN n (fun k=>clr U n i k * gv (bkS U n n) k) = gm U i n:=by
 rw [tri_sum hi,bkS_at (Nat.le_refl n) i (by omega) hi,subS_sum]
 have:=div_eq (x:=gm U i n - sumN (n - 1 - i) (fun k=>gm U i (i + 1 + k) * gv (bkS U n n) (i + 1 + k))) (hd i hi)
 grind
theorem tri_zero {U : List (List Qi)} {n : Nat} (hd : ∀ j, j < n → gm U j j ≠ 0) {y : Nat → Qi} (h : ∀ i, i < n → sumN n (fun k => clr U n i k * y k) = 0) : ∀ t k, n - t ≤ k → k < n → y k = 0
 | 0,k,h1,h2=>by omega
 | t + 1, k, h1, h2 => by
  have h3:=h k h2
  rw [tri_sum h2,sumN_all0 (fun j hj=>by rw [tri_zero hd h t (k + 1 + j) (by omega) (by omega)]; grind)] at h3
  rcases mul_zero_or (x:=gm U k k) (y:=y k) (by grind) with h4 | h4
  ·exact absurd h4 (hd k h2)
  ·exact h4
theorem slv_some {M:List (List Qi)} {b:List Qi} {n:Nat} (h:Shp M n n) (hE:slvE M b n = 0):(∀ i,i < n → sumN n (fun k=>gm M i k * gv (slvX M b n) k) = gv b i) ∧ ∀ y:Nat → Qi,(∀ i,i < n → sumN n (fun k=>gm M i k * y k) = 0) → ∀ k,k < n → y k = 0:=by
 have hcs:Shp (copyM M [b] n) n (n + 1):=copyM_shp h
 have hst : (slvU M b n).2.2 < 0 := by
  unfold slvE at hE
  by_cases e:0 ≤ (slvU M b n).2.2
  ·rw [if_pos e] at hE; omega
  ·omega
 have hg:=elim_el hcs (Nat.le_succ n) (Nat.le_refl n) hst
 have hd:=elim_diag hcs (Nat.le_refl n) hst
 obtain ⟨U,hU⟩:∃ U,U = (slvU M b n).1:=⟨_,rfl⟩
 have hX:slvX M b n = bkS U n n:=by rw [hU]; rfl
 have hU2:(elimTo (copyM M [b] n) n).1 = U:=hU.symm
 rw [hU2] at hg hd
 rw [hX]
 refine ⟨fun i hi=>?_,fun y hy k hk=>?_⟩
 ·have h1 := (hg.ker fun k => if k < n then gv (bkS U n n) k else -1).1 (fun i hi => by
   simp only [sumN]
   rw [sumN_congr (g:=fun k=>clr U n i k * gv (bkS U n n) k) (fun k hk=>by rw [if_pos hk]),tri_sol hd hi,if_neg (by omega),show clr U n i n = gm U i n by unfold clr; rw [if_neg (by omega)]]
   grind) i hi
  rw [cp_sum h hi,sumN_congr (g:=fun k=>gm M i k * gv (bkS U n n) k) (fun k hk=>by rw [if_pos hk]),if_neg (by omega)] at h1
  grind
 ·have h1 := (hg.ker fun k => if k < n then y k else 0).2 (fun i hi => by
   rw [cp_sum h hi,sumN_congr (g:=fun k=>gm M i k * y k) (fun k hk=>by rw [if_pos hk]),if_neg (by omega),hy i hi]; grind)
  refine tri_zero (y:=y) hd (fun i hi=>?_) n k (by omega) hk
  have h2:=h1 i hi
  simp only [sumN] at h2
  rw [sumN_congr (g:=fun k=>clr U n i k * y k) (fun k hk=>by rw [if_pos hk]),if_neg (by omega)] at h2
  grind
theorem slv_none {M:List (List Qi)} {b:List Qi} {n:Nat} (h:Shp M n n) (hE:slvE M b n ≠ 0):∃ y:Nat → Qi,(∀ i,i < n → sumN n (fun k=>gm M i k * y k) = 0) ∧ ∃ k,k < n ∧ y k ≠ 0:=by
 have hcs:Shp (copyM M [b] n) n (n + 1):=copyM_shp h
 have hst : 0 ≤ (slvU M b n).2.2 := by
  unfold slvE at hE
  by_cases e:0 ≤ (slvU M b n).2.2
  ·exact e
  ·rw [if_neg e] at hE; exact absurd rfl hE
 obtain ⟨c,hc,hA,hp⟩:=elim_halt hst
 have hg:=elim_el hcs (Nat.le_succ n) (by omega) hA
 have hd:=elim_diag hcs (by omega) hA
 obtain ⟨U,hU⟩:∃ U,U = (elimTo (copyM M [b] n) c).1:=⟨_,rfl⟩
 rw [← hU] at hg hd hp
 rw [hcs.1] at hp
 have hz:=(pv_spec (M:=U) (c:=c) (n:=n) (by omega)).1
 rw [hp] at hz
 have key := (hg.ker fun k => if k < c then gv (bkS U c c) k else if k = c then -1 else 0).1 (fun i hi => by
  have e:n + 1 = c + (1 + (n - c)):=by omega
  rw [e,sumN_app,sumN_app]
  have z3:sumN (n - c) (fun k=>clr U c i (c + (1 + k)) * (if c + (1 + k) < c then gv (bkS U c c) (c + (1 + k)) else if c + (1 + k) = c then -1 else 0)) = 0:=sumN_all0 fun k hk=>by rw [if_neg (by omega),if_neg (by omega)]; grind
  have z2 : sumN 1 (fun k => clr U c i (c + k) * (if c + k < c then gv (bkS U c c) (c + k) else if c + k = c then -1 else 0)) = clr U c i c * -1 := by
   rw [sumN_one,if_neg (by omega),if_pos (by omega)]; rfl
  have z1:sumN c (fun k=>clr U c i k * (if k < c then gv (bkS U c c) k else if k = c then -1 else 0)) = sumN c (fun k=>clr U c i k * gv (bkS U c c) k):=sumN_congr fun k hk=>by rw [if_pos hk]
  rw [z1,z2,z3]
  have zc:clr U c i c = gm U i c:=by unfold clr; rw [if_neg (by omega)]
  rw [zc]
  by_cases e2:i < c
  ·rw [tri_sol hd e2]; grind
  ·rw [hz i (by omega) hi,sumN_all0 (fun k hk=>by unfold clr; rw [if_pos (by omega)]; grind),q0]; grind)
 refine ⟨fun k=>if k < c then gv (bkS U c c) k else if k = c then -1 else 0,fun i hi=>?_,c,hc,?_⟩
 ·have h1 := key i hi
  rw [cp_sum h hi,if_neg (by omega),if_neg (by omega)] at h1
  grind
 ·show (if c < c then gv (bkS U c c) c else if c = c then (-1 : Qi) else 0) ≠ 0
  rw [if_neg (by omega),if_pos rfl]
  intro e
  exact absurd (congrArg Qi.re e) (by decide)
theorem slv_gj {M:List (List Qi)} {b:List Qi} {n:Nat} (h:Shp M n n):slvE M b n = gjE M b n ∧ (slvE M b n = 0 → slvX M b n = gjL M b n):=by
 by_cases hE:slvE M b n = 0
 ·obtain ⟨h1, h2⟩ := slv_some h hE
  cases hX:gjX M b n with
  | none =>
   obtain ⟨y,h3,k,h4,h5⟩:=gjX_none h hX
   exact absurd (h2 y h3 k h4) h5
  | some X =>
   obtain ⟨h3,h4,_⟩:=gjX_some h hX
   refine ⟨by rw [hE]; simp only [gjE,hX,Option.isSome_some,if_true],fun _=>?_⟩
   simp only [gjL,hX,Option.getD_some]
   have hk : ∀ k, k < n → gv (slvX M b n) k = gv X k := fun k hk => by
    have := h2 (fun k => gv (slvX M b n) k - 1 * gv X k) (fun i hi => by
     have e:sumN n (fun k=>gm M i k * (gv (slvX M b n) k - 1 * gv X k)) = sumN n (fun k=>gm M i k * gv (slvX M b n) k - 1 * (gm M i k * gv X k)):=sumN_congr fun k _=>by grind
     rw [e,sumN_sub,h1 i hi,h4 i hi]; grind) k hk
    grind
   have hl:(slvX M b n).length = n:=bkS_len _ _ _
   apply List.ext_getElem?
   intro k
   by_cases c:k < n
   ·have := hk k c
    simp only [gv,List.getD] at this
    rw [List.getElem?_eq_getElem (by omega),List.getElem?_eq_getElem (by omega)] at this ⊢
    exact congrArg some this
   ·rw [List.getElem?_eq_none (by omega),List.getElem?_eq_none (by omega)]
 ·obtain ⟨y, h3, k, h4, h5⟩ := slv_none (b := b) h hE
  have h6 : slvE M b n = 6 := by
   unfold slvE at hE ⊢
   split
   ·rfl
   ·rename_i e; rw [if_neg e] at hE; exact absurd rfl hE
  refine ⟨?_,fun e=>absurd e hE⟩
  cases hX:gjX M b n with
  | none=>rw [h6]; simp only [gjE,hX,Option.isSome_none]; rfl
  | some X =>
   obtain ⟨_,_,h7⟩:=gjX_some h hX
   exact absurd (h7 y h3 k h4) h5
end
section
open Go Go.RowKit
def gq (ps:List (Nat × Nat)) (x:Nat):Nat:=if x % 2 = 0 then pA ps (x / 2) else pB ps (x / 2)
def prt (x:Nat):Nat:=if x % 2 = 0 then x + 1 else x - 1
theorem prt_lt {x k:Nat} (h:x < 2 * k):prt x < 2 * k:=by unfold prt; split <;> omega
theorem gq_even (ps:List (Nat × Nat)) (k:Nat):gq ps (2 * k) = pA ps k:=by unfold gq; rw [if_pos (by omega),show 2 * k / 2 = k by omega]
theorem gq_odd (ps:List (Nat × Nat)) (k:Nat):gq ps (2 * k + 1) = pB ps k:=by unfold gq; rw [if_neg (by omega),show (2 * k + 1) / 2 = k by omega]
structure Jn (ps:List (Nat × Nat)) (n K:Nat):Prop where
 lt:∀ x,x < 2 * K → gq ps x < n
 inj:∀ x y,x < 2 * K → y < 2 * K → gq ps x = gq ps y → x = y
theorem Jn.le {ps:List (Nat × Nat)} {n K k:Nat} (h:Jn ps n K) (hk:k ≤ K):Jn ps n k:=⟨fun x hx=>h.lt x (by omega),fun x y hx hy=>h.inj x y (by omega) (by omega)⟩
def jnM (S:List (List Qi)) (ps:List (Nat × Nat)) (m:Nat):List (List Qi):=tab m fun x=>tab m fun y=>(if x = y then Qi.ofInt 1 else Qi.ofInt 0) - gm S (gq ps (prt x)) (gq ps y)
theorem jnM_shp (S:List (List Qi)) (ps:List (Nat × Nat)) (m:Nat):Shp (jnM S ps m) m m:=Shp.tab
theorem jnM_row {S:List (List Qi)} {ps:List (Nat × Nat)} {m x:Nat} (hx:x < m) (v:Nat → Qi):sumN m (fun y=>gm (jnM S ps m) x y * v y) = v x - sumN m fun y=>gm S (gq ps (prt x)) (gq ps y) * v y:=by
 have e : ∀ y, y < m → gm (jnM S ps m) x y * v y = (if y = x then v x else 0) - 1 * (gm S (gq ps (prt x)) (gq ps y) * v y) := fun y hy => by
  have : gm (jnM S ps m) x y = (if x = y then Qi.ofInt 1 else Qi.ofInt 0) - gm S (gq ps (prt x)) (gq ps y) := by
   show gv ((jnM S ps m).getD x []) y = _
   rw [jnM,tab_getD hx,gv_tab hy]
  rw [this]
  by_cases c:y = x
  ·subst c; rw [if_pos rfl,if_pos rfl,q1]; grind
  ·rw [if_neg c,if_neg (Ne.symm c),show Qi.ofInt 0 = (0:Qi) from rfl]; grind
 rw [sumN_congr e,sumN_sub,sumN_single hx (fun k _ hk=>if_neg hk),if_pos rfl]; grind
end
section
open Go Go.RowKit
def freshE (n:Nat) (p:Int) (o:List Int):Int:=if ¬ (1 ≤ p ∧ p ≤ n) then 1 else if (o.any fun x=>decide (p = x)) = true then 8 else 0
def prtE (n:Nat) (l:List Int):Int:=firstE (fun i=>freshE n (l.getD i 0) (l.take i)) l.length
theorem fresh_ok {n:Nat} {p:Int} {o:List Int} (h:freshE n p o = 0):1 ≤ p ∧ p ≤ n:=by
 unfold freshE at h
 split at h
 ·omega
 ·rename_i c; exact Decidable.not_not.1 c
theorem prt_in {n : Nat} {l : List Int} (h : prtE n l = 0) : ∀ x, x ∈ l → 1 ≤ x ∧ x ≤ n := fun x hx => by
 obtain ⟨i,hi,e⟩:=List.getElem_of_mem hx
 have:=fresh_ok (firstE_zero h i hi)
 rw [show l.getD i 0 = x by rw [List.getD,List.getElem?_eq_getElem hi,e]; rfl] at this
 exact this
end
section
open Go Go.RowKit
def jfl (js:List (Int × Int)):List Int:=js.flatMap fun q=>[q.1,q.2]
def jps (js:List (Int × Int)):List (Nat × Nat):=js.map fun q=>((q.1 - 1).toNat,(q.2 - 1).toNat)
abbrev jat (js:List (Int × Int)) (k:Nat):Int × Int:=js.getD k (0,0)
theorem jfl_app (a b:List (Int × Int)):jfl (a ++ b) = jfl a ++ jfl b:=by simp [jfl]
theorem jfl_take {js:List (Int × Int)} {k:Nat} (h:k < js.length):jfl (js.take (k + 1)) = jfl (js.take k) ++ [(jat js k).1,(jat js k).2]:=by
 rw [List.take_succ_eq_append_getElem h,jfl_app]
 simp [jfl,jat,List.getD,h]
theorem jfl_len : ∀ (js : List (Int × Int)), (jfl js).length = 2 * js.length
 | []=>rfl
 | q :: r => by
  have:=jfl_len r
  have e:jfl (q :: r) = q.1 :: q.2 :: jfl r:=rfl
  rw [e,List.length_cons,List.length_cons,List.length_cons,this]; omega
theorem jfl_get : ∀ (js : List (Int × Int)) {x : Nat}, x < 2 * js.length → (jfl js).getD x 0 = if x % 2 = 0 then (jat js (x / 2)).1 else (jat js (x / 2)).2
 | [],x,h=>by simp at h
 | q :: r,0,_=>rfl
 | q :: r,1,_=>rfl
 | q :: r, x + 2, h => by
  have ih:=jfl_get r (x:=x) (by simp only [List.length_cons] at h; omega)
  have e:jfl (q :: r) = q.1 :: q.2 :: jfl r:=rfl
  rw [e]
  show (jfl r).getD x 0 = _
  rw [ih,show (x + 2) % 2 = x % 2 by omega,show (x + 2) / 2 = x / 2 + 1 by omega]
  rfl
theorem jps_at {js:List (Int × Int)} {k:Nat} (h:k < js.length):pA (jps js) k = ((jat js k).1 - 1).toNat ∧ pB (jps js) k = ((jat js k).2 - 1).toNat:=by
 simp [pA,pB,jps,jat,List.getD,h]
theorem jgq {js:List (Int × Int)} {x:Nat} (h:x < 2 * js.length):gq (jps js) x = ((jfl js).getD x 0 - 1).toNat:=by
 have h2:x / 2 < js.length:=by omega
 rw [jfl_get js h,gq,(jps_at h2).1,(jps_at h2).2]
 split <;> rfl
theorem prtE_app {n:Nat} {A:List Int} (h:prtE n A = 0) (a:Int):prtE n (A ++ [a]) = freshE n a A:=by
 rw [prtE,List.length_append,List.length_singleton]
 have e : firstE (fun i => freshE n ((A ++ [a]).getD i 0) ((A ++ [a]).take i)) A.length = 0 := firstE_none fun i hi => by
  have:=firstE_zero h i hi
  rw [List.take_append_of_le_length (by omega)]
  have e2:(A ++ [a]).getD i 0 = A.getD i 0:=by simp [List.getD,List.getElem?_append_left hi]
  rw [e2]; exact this
 rw [firstE,e,if_neg (by simp),List.take_append_of_le_length (Nat.le_refl _),List.take_length]
 congr 1
 simp [List.getD]
theorem prtE_app2 {n:Nat} {A:List Int} (h:prtE n A = 0) (a b:Int):prtE n (A ++ [a,b]) = if freshE n a A ≠ 0 then freshE n a A else freshE n b (A ++ [a]):=by
 have e:A ++ [a,b] = (A ++ [a]) ++ [b]:=by simp
 by_cases c:freshE n a A = 0
 ·rw [if_neg (fun k=>k c),e,prtE_app (by rw [prtE_app h]; exact c)]
 ·rw [if_pos c]
  have h1 : firstE (fun i => freshE n ((A ++ [a, b]).getD i 0) ((A ++ [a, b]).take i)) A.length = 0 := firstE_none fun i hi => by
   have:=firstE_zero h i hi
   rw [List.take_append_of_le_length (by omega)]
   have e2:(A ++ [a,b]).getD i 0 = A.getD i 0:=by simp [List.getD,List.getElem?_append_left hi]
   rw [e2]; exact this
  have h2 : freshE n ((A ++ [a, b]).getD A.length 0) ((A ++ [a, b]).take A.length) = freshE n a A := by
   rw [List.take_append_of_le_length (Nat.le_refl _),List.take_length]
   congr 1
   simp [List.getD]
  rw [prtE,firstE_at (k:=A.length) (fun i hi=>firstE_zero h1 i hi) (by rw [h2]; exact c) (by simp)]
  exact h2
def jstE (z : List Qi) (js : List (Int × Int)) (k : Nat) : Int :=
 if freshE z.length (jat js k).1 (jfl (js.take k)) ≠ 0 then freshE z.length (jat js k).1 (jfl (js.take k))
 else if freshE z.length (jat js k).2 (jfl (js.take k) ++ [(jat js k).1]) ≠ 0 then freshE z.length (jat js k).2 (jfl (js.take k) ++ [(jat js k).1])
 else if gv z ((jat js k).1 - 1).toNat = gv z ((jat js k).2 - 1).toNat then 0 else 40
def jdE (z:List Qi) (js:List (Int × Int)):Int:=firstE (jstE z js) js.length
theorem jst_zero {z:List Qi} {js:List (Int × Int)} {k:Nat} (h:jstE z js k = 0):freshE z.length (jat js k).1 (jfl (js.take k)) = 0 ∧ freshE z.length (jat js k).2 (jfl (js.take k) ++ [(jat js k).1]) = 0 ∧ gv z ((jat js k).1 - 1).toNat = gv z ((jat js k).2 - 1).toNat:=by
 unfold jstE at h
 by_cases c1:freshE z.length (jat js k).1 (jfl (js.take k)) = 0
 ·rw [if_neg (fun k => k c1)] at h
  by_cases c2:freshE z.length (jat js k).2 (jfl (js.take k) ++ [(jat js k).1]) = 0
  ·rw [if_neg (fun k => k c2)] at h
   by_cases c3:gv z ((jat js k).1 - 1).toNat = gv z ((jat js k).2 - 1).toNat
   ·exact ⟨c1,c2,c3⟩
   ·rw [if_neg c3] at h; omega
  ·rw [if_pos c2] at h; exact absurd h c2
 ·rw [if_pos c1] at h; exact absurd h c1
theorem jpr {z : List Qi} {js : List (Int × Int)} : ∀ {k : Nat}, k ≤ js.length → (∀ j, j < k → jstE z js j = 0) → prtE z.length (jfl (js.take k)) = 0
 | 0,_,_=>rfl
 | k + 1, hk, h => by
  have ih:=jpr (z:=z) (js:=js) (k:=k) (by omega) fun j hj=>h j (by omega)
  obtain ⟨h1,h2,_⟩:=jst_zero (h k (by omega))
  rw [jfl_take (by omega),prtE_app2 ih,if_neg (fun k=>k h1)]; exact h2
theorem jd_prt {z:List Qi} {js:List (Int × Int)} (h:jdE z js = 0):prtE z.length (jfl js) = 0:=by
 have:=jpr (z:=z) (Nat.le_refl js.length) (firstE_zero h)
 rwa [List.take_length] at this
theorem fresh_not {n : Nat} {p : Int} {o : List Int} (h : freshE n p o = 0) : p ∉ o := fun hm => by
 have h1:=fresh_ok h
 unfold freshE at h
 rw [if_neg (fun k=>k h1),if_pos (List.any_eq_true.2 ⟨p,hm,by simp⟩)] at h
 omega
theorem prt_inj {n:Nat} {l:List Int} (h:prtE n l = 0) {x y:Nat} (hx:x < l.length) (hy:y < l.length) (e:l.getD x 0 = l.getD y 0):x = y:=by
 have key : ∀ x y, x < y → y < l.length → l.getD x 0 ≠ l.getD y 0 := fun x y hxy hy e => by
  refine fresh_not (firstE_zero h y hy) ?_
  rw [← e]
  have e2:l.getD x 0 = l[x]'(by omega):=by simp [List.getD,show x < l.length by omega]
  rw [e2]
  exact List.mem_take_iff_getElem.2 ⟨x,by omega,rfl⟩
 rcases Nat.lt_trichotomy x y with c | c | c
 ·exact absurd e (key x y c hy)
 ·exact c
 ·exact absurd e.symm (key y x c hx)
theorem jn_of {z:List Qi} {js:List (Int × Int)} (h:jdE z js = 0):Jn (jps js) z.length js.length:=by
 have hp:=jd_prt h
 have hl:=jfl_len js
 have hr : ∀ x, x < 2 * js.length → 1 ≤ (jfl js).getD x 0 ∧ (jfl js).getD x 0 ≤ z.length := fun x hx => prt_in hp _ (by
  rw [show (jfl js).getD x 0 = (jfl js)[x]'(by omega) by simp [List.getD,show x < (jfl js).length by omega]]; exact List.getElem_mem _)
 refine ⟨fun x hx=>?_,fun x y hx hy e=>?_⟩
 ·rw [jgq hx]; have:=hr x hx; omega
 ·rw [jgq hx, jgq hy] at e
  have h1:=hr x hx; have h2:=hr y hy
  exact prt_inj hp (by omega) (by omega) (by omega)
def jnL (js:List (Int × Int)):List Nat:=(jfl js).map fun p=>(p - 1).toNat
theorem jnL_len (js:List (Int × Int)):(jnL js).length = 2 * js.length:=by rw [jnL,List.length_map,jfl_len]
end
section
open Go Go.RowKit
theorem slvX_len (M:List (List Qi)) (b:List Qi) (n:Nat):(slvX M b n).length = n:=bkS_len _ _ _
theorem unit_gm {n i j:Nat} (hi:i < n) (hj:j < n):gm (idM n) i j = if i = j then 1 else 0:=by
 show gv ((idM n).getD i []) j = _
 rw [idM,tab_getD hi,unitR,gv_set (by rw [tab_len]; exact hi)]
 by_cases e:j = i
 ·subst e; rw [if_pos rfl,if_pos rfl]; rfl
 ·rw [if_neg e,if_neg (Ne.symm e),gv_tab hj]; rfl
theorem mat_ext {a b:List (List Qi)} {n m:Nat} (ha:Shp a n m) (hb:Shp b n m) (h:∀ i,i < n → ∀ j,j < m → gm a i j = gm b i j):a = b:=by
 rw [mat_tab ha,mat_tab hb]
 exact tab_congr fun i hi=>tab_congr fun j hj=>h i hi j hj
end
section
open Go Go.RowKit
abbrev JT (q:Int × Int):Ty:=AggT [IntT .i64 q.1,IntT .i64 q.2]
abbrev JsT (js:List (Int × Int)):Ty:=SlT 2 (js.map JT)
theorem pig : ∀ {n m : Nat} {f : Nat → Nat}, (∀ x, x < m → f x < n) → (∀ x y, x < m → y < m → f x = f y → x = y) → m ≤ n
 | 0, m, f, h, _ => by
  cases m with
  | zero=>exact Nat.le_refl 0
  | succ m=>exact absurd (h 0 (by omega)) (by omega)
 | n + 1,0,_,_,_=>by omega
 | n + 1, k + 1, f, h, i => by
  have := pig (n := n) (m := k) (f := fun x => if f x = n then f k else f x) (fun x hx => by
   have h1:=h x (by omega)
   have h2:=h k (by omega)
   by_cases c:f x = n
   ·simp only [if_pos c]
    have:f k ≠ n:=fun e=>by have:=i x k (by omega) (by omega) (by rw [c,e]); omega
    omega
   ·simp only [if_neg c]; omega) (fun x y hx hy e=>by
   by_cases c:f x = n <;> by_cases d:f y = n
   ·exact i x y (by omega) (by omega) (by rw [c,d])
   ·simp only [if_pos c, if_neg d] at e
    have:=i k y (by omega) (by omega) e; omega
   ·simp only [if_neg c, if_pos d] at e
    have:=i x k (by omega) (by omega) e; omega
   ·simp only [if_neg c, if_neg d] at e
    exact i x y (by omega) (by omega) e)
  omega
theorem jnL_at {js:List (Int × Int)} {x:Nat} (h:x < 2 * js.length):(jnL js).getD x 0 = gq (jps js) x:=by
 have hl:=jfl_len js
 rw [jgq h,jnL]
 simp [List.getD,show x < (jfl js).length by omega]
theorem jnM_fit {S : List (List Qi)} {ps : List (Nat × Nat)} {m L : Nat} (hf : FitM S L) (hL : 1 ≤ L) : FitM (jnM S ps m) (L + 2) := FitM.tab fun x y _ _ => by
 haveI h1:=hf.get hL (gq ps (prt x)) (gq ps y)
 haveI h2 : FitC (if x = y then Qi.ofInt 1 else Qi.ofInt 0) 1 := by
  split
  ·exact fit_one
  ·exact (FitC.zero (Nat.le_refl 1):FitC Qi.zero 1)
 exact (fitSub:FitC (_ - _) (1 + L + 1)).le (by omega)
end
section
open Go Go.RowKit
def rdl (i j:Nat):Qi:=if i = j then Qi.ofInt 1 else Qi.ofInt 0
theorem rdl_fit (i j:Nat):FitC (rdl i j) 1:=by
 unfold rdl; split
 ·exact fit_one
 ·exact FitC.zero (Nat.le_refl 1)
end
section
open Go Go.RowKit
section
variable {φ:Qi → Qi → Bool} {z:List Qi} {js:List (Int × Int)}
end
abbrev jp1 (js:List (Int × Int)) (k:Nat):Nat:=((jat js k).1 - 1).toNat
abbrev jp2 (js:List (Int × Int)) (k:Nat):Nat:=((jat js k).2 - 1).toNat
theorem jp_gq {js:List (Int × Int)} {k:Nat} (h:k < js.length):gq (jps js) (2 * k) = jp1 js k ∧ gq (jps js) (2 * k + 1) = jp2 js k:=by
 obtain ⟨h1,h2⟩:=jps_at h
 rw [gq_even,gq_odd]; exact ⟨h1,h2⟩
def hlf:Qi:=Qi.frac 1 0 2
section
variable {js:List (Int × Int)} {n:Nat}
end
end
section
open Go Go.RowKit
structure Perm1 (O:List Nat) (n:Nat):Prop where
 nd:O.Nodup
 all:∀ x,x ∈ O ↔ 1 ≤ x ∧ x ≤ n
theorem Perm1.len {O:List Nat} {n:Nat} (h:Perm1 O n):O.length = n:=by
 refine Nat.le_antisymm ?_ ?_
 ·refine pig (n := n) (f := fun i => O.getD i 0 - 1) (fun x hx => ?_) (fun x y hx hy e => ?_)
  ·have := (h.all (O.getD x 0)).1 (by rw [show O.getD x 0 = O[x] by simp [List.getD, hx]]; exact List.getElem_mem hx)
   show O.getD x 0 - 1 < n; omega
  ·have a := (h.all (O.getD x 0)).1 (by rw [show O.getD x 0 = O[x] by simp [List.getD, hx]]; exact List.getElem_mem hx)
   have b:=(h.all (O.getD y 0)).1 (by rw [show O.getD y 0 = O[y] by simp [List.getD,hy]]; exact List.getElem_mem hy)
   have e2:O.getD x 0 = O.getD y 0:=by have:O.getD x 0 - 1 = O.getD y 0 - 1:=e; omega
   rw [show O.getD x 0 = O[x] by simp [List.getD,hx],show O.getD y 0 = O[y] by simp [List.getD,hy]] at e2
   exact (List.getElem_inj h.nd).1 e2
 ·have key : ∀ j, j < n → ∃ i, i < O.length ∧ O.getD i 0 = j + 1 := fun j hj => by
   obtain ⟨i,hi,e⟩:=List.getElem_of_mem ((h.all (j + 1)).2 ⟨by omega,by omega⟩)
   exact ⟨i,hi,by simp [List.getD,hi,e]⟩
  refine pig (n:=O.length) (f:=fun j=>if hj:j < n then Classical.choose (key j hj) else 0) (fun x hx=>by simp only [dif_pos hx]; exact (Classical.choose_spec (key x hx)).1) (fun x y hx hy e=>?_)
  simp only [dif_pos hx,dif_pos hy] at e
  have a:=(Classical.choose_spec (key x hx)).2
  have b:=(Classical.choose_spec (key y hy)).2
  rw [e] at a; omega
section
variable {O:List Nat} {n:Nat}
theorem Perm1.at (h:Perm1 O n) {i:Nat} (hi:i < n):1 ≤ O.getD i 0 ∧ O.getD i 0 ≤ n:=by
 have hl:=h.len
 exact (h.all _).1 (by rw [show O.getD i 0 = O[i] by simp [List.getD,show i < O.length by omega]]; exact List.getElem_mem _)
theorem Perm1.inj (h:Perm1 O n) {i j:Nat} (hi:i < n) (hj:j < n) (e:O.getD i 0 = O.getD j 0):i = j:=by
 have hl:=h.len
 rw [show O.getD i 0 = O[i] by simp [List.getD,show i < O.length by omega],show O.getD j 0 = O[j] by simp [List.getD,show j < O.length by omega]] at e
 exact (List.getElem_inj h.nd).1 e
end
end
section
open Go Go.RowKit
def Ker2 (S:Nat → Nat → Qi) (p q:Nat):Prop:=∀ v0 v1:Qi,v0 = S q p * v0 + S q q * v1 → v1 = S p p * v0 + S p q * v1 → v0 = 0 ∧ v1 = 0
theorem slv_iff {M:List (List Qi)} {b:List Qi} {n:Nat} (h:Shp M n n):slvE M b n = 0 ↔ ∀ y:Nat → Qi,(∀ i,i < n → sumN n (fun k=>gm M i k * y k) = 0) → ∀ k,k < n → y k = 0:=by
 constructor
 ·intro e; exact (slv_some h e).2
 ·intro hk
  apply Classical.byContradiction; intro e
  obtain ⟨y,hy,k,hkn,hne⟩:=slv_none h e
  exact hne (hk y hy k hkn)
theorem sumN_2 (f:Nat → Qi):sumN 2 f = f 0 + f 1:=by simp only [sumN,q0]; grind
section
variable {S:List (List Qi)} {p q r t a b:Nat}
abbrev J1 (p q:Nat):List (Int × Int):=[(((p + 1:Nat):Int),((q + 1:Nat):Int))]
theorem p1n (p:Nat):(((p + 1:Nat):Int) - 1).toNat = p:=by omega
theorem jps1:jps (J1 p q) = [(p,q)]:=by simp only [jps,J1,List.map_cons,List.map_nil,p1n]
theorem jnL1:jnL (J1 p q) = [p,q]:=by
 have e:jnL (J1 p q) = [(((p + 1:Nat):Int) - 1).toNat,(((q + 1:Nat):Int) - 1).toNat]:=rfl
 rw [e,p1n,p1n]
theorem row1 {v:Nat → Qi}:(sumN 2 (fun y=>gm (jnM S [(p,q)] 2) 0 y * v y) = v 0 - (gm S q p * v 0 + gm S q q * v 1)) ∧ (sumN 2 (fun y=>gm (jnM S [(p,q)] 2) 1 y * v y) = v 1 - (gm S p p * v 0 + gm S p q * v 1)):=by
 rw [jnM_row (by omega),jnM_row (by omega),sumN_2,sumN_2]
 exact ⟨rfl,rfl⟩
theorem sub0 {x y:Qi} (h:x - y = 0):x = y:=by grind
theorem one_iff {bb:List Qi}:slvE (jnM S [(p,q)] 2) bb 2 = 0 ↔ Ker2 (gm S) p q:=by
 rw [slv_iff (jnM_shp _ _ _)]
 constructor
 ·intro h v0 v1 h0 h1
  have hk := h (fun k => if k = 0 then v0 else v1) (fun i hi => by
   obtain ⟨r0,r1⟩:=row1 (S:=S) (p:=p) (q:=q) (v:=fun k=>if k = 0 then v0 else v1)
   have c:i = 0 ∨ i = 1:=by omega
   rcases c with rfl | rfl
   ·rw [r0]; show v0 - (gm S q p * v0 + gm S q q * v1) = 0; clear r0 r1 h; grind
   ·rw [r1]; show v1 - (gm S p p * v0 + gm S p q * v1) = 0; clear r0 r1 h; grind)
  exact ⟨hk 0 (by omega),hk 1 (by omega)⟩
 ·intro h y hy
  obtain ⟨r0,r1⟩:=row1 (S:=S) (p:=p) (q:=q) (v:=y)
  obtain ⟨a0,a1⟩:=h (y 0) (y 1) (sub0 (by rw [← r0]; exact hy 0 (by omega))) (sub0 (by rw [← r1]; exact hy 1 (by omega)))
  intro k hk
  have c:k = 0 ∨ k = 1:=by omega
  rcases c with rfl | rfl
  ·exact a0
  ·exact a1
end
section
variable {S:Nat → Nat → Qi} {p q r t a b:Nat}
def S1 (S:Nat → Nat → Qi) (p q:Nat) (V:Nat → Qi × Qi) (a b:Nat):Qi:=S a b + (S a p * (V b).1 + S a q * (V b).2)
variable {V:Nat → Qi × Qi}
end
end
section
open Go Go.RowKit
def low (c a b:Nat):Nat:=c - (if a < c then 1 else 0) - (if b < c then 1 else 0)
def okP (N p q r t : Nat) : Bool :=
 decide ((lfG [p,q] N).length = N - 2) && decide (low r p q < N - 2) && decide (low t p q < N - 2) && decide (low r p q ≠ low t p q) && decide (qat (lfG [p,q] N) (low r p q) = r) && decide (qat (lfG [p,q] N) (low t p q) = t)
 && decide ((lfG [low r p q,low t p q] (N - 2)).map (qat (lfG [p,q] N)) = lfG [p,q,r,t] N) && decide ((lfG [p,q,r,t] N).length = N - 4) && decide (lfG [t,r,p,q] N = lfG [p,q,r,t] N) && decide (lfG [r,t,p,q] N = lfG [p,q,r,t] N)
theorem fresh_nat {n p:Nat} {l:List Nat} (hp:p < n) (h:p ∉ l):freshE n ((p + 1:Nat):Int) (l.map fun (x:Nat)=>((x + 1:Nat):Int)) = 0:=by
 rw [freshE,if_neg (fun k=>k ⟨by omega,by omega⟩),if_neg]
 simp only [List.any_map,List.any_eq_true,Function.comp,decide_eq_true_eq]
 rintro ⟨x,hx,e⟩
 exact h ((show x = p by omega) ▸ hx)
section
variable {z:List Qi} {S:List (List Qi)} {N p q r t:Nat} {ζ:Qi}
theorem jst_of {js:List (Int × Int)} {k:Nat} {a b:Nat} {l:List Nat} (hk:jat js k = (((a + 1:Nat):Int),((b + 1:Nat):Int))) (hl:jfl (js.take k) = l.map fun (x:Nat)=>((x + 1:Nat):Int)) (ha:a < z.length) (hb:b < z.length) (hal:a ∉ l) (hbl:b ∉ l) (hab:a ≠ b) (hz:gv z a = gv z b):jstE z js k = 0:=by
 have e2:(l.map fun (x:Nat)=>((x + 1:Nat):Int)) ++ [((a + 1:Nat):Int)] = (l ++ [a]).map fun (x:Nat)=>((x + 1:Nat):Int):=by simp
 rw [jstE,hk,hl]
 simp only []
 rw [e2,fresh_nat ha hal,fresh_nat hb (by simp only [List.mem_append,List.mem_singleton]; rintro (k | k); exact hbl k; exact hab k.symm),p1n,p1n,if_pos hz]; rfl
end
end
section
open Go Go.RowKit
def Gb (x:Qi) (N:Nat):Prop:=∃ p q:Int,x = Qi.mk (p:Rat) (q:Rat) ∧ p.natAbs ≤ N ∧ q.natAbs ≤ N
theorem Gb.le {x:Qi} {N M:Nat} (h:Gb x N) (k:N ≤ M):Gb x M:=by
 obtain ⟨p,q,e,h1,h2⟩:=h; exact ⟨p,q,e,by omega,by omega⟩
theorem Gb.add {x y:Qi} {N M:Nat} (h:Gb x N) (k:Gb y M):Gb (x + y) (N + M):=by
 obtain ⟨p,q,rfl,h1,h2⟩:=h; obtain ⟨r,s,rfl,k1,k2⟩:=k
 refine ⟨p + r,q + s,Qi.ext' ?_ ?_,by omega,by omega⟩
 ·show (p:Rat) + (r:Rat) = ((p + r:Int):Rat); push_cast; rfl
 ·show (q:Rat) + (s:Rat) = ((q + s:Int):Rat); push_cast; rfl
theorem Gb.neg {x:Qi} {N:Nat} (h:Gb x N):Gb (-x) N:=by
 obtain ⟨p,q,rfl,h1,h2⟩:=h
 refine ⟨-p,-q,Qi.ext' ?_ ?_,by omega,by omega⟩
 ·show -(p:Rat) = ((-p:Int):Rat); push_cast; rfl
 ·show -(q:Rat) = ((-q:Int):Rat); push_cast; rfl
theorem Gb.sub {x y:Qi} {N M:Nat} (h:Gb x N) (k:Gb y M):Gb (x - y) (N + M):=by rw [Qi.sub_def]; exact h.add k.neg
theorem nat_mul {p q:Int} {N M:Nat} (h:p.natAbs ≤ N) (k:q.natAbs ≤ M):(p * q).natAbs ≤ N * M:=by rw [Int.natAbs_mul]; exact Nat.mul_le_mul h k
theorem Gb.mul {x y:Qi} {N M:Nat} (h:Gb x N) (k:Gb y M):Gb (x * y) (2 * N * M):=by
 obtain ⟨p,q,rfl,h1,h2⟩:=h; obtain ⟨r,s,rfl,k1,k2⟩:=k
 have a1:=nat_mul h1 k1; have a2:=nat_mul h2 k2; have a3:=nat_mul h1 k2; have a4:=nat_mul h2 k1
 have e:2 * N * M = N * M + N * M:=by rw [Nat.mul_assoc,Nat.two_mul]
 refine ⟨p * r - q * s,p * s + q * r,Qi.ext' ?_ ?_,by omega,by omega⟩
 ·rw [Qi.mul_re]; show (p:Rat) * (r:Rat) - (q:Rat) * (s:Rat) = ((p * r - q * s:Int):Rat); push_cast; rfl
 ·rw [Qi.mul_im]; show (p:Rat) * (s:Rat) + (q:Rat) * (r:Rat) = ((p * s + q * r:Int):Rat); push_cast; rfl
theorem Gb.sum {f : Nat → Qi} {N : Nat} : ∀ {n : Nat}, (∀ k, k < n → Gb (f k) N) → Gb (sumN n f) (n * N)
 | 0,_=>⟨0,0,Qi.ext' rfl rfl,by simp,by simp⟩
 | n + 1, h => by
  rw [sumN,Nat.succ_mul]
  exact (Gb.sum fun k hk=>h k (by omega)).add (h n (by omega))
theorem Gb.fit {x:Qi} {N L:Nat} (h:Gb x N) (hN:N < BB ^ L) (hL:1 ≤ L):FitC x L:=by
 obtain ⟨p,q,rfl,h1,h2⟩:=h
 have e:Qi.mk (p:Rat) (q:Rat) = Qi.mk' p q 1:=Qi.ext' (by rw [Qi.mk_re]; show (p:Rat) = p / ((1:Nat):Rat); grind) (by rw [Qi.mk_im]; show (q:Rat) = q / ((1:Nat):Rat); grind)
 rw [e]
 exact ⟨Qi.Fit.mk (by decide) (by omega) (by omega) (Qi.one_lt hL)⟩
theorem sumN_first (n:Nat) (f:Nat → Qi):sumN (n + 1) f = f 0 + sumN n fun k=>f (k + 1):=by
 rw [Nat.add_comm n 1,sumN_app,sumN_one]
 exact congrArg _ (sumN_congr fun k _=>by rw [Nat.add_comm])
def fs : Nat → Nat → Nat
 | 0,_=>1
 | n + 1,N=>2 * (n + 1) * N * fs n (4 * N * N)
theorem kerF_shift {F:Nat → Nat → Qi} {n:Nat} {x:Nat → Qi}:KerF F (n + 1) (n + 1) x ↔ (F 0 0 * x 0 + sumN n (fun k=>F 0 (k + 1) * x (k + 1)) = 0) ∧ ∀ i,i < n → F (i + 1) 0 * x 0 + sumN n (fun k=>F (i + 1) (k + 1) * x (k + 1)) = 0:=by
 constructor
 ·intro h
  exact ⟨by have:=h 0 (by omega); rwa [sumN_first] at this,fun i hi=>by have:=h (i + 1) (by omega); rwa [sumN_first] at this⟩
 ·rintro ⟨h1, h2⟩ i hi
  rw [sumN_first]
  cases i with
  | zero=>exact h1
  | succ i=>exact h2 i (by omega)
theorem sumN_lin (n:Nat) (a b:Qi) (f g x:Nat → Qi):sumN n (fun k=>(a * f k - b * g k) * x k) = a * sumN n (fun k=>f k * x k) - b * sumN n (fun k=>g k * x k):=by
 induction n with
 | zero=>simp only [sumN,q0]; grind
 | succ n ih=>simp only [sumN,ih]; grind
theorem sumN_mulr (n:Nat) (a:Qi) (f x:Nat → Qi):sumN n (fun k=>f k * (x k * a)) = a * sumN n (fun k=>f k * x k):=by
 induction n with
 | zero=>simp only [sumN,q0]; grind
 | succ n ih=>simp only [sumN,ih]; grind
theorem ff_step {F : Nat → Nat → Qi} {n N : Nat} (hp : F 0 0 ≠ 0) (hN : 1 ≤ N) (hF : ∀ i, i < n + 1 → ∀ j, j ≤ n + 1 → Gb (F i j) N) (hk : ∀ v, KerF F (n + 1) (n + 1) v → ∀ k, k < n + 1 → v k = 0)
  (ih:∀ G:Nat → Nat → Qi,(∀ i,i < n → ∀ j,j ≤ n → Gb (G i j) (4 * N * N)) → (∀ v,KerF G n n v → ∀ k,k < n → v k = 0) → ∃ (y:Nat → Qi) (e:Qi),e ≠ 0 ∧ Gb e (fs n (4 * N * N)) ∧ (∀ k,k < n → Gb (y k) (fs n (4 * N * N))) ∧ ∀ i,i < n → sumN n (fun k=>G i k * y k) = e * G i n) :
  ∃ (y:Nat → Qi) (e:Qi),e ≠ 0 ∧ Gb e (fs (n + 1) N) ∧ (∀ k,k < n + 1 → Gb (y k) (fs (n + 1) N)) ∧ ∀ i,i < n + 1 → sumN (n + 1) (fun k=>F i k * y k) = e * F i (n + 1):=by
 obtain ⟨y, e, he, ge, gy, hy⟩ := ih (fun i j => F 0 0 * F (i + 1) (j + 1) - F (i + 1) 0 * F 0 (j + 1)) (fun i hi j hj => by
   have h1:=(hF 0 (by omega) 0 (by omega)).mul (hF (i + 1) (by omega) (j + 1) (by omega))
   have h2:=(hF (i + 1) (by omega) 0 (by omega)).mul (hF 0 (by omega) (j + 1) (by omega))
   exact (h1.sub h2).le (by rw [show 4 * N * N = 2 * N * N + 2 * N * N by rw [← Nat.add_mul]; congr 1; omega]; exact Nat.le_refl _)) (fun v hv k hkn=>by
   have hz := hk (fun k => if k = 0 then -(sumN n fun k => F 0 (k + 1) * v k) else F 0 0 * v (k - 1)) (kerF_shift.2 ⟨by
    simp only [if_true,Nat.add_sub_cancel,if_neg (Nat.succ_ne_zero _)]
    have:=sumN_mulr n (F 0 0) (fun k=>F 0 (k + 1)) v
    simp only [Qi.mul_comm' _ (F 0 0)] at this ⊢
    rw [this]; grind,fun i hi=>by
    simp only [if_true,Nat.add_sub_cancel,if_neg (Nat.succ_ne_zero _)]
    have:=sumN_mulr n (F 0 0) (fun k=>F (i + 1) (k + 1)) v
    simp only [Qi.mul_comm' _ (F 0 0)] at this ⊢
    rw [this]
    have h:=hv i hi
    have h2:=sumN_lin n (F 0 0) (F (i + 1) 0) (fun k=>F (i + 1) (k + 1)) (fun k=>F 0 (k + 1)) v
    simp only [] at h
    rw [h2] at h
    grind⟩) (k + 1) (by omega)
   simp only [Nat.add_sub_cancel,if_neg (Nat.succ_ne_zero _)] at hz
   rcases mul_zero_or hz with h | h
   ·exact absurd h hp
   ·exact h)
 have hf1 : 1 ≤ fs n (4 * N * N) := by
  apply Decidable.byContradiction; intro h
  have h0:fs n (4 * N * N) = 0:=by omega
  rw [h0] at ge
  obtain ⟨p,q,e1,p1,p2⟩:=ge
  have hp0:p = 0:=by omega
  have hq0:q = 0:=by omega
  exact he (by rw [e1,hp0,hq0]; exact Qi.ext' rfl rfl)
 have hG : fs (n + 1) N = (n + 1) * (2 * fs n (4 * N * N) * N) := by
  rw [fs]; simp only [Nat.mul_comm,Nat.mul_left_comm,Nat.mul_assoc]
 have hG1:2 * fs n (4 * N * N) * N ≤ fs (n + 1) N:=by rw [hG]; exact Nat.le_mul_of_pos_left _ (by omega)
 refine ⟨fun k=>if k = 0 then e * F 0 (n + 1) - sumN n (fun k=>F 0 (k + 1) * y k) else y (k - 1) * F 0 0,e * F 0 0,fun h=>?_,?_,fun k hkn=>?_,fun i hi=>?_⟩
 ·rcases mul_zero_or h with h | h
  ·exact he h
  ·exact hp h
 ·exact (ge.mul (hF 0 (by omega) 0 (by omega))).le hG1
 ·cases k with
  | zero =>
   simp only [if_true]
   have h1:=ge.mul (hF 0 (by omega) (n + 1) (by omega))
   have h2:Gb (sumN n fun k=>F 0 (k + 1) * y k) (n * (2 * N * fs n (4 * N * N))):=Gb.sum fun k hk=>(hF 0 (by omega) (k + 1) (by omega)).mul (gy k hk)
   refine (h1.sub h2).le ?_
   have e3:n * (2 * N * fs n (4 * N * N)) = n * (2 * fs n (4 * N * N) * N):=by simp only [Nat.mul_comm,Nat.mul_left_comm,Nat.mul_assoc]
   have e4:(n + 1) * (2 * fs n (4 * N * N) * N) = n * (2 * fs n (4 * N * N) * N) + 2 * fs n (4 * N * N) * N:=Nat.succ_mul _ _
   rw [hG,e3,e4,Nat.add_comm]; exact Nat.le_refl _
  | succ k =>
   simp only [Nat.add_sub_cancel,if_neg (Nat.succ_ne_zero _)]
   exact ((gy k (by omega)).mul (hF 0 (by omega) 0 (by omega))).le hG1
 ·rw [sumN_first]
  simp only [if_true,Nat.add_sub_cancel,if_neg (Nat.succ_ne_zero _)]
  rw [sumN_mulr n (F 0 0) (fun k=>F i (k + 1)) y]
  cases i with
  | zero=>grind
  | succ i =>
   have h:=hy i (by omega)
   have h2:=sumN_lin n (F 0 0) (F (i + 1) 0) (fun k=>F (i + 1) (k + 1)) (fun k=>F 0 (k + 1)) y
   rw [h2] at h
   grind
theorem ff_all : ∀ (n N : Nat) (F : Nat → Nat → Qi), 1 ≤ N → (∀ i, i < n → ∀ j, j ≤ n → Gb (F i j) N) → (∀ v, KerF F n n v → ∀ k, k < n → v k = 0) →
  ∃ (y:Nat → Qi) (e:Qi),e ≠ 0 ∧ Gb e (fs n N) ∧ (∀ k,k < n → Gb (y k) (fs n N)) ∧ ∀ i,i < n → sumN n (fun k=>F i k * y k) = e * F i n
 | 0,N,F,_,_,_=>⟨fun _=>0,1,fun h=>by have:=congrArg Qi.re h; revert this; decide,⟨1,0,Qi.ext' rfl rfl,by simp [fs],by simp [fs]⟩,fun k hk=>by omega,fun i hi=>by omega⟩
 | n + 1, N, F, hN, hF, hk => by
  have hpz : ∃ p, p < n + 1 ∧ F p 0 ≠ 0 := by
   apply Classical.byContradiction; intro hno
   have hz : ∀ p, p < n + 1 → F p 0 = 0 := fun p hp => by
    apply Classical.byContradiction; intro h; exact hno ⟨p,hp,h⟩
   have := hk (fun k => if k = 0 then 1 else 0) (fun i hi => by
    rw [sumN_all0]
    intro k hk
    by_cases e:k = 0
    ·subst e; rw [hz i hi]; grind
    ·simp only [if_neg e]; grind) 0 (by omega)
   simp only [if_true] at this
   have:=congrArg Qi.re this; revert this; decide
  obtain ⟨p,hp,hpz⟩:=hpz
  have hN4:1 ≤ 4 * N * N:=Nat.mul_pos (by omega) (by omega)
  obtain ⟨y, e, he, ge, gy, hy⟩ := ff_step (F := fun i => F (tau p 0 i)) (n := n) (N := N) (by simpa [tau] using hpz) hN (fun i hi j hj => hF _ (tau_lt hp (by omega) hi) j hj)
   (fun v hv=>hk v ((kerF_tau hp (by omega)).1 hv)) (fun G hG hGk=>ff_all n (4 * N * N) G hN4 hG hGk)
  refine ⟨y,e,he,ge,gy,fun i hi=>?_⟩
  have:=hy (tau p 0 i) (tau_lt hp (by omega) hi)
  simp only [tau_tau] at this
  exact this
theorem den_mul (x:Qi):((x.den:Int):Rat) * x.re = (x.a:Rat) ∧ ((x.den:Int):Rat) * x.im = (x.b:Rat):=by
 have h:=Qi.nc x.den_pos
 have h2:((x.den:Int):Rat) = (x.den:Rat):=by push_cast; rfl
 rw [h2]
 exact ⟨by rw [Qi.re_eq x]; grind,by rw [Qi.im_eq x]; grind⟩
theorem row_den {L : Nat} {x : Nat → Qi} : ∀ k, (∀ j, j < k → FitC (x j) L) → ∃ d : Nat, 0 < d ∧ d ≤ BB ^ (k * L) ∧ ∀ j, j < k → Gb (Qi.ofInt d * x j) (BB ^ (k * L))
 | 0,_=>⟨1,by decide,Nat.pow_pos BB_pos,fun j hj=>by omega⟩
 | k + 1, h => by
  obtain ⟨d,d0,dl,hd⟩:=row_den k fun j hj=>h j (by omega)
  have hx:=(h k (by omega)).fit
  have hm:=den_mul (x k)
  have hpow:BB ^ ((k + 1) * L) = BB ^ (k * L) * BB ^ L:=by rw [Nat.succ_mul,Nat.pow_add]
  refine ⟨d * (x k).den,Nat.mul_pos d0 (x k).den_pos,?_,fun j hj=>?_⟩
  ·rw [hpow]; exact Nat.mul_le_mul dl (Nat.le_of_lt hx.2.2)
  ·by_cases e : j = k
   ·subst e
    refine ⟨d * (x j).a,d * (x j).b,Qi.ext' ?_ ?_,?_,?_⟩
    ·rw [Qi.mul_re]
     show (((d * (x j).den:Nat):Int):Rat) * (x j).re - 0 * (x j).im = ((d * (x j).a:Int):Rat)
     have:=hm.1; push_cast at *; grind
    ·rw [Qi.mul_im]
     show (((d * (x j).den:Nat):Int):Rat) * (x j).im + 0 * (x j).re = ((d * (x j).b:Int):Rat)
     have:=hm.2; push_cast at *; grind
    ·rw [hpow]; exact nat_mul (by simpa using dl) (Nat.le_of_lt hx.1)
    ·rw [hpow]; exact nat_mul (by simpa using dl) (Nat.le_of_lt hx.2.1)
   ·obtain ⟨p, q, e1, h1, h2⟩ := hd j (by omega)
    have er:=congrArg Qi.re e1; have ei:=congrArg Qi.im e1
    rw [Qi.mul_re] at er; rw [Qi.mul_im] at ei
    refine ⟨p * (x k).den,q * (x k).den,Qi.ext' ?_ ?_,?_,?_⟩
    ·rw [Qi.mul_re]
     have er:((d:Int):Rat) * (x j).re - 0 * (x j).im = (p:Rat):=er
     show (((d * (x k).den:Nat):Int):Rat) * (x j).re - 0 * (x j).im = ((p * (x k).den:Int):Rat)
     push_cast at *; grind
    ·rw [Qi.mul_im]
     have ei:((d:Int):Rat) * (x j).im + 0 * (x j).re = (q:Rat):=ei
     show (((d * (x k).den:Nat):Int):Rat) * (x j).im + 0 * (x j).re = ((q * (x k).den:Int):Rat)
     push_cast at *; grind
    ·rw [hpow]; exact nat_mul h1 (by simpa using Nat.le_of_lt hx.2.2)
    ·rw [hpow]; exact nat_mul h2 (by simpa using Nat.le_of_lt hx.2.2)
theorem ofNat_ne {d : Nat} (h : 0 < d) : Qi.ofInt d ≠ 0 := fun e => by
 have:=congrArg Qi.re e
 have h2:((d:Int):Rat) = ((0:Int):Rat):=this
 rw [Rat.intCast_inj] at h2; omega
end
section
open Go Go.RowKit
theorem slv_fitK {M:List (List Qi)} {b:List Qi} {n m L K:Nat} (h:Shp M n n) (hM:FitM M L) (hb:FitL b L) (hL:1 ≤ L) (hn:n ≤ m) (hbig:fs n (BB ^ ((m + 1) * L)) < BB ^ K) (hK:1 ≤ K) (hE:slvE M b n = 0):FitL (slvX M b n) (4 * K + 2):=by
 obtain ⟨s1,s2⟩:=slv_some h hE
 have hrow : ∀ i, ∃ d : Nat, 0 < d ∧ ∀ j, j < n + 1 → Gb (Qi.ofInt d * (if j < n then gm M i j else gv b i)) (BB ^ ((m + 1) * L)) := fun i => by
  obtain ⟨d, d0, _, hd⟩ := row_den (L := L) (x := fun j => if j < n then gm M i j else gv b i) (n + 1) fun j _ => by
   show FitC (if j < n then gm M i j else gv b i) L
   split
   ·exact hM.get hL i j
   ·exact hb.get hL i
  exact ⟨d,d0,fun j hj=>(hd j hj).le (Nat.pow_le_pow_right BB_pos (Nat.mul_le_mul_right _ (by omega)))⟩
 have hd:∃ d:Nat → Nat,∀ i,0 < d i ∧ ∀ j,j < n + 1 → Gb (Qi.ofInt (d i) * (if j < n then gm M i j else gv b i)) (BB ^ ((m + 1) * L)):=⟨fun i=>Classical.choose (hrow i),fun i=>Classical.choose_spec (hrow i)⟩
 obtain ⟨d,hd⟩:=hd
 have cancel : ∀ {i : Nat} {u : Qi}, Qi.ofInt (d i) * u = 0 → u = 0 := fun {i u} hu => by
  rcases mul_zero_or hu with k | k
  ·exact absurd k (ofNat_ne (hd i).1)
  ·exact k
 have hsum : ∀ (i : Nat) (v : Nat → Qi), sumN n (fun k => Qi.ofInt (d i) * (if k < n then gm M i k else gv b i) * v k) = Qi.ofInt (d i) * sumN n (fun k => gm M i k * v k) := fun i v => by
  rw [Qi.mul_comm',← sumN_mul]
  exact sumN_congr fun k hk=>by rw [if_pos hk]; grind
 have hN:1 ≤ BB ^ ((m + 1) * L):=Nat.pow_pos BB_pos
 obtain ⟨y, e, he, ge, gy, hy⟩ := ff_all n (BB ^ ((m + 1) * L)) (fun i j => Qi.ofInt (d i) * (if j < n then gm M i j else gv b i)) hN (fun i _ j hj => (hd i).2 j (by omega)) (fun v hv => s2 v fun i hi => by
  have:=hv i hi
  simp only [] at this
  rw [hsum] at this
  exact cancel this)
 have hsol : ∀ k, k < n → y k - e * gv (slvX M b n) k = 0 := s2 (fun k => y k - e * gv (slvX M b n) k) fun i hi => by
  have h1:=hy i hi
  rw [hsum,if_neg (by omega)] at h1
  have h2:=s1 i hi
  have h3 : sumN n (fun k => gm M i k * (y k - e * gv (slvX M b n) k)) = sumN n (fun k => gm M i k * y k) - e * sumN n (fun k => gm M i k * gv (slvX M b n) k) := by
   rw [← sumN_sub]; exact sumN_congr fun k _=>by grind
  rw [h3,h2]
  exact cancel (i:=i) (by grind)
 intro x hx
 obtain ⟨k,hk,rfl⟩:=List.mem_iff_getElem.1 hx
 rw [slvX_len] at hk
 have hg:(slvX M b n)[k] = gv (slvX M b n) k:=by simp [gv,List.getD,slvX_len,hk]
 rw [hg]
 have e1:gv (slvX M b n) k = y k / e:=(eq_div he (by have:=hsol k hk; grind)).symm
 haveI f1:FitC (y k) K:=(gy k hk).fit hbig hK
 haveI f2:FitC e K:=ge.fit hbig hK
 rw [e1]
 exact (fitDiv (x:=y k) (y:=e)).le (by omega)
theorem fs_two (L:Nat):fs 2 (BB ^ ((2 + 1) * L)) < BB ^ (9 * L + 1):=by
 have hN:1 ≤ BB ^ ((2 + 1) * L):=Nat.pow_pos BB_pos
 have e:fs 2 (BB ^ ((2 + 1) * L)) = 32 * (BB ^ ((2 + 1) * L)) ^ 3:=by simp only [fs]; generalize BB ^ ((2 + 1) * L) = N; grind
 rw [e,← Nat.pow_mul,show (2 + 1) * L * 3 = 9 * L by omega,Nat.pow_succ,Nat.mul_comm]
 exact Nat.mul_lt_mul_of_pos_left (by decide) (Nat.pow_pos BB_pos)
end
section
open Go Go.RowKit
def ixG (l : List Nat) (p : Nat) : Nat → Int
 | 0=>-1
 | k + 1=>if l.getD (l.length - (k + 1)) 0 = p then ((l.length - (k + 1):Nat):Int) else ixG l p k
def ixE (l:List Nat) (p:Nat):Int:=ixG l p l.length
theorem ixG_b (l : List Nat) (p : Nat) : ∀ k, ixG l p k = -1 ∨ (0 ≤ ixG l p k ∧ (ixG l p k).toNat < l.length ∧ l.getD (ixG l p k).toNat 0 = p) ∨ l.length < k
 | 0=>.inl rfl
 | k + 1 => by
  rw [ixG]
  by_cases c:l.length < k + 1
  ·exact .inr (.inr c)
  ·by_cases e : l.getD (l.length - (k + 1)) 0 = p
   ·rw [if_pos e]; exact .inr (.inl ⟨by omega,by rw [Int.toNat_natCast]; omega,by rw [Int.toNat_natCast]; exact e⟩)
   ·rw [if_neg e]
    rcases ixG_b l p k with h | h | h
    ·exact .inl h
    ·exact .inr (.inl h)
    ·omega
theorem ixE_b (l:List Nat) (p:Nat):ixE l p = -1 ∨ (0 ≤ ixE l p ∧ (ixE l p).toNat < l.length ∧ l.getD (ixE l p).toNat 0 = p):=by
 rcases ixG_b l p l.length with h | h | h
 ·exact .inl h
 ·exact .inr h
 ·omega
theorem ixG_no {l : List Nat} {p : Nat} : ∀ {k : Nat}, k ≤ l.length → ixG l p k < 0 → ∀ x, l.length - k ≤ x → x < l.length → l.getD x 0 ≠ p
 | 0,_,_,x,h1,h2=>by omega
 | k + 1, hk, h, x, h1, h2 => by
  rw [ixG] at h
  by_cases e:l.getD (l.length - (k + 1)) 0 = p
  ·rw [if_pos e] at h; omega
  ·rw [if_neg e] at h
   by_cases c:x = l.length - (k + 1)
   ·rw [c]; exact e
   ·exact ixG_no (k:=k) (by omega) h x (by omega) h2
theorem ixE_mem {l:List Nat} {p:Nat}:0 ≤ ixE l p ↔ p ∈ l:=by
 constructor
 ·intro h
  rcases ixE_b l p with k | ⟨_,k1,k2⟩
  ·omega
  ·rw [← k2,show l.getD (ixE l p).toNat 0 = l[(ixE l p).toNat] by simp [List.getD,k1]]; exact List.getElem_mem k1
 ·intro h
  apply Classical.byContradiction; intro hn
  obtain ⟨x,hx,e⟩:=List.getElem_of_mem h
  exact ixG_no (l:=l) (p:=p) (Nat.le_refl _) (show ixG l p l.length < 0 by have:¬ 0 ≤ ixG l p l.length:=hn; omega) x (by omega) hx (by rw [show l.getD x 0 = l[x] by simp [List.getD,hx]]; exact e)
def jnP (js:List (Int × Int)):List Nat:=tab (2 * js.length) (gq (jps js))
def jnO (js:List (Int × Int)):List Nat:=tab (2 * js.length) fun x=>gq (jps js) (prt x)
theorem tab_two {α:Type} (f:Nat → α) (k:Nat):tab (2 * (k + 1)) f = tab (2 * k) f ++ [f (2 * k),f (2 * k + 1)]:=by
 rw [show 2 * (k + 1) = 2 * k + 1 + 1 by omega,tab_succ,tab_succ,List.append_assoc]; rfl
theorem jnP_L (js:List (Int × Int)):jnP js = jnL js:=by
 have h:=tab_eq (l:=jnL js) (m:=2 * js.length) (jnL_len js)
 rw [h]
 refine (tab_congr fun x hx=>?_).symm
 exact jnL_at hx
theorem prt_two (k:Nat):prt (2 * k) = 2 * k + 1 ∧ prt (2 * k + 1) = 2 * k:=by
 constructor
 ·rw [prt,if_pos (by omega)]
 ·rw [prt,if_neg (by omega)]; omega
theorem jp_int {js:List (Int × Int)} {n k:Nat} (hp:prtE n (jfl js) = 0) (hk:k < js.length):(jat js k).1 - 1 = ((gq (jps js) (2 * k):Nat):Int) ∧ (jat js k).2 - 1 = ((gq (jps js) (2 * k + 1):Nat):Int) ∧ -1000 ≤ (jat js k).1 ∧ (jat js k).1 ≤ n ∧ -1000 ≤ (jat js k).2 ∧ (jat js k).2 ≤ n:=by
 have hmm:=fun x hx=>prt_in hp x hx
 have hm1:(jat js k).1 ∈ jfl js:=by rw [jfl,List.mem_flatMap]; exact ⟨jat js k,by rw [show jat js k = js[k] by simp [jat,List.getD,hk]]; exact List.getElem_mem hk,by simp⟩
 have hm2:(jat js k).2 ∈ jfl js:=by rw [jfl,List.mem_flatMap]; exact ⟨jat js k,by rw [show jat js k = js[k] by simp [jat,List.getD,hk]]; exact List.getElem_mem hk,by simp⟩
 have hb1:=hmm _ hm1
 have hb2:=hmm _ hm2
 obtain ⟨e1,e2⟩:=jp_gq hk
 rw [e1,e2]
 exact ⟨by show _ = (((jat js k).1 - 1).toNat:Int); omega,by show _ = (((jat js k).2 - 1).toNat:Int); omega,by omega,by omega,by omega,by omega⟩
def gnV (S:List (List Qi)) (js:List (Int × Int)) (x:Nat):List Qi:=slvX (jnM S (jps js) (2 * js.length)) (ek (2 * js.length) x) (2 * js.length)
def gnB (i k:Nat):Qi:=if k = i then Qi.ofInt 1 else Qi.ofInt 0
def gnE (S:List (List Qi)) (js:List (Int × Int)) (i k:Nat):Qi:=if 0 ≤ ixE (jnO js) k then gnB i k + sumN (2 * js.length) (fun y=>gm S i (gq (jps js) y) * gv (gnV S js (ixE (jnO js) k).toNat) y) else gnB i k
def gnP (S:List (List Qi)) (js:List (Int × Int)) (N:Nat):List (List Qi):=(lfG (jnL js) N).map fun i=>tab N fun k=>gnE S js i k
theorem gnB_fit (i k:Nat):FitC (gnB i k) 1:=by
 unfold gnB; split
 ·exact fit_one
 ·exact (FitC.zero (Nat.le_refl 1):FitC Qi.zero 1)
theorem gnS_fit {S:List (List Qi)} {js:List (Int × Int)} {i t L G:Nat} {v:List Qi} (hf:FitM S L) (hL:1 ≤ L) (hv:FitL v G) (hG:1 ≤ G) (ht:t ≤ 8):FitC (sumN t fun y=>gm S i (gq (jps js) y) * gv v y) (8 * (L + G) + 17):=by
 refine (FitC.sum (L:=L + G + 1) fun y _=>?_).le ?_
 ·haveI := hf.get hL i (gq (jps js) y); haveI := hv.get hG y
  exact fitMul
 ·have : t * (L + G + 1 + 1) ≤ 8 * (L + G + 1 + 1) := Nat.mul_le_mul_right _ ht
  omega
end
section
open Go Go.RowKit
def ntD (s:List (List Qi)) (g:Qi) (p:Nat):Qi:=Qi.ofInt 1 - gm s p p * g
def ntH (s:List (List Qi)) (g:Qi) (p:Nat):Qi:=Qi.ofInt 1 / ntD s g p
def ntRow (s:List (List Qi)) (g:Qi) (p n i:Nat):List Qi:=((tab n fun _=>Qi.zero).set i (Qi.ofInt 1)).set p (gm s i p * trmF s p g)
def ntA (s:List (List Qi)) (g:Qi) (p n k:Nat):List (List Qi):=(lfG [p] k).map (ntRow s g p n)
def ntU (s:List (List Qi)) (g:Qi) (p k:Nat):List Qi:=(lfG [p] k).map fun i=>gm s i p * ntH s g p
def ntR (z:List Qi) (g t:Qi) (p:Nat):Qi:=t * gv z p * (Qi.ofInt 1 - g * g.conj)
def ntX (z:List Qi) (s c:List (List Qi)) (g t:Qi) (p a b:Nat):Qi:=gm (carM (ntA s g p z.length z.length) c) a b + ntR z g t p * (gv (ntU s g p z.length) a * (gv (ntU s g p z.length) b).conj)
def ntC (z:List Qi) (s c:List (List Qi)) (g t:Qi) (p:Nat):List (List Qi):=tab (z.length - 1) fun a=>tab (z.length - 1) fun b=>ntX z s c g t p a b
def ntE (z:List Qi) (s:List (List Qi)) (port:Int) (g t:Qi):Int:=if wrmE t = 0 then trmE z s port g else wrmE t
def ntZ (z:List Qi) (s:List (List Qi)) (port:Int) (g t:Qi):List Qi:=okL (ntE z s port g t) (prtZ z (port - 1).toNat (z.length - 1))
def ntS (z:List Qi) (s:List (List Qi)) (port:Int) (g t:Qi):List (List Qi):=okL (ntE z s port g t) (trmS s (port - 1).toNat (z.length - 1) (trmF s (port - 1).toNat g))
def ntQ (z:List Qi) (s c:List (List Qi)) (port:Int) (g t:Qi):List (List Qi):=okL (ntE z s port g t) (ntC z s c g t (port - 1).toNat)
theorem lf1_len {p n:Nat} (h:p < n):(lfG [p] n).length = n - 1:=by rw [lfG_one,tab_len,cnt_fin h]
theorem trm_zero {z:List Qi} {s:List (List Qi)} {port:Int} {g:Qi} (h:trmE z s port g = 0):(1 ≤ port ∧ port ≤ z.length) ∧ z.length ≠ 1 ∧ ntD s g (port - 1).toNat ≠ 0:=by
 rw [trmE] at h
 by_cases c1:1 ≤ port ∧ port ≤ z.length
 ·rw [if_neg (fun k => k c1)] at h
  by_cases c2:z.length = 1
  ·rw [if_pos c2] at h; omega
  ·rw [if_neg c2] at h
   by_cases c3:Qi.ofInt 1 - gm s (port - 1).toNat (port - 1).toNat * g = Qi.zero
   ·rw [if_pos c3] at h; omega
   ·exact ⟨c1,c2,c3⟩
 ·rw [if_pos c1] at h; omega
theorem gv_map {f:Nat → Qi} {l:List Nat} {a:Nat} (h:a < l.length):gv (l.map f) a = f (qat l a):=by simp [gv,qat,List.getD,h]
theorem gm_map {f:Nat → List Qi} {l:List Nat} {a k:Nat} (h:a < l.length):gm (l.map f) a k = gv (f (qat l a)) k:=by simp [gm,qat,List.getD,h]
section
variable {z:List Qi} {s c:List (List Qi)} {g t:Qi} {p:Nat}
theorem ntRow_gv {n i k:Nat} (hi:i < n) (hp:p < n) (hk:k < n):gv (ntRow s g p n i) k = if k = p then gm s i p * trmF s p g else if k = i then Qi.ofInt 1 else Qi.zero:=by
 rw [ntRow,gv_set (by rw [List.length_set,tab_len]; exact hp)]
 by_cases e:k = p
 ·rw [if_pos e,if_pos e]
 ·rw [if_neg e, if_neg e, gv_set (by rw [tab_len]; exact hi)]
  by_cases e2:k = i
  ·rw [if_pos e2,if_pos e2]
  ·rw [if_neg e2,if_neg e2,gv_tab hk]
theorem ntA_shp (s:List (List Qi)) (g:Qi) {n:Nat} (h:p < n):Shp (ntA s g p n n) (n - 1) n:=by
 refine ⟨by rw [ntA,List.length_map,lf1_len h],fun r hr=>?_⟩
 obtain ⟨i,_,rfl⟩:=List.mem_map.1 hr
 rw [ntRow,List.length_set,List.length_set,tab_len]
theorem two_sol {S : List (List Qi)} {n x : Nat} {d sp : Qi} (hnp : gm S n p = 0) (hnn : gm S n n = g) (hpn : gm S p n = 0) (hpp : gm S p p = sp) (hd : d = 1 - sp * g) (hd0 : d ≠ 0) (hx : x < 2) :
  gv (gnV S (J1 p n) x) 0 = (if x = 0 then 1 / d else g / d):=by
 have hk : Ker2 (gm S) p n := fun v0 v1 h0 h1 => by
  rw [hnp,hnn] at h0
  rw [hpp,hpn] at h1
  have e:v1 * d = 0:=by rw [hd]; grind
  rcases mul_zero_or e with k | k
  ·exact ⟨by rw [h0,k]; grind,k⟩
  ·exact absurd k hd0
 have hE:slvE (jnM S [(p,n)] 2) (ek 2 x) 2 = 0:=one_iff.2 hk
 have hs:=(slv_some (jnM_shp S [(p,n)] 2) hE).1
 have hgn:gnV S (J1 p n) x = slvX (jnM S [(p,n)] 2) (ek 2 x) 2:=by rw [gnV,jps1]; rfl
 rw [hgn]
 obtain ⟨r0,r1⟩:=row1 (S:=S) (p:=p) (q:=n) (v:=gv (slvX (jnM S [(p,n)] 2) (ek 2 x) 2))
 have h0:=hs 0 (by omega)
 have h1:=hs 1 (by omega)
 rw [r0,hnp,hnn] at h0
 rw [r1,hpp,hpn] at h1
 generalize gv (slvX (jnM S [(p,n)] 2) (ek 2 x) 2) 0 = v0 at *
 generalize gv (slvX (jnM S [(p,n)] 2) (ek 2 x) 2) 1 = v1 at *
 have c:x = 0 ∨ x = 1:=by omega
 rcases c with rfl | rfl
 ·rw [if_pos rfl]
  rw [show gv (ek 2 0) 0 = 1 from rfl] at h0
  rw [show gv (ek 2 0) 1 = 0 from rfl] at h1
  exact (eq_div hd0 (by rw [hd]; grind)).symm
 ·rw [if_neg (by decide)]
  rw [show gv (ek 2 1) 0 = 0 from rfl] at h0
  rw [show gv (ek 2 1) 1 = 1 from rfl] at h1
  exact (eq_div hd0 (by rw [hd]; grind)).symm
abbrev bothS (s:List (List Qi)) (g:Qi) (n:Nat):List (List Qi):=sidM s [[g]] n 1
theorem both_gm {n:Nat} (hp:p < n):gm (bothS s g n) n p = 0 ∧ gm (bothS s g n) n n = g ∧ gm (bothS s g n) p n = 0 ∧ gm (bothS s g n) p p = gm s p p:=by
 refine ⟨?_,?_,?_,?_⟩
 ·rw [sidM_gm (by omega) (by omega),if_neg (by omega),if_neg (by omega)]; rfl
 ·rw [sidM_gm (by omega) (by omega),if_neg (by omega),if_pos (by omega),Nat.sub_self]; rfl
 ·rw [sidM_gm (by omega) (by omega),if_pos hp,if_neg (by omega)]; rfl
 ·rw [sidM_gm (by omega) (by omega),if_pos hp,if_pos hp]
theorem jnO1 {n:Nat}:jnO (J1 p n) = [n,p]:=by
 have e:jnO (J1 p n) = [gq (jps (J1 p n)) (prt 0),gq (jps (J1 p n)) (prt 1)]:=rfl
 rw [e,jps1]; rfl
theorem ix_two {n k:Nat} (hpn:p ≠ n):ixE [n,p] k = if k = n then 0 else if k = p then 1 else -1:=by
 have e:ixE [n,p] k = if n = k then ((0:Nat):Int) else if p = k then ((1:Nat):Int) else -1:=rfl
 rw [e]
 by_cases c:k = n
 ·rw [if_pos c.symm,if_pos c]; rfl
 ·rw [if_neg (Ne.symm c), if_neg c]
  by_cases c2:k = p
  ·rw [if_pos c2.symm,if_pos c2]; rfl
  ·rw [if_neg (Ne.symm c2),if_neg c2]
theorem gnE_row {n i k:Nat} (hp:p < n) (hi:i < n) (hip:i ≠ p) (hk:k < n + 1) (hd:ntD s g p ≠ 0):gnE (bothS s g n) (J1 p n) i k = if k < n then gv (ntRow s g p n i) k else gm s i p * ntH s g p:=by
 obtain ⟨b1,b2,b3,b4⟩:=both_gm (s:=s) (g:=g) hp
 have hin:gm (bothS s g n) i n = 0:=by rw [sidM_gm (by omega) (by omega),if_pos hi,if_neg (by omega)]; rfl
 have hip2:gm (bothS s g n) i p = gm s i p:=by rw [sidM_gm (by omega) (by omega),if_pos hi,if_pos hp]
 have hdd:ntD s g p = 1 - gm s p p * g:=rfl
 have sol:=fun x (hx:x < 2)=>two_sol (S:=bothS s g n) (x:=x) b1 b2 b3 b4 hdd hd hx
 have hsum : ∀ v : List Qi, sumN (2 * (J1 p n).length) (fun y => gm (bothS s g n) i (gq (jps (J1 p n)) y) * gv v y) = gm s i p * gv v 0 := fun v => by
  show sumN 2 (fun y=>gm (bothS s g n) i (gq (jps (J1 p n)) y) * gv v y) = _
  rw [sumN_2,jps1,show gq [(p,n)] 0 = p from rfl,show gq [(p,n)] 1 = n from rfl,hin,hip2]; grind
 rw [gnE,jnO1,ix_two (by omega)]
 by_cases c:k = n
 ·rw [if_pos c, if_pos (by decide), hsum, gnB, if_neg (by omega), if_neg (by omega)]
  rw [show (0:Int).toNat = 0 from rfl,sol 0 (by omega),if_pos rfl]
  show Qi.ofInt 0 + gm s i p * (1 / ntD s g p) = gm s i p * ntH s g p
  rw [show ntH s g p = 1 / ntD s g p from rfl,show Qi.ofInt 0 = (0:Qi) from rfl]; grind
 ·rw [if_neg c, if_pos (show k < n by omega), ntRow_gv hi hp (by omega)]
  by_cases c2:k = p
  ·rw [if_pos c2, if_pos (by decide), hsum, gnB, if_neg (by omega), if_pos c2]
   rw [show (1:Int).toNat = 1 from rfl,sol 1 (by omega),if_neg (by decide)]
   rw [show trmF s p g = g / ntD s g p from rfl,show Qi.ofInt 0 = (0:Qi) from rfl]; grind
  ·rw [if_neg c2,if_neg (by decide),gnB,if_neg c2]; rfl
theorem lf_both {n:Nat} (hp:p < n):lfG (jnL (J1 p n)) (n + 1) = lfG [p] n:=by
 rw [jnL1,lfG,if_pos (by simp),List.append_nil]
 have : ∀ k, k ≤ n → lfG [p, n] k = lfG [p] k := fun k => by
  induction k with
  | zero=>intro _; rfl
  | succ k ih =>
   intro hk
   rw [lfG,lfG,ih (by omega)]
   have e:(k ∈ [p,n]) ↔ (k ∈ [p]):=by simp; omega
   by_cases c:k ∈ [p]
   ·rw [if_pos c,if_pos (e.2 c)]
   ·rw [if_neg c,if_neg fun h=>c (e.1 h)]
 exact this n (Nat.le_refl n)
theorem sumN_last (n:Nat) (f:Nat → Qi):sumN (n + 1) f = sumN n f + f n:=rfl
theorem nt_car {n:Nat} {r:Qi} (hn:z.length = n) (hp:p < n) (hc:Shp c n n) (hd:ntD s g p ≠ 0) (hr:r = ntR z g t p):carM (gnP (bothS s g n) (J1 p n) (n + 1)) (sidM c [[r]] n 1) = ntC z s c g t p:=by
 have hl:(gnP (bothS s g n) (J1 p n) (n + 1)).length = n - 1:=by rw [gnP,List.length_map,lf_both hp,lf1_len hp]
 have hlf:=lf1_len hp
 have hq : ∀ a, a < n - 1 → qat (lfG [p] n) a < n ∧ qat (lfG [p] n) a ≠ p := fun a ha => by
  refine ⟨qat_lt (fun x hx=>lfG_lt hx) (by omega),?_⟩
  rw [lfG_one,tabQ_get (by rw [cnt_fin hp]; exact ha)]
  unfold skp; split <;> omega
 have hP : ∀ a k, a < n - 1 → k < n + 1 → gm (gnP (bothS s g n) (J1 p n) (n + 1)) a k = if k < n then gm (ntA s g p n n) a k else gv (ntU s g p n) a := fun a k ha hk => by
  rw [gnP,lf_both hp,gm_map (by omega),gv_tab hk,gnE_row hp (hq a ha).1 (hq a ha).2 hk hd,ntA,gm_map (by omega),ntU,gv_map (by omega)]
 have hcl:=hc.1
 have hsl:=(sidM_shp c [[r]] n 1).1
 unfold carM ntC
 rw [hl,hn,hsl]
 refine tab_congr fun a ha=>tab_congr fun b hb=>?_
 have e1 : carE (gnP (bothS s g n) (J1 p n) (n + 1)) (sidM c [[r]] n 1) (n + 1) a b = sumN n (fun x => sumN n fun y => carT (ntA s g p n n) c a b x y) + gv (ntU s g p n) a * r * (gv (ntU s g p n) b).conj := by
  rw [carE,sumN_last]
  congr 1
  ·refine sumN_congr fun x hx => ?_
   rw [sumN_last]
   have z0 : carT (gnP (bothS s g n) (J1 p n) (n + 1)) (sidM c [[r]] n 1) a b x n = 0 := by
    rw [carT,sidM_gm (by omega) (by omega),if_pos hx,if_neg (by omega),q0]; grind
   rw [z0]
   have e2 : sumN n (fun y => carT (gnP (bothS s g n) (J1 p n) (n + 1)) (sidM c [[r]] n 1) a b x y) = sumN n fun y => carT (ntA s g p n n) c a b x y := sumN_congr fun y hy => by
    rw [carT,carT,sidM_gm (by omega) (by omega),if_pos hx,if_pos hy,hP a x ha (by omega),hP b y hb (by omega),if_pos hx,if_pos hy]
   rw [e2]; grind
  ·rw [sumN_last]
   have e2 : sumN n (fun y => carT (gnP (bothS s g n) (J1 p n) (n + 1)) (sidM c [[r]] n 1) a b n y) = 0 := sumN_all0 fun y hy => by
    rw [carT,sidM_gm (by omega) (by omega),if_neg (by omega),if_neg (by omega),q0]; grind
   rw [e2,carT,hP a n ha (by omega),hP b n hb (by omega),if_neg (by omega),if_neg (by omega),sidM_gm (by omega) (by omega),if_neg (by omega),if_pos (Nat.le_refl n),Nat.sub_self,show gm [[r]] 0 0 = r from rfl]
   grind
 rw [e1,ntX,hn]
 have hA:=ntA_shp s g hp
 have e3 : gm (carM (ntA s g p n n) c) a b = sumN n (fun x => sumN n fun y => carT (ntA s g p n n) c a b x y) := by
  rw [carM,gm_tab (by rw [hA.1]; exact ha) (by rw [hA.1]; exact hb),hcl]; rfl
 rw [e3,hr]; grind
theorem load_own {zp:Qi}:scaM t (ownM [zp] [[g]]) 1 = [[t * (zp * (Qi.ofInt 1 - g * g.conj))]]:=by
 have e:scaM t (ownM [zp] [[g]]) 1 = [[t * (zp - (Qi.zero + (Qi.zero + g * zp * g.conj)))]]:=rfl
 rw [e,q0,q1]
 have e2:t * (zp - (0 + (0 + g * zp * g.conj))) = t * (zp * (1 - g * g.conj)):=by grind
 rw [e2]
theorem load_r:t * (gv z p * (Qi.ofInt 1 - g * g.conj)) = ntR z g t p:=by rw [ntR]; grind
theorem gnE_fit {S:List (List Qi)} {js:List (Int × Int)} {i k L G:Nat} (hf:FitM S L) (hL:1 ≤ L) (hv:∀ x,FitL (gnV S js x) G) (hG:1 ≤ G) (hj:2 * js.length ≤ 8):FitC (gnE S js i k) (8 * (L + G) + 19):=by
 haveI g3:=gnB_fit i k
 unfold gnE
 split
 ·haveI g4 := gnS_fit (i := i) (t := 2 * js.length) (js := js) hf hL (hv (ixE (jnO js) k).toNat) hG hj
  exact (fitAdd).le (by omega)
 ·exact g3.le (by omega)
theorem gnP_fit {S : List (List Qi)} {js : List (Int × Int)} {N L G : Nat} (hf : FitM S L) (hL : 1 ≤ L) (hv : ∀ x, FitL (gnV S js x) G) (hG : 1 ≤ G) (hj : 2 * js.length ≤ 8) : FitM (gnP S js N) (8 * (L + G) + 19) := fun r hr => by
 obtain ⟨i,_,rfl⟩:=List.mem_map.1 hr
 exact FitL.tab fun k _=>gnE_fit hf hL hv hG hj
theorem gnP_shp (S : List (List Qi)) (js : List (Int × Int)) (N : Nat) : Shp (gnP S js N) (lfG (jnL js) N).length N := ⟨by rw [gnP, List.length_map], fun r hr => by
 obtain ⟨i,_,rfl⟩:=List.mem_map.1 hr; exact tab_len _ _⟩
theorem both_ker {n:Nat} (hp:p < n) (hd:ntD s g p ≠ 0):Ker2 (gm (bothS s g n)) p n:=by
 obtain ⟨b1,b2,b3,b4⟩:=both_gm (s:=s) (g:=g) hp
 intro v0 v1 h0 h1
 rw [b1,b2] at h0
 rw [b3,b4] at h1
 have e:v1 * ntD s g p = 0:=by rw [show ntD s g p = 1 - gm s p p * g from rfl]; grind
 rcases mul_zero_or e with k | k
 ·exact ⟨by rw [h0,k]; grind,k⟩
 ·exact absurd k hd
theorem one_mat {x:Qi} {L:Nat} (h:FitC x L):FitM [[x]] L ∧ Shp [[x]] 1 1:=⟨fun r hr y hy=>by rw [List.mem_singleton] at hr; rw [hr,List.mem_singleton] at hy; rw [hy]; exact h,rfl,fun r hr=>by rw [List.mem_singleton] at hr; rw [hr]; rfl⟩
theorem both_V {n x:Nat} (hs:FitM s 2) (hg:FitC g 2) (hp:p < n) (hd:ntD s g p ≠ 0):FitL (gnV (bothS s g n) (J1 p n) x) 150:=by
 have hf:FitM (bothS s g n) 2:=sidM_fit hs (one_mat hg).1 (by decide)
 have e:gnV (bothS s g n) (J1 p n) x = slvX (jnM (bothS s g n) [(p,n)] 2) (ek 2 x) 2:=by rw [gnV,jps1]; rfl
 rw [e]
 exact slv_fitK (m:=2) (K:=37) (jnM_shp _ _ _) (jnM_fit hf (by decide)) (ek_fit (by decide)) (by decide) (Nat.le_refl 2) (fs_two 4) (by decide) (one_iff.2 (both_ker hp hd))
theorem both_jd {n : Nat} (hn : z.length = n) (hp : p < n) : jdE (z ++ [gv z p]) (J1 p n) = 0 := firstE_none fun i hi => by
 obtain rfl:i = 0:=by simp at hi; omega
 refine jst_of (l:=[]) rfl rfl (by rw [List.length_append]; omega) (by rw [List.length_append]; simp; omega) (by simp) (by simp) (by omega) ?_
 have e1:gv (z ++ [gv z p]) p = gv z p:=by simp [gv,List.getD,List.getElem?_append_left (show p < z.length by omega)]
 have e2:gv (z ++ [gv z p]) n = gv z p:=by subst hn; simp [gv,List.getD]
 rw [e1,e2]
theorem ntRow_fit {n i : Nat} (hs : FitM s 2) (hg : FitC g 2) : FitL (ntRow s g p n i) 28 := fun x hx => by
 haveI:=hg
 haveI f0:=fit_one
 haveI f1:FitC (gm s p p) 2:=hs.get (by decide) p p
 haveI f2:FitC (gm s i p) 2:=hs.get (by decide) i p
 haveI f3:FitC (Qi.ofInt 1 - gm s p p * g) 7:=(fitSub (x:=Qi.ofInt 1) (y:=gm s p p * g))
 rcases List.mem_or_eq_of_mem_set hx with h | h
 ·rcases List.mem_or_eq_of_mem_set h with k | k
  ·obtain ⟨_,_,rfl⟩:=tab_mem.1 k; exact FitC.zero (by decide)
  ·rw [k]; exact f0.le (by decide)
 ·rw [h]; exact (fitMul (x:=gm s i p) (y:=g / (Qi.ofInt 1 - gm s p p * g)):FitC _ (2 + 25 + 1))
theorem ntA_fit {n k : Nat} (hs : FitM s 2) (hg : FitC g 2) : FitM (ntA s g p n k) 28 := fun r hr => by
 obtain ⟨i,_,rfl⟩:=List.mem_map.1 hr; exact ntRow_fit hs hg
theorem ntU_fit {k : Nat} (hs : FitM s 2) (hg : FitC g 2) : FitL (ntU s g p k) 27 := fun x hx => by
 obtain ⟨i,_,rfl⟩:=List.mem_map.1 hx
 haveI:=hg
 haveI f0:=fit_one
 haveI f1:FitC (gm s p p) 2:=hs.get (by decide) p p
 haveI f2:FitC (gm s i p) 2:=hs.get (by decide) i p
 haveI f3:FitC (Qi.ofInt 1 - gm s p p * g) 7:=(fitSub (x:=Qi.ofInt 1) (y:=gm s p p * g))
 exact (fitMul (x:=gm s i p) (y:=Qi.ofInt 1 / (Qi.ofInt 1 - gm s p p * g)):FitC _ (2 + 24 + 1))
theorem ntR_fit (hz:FitL z 2) (hg:FitC g 2) (ht:FitC t 2):FitC (ntR z g t p) 13:=by
 haveI:=hg; haveI:=ht
 haveI f0:=fit_one
 haveI f1:FitC (gv z p) 2:=hz.get (by decide) p
 exact (fitMul (x:=t * gv z p) (y:=Qi.ofInt 1 - g * g.conj))
theorem ntC_fit (hz : FitL z 2) (hs : FitM s 2) (hc : FitM c 2) (hg : FitC g 2) (ht : FitC t 2) (hl : c.length ≤ 8) : FitM (ntC z s c g t p) 5970 := FitM.tab fun a b _ _ => by
 haveI f1:FitC (gm (carM (ntA s g p z.length z.length) c) a b) 5900:=(carM_fit (ntA_fit hs hg) (hc.le (by decide)) (by decide) hl).get (by decide) a b
 haveI f2:=ntR_fit (p:=p) hz hg ht
 haveI f3:FitC (gv (ntU s g p z.length) a) 27:=(ntU_fit hs hg).get (by decide) a
 haveI f4:FitC (gv (ntU s g p z.length) b) 27:=(ntU_fit hs hg).get (by decide) b
 exact (fitAdd (x:=gm (carM (ntA s g p z.length z.length) c) a b) (y:=ntR z g t p * (gv (ntU s g p z.length) a * (gv (ntU s g p z.length) b).conj)))
end
end
section
open Go Go.RowKit
theorem c_zerosRO {r n:Nat} (hr:r ≤ 1000) (h1:1 ≤ n) (hn:n ≤ 1000):FunO Tryz.prog 134 [NT .i64 r,NT .i64 n] [] (Nat) (fun B=>Is (.slice (some ⟨B,0,none⟩) r r)) (fun B=>[matP exactH B 27 45 5 (FRow NumT (zeroM r n))]) (fun _=>True):=by
 refine FunO.intro Tryz.func134 rfl Tryz.ntmps134 rfl (fun cx Z=>(ts (ro rfl (cQ cV) (eX (ts (rm rfl (rn rfl (new_make (T:=Is (.slice none 0 0)) (i:=Tryz.t27) V_28 info_27 rfl rfl (Ht rfl) rfl (fun _=>rfl) trivial (by show 24 * _ ≤ _; omega) (by omega)) fun B8=>(ra rfl (eX (cK (ts (rm rfl (ro rfl (op_lenI U_28 (Ht rfl)) (ro rfl (cX (cJ 0)) (eX (eG (T_conv 1 rfl (mat_nilE exactH ⟨none,0,rfl⟩ (e:=45) (s:=5)) ?_)))))))))))))))))
 refine T_loop (fun (k : Nat) => k ≤ r) (fun (k : Nat) => r - k) (fun (k : Nat) => [(1, NT .i64 n), (5, Is (.slice (some ⟨B8, 0, none⟩) r r)), (10, NT .i64 r), (11, NT .i64 k)]) (fun (k : Nat) => [Z, matP exactH B8 27 45 5 (FRow NumT (mixT (fun _ => (tab n fun _ => Qi.zero)) [] r k))]) 0 (Nat.zero_le _)
  (aQ rfl (aQ rfl (aQ rfl (aQ rfl aX)))) (aU (fun _ _ _ h=>h) (aU (matO_of (by rw [← mix_zero,tab_const]; exact rep_FRow NumT r)) aY)) (fun k hk=>?_)
 refine ts (ro rfl (gX (Ht rfl) (Ht rfl)) (eX (cK (dQ (Ht rfl) (fun hd=>?_) (fun hd=>?_)))))
 ·simp only [decide_eq_true_eq] at hd
  refine T_focusE 1 (k) rfl (frow_mix hd) (fun v hv=>(cU (cK (eG (ts (rm rfl (ra rfl (eX (cY (rm rfl (rm rfl (ro rfl (cZ K_86 (c_Int (n:=0) (by decide) (by decide)) ⟨(cJ 0),trivial⟩) (ro rfl (cZ K_142 c_of ⟨(Ht rfl),trivial⟩) (ro rfl (op_bslice (xs:=[.tmp 17]) U_27 Z_45 O_45 (cW (Ht rfl) cG) rfl rfl rfl) (rm rfl (R_call0 Tryz.call196 (c_RepO (m:=n) h1 hn) ⟨(Ht rfl),(Ht rfl),trivial⟩ rfl (fun B20 _=>?_)))))))))))))))))
  have hB20:=B20.2
  refine ro rfl (fY U_28 Z_27 (Ht rfl) (Ht rfl) rfl (by omega) (by rw [Nat.mul_one,Nat.zero_add])) ?_
  refine R_stH Z_27 (Ht rfl) (Ht rfl) (by simp only [FRow,List.length_map,mix_len]; omega) (j:=1) (l:=3) rfl rfl rfl ?_
  refine eX (T_blk (T_unfocus 1 3 rfl rfl (by decide) (by simp only [FRow,List.length_map,mix_len]; omega) ?_))
  refine cY (ro rfl (dV (Ht rfl) (cJ 1) (by show _ < 9223372036854775808; first | omega | (simp only [lim]; omega))) (rm rfl (eX (T_keep [0,1] rfl (by decide) (fU (k + 1) hd (by omega) (aQ rfl (aQ rfl (aQ rfl (aQ rfl aX)))) (aU (fun _ _ _ h=>h) (aU (matO_of (by rw [set_FRow,← mix_set (f:=fun _=>(tab n fun _=>Qi.zero))])) aY)))))))
 ·simp only [decide_eq_false_iff_not] at hd
  obtain rfl:r = k:=Nat.le_antisymm (by omega) hk
  refine gV rfl (ts (rm rfl (ra rfl (eX ?_))))
  exact T_retO B8 trivial [0,1] ⟨⟨_,rfl,fun _ _ _ h=>h⟩,⟨_,rfl,(matO_of (by rw [mix_fin]; rfl))⟩,trivial⟩ (by decide) (rvs1 rfl (eU rfl))
theorem c_nTerm {z:List Qi} {s c:List (List Qi)} {port:Int} {g t:Qi} (hz:FitL z 2) (hs:FitM s 2) (hc:FitM c 2) (hg:FitC g 2) (ht:FitC t 2) (hsh:Shp s z.length z.length) (hch:Shp c z.length z.length) (hl:z.length ≤ 8):Fun Tryz.prog 49 [NoisyT z s c,IntT .i64 port,NumT g,NumT t] (TupT [NoisyT (ntZ z s port g t) (ntS z s port g t) (ntQ z s c port g t),IntT .i64 (ntE z s port g t)]):=by
 haveI:=hg
 haveI:=ht
 haveI f0:=fit_one
 have hsl:=hsh.1
 refine Fun.intro Tryz.func49 rfl Tryz.ntmps49 rfl (fun cx=>(ts (rn rfl (fG (Ht rfl)) fun B4=>(rn rfl (fG (Ht rfl)) fun B6=>(rn rfl (fG (Ht rfl)) fun B7=>(rn rfl (eW (Ts:=[Is (.slice none 0 0),Is (.slice none 0 0),Is (.slice none 0 0)]) O_77 rfl (fun V=>aW ⟨rfl,trivial⟩ (aW ⟨rfl,trivial⟩ (aW ⟨rfl,trivial⟩ (aG))))) fun B8=>(ro rfl (cQ (cJ 0)) (eX (cK (ts (ro rfl (eJ A_45 Z_45 (Ht rfl) (i:=2) rfl rfl rfl) (ro rfl (cZ Tryz.call140 (c_warm (by omega)) ⟨(Ht rfl),trivial⟩) ?_))))))))))))
 refine ro rfl (op_not (Ht rfl)) (eX (dQ (Ht rfl) (fun hb=>?_) (fun hb=>?_)))
 ·have hw : wrmE t ≠ 0 := by simp only [Bool.not_eq_true'] at hb; rw [wrmE, hb]; decide
  have hw1:wrmE t = 1:=by simp only [Bool.not_eq_true'] at hb; rw [wrmE,hb]; rfl
  have he1:ntE z s port g t = 1:=by rw [ntE,if_neg hw,hw1]
  have he:ntE z s port g t ≠ 0:=by rw [he1]; decide
  refine ts (ro rfl (OpTy.imp (bld_77_ ) noisy_nil) (gQ Z_77 (Ht rfl) (Ht rfl) rfl (i:=3) rfl (aK rfl) rfl rfl (ro rfl (cQ (cJ 1)) (eX (T_ret2 rfl (fX (fK A_77 Z_77 rfl (i:=3) rfl rfl) ?_) (fX (eU rfl) ?_))))))
  ·exact (fun v V h=>by rw [ntZ,ntS,ntQ,okL,okL,okL,if_neg he,if_neg he,if_neg he]; exact h)
  ·exact (int_of he1.symm)
 ·have hw : wrmE t = 0 := by simp only [Bool.not_eq_false'] at hb; rw [wrmE, hb]; rfl
  have hee:ntE z s port g t = trmE z s port g:=by rw [ntE,if_pos hw]
  refine cU (ts (ro rfl (eZ fa_77_0 (Ht rfl) rfl) (ro rfl (eJ A_30 Z_30 (Ht rfl) (i:=0) rfl rfl rfl) (rm rfl (ro rfl (eJ A_45 Z_45 (Ht rfl) (i:=1) rfl rfl rfl) (ro rfl (cZ Tryz.call60 (c_Term (z:=z) (s:=s) (port:=port) (g:=g) (L:=2) hsh hs hg (by decide) (by decide) (by omega)) ⟨(Ht rfl),(Ht rfl),(Ht rfl),trivial⟩) (rm rfl (ro rfl (dK (Ht rfl) rfl) (ro rfl (dK (Ht rfl) rfl) (rn rfl (eW (Ts:=[Is (.slice none 0 0),Is (.slice none 0 0)]) O_30 rfl (fun V=>aW ⟨rfl,trivial⟩ (aW ⟨rfl,trivial⟩ (aG)))) fun B10=>?_))))))))))
  refine gQ Z_30 (Ht rfl) (Ht rfl) rfl (i:=4) rfl (aK rfl) rfl rfl (ra rfl (eX (cK (ts (rm rfl (ro rfl (op_neq (Ht rfl) cV) (eX (dQ (Ht rfl) (fun hd=>?_) (fun hd=>?_)))))))))
  ·have he : ntE z s port g t ≠ 0 := by rw [hee]; simpa using hd
   refine ts (ro rfl (OpTy.imp (bld_77_ ) noisy_nil) (rm rfl (gQ Z_77 (Ht rfl) (Ht rfl) rfl (i:=3) rfl (aK rfl) rfl rfl (ra rfl (eX (T_ret2 rfl (fX (fK A_77 Z_77 rfl (i:=3) rfl rfl) ?_) (fX (eU rfl) ?_)))))))
   ·exact (fun v V h=>by rw [ntZ,ntS,ntQ,okL,okL,okL,if_neg he,if_neg he,if_neg he]; exact h)
   ·exact (int_of hee.symm)
  ·have hd0 : trmE z s port g = 0 := by simpa using hd
   obtain ⟨hb1,hn1,hD⟩:=trm_zero hd0
   obtain ⟨p,rfl⟩:∃ p:Nat,port = ((p + 1:Nat):Int):=⟨(port - 1).toNat,by omega⟩
   have hpz:(((p + 1:Nat):Int) - 1).toNat = p:=by omega
   rw [hpz] at hD
   have hpn:p < z.length:=by omega
   have he:ntE z s ((p + 1:Nat):Int) g t = 0:=by rw [hee,hd0]
   have hrz:trmRZ z s ((p + 1:Nat):Int) g = prtZ z p (z.length - 1):=by rw [trmRZ,hd0,hpz]; rfl
   have hrs:trmRS z s ((p + 1:Nat):Int) g = trmS s p (z.length - 1) (trmF s p g):=by rw [trmRS,hd0,hpz]; rfl
   rw [hrz,hrs]
   have hrf : Fun Tryz.prog 63 [NetT z s, NT .i64 (p + 1)] (TupT [NumT (gv z p), IntT .i64 0]) := by
    have h:=c_Ref (z:=z) (s:=s) (i:=((p + 1:Nat):Int)) (by omega)
    rw [show pkv z ((p + 1:Nat):Int) = gv z p from pkv_at hpn,if_pos (by omega)] at h; exact h
   have hsp:=hsh.row hpn
   haveI f1:FitC (gm s p p) 2:=hs.get (by decide) p p
   haveI f2:FitC (gv z p) 2:=hz.get (by decide) p
   haveI f3:FitC (Qi.ofInt 1 - gm s p p * g) 7:=(fitSub (x:=Qi.ofInt 1) (y:=gm s p p * g))
   refine cU (ts (ro rfl (eZ fa_77_0 (Ht rfl) rfl) (ro rfl (eJ A_30 Z_30 (Ht rfl) (i:=0) rfl rfl rfl) (ro rfl (cZ Tryz.call141 (c_scat hsh hl) ⟨(Ht rfl),trivial⟩) (rm rfl (ro rfl (OpTy.nat (dW (Ht rfl) (cJ 1) (by omega) (by show _ < 9223372036854775808; first | omega | (simp only [lim]; omega))) (show p + 1 - 1 = p by omega)) (ro rfl (cZ K_86 (c_Int (n:=1) (by decide) (by decide)) ⟨(cJ 1),trivial⟩) (ro rfl (cZ K_142 c_of ⟨(Ht rfl),trivial⟩) (rn rfl (eW (Ts:=[Is (.bool false),Is (.slice none 0 0),Is (.bool false),Is (.slice none 0 0),Is (.slice none 0 0)]) O_45 rfl (fun V=>aW ⟨rfl,trivial⟩ (aW ⟨rfl,trivial⟩ (aW ⟨rfl,trivial⟩ (aW ⟨rfl,trivial⟩ (aW ⟨rfl,trivial⟩ (aG))))))) fun B14=>?_)))))))))
   refine ra rfl (ra rfl (gQ Z_45 (Ht rfl) (Ht rfl) rfl (i:=5) rfl (aK rfl) rfl rfl (eX (cK (T_keep [0,1,2,3,4,5] rfl (by decide) (cY (ro rfl (eZ fa_77_0 (Ht rfl) rfl) (ro rfl (eJ A_30 Z_30 (Ht rfl) (i:=0) rfl rfl rfl) (rm rfl (ro rfl (cZ Tryz.call63 hrf ⟨(Ht rfl),(Ht rfl),trivial⟩) (rm rfl (ro rfl (dK (Ht rfl) rfl) (ro rfl (dK (Ht rfl) rfl) (rn rfl (eW (Ts:=[Is (.bool false),Is (.slice none 0 0),Is (.bool false),Is (.slice none 0 0),Is (.slice none 0 0)]) O_45 rfl (fun V=>aW ⟨rfl,trivial⟩ (aW ⟨rfl,trivial⟩ (aW ⟨rfl,trivial⟩ (aW ⟨rfl,trivial⟩ (aW ⟨rfl,trivial⟩ (aG))))))) fun B15=>?_))))))))))))))
   refine gQ Z_45 (Ht rfl) (Ht rfl) rfl (i:=6) rfl (aK rfl) rfl rfl (ra rfl (eX (cK (T_keep [0,1,2,3,4,5,6] rfl (by decide) (fZ (m:=14) (dp 14 rfl (eJ A_45 Z_45 (Ht rfl) (i:=5) rfl rfl rfl) (dq 61 0 rfl (op_iface mkif_45 (Ht rfl)) (dp 12 rfl (cX (Ht rfl)) (dp 13 rfl (cX (Ht rfl)) (dqq 63 2 64 3 rfl (dZ U_28 Z_27 (Ht rfl) (Ht rfl) rfl (dY (dU (d:=[]) (by omega)))) (dq 65 4 rfl (dJ A_27 Z_27 (Ht rfl)) (dp 13 rfl (cX (Ht rfl)) (dqq 66 5 67 6 rfl (dZ U_27 Z_45 (Ht rfl) (Ht rfl) rfl (dY (dU (d:=Qi.zero) (by omega)))) ?_)))))))))))))
   refine dq 68 7 rfl (dJ A_45 Z_45 (Ht rfl)) (dq 69 8 rfl (op_iface mkif_45 (Ht rfl)) (dp 6 rfl (eJ A_45 Z_45 (Ht rfl) (i:=1) rfl rfl rfl) (dqq 70 9 71 10 rfl (op_invoke meth_45_Mul K_67 (c_Mul (x:=gm s p p) (y:=g) (L:=2) (M:=2) (by decide)) (Ht rfl) ⟨(Ht rfl),trivial⟩) (dqq 62 1 72 11 rfl (op_invoke meth_45_Sub K_66 (c_Sub (x:=Qi.ofInt 1) (y:=gm s p p * g) (L:=1) (M:=5) (by decide)) (Ht rfl) ⟨(Ht rfl),trivial⟩) (C.D_new (Ei:=[]) rfl rfl rfl bW (eW (Ts:=[Is (.bool false),Is (.slice none 0 0),Is (.bool false),Is (.slice none 0 0),Is (.slice none 0 0)]) O_45 rfl (fun V=>aW ⟨rfl,trivial⟩ (aW ⟨rfl,trivial⟩ (aW ⟨rfl,trivial⟩ (aW ⟨rfl,trivial⟩ (aW ⟨rfl,trivial⟩ (aG))))))) ?_)))))
   refine fV mixed rfl (by kernel_rfl) (aJ (aJ (aJ (aJ (aJ (aJ (aJ (aJ (aJ (aJ (aJ (aJ (aJ (C.F_new (fun B17=>aV (gQ Z_45 (Ht rfl) (Ht rfl) rfl (i:=7) rfl (aK rfl) rfl rfl (eX (cK (T_keep [0,1,2,3,4,5,6,7] rfl (by decide) (cY (ro rfl (eJ A_45 Z_45 (Ht rfl) (i:=1) rfl rfl rfl) (ro rfl (op_iface mkif_45 (Ht rfl)) (ro rfl (eJ A_45 Z_45 (Ht rfl) (i:=7) rfl rfl rfl) (ro rfl (op_invoke meth_45_Div Tryz.call59 (c_Div (x:=g) (y:=(Qi.ofInt 1 - gm s p p * g)) (L:=2) (M:=7) (by decide)) (Ht rfl) ⟨(Ht rfl),trivial⟩) ?_))))))))))))))))))))))))
   refine rm rfl (ro rfl (dK (Ht rfl) rfl) (ro rfl (dK (Ht rfl) rfl) (rn rfl (eW (Ts:=[Is (.bool false),Is (.slice none 0 0),Is (.bool false),Is (.slice none 0 0),Is (.slice none 0 0)]) O_45 rfl (fun V=>aW ⟨rfl,trivial⟩ (aW ⟨rfl,trivial⟩ (aW ⟨rfl,trivial⟩ (aW ⟨rfl,trivial⟩ (aW ⟨rfl,trivial⟩ (aG))))))) fun B18=>(gQ Z_45 (Ht rfl) (Ht rfl) rfl (i:=8) rfl (aK rfl) rfl rfl (ra rfl (eX (cK (T_keep [0,1,2,3,4,5,6,7,8] rfl (by decide) (cY (ro rfl (eJ A_45 Z_45 (Ht rfl) (i:=5) rfl rfl rfl) ?_))))))))))
   refine ro rfl (op_iface mkif_45 (Ht rfl)) (ro rfl (eJ A_45 Z_45 (Ht rfl) (i:=7) rfl rfl rfl) (ro rfl (op_invoke meth_45_Div Tryz.call59 (c_Div (x:=Qi.ofInt 1) (y:=(Qi.ofInt 1 - gm s p p * g)) (L:=1) (M:=7) (by decide)) (Ht rfl) ⟨(Ht rfl),trivial⟩) (rm rfl (ro rfl (dK (Ht rfl) rfl) (ro rfl (dK (Ht rfl) rfl) (rn rfl (eW (Ts:=[Is (.bool false),Is (.slice none 0 0),Is (.bool false),Is (.slice none 0 0),Is (.slice none 0 0)]) O_45 rfl (fun V=>aW ⟨rfl,trivial⟩ (aW ⟨rfl,trivial⟩ (aW ⟨rfl,trivial⟩ (aW ⟨rfl,trivial⟩ (aW ⟨rfl,trivial⟩ (aG))))))) fun B20=>?_))))))
   refine gQ Z_45 (Ht rfl) (Ht rfl) rfl (i:=9) rfl (aK rfl) rfl rfl (ra rfl (eX (cK (T_keep [0,1,2,3,4,5,6,7,8,9] rfl (by decide) (fZ (m:=16) (dp 7 rfl (eJ A_45 Z_45 (Ht rfl) (i:=2) rfl rfl rfl) (dp 15 rfl (eJ A_45 Z_45 (Ht rfl) (i:=6) rfl rfl rfl) (dqq 88 0 89 1 rfl (cZ K_67 (c_Mul (x:=t) (y:=gv z p) (L:=2) (M:=2) (by decide)) ⟨(Ht rfl),(Ht rfl),trivial⟩) (dq 90 2 rfl (cZ K_142 c_of ⟨(Ht rfl),trivial⟩) (dq 91 3 rfl (op_iface mkif_45 (Ht rfl)) (dp 14 rfl (eJ A_45 Z_45 (Ht rfl) (i:=5) rfl rfl rfl) ?_)))))))))))
   refine dq 93 5 rfl (op_iface mkif_45 (Ht rfl)) (dp 6 rfl (eJ A_45 Z_45 (Ht rfl) (i:=1) rfl rfl rfl) (dq 95 7 rfl (op_iface mkif_45 (Ht rfl)) (dp 6 rfl (eJ A_45 Z_45 (Ht rfl) (i:=1) rfl rfl rfl) (dq 97 9 rfl (op_iface mkif_45 (Ht rfl)) (dq 98 10 rfl (op_invoke meth_45_Conj Tryz.call301 c_Conj (Ht rfl) trivial) (dqq 96 8 99 11 rfl (op_invoke meth_45_Mul K_67 (c_Mul (x:=g) (y:=g.conj) (L:=2) (M:=2) (by decide)) (Ht rfl) ⟨(Ht rfl),trivial⟩) (dqq 94 6 100 12 rfl (op_invoke meth_45_Sub K_66 (c_Sub (x:=Qi.ofInt 1) (y:=g * g.conj) (L:=1) (M:=5) (by decide)) (Ht rfl) ⟨(Ht rfl),trivial⟩) ?_)))))))
   refine dqq 92 4 101 13 rfl (op_invoke meth_45_Mul K_67 (c_Mul (x:=t * gv z p) (y:=Qi.ofInt 1 - g * g.conj) (L:=5) (M:=7) (by decide)) (Ht rfl) ⟨(Ht rfl),trivial⟩) (C.D_new (Ei:=[]) rfl rfl rfl bW (eW (Ts:=[Is (.bool false),Is (.slice none 0 0),Is (.bool false),Is (.slice none 0 0),Is (.slice none 0 0)]) O_45 rfl (fun V=>aW ⟨rfl,trivial⟩ (aW ⟨rfl,trivial⟩ (aW ⟨rfl,trivial⟩ (aW ⟨rfl,trivial⟩ (aW ⟨rfl,trivial⟩ (aG))))))) (fV mixed rfl (by kernel_rfl) (aJ (aJ (aJ (aJ (aJ (aJ (aJ (aJ (aJ (aJ (aJ (aJ (aJ (aJ (aJ (C.F_new (fun B22=>aV ?_)))))))))))))))))))
   refine gQ Z_45 (Ht rfl) (Ht rfl) rfl (i:=10) rfl (aK rfl) rfl rfl (eX (ts (ro rfl (cQ cV) (eX (ts (ro rfl (cQ cV) (eX (cK (cK (T_keep [0,3,4,5,8,9,10] rfl (by decide) (T_row 27 1 (T_row 45 5 (cY (rm rfl (ro rfl (dG U_28 (Ht rfl) (by rw [List.length_map,hsl])) ?_)))))))))))))))
   refine ro rfl (cX (cJ 0)) (eX (eG ?_))
   refine T_loop3 (fun (i : Nat) (vA : Value) (vU : Value) => i ≤ z.length) (fun (i : Nat) (vA : Value) (vU : Value) => z.length - i) (fun (i : Nat) (vA : Value) (vU : Value) => [(4, PtrB B4 0), (8, PtrB B8 0), (10, PtrB B10 0), (12, NumM s), (13, NT .i64 p), (14, PtrB B14 0), (18, PtrB B18 0), (20, PtrB B20 0), (22, PtrB B22 0), (23, Is vA), (24, Is vU), (104, NT .i64 z.length), (105, NT .i64 i)]) (fun (i : Nat) (vA : Value) (vU : Value) => [box B4 77 [NumsT z, NumM s, NumM c], box B8 77 [Is (.slice none 0 0), Is (.slice none 0 0), Is (.slice none 0 0)], box B10 30 [NumsT (prtZ z p (z.length - 1)), NumM (trmS s p (z.length - 1) (trmF s p g))], box B14 45 [BoolT (decide ((Qi.ofInt 1).a < 0)), NatT (Qi.ofInt 1).a.natAbs, BoolT (decide ((Qi.ofInt 1).b < 0)), NatT (Qi.ofInt 1).b.natAbs, NatT (du (Qi.ofInt 1))], box B18 45 [BoolT (decide ((g / (Qi.ofInt 1 - gm s p p * g)).a < 0)), NatT (g / (Qi.ofInt 1 - gm s p p * g)).a.natAbs, BoolT (decide ((g / (Qi.ofInt 1 - gm s p p * g)).b < 0)), NatT (g / (Qi.ofInt 1 - gm s p p * g)).b.natAbs, NatT (du (g / (Qi.ofInt 1 - gm s p p * g)))], box B20 45 [BoolT (decide ((Qi.ofInt 1 / (Qi.ofInt 1 - gm s p p * g)).a < 0)), NatT (Qi.ofInt 1 / (Qi.ofInt 1 - gm s p p * g)).a.natAbs, BoolT (decide ((Qi.ofInt 1 / (Qi.ofInt 1 - gm s p p * g)).b < 0)), NatT (Qi.ofInt 1 / (Qi.ofInt 1 - gm s p p * g)).b.natAbs, NatT (du (Qi.ofInt 1 / (Qi.ofInt 1 - gm s p p * g)))], box B22 45 [BoolT (decide ((t * gv z p * (Qi.ofInt 1 - g * g.conj)).a < 0)), NatT (t * gv z p * (Qi.ofInt 1 - g * g.conj)).a.natAbs, BoolT (decide ((t * gv z p * (Qi.ofInt 1 - g * g.conj)).b < 0)), NatT (t * gv z p * (Qi.ofInt 1 - g * g.conj)).b.natAbs, NatT (du (t * gv z p * (Qi.ofInt 1 - g * g.conj)))], rowO 27 1 vA ((ntA s g p z.length i).map NumsT), rowO 45 5 vU ((ntU s g p i).map NumT)]) 0 _ _ (Nat.zero_le _)
    (aQ rfl (aQ rfl (aQ rfl (aQ rfl (aQ rfl (aQ rfl (aQ rfl (aQ rfl (aQ rfl (aQ rfl (aQ rfl (aQ rfl (aQ rfl aX))))))))))))) (aU (box_of rfl) (aU (box_of rfl) (aU (box_of rfl) (aU (box_of rfl) (aU (box_of rfl) (aU (box_of rfl) (aU (box_of rfl) (aU (rowO_of rfl) (aU (rowO_of rfl) aY))))))))) (fun i vA vU hi=>?_)
   refine ts (ro rfl (gX (Ht rfl) (Ht rfl)) (eX (cK (dQ (Ht rfl) (fun hc1=>?_) (fun hc1=>?_)))))
   ·have hin : i < z.length := by simp only [decide_eq_true_eq] at hc1; omega
    have hfl:=lfG_len [p] i
    have hsi:=hsh.row hin
    refine cU (cK (eG (ts (rm rfl (ra rfl (eX (cK (ts (rm rfl (rm rfl (ro rfl (op_eqlN (Ht rfl) (Ht rfl)) (eX (dQ (Ht rfl) (fun hx=>?_) (fun hx=>?_))))))))))))))
    ·have hip : i = p := by simpa using hx
     have hnx:lfG [p] (i + 1) = lfG [p] i:=by rw [lfG,if_pos (by simp [hip]),List.append_nil]
     refine gV rfl (cY (ro rfl (dV (Ht rfl) (cJ 1) (by show _ < 9223372036854775808; first | omega | (simp only [lim]; omega))) (rm rfl (eX (fU (i + 1,vA,vU) hin (by dsimp only; omega) (aQ rfl (aQ rfl (aQ rfl (aQ rfl (aQ rfl (aQ rfl (aQ rfl (aQ rfl (aQ rfl (aQ rfl (aQ rfl (aQ rfl (aQ rfl aX))))))))))))) (aU (box_of rfl) (aU (box_of rfl) (aU (box_of rfl) (aU (box_of rfl) (aU (box_of rfl) (aU (box_of rfl) (aU (box_of rfl) (aU (rowO_of (by rw [ntA,ntA,hnx])) (aU (rowO_of (by rw [ntU,ntU,hnx])) aY))))))))))))))
    ·have hip : ¬ i = p := by simpa using hx
     have hnx:lfG [p] (i + 1) = lfG [p] i ++ [i]:=by rw [lfG,if_neg (by simp [hip])]
     haveI f4:FitC (gm s i p) 2:=hs.get (by decide) i p
     refine cU (ts (rm rfl (ro rfl (dG U_28 (Ht rfl) (by rw [List.length_map,hsl])) ?_)))
     refine R_call0 Tryz.call134 (c_zerosRO (r:=1) (n:=z.length) (by decide) (by omega) (by omega)) ⟨(cJ 1),(Ht rfl),trivial⟩ rfl (fun B113 _=>?_)
     refine R_focus 9 0 (Ts:=(tab z.length fun _=>Qi.zero).map NumT) rfl rfl (fun v0=>(ro rfl (fY U_28 Z_27 (Ht rfl) (cJ 0) rfl (by decide) (by rw [Nat.mul_one,Nat.zero_add])) ?_))
     refine ro rfl (op_ldH A_27 Z_27 (Ht rfl) (j:=9) rfl) (ra rfl (eX (cK (T_keep [0,1,2,3,4,5,6,7,8,10] rfl (by decide) (W.D_start (m:=17) (fun b=>cond b ([box B4 77 [NumsT z,NumM s,NumM c],box B8 77 [Is (.slice none 0 0),Is (.slice none 0 0),Is (.slice none 0 0)],box B10 30 [NumsT (prtZ z p (z.length - 1)),NumM (trmS s p (z.length - 1) (trmF s p g))],box B14 45 [BoolT (decide ((Qi.ofInt 1).a < 0)),NatT (Qi.ofInt 1).a.natAbs,BoolT (decide ((Qi.ofInt 1).b < 0)),NatT (Qi.ofInt 1).b.natAbs,NatT (du (Qi.ofInt 1))],box B18 45 [BoolT (decide ((g / (Qi.ofInt 1 - gm s p p * g)).a < 0)),NatT (g / (Qi.ofInt 1 - gm s p p * g)).a.natAbs,BoolT (decide ((g / (Qi.ofInt 1 - gm s p p * g)).b < 0)),NatT (g / (Qi.ofInt 1 - gm s p p * g)).b.natAbs,NatT (du (g / (Qi.ofInt 1 - gm s p p * g)))],box B20 45 [BoolT (decide ((Qi.ofInt 1 / (Qi.ofInt 1 - gm s p p * g)).a < 0)),NatT (Qi.ofInt 1 / (Qi.ofInt 1 - gm s p p * g)).a.natAbs,BoolT (decide ((Qi.ofInt 1 / (Qi.ofInt 1 - gm s p p * g)).b < 0)),NatT (Qi.ofInt 1 / (Qi.ofInt 1 - gm s p p * g)).b.natAbs,NatT (du (Qi.ofInt 1 / (Qi.ofInt 1 - gm s p p * g)))],box B22 45 [BoolT (decide ((t * gv z p * (Qi.ofInt 1 - g * g.conj)).a < 0)),NatT (t * gv z p * (Qi.ofInt 1 - g * g.conj)).a.natAbs,BoolT (decide ((t * gv z p * (Qi.ofInt 1 - g * g.conj)).b < 0)),NatT (t * gv z p * (Qi.ofInt 1 - g * g.conj)).b.natAbs,NatT (du (t * gv z p * (Qi.ofInt 1 - g * g.conj)))],rowO 27 1 vA ((ntA s g p z.length i).map NumsT),rowO 45 5 vU ((ntU s g p i).map NumT),rowO 45 5 v0 (((tab z.length fun _=>Qi.zero).map NumT).set i (NumT (Qi.ofInt 1)))]) _) 16 ?_)))))
     refine W.D_step (Ei:=[(26,_)]) rfl rfl (W.Srcs.cons (W.Src.pre rfl rfl) W.Srcs.nil) rfl (by kernel_rfl) (dX rfl (cX (Ht rfl))) (W.D_step (Ei:=[(25,_)]) rfl rfl (W.Srcs.cons (W.Src.pre rfl rfl) W.Srcs.nil) rfl (by kernel_rfl) (dX rfl (cX (Ht rfl))) (W.D_pure (Ei:=[(26,_)]) rfl rfl (W.Srcs.cons (W.Src.pre rfl rfl) W.Srcs.nil) rfl (fun _=>dX rfl (cX (Ht rfl))) (W.D_pure (Ei:=[(13,_)]) rfl rfl (W.Srcs.cons (W.Src.pre rfl rfl) W.Srcs.nil) rfl (fun _=>dX rfl (cX (Ht rfl))) (W.D_step (Ei:=[(14,_)]) rfl rfl (W.Srcs.cons (W.Src.pre rfl rfl) W.Srcs.nil) rfl (by kernel_rfl) (dX rfl (eJ A_45 Z_45 (Ht rfl) (i:=3) rfl rfl rfl)) ?_))))
     refine W.D_step (Ei:=[(12,_)]) rfl rfl (W.Srcs.cons (W.Src.pre rfl rfl) W.Srcs.nil) rfl (by kernel_rfl) (dX rfl (cX (Ht rfl))) (W.D_step (Ei:=[(25,_)]) rfl rfl (W.Srcs.cons (W.Src.pre rfl rfl) W.Srcs.nil) rfl (by kernel_rfl) (dX rfl (cX (Ht rfl))) (W.D_step (Ei:=[(121,_),(122,_)]) rfl rfl (W.Srcs.cons (W.Src.op 5 rfl rfl) (W.Srcs.cons (W.Src.op 6 rfl rfl) W.Srcs.nil)) rfl (by kernel_rfl) (dX rfl (dZ U_28 Z_27 (Ht rfl) (Ht rfl) rfl (dY (dU (d:=[]) (by omega))))) (W.D_step (Ei:=[(123,_)]) rfl rfl (W.Srcs.cons (W.Src.op 7 rfl rfl) W.Srcs.nil) rfl (by kernel_rfl) (dX rfl (dJ A_27 Z_27 (Ht rfl))) ?_)))
     refine W.D_step (Ei:=[(13,_)]) rfl rfl (W.Srcs.cons (W.Src.pre rfl rfl) W.Srcs.nil) rfl (by kernel_rfl) (dX rfl (cX (Ht rfl))) (W.D_step (Ei:=[(124,_),(125,_)]) rfl rfl (W.Srcs.cons (W.Src.op 8 rfl rfl) (W.Srcs.cons (W.Src.op 9 rfl rfl) W.Srcs.nil)) rfl (by kernel_rfl) (dX rfl (dZ U_27 Z_45 (Ht rfl) (Ht rfl) rfl (dY (dU (d:=Qi.zero) (by omega))))) (W.D_step (Ei:=[(126,_)]) rfl rfl (W.Srcs.cons (W.Src.op 10 rfl rfl) W.Srcs.nil) rfl (by kernel_rfl) (dX rfl (dJ A_45 Z_45 (Ht rfl))) (W.D_step (Ei:=[(127,_)]) rfl rfl (W.Srcs.cons (W.Src.op 11 rfl rfl) W.Srcs.nil) rfl (by kernel_rfl) (dX rfl (op_iface mkif_45 (Ht rfl))) ?_)))
     refine W.D_step (Ei:=[(18,_)]) rfl rfl (W.Srcs.cons (W.Src.pre rfl rfl) W.Srcs.nil) rfl (by kernel_rfl) (dX rfl (eJ A_45 Z_45 (Ht rfl) (i:=4) rfl rfl rfl)) (W.D_step (Ei:=[(128,_),(129,_)]) rfl rfl (W.Srcs.cons (W.Src.op 12 rfl rfl) (W.Srcs.cons (W.Src.op 13 rfl rfl) W.Srcs.nil)) rfl (by kernel_rfl) (dX rfl (op_invoke meth_45_Mul K_67 (c_Mul (x:=gm s i p) (y:=(g / (Qi.ofInt 1 - gm s p p * g))) (L:=2) (M:=25) (by decide)) (Ht rfl) ⟨(Ht rfl),trivial⟩)) (W.D_step (Ei:=[(116,_),(117,_)]) rfl rfl (W.Srcs.cons (W.Src.op 0 rfl rfl) (W.Srcs.cons (W.Src.op 1 rfl rfl) W.Srcs.nil)) rfl (by kernel_rfl) (dX rfl (op_idxO U_27 Z_45 (Ht rfl) (Ht rfl) rfl (i:=9) rfl (by rw [List.length_map,tab_len]; omega) rfl)) ?_))
     refine W.D_put (Ei:=[(131,_),(120,_)]) rfl rfl (W.Srcs.cons (W.Src.op 15 rfl rfl) (W.Srcs.cons (W.Src.op 4 rfl rfl) W.Srcs.nil)) rfl (P_stO Z_45 (Ht rfl) (Ht rfl) (El.ag rfl) (i:=9) rfl rfl (by rw [List.length_map,tab_len]; omega)) ?_
     refine W.D_done mixed rfl (by kernel_rfl) rfl (W.F_val (W.F_val (W.F_val (W.F_val (W.F_val (W.F_val (W.F_val (W.F_val (W.F_val (W.F_val (W.F_val (W.F_val (W.F_val (W.F_val (W.F_val (W.F_val (W.F_put (W.F_nil (ro rfl (op_idxO U_27 Z_45 (Ht rfl) (Ht rfl) rfl (i:=9) rfl (by rw [List.length_set,List.length_map,tab_len]; omega) rfl) ?_)))))))))))))))))))
     refine R_stO Z_45 (Ht rfl) (Ht rfl) (El.ag rfl) (i:=9) rfl rfl (by rw [List.length_set,List.length_map,tab_len]; omega) rfl ?_
     refine eX (T_conv 9 rfl (rowO_of (e:=45) (s:=5) (by rw [set_mapF,set_mapF]; rfl:_ = (ntRow s g p z.length i).map NumT)) ?_)
     refine gJ (i:=9) (tt:=26) rfl rfl frz_row (Y.D_startA (m:=16) [] 3 7 rfl rfl (bY (Ei:=[(23,_)]) rfl rfl (bQ (bJ rfl rfl) bX) rfl rfl (dX rfl (cX (Ht rfl))) (bY (Ei:=[(26,_)]) rfl rfl (bQ (bJ rfl rfl) bX) rfl rfl (dX rfl (cX (Ht rfl))) (bY (Ei:=[(134,_)]) rfl rfl (bQ (bZ 1 rfl rfl) bX) rfl rfl (dX rfl (op_bslice (xs:=[.tmp 134]) U_28 Z_27 Tryz.zeroValue27 (cW (Ht rfl) cG) rfl rfl rfl)) (Y.D_app (Ei:=[(133,_),(135,_)]) rfl rfl rfl rfl (bQ (bZ 0 rfl rfl) (bQ (bZ 2 rfl rfl) bX)) rfl (A_append (inf:=Tryz.t27) und_28 info_27 rfl rfl rfl (Ht rfl) (Ht rfl) (by simp) (fun T hT=>by simp at hT; subst hT; exact El.one) (by show _ * 24 ≤ _; simp only [List.length_map,List.length_append,List.length_cons,List.length_nil,ntA,ntU]; omega) (by simp only [List.length_map,List.length_append,List.length_cons,List.length_nil,ntA,ntU]; omega)) ?_)))))
     refine bY (Ei:=[(24,_)]) rfl rfl (bQ (bJ rfl rfl) bX) rfl rfl (dX rfl (cX (Ht rfl))) (bY (Ei:=[(12,_)]) rfl rfl (bQ (bJ rfl rfl) bX) rfl rfl (dX rfl (cX (Ht rfl))) (bY (Ei:=[(25,_)]) rfl rfl (bQ (bJ rfl rfl) bX) rfl rfl (dX rfl (cX (Ht rfl))) (bY (Ei:=[(138,_),(139,_)]) rfl rfl (bQ (bZ 5 rfl rfl) (bQ (bZ 6 rfl rfl) bX)) rfl rfl (dX rfl (dZ U_28 Z_27 (Ht rfl) (Ht rfl) rfl (dY (dU (d:=[]) (by omega))))) ?_)))
     refine bY (Ei:=[(140,_)]) rfl rfl (bQ (bZ 7 rfl rfl) bX) rfl rfl (dX rfl (dJ A_27 Z_27 (Ht rfl))) (bY (Ei:=[(13,_)]) rfl rfl (bQ (bJ rfl rfl) bX) rfl rfl (dX rfl (cX (Ht rfl))) (bY (Ei:=[(141,_),(142,_)]) rfl rfl (bQ (bZ 8 rfl rfl) (bQ (bZ 9 rfl rfl) bX)) rfl rfl (dX rfl (dZ U_27 Z_45 (Ht rfl) (Ht rfl) rfl (dY (dU (d:=Qi.zero) (by omega))))) (bY (Ei:=[(143,_)]) rfl rfl (bQ (bZ 10 rfl rfl) bX) rfl rfl (dX rfl (dJ A_45 Z_45 (Ht rfl))) ?_)))
     refine bY (Ei:=[(144,_)]) rfl rfl (bQ (bZ 11 rfl rfl) bX) rfl rfl (dX rfl (op_iface mkif_45 (Ht rfl))) (bY (Ei:=[(20,_)]) rfl rfl (bQ (bJ rfl rfl) bX) rfl rfl (dX rfl (eJ A_45 Z_45 (Ht rfl) (i:=5) rfl rfl rfl)) (bY (Ei:=[(145,_),(146,_)]) rfl rfl (bQ (bZ 12 rfl rfl) (bQ (bZ 13 rfl rfl) bX)) rfl rfl (dX rfl (op_invoke meth_45_Mul K_67 (c_Mul (x:=gm s i p) (y:=(Qi.ofInt 1 / (Qi.ofInt 1 - gm s p p * g))) (L:=2) (M:=24) (by decide)) (Ht rfl) ⟨(Ht rfl),trivial⟩)) ?_))
     refine bY (Ei:=[(147,_)]) rfl rfl (bQ (bZ 14 rfl rfl) bX) rfl rfl (dX rfl (op_bslice (xs:=[.tmp 147]) U_27 Z_45 O_45 (cW (Ht rfl) cG) rfl rfl rfl)) (Y.D_done mixed rfl (by kernel_rfl) rfl (by simp [Y.okP]) rfl rfl (bU (bU (bU (Y.F_app (fun vA2=>bU (bU (bU (bU (bU (bU (bU (bU (bU (bU (bU (bU (Y.F_nil ?_))))))))))))))))))
     refine R_append (inf:=Tryz.t45) und_27 info_45 rfl rfl rfl (Ht rfl) (Ht rfl) (i:=8) rfl (by simp) (fun T hT=>by simp at hT; subst hT; exact El.ag rfl) (by show _ * 88 ≤ _; simp only [List.length_map,List.length_append,List.length_cons,List.length_nil,ntA,ntU]; omega) (by simp only [List.length_map,List.length_append,List.length_cons,List.length_nil,ntA,ntU]; omega) rfl (fun vU2=>?_)
     refine ra rfl (ra rfl (eX (T_blk (cY (ro rfl (dV (Ht rfl) (cJ 1) (by show _ < 9223372036854775808; first | omega | (simp only [lim]; omega))) (rm rfl (eX (T_keep [0,1,2,3,4,5,6,10,8] rfl (by decide) (fU (i + 1,vA2,vU2) hin (by dsimp only; omega) (aQ rfl (aQ rfl (aQ rfl (aQ rfl (aQ rfl (aQ rfl (aQ rfl (aQ rfl (aQ rfl (aQ rfl (aQ rfl (aQ rfl (aQ rfl aX))))))))))))) (aU (box_of rfl) (aU (box_of rfl) (aU (box_of rfl) (aU (box_of rfl) (aU (box_of rfl) (aU (box_of rfl) (aU (box_of rfl) (aU (rowO_of (by rw [ntA,ntA,hnx,List.map_append,List.map_append]; rfl)) (aU (rowO_of (by rw [ntU,ntU,hnx,List.map_append,List.map_append]; rfl)) aY))))))))))))))))))
   ·have hin : i = z.length := by simp only [decide_eq_false_iff_not] at hc1; omega
    rw [hin]
    refine gV rfl (gJ (i:=7) (tt:=23) rfl rfl frz_row (gJ (i:=8) (tt:=24) rfl rfl frz_row ?_))
    have hA:=ntA_shp s g hpn
    have hAl:=hA.1
    have hAf:=ntA_fit (p:=p) (n:=z.length) (k:=z.length) hs hg
    have hUf:=ntU_fit (p:=p) (k:=z.length) hs hg
    have hUl:(ntU s g p z.length).length = z.length - 1:=by rw [ntU,List.length_map,lf1_len hpn]
    have hXf:=carM_fit hAf (hc.le (by decide)) (by decide) (by rw [hch.1]; exact hl)
    have hX:Shp (carM (ntA s g p z.length z.length) c) (z.length - 1) (z.length - 1):=by have h:=carM_shp (p:=ntA s g p z.length z.length) (c:=c); rw [hAl] at h; exact h
    obtain ⟨m,hm⟩:∃ m,m = z.length - 1:=⟨_,rfl⟩
    rw [← hm] at hA hAl hUl hX
    obtain ⟨X,hXd⟩:∃ X,X = carM (ntA s g p z.length z.length) c:=⟨_,rfl⟩
    obtain ⟨U,hUd⟩:∃ U,U = ntU s g p z.length:=⟨_,rfl⟩
    have hcar : FunO Tryz.prog 143 [NumM (ntA s g p z.length z.length), NumM c] [] Nat (fun B => Is (.slice (some ⟨B, 0, none⟩) m m)) (fun B => [matO B 27 45 5 (FRow NumT X)]) (fun _ => True) := by
     rw [hXd]
     exact c_carO (p:=ntA s g p z.length z.length) (c:=c) (n:=m) (m:=z.length) (L:=28) hA hch hAf (hc.le (by decide)) (by decide) (by decide) (by omega) (by omega) (by omega) hl
    rw [← hXd] at hXf hX
    rw [← hUd] at hUf hUl
    rw [← hUd]
    haveI fr:FitC (t * gv z p * (Qi.ofInt 1 - g * g.conj)) 13:=ntR_fit (p:=p) hz hg ht
    refine ts (rm rfl (ro rfl (eZ fa_77_1 (Ht rfl) rfl) (ro rfl (eY A_28 Z_28 (Ht rfl) (i:=0) rfl rfl) (R_call0 Tryz.call143 hcar ⟨(Ht rfl),(Ht rfl),trivial⟩ rfl (fun B154 _=>(ra rfl (eX (cK (ts (rm rfl (ro rfl (op_lenI U_28 (Ht rfl)) (ro rfl (cX (cJ 0)) (eX (eG (T_keep [1,2,6,9] rfl (by decide) ?_)))))))))))))))
    refine T_loop (fun (i : Nat) => i ≤ m) (fun (i : Nat) => m - i) (fun (i : Nat) => [(8, PtrB B8 0), (10, PtrB B10 0), (22, PtrB B22 0), (24, NumsT U), (27, Is (.slice (some ⟨B154, 0, none⟩) m m)), (155, Is (.slice (some ⟨B154, 0, none⟩) m m)), (156, NT .i64 m), (157, NT .i64 i)]) (fun (i : Nat) => [box B8 77 [Is (.slice none 0 0), Is (.slice none 0 0), Is (.slice none 0 0)], box B10 30 [NumsT (prtZ z p (z.length - 1)), NumM (trmS s p (z.length - 1) (trmF s p g))], box B22 45 [BoolT (decide ((t * gv z p * (Qi.ofInt 1 - g * g.conj)).a < 0)), NatT (t * gv z p * (Qi.ofInt 1 - g * g.conj)).a.natAbs, BoolT (decide ((t * gv z p * (Qi.ofInt 1 - g * g.conj)).b < 0)), NatT (t * gv z p * (Qi.ofInt 1 - g * g.conj)).b.natAbs, NatT (du (t * gv z p * (Qi.ofInt 1 - g * g.conj)))], matO B154 27 45 5 (FRow NumT (mixG (fun i => tab m fun k => (gm X i k + (t * gv z p * (Qi.ofInt 1 - g * g.conj)) * (gv U i * (gv U k).conj))) (fun i => tab m fun k => gm X i k) m i))]) 0 (Nat.zero_le _)
     (aQ rfl (aQ rfl (aQ rfl (aQ rfl (aQ rfl (aQ rfl (aQ rfl (aQ rfl aX)))))))) (aU (box_of rfl) (aU (box_of rfl) (aU (box_of rfl) (aU (matO_of (by rw [← mixG_zero]; exact congrArg _ (mat_tab hX))) aY)))) (fun i hi=>?_)
    refine ts (ro rfl (gX (Ht rfl) (Ht rfl)) (eX (cK (dQ (Ht rfl) (fun he2=>?_) (fun he2=>?_)))))
    ·simp only [decide_eq_true_eq] at he2
     refine T_focus 3 (i) rfl (frow_mixG he2) (fun v=>(cU (cK (eG (ts (rm rfl (ro rfl (fY U_28 Z_27 (Ht rfl) (Ht rfl) rfl (by omega) (by rw [Nat.mul_one,Nat.zero_add])) ?_)))))))
     refine ro rfl (op_ldH A_27 Z_27 (Ht rfl) (j:=3) rfl) (ra rfl (ra rfl (eX (ts (rm rfl (ro rfl (op_lenO U_27 (Ht rfl) (i:=4) rfl (show (((tab m fun k=>gm X i k).map NumT).length:Int) = ((m:Nat):Int) by rw [List.length_map,tab_len])) (ro rfl (cX (cJ 0)) (eX (eG ?_)))))))))
     refine T_loop (fun (j : Nat) => j ≤ m) (fun (j : Nat) => m - j) (fun (j : Nat) => [(8, PtrB B8 0), (10, PtrB B10 0), (22, PtrB B22 0), (24, NumsT U), (27, Is (.slice (some ⟨B154, 0, none⟩) m m)), (28, NT .i64 i), (29, Is v), (155, Is (.slice (some ⟨B154, 0, none⟩) m m)), (156, NT .i64 m), (157, NT .i64 i), (163, NT .i64 m), (164, NT .i64 j)]) (fun (j : Nat) => [box B8 77 [Is (.slice none 0 0), Is (.slice none 0 0), Is (.slice none 0 0)], box B10 30 [NumsT (prtZ z p (z.length - 1)), NumM (trmS s p (z.length - 1) (trmF s p g))], box B22 45 [BoolT (decide ((t * gv z p * (Qi.ofInt 1 - g * g.conj)).a < 0)), NatT (t * gv z p * (Qi.ofInt 1 - g * g.conj)).a.natAbs, BoolT (decide ((t * gv z p * (Qi.ofInt 1 - g * g.conj)).b < 0)), NatT (t * gv z p * (Qi.ofInt 1 - g * g.conj)).b.natAbs, NatT (du (t * gv z p * (Qi.ofInt 1 - g * g.conj)))], matH B154 27 45 5 (FRow NumT (mixG (fun i => tab m fun k => (gm X i k + (t * gv z p * (Qi.ofInt 1 - g * g.conj)) * (gv U i * (gv U k).conj))) (fun i => tab m fun k => gm X i k) m i)) i v, rowO 45 5 v ((mixG (fun k => (gm X i k + (t * gv z p * (Qi.ofInt 1 - g * g.conj)) * (gv U i * (gv U k).conj))) (fun k => gm X i k) m j).map NumT)]) 0 (Nat.zero_le _)
      (aQ rfl (aQ rfl (aQ rfl (aQ rfl (aQ rfl (aQ rfl (aQ rfl (aQ rfl (aQ rfl (aQ rfl (aQ rfl (aQ rfl aX)))))))))))) (aU (box_of rfl) (aU (box_of rfl) (aU (box_of rfl) (aU (fun _ _ _ h=>h) (aU (rowO_of (by rw [← mixG_zero])) aY))))) (fun j hj=>?_)
     refine ts (ro rfl (gX (Ht rfl) (Ht rfl)) (eX (cK (dQ (Ht rfl) (fun hf=>?_) (fun hf=>?_)))))
     ·simp only [decide_eq_true_eq] at hf
      have hrl:=mixG_len (fun k=>(gm X i k + (t * gv z p * (Qi.ofInt 1 - g * g.conj)) * (gv U i * (gv U k).conj))) (fun k=>gm X i k) m j
      haveI q1:FitC (gm X i j) 5900:=hXf.get (by decide) i j
      haveI q2:FitC (gv U i) 27:=hUf.get (by decide) i
      haveI q3:FitC (gv U j) 27:=hUf.get (by decide) j
      refine cU (cK (eG (ts (rm rfl (ra rfl (eX (fZ (m:=23) (dp 29 rfl (cX (Ht rfl)) (dp 30 rfl (cX (Ht rfl)) (dp 29 rfl (cX (Ht rfl)) (dp 30 rfl (cX (Ht rfl)) (dqq 169 2 170 3 rfl (op_idxO U_27 Z_45 (Ht rfl) (Ht rfl) rfl (i:=4) rfl (by simp only [List.length_map,hrl]; omega) rfl) ?_))))))))))))
      refine dq 171 4 rfl (op_ldO A_45 Z_45 (Ht rfl) (i:=4) rfl rfl (dY (mixG_get hf))) (dq 172 5 rfl (op_iface mkif_45 (Ht rfl)) (dp 22 rfl (eJ A_45 Z_45 (Ht rfl) (i:=2) rfl rfl rfl) (dq 174 7 rfl (op_iface mkif_45 (Ht rfl)) (dp 24 rfl (cX (Ht rfl)) (dp 28 rfl (cX (Ht rfl)) (dqq 176 9 177 10 rfl (dZ U_27 Z_45 (Ht rfl) (Ht rfl) rfl (dY (dU (d:=Qi.zero) (by omega)))) (dq 178 11 rfl (dJ A_45 Z_45 (Ht rfl)) (dq 179 12 rfl (op_iface mkif_45 (Ht rfl)) (dp 24 rfl (cX (Ht rfl)) ?_)))))))))
      refine dp 30 rfl (cX (Ht rfl)) (dqq 181 14 182 15 rfl (dZ U_27 Z_45 (Ht rfl) (Ht rfl) rfl (dY (dU (d:=Qi.zero) (by omega)))) (dq 183 16 rfl (dJ A_45 Z_45 (Ht rfl)) (dq 184 17 rfl (op_iface mkif_45 (Ht rfl)) (dq 185 18 rfl (op_invoke meth_45_Conj Tryz.call301 c_Conj (Ht rfl) trivial) (dqq 180 13 186 19 rfl (op_invoke meth_45_Mul K_67 (c_Mul (x:=gv U i) (y:=(gv U j).conj) (L:=27) (M:=27) (by decide)) (Ht rfl) ⟨(Ht rfl),trivial⟩) (dqq 175 8 187 20 rfl (op_invoke meth_45_Mul K_67 (c_Mul (x:=(t * gv z p * (Qi.ofInt 1 - g * g.conj))) (y:=gv U i * (gv U j).conj) (L:=13) (M:=55) (by decide)) (Ht rfl) ⟨(Ht rfl),trivial⟩) ?_))))))
      refine dqq 173 6 188 21 rfl (op_invoke meth_45_Add Tryz.call68 (c_Add (x:=gm X i j) (y:=(t * gv z p * (Qi.ofInt 1 - g * g.conj)) * (gv U i * (gv U j).conj)) (L:=5900) (M:=69) (by decide)) (Ht rfl) ⟨(Ht rfl),trivial⟩) (fV mixed rfl (by kernel_rfl) (aJ (aJ (aJ (aJ (aJ (aJ (aJ (aJ (aJ (aJ (aJ (aJ (aJ (aJ (aJ (aJ (aJ (aJ (aJ (aJ (aJ (aJ (aJ (aV (ro rfl (op_idxO U_27 Z_45 (Ht rfl) (Ht rfl) rfl (i:=4) rfl (by simp only [List.length_map,hrl]; omega) rfl) ?_))))))))))))))))))))))))))
      refine R_stO Z_45 (Ht rfl) (Ht rfl) (El.ag rfl) (i:=4) rfl rfl (by simp only [List.length_map,hrl]; omega) rfl ?_
      refine eX (T_blk (cY (ro rfl (dV (Ht rfl) (cJ 1) (by show _ < 9223372036854775808; first | omega | (simp only [lim]; omega))) (rm rfl (eX (T_keep [0,1,2,3,4] rfl (by decide) (fU (j + 1) hf (by omega) (aQ rfl (aQ rfl (aQ rfl (aQ rfl (aQ rfl (aQ rfl (aQ rfl (aQ rfl (aQ rfl (aQ rfl (aQ rfl (aQ rfl aX)))))))))))) (aU (box_of rfl) (aU (box_of rfl) (aU (box_of rfl) (aU (fun _ _ _ h=>h) (aU (rowO_of (by rw [set_mapF,← mixG_set (f:=fun k=>(gm X i k + (t * gv z p * (Qi.ofInt 1 - g * g.conj)) * (gv U i * (gv U k).conj)))])) aY))))))))))))
     ·simp only [decide_eq_false_iff_not] at hf
      obtain rfl:j = m:=Nat.le_antisymm hj (by omega)
      refine gV rfl (T_blk (T_unfocus 3 4 rfl rfl (by decide) (by simp only [FRow,List.length_map,mixG_len]; omega) ?_))
      refine cY (ro rfl (dV (Ht rfl) (cJ 1) (by show _ < 9223372036854775808; first | omega | (simp only [lim]; omega))) (rm rfl (eX (T_keep [0,1,2,3] rfl (by decide) (fU (i + 1) he2 (by omega) (aQ rfl (aQ rfl (aQ rfl (aQ rfl (aQ rfl (aQ rfl (aQ rfl (aQ rfl aX)))))))) (aU (box_of rfl) (aU (box_of rfl) (aU (box_of rfl) (aU (matO_of (by rw [set_FRow,mixG_fin,← mixG_set (f:=(fun i=>tab j fun k=>(gm X i k + (t * gv z p * (Qi.ofInt 1 - g * g.conj)) * (gv U i * (gv U k).conj))))])) aY)))))))))
    ·simp only [decide_eq_false_iff_not] at he2
     have him:i = m:=Nat.le_antisymm hi (by omega)
     rw [him,mixG_fin]
     refine gV rfl (cK (gJ (i:=3) (tt:=27) rfl rfl (frz_matF (s:=5) (M:=tab m (fun i=>tab m fun k=>(gm X i k + (t * gv z p * (Qi.ofInt 1 - g * g.conj)) * (gv U i * (gv U k).conj)))) (tab_len _ _).symm) ?_))
     have hQ:tab m (fun i=>tab m fun k=>(gm X i k + (t * gv z p * (Qi.ofInt 1 - g * g.conj)) * (gv U i * (gv U k).conj))) = ntC z s c g t p:=by rw [hUd,hXd,hm]; rfl
     rw [hQ]
     refine cY (ro rfl (eJ A_30 Z_30 (Ht rfl) (i:=1) rfl rfl rfl) (rm rfl (ro rfl (bld_77_0_1 (Ht rfl) (Ht rfl)) (gQ Z_77 (Ht rfl) (Ht rfl) rfl (i:=0) rfl (aK rfl) rfl rfl (ro rfl (cQ (cJ 0)) (eX (T_ret2 rfl (fX (fK A_77 Z_77 rfl (i:=0) rfl rfl) ?_) (fX (eU rfl) ?_))))))))
     ·exact (fun v V h=>by rw [ntZ,ntS,ntQ,okL,okL,okL,if_pos he,if_pos he,if_pos he,hpz]; exact h)
     ·exact (int_of he.symm)
end
end Go.Proofs.YteimkhgiekndjaaGreat
