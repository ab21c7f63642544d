/- What functions of the program compute, proved by walks over their code, and the plain mathematics of it; a part of the proof in the last text. -/
import Derived.Test.YteohomnhncjcnaaGreatP02
set_option linter.unusedVariables false
set_option linter.unusedSimpArgs false
set_option maxRecDepth 100000
set_option maxHeartbeats 4000000
namespace Go.Proofs.YteohomnhncjcnaaGreat
section
open Go Go.RowKit
theorem CR {m n:Nat} (hm:(dg m).length ≤ 17592186044416) (hn:(dg n).length ≤ 17592186044416):aw Tryz.prog 215 [ah m,ah n] (ah (m + n)):=by
 refine aw.intro Tryz.func215 rfl Tryz.ntmps215 rfl (fun cx=>(ts (ro rfl (cQ cV) (eZ (cK (jc (fun (p:Nat) (q:Nat)=>p + q = m + n ∧ (dg q).length ≤ (dg p).length ∧ (dg p).length ≤ 17592186044416) (fun (p:Nat) (q:Nat)=>[(0,ah p),(1,ah q)]) (fun (p:Nat) (q:Nat)=>[]) ?_ (fun p q ⟨hpq,hle,hlp⟩=>?_)))))))
 ·refine ts (rm rfl (ro rfl (dK U_47 (Ht rfl) a7) (rm rfl (ro rfl (dK U_47 (Ht rfl) a7) (ro rfl (gV (Ht rfl) (Ht rfl)) (eZ (dQ (Ht rfl) (fun hb => ?_) (fun hb => ?_))))))))
  ·simp at hb
   refine cY (rm rfl (rm rfl (ra rfl (ra rfl (eZ (au (n,m) ⟨Nat.add_comm _ _,Nat.le_of_lt hb,hn⟩ (zS rfl) aY))))))
  ·simp at hb
   refine cU (au (m,n) ⟨rfl,hb,hm⟩ (zS rfl) aY)
 ·refine ts (rm rfl (ro rfl (dK U_47 (Ht rfl) a7) (ro rfl (dW (Ht rfl) (cJ 1) z6) (rn rfl (ck (T := aN 0) (i := Tryz.t189) V_47 dM rfl rfl (Ht rfl) rfl (fun _ => rfl) trivial (by show 4 * _ ≤ _; omega) zo) fun B19 => (ra rfl (eZ (ts (ro rfl (cQ (cJ 0)) (eZ (cK (ts (rm rfl (ro rfl (dK U_47 (Ht rfl) a7) (ro rfl (cX (cJ 0)) (eZ (eK ?_))))))))))))))))
  refine eB (fun (k : Nat) (out : List Nat) (c : Nat) => pd (dg p) (dg q) out k c) (fun (k : Nat) (out : List Nat) (c : Nat) => (dg p).length - k) (fun (k : Nat) (out : List Nat) (c : Nat) => [(0, ah p), (1, ah q), (5, Is (.slice (some ⟨B19, 0, none⟩) ((dg p).length + 1) ((dg p).length + 1))), (6, aN c), (21, NT .i64 (dg p).length), (22, NT .i64 k)]) (fun (k : Nat) (out : List Nat) (c : Nat) => [box B19 189 (out.map aN)]) 0 (List.replicate ((dg p).length + 1) 0) 0 (pd.start _ _)
   (zS rfl) (aU (a8 (fv _)) aY) (fun k out c hS=>?_)
  refine ts (ro rfl (gV (Ht rfl) (Ht rfl)) (eZ (cK (dQ (Ht rfl) (fun hb=>?_) (fun hb=>?_)))))
  ·simp at hb
   have hlen:=hS.len; have hcl:=hS.cle; have hxk:=az (aI p) k; have hyk:=az (aI q) k
   simp only [BB] at hxk hyk
   refine cU (cK (eK (ts (rm rfl (ra rfl (eZ (ts (ro rfl (cQ (cJ 0)) (eZ (cK (dz (fun (uu:Unit)=>True) (fun (uu:Unit)=>[(0,ah p),(1,ah q),(5,Is (.slice (some ⟨B19,0,none⟩) ((dg p).length + 1) ((dg p).length + 1))),(6,aN c),(7,NT .i64 k),(8,aN ((dg q).getD k 0)),(21,NT .i64 (dg p).length),(22,NT .i64 k)]) (fun (uu:Unit)=>[box B19 189 (out.map aN)]) ?_ (fun uu _=>?_))))))))))))
   ·refine ts (rm rfl (rm rfl (ro rfl (dK U_47 (Ht rfl) a7) (ro rfl (gV (Ht rfl) (Ht rfl)) (eZ (dQ (Ht rfl) (fun hk2 => ?_) (fun hk2 => ?_)))))))
    ·simp at hk2
     refine cY (rm rfl (rm rfl (ro rfl (dZ U_47 Z_189 (Ht rfl) (Ht rfl) rfl (eQ (ai zo))) (ro rfl (dV A_189 Z_189 (Ht rfl)) (ra rfl (eZ (au () trivial (zS rfl) (br.refl _))))))))
    ·simp at hk2
     refine cU (au () trivial (aQ rfl (aQ rfl (aQ rfl (aQ rfl (aQ rfl (aZ rfl (fe (by simp [List.getD,List.getElem?_eq_none hk2])) (zS rfl))))))) (br.refl _))
   ·refine cY (rm rfl (rm rfl (rm rfl (rm rfl (ro rfl (dZ U_47 Z_189 (Ht rfl) (Ht rfl) rfl (eQ (ai zo))) (ro rfl (dV A_189 Z_189 (Ht rfl)) (rm rfl (rm rfl (ro rfl (cZ Tryz.call255 (y4 hxk hyk zo) ⟨(Ht rfl), (Ht rfl), (Ht rfl), trivial⟩) (rm rfl (ro rfl (dU (Ht rfl) rfl) (ro rfl (dU (Ht rfl) rfl) (ro rfl (gX U_47 Z_189 (Ht rfl) (Ht rfl) rfl zo (by rw [Nat.mul_one, Nat.zero_add])) ?_)))))))))))))
    refine dI Z_189 (Ht rfl) (Ht rfl) (i:=0) rfl (by first | omega | (simp; omega)) rfl (ra rfl (eZ (aB (cY (ro rfl (dW (Ht rfl) (cJ 1) z6) (rm rfl (eZ (gQ (k + 1,_,_) (hS.next (aI p) (aI q) hb) (by dsimp only; omega) (zS rfl) (aU (a8 (ct _ _ _)) aY)))))))))
  ·simp at hb
   have hkl:k = (dg p).length:=Nat.le_antisymm hS.kle hb
   subst hkl
   have hlen:=hS.len; have hcl:=hS.cle
   refine gK rfl (ts (rm rfl (rm rfl (ro rfl (dK U_47 (Ht rfl) a7) (rm rfl (ro rfl (gX U_47 Z_189 (Ht rfl) (Ht rfl) rfl zo (by rw [Nat.mul_one,Nat.zero_add])) ?_))))))
   refine dI Z_189 (Ht rfl) (Ht rfl) (i:=0) rfl (by first | omega | (simp; omega)) rfl (eZ (cK ?_))
   have hfin:=hS.fin hle
   refine gG (i:=0) (tt:=5) rfl rfl (fM (ct _ _ _) (by simp [hlen]) (Nat.le_refl _)) ?_
   refine cY (rm rfl (ro rfl (cZ K_221 (jb _ (eg hS.dig (by simp only [BB]; omega)) (by simp [hlen]; omega)) ⟨(Ht rfl),trivial⟩) ?_))
   refine ra rfl (eZ (fK rfl (fJ (eY rfl) ?_)))
   exact (bd (by rw [hfin,bf,bf]; exact hpq))
theorem AK {m n:Nat} (hm:(dg m).length ≤ 17592186044416) (hnm:n ≤ m):aw Tryz.prog 217 [ah m,ah n] (ah (m - n)):=by
 have hle:=cT hnm
 refine aw.intro Tryz.func217 rfl Tryz.ntmps217 rfl (fun cx=>(ts (ro rfl (cQ cV) (eZ (ts (rm rfl (ro rfl (dK U_47 (Ht rfl) a7) (rn rfl (ck (T:=aN 0) (i:=Tryz.t189) V_47 dM rfl rfl (Ht rfl) rfl (fun _=>rfl) trivial (by show 4 * _ ≤ _; omega) zo) fun B11=>(ra rfl (eZ (ts (ro rfl (cQ (cJ 0)) (eZ (cK (ts (rm rfl (ro rfl (dK U_47 (Ht rfl) a7) (ro rfl (cX (cJ 0)) (eZ (eK ?_))))))))))))))))))))
 refine eB (fun (k : Nat) (out : List Nat) (c : Nat) => pg (dg m) (dg n) out k c) (fun (k : Nat) (out : List Nat) (c : Nat) => (dg m).length - k) (fun (k : Nat) (out : List Nat) (c : Nat) => [(0, ah m), (1, ah n), (5, Is (.slice (some ⟨B11, 0, none⟩) (dg m).length (dg m).length)), (6, aN c), (13, NT .i64 (dg m).length), (14, NT .i64 k)]) (fun (k : Nat) (out : List Nat) (c : Nat) => [box B11 189 (out.map aN)]) 0 (List.replicate (dg m).length 0) 0 (pg.start _ _)
  (zS rfl) (aU (a8 (fv _)) aY) (fun k out c hS=>?_)
 refine ts (ro rfl (gV (Ht rfl) (Ht rfl)) (eZ (cK (dQ (Ht rfl) (fun hb=>?_) (fun hb=>?_)))))
 ·simp at hb
  have hlen:=hS.len; have hcl:=hS.cle; have hxk:=az (aI m) k; have hyk:=az (aI n) k
  simp only [BB] at hxk hyk
  refine cU (cK (eK (ts (rm rfl (ra rfl (eZ (ts (ro rfl (cQ (cJ 0)) (eZ (cK (dz (fun (uu:Unit)=>True) (fun (uu:Unit)=>[(0,ah m),(1,ah n),(5,Is (.slice (some ⟨B11,0,none⟩) (dg m).length (dg m).length)),(6,aN c),(7,NT .i64 k),(8,aN ((dg n).getD k 0)),(13,NT .i64 (dg m).length),(14,NT .i64 k)]) (fun (uu:Unit)=>[box B11 189 (out.map aN)]) ?_ (fun uu _=>?_))))))))))))
  ·refine ts (rm rfl (rm rfl (ro rfl (dK U_47 (Ht rfl) a7) (ro rfl (gV (Ht rfl) (Ht rfl)) (eZ (dQ (Ht rfl) (fun hk2 => ?_) (fun hk2 => ?_)))))))
   ·simp at hk2
    refine cY (rm rfl (rm rfl (ro rfl (dZ U_47 Z_189 (Ht rfl) (Ht rfl) rfl (eQ (ai zo))) (ro rfl (dV A_189 Z_189 (Ht rfl)) (ra rfl (eZ (au () trivial (zS rfl) (br.refl _))))))))
   ·simp at hk2
    refine cU (au () trivial (aQ rfl (aQ rfl (aQ rfl (aQ rfl (aQ rfl (aZ rfl (fe (by simp [List.getD,List.getElem?_eq_none hk2])) (zS rfl))))))) (br.refl _))
  ·refine cY (rm rfl (rm rfl (rm rfl (rm rfl (ro rfl (dZ U_47 Z_189 (Ht rfl) (Ht rfl) rfl (eQ (ai zo))) (ro rfl (dV A_189 Z_189 (Ht rfl)) (rm rfl (rm rfl (ro rfl (cZ Tryz.call256 (yA hxk hyk zo) ⟨(Ht rfl), (Ht rfl), (Ht rfl), trivial⟩) (rm rfl (ro rfl (dU (Ht rfl) rfl) (ro rfl (dU (Ht rfl) rfl) (ro rfl (gX U_47 Z_189 (Ht rfl) (Ht rfl) rfl zo (by rw [Nat.mul_one, Nat.zero_add])) ?_)))))))))))))
   refine dI Z_189 (Ht rfl) (Ht rfl) (i:=0) rfl (by first | omega | (simp; omega)) rfl (ra rfl (eZ (aB (cY (ro rfl (dW (Ht rfl) (cJ 1) z6) (rm rfl (eZ (gQ (k + 1,_,_) (hS.next (aI m) (aI n) hb) (by dsimp only; omega) (zS rfl) (aU (a8 (ct _ _ _)) aY)))))))))
 ·simp at hb
  have hkl:k = (dg m).length:=Nat.le_antisymm hS.kle hb
  subst hkl
  have hlen:=hS.len
  have hfin:=hS.fin (aI m) hle (by rw [bf,bf]; exact hnm)
  rw [bf,bf] at hfin
  refine gK rfl (gG (i:=0) (tt:=5) rfl rfl (fM rfl hlen.symm (Nat.le_refl _)) (ts (rm rfl (ro rfl (cZ K_221 (jb _ hS.dig zo) ⟨(Ht rfl),trivial⟩) (ra rfl (eZ (fK rfl (fJ (eY rfl) ?_))))))))
  exact (bd hfin)
theorem qE {m n:Nat} (hm:(dg m).length ≤ 17592186044416) (hn:(dg n).length ≤ 17592186044416):aw Tryz.prog 138 [ah m,ah n] (ah (m * n)):=by
 refine aw.intro Tryz.func138 rfl Tryz.ntmps138 rfl (fun cx=>(ts (ro rfl (cQ cV) (eZ (cK (ts (rm rfl (ro rfl (dK U_47 (Ht rfl) a7) (ro rfl (aO (Ht rfl) (cJ 0)) (rm rfl (fX rfl rfl (eU rfl rfl (Ht rfl) (fun h=>cX (Ht rfl))) (fX rfl rfl (eU rfl rfl (Ht rfl) (fun h=>dK U_47 (fW rfl h) a7)) (fX rfl rfl (eU rfl rfl (Ht rfl) (fun h=>aO (fW rfl h) (cJ 0))) (ro rfl (eP (Ht rfl) (fun h=>(fW rfl h))) (eZ (dQ (Ht rfl) (fun hb=>?_) (fun hb=>?_)))))))))))))))))
 ·simp [al] at hb
  have h0 : m * n = 0 := by
   rcases hb with h | h <;> simp_all [iG]
  refine ts (ro rfl (cQ cV) (eZ (fK rfl (fJ (eY rfl) ?_))))
  exact (fun v V h=>by rw [h0]; exact et v V h)
 ·clear hb
  refine cU (ts (rm rfl (ro rfl (dK U_47 (Ht rfl) a7) (rm rfl (ro rfl (dK U_47 (Ht rfl) a7) (ro rfl (dW (Ht rfl) (Ht rfl) z6) (rn rfl (ck (T:=aN 0) (i:=Tryz.t189) V_47 dM rfl rfl (Ht rfl) rfl (fun _=>rfl) trivial (by show 4 * _ ≤ _; omega) zo) fun B24=>(ra rfl (eZ (cK (ts (rm rfl (ro rfl (dK U_47 (Ht rfl) a7) (ro rfl (cX (cJ 0)) (eZ (eK ?_))))))))))))))))
  refine ci (fun (i : Nat) (out : List Nat) => pC (dg m) (dg n) out i) (fun (i : Nat) (out : List Nat) => (dg m).length - i) (fun (i : Nat) (out : List Nat) => [(0, ah m), (1, ah n), (5, Is (.slice (some ⟨B24, 0, none⟩) ((dg m).length + (dg n).length) ((dg m).length + (dg n).length))), (25, ah m), (26, NT .i64 (dg m).length), (27, NT .i64 i)]) (fun (i : Nat) (out : List Nat) => [box B24 189 (out.map aN)]) 0 (List.replicate ((dg m).length + (dg n).length) 0) (pC.start _ _)
   (zS rfl) (aU (a8 (fv _)) aY) (fun i out hS=>?_)
  refine ts (ro rfl (gV (Ht rfl) (Ht rfl)) (eZ (cK (dQ (Ht rfl) (fun hb=>?_) (fun hb=>?_)))))
  ·simp at hb
   have hxi:=az (aI m) i
   simp only [BB] at hxi
   refine cU (cK (eK (ts (rm rfl (ro rfl (dZ U_47 Z_189 (Ht rfl) (Ht rfl) rfl (eQ (ai zo))) (ro rfl (dV A_189 Z_189 (Ht rfl)) (ra rfl (ra rfl (eZ (ts (ro rfl (cQ (cJ 0)) (eZ (cK (ts (rm rfl (ro rfl (dK U_47 (Ht rfl) a7) (ro rfl (cX (cJ 0)) (eZ (eK ?_)))))))))))))))))))
   refine eB (fun (k : Nat) (out2 : List Nat) (c : Nat) => su (dg m) (dg n) out2 i k c) (fun (k : Nat) (out2 : List Nat) (c : Nat) => (dg n).length - k) (fun (k : Nat) (out2 : List Nat) (c : Nat) => [(0, ah m), (1, ah n), (5, Is (.slice (some ⟨B24, 0, none⟩) ((dg m).length + (dg n).length) ((dg m).length + (dg n).length))), (6, NT .i64 i), (7, aN ((dg m).getD i 0)), (8, NT .u64 c), (25, ah m), (26, NT .i64 (dg m).length), (27, NT .i64 i), (32, ah n), (33, NT .i64 (dg n).length), (34, NT .i64 k)]) (fun (k : Nat) (out2 : List Nat) (c : Nat) => [box B24 189 (out2.map aN)]) 0 out 0 (hS.row hb)
    (zS rfl) (br.refl _) (fun k out2 c hR=>?_)
   refine ts (ro rfl (gV (Ht rfl) (Ht rfl)) (eZ (cK (dQ (Ht rfl) (fun hk=>?_) (fun hk=>?_)))))
   ·simp at hk
    have hlen:=hR.len; have hcl:=hR.clt; have hyk:=az (aI n) k; have hok:=az hR.dig (i + k)
    have hbnd:=lO (az (aI m) i) (az (aI n) k) (az hR.dig (i + k)) hR.clt
    simp only [BB] at hcl hyk hok hbnd
    refine cU (cK (eK (ts (rm rfl (ro rfl (dZ U_47 Z_189 (Ht rfl) (Ht rfl) rfl (eQ (ai zo))) (ro rfl (dV A_189 Z_189 (Ht rfl)) (ra rfl (ra rfl (eZ (ts (rm rfl (rm rfl (ro rfl (gW U_189 U_254 (Ht rfl) z7) (rm rfl (ro rfl (gW U_189 U_254 (Ht rfl) z7) (ro rfl (eC (Ht rfl) (Ht rfl) (by show _ < 18446744073709551616; omega)) ?_))))))))))))))))
    refine rm rfl (rm rfl (rm rfl (ro rfl (dW (Ht rfl) (Ht rfl) z6) (ro rfl (gX U_47 Z_189 (Ht rfl) (Ht rfl) rfl zo (by rw [Nat.mul_one,Nat.zero_add])) ?_))))
    refine ro rfl (fQ A_189 Z_189 (Ht rfl) (i:=0) rfl (eQ (ai zo))) (ro rfl (gW U_189 U_254 (Ht rfl) z7) (ro rfl (dW (Ht rfl) (Ht rfl) z7) (ro rfl (dW (Ht rfl) (Ht rfl) z7) (ra rfl (eZ (ts (rm rfl (rm rfl (rm rfl (ro rfl (dW (Ht rfl) (Ht rfl) z6) ?_))))))))))
    refine rm rfl (ro rfl (cu rfl U_254 U_189 (Ht rfl)) (ro rfl (gX U_47 Z_189 (Ht rfl) (Ht rfl) rfl zo (by rw [Nat.mul_one,Nat.zero_add])) ?_))
    refine dI Z_189 (Ht rfl) (Ht rfl) (i:=0) rfl (by first | omega | (simp; omega)) rfl (eZ (cY (rm rfl (ro rfl (c5 (Ht rfl) (cJ 32) (by decide)) (ra rfl (eZ (aB (cY (ro rfl (dW (Ht rfl) (cJ 1) z6) (rm rfl (eZ (gQ (k + 1,_,_) (hR.next (aI m) (aI n) hk rfl) (by dsimp only; omega) (zS rfl) (aU (a8 (ct _ _ _)) aY)))))))))))))
   ·simp at hk
    have hkl:k = (dg n).length:=Nat.le_antisymm hR.kle hk
    subst hkl
    have hlen:=hR.len; have hcl:=hR.clt
    simp only [BB] at hcl
    refine gK rfl (cY (rm rfl (rm rfl (rm rfl (ro rfl (dK U_47 (Ht rfl) a7) (ro rfl (dW (Ht rfl) (Ht rfl) z6) (rm rfl (ro rfl (gW U_254 U_189 (Ht rfl) (by show _ < 4294967296; first | omega | (simp only [f9]; omega))) (ro rfl (gX U_47 Z_189 (Ht rfl) (Ht rfl) rfl zo (by rw [Nat.mul_one,Nat.zero_add])) ?_)))))))))
    refine dI Z_189 (Ht rfl) (Ht rfl) (i:=0) rfl (by first | omega | (simp; omega)) rfl (eZ (aB (cY (ro rfl (dW (Ht rfl) (cJ 1) z6) (rm rfl (eZ (gQ (i + 1,_) (hR.fin) (by dsimp only; omega) (zS rfl) (aU (a8 (ct _ _ _)) aY))))))))
  ·simp at hb
   have hkl:i = (dg m).length:=Nat.le_antisymm hS.ile hb
   subst hkl
   have hlen:=hS.len
   have hfin:=hS.fin
   rw [bf,bf] at hfin
   refine gK rfl (gG (i:=0) (tt:=5) rfl rfl (fM rfl hlen.symm (Nat.le_refl _)) (ts (rm rfl (ro rfl (cZ K_221 (jb _ hS.dig zo) ⟨(Ht rfl),trivial⟩) (ra rfl (eZ (fK rfl (fJ (eY rfl) ?_))))))))
   exact (bd hfin)
end
section
open Go Go.RowKit
theorem yl {v:Nat} (hv:v < 4294967296):aw Tryz.prog 280 [aN v] (NT .i64 (bl v)):=by
 refine aw.intro Tryz.func280 rfl Tryz.ntmps280 rfl (fun cx=>(ts (ro rfl (cQ (cJ 0)) (eZ (cK (jc (fun (q:Nat) (x:Nat)=>bl v = q + bl x ∧ x < 65536 ∧ q ≤ 16) (fun (q:Nat) (x:Nat)=>[(0,aN x),(2,NT .i64 q)]) (fun (q:Nat) (x:Nat)=>[]) ?_ (fun q x ⟨hq1,hq2,hq3⟩=>?_)))))))
 ·refine ts (rm rfl (ro rfl (g6 (Ht rfl) (cJ 65536)) (eZ (dQ (Ht rfl) (fun hb => ?_) (fun hb => ?_)))))
  ·simp at hb
   refine ts (rm rfl (ro rfl (c5 (Ht rfl) (cJ 16) (by decide)) (ra rfl (eZ (cY (ro rfl (cQ (cJ 16)) (eZ (au (16,v / 2 ^ 16) ⟨DS hb,by dsimp only; omega,Nat.le_refl _⟩ (zS rfl) aY))))))))
  ·simp at hb
   refine cU (au (0,v) ⟨(Nat.zero_add _).symm,hb,by dsimp only; omega⟩ (zS rfl) aY)
 ·refine cK (jc (fun (r : Nat) (z : Nat) => bl v = r + bl z ∧ z < 256 ∧ r ≤ 24) (fun (r : Nat) (z : Nat) => [(0, aN z), (2, NT .i64 r)]) (fun (r : Nat) (z : Nat) => []) ?_ (fun r z ⟨hr1, hr2, hr3⟩ => ?_))
  ·refine ts (rm rfl (ro rfl (g6 (Ht rfl) (cJ 256)) (eZ (dQ (Ht rfl) (fun hb => ?_) (fun hb => ?_)))))
   ·simp at hb
    refine ts (rm rfl (ro rfl (c5 (Ht rfl) (cJ 8) (by decide)) (ra rfl (eZ (cY (rm rfl (ro rfl (dW (Ht rfl) (cJ 8) z6) (ra rfl (eZ (au (q + 8,x / 2 ^ 8) ⟨by have:=Ek hb; dsimp only; omega,by dsimp only; omega,by dsimp only; omega⟩ (zS rfl) aY))))))))))
   ·simp at hb
    refine cU (au (q,x) ⟨hq1,hb,by dsimp only; omega⟩ (zS rfl) aY)
  ·have hbl := gh (k := 8) hr2
   refine ts (rm rfl (rm rfl (ro rfl (gW U_189 U_5 (Ht rfl) (by show _ < 256; first | omega | (simp only [f9]; omega))) (ro rfl (yP Tryz.runUnderlying9 cV (Ht rfl) (DX hr2 (by kernel_rfl))) (ro rfl (gW U_5 U_3 (Ht rfl) z6) (ro rfl (dW (Ht rfl) (Ht rfl) z6) (ra rfl (eZ (fK rfl (fJ (eY rfl) ?_))))))))))
   exact (fe zo)
theorem Bw {v:Nat} (hv:v < 4294967296):aw Tryz.prog 258 [aN v] (NT .i64 (32 - bl v)):=by
 refine aw.intro Tryz.func258 rfl Tryz.ntmps258 rfl (fun cx=>(ts (ro rfl (cQ (cJ 0)) (eZ (ts (rm rfl (ro rfl (cZ Tryz.call280 (yl hv) ⟨(Ht rfl),trivial⟩) (ro rfl (dG (cJ 32) (Ht rfl) (gh hv) z6) (ra rfl (eZ ?_))))))))))
 exact fK rfl (eY rfl)
theorem yC {hi lo y:Nat} (hy:hi < y) (hl:lo < BB) (hyb:y < BB):aw Tryz.prog 279 [aN hi,aN lo,aN y] (bo [aN ((hi * BB + lo) / y),aN ((hi * BB + lo) % y)]):=by
 have hq:=oy hy hl; have hm:=Nat.mod_lt (hi * BB + lo) (by omega:y > 0); have hz:hi * BB + lo < 18446744073709551616:=by simp only [BB] at *; omega
 have hsh : hi * 2 ^ 32 < 18446744073709551616 := by
  have h1:hi < BB:=by omega
  show hi * BB < _
  simp only [BB] at h1 ⊢; omega
 refine aw.intro Tryz.func279 rfl Tryz.ntmps279 rfl (fun cx=>(ts (ro rfl (cQ (cJ 0)) (ro rfl (cQ (cJ 0)) (eZ (cK (ts (rm rfl (ro rfl (db (Ht rfl) (cJ 0)) (rm rfl (fX rfl rfl (eU rfl rfl (Ht rfl) (fun h=>cX (Ht rfl))) (fX rfl rfl (eU rfl rfl (Ht rfl) (fun h=>cX (Ht rfl))) (fX rfl rfl (eU rfl rfl (Ht rfl) (fun h=>kR (fW rfl h) (fW rfl h))) (ro rfl (bx (Ht rfl) (fun h=>(fW rfl h))) (eZ (cb (Ht rfl) (by simp; omega) ?_))))))))))))))))
 have hl2:lo < 18446744073709551616:=by simp only [BB] at hl; omega
 have hy2:y < 18446744073709551616:=by simp only [BB] at hyb; omega
 refine cU (ts (rm rfl (ro rfl (gW U_189 U_254 (Ht rfl) (by show _ < 18446744073709551616; simp only [BB] at *; omega)) (ro rfl (g0 (Ht rfl) (cJ 32) (by decide) hsh) (rm rfl (ro rfl (gW U_189 U_254 (Ht rfl) (by show _ < 18446744073709551616; simp only [BB] at *; omega)) (ro rfl (ae.nat (ic rfl (Ht rfl) (Ht rfl) z7 z7) (kD hl)) (ra rfl (eZ ?_)))))))))
 refine cK (fV (m:=11) (dp 8 rfl (cX (Ht rfl)) (dp 2 rfl (cX (Ht rfl)) (dq 24 1 rfl (gW U_189 U_254 (Ht rfl) (by show _ < 18446744073709551616; simp only [BB] at *; omega)) (bv 23 0 25 2 rfl (dr (Ht rfl) (Ht rfl) zo (by show _ < 18446744073709551616; exact hz)) (dq 26 3 rfl (gW U_254 U_189 (Ht rfl) (by show _ < 4294967296; exact hq)) (dp 8 rfl (cX (Ht rfl)) (dp 2 rfl (cX (Ht rfl)) (dq 29 6 rfl (gW U_189 U_254 (Ht rfl) (by show _ < 18446744073709551616; simp only [BB] at *; omega)) ?_)))))))))
 refine bv 28 5 30 7 rfl (eD (Ht rfl) (Ht rfl) zo) (dq 31 8 rfl (gW U_254 U_189 (Ht rfl) (by show _ < 4294967296; simp only [BB] at *; omega)) (dq 27 4 rfl (cQ (Ht rfl)) (fG aA rfl (by kernel_rfl) (zF (zF (aJ (aJ (aJ (aV (ra rfl (eZ ?_)))))))))))
 exact aC rfl (eY rfl) (eY rfl)
theorem AD {m k:Nat} (hm:(dg m).length ≤ 17592186044416) (hk:k ≤ 562949953421312):aw Tryz.prog 259 [ah m,NT .i64 k] (ah (m * 2 ^ k)):=by
 refine aw.intro Tryz.func259 rfl Tryz.ntmps259 rfl (fun cx=>(ts (ro rfl (cQ cV) (eZ (cK (ts (rm rfl (ro rfl (dK U_47 (Ht rfl) a7) (ro rfl (aO (Ht rfl) (cJ 0)) (rm rfl (fX rfl rfl (eU rfl rfl (Ht rfl) (fun h=>cX (Ht rfl))) (fX rfl rfl (eU rfl rfl (Ht rfl) (fun h=>aO (fW rfl h) (cJ 0))) (ro rfl (eP (Ht rfl) (fun h=>(fW rfl h))) (eZ (dQ (Ht rfl) (fun hb=>?_) (fun hb=>?_))))))))))))))))
 ·simp [al] at hb
  have h0 : m * 2 ^ k = m := by
   rcases hb with h | h
   ·simp_all [iG]
   ·rw [h,Nat.pow_zero,Nat.mul_one]
  refine ts (rm rfl (ra rfl (eZ (fK rfl (fJ (eY rfl) ?_)))))
  exact (bd h0.symm)
 ·clear hb
  have hr:=Nat.mod_lt k (by decide:32 > 0)
  refine cU (ts (rm rfl (ro rfl (dr (Ht rfl) (cJ 32) zo z6) (rm rfl (ro rfl (eD (Ht rfl) (cJ 32) zo) (ro rfl (gW U_3 U_255 (Ht rfl) z7) (ra rfl (ra rfl (eZ (ts (rm rfl (ro rfl (dK U_47 (Ht rfl) a7) (rm rfl (ro rfl (dW (Ht rfl) (Ht rfl) z6) (ro rfl (dW (Ht rfl) (cJ 1) z6) ?_)))))))))))))))
  refine rn rfl (ck (T:=aN 0) (i:=Tryz.t189) V_47 dM rfl rfl (Ht rfl) rfl (fun _=>rfl) trivial (by show 4 * _ ≤ _; omega) zo) fun B29=>ra rfl (eZ (cK (ts (rm rfl (ro rfl (dK U_47 (Ht rfl) a7) (ro rfl (cX (cJ 0)) (eZ (eK ?_))))))))
  refine ci (fun (i : Nat) (out : List Nat) => mJ (dg m) (k / 32) (k % 32) out i) (fun (i : Nat) (out : List Nat) => (dg m).length - i) (fun (i : Nat) (out : List Nat) => [(5, NT .i64 (k / 32)), (6, NT .u64 (k % 32)), (7, Is (.slice (some ⟨B29, 0, none⟩) ((dg m).length + k / 32 + 1) ((dg m).length + k / 32 + 1))), (30, ah m), (31, NT .i64 (dg m).length), (32, NT .i64 i)]) (fun (i : Nat) (out : List Nat) => [box B29 189 (out.map aN)]) 0 (List.replicate ((dg m).length + k / 32 + 1) 0) (mJ.start _ _ _)
   (zS rfl) (aU (a8 (fv _)) aY) (fun i out hS=>?_)
  refine ts (ro rfl (gV (Ht rfl) (Ht rfl)) (eZ (cK (dQ (Ht rfl) (fun hb=>?_) (fun hb=>?_)))))
  ·simp at hb
   have hlen:=hS.len; have hxi:=az (aI m) i; have hok:=az hS.dig (i + k / 32)
   have hv:=oh hxi hr
   have hd:(dg m).getD i 0 * 2 ^ (k % 32) / 2 ^ 32 < 4294967296:=Nat.div_lt_of_lt_mul hv
   simp only [BB] at hxi hok
   refine cU (cK (eK (ts (rm rfl (ro rfl (dZ U_47 Z_189 (Ht rfl) (Ht rfl) rfl (eQ (ai zo))) (ro rfl (dV A_189 Z_189 (Ht rfl)) (ra rfl (ra rfl (eZ (ts (rm rfl (ro rfl (gW U_189 U_254 (Ht rfl) z7) (rm rfl (ro rfl (g0 (Ht rfl) (Ht rfl) (by show _ ≤ _; simp [IntKind.bits]; omega) (by show _ < 18446744073709551616; exact hv)) (ra rfl (eZ (ts (rm rfl (rm rfl (rm rfl (ro rfl (dW (Ht rfl) (Ht rfl) z6) ?_)))))))))))))))))))))
   refine ro rfl (gX U_47 Z_189 (Ht rfl) (Ht rfl) rfl zo (by rw [Nat.mul_one,Nat.zero_add])) ?_
   refine ro rfl (fQ A_189 Z_189 (Ht rfl) (i:=0) rfl (eQ (ai zo))) (rm rfl (ro rfl (cu rfl U_254 U_189 (Ht rfl)) (ro rfl (ic rfl (Ht rfl) (Ht rfl) (by show _ < 4294967296; omega) (by show _ % 4294967296 < 4294967296; omega)) (ro rfl (gX U_47 Z_189 (Ht rfl) (Ht rfl) rfl zo (by rw [Nat.mul_one,Nat.zero_add])) ?_))))
   refine dI Z_189 (Ht rfl) (Ht rfl) (i:=0) rfl (by first | omega | (simp; omega)) rfl (eZ (cY (rm rfl (rm rfl (rm rfl (ro rfl (dW (Ht rfl) (Ht rfl) z6) (ro rfl (dW (Ht rfl) (cJ 1) z6) (rm rfl (ro rfl (c5 (Ht rfl) (cJ 32) (by decide)) (ro rfl (gW U_254 U_189 (Ht rfl) (by show _ < 4294967296; exact hd)) (ro rfl (gX U_47 Z_189 (Ht rfl) (Ht rfl) rfl zo (by rw [Nat.mul_one,Nat.zero_add])) ?_)))))))))))
   refine dI Z_189 (Ht rfl) (Ht rfl) (i:=0) rfl (by first | omega | (simp; omega)) rfl (eZ (aB (cY (ro rfl (dW (Ht rfl) (cJ 1) z6) (rm rfl (eZ (gQ (i + 1,_) (hS.next (aI m) hr hb rfl rfl) (by dsimp only; omega) (zS rfl) (aU (a8 (qf _ _ _ _ _)) aY))))))))
  ·simp at hb
   have hkl:i = (dg m).length:=Nat.le_antisymm hS.kle hb
   subst hkl
   have hlen:=hS.len
   have hfin:=hS.fin
   rw [bf,fb] at hfin
   refine gK rfl (gG (i:=0) (tt:=7) rfl rfl (fM rfl hlen.symm (Nat.le_refl _)) (ts (rm rfl (ro rfl (cZ K_221 (jb _ hS.dig zo) ⟨(Ht rfl),trivial⟩) (ra rfl (eZ (fK rfl (fJ (eY rfl) ?_))))))))
   exact (bd hfin)
theorem D8 {m k:Nat} (hm:(dg m).length ≤ 17592186044416) (hk:k ≤ 562949953421312):aw Tryz.prog 261 [ah m,NT .i64 k] (ah (m / 2 ^ k)):=by
 refine aw.intro Tryz.func261 rfl Tryz.ntmps261 rfl (fun cx=>?_)
 have hr:=Nat.mod_lt k (by decide:32 > 0)
 refine ts (ro rfl (cQ cV) (eZ (ts (rm rfl (ro rfl (dr (Ht rfl) (cJ 32) zo z6) (rm rfl (ro rfl (eD (Ht rfl) (cJ 32) zo) (ro rfl (gW U_3 U_255 (Ht rfl) z7) (ra rfl (ra rfl (eZ (cK (ts (rm rfl (rm rfl (ro rfl (dK U_47 (Ht rfl) a7) (ro rfl (g6 (Ht rfl) (Ht rfl)) (eZ (dQ (Ht rfl) (fun hb=>?_) (fun hb=>?_))))))))))))))))))))
 ·simp at hb
  have h0:=qk (aI m) hb (r:=k % 32)
  rw [bf,fb] at h0
  refine ts (ro rfl (cQ cV) (eZ (fK rfl (fJ (eY rfl) ?_))))
  exact (fun v V h=>bd h0.symm v V (et v V h))
 ·simp at hb
  refine cU (ts (rm rfl (ro rfl (dK U_47 (Ht rfl) a7) (rm rfl (ro rfl (dG (Ht rfl) (Ht rfl) zo z6) (rn rfl (ck (T:=aN 0) (i:=Tryz.t189) V_47 dM rfl rfl (Ht rfl) rfl (fun _=>rfl) trivial (by show 4 * _ ≤ _; omega) zo) fun B23=>(ra rfl (eZ (cK (ts (rm rfl (ro rfl (dS U_47 (Ht rfl)) (ro rfl (cX (cJ 0)) (eZ (eK ?_)))))))))))))))
  refine ci (fun (i : Nat) (out : List Nat) => no (dg m) (k / 32) (k % 32) out i) (fun (i : Nat) (out : List Nat) => (dg m).length - i) (fun (i : Nat) (out : List Nat) => [(0, ah m), (5, NT .i64 (k / 32)), (6, NT .u64 (k % 32)), (7, Is (.slice (some ⟨B23, 0, none⟩) ((dg m).length - k / 32) ((dg m).length - k / 32))), (25, NT .i64 ((dg m).length - k / 32 : Nat)), (26, NT .i64 i)]) (fun (i : Nat) (out : List Nat) => [box B23 189 (out.map aN)]) 0 (List.replicate ((dg m).length - k / 32) 0) (no.start _ _ _)
   (zS rfl) (aU (a8 (fv _)) aY) (fun i out hS=>?_)
  refine ts (ro rfl (gV (Ht rfl) (Ht rfl)) (eZ (cK (dQ (Ht rfl) (fun hb=>?_) (fun hb=>?_)))))
  ·simp at hb
   have hlen:=hS.len; have hx0:=az (aI m) (i + k / 32); have hx1:=az (aI m) (i + k / 32 + 1)
   have hio:i < out.length:=by omega
   simp only [BB] at hx0 hx1
   refine cU (cK (eK (ts (rm rfl (ra rfl (eZ (ts (rm rfl (rm rfl (rm rfl (ro rfl (dW (Ht rfl) (Ht rfl) z6) (ro rfl (dZ U_47 Z_189 (Ht rfl) (Ht rfl) rfl (eQ (ai zo))) (ro rfl (dV A_189 Z_189 (Ht rfl)) (ro rfl (gW U_189 U_254 (Ht rfl) z7) (ra rfl (eZ (cK (dz (fun (v:Nat)=>v = (dg m).getD (i + k / 32) 0 + BB * (dg m).getD (i + k / 32 + 1) 0) (fun (v:Nat)=>[(0,ah m),(5,NT .i64 (k / 32)),(6,NT .u64 (k % 32)),(7,Is (.slice (some ⟨B23,0,none⟩) ((dg m).length - k / 32) ((dg m).length - k / 32))),(8,NT .i64 i),(9,NT .u64 v),(25,NT .i64 ((dg m).length - k / 32:Nat)),(26,NT .i64 i)]) (fun (v:Nat)=>[box B23 189 (out.map aN)]) ?_ (fun v hv=>?_)))))))))))))))))))
   ·refine ts (rm rfl (rm rfl (ro rfl (dW (Ht rfl) (Ht rfl) z6) (ro rfl (dW (Ht rfl) (cJ 1) z6) (rm rfl (ro rfl (dK U_47 (Ht rfl) a7) (ro rfl (gV (Ht rfl) (Ht rfl)) (eZ (dQ (Ht rfl) (fun hk2 => ?_) (fun hk2 => ?_))))))))))
    ·simp at hk2
     refine cY (rm rfl (rm rfl (rm rfl (rm rfl (ro rfl (dW (Ht rfl) (Ht rfl) z6) (ro rfl (dW (Ht rfl) (cJ 1) z6) (ro rfl (dZ U_47 Z_189 (Ht rfl) (Ht rfl) rfl (eQ (ai zo))) (ro rfl (dV A_189 Z_189 (Ht rfl)) (ro rfl (gW U_189 U_254 (Ht rfl) z7) (ro rfl (g0 (Ht rfl) (cJ 32) (by decide) (by show _ < 18446744073709551616; omega)) ?_))))))))))
     refine ro rfl (ae.nat (ic rfl (Ht rfl) (Ht rfl) z7 z7) (sL hx0)) (ra rfl (eZ (au ((dg m).getD (i + k / 32) 0 + BB * (dg m).getD (i + k / 32 + 1) 0) rfl (zS rfl) (br.refl _))))
    ·simp at hk2
     refine cU (au ((dg m).getD (i + k / 32) 0) (by simp [List.getD,List.getElem?_eq_none hk2]) (zS rfl) (br.refl _))
   ·refine cY (rm rfl (rm rfl (rm rfl (rm rfl (ro rfl (c5 (Ht rfl) (Ht rfl) (by show _ ≤ 64; omega)) (ro rfl (cu rfl U_254 U_189 (Ht rfl)) (ro rfl (gX U_47 Z_189 (Ht rfl) (Ht rfl) rfl zo (by rw [Nat.mul_one, Nat.zero_add])) ?_)))))))
    refine dI Z_189 (Ht rfl) (Ht rfl) (i:=0) rfl (by first | omega | (simp; omega)) rfl (eZ (aB (cY (ro rfl (dW (Ht rfl) (cJ 1) z6) (rm rfl (eZ (gQ (i + 1,_) (hS.next (aI m) hr hio (by rw [hv]; rfl)) (by dsimp only; omega) (zS rfl) (aU (a8 (ct _ _ _)) aY))))))))
  ·simp at hb
   have hlen:=hS.len
   have hkl:i = out.length:=Nat.le_antisymm hS.kle zo
   subst hkl
   have hfin:=hS.fin (aI m) zo
   rw [bf,fb] at hfin
   refine gK rfl (gG (i:=0) (tt:=7) rfl rfl (fM rfl hlen.symm (Nat.le_refl _)) (ts (rm rfl (ro rfl (cZ K_221 (jb _ hS.dig zo) ⟨(Ht rfl),trivial⟩) (ra rfl (eZ (fK rfl (fJ (eY rfl) ?_))))))))
   exact (bd hfin)
theorem tX {m y:Nat} (hm:(dg m).length ≤ 17592186044416) (hy:0 < y) (hyb:y < BB):aw Tryz.prog 257 [ah m,aN y] (bo [ah (m / y),aN (m % y)]):=by
 refine aw.intro Tryz.func257 rfl Tryz.ntmps257 rfl (fun cx=>(ts (ro rfl (cQ cV) (ro rfl (cQ (cJ 0)) (eZ (ts (rm rfl (ro rfl (dK U_47 (Ht rfl) a7) (rn rfl (ck (T:=aN 0) (i:=Tryz.t189) V_47 dM rfl rfl (Ht rfl) rfl (fun _=>rfl) trivial (by show 4 * _ ≤ _; omega) zo) fun B11=>(ra rfl (eZ (ts (ro rfl (cQ (cJ 0)) (eZ (cK (ts (rm rfl (ro rfl (dK U_47 (Ht rfl) a7) (ro rfl (cq (Ht rfl) cV (kq zo)) (ra rfl (eZ (eK ?_))))))))))))))))))))))
 refine eB (fun (k : Nat) (out : List Nat) (r : Nat) => ii (dg m) y out k r) (fun (k : Nat) (out : List Nat) (r : Nat) => k) (fun (k : Nat) (out : List Nat) (r : Nat) => [(0, ah m), (1, aN y), (6, Is (.slice (some ⟨B11, 0, none⟩) (dg m).length (dg m).length)), (7, aN r), (8, aa .i64 ((k : Int) - 1))]) (fun (k : Nat) (out : List Nat) (r : Nat) => [box B11 189 (out.map aN)]) (dg m).length (List.replicate (dg m).length 0) 0 (ii.start _ hy)
  (zS rfl) (aU (a8 (fv _)) aY) (fun k out r hS=>?_)
 refine cK (ts (rm rfl (ro rfl (fu (Ht rfl) cV) (eZ (dQ (Ht rfl) (fun hb=>?_) (fun hb=>?_))))))
 ·simp at hb
  have hlen:=hS.len; have hkl:=hS.kle
  refine cU (cK (eK (cY (rm rfl (rm rfl (rm rfl (rm rfl (rm rfl (ro rfl (dZ U_47 Z_189 (Ht rfl) (Ht rfl) (show ((k:Int) - 1) = ((k - 1:Nat):Int) by omega) (eQ (ai zo))) (ro rfl (dV A_189 Z_189 (Ht rfl)) (rm rfl (ro rfl (cZ Tryz.call279 (yC hS.rlt (az (aI m) (k - 1)) hyb) ⟨(Ht rfl),(Ht rfl),(Ht rfl),trivial⟩) (rm rfl (ro rfl (dU (Ht rfl) rfl) (ro rfl (dU (Ht rfl) rfl) (ro rfl (gX U_47 Z_189 (Ht rfl) (Ht rfl) (show ((k:Int) - 1) = ((k - 1:Nat):Int) by omega) zo (by rw [Nat.mul_one,Nat.zero_add])) ?_))))))))))))))))
  refine dI Z_189 (Ht rfl) (Ht rfl) (i:=0) rfl (by first | omega | (simp; omega)) rfl (ra rfl (eZ (aB (cY (rm rfl (ro rfl (cq (Ht rfl) cV (kq zo)) (ra rfl (eZ (gQ (k - 1,_,_) (hS.next (aI m) zo rfl) (by dsimp only; omega) (aQ rfl (aQ rfl (aQ rfl (aQ rfl (aZ rfl (am zo) aX))))) (aU (a8 (ct _ _ _)) aY))))))))))
 ·simp at hb
  have hk0:k = 0:=by omega
  subst hk0
  have hlen:=hS.len
  have hfin:=hS.fin
  rw [bf] at hfin
  refine gK rfl (gG (i:=0) (tt:=6) rfl rfl (fM rfl hlen.symm (Nat.le_refl _)) (ts (rm rfl (ro rfl (cZ K_221 (jb _ hS.dig zo) ⟨(Ht rfl),trivial⟩) (rm rfl (ra rfl (ra rfl (eZ (aC rfl (fJ (eY rfl) ?_) (fJ (eY rfl) ?_))))))))))
  ·exact (bd hfin.1)
  ·exact (fe hfin.2)
end
section
open Go Go.RowKit
theorem Cu {us vs : List Nat} {q j B l : Nat} (hul : us.length = l) (hu : en us) (hv : en vs) (hq : q < BB) (hl : j + vs.length < us.length) (hL : us.length ≤ 1152921504606846976) :
    dy Tryz.prog 260 [Is (.slice (some ⟨B,0,none⟩) l l),lv vs,NT .u64 q,NT .i64 j] [box B 189 (us.map aN)] (List Nat × Bool) (fun x=>a9 x.2) (fun x=>[box B 189 (x.1.map aN)]) (fun x=>rF us vs q j x.1 x.2):=by
 refine dy.intro Tryz.func260 rfl Tryz.ntmps260 rfl (fun cx Z=>(ts (ro rfl (cQ cV) (eZ (ts (ro rfl (cQ (cJ 0)) (ro rfl (cQ (cJ 0)) (eZ (cK (ts (rm rfl (ro rfl (dK U_47 (Ht rfl) a7) (ro rfl (cX (cJ 0)) (eZ (eK ?_)))))))))))))))
 refine kX (fun (i : Nat) (out : List Nat) (c : Nat) (b : Nat) => ju us vs q j out i c b) (fun (i : Nat) (out : List Nat) (c : Nat) (b : Nat) => vs.length - i) (fun (i : Nat) (out : List Nat) (c : Nat) (b : Nat) => [(0, Is (.slice (some ⟨B, 0, none⟩) l l)), (1, lv vs), (2, NT .u64 q), (3, NT .i64 j), (9, NT .u64 c), (10, NT .u64 b), (16, lv vs), (17, NT .i64 vs.length), (18, NT .i64 i)]) (fun (i : Nat) (out : List Nat) (c : Nat) (b : Nat) => [Z, box B 189 (out.map aN)]) 0 us 0 0 (ju.start hu vs q j)
  (zS rfl) (br.refl _) (fun i out c b hS=>?_)
 refine ts (ro rfl (gV (Ht rfl) (Ht rfl)) (eZ (cK (dQ (Ht rfl) (fun hb=>?_) (fun hb=>?_)))))
 ·simp at hb
  have hlen:=hS.len; have hcl:=hS.clt; have hbl:=hS.ble; have hvi:=az hv i; have hok:=az hS.dig (i + j)
  have hp:=rV hq hvi hS.clt
  simp only [BB] at hp hcl hvi hok
  obtain ⟨p,hp1⟩:∃ p,p = q * vs.getD i 0 + c:=⟨_,rfl⟩
  obtain ⟨x,hx1⟩:∃ x,x = ((out.getD (i + j) 0 + 18446744073709551616 - p % 4294967296) % 18446744073709551616 + 18446744073709551616 - b) % 18446744073709551616:=⟨_,rfl⟩
  refine cU (cK (eK (ts (rm rfl (ro rfl (dZ U_47 Z_189 (Ht rfl) (Ht rfl) rfl (eQ (ai zo))) (ro rfl (dV A_189 Z_189 (Ht rfl)) (ra rfl (ra rfl (eZ (ts (rm rfl (rm rfl (ro rfl (gW U_189 U_254 (Ht rfl) z7) (ro rfl (eC (Ht rfl) (Ht rfl) z7) (rm rfl (ro rfl (ae.nat (dW (Ht rfl) (Ht rfl) z7) hp1.symm) ?_))))))))))))))))
  refine ra rfl (eZ (ts (rm rfl (ro rfl (c5 (Ht rfl) (cJ 32) (by decide)) (ra rfl (eZ (ts (rm rfl (rm rfl (rm rfl (ro rfl (dW (Ht rfl) (Ht rfl) z6) (ro rfl (gX U_47 Z_189 (Ht rfl) (Ht rfl) rfl zo (by rw [Nat.mul_one,Nat.zero_add])) ?_))))))))))))
  refine ro rfl (fQ A_189 Z_189 (Ht rfl) (i:=1) rfl (eQ (ai zo))) (ro rfl (gW U_189 U_254 (Ht rfl) z7) (rm rfl (ro rfl (cu rfl U_254 U_189 (Ht rfl)) (ro rfl (gW U_189 U_254 (Ht rfl) z7) (ro rfl (fT rfl (Ht rfl) (Ht rfl) (by show _ ≤ 18446744073709551616; first | omega | (simp only [f9]; omega))) ?_)))))
  refine rm rfl (ro rfl (ae.nat (fT rfl (Ht rfl) (Ht rfl) (by show _ ≤ 18446744073709551616; first | omega | (simp only [f9]; omega))) hx1.symm) (ra rfl (eZ (ts (rm rfl (rm rfl (rm rfl (ro rfl (dW (Ht rfl) (Ht rfl) z6) (rm rfl (ro rfl (cu rfl U_254 U_189 (Ht rfl)) (ro rfl (gX U_47 Z_189 (Ht rfl) (Ht rfl) rfl zo (by rw [Nat.mul_one,Nat.zero_add])) ?_)))))))))))
  refine dI Z_189 (Ht rfl) (Ht rfl) (i:=1) rfl (by first | omega | (simp; omega)) rfl (eZ (cY (rm rfl (ro rfl (c5 (Ht rfl) (cJ 63) (by decide)) (ra rfl (eZ (aB (cY (ro rfl (dW (Ht rfl) (cJ 1) z6) (rm rfl (eZ (gQ (i + 1,_,_,_) (hS.next hu hv hq hb hl hp1 (n9 hok hbl hx1) rfl) (by dsimp only; omega) (zS rfl) (aU (fun _ _ _ h=>h) (aU (a8 (ct _ _ _)) aY))))))))))))))
 ·simp at hb
  have hkl:i = vs.length:=Nat.le_antisymm hS.ile hb
  subst hkl
  have hlen:=hS.len; have hcl:=hS.clt; have hbl:=hS.ble; have hok:=az hS.dig (j + vs.length)
  obtain ⟨x,hx1⟩:∃ x,x = ((out.getD (j + vs.length) 0 + 18446744073709551616 - c) % 18446744073709551616 + 18446744073709551616 - b) % 18446744073709551616:=⟨_,rfl⟩
  have hfin:=hS.fin hl (nG hok hcl hbl hx1) rfl
  simp only [BB] at hcl hok
  refine gK rfl (ts (rm rfl (rm rfl (rm rfl (ro rfl (dK U_47 (Ht rfl) a7) (ro rfl (dW (Ht rfl) (Ht rfl) z6) (ro rfl (gX U_47 Z_189 (Ht rfl) (Ht rfl) rfl zo (by rw [Nat.mul_one,Nat.zero_add])) ?_)))))))
  refine ro rfl (fQ A_189 Z_189 (Ht rfl) (i:=1) rfl (eQ (ai zo))) (ro rfl (gW U_189 U_254 (Ht rfl) z7) (rm rfl (ro rfl (fT rfl (Ht rfl) (Ht rfl) (by show _ ≤ 18446744073709551616; first | omega | (simp only [f9]; omega))) (rm rfl (ro rfl (ae.nat (fT rfl (Ht rfl) (Ht rfl) (by show _ ≤ 18446744073709551616; first | omega | (simp only [f9]; omega))) hx1.symm) (ra rfl (eZ (ts (rm rfl (rm rfl (rm rfl (ro rfl (dK U_47 (Ht rfl) a7) ?_))))))))))))
  refine ro rfl (dW (Ht rfl) (Ht rfl) z6) (rm rfl (ro rfl (cu rfl U_254 U_189 (Ht rfl)) (ro rfl (gX U_47 Z_189 (Ht rfl) (Ht rfl) rfl zo (by rw [Nat.mul_one,Nat.zero_add])) ?_)))
  refine dI Z_189 (Ht rfl) (Ht rfl) (i:=1) rfl (by first | omega | (simp; omega)) rfl (eZ (ts (rm rfl (ro rfl (c5 (Ht rfl) (cJ 63) (by decide)) (ro rfl (db (Ht rfl) (cJ 0)) (ra rfl (eZ ?_)))))))
  exact fo (_,_) hfin [0,1] ⟨⟨_,rfl,fun _ _ _ h=>h⟩,⟨_,rfl,(a8 (ct _ _ _))⟩,trivial⟩ (by decide) (nt rfl (eY rfl))
theorem tB {m n:Nat} (hm:(dg m).length ≤ 17592186044415) (hn1:(dg n).length ≤ 17592186044416) (hn:n ≠ 0):aw Tryz.prog 220 [ah m,ah n] (bo [ah (m / n),ah (m % n)]):=by
 refine aw.intro Tryz.func220 rfl Tryz.ntmps220 rfl (fun cx=>(ts (ro rfl (cQ cV) (ro rfl (cQ cV) (eZ (cK (ts (rm rfl (rm rfl (ro rfl (cZ Tryz.call216 (vc zo zo) ⟨(Ht rfl),(Ht rfl),trivial⟩) (ro rfl (j7 (Ht rfl) cV) (eZ (dQ (Ht rfl) (fun hb=>?_) (fun hb=>?_))))))))))))))
 ·simp only [decide_eq_true_eq] at hb
  have hlt : m < n := by
   unfold iA at hb
   split at hb
   ·assumption
   ·split at hb <;> simp at hb
  refine ts (rm rfl (ro rfl (cQ cV) (ra rfl (eZ (aC rfl (fJ (eY rfl) ?_) (fJ (eY rfl) ?_))))))
  ·exact (fun v V h=>bd (Nat.div_eq_of_lt hlt).symm v V (et v V h))
  ·exact (bd (Nat.mod_eq_of_lt hlt).symm)
 ·simp only [decide_eq_false_iff_not] at hb
  have hle : n ≤ m := by
   unfold iA at hb
   split at hb
   ·simp at hb
   ·omega
  clear hb
  refine cU (cK (ts (rm rfl (ro rfl (dK U_47 (Ht rfl) a7) (ro rfl (aO (Ht rfl) (cJ 1)) (eZ (dQ (Ht rfl) (fun h1=>?_) (fun h1=>?_))))))))
  ·simp at h1
   have hy0:=vb h1
   have hyb:=az (aI n) 0
   have hmod:=Nat.mod_lt m (show (dg n).getD 0 0 > 0 by omega)
   simp only [BB] at hyb
   refine ts (rm rfl (rm rfl (ro rfl (dZ U_47 Z_189 (Ht rfl) (cJ 0) rfl (eQ (ai zo))) (ro rfl (dV A_189 Z_189 (Ht rfl)) (ro rfl (cZ Tryz.call257 (tX zo zo hyb) ⟨(Ht rfl),(Ht rfl),trivial⟩) (rm rfl (ro rfl (dU (Ht rfl) rfl) (ro rfl (dU (Ht rfl) rfl) (ra rfl (ra rfl (eZ (ts (rm rfl (rm rfl (ro rfl (gW U_189 U_254 (Ht rfl) z7) (ro rfl (cZ Tryz.call241 (px zo) ⟨(Ht rfl),trivial⟩) ?_))))))))))))))))
   refine ra rfl (ra rfl (eZ (aC rfl (fJ (eY rfl) ?_) (fJ (eY rfl) ?_))))
   ·exact (bd (by rw [hy0]))
   ·exact (bd (by rw [hy0]))
  ·simp at h1
   have hl0:(dg n).length ≠ 0:=fun e=>hn (al.1 e)
   have hyb:=az (aI n) ((dg n).length - 1)
   obtain ⟨s,hs⟩:∃ s,s = 32 - bl ((dg n).getD ((dg n).length - 1) 0):=⟨_,rfl⟩
   obtain ⟨hs1,hvl,hvb⟩:=rj hn hs
   obtain ⟨hc1,hc2,hc3,hc4⟩:=qN (m:=m) hs1
   simp only [BB] at hyb
   have hp2:0 < 2 ^ s:=Nat.pow_pos (by decide)
   have hX0:(dg (m * 2 ^ s)).length ≠ 0:=fun e=>(Nat.ne_of_gt (Nat.mul_pos (show 0 < m by omega) hp2)) (al.1 e)
   have hmono:=cT hle
   refine cU (ts (rm rfl (ro rfl (dK U_47 (Ht rfl) a7) (rm rfl (rm rfl (ro rfl (dK U_47 (Ht rfl) a7) (ro rfl (dG (Ht rfl) (cJ 1) zo z6) (ro rfl (dZ U_47 Z_189 (Ht rfl) (Ht rfl) rfl (eQ (ai zo))) (ro rfl (dV A_189 Z_189 (Ht rfl)) (ro rfl (ae.nat (cZ Tryz.call258 (Bw zo) ⟨(Ht rfl),trivial⟩) hs.symm) (ra rfl (ra rfl (eZ (ts (rm rfl (rm rfl (ro rfl (cZ Tryz.call259 (AD zo zo) ⟨(Ht rfl),(Ht rfl),trivial⟩) ?_)))))))))))))))))
   refine ra rfl (eZ (ts (rm rfl (ro rfl (dK U_47 (Ht rfl) a7) (ro rfl (dW (Ht rfl) (cJ 1) z6) (rn rfl (ck (T:=aN 0) (i:=Tryz.t189) V_47 dM rfl rfl (Ht rfl) rfl (fun _=>rfl) trivial (by show 4 * _ ≤ _; omega) zo) fun B55=>(ra rfl (eZ (ts (rm rfl (rm rfl (rm rfl (ro rfl (cZ Tryz.call259 (AD zo zo) ⟨(Ht rfl),(Ht rfl),trivial⟩) (tR U_47 Z_189 (Ht rfl) (Ht rfl) (xb hX0) AC (i:=0) rfl (by simp) (by simp; omega) (qg _ _) rfl rfl ?_))))))))))))))
   refine eZ (ts (rm rfl (ro rfl (dS U_47 (Ht rfl)) (rm rfl (ro rfl (dG (Ht rfl) (Ht rfl) zo z6) (rn rfl (ck (T:=aN 0) (i:=Tryz.t189) V_47 dM rfl rfl (Ht rfl) rfl (fun _=>rfl) trivial (by show 4 * _ ≤ _; omega) zo) fun B65=>(ra rfl (eZ (cK (ts (rm rfl (ro rfl (dS U_47 (Ht rfl)) (ro rfl (cq (Ht rfl) cV (kq zo)) (ra rfl (eZ (eK ?_))))))))))))))))
   obtain ⟨vs,hvs⟩:∃ vs,vs = dg (n * 2 ^ s):=⟨_,rfl⟩
   rw [← hvs] at hvl hvb
   have hv:en vs:=hvs ▸ aI _
   have hvv:val vs = n * 2 ^ s:=by rw [hvs,bf]
   have hV0:0 < val vs:=by rw [hvv]; exact Nat.mul_pos zo hp2
   have hnr:=tf hv zo hvb
   have hv1:=hnr.v1lt; have hv2:=hnr.v2lt; have hbig:=hnr.big
   simp only [BB] at hv1 hv2 hbig
   refine eB (fun (k : Nat) (us : List Nat) (qs : List Nat) => gl (m * 2 ^ s) vs us qs k ∧ us.length = (dg m).length + 1) (fun (k : Nat) (us : List Nat) (qs : List Nat) => k) (fun (k : Nat) (us : List Nat) (qs : List Nat) => [(8, NT .i64 vs.length), (9, NT .i64 s), (10, lv vs), (11, Is (.slice (some ⟨B55, 0, none⟩) ((dg m).length + 1) ((dg m).length + 1))), (12, Is (.slice (some ⟨B65, 0, none⟩) ((dg m).length + 1 - (dg n).length) ((dg m).length + 1 - (dg n).length))), (13, aa .i64 ((k : Int) - 1))]) (fun (k : Nat) (us : List Nat) (qs : List Nat) => [box B55 189 (us.map aN), box B65 189 (qs.map aN)]) ((dg m).length + 1 - (dg n).length) (mS m s) (List.replicate ((dg m).length + 1 - (dg n).length) 0) ⟨gl.start hv zo hvb hs1 (by have := dm (aI m); rwa [bf] at this) hc3 hc2 hc4 zo, hc2⟩
    (aZ rfl (fe hvl.symm) (aQ rfl (aZ rfl (fun v V h=>by rw [hvs]; exact h) (aQ rfl (aQ rfl (aZ rfl (am zo) aX)))))) (aU (fun _ _ _ h=>h) (aU (a8 (fv _)) aY)) (fun k us qs ⟨hS,hus⟩=>?_)
   refine cK (ts (rm rfl (ro rfl (fu (Ht rfl) cV) (eZ (dQ (Ht rfl) (fun hk=>?_) (fun hk=>?_))))))
   ·simp at hk
    obtain ⟨j,rfl⟩:∃ j,k = j + 1:=⟨k - 1,by omega⟩
    have htp:=hS.top hv zo (Nat.succ_pos j) rfl
    have hkq:=hS.kle; have hlq:=hS.lenq
    rw [Nat.add_sub_cancel] at htp
    have hu0:=az hS.dig (j + vs.length); have hu1:=az hS.dig (j + vs.length - 1); have hu2:=az hS.dig (j + vs.length - 2)
    have ht64:=xJ hu0 hu1; have hsh:=qr hu0
    obtain ⟨top,htop⟩:∃ top,top = us.getD (j + vs.length) 0 * BB + us.getD (j + vs.length - 1) 0:=⟨_,rfl⟩
    have hor:=(kD (a:=us.getD (j + vs.length) 0) hu1).trans htop.symm
    rw [← htop] at htp ht64
    have hu2b:=hu2
    simp only [BB] at hu0 hu1 hu2
    refine nf (E':=[(8,_),(9,_),(10,_),(11,_),(12,_),(13,_),(69,_),(70,_)]) (aQ rfl (aQ rfl (aQ rfl (aQ rfl (aQ rfl (aZ rfl (am (show ((j + 1:Nat):Int) - 1 = (j:Int) by omega)) (zS rfl))))))) (cU (cK (eK (cK (fV (m:=16) (dp 11 rfl (cX (Ht rfl)) (dp 13 rfl (cX (Ht rfl)) (dp 8 rfl (cX (Ht rfl)) (bv 74 1 75 2 rfl (dW (Ht rfl) (Ht rfl) z6) (bv 73 0 76 3 rfl (gX U_47 Z_189 (Ht rfl) (Ht rfl) rfl zo (by rw [Nat.mul_one,Nat.zero_add])) ?_))))))))))
    refine dq 77 4 rfl (fQ A_189 Z_189 (Ht rfl) (i:=0) rfl (eQ (ai zo))) (dq 78 5 rfl (gW U_189 U_254 (Ht rfl) z7) (dq 79 6 rfl (g0 (Ht rfl) (cJ 32) (by decide) hsh) (dp 11 rfl (cX (Ht rfl)) (dp 13 rfl (cX (Ht rfl)) (dp 8 rfl (cX (Ht rfl)) (bv 82 9 83 10 rfl (dW (Ht rfl) (Ht rfl) z6) (dq 84 11 rfl (dG (Ht rfl) (cJ 1) zo z6) ?_)))))))
    refine bv 81 8 85 12 rfl (gX U_47 Z_189 (Ht rfl) (Ht rfl) rfl zo (by rw [Nat.mul_one,Nat.zero_add])) ?_
    refine dq 86 13 rfl (fQ A_189 Z_189 (Ht rfl) (i:=0) rfl (eQ (ai zo))) (dq 87 14 rfl (gW U_189 U_254 (Ht rfl) z7) (fG aA rfl (by kernel_rfl) (zF (zF (zF (zF (aV (ro rfl (ae.nat (ic rfl (Ht rfl) (Ht rfl) z7 z7) hor) ?_))))))))
    refine ra rfl (eZ (cK (fV (m:=17) (dp 14 rfl (cX (Ht rfl)) (dp 10 rfl (cX (Ht rfl)) (dp 8 rfl (cX (Ht rfl)) (dq 92 2 rfl (dG (Ht rfl) (cJ 1) zo z6) (bv 91 1 93 3 rfl (dZ U_47 Z_189 (Ht rfl) (Ht rfl) rfl (eQ (ai zo))) (dq 94 4 rfl (dV A_189 Z_189 (Ht rfl)) (dq 95 5 rfl (gW U_189 U_254 (Ht rfl) z7) ?_))))))))))
    refine bv 90 0 96 6 rfl (dr (Ht rfl) (Ht rfl) zo (by show _ < 18446744073709551616; exact ht64)) (dp 14 rfl (cX (Ht rfl)) (dp 10 rfl (cX (Ht rfl)) (dp 8 rfl (cX (Ht rfl)) (dq 100 10 rfl (dG (Ht rfl) (cJ 1) zo z6) (bv 99 9 101 11 rfl (dZ U_47 Z_189 (Ht rfl) (Ht rfl) rfl (eQ (ai zo))) (dq 102 12 rfl (dV A_189 Z_189 (Ht rfl)) (dq 103 13 rfl (gW U_189 U_254 (Ht rfl) z7) ?_)))))))
    refine bv 98 8 104 14 rfl (eD (Ht rfl) (Ht rfl) zo) (dq 97 7 rfl (cQ (Ht rfl)) (fG aA rfl (by kernel_rfl) (zF (zF (zF (zF (aJ (aV (ra rfl (eZ (cK (dz (fun (g:Nat)=>ss (val (us.drop j)) (val vs) g) (fun (g:Nat)=>[(8,NT .i64 vs.length),(9,NT .i64 s),(10,lv vs),(11,Is (.slice (some ⟨B55,0,none⟩) ((dg m).length + 1) ((dg m).length + 1))),(12,Is (.slice (some ⟨B65,0,none⟩) ((dg m).length + 1 - (dg n).length) ((dg m).length + 1 - (dg n).length))),(13,NT .i64 j),(15,NT .u64 g)]) (fun (g:Nat)=>[box B55 189 (us.map aN),box B65 189 (qs.map aN)]) ?_ (fun g hg=>?_)))))))))))))
    ·refine eK ?_
     refine ci (fun (g : Nat) (r : Nat) => f8 (val (us.drop j)) (val vs) (vs.getD (vs.length - 1) 0) top g r ∧ r < 4294967296) (fun (g : Nat) (r : Nat) => g) (fun (g : Nat) (r : Nat) => [(8, NT .i64 vs.length), (9, NT .i64 s), (10, lv vs), (11, Is (.slice (some ⟨B55, 0, none⟩) ((dg m).length + 1) ((dg m).length + 1))), (12, Is (.slice (some ⟨B65, 0, none⟩) ((dg m).length + 1 - (dg n).length) ((dg m).length + 1 - (dg n).length))), (13, NT .i64 j), (15, NT .u64 g), (16, NT .u64 r)]) (fun (g : Nat) (r : Nat) => [box B55 189 (us.map aN), box B65 189 (qs.map aN)]) (top / vs.getD (vs.length - 1) 0) (top % vs.getD (vs.length - 1) 0) ⟨f8.start hnr htp, Nat.lt_trans (Nat.mod_lt _ zo) hv1⟩
      (zS rfl) (br.refl _) (fun g r ⟨hG,hr⟩=>?_)
     have hgl:=(hG.glt hnr htp).1
     have hrs:=qr (a:=r) hr
     have horr:=kD (a:=r) hu2b
     simp only [BB] at hgl
     refine cK (cK (fV (m:=22) (dp 15 rfl (cX (Ht rfl)) (dq 106 0 rfl (g6 (Ht rfl) (cJ 4294967296)) (dq 107 1 rfl (cX (Ht rfl)) (C.D_step (Ei:=[(15,_),(108,_)]) rfl rfl (bV (bK rfl rfl) (bV (bG 2 rfl rfl) bW)) (eU rfl rfl (Ht rfl) (fun h=>cX (Ht rfl))) (C.D_step (Ei:=[(10,_),(108,_)]) rfl rfl (bV (bK rfl rfl) (bV (bG 2 rfl rfl) bW)) (eU rfl rfl (Ht rfl) (fun h=>cX (Ht rfl))) (C.D_step (Ei:=[(8,_),(108,_)]) rfl rfl (bV (bK rfl rfl) (bV (bG 2 rfl rfl) bW)) (eU rfl rfl (Ht rfl) (fun h=>cX (Ht rfl))) ?_))))))))
     refine C.D_step (Ei:=[(111,_),(108,_)]) rfl rfl (bV (bG 5 rfl rfl) (bV (bG 2 rfl rfl) bW)) (eU rfl rfl (Ht rfl) (fun h=>dG (fW rfl h) (cJ 2) (by first | omega | (simp at h; omega)) (by show _ < 9223372036854775808; first | omega | (simp at h; omega)))) (C.D_step (Ei:=[(110,_),(112,_),(108,_)]) rfl rfl (bV (bG 4 rfl rfl) (bV (bG 6 rfl rfl) (bV (bG 2 rfl rfl) bW))) (eU rfl rfl (Ht rfl) (fun h=>dZ U_47 Z_189 (fW rfl h) (fW rfl h) rfl (eQ (ai (by first | omega | (simp at h; omega)))))) ?_)
     refine C.D_step (Ei:=[(113,_),(108,_)]) rfl rfl (bV (bG 7 rfl rfl) (bV (bG 2 rfl rfl) bW)) (eU rfl rfl (Ht rfl) (fun h=>dV A_189 Z_189 (fW rfl h))) (C.D_step (Ei:=[(114,_),(108,_)]) rfl rfl (bV (bG 8 rfl rfl) (bV (bG 2 rfl rfl) bW)) (eU rfl rfl (Ht rfl) (fun h=>gW U_189 U_254 (fW rfl h) (by show _ < 18446744073709551616; first | omega | (simp at h; omega)))) (C.D_step (Ei:=[(109,_),(115,_),(108,_)]) rfl rfl (bV (bG 3 rfl rfl) (bV (bG 9 rfl rfl) (bV (bG 2 rfl rfl) bW))) (eU rfl rfl (Ht rfl) (fun h=>eC (fW rfl h) (fW rfl h) (by show _ < 18446744073709551616; simp at h; exact AU h hv2))) ?_))
     refine C.D_step (Ei:=[(16,_),(108,_)]) rfl rfl (bV (bK rfl rfl) (bV (bG 2 rfl rfl) bW)) (eU rfl rfl (Ht rfl) (fun h=>cX (Ht rfl))) (C.D_step (Ei:=[(117,_),(108,_)]) rfl rfl (bV (bG 11 rfl rfl) (bV (bG 2 rfl rfl) bW)) (eU rfl rfl (Ht rfl) (fun h=>g0 (fW rfl h) (cJ 32) (by decide) hrs)) (C.D_step (Ei:=[(11,_),(108,_)]) rfl rfl (bV (bK rfl rfl) (bV (bG 2 rfl rfl) bW)) (eU rfl rfl (Ht rfl) (fun h=>cX (Ht rfl))) (C.D_step (Ei:=[(13,_),(108,_)]) rfl rfl (bV (bK rfl rfl) (bV (bG 2 rfl rfl) bW)) (eU rfl rfl (Ht rfl) (fun h=>cX (Ht rfl))) ?_)))
     refine C.D_step (Ei:=[(8,_),(108,_)]) rfl rfl (bV (bK rfl rfl) (bV (bG 2 rfl rfl) bW)) (eU rfl rfl (Ht rfl) (fun h=>cX (Ht rfl))) (C.D_step (Ei:=[(120,_),(121,_),(108,_)]) rfl rfl (bV (bG 14 rfl rfl) (bV (bG 15 rfl rfl) (bV (bG 2 rfl rfl) bW))) (eU rfl rfl (Ht rfl) (fun h=>dW (fW rfl h) (fW rfl h) (by show _ < 9223372036854775808; first | omega | (simp at h; omega)))) (C.D_step (Ei:=[(122,_),(108,_)]) rfl rfl (bV (bG 16 rfl rfl) (bV (bG 2 rfl rfl) bW)) (eU rfl rfl (Ht rfl) (fun h=>dG (fW rfl h) (cJ 2) (by first | omega | (simp at h; omega)) (by show _ < 9223372036854775808; first | omega | (simp at h; omega)))) ?_))
     refine C.D_step (Ei:=[(119,_),(123,_),(108,_)]) rfl rfl (bV (bG 13 rfl rfl) (bV (bG 17 rfl rfl) (bV (bG 2 rfl rfl) bW))) (eU rfl rfl (Ht rfl) (fun h=>gX U_47 Z_189 (fW rfl h) (fW rfl h) rfl (by first | omega | (simp at h; omega)) (by rw [Nat.mul_one,Nat.zero_add]))) ?_
     refine C.D_step (Ei:=[(124,_),(108,_)]) rfl rfl (bV (bG 18 rfl rfl) (bV (bG 2 rfl rfl) bW)) (eU rfl rfl (Ht rfl) (fun h=>fQ A_189 Z_189 (fW rfl h) (i:=0) rfl (eQ (ai zo)))) (C.D_step (Ei:=[(125,_),(108,_)]) rfl rfl (bV (bG 19 rfl rfl) (bV (bG 2 rfl rfl) bW)) (eU rfl rfl (Ht rfl) (fun h=>gW U_189 U_254 (fW rfl h) (by show _ < 18446744073709551616; first | omega | (simp at h; omega)))) (C.D_step (Ei:=[(118,_),(126,_),(108,_)]) rfl rfl (bV (bG 12 rfl rfl) (bV (bG 20 rfl rfl) (bV (bG 2 rfl rfl) bW))) (eU rfl rfl (Ht rfl) (fun h=>ae.nat (ic rfl (fW rfl h) (fW rfl h) (by show _ < 18446744073709551616; first | omega | (simp at h; omega)) (by show _ < 18446744073709551616; first | omega | (simp at h; omega))) horr)) ?_))
     refine fG aA rfl (by kernel_rfl) (zF (zF (zF (zF (zF (aJ (aJ (aV (fX rfl rfl (eU rfl rfl (Ht rfl) (fun h=>bR (fW rfl h) (fW rfl h))) (ro rfl (eP (Ht rfl) (fun h=>(fW rfl h))) (eZ (dQ (Ht rfl) (fun hc=>?_) (fun hc=>?_)))))))))))))
     ·have hn2 := hG.next hnr htp (by simpa [BB] using hc)
      have hg1:=hn2.2
      refine cU (eK (ts (rm rfl (ro rfl (dG (Ht rfl) (cJ 1) zo z7) (ra rfl (eZ (ts (rm rfl (rm rfl (rm rfl (ro rfl (dG (Ht rfl) (cJ 1) zo z6) (ro rfl (dZ U_47 Z_189 (Ht rfl) (Ht rfl) rfl (eQ (ai zo))) (ro rfl (dV A_189 Z_189 (Ht rfl)) (ro rfl (gW U_189 U_254 (Ht rfl) z7) ?_))))))))))))))
      refine ro rfl (dW (Ht rfl) (Ht rfl) z7) (ra rfl (eZ (ts (rm rfl (ro rfl (g6 (Ht rfl) (cJ 4294967296)) (eZ (dQ (Ht rfl) (fun hr2=>?_) (fun hr2=>?_))))))))
      ·simp at hr2
       refine gK rfl (au (g - 1) (hn2.1.stop hnr htp hr2) (zS rfl) (br.refl _))
      ·simp at hr2
       refine cU (aB (gQ (g - 1,_) ⟨hn2.1,hr2⟩ (by dsimp only; omega) (zS rfl) (br.refl _)))
     ·simp at hc
      refine gK rfl (au g (hG.done hnr htp hc.1 hc.2) (zS rfl) (br.refl _))
    ·have hglt := hg.lt
     simp only [BB] at hglt
     refine cK (jc (fun (us2:List Nat) (g2:Nat)=>gl (m * 2 ^ s) vs us2 (qs.set j g2) j ∧ g2 < 4294967296 ∧ us2.length = (dg m).length + 1) (fun (us2:List Nat) (g2:Nat)=>[(8,NT .i64 vs.length),(9,NT .i64 s),(10,lv vs),(11,Is (.slice (some ⟨B55,0,none⟩) ((dg m).length + 1) ((dg m).length + 1))),(12,Is (.slice (some ⟨B65,0,none⟩) ((dg m).length + 1 - (dg n).length) ((dg m).length + 1 - (dg n).length))),(13,NT .i64 j),(15,NT .u64 g2)]) (fun (us2:List Nat) (g2:Nat)=>[box B55 189 (us2.map aN),box B65 189 (qs.map aN)]) ?_ (fun us2 g2 ⟨hD,hg2,hus2⟩=>?_))
     ·refine ts (rm rfl (rm rfl (rm rfl (rm rfl (pU Tryz.call260 (Cu hus hS.dig hv hg.lt zo zo) (i := 0) rfl ⟨(Ht rfl), (Ht rfl), (Ht rfl), (Ht rfl), trivial⟩ rfl (fun ⟨out, b⟩ hT => ?_))))))
      dsimp only at hT
      refine eZ (dQ (Ht rfl) (fun hbb=>?_) (fun hbb=>?_))
      ·have hbb : b = true := hbb
       subst hbb
       have hg0:=hS.gpos hv rfl zo hT
       have hol:=hT.len
       refine ts (rm rfl (ro rfl (dG (Ht rfl) (cJ 1) zo z7) (ra rfl (eZ (ts (ro rfl (cQ (cJ 0)) (eZ (cK (ts (rm rfl (ro rfl (dK U_47 (Ht rfl) a7) (ro rfl (cX (cJ 0)) (eZ (eK ?_))))))))))))))
       refine eB (fun (i : Nat) (out2 : List Nat) (c : Nat) => jq out vs j out2 i c) (fun (i : Nat) (out2 : List Nat) (c : Nat) => vs.length - i) (fun (i : Nat) (out2 : List Nat) (c : Nat) => [(8, NT .i64 vs.length), (9, NT .i64 s), (10, lv vs), (11, Is (.slice (some ⟨B55, 0, none⟩) ((dg m).length + 1) ((dg m).length + 1))), (12, Is (.slice (some ⟨B65, 0, none⟩) ((dg m).length + 1 - (dg n).length) ((dg m).length + 1 - (dg n).length))), (13, NT .i64 j), (15, NT .u64 (g - 1 : Nat)), (17, NT .u64 c), (149, lv vs), (150, NT .i64 vs.length), (151, NT .i64 i)]) (fun (i : Nat) (out2 : List Nat) (c : Nat) => [box B55 189 (out2.map aN), box B65 189 (qs.map aN)]) 0 out 0 (jq.start hT.dig vs j)
        (zS rfl) (br.refl _) (fun i out2 c hB=>?_)
       refine ts (ro rfl (gV (Ht rfl) (Ht rfl)) (eZ (cK (dQ (Ht rfl) (fun hi=>?_) (fun hi=>?_)))))
       ·simp at hi
        have hlen:=hB.len; have hcl:=hB.cle; have hvi:=az hv i; have hok:=az hB.dig (i + j)
        simp only [BB] at hvi hok
        refine cU (cK (eK (ts (rm rfl (ro rfl (dZ U_47 Z_189 (Ht rfl) (Ht rfl) rfl (eQ (ai zo))) (ro rfl (dV A_189 Z_189 (Ht rfl)) (ra rfl (ra rfl (eZ (ts (rm rfl (rm rfl (rm rfl (rm rfl (ro rfl (dW (Ht rfl) (Ht rfl) z6) (ro rfl (gX U_47 Z_189 (Ht rfl) (Ht rfl) rfl zo (by rw [Nat.mul_one,Nat.zero_add])) ?_))))))))))))))))
        refine ro rfl (fQ A_189 Z_189 (Ht rfl) (i:=0) rfl (eQ (ai zo))) (ro rfl (gW U_189 U_254 (Ht rfl) z7) (rm rfl (ro rfl (gW U_189 U_254 (Ht rfl) z7) (ro rfl (dW (Ht rfl) (Ht rfl) z7) (ro rfl (dW (Ht rfl) (Ht rfl) z7) ?_)))))
        refine ra rfl (eZ (ts (rm rfl (rm rfl (rm rfl (ro rfl (dW (Ht rfl) (Ht rfl) z6) (rm rfl (ro rfl (cu rfl U_254 U_189 (Ht rfl)) (ro rfl (gX U_47 Z_189 (Ht rfl) (Ht rfl) rfl zo (by rw [Nat.mul_one,Nat.zero_add])) ?_)))))))))
        refine dI Z_189 (Ht rfl) (Ht rfl) (i:=0) rfl (by first | omega | (simp; omega)) rfl (eZ (cY (rm rfl (ro rfl (c5 (Ht rfl) (cJ 32) (by decide)) (ra rfl (eZ (aB (cY (ro rfl (dW (Ht rfl) (cJ 1) z6) (rm rfl (eZ (gQ (i + 1,_,_) (hB.next hv hi zo rfl) (by dsimp only; omega) (zS rfl) (aU (a8 (ct _ _ _)) (aU (fun _ _ _ h=>h) aY))))))))))))))
       ·simp at hi
        have hil:i = vs.length:=Nat.le_antisymm hB.ile hi
        subst hil
        have hlen:=hB.len; have hcl:=hB.cle; have hok:=az hB.dig (j + vs.length)
        have hBk:=hB.fin zo rfl
        obtain ⟨_,hDn⟩:=hS.wrong hv hV0 (Nat.succ_pos j) rfl hg hT hBk
        simp only [BB] at hok
        refine gK rfl (cY (rm rfl (rm rfl (rm rfl (ro rfl (dW (Ht rfl) (Ht rfl) z6) (ro rfl (gX U_47 Z_189 (Ht rfl) (Ht rfl) rfl zo (by rw [Nat.mul_one,Nat.zero_add])) ?_))))))
        refine ro rfl (fQ A_189 Z_189 (Ht rfl) (i:=0) rfl (eQ (ai zo))) (rm rfl (ro rfl (gW U_254 U_189 (Ht rfl) (by show _ < 4294967296; first | omega | (simp only [f9]; omega))) (ro rfl (sI rfl (Ht rfl) (Ht rfl)) (ro rfl (gX U_47 Z_189 (Ht rfl) (Ht rfl) rfl zo (by rw [Nat.mul_one,Nat.zero_add])) ?_))))
        refine dI Z_189 (Ht rfl) (Ht rfl) (i:=0) rfl (by first | omega | (simp; omega)) rfl (eZ (au (_,g - 1) ⟨hDn,by dsimp only; omega,by simp; omega⟩ (zS rfl) (aU (a8 (ct _ _ _)) (aU (fun _ _ _ h=>h) aY))))
      ·have hbb : b = false := hbb
       subst hbb
       have hol:=hT.len
       refine cU (au (out,g) ⟨hS.right hv hV0 (Nat.succ_pos j) rfl hg hT,hglt,by dsimp only; omega⟩ (zS rfl) (br.refl _))
     ·refine cY (rm rfl (rm rfl (rm rfl (ro rfl (gW U_254 U_189 (Ht rfl) (by show _ < 4294967296; first | omega | (simp only [f9]; omega))) (ro rfl (gX U_47 Z_189 (Ht rfl) (Ht rfl) rfl zo (by rw [Nat.mul_one, Nat.zero_add])) ?_)))))
      refine dI Z_189 (Ht rfl) (Ht rfl) (i:=1) rfl (by first | omega | (simp; omega)) rfl (eZ (aB (cY (rm rfl (ro rfl (cq (Ht rfl) cV (kq zo)) (ra rfl (eZ (gQ (j,us2,_) ⟨hD,hus2⟩ (by dsimp only; omega) (zS rfl) (aU (fun _ _ _ h=>h) (aU (a8 (ct _ _ _)) aY))))))))))
   ·simp at hk
    have hk0:k = 0:=by omega
    subst hk0
    have hfin:=hS.fin hV0
    have hlq:=hS.lenq
    rw [hvv] at hfin
    have hdiv:val qs = m / n:=by rw [hfin.1]; exact Nat.mul_div_mul_right _ _ hp2
    have hsm:val us < BB ^ vs.length:=by have h1:=hS.small; rw [List.drop_zero] at h1; exact Nat.lt_trans h1 (dm hv)
    have hmod : val (us.take vs.length) / 2 ^ s = m % n := by
     rw [gE hsm zo,hfin.2,Nat.mul_mod_mul_right,Nat.mul_div_cancel _ hp2]
    have hru : (dg (val (us.take vs.length))).length ≤ 17592186044416 := by
     refine Nat.le_trans (dR (k:=vs.length) ?_) zo
     rw [gE hsm zo]; exact hsm
    refine gK rfl (gG (i:=1) (tt:=12) rfl rfl (fM rfl zo (Nat.le_refl _)) (gG (i:=0) (tt:=11) rfl rfl (fM rfl zo (Nat.le_refl _)) (cK (fV (m:=7) (dp 12 rfl (cX (Ht rfl)) (dq 193 0 rfl (cZ K_221 (jb _ hS.digq zo) ⟨(Ht rfl),trivial⟩) (dp 11 rfl (cX (Ht rfl)) (dp 8 rfl (cX (Ht rfl)) (bv 195 2 196 3 rfl (ae.imp (iI U_47 Z_189 (Ht rfl) (Ht rfl) (fun m e=>by cases e) zo (by simp; omega) rfl) (tV _ _)) ?_)))))))))
    refine dq 197 4 rfl (cZ K_221 (jb _ (hS.dig.take' vs.length) (by simp; omega)) ⟨(Ht rfl),trivial⟩) ?_
    refine dp 9 rfl (cX (Ht rfl)) (fG aA rfl (by kernel_rfl) (zF (aJ (aJ (aJ (aV (ro rfl (cZ Tryz.call261 (D8 hru zo) ⟨(Ht rfl),(Ht rfl),trivial⟩) (ra rfl (ra rfl (eZ (aC rfl (fJ (eY rfl) ?_) (fJ (eY rfl) ?_))))))))))))
    ·exact (bd hdiv)
    ·exact (bd hmod)
end
section
open Go Go.RowKit
theorem wQ:Tryz.prog.info? 5 = some Tryz.t5:=by kernel_rfl
theorem mD:Tryz.prog.underlying 293 = some (.slice 5):=by kernel_rfl
theorem Ak:Tryz.prog.underlying 5 = some (.int .u8):=by kernel_rfl
theorem AH:Tryz.prog.underlying 9 = some (.string):=by kernel_rfl
end
section
open Go Go.RowKit
theorem Ay {m n:Nat} (hm:(dg m).length ≤ 17592186044415) (hn:(dg n).length ≤ 17592186044415):aw Tryz.prog 218 [ah m,ah n] (ah (Nat.gcd m n)):=by
 refine aw.intro Tryz.func218 rfl Tryz.ntmps218 rfl (fun cx=>(ts (ro rfl (cQ cV) (eZ (cK (eK ?_))))))
 refine ci (fun (x : Nat) (y : Nat) => Nat.gcd x y = Nat.gcd m n ∧ (dg x).length ≤ 17592186044415 ∧ (dg y).length ≤ 17592186044415) (fun (x : Nat) (y : Nat) => y) (fun (x : Nat) (y : Nat) => [(0, ah x), (1, ah y)]) (fun (x : Nat) (y : Nat) => []) m n ⟨rfl, hm, hn⟩
  (zS rfl) aY (fun x y ⟨hg,hx,hy⟩=>?_)
 refine cK (ts (rm rfl (ro rfl (dK U_47 (Ht rfl) a7) (ro rfl (bR (Ht rfl) (cJ 0)) (eZ (dQ (Ht rfl) (fun hb=>?_) (fun hb=>?_)))))))
 ·simp at hb
  have hy0:y ≠ 0:=fun e=>by rw [e,bz] at hb; simp at hb
  have hlt:=Nat.mod_lt x (Nat.pos_of_ne_zero hy0)
  refine cU (eK (ts (rm rfl (rm rfl (ro rfl (cZ Tryz.call220 (tB hx zo hy0) ⟨(Ht rfl),(Ht rfl),trivial⟩) (rm rfl (ro rfl (dU (Ht rfl) rfl) (ro rfl (dU (Ht rfl) rfl) (ra rfl (ra rfl (eZ (cY (rm rfl (rm rfl (ra rfl (ra rfl (eZ (aB (gQ (y,x % y) ⟨by rw [← hg,Nat.gcd_comm x y,Nat.gcd_rec y x,Nat.gcd_comm],hy,Nat.le_trans (cT (Nat.le_of_lt hlt)) hy⟩ hlt (zS rfl) aY)))))))))))))))))))
 ·simp at hb
  have hy0:y = 0:=al.1 (by simpa using hb)
  subst hy0
  rw [Nat.gcd_zero_right] at hg
  refine gK rfl (ts (rm rfl (ra rfl (eZ (fK rfl (fJ (eY rfl) ?_))))))
  exact (bd hg)
theorem DF {l:List Nat} {v:Value} (hl:l.length ≤ 1152921504606846976):dy Tryz.prog 276 [Is v] [aE 5 1 v (l.map ma)] Unit (fun _=>ik) (fun _=>[aE 5 1 v (l.reverse.map ma)]) (fun _=>True):=by
 refine dy.intro Tryz.func276 rfl Tryz.ntmps276 rfl (fun cx Z=>(ts (rm rfl (ro rfl (gH U_293 (Ht rfl) (i:=1) rfl a7) (ro rfl (cq (Ht rfl) cV (kq zo)) (ro rfl (cQ (cJ 0)) (ra rfl (eZ (eK ?_)))))))))
 refine ci (fun (k : Nat) (o : List Nat) => mQ l o k) (fun (k : Nat) (o : List Nat) => l.length - k) (fun (k : Nat) (o : List Nat) => [(0, Is v), (2, NT .i64 k), (3, aa .i64 ((l.length : Int) - 1 - (k : Int)))]) (fun (k : Nat) (o : List Nat) => [Z, aE 5 1 v (o.map ma)]) 0 l (mQ.start l)
  (aQ rfl (aQ rfl (aZ rfl (am zo) aX))) (br.refl _) (fun k o hS=>?_)
 refine cK (ts (rm rfl (rm rfl (ro rfl (j7 (Ht rfl) (Ht rfl)) (eZ (dQ (Ht rfl) (fun hb=>?_) (fun hb=>?_)))))))
 ·simp only [decide_eq_true_eq] at hb
  have hk:2 * k + 1 < l.length:=by omega
  obtain ⟨j,hj⟩:∃ j,j = l.length - 1 - k:=⟨_,rfl⟩
  have hlen:=hS.len
  refine nf (E':=[(0,_),(2,_),(3,_),(7,_),(8,_),(9,_)]) (aQ rfl (aQ rfl (aZ rfl (am (show (l.length:Int) - 1 - (k:Int) = (j:Int) by omega)) (zS rfl)))) (cU (cK (eK (W.D_start (m:=14) (fun b=>cond b ([Z,aE 5 1 v ((o.map ma).set k (ma (o.getD j 0)))]) _) 13 (W.D_step (Ei:=[(0,_)]) rfl rfl (W.Srcs.cons (W.Src.pre rfl rfl) W.Srcs.nil) rfl (by kernel_rfl) (dX rfl (cX (Ht rfl))) (W.D_step (Ei:=[(2,_)]) rfl rfl (W.Srcs.cons (W.Src.pre rfl rfl) W.Srcs.nil) rfl (by kernel_rfl) (dX rfl (cX (Ht rfl))) ?_))))))
  refine W.D_pure (Ei:=[(0,_)]) rfl rfl (W.Srcs.cons (W.Src.pre rfl rfl) W.Srcs.nil) rfl (fun _=>dX rfl (cX (Ht rfl))) (W.D_pure (Ei:=[(3,_)]) rfl rfl (W.Srcs.cons (W.Src.pre rfl rfl) W.Srcs.nil) rfl (fun _=>dX rfl (cX (Ht rfl))) (W.D_step (Ei:=[(0,_)]) rfl rfl (W.Srcs.cons (W.Src.pre rfl rfl) W.Srcs.nil) rfl (by kernel_rfl) (dX rfl (cX (Ht rfl))) (W.D_step (Ei:=[(3,_)]) rfl rfl (W.Srcs.cons (W.Src.pre rfl rfl) W.Srcs.nil) rfl (by kernel_rfl) (dX rfl (cX (Ht rfl))) (W.D_step (Ei:=[(18,_),(19,_)]) rfl rfl (W.Srcs.cons (W.Src.op 4 rfl rfl) (W.Srcs.cons (W.Src.op 5 rfl rfl) W.Srcs.nil)) rfl (by kernel_rfl) (dX rfl (bi U_293 Z_5 (Ht rfl) (Ht rfl) rfl (i:=1) rfl (by first | omega | (simp; omega)) rfl)) ?_))))
  refine W.D_step (Ei:=[(20,_)]) rfl rfl (W.Srcs.cons (W.Src.op 6 rfl rfl) W.Srcs.nil) rfl (by kernel_rfl) (dX rfl (ku A_5 Z_5 (Ht rfl) (i:=1) rfl rfl (eQ (ai zo)))) (W.D_step (Ei:=[(0,_)]) rfl rfl (W.Srcs.cons (W.Src.pre rfl rfl) W.Srcs.nil) rfl (by kernel_rfl) (dX rfl (cX (Ht rfl))) (W.D_step (Ei:=[(2,_)]) rfl rfl (W.Srcs.cons (W.Src.pre rfl rfl) W.Srcs.nil) rfl (by kernel_rfl) (dX rfl (cX (Ht rfl))) (W.D_step (Ei:=[(22,_),(23,_)]) rfl rfl (W.Srcs.cons (W.Src.op 8 rfl rfl) (W.Srcs.cons (W.Src.op 9 rfl rfl) W.Srcs.nil)) rfl (by kernel_rfl) (dX rfl (bi U_293 Z_5 (Ht rfl) (Ht rfl) rfl (i:=1) rfl (by first | omega | (simp; omega)) rfl)) ?_)))
  refine W.D_step (Ei:=[(24,_)]) rfl rfl (W.Srcs.cons (W.Src.op 10 rfl rfl) W.Srcs.nil) rfl (by kernel_rfl) (dX rfl (ku A_5 Z_5 (Ht rfl) (i:=1) rfl rfl (eQ (ai zo)))) (W.D_step (Ei:=[(14,_),(15,_)]) rfl rfl (W.Srcs.cons (W.Src.op 0 rfl rfl) (W.Srcs.cons (W.Src.op 1 rfl rfl) W.Srcs.nil)) rfl (by kernel_rfl) (dX rfl (bi U_293 Z_5 (Ht rfl) (Ht rfl) rfl (i:=1) rfl (by first | omega | (simp; omega)) rfl)) (W.D_put (Ei:=[(26,_),(21,_)]) rfl rfl (W.Srcs.cons (W.Src.op 12 rfl rfl) (W.Srcs.cons (W.Src.op 7 rfl rfl) W.Srcs.nil)) rfl (ol Z_5 (Ht rfl) (Ht rfl) El.one (i:=1) rfl rfl (by first | omega | (simp; omega))) ?_))
  refine W.D_done aA rfl (by kernel_rfl) rfl (W.F_val (W.F_val (W.F_val (W.F_val (W.F_val (W.F_val (W.F_val (W.F_val (W.F_val (W.F_val (W.F_val (W.F_val (W.F_val (W.F_put (W.F_nil (ro rfl (bi U_293 Z_5 (Ht rfl) (Ht rfl) rfl (i:=1) rfl (by first | omega | (simp; omega)) rfl) (eL Z_5 (Ht rfl) (Ht rfl) El.one (i:=1) rfl rfl (by first | omega | (simp; omega)) rfl (eZ (aB (cY (rm rfl (ro rfl (dW (Ht rfl) (cJ 1) z6) (rm rfl (ro rfl (cq (Ht rfl) cV (kq zo)) ?_))))))))))))))))))))))))
  refine ra rfl (ra rfl (eZ (gQ (k + 1,_) (hS.next hk hj) (by dsimp only; omega) (aQ rfl (aQ rfl (aZ rfl (am zo) aX))) (aU (fun _ _ _ h=>h) (aU (ar (t6 _ _ _ _ _)) aY)))))
 ·simp only [decide_eq_false_iff_not] at hb
  have hfin:=hS.fin (by have:=hS.kle; omega)
  refine gK rfl ?_
  exact Be () trivial [0,1] ⟨⟨_,rfl,fun _ _ _ h=>h⟩,⟨_,rfl,(ar (by rw [hfin]))⟩,trivial⟩ (by decide) (E1 rfl (fun _=>trivial))
theorem r4 {m:Nat} (hm:(dg m).length ≤ 8796093022208):aw Tryz.prog 249 [ah m] (iP (kh m)):=by
 refine aw.intro Tryz.func249 rfl Tryz.ntmps249 rfl (fun cx=>(ts (ro rfl (cQ (ax.cS (l:=[]) rfl)) (eZ (cK (ts (rm rfl (ro rfl (dK U_47 (Ht rfl) a7) (ro rfl (aO (Ht rfl) (cJ 0)) (eZ (dQ (Ht rfl) (fun hb=>?_) (fun hb=>?_))))))))))))
 ·simp at hb
  have h0:m = 0:=al.1 (by simpa using hb)
  subst h0
  refine ts (ro rfl (cQ (ax.cS (l:=[48]) rfl)) (eZ (fK rfl (fJ (eY rfl) ?_))))
  exact (dx rfl)
 ·simp at hb
  have h0:m ≠ 0:=fun e=>hb (by rw [e,bz])
  refine cU (ts (ro rfl (cQ cV) (eZ (cK (eK (jk 5 1 ?_))))))
  refine eB (fun (x : Nat) (out : List Nat) (v : Value) => nl m out x ∧ x ≤ m) (fun (x : Nat) (out : List Nat) (v : Value) => x) (fun (x : Nat) (out : List Nat) (v : Value) => [(0, ah x), (3, Is v)]) (fun (x : Nat) (out : List Nat) (v : Value) => [aE 5 1 v (out.map ma)]) m [] (.slice none 0 0) ⟨nl.start m, Nat.le_refl m⟩
   (zS rfl) (br.refl _) (fun x out v ⟨hO,hle⟩=>?_)
  refine cK (ts (rm rfl (ro rfl (dK U_47 (Ht rfl) a7) (ro rfl (bR (Ht rfl) (cJ 0)) (eZ (dQ (Ht rfl) (fun hc=>?_) (fun hc=>?_)))))))
  ·simp at hc
   have hx0:x ≠ 0:=fun e=>by rw [e,bz] at hc; simp at hc
   have hxm:=cT hle
   refine cU (eK (ts (ro rfl (cQ (cJ 0)) (eZ (ts (rm rfl (ro rfl (cZ Tryz.call257 (tX zo (by decide) (by decide)) ⟨(Ht rfl),(cJ 1000000000),trivial⟩) (rm rfl (ro rfl (dU (Ht rfl) rfl) (ro rfl (dU (Ht rfl) rfl) (ra rfl (ra rfl (eZ (ts (ro rfl (cQ (cJ 0)) (eZ (eK ?_)))))))))))))))))
   refine kX (fun (r : Nat) (k : Nat) (out : List Nat) (v : Value) => mj m out (x / 1000000000) r k) (fun (r : Nat) (k : Nat) (out : List Nat) (v : Value) => 9 - k) (fun (r : Nat) (k : Nat) (out : List Nat) (v : Value) => [(0, ah (x / 1000000000)), (3, Is v), (4, aN r), (5, NT .i64 k)]) (fun (r : Nat) (k : Nat) (out : List Nat) (v : Value) => [aE 5 1 v (out.map ma)]) (x % 1000000000) 0 out v (hO.inner)
    (zS rfl) (br.refl _) (fun r k out v hI=>?_)
   refine cK (ts (rm rfl (ro rfl (gV (Ht rfl) (cJ 9)) (rm rfl (fX rfl rfl (eo rfl rfl (Ht rfl) (fun h=>cX (Ht rfl))) (fX rfl rfl (eo rfl rfl (Ht rfl) (fun h=>dK U_47 (ax.wu rfl h) a7)) (fX rfl rfl (eo rfl rfl (Ht rfl) (fun h=>bR (ax.wu rfl h) (cJ 0))) (fX rfl rfl (eo rfl rfl (Ht rfl) (fun h=>cX (ax.wu rfl h))) (fX rfl rfl (iZ rfl rfl rfl (fun h h2=>cX (Ht rfl))) (fX rfl rfl (iZ rfl rfl rfl (fun h h2=>bR (ax.wu rfl ⟨h,h2⟩) (cJ 0))) (fX rfl rfl (eo rfl rfl (Ht rfl) (fun h=>eP (ax.wu rfl h) (fun h2=>(ax.wu rfl ⟨h,h2⟩)))) ?_)))))))))))
   refine ro rfl (bx (Ht rfl) (fun h=>(ax.wu rfl h))) (eZ (dQ (Ht rfl) (fun hd=>?_) (fun hd=>?_)))
   ·simp at hd
    have hxr:0 < x / 1000000000 ∨ 0 < r:=hd.2.imp (fun h=>Nat.pos_of_ne_zero (fun e=>by rw [e,bz] at h; simp at h)) id
    have hln:=hI.len hxr
    have hr32:=hI.r32
    refine cU (cK (eK (ts (rm rfl (rm rfl (ro rfl (eD (Ht rfl) (cJ 10) zo) (ro rfl (dW (cJ 48) (Ht rfl) (by show _ < 4294967296; first | omega | (simp only [f9]; omega))) (ro rfl (gW U_189 U_5 (Ht rfl) (by show _ < 256; first | omega | (simp only [f9]; omega))) (ro rfl (bm (xs:=[.tmp 34]) U_293 Z_5 Tryz.zeroValue5 (cW (Ht rfl) cG) rfl rfl rfl) (gd (inf:=Tryz.t5) mD wQ rfl rfl rfl (Ht rfl) (Ht rfl) (i:=0) rfl (by simp) (fun T hT=>by simp at hT; subst hT; exact El.one) (by show _ * 1 ≤ _; simp only [List.length_map,List.length_cons,List.length_nil]; omega) (by simp only [List.length_map,List.length_cons,List.length_nil]; omega) rfl (fun v2=>?_)))))))))))
    refine ra rfl (eZ (cY (rm rfl (ro rfl (dr (Ht rfl) (cJ 10) zo (by show _ < 4294967296; first | omega | (simp only [f9]; omega))) (ra rfl (eZ (aB (cY (rm rfl (ro rfl (dW (Ht rfl) (cJ 1) z6) (ra rfl (eZ (gQ (r / 10,k + 1,_,v2) (hI.next hd.1 hxr) (by dsimp only; omega) (zS rfl) (aU (ar (wd _ _)) aY))))))))))))))
   ·simp at hd
    have hO2 := hI.fin (fun ⟨h1, h2⟩ => by
     have h3:=hd h1
     rcases h2 with h2 | h2
     ·have:=iG.1 h3.1; omega
     ·omega)
    refine gK rfl (aB (gQ (x / 1000000000,_,_) ⟨hO2,Nat.le_trans (Nat.div_le_self _ _) hle⟩ (Nat.div_lt_self (Nat.pos_of_ne_zero hx0) (by decide)) (zS rfl) (br.refl _)))
  ·simp at hc
   have hx0:x = 0:=al.1 (by simpa using hc)
   subst hx0
   have hfin:=hO.fin
   have hdl:=io m
   rw [hfin] at hdl
   refine gK rfl (ts (rm rfl (pU Tryz.call276 (DF zo) (i:=0) rfl ⟨(Ht rfl),trivial⟩ rfl (fun _ _=>(eZ (cK (gG (i:=0) (tt:=3) rfl rfl cg (cY (rm rfl (ro rfl (qo mD Ak AH (Ht rfl) (by rw [← hfin]; simpa using tc h0) (fun b hb=>vN (n:=m) b (by rw [k5 h0,hfin]; exact hb))) ?_))))))))))
   refine ra rfl (eZ (fK rfl (fJ (eY rfl) ?_)))
   exact (dx (by rw [k5 h0,hfin]))
end
section
open Go Go.RowKit
theorem kF {n : Nat} {E : aT} {H : Hp} {d : Option Tmp} {t : TypeId} {pos : String} {af : Array Edge} {g : Option (Nat × Bool)} {x0 x1 : Operand} {T0 T1 : Ty} [s0 : bg T0 1 false] (h0 : ax E x0 T0) [s1 : bg T1 1 false] (h1 : ax E x1 T1) :
  ae Tryz.prog n E H ⟨d,.build 49 #[(0,x0),(1,x1)],t,pos,af,g⟩ (bB [T0,T1]) :=
 cB (parts := [(0, x0), (1, x1)]) fun a V w hs => by
  have p0:=h0 n V a hs
  generalize e0:a.eval x0 = v0 at p0
  have q0:=(s0.ok v0 V p0).2.2 rfl
  have p1:=h1 n V a hs
  generalize e1:a.eval x1 = v1 at p1
  have q1:=(s1.ok v1 V p1).2.2 rfl
  refine ⟨.agg #[v0,v1],?_,[v0,v1],rfl,aW (⟨p0,q0⟩) (aW (⟨p1,q1⟩) (aG))⟩
  simp [e0,e1,Instr.build,Instr.fill,Sem.run_bind,Result.andThen,ca,q0.cells,q1.cells,O_49,U_49,Z_4,Z_47]
theorem eE (a:Addr) (w:World):(Instr.fieldAt 49 (.pointer (some a)) 0).run Tryz.prog w = .ok (.pointer (some (a.add 0))) w:=by
 simp [Instr.fieldAt,Instr.sureAddr,fieldPlace,Sem.run_bind,Result.andThen,U_49,Z_4]
theorem bP (a:Addr) (w:World):(Instr.fieldAt 49 (.pointer (some a)) 1).run Tryz.prog w = .ok (.pointer (some (a.add 1))) w:=by
 simp [Instr.fieldAt,Instr.sureAddr,fieldPlace,Sem.run_bind,Result.andThen,U_49,Z_47]
end
section
open Go Go.RowKit
theorem oW {n:Int} (h1:-9223372036854775808 ≤ n) (h2:n ≤ 9223372036854775807):aw Tryz.prog 177 [aa .i64 n] (cn n):=by
 refine aw.intro Tryz.func177 rfl Tryz.ntmps177 rfl (fun cx=>(ts (rn rfl (eG (Ts:=[Is (.bool false),Is (.slice none 0 0)]) O_49 rfl (fun V=>aW zd (aW zd (aG)))) fun B2=>(eZ (cK (ts (rm rfl (ro rfl (j7 (Ht rfl) cV) (eZ (dQ (Ht rfl) (fun hb=>?_) (fun hb=>?_)))))))))))
 ·have hn : n < 0 := by simpa using hb
  refine ts (rm rfl (ro rfl (k6 U_2 U_254 (Ht rfl) (r:=((18446744073709551616 - n.natAbs:Nat):Int)) (by rw [IntKind.wrap_u64]; omega)) ?_))
  refine ro rfl (pG (Ht rfl) (r:=((n.natAbs:Nat):Int)) (by rw [IntKind.wrap_u64]; omega)) ?_
  refine ro rfl (cZ Tryz.call241 (px zo) ⟨(Ht rfl),trivial⟩) (ro rfl (kF cV (Ht rfl)) (gJ Z_49 (Ht rfl) (Ht rfl) rfl (i:=0) rfl (aK rfl) rfl rfl (eZ (fK rfl (fJ (fY A_49 Z_49 rfl (i:=0) rfl rfl) ?_)))))
  exact (je (by rw [hb]; rfl))
 ·have hn : ¬ n < 0 := by simpa using hb
  refine cU (ts (rm rfl (ro rfl (k6 U_2 U_254 (Ht rfl) (r:=((n.natAbs:Nat):Int)) (by rw [IntKind.wrap_u64]; omega)) ?_)))
  refine ro rfl (cZ Tryz.call241 (px zo) ⟨(Ht rfl),trivial⟩) (ro rfl (kF cV (Ht rfl)) (gJ Z_49 (Ht rfl) (Ht rfl) rfl (i:=0) rfl (aK rfl) rfl rfl (eZ (fK rfl (fJ (fY A_49 Z_49 rfl (i:=0) rfl rfl) ?_)))))
  exact (je (by rw [hb]; rfl))
theorem gP {b:Bool} {m:Nat}:aw Tryz.prog 214 [a9 b,ah m] (cn (m9 b m)):=by
 refine aw.intro Tryz.func214 rfl Tryz.ntmps214 rfl (fun cx=>(ts (rn rfl (eG (Ts:=[Is (.bool false),Is (.slice none 0 0)]) O_49 rfl (fun V=>aW zd (aW zd (aG)))) fun B4=>(eZ (ts (rm rfl (rm rfl (fX rfl rfl (eU rfl rfl (Ht rfl) (fun h=>cX (Ht rfl))) (fX rfl rfl (eU rfl rfl (Ht rfl) (fun h=>dK U_47 (fW rfl h) a7)) (fX rfl rfl (eU rfl rfl (Ht rfl) (fun h=>bR (fW rfl h) (cJ 0))) (ro rfl (bx (Ht rfl) (fun h=>(fW rfl h))) (rm rfl ?_))))))))))))
 refine ro rfl (kF (Ht rfl) (Ht rfl)) (gJ Z_49 (Ht rfl) (Ht rfl) rfl (i:=0) rfl (aK rfl) rfl rfl (eZ (fK rfl (fJ (fY A_49 Z_49 rfl (i:=0) rfl rfl) ?_))))
 exact vr
theorem j2 {x:Int}:aw Tryz.prog 135 [cn x] (cn (-x)):=by
 refine aw.intro Tryz.func135 rfl Tryz.ntmps135 rfl (fun cx=>(ts (rn rfl (fU (Ht rfl)) fun B1=>(rn rfl (eG (Ts:=[Is (.bool false),Is (.slice none 0 0)]) O_49 rfl (fun V=>aW zd (aW zd (aG)))) fun B2=>(eZ (ts (ro rfl (eJ eE (Ht rfl) rfl) (ro rfl (fQ A_4 Z_4 (Ht rfl) (i:=0) rfl rfl) (ro rfl (bD (Ht rfl)) (ro rfl (eJ bP (Ht rfl) rfl) (ro rfl (fQ A_47 Z_47 (Ht rfl) (i:=0) rfl rfl) (ro rfl (cZ K_214 gP ⟨(Ht rfl),(Ht rfl),trivial⟩) ?_))))))))))))
 refine gJ Z_49 (Ht rfl) (Ht rfl) rfl (i:=1) rfl (aK rfl) rfl rfl (eZ (fK rfl (fJ (fY A_49 Z_49 rfl (i:=1) rfl rfl) ?_)))
 exact (gY (oi x))
theorem lP {x y:Int} (hx:(dg x.natAbs).length ≤ 17592186044416) (hy:(dg y.natAbs).length ≤ 17592186044416):aw Tryz.prog 133 [cn x,cn y] (cn (x + y)):=by
 refine aw.intro Tryz.func133 rfl Tryz.ntmps133 rfl (fun cx=>(ts (rn rfl (fU (Ht rfl)) fun B2=>(rn rfl (fU (Ht rfl)) fun B3=>(rn rfl (eG (Ts:=[Is (.bool false),Is (.slice none 0 0)]) O_49 rfl (fun V=>aW zd (aW zd (aG)))) fun B4=>(eZ (cK (ts (ro rfl (eJ eE (Ht rfl) rfl) (ro rfl (fQ A_4 Z_4 (Ht rfl) (i:=0) rfl rfl) (ro rfl (eJ eE (Ht rfl) rfl) (ro rfl (fQ A_4 Z_4 (Ht rfl) (i:=1) rfl rfl) (ro rfl (BK Tryz.runUnderlying4 (Ht rfl) (Ht rfl)) ?_)))))))))))))
 refine eZ (dQ (Ht rfl) (fun hb=>?_) (fun hb=>?_))
 ·have he : decide (x < 0) = decide (y < 0) := by simpa using hb
  refine cK (fV (m:=7) (dp 2 rfl (eJ eE (Ht rfl) rfl) (dq 10 0 rfl (fQ A_4 Z_4 (Ht rfl) (i:=0) rfl rfl) (dp 2 rfl (eJ bP (Ht rfl) rfl) (dq 12 2 rfl (fQ A_47 Z_47 (Ht rfl) (i:=0) rfl rfl) (dp 3 rfl (eJ bP (Ht rfl) rfl) (dq 14 4 rfl (fQ A_47 Z_47 (Ht rfl) (i:=1) rfl rfl) (bv 13 3 15 5 rfl (cZ Tryz.call215 (CR zo zo) ⟨(Ht rfl),(Ht rfl),trivial⟩) (fG aA rfl (by kernel_rfl) (zF (aJ (aJ (aJ (aV ?_))))))))))))))
  refine ro rfl (cZ K_214 gP ⟨(Ht rfl),(Ht rfl),trivial⟩) (gJ Z_49 (Ht rfl) (Ht rfl) rfl (i:=2) rfl (aK rfl) rfl rfl (eZ (fK rfl (fJ (fY A_49 Z_49 rfl (i:=2) rfl rfl) ?_))))
  exact (gY (xN he))
 ·have he : decide (x < 0) ≠ decide (y < 0) := by simpa using hb
  refine cU (cK (ts (ro rfl (eJ bP (Ht rfl) rfl) (ro rfl (fQ A_47 Z_47 (Ht rfl) (i:=0) rfl rfl) (ro rfl (eJ bP (Ht rfl) rfl) (ro rfl (fQ A_47 Z_47 (Ht rfl) (i:=1) rfl rfl) (ro rfl (cZ Tryz.call216 (vc zo zo) ⟨(Ht rfl),(Ht rfl),trivial⟩) (ro rfl (fu (Ht rfl) cV) (eZ (dQ (Ht rfl) (fun hc=>?_) (fun hc=>?_)))))))))))
  ·have hle : y.natAbs ≤ x.natAbs := u5 (by simpa using hc)
   refine cK (fV (m:=7) (dp 2 rfl (eJ eE (Ht rfl) rfl) (dq 24 0 rfl (fQ A_4 Z_4 (Ht rfl) (i:=0) rfl rfl) (dp 2 rfl (eJ bP (Ht rfl) rfl) (dq 26 2 rfl (fQ A_47 Z_47 (Ht rfl) (i:=0) rfl rfl) (dp 3 rfl (eJ bP (Ht rfl) rfl) (dq 28 4 rfl (fQ A_47 Z_47 (Ht rfl) (i:=1) rfl rfl) (bv 27 3 29 5 rfl (cZ Tryz.call217 (AK zo zo) ⟨(Ht rfl),(Ht rfl),trivial⟩) (fG aA rfl (by kernel_rfl) (zF (aJ (aJ (aJ (aV ?_))))))))))))))
   refine ro rfl (cZ K_214 gP ⟨(Ht rfl),(Ht rfl),trivial⟩) (gJ Z_49 (Ht rfl) (Ht rfl) rfl (i:=2) rfl (aK rfl) rfl rfl (eZ (fK rfl (fJ (fY A_49 Z_49 rfl (i:=2) rfl rfl) ?_))))
   exact (gY (qP he hle))
  ·have hle : x.natAbs ≤ y.natAbs := Nat.le_of_lt (t8 (by simpa using hc))
   refine cU (cK (fV (m:=7) (dp 3 rfl (eJ eE (Ht rfl) rfl) (dq 32 0 rfl (fQ A_4 Z_4 (Ht rfl) (i:=1) rfl rfl) (dp 3 rfl (eJ bP (Ht rfl) rfl) (dq 34 2 rfl (fQ A_47 Z_47 (Ht rfl) (i:=1) rfl rfl) (dp 2 rfl (eJ bP (Ht rfl) rfl) (dq 36 4 rfl (fQ A_47 Z_47 (Ht rfl) (i:=0) rfl rfl) (bv 35 3 37 5 rfl (cZ Tryz.call217 (AK zo zo) ⟨(Ht rfl),(Ht rfl),trivial⟩) (fG aA rfl (by kernel_rfl) (zF (aJ (aJ (aJ (aV ?_)))))))))))))))
   refine ro rfl (cZ K_214 gP ⟨(Ht rfl),(Ht rfl),trivial⟩) (gJ Z_49 (Ht rfl) (Ht rfl) rfl (i:=2) rfl (aK rfl) rfl rfl (eZ (fK rfl (fJ (fY A_49 Z_49 rfl (i:=2) rfl rfl) ?_))))
   exact (gY (by rw [qP (Ne.symm he) hle,Int.add_comm]))
theorem jX {x y:Int} (hx:(dg x.natAbs).length ≤ 17592186044416) (hy:(dg y.natAbs).length ≤ 17592186044416):aw Tryz.prog 132 [cn x,cn y] (cn (x * y)):=by
 refine aw.intro Tryz.func132 rfl Tryz.ntmps132 rfl (fun cx=>(ts (rn rfl (fU (Ht rfl)) fun B2=>(rn rfl (fU (Ht rfl)) fun B3=>(rn rfl (eG (Ts:=[Is (.bool false),Is (.slice none 0 0)]) O_49 rfl (fun V=>aW zd (aW zd (aG)))) fun B4=>(eZ (cK (fV (m:=10) (dp 2 rfl (eJ eE (Ht rfl) rfl) (dq 5 0 rfl (fQ A_4 Z_4 (Ht rfl) (i:=0) rfl rfl) (dp 3 rfl (eJ eE (Ht rfl) rfl) (dq 7 2 rfl (fQ A_4 Z_4 (Ht rfl) (i:=1) rfl rfl) (bv 6 1 8 3 rfl (Cf Tryz.runUnderlying4 (Ht rfl) (Ht rfl)) ?_)))))))))))))
 refine dp 2 rfl (eJ bP (Ht rfl) rfl) (dq 10 5 rfl (fQ A_47 Z_47 (Ht rfl) (i:=0) rfl rfl) (dp 3 rfl (eJ bP (Ht rfl) rfl) (dq 12 7 rfl (fQ A_47 Z_47 (Ht rfl) (i:=1) rfl rfl) (bv 11 6 13 8 rfl (cZ Tryz.call138 (qE zo zo) ⟨(Ht rfl),(Ht rfl),trivial⟩) (fG aA rfl (by kernel_rfl) (zF (zF (aJ (aJ (aV (ro rfl (cZ K_214 gP ⟨(Ht rfl),(Ht rfl),trivial⟩) (gJ Z_49 (Ht rfl) (Ht rfl) rfl (i:=2) rfl (aK rfl) rfl rfl ?_))))))))))))
 refine eZ (fK rfl (fJ (fY A_49 Z_49 rfl (i:=2) rfl rfl) ?_))
 exact (gY (uf x y))
theorem eT {x:Int} {n:Nat} (hx:(dg x.natAbs).length ≤ 17592186044416) (hn:(dg n).length ≤ 17592186044416):aw Tryz.prog 136 [cn x,ah n] (cn (x * n)):=by
 refine aw.intro Tryz.func136 rfl Tryz.ntmps136 rfl (fun cx=>(ts (rn rfl (fU (Ht rfl)) fun B2=>(rn rfl (eG (Ts:=[Is (.bool false),Is (.slice none 0 0)]) O_49 rfl (fun V=>aW zd (aW zd (aG)))) fun B4=>(eZ (cK (fV (m:=6) (dp 2 rfl (eJ eE (Ht rfl) rfl) (dq 5 0 rfl (fQ A_4 Z_4 (Ht rfl) (i:=0) rfl rfl) (dp 2 rfl (eJ bP (Ht rfl) rfl) (dq 7 2 rfl (fQ A_47 Z_47 (Ht rfl) (i:=0) rfl rfl) (dp 1 rfl (cX (Ht rfl)) (bv 8 3 9 4 rfl (cZ Tryz.call138 (qE zo zo) ⟨(Ht rfl),(Ht rfl),trivial⟩) ?_)))))))))))))
 refine fG aA rfl (by kernel_rfl) (zF (aJ (aJ (aV (ro rfl (cZ K_214 gP ⟨(Ht rfl),(Ht rfl),trivial⟩) (gJ Z_49 (Ht rfl) (Ht rfl) rfl (i:=1) rfl (aK rfl) rfl rfl (eZ (fK rfl (fJ (fY A_49 Z_49 rfl (i:=1) rfl rfl) ?_)))))))))
 exact (gY (sA x n))
theorem pV {x y:Int} (hx:(dg x.natAbs).length ≤ 17592186044415) (hy:(dg y.natAbs).length ≤ 17592186044415):aw Tryz.prog 176 [cn x,cn y] (aa .i64 (go x y)):=by
 have hny:=kC y
 have hs:=gO (x:=x) (y:=-y) hx zo
 refine aw.intro Tryz.func176 rfl Tryz.ntmps176 rfl (fun cx=>(ts (rn rfl (fU (Ht rfl)) fun B2=>(rn rfl (fU (Ht rfl)) fun B3=>(ro rfl (cQ (cJ 0)) (eZ (cK (fV (m:=5) (dp 2 rfl (eW A_49 Z_49 (Ht rfl) (i:=0) rfl rfl rfl) (dp 3 rfl (eW A_49 Z_49 (Ht rfl) (i:=1) rfl rfl rfl) (dq 7 1 rfl (cZ K_135 j2 ⟨(Ht rfl),trivial⟩) (bv 6 0 8 2 rfl (cZ K_133 (lP zo zo) ⟨(Ht rfl),(Ht rfl),trivial⟩) (C.D_new (Ei:=[]) rfl rfl rfl bW (eG (Ts:=[Is (.bool false),Is (.slice none 0 0)]) O_49 rfl (fun V=>aW zd (aW zd (aG)))) ?_)))))))))))))
 refine fG aA rfl (by kernel_rfl) (zF (C.F_new (fun B5=>aV (gJ Z_49 (Ht rfl) (Ht rfl) rfl (i:=2) rfl (aK rfl) rfl rfl (eZ (cK (ts (ro rfl (eJ eE (Ht rfl) rfl) (ro rfl (fQ A_4 Z_4 (Ht rfl) (i:=2) rfl rfl) (eZ (dQ (Ht rfl) (fun hb=>?_) (fun hb=>?_))))))))))))
 ·have hn : x + -y < 0 := by simpa using hb
  refine ts (ro rfl (cQ cV) (eZ (fK rfl (fJ (eY rfl) ?_))))
  exact (am (zA hn))
 ·have hn : ¬ x + -y < 0 := by simpa using hb
  refine cU (ts (ro rfl (eJ bP (Ht rfl) rfl) (ro rfl (fQ A_47 Z_47 (Ht rfl) (i:=2) rfl rfl) (ro rfl (dK U_47 (Ht rfl) a7) (ro rfl (tE (Ht rfl) (cJ 1)) (ra rfl (eZ (fK rfl (fJ (eY rfl) ?_)))))))))
  exact (am (zr hn))
end
section
open Go Go.RowKit
theorem xr {n : Nat} {E : aT} {H : Hp} {d : Option Tmp} {t : TypeId} {pos : String} {af : Array Edge} {g : Option (Nat × Bool)} {x0 : Operand} {T0 T1 : Ty} (h0 : ax E x0 (bB [T0, T1])) :
  ae Tryz.prog n E H ⟨d,.build 51 #[(0,x0)],t,pos,af,g⟩ (bB [T0,T1,Is (.bool false),Is (.slice none 0 0),Is (.slice none 0 0)]) :=
 cB (parts := [(0, x0)]) fun a V w hs => by
  obtain ⟨v0,e0,c0⟩:=h0 n V a hs
  obtain ⟨c0_0,c0_1,rfl⟩:∃ c0_0 c0_1,v0 = [c0_0,c0_1]:=qO (by simpa using c0.length)
  refine ⟨.agg #[c0_0,c0_1,(.bool false),(.slice none 0 0),(.slice none 0 0)],?_,[c0_0,c0_1,(.bool false),(.slice none 0 0),(.slice none 0 0)],rfl,aW (c0.at (i:=0) rfl rfl) (aW (c0.at (i:=1) rfl rfl) (aW (⟨rfl,trivial⟩) (aW (⟨rfl,trivial⟩) (aW (⟨rfl,trivial⟩) (aG)))))⟩
  simp [e0,Instr.build,Instr.fill,Sem.run_bind,Result.andThen,ca,O_51,U_51,Z_47,Z_49]
theorem lg {n : Nat} {E : aT} {H : Hp} {d : Option Tmp} {t : TypeId} {pos : String} {af : Array Edge} {g : Option (Nat × Bool)} {x0 x1 x2 : Operand} {T0 T1 T2 T3 T4 : Ty} (h0 : ax E x0 (bB [T0, T1])) (h1 : ax E x1 (bB [T2, T3])) [s2 : bg T4 1 false] (h2 : ax E x2 T4) :
  ae Tryz.prog n E H ⟨d,.build 51 #[(0,x0),(1,x1),(2,x2)],t,pos,af,g⟩ (bB [T0,T1,T2,T3,T4]) :=
 cB (parts := [(0, x0), (1, x1), (2, x2)]) fun a V w hs => by
  obtain ⟨v0,e0,c0⟩:=h0 n V a hs
  obtain ⟨c0_0,c0_1,rfl⟩:∃ c0_0 c0_1,v0 = [c0_0,c0_1]:=qO (by simpa using c0.length)
  obtain ⟨v1,e1,c1⟩:=h1 n V a hs
  obtain ⟨c1_0,c1_1,rfl⟩:∃ c1_0 c1_1,v1 = [c1_0,c1_1]:=qO (by simpa using c1.length)
  have p2:=h2 n V a hs
  generalize e2:a.eval x2 = v2 at p2
  have q2:=(s2.ok v2 V p2).2.2 rfl
  refine ⟨.agg #[c0_0,c0_1,c1_0,c1_1,v2],?_,[c0_0,c0_1,c1_0,c1_1,v2],rfl,aW (c0.at (i:=0) rfl rfl) (aW (c0.at (i:=1) rfl rfl) (aW (c1.at (i:=0) rfl rfl) (aW (c1.at (i:=1) rfl rfl) (aW (⟨p2,q2⟩) (aG)))))⟩
  simp [e0,e1,e2,Instr.build,Instr.fill,Sem.run_bind,Result.andThen,ca,q2.cells,O_51,U_51,Z_47,Z_49]
theorem cz (a:Addr) (w:World):(Instr.fieldAt 51 (.pointer (some a)) 0).run Tryz.prog w = .ok (.pointer (some (a.add 0))) w:=by
 simp [Instr.fieldAt,Instr.sureAddr,fieldPlace,Sem.run_bind,Result.andThen,U_51,Z_49]
theorem d3 (a:Addr) (w:World):(Instr.fieldAt 51 (.pointer (some a)) 1).run Tryz.prog w = .ok (.pointer (some (a.add 2))) w:=by
 simp [Instr.fieldAt,Instr.sureAddr,fieldPlace,Sem.run_bind,Result.andThen,U_51,Z_49]
theorem j8 (a:Addr) (w:World):(Instr.fieldAt 51 (.pointer (some a)) 2).run Tryz.prog w = .ok (.pointer (some (a.add 4))) w:=by
 simp [Instr.fieldAt,Instr.sureAddr,fieldPlace,Sem.run_bind,Result.andThen,U_51,Z_47]
end
section
open Go Go.RowKit
theorem lZ {A B:Int} {D:Nat} (hD:0 < D) (hA:(dg A.natAbs).length ≤ 17592186044415) (hB:(dg B.natAbs).length ≤ 17592186044415) (hD2:(dg D).length ≤ 17592186044415):aw Tryz.prog 134 [cn A,cn B,ah D] (ab (Qi.mk' A B D)):=by
 have hg1:=nu hA hB
 have hg2:=nu hg1 hD2
 have hgp:Nat.gcd (Nat.gcd A.natAbs B.natAbs) D ≠ 0:=fun e=>by have:=Nat.gcd_eq_zero_iff.1 e; omega
 refine aw.intro Tryz.func134 rfl Tryz.ntmps134 rfl (fun cx=>(ts (rn rfl (fU (Ht rfl)) fun B3=>(rn rfl (fU (Ht rfl)) fun B4=>(rn rfl (eG (Ts:=[Is (.bool false),Is (.slice none 0 0),Is (.bool false),Is (.slice none 0 0),Is (.slice none 0 0)]) O_51 rfl (fun V=>aW zd (aW zd (aW zd (aW zd (aW zd (aG))))))) fun B6=>(eZ (ts (ro rfl (eJ bP (Ht rfl) rfl) (ro rfl (fQ A_47 Z_47 (Ht rfl) (i:=0) rfl rfl) ?_)))))))))
 refine ro rfl (eJ bP (Ht rfl) rfl) (ro rfl (fQ A_47 Z_47 (Ht rfl) (i:=1) rfl rfl) (ro rfl (cZ Tryz.call218 (Ay zo zo) ⟨(Ht rfl),(Ht rfl),trivial⟩) (rm rfl (ro rfl (cZ Tryz.call218 (Ay zo zo) ⟨(Ht rfl),(Ht rfl),trivial⟩) (ra rfl (eZ (cK (dz (fun (uu:Unit)=>True) (fun (uu:Unit)=>[(2,ah (D / (Nat.gcd (Nat.gcd A.natAbs B.natAbs) D))),(3,aH B3 0),(4,aH B4 0),(6,aH B6 0)]) (fun (uu:Unit)=>[box B3 49 [a9 (decide (A < 0)),ah (A.natAbs / (Nat.gcd (Nat.gcd A.natAbs B.natAbs) D))],box B4 49 [a9 (decide (B < 0)),ah (B.natAbs / (Nat.gcd (Nat.gcd A.natAbs B.natAbs) D))],box B6 51 [Is (.bool false),Is (.slice none 0 0),Is (.bool false),Is (.slice none 0 0),Is (.slice none 0 0)]]) ?_ (fun uu _=>?_)))))))))
 ·refine ts (rm rfl (ro rfl (cZ Tryz.call219 AR ⟨(Ht rfl), trivial⟩) (ro rfl (bD (Ht rfl)) (eZ (dQ (Ht rfl) (fun hb => ?_) (fun hb => ?_))))))
  ·simp at hb
   refine ts (ro rfl (eJ bP (Ht rfl) rfl) (ro rfl (fQ A_47 Z_47 (Ht rfl) (i:=0) rfl rfl) (rm rfl (ro rfl (cZ Tryz.call220 (tB zo zo zo) ⟨(Ht rfl),(Ht rfl),trivial⟩) (rm rfl (ro rfl (dU (Ht rfl) rfl) (ro rfl (dU (Ht rfl) rfl) (ro rfl (eJ bP (Ht rfl) rfl) (dI Z_47 (Ht rfl) (Ht rfl) (i:=0) rfl (aK rfl) rfl (eZ (ts (ro rfl (eJ bP (Ht rfl) rfl) (ro rfl (fQ A_47 Z_47 (Ht rfl) (i:=1) rfl rfl) (rm rfl (ro rfl (cZ Tryz.call220 (tB zo zo zo) ⟨(Ht rfl),(Ht rfl),trivial⟩) ?_)))))))))))))))
   refine rm rfl (ro rfl (dU (Ht rfl) rfl) (ro rfl (dU (Ht rfl) rfl) (ro rfl (eJ bP (Ht rfl) rfl) (dI Z_47 (Ht rfl) (Ht rfl) (i:=1) rfl (aK rfl) rfl (eZ (cY (rm rfl (rm rfl (ro rfl (cZ Tryz.call220 (tB zo zo zo) ⟨(Ht rfl),(Ht rfl),trivial⟩) (rm rfl (ro rfl (dU (Ht rfl) rfl) (ro rfl (dU (Ht rfl) rfl) (ra rfl (eZ (au () trivial (zS rfl) (aU (a8 (by first | rfl | simp)) (aU (a8 (by first | rfl | simp)) (aU (a8 rfl) aY))))))))))))))))))
  ·simp at hb
   refine cU (au () trivial (aZ rfl (bd (by rw [hb,Nat.div_one])) (zS rfl)) (aU (a8 (by rw [hb,Nat.div_one])) (aU (a8 (by rw [hb,Nat.div_one])) (aU (a8 rfl) aY))))
 ·refine cK (dz (fun (uu : Unit) => True) (fun (uu : Unit) => [(2, ah (if D / (Nat.gcd (Nat.gcd A.natAbs B.natAbs) D) = 1 then 0 else D / (Nat.gcd (Nat.gcd A.natAbs B.natAbs) D))), (3, aH B3 0), (4, aH B4 0), (6, aH B6 0)]) (fun (uu : Unit) => [box B3 49 [a9 (decide (A < 0)), ah (A.natAbs / (Nat.gcd (Nat.gcd A.natAbs B.natAbs) D))], box B4 49 [a9 (decide (B < 0)), ah (B.natAbs / (Nat.gcd (Nat.gcd A.natAbs B.natAbs) D))], box B6 51 [Is (.bool false), Is (.slice none 0 0), Is (.bool false), Is (.slice none 0 0), Is (.slice none 0 0)]]) ?_ (fun uu _ => ?_))
  ·refine ts (rm rfl (ro rfl (cZ Tryz.call219 AR ⟨(Ht rfl), trivial⟩) (eZ (dQ (Ht rfl) (fun hb => ?_) (fun hb => ?_)))))
   ·simp only [decide_eq_true_eq] at hb
    refine cY (ro rfl (cQ cV) (eZ (au () trivial (aZ rfl (fun v V h=>bd (by rw [if_pos hb]) v V (et v V h)) (zS rfl)) (br.refl _))))
   ·simp only [decide_eq_false_iff_not] at hb
    refine cU (au () trivial (aZ rfl (bd (by rw [if_neg hb])) (zS rfl)) (br.refl _))
  ·refine ts (ro rfl (eW A_49 Z_49 (Ht rfl) (i := 0) rfl rfl rfl) (ro rfl (eW A_49 Z_49 (Ht rfl) (i := 1) rfl rfl rfl) (rm rfl (ro rfl (lg (Ht rfl) (Ht rfl) (Ht rfl)) (gJ Z_51 (Ht rfl) (Ht rfl) rfl (i := 2) rfl (aK rfl) rfl rfl (eZ (fK rfl (fJ (fY A_51 Z_51 rfl (i := 2) rfl rfl) ?_))))))))
   exact (yY hD)
theorem iq {x:Qi}:aw Tryz.prog 137 [ab x] (ah x.den):=by
 refine aw.intro Tryz.func137 rfl Tryz.ntmps137 rfl (fun cx=>(ts (rn rfl (fU (Ht rfl)) fun B1=>(ro rfl (cQ cV) (eZ (cK (ts (ro rfl (eJ j8 (Ht rfl) rfl) (ro rfl (fQ A_47 Z_47 (Ht rfl) (i:=0) rfl rfl) (ro rfl (dK U_47 (Ht rfl) a7) (ro rfl (aO (Ht rfl) (cJ 0)) (eZ (dQ (Ht rfl) (fun hb=>?_) (fun hb=>?_))))))))))))))
 ·simp at hb
  have h1:x.den = 1:=mt (al.1 (by simpa using hb))
  refine ts (ro rfl (bm (xs:=[_]) U_47 Z_189 O_189 (cW (cJ 1) cG) rfl rfl rfl) (ra rfl (eZ (fK rfl (fJ (eY rfl) ?_)))))
  exact (fun v V h=>bd h1.symm v V (qu v V h))
 ·simp at hb
  have h1:du x = x.den:=kO (fun e=>hb (by simp [e,bz]))
  refine cU (ts (ro rfl (eJ j8 (Ht rfl) rfl) (ro rfl (fQ A_47 Z_47 (Ht rfl) (i:=0) rfl rfl) (ra rfl (eZ (fK rfl (fJ (eY rfl) ?_)))))))
  exact (bd h1)
theorem th {n:Int} (h1:-9223372036854775808 ≤ n) (h2:n ≤ 9223372036854775807):aw Tryz.prog 77 [aa .i64 n] (ab (Qi.ofInt n)):=by
 refine aw.intro Tryz.func77 rfl Tryz.ntmps77 rfl (fun cx=>(ts (rn rfl (eG (Ts:=[Is (.bool false),Is (.slice none 0 0),Is (.bool false),Is (.slice none 0 0),Is (.slice none 0 0)]) O_51 rfl (fun V=>aW zd (aW zd (aW zd (aW zd (aW zd (aG))))))) fun B2=>(eZ (ts (rm rfl (ro rfl (cZ Tryz.call177 (oW h1 h2) ⟨(Ht rfl),trivial⟩) (ro rfl (xr (Ht rfl)) (gJ Z_51 (Ht rfl) (Ht rfl) rfl (i:=0) rfl (aK rfl) rfl rfl ?_)))))))))
 refine eZ (fK rfl (fJ (fY A_51 Z_51 rfl (i:=0) rfl rfl) ?_))
 exact tM
theorem CI {p q d:Int} (p1:-9223372036854775808 ≤ p) (p2:p ≤ 9223372036854775807) (q1:-9223372036854775808 ≤ q) (q2:q ≤ 9223372036854775807) (d1:-9223372036854775808 ≤ d) (d2:d ≤ 9223372036854775807) (hd:d ≠ 0):aw Tryz.prog 141 [aa .i64 p,aa .i64 q,aa .i64 d] (bo [ab (Qi.frac p q d),aa .i64 0]):=by
 have lp:=uo p1 p2; have lq:=uo q1 q2; have ld:=uo d1 d2; have np:=kC p; have nq:=kC q
 refine aw.intro Tryz.func141 rfl Tryz.ntmps141 rfl (fun cx=>(ts (rn rfl (eG (Ts:=[Is (.bool false),Is (.slice none 0 0),Is (.bool false),Is (.slice none 0 0),Is (.slice none 0 0)]) O_51 rfl (fun V=>aW zd (aW zd (aW zd (aW zd (aW zd (aG))))))) fun B6=>(ro rfl (cQ (cJ 0)) (eZ (cK (ts (rm rfl (ro rfl (di (Ht rfl) cV) (eZ (cb (Ht rfl) (by simp [hd]) ?_)))))))))))
 refine cU (ts (rm rfl (ro rfl (cZ Tryz.call177 (oW p1 p2) ⟨(Ht rfl),trivial⟩) (rm rfl (ro rfl (cZ Tryz.call177 (oW q1 q2) ⟨(Ht rfl),trivial⟩) (rm rfl (ro rfl (cZ Tryz.call177 (oW d1 d2) ⟨(Ht rfl),trivial⟩) (rn rfl (eG (Ts:=[Is (.bool false),Is (.slice none 0 0)]) O_49 rfl (fun V=>aW zd (aW zd (aG)))) fun B8=>(rn rfl (eG (Ts:=[Is (.bool false),Is (.slice none 0 0)]) O_49 rfl (fun V=>aW zd (aW zd (aG)))) fun B9=>?_)))))))))
 refine rn rfl (eG (Ts:=[Is (.bool false),Is (.slice none 0 0)]) O_49 rfl (fun V=>aW zd (aW zd (aG)))) fun B10=>gJ Z_49 (Ht rfl) (Ht rfl) rfl (i:=1) rfl (aK rfl) rfl rfl (gJ Z_49 (Ht rfl) (Ht rfl) rfl (i:=2) rfl (aK rfl) rfl rfl (gJ Z_49 (Ht rfl) (Ht rfl) rfl (i:=3) rfl (aK rfl) rfl rfl (eZ (cK (jc (fun (a:Int) (b:Int)=>Qi.mk' a b d.natAbs = Qi.frac p q d ∧ (dg a.natAbs).length ≤ 2 ∧ (dg b.natAbs).length ≤ 2) (fun (a:Int) (b:Int)=>[(6,aH B6 0),(8,aH B8 0),(9,aH B9 0),(10,aH B10 0)]) (fun (a:Int) (b:Int)=>[box B6 51 [Is (.bool false),Is (.slice none 0 0),Is (.bool false),Is (.slice none 0 0),Is (.slice none 0 0)],box B8 49 [a9 (decide (a < 0)),ah (a).natAbs],box B9 49 [a9 (decide (b < 0)),ah (b).natAbs],box B10 49 [a9 (decide (d < 0)),ah (d).natAbs]]) ?_ (fun a b ⟨hab,ha,hb⟩=>?_))))))
 ·refine ts (ro rfl (eJ eE (Ht rfl) rfl) (ro rfl (fQ A_4 Z_4 (Ht rfl) (i := 3) rfl rfl) (eZ (dQ (Ht rfl) (fun hn => ?_) (fun hn => ?_)))))
  ·simp only [decide_eq_true_eq] at hn
   refine fV (m:=3) (dp 8 rfl (eW A_49 Z_49 (Ht rfl) (i:=1) rfl rfl rfl) (dq 22 0 rfl (cZ K_135 j2 ⟨(Ht rfl),trivial⟩) (dp 9 rfl (eW A_49 Z_49 (Ht rfl) (i:=2) rfl rfl rfl) (fG aA rfl (by kernel_rfl) (aJ (aJ (aJ (aV (ro rfl (cZ K_135 j2 ⟨(Ht rfl),trivial⟩) (gJ Z_49 (Ht rfl) (Ht rfl) rfl (i:=1) rfl (aK rfl) rfl rfl (gJ Z_49 (Ht rfl) (Ht rfl) rfl (i:=2) rfl (aK rfl) rfl rfl (eZ (au (-p,-q) ⟨Qi.frac_neg hn,by dsimp only; omega,by dsimp only; omega⟩ (zS rfl) (aU (a8 rfl) (aU (a8 rfl) (aU (a8 rfl) (aU (a8 rfl) aY)))))))))))))))))
  ·simp only [decide_eq_false_iff_not] at hn
   refine cU (au (p,q) ⟨Qi.frac_pos hn hd,by omega,by omega⟩ (zS rfl) (br.refl _))
 ·refine ts (ro rfl (eW A_49 Z_49 (Ht rfl) (i := 1) rfl rfl rfl) (ro rfl (eW A_49 Z_49 (Ht rfl) (i := 2) rfl rfl rfl) (ro rfl (eJ bP (Ht rfl) rfl) (ro rfl (fQ A_47 Z_47 (Ht rfl) (i := 3) rfl rfl) (ro rfl (cZ K_134 (lZ zo zo zo zo) ⟨(Ht rfl), (Ht rfl), (Ht rfl), trivial⟩) (gJ Z_51 (Ht rfl) (Ht rfl) rfl (i := 0) rfl (aK rfl) rfl rfl (ro rfl (cQ (cJ 0)) (eZ (aC rfl (fJ (fY A_51 Z_51 rfl (i := 0) rfl rfl) ?_) (eY rfl))))))))))
  exact (cv hab)
theorem n8 {x y:Qi} {L M:Nat} [hx:an x L] [hy:an y M] (h:L + M + 1 ≤ 17592186044415):aw Tryz.prog 46 [ab x,ab y] (ab (x + y)):=by
 have hxa:=gf hx.fit; have hxb:=g7 hx.fit; have hxd:=ga hx.fit
 have hya:=gf hy.fit; have hyb:=g7 hy.fit; have hyd:=ga hy.fit
 have hxp:=x.den_pos; have hyp:=y.den_pos; have hdp:=Nat.mul_pos hxp hyp
 have e1:=cA x.a y.den; have e2:=cA y.a x.den; have e3:=cA x.b y.den; have e4:=cA y.b x.den; have e5:=n3 x.den y.den
 have e6:=gO (x:=x.a * y.den) (y:=y.a * x.den) (L:=L + M) zo zo; have e7:=gO (x:=x.b * y.den) (y:=y.b * x.den) (L:=L + M) zo zo
 refine aw.intro Tryz.func46 rfl Tryz.ntmps46 rfl (fun cx=>(ts (rn rfl (fU (Ht rfl)) fun B2=>(rn rfl (fU (Ht rfl)) fun B3=>(rn rfl (eG (Ts:=[Is (.bool false),Is (.slice none 0 0),Is (.bool false),Is (.slice none 0 0),Is (.slice none 0 0)]) O_51 rfl (fun V=>aW zd (aW zd (aW zd (aW zd (aW zd (aG))))))) fun B4=>(eZ (cK (fV (m:=3) (dp 2 rfl (eW A_51 Z_51 (Ht rfl) (i:=0) rfl rfl rfl) (dq 7 0 rfl (cZ K_137 iq ⟨(Ht rfl),trivial⟩) ?_))))))))))
 refine dp 3 rfl (eW A_51 Z_51 (Ht rfl) (i:=1) rfl rfl rfl) (fG aA rfl (by kernel_rfl) (aJ (aJ (aJ (aV (ro rfl (cZ K_137 iq ⟨(Ht rfl),trivial⟩) (ra rfl (ra rfl (eZ (cK (fV (m:=20) (dp 2 rfl (eJ cz (Ht rfl) rfl) (dq 11 0 rfl (eW A_49 Z_49 (Ht rfl) (i:=0) rfl rfl rfl) (dp 6 rfl (cX (Ht rfl)) (bv 12 1 13 2 rfl (cZ K_136 (eT zo zo) ⟨(Ht rfl),(Ht rfl),trivial⟩) (dp 3 rfl (eJ cz (Ht rfl) rfl) (dq 15 4 rfl (eW A_49 Z_49 (Ht rfl) (i:=1) rfl rfl rfl) ?_)))))))))))))))))
 refine dp 5 rfl (cX (Ht rfl)) (bv 16 5 17 6 rfl (cZ K_136 (eT zo zo) ⟨(Ht rfl),(Ht rfl),trivial⟩) (bv 14 3 18 7 rfl (cZ K_133 (lP zo zo) ⟨(Ht rfl),(Ht rfl),trivial⟩) (dp 2 rfl (eJ d3 (Ht rfl) rfl) (dq 20 9 rfl (eW A_49 Z_49 (Ht rfl) (i:=0) rfl rfl rfl) (dp 6 rfl (cX (Ht rfl)) (bv 21 10 22 11 rfl (cZ K_136 (eT zo zo) ⟨(Ht rfl),(Ht rfl),trivial⟩) (dp 3 rfl (eJ d3 (Ht rfl) rfl) (dq 24 13 rfl (eW A_49 Z_49 (Ht rfl) (i:=1) rfl rfl rfl) ?_))))))))
 refine dp 5 rfl (cX (Ht rfl)) (bv 25 14 26 15 rfl (cZ K_136 (eT zo zo) ⟨(Ht rfl),(Ht rfl),trivial⟩) (bv 23 12 27 16 rfl (cZ K_133 (lP zo zo) ⟨(Ht rfl),(Ht rfl),trivial⟩) (dp 5 rfl (cX (Ht rfl)) (dp 6 rfl (cX (Ht rfl)) (fG aA rfl (by kernel_rfl) (zF (zF (zF (zF (zF (aV (ro rfl (cZ Tryz.call138 (qE zo zo) ⟨(Ht rfl),(Ht rfl),trivial⟩) ?_))))))))))))
 refine ro rfl (cZ K_134 (lZ (by first | assumption | omega) zo zo zo) ⟨(Ht rfl),(Ht rfl),(Ht rfl),trivial⟩) (gJ Z_51 (Ht rfl) (Ht rfl) rfl (i:=2) rfl (aK rfl) rfl rfl (eZ (fK rfl (fJ (fY A_51 Z_51 rfl (i:=2) rfl rfl) ?_))))
 exact (cv (Qi.mk_add x y))
theorem Do {x:Qi}:aw Tryz.prog 140 [ab x] (ab (-x)):=by
 refine aw.intro Tryz.func140 rfl Tryz.ntmps140 rfl (fun cx=>(ts (rn rfl (fU (Ht rfl)) fun B1=>(rn rfl (eG (Ts:=[Is (.bool false),Is (.slice none 0 0),Is (.bool false),Is (.slice none 0 0),Is (.slice none 0 0)]) O_51 rfl (fun V=>aW zd (aW zd (aW zd (aW zd (aW zd (aG))))))) fun B2=>(eZ (cK (fV (m:=8) (dp 1 rfl (eJ cz (Ht rfl) rfl) (dq 3 0 rfl (eW A_49 Z_49 (Ht rfl) (i:=0) rfl rfl rfl) (dq 4 1 rfl (cZ K_135 j2 ⟨(Ht rfl),trivial⟩) ?_))))))))))
 refine dp 1 rfl (eJ d3 (Ht rfl) rfl) (dq 6 3 rfl (eW A_49 Z_49 (Ht rfl) (i:=0) rfl rfl rfl) (dq 7 4 rfl (cZ K_135 j2 ⟨(Ht rfl),trivial⟩) (dp 1 rfl (eJ j8 (Ht rfl) rfl) (dq 9 6 rfl (fQ A_47 Z_47 (Ht rfl) (i:=0) rfl rfl) (fG aA rfl (by kernel_rfl) (zF (zF (aV (ro rfl (lg (Ht rfl) (Ht rfl) (Ht rfl)) (gJ Z_51 (Ht rfl) (Ht rfl) rfl (i:=1) rfl (aK rfl) rfl rfl (eZ (fK rfl (fJ (fY A_51 Z_51 rfl (i:=1) rfl rfl) ?_)))))))))))))
 exact (je (by obtain ⟨e1,e2,e3⟩:=Qi.neg_a x; rw [e1,e2,D0 e3]; rfl))
theorem kZ {x y:Qi} {L M:Nat} [hx:an x L] [hy:an y M] (h:L + M + 1 ≤ 17592186044415):aw Tryz.prog 44 [ab x,ab y] (ab (x - y)):=by
 have hxa:=gf hx.fit; have hxb:=g7 hx.fit; have hxd:=ga hx.fit
 have hya:=gf hy.fit; have hyb:=g7 hy.fit; have hyd:=ga hy.fit
 have hxp:=x.den_pos; have hyp:=y.den_pos; have hdp:=Nat.mul_pos hxp hyp
 refine aw.intro Tryz.func44 rfl Tryz.ntmps44 rfl (fun cx=>(ts (rn rfl (fU (Ht rfl)) fun B2=>(rn rfl (fU (Ht rfl)) fun B3=>(rn rfl (eG (Ts:=[Is (.bool false),Is (.slice none 0 0),Is (.bool false),Is (.slice none 0 0),Is (.slice none 0 0)]) O_51 rfl (fun V=>aW zd (aW zd (aW zd (aW zd (aW zd (aG))))))) fun B4=>(eZ (cK (fV (m:=3) (dp 2 rfl (eW A_51 Z_51 (Ht rfl) (i:=0) rfl rfl rfl) (dp 3 rfl (eW A_51 Z_51 (Ht rfl) (i:=1) rfl rfl rfl) ?_))))))))))
 refine dq 6 1 rfl (cZ Tryz.call140 Do ⟨(Ht rfl),trivial⟩) (fG aA rfl (by kernel_rfl) (aJ (aJ (aJ (aV (ro rfl (cZ K_46 (n8 zo) ⟨(Ht rfl),(Ht rfl),trivial⟩) (gJ Z_51 (Ht rfl) (Ht rfl) rfl (i:=2) rfl (aK rfl) rfl rfl (eZ (fK rfl (fJ (fY A_51 Z_51 rfl (i:=2) rfl rfl) ?_))))))))))
 exact (cv (Qi.sub_def x y).symm)
theorem eS {x y:Qi} {L M:Nat} [hx:an x L] [hy:an y M] (h:L + M + 1 ≤ 17592186044415):aw Tryz.prog 45 [ab x,ab y] (ab (x * y)):=by
 have hxa:=gf hx.fit; have hxb:=g7 hx.fit; have hxd:=ga hx.fit
 have hya:=gf hy.fit; have hyb:=g7 hy.fit; have hyd:=ga hy.fit
 have hxp:=x.den_pos; have hyp:=y.den_pos; have hdp:=Nat.mul_pos hxp hyp
 have e1:=gT x.a y.a; have e2:=gT x.b y.b; have e3:=gT x.a y.b; have e4:=gT x.b y.a; have e5:=n3 x.den y.den; have e8:=kC (x.b * y.b)
 have e6:=gO (x:=x.a * y.a) (y:=-(x.b * y.b)) (L:=L + M) zo zo; have e7:=gO (x:=x.a * y.b) (y:=x.b * y.a) (L:=L + M) zo zo
 refine aw.intro Tryz.func45 rfl Tryz.ntmps45 rfl (fun cx=>(ts (rn rfl (fU (Ht rfl)) fun B2=>(rn rfl (fU (Ht rfl)) fun B3=>(rn rfl (eG (Ts:=[Is (.bool false),Is (.slice none 0 0),Is (.bool false),Is (.slice none 0 0),Is (.slice none 0 0)]) O_51 rfl (fun V=>aW zd (aW zd (aW zd (aW zd (aW zd (aG))))))) fun B4=>(eZ (cK (fV (m:=13) (dp 2 rfl (eJ cz (Ht rfl) rfl) (dq 7 0 rfl (eW A_49 Z_49 (Ht rfl) (i:=0) rfl rfl rfl) ?_))))))))))
 refine dp 3 rfl (eJ cz (Ht rfl) rfl) (dq 9 2 rfl (eW A_49 Z_49 (Ht rfl) (i:=1) rfl rfl rfl) (bv 8 1 10 3 rfl (cZ K_132 (jX zo zo) ⟨(Ht rfl),(Ht rfl),trivial⟩) (dp 2 rfl (eJ d3 (Ht rfl) rfl) (dq 12 5 rfl (eW A_49 Z_49 (Ht rfl) (i:=0) rfl rfl rfl) (dp 3 rfl (eJ d3 (Ht rfl) rfl) (dq 14 7 rfl (eW A_49 Z_49 (Ht rfl) (i:=1) rfl rfl rfl) (bv 13 6 15 8 rfl (cZ K_132 (jX zo zo) ⟨(Ht rfl),(Ht rfl),trivial⟩) (dq 16 9 rfl (cZ K_135 j2 ⟨(Ht rfl),trivial⟩) ?_))))))))
 refine bv 11 4 17 10 rfl (cZ K_133 (lP zo zo) ⟨(Ht rfl),(Ht rfl),trivial⟩) (C.D_new (Ei:=[]) rfl rfl rfl bW (eG (Ts:=[Is (.bool false),Is (.slice none 0 0)]) O_49 rfl (fun V=>aW zd (aW zd (aG)))) (fG aA rfl (by kernel_rfl) (zF (zF (zF (C.F_new (fun B5=>aV (gJ Z_49 (Ht rfl) (Ht rfl) rfl (i:=3) rfl (aK rfl) rfl rfl (eZ ?_)))))))))
 refine cK (fV (m:=12) (dp 2 rfl (eJ cz (Ht rfl) rfl) (dq 19 0 rfl (eW A_49 Z_49 (Ht rfl) (i:=0) rfl rfl rfl) (dp 3 rfl (eJ d3 (Ht rfl) rfl) (dq 21 2 rfl (eW A_49 Z_49 (Ht rfl) (i:=1) rfl rfl rfl) (bv 20 1 22 3 rfl (cZ K_132 (jX zo zo) ⟨(Ht rfl),(Ht rfl),trivial⟩) (dp 2 rfl (eJ d3 (Ht rfl) rfl) (dq 24 5 rfl (eW A_49 Z_49 (Ht rfl) (i:=0) rfl rfl rfl) (dp 3 rfl (eJ cz (Ht rfl) rfl) (dq 26 7 rfl (eW A_49 Z_49 (Ht rfl) (i:=1) rfl rfl rfl) ?_))))))))))
 refine bv 25 6 27 8 rfl (cZ K_132 (jX zo zo) ⟨(Ht rfl),(Ht rfl),trivial⟩) (bv 23 4 28 9 rfl (cZ K_133 (lP zo zo) ⟨(Ht rfl),(Ht rfl),trivial⟩) (C.D_new (Ei:=[]) rfl rfl rfl bW (eG (Ts:=[Is (.bool false),Is (.slice none 0 0)]) O_49 rfl (fun V=>aW zd (aW zd (aG)))) (fG aA rfl (by kernel_rfl) (zF (zF (aJ (aJ (aJ (C.F_new (fun B6=>aV (gJ Z_49 (Ht rfl) (Ht rfl) rfl (i:=4) rfl (aK rfl) rfl rfl ?_)))))))))))
 refine eZ (cK (fV (m:=7) (dp 5 rfl (eW A_49 Z_49 (Ht rfl) (i:=3) rfl rfl rfl) (dp 6 rfl (eW A_49 Z_49 (Ht rfl) (i:=4) rfl rfl rfl) (dp 2 rfl (eW A_51 Z_51 (Ht rfl) (i:=0) rfl rfl rfl) (dq 32 2 rfl (cZ K_137 iq ⟨(Ht rfl),trivial⟩) (dp 3 rfl (eW A_51 Z_51 (Ht rfl) (i:=1) rfl rfl rfl) (dq 34 4 rfl (cZ K_137 iq ⟨(Ht rfl),trivial⟩) (bv 33 3 35 5 rfl (cZ Tryz.call138 (qE zo zo) ⟨(Ht rfl),(Ht rfl),trivial⟩) (fG aA rfl (by kernel_rfl) (zF (aJ (aJ (aJ (aV ?_)))))))))))))))
 refine ro rfl (cZ K_134 (lZ (by first | assumption | omega) zo zo zo) ⟨(Ht rfl),(Ht rfl),(Ht rfl),trivial⟩) (gJ Z_51 (Ht rfl) (Ht rfl) rfl (i:=2) rfl (aK rfl) rfl rfl (eZ (fK rfl (fJ (fY A_51 Z_51 rfl (i:=2) rfl rfl) ?_))))
 exact (cv (Qi.mk_mul x y))
theorem jS {x:Qi} {L:Nat} [hx:an x L] (h:L ≤ 17592186044415):aw Tryz.prog 27 [ab x] (a9 (!decide (x = Qi.zero))):=by
 have hxa:=gf hx.fit; have hxb:=g7 hx.fit; have hxd:=ga hx.fit
 refine aw.intro Tryz.func27 rfl Tryz.ntmps27 rfl (fun cx=>(ts (rn rfl (fU (Ht rfl)) fun B1=>(ro rfl (cQ cV) (eZ (ts (ro rfl (eJ cz (Ht rfl) rfl) (ro rfl (eJ bP (Ht rfl) rfl) (ro rfl (fQ A_47 Z_47 (Ht rfl) (i:=0) rfl rfl) (ro rfl (dK U_47 (Ht rfl) a7) (ro rfl (eJ d3 (Ht rfl) rfl) (ro rfl (eJ bP (Ht rfl) rfl) (ro rfl (fQ A_47 Z_47 (Ht rfl) (i:=0) rfl rfl) (ro rfl (dK U_47 (Ht rfl) a7) (ro rfl (dW (Ht rfl) (Ht rfl) z6) ?_)))))))))))))))
 refine ro rfl (bR (Ht rfl) (cJ 0)) (ra rfl (eZ (fK rfl (fJ (eY rfl) ?_))))
 exact (bL (w7 x))
theorem xF {x:Qi}:aw Tryz.prog 169 [ab x] (a9 (decide (x.b = 0))):=by
 refine aw.intro Tryz.func169 rfl Tryz.ntmps169 rfl (fun cx=>(ts (rn rfl (fU (Ht rfl)) fun B1=>(ro rfl (cQ cV) (eZ (ts (ro rfl (eJ d3 (Ht rfl) rfl) (ro rfl (eJ bP (Ht rfl) rfl) (ro rfl (fQ A_47 Z_47 (Ht rfl) (i:=0) rfl rfl) (ro rfl (dK U_47 (Ht rfl) a7) (ro rfl (aO (Ht rfl) (cJ 0)) (ra rfl (eZ (fK rfl (fJ (eY rfl) ?_)))))))))))))))
 exact (bL (zD x))
theorem pL {x y:Qi} {L M:Nat} [hx:an x L] [hy:an y M] (h:L ≤ 17592186044415) (h2:M ≤ 17592186044415):aw Tryz.prog 139 [ab x,ab y] (a9 (decide (x = y))):=by
 have hxa:=gf hx.fit; have hxb:=g7 hx.fit; have hxd:=ga hx.fit
 have hya:=gf hy.fit; have hyb:=g7 hy.fit; have hyd:=ga hy.fit
 have hxu:=wr x; have hyu:=wr y
 refine aw.intro Tryz.func139 rfl Tryz.ntmps139 rfl (fun cx=>(ts (rn rfl (fU (Ht rfl)) fun B2=>(rn rfl (fU (Ht rfl)) fun B3=>(ro rfl (cQ cV) (eZ (ts (ro rfl (eJ cz (Ht rfl) rfl) (ro rfl (eW A_49 Z_49 (Ht rfl) (i:=0) rfl rfl rfl) (ro rfl (eJ cz (Ht rfl) rfl) (ro rfl (eW A_49 Z_49 (Ht rfl) (i:=1) rfl rfl rfl) (ro rfl (cZ Tryz.call176 (pV zo zo) ⟨(Ht rfl),(Ht rfl),trivial⟩) (ro rfl (di (Ht rfl) cV) (rm rfl (fX rfl rfl (eU rfl rfl (Ht rfl) (fun h=>eJ d3 (Ht rfl) rfl)) ?_)))))))))))))))
 refine fX rfl rfl (eU rfl rfl (Ht rfl) (fun h=>eW A_49 Z_49 (fW rfl h) (i:=0) rfl rfl rfl)) (fX rfl rfl (eU rfl rfl (Ht rfl) (fun h=>eJ d3 (Ht rfl) rfl)) (fX rfl rfl (eU rfl rfl (Ht rfl) (fun h=>eW A_49 Z_49 (fW rfl h) (i:=1) rfl rfl rfl)) (fX rfl rfl (eU rfl rfl (Ht rfl) (fun h=>cZ Tryz.call176 (pV zo zo) ⟨(fW rfl h),(fW rfl h),trivial⟩)) (fX rfl rfl (eU rfl rfl (Ht rfl) (fun h=>di (fW rfl h) cV)) (ro rfl (bx (Ht rfl) (fun h=>(fW rfl h))) ?_)))))
 refine rm rfl (fX rfl rfl (eU rfl rfl (Ht rfl) (fun h=>eJ j8 (Ht rfl) rfl)) (fX rfl rfl (eU rfl rfl (Ht rfl) (fun h=>fQ A_47 Z_47 (fW rfl h) (i:=0) rfl rfl)) (fX rfl rfl (eU rfl rfl (Ht rfl) (fun h=>eJ j8 (Ht rfl) rfl)) (fX rfl rfl (eU rfl rfl (Ht rfl) (fun h=>fQ A_47 Z_47 (fW rfl h) (i:=1) rfl rfl)) (fX rfl rfl (eU rfl rfl (Ht rfl) (fun h=>cZ Tryz.call216 (vc zo zo) ⟨(fW rfl h),(fW rfl h),trivial⟩)) (fX rfl rfl (eU rfl rfl (Ht rfl) (fun h=>di (fW rfl h) cV)) ?_))))))
 refine ro rfl (bx (Ht rfl) (fun h=>(fW rfl h))) (ra rfl (eZ (fK rfl (fJ (eY rfl) ?_))))
 exact (bL (yQ x y))
theorem CX {x y:Qi} {L M:Nat} [hx:an x L] [hy:an y M] (h:L + M ≤ 17592186044415):aw Tryz.prog 76 [ab x,ab y] (aa .i64 (v4 x y)):=by
 have hxa:=gf hx.fit; have hxb:=g7 hx.fit; have hxd:=ga hx.fit
 have hya:=gf hy.fit; have hyb:=g7 hy.fit; have hyd:=ga hy.fit
 have e1:=cA x.a y.den; have e2:=cA y.a x.den; have e3:=cA x.b y.den; have e4:=cA y.b x.den
 refine aw.intro Tryz.func76 rfl Tryz.ntmps76 rfl (fun cx=>(ts (rn rfl (fU (Ht rfl)) fun B2=>(rn rfl (fU (Ht rfl)) fun B3=>(ro rfl (cQ (cJ 0)) (eZ (cK (cK (fV (m:=9) (dp 2 rfl (eJ cz (Ht rfl) rfl) (dq 6 0 rfl (eW A_49 Z_49 (Ht rfl) (i:=0) rfl rfl rfl) (dp 3 rfl (eW A_51 Z_51 (Ht rfl) (i:=1) rfl rfl rfl) (dq 8 2 rfl (cZ K_137 iq ⟨(Ht rfl),trivial⟩) (bv 7 1 9 3 rfl (cZ K_136 (eT zo zo) ⟨(Ht rfl),(Ht rfl),trivial⟩) (dp 3 rfl (eJ cz (Ht rfl) rfl) ?_)))))))))))))))
 refine dq 11 5 rfl (eW A_49 Z_49 (Ht rfl) (i:=1) rfl rfl rfl) (dp 2 rfl (eW A_51 Z_51 (Ht rfl) (i:=0) rfl rfl rfl) (dq 13 7 rfl (cZ K_137 iq ⟨(Ht rfl),trivial⟩) (fG aA rfl (by kernel_rfl) (zF (zF (aJ (aV (ro rfl (cZ K_136 (eT zo zo) ⟨(Ht rfl),(Ht rfl),trivial⟩) (ro rfl (cZ Tryz.call176 (pV zo zo) ⟨(Ht rfl),(Ht rfl),trivial⟩) (ra rfl (eZ (ts (rm rfl (ro rfl (bT (Ht rfl) cV) ?_))))))))))))))
 refine eZ (dQ (Ht rfl) (fun hb=>?_) (fun hb=>?_))
 ·simp only [Bool.not_eq_true', decide_eq_false_iff_not] at hb
  refine ts (rm rfl (ra rfl (eZ (fK rfl (fJ (eY rfl) ?_)))))
  exact (am (by rw [v4,if_pos hb]))
 ·simp only [Bool.not_eq_false', decide_eq_true_eq] at hb
  refine cU (cK (fV (m:=9) (dp 2 rfl (eJ d3 (Ht rfl) rfl) (dq 20 0 rfl (eW A_49 Z_49 (Ht rfl) (i:=0) rfl rfl rfl) (dp 3 rfl (eW A_51 Z_51 (Ht rfl) (i:=1) rfl rfl rfl) (dq 22 2 rfl (cZ K_137 iq ⟨(Ht rfl),trivial⟩) (bv 21 1 23 3 rfl (cZ K_136 (eT zo zo) ⟨(Ht rfl),(Ht rfl),trivial⟩) (dp 3 rfl (eJ d3 (Ht rfl) rfl) (dq 25 5 rfl (eW A_49 Z_49 (Ht rfl) (i:=1) rfl rfl rfl) (dp 2 rfl (eW A_51 Z_51 (Ht rfl) (i:=0) rfl rfl rfl) ?_))))))))))
  refine dq 27 7 rfl (cZ K_137 iq ⟨(Ht rfl),trivial⟩) (fG aA rfl (by kernel_rfl) (zF (zF (aJ (aV (ro rfl (cZ K_136 (eT zo zo) ⟨(Ht rfl),(Ht rfl),trivial⟩) (ro rfl (cZ Tryz.call176 (pV zo zo) ⟨(Ht rfl),(Ht rfl),trivial⟩) (ra rfl (eZ (fK rfl (fJ (eY rfl) ?_)))))))))))
  exact (am (by rw [v4,if_neg (by simpa using hb)]))
end
section
open Go Go.RowKit
theorem Ag {n : Nat} {E : aT} {H : Hp} {d : Option Tmp} {t : TypeId} {pos : String} {af : Array Edge} {g : Option (Nat × Bool)}  :
  ae Tryz.prog n E H ⟨d,.build 49 #[],t,pos,af,g⟩ (bB [Is (.bool false),Is (.slice none 0 0)]) :=
 cB (parts := []) fun a V w hs => by
  refine ⟨.agg #[(.bool false),(.slice none 0 0)],?_,[(.bool false),(.slice none 0 0)],rfl,aW (⟨rfl,trivial⟩) (aW (⟨rfl,trivial⟩) (aG))⟩
  simp [Instr.build,Instr.fill,Sem.run_bind,Result.andThen,ca,O_49,U_49,Z_4,Z_47]
theorem ie (a:Addr) (w:World):(Instr.fieldAt 102 (.pointer (some a)) 0).run Tryz.prog w = .ok (.pointer (some (a.add 0))) w:=by
 simp [Instr.fieldAt,Instr.sureAddr,fieldPlace,Sem.run_bind,Result.andThen,U_102,Z_2]
theorem nh (a:Addr) (w:World):(Instr.fieldAt 102 (.pointer (some a)) 1).run Tryz.prog w = .ok (.pointer (some (a.add 1))) w:=by
 simp [Instr.fieldAt,Instr.sureAddr,fieldPlace,Sem.run_bind,Result.andThen,U_102,Z_2]
theorem gi (a:Addr) (w:World):(Instr.fieldAt 102 (.pointer (some a)) 2).run Tryz.prog w = .ok (.pointer (some (a.add 2))) w:=by
 simp [Instr.fieldAt,Instr.sureAddr,fieldPlace,Sem.run_bind,Result.andThen,U_102,Z_2]
theorem de:Tryz.prog.info? 51 = some Tryz.t51:=by kernel_rfl
theorem ef:Tryz.prog.underlying 29 = some (.slice 51):=by kernel_rfl
end
section
open Go Go.RowKit
theorem si {a:Int} {d:Nat} (hd:0 < d) (ha:(dg a.natAbs).length ≤ 8796093022208) (hd2:(dg d).length ≤ 8796093022208):aw Tryz.prog 188 [cn a,ah d] (iP (jv a d)):=by
 have h1:=qw a hd; have h2:=r3 a hd
 obtain ⟨x,hx⟩:∃ x,x = Qi.mk' a 0 d:=⟨_,rfl⟩
 rw [jv,← hx]
 rw [← hx] at h1 h2
 have h3:=j1 x.a.natAbs; have h4:=j1 x.den
 have h5:(dg (0:Int).natAbs).length ≤ 0:=by rw [show (0:Int).natAbs = 0 from rfl,bz]; exact Nat.le_refl _
 refine aw.intro Tryz.func188 rfl Tryz.ntmps188 rfl (fun cx=>(ts (rn rfl (fU (Ht rfl)) fun B2=>(ro rfl (cQ (ax.cS (l:=[]) rfl)) (eZ (ts (ro rfl (eW A_49 Z_49 (Ht rfl) (i:=0) rfl rfl rfl) (ro rfl (ae.imp (Ag ) n4) (rm rfl (ro rfl (ae.imp (cZ K_134 (lZ (by first | assumption | omega) zo zo zo) ⟨(Ht rfl),(Ht rfl),(Ht rfl),trivial⟩) (cv hx.symm)) (rn rfl (eG (Ts:=[Is (.bool false),Is (.slice none 0 0),Is (.bool false),Is (.slice none 0 0),Is (.slice none 0 0)]) O_51 rfl (fun V=>aW zd (aW zd (aW zd (aW zd (aW zd (aG))))))) fun B5=>?_)))))))))))
 refine gJ Z_51 (Ht rfl) (Ht rfl) rfl (i:=1) rfl (aK rfl) rfl rfl (eZ (ts (ro rfl (eJ cz (Ht rfl) rfl) (ro rfl (eJ bP (Ht rfl) rfl) (ro rfl (fQ A_47 Z_47 (Ht rfl) (i:=1) rfl rfl) (ro rfl (cZ Tryz.call249 (r4 zo) ⟨(Ht rfl),trivial⟩) (ra rfl (eZ (cK (dz (fun (uu:Unit)=>True) (fun (uu:Unit)=>[(5,aH B5 0),(6,iP (if x.a < 0 then 45 :: kh x.a.natAbs else kh x.a.natAbs))]) (fun (uu:Unit)=>[box B2 49 [a9 (decide (a < 0)),ah (a).natAbs],box B5 51 [a9 (decide ((x).a < 0)),ah (x).a.natAbs,a9 (decide ((x).b < 0)),ah (x).b.natAbs,ah (du (x))]]) ?_ (fun uu _=>?_)))))))))))
 ·refine ts (ro rfl (eJ cz (Ht rfl) rfl) (ro rfl (eJ eE (Ht rfl) rfl) (ro rfl (fQ A_4 Z_4 (Ht rfl) (i := 1) rfl rfl) (eZ (dQ (Ht rfl) (fun hb => ?_) (fun hb => ?_))))))
  ·simp only [decide_eq_true_eq] at hb
   refine cY (rm rfl (ro rfl (dT (ax.cS (l:=[45]) rfl) (Ht rfl) (by first | omega | (simp; omega))) (ra rfl (eZ (au () trivial (aQ rfl (aZ rfl (dx (by rw [if_pos hb]; rfl)) aX)) (aU (a8 rfl) (aU (a8 rfl) aY)))))))
  ·simp only [decide_eq_false_iff_not] at hb
   refine cU (au () trivial (aQ rfl (aZ rfl (dx (by rw [if_neg hb])) aX)) (aU (a8 rfl) (aU (a8 rfl) aY)))
 ·have h6 : (if x.a < 0 then 45 :: kh x.a.natAbs else kh x.a.natAbs).length ≤ (kh x.a.natAbs).length + 1 := by split <;> simp
  have h7:=wr x
  refine cK (dz (fun (uu:Unit)=>True) (fun (uu:Unit)=>[(6,iP ((if x.a < 0 then 45 :: kh x.a.natAbs else kh x.a.natAbs) ++ (if x.den = 1 then [] else 47 :: kh x.den)))]) (fun (uu:Unit)=>[box B2 49 [a9 (decide (a < 0)),ah (a).natAbs],box B5 51 [a9 (decide ((x).a < 0)),ah (x).a.natAbs,a9 (decide ((x).b < 0)),ah (x).b.natAbs,ah (du (x))]]) ?_ (fun uu _=>?_))
  ·refine ts (ro rfl (eJ j8 (Ht rfl) rfl) (ro rfl (fQ A_47 Z_47 (Ht rfl) (i := 1) rfl rfl) (ro rfl (dK U_47 (Ht rfl) a7) (ro rfl (bR (Ht rfl) (cJ 0)) (eZ (dQ (Ht rfl) (fun hb => ?_) (fun hb => ?_)))))))
   ·simp only [decide_eq_true_eq] at hb
    have h8:du x = x.den:=kO (fun e=>by rw [e,bz] at hb; simp at hb)
    have h9:x.den ≠ 1:=fun e=>by rw [du,if_pos e,bz] at hb; simp at hb
    have h10:=j1 (du x)
    refine cY (rm rfl (ro rfl (eJ j8 (Ht rfl) rfl) (ro rfl (fQ A_47 Z_47 (Ht rfl) (i:=1) rfl rfl) (ro rfl (cZ Tryz.call249 (r4 zo) ⟨(Ht rfl),trivial⟩) (ro rfl (dT (ax.cS (l:=[47]) rfl) (Ht rfl) (by simp only [List.length_cons,List.length_nil]; omega)) ?_)))))
    refine ro rfl (dT (Ht rfl) (Ht rfl) (by simp only [List.length_append,List.length_cons,List.length_nil]; omega)) ?_
    refine ra rfl (eZ (au () trivial (aZ rfl (dx (by rw [if_neg h9,h8]; rfl)) aX) (br.refl _)))
   ·simp only [decide_eq_false_iff_not] at hb
    have h9:x.den = 1:=mt (al.1 zo)
    refine cU (au () trivial (aZ rfl (dx (by rw [if_pos h9,List.append_nil])) aX) (br.refl _))
  ·refine ts (rm rfl (ra rfl (eZ ?_)))
   exact fK rfl (eY rfl)
theorem wA {x:Qi} {L:Nat} [hx:an x L] (h:L ≤ 8796093022208):aw Tryz.prog 89 [ab x] (iP (v7 x)):=by
 have hxa:=gf hx.fit; have hxb:=g7 hx.fit; have hxd:=ga hx.fit; have hdp:=x.den_pos
 have l1:=kV x.a hdp; have l2:=kV x.b hdp
 refine aw.intro Tryz.func89 rfl Tryz.ntmps89 rfl (fun cx=>(ts (rn rfl (fU (Ht rfl)) fun B1=>(ro rfl (cQ (ax.cS (l:=[]) rfl)) (eZ (cK (ts (ro rfl (eW A_51 Z_51 (Ht rfl) (i:=0) rfl rfl rfl) (ro rfl (cZ Tryz.call169 xF ⟨(Ht rfl),trivial⟩) (eZ (dQ (Ht rfl) (fun hb=>?_) (fun hb=>?_))))))))))))
 ·simp only [decide_eq_true_eq] at hb
  refine cK (fV (m:=4) (dp 1 rfl (eJ cz (Ht rfl) rfl) (dq 6 0 rfl (eW A_49 Z_49 (Ht rfl) (i:=0) rfl rfl rfl) (dp 1 rfl (eW A_51 Z_51 (Ht rfl) (i:=0) rfl rfl rfl) (dq 8 2 rfl (cZ K_137 iq ⟨(Ht rfl),trivial⟩) (fG aA rfl (by kernel_rfl) (zF (aV (ro rfl (cZ Tryz.call188 (si (by assumption) zo zo) ⟨(Ht rfl),(Ht rfl),trivial⟩) ?_)))))))))
  refine ra rfl (eZ (fK rfl (fJ (eY rfl) ?_)))
  exact (dx (by rw [v7,if_pos hb]))
 ·simp only [decide_eq_false_iff_not] at hb
  refine cU (cK (fV (m:=4) (dp 1 rfl (eJ d3 (Ht rfl) rfl) (dq 11 0 rfl (eW A_49 Z_49 (Ht rfl) (i:=0) rfl rfl rfl) (dp 1 rfl (eW A_51 Z_51 (Ht rfl) (i:=0) rfl rfl rfl) (dq 13 2 rfl (cZ K_137 iq ⟨(Ht rfl),trivial⟩) (fG aA rfl (by kernel_rfl) (zF (aV (ro rfl (cZ Tryz.call188 (si (by assumption) zo zo) ⟨(Ht rfl),(Ht rfl),trivial⟩) ?_))))))))))
  refine ro rfl (dT (Ht rfl) (ax.cS (l:=[105]) rfl) (by simp only [List.length_append,List.length_cons,List.length_nil]; omega)) ?_
  refine ra rfl (eZ (cK (ts (ro rfl (eJ cz (Ht rfl) rfl) (ro rfl (eJ bP (Ht rfl) rfl) (ro rfl (fQ A_47 Z_47 (Ht rfl) (i:=0) rfl rfl) (ro rfl (dK U_47 (Ht rfl) a7) (ro rfl (aO (Ht rfl) (cJ 0)) (eZ (dQ (Ht rfl) (fun hc=>?_) (fun hc=>?_)))))))))))
  ·simp only [decide_eq_true_eq] at hc
   have ha:x.a = 0:=by have:=al.1 hc; omega
   refine ts (rm rfl (ra rfl (eZ (fK rfl (fJ (eY rfl) ?_)))))
   exact (dx (by rw [v7,if_neg hb,if_pos ha]))
  ·simp only [decide_eq_false_iff_not] at hc
   have ha:x.a ≠ 0:=fun e=>hc (by rw [e]; exact al.2 rfl)
   refine cU (cK (dz (fun (uu:Unit)=>True) (fun (uu:Unit)=>[(1,aH B1 0),(3,iP ((if x.b < 0 then jv x.b x.den else 43 :: jv x.b x.den) ++ [105]))]) (fun (uu:Unit)=>[box B1 51 [a9 (decide ((x).a < 0)),ah (x).a.natAbs,a9 (decide ((x).b < 0)),ah (x).b.natAbs,ah (du (x))]]) ?_ (fun uu _=>?_)))
   ·refine ts (ro rfl (eJ d3 (Ht rfl) rfl) (ro rfl (eJ eE (Ht rfl) rfl) (ro rfl (fQ A_4 Z_4 (Ht rfl) (i := 0) rfl rfl) (ro rfl (bD (Ht rfl)) (eZ (dQ (Ht rfl) (fun hd => ?_) (fun hd => ?_)))))))
    ·have hn : ¬ x.b < 0 := by simpa using hd
     refine cY (rm rfl (ro rfl (dT (ax.cS (l:=[43]) rfl) (Ht rfl) (by simp only [List.length_append,List.length_cons,List.length_nil]; omega)) ?_))
     refine ra rfl (eZ (au () trivial (aQ rfl (aZ rfl (dx (by rw [if_neg hn]; rfl)) aX)) (aU (a8 rfl) aY)))
    ·have hn : x.b < 0 := by simpa using hd
     refine cU (au () trivial (aQ rfl (aZ rfl (dx (by rw [if_pos hn])) aX)) (aU (a8 rfl) aY))
   ·have l3 : ((if x.b < 0 then jv x.b x.den else 43 :: jv x.b x.den) ++ [105]).length ≤ (jv x.b x.den).length + 2 := by split <;> simp
    refine cK (fV (m:=6) (dp 1 rfl (eJ cz (Ht rfl) rfl) (dq 29 0 rfl (eW A_49 Z_49 (Ht rfl) (i:=0) rfl rfl rfl) (dp 1 rfl (eW A_51 Z_51 (Ht rfl) (i:=0) rfl rfl rfl) (dq 31 2 rfl (cZ K_137 iq ⟨(Ht rfl),trivial⟩) (bv 30 1 32 3 rfl (cZ Tryz.call188 (si (by assumption) zo zo) ⟨(Ht rfl),(Ht rfl),trivial⟩) ?_))))))
    refine dp 3 rfl (cX (Ht rfl)) (fG aA rfl (by kernel_rfl) (zF (aJ (aJ (aV (ro rfl (dT (Ht rfl) (Ht rfl) zo) (ra rfl (eZ (fK rfl (fJ (eY rfl) ?_))))))))))
    exact (dx (by rw [v7,if_neg hb,if_neg ha]))
theorem Ad {r:Rt}:aw Tryz.prog 58 [fD r] (ab r.q):=by
 have hr1:=r.h1; have hr2:=r.h2; have hr3:=r.h3; have hr4:=r.h4; have hr5:=r.d1; have hr6:=r.d2; have hr0:=r.d0
 refine aw.intro Tryz.func58 rfl Tryz.ntmps58 rfl (fun cx=>(ts (rn rfl (fU (Ht rfl)) fun B1=>(rn rfl (eG (Ts:=[Is (.bool false),Is (.slice none 0 0),Is (.bool false),Is (.slice none 0 0),Is (.slice none 0 0)]) O_51 rfl (fun V=>aW zd (aW zd (aW zd (aW zd (aW zd (aG))))))) fun B2=>(eZ (cK (dz (fun (uu:Unit)=>True) (fun (uu:Unit)=>[(1,aH B1 0),(2,aH B2 0)]) (fun (uu:Unit)=>[box B1 102 [aa .i64 r.re,aa .i64 r.im,aa .i64 r.d],box B2 51 [Is (.bool false),Is (.slice none 0 0),Is (.bool false),Is (.slice none 0 0),Is (.slice none 0 0)]]) ?_ (fun uu _=>?_))))))))
 ·refine ts (ro rfl (eJ gi (Ht rfl) rfl) (ro rfl (fQ A_2 Z_2 (Ht rfl) (i := 0) rfl rfl) (ro rfl (di (Ht rfl) cV) (eZ (dQ (Ht rfl) (fun hb => ?_) (fun hb => ?_))))))
  ·simp only [decide_eq_true_eq] at hb
   refine cY (ro rfl (eJ gi (Ht rfl) rfl) (dI Z_2 (Ht rfl) (cJ 1) (i:=0) rfl (aK rfl) rfl (eZ (au () trivial (zS rfl) (aU (a8 (by rw [Rt.d,if_pos hb]; rfl)) (aU (a8 rfl) aY))))))
  ·simp only [decide_eq_false_iff_not] at hb
   refine cU (au () trivial (zS rfl) (aU (a8 (by rw [Rt.d,if_neg hb])) (aU (a8 rfl) aY)))
 ·refine ts (ro rfl (eJ ie (Ht rfl) rfl) (ro rfl (fQ A_2 Z_2 (Ht rfl) (i := 0) rfl rfl) (ro rfl (eJ nh (Ht rfl) rfl) (ro rfl (fQ A_2 Z_2 (Ht rfl) (i := 0) rfl rfl) (ro rfl (eJ gi (Ht rfl) rfl) (ro rfl (fQ A_2 Z_2 (Ht rfl) (i := 0) rfl rfl) (ro rfl (cZ Tryz.call141 (CI hr1 hr2 hr3 hr4 hr5 hr6 hr0) ⟨(Ht rfl), (Ht rfl), (Ht rfl), trivial⟩) (rm rfl (ro rfl (dU (Ht rfl) rfl) (ro rfl (dU (Ht rfl) rfl) (rn rfl (eG (Ts := [Is (.bool false), Is (.slice none 0 0), Is (.bool false), Is (.slice none 0 0), Is (.slice none 0 0)]) O_51 rfl (fun V => aW zd (aW zd (aW zd (aW zd (aW zd (aG))))))) fun B3 => ?_)))))))))))
  refine gJ Z_51 (Ht rfl) (Ht rfl) rfl (i:=2) rfl (aK rfl) rfl rfl (ra rfl (eZ (ts (ro rfl (eW A_51 Z_51 (Ht rfl) (i:=2) rfl rfl rfl) (gJ Z_51 (Ht rfl) (Ht rfl) rfl (i:=1) rfl (aK rfl) rfl rfl (eZ ?_))))))
  exact fK rfl (fY A_51 Z_51 rfl (i:=1) rfl rfl)
theorem lY {l:List Rt} (hl:l.length ≤ 1000000):aw Tryz.prog 48 [fq l] (av (l.map Rt.q)):=by
 refine aw.intro Tryz.func48 rfl Tryz.ntmps48 rfl (fun cx=>(ts (ro rfl (cQ cV) (eZ (ts (rm rfl (ro rfl (dK U_22 (Ht rfl) a7) (rn rfl (cy (T:=ab Qi.zero) (i:=Tryz.t51) ef de rfl rfl (Ht rfl) rfl cw (El.ag rfl) (by show 88 * _ ≤ _; omega) zo) fun B8=>(ra rfl (eZ (cK (ts (rm rfl (ro rfl (dK U_22 (Ht rfl) a7) (ro rfl (cX (cJ 0)) (eZ (eK ?_)))))))))))))))))
 refine ci (fun (k : Nat) (out : List Qi) => g8 (fun i => (l.getD i default).q) l.length out k) (fun (k : Nat) (out : List Qi) => l.length - k) (fun (k : Nat) (out : List Qi) => [(3, Is B8), (9, fq l), (10, NT .i64 l.length), (11, NT .i64 k)]) (fun (k : Nat) (out : List Qi) => [aE 51 5 B8 (out.map ab)]) 0 (List.replicate l.length Qi.zero) (g8.start _ _ _)
  (zS rfl) (aU (ar (jo ab _ _)) aY) (fun k out hS=>?_)
 refine ts (ro rfl (gV (Ht rfl) (Ht rfl)) (eZ (cK (dQ (Ht rfl) (fun hk=>?_) (fun hk=>?_)))))
 ·simp only [decide_eq_true_eq] at hk
  have hlen:=hS.len
  refine cU (cK (eK (ts (rm rfl (ro rfl (dZ U_22 Z_102 (Ht rfl) (Ht rfl) rfl (eQ (dY (d:=default) hk))) (ro rfl (dV A_102 Z_102 (Ht rfl)) (rn rfl (eG (Ts:=[Is (.int .i64 0),Is (.int .i64 0),Is (.int .i64 0)]) O_102 rfl (fun V=>aW zd (aW zd (aW zd (aG))))) fun B5=>(ra rfl (gJ Z_102 (Ht rfl) (Ht rfl) rfl (i:=1) rfl (aK rfl) rfl rfl (eZ (cY (rm rfl (rm rfl (ro rfl (eW A_102 Z_102 (Ht rfl) (i:=1) rfl rfl rfl) ?_))))))))))))))
  refine ro rfl (cZ Tryz.call58 Ad ⟨(Ht rfl),trivial⟩) (ro rfl (bi U_29 Z_51 (Ht rfl) (Ht rfl) rfl (i:=0) rfl (by first | omega | (simp; omega)) rfl) (eL Z_51 (Ht rfl) (Ht rfl) (El.ag rfl) (i:=0) rfl rfl (by first | omega | (simp; omega)) rfl (eZ (aB (cY (ro rfl (dW (Ht rfl) (cJ 1) z6) (rm rfl (eZ (aD [0] rfl (by decide) (gQ (k + 1,_) (hS.next hk rfl) (by dsimp only; omega) (zS rfl) (aU (ar (c9 ab _ _ _)) aY)))))))))))
 ·simp only [decide_eq_false_iff_not] at hk
  obtain rfl:k = l.length:=Nat.le_antisymm hS.kle zo
  have hfin:=hS.fin
  rw [jK l Rt.q] at hfin
  refine gK rfl (gG (i:=0) (tt:=3) rfl rfl cg (ts (rm rfl (ra rfl (eZ (fK rfl (fJ (eY rfl) ?_)))))))
  exact (ee (by rw [hfin]))
end
section
open Go Go.RowKit
theorem k7 (ds:List Nat) (hd:en ds) (hl:ds.length ≤ 1152921504606846976):aw Tryz.prog 267 [lv ds] (ah (val ds)):=by
 refine aw.intro Tryz.func267 rfl Tryz.ntmps267 rfl (fun cx=>(ts (ro rfl (cQ cV) (eZ (ts (rm rfl (ro rfl (dK U_46 (Ht rfl) a7) (ra rfl (eZ (cK (eK ?_)))))))))))
 refine b8 (fun (k : Nat) => k ≤ ds.length ∧ ∀ i, k ≤ i → i < ds.length → ds.getD i 0 = 0) (fun (k : Nat) => k) (fun (k : Nat) => [(0, lv ds), (3, NT .i64 k)]) (fun (k : Nat) => []) ds.length ⟨Nat.le_refl _, fun i h1 h2 => by omega⟩
  (zS rfl) aY (fun k ⟨hk,hz⟩=>?_)
 refine cK (ts (rm rfl (ro rfl (bR (Ht rfl) (cJ 0)) (rm rfl (fX rfl rfl (eU rfl rfl (Ht rfl) (fun h=>cX (Ht rfl))) (fX rfl rfl (eU rfl rfl (Ht rfl) (fun h=>cX (Ht rfl))) (fX rfl rfl (eU rfl rfl (Ht rfl) (fun h=>dG (fW rfl h) (cJ 1) (by first | omega | (simp at h; omega)) (by show _ < 9223372036854775808; first | omega | (simp at h; omega)))) (fX rfl rfl (eU rfl rfl (Ht rfl) (fun h=>dZ U_46 Z_189 (fW rfl h) (fW rfl h) rfl (eQ (ai (by first | omega | (simp at h; omega)))))) ?_))))))))
 refine fX rfl rfl (eU rfl rfl (Ht rfl) (fun h=>dV A_189 Z_189 (fW rfl h))) (fX rfl rfl (eU rfl rfl (Ht rfl) (fun h=>aO (fW rfl h) (cJ 0))) (ro rfl (bx (Ht rfl) (fun h=>(fW rfl h))) (eZ (dQ (Ht rfl) (fun hb=>?_) (fun hb=>?_)))))
 ·simp at hb
  refine cU (eK (cY (rm rfl (ro rfl (dG (Ht rfl) (cJ 1) zo z6) (ra rfl (eZ (aB (gQ (k - 1) ⟨by omega,fun i h1 h2=>?_⟩ zo (zS rfl) aY))))))))
  by_cases e2:i = k - 1
  ·subst e2; simpa using hb.2
  ·exact hz i zo h2
 ·have hn : k = 0 ∨ ds.getD (k - 1) 0 ≠ 0 := by
   simp only [Bool.and_eq_false_iff,decide_eq_false_iff_not] at hb
   rcases hb with h1 | h1
   ·left; omega
   ·right; exact h1
  have hfin:=tQ hd hk hz hn
  refine gK rfl (ts (rm rfl (rm rfl (ro rfl (iI U_46 Z_189 (Ht rfl) (Ht rfl) (fun m e=>by cases e) zo (by simp; omega) rfl) ?_))))
  refine ra rfl (eZ (fK rfl (fJ (eY rfl) ?_)))
  exact (rA (by rw [hfin]; simp))
theorem n0 {m:Nat} (hm:m < 18446744073709551616):aw Tryz.prog 268 [NT .u64 m] (ah m):=by
 refine aw.intro Tryz.func268 rfl Tryz.ntmps268 rfl (fun cx=>(ts (ro rfl (cQ cV) (eZ (ts (rm rfl (ro rfl (cu rfl U_254 U_189 (Ht rfl)) (rm rfl (ro rfl (c5 (Ht rfl) (cJ 32) (by decide)) (ro rfl (cu rfl U_254 U_189 (Ht rfl)) (ro rfl (bm (xs:=[.tmp 4,.tmp 7]) U_46 Z_189 O_189 (cW (Ht rfl) (cW (Ht rfl) cG)) rfl rfl rfl) (ro rfl (cZ K_267 (k7 [m % 4294967296,m / 2 ^ 32 % 4294967296] (CS _ _) (by simp)) ⟨(Ht rfl),trivial⟩) ?_))))))))))))
 refine ra rfl (eZ (fK rfl (fJ (eY rfl) ?_)))
 exact (bd (oH hm))
theorem v5 {m n:Nat} (hm:(dg m).length ≤ 1152921504606846976) (hn:(dg n).length ≤ 1152921504606846976):aw Tryz.prog 237 [ah m,ah n] (aa .i64 (iA m n)):=by
 refine aw.intro Tryz.func237 rfl Tryz.ntmps237 rfl (fun cx=>(ts (ro rfl (cQ (cJ 0)) (eZ (cK (ts (rm rfl (ro rfl (dK U_46 (Ht rfl) a7) (rm rfl (ro rfl (dK U_46 (Ht rfl) a7) (ro rfl (db (Ht rfl) (Ht rfl)) (eZ (dQ (Ht rfl) (fun hb=>?_) (fun hb=>?_))))))))))))))
 ·simp at hb
  refine cK (ts (rm rfl (ro rfl (dK U_46 (Ht rfl) a7) (rm rfl (ro rfl (dK U_46 (Ht rfl) a7) (ro rfl (gV (Ht rfl) (Ht rfl)) (eZ (dQ (Ht rfl) (fun hb2=>?_) (fun hb2=>?_)))))))))
  ·simp at hb2
   have hlt:=pH hb2
   refine ts (ro rfl (cQ cV) (eZ (fK rfl (fJ (eY rfl) ?_))))
   exact (am (by simp [iA,hlt]))
  ·simp at hb2
   have hlt:=pH (a:=n) (b:=m) zo
   refine cU (ts (ro rfl (cQ (cJ 1)) (eZ (fK rfl (fJ (eY rfl) ?_)))))
   exact (am (by simp [iA,hlt,Nat.lt_asymm hlt]))
 ·simp at hb
  refine cU (cK (ts (rm rfl (ro rfl (dK U_46 (Ht rfl) a7) (ro rfl (cq (Ht rfl) cV (kq zo)) (ra rfl (eZ (eK ?_))))))))
  refine b8 (fun (k : Nat) => k ≤ (dg m).length ∧ ∀ i, k ≤ i → i < (dg m).length → (dg m).getD i 0 = (dg n).getD i 0) (fun (k : Nat) => k) (fun (k : Nat) => [(0, ah m), (1, ah n), (5, aa .i64 ((k : Int) - 1))]) (fun (k : Nat) => []) (dg m).length ⟨Nat.le_refl _, fun i h1 h2 => by omega⟩
   (zS rfl) aY (fun k ⟨hk,he⟩=>?_)
  refine cK (ts (rm rfl (ro rfl (fu (Ht rfl) cV) (eZ (dQ (Ht rfl) (fun hk1=>?_) (fun hk1=>?_))))))
  ·simp at hk1
   refine cU (cK (eK (cK (fV (m:=8) (dp 0 rfl (cX (Ht rfl)) (dp 5 rfl (cX (Ht rfl)) (bv 23 0 24 1 rfl (dZ U_46 Z_189 (Ht rfl) (Ht rfl) (show ((k:Int) - 1) = ((k - 1:Nat):Int) by omega) (eQ (ai zo))) (dq 25 2 rfl (dV A_189 Z_189 (Ht rfl)) (dp 1 rfl (cX (Ht rfl)) (dp 5 rfl (cX (Ht rfl)) (bv 27 4 28 5 rfl (dZ U_46 Z_189 (Ht rfl) (Ht rfl) (show ((k:Int) - 1) = ((k - 1:Nat):Int) by omega) (eQ (ai zo))) (dq 29 6 rfl (dV A_189 Z_189 (Ht rfl)) ?_))))))))))))
   refine fG aA rfl (by kernel_rfl) (zF (zF (aV (ro rfl (db (Ht rfl) (Ht rfl)) (eZ (dQ (Ht rfl) (fun h1=>?_) (fun h1=>?_)))))))
   ·simp only [Bool.not_eq_true', decide_eq_false_iff_not] at h1
    refine cK (cK (fV (m:=8) (dp 0 rfl (cX (Ht rfl)) (dp 5 rfl (cX (Ht rfl)) (bv 32 0 33 1 rfl (dZ U_46 Z_189 (Ht rfl) (Ht rfl) (show ((k:Int) - 1) = ((k - 1:Nat):Int) by omega) (eQ (ai zo))) (dq 34 2 rfl (dV A_189 Z_189 (Ht rfl)) (dp 1 rfl (cX (Ht rfl)) (dp 5 rfl (cX (Ht rfl)) (bv 36 4 37 5 rfl (dZ U_46 Z_189 (Ht rfl) (Ht rfl) (show ((k:Int) - 1) = ((k - 1:Nat):Int) by omega) (eQ (ai zo))) (dq 38 6 rfl (dV A_189 Z_189 (Ht rfl)) ?_))))))))))
    refine fG aA rfl (by kernel_rfl) (zF (zF (aV (ro rfl (gV (Ht rfl) (Ht rfl)) (eZ (dQ (Ht rfl) (fun h2=>?_) (fun h2=>?_)))))))
    ·simp only [decide_eq_true_eq] at h2
     have hlt:=mA (aI m) (aI n) hb (k:=k - 1) zo (fun i h2 h3=>he i zo h3) h2
     rw [bf,bf] at hlt
     refine ts (ro rfl (cQ cV) (eZ (fK rfl (fJ (eY rfl) ?_))))
     exact (am (by simp [iA,hlt]))
    ·simp only [decide_eq_false_iff_not] at h2
     have hlt:=mA (aI n) (aI m) hb.symm (k:=k - 1) zo (fun i h2 h3=>(he i zo zo).symm) zo
     rw [bf,bf] at hlt
     refine cU (ts (ro rfl (cQ (cJ 1)) (eZ (fK rfl (fJ (eY rfl) ?_)))))
     exact (am (by simp [iA,hlt,Nat.lt_asymm hlt]))
   ·simp only [Bool.not_eq_false', decide_eq_true_eq] at h1
    refine cU (aB (cY (rm rfl (ro rfl (cq (Ht rfl) cV (kq zo)) (ra rfl (eZ (gQ (k - 1) ⟨by omega,fun i h3 h4=>(by by_cases e:i = k - 1; (· subst e; omega); exact he i zo h4)⟩ zo (aQ rfl (aQ rfl (aZ rfl (am zo) aX))) aY)))))))
  ·simp at hk1
   have hk0:k = 0:=by omega
   have heq : m = n := by
    have : dg m = dg n := by
     apply List.ext_getElem?
     intro i
     by_cases hi:i < (dg m).length
     ·have h5 := he i zo hi
      have h6:i < (dg n).length:=by omega
      simp [List.getD,hi,h6] at h5
      simp [hi,h6,h5]
     ·rw [List.getElem?_eq_none zo,List.getElem?_eq_none zo]
    rw [← bf m,this,bf]
   refine gK rfl (ts (ro rfl (cQ (cJ 0)) (eZ (fK rfl (fJ (eY rfl) ?_)))))
   exact (am (by simp [iA,heq]))
theorem qY {m y:Nat} (hm:(dg m).length ≤ 17592186044416) (hy:0 < y) (hyb:y < BB):aw Tryz.prog 281 [ah m,aN y] (bo [ah (m / y),aN (m % y)]):=by
 refine aw.intro Tryz.func281 rfl Tryz.ntmps281 rfl (fun cx=>?_)
 have hyb2:=hyb
 simp only [BB] at hyb2
 refine ts (ro rfl (cQ cV) (ro rfl (cQ (cJ 0)) (eZ (ts (rm rfl (ro rfl (dK U_46 (Ht rfl) a7) (rn rfl (ck (T:=aN 0) (i:=Tryz.t189) V_46 dM rfl rfl (Ht rfl) rfl (fun _=>rfl) trivial (by show 4 * _ ≤ _; omega) zo) fun B12=>(ra rfl (eZ (ts (ro rfl (cQ (cJ 0)) (eZ (cK (ts (rm rfl (ro rfl (dK U_46 (Ht rfl) a7) (ro rfl (cq (Ht rfl) cV (kq zo)) (ra rfl (eZ (eK ?_))))))))))))))))))))
 refine eB (fun (k : Nat) (out : List Nat) (r : Nat) => ii (dg m) y out k r) (fun (k : Nat) (out : List Nat) (r : Nat) => k) (fun (k : Nat) (out : List Nat) (r : Nat) => [(0, ah m), (1, aN y), (6, Is (.slice (some ⟨B12, 0, none⟩) (dg m).length (dg m).length)), (7, NT .u64 r), (8, aa .i64 ((k : Int) - 1))]) (fun (k : Nat) (out : List Nat) (r : Nat) => [box B12 189 (out.map aN)]) (dg m).length (List.replicate (dg m).length 0) 0 (ii.start _ hy)
  (zS rfl) (aU (a8 (fv _)) aY) (fun k out r hS=>?_)
 refine cK (ts (rm rfl (ro rfl (fu (Ht rfl) cV) (eZ (dQ (Ht rfl) (fun hb=>?_) (fun hb=>?_))))))
 ·simp at hb
  have hlen:=hS.len; have hkl:=hS.kle; have hrl:=hS.rlt; have hxk:=az (aI m) (k - 1)
  have hz2:=xJ (Nat.lt_trans hrl hyb) hxk; have hsh:=qr (Nat.lt_trans hrl hyb); have hq:=oy hrl hxk; have hor:=kD (a:=r) hxk; have hmod:=Nat.mod_lt (r * BB + (dg m).getD (k - 1) 0) hy
  have hxk2:=hxk
  simp only [BB] at hxk2
  refine cU (cK (eK (ts (rm rfl (ro rfl (g0 (Ht rfl) (cJ 32) (by decide) hsh) (rm rfl (rm rfl (ro rfl (dZ U_46 Z_189 (Ht rfl) (Ht rfl) (show ((k:Int) - 1) = ((k - 1:Nat):Int) by omega) (eQ (ai zo))) (ro rfl (dV A_189 Z_189 (Ht rfl)) (ro rfl (gW U_189 U_254 (Ht rfl) z7) (ro rfl (ae.nat (ic rfl (Ht rfl) (Ht rfl) z7 z7) hor) ?_)))))))))))
  refine ra rfl (eZ (ts (rm rfl (rm rfl (rm rfl (rm rfl (ro rfl (gW U_189 U_254 (Ht rfl) z7) (ro rfl (dr (Ht rfl) (Ht rfl) zo (by show _ < 18446744073709551616; exact hz2)) (ro rfl (gW U_254 U_189 (Ht rfl) (by show _ < 4294967296; exact hq)) (ro rfl (gX U_46 Z_189 (Ht rfl) (Ht rfl) (show ((k:Int) - 1) = ((k - 1:Nat):Int) by omega) zo (by rw [Nat.mul_one,Nat.zero_add])) ?_))))))))))
  refine dI Z_189 (Ht rfl) (Ht rfl) (i:=0) rfl (by first | omega | (simp; omega)) rfl (eZ (cY (rm rfl (rm rfl (ro rfl (gW U_189 U_254 (Ht rfl) z7) (ro rfl (eD (Ht rfl) (Ht rfl) zo) (ra rfl (eZ (aB (cY (rm rfl (ro rfl (cq (Ht rfl) cV (kq zo)) (ra rfl (eZ (gQ (k - 1,_,_) (hS.next (aI m) zo rfl) (by dsimp only; omega) (aQ rfl (aQ rfl (aQ rfl (aQ rfl (aZ rfl (am zo) aX))))) (aU (a8 (ct _ _ _)) aY))))))))))))))))
 ·simp at hb
  have hk0:k = 0:=by omega
  subst hk0
  have hlen:=hS.len; have hrl:=hS.rlt
  have hfin:=hS.fin
  rw [bf] at hfin
  refine gK rfl (gG (i:=0) (tt:=6) rfl rfl (fM rfl hlen.symm (Nat.le_refl _)) (ts (rm rfl (ro rfl (cZ K_267 (k7 _ hS.dig zo) ⟨(Ht rfl),trivial⟩) (rm rfl (ro rfl (gW U_254 U_189 (Ht rfl) (by show _ < 4294967296; first | omega | (simp only [f9]; omega))) (ra rfl (ra rfl (eZ (aC rfl (fJ (eY rfl) ?_) (fJ (eY rfl) ?_)))))))))))
  ·exact (bd hfin.1)
  ·exact (fe hfin.2)
end
section
open Go Go.RowKit
theorem A3 {m:Nat} (hm:(dg m).length ≤ 17592186044416) (h0:m ≠ 0):aw Tryz.prog 282 [ah m] (NT .i64 (32 * ((dg m).length - 1) + bl ((dg m).getD ((dg m).length - 1) 0))):=by
 have hl:(dg m).length ≠ 0:=fun e=>h0 (al.1 e)
 have htl:=az (aI m) ((dg m).length - 1)
 obtain ⟨v,hv⟩:∃ v,v = (dg m).getD ((dg m).length - 1) 0:=⟨_,rfl⟩
 rw [← hv] at htl ⊢
 simp only [BB] at htl
 have hb32:=gh (k:=32) htl
 refine aw.intro Tryz.func282 rfl Tryz.ntmps282 rfl (fun cx=>(ts (ro rfl (cQ (cJ 0)) (eZ (cK (ts (rm rfl (ro rfl (dK U_46 (Ht rfl) a7) (ro rfl (aO (Ht rfl) (cJ 0)) (eZ (cb (Ht rfl) (by simpa using hl) ?_)))))))))))
 refine cU (ts (ro rfl (cQ (cJ 0)) (eZ (cK (ts (rm rfl (rm rfl (ro rfl (dK U_46 (Ht rfl) a7) (ro rfl (dG (Ht rfl) (cJ 1) zo z6) (ro rfl (dZ U_46 Z_189 (Ht rfl) (Ht rfl) rfl (eQ (ai zo))) (ro rfl (dV A_189 Z_189 (Ht rfl)) (ra rfl (eZ (eK ?_))))))))))))))
 refine ci (fun (x : Nat) (q : Nat) => bl v = q + bl x ∧ x < 4294967296) (fun (x : Nat) (q : Nat) => x) (fun (x : Nat) (q : Nat) => [(0, ah m), (3, NT .i64 q), (4, aN x)]) (fun (x : Nat) (q : Nat) => []) v 0 ⟨(Nat.zero_add _).symm, htl⟩
  (aQ rfl (aQ rfl (aZ rfl (fe hv.symm) aX))) aY (fun x q ⟨hq,hx⟩=>?_)
 refine cK (ts (rm rfl (ro rfl (bR (Ht rfl) (cJ 0)) (eZ (dQ (Ht rfl) (fun hb=>?_) (fun hb=>?_))))))
 ·simp at hb
  have hsh:=xW (v:=x) zo
  refine cU (cK (eK (cY (rm rfl (ro rfl (dW (Ht rfl) (cJ 1) z6) (ra rfl (eZ (aB (cY (rm rfl (ro rfl (c5 (Ht rfl) (cJ 1) (by decide)) (ra rfl (eZ (gQ (x / 2 ^ 1,q + 1) ⟨by dsimp only; omega,by dsimp only; omega⟩ (by dsimp only; omega) (zS rfl) aY))))))))))))))
 ·simp at hb
  subst hb
  rw [ye] at hq
  refine gK rfl (ts (rm rfl (ro rfl (dK U_46 (Ht rfl) a7) (ro rfl (dG (Ht rfl) (cJ 1) zo z6) (ro rfl (eC (cJ 32) (Ht rfl) z6) (rm rfl (ro rfl (dW (Ht rfl) (Ht rfl) z6) (ra rfl (eZ (fK rfl (fJ (eY rfl) ?_)))))))))))
  exact (fe zo)
theorem vW {m k:Nat} (hm:(dg m).length ≤ 17592186044416) (hk:k ≤ 562949953421312):aw Tryz.prog 283 [ah m,NT .i64 k] (ah (m * 2 ^ k)):=by
 refine aw.intro Tryz.func283 rfl Tryz.ntmps283 rfl (fun cx=>(ts (ro rfl (cQ cV) (eZ (cK (ts (rm rfl (ro rfl (dK U_46 (Ht rfl) a7) (ro rfl (aO (Ht rfl) (cJ 0)) (eZ (dQ (Ht rfl) (fun hb=>?_) (fun hb=>?_))))))))))))
 ·simp [al] at hb
  have h0:m * 2 ^ k = 0:=by simp_all [iG]
  refine ts (ro rfl (cQ cV) (eZ (fK rfl (fJ (eY rfl) ?_))))
  exact (fun v V h=>by rw [h0]; exact et v V h)
 ·clear hb
  have hr:=Nat.mod_lt k (by decide:32 > 0)
  refine cU (ts (rm rfl (ro rfl (dK U_46 (Ht rfl) a7) (rm rfl (ro rfl (dr (Ht rfl) (cJ 32) zo z6) (ro rfl (dW (Ht rfl) (Ht rfl) z6) (ro rfl (dW (Ht rfl) (cJ 1) z6) (rn rfl (ck (T:=aN 0) (i:=Tryz.t189) V_46 dM rfl rfl (Ht rfl) rfl (fun _=>rfl) trivial (by show 4 * _ ≤ _; omega) zo) fun B17=>?_))))))))
  refine ra rfl (eZ (cK (ts (ro rfl (cQ (cJ 0)) (eZ (eK ?_))))))
  refine ci (fun (i : Nat) (out : List Nat) => mJ (dg m) (k / 32) (k % 32) out i) (fun (i : Nat) (out : List Nat) => (dg m).length - i) (fun (i : Nat) (out : List Nat) => [(0, ah m), (1, NT .i64 k), (5, Is (.slice (some ⟨B17, 0, none⟩) ((dg m).length + k / 32 + 1) ((dg m).length + k / 32 + 1))), (6, NT .i64 i)]) (fun (i : Nat) (out : List Nat) => [box B17 189 (out.map aN)]) 0 (List.replicate ((dg m).length + k / 32 + 1) 0) (mJ.start _ _ _)
   (zS rfl) (aU (a8 (fv _)) aY) (fun i out hS=>?_)
  refine cK (ts (rm rfl (rm rfl (ro rfl (dK U_46 (Ht rfl) a7) (ro rfl (gV (Ht rfl) (Ht rfl)) (eZ (dQ (Ht rfl) (fun hb=>?_) (fun hb=>?_))))))))
  ·simp at hb
   have hlen:=hS.len; have hxi:=az (aI m) i; have hok:=az hS.dig (i + k / 32)
   have hv:=oh hxi hr
   have hd:(dg m).getD i 0 * 2 ^ (k % 32) / 2 ^ 32 < 4294967296:=Nat.div_lt_of_lt_mul hv
   simp only [BB] at hxi hok
   refine cU (cK (eK (ts (rm rfl (rm rfl (ro rfl (dZ U_46 Z_189 (Ht rfl) (Ht rfl) rfl (eQ (ai zo))) (ro rfl (dV A_189 Z_189 (Ht rfl)) (ro rfl (gW U_189 U_254 (Ht rfl) z7) (rm rfl (ro rfl (eD (Ht rfl) (cJ 32) zo) (ro rfl (gW U_3 U_255 (Ht rfl) z7) (ro rfl (g0 (Ht rfl) (Ht rfl) (by show _ ≤ _; simp [IntKind.bits]; omega) (by show _ < 18446744073709551616; exact hv)) ?_))))))))))))
   refine ra rfl (eZ (ts (rm rfl (rm rfl (rm rfl (ro rfl (dr (Ht rfl) (cJ 32) zo z6) (ro rfl (dW (Ht rfl) (Ht rfl) z6) (rm rfl (rm rfl (rm rfl (ro rfl (dr (Ht rfl) (cJ 32) zo z6) (ro rfl (dW (Ht rfl) (Ht rfl) z6) (ro rfl (gX U_46 Z_189 (Ht rfl) (Ht rfl) rfl zo (by rw [Nat.mul_one,Nat.zero_add])) ?_)))))))))))))
   refine ro rfl (fQ A_189 Z_189 (Ht rfl) (i:=0) rfl (eQ (ai zo))) (rm rfl (ro rfl (cu rfl U_254 U_189 (Ht rfl)) (ro rfl (ic rfl (Ht rfl) (Ht rfl) (by show _ < 4294967296; omega) (by show _ % 4294967296 < 4294967296; omega)) (ro rfl (gX U_46 Z_189 (Ht rfl) (Ht rfl) rfl zo (by rw [Nat.mul_one,Nat.zero_add])) ?_))))
   refine dI Z_189 (Ht rfl) (Ht rfl) (i:=0) rfl (by first | omega | (simp; omega)) rfl (eZ (cY (rm rfl (rm rfl (rm rfl (ro rfl (dr (Ht rfl) (cJ 32) zo z6) (ro rfl (dW (Ht rfl) (Ht rfl) z6) (ro rfl (dW (Ht rfl) (cJ 1) z6) (rm rfl (ro rfl (c5 (Ht rfl) (cJ 32) (by decide)) (ro rfl (gW U_254 U_189 (Ht rfl) (by show _ < 4294967296; exact hd)) ?_)))))))))))
   refine ro rfl (gX U_46 Z_189 (Ht rfl) (Ht rfl) rfl zo (by rw [Nat.mul_one,Nat.zero_add])) ?_
   refine dI Z_189 (Ht rfl) (Ht rfl) (i:=0) rfl (by first | omega | (simp; omega)) rfl (eZ (aB (cY (rm rfl (ro rfl (dW (Ht rfl) (cJ 1) z6) (ra rfl (eZ (gQ (i + 1,_) (hS.next (aI m) hr hb rfl rfl) (by dsimp only; omega) (zS rfl) (aU (a8 (qf _ _ _ _ _)) aY)))))))))
  ·simp at hb
   have hkl:i = (dg m).length:=Nat.le_antisymm hS.kle hb
   subst hkl
   have hlen:=hS.len
   have hfin:=hS.fin
   rw [bf,fb] at hfin
   refine gK rfl (gG (i:=0) (tt:=5) rfl rfl (fM rfl hlen.symm (Nat.le_refl _)) (ts (rm rfl (ro rfl (cZ K_267 (k7 _ hS.dig zo) ⟨(Ht rfl),trivial⟩) (ra rfl (eZ (fK rfl (fJ (eY rfl) ?_))))))))
   exact (bd hfin)
theorem BP {m k:Nat} (hm:(dg m).length ≤ 17592186044416) (hk:k ≤ 562949953421312):aw Tryz.prog 284 [ah m,NT .i64 k] (ah (m / 2 ^ k)):=by
 refine aw.intro Tryz.func284 rfl Tryz.ntmps284 rfl (fun cx=>?_)
 have hr:=Nat.mod_lt k (by decide:32 > 0)
 refine ts (ro rfl (cQ cV) (eZ (cK (ts (rm rfl (ro rfl (dr (Ht rfl) (cJ 32) zo z6) (rm rfl (ro rfl (dK U_46 (Ht rfl) a7) (ro rfl (g6 (Ht rfl) (Ht rfl)) (eZ (dQ (Ht rfl) (fun hb=>?_) (fun hb=>?_))))))))))))
 ·simp at hb
  have h0:=qk (aI m) hb (r:=k % 32)
  rw [bf,fb] at h0
  refine ts (ro rfl (cQ cV) (eZ (fK rfl (fJ (eY rfl) ?_))))
  exact (fun v V h=>bd h0.symm v V (et v V h))
 ·simp at hb
  refine cU (ts (rm rfl (ro rfl (dK U_46 (Ht rfl) a7) (rm rfl (ro rfl (dr (Ht rfl) (cJ 32) zo z6) (ro rfl (dG (Ht rfl) (Ht rfl) zo z6) (rn rfl (ck (T:=aN 0) (i:=Tryz.t189) V_46 dM rfl rfl (Ht rfl) rfl (fun _=>rfl) trivial (by show 4 * _ ≤ _; omega) zo) fun B18=>(ra rfl (eZ (cK (ts (ro rfl (cQ (cJ 0)) (eZ (eK ?_))))))))))))))
  refine ci (fun (i : Nat) (out : List Nat) => no (dg m) (k / 32) (k % 32) out i) (fun (i : Nat) (out : List Nat) => (dg m).length - i) (fun (i : Nat) (out : List Nat) => [(0, ah m), (1, NT .i64 k), (5, Is (.slice (some ⟨B18, 0, none⟩) ((dg m).length - k / 32) ((dg m).length - k / 32))), (6, NT .i64 i)]) (fun (i : Nat) (out : List Nat) => [box B18 189 (out.map aN)]) 0 (List.replicate ((dg m).length - k / 32) 0) (no.start _ _ _)
   (zS rfl) (aU (a8 (fv _)) aY) (fun i out hS=>?_)
  refine cK (ts (rm rfl (rm rfl (ro rfl (dS U_46 (Ht rfl)) (ro rfl (gV (Ht rfl) (Ht rfl)) (eZ (dQ (Ht rfl) (fun hb=>?_) (fun hb=>?_))))))))
  ·simp at hb
   have hlen:=hS.len; have hx0:=az (aI m) (i + k / 32); have hx1:=az (aI m) (i + k / 32 + 1)
   have hio:i < out.length:=by omega
   simp only [BB] at hx0 hx1
   refine cU (cK (eK (ts (rm rfl (rm rfl (rm rfl (ro rfl (dr (Ht rfl) (cJ 32) zo z6) (ro rfl (dW (Ht rfl) (Ht rfl) z6) (ro rfl (dZ U_46 Z_189 (Ht rfl) (Ht rfl) rfl (eQ (ai zo))) (ro rfl (dV A_189 Z_189 (Ht rfl)) (ro rfl (gW U_189 U_254 (Ht rfl) z7) ?_)))))))))))
   refine ra rfl (eZ (cK (dz (fun (v:Nat)=>v = (dg m).getD (i + k / 32) 0 + BB * (dg m).getD (i + k / 32 + 1) 0) (fun (v:Nat)=>[(0,ah m),(1,NT .i64 k),(5,Is (.slice (some ⟨B18,0,none⟩) ((dg m).length - k / 32) ((dg m).length - k / 32))),(6,NT .i64 i),(7,NT .u64 v)]) (fun (v:Nat)=>[box B18 189 (out.map aN)]) ?_ (fun v hv=>?_))))
   ·refine ts (rm rfl (rm rfl (ro rfl (dr (Ht rfl) (cJ 32) zo z6) (ro rfl (dW (Ht rfl) (Ht rfl) z6) (ro rfl (dW (Ht rfl) (cJ 1) z6) (rm rfl (ro rfl (dK U_46 (Ht rfl) a7) (ro rfl (gV (Ht rfl) (Ht rfl)) (eZ (dQ (Ht rfl) (fun hk2 => ?_) (fun hk2 => ?_)))))))))))
    ·simp at hk2
     refine cY (rm rfl (rm rfl (rm rfl (rm rfl (ro rfl (dr (Ht rfl) (cJ 32) zo z6) (ro rfl (dW (Ht rfl) (Ht rfl) z6) (ro rfl (dW (Ht rfl) (cJ 1) z6) (ro rfl (dZ U_46 Z_189 (Ht rfl) (Ht rfl) rfl (eQ (ai zo))) (ro rfl (dV A_189 Z_189 (Ht rfl)) (ro rfl (gW U_189 U_254 (Ht rfl) z7) ?_))))))))))
     refine ro rfl (g0 (Ht rfl) (cJ 32) (by decide) (by show _ < 18446744073709551616; omega)) (ro rfl (ae.nat (ic rfl (Ht rfl) (Ht rfl) z7 z7) (sL hx0)) (ra rfl (eZ (au ((dg m).getD (i + k / 32) 0 + BB * (dg m).getD (i + k / 32 + 1) 0) rfl (zS rfl) (br.refl _)))))
    ·simp at hk2
     refine cU (au ((dg m).getD (i + k / 32) 0) (by simp [List.getD,List.getElem?_eq_none hk2]) (zS rfl) (br.refl _))
   ·refine cY (rm rfl (rm rfl (rm rfl (rm rfl (ro rfl (eD (Ht rfl) (cJ 32) zo) (ro rfl (gW U_3 U_255 (Ht rfl) z7) (ro rfl (c5 (Ht rfl) (Ht rfl) (by show _ ≤ 64; omega)) (ro rfl (cu rfl U_254 U_189 (Ht rfl)) (ro rfl (gX U_46 Z_189 (Ht rfl) (Ht rfl) rfl zo (by rw [Nat.mul_one, Nat.zero_add])) ?_)))))))))
    refine dI Z_189 (Ht rfl) (Ht rfl) (i:=0) rfl (by first | omega | (simp; omega)) rfl (eZ (aB (cY (rm rfl (ro rfl (dW (Ht rfl) (cJ 1) z6) (ra rfl (eZ (gQ (i + 1,_) (hS.next (aI m) hr hio (by rw [hv]; rfl)) (by dsimp only; omega) (zS rfl) (aU (a8 (ct _ _ _)) aY)))))))))
  ·simp at hb
   have hlen:=hS.len
   have hkl:i = out.length:=Nat.le_antisymm hS.kle zo
   subst hkl
   have hfin:=hS.fin (aI m) zo
   rw [bf,fb] at hfin
   refine gK rfl (gG (i:=0) (tt:=5) rfl rfl (fM rfl hlen.symm (Nat.le_refl _)) (ts (rm rfl (ro rfl (cZ K_267 (k7 _ hS.dig zo) ⟨(Ht rfl),trivial⟩) (ra rfl (eZ (fK rfl (fJ (eY rfl) ?_))))))))
   exact (bd hfin)
theorem lR {m n:Nat} (hm:(dg m).length ≤ 17592186044415) (hn1:(dg n).length ≤ 17592186044416) (hn:n ≠ 0):aw Tryz.prog 265 [ah m,ah n] (bo [ah (m / n),ah (m % n)]):=by
 refine aw.intro Tryz.func265 rfl Tryz.ntmps265 rfl (fun cx=>(ts (ro rfl (cQ cV) (ro rfl (cQ cV) (eZ (cK (ts (rm rfl (rm rfl (ro rfl (cZ Tryz.call237 (v5 zo zo) ⟨(Ht rfl),(Ht rfl),trivial⟩) (ro rfl (j7 (Ht rfl) cV) (eZ (dQ (Ht rfl) (fun hb=>?_) (fun hb=>?_))))))))))))))
 ·simp only [decide_eq_true_eq] at hb
  have hlt:m < n:=t8 hb
  refine ts (rm rfl (ro rfl (cQ cV) (ra rfl (eZ (aC rfl (fJ (eY rfl) ?_) (fJ (eY rfl) ?_))))))
  ·exact (fun v V h=>bd (Nat.div_eq_of_lt hlt).symm v V (et v V h))
  ·exact (bd (Nat.mod_eq_of_lt hlt).symm)
 ·simp only [decide_eq_false_iff_not] at hb
  have hle:n ≤ m:=u5 zo
  clear hb
  refine cU (cK (ts (rm rfl (ro rfl (dK U_46 (Ht rfl) a7) (ro rfl (aO (Ht rfl) (cJ 1)) (eZ (dQ (Ht rfl) (fun h1=>?_) (fun h1=>?_))))))))
  ·simp at h1
   have hy0:=vb h1
   have hyb:=az (aI n) 0
   have hmod:=Nat.mod_lt m (show (dg n).getD 0 0 > 0 by omega)
   have hyb2:=hyb
   simp only [BB] at hyb
   refine ts (rm rfl (rm rfl (ro rfl (dZ U_46 Z_189 (Ht rfl) (cJ 0) rfl (eQ (ai zo))) (ro rfl (dV A_189 Z_189 (Ht rfl)) (ro rfl (cZ Tryz.call281 (qY zo zo hyb2) ⟨(Ht rfl),(Ht rfl),trivial⟩) (rm rfl (ro rfl (dU (Ht rfl) rfl) (ro rfl (dU (Ht rfl) rfl) (ra rfl (ra rfl (eZ (ts (rm rfl (rm rfl (ro rfl (gW U_189 U_254 (Ht rfl) z7) (ro rfl (cZ Tryz.call268 (n0 zo) ⟨(Ht rfl),trivial⟩) ?_))))))))))))))))
   refine ra rfl (ra rfl (eZ (aC rfl (fJ (eY rfl) ?_) (fJ (eY rfl) ?_))))
   ·exact (bd (by rw [hy0]))
   ·exact (bd (by rw [hy0]))
  ·simp at h1
   have hl0:(dg n).length ≠ 0:=fun e=>hn (al.1 e)
   have hyb:=az (aI n) ((dg n).length - 1)
   obtain ⟨s,hs⟩:∃ s,s = 32 - bl ((dg n).getD ((dg n).length - 1) 0):=⟨_,rfl⟩
   obtain ⟨hs1,hvl,hvb⟩:=rj hn hs
   obtain ⟨hc1,hc2,hc3,hc4⟩:=qN (m:=m) hs1
   have hbl:=gh (k:=32) hyb
   simp only [BB] at hyb
   have hp2:0 < 2 ^ s:=Nat.pow_pos (by decide)
   have hX0:(dg (m * 2 ^ s)).length ≠ 0:=fun e=>(Nat.ne_of_gt (Nat.mul_pos (show 0 < m by omega) hp2)) (al.1 e)
   have hmono:=cT hle
   refine cU (ts (rm rfl (ro rfl (dK U_46 (Ht rfl) a7) (ro rfl (eC (cJ 32) (Ht rfl) z6) (rm rfl (ro rfl (cZ Tryz.call282 (A3 zo hn) ⟨(Ht rfl),trivial⟩) (ro rfl (ae.nat (dG (Ht rfl) (Ht rfl) zo z6) (show 32 * (dg n).length - (32 * ((dg n).length - 1) + bl ((dg n).getD ((dg n).length - 1) 0)) = s by omega)) (ra rfl (eZ (ts (rm rfl (rm rfl (ro rfl (cZ Tryz.call283 (vW zo zo) ⟨(Ht rfl),(Ht rfl),trivial⟩) ?_)))))))))))))
   refine ra rfl (eZ (ts (rm rfl (ro rfl (dK U_46 (Ht rfl) a7) (ro rfl (dW (Ht rfl) (cJ 1) z6) (rn rfl (ck (T:=aN 0) (i:=Tryz.t189) V_46 dM rfl rfl (Ht rfl) rfl (fun _=>rfl) trivial (by show 4 * _ ≤ _; omega) zo) fun B57=>(ra rfl (eZ (ts (rm rfl (rm rfl (rm rfl (ro rfl (cZ Tryz.call283 (vW zo zo) ⟨(Ht rfl),(Ht rfl),trivial⟩) (tR U_46 Z_189 (Ht rfl) (Ht rfl) (xb hX0) AC (i:=0) rfl (by simp) (by simp; omega) (qg _ _) rfl rfl ?_))))))))))))))
   refine eZ (cK ?_)
   obtain ⟨vs,hvs⟩:∃ vs,vs = dg (n * 2 ^ s):=⟨_,rfl⟩
   rw [← hvs] at hvl hvb
   have hv:en vs:=hvs ▸ aI _
   have hvv:val vs = n * 2 ^ s:=by rw [hvs,bf]
   have hV0:0 < val vs:=by rw [hvv]; exact Nat.mul_pos zo hp2
   have hnr:=tf hv zo hvb
   have hv1:=hnr.v1lt; have hv2:=hnr.v2lt; have hbig:=hnr.big
   simp only [BB] at hv1 hv2 hbig
   refine nf (E':=[(8,_),(9,_),(10,_)]) (aQ rfl (aZ rfl (BW hvs.symm) (zS rfl))) (cY (rm rfl (ro rfl (dK U_46 (Ht rfl) a7) (ra rfl (eZ (ts (rm rfl (ro rfl (dS U_46 (Ht rfl)) (rm rfl (ro rfl (dG (Ht rfl) (Ht rfl) zo z6) (rn rfl (ck (T:=aN 0) (i:=Tryz.t189) V_46 dM rfl rfl (Ht rfl) rfl (fun _=>rfl) trivial (by show 4 * _ ≤ _; omega) zo) fun B69=>(ra rfl (eZ (cK ?_))))))))))))))
   refine ts (rm rfl (ro rfl (dS U_46 (Ht rfl)) (ro rfl (cq (Ht rfl) cV (kq zo)) (ra rfl (eZ (eK ?_))))))
   refine eB (fun (k : Nat) (us : List Nat) (qs : List Nat) => gl (m * 2 ^ s) vs us qs k ∧ us.length = (dg m).length + 1) (fun (k : Nat) (us : List Nat) (qs : List Nat) => k) (fun (k : Nat) (us : List Nat) (qs : List Nat) => [(8, NT .i64 s), (9, lv vs), (10, Is (.slice (some ⟨B57, 0, none⟩) ((dg m).length + 1) ((dg m).length + 1))), (11, NT .i64 vs.length), (12, Is (.slice (some ⟨B69, 0, none⟩) ((dg m).length + 1 - vs.length) ((dg m).length + 1 - vs.length))), (13, aa .i64 ((k : Int) - 1))]) (fun (k : Nat) (us : List Nat) (qs : List Nat) => [box B57 189 (us.map aN), box B69 189 (qs.map aN)]) ((dg m).length + 1 - vs.length) (mS m s) (List.replicate ((dg m).length + 1 - vs.length) 0) ⟨gl.start hv zo hvb hs1 (by have := dm (aI m); rwa [bf] at this) hc3 hc2 hc4 zo, hc2⟩
    (aQ rfl (aQ rfl (aQ rfl (aQ rfl (aQ rfl (aZ rfl (am zo) aX)))))) (aU (fun _ _ _ h=>h) (aU (a8 (fv _)) aY)) (fun k us qs ⟨hS,hus⟩=>?_)
   refine cK (ts (rm rfl (ro rfl (fu (Ht rfl) cV) (eZ (dQ (Ht rfl) (fun hk=>?_) (fun hk=>?_))))))
   ·simp at hk
    obtain ⟨j,rfl⟩:∃ j,k = j + 1:=⟨k - 1,by omega⟩
    have htp:=hS.top hv zo (Nat.succ_pos j) rfl
    have hkq:=hS.kle; have hlq:=hS.lenq
    rw [Nat.add_sub_cancel] at htp
    have hu0:=az hS.dig (j + vs.length); have hu1:=az hS.dig (j + vs.length - 1); have hu2:=az hS.dig (j + vs.length - 2)
    have ht64:=xJ hu0 hu1; have hsh:=qr hu0
    obtain ⟨top,htop⟩:∃ top,top = us.getD (j + vs.length) 0 * BB + us.getD (j + vs.length - 1) 0:=⟨_,rfl⟩
    have hor:=(kD (a:=us.getD (j + vs.length) 0) hu1).trans htop.symm
    rw [← htop] at htp ht64
    have hu2b:=hu2
    simp only [BB] at hu0 hu1 hu2
    refine nf (E':=[(8,_),(9,_),(10,_),(11,_),(12,_),(13,_),(73,_),(74,_)]) (aQ rfl (aQ rfl (aQ rfl (aQ rfl (aQ rfl (aZ rfl (am (show ((j + 1:Nat):Int) - 1 = (j:Int) by omega)) (zS rfl))))))) (cU (cK (eK (cK (fV (m:=16) (dp 10 rfl (cX (Ht rfl)) (dp 13 rfl (cX (Ht rfl)) (dp 11 rfl (cX (Ht rfl)) (bv 78 1 79 2 rfl (dW (Ht rfl) (Ht rfl) z6) (bv 77 0 80 3 rfl (gX U_46 Z_189 (Ht rfl) (Ht rfl) rfl zo (by rw [Nat.mul_one,Nat.zero_add])) ?_))))))))))
    refine dq 81 4 rfl (fQ A_189 Z_189 (Ht rfl) (i:=0) rfl (eQ (ai zo))) (dq 82 5 rfl (gW U_189 U_254 (Ht rfl) z7) (dq 83 6 rfl (g0 (Ht rfl) (cJ 32) (by decide) hsh) (dp 10 rfl (cX (Ht rfl)) (dp 13 rfl (cX (Ht rfl)) (dp 11 rfl (cX (Ht rfl)) (bv 86 9 87 10 rfl (dW (Ht rfl) (Ht rfl) z6) (dq 88 11 rfl (dG (Ht rfl) (cJ 1) zo z6) ?_)))))))
    refine bv 85 8 89 12 rfl (gX U_46 Z_189 (Ht rfl) (Ht rfl) rfl zo (by rw [Nat.mul_one,Nat.zero_add])) ?_
    refine dq 90 13 rfl (fQ A_189 Z_189 (Ht rfl) (i:=0) rfl (eQ (ai zo))) (dq 91 14 rfl (gW U_189 U_254 (Ht rfl) z7) (fG aA rfl (by kernel_rfl) (zF (zF (zF (zF (aV (ro rfl (ae.nat (ic rfl (Ht rfl) (Ht rfl) z7 z7) hor) ?_))))))))
    refine ra rfl (eZ (ts (rm rfl (rm rfl (rm rfl (ro rfl (dG (Ht rfl) (cJ 1) zo z6) (ro rfl (dZ U_46 Z_189 (Ht rfl) (Ht rfl) rfl (eQ (ai zo))) (ro rfl (dV A_189 Z_189 (Ht rfl)) (ro rfl (gW U_189 U_254 (Ht rfl) z7) (ro rfl (dr (Ht rfl) (Ht rfl) zo (by show _ < 18446744073709551616; exact ht64)) (ra rfl (eZ ?_))))))))))))
    refine ts (rm rfl (rm rfl (rm rfl (ro rfl (dG (Ht rfl) (cJ 1) zo z6) (ro rfl (dZ U_46 Z_189 (Ht rfl) (Ht rfl) rfl (eQ (ai zo))) (ro rfl (dV A_189 Z_189 (Ht rfl)) (ro rfl (gW U_189 U_254 (Ht rfl) z7) (ro rfl (eD (Ht rfl) (Ht rfl) zo) (ra rfl (eZ (cK (dz (fun (g:Nat)=>ss (val (us.drop j)) (val vs) g) (fun (g:Nat)=>[(8,NT .i64 s),(9,lv vs),(10,Is (.slice (some ⟨B57,0,none⟩) ((dg m).length + 1) ((dg m).length + 1))),(11,NT .i64 vs.length),(12,Is (.slice (some ⟨B69,0,none⟩) ((dg m).length + 1 - vs.length) ((dg m).length + 1 - vs.length))),(13,NT .i64 j),(15,NT .u64 g)]) (fun (g:Nat)=>[box B57 189 (us.map aN),box B69 189 (qs.map aN)]) ?_ (fun g hg=>?_)))))))))))))
    ·refine eK ?_
     refine ci (fun (g : Nat) (r : Nat) => f8 (val (us.drop j)) (val vs) (vs.getD (vs.length - 1) 0) top g r ∧ r < 4294967296) (fun (g : Nat) (r : Nat) => g) (fun (g : Nat) (r : Nat) => [(8, NT .i64 s), (9, lv vs), (10, Is (.slice (some ⟨B57, 0, none⟩) ((dg m).length + 1) ((dg m).length + 1))), (11, NT .i64 vs.length), (12, Is (.slice (some ⟨B69, 0, none⟩) ((dg m).length + 1 - vs.length) ((dg m).length + 1 - vs.length))), (13, NT .i64 j), (15, NT .u64 g), (16, NT .u64 r)]) (fun (g : Nat) (r : Nat) => [box B57 189 (us.map aN), box B69 189 (qs.map aN)]) (top / vs.getD (vs.length - 1) 0) (top % vs.getD (vs.length - 1) 0) ⟨f8.start hnr htp, Nat.lt_trans (Nat.mod_lt _ zo) hv1⟩
      (zS rfl) (br.refl _) (fun g r ⟨hG,hr⟩=>?_)
     have hgl:=(hG.glt hnr htp).1
     have hrs:=qr (a:=r) hr
     have horr:=kD (a:=r) hu2b
     simp only [BB] at hgl
     refine cK (cK (fV (m:=22) (dp 15 rfl (cX (Ht rfl)) (dq 110 0 rfl (g6 (Ht rfl) (cJ 4294967296)) (dq 111 1 rfl (cX (Ht rfl)) (C.D_step (Ei:=[(15,_),(112,_)]) rfl rfl (bV (bK rfl rfl) (bV (bG 2 rfl rfl) bW)) (eU rfl rfl (Ht rfl) (fun h=>cX (Ht rfl))) (C.D_step (Ei:=[(9,_),(112,_)]) rfl rfl (bV (bK rfl rfl) (bV (bG 2 rfl rfl) bW)) (eU rfl rfl (Ht rfl) (fun h=>cX (Ht rfl))) (C.D_step (Ei:=[(11,_),(112,_)]) rfl rfl (bV (bK rfl rfl) (bV (bG 2 rfl rfl) bW)) (eU rfl rfl (Ht rfl) (fun h=>cX (Ht rfl))) ?_))))))))
     refine C.D_step (Ei:=[(115,_),(112,_)]) rfl rfl (bV (bG 5 rfl rfl) (bV (bG 2 rfl rfl) bW)) (eU rfl rfl (Ht rfl) (fun h=>dG (fW rfl h) (cJ 2) (by first | omega | (simp at h; omega)) (by show _ < 9223372036854775808; first | omega | (simp at h; omega)))) (C.D_step (Ei:=[(114,_),(116,_),(112,_)]) rfl rfl (bV (bG 4 rfl rfl) (bV (bG 6 rfl rfl) (bV (bG 2 rfl rfl) bW))) (eU rfl rfl (Ht rfl) (fun h=>dZ U_46 Z_189 (fW rfl h) (fW rfl h) rfl (eQ (ai (by first | omega | (simp at h; omega)))))) ?_)
     refine C.D_step (Ei:=[(117,_),(112,_)]) rfl rfl (bV (bG 7 rfl rfl) (bV (bG 2 rfl rfl) bW)) (eU rfl rfl (Ht rfl) (fun h=>dV A_189 Z_189 (fW rfl h))) (C.D_step (Ei:=[(118,_),(112,_)]) rfl rfl (bV (bG 8 rfl rfl) (bV (bG 2 rfl rfl) bW)) (eU rfl rfl (Ht rfl) (fun h=>gW U_189 U_254 (fW rfl h) (by show _ < 18446744073709551616; first | omega | (simp at h; omega)))) (C.D_step (Ei:=[(113,_),(119,_),(112,_)]) rfl rfl (bV (bG 3 rfl rfl) (bV (bG 9 rfl rfl) (bV (bG 2 rfl rfl) bW))) (eU rfl rfl (Ht rfl) (fun h=>eC (fW rfl h) (fW rfl h) (by show _ < 18446744073709551616; simp at h; exact AU h hv2))) ?_))
     refine C.D_step (Ei:=[(16,_),(112,_)]) rfl rfl (bV (bK rfl rfl) (bV (bG 2 rfl rfl) bW)) (eU rfl rfl (Ht rfl) (fun h=>cX (Ht rfl))) (C.D_step (Ei:=[(121,_),(112,_)]) rfl rfl (bV (bG 11 rfl rfl) (bV (bG 2 rfl rfl) bW)) (eU rfl rfl (Ht rfl) (fun h=>g0 (fW rfl h) (cJ 32) (by decide) hrs)) (C.D_step (Ei:=[(10,_),(112,_)]) rfl rfl (bV (bK rfl rfl) (bV (bG 2 rfl rfl) bW)) (eU rfl rfl (Ht rfl) (fun h=>cX (Ht rfl))) (C.D_step (Ei:=[(13,_),(112,_)]) rfl rfl (bV (bK rfl rfl) (bV (bG 2 rfl rfl) bW)) (eU rfl rfl (Ht rfl) (fun h=>cX (Ht rfl))) ?_)))
     refine C.D_step (Ei:=[(11,_),(112,_)]) rfl rfl (bV (bK rfl rfl) (bV (bG 2 rfl rfl) bW)) (eU rfl rfl (Ht rfl) (fun h=>cX (Ht rfl))) (C.D_step (Ei:=[(124,_),(125,_),(112,_)]) rfl rfl (bV (bG 14 rfl rfl) (bV (bG 15 rfl rfl) (bV (bG 2 rfl rfl) bW))) (eU rfl rfl (Ht rfl) (fun h=>dW (fW rfl h) (fW rfl h) (by show _ < 9223372036854775808; first | omega | (simp at h; omega)))) (C.D_step (Ei:=[(126,_),(112,_)]) rfl rfl (bV (bG 16 rfl rfl) (bV (bG 2 rfl rfl) bW)) (eU rfl rfl (Ht rfl) (fun h=>dG (fW rfl h) (cJ 2) (by first | omega | (simp at h; omega)) (by show _ < 9223372036854775808; first | omega | (simp at h; omega)))) ?_))
     refine C.D_step (Ei:=[(123,_),(127,_),(112,_)]) rfl rfl (bV (bG 13 rfl rfl) (bV (bG 17 rfl rfl) (bV (bG 2 rfl rfl) bW))) (eU rfl rfl (Ht rfl) (fun h=>gX U_46 Z_189 (fW rfl h) (fW rfl h) rfl (by first | omega | (simp at h; omega)) (by rw [Nat.mul_one,Nat.zero_add]))) ?_
     refine C.D_step (Ei:=[(128,_),(112,_)]) rfl rfl (bV (bG 18 rfl rfl) (bV (bG 2 rfl rfl) bW)) (eU rfl rfl (Ht rfl) (fun h=>fQ A_189 Z_189 (fW rfl h) (i:=0) rfl (eQ (ai zo)))) (C.D_step (Ei:=[(129,_),(112,_)]) rfl rfl (bV (bG 19 rfl rfl) (bV (bG 2 rfl rfl) bW)) (eU rfl rfl (Ht rfl) (fun h=>gW U_189 U_254 (fW rfl h) (by show _ < 18446744073709551616; first | omega | (simp at h; omega)))) (C.D_step (Ei:=[(122,_),(130,_),(112,_)]) rfl rfl (bV (bG 12 rfl rfl) (bV (bG 20 rfl rfl) (bV (bG 2 rfl rfl) bW))) (eU rfl rfl (Ht rfl) (fun h=>ae.nat (ic rfl (fW rfl h) (fW rfl h) (by show _ < 18446744073709551616; first | omega | (simp at h; omega)) (by show _ < 18446744073709551616; first | omega | (simp at h; omega))) horr)) ?_))
     refine fG aA rfl (by kernel_rfl) (zF (zF (zF (zF (zF (aJ (aJ (aV (fX rfl rfl (eU rfl rfl (Ht rfl) (fun h=>bR (fW rfl h) (fW rfl h))) (ro rfl (eP (Ht rfl) (fun h=>(fW rfl h))) (eZ (dQ (Ht rfl) (fun hc=>?_) (fun hc=>?_)))))))))))))
     ·have hn2 := hG.next hnr htp (by simpa [BB] using hc)
      have hg1:=hn2.2
      refine cU (eK (ts (rm rfl (ro rfl (dG (Ht rfl) (cJ 1) zo z7) (ra rfl (eZ (ts (rm rfl (rm rfl (rm rfl (ro rfl (dG (Ht rfl) (cJ 1) zo z6) (ro rfl (dZ U_46 Z_189 (Ht rfl) (Ht rfl) rfl (eQ (ai zo))) (ro rfl (dV A_189 Z_189 (Ht rfl)) (ro rfl (gW U_189 U_254 (Ht rfl) z7) ?_))))))))))))))
      refine ro rfl (dW (Ht rfl) (Ht rfl) z7) (ra rfl (eZ (ts (rm rfl (ro rfl (g6 (Ht rfl) (cJ 4294967296)) (eZ (dQ (Ht rfl) (fun hr2=>?_) (fun hr2=>?_))))))))
      ·simp at hr2
       refine gK rfl (au (g - 1) (hn2.1.stop hnr htp hr2) (zS rfl) (br.refl _))
      ·simp at hr2
       refine cU (aB (gQ (g - 1,_) ⟨hn2.1,hr2⟩ (by dsimp only; omega) (zS rfl) (br.refl _)))
     ·simp at hc
      refine gK rfl (au g (hG.done hnr htp hc.1 hc.2) (zS rfl) (br.refl _))
    ·have hglt := hg.lt
     have hglt2:=hg.lt
     simp only [BB] at hglt
     have hjl:j + vs.length < us.length:=by omega
     refine ts (ro rfl (cQ (cJ 0)) (eZ (ts (ro rfl (cQ (cJ 0)) (eZ (cK (ts (ro rfl (cQ (cJ 0)) (eZ (eK ?_))))))))))
     refine kX (fun (i : Nat) (out : List Nat) (c : Nat) (b : Nat) => ju us vs g j out i c b) (fun (i : Nat) (out : List Nat) (c : Nat) (b : Nat) => vs.length - i) (fun (i : Nat) (out : List Nat) (c : Nat) (b : Nat) => [(8, NT .i64 s), (9, lv vs), (10, Is (.slice (some ⟨B57, 0, none⟩) ((dg m).length + 1) ((dg m).length + 1))), (11, NT .i64 vs.length), (12, Is (.slice (some ⟨B69, 0, none⟩) ((dg m).length + 1 - vs.length) ((dg m).length + 1 - vs.length))), (13, NT .i64 j), (15, NT .u64 g), (17, NT .u64 b), (18, NT .u64 c), (19, NT .i64 i)]) (fun (i : Nat) (out : List Nat) (c : Nat) (b : Nat) => [box B57 189 (out.map aN), box B69 189 (qs.map aN)]) 0 us 0 0 (ju.start hS.dig vs g j)
      (zS rfl) (br.refl _) (fun i out c b hT=>?_)
     refine cK (ts (rm rfl (rm rfl (ro rfl (gV (Ht rfl) (Ht rfl)) (eZ (dQ (Ht rfl) (fun hi=>?_) (fun hi=>?_)))))))
     ·simp at hi
      have hlen:=hT.len; have hcl:=hT.clt; have hbl:=hT.ble; have hvi:=az hv i; have hok:=az hT.dig (i + j)
      have hp:=rV hglt2 hvi hT.clt
      simp only [BB] at hp hcl hvi hok
      obtain ⟨p,hp1⟩:∃ p,p = g * vs.getD i 0 + c:=⟨_,rfl⟩
      obtain ⟨x,hx1⟩:∃ x,x = ((out.getD (i + j) 0 + 18446744073709551616 - p % 4294967296) % 18446744073709551616 + 18446744073709551616 - b) % 18446744073709551616:=⟨_,rfl⟩
      refine cU (cK (eK (ts (rm rfl (rm rfl (rm rfl (ro rfl (dZ U_46 Z_189 (Ht rfl) (Ht rfl) rfl (eQ (ai zo))) (ro rfl (dV A_189 Z_189 (Ht rfl)) (ro rfl (gW U_189 U_254 (Ht rfl) z7) (ro rfl (eC (Ht rfl) (Ht rfl) z7) (rm rfl (ro rfl (ae.nat (dW (Ht rfl) (Ht rfl) z7) hp1.symm) ?_))))))))))))
      refine ra rfl (eZ (ts (rm rfl (ro rfl (c5 (Ht rfl) (cJ 32) (by decide)) (ra rfl (eZ (ts (rm rfl (rm rfl (rm rfl (ro rfl (dW (Ht rfl) (Ht rfl) z6) (ro rfl (gX U_46 Z_189 (Ht rfl) (Ht rfl) rfl zo (by rw [Nat.mul_one,Nat.zero_add])) ?_))))))))))))
      refine ro rfl (fQ A_189 Z_189 (Ht rfl) (i:=0) rfl (eQ (ai zo))) (ro rfl (gW U_189 U_254 (Ht rfl) z7) (rm rfl (ro rfl (ae.nat (jQ rfl (Ht rfl) (cJ 4294967295) z7 z7) (DE p)) (ro rfl (fT rfl (Ht rfl) (Ht rfl) (by show _ ≤ 18446744073709551616; first | omega | (simp only [f9]; omega))) ?_))))
      refine rm rfl (ro rfl (ae.nat (fT rfl (Ht rfl) (Ht rfl) (by show _ ≤ 18446744073709551616; first | omega | (simp only [f9]; omega))) hx1.symm) (ra rfl (eZ (ts (rm rfl (rm rfl (rm rfl (ro rfl (dW (Ht rfl) (Ht rfl) z6) (rm rfl (ro rfl (cu rfl U_254 U_189 (Ht rfl)) (ro rfl (gX U_46 Z_189 (Ht rfl) (Ht rfl) rfl zo (by rw [Nat.mul_one,Nat.zero_add])) ?_)))))))))))
      refine dI Z_189 (Ht rfl) (Ht rfl) (i:=0) rfl (by first | omega | (simp; omega)) rfl (eZ (cY (rm rfl (ro rfl (c5 (Ht rfl) (cJ 63) (by decide)) (ra rfl (eZ (aB (cY (rm rfl (ro rfl (dW (Ht rfl) (cJ 1) z6) (ra rfl (eZ (gQ (i + 1,_,_,_) (hT.next hS.dig hv hglt2 hi hjl hp1 (n9 hok hbl hx1) rfl) (by dsimp only; omega) (zS rfl) (aU (a8 (ct _ _ _)) (aU (fun _ _ _ h=>h) aY)))))))))))))))
     ·simp at hi
      have hkl:i = vs.length:=Nat.le_antisymm hT.ile hi
      subst hkl
      have hlen:=hT.len; have hcl:=hT.clt; have hbl:=hT.ble; have hok:=az hT.dig (j + vs.length)
      obtain ⟨x,hx1⟩:∃ x,x = ((out.getD (j + vs.length) 0 + 18446744073709551616 - c) % 18446744073709551616 + 18446744073709551616 - b) % 18446744073709551616:=⟨_,rfl⟩
      have htd:=nG hok hcl hbl hx1
      have hTk:=hT.fin hjl htd rfl
      have hx2:=htd.2
      simp only [BB] at hcl hok
      refine gK rfl (ts (rm rfl (rm rfl (rm rfl (ro rfl (dW (Ht rfl) (Ht rfl) z6) (ro rfl (gX U_46 Z_189 (Ht rfl) (Ht rfl) rfl zo (by rw [Nat.mul_one,Nat.zero_add])) ?_))))))
      refine ro rfl (fQ A_189 Z_189 (Ht rfl) (i:=0) rfl (eQ (ai zo))) (ro rfl (gW U_189 U_254 (Ht rfl) z7) (rm rfl (ro rfl (fT rfl (Ht rfl) (Ht rfl) (by show _ ≤ 18446744073709551616; first | omega | (simp only [f9]; omega))) (rm rfl (ro rfl (ae.nat (fT rfl (Ht rfl) (Ht rfl) (by show _ ≤ 18446744073709551616; first | omega | (simp only [f9]; omega))) hx1.symm) (ra rfl (eZ (ts (rm rfl (rm rfl (rm rfl (ro rfl (dW (Ht rfl) (Ht rfl) z6) ?_))))))))))))
      refine rm rfl (ro rfl (cu rfl U_254 U_189 (Ht rfl)) (ro rfl (gX U_46 Z_189 (Ht rfl) (Ht rfl) rfl zo (by rw [Nat.mul_one,Nat.zero_add])) ?_))
      refine dI Z_189 (Ht rfl) (Ht rfl) (i:=0) rfl (by first | omega | (simp; omega)) rfl (eZ (cK (jc (fun (us2:List Nat) (g2:Nat)=>gl (m * 2 ^ s) vs us2 (qs.set j g2) j ∧ g2 < 4294967296 ∧ us2.length = (dg m).length + 1) (fun (us2:List Nat) (g2:Nat)=>[(8,NT .i64 s),(9,lv vs),(10,Is (.slice (some ⟨B57,0,none⟩) ((dg m).length + 1) ((dg m).length + 1))),(11,NT .i64 vs.length),(12,Is (.slice (some ⟨B69,0,none⟩) ((dg m).length + 1 - vs.length) ((dg m).length + 1 - vs.length))),(13,NT .i64 j),(15,NT .u64 g2)]) (fun (us2:List Nat) (g2:Nat)=>[box B57 189 (us2.map aN),box B69 189 (qs.map aN)]) ?_ (fun us2 g2 ⟨hD,hg2,hus2⟩=>?_))))
      ·refine ts (rm rfl (ro rfl (c5 (Ht rfl) (cJ 63) (by decide)) (ro rfl (aO (Ht rfl) (cJ 1)) (eZ (dQ (Ht rfl) (fun hbb => ?_) (fun hbb => ?_))))))
       ·simp only [decide_eq_true_eq] at hbb
        have hdec:(!decide (x / 2 ^ 63 = 0)) = true:=by rw [hbb]; rfl
        rw [hdec] at hTk
        obtain ⟨o1,ho1⟩:∃ o1,o1 = out.set (j + vs.length) (x % BB):=⟨_,rfl⟩
        rw [← ho1] at hTk
        have hg0:=hS.gpos hv rfl zo hTk
        have hol:=hTk.len
        refine ts (rm rfl (ro rfl (dG (Ht rfl) (cJ 1) zo z7) (ra rfl (eZ (ts (ro rfl (cQ (cJ 0)) (eZ (cK (ts (ro rfl (cQ (cJ 0)) (eZ (eK ?_))))))))))))
        refine eB (fun (i : Nat) (out2 : List Nat) (c : Nat) => jq o1 vs j out2 i c) (fun (i : Nat) (out2 : List Nat) (c : Nat) => vs.length - i) (fun (i : Nat) (out2 : List Nat) (c : Nat) => [(8, NT .i64 s), (9, lv vs), (10, Is (.slice (some ⟨B57, 0, none⟩) ((dg m).length + 1) ((dg m).length + 1))), (11, NT .i64 vs.length), (12, Is (.slice (some ⟨B69, 0, none⟩) ((dg m).length + 1 - vs.length) ((dg m).length + 1 - vs.length))), (13, NT .i64 j), (15, NT .u64 (g - 1 : Nat)), (18, NT .u64 c), (23, NT .i64 i)]) (fun (i : Nat) (out2 : List Nat) (c : Nat) => [box B57 189 (out2.map aN), box B69 189 (qs.map aN)]) 0 o1 0 (jq.start hTk.dig vs j)
         (zS rfl) (aU (a8 (by rw [ho1]; exact ct _ _ _)) (aU (fun _ _ _ h=>h) aY)) (fun i out2 c hB=>?_)
        refine cK (ts (rm rfl (rm rfl (ro rfl (gV (Ht rfl) (Ht rfl)) (eZ (dQ (Ht rfl) (fun hi=>?_) (fun hi=>?_)))))))
        ·simp at hi
         have hlen:=hB.len; have hcl:=hB.cle; have hvi:=az hv i; have hok:=az hB.dig (i + j)
         simp only [BB] at hvi hok
         refine cU (cK (eK (cK (fV (m:=14) (dp 10 rfl (cX (Ht rfl)) (dp 23 rfl (cX (Ht rfl)) (dp 13 rfl (cX (Ht rfl)) (bv 212 1 213 2 rfl (dW (Ht rfl) (Ht rfl) z6) (bv 211 0 214 3 rfl (gX U_46 Z_189 (Ht rfl) (Ht rfl) rfl zo (by rw [Nat.mul_one,Nat.zero_add])) ?_)))))))))
         refine dq 215 4 rfl (fQ A_189 Z_189 (Ht rfl) (i:=0) rfl (eQ (ai zo))) (dq 216 5 rfl (gW U_189 U_254 (Ht rfl) z7) (dp 9 rfl (cX (Ht rfl)) (dp 23 rfl (cX (Ht rfl)) (bv 218 7 219 8 rfl (dZ U_46 Z_189 (Ht rfl) (Ht rfl) rfl (eQ (ai zo))) (dq 220 9 rfl (dV A_189 Z_189 (Ht rfl)) (dq 221 10 rfl (gW U_189 U_254 (Ht rfl) z7) ?_))))))
         refine bv 217 6 222 11 rfl (dW (Ht rfl) (Ht rfl) z7) (dp 18 rfl (cX (Ht rfl)) (fG aA rfl (by kernel_rfl) (zF (zF (zF (aJ (aJ (aV (ro rfl (dW (Ht rfl) (Ht rfl) z7) (ra rfl (eZ (ts (rm rfl (rm rfl (rm rfl (ro rfl (dW (Ht rfl) (Ht rfl) z6) ?_))))))))))))))))
         refine rm rfl (ro rfl (cu rfl U_254 U_189 (Ht rfl)) (ro rfl (gX U_46 Z_189 (Ht rfl) (Ht rfl) rfl zo (by rw [Nat.mul_one,Nat.zero_add])) ?_))
         refine dI Z_189 (Ht rfl) (Ht rfl) (i:=0) rfl (by first | omega | (simp; omega)) rfl (eZ (cY (rm rfl (ro rfl (c5 (Ht rfl) (cJ 32) (by decide)) (ra rfl (eZ (aB (cY (rm rfl (ro rfl (dW (Ht rfl) (cJ 1) z6) (ra rfl (eZ (gQ (i + 1,_,_) (hB.next hv hi zo (Nat.add_comm _ _)) (by dsimp only; omega) (zS rfl) (aU (a8 (ct _ _ _)) (aU (fun _ _ _ h=>h) aY)))))))))))))))
        ·simp at hi
         have hil:i = vs.length:=Nat.le_antisymm hB.ile hi
         subst hil
         have hlen:=hB.len; have hcl:=hB.cle; have hok:=az hB.dig (j + vs.length)
         have hBk:=hB.fin zo rfl
         obtain ⟨_,hDn⟩:=hS.wrong hv hV0 (Nat.succ_pos j) rfl hg hTk hBk
         simp only [BB] at hok
         refine gK rfl (cY (rm rfl (rm rfl (rm rfl (ro rfl (dW (Ht rfl) (Ht rfl) z6) (rm rfl (rm rfl (rm rfl (ro rfl (dW (Ht rfl) (Ht rfl) z6) (ro rfl (gX U_46 Z_189 (Ht rfl) (Ht rfl) rfl zo (by rw [Nat.mul_one,Nat.zero_add])) ?_))))))))))
         refine ro rfl (fQ A_189 Z_189 (Ht rfl) (i:=0) rfl (eQ (ai zo))) (rm rfl (ro rfl (gW U_254 U_189 (Ht rfl) (by show _ < 4294967296; first | omega | (simp only [f9]; omega))) (ro rfl (sI rfl (Ht rfl) (Ht rfl)) (ro rfl (gX U_46 Z_189 (Ht rfl) (Ht rfl) rfl zo (by rw [Nat.mul_one,Nat.zero_add])) ?_))))
         refine dI Z_189 (Ht rfl) (Ht rfl) (i:=0) rfl (by first | omega | (simp; omega)) rfl (eZ (au (_,g - 1) ⟨hDn,by dsimp only; omega,by simp; omega⟩ (zS rfl) (aU (a8 (ct _ _ _)) (aU (fun _ _ _ h=>h) aY))))
       ·simp only [decide_eq_false_iff_not] at hbb
        have hdec:(!decide (x / 2 ^ 63 = 0)) = false:=by rw [show x / 2 ^ 63 = 0 by omega]; rfl
        rw [hdec] at hTk
        have hol:=hTk.len
        refine cU (au (_,g) ⟨hS.right hv hV0 (Nat.succ_pos j) rfl hg hTk,hglt,by dsimp only; omega⟩ (zS rfl) (aU (a8 (ct _ _ _)) (aU (fun _ _ _ h=>h) aY)))
      ·refine cY (rm rfl (rm rfl (rm rfl (ro rfl (gW U_254 U_189 (Ht rfl) (by show _ < 4294967296; first | omega | (simp only [f9]; omega))) (ro rfl (gX U_46 Z_189 (Ht rfl) (Ht rfl) rfl zo (by rw [Nat.mul_one, Nat.zero_add])) ?_)))))
       refine dI Z_189 (Ht rfl) (Ht rfl) (i:=1) rfl (by first | omega | (simp; omega)) rfl (eZ (aB (cY (rm rfl (ro rfl (cq (Ht rfl) cV (kq zo)) (ra rfl (eZ (gQ (j,us2,_) ⟨hD,hus2⟩ (by dsimp only; omega) (zS rfl) (aU (fun _ _ _ h=>h) (aU (a8 (ct _ _ _)) aY))))))))))
   ·simp at hk
    have hk0:k = 0:=by omega
    subst hk0
    have hfin:=hS.fin hV0
    have hlq:=hS.lenq
    rw [hvv] at hfin
    have hdiv:val qs = m / n:=by rw [hfin.1]; exact Nat.mul_div_mul_right _ _ hp2
    have hsm:val us < BB ^ vs.length:=by have h1:=hS.small; rw [List.drop_zero] at h1; exact Nat.lt_trans h1 (dm hv)
    have hmod : val (us.take vs.length) / 2 ^ s = m % n := by
     rw [gE hsm zo,hfin.2,Nat.mul_mod_mul_right,Nat.mul_div_cancel _ hp2]
    have hru : (dg (val (us.take vs.length))).length ≤ 17592186044416 := by
     refine Nat.le_trans (dR (k:=vs.length) ?_) zo
     rw [gE hsm zo]; exact hsm
    refine gK rfl (gG (i:=1) (tt:=12) rfl rfl (fM rfl zo (Nat.le_refl _)) (gG (i:=0) (tt:=10) rfl rfl (fM rfl zo (Nat.le_refl _)) (cK (fV (m:=7) (dp 12 rfl (cX (Ht rfl)) (dq 254 0 rfl (cZ K_267 (k7 _ hS.digq zo) ⟨(Ht rfl),trivial⟩) (dp 10 rfl (cX (Ht rfl)) (dp 11 rfl (cX (Ht rfl)) (bv 256 2 257 3 rfl (ae.imp (iI U_46 Z_189 (Ht rfl) (Ht rfl) (fun m e=>by cases e) zo (by simp; omega) rfl) (tV _ _)) ?_)))))))))
    refine dq 258 4 rfl (cZ K_267 (k7 _ (hS.dig.take' vs.length) (by simp; omega)) ⟨(Ht rfl),trivial⟩) ?_
    refine dp 8 rfl (cX (Ht rfl)) (fG aA rfl (by kernel_rfl) (zF (aJ (aJ (aJ (aV (ro rfl (cZ Tryz.call284 (BP hru zo) ⟨(Ht rfl),(Ht rfl),trivial⟩) (ra rfl (ra rfl (eZ (aC rfl (fJ (eY rfl) ?_) (fJ (eY rfl) ?_))))))))))))
    ·exact (bd hdiv)
    ·exact (bd hmod)
theorem sd {m n:Nat} (hm:(dg m).length ≤ 17592186044415) (hn:(dg n).length ≤ 17592186044415):aw Tryz.prog 264 [ah m,ah n] (ah (Nat.gcd m n)):=by
 refine aw.intro Tryz.func264 rfl Tryz.ntmps264 rfl (fun cx=>(ts (ro rfl (cQ cV) (eZ (cK (eK ?_))))))
 refine ci (fun (x : Nat) (y : Nat) => Nat.gcd x y = Nat.gcd m n ∧ (dg x).length ≤ 17592186044415 ∧ (dg y).length ≤ 17592186044415) (fun (x : Nat) (y : Nat) => y) (fun (x : Nat) (y : Nat) => [(0, ah x), (1, ah y)]) (fun (x : Nat) (y : Nat) => []) m n ⟨rfl, hm, hn⟩
  (zS rfl) aY (fun x y ⟨hg,hx,hy⟩=>?_)
 refine cK (ts (rm rfl (ro rfl (dK U_46 (Ht rfl) a7) (ro rfl (bR (Ht rfl) (cJ 0)) (eZ (dQ (Ht rfl) (fun hb=>?_) (fun hb=>?_)))))))
 ·simp at hb
  have hy0:y ≠ 0:=fun e=>by rw [e,bz] at hb; simp at hb
  have hlt:=Nat.mod_lt x (Nat.pos_of_ne_zero hy0)
  refine cU (eK (ts (rm rfl (rm rfl (ro rfl (cZ K_265 (lR hx zo hy0) ⟨(Ht rfl),(Ht rfl),trivial⟩) (rm rfl (ro rfl (dU (Ht rfl) rfl) (ro rfl (dU (Ht rfl) rfl) (ra rfl (ra rfl (eZ (cY (rm rfl (rm rfl (ra rfl (ra rfl (eZ (aB (gQ (y,x % y) ⟨by rw [← hg,Nat.gcd_comm x y,Nat.gcd_rec y x,Nat.gcd_comm],hy,Nat.le_trans (cT (Nat.le_of_lt hlt)) hy⟩ hlt (zS rfl) aY)))))))))))))))))))
 ·simp at hb
  have hy0:y = 0:=al.1 (by simpa using hb)
  subst hy0
  rw [Nat.gcd_zero_right] at hg
  refine gK rfl (ts (rm rfl (ra rfl (eZ (fK rfl (fJ (eY rfl) ?_))))))
  exact (bd hg)
theorem tA {m:Nat} (hm:(dg m).length ≤ 8796093022208):aw Tryz.prog 275 [ah m] (iP (kh m)):=by
 refine aw.intro Tryz.func275 rfl Tryz.ntmps275 rfl (fun cx=>(ts (ro rfl (cQ (ax.cS (l:=[]) rfl)) (eZ (cK (ts (rm rfl (ro rfl (dK U_46 (Ht rfl) a7) (ro rfl (aO (Ht rfl) (cJ 0)) (eZ (dQ (Ht rfl) (fun hb=>?_) (fun hb=>?_))))))))))))
 ·simp at hb
  have h0:m = 0:=al.1 (by simpa using hb)
  subst h0
  refine ts (ro rfl (cQ (ax.cS (l:=[48]) rfl)) (eZ (fK rfl (fJ (eY rfl) ?_))))
  exact (dx rfl)
 ·simp at hb
  have h0:m ≠ 0:=fun e=>hb (by rw [e,bz])
  refine cU (ts (ro rfl (cQ cV) (eZ (cK (eK (jk 5 1 ?_))))))
  refine eB (fun (x : Nat) (out : List Nat) (v : Value) => nl m out x ∧ x ≤ m) (fun (x : Nat) (out : List Nat) (v : Value) => x) (fun (x : Nat) (out : List Nat) (v : Value) => [(0, ah x), (3, Is v)]) (fun (x : Nat) (out : List Nat) (v : Value) => [aE 5 1 v (out.map ma)]) m [] (.slice none 0 0) ⟨nl.start m, Nat.le_refl m⟩
   (zS rfl) (br.refl _) (fun x out v ⟨hO,hle⟩=>?_)
  refine cK (ts (rm rfl (ro rfl (dK U_46 (Ht rfl) a7) (ro rfl (bR (Ht rfl) (cJ 0)) (eZ (dQ (Ht rfl) (fun hc=>?_) (fun hc=>?_)))))))
  ·simp at hc
   have hx0:x ≠ 0:=fun e=>by rw [e,bz] at hc; simp at hc
   have hxm:=cT hle
   refine cU (eK (ts (rm rfl (ro rfl (cZ Tryz.call281 (qY zo (by decide) (by decide)) ⟨(Ht rfl),(cJ 1000000000),trivial⟩) (rm rfl (ro rfl (dU (Ht rfl) rfl) (ro rfl (dU (Ht rfl) rfl) (ra rfl (ra rfl (eZ (cK (ts (ro rfl (cQ (cJ 0)) (eZ (eK ?_)))))))))))))))
   refine kX (fun (r : Nat) (k : Nat) (out : List Nat) (v : Value) => mj m out (x / 1000000000) r k) (fun (r : Nat) (k : Nat) (out : List Nat) (v : Value) => 9 - k) (fun (r : Nat) (k : Nat) (out : List Nat) (v : Value) => [(3, Is v), (4, ah (x / 1000000000)), (5, aN r), (6, NT .i64 k)]) (fun (r : Nat) (k : Nat) (out : List Nat) (v : Value) => [aE 5 1 v (out.map ma)]) (x % 1000000000) 0 out v (hO.inner)
    (zS rfl) (br.refl _) (fun r k out v hI=>?_)
   refine cK (ts (rm rfl (ro rfl (gV (Ht rfl) (cJ 9)) (rm rfl (fX rfl rfl (eo rfl rfl (Ht rfl) (fun h=>cX (Ht rfl))) (fX rfl rfl (eo rfl rfl (Ht rfl) (fun h=>bR (ax.wu rfl h) (cJ 0))) (fX rfl rfl (eo rfl rfl (Ht rfl) (fun h=>cX (ax.wu rfl h))) (fX rfl rfl (iZ rfl rfl rfl (fun h h2=>cX (Ht rfl))) (fX rfl rfl (iZ rfl rfl rfl (fun h h2=>dK U_46 (ax.wu rfl ⟨h,h2⟩) a7)) (fX rfl rfl (iZ rfl rfl rfl (fun h h2=>bR (ax.wu rfl ⟨h,h2⟩) (cJ 0))) (fX rfl rfl (eo rfl rfl (Ht rfl) (fun h=>eP (ax.wu rfl h) (fun h2=>(ax.wu rfl ⟨h,h2⟩)))) ?_)))))))))))
   refine ro rfl (bx (Ht rfl) (fun h=>(ax.wu rfl h))) (eZ (dQ (Ht rfl) (fun hd=>?_) (fun hd=>?_)))
   ·simp at hd
    have hxr:0 < x / 1000000000 ∨ 0 < r:=hd.2.elim (fun h=>.inr h) (fun h=>.inl (Nat.pos_of_ne_zero (fun e=>by rw [e,bz] at h; simp at h)))
    have hln:=hI.len hxr
    have hr32:=hI.r32
    refine cU (cK (eK (ts (rm rfl (rm rfl (ro rfl (eD (Ht rfl) (cJ 10) zo) (ro rfl (dW (cJ 48) (Ht rfl) (by show _ < 4294967296; first | omega | (simp only [f9]; omega))) (ro rfl (gW U_189 U_5 (Ht rfl) (by show _ < 256; first | omega | (simp only [f9]; omega))) (ro rfl (bm (xs:=[.tmp 37]) U_293 Z_5 Tryz.zeroValue5 (cW (Ht rfl) cG) rfl rfl rfl) (gd (inf:=Tryz.t5) mD wQ rfl rfl rfl (Ht rfl) (Ht rfl) (i:=0) rfl (by simp) (fun T hT=>by simp at hT; subst hT; exact El.one) (by show _ * 1 ≤ _; simp only [List.length_map,List.length_cons,List.length_nil]; omega) (by simp only [List.length_map,List.length_cons,List.length_nil]; omega) rfl (fun v2=>?_)))))))))))
    refine ra rfl (eZ (cY (rm rfl (ro rfl (dr (Ht rfl) (cJ 10) zo (by show _ < 4294967296; first | omega | (simp only [f9]; omega))) (ra rfl (eZ (aB (cY (rm rfl (ro rfl (dW (Ht rfl) (cJ 1) z6) (ra rfl (eZ (gQ (r / 10,k + 1,_,v2) (hI.next hd.1 hxr) (by dsimp only; omega) (zS rfl) (aU (ar (wd _ _)) aY))))))))))))))
   ·simp at hd
    have hO2 := hI.fin (fun ⟨h1, h2⟩ => by
     have h3:=hd h1
     rcases h2 with h2 | h2
     ·have:=iG.1 h3.2; omega
     ·omega)
    refine gK rfl (cY (rm rfl (ra rfl (eZ (aB (gQ (x / 1000000000,_,_) ⟨hO2,Nat.le_trans (Nat.div_le_self _ _) hle⟩ (Nat.div_lt_self (Nat.pos_of_ne_zero hx0) (by decide)) (zS rfl) (br.refl _)))))))
  ·simp at hc
   have hx0:x = 0:=al.1 (by simpa using hc)
   subst hx0
   have hfin:=hO.fin
   have hdl:=io m
   rw [hfin] at hdl
   refine gK rfl (cK (ts (rm rfl (ro rfl (gH U_293 (Ht rfl) (i:=0) rfl a7) (ro rfl (cq (Ht rfl) cV (kq zo)) (ro rfl (cQ (cJ 0)) (ra rfl (eZ (eK ?_)))))))))
   refine ci (fun (k : Nat) (o : List Nat) => mQ out o k) (fun (k : Nat) (o : List Nat) => out.length - k) (fun (k : Nat) (o : List Nat) => [(3, Is v), (7, NT .i64 k), (8, aa .i64 ((out.length : Int) - 1 - (k : Int)))]) (fun (k : Nat) (o : List Nat) => [aE 5 1 v (o.map ma)]) 0 out (mQ.start out)
    (aQ rfl (aQ rfl (aZ rfl (am zo) aX))) (br.refl _) (fun k o hR=>?_)
   refine cK (ts (rm rfl (rm rfl (ro rfl (j7 (Ht rfl) (Ht rfl)) (eZ (dQ (Ht rfl) (fun hk=>?_) (fun hk=>?_)))))))
   ·simp only [decide_eq_true_eq] at hk
    have hk2:2 * k + 1 < out.length:=by omega
    obtain ⟨j,hj⟩:∃ j,j = out.length - 1 - k:=⟨_,rfl⟩
    have hlen:=hR.len
    refine nf (E':=[(3,_),(7,_),(8,_),(46,_),(47,_),(48,_)]) (aQ rfl (aQ rfl (aZ rfl (am (show (out.length:Int) - 1 - (k:Int) = (j:Int) by omega)) (zS rfl)))) (cU (cK (eK (W.D_start (m:=14) (fun b=>cond b ([aE 5 1 v ((o.map ma).set k (ma (o.getD j 0)))]) _) 13 (W.D_step (Ei:=[(3,_)]) rfl rfl (W.Srcs.cons (W.Src.pre rfl rfl) W.Srcs.nil) rfl (by kernel_rfl) (dX rfl (cX (Ht rfl))) (W.D_step (Ei:=[(7,_)]) rfl rfl (W.Srcs.cons (W.Src.pre rfl rfl) W.Srcs.nil) rfl (by kernel_rfl) (dX rfl (cX (Ht rfl))) ?_))))))
    refine W.D_pure (Ei:=[(3,_)]) rfl rfl (W.Srcs.cons (W.Src.pre rfl rfl) W.Srcs.nil) rfl (fun _=>dX rfl (cX (Ht rfl))) (W.D_pure (Ei:=[(8,_)]) rfl rfl (W.Srcs.cons (W.Src.pre rfl rfl) W.Srcs.nil) rfl (fun _=>dX rfl (cX (Ht rfl))) (W.D_step (Ei:=[(3,_)]) rfl rfl (W.Srcs.cons (W.Src.pre rfl rfl) W.Srcs.nil) rfl (by kernel_rfl) (dX rfl (cX (Ht rfl))) (W.D_step (Ei:=[(8,_)]) rfl rfl (W.Srcs.cons (W.Src.pre rfl rfl) W.Srcs.nil) rfl (by kernel_rfl) (dX rfl (cX (Ht rfl))) (W.D_step (Ei:=[(57,_),(58,_)]) rfl rfl (W.Srcs.cons (W.Src.op 4 rfl rfl) (W.Srcs.cons (W.Src.op 5 rfl rfl) W.Srcs.nil)) rfl (by kernel_rfl) (dX rfl (bi U_293 Z_5 (Ht rfl) (Ht rfl) rfl (i:=0) rfl (by first | omega | (simp; omega)) rfl)) ?_))))
    refine W.D_step (Ei:=[(59,_)]) rfl rfl (W.Srcs.cons (W.Src.op 6 rfl rfl) W.Srcs.nil) rfl (by kernel_rfl) (dX rfl (ku A_5 Z_5 (Ht rfl) (i:=0) rfl rfl (eQ (ai zo)))) (W.D_step (Ei:=[(3,_)]) rfl rfl (W.Srcs.cons (W.Src.pre rfl rfl) W.Srcs.nil) rfl (by kernel_rfl) (dX rfl (cX (Ht rfl))) (W.D_step (Ei:=[(7,_)]) rfl rfl (W.Srcs.cons (W.Src.pre rfl rfl) W.Srcs.nil) rfl (by kernel_rfl) (dX rfl (cX (Ht rfl))) (W.D_step (Ei:=[(61,_),(62,_)]) rfl rfl (W.Srcs.cons (W.Src.op 8 rfl rfl) (W.Srcs.cons (W.Src.op 9 rfl rfl) W.Srcs.nil)) rfl (by kernel_rfl) (dX rfl (bi U_293 Z_5 (Ht rfl) (Ht rfl) rfl (i:=0) rfl (by first | omega | (simp; omega)) rfl)) ?_)))
    refine W.D_step (Ei:=[(63,_)]) rfl rfl (W.Srcs.cons (W.Src.op 10 rfl rfl) W.Srcs.nil) rfl (by kernel_rfl) (dX rfl (ku A_5 Z_5 (Ht rfl) (i:=0) rfl rfl (eQ (ai zo)))) (W.D_step (Ei:=[(53,_),(54,_)]) rfl rfl (W.Srcs.cons (W.Src.op 0 rfl rfl) (W.Srcs.cons (W.Src.op 1 rfl rfl) W.Srcs.nil)) rfl (by kernel_rfl) (dX rfl (bi U_293 Z_5 (Ht rfl) (Ht rfl) rfl (i:=0) rfl (by first | omega | (simp; omega)) rfl)) (W.D_put (Ei:=[(65,_),(60,_)]) rfl rfl (W.Srcs.cons (W.Src.op 12 rfl rfl) (W.Srcs.cons (W.Src.op 7 rfl rfl) W.Srcs.nil)) rfl (ol Z_5 (Ht rfl) (Ht rfl) El.one (i:=0) rfl rfl (by first | omega | (simp; omega))) ?_))
    refine W.D_done aA rfl (by kernel_rfl) rfl (W.F_val (W.F_val (W.F_val (W.F_val (W.F_val (W.F_val (W.F_val (W.F_val (W.F_val (W.F_val (W.F_val (W.F_val (W.F_val (W.F_put (W.F_nil (ro rfl (bi U_293 Z_5 (Ht rfl) (Ht rfl) rfl (i:=0) rfl (by first | omega | (simp; omega)) rfl) (eL Z_5 (Ht rfl) (Ht rfl) El.one (i:=0) rfl rfl (by first | omega | (simp; omega)) rfl (eZ (aB (cY (rm rfl (ro rfl (dW (Ht rfl) (cJ 1) z6) (rm rfl (ro rfl (cq (Ht rfl) cV (kq zo)) ?_))))))))))))))))))))))))
    refine ra rfl (ra rfl (eZ (gQ (k + 1,_) (hR.next hk2 hj) (by dsimp only; omega) (aQ rfl (aQ rfl (aZ rfl (am zo) aX))) (aU (ar (t6 _ _ _ _ _)) aY))))
   ·simp only [decide_eq_false_iff_not] at hk
    have hrev:=hR.fin zo
    subst hrev
    refine gK rfl (gG (i:=0) (tt:=3) rfl rfl cg (ts (rm rfl (ro rfl (qo mD Ak AH (Ht rfl) (by rw [← hfin]; simpa using tc h0) (fun b hb=>vN (n:=m) b (by rw [k5 h0,hfin]; exact hb))) ?_))))
    refine ra rfl (eZ (fK rfl (fJ (eY rfl) ?_)))
    exact (dx (by rw [k5 h0,hfin]))
end
section
open Go Go.RowKit
theorem xL {n : Nat} {E : aT} {H : Hp} {d : Option Tmp} {t : TypeId} {pos : String} {af : Array Edge} {g : Option (Nat × Bool)}  :
  ae Tryz.prog n E H ⟨d,.build 129 #[],t,pos,af,g⟩ (bB [Is (.bool false),Is (.slice none 0 0)]) :=
 cB (parts := []) fun a V w hs => by
  refine ⟨.agg #[(.bool false),(.slice none 0 0)],?_,[(.bool false),(.slice none 0 0)],rfl,aW (⟨rfl,trivial⟩) (aW (⟨rfl,trivial⟩) (aG))⟩
  simp [Instr.build,Instr.fill,Sem.run_bind,Result.andThen,ca,O_129,U_129,Z_4,Z_46]
theorem jl {n : Nat} {E : aT} {H : Hp} {d : Option Tmp} {t : TypeId} {pos : String} {af : Array Edge} {g : Option (Nat × Bool)} {x0 x1 : Operand} {T0 T1 : Ty} [s0 : bg T0 1 false] (h0 : ax E x0 T0) [s1 : bg T1 1 false] (h1 : ax E x1 T1) :
  ae Tryz.prog n E H ⟨d,.build 129 #[(0,x0),(1,x1)],t,pos,af,g⟩ (bB [T0,T1]) :=
 cB (parts := [(0, x0), (1, x1)]) fun a V w hs => by
  have p0:=h0 n V a hs
  generalize e0:a.eval x0 = v0 at p0
  have q0:=(s0.ok v0 V p0).2.2 rfl
  have p1:=h1 n V a hs
  generalize e1:a.eval x1 = v1 at p1
  have q1:=(s1.ok v1 V p1).2.2 rfl
  refine ⟨.agg #[v0,v1],?_,[v0,v1],rfl,aW (⟨p0,q0⟩) (aW (⟨p1,q1⟩) (aG))⟩
  simp [e0,e1,Instr.build,Instr.fill,Sem.run_bind,Result.andThen,ca,q0.cells,q1.cells,O_129,U_129,Z_4,Z_46]
theorem kl {n : Nat} {E : aT} {H : Hp} {d : Option Tmp} {t : TypeId} {pos : String} {af : Array Edge} {g : Option (Nat × Bool)} {x0 x1 x2 : Operand} {T0 T1 T2 T3 T4 : Ty} (h0 : ax E x0 (bB [T0, T1])) (h1 : ax E x1 (bB [T2, T3])) [s2 : bg T4 1 false] (h2 : ax E x2 T4) :
  ae Tryz.prog n E H ⟨d,.build 131 #[(0,x0),(1,x1),(2,x2)],t,pos,af,g⟩ (bB [T0,T1,T2,T3,T4]) :=
 cB (parts := [(0, x0), (1, x1), (2, x2)]) fun a V w hs => by
  obtain ⟨v0,e0,c0⟩:=h0 n V a hs
  obtain ⟨c0_0,c0_1,rfl⟩:∃ c0_0 c0_1,v0 = [c0_0,c0_1]:=qO (by simpa using c0.length)
  obtain ⟨v1,e1,c1⟩:=h1 n V a hs
  obtain ⟨c1_0,c1_1,rfl⟩:∃ c1_0 c1_1,v1 = [c1_0,c1_1]:=qO (by simpa using c1.length)
  have p2:=h2 n V a hs
  generalize e2:a.eval x2 = v2 at p2
  have q2:=(s2.ok v2 V p2).2.2 rfl
  refine ⟨.agg #[c0_0,c0_1,c1_0,c1_1,v2],?_,[c0_0,c0_1,c1_0,c1_1,v2],rfl,aW (c0.at (i:=0) rfl rfl) (aW (c0.at (i:=1) rfl rfl) (aW (c1.at (i:=0) rfl rfl) (aW (c1.at (i:=1) rfl rfl) (aW (⟨p2,q2⟩) (aG)))))⟩
  simp [e0,e1,e2,Instr.build,Instr.fill,Sem.run_bind,Result.andThen,ca,q2.cells,O_131,U_131,Z_46,Z_129]
theorem pi {n : Nat} {E : aT} {H : Hp} {d : Option Tmp} {t : TypeId} {pos : String} {af : Array Edge} {g : Option (Nat × Bool)}  :
  ae Tryz.prog n E H ⟨d,.build 51 #[],t,pos,af,g⟩ (bB [Is (.bool false),Is (.slice none 0 0),Is (.bool false),Is (.slice none 0 0),Is (.slice none 0 0)]) :=
 cB (parts := []) fun a V w hs => by
  refine ⟨.agg #[(.bool false),(.slice none 0 0),(.bool false),(.slice none 0 0),(.slice none 0 0)],?_,[(.bool false),(.slice none 0 0),(.bool false),(.slice none 0 0),(.slice none 0 0)],rfl,aW (⟨rfl,trivial⟩) (aW (⟨rfl,trivial⟩) (aW (⟨rfl,trivial⟩) (aW (⟨rfl,trivial⟩) (aW (⟨rfl,trivial⟩) (aG)))))⟩
  simp [Instr.build,Instr.fill,Sem.run_bind,Result.andThen,ca,O_51,U_51,Z_47,Z_49]
theorem i7 (a:Addr) (w:World):(Instr.fieldAt 129 (.pointer (some a)) 0).run Tryz.prog w = .ok (.pointer (some (a.add 0))) w:=by
 simp [Instr.fieldAt,Instr.sureAddr,fieldPlace,Sem.run_bind,Result.andThen,U_129,Z_4]
theorem eu (a:Addr) (w:World):(Instr.fieldAt 129 (.pointer (some a)) 1).run Tryz.prog w = .ok (.pointer (some (a.add 1))) w:=by
 simp [Instr.fieldAt,Instr.sureAddr,fieldPlace,Sem.run_bind,Result.andThen,U_129,Z_46]
theorem iT (a:Addr) (w:World):(Instr.fieldAt 131 (.pointer (some a)) 0).run Tryz.prog w = .ok (.pointer (some (a.add 0))) w:=by
 simp [Instr.fieldAt,Instr.sureAddr,fieldPlace,Sem.run_bind,Result.andThen,U_131,Z_129]
theorem iM (a:Addr) (w:World):(Instr.fieldAt 131 (.pointer (some a)) 1).run Tryz.prog w = .ok (.pointer (some (a.add 2))) w:=by
 simp [Instr.fieldAt,Instr.sureAddr,fieldPlace,Sem.run_bind,Result.andThen,U_131,Z_129]
theorem ij (a:Addr) (w:World):(Instr.fieldAt 131 (.pointer (some a)) 2).run Tryz.prog w = .ok (.pointer (some (a.add 4))) w:=by
 simp [Instr.fieldAt,Instr.sureAddr,fieldPlace,Sem.run_bind,Result.andThen,U_131,Z_46]
end
section
open Go Go.RowKit
theorem lJ {b:Bool} {m:Nat}:aw Tryz.prog 266 [a9 b,ah m] (cn (m9 b m)):=by
 refine aw.intro Tryz.func266 rfl Tryz.ntmps266 rfl (fun cx=>(ts (rn rfl (eG (Ts:=[Is (.bool false),Is (.slice none 0 0)]) O_129 rfl (fun V=>aW zd (aW zd (aG)))) fun B4=>(eZ (ts (rm rfl (rm rfl (fX rfl rfl (eU rfl rfl (Ht rfl) (fun h=>cX (Ht rfl))) (fX rfl rfl (eU rfl rfl (Ht rfl) (fun h=>dK U_46 (fW rfl h) a7)) (fX rfl rfl (eU rfl rfl (Ht rfl) (fun h=>bR (fW rfl h) (cJ 0))) (ro rfl (bx (Ht rfl) (fun h=>(fW rfl h))) (rm rfl ?_))))))))))))
 refine ro rfl (jl (Ht rfl) (Ht rfl)) (gJ Z_129 (Ht rfl) (Ht rfl) rfl (i:=0) rfl (aK rfl) rfl rfl (eZ (fK rfl (fJ (fY A_129 Z_129 rfl (i:=0) rfl rfl) ?_))))
 exact vr
theorem n6 {n:Int} (h1:-9223372036854775808 ≤ n) (h2:n ≤ 9223372036854775807):aw Tryz.prog 227 [aa .i64 n] (cn n):=by
 refine aw.intro Tryz.func227 rfl Tryz.ntmps227 rfl (fun cx=>(ts (rn rfl (eG (Ts:=[Is (.bool false),Is (.slice none 0 0)]) O_129 rfl (fun V=>aW zd (aW zd (aG)))) fun B2=>(eZ (cK (ts (rm rfl (ro rfl (j7 (Ht rfl) cV) (eZ (dQ (Ht rfl) (fun hb=>?_) (fun hb=>?_)))))))))))
 ·have hn : n < 0 := by simpa using hb
  refine ts (rm rfl (ro rfl (pG (Ht rfl) (r:=IntKind.i64.wrap (-n)) rfl) ?_))
  refine ro rfl (k6 U_2 U_254 (Ht rfl) (r:=((n.natAbs:Nat):Int)) (by rw [IntKind.wrap_u64,IntKind.wrap_i64]; omega)) ?_
  refine ro rfl (cZ Tryz.call268 (n0 zo) ⟨(Ht rfl),trivial⟩) (ro rfl (jl cV (Ht rfl)) (gJ Z_129 (Ht rfl) (Ht rfl) rfl (i:=0) rfl (aK rfl) rfl rfl (eZ (fK rfl (fJ (fY A_129 Z_129 rfl (i:=0) rfl rfl) ?_)))))
  exact (je (by rw [hb]; rfl))
 ·have hn : ¬ n < 0 := by simpa using hb
  refine cU (ts (rm rfl (ro rfl (k6 U_2 U_254 (Ht rfl) (r:=((n.natAbs:Nat):Int)) (by rw [IntKind.wrap_u64]; omega)) ?_)))
  refine ro rfl (cZ Tryz.call268 (n0 zo) ⟨(Ht rfl),trivial⟩) (ro rfl (jl cV (Ht rfl)) (gJ Z_129 (Ht rfl) (Ht rfl) rfl (i:=0) rfl (aK rfl) rfl rfl (eZ (fK rfl (fJ (fY A_129 Z_129 rfl (i:=0) rfl rfl) ?_)))))
  exact (je (by rw [hb]; rfl))
theorem oB {x:Int}:aw Tryz.prog 228 [cn x] (cn (-x)):=by
 refine aw.intro Tryz.func228 rfl Tryz.ntmps228 rfl (fun cx=>(ts (rn rfl (fU (Ht rfl)) fun B1=>(rn rfl (eG (Ts:=[Is (.bool false),Is (.slice none 0 0)]) O_129 rfl (fun V=>aW zd (aW zd (aG)))) fun B2=>(eZ (ts (ro rfl (eJ i7 (Ht rfl) rfl) (ro rfl (fQ A_4 Z_4 (Ht rfl) (i:=0) rfl rfl) (ro rfl (bD (Ht rfl)) (ro rfl (eJ eu (Ht rfl) rfl) (ro rfl (fQ A_46 Z_46 (Ht rfl) (i:=0) rfl rfl) (ro rfl (cZ Tryz.call266 lJ ⟨(Ht rfl),(Ht rfl),trivial⟩) ?_))))))))))))
 refine gJ Z_129 (Ht rfl) (Ht rfl) rfl (i:=1) rfl (aK rfl) rfl rfl (eZ (fK rfl (fJ (fY A_129 Z_129 rfl (i:=1) rfl rfl) ?_)))
 exact (gY (oi x))
theorem sX {A B:Int} {D:Nat} (hD:0 < D) (hA:(dg A.natAbs).length ≤ 17592186044415) (hB:(dg B.natAbs).length ≤ 17592186044415) (hD2:(dg D).length ≤ 17592186044415):aw Tryz.prog 224 [cn A,cn B,ah D] (QT (Qi.mk' A B D)):=by
 have hg1:=nu hA hB
 have hg2:=nu hg1 hD2
 have hgp:Nat.gcd (Nat.gcd A.natAbs B.natAbs) D ≠ 0:=fun e=>by have:=Nat.gcd_eq_zero_iff.1 e; omega
 refine aw.intro Tryz.func224 rfl Tryz.ntmps224 rfl (fun cx=>(ts (rn rfl (fU (Ht rfl)) fun B3=>(rn rfl (fU (Ht rfl)) fun B4=>(rn rfl (eG (Ts:=[Is (.bool false),Is (.slice none 0 0),Is (.bool false),Is (.slice none 0 0),Is (.slice none 0 0)]) O_131 rfl (fun V=>aW zd (aW zd (aW zd (aW zd (aW zd (aG))))))) fun B6=>(eZ (ts (ro rfl (eJ eu (Ht rfl) rfl) (ro rfl (fQ A_46 Z_46 (Ht rfl) (i:=0) rfl rfl) ?_)))))))))
 refine ro rfl (eJ eu (Ht rfl) rfl) (ro rfl (fQ A_46 Z_46 (Ht rfl) (i:=1) rfl rfl) (ro rfl (cZ Tryz.call264 (sd zo zo) ⟨(Ht rfl),(Ht rfl),trivial⟩) (rm rfl (ro rfl (cZ Tryz.call264 (sd zo zo) ⟨(Ht rfl),(Ht rfl),trivial⟩) (ra rfl (eZ (cK (ts (rm rfl (ro rfl (dK U_46 (Ht rfl) a7) (ro rfl (aO (Ht rfl) (cJ 1)) (rm rfl (fX rfl rfl (eU rfl rfl (Ht rfl) (fun h=>cX (Ht rfl))) (fX rfl rfl (eU rfl rfl (Ht rfl) (fun h=>dZ U_46 Z_189 (fW rfl h) (cJ 0) rfl (eQ (ai (by first | omega | (simp at h; omega)))))) ?_))))))))))))))
 refine fX rfl rfl (eU rfl rfl (Ht rfl) (fun h=>dV A_189 Z_189 (fW rfl h))) (fX rfl rfl (eU rfl rfl (Ht rfl) (fun h=>aO (fW rfl h) (cJ 1))) (ro rfl (bx (Ht rfl) (fun h=>(fW rfl h))) (eZ (dQ (Ht rfl) (fun hb=>?_) (fun hb=>?_)))))
 ·rw [pM] at hb
  have hg:Qi.g3 A B D = 1:=by simpa [Qi.g3] using hb
  refine ts (ro rfl (eW A_129 Z_129 (Ht rfl) (i:=0) rfl rfl rfl) (ro rfl (eW A_129 Z_129 (Ht rfl) (i:=1) rfl rfl rfl) (rm rfl (ro rfl (kl (Ht rfl) (Ht rfl) (Ht rfl)) (gJ Z_131 (Ht rfl) (Ht rfl) rfl (i:=2) rfl (aK rfl) rfl rfl (eZ (fK rfl (fJ (fY A_131 Z_131 rfl (i:=2) rfl rfl) ?_))))))))
  exact (vo hD hg)
 ·refine cU (ts (ro rfl (eJ eu (Ht rfl) rfl) (ro rfl (fQ A_46 Z_46 (Ht rfl) (i := 0) rfl rfl) (rm rfl (ro rfl (cZ K_265 (lR zo zo zo) ⟨(Ht rfl), (Ht rfl), trivial⟩) (rm rfl (ro rfl (dU (Ht rfl) rfl) (ro rfl (dU (Ht rfl) rfl) (ra rfl (ra rfl (eZ (ts (ro rfl (eJ eu (Ht rfl) rfl) (ro rfl (fQ A_46 Z_46 (Ht rfl) (i := 1) rfl rfl) (rm rfl (ro rfl (cZ K_265 (lR zo zo zo) ⟨(Ht rfl), (Ht rfl), trivial⟩) (rm rfl (ro rfl (dU (Ht rfl) rfl) ?_))))))))))))))))))
  refine ro rfl (dU (Ht rfl) rfl) (ra rfl (ra rfl (eZ (ts (rm rfl (rm rfl (ro rfl (cZ K_265 (lR zo zo zo) ⟨(Ht rfl),(Ht rfl),trivial⟩) (rm rfl (ro rfl (dU (Ht rfl) rfl) (ro rfl (dU (Ht rfl) rfl) (ra rfl (ra rfl (eZ (cK (fV (m:=9) (dp 3 rfl (eJ i7 (Ht rfl) rfl) (dq 54 0 rfl (fQ A_4 Z_4 (Ht rfl) (i:=0) rfl rfl) (dp 8 rfl (cX (Ht rfl)) (bv 55 1 56 2 rfl (cZ Tryz.call266 lJ ⟨(Ht rfl),(Ht rfl),trivial⟩) (dp 4 rfl (eJ i7 (Ht rfl) rfl) ?_))))))))))))))))))))
  refine dq 58 4 rfl (fQ A_4 Z_4 (Ht rfl) (i:=1) rfl rfl) (dp 10 rfl (cX (Ht rfl)) (bv 59 5 60 6 rfl (cZ Tryz.call266 lJ ⟨(Ht rfl),(Ht rfl),trivial⟩) (dp 12 rfl (cX (Ht rfl)) (fG aA rfl (by kernel_rfl) (zF (zF (aJ (aV (ro rfl (kl (Ht rfl) (Ht rfl) (Ht rfl)) (gJ Z_131 (Ht rfl) (Ht rfl) rfl (i:=2) rfl (aK rfl) rfl rfl (eZ (fK rfl (fJ (fY A_131 Z_131 rfl (i:=2) rfl rfl) ?_)))))))))))))
  exact (wF hD rfl)
theorem BS {p q d:Int} (p1:-9223372036854775808 ≤ p) (p2:p ≤ 9223372036854775807) (q1:-9223372036854775808 ≤ q) (q2:q ≤ 9223372036854775807) (d1:-9223372036854775808 ≤ d) (d2:d ≤ 9223372036854775807) (hd:d ≠ 0):aw Tryz.prog 145 [aa .i64 p,aa .i64 q,aa .i64 d] (bo [QT (Qi.frac p q d),aa .i64 0]):=by
 have lp:=uo p1 p2; have lq:=uo q1 q2; have ld:=uo d1 d2; have np:=kC p; have nq:=kC q
 refine aw.intro Tryz.func145 rfl Tryz.ntmps145 rfl (fun cx=>(ts (rn rfl (eG (Ts:=[Is (.bool false),Is (.slice none 0 0),Is (.bool false),Is (.slice none 0 0),Is (.slice none 0 0)]) O_131 rfl (fun V=>aW zd (aW zd (aW zd (aW zd (aW zd (aG))))))) fun B6=>(ro rfl (cQ (cJ 0)) (eZ (cK (ts (rm rfl (ro rfl (di (Ht rfl) cV) (eZ (cb (Ht rfl) (by simp [hd]) ?_)))))))))))
 refine cU (ts (rm rfl (ro rfl (cZ Tryz.call227 (n6 d1 d2) ⟨(Ht rfl),trivial⟩) (rn rfl (eG (Ts:=[Is (.bool false),Is (.slice none 0 0)]) O_129 rfl (fun V=>aW zd (aW zd (aG)))) fun B8=>(gJ Z_129 (Ht rfl) (Ht rfl) rfl (i:=1) rfl (aK rfl) rfl rfl (eZ (ts (rm rfl (ro rfl (cZ Tryz.call227 (n6 p1 p2) ⟨(Ht rfl),trivial⟩) (rm rfl (ro rfl (cZ Tryz.call227 (n6 q1 q2) ⟨(Ht rfl),trivial⟩) (rn rfl (eG (Ts:=[Is (.bool false),Is (.slice none 0 0)]) O_129 rfl (fun V=>aW zd (aW zd (aG)))) fun B9=>?_))))))))))))
 refine rn rfl (eG (Ts:=[Is (.bool false),Is (.slice none 0 0)]) O_129 rfl (fun V=>aW zd (aW zd (aG)))) fun B10=>gJ Z_129 (Ht rfl) (Ht rfl) rfl (i:=2) rfl (aK rfl) rfl rfl (gJ Z_129 (Ht rfl) (Ht rfl) rfl (i:=3) rfl (aK rfl) rfl rfl (eZ (cK (jc (fun (a:Int) (b:Int)=>Qi.mk' a b d.natAbs = Qi.frac p q d ∧ (dg a.natAbs).length ≤ 2 ∧ (dg b.natAbs).length ≤ 2) (fun (a:Int) (b:Int)=>[(6,aH B6 0),(8,aH B8 0),(9,aH B9 0),(10,aH B10 0)]) (fun (a:Int) (b:Int)=>[box B6 131 [Is (.bool false),Is (.slice none 0 0),Is (.bool false),Is (.slice none 0 0),Is (.slice none 0 0)],box B8 129 [a9 (decide (d < 0)),ah (d).natAbs],box B9 129 [a9 (decide (a < 0)),ah (a).natAbs],box B10 129 [a9 (decide (b < 0)),ah (b).natAbs]]) ?_ (fun a b ⟨hab,ha,hb⟩=>?_)))))
 ·refine ts (ro rfl (eJ i7 (Ht rfl) rfl) (ro rfl (fQ A_4 Z_4 (Ht rfl) (i := 1) rfl rfl) (eZ (dQ (Ht rfl) (fun hn => ?_) (fun hn => ?_)))))
  ·simp only [decide_eq_true_eq] at hn
   refine fV (m:=3) (dp 9 rfl (eW A_129 Z_129 (Ht rfl) (i:=2) rfl rfl rfl) (dq 22 0 rfl (cZ Tryz.call228 oB ⟨(Ht rfl),trivial⟩) (dp 10 rfl (eW A_129 Z_129 (Ht rfl) (i:=3) rfl rfl rfl) (fG aA rfl (by kernel_rfl) (aJ (aJ (aJ (aV (ro rfl (cZ Tryz.call228 oB ⟨(Ht rfl),trivial⟩) (gJ Z_129 (Ht rfl) (Ht rfl) rfl (i:=2) rfl (aK rfl) rfl rfl (gJ Z_129 (Ht rfl) (Ht rfl) rfl (i:=3) rfl (aK rfl) rfl rfl (eZ (au (-p,-q) ⟨Qi.frac_neg hn,by dsimp only; omega,by dsimp only; omega⟩ (zS rfl) (aU (a8 rfl) (aU (a8 rfl) (aU (a8 rfl) (aU (a8 rfl) aY)))))))))))))))))
  ·simp only [decide_eq_false_iff_not] at hn
   refine cU (au (p,q) ⟨Qi.frac_pos hn hd,by omega,by omega⟩ (zS rfl) (br.refl _))
 ·refine ts (ro rfl (eW A_129 Z_129 (Ht rfl) (i := 2) rfl rfl rfl) (ro rfl (eW A_129 Z_129 (Ht rfl) (i := 3) rfl rfl rfl) (ro rfl (eJ eu (Ht rfl) rfl) (ro rfl (fQ A_46 Z_46 (Ht rfl) (i := 1) rfl rfl) (ro rfl (cZ Tryz.call224 (sX zo zo zo zo) ⟨(Ht rfl), (Ht rfl), (Ht rfl), trivial⟩) (gJ Z_131 (Ht rfl) (Ht rfl) rfl (i := 0) rfl (aK rfl) rfl rfl (ro rfl (cQ (cJ 0)) (eZ (aC rfl (fJ (fY A_131 Z_131 rfl (i := 0) rfl rfl) ?_) (eY rfl))))))))))
  exact (CZ hab)
theorem CJ {r:Rt}:aw Tryz.prog 151 [fD r] (QT r.q):=by
 have hr1:=r.h1; have hr2:=r.h2; have hr3:=r.h3; have hr4:=r.h4; have hr5:=r.d1; have hr6:=r.d2; have hr0:=r.d0
 refine aw.intro Tryz.func151 rfl Tryz.ntmps151 rfl (fun cx=>(ts (rn rfl (fU (Ht rfl)) fun B1=>(rn rfl (eG (Ts:=[Is (.bool false),Is (.slice none 0 0),Is (.bool false),Is (.slice none 0 0),Is (.slice none 0 0)]) O_131 rfl (fun V=>aW zd (aW zd (aW zd (aW zd (aW zd (aG))))))) fun B2=>(eZ (cK (dz (fun (uu:Unit)=>True) (fun (uu:Unit)=>[(1,aH B1 0),(2,aH B2 0)]) (fun (uu:Unit)=>[box B1 102 [aa .i64 r.re,aa .i64 r.im,aa .i64 r.d],box B2 131 [Is (.bool false),Is (.slice none 0 0),Is (.bool false),Is (.slice none 0 0),Is (.slice none 0 0)]]) ?_ (fun uu _=>?_))))))))
 ·refine ts (ro rfl (eJ gi (Ht rfl) rfl) (ro rfl (fQ A_2 Z_2 (Ht rfl) (i := 0) rfl rfl) (ro rfl (di (Ht rfl) cV) (eZ (dQ (Ht rfl) (fun hb => ?_) (fun hb => ?_))))))
  ·simp only [decide_eq_true_eq] at hb
   refine cY (ro rfl (eJ gi (Ht rfl) rfl) (dI Z_2 (Ht rfl) (cJ 1) (i:=0) rfl (aK rfl) rfl (eZ (au () trivial (zS rfl) (aU (a8 (by rw [Rt.d,if_pos hb]; rfl)) (aU (a8 rfl) aY))))))
  ·simp only [decide_eq_false_iff_not] at hb
   refine cU (au () trivial (zS rfl) (aU (a8 (by rw [Rt.d,if_neg hb])) (aU (a8 rfl) aY)))
 ·refine ts (ro rfl (eJ ie (Ht rfl) rfl) (ro rfl (fQ A_2 Z_2 (Ht rfl) (i := 0) rfl rfl) (ro rfl (eJ nh (Ht rfl) rfl) (ro rfl (fQ A_2 Z_2 (Ht rfl) (i := 0) rfl rfl) (ro rfl (eJ gi (Ht rfl) rfl) (ro rfl (fQ A_2 Z_2 (Ht rfl) (i := 0) rfl rfl) (ro rfl (cZ Tryz.call145 (BS hr1 hr2 hr3 hr4 hr5 hr6 hr0) ⟨(Ht rfl), (Ht rfl), (Ht rfl), trivial⟩) (rm rfl (ro rfl (dU (Ht rfl) rfl) (ro rfl (dU (Ht rfl) rfl) (rn rfl (eG (Ts := [Is (.bool false), Is (.slice none 0 0), Is (.bool false), Is (.slice none 0 0), Is (.slice none 0 0)]) O_131 rfl (fun V => aW zd (aW zd (aW zd (aW zd (aW zd (aG))))))) fun B3 => ?_)))))))))))
  refine gJ Z_131 (Ht rfl) (Ht rfl) rfl (i:=2) rfl (aK rfl) rfl rfl (ra rfl (eZ (ts (ro rfl (eW A_131 Z_131 (Ht rfl) (i:=2) rfl rfl rfl) (gJ Z_131 (Ht rfl) (Ht rfl) rfl (i:=1) rfl (aK rfl) rfl rfl (eZ ?_))))))
  exact fK rfl (fY A_131 Z_131 rfl (i:=1) rfl rfl)
theorem Dz {x:Qi} {L:Nat} [hx:an x L] (h:L ≤ 17592186044415):aw Tryz.prog 274 [QT x] (QT x.imp):=by
 have hxa:=gf hx.fit; have hxb:=g7 hx.fit; have hxd:=ga hx.fit
 have hxp:=x.den_pos
 have h5:(dg (0:Int).natAbs).length ≤ 0:=by rw [show (0:Int).natAbs = 0 from rfl,bz]; exact Nat.le_refl _
 refine aw.intro Tryz.func274 rfl Tryz.ntmps274 rfl (fun cx=>(ts (rn rfl (fU (Ht rfl)) fun B1=>(rn rfl (eG (Ts:=[Is (.bool false),Is (.slice none 0 0),Is (.bool false),Is (.slice none 0 0),Is (.slice none 0 0)]) O_131 rfl (fun V=>aW zd (aW zd (aW zd (aW zd (aW zd (aG))))))) fun B2=>(eZ (ts (ro rfl (eJ iM (Ht rfl) rfl) (ro rfl (eW A_129 Z_129 (Ht rfl) (i:=0) rfl rfl rfl) (ro rfl (ae.imp (xL ) n4) ?_)))))))))
 refine ro rfl (eJ ij (Ht rfl) rfl) (ro rfl (fQ A_46 Z_46 (Ht rfl) (i:=0) rfl rfl) (ro rfl (cZ Tryz.call224 (sX (by first | assumption | omega) zo zo zo) ⟨(Ht rfl),(Ht rfl),(Ht rfl),trivial⟩) (gJ Z_131 (Ht rfl) (Ht rfl) rfl (i:=1) rfl (aK rfl) rfl rfl (eZ (fK rfl (fJ (fY A_131 Z_131 rfl (i:=1) rfl rfl) ?_))))))
 exact (CZ (Qi.mk_im0 x))
theorem tP {x:Qi}:aw Tryz.prog 239 [QT x] (aa .i64 (go x.a 0)):=by
 refine aw.intro Tryz.func239 rfl Tryz.ntmps239 rfl (fun cx=>(ts (rn rfl (fU (Ht rfl)) fun B1=>(ro rfl (cQ (cJ 0)) (eZ (cK (ts (ro rfl (eJ iT (Ht rfl) rfl) (ro rfl (eJ i7 (Ht rfl) rfl) (ro rfl (fQ A_4 Z_4 (Ht rfl) (i:=0) rfl rfl) (eZ (dQ (Ht rfl) (fun hb=>?_) (fun hb=>?_)))))))))))))
 ·simp only [decide_eq_true_eq] at hb
  refine ts (ro rfl (cQ cV) (eZ (fK rfl (fJ (eY rfl) ?_))))
  exact (am (by rw [go,if_pos hb]))
 ·simp only [decide_eq_false_iff_not] at hb
  refine cU (cK (ts (ro rfl (eJ iT (Ht rfl) rfl) (ro rfl (eJ eu (Ht rfl) rfl) (ro rfl (fQ A_46 Z_46 (Ht rfl) (i:=0) rfl rfl) (ro rfl (dK U_46 (Ht rfl) a7) (ro rfl (bR (Ht rfl) (cJ 0)) (eZ (dQ (Ht rfl) (fun hc=>?_) (fun hc=>?_))))))))))
  ·simp only [decide_eq_true_eq] at hc
   have h0:x.a ≠ 0:=fun e=>by rw [e] at hc; simp [bz] at hc
   refine ts (ro rfl (cQ (cJ 1)) (eZ (fK rfl (fJ (eY rfl) ?_))))
   exact (am (by rw [go,if_neg hb,if_pos zo]; rfl))
  ·simp only [decide_eq_false_iff_not] at hc
   have h0:x.a = 0:=by have:=al.1 (Nat.eq_zero_of_not_pos hc); omega
   refine cU (ts (ro rfl (cQ (cJ 0)) (eZ (fK rfl (fJ (eY rfl) ?_)))))
   exact (am (by rw [go,if_neg hb,if_neg zo]; rfl))
theorem yq {x:Qi} {L:Nat} [hx:an x L] (h:L ≤ 17592186044415):aw Tryz.prog 242 [QT x] (aa .i64 (go x.b 0)):=by
 refine aw.intro Tryz.func242 rfl Tryz.ntmps242 rfl (fun cx=>(ts (rn rfl (fU (Ht rfl)) fun B1=>(ro rfl (cQ (cJ 0)) (eZ (ts (ro rfl (eW A_131 Z_131 (Ht rfl) (i:=0) rfl rfl rfl) (ro rfl (cZ Tryz.call274 (Dz zo) ⟨(Ht rfl),trivial⟩) (ro rfl (cZ Tryz.call239 tP ⟨(Ht rfl),trivial⟩) (ra rfl (eZ (fK rfl (fJ (eY rfl) ?_)))))))))))))
 exact (am (yB x))
theorem mg {x y:Qi} {L M:Nat} [hx:an x L] [hy:an y M] (h:L + 3 * M + 2 ≤ 17592186044415):aw Tryz.prog 40 [ab x,ab y] (bo [ab (x / y),aa .i64 (if y = Qi.zero then 3 else 0)]):=by
 have hxa:=gf hx.fit; have hxb:=g7 hx.fit; have hxd:=ga hx.fit
 have hya:=gf hy.fit; have hyb:=g7 hy.fit; have hyd:=ga hy.fit
 have hxp:=x.den_pos; have hyp:=y.den_pos; have hMp:=hy.pos
 refine aw.intro Tryz.func40 rfl Tryz.ntmps40 rfl (fun cx=>(ts (rn rfl (fU (Ht rfl)) fun B2=>(rn rfl (fU (Ht rfl)) fun B3=>(rn rfl (eG (Ts:=[Is (.bool false),Is (.slice none 0 0),Is (.bool false),Is (.slice none 0 0),Is (.slice none 0 0)]) O_51 rfl (fun V=>aW zd (aW zd (aW zd (aW zd (aW zd (aG))))))) fun B4=>(ro rfl (cQ (cJ 0)) (eZ (cK (ts (ro rfl (eW A_51 Z_51 (Ht rfl) (i:=1) rfl rfl rfl) ?_))))))))))
 refine ro rfl (cZ K_27 (jS zo) ⟨(Ht rfl),trivial⟩) (ro rfl (bD (Ht rfl)) (eZ (dQ (Ht rfl) (fun hb=>?_) (fun hb=>?_))))
 ·have h0 : y = Qi.zero := by simpa using hb
  refine ts (ro rfl (ae.imp (pi ) kQ) (gJ Z_51 (Ht rfl) (Ht rfl) rfl (i:=2) rfl (aK rfl) rfl rfl (ro rfl (cQ (cJ 3)) (eZ (aC rfl (fJ (fY A_51 Z_51 rfl (i:=2) rfl rfl) ?_) (fJ (eY rfl) ?_))))))
  ·exact (cv (by rw [h0,Qi.div_zero]))
  ·exact (am (by rw [if_pos h0]; rfl))
 ·have h0 : y ≠ Qi.zero := by simpa using hb
  have g1:=gT y.a y.a; have g2:=gT y.b y.b; have g3:=kC y.b
  have g4:=gO (x:=y.a * y.a) (y:=y.b * y.b) (L:=M + M) zo zo
  obtain ⟨c,hc⟩:∃ c,c = Qi.mk' y.a (-y.b) 1:=⟨_,rfl⟩
  obtain ⟨z,hz⟩:∃ z,z = x * c:=⟨_,rfl⟩
  have l1:(dg 1).length ≤ 1:=by rw [vw (by decide) (by decide)]; exact Nat.le_refl _
  haveI fc:an c M:=hc ▸ ⟨Qi.Fit.mk (by decide) hy.fit.1 (by rw [Int.natAbs_neg]; exact hy.fit.2.1) (Qi.one_lt hMp)⟩
  haveI fz:an z (L + M + 1):=hz ▸ fitMul
  have hza:=gf fz.fit; have hzb:=g7 fz.fit; have hzd:=ga fz.fit
  have hnp:=Qi.nrm_int_pos h0
  have hm:(((y.a * y.a + y.b * y.b).natAbs:Nat):Int) = y.a * y.a + y.b * y.b:=Int.natAbs_of_nonneg zo
  have hdp2:=Nat.mul_pos z.den_pos (show 0 < (y.a * y.a + y.b * y.b).natAbs by omega)
  have e1:=cA z.a y.den; have e2:=cA z.b y.den; have e3:=n3 z.den (y.a * y.a + y.b * y.b).natAbs
  refine cU (cK (fV (m:=12) (dp 3 rfl (eJ cz (Ht rfl) rfl) (dq 12 0 rfl (eW A_49 Z_49 (Ht rfl) (i:=1) rfl rfl rfl) (dp 3 rfl (eJ cz (Ht rfl) rfl) (dq 14 2 rfl (eW A_49 Z_49 (Ht rfl) (i:=1) rfl rfl rfl) (bv 13 1 15 3 rfl (cZ K_132 (jX zo zo) ⟨(Ht rfl),(Ht rfl),trivial⟩) (dp 3 rfl (eJ d3 (Ht rfl) rfl) (dq 17 5 rfl (eW A_49 Z_49 (Ht rfl) (i:=1) rfl rfl rfl) (dp 3 rfl (eJ d3 (Ht rfl) rfl) (dq 19 7 rfl (eW A_49 Z_49 (Ht rfl) (i:=1) rfl rfl rfl) ?_)))))))))))
  refine bv 18 6 20 8 rfl (cZ K_132 (jX zo zo) ⟨(Ht rfl),(Ht rfl),trivial⟩) (bv 16 4 21 9 rfl (cZ K_133 (lP zo zo) ⟨(Ht rfl),(Ht rfl),trivial⟩) (C.D_new (Ei:=[]) rfl rfl rfl bW (eG (Ts:=[Is (.bool false),Is (.slice none 0 0)]) O_49 rfl (fun V=>aW zd (aW zd (aG)))) (fG aA rfl (by kernel_rfl) (zF (zF (aJ (aJ (aJ (C.F_new (fun B6=>aV (gJ Z_49 (Ht rfl) (Ht rfl) rfl (i:=3) rfl (aK rfl) rfl rfl ?_)))))))))))
  refine eZ (cK (fV (m:=10) (dp 2 rfl (eW A_51 Z_51 (Ht rfl) (i:=0) rfl rfl rfl) (dp 3 rfl (eJ cz (Ht rfl) rfl) (dq 24 1 rfl (eW A_49 Z_49 (Ht rfl) (i:=1) rfl rfl rfl) (dp 3 rfl (eJ d3 (Ht rfl) rfl) (dq 26 3 rfl (eW A_49 Z_49 (Ht rfl) (i:=1) rfl rfl rfl) (dq 27 4 rfl (cZ K_135 j2 ⟨(Ht rfl),trivial⟩) (d0 rfl (ae.imp (bm (xs:=[_]) U_47 Z_189 O_189 (cW (cJ 1) cG) rfl rfl rfl) qu) (C.D_step (Ei:=[(25,_),(28,_),(29,_)]) rfl rfl (bV (bG 2 rfl rfl) (bV (bG 5 rfl rfl) (bV (bG 6 rfl rfl) bW))) (dX rfl (ae.imp (cZ K_134 (lZ (by first | assumption | omega) zo zo zo) ⟨(Ht rfl),(Ht rfl),(Ht rfl),trivial⟩) (cv hc.symm))) ?_))))))))))
  refine bv 23 0 30 7 rfl (ae.imp (cZ K_45 (eS zo) ⟨(Ht rfl),(Ht rfl),trivial⟩) (cv hz.symm)) (C.D_new (Ei:=[]) rfl rfl rfl bW (eG (Ts:=[Is (.bool false),Is (.slice none 0 0),Is (.bool false),Is (.slice none 0 0),Is (.slice none 0 0)]) O_51 rfl (fun V=>aW zd (aW zd (aW zd (aW zd (aW zd (aG))))))) (fG aA rfl (by kernel_rfl) (zF (zF (aJ (C.F_new (fun B7=>aV ?_)))))))
  refine gJ Z_51 (Ht rfl) (Ht rfl) rfl (i:=4) rfl (aK rfl) rfl rfl (eZ (cK (fV (m:=14) (dp 7 rfl (eJ cz (Ht rfl) rfl) (dq 32 0 rfl (eW A_49 Z_49 (Ht rfl) (i:=4) rfl rfl rfl) (dp 3 rfl (eW A_51 Z_51 (Ht rfl) (i:=1) rfl rfl rfl) (dq 34 2 rfl (cZ K_137 iq ⟨(Ht rfl),trivial⟩) (bv 33 1 35 3 rfl (cZ K_136 (eT zo zo) ⟨(Ht rfl),(Ht rfl),trivial⟩) (dp 7 rfl (eJ d3 (Ht rfl) rfl) (dq 37 5 rfl (eW A_49 Z_49 (Ht rfl) (i:=4) rfl rfl rfl) ?_))))))))))
  refine dp 3 rfl (eW A_51 Z_51 (Ht rfl) (i:=1) rfl rfl rfl) (dq 39 7 rfl (cZ K_137 iq ⟨(Ht rfl),trivial⟩) (bv 38 6 40 8 rfl (cZ K_136 (eT zo zo) ⟨(Ht rfl),(Ht rfl),trivial⟩) (dp 7 rfl (eW A_51 Z_51 (Ht rfl) (i:=4) rfl rfl rfl) (dq 42 10 rfl (cZ K_137 iq ⟨(Ht rfl),trivial⟩) (dp 6 rfl (eJ bP (Ht rfl) rfl) (dq 44 12 rfl (fQ A_47 Z_47 (Ht rfl) (i:=3) rfl rfl) (fG aA rfl (by kernel_rfl) (zF (zF (zF (aJ (aJ (aV ?_)))))))))))))
  refine ro rfl (cZ Tryz.call138 (qE zo zo) ⟨(Ht rfl),(Ht rfl),trivial⟩) (ro rfl (cZ K_134 (lZ (by first | assumption | omega) zo zo zo) ⟨(Ht rfl),(Ht rfl),(Ht rfl),trivial⟩) (gJ Z_51 (Ht rfl) (Ht rfl) rfl (i:=2) rfl (aK rfl) rfl rfl (ro rfl (cQ (cJ 0)) (eZ (aC rfl (fJ (fY A_51 Z_51 rfl (i:=2) rfl rfl) ?_) (fJ (eY rfl) ?_))))))
  ·exact (cv (Qi.mk_divP x h0 (hc ▸ hz) hm))
  ·exact (am (by rw [if_neg h0]; rfl))
theorem jN {a:Int} {d:Nat} (hd:0 < d) (ha:(dg a.natAbs).length ≤ 8796093022208) (hd2:(dg d).length ≤ 8796093022208):aw Tryz.prog 243 [cn a,ah d] (iP (jv a d)):=by
 have hg:=nu ha hd2
 have hg0:Nat.gcd a.natAbs d ≠ 0:=fun e=>by have:=Nat.gcd_eq_zero_iff.1 e; omega
 have h1:=pe a.natAbs (Nat.gcd a.natAbs d); have h2:=pe d (Nat.gcd a.natAbs d)
 rw [yt a hd]
 obtain ⟨u,hu⟩:∃ u,u = a.natAbs / Nat.gcd a.natAbs d:=⟨_,rfl⟩
 obtain ⟨v,hv⟩:∃ v,v = d / Nat.gcd a.natAbs d:=⟨_,rfl⟩
 rw [← hu,← hv]
 rw [← hu] at h1
 rw [← hv] at h2
 have h3:=j1 u; have h4:=j1 v
 refine aw.intro Tryz.func243 rfl Tryz.ntmps243 rfl (fun cx=>(ts (rn rfl (fU (Ht rfl)) fun B2=>(ro rfl (cQ (ax.cS (l:=[]) rfl)) (eZ (ts (ro rfl (eJ eu (Ht rfl) rfl) (ro rfl (fQ A_46 Z_46 (Ht rfl) (i:=0) rfl rfl) (rm rfl (ro rfl (cZ Tryz.call264 (sd zo zo) ⟨(Ht rfl),(Ht rfl),trivial⟩) (ra rfl (eZ (ts (ro rfl (eJ eu (Ht rfl) rfl) (ro rfl (fQ A_46 Z_46 (Ht rfl) (i:=0) rfl rfl) (rm rfl (ro rfl (cZ K_265 (lR zo zo zo) ⟨(Ht rfl),(Ht rfl),trivial⟩) ?_)))))))))))))))))
 refine rm rfl (ro rfl (ae.imp (dU (Ht rfl) rfl) (bd hu.symm)) (ro rfl (dU (Ht rfl) rfl) (ra rfl (ra rfl (eZ (ts (rm rfl (rm rfl (ro rfl (cZ K_265 (lR zo zo zo) ⟨(Ht rfl),(Ht rfl),trivial⟩) (rm rfl (ro rfl (ae.imp (dU (Ht rfl) rfl) (bd hv.symm)) (ro rfl (dU (Ht rfl) rfl) (ra rfl (ra rfl (eZ (ts (rm rfl (ro rfl (cZ Tryz.call275 (tA zo) ⟨(Ht rfl),trivial⟩) (ra rfl (eZ (cK (dz (fun (uu:Unit)=>True) (fun (uu:Unit)=>[(8,ah v),(10,iP (if a < 0 then 45 :: kh u else kh u))]) (fun (uu:Unit)=>[box B2 129 [a9 (decide (a < 0)),ah (a).natAbs]]) ?_ (fun uu _=>?_)))))))))))))))))))))))
 ·refine ts (ro rfl (eJ i7 (Ht rfl) rfl) (ro rfl (fQ A_4 Z_4 (Ht rfl) (i := 0) rfl rfl) (eZ (dQ (Ht rfl) (fun hb => ?_) (fun hb => ?_)))))
  ·simp only [decide_eq_true_eq] at hb
   refine cY (rm rfl (ro rfl (dT (ax.cS (l:=[45]) rfl) (Ht rfl) (by first | omega | (simp; omega))) (ra rfl (eZ (au () trivial (aQ rfl (aZ rfl (dx (by rw [if_pos hb]; rfl)) aX)) (br.refl _))))))
  ·simp only [decide_eq_false_iff_not] at hb
   refine cU (au () trivial (aQ rfl (aZ rfl (dx (by rw [if_neg hb])) aX)) (br.refl _))
 ·have h6 : (if a < 0 then 45 :: kh u else kh u).length ≤ (kh u).length + 1 := by split <;> simp
  refine cK (ts (rm rfl (ro rfl (dK U_46 (Ht rfl) a7) (ro rfl (aO (Ht rfl) (cJ 1)) (rm rfl (fX rfl rfl (eU rfl rfl (Ht rfl) (fun h=>cX (Ht rfl))) (fX rfl rfl (eU rfl rfl (Ht rfl) (fun h=>dZ U_46 Z_189 (fW rfl h) (cJ 0) rfl (eQ (ai (by first | omega | (simp at h; omega)))))) (fX rfl rfl (eU rfl rfl (Ht rfl) (fun h=>dV A_189 Z_189 (fW rfl h))) (fX rfl rfl (eU rfl rfl (Ht rfl) (fun h=>aO (fW rfl h) (cJ 1))) (ro rfl (bx (Ht rfl) (fun h=>(fW rfl h))) ?_))))))))))
  refine eZ (dQ (Ht rfl) (fun hc=>?_) (fun hc=>?_))
  ·rw [pM] at hc
   have hv1:v = 1:=by simpa using hc
   refine ts (rm rfl (ra rfl (eZ (fK rfl (fJ (eY rfl) ?_)))))
   exact (dx (by rw [if_pos hv1,List.append_nil]))
  ·rw [pM] at hc
   have hv1:v ≠ 1:=by simpa using hc
   refine cU (ts (rm rfl (ro rfl (dT (Ht rfl) (ax.cS (l:=[47]) rfl) (by simp only [List.length_cons,List.length_nil]; omega)) ?_)))
   refine rm rfl (ro rfl (cZ Tryz.call275 (tA zo) ⟨(Ht rfl),trivial⟩) (ro rfl (dT (Ht rfl) (Ht rfl) (by simp only [List.length_append,List.length_cons,List.length_nil]; omega)) ?_))
   refine ra rfl (eZ (fK rfl (fJ (eY rfl) ?_)))
   exact (dx (by rw [if_neg hv1,List.append_assoc]; rfl))
theorem Bu {x:Qi} {L:Nat} [hx:an x L] (h:L ≤ 8796093022208):aw Tryz.prog 181 [QT x] (iP (v7 x)):=by
 have hxa:=gf hx.fit; have hxb:=g7 hx.fit; have hxd:=ga hx.fit
 have hdp:=x.den_pos
 have l1:=kV x.a hdp; have l2:=kV x.b hdp
 refine aw.intro Tryz.func181 rfl Tryz.ntmps181 rfl (fun cx=>(ts (rn rfl (fU (Ht rfl)) fun B1=>(ro rfl (cQ (ax.cS (l:=[]) rfl)) (eZ (cK (ts (ro rfl (eJ iM (Ht rfl) rfl) (ro rfl (eJ eu (Ht rfl) rfl) (ro rfl (fQ A_46 Z_46 (Ht rfl) (i:=0) rfl rfl) (ro rfl (dK U_46 (Ht rfl) a7) (ro rfl (aO (Ht rfl) (cJ 0)) (eZ (dQ (Ht rfl) (fun hb=>?_) (fun hb=>?_)))))))))))))))
 ·simp only [decide_eq_true_eq] at hb
  have h0:x.b = 0:=by have:=al.1 hb; omega
  refine ts (ro rfl (eJ iT (Ht rfl) rfl) (ro rfl (eW A_129 Z_129 (Ht rfl) (i:=0) rfl rfl rfl) (ro rfl (eJ ij (Ht rfl) rfl) (ro rfl (fQ A_46 Z_46 (Ht rfl) (i:=0) rfl rfl) (ro rfl (cZ K_243 (jN (by assumption) zo zo) ⟨(Ht rfl),(Ht rfl),trivial⟩) ?_)))))
  refine ra rfl (eZ (fK rfl (fJ (eY rfl) ?_)))
  exact (dx (by rw [v7,if_pos h0]))
 ·simp only [decide_eq_false_iff_not] at hb
  have h0:x.b ≠ 0:=fun e=>hb (by rw [e]; exact al.2 rfl)
  refine cU (cK (ts (ro rfl (eJ iT (Ht rfl) rfl) (ro rfl (eJ eu (Ht rfl) rfl) (ro rfl (fQ A_46 Z_46 (Ht rfl) (i:=0) rfl rfl) (ro rfl (dK U_46 (Ht rfl) a7) (ro rfl (aO (Ht rfl) (cJ 0)) (eZ (dQ (Ht rfl) (fun hc=>?_) (fun hc=>?_))))))))))
  ·simp only [decide_eq_true_eq] at hc
   have h1:x.a = 0:=by have:=al.1 hc; omega
   refine ts (ro rfl (eJ iM (Ht rfl) rfl) (ro rfl (eW A_129 Z_129 (Ht rfl) (i:=0) rfl rfl rfl) (ro rfl (eJ ij (Ht rfl) rfl) (ro rfl (fQ A_46 Z_46 (Ht rfl) (i:=0) rfl rfl) (ro rfl (cZ K_243 (jN (by assumption) zo zo) ⟨(Ht rfl),(Ht rfl),trivial⟩) ?_)))))
   refine ro rfl (dT (Ht rfl) (ax.cS (l:=[105]) rfl) (by first | omega | (simp only [List.length_append,List.length_cons,List.length_nil]; omega))) (ra rfl (eZ (fK rfl (fJ (eY rfl) ?_))))
   exact (dx (by rw [v7,if_neg h0,if_pos h1]))
  ·simp only [decide_eq_false_iff_not] at hc
   have h1:x.a ≠ 0:=fun e=>hc (by rw [e]; exact al.2 rfl)
   refine cU (cK (ts (ro rfl (eJ iM (Ht rfl) rfl) (ro rfl (eJ i7 (Ht rfl) rfl) (ro rfl (fQ A_4 Z_4 (Ht rfl) (i:=0) rfl rfl) (eZ (dQ (Ht rfl) (fun hd=>?_) (fun hd=>?_))))))))
   ·simp only [decide_eq_true_eq] at hd
    refine cK (fV (m:=9) (dp 1 rfl (eJ iT (Ht rfl) rfl) (dq 27 0 rfl (eW A_129 Z_129 (Ht rfl) (i:=0) rfl rfl rfl) (dp 1 rfl (eJ ij (Ht rfl) rfl) (dq 29 2 rfl (fQ A_46 Z_46 (Ht rfl) (i:=0) rfl rfl) (bv 28 1 30 3 rfl (cZ K_243 (jN (by assumption) zo zo) ⟨(Ht rfl),(Ht rfl),trivial⟩) ?_))))))
    refine dp 1 rfl (eJ iM (Ht rfl) rfl) (dq 32 5 rfl (eW A_129 Z_129 (Ht rfl) (i:=0) rfl rfl rfl) (dp 1 rfl (eJ ij (Ht rfl) rfl) (dq 34 7 rfl (fQ A_46 Z_46 (Ht rfl) (i:=0) rfl rfl) (fG aA rfl (by kernel_rfl) (zF (zF (aJ (aV (ro rfl (cZ K_243 (jN (by assumption) zo zo) ⟨(Ht rfl),(Ht rfl),trivial⟩) ?_)))))))))
    refine ro rfl (dT (Ht rfl) (Ht rfl) (by first | omega | (simp only [List.length_append,List.length_cons,List.length_nil]; omega))) (ro rfl (dT (Ht rfl) (ax.cS (l:=[105]) rfl) (by first | omega | (simp only [List.length_append,List.length_cons,List.length_nil]; omega))) (ra rfl (eZ (fK rfl (fJ (eY rfl) ?_)))))
    exact (dx (by rw [v7,if_neg h0,if_neg h1,if_pos hd,List.append_assoc]))
   ·simp only [decide_eq_false_iff_not] at hd
    refine cU (cK (fV (m:=11) (dp 1 rfl (eJ iT (Ht rfl) rfl) (dq 39 0 rfl (eW A_129 Z_129 (Ht rfl) (i:=0) rfl rfl rfl) (dp 1 rfl (eJ ij (Ht rfl) rfl) (dq 41 2 rfl (fQ A_46 Z_46 (Ht rfl) (i:=0) rfl rfl) (bv 40 1 42 3 rfl (cZ K_243 (jN (by assumption) zo zo) ⟨(Ht rfl),(Ht rfl),trivial⟩) ?_)))))))
    refine dq 43 4 rfl (dT (Ht rfl) (ax.cS (l:=[43]) rfl) (by first | omega | (simp only [List.length_append,List.length_cons,List.length_nil]; omega))) (dp 1 rfl (eJ iM (Ht rfl) rfl) (dq 45 6 rfl (eW A_129 Z_129 (Ht rfl) (i:=0) rfl rfl rfl) (dp 1 rfl (eJ ij (Ht rfl) rfl) (dq 47 8 rfl (fQ A_46 Z_46 (Ht rfl) (i:=0) rfl rfl) (bv 46 7 48 9 rfl (cZ K_243 (jN (by assumption) zo zo) ⟨(Ht rfl),(Ht rfl),trivial⟩) ?_)))))
    refine fG aA rfl (by kernel_rfl) (zF (zF (aJ (aJ (aJ (aV (ro rfl (dT (Ht rfl) (Ht rfl) (by first | omega | (simp only [List.length_append,List.length_cons,List.length_nil]; omega))) (ro rfl (dT (Ht rfl) (ax.cS (l:=[105]) rfl) (by first | omega | (simp only [List.length_append,List.length_cons,List.length_nil]; omega))) (ra rfl (eZ (fK rfl (fJ (eY rfl) ?_))))))))))))
    exact (dx (by rw [v7,if_neg h0,if_neg h1,if_neg hd,List.append_assoc,List.append_assoc]; rfl))
theorem sO {x y:Qi} {L M:Nat} [hx:an x L] [hy:an y M] (h:L ≤ 8796093022208) (h2:M ≤ 8796093022208):aw Tryz.prog 80 [ab x,QT y] (a9 (decide (v7 x = v7 y))):=by
 refine aw.intro Tryz.func80 rfl Tryz.ntmps80 rfl (fun cx=>(ts (rn rfl (fU (Ht rfl)) fun B2=>(rn rfl (fU (Ht rfl)) fun B3=>(ro rfl (cQ cV) (eZ (cK (fV (m:=3) (dp 2 rfl (eW A_51 Z_51 (Ht rfl) (i:=0) rfl rfl rfl) (dq 5 0 rfl (cZ Tryz.call89 (wA zo) ⟨(Ht rfl),trivial⟩) (dp 3 rfl (eW A_131 Z_131 (Ht rfl) (i:=1) rfl rfl rfl) (fG aA rfl (by kernel_rfl) (aJ (aJ (aJ (aV (ro rfl (cZ Tryz.call181 (Bu zo) ⟨(Ht rfl),trivial⟩) (ro rfl (vv (Ht rfl) (Ht rfl)) ?_))))))))))))))))))
 refine ra rfl (eZ ?_)
 exact fK rfl (eY rfl)
end
section
open Go Go.RowKit
theorem jY:Tryz.prog.info? 29 = some Tryz.t29:=by kernel_rfl
end
section
open Go Go.RowKit
theorem rY {γ:Type} {l:List γ} {T:γ → Ty} {p:γ → Bool} [sh:∀ x,bg (T x) 5 true] (hl:l.length ≤ 1000000):aw Tryz.prog 233 [dP 5 (l.map T),mp Tryz.prog γ (fun x=>[T x]) (fun x=>a9 (p x))] (aa .i64 (oQ p l)):=by
 refine aw.intro Tryz.func233 rfl Tryz.ntmps233 rfl (fun cx=>(ts (ro rfl (cQ (cJ 0)) (eZ (cK (ts (rm rfl (ro rfl (dK U_29 (Ht rfl) a7) (ro rfl (cX (cJ 0)) (eZ (eK ?_)))))))))))
 refine b8 (fun (k : Nat) => k ≤ l.length ∧ ∀ (i : Nat) (x : γ), i < k → l[i]? = some x → p x = false) (fun (k : Nat) => l.length - k) (fun (k : Nat) => [(0, dP 5 (l.map T)), (1, mp Tryz.prog γ (fun x => [T x]) (fun x => a9 (p x))), (7, NT .i64 l.length), (8, NT .i64 k)]) (fun (k : Nat) => []) 0 ⟨Nat.zero_le _, fun i x h => by omega⟩
  (zS rfl) aY (fun k ⟨hk,hn⟩=>?_)
 refine ts (ro rfl (gV (Ht rfl) (Ht rfl)) (eZ (cK (dQ (Ht rfl) (fun hb=>?_) (fun hb=>?_)))))
 ·simp only [decide_eq_true_eq] at hb
  refine cU (cK (eK (ts (rm rfl (ra rfl (eZ (ts (rm rfl (rm rfl (rm rfl (ro rfl (dZ U_29 Z_51 (Ht rfl) (Ht rfl) rfl (eQ (ji hb))) (ro rfl (dV A_51 Z_51 (Ht rfl)) (ro rfl (i6 (l[k]) (Ht rfl) ⟨(Ht rfl),trivial⟩) (eZ (dQ (Ht rfl) (fun hc=>?_) (fun hc=>?_))))))))))))))))
  ·have hp : p l[k] = true := hc
   refine ts (rm rfl (ra rfl (eZ (fK rfl (fJ (eY rfl) ?_)))))
   exact (am (p5 (ji hb) hp hn).symm)
  ·have hp : p l[k] = false := hc
   refine cU (aB (cY (ro rfl (dW (Ht rfl) (cJ 1) z6) (rm rfl (eZ ?_)))))
   refine gQ (k + 1) ⟨hb, fun i x h1 h2 => by
    by_cases e:i = k
    ·subst e; rw [ji hb] at h2; obtain rfl:=Option.some.inj h2; exact hp
    ·exact hn i x zo h2⟩ zo (zS rfl) aY
 ·simp only [decide_eq_false_iff_not] at hb
  refine gK rfl (ts (ro rfl (cQ cV) (eZ (fK rfl (fJ (eY rfl) ?_)))))
  exact (am (m0 (fun i x h=>hn i x (by have:=(List.getElem?_eq_some_iff.1 h).1; omega) h)).symm)
theorem nW {γ:Type} {l:List γ} {T:γ → Ty} {p:γ → Bool} [sh:∀ x,bg (T x) 5 true] (hl:l.length ≤ 1000000):aw Tryz.prog 162 [dP 5 (l.map T),mp Tryz.prog γ (fun x=>[T x]) (fun x=>a9 (p x))] (a9 (l.any p)):=by
 refine aw.intro Tryz.func162 rfl Tryz.ntmps162 rfl (fun cx=>(ts (ro rfl (cQ cV) (eZ (ts (rm rfl (rm rfl (ro rfl (cZ Tryz.call233 (rY zo) ⟨(Ht rfl),(Ht rfl),trivial⟩) (ro rfl (fu (Ht rfl) cV) (ra rfl (eZ (fK rfl (fJ (eY rfl) ?_)))))))))))))
 exact (bL (nC p l))
theorem sb {γ:Type} {l:List γ} {T:γ → Ty} {p:γ → Bool} [sh:∀ x,bg (T x) 1 false] (hl:l.length ≤ 1000000):aw Tryz.prog 231 [dP 1 (l.map T),mp Tryz.prog γ (fun x=>[T x]) (fun x=>a9 (p x))] (aa .i64 (oQ p l)):=by
 refine aw.intro Tryz.func231 rfl Tryz.ntmps231 rfl (fun cx=>(ts (ro rfl (cQ (cJ 0)) (eZ (cK (ts (rm rfl (ro rfl (dK U_30 (Ht rfl) a7) (ro rfl (cX (cJ 0)) (eZ (eK ?_)))))))))))
 refine b8 (fun (k : Nat) => k ≤ l.length ∧ ∀ (i : Nat) (x : γ), i < k → l[i]? = some x → p x = false) (fun (k : Nat) => l.length - k) (fun (k : Nat) => [(0, dP 1 (l.map T)), (1, mp Tryz.prog γ (fun x => [T x]) (fun x => a9 (p x))), (7, NT .i64 l.length), (8, NT .i64 k)]) (fun (k : Nat) => []) 0 ⟨Nat.zero_le _, fun i x h => by omega⟩
  (zS rfl) aY (fun k ⟨hk,hn⟩=>?_)
 refine ts (ro rfl (gV (Ht rfl) (Ht rfl)) (eZ (cK (dQ (Ht rfl) (fun hb=>?_) (fun hb=>?_)))))
 ·simp only [decide_eq_true_eq] at hb
  refine cU (cK (eK (ts (rm rfl (ra rfl (eZ (ts (rm rfl (rm rfl (rm rfl (ro rfl (dZ U_30 Z_29 (Ht rfl) (Ht rfl) rfl (eQ (ji hb))) (ro rfl (dV A_29 Z_29 (Ht rfl)) (ro rfl (i6 (l[k]) (Ht rfl) ⟨(Ht rfl),trivial⟩) (eZ (dQ (Ht rfl) (fun hc=>?_) (fun hc=>?_))))))))))))))))
  ·have hp : p l[k] = true := hc
   refine ts (rm rfl (ra rfl (eZ (fK rfl (fJ (eY rfl) ?_)))))
   exact (am (p5 (ji hb) hp hn).symm)
  ·have hp : p l[k] = false := hc
   refine cU (aB (cY (ro rfl (dW (Ht rfl) (cJ 1) z6) (rm rfl (eZ ?_)))))
   refine gQ (k + 1) ⟨hb, fun i x h1 h2 => by
    by_cases e:i = k
    ·subst e; rw [ji hb] at h2; obtain rfl:=Option.some.inj h2; exact hp
    ·exact hn i x zo h2⟩ zo (zS rfl) aY
 ·simp only [decide_eq_false_iff_not] at hb
  refine gK rfl (ts (ro rfl (cQ cV) (eZ (fK rfl (fJ (eY rfl) ?_)))))
  exact (am (m0 (fun i x h=>hn i x (by have:=(List.getElem?_eq_some_iff.1 h).1; omega) h)).symm)
theorem nQ {γ:Type} {l:List γ} {T:γ → Ty} {p:γ → Bool} [sh:∀ x,bg (T x) 1 false] (hl:l.length ≤ 1000000):aw Tryz.prog 156 [dP 1 (l.map T),mp Tryz.prog γ (fun x=>[T x]) (fun x=>a9 (p x))] (a9 (l.any p)):=by
 refine aw.intro Tryz.func156 rfl Tryz.ntmps156 rfl (fun cx=>(ts (ro rfl (cQ cV) (eZ (ts (rm rfl (rm rfl (ro rfl (cZ Tryz.call231 (sb zo) ⟨(Ht rfl),(Ht rfl),trivial⟩) (ro rfl (fu (Ht rfl) cV) (ra rfl (eZ (fK rfl (fJ (eY rfl) ?_)))))))))))))
 exact (bL (nC p l))
theorem sB {x:Qi} {L:Nat} [hx:an x L] (h:L ≤ 8796093022208):aw Tryz.prog 247 [ab x] (a9 (ez x)):=by
 haveI hz:an Qi.zero 1:=an.zero (Nat.le_refl 1)
 refine aw.intro Tryz.func247 rfl Tryz.ntmps247 rfl (fun cx=>(ts (rn rfl (fU (Ht rfl)) fun B1=>(ro rfl (cQ cV) (eZ (ts (ro rfl (eW A_51 Z_51 (Ht rfl) (i:=0) rfl rfl rfl) (ro rfl (cZ Tryz.call169 xF ⟨(Ht rfl),trivial⟩) (rm rfl (fX rfl rfl (eU rfl rfl (Ht rfl) (fun h=>eW A_51 Z_51 (Ht rfl) (i:=0) rfl rfl rfl)) (fX rfl rfl (eU rfl rfl (Ht rfl) (fun h=>ae.imp (pi ) kQ)) (fX rfl rfl (eU rfl rfl (Ht rfl) (fun h=>cZ Tryz.call76 (CX zo) ⟨(fW rfl h),(fW rfl h),trivial⟩)) ?_))))))))))))
 refine fX rfl rfl (eU rfl rfl (Ht rfl) (fun h=>rL (fW rfl h) cV)) (ro rfl (bx (Ht rfl) (fun h=>(fW rfl h))) (ra rfl (eZ (fK rfl (fJ (eY rfl) ?_)))))
 exact (bL (Cr x))
theorem pc {x:Qi} {L:Nat} [hx:an x L] (h:L ≤ 8796093022208):aw Tryz.prog 246 [ab x] (a9 (!posQ x)):=by
 refine aw.intro Tryz.func246 rfl Tryz.ntmps246 rfl (fun cx=>(ts (rn rfl (fU (Ht rfl)) fun B1=>(ro rfl (cQ cV) (eZ (ts (ro rfl (eW A_51 Z_51 (Ht rfl) (i:=0) rfl rfl rfl) (ro rfl (cZ Tryz.call247 (sB zo) ⟨(Ht rfl),trivial⟩) (ro rfl (bD (Ht rfl)) (ra rfl (eZ ?_)))))))))))
 exact fK rfl (eY rfl)
theorem r5 {z:List Qi} {L:Nat} (hz:aP z L) (h:L ≤ 8796093022208) (hl:z.length ≤ 1000):aw Tryz.prog 183 [av z] (aa .i64 (if z.all ez then 0 else 1)):=by
 obtain ⟨l,hzl⟩:∃ l:List {x:Qi // an x L},z = l.map Subtype.val:=⟨z.attach.map fun x=>⟨x.1,hz x.1 x.2⟩,by simp⟩
 subst hzl
 have hll:l.length ≤ 1000:=by simpa using hl
 refine aw.intro Tryz.func183 rfl Tryz.ntmps183 rfl (fun cx=>(nf (E':=[(0,_)]) (aZ rfl (ee (Us:=l.map fun x=>ab x.1) (by simp [List.map_map,Function.comp_def])) aX) ?_))
 refine ts (ro rfl (cQ (cJ 0)) (eZ (cK (ts (rm rfl (ro rfl (cZ Tryz.call162 (nW (l:=l) (T:=fun x=>ab x.1) (p:=fun x=>!posQ x.1) zo) ⟨(Ht rfl),(ax.fn Tryz.call246 (γ:={x:Qi // an x L}) (Ts:=fun x=>[ab x.1]) (U:=fun x=>a9 (!posQ x.1)) (fun x=>haveI:=x.2; pc h)),trivial⟩) (eZ (dQ (Ht rfl) (fun hb=>?_) (fun hb=>?_)))))))))
 ·have hn : ¬ (l.map Subtype.val).all ez = true := by simp at hb ⊢; exact hb
  refine ts (ro rfl (cQ (cJ 1)) (eZ (fK rfl (fJ (eY rfl) ?_))))
  exact (am (by rw [if_neg hn]; rfl))
 ·have hn : (l.map Subtype.val).all ez = true := by simp at hb ⊢; exact hb
  refine cU (ts (ro rfl (cQ (cJ 0)) (eZ (fK rfl (fJ (eY rfl) ?_)))))
  exact (am (by rw [if_pos hn]; rfl))
theorem qd {l:List Qi} (hl:l.length ≤ 1000):dy Tryz.prog 158 [av l] [] (Value) (fun v=>Is v) (fun v=>[aE 51 5 v (l.map ab)]) (fun _=>True):=by
 refine dy.intro Tryz.func158 rfl Tryz.ntmps158 rfl (fun cx Z=>(ts (ro rfl (cQ cV) (eZ (cK (ts (rm rfl (ro rfl (wM U_29 (Ht rfl)) (eZ (Ac (Ht rfl) (fun hb=>?_) (fun hb=>?_)))))))))))
 ·have hT : l.map ab = [] := hb rfl
  refine ts (ro rfl (cQ cV) (eZ (jk 51 5 ?_)))
  exact fo (.slice none 0 0) trivial [0,1] ⟨⟨_,rfl,fun _ _ _ h=>h⟩,⟨_,rfl,(ar hT.symm)⟩,trivial⟩ (by decide) (nt rfl (eY rfl))
 ·refine cU (ts (rn rfl (qS U_29 Z_51 O_51) fun B5 => (rm rfl (oE (inf := Tryz.t51) ef de rfl rfl rfl (Ht rfl) (Ht rfl) (i := 1) rfl (fun T hT => by obtain ⟨x, _, rfl⟩ := List.mem_map.1 hT; exact El.ag rfl) (by show _ * 88 ≤ _; simp only [List.length_map, List.length_nil]; omega) (by simp only [List.length_map, List.length_nil]; omega) rfl (fun v2 => ?_)))))
  refine ra rfl (eZ ?_)
  exact fo v2 trivial [0,1] ⟨⟨_,rfl,fun _ _ _ h=>h⟩,⟨_,rfl,fun _ _ _ h=>h⟩,trivial⟩ (by decide) (nt rfl (eY rfl))
theorem zG {l:List Qi} (hl:l.length ≤ 1000):aw Tryz.prog 158 [av l] (av l):=(qd hl).fun fun v _=>cg
theorem po {n:Nat} {f:Nat → Nat → Qi} (hn:n ≤ 1000):dy Tryz.prog 114 [NT .i64 n,mp Tryz.prog (Fin n × Fin n) (fun x=>[NT .i64 x.1.1,NT .i64 x.2.1]) (fun x=>ab (f x.1.1 x.2.1))] [] (Nat) (fun B=>Is (.slice (some ⟨B,0,none⟩) n n)) (fun B=>[gt B 29 51 5 (bq ab (tab n fun i=>tab n (f i)))]) (fun _=>True):=by
 refine dy.intro Tryz.func114 rfl Tryz.ntmps114 rfl (fun cx Z=>(ts (ro rfl (cQ cV) (eZ (ts (rm rfl (rn rfl (ck (T:=Is (.slice none 0 0)) (i:=Tryz.t29) V_30 jY rfl rfl (Ht rfl) rfl (fun _=>rfl) trivial (by show 24 * _ ≤ _; omega) zo) fun B9=>(ra rfl (eZ (cK (ts (rm rfl (ro rfl (dS U_30 (Ht rfl)) (ro rfl (cX (cJ 0)) (eZ (eK (fw 1 rfl (l8 (e:=51) (s:=5)) ?_)))))))))))))))))
 refine ci (fun (k : Nat) (m : List (List Qi)) => g8 (fun i => tab n (f i)) n m k) (fun (k : Nat) (m : List (List Qi)) => n - k) (fun (k : Nat) (m : List (List Qi)) => [(0, NT .i64 n), (1, mp Tryz.prog (Fin n × Fin n) (fun x => [NT .i64 x.1.1, NT .i64 x.2.1]) (fun x => ab (f x.1.1 x.2.1))), (5, Is (.slice (some ⟨B9, 0, none⟩) n n)), (11, NT .i64 n), (12, NT .i64 k)]) (fun (k : Nat) (m : List (List Qi)) => [Z, gt B9 29 51 5 (bq ab m)]) 0 (List.replicate n []) (g8.start _ _ _)
  (zS rfl) (aU (fun _ _ _ h=>h) (aU (bO (jp ab n)) aY)) (fun k m hS=>?_)
 refine ts (ro rfl (gV (Ht rfl) (Ht rfl)) (eZ (cK (dQ (Ht rfl) (fun hk=>?_) (fun hk=>?_)))))
 ·simp only [decide_eq_true_eq] at hk
  have hlen:=hS.len
  refine ip 1 (k) rfl (gc (m:=m) (i:=k) zo) (fun v=>(cU (cK (eK (ts (rm rfl (ra rfl (eZ (ts (rm rfl (rm rfl (rm rfl (rn rfl (cy (T:=ab Qi.zero) (i:=Tryz.t51) ef de rfl rfl (Ht rfl) rfl cw (El.ag rfl) (by show 88 * _ ≤ _; omega) zo) fun B18=>(ro rfl (gX U_30 Z_29 (Ht rfl) (Ht rfl) rfl zo (by rw [Nat.mul_one,Nat.zero_add])) ?_))))))))))))))
  refine nw Z_29 (Ht rfl) (Ht rfl) (by simp; omega) (j:=1) (l:=3) rfl rfl rfl ?_
  refine eZ (cK (aD [0,1,3] rfl (by decide) (cY (rm rfl (rm rfl (ro rfl (gX U_30 Z_29 (Ht rfl) (Ht rfl) rfl zo (by rw [Nat.mul_one,Nat.zero_add])) ?_))))))
  refine ro rfl (fO A_29 Z_29 (Ht rfl) (j:=1) rfl) (ro rfl (gH U_29 (Ht rfl) (i:=2) rfl (show ((List.replicate n (ab Qi.zero)).length:Int) = ((n:Nat):Int) by simp)) (ro rfl (cX (cJ 0)) (eZ (eK ?_))))
  refine ci (fun (j : Nat) (out : List Qi) => g8 (f k) n out j) (fun (j : Nat) (out : List Qi) => n - j) (fun (j : Nat) (out : List Qi) => [(0, NT .i64 n), (1, mp Tryz.prog (Fin n × Fin n) (fun x => [NT .i64 x.1.1, NT .i64 x.2.1]) (fun x => ab (f x.1.1 x.2.1))), (5, Is (.slice (some ⟨B9, 0, none⟩) n n)), (6, NT .i64 k), (11, NT .i64 n), (12, NT .i64 k), (24, NT .i64 n), (25, NT .i64 j)]) (fun (j : Nat) (out : List Qi) => [Z, qL B9 29 51 5 (bq ab m) k B18, aE 51 5 B18 (out.map ab)]) 0 (List.replicate n Qi.zero) (g8.start _ _ _)
   (zS rfl) (aU (fun _ _ _ h=>h) (aU (fun _ _ _ h=>h) (aU (ar (jo ab _ _)) aY))) (fun j out hT=>?_)
  refine ts (ro rfl (gV (Ht rfl) (Ht rfl)) (eZ (cK (dQ (Ht rfl) (fun hj=>?_) (fun hj=>?_)))))
  ·simp only [decide_eq_true_eq] at hj
   have hlen2:=hT.len
   refine cU (cK (eK (ts (rm rfl (ra rfl (eZ (fV (m:=9) (dp 5 rfl (cX (Ht rfl)) (dp 6 rfl (cX (Ht rfl)) (bv 28 0 29 1 rfl (gX U_30 Z_29 (Ht rfl) (Ht rfl) rfl zo (by rw [Nat.mul_one,Nat.zero_add])) ?_))))))))))
   refine dq 30 2 rfl (fO A_29 Z_29 (Ht rfl) (j:=1) rfl) (dp 7 rfl (cX (Ht rfl)) (dp 1 rfl (cX (Ht rfl)) (dp 6 rfl (cX (Ht rfl)) (dp 7 rfl (cX (Ht rfl)) (C.D_step (Ei:=[(33,_),(34,_),(35,_)]) rfl rfl (bV (bG 5 rfl rfl) (bV (bG 6 rfl rfl) (bV (bG 7 rfl rfl) bW))) (dX rfl (i6 ((⟨k,hk⟩,⟨j,hj⟩):Fin n × Fin n) (Ht rfl) ⟨(Ht rfl),(Ht rfl),trivial⟩)) (fG aA rfl (by kernel_rfl) (zF (zF (aJ (aV ?_))))))))))
   refine ro rfl (bi U_29 Z_51 (Ht rfl) (Ht rfl) rfl (i:=2) rfl (by first | omega | (simp; omega)) rfl) (eL Z_51 (Ht rfl) (Ht rfl) (El.ag rfl) (i:=2) rfl rfl (by first | omega | (simp; omega)) rfl (eZ (aB (cY (ro rfl (dW (Ht rfl) (cJ 1) z6) (rm rfl (eZ (gQ (j + 1,_) (hT.next hj rfl) (by dsimp only; omega) (zS rfl) (aU (fun _ _ _ h=>h) (aU (fun _ _ _ h=>h) (aU (ar (c9 ab _ _ _)) aY)))))))))))
  ·simp only [decide_eq_false_iff_not] at hj
   obtain rfl:j = n:=Nat.le_antisymm hT.kle zo
   have hfin:=hT.fin
   refine gK rfl (aB (eH 1 2 rfl rfl (by decide) (by simp; omega) ?_))
   refine cY (ro rfl (dW (Ht rfl) (cJ 1) z6) (rm rfl (eZ (aD [0,1] rfl (by decide) (gQ (k + 1,_) (hS.next hk hfin) (by dsimp only; omega) (zS rfl) (aU (fun _ _ _ h=>h) (aU (bO (eN ab _ _ _)) aY)))))))
 ·simp only [decide_eq_false_iff_not] at hk
  obtain rfl:k = n:=Nat.le_antisymm hS.kle zo
  have hfin:=hS.fin
  refine gK rfl (ts (rm rfl (ra rfl (eZ ?_))))
  exact fo B9 trivial [0,1] ⟨⟨_,rfl,fun _ _ _ h=>h⟩,⟨_,rfl,(bO (by rw [hfin]))⟩,trivial⟩ (by decide) (nt rfl (eY rfl))
theorem mY {n:Nat} {f:Nat → Nat → Qi} (hn:n ≤ 1000):aw Tryz.prog 114 [NT .i64 n,mp Tryz.prog (Fin n × Fin n) (fun x=>[NT .i64 x.1.1,NT .i64 x.2.1]) (fun x=>ab (f x.1.1 x.2.1))] (bp (tab n fun i=>tab n (f i))):=(po hn).fun fun B _ v S V h1 h2=>ee (by simp [bq,List.map_map,Function.comp_def]) v V (p7 (by simp [bq,ao]) (Nat.le_refl _) v S V h1 h2)
end
section
open Go Go.RowKit
theorem d9 {n : Nat} {E : aT} {H : Hp} {d : Option Tmp} {t : TypeId} {pos : String} {af : Array Edge} {g : Option (Nat × Bool)}  :
  ae Tryz.prog n E H ⟨d,.build 32 #[],t,pos,af,g⟩ (bB [Is (.slice none 0 0),Is (.slice none 0 0)]) :=
 cB (parts := []) fun a V w hs => by
  refine ⟨.agg #[(.slice none 0 0),(.slice none 0 0)],?_,[(.slice none 0 0),(.slice none 0 0)],rfl,aW (⟨rfl,trivial⟩) (aW (⟨rfl,trivial⟩) (aG))⟩
  simp [Instr.build,Instr.fill,Sem.run_bind,Result.andThen,ca,O_32,U_32,Z_29,Z_30]
theorem j0 {n : Nat} {E : aT} {H : Hp} {d : Option Tmp} {t : TypeId} {pos : String} {af : Array Edge} {g : Option (Nat × Bool)} {x0 x1 : Operand} {T0 T1 : Ty} [s0 : bg T0 1 false] (h0 : ax E x0 T0) [s1 : bg T1 1 false] (h1 : ax E x1 T1) :
  ae Tryz.prog n E H ⟨d,.build 32 #[(0,x0),(1,x1)],t,pos,af,g⟩ (bB [T0,T1]) :=
 cB (parts := [(0, x0), (1, x1)]) fun a V w hs => by
  have p0:=h0 n V a hs
  generalize e0:a.eval x0 = v0 at p0
  have q0:=(s0.ok v0 V p0).2.2 rfl
  have p1:=h1 n V a hs
  generalize e1:a.eval x1 = v1 at p1
  have q1:=(s1.ok v1 V p1).2.2 rfl
  refine ⟨.agg #[v0,v1],?_,[v0,v1],rfl,aW (⟨p0,q0⟩) (aW (⟨p1,q1⟩) (aG))⟩
  simp [e0,e1,Instr.build,Instr.fill,Sem.run_bind,Result.andThen,ca,q0.cells,q1.cells,O_32,U_32,Z_29,Z_30]
theorem bH (a:Addr) (w:World):(Instr.fieldAt 32 (.pointer (some a)) 0).run Tryz.prog w = .ok (.pointer (some (a.add 0))) w:=by
 simp [Instr.fieldAt,Instr.sureAddr,fieldPlace,Sem.run_bind,Result.andThen,U_32,Z_29]
end
section
open Go Go.RowKit
theorem AZ {s:List (List Qi)} {n i j:Nat} (hs:bM s n n) (hi:i < n) (hj:j < n):aw Tryz.prog 187 [NT .i64 i,NT .i64 j,PT (bp s)] (ab (gm s i j)):=by
 have h1:=hs.1; have h2:=hs.row hi
 refine aw.intro Tryz.func187 rfl Tryz.ntmps187 rfl (fun cx=>(ts (rn rfl (eG (Ts:=[Is (.bool false),Is (.slice none 0 0),Is (.bool false),Is (.slice none 0 0),Is (.slice none 0 0)]) O_51 rfl (fun V=>aW zd (aW zd (aW zd (aW zd (aW zd (aG))))))) fun B5=>(eZ (ts (ro rfl (dV A_30 Z_30 (Ht rfl)) (rm rfl (ro rfl (dZ U_30 Z_29 (Ht rfl) (Ht rfl) rfl (eQ (dY (d:=[]) zo))) (ro rfl (dV A_29 Z_29 (Ht rfl)) ?_)))))))))
 refine rm rfl (ro rfl (dZ U_29 Z_51 (Ht rfl) (Ht rfl) rfl (eQ (dY (d:=Qi.zero) zo))) (ro rfl (dV A_51 Z_51 (Ht rfl)) (gJ Z_51 (Ht rfl) (Ht rfl) rfl (i:=0) rfl (aK rfl) rfl rfl (eZ ?_))))
 exact fK rfl (fY A_51 Z_51 rfl (i:=0) rfl rfl)
theorem kT {z:List Qi} {s:List (List Qi)} {L:Nat} (hz:aP z L) (h:L ≤ 8796093022208) (hl:z.length ≤ 1000) (hl2:s.length ≤ 1000):aw Tryz.prog 85 [av z,bp s] (bo [aM (cL (aR z s) z) (cL (aR z s) s),aa .i64 (aR z s)]):=by
 refine aw.intro Tryz.func85 rfl Tryz.ntmps85 rfl (fun cx=>(ts (rn rfl (iQ (Ht rfl)) fun B3=>(rn rfl (eG (Ts:=[Is (.slice none 0 0),Is (.slice none 0 0)]) O_32 rfl (fun V=>aW zd (aW zd (aG)))) fun B4=>(ro rfl (cQ (cJ 0)) (eZ (cK (cK (gG (i:=0) (tt:=3) rfl rfl cC (cY (rm rfl (ro rfl (dK U_29 (Ht rfl) a7) (ro rfl (gV (Ht rfl) (cJ 1)) (rm rfl (fX rfl rfl (eU rfl rfl (Ht rfl) (fun h=>cX (Ht rfl))) (fX rfl rfl (eU rfl rfl (Ht rfl) (fun h=>dK U_29 (fW rfl h) a7)) ?_))))))))))))))))
 refine fX rfl rfl (eU rfl rfl (Ht rfl) (fun h=>bR (fW rfl h) (cJ 8))) (ro rfl (eP (Ht rfl) (fun h=>(fW rfl h))) (rm rfl (fX rfl rfl (eU rfl rfl (Ht rfl) (fun h=>dV A_30 Z_30 (Ht rfl))) (fX rfl rfl (eU rfl rfl (Ht rfl) (fun h=>dK U_30 (fW rfl h) a7)) (fX rfl rfl (eU rfl rfl (Ht rfl) (fun h=>cX (Ht rfl))) (fX rfl rfl (eU rfl rfl (Ht rfl) (fun h=>dK U_29 (fW rfl h) a7)) (fX rfl rfl (eU rfl rfl (Ht rfl) (fun h=>db (fW rfl h) (fW rfl h))) ?_)))))))
 refine ro rfl (eP (Ht rfl) (fun h=>(fW rfl h))) (eZ (dQ (Ht rfl) (fun hb=>?_) (fun hb=>?_)))
 ·have he := qJ hb
  refine ts (ro rfl (ae.imp (d9 ) da) (gJ Z_32 (Ht rfl) (Ht rfl) rfl (i:=1) rfl (aK rfl) rfl rfl (ro rfl (cQ (cJ 4)) (eZ (aC rfl (fJ (fY A_32 Z_32 rfl (i:=1) rfl rfl) ?_) (fJ (eY rfl) ?_))))))
  ·exact (pD he (by decide))
  ·exact (am he.symm)
 ·refine cU (cK (ts (ro rfl (dV A_30 Z_30 (Ht rfl)) (ro rfl (dK U_30 (Ht rfl) a7) (ro rfl (cX (cJ 0)) (eZ (eK ?_)))))))
  refine b8 (fun (k : Nat) => k ≤ s.length ∧ ∀ (i : Nat) (r : List Qi), i < k → s[i]? = some r → r.length = z.length) (fun (k : Nat) => s.length - k) (fun (k : Nat) => [(0, av z), (3, PT (bp s)), (4, aH B4 0), (25, bp s), (26, NT .i64 s.length), (27, NT .i64 k)]) (fun (k : Nat) => [SA.emp, box B4 32 [Is (.slice none 0 0), Is (.slice none 0 0)]]) 0 ⟨Nat.zero_le _, fun i r h => by omega⟩
   (zS rfl) (br.refl _) (fun k ⟨hk,hr⟩=>?_)
  refine ts (ro rfl (gV (Ht rfl) (Ht rfl)) (eZ (cK (dQ (Ht rfl) (fun hc=>?_) (fun hc=>?_)))))
  ·simp only [decide_eq_true_eq] at hc
   refine cU (cK (eK (ts (ro rfl (dZ U_30 Z_29 (Ht rfl) (Ht rfl) rfl (eQ (ji hc))) (ro rfl (dV A_29 Z_29 (Ht rfl)) (ra rfl (eZ (ts (rm rfl (ro rfl (dK U_29 (Ht rfl) a7) (rm rfl (ro rfl (dK U_29 (Ht rfl) a7) (ro rfl (db (Ht rfl) (Ht rfl)) (eZ (dQ (Ht rfl) (fun hd=>?_) (fun hd=>?_))))))))))))))))
   ·have hd2 : ¬ (s[k]).length = z.length := by simpa using hd
    have he:=rS (ji hc) hd2
    refine ts (ro rfl (ae.imp (d9 ) da) (gJ Z_32 (Ht rfl) (Ht rfl) rfl (i:=1) rfl (aK rfl) rfl rfl (ro rfl (cQ (cJ 4)) (eZ (aC rfl (fJ (fY A_32 Z_32 rfl (i:=1) rfl rfl) ?_) (fJ (eY rfl) ?_))))))
    ·exact (pD he (by decide))
    ·exact (am he.symm)
   ·have hd2 : (s[k]).length = z.length := by simpa using hd
    refine cU (aB (cY (ro rfl (dW (Ht rfl) (cJ 1) z6) (rm rfl (eZ ?_)))))
    refine gQ (k + 1) ⟨hc, fun i r h1 h2 => by
      by_cases e:i = k
      ·subst e; rw [ji hc] at h2; obtain rfl:=Option.some.inj h2; exact hd2
      ·exact hr i r zo h2⟩ zo (zS rfl) (br.refl _)
  ·simp only [decide_eq_false_iff_not] at hc
   have hall:∀ (i:Nat) (r:List Qi),s[i]? = some r → r.length = z.length:=fun i r h=>hr i r (by have:=(List.getElem?_eq_some_iff.1 h).1; omega) h
   have hpos:=s5 hb hall
   refine gK rfl (cK (ts (rm rfl (ro rfl (cZ Tryz.call183 (r5 hz h zo) ⟨(Ht rfl),trivial⟩) (ra rfl (eZ (ts (rm rfl (ro rfl (bT (Ht rfl) cV) (eZ (dQ (Ht rfl) (fun hd=>?_) (fun hd=>?_))))))))))))
   ·have hd2 : ¬ (if z.all ez = true then (0 : Int) else 1) = 0 := by simpa using hd
    refine ts (ro rfl (ae.imp (d9 ) da) (rm rfl (gJ Z_32 (Ht rfl) (Ht rfl) rfl (i:=1) rfl (aK rfl) rfl rfl (ra rfl (eZ (aC rfl (fJ (fY A_32 Z_32 rfl (i:=1) rfl rfl) ?_) (fJ (eY rfl) ?_)))))))
    ·exact (pD hpos hd2)
    ·exact (am hpos.symm)
   ·have hd2 : (if z.all ez = true then (0 : Int) else 1) = 0 := by simpa using hd
    have he:=hpos.trans hd2
    obtain ⟨h1,h2,hsh,_⟩:=fI he
    refine cU (ts (rm rfl (ro rfl (cZ Tryz.call158 (zG zo) ⟨(Ht rfl),trivial⟩) (rm rfl (ro rfl (dK U_29 (Ht rfl) a7) (ro rfl (fm (γ:=Fin z.length × Fin z.length) (Ts:=fun x=>[NT .i64 x.1.1,NT .i64 x.2.1]) (U:=fun x=>ab (gm s x.1.1 x.2.1)) Tryz.call187 (fun x=>AZ hsh x.1.2 x.2.2) ⟨(Ht rfl),trivial⟩) (ro rfl (cZ K_114 (eX (mY (n:=z.length) (f:=gm s) zo) (ee (by rw [← jd hsh]))) ⟨(Ht rfl),(Ht rfl),trivial⟩) ?_)))))))
    refine ro rfl (j0 (Ht rfl) (Ht rfl)) (gJ Z_32 (Ht rfl) (Ht rfl) rfl (i:=1) rfl (aK rfl) rfl rfl (ro rfl (cQ (cJ 0)) (eZ (aC rfl (fJ (fY A_32 Z_32 rfl (i:=1) rfl rfl) ?_) (fJ (eY rfl) ?_)))))
    ·exact (wk he)
    ·exact (am he.symm)
theorem iY {z:List Qi} {s:List (List Qi)}:aw Tryz.prog 22 [aM z s] (NT .i64 z.length):=by
 refine aw.intro Tryz.func22 rfl Tryz.ntmps22 rfl (fun cx=>(ts (rn rfl (fU (Ht rfl)) fun B1=>(ro rfl (cQ (cJ 0)) (eZ (ts (ro rfl (eJ bH (Ht rfl) rfl) (ro rfl (fQ A_29 Z_29 (Ht rfl) (i:=0) rfl rfl) (ro rfl (dK U_29 (Ht rfl) a7) (ra rfl (eZ ?_)))))))))))
 exact fK rfl (eY rfl)
theorem og {z:List Qi} {s:List (List Qi)} {i:Int}:aw Tryz.prog 106 [aM z s,aa .i64 i] (a9 (decide (1 ≤ i ∧ i ≤ z.length))):=by
 refine aw.intro Tryz.func106 rfl Tryz.ntmps106 rfl (fun cx=>(ts (rn rfl (fU (Ht rfl)) fun B2=>(ro rfl (cQ cV) (eZ (ts (rm rfl (ro rfl (fu (Ht rfl) cV) (rm rfl (fX rfl rfl (eU rfl rfl (Ht rfl) (fun h=>cX (Ht rfl))) (fX rfl rfl (eU rfl rfl (Ht rfl) (fun h=>eJ bH (Ht rfl) rfl)) (fX rfl rfl (eU rfl rfl (Ht rfl) (fun h=>fQ A_29 Z_29 (fW rfl h) (i:=0) rfl rfl)) (fX rfl rfl (eU rfl rfl (Ht rfl) (fun h=>dK U_29 (fW rfl h) a7)) (fX rfl rfl (eU rfl rfl (Ht rfl) (fun h=>xC (fW rfl h) (fW rfl h))) ?_))))))))))))))
 refine ro rfl (bx (Ht rfl) (fun h=>(fW rfl h))) (ra rfl (eZ (fK rfl (fJ (eY rfl) ?_))))
 exact (bL (by rw [Bool.eq_iff_iff]; simp))
end
section
open Go Go.RowKit
theorem bn (a:Addr) (w:World):(Instr.fieldAt 32 (.pointer (some a)) 1).run Tryz.prog w = .ok (.pointer (some (a.add 1))) w:=by
 simp [Instr.fieldAt,Instr.sureAddr,fieldPlace,Sem.run_bind,Result.andThen,U_32,Z_30]
end
section
open Go Go.RowKit
theorem tz {z:List Qi} {s:List (List Qi)} {i:Int} (hl:z.length ≤ 1000):aw Tryz.prog 23 [aM z s,aa .i64 i] (bo [ab (xT z i),aa .i64 (if 1 ≤ i ∧ i ≤ z.length then 0 else 1)]):=by
 refine aw.intro Tryz.func23 rfl Tryz.ntmps23 rfl (fun cx=>(ts (rn rfl (fU (Ht rfl)) fun B2=>(rn rfl (eG (Ts:=[Is (.bool false),Is (.slice none 0 0),Is (.bool false),Is (.slice none 0 0),Is (.slice none 0 0)]) O_51 rfl (fun V=>aW zd (aW zd (aW zd (aW zd (aW zd (aG))))))) fun B4=>(ro rfl (cQ (cJ 0)) (eZ (cK (ts (ro rfl (eW A_32 Z_32 (Ht rfl) (i:=0) rfl rfl rfl) (rm rfl (ro rfl (cZ K_106 og ⟨(Ht rfl),(Ht rfl),trivial⟩) ?_)))))))))))
 refine ro rfl (bD (Ht rfl)) (eZ (dQ (Ht rfl) (fun hb=>?_) (fun hb=>?_)))
 ·have hn : ¬ (1 ≤ i ∧ i ≤ (z.length : Int)) := by simpa only [Bool.not_eq_true', decide_eq_false_iff_not] using hb
  refine ts (ro rfl (ae.imp (pi ) kQ) (gJ Z_51 (Ht rfl) (Ht rfl) rfl (i:=1) rfl (aK rfl) rfl rfl (ro rfl (cQ (cJ 1)) (eZ (aC rfl (fJ (fY A_51 Z_51 rfl (i:=1) rfl rfl) ?_) (fJ (eY rfl) ?_))))))
  ·exact (cv (by rw [xT,if_neg hn]))
  ·exact (am (by rw [if_neg hn]; rfl))
 ·have hp : 1 ≤ i ∧ i ≤ (z.length : Int) := by simpa only [Bool.not_eq_false', decide_eq_true_eq] using hb
  have hq:(i - 1).toNat < z.length:=by omega
  refine cU (ts (ro rfl (eJ bH (Ht rfl) rfl) (ro rfl (fQ A_29 Z_29 (Ht rfl) (i:=0) rfl rfl) (rm rfl (ro rfl (cq (Ht rfl) cV (kq zo)) (ro rfl (dZ U_29 Z_51 (Ht rfl) (Ht rfl) (by omega:i - 1 = (((i - 1).toNat:Nat):Int)) (eQ (dY (d:=Qi.zero) hq))) (ro rfl (dV A_51 Z_51 (Ht rfl)) (gJ Z_51 (Ht rfl) (Ht rfl) rfl (i:=1) rfl (aK rfl) rfl rfl (ro rfl (cQ (cJ 0)) (eZ (aC rfl (fJ (fY A_51 Z_51 rfl (i:=1) rfl rfl) ?_) (fJ (eY rfl) ?_))))))))))))
  ·exact (cv (by rw [xT,if_pos hp]))
  ·exact (am (by rw [if_pos hp]; rfl))
theorem ux {z:List Qi} {s:List (List Qi)} {i j:Int} (hs:bM s z.length z.length) (hl:z.length ≤ 1000):aw Tryz.prog 25 [aM z s,aa .i64 i,aa .i64 j] (bo [ab (uU z.length s i j),aa .i64 (if (1 ≤ i ∧ i ≤ z.length) ∧ 1 ≤ j ∧ j ≤ z.length then 0 else 1)]):=by
 have hs1:=hs.1
 refine aw.intro Tryz.func25 rfl Tryz.ntmps25 rfl (fun cx=>(ts (rn rfl (fU (Ht rfl)) fun B3=>(rn rfl (eG (Ts:=[Is (.bool false),Is (.slice none 0 0),Is (.bool false),Is (.slice none 0 0),Is (.slice none 0 0)]) O_51 rfl (fun V=>aW zd (aW zd (aW zd (aW zd (aW zd (aG))))))) fun B6=>(ro rfl (cQ (cJ 0)) (eZ (cK (ts (ro rfl (eW A_32 Z_32 (Ht rfl) (i:=0) rfl rfl rfl) (rm rfl (ro rfl (cZ K_106 og ⟨(Ht rfl),(Ht rfl),trivial⟩) ?_)))))))))))
 refine ro rfl (bD (Ht rfl)) (rm rfl (fX rfl rfl (eU rfl rfl (Ht rfl) (fun h=>eW A_32 Z_32 (Ht rfl) (i:=0) rfl rfl rfl)) (fX rfl rfl (eU rfl rfl (Ht rfl) (fun h=>cX (Ht rfl))) (fX rfl rfl (eU rfl rfl (Ht rfl) (fun h=>cZ K_106 og ⟨(fW rfl h),(fW rfl h),trivial⟩)) (fX rfl rfl (eU rfl rfl (Ht rfl) (fun h=>bD (fW rfl h))) (ro rfl (eP (Ht rfl) (fun h=>(fW rfl h))) (eZ (dQ (Ht rfl) (fun hb=>?_) (fun hb=>?_)))))))))
 ·have hn : ¬ ((1 ≤ i ∧ i ≤ (z.length : Int)) ∧ 1 ≤ j ∧ j ≤ (z.length : Int)) := by simp only [Bool.or_eq_true, Bool.not_eq_true', decide_eq_false_iff_not] at hb; exact fun k => hb.elim (fun h => h k.1) (fun h => h k.2)
  refine ts (rn rfl (eG (Ts:=[Is (.bool false),Is (.slice none 0 0),Is (.bool false),Is (.slice none 0 0),Is (.slice none 0 0)]) O_51 rfl (fun V=>aW zd (aW zd (aW zd (aW zd (aW zd (aG))))))) fun B8=>(eZ (ts (ro rfl (eW A_51 Z_51 (Ht rfl) (i:=2) rfl rfl rfl) (gJ Z_51 (Ht rfl) (Ht rfl) rfl (i:=1) rfl (aK rfl) rfl rfl (ro rfl (cQ (cJ 1)) (eZ (aC rfl (fJ (fY A_51 Z_51 rfl (i:=1) rfl rfl) ?_) (fJ (eY rfl) ?_)))))))))
  ·exact (fun v V k=>by rw [uU,if_neg hn]; exact kQ v V k)
  ·exact (am (by rw [if_neg hn]; rfl))
 ·have hp : (1 ≤ i ∧ i ≤ (z.length : Int)) ∧ 1 ≤ j ∧ j ≤ (z.length : Int) := by simpa only [Bool.or_eq_false_iff, Bool.not_eq_false', decide_eq_true_eq] using hb
  have hq:(i - 1).toNat < s.length:=by omega
  have hq2:(j - 1).toNat < (s.getD (i - 1).toNat []).length:=by rw [hs.row zo]; omega
  refine cU (ts (ro rfl (eJ bn (Ht rfl) rfl) (ro rfl (fQ A_30 Z_30 (Ht rfl) (i:=0) rfl rfl) (rm rfl (ro rfl (cq (Ht rfl) cV (kq zo)) (ro rfl (dZ U_30 Z_29 (Ht rfl) (Ht rfl) (by omega:i - 1 = (((i - 1).toNat:Nat):Int)) (eQ (dY (d:=[]) hq))) (ro rfl (dV A_29 Z_29 (Ht rfl)) (rm rfl (ro rfl (cq (Ht rfl) cV (kq zo)) (ro rfl (dZ U_29 Z_51 (Ht rfl) (Ht rfl) (by omega:j - 1 = (((j - 1).toNat:Nat):Int)) (eQ (dY (d:=Qi.zero) hq2))) ?_))))))))))
  refine ro rfl (dV A_51 Z_51 (Ht rfl)) (gJ Z_51 (Ht rfl) (Ht rfl) rfl (i:=1) rfl (aK rfl) rfl rfl (ro rfl (cQ (cJ 0)) (eZ (aC rfl (fJ (fY A_51 Z_51 rfl (i:=1) rfl rfl) ?_) (fJ (eY rfl) ?_)))))
  ·exact (cv (by rw [uU,if_pos hp]))
  ·exact (am (by rw [if_pos hp]; rfl))
end
section
open Go Go.RowKit
theorem va:Tryz.prog.info? 131 = some Tryz.t131:=by kernel_rfl
theorem zt:Tryz.prog.info? 35 = some Tryz.t35:=by kernel_rfl
theorem CC:Tryz.prog.underlying 30 = some (.slice 29):=by kernel_rfl
theorem BH:Tryz.prog.underlying 35 = some (.slice 131):=by kernel_rfl
theorem C9:Tryz.prog.underlying 36 = some (.slice 35):=by kernel_rfl
end
section
open Go Go.RowKit
theorem ou {m:List (List Rt)} (hm:m.length ≤ 1000) (hr:∀ r,r ∈ m → r.length ≤ 1000):aw Tryz.prog 86 [vg m] (bp (rq m)):=by
 refine aw.intro Tryz.func86 rfl Tryz.ntmps86 rfl (fun cx=>(ts (ro rfl (cQ cV) (eZ (ts (rm rfl (ro rfl (dK U_23 (Ht rfl) a7) (rn rfl (cy (T:=av []) (i:=Tryz.t29) CC jY rfl rfl (Ht rfl) rfl qv El.one (by show 24 * _ ≤ _; omega) zo) fun B8=>(ra rfl (eZ (cK (ts (rm rfl (ro rfl (dK U_23 (Ht rfl) a7) (ro rfl (cX (cJ 0)) (eZ (eK ?_)))))))))))))))))
 refine ci (fun (k : Nat) (out : List (List Qi)) => g8 (fun i => (m.getD i default).map Rt.q) m.length out k) (fun (k : Nat) (out : List (List Qi)) => m.length - k) (fun (k : Nat) (out : List (List Qi)) => [(3, Is B8), (9, vg m), (10, NT .i64 m.length), (11, NT .i64 k)]) (fun (k : Nat) (out : List (List Qi)) => [aE 29 1 B8 (out.map av)]) 0 (List.replicate m.length []) (g8.start _ _ _)
  (zS rfl) (aU (ar (jo av _ _)) aY) (fun k out hS=>?_)
 refine ts (ro rfl (gV (Ht rfl) (Ht rfl)) (eZ (cK (dQ (Ht rfl) (fun hk=>?_) (fun hk=>?_)))))
 ·simp only [decide_eq_true_eq] at hk
  have hlen:=hS.len
  have hrk : (m.getD k default).length ≤ 1000 := by
   have e:m.getD k default = m[k]:=by simp [List.getD,hk]
   rw [e]; exact hr _ (List.getElem_mem hk)
  refine cU (cK (eK (ts (rm rfl (ro rfl (dZ U_23 Z_22 (Ht rfl) (Ht rfl) rfl (eQ (dY (d:=default) hk))) (ro rfl (dV A_22 Z_22 (Ht rfl)) (ra rfl (ra rfl (eZ (cY (rm rfl (rm rfl (rm rfl (ro rfl (cZ Tryz.call48 (lY zo) ⟨(Ht rfl),trivial⟩) (ro rfl (bi U_30 Z_29 (Ht rfl) (Ht rfl) rfl (i:=0) rfl (by first | omega | (simp; omega)) rfl) (eL Z_29 (Ht rfl) (Ht rfl) El.one (i:=0) rfl rfl (by first | omega | (simp; omega)) rfl (eZ (aB ?_))))))))))))))))))
  refine cY (ro rfl (dW (Ht rfl) (cJ 1) z6) (rm rfl (eZ (gQ (k + 1,_) (hS.next hk rfl) (by dsimp only; omega) (zS rfl) (aU (ar (c9 av _ _ _)) aY)))))
 ·simp only [decide_eq_false_iff_not] at hk
  obtain rfl:k = m.length:=Nat.le_antisymm hS.kle zo
  have hfin:=hS.fin
  rw [jK m (fun r=>r.map Rt.q)] at hfin
  refine gK rfl (gG (i:=0) (tt:=3) rfl rfl cg (ts (rm rfl (ra rfl (eZ (fK rfl (fJ (eY rfl) ?_)))))))
  exact (ee (by rw [hfin]))
end
section
open Go Go.RowKit
theorem tL {n : Nat} {E : aT} {H : Hp} {d : Option Tmp} {t : TypeId} {pos : String} {af : Array Edge} {g : Option (Nat × Bool)}  :
  ae Tryz.prog n E H ⟨d,.build 38 #[],t,pos,af,g⟩ (bB [Is (.slice none 0 0),Is (.slice none 0 0)]) :=
 cB (parts := []) fun a V w hs => by
  refine ⟨.agg #[(.slice none 0 0),(.slice none 0 0)],?_,[(.slice none 0 0),(.slice none 0 0)],rfl,aW (⟨rfl,trivial⟩) (aW (⟨rfl,trivial⟩) (aG))⟩
  simp [Instr.build,Instr.fill,Sem.run_bind,Result.andThen,ca,O_38,U_38,Z_35,Tryz.sizeOf36]
theorem rK {n : Nat} {E : aT} {H : Hp} {d : Option Tmp} {t : TypeId} {pos : String} {af : Array Edge} {g : Option (Nat × Bool)} {x0 x1 : Operand} {T0 T1 : Ty} [s0 : bg T0 1 false] (h0 : ax E x0 T0) [s1 : bg T1 1 false] (h1 : ax E x1 T1) :
  ae Tryz.prog n E H ⟨d,.build 38 #[(0,x0),(1,x1)],t,pos,af,g⟩ (bB [T0,T1]) :=
 cB (parts := [(0, x0), (1, x1)]) fun a V w hs => by
  have p0:=h0 n V a hs
  generalize e0:a.eval x0 = v0 at p0
  have q0:=(s0.ok v0 V p0).2.2 rfl
  have p1:=h1 n V a hs
  generalize e1:a.eval x1 = v1 at p1
  have q1:=(s1.ok v1 V p1).2.2 rfl
  refine ⟨.agg #[v0,v1],?_,[v0,v1],rfl,aW (⟨p0,q0⟩) (aW (⟨p1,q1⟩) (aG))⟩
  simp [e0,e1,Instr.build,Instr.fill,Sem.run_bind,Result.andThen,ca,q0.cells,q1.cells,O_38,U_38,Z_35,Tryz.sizeOf36]
theorem u4 (a:Addr) (w:World):(Instr.fieldAt 38 (.pointer (some a)) 0).run Tryz.prog w = .ok (.pointer (some (a.add 0))) w:=by
 simp [Instr.fieldAt,Instr.sureAddr,fieldPlace,Sem.run_bind,Result.andThen,U_38,Z_35]
end
section
open Go Go.RowKit
theorem qB {x:Qi} {L:Nat} [hx:an x L] (h:L ≤ 17592186044415):aw Tryz.prog 250 [QT x] (a9 (ez x)):=by
 refine aw.intro Tryz.func250 rfl Tryz.ntmps250 rfl (fun cx=>(ts (rn rfl (fU (Ht rfl)) fun B1=>(ro rfl (cQ cV) (eZ (ts (ro rfl (eW A_131 Z_131 (Ht rfl) (i:=0) rfl rfl rfl) (ro rfl (cZ Tryz.call242 (yq zo) ⟨(Ht rfl),trivial⟩) (ro rfl (di (Ht rfl) cV) (rm rfl (fX rfl rfl (eU rfl rfl (Ht rfl) (fun h=>eW A_131 Z_131 (Ht rfl) (i:=0) rfl rfl rfl)) (fX rfl rfl (eU rfl rfl (Ht rfl) (fun h=>cZ Tryz.call239 tP ⟨(fW rfl h),trivial⟩)) (fX rfl rfl (eU rfl rfl (Ht rfl) (fun h=>rL (fW rfl h) cV)) ?_)))))))))))))
 refine ro rfl (bx (Ht rfl) (fun h=>(fW rfl h))) (ra rfl (eZ (fK rfl (fJ (eY rfl) ?_))))
 exact (bL (xY x))
theorem vk {z:List Qi} {s:List (List Qi)} (hz:z.length ≤ 100000) (hs:s.length ≤ 100000):aw Tryz.prog 189 [q8 z,QM s] (a9 (mO z s)):=by
 refine aw.intro Tryz.func189 rfl Tryz.ntmps189 rfl (fun cx=>(ts (ro rfl (cQ cV) (eZ (cK (ts (rm rfl (ro rfl (dK U_35 (Ht rfl) a7) (ro rfl (gV (Ht rfl) (cJ 1)) (rm rfl (fX rfl rfl (eU rfl rfl (Ht rfl) (fun h=>cX (Ht rfl))) (fX rfl rfl (eU rfl rfl (Ht rfl) (fun h=>dK U_35 (fW rfl h) a7)) (fX rfl rfl (eU rfl rfl (Ht rfl) (fun h=>bR (fW rfl h) (cJ 8))) (ro rfl (eP (Ht rfl) (fun h=>(fW rfl h))) (rm rfl (fX rfl rfl (eU rfl rfl (Ht rfl) (fun h=>cX (Ht rfl))) ?_))))))))))))))))
 refine fX rfl rfl (eU rfl rfl (Ht rfl) (fun h=>dK U_36 (fW rfl h) a7)) (fX rfl rfl (eU rfl rfl (Ht rfl) (fun h=>cX (Ht rfl))) (fX rfl rfl (eU rfl rfl (Ht rfl) (fun h=>dK U_35 (fW rfl h) a7)) (fX rfl rfl (eU rfl rfl (Ht rfl) (fun h=>db (fW rfl h) (fW rfl h))) (ro rfl (eP (Ht rfl) (fun h=>(fW rfl h))) (eZ (dQ (Ht rfl) (fun hb=>?_) (fun hb=>?_)))))))
 ·refine ts (ro rfl (cQ cV) (eZ (fK rfl (fJ (eY rfl) ?_))))
  exact (bL (by rw [mO,hb]; rfl))
 ·refine cU (cK (ts (ro rfl (cQ (cJ 0)) (eZ (eK ?_)))))
  refine b8 (fun (k : Nat) => k ≤ s.length ∧ ∀ (i : Nat) (r : List Qi), i < k → s[i]? = some r → r.length = z.length) (fun (k : Nat) => s.length - k) (fun (k : Nat) => [(0, q8 z), (1, QM s), (5, NT .i64 k)]) (fun (k : Nat) => []) 0 ⟨Nat.zero_le _, fun i r h => by omega⟩
   (zS rfl) aY (fun k ⟨hk,hr⟩=>?_)
  refine cK (ts (rm rfl (rm rfl (ro rfl (dK U_36 (Ht rfl) a7) (ro rfl (gV (Ht rfl) (Ht rfl)) (eZ (dQ (Ht rfl) (fun hc=>?_) (fun hc=>?_))))))))
  ·simp only [decide_eq_true_eq] at hc
   refine cU (cK (eK (ts (rm rfl (rm rfl (ro rfl (dZ U_36 Z_35 (Ht rfl) (Ht rfl) rfl (eQ (ji hc))) (ro rfl (dV Tryz.isAgg35 Z_35 (Ht rfl)) (ro rfl (dK U_35 (Ht rfl) a7) (rm rfl (ro rfl (dK U_35 (Ht rfl) a7) (ro rfl (db (Ht rfl) (Ht rfl)) (eZ (dQ (Ht rfl) (fun hd=>?_) (fun hd=>?_))))))))))))))
   ·have hd2 : ¬ (s[k]).length = z.length := by simpa using hd
    refine ts (ro rfl (cQ cV) (eZ (fK rfl (fJ (eY rfl) ?_))))
    exact (bL (by rw [mO,zT (ji hc) hd2,Bool.or_true]; rfl))
   ·have hd2 : (s[k]).length = z.length := by simpa using hd
    refine cU (aB (cY (rm rfl (ro rfl (dW (Ht rfl) (cJ 1) z6) (ra rfl (eZ ?_))))))
    refine gQ (k + 1) ⟨hc, fun i r h1 h2 => by
     by_cases e:i = k
     ·subst e; rw [ji hc] at h2; obtain rfl:=Option.some.inj h2; exact hd2
     ·exact hr i r zo h2⟩ zo (zS rfl) aY
  ·simp only [decide_eq_false_iff_not] at hc
   have hall:∀ (i:Nat) (r:List Qi),s[i]? = some r → r.length = z.length:=fun i r h=>hr i r (by have:=(List.getElem?_eq_some_iff.1 h).1; omega) h
   refine gK rfl (ts (ro rfl (cQ cV) (eZ (fK rfl (fJ (eY rfl) ?_)))))
   exact (bL (by rw [mO,vl hall,hb]; rfl))
theorem nR {z:List Qi} {L:Nat} (hz:aP z L) (h:L ≤ 17592186044415) (hl:z.length ≤ 100000):aw Tryz.prog 190 [q8 z] (a9 (z.all ez)):=by
 refine aw.intro Tryz.func190 rfl Tryz.ntmps190 rfl (fun cx=>(ts (ro rfl (cQ cV) (eZ (cK (ts (ro rfl (cQ (cJ 0)) (eZ (eK ?_)))))))))
 refine b8 (fun (k : Nat) => k ≤ z.length ∧ ∀ (i : Nat) (r : Qi), i < k → z[i]? = some r → ez r = true) (fun (k : Nat) => z.length - k) (fun (k : Nat) => [(0, q8 z), (3, NT .i64 k)]) (fun (k : Nat) => []) 0 ⟨Nat.zero_le _, fun i r h => by omega⟩
  (zS rfl) aY (fun k ⟨hk,hr⟩=>?_)
 refine cK (ts (rm rfl (rm rfl (ro rfl (dK U_35 (Ht rfl) a7) (ro rfl (gV (Ht rfl) (Ht rfl)) (eZ (dQ (Ht rfl) (fun hc=>?_) (fun hc=>?_))))))))
 ·simp only [decide_eq_true_eq] at hc
  haveI hf:an z[k] L:=hz _ (List.getElem_mem hc)
  refine cU (cK (eK (ts (rm rfl (rm rfl (ro rfl (dZ U_35 Z_131 (Ht rfl) (Ht rfl) rfl (eQ (ji hc))) (ro rfl (dV A_131 Z_131 (Ht rfl)) (ro rfl (cZ Tryz.call250 (qB (L:=L) h) ⟨(Ht rfl),trivial⟩) (ro rfl (bD (Ht rfl)) (eZ (dQ (Ht rfl) (fun hd=>?_) (fun hd=>?_))))))))))))
  ·have hd2 : ez z[k] = false := by simpa using hd
   refine ts (ro rfl (cQ cV) (eZ (fK rfl (fJ (eY rfl) ?_))))
   exact (bL (Ct (ji hc) hd2).symm)
  ·have hd2 : ez z[k] = true := by simpa using hd
   refine cU (aB (cY (rm rfl (ro rfl (dW (Ht rfl) (cJ 1) z6) (ra rfl (eZ ?_))))))
   refine gQ (k + 1) ⟨hc, fun i r h1 h2 => by
    by_cases e:i = k
    ·subst e; rw [ji hc] at h2; obtain rfl:=Option.some.inj h2; exact hd2
    ·exact hr i r zo h2⟩ zo (zS rfl) aY
 ·simp only [decide_eq_false_iff_not] at hc
  have hall:∀ (i:Nat) (r:Qi),z[i]? = some r → ez r = true:=fun i r h=>hr i r (by have:=(List.getElem?_eq_some_iff.1 h).1; omega) h
  refine gK rfl (ts (ro rfl (cQ cV) (eZ (fK rfl (fJ (eY rfl) ?_)))))
  exact (bL (zk hall).symm)
theorem ud {z:List Qi} {s:List (List Qi)} {L:Nat} (hz:aP z L) (h:L ≤ 17592186044415) (hl:z.length ≤ 1000) (hl2:s.length ≤ 1000):aw Tryz.prog 90 [q8 z,QM s] (bo [kj (cL (aR z s) z) (cL (aR z s) s),aa .i64 (aR z s)]):=by
 refine aw.intro Tryz.func90 rfl Tryz.ntmps90 rfl (fun cx=>(ts (rn rfl (eG (Ts:=[Is (.slice none 0 0),Is (.slice none 0 0)]) O_38 rfl (fun V=>aW zd (aW zd (aG)))) fun B4=>(ro rfl (cQ (cJ 0)) (eZ (cK (ts (rm rfl (rm rfl (ro rfl (cZ Tryz.call189 (vk zo zo) ⟨(Ht rfl),(Ht rfl),trivial⟩) (ro rfl (bD (Ht rfl)) (eZ (dQ (Ht rfl) (fun hb=>?_) (fun hb=>?_))))))))))))))
 ·have hb2 : ¬ mO z s = true := by simpa using hb
  have he:aR z s = 4:=by rw [lw,if_neg hb2]
  refine ts (ro rfl (ae.imp (tL ) qb) (gJ Z_38 (Ht rfl) (Ht rfl) rfl (i:=0) rfl (aK rfl) rfl rfl (ro rfl (cQ (cJ 4)) (eZ (aC rfl (fJ (fY A_38 Z_38 rfl (i:=0) rfl rfl) ?_) (fJ (eY rfl) ?_))))))
  ·exact (qZ he (by decide))
  ·exact (am he.symm)
 ·have hb2 : mO z s = true := by simpa using hb
  refine cU (cK (ts (rm rfl (ro rfl (cZ Tryz.call190 (nR (by assumption) (by assumption) zo) ⟨(Ht rfl),trivial⟩) ?_))))
  refine ro rfl (bD (Ht rfl)) (eZ (dQ (Ht rfl) (fun hc=>?_) (fun hc=>?_)))
  ·have hc2 : ¬ z.all ez = true := by simp only [Bool.not_eq_true'] at hc; rw [hc]; exact Bool.noConfusion
   have he:aR z s = 1:=by rw [lw,if_pos hb2,if_neg hc2]
   refine ts (ro rfl (ae.imp (tL ) qb) (gJ Z_38 (Ht rfl) (Ht rfl) rfl (i:=0) rfl (aK rfl) rfl rfl (ro rfl (cQ (cJ 1)) (eZ (aC rfl (fJ (fY A_38 Z_38 rfl (i:=0) rfl rfl) ?_) (fJ (eY rfl) ?_))))))
   ·exact (qZ he (by decide))
   ·exact (am he.symm)
  ·have hc2 : z.all ez = true := by simp only [Bool.not_eq_false'] at hc; exact hc
   have he:aR z s = 0:=by rw [lw,if_pos hb2,if_pos hc2]
   refine cU (ts (rm rfl (rm rfl (ro rfl (rK (Ht rfl) (Ht rfl)) (gJ Z_38 (Ht rfl) (Ht rfl) rfl (i:=0) rfl (aK rfl) rfl rfl (ro rfl (cQ (cJ 0)) (eZ (aC rfl (fJ (fY A_38 Z_38 rfl (i:=0) rfl rfl) ?_) (fJ (eY rfl) ?_)))))))))
   ·exact (uH he)
   ·exact (am he.symm)
end
section
open Go Go.RowKit
theorem yh (a:Addr) (w:World):(Instr.fieldAt 38 (.pointer (some a)) 1).run Tryz.prog w = .ok (.pointer (some (a.add 1))) w:=by
 simp [Instr.fieldAt,Instr.sureAddr,fieldPlace,Sem.run_bind,Result.andThen,U_38,Tryz.sizeOf36]
end
section
open Go Go.RowKit
theorem ko (v : Value) (w : World) : (method (Tryz.prog.types.size + Made.depth) 51 v "Of").run Tryz.prog w = .ok (302, v) w := by kernel_rfl
theorem aF (v:Value) (w:World):(Instr.makeInterface 51 v).run Tryz.prog w = .ok (.iface 51 v) w:=by
 simp [Instr.makeInterface,Sem.run_bind,Result.andThen,U_51]
end
section
open Go Go.RowKit
theorem wW {y:Qi}:aw Tryz.prog 302 [bB [Is (.bool false),Is (.slice none 0 0),Is (.bool false),Is (.slice none 0 0),Is (.slice none 0 0)],ab y] (ab y):=by
 refine aw.intro Tryz.func302 rfl Tryz.ntmps302 rfl (fun cx=>(ts (rn rfl (fU (Ht rfl)) fun B2=>(rn rfl (fU (Ht rfl)) fun B3=>(rn rfl (eG (Ts:=[Is (.bool false),Is (.slice none 0 0),Is (.bool false),Is (.slice none 0 0),Is (.slice none 0 0)]) O_51 rfl (fun V=>aW zd (aW zd (aW zd (aW zd (aW zd (aG))))))) fun B4=>(eZ (ts (ro rfl (eW A_51 Z_51 (Ht rfl) (i:=1) rfl rfl rfl) (gJ Z_51 (Ht rfl) (Ht rfl) rfl (i:=2) rfl (aK rfl) rfl rfl ?_)))))))))
 refine eZ ?_
 exact fK rfl (fY A_51 Z_51 rfl (i:=2) rfl rfl)
theorem sD {r:List Qi} {k:Nat}:aw Tryz.prog 273 [av r,PT (NT .i64 k)] (a9 (!decide (r.length = k))):=by
 refine aw.intro Tryz.func273 rfl Tryz.ntmps273 rfl (fun cx=>(ts (ro rfl (cQ cV) (eZ (ts (rm rfl (ro rfl (dK U_29 (Ht rfl) a7) (ro rfl (dV A_3 Z_3 (Ht rfl)) (ro rfl (db (Ht rfl) (Ht rfl)) (ra rfl (eZ ?_)))))))))))
 exact fK rfl (eY rfl)
theorem uj {a:List (List Qi)} {n k:Nat} (h:bM a n k) (h1:1 ≤ n) (hn:n ≤ 32) (hk:k ≤ 32):aw Tryz.prog 240 [bp a] (bo [NT .i64 k,a9 true]):=by
 obtain ⟨rfl,h2⟩:=h
 have hr0:(a.getD 0 []).length = k:=bM.row ⟨rfl,h2⟩ zo
 refine aw.intro Tryz.func240 rfl Tryz.ntmps240 rfl (fun cx=>(ts (ro rfl (cQ (cJ 0)) (ro rfl (cQ cV) (eZ (cK (ts (rm rfl (ro rfl (dK U_30 (Ht rfl) a7) (ro rfl (aO (Ht rfl) (cJ 0)) (eZ (dQ (Ht rfl) (fun hb=>?_) (fun hb=>?_)))))))))))))
 ·simp only [decide_eq_true_eq] at hb
  omega
 ·refine cU (ts (rm rfl (ro rfl (dZ U_30 Z_29 (Ht rfl) (cJ 0) rfl (eQ (dY (d := []) zo))) (ro rfl (dV A_29 Z_29 (Ht rfl)) (ro rfl (dK U_29 (Ht rfl) a7) (rn rfl (eG (Ts := [Is (.int .i64 0)]) O_3 rfl (fun V => aW zd (aG))) fun B4 => (dI Z_3 (Ht rfl) (Ht rfl) (i := 0) rfl (aK rfl) rfl (eZ (cK (gG (i := 0) (tt := 4) rfl rfl cC (fV (m := 15) (dp 4 rfl (dV A_3 Z_3 (Ht rfl)) ?_))))))))))))
  refine dp 0 rfl (cX (Ht rfl)) (dq 13 1 rfl (dK U_30 (Ht rfl) a7) (dq 14 2 rfl (kR (Ht rfl) (cJ 32)) (dq 15 3 rfl (cX (Ht rfl)) (C.D_step (Ei:=[(4,_),(16,_)]) rfl rfl (bV (bK rfl rfl) (bV (bG 4 rfl rfl) bW)) (eU rfl rfl (Ht rfl) (fun h=>dV A_3 Z_3 (Ht rfl))) (C.D_step (Ei:=[(17,_),(16,_)]) rfl rfl (bV (bG 5 rfl rfl) (bV (bG 4 rfl rfl) bW)) (eU rfl rfl (Ht rfl) (fun h=>kR (fW rfl h) (cJ 32))) (bv 16 4 18 6 rfl (bx (Ht rfl) (fun h=>(fW rfl h))) ?_))))))
  refine dq 19 7 rfl (cX (Ht rfl)) (C.D_step (Ei:=[(0,_),(20,_)]) rfl rfl (bV (bK rfl rfl) (bV (bG 8 rfl rfl) bW)) (eU rfl rfl (Ht rfl) (fun h=>cX (Ht rfl))) (C.D_step (Ei:=[(4,_),(20,_)]) rfl rfl (bV (bK rfl rfl) (bV (bG 8 rfl rfl) bW)) (eU rfl rfl (Ht rfl) (fun h=>fm (γ:=List Qi) (Ts:=fun r=>[av r]) (U:=fun r=>a9 (!decide (r.length = (a.getD 0 []).length))) Tryz.call273 (fun r=>sD) ⟨(Ht rfl),trivial⟩)) (C.D_step (Ei:=[(21,_),(22,_),(20,_)]) rfl rfl (bV (bG 9 rfl rfl) (bV (bG 10 rfl rfl) (bV (bG 8 rfl rfl) bW))) (eU rfl rfl (Ht rfl) (fun h=>cZ Tryz.call156 (nQ (l:=a) (T:=av) (p:=fun r=>!decide (r.length = (a.getD 0 []).length)) zo) ⟨(fW rfl h),(fW rfl h),trivial⟩)) ?_)))
  refine C.D_step (Ei:=[(23,_),(20,_)]) rfl rfl (bV (bG 11 rfl rfl) (bV (bG 8 rfl rfl) bW)) (eU rfl rfl (Ht rfl) (fun h=>bD (fW rfl h))) (bv 20 8 24 12 rfl (bx (Ht rfl) (fun h=>(fW rfl h))) (dq 12 0 rfl (cQ (Ht rfl)) (fG aA rfl (by kernel_rfl) (zF (zF (zF (aJ (aJ (aJ (aV (ra rfl (eZ (aC rfl (fJ (eY rfl) ?_) (fJ (eY rfl) ?_))))))))))))))
  ·exact (fe hr0)
  ·exact (bL (by rw [hr0,zY ⟨rfl,h2⟩]; simp; omega))
end
section
open Go Go.RowKit
theorem fd (v : Value) (w : World) : (method (Tryz.prog.types.size + Made.depth) 51 v "Add").run Tryz.prog w = .ok (46, v) w := by kernel_rfl
theorem b7 (v : Value) (w : World) : (method (Tryz.prog.types.size + Made.depth) 51 v "Mul").run Tryz.prog w = .ok (45, v) w := by kernel_rfl
end
section
open Go Go.RowKit
theorem dO (v : Value) (w : World) : (method (Tryz.prog.types.size + Made.depth) 51 v "Div").run Tryz.prog w = .ok (40, v) w := by kernel_rfl
theorem dv (v : Value) (w : World) : (method (Tryz.prog.types.size + Made.depth) 51 v "Sub").run Tryz.prog w = .ok (44, v) w := by kernel_rfl
end
section
open Go Go.RowKit
theorem zL {n:Nat} (h:n < 4294967296):aw Tryz.prog 278 [NT .u64 1,NT .u64 n] (bo [NT .u64 0,NT .u64 n]):=by
 refine aw.intro Tryz.func278 rfl Tryz.ntmps278 rfl (fun cx=>(ts (ro rfl (cQ (cJ 0)) (ro rfl (cQ (cJ 0)) (eZ (ts (rm rfl (ro rfl (ae.nat (jQ rfl (Ht rfl) (cJ 4294967295) z7 z7) (show (1:Nat) &&& 4294967295 = 1 by decide)) (ra rfl (eZ (ts (rm rfl (ro rfl (ae.nat (c5 (Ht rfl) (cJ 32) (by decide)) (show (1:Nat) / 2 ^ 32 = 0 by decide)) (ra rfl (eZ (ts (rm rfl (ro rfl (ae.nat (jQ rfl (Ht rfl) (cJ 4294967295) z7 z7) (show n &&& 4294967295 = n from (Nat.and_two_pow_sub_one_eq_mod n 32).trans (Nat.mod_eq_of_lt h))) ?_))))))))))))))))))
 refine ra rfl (eZ (ts (rm rfl (ro rfl (ae.nat (c5 (Ht rfl) (cJ 32) (by decide)) (show n / 2 ^ 32 = 0 from Nat.div_eq_of_lt h)) (ra rfl (eZ (ts (rm rfl (rm rfl (ro rfl (ae.nat (eC (Ht rfl) (Ht rfl) z7) (Nat.one_mul n)) (ra rfl (eZ (ts (rm rfl (rm rfl (ro rfl (ae.nat (eC (Ht rfl) (Ht rfl) z7) (Nat.zero_mul n)) (rm rfl (ro rfl (ae.nat (c5 (Ht rfl) (cJ 32) (by decide)) (show n / 2 ^ 32 = 0 from Nat.div_eq_of_lt h)) ?_))))))))))))))))))
 refine ro rfl (dW (Ht rfl) (Ht rfl) z7) (ra rfl (eZ (ts (rm rfl (ro rfl (ae.nat (jQ rfl (Ht rfl) (cJ 4294967295) z7 z7) (show (0 + 0:Nat) &&& 4294967295 = 0 by decide)) (ra rfl (eZ (ts (rm rfl (ro rfl (ae.nat (c5 (Ht rfl) (cJ 32) (by decide)) (show (0 + 0:Nat) / 2 ^ 32 = 0 by decide)) (ra rfl (eZ (ts (rm rfl (rm rfl (rm rfl ?_))))))))))))))))
 refine ro rfl (ae.nat (eC (Ht rfl) (Ht rfl) z7) (show (1 * 0:Nat) = 0 by decide)) (ro rfl (dW (Ht rfl) (Ht rfl) z7) (ra rfl (eZ (ts (rm rfl (rm rfl (ro rfl (ae.nat (eC (Ht rfl) (Ht rfl) z7) (show (0 * 0:Nat) = 0 by decide)) (rm rfl (ro rfl (dW (Ht rfl) (Ht rfl) z7) ?_)))))))))
 refine rm rfl (ro rfl (ae.nat (c5 (Ht rfl) (cJ 32) (by decide)) (show (0 + 0:Nat) / 2 ^ 32 = 0 by decide)) (ro rfl (dW (Ht rfl) (Ht rfl) z7) (ra rfl (eZ (ts (rm rfl (rm rfl (ro rfl (ae.nat (eC (Ht rfl) (Ht rfl) z7) (Nat.one_mul n)) (ra rfl (eZ (aC rfl (fJ (eY rfl) ?_) (eY rfl))))))))))))
 exact (fe (by decide))
theorem Bi {n:Nat} (h:n < 4294967296):aw Tryz.prog 251 [NT .u64 1,NT .u64 n] (bo [NT .u64 0,NT .u64 n]):=by
 refine aw.intro Tryz.func251 rfl Tryz.ntmps251 rfl (fun cx=>(ts (ro rfl (cQ (cJ 0)) (ro rfl (cQ (cJ 0)) (eZ (cK (dQ cV (fun hf=>?_) (fun hf=>?_))))))))
 ·exact absurd hf (by decide)
 ·refine cU (ts (rm rfl (rm rfl (ro rfl (cZ Tryz.call278 (zL h) ⟨(Ht rfl), (Ht rfl), trivial⟩) (rm rfl (ro rfl (dU (Ht rfl) rfl) (ro rfl (dU (Ht rfl) rfl) (ra rfl (ra rfl (eZ (ts (rm rfl (rm rfl (ra rfl (ra rfl (eZ ?_))))))))))))))))
  exact aC rfl (eY rfl) (eY rfl)
theorem Bc {m:Nat} (h1:1 ≤ m) (hm:m ≤ 1000):dy Tryz.prog 191 [av [Qi.zero],NT .i64 m] [] ({v:Value // lU v}) (fun v=>Is v.1) (fun v=>[aE 51 5 v.1 ((tab m fun _=>Qi.zero).map ab)]) (fun _=>True):=by
 refine dy.intro Tryz.func191 rfl Tryz.ntmps191 rfl (fun cx Z=>(ts (ro rfl (cQ cV) (eZ (cK (ts (rm rfl (ro rfl (gV (Ht rfl) (cJ 0)) (eZ (dQ (Ht rfl) (fun h0=>?_) (fun h0=>?_)))))))))))
 ·simp only [decide_eq_true_eq] at h0
  omega
 ·refine cU (ts (rm rfl (ro rfl (dK U_29 (Ht rfl) (show (([Qi.zero].map ab).length : Int) = ((1 : Nat) : Int) from rfl)) (ro rfl (gW U_3 U_255 (Ht rfl) z7) (rm rfl (ro rfl (gW U_3 U_255 (Ht rfl) z7) (ro rfl (cZ Tryz.call251 (Bi zo) ⟨(Ht rfl), (Ht rfl), trivial⟩) (rm rfl (ro rfl (dU (Ht rfl) rfl) (ro rfl (dU (Ht rfl) rfl) ?_))))))))))
  refine ra rfl (ra rfl (eZ (cK (ts (rm rfl (ro rfl (bR (Ht rfl) (cJ 0)) (rm rfl (fX rfl rfl (eU rfl rfl (Ht rfl) (fun h=>cX (Ht rfl))) (fX rfl rfl (eU rfl rfl (Ht rfl) (fun h=>bR (fW rfl h) (cJ 9223372036854775807))) (ro rfl (eP (Ht rfl) (fun h=>(fW rfl h))) (eZ (dQ (Ht rfl) (fun h2=>?_) (fun h2=>?_)))))))))))))
  ·simp only [Bool.or_eq_true, decide_eq_true_eq] at h2
   omega
  ·refine cU (ts (rm rfl (ro rfl (gW U_255 U_3 (Ht rfl) z6) (yF (T := ab Qi.zero) (i := Tryz.t51) ef de rfl rfl (Ht rfl) rfl cw (El.ag rfl) (by show 88 * _ ≤ _; omega) zo rfl (fun B30 hB30 => (ra rfl (eZ (ts (rm rfl (rm rfl (ro rfl (wv (q := 1) (T := ab Qi.zero) U_29 Z_51 (i := 1) rfl (Ht rfl) (Ht rfl) (by decide) (El.ag rfl) zo) (ra rfl (eZ (cK (eK ?_)))))))))))))))
   refine b8 (fun (k : Nat) => 1 ≤ k ∧ k ≤ m) (fun (k : Nat) => m - k) (fun (k : Nat) => [(7, Is B30), (8, NT .i64 k)]) (fun (k : Nat) => [Z, aE 51 5 B30 (List.replicate m (ab Qi.zero))]) (Nat.min 1 m) ⟨by show 1 ≤ min 1 m; omega, by show min 1 m ≤ m; omega⟩
    (zS rfl) (br.refl _) (fun k ⟨hk1,hk⟩=>?_)
   refine cK (ts (rm rfl (rm rfl (ro rfl (gH U_29 (Ht rfl) (i:=1) rfl (show ((List.replicate m (ab Qi.zero)).length:Int) = ((m:Nat):Int) by simp)) (ro rfl (gV (Ht rfl) (Ht rfl)) (eZ (dQ (Ht rfl) (fun hd=>?_) (fun hd=>?_))))))))
   ·simp only [decide_eq_true_eq] at hd
    have hlen:(List.replicate m (ab Qi.zero)).length = m:=by simp
    have h5:Nat.min k ((List.replicate m (ab Qi.zero)).length - k) = min k (m - k):=by rw [hlen]
    refine cU (eK (fV (m:=8) (dp 8 rfl (cX (Ht rfl)) (dp 7 rfl (cX (Ht rfl)) (dp 8 rfl (cX (Ht rfl)) (bv 39 1 40 2 rfl (xE U_29 Z_51 (Ht rfl) (Ht rfl) rfl (i:=1) rfl (by rw [hlen]; exact hd)) ?_))))))
    refine dp 7 rfl (cX (Ht rfl)) (dp 8 rfl (cX (Ht rfl)) (bv 42 4 43 5 rfl (xG U_29 Z_51 (Ht rfl) (Ht rfl) rfl (i:=1) rfl (by rw [hlen]; omega) (by rw [hlen]; omega)) ?_))
    refine bv 41 3 44 6 rfl (sH (T:=ab Qi.zero) U_29 Z_51 (i:=1) rfl (Ht rfl) (Ht rfl)) (fG aA rfl (by kernel_rfl) (zF (zF (aV (ro rfl (dW (Ht rfl) (Ht rfl) (by show _ < 9223372036854775808; omega)) (ra rfl (eZ (aB (gQ (k + Nat.min k ((List.replicate m (ab Qi.zero)).length - k)) ⟨by omega,by omega⟩ zo (zS rfl) (br.refl _))))))))))
   ·refine gK rfl (ts (rm rfl (ra rfl (eZ ?_))))
    exact fo ⟨B30,hB30⟩ trivial [0,1] ⟨⟨_,rfl,fun _ _ _ h=>h⟩,⟨_,rfl,(ar (by rw [iC,jo]))⟩,trivial⟩ (by decide) (nt rfl (eY rfl))
end
section
open Go Go.RowKit
theorem xf {n : Nat} {E : aT} {H : Hp} {d : Option Tmp} {t : TypeId} {pos : String} {af : Array Edge} {g : Option (Nat × Bool)}  :
  ae Tryz.prog n E H ⟨d,.build 102 #[],t,pos,af,g⟩ (bB [Is (.int .i64 0),Is (.int .i64 0),Is (.int .i64 0)]) :=
 cB (parts := []) fun a V w hs => by
  refine ⟨.agg #[(.int .i64 0),(.int .i64 0),(.int .i64 0)],?_,[(.int .i64 0),(.int .i64 0),(.int .i64 0)],rfl,aW (⟨rfl,trivial⟩) (aW (⟨rfl,trivial⟩) (aW (⟨rfl,trivial⟩) (aG)))⟩
  simp [Instr.build,Instr.fill,Sem.run_bind,Result.andThen,ca,O_102,U_102,Z_2]
theorem oJ {n : Nat} {E : aT} {H : Hp} {d : Option Tmp} {t : TypeId} {pos : String} {af : Array Edge} {g : Option (Nat × Bool)} {x0 : Operand} {T0 : Ty} [s0 : bg T0 1 false] (h0 : ax E x0 T0) :
  ae Tryz.prog n E H ⟨d,.build 102 #[(0,x0)],t,pos,af,g⟩ (bB [T0,Is (.int .i64 0),Is (.int .i64 0)]) :=
 cB (parts := [(0, x0)]) fun a V w hs => by
  have p0:=h0 n V a hs
  generalize e0:a.eval x0 = v0 at p0
  have q0:=(s0.ok v0 V p0).2.2 rfl
  refine ⟨.agg #[v0,(.int .i64 0),(.int .i64 0)],?_,[v0,(.int .i64 0),(.int .i64 0)],rfl,aW (⟨p0,q0⟩) (aW (⟨rfl,trivial⟩) (aW (⟨rfl,trivial⟩) (aG)))⟩
  simp [e0,Instr.build,Instr.fill,Sem.run_bind,Result.andThen,ca,q0.cells,O_102,U_102,Z_2]
theorem mf {n : Nat} {E : aT} {H : Hp} {d : Option Tmp} {t : TypeId} {pos : String} {af : Array Edge} {g : Option (Nat × Bool)} {x0 x2 : Operand} {T0 T2 : Ty} [s0 : bg T0 1 false] (h0 : ax E x0 T0) [s2 : bg T2 1 false] (h2 : ax E x2 T2) :
  ae Tryz.prog n E H ⟨d,.build 102 #[(0,x0),(2,x2)],t,pos,af,g⟩ (bB [T0,Is (.int .i64 0),T2]) :=
 cB (parts := [(0, x0), (2, x2)]) fun a V w hs => by
  have p0:=h0 n V a hs
  generalize e0:a.eval x0 = v0 at p0
  have q0:=(s0.ok v0 V p0).2.2 rfl
  have p2:=h2 n V a hs
  generalize e2:a.eval x2 = v2 at p2
  have q2:=(s2.ok v2 V p2).2.2 rfl
  refine ⟨.agg #[v0,(.int .i64 0),v2],?_,[v0,(.int .i64 0),v2],rfl,aW (⟨p0,q0⟩) (aW (⟨rfl,trivial⟩) (aW (⟨p2,q2⟩) (aG)))⟩
  simp [e0,e2,Instr.build,Instr.fill,Sem.run_bind,Result.andThen,ca,q0.cells,q2.cells,O_102,U_102,Z_2]
end
section
open Go Go.RowKit
theorem Bs {z:List Qi} {i:Nat} (h:i < z.length):∀ v V,(bo [ab (xT z ((i + 1:Nat):Int)),aa .i64 (if 1 ≤ ((i + 1:Nat):Int) ∧ ((i + 1:Nat):Int) ≤ z.length then 0 else 1)]).p v V → (bo [ab (gv z i),aa .i64 0]).p v V:=by
 rw [show xT z ((i + 1:Nat):Int) = gv z i from pa h,if_pos zo]; exact fun _ _ h=>h
theorem DC {n:Nat} {s:List (List Qi)} {i j:Nat} (h:i < n) (k:j < n):∀ v V,(bo [ab (uU n s ((i + 1:Nat):Int) ((j + 1:Nat):Int)),aa .i64 (if (1 ≤ ((i + 1:Nat):Int) ∧ ((i + 1:Nat):Int) ≤ n) ∧ 1 ≤ ((j + 1:Nat):Int) ∧ ((j + 1:Nat):Int) ≤ n then 0 else 1)]).p v V → (bo [ab (gm s i j),aa .i64 0]).p v V:=by
 rw [show uU n s ((i + 1:Nat):Int) ((j + 1:Nat):Int) = gm s i j from na h k,if_pos zo]; exact fun _ _ h=>h
end
section
open Go Go.RowKit
theorem Qi.zero_div (y:Qi):Qi.zero / y = Qi.zero:=by rw [Qi.div_def,Qi.zero_mul']
end
section
open Go Go.RowKit
theorem oU {α:Type} {l:List α} {d:α} {k:Nat} (h:k < l.length):l.getD k d = l[k]:=by simp [List.getD,h]
theorem D3 {l m:List Qi} (h:l.length = m.length) (k:∀ i,i < l.length → gv l i = gv m i):l = m:=by
 apply List.ext_getElem h
 intro i h1 h2
 have:=k i h1
 simpa [gv,List.getD,h1,h2] using this
theorem yr {l m:List (List Qi)} (h:l.length = m.length) (k:∀ i,i < l.length → l.getD i [] = m.getD i []):l = m:=by
 apply List.ext_getElem h
 intro i h1 h2
 have:=k i h1
 simpa [List.getD,h1,h2] using this
theorem Dv {l m:List Qi} {i:Nat} (h:gv l i ≠ gv m i):l ≠ m:=fun e=>h (by rw [e])
theorem A9 {l m:List (List Qi)} {i:Nat} (h:l.getD i [] ≠ m.getD i []):l ≠ m:=fun e=>h (by rw [e])
def tg (z z':List Qi) (s s':List (List Qi)):Bool:=decide (z = z') && decide (s = s')
theorem ni (z:List Qi) (s:List (List Qi)):tg z z s s = true:=by simp [tg]
end
section
open Go Go.RowKit
theorem pN (v : Value) (w : World) : (method (Tryz.prog.types.size + Made.depth) 51 v "Same").run Tryz.prog w = .ok (139, v) w := by kernel_rfl
end
section
open Go Go.RowKit
theorem tY {l m:List Qi} {L:Nat} (hl:aP l L) (hm:aP m L) (hL:1 ≤ L) (h1:l.length ≤ 1000) (h2:m.length ≤ 1000):aw Tryz.prog 155 [av l,av m,mp Tryz.prog {x:Qi × Qi // an x.1 L ∧ an x.2 L} (fun x=>[ab x.1.1,ab x.1.2]) (fun x=>a9 (decide (x.1.1 = x.1.2)))] (a9 (decide (l = m))):=by
 refine aw.intro Tryz.func155 rfl Tryz.ntmps155 rfl (fun cx=>(ts (ro rfl (cQ cV) (eZ (cK (ts (rm rfl (ro rfl (dK U_29 (Ht rfl) a7) (rm rfl (ro rfl (dK U_29 (Ht rfl) a7) (ro rfl (db (Ht rfl) (Ht rfl)) (eZ (dQ (Ht rfl) (fun hb=>?_) (fun hb=>?_))))))))))))))
 ·have hn : ¬ l = m := fun e => by rw [e] at hb; simp at hb
  refine ts (ro rfl (cQ cV) (eZ (fK rfl (fJ (eY rfl) ?_))))
  exact (bL (decide_eq_false hn).symm)
 ·have he : l.length = m.length := by simpa using hb
  refine cU (cK (ts (rm rfl (ro rfl (dK U_29 (Ht rfl) a7) (ro rfl (cX (cJ 0)) (eZ (eK ?_)))))))
  refine b8 (fun (k : Nat) => k ≤ l.length ∧ ∀ i, i < k → gv l i = gv m i) (fun (k : Nat) => l.length - k) (fun (k : Nat) => [(0, av l), (1, av m), (2, mp Tryz.prog {x : Qi × Qi // an x.1 L ∧ an x.2 L} (fun x => [ab x.1.1, ab x.1.2]) (fun x => a9 (decide (x.1.1 = x.1.2)))), (15, av l), (16, NT .i64 l.length), (17, NT .i64 k)]) (fun (k : Nat) => []) 0 ⟨Nat.zero_le _, fun i h => by omega⟩
   (zS rfl) aY (fun k ⟨hk,hr⟩=>?_)
  refine ts (ro rfl (gV (Ht rfl) (Ht rfl)) (eZ (cK (dQ (Ht rfl) (fun hc=>?_) (fun hc=>?_)))))
  ·simp only [decide_eq_true_eq] at hc
   refine cU (cK (eK (ts (rm rfl (ro rfl (dZ U_29 Z_51 (Ht rfl) (Ht rfl) rfl (eQ (dY (d:=Qi.zero) zo))) (ro rfl (dV A_51 Z_51 (Ht rfl)) (rn rfl (eG (Ts:=[Is (.bool false),Is (.slice none 0 0),Is (.bool false),Is (.slice none 0 0),Is (.slice none 0 0)]) O_51 rfl (fun V=>aW zd (aW zd (aW zd (aW zd (aW zd (aG))))))) fun B8=>(ra rfl (gJ Z_51 (Ht rfl) (Ht rfl) rfl (i:=0) rfl (aK rfl) rfl rfl ?_)))))))))
   refine eZ (ts (rm rfl (rm rfl (ro rfl (dZ U_29 Z_51 (Ht rfl) (Ht rfl) rfl (eQ (dY (d:=Qi.zero) zo))) (ro rfl (dV A_51 Z_51 (Ht rfl)) (rn rfl (eG (Ts:=[Is (.bool false),Is (.slice none 0 0),Is (.bool false),Is (.slice none 0 0),Is (.slice none 0 0)]) O_51 rfl (fun V=>aW zd (aW zd (aW zd (aW zd (aW zd (aG))))))) fun B9=>(gJ Z_51 (Ht rfl) (Ht rfl) rfl (i:=1) rfl (aK rfl) rfl rfl ?_)))))))
   refine eZ (ts (rm rfl (ro rfl (eW A_51 Z_51 (Ht rfl) (i:=0) rfl rfl rfl) (ro rfl (eW A_51 Z_51 (Ht rfl) (i:=1) rfl rfl rfl) (ro rfl (i6 (⟨(gv l k,gv m k),hl.get hL k,hm.get hL k⟩:{x:Qi × Qi // an x.1 L ∧ an x.2 L}) (Ht rfl) ⟨(Ht rfl),(Ht rfl),trivial⟩) (ro rfl (bD (Ht rfl)) (eZ (dQ (Ht rfl) (fun hd=>?_) (fun hd=>?_)))))))))
   ·have hn : ¬ l = m := Dv (i := k) (by simpa using hd)
    refine ts (ro rfl (cQ cV) (eZ (fK rfl (fJ (eY rfl) ?_))))
    exact (bL (decide_eq_false hn).symm)
   ·have hq : gv l k = gv m k := by simpa using hd
    refine cU (aB (cY (ro rfl (dW (Ht rfl) (cJ 1) z6) (rm rfl (eZ (aD [] rfl (by decide) ?_))))))
    refine gQ (k + 1) ⟨hc, fun i h => by
     by_cases e:i = k
     ·rw [e]; exact hq
     ·exact hr i zo⟩ zo (zS rfl) aY
  ·simp only [decide_eq_false_iff_not] at hc
   refine gK rfl (ts (ro rfl (cQ cV) (eZ (fK rfl (fJ (eY rfl) ?_)))))
   exact (bL (decide_eq_true (D3 he (fun i h=>hr i zo))).symm)
theorem zK {l m:List (List Qi)} {L:Nat} (hl:aL l L) (hm:aL m L) (h3:∀ r,r ∈ l → r.length ≤ 1000) (h4:∀ r,r ∈ m → r.length ≤ 1000) (h1:l.length ≤ 1000) (h2:m.length ≤ 1000):aw Tryz.prog 153 [bp l,bp m,mp Tryz.prog {x:List Qi × List Qi // (aP x.1 L ∧ x.1.length ≤ 1000) ∧ aP x.2 L ∧ x.2.length ≤ 1000} (fun x=>[av x.1.1,av x.1.2]) (fun x=>a9 (decide (x.1.1 = x.1.2)))] (a9 (decide (l = m))):=by
 refine aw.intro Tryz.func153 rfl Tryz.ntmps153 rfl (fun cx=>(ts (ro rfl (cQ cV) (eZ (cK (ts (rm rfl (ro rfl (dK U_30 (Ht rfl) a7) (rm rfl (ro rfl (dK U_30 (Ht rfl) a7) (ro rfl (db (Ht rfl) (Ht rfl)) (eZ (dQ (Ht rfl) (fun hb=>?_) (fun hb=>?_))))))))))))))
 ·have hn : ¬ l = m := fun e => by rw [e] at hb; simp at hb
  refine ts (ro rfl (cQ cV) (eZ (fK rfl (fJ (eY rfl) ?_))))
  exact (bL (decide_eq_false hn).symm)
 ·have he : l.length = m.length := by simpa using hb
  refine cU (cK (ts (rm rfl (ro rfl (dK U_30 (Ht rfl) a7) (ro rfl (cX (cJ 0)) (eZ (eK ?_)))))))
  refine b8 (fun (k : Nat) => k ≤ l.length ∧ ∀ i, i < k → l.getD i [] = m.getD i []) (fun (k : Nat) => l.length - k) (fun (k : Nat) => [(0, bp l), (1, bp m), (2, mp Tryz.prog {x : List Qi × List Qi // (aP x.1 L ∧ x.1.length ≤ 1000) ∧ aP x.2 L ∧ x.2.length ≤ 1000} (fun x => [av x.1.1, av x.1.2]) (fun x => a9 (decide (x.1.1 = x.1.2)))), (15, bp l), (16, NT .i64 l.length), (17, NT .i64 k)]) (fun (k : Nat) => []) 0 ⟨Nat.zero_le _, fun i h => by omega⟩
   (zS rfl) aY (fun k ⟨hk,hr⟩=>?_)
  refine ts (ro rfl (gV (Ht rfl) (Ht rfl)) (eZ (cK (dQ (Ht rfl) (fun hc=>?_) (fun hc=>?_)))))
  ·simp only [decide_eq_true_eq] at hc
   refine cU (cK (eK (ts (rm rfl (ro rfl (dZ U_30 Z_29 (Ht rfl) (Ht rfl) rfl (eQ (dY (d:=[]) hc))) (ro rfl (dV A_29 Z_29 (Ht rfl)) (ra rfl (ra rfl (eZ (ts (rm rfl (rm rfl (ro rfl (dZ U_30 Z_29 (Ht rfl) (Ht rfl) rfl (eQ (dY (d:=[]) zo))) (ro rfl (dV A_29 Z_29 (Ht rfl)) (ra rfl (eZ (ts (rm rfl (rm rfl (rm rfl (ro rfl (i6 (⟨(l.getD k [],m.getD k []),⟨hl.row k,by rw [oU hc]; exact h3 _ (List.getElem_mem hc)⟩,hm.row k,by rw [oU (by omega:k < m.length)]; exact h4 _ (List.getElem_mem _)⟩:{x:List Qi × List Qi // (aP x.1 L ∧ x.1.length ≤ 1000) ∧ aP x.2 L ∧ x.2.length ≤ 1000}) (Ht rfl) ⟨(Ht rfl),(Ht rfl),trivial⟩) ?_)))))))))))))))))))))
   refine ro rfl (bD (Ht rfl)) (eZ (dQ (Ht rfl) (fun hd=>?_) (fun hd=>?_)))
   ·have hn : ¬ l = m := A9 (i := k) (by simpa using hd)
    refine ts (ro rfl (cQ cV) (eZ (fK rfl (fJ (eY rfl) ?_))))
    exact (bL (decide_eq_false hn).symm)
   ·have hq : l.getD k [] = m.getD k [] := by simpa using hd
    refine cU (aB (cY (ro rfl (dW (Ht rfl) (cJ 1) z6) (rm rfl (eZ ?_)))))
    refine gQ (k + 1) ⟨hc, fun i h => by
     by_cases e:i = k
     ·rw [e]; exact hq
     ·exact hr i zo⟩ zo (zS rfl) aY
  ·simp only [decide_eq_false_iff_not] at hc
   refine gK rfl (ts (ro rfl (cQ cV) (eZ (fK rfl (fJ (eY rfl) ?_)))))
   exact (bL (decide_eq_true (yr he (fun i h=>hr i zo))).symm)
theorem xd {x y:Qi} {L:Nat} [hx:an x L] [hy:an y L] (h:L ≤ 8796093022208):aw Tryz.prog 203 [ab x,ab y] (a9 (decide (x = y))):=by
 refine aw.intro Tryz.func203 rfl Tryz.ntmps203 rfl (fun cx=>(ts (rn rfl (fU (Ht rfl)) fun B2=>(rn rfl (fU (Ht rfl)) fun B3=>(ro rfl (cQ cV) (eZ (ts (ro rfl (eW A_51 Z_51 (Ht rfl) (i:=0) rfl rfl rfl) (ro rfl (ay aF (Ht rfl)) (ro rfl (eW A_51 Z_51 (Ht rfl) (i:=1) rfl rfl rfl) (ro rfl (ap pN Tryz.call139 (pL zo zo) (Ht rfl) ⟨(Ht rfl),trivial⟩) (ra rfl (eZ ?_)))))))))))))
 exact fK rfl (eY rfl)
theorem vE {l m:List Qi} {L:Nat} (hl:aP l L) (hm:aP m L) (hL:1 ≤ L) (h1:l.length ≤ 1000) (h2:m.length ≤ 1000):aw Tryz.prog 204 [av l,av m,PT (mp Tryz.prog {x:Qi × Qi // an x.1 L ∧ an x.2 L} (fun x=>[ab x.1.1,ab x.1.2]) (fun x=>a9 (decide (x.1.1 = x.1.2))))] (a9 (decide (l = m))):=by
 refine aw.intro Tryz.func204 rfl Tryz.ntmps204 rfl (fun cx=>(ts (ro rfl (cQ cV) (eZ (ts (rm rfl (rm rfl (ro rfl (dV Tryz.isAgg205 Tryz.sizeOf205 (Ht rfl)) (ro rfl (cZ Tryz.call155 (tY hl hm hL h1 h2) ⟨(Ht rfl),(Ht rfl),(Ht rfl),trivial⟩) (ra rfl (eZ ?_)))))))))))
 exact fK rfl (eY rfl)
theorem sq {z z':List Qi} {s s':List (List Qi)} {L:Nat} (hz:aP z L) (hz2:aP z' L) (hs:aL s L) (hs2:aL s' L) (hL:1 ≤ L) (h:L ≤ 8796093022208) (hsh:bM s z.length z.length) (hsh2:bM s' z'.length z'.length) (hl:z.length ≤ 1000) (hl2:z'.length ≤ 1000):aw Tryz.prog 113 [aM z s,aM z' s'] (a9 (tg z z' s s')):=by
 have e1:∀ r,r ∈ s → r.length ≤ 1000:=fun r hr=>by rw [hsh.2 r hr]; exact hl
 have e2:∀ r,r ∈ s' → r.length ≤ 1000:=fun r hr=>by rw [hsh2.2 r hr]; exact hl2
 have e3:s.length ≤ 1000:=by rw [hsh.1]; exact hl
 have e4:s'.length ≤ 1000:=by rw [hsh2.1]; exact hl2
 refine aw.intro Tryz.func113 rfl Tryz.ntmps113 rfl (fun cx=>(ts (rn rfl (fU (Ht rfl)) fun B2=>(rn rfl (fU (Ht rfl)) fun B3=>(ro rfl (cQ cV) (eZ (ts (rn rfl (eG (Ts:=[Is (.nilFunc)]) Tryz.zeroValue205 rfl (fun V=>aW zd (aG))) fun B5=>(dI Tryz.sizeOf205 (Ht rfl) (ax.fn Tryz.call203 (γ:={x:Qi × Qi // an x.1 L ∧ an x.2 L}) (Ts:=fun x=>[ab x.1.1,ab x.1.2]) (U:=fun x=>a9 (decide (x.1.1 = x.1.2))) (fun x=>haveI:=x.2.1; haveI:=x.2.2; xd (L:=L) h)) (i:=2) rfl (aK rfl) rfl ?_)))))))))
 refine eZ (cK (gG (i:=2) (tt:=5) rfl rfl cC (cY (ro rfl (fm (γ:={x:List Qi × List Qi // (aP x.1 L ∧ x.1.length ≤ 1000) ∧ aP x.2 L ∧ x.2.length ≤ 1000}) (Ts:=fun x=>[av x.1.1,av x.1.2]) (U:=fun x=>a9 (decide (x.1.1 = x.1.2))) Tryz.call204 (fun x=>vE x.2.1.1 x.2.2.1 hL x.2.1.2 x.2.2.2) ⟨(Ht rfl),trivial⟩) (ra rfl (eZ (ts (ro rfl (eJ bH (Ht rfl) rfl) (ro rfl (fQ A_29 Z_29 (Ht rfl) (i:=0) rfl rfl) (ro rfl (eJ bH (Ht rfl) rfl) (ro rfl (fQ A_29 Z_29 (Ht rfl) (i:=1) rfl rfl) ?_)))))))))))
 refine ro rfl (cZ Tryz.call155 (tY hz hz2 hL hl hl2) ⟨(Ht rfl),(Ht rfl),(ax.fn Tryz.call139 (γ:={x:Qi × Qi // an x.1 L ∧ an x.2 L}) (Ts:=fun x=>[ab x.1.1,ab x.1.2]) (U:=fun x=>a9 (decide (x.1.1 = x.1.2))) (fun x=>haveI:=x.2.1; haveI:=x.2.2; pL (L:=L) (M:=L) zo zo)),trivial⟩) (rm rfl (fX rfl rfl (eU rfl rfl (Ht rfl) (fun h=>eJ bn (Ht rfl) rfl)) (fX rfl rfl (eU rfl rfl (Ht rfl) (fun h=>fQ A_30 Z_30 (fW rfl h) (i:=0) rfl rfl)) (fX rfl rfl (eU rfl rfl (Ht rfl) (fun h=>eJ bn (Ht rfl) rfl)) ?_))))
 refine fX rfl rfl (eU rfl rfl (Ht rfl) (fun h=>fQ A_30 Z_30 (fW rfl h) (i:=1) rfl rfl)) (fX rfl rfl (eU rfl rfl (Ht rfl) (fun h=>cX (Ht rfl))) (fX rfl rfl (eU rfl rfl (Ht rfl) (fun h=>cZ Tryz.call153 (zK hs hs2 e1 e2 e3 e4) ⟨(fW rfl h),(fW rfl h),(fW rfl h),trivial⟩)) (ro rfl (bx (Ht rfl) (fun h=>(fW rfl h))) (ra rfl (eZ (fK rfl (fJ (eY rfl) ?_)))))))
 exact (bL rfl)
end
section
open Go Go.RowKit
namespace Qi
theorem xe {x:Qi}:0 ≤ x.a ↔ 0 ≤ x.re:=by
 have hk:0 < x.den / x.re.den:=Nat.div_pos (Nat.le_of_dvd x.den_pos (Nat.dvd_lcm_left _ _)) x.re.den_pos
 rw [← Rat.num_nonneg]
 show 0 ≤ x.re.num * ((x.den / x.re.den:Nat):Int) ↔ _
 generalize x.den / x.re.den = k at hk
 constructor
 ·intro h
  exact Int.nonneg_of_mul_nonneg_left h zo
 ·intro h; exact Int.mul_nonneg h zo
theorem a_pos {x:Qi}:0 < x.a ↔ 0 < x.re:=by
 have h1:=@xe x; have h2:=@rH x
 constructor
 ·intro h
  have h3:0 ≤ x.re:=h1.1 zo
  have h4:x.re ≠ 0:=fun e=>by have:=h2.2 e; omega
  exact Rat.lt_of_le_of_ne h3 (Ne.symm h4)
 ·intro h
  have h3:0 ≤ x.a:=h1.2 (by grind)
  have h4:x.a ≠ 0:=fun e=>by have:=h2.1 e; grind
  omega
end Qi
def dL (f : Nat → Int) : Nat → Int
 | 0=>0
 | n + 1=>if dL f n ≠ 0 then dL f n else f n
theorem iN {f:Nat → Int} {k:Nat} (h:∀ i,i < k → f i = 0) (hk:f k ≠ 0):∀ {n:Nat},k < n → dL f n = f k:=by
 have hz : dL f k = 0 := by
  clear hk
  induction k with
  | zero=>rfl
  | succ k ih=>rw [dL,ih (fun i hi=>h i zo),if_neg (by simp),h k zo]
 intro n
 induction n with
 | zero=>intro h; omega
 | succ n ih =>
  intro hn
  by_cases e:n = k
  ·rw [e,dL,hz,if_neg (by simp)]
  ·rw [dL,ih zo,if_pos hk]
theorem d8 {f : Nat → Int} : ∀ {n : Nat}, (∀ i, i < n → f i = 0) → dL f n = 0
 | 0,_=>rfl
 | n + 1,h=>by rw [dL,d8 (fun i hi=>h i zo),if_neg (by simp),h n zo]
theorem dw {f : Nat → Int} : ∀ {n : Nat}, dL f n = 0 → ∀ i, i < n → f i = 0
 | 0,_,i,hi=>by omega
 | n + 1, h, i, hi => by
  rw [dL] at h
  split at h
  ·rename_i c; exact absurd h c
  ·rename_i c
   by_cases e:i = n
   ·rw [e]; exact h
   ·exact dw (Decidable.not_not.1 c) i zo
abbrev eF (l:List (Qi × Qi)) (i:Nat):Qi:=(l.getD i (Qi.zero,Qi.zero)).1
abbrev eV (l:List (Qi × Qi)) (i:Nat):Qi:=(l.getD i (Qi.zero,Qi.zero)).2
structure AJ (l:List (Qi × Qi)) (f:Qi):Prop where
 real:∀ i,i < l.length → (eF l i).b = 0 ∧ (eV l i).b = 0
 up:∀ i,0 < i → i < l.length → (eF l (i - 1)).re < (eF l i).re
 fr:f.b = 0
theorem AJ.mono {l : List (Qi × Qi)} {f : Qi} (h : AJ l f) {i : Nat} : ∀ {j : Nat}, i < j → j < l.length → (eF l i).re < (eF l j).re
 | 0,h1,_=>by omega
 | j + 1, h1, h2 => by
  have h3:=h.up (j + 1) zo h2
  rw [Nat.add_sub_cancel] at h3
  by_cases e:i = j
  ·rw [e]; exact h3
  ·have := h.mono (i := i) (j := j) zo zo
   grind
def CY (l:List (Qi × Qi)) (L:Nat):Prop:=∀ e,e ∈ l → an e.1 L ∧ an e.2 L
theorem CY.get {l:List (Qi × Qi)} {L:Nat} (h:CY l L) (hL:1 ≤ L) (i:Nat):an (eF l i) L ∧ an (eV l i) L:=by
 by_cases hi:i < l.length
 ·have e : l.getD i (Qi.zero, Qi.zero) = l[i] := by simp [List.getD, hi]
  show an (l.getD i _).1 L ∧ an (l.getD i _).2 L
  rw [e]; exact h _ (List.getElem_mem hi)
 ·have e : l.getD i (Qi.zero, Qi.zero) = (Qi.zero, Qi.zero) := by simp [List.getD, List.getElem?_eq_none (Nat.le_of_not_lt hi)]
  show an (l.getD i _).1 L ∧ an (l.getD i _).2 L
  rw [e]; exact ⟨an.zero hL,an.zero hL⟩
end
section
open Go Go.RowKit
abbrev c7 (M:List (List Qi)) (i:Nat):List Qi:=M.getD i []
def v8 (M : List (List Qi)) (c n : Nat) : Nat → Nat
 | 0=>n
 | k + 1=>if gm M (n - (k + 1)) c = Qi.zero then v8 M c n k else n - (k + 1)
def pv (M:List (List Qi)) (c n:Nat):Nat:=v8 M c n (n - c)
theorem qW {M : List (List Qi)} {c n : Nat} : ∀ {k : Nat}, k ≤ n → (∀ r, n - k ≤ r → r < v8 M c n k → gm M r c = Qi.zero) ∧ n - k ≤ v8 M c n k ∧ v8 M c n k ≤ n ∧ (v8 M c n k < n → gm M (v8 M c n k) c ≠ Qi.zero)
 | 0,_=>⟨fun r h1 h2=>by simp [v8] at h2; omega,by simp [v8],by simp [v8],fun h=>by simp [v8] at h⟩
 | k + 1, hk => by
  obtain ⟨i1,i2,i3,i4⟩:=qW (M:=M) (c:=c) (n:=n) (k:=k) zo
  unfold v8
  by_cases e:gm M (n - (k + 1)) c = Qi.zero
  ·rw [if_pos e]
   refine ⟨fun r h1 h2=>?_,by omega,i3,i4⟩
   by_cases e2:r = n - (k + 1)
   ·rw [e2]; exact e
   ·exact i1 r zo h2
  ·rw [if_neg e]
   exact ⟨fun r h1 h2=>by omega,Nat.le_refl _,by omega,fun _=>e⟩
theorem j6 {M:List (List Qi)} {c n:Nat} (hc:c ≤ n):(∀ r,c ≤ r → r < pv M c n → gm M r c = Qi.zero) ∧ c ≤ pv M c n ∧ pv M c n ≤ n ∧ (pv M c n < n → gm M (pv M c n) c ≠ Qi.zero):=by
 have h:=qW (M:=M) (c:=c) (n:=n) (k:=n - c) zo
 rw [show n - (n - c) = c by omega] at h
 exact h
theorem DM {M:List (List Qi)} {c n p:Nat} (hc:c ≤ p) (hp:p ≤ n) (h1:∀ r,c ≤ r → r < p → gm M r c = Qi.zero) (h2:p < n → gm M p c ≠ Qi.zero):pv M c n = p:=by
 obtain ⟨i1,i2,i3,i4⟩:=j6 (M:=M) (n:=n) (show c ≤ n by omega)
 rcases Nat.lt_trichotomy (pv M c n) p with h | h | h
 ·exact absurd (h1 _ i2 h) (i4 zo)
 ·exact h
 ·exact absurd (i1 p hc h) (h2 zo)
def eR (rr rc:List Qi) (c k:Nat):List Qi:=tab rr.length fun j=>if c < j ∧ j < k then gv rr j - gv rr c / gv rc c * gv rc j else gv rr j
def fA (M:List (List Qi)) (c r:Nat):List (List Qi):=tab M.length fun i=>if c < i ∧ i < r then eR (c7 M i) (c7 M c) c (c7 M i).length else c7 M i
def b5 (M : List (List Qi)) : Nat → List (List Qi) × Nat × Int
 | 0=>(M,0,-1)
 | c + 1 =>
  let s:=b5 M c
  if 0 ≤ s.2.2 then s else
  if pv s.1 c M.length = M.length then (s.1,s.2.1,(c:Int)) else
  (fA (if pv s.1 c M.length = c then s.1 else swp [] s.1 (pv s.1 c M.length) c) c M.length,s.2.1 + (if pv s.1 c M.length = c then 0 else 1),-1)
theorem oD {M : List (List Qi)} {c : Nat} (h : 0 ≤ (b5 M c).2.2) : ∀ {d : Nat}, c ≤ d → b5 M d = b5 M c
 | 0,hd=>by rw [show c = 0 by omega]
 | d + 1, hd => by
  by_cases e:c = d + 1
  ·rw [e]
  ·have := oD h (d := d) zo
   simp only [b5,this]
   rw [if_pos h]
theorem jr (M:List (List Qi)) (c r:Nat):(fA M c r).length = M.length:=ao _ _
theorem qm {M:List (List Qi)} {n m c r:Nat} (h:bM M n m):bM (fA M c r) n m:=by
 refine ⟨(jr _ _ _).trans h.1,fun x hx=>?_⟩
 obtain ⟨i,hi,rfl⟩:=dt.1 hx
 have hr:=h.row (i:=i) (by rw [← h.1]; exact hi)
 show (if c < i ∧ i < r then eR (c7 M i) (c7 M c) c (c7 M i).length else c7 M i).length = m
 split
 ·rw [eR,ao]; exact hr
 ·exact hr
theorem mG {M:List (List Qi)} {n m p c:Nat} (h:bM M n m) (hp:p < n) (hc:c < n):bM (swp [] M p c) n m:=by
 refine ⟨(pb _ _ _ _).trans h.1,fun x hx=>?_⟩
 unfold swp at hx
 rcases List.mem_or_eq_of_mem_set hx with h1 | h1
 ·rcases List.mem_or_eq_of_mem_set h1 with h2 | h2
  ·exact h.2 x h2
  ·rw [h2]; exact h.row hc
 ·rw [h1]; exact h.row hp
theorem iS {M : List (List Qi)} {n m : Nat} (h : bM M n m) : ∀ {c : Nat}, c ≤ n → bM (b5 M c).1 n m
 | 0,_=>h
 | c + 1, hc => by
  have ih:=iS h (c:=c) zo
  obtain ⟨_,_,i3,_⟩:=j6 (M:=(b5 M c).1) (c:=c) (n:=M.length) (by rw [h.1]; omega)
  simp only [b5]
  split
  ·exact ih
  ·split
   ·exact ih
   ·rename_i e
    apply qm
    split
    ·exact ih
    ·exact mG ih (by rw [← h.1]; omega) zo
def bh (L : Nat) : Nat → Nat
 | 0=>L
 | c + 1=>6 * bh L c + 4
theorem iU (L : Nat) : ∀ {c d : Nat}, c ≤ d → bh L c ≤ bh L d
 | c,0,h=>by rw [show c = 0 by omega]; exact Nat.le_refl _
 | c, d + 1, h => by
  by_cases e:c = d + 1
  ·rw [e]; exact Nat.le_refl _
  ·have := iU L (c := c) (d := d) zo
   simp only [bh]; omega
theorem jZ (L c:Nat):L ≤ bh L c:=iU L (Nat.zero_le c)
theorem zg {rr rc:List Qi} {L c j:Nat} (h1:aP rr L) (h2:aP rc L) (hL:1 ≤ L) (hp:gv rc c ≠ Qi.zero):an (gv rr j - gv rr c / gv rc c * gv rc j) (6 * L + 4):=by
 haveI f1:=h1.get hL j; haveI f2:=h1.get hL c; haveI f3:=h2.get hL c; haveI f4:=h2.get hL j
 haveI g:an (gv rr c / gv rc c) (L + 3 * L + 2):=⟨f2.fit.div f3.fit hp⟩
 have:an (gv rr j - gv rr c / gv rc c * gv rc j) (L + (L + 3 * L + 2 + L + 1) + 1):=inferInstance
 exact this.le zo
theorem vu {rr rc : List Qi} {L c k : Nat} (h1 : aP rr L) (h2 : aP rc L) (hL : 1 ≤ L) (hp : gv rc c ≠ Qi.zero) : aP (eR rr rc c k) (6 * L + 4) := aP.tab fun j _ => by
 split
 ·exact zg h1 h2 hL hp
 ·exact (h1.get hL j).le zo
theorem r7 {M : List (List Qi)} {L c r : Nat} (h : aL M L) (hL : 1 ≤ L) (hp : gm M c c ≠ Qi.zero) : aL (fA M c r) (6 * L + 4) := fun x hx => by
 obtain ⟨i,hi,rfl⟩:=dt.1 hx
 show aP (if c < i ∧ i < r then eR (c7 M i) (c7 M c) c (c7 M i).length else c7 M i) _
 split
 ·exact vu (h.row i) (h.row c) hL hp
 ·exact (h.row i).le zo
theorem tu {M : List (List Qi)} {L p c : Nat} (h : aL M L) : aL (swp [] M p c) L := fun x hx => by
 unfold swp at hx
 rcases List.mem_or_eq_of_mem_set hx with h1 | h1
 ·rcases List.mem_or_eq_of_mem_set h1 with h2 | h2
  ·exact h x h2
  ·rw [h2]; exact h.row c
 ·rw [h1]; exact h.row p
theorem pF {M:List (List Qi)} {p c:Nat} (hc:c < M.length):c7 (swp [] M p c) c = c7 M p:=by
 simp [c7,swp,List.getD,hc]
theorem nK {M : List (List Qi)} {n m L : Nat} (hs : bM M n m) (h : aL M L) (hL : 1 ≤ L) : ∀ {c : Nat}, c ≤ n → aL (b5 M c).1 (bh L c)
 | 0,_=>h
 | c + 1, hc => by
  have ih:=nK hs h hL (c:=c) zo
  have hg:1 ≤ bh L c:=Nat.le_trans hL (jZ L c)
  have sh:=iS hs (c:=c) zo
  obtain ⟨_,i2,i3,i4⟩:=j6 (M:=(b5 M c).1) (c:=c) (n:=M.length) (by rw [hs.1]; omega)
  simp only [b5,bh]
  split
  ·exact ih.le zo
  ·split
   ·exact ih.le zo
   ·rename_i e
    split
    ·rename_i e2
     refine r7 ih hg ?_
     have:=i4 zo
     rw [e2] at this; exact this
    ·refine r7 (tu ih) hg ?_
     show gv (c7 (swp [] _ _ c) c) c ≠ _
     rw [pF (by rw [sh.1]; omega)]
     exact i4 zo
theorem so {rr rc:List Qi} {c:Nat}:rr = eR rr rc c (c + 1):=by
 unfold eR
 have:(tab rr.length fun j=>if c < j ∧ j < c + 1 then gv rr j - gv rr c / gv rc c * gv rc j else gv rr j) = tab rr.length (gv rr):=ba fun j _=>by rw [if_neg zo]
 rw [this]; exact qq rfl
theorem lu (rr rc:List Qi) (c k:Nat):(eR rr rc c k).length = rr.length:=ao _ _
theorem rk {rr rc:List Qi} {c k:Nat} (hk:k < rr.length) (h:c < k):gv (eR rr rc c k) k = gv rr k:=by
 rw [eR,iy hk,if_neg zo]
theorem u6 {rr rc:List Qi} {c k:Nat} (hk:k < rr.length) (h:c < k):(eR rr rc c k).set k (gv (eR rr rc c k) k - gv rr c / gv rc c * gv rc k) = eR rr rc c (k + 1):=by
 rw [rk hk h]
 apply List.ext_getElem?
 intro j
 by_cases hj:j < rr.length
 ·by_cases e : j = k
  ·subst e
   rw [List.getElem?_set_self (by rw [lu]; exact hj),eR,aS hj,if_pos zo]
  ·rw [List.getElem?_set_ne (Ne.symm e), eR, eR, aS hj, aS hj]
   by_cases e2:c < j ∧ j < k
   ·rw [if_pos e2,if_pos zo]
   ·rw [if_neg e2,if_neg zo]
 ·rw [List.getElem?_eq_none (by rw [List.length_set,lu]; omega),List.getElem?_eq_none (by rw [lu]; omega)]
theorem sC {M:List (List Qi)} {c:Nat}:M = fA M c (c + 1):=by
 unfold fA
 have:(tab M.length fun i=>if c < i ∧ i < c + 1 then eR (c7 M i) (c7 M c) c (c7 M i).length else c7 M i) = tab M.length (c7 M):=ba fun i _=>by rw [if_neg zo]
 rw [this]; exact nx (h:=rfl)
theorem la {M:List (List Qi)} {c r i:Nat} (hi:i < M.length) (h:¬ (c < i ∧ i < r)):c7 (fA M c r) i = c7 M i:=by
 simp only [c7,fA,List.getD]
 rw [aS hi,if_neg h]; rfl
theorem uD {M:List (List Qi)} {c r:Nat} (hr:r < M.length) (h:c < r):(fA M c r).set r (eR (c7 M r) (c7 M c) c (c7 M r).length) = fA M c (r + 1):=by
 apply List.ext_getElem?
 intro j
 by_cases hj:j < M.length
 ·by_cases e : j = r
  ·subst e
   rw [List.getElem?_set_self (by rw [jr]; exact hj),fA,aS hj,if_pos zo]
  ·rw [List.getElem?_set_ne (Ne.symm e), fA, fA, aS hj, aS hj]
   by_cases e2:c < j ∧ j < r
   ·rw [if_pos e2,if_pos zo]
   ·rw [if_neg e2,if_neg zo]
 ·rw [List.getElem?_eq_none (by rw [List.length_set,jr]; omega),List.getElem?_eq_none (by rw [jr]; omega)]
theorem vT {M:List (List Qi)} {r:Nat} {x y:List Qi}:(M.set r x).set r y = M.set r y:=List.set_set ..
theorem pt {M:List (List Qi)} {r:Nat} {x:List Qi} (h:r < M.length):c7 (M.set r x) r = x:=by simp [c7,List.getD,h]
theorem lW {M:List (List Qi)} {r i:Nat} {x:List Qi} (h:r ≠ i):c7 (M.set r x) i = c7 M i:=by simp [c7,List.getD,List.getElem?_set_ne h]
theorem C6 {M:List (List Qi)} {r:Nat} (h:r < M.length):M.set r (c7 M r) = M:=by
 apply List.ext_getElem?
 intro j
 by_cases e:j = r
 ·subst e; rw [List.getElem?_set_self h]; simp [c7,List.getD,h]
 ·rw [List.getElem?_set_ne (Ne.symm e)]
theorem vh {X : List (List Qi)} {r c k : Nat} (hr : r < X.length) (hne : r ≠ c) (hk : k < (c7 X r).length) (hck : c < k) :
  (X.set r (eR (c7 X r) (c7 X c) c k)).set r ((c7 (X.set r (eR (c7 X r) (c7 X c) c k)) r).set k (gm (X.set r (eR (c7 X r) (c7 X c) c k)) r k - gm X r c / gm X c c * gm (X.set r (eR (c7 X r) (c7 X c) c k)) c k)) = X.set r (eR (c7 X r) (c7 X c) c (k + 1)):=by
 rw [vT,pt hr]
 have e1:gm (X.set r (eR (c7 X r) (c7 X c) c k)) r k = gv (eR (c7 X r) (c7 X c) c k) k:=by show gv (c7 (X.set r _) r) k = _; rw [pt hr]
 have e2:gm (X.set r (eR (c7 X r) (c7 X c) c k)) c k = gv (c7 X c) k:=by show gv (c7 (X.set r _) c) k = _; rw [lW hne]
 rw [e1,e2]
 exact congrArg _ (u6 hk hck)
theorem wX {D:List (List Qi)} {r c:Nat} (hr:r < D.length) (hc:c < r):(fA D c r).set r (eR (c7 (fA D c r) r) (c7 (fA D c r) c) c (c7 D r).length) = fA D c (r + 1):=by
 rw [la hr zo,la zo zo]
 exact uD hr hc
theorem DI {X:List (List Qi)} {r c k:Nat} (hr:r < X.length) (hk:k < (c7 X r).length) (hck:c < k):gm (X.set r (eR (c7 X r) (c7 X c) c k)) r k = gv (c7 X r) k:=by
 show gv (c7 (X.set r _) r) k = _; rw [pt hr,rk hk hck]
theorem Dt {X:List (List Qi)} {r c k:Nat} {y:List Qi} (hne:r ≠ c):gm (X.set r y) c k = gv (c7 X c) k:=by show gv (c7 (X.set r _) c) k = _; rw [lW hne]
theorem uc {M A:List (List Qi)} {n c sw p:Nat} (hl:M.length = n) (h:b5 M c = (A,sw,-1)) (hp:pv A c n = p) (hpn:p < n):b5 M (c + 1) = (fA (if p = c then A else swp [] A p c) c n,sw + (if p = c then 0 else 1),-1):=by
 simp only [b5,h,hl,hp]
 rw [if_neg (by decide),if_neg zo]
theorem xo {M A:List (List Qi)} {n c sw:Nat} (hl:M.length = n) (h:b5 M c = (A,sw,-1)) (hp:pv A c n = n) (hc:c < n):b5 M n = (A,sw,(c:Int)):=by
 have e : b5 M (c + 1) = (A, sw, (c : Int)) := by
  simp only [b5,h,hl,hp]
  rw [if_neg (by decide)]; simp
 rw [oD (c:=c + 1) (by rw [e]; show (0:Int) ≤ (c:Int); omega) hc,e]
end
section
open Go Go.RowKit
theorem iz (v : Value) (w : World) : (method (Tryz.prog.types.size + Made.depth) 51 v "Clear").run Tryz.prog w = .ok (27, v) w := by kernel_rfl
end
end Go.Proofs.YteohomnhncjcnaaGreat
