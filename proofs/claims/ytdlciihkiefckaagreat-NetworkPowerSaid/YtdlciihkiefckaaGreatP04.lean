/- What functions of the program compute, proved by walks over their code, and the plain mathematics of it; a part of the proof in the last text. -/
import Derived.Test.YtdlciihkiefckaaGreatP03
set_option linter.unusedVariables false
set_option linter.unusedSimpArgs false
set_option maxRecDepth 100000
set_option maxHeartbeats 4000000
namespace Go.Proofs.YtdlciihkiefckaaGreat
section
open Go Go.RowKit
theorem Pv {y:Qi}:aP Tryz.prog 304 [fI [Is (.bool false),Is (.slice none 0 0),Is (.bool false),Is (.slice none 0 0),Is (.slice none 0 0)],bA y] (bA y):=by
 refine aP.intro Tryz.func304 rfl Tryz.ntmps304 rfl (fun cx=>(ts (rn rfl (fU (Ht rfl)) fun B2=>(rn rfl (fU (Ht rfl)) fun B3=>(rn rfl (eK (Ts:=[Is (.bool false),Is (.slice none 0 0),Is (.bool false),Is (.slice none 0 0),Is (.slice none 0 0)]) O_60 rfl (fun V=>aW zd (aW zd (aW zd (aW zd (aW zd (aG))))))) fun B4=>(eJ (ts (ro rfl (eG A_60 Z_60 (Ht rfl) (i:=1) rfl rfl rfl) (gZ Z_60 (Ht rfl) (Ht rfl) rfl (i:=2) rfl (aK rfl) rfl rfl ?_)))))))))
 refine eJ ?_
 exact fK rfl (fY A_60 Z_60 rfl (i:=2) rfl rfl)
theorem Ip {r:List Qi} {k:Nat}:aP Tryz.prog 261 [cE r,PT (NT .i64 k)] (aC (!decide (r.length = k))):=by
 refine aP.intro Tryz.func261 rfl Tryz.ntmps261 rfl (fun cx=>(ts (ro rfl (cQ cV) (eJ (ts (rm rfl (ro rfl (dU U_25 (Ht rfl) aA) (ro rfl (dJ A_3 Z_3 (Ht rfl)) (ro rfl (iQ (Ht rfl) (Ht rfl)) (ra rfl (eJ ?_)))))))))))
 exact fK rfl (fQ rfl)
theorem Io  : aP Tryz.prog 226 [fB []] (fR [NT .i64 0,aC true]):=by
 refine aP.intro Tryz.func226 rfl Tryz.ntmps226 rfl (fun cx=>(ts (ro rfl (cQ (cJ 0)) (ro rfl (cQ cV) (eJ (cK (ts (rm rfl (ro rfl (dU U_26 (Ht rfl) aA) (ro rfl (cA (Ht rfl) (cJ 0)) (eJ (wY (Ht rfl) (by rfl) ?_))))))))))))
 refine ts (ro rfl (cQ (cJ 0)) (ro rfl (cQ cV) (eJ ?_)))
 exact cB rfl (fQ rfl) (fQ rfl)
theorem Mv {a:List (List Qi)} {n k:Nat} (h:eR a n k) (h1:1 ≤ n) (hn:n ≤ 32) (hk:k ≤ 32):aP Tryz.prog 226 [fB a] (fR [NT .i64 k,aC true]):=by
 obtain ⟨rfl,h2⟩:=h
 have hr0:(a.getD 0 []).length = k:=eR.row ⟨rfl,h2⟩ zo
 refine aP.intro Tryz.func226 rfl Tryz.ntmps226 rfl (fun cx=>(ts (ro rfl (cQ (cJ 0)) (ro rfl (cQ cV) (eJ (cK (ts (rm rfl (ro rfl (dU U_26 (Ht rfl) aA) (ro rfl (cA (Ht rfl) (cJ 0)) (eJ (dQ (Ht rfl) (fun hb=>?_) (fun hb=>?_)))))))))))))
 ·simp only [decide_eq_true_eq] at hb
  omega
 ·refine cU (ts (rm rfl (ro rfl (dZ U_26 Z_25 (Ht rfl) (cJ 0) rfl (eX (eQ (d := []) zo))) (ro rfl (dJ A_25 Z_25 (Ht rfl)) (ro rfl (dU U_25 (Ht rfl) aA) (rn rfl (eK (Ts := [Is (.int .i64 0)]) Tryz.zeroValue3 rfl (fun V => aW zd (aG))) fun B4 => (jT Z_3 (Ht rfl) (Ht rfl) (i := 0) rfl (aK rfl) rfl (eJ (cK (gW (i := 0) (tt := 4) rfl rfl oN (fV (m := 15) (dp 4 rfl (dJ A_3 Z_3 (Ht rfl)) ?_))))))))))))
  refine dp 0 rfl (cX (Ht rfl)) (dq 13 1 rfl (dU U_26 (Ht rfl) aA) (dq 14 2 rfl (uA (Ht rfl) (cJ 32)) (dq 15 3 rfl (cX (Ht rfl)) (C.D_step (Ei:=[(4,_),(16,_)]) rfl rfl (bV (bK rfl rfl) (bV (bG 4 rfl rfl) bW)) (eY rfl rfl (Ht rfl) (fun h=>dJ A_3 Z_3 (Ht rfl))) (C.D_step (Ei:=[(17,_),(16,_)]) rfl rfl (bV (bG 5 rfl rfl) (bV (bG 4 rfl rfl) bW)) (eY rfl rfl (Ht rfl) (fun h=>uA (fW rfl h) (cJ 32))) (bR 16 4 18 6 rfl (dO (Ht rfl) (fun h=>(fW rfl h))) ?_))))))
  refine dq 19 7 rfl (cX (Ht rfl)) (C.D_step (Ei:=[(0,_),(20,_)]) rfl rfl (bV (bK rfl rfl) (bV (bG 8 rfl rfl) bW)) (eY rfl rfl (Ht rfl) (fun h=>cX (Ht rfl))) (C.D_step (Ei:=[(4,_),(20,_)]) rfl rfl (bV (bK rfl rfl) (bV (bG 8 rfl rfl) bW)) (eY rfl rfl (Ht rfl) (fun h=>pO (γ:=List Qi) (Ts:=fun r=>[cE r]) (U:=fun r=>aC (!decide (r.length = (a.getD 0 []).length))) Tryz.call261 (fun r=>Ip) ⟨(Ht rfl),trivial⟩)) (C.D_step (Ei:=[(21,_),(22,_),(20,_)]) rfl rfl (bV (bG 9 rfl rfl) (bV (bG 10 rfl rfl) (bV (bG 8 rfl rfl) bW))) (eY rfl rfl (Ht rfl) (fun h=>cZ Tryz.call227 (Ar (l:=a) (T:=cE) (p:=fun r=>!decide (r.length = (a.getD 0 []).length)) zo) ⟨(fW rfl h),(fW rfl h),trivial⟩)) ?_)))
  refine C.D_step (Ei:=[(23,_),(20,_)]) rfl rfl (bV (bG 11 rfl rfl) (bV (bG 8 rfl rfl) bW)) (eY rfl rfl (Ht rfl) (fun h=>dT (fW rfl h))) (bR 20 8 24 12 rfl (dO (Ht rfl) (fun h=>(fW rfl h))) (dq 12 0 rfl (cQ (Ht rfl)) (fG aO rfl (by kernel_rfl) (zF (zF (zF (aJ (aJ (aJ (aV (ra rfl (eJ (cB rfl (fJ (fQ rfl) ?_) (fJ (fQ rfl) ?_))))))))))))))
  ·exact (jQ hr0)
  ·exact (bN (by rw [hr0,Wd ⟨rfl,h2⟩]; simp; omega))
end
section
open Go Go.RowKit
theorem qO (v : Value) (w : World) : (method (Tryz.prog.types.size + Made.depth) 60 v "Add").run Tryz.prog w = .ok (71, v) w := by kernel_rfl
theorem jW (v : Value) (w : World) : (method (Tryz.prog.types.size + Made.depth) 60 v "Mul").run Tryz.prog w = .ok (70, v) w := by kernel_rfl
end
section
open Go Go.RowKit
theorem qP (v : Value) (w : World) : (method (Tryz.prog.types.size + Made.depth) 60 v "Div").run Tryz.prog w = .ok (64, v) w := by kernel_rfl
theorem nU (v : Value) (w : World) : (method (Tryz.prog.types.size + Made.depth) 60 v "Sub").run Tryz.prog w = .ok (69, v) w := by kernel_rfl
end
section
open Go Go.RowKit
theorem Ve {n:Nat} (h:n < 4294967296):aP Tryz.prog 282 [NT .u64 1,NT .u64 n] (fR [NT .u64 0,NT .u64 n]):=by
 refine aP.intro Tryz.func282 rfl Tryz.ntmps282 rfl (fun cx=>(ts (ro rfl (cQ (cJ 0)) (ro rfl (cQ (cJ 0)) (eJ (ts (rm rfl (ro rfl (aI.nat (sB rfl (Ht rfl) (cJ 4294967295) z7 z7) (show (1:Nat) &&& 4294967295 = 1 by decide)) (ra rfl (eJ (ts (rm rfl (ro rfl (aI.nat (dP (Ht rfl) (cJ 32) (by decide)) (show (1:Nat) / 2 ^ 32 = 0 by decide)) (ra rfl (eJ (ts (rm rfl (ro rfl (aI.nat (sB rfl (Ht rfl) (cJ 4294967295) z7 z7) (show n &&& 4294967295 = n from (Nat.and_two_pow_sub_one_eq_mod n 32).trans (Nat.mod_eq_of_lt h))) ?_))))))))))))))))))
 refine ra rfl (eJ (ts (rm rfl (ro rfl (aI.nat (dP (Ht rfl) (cJ 32) (by decide)) (show n / 2 ^ 32 = 0 from Nat.div_eq_of_lt h)) (ra rfl (eJ (ts (rm rfl (rm rfl (ro rfl (aI.nat (jR (Ht rfl) (Ht rfl) z7) (Nat.one_mul n)) (ra rfl (eJ (ts (rm rfl (rm rfl (ro rfl (aI.nat (jR (Ht rfl) (Ht rfl) z7) (Nat.zero_mul n)) (rm rfl (ro rfl (aI.nat (dP (Ht rfl) (cJ 32) (by decide)) (show n / 2 ^ 32 = 0 from Nat.div_eq_of_lt h)) ?_))))))))))))))))))
 refine ro rfl (dW (Ht rfl) (Ht rfl) z7) (ra rfl (eJ (ts (rm rfl (ro rfl (aI.nat (sB rfl (Ht rfl) (cJ 4294967295) z7 z7) (show (0 + 0:Nat) &&& 4294967295 = 0 by decide)) (ra rfl (eJ (ts (rm rfl (ro rfl (aI.nat (dP (Ht rfl) (cJ 32) (by decide)) (show (0 + 0:Nat) / 2 ^ 32 = 0 by decide)) (ra rfl (eJ (ts (rm rfl (rm rfl (rm rfl ?_))))))))))))))))
 refine ro rfl (aI.nat (jR (Ht rfl) (Ht rfl) z7) (show (1 * 0:Nat) = 0 by decide)) (ro rfl (dW (Ht rfl) (Ht rfl) z7) (ra rfl (eJ (ts (rm rfl (rm rfl (ro rfl (aI.nat (jR (Ht rfl) (Ht rfl) z7) (show (0 * 0:Nat) = 0 by decide)) (rm rfl (ro rfl (dW (Ht rfl) (Ht rfl) z7) ?_)))))))))
 refine rm rfl (ro rfl (aI.nat (dP (Ht rfl) (cJ 32) (by decide)) (show (0 + 0:Nat) / 2 ^ 32 = 0 by decide)) (ro rfl (dW (Ht rfl) (Ht rfl) z7) (ra rfl (eJ (ts (rm rfl (rm rfl (ro rfl (aI.nat (jR (Ht rfl) (Ht rfl) z7) (Nat.one_mul n)) (ra rfl (eJ (cB rfl (fJ (fQ rfl) ?_) (fQ rfl))))))))))))
 exact (jQ (by decide))
theorem a0t {n:Nat} (h:n < 4294967296):aP Tryz.prog 263 [NT .u64 1,NT .u64 n] (fR [NT .u64 0,NT .u64 n]):=by
 refine aP.intro Tryz.func263 rfl Tryz.ntmps263 rfl (fun cx=>(ts (ro rfl (cQ (cJ 0)) (ro rfl (cQ (cJ 0)) (eJ (cK (dQ cV (fun hf=>?_) (fun hf=>?_))))))))
 ·exact absurd hf (by decide)
 ·refine cU (ts (rm rfl (rm rfl (ro rfl (cZ Tryz.call282 (Ve h) ⟨(Ht rfl), (Ht rfl), trivial⟩) (rm rfl (ro rfl (dY (Ht rfl) rfl) (ro rfl (dY (Ht rfl) rfl) (ra rfl (ra rfl (eJ (ts (rm rfl (rm rfl (ra rfl (ra rfl (eJ ?_))))))))))))))))
  exact cB rfl (fQ rfl) (fQ rfl)
theorem a0r {m:Nat} (h1:1 ≤ m) (hm:m ≤ 1000):iI Tryz.prog 229 [cE [Qi.zero],NT .i64 m] [] ({v:Value // lR v}) (fun v=>Is v.1) (fun v=>[bI 60 5 v.1 ((tab m fun _=>Qi.zero).map bA)]) (fun _=>True):=by
 refine iI.intro Tryz.func229 rfl Tryz.ntmps229 rfl (fun cx Z=>(ts (ro rfl (cQ cV) (eJ (cK (ts (rm rfl (ro rfl (gJ (Ht rfl) (cJ 0)) (eJ (dQ (Ht rfl) (fun h0=>?_) (fun h0=>?_)))))))))))
 ·simp only [decide_eq_true_eq] at h0
  omega
 ·refine cU (ts (rm rfl (ro rfl (dU U_25 (Ht rfl) (show (([Qi.zero].map bA).length : Int) = ((1 : Nat) : Int) from rfl)) (ro rfl (gV U_3 U_264 (Ht rfl) z7) (rm rfl (ro rfl (gV U_3 U_264 (Ht rfl) z7) (ro rfl (cZ Tryz.call263 (a0t zo) ⟨(Ht rfl), (Ht rfl), trivial⟩) (rm rfl (ro rfl (dY (Ht rfl) rfl) (ro rfl (dY (Ht rfl) rfl) ?_))))))))))
  refine ra rfl (ra rfl (eJ (cK (ts (rm rfl (ro rfl (eN (Ht rfl) (cJ 0)) (rm rfl (fZ rfl rfl (eY rfl rfl (Ht rfl) (fun h=>cX (Ht rfl))) (fZ rfl rfl (eY rfl rfl (Ht rfl) (fun h=>eN (fW rfl h) (cJ 9223372036854775807))) (ro rfl (kP (Ht rfl) (fun h=>(fW rfl h))) (eJ (dQ (Ht rfl) (fun h2=>?_) (fun h2=>?_)))))))))))))
  ·simp only [Bool.or_eq_true, decide_eq_true_eq] at h2
   omega
  ·refine cU (ts (rm rfl (ro rfl (gV U_264 U_3 (Ht rfl) z6) (Kf (T := bA Qi.zero) (i := Tryz.t60) pR mO rfl rfl (Ht rfl) rfl kV (El.ag rfl) (by show 88 * _ ≤ _; omega) zo rfl (fun B30 hB30 => (ra rfl (eJ (ts (rm rfl (rm rfl (ro rfl (Sm (q := 1) (T := bA Qi.zero) U_25 Z_60 (i := 1) rfl (Ht rfl) (Ht rfl) (by decide) (El.ag rfl) zo) (ra rfl (eJ (cK (eU ?_)))))))))))))))
   refine bF (fun (k : Nat) => 1 ≤ k ∧ k ≤ m) (fun (k : Nat) => m - k) (fun (k : Nat) => [(7, Is B30), (8, NT .i64 k)]) (fun (k : Nat) => [Z, bI 60 5 B30 (List.replicate m (bA Qi.zero))]) (Nat.min 1 m) ⟨by show 1 ≤ min 1 m; omega, by show min 1 m ≤ m; omega⟩
    (zS rfl) (cI.refl _) (fun k ⟨hk1,hk⟩=>?_)
   refine cK (ts (rm rfl (rm rfl (ro rfl (sD U_25 (Ht rfl) (i:=1) rfl (show ((List.replicate m (bA Qi.zero)).length:Int) = ((m:Nat):Int) by simp)) (ro rfl (gJ (Ht rfl) (Ht rfl)) (eJ (dQ (Ht rfl) (fun hd=>?_) (fun hd=>?_))))))))
   ·simp only [decide_eq_true_eq] at hd
    have hlen:(List.replicate m (bA Qi.zero)).length = m:=by simp
    have h5:Nat.min k ((List.replicate m (bA Qi.zero)).length - k) = min k (m - k):=by rw [hlen]
    refine cU (eU (fV (m:=8) (dp 8 rfl (cX (Ht rfl)) (dp 7 rfl (cX (Ht rfl)) (dp 8 rfl (cX (Ht rfl)) (bR 39 1 40 2 rfl (Ss U_25 Z_60 (Ht rfl) (Ht rfl) rfl (i:=1) rfl (by rw [hlen]; exact hd)) ?_))))))
    refine dp 7 rfl (cX (Ht rfl)) (dp 8 rfl (cX (Ht rfl)) (bR 42 4 43 5 rfl (Sr U_25 Z_60 (Ht rfl) (Ht rfl) rfl (i:=1) rfl (by rw [hlen]; omega) (by rw [hlen]; omega)) ?_))
    refine bR 41 3 44 6 rfl (Jk (T:=bA Qi.zero) U_25 Z_60 (i:=1) rfl (Ht rfl) (Ht rfl)) (fG aO rfl (by kernel_rfl) (zF (zF (aV (ro rfl (dW (Ht rfl) (Ht rfl) (by show _ < 9223372036854775808; omega)) (ra rfl (eJ (bC (gQ (k + Nat.min k ((List.replicate m (bA Qi.zero)).length - k)) ⟨by omega,by omega⟩ zo (zS rfl) (cI.refl _))))))))))
   ·refine gG rfl (ts (rm rfl (ra rfl (eJ ?_))))
    exact kG ⟨B30,hB30⟩ trivial [0,1] ⟨⟨_,rfl,fun _ _ _ h=>h⟩,⟨_,rfl,(bL (by rw [sH,qX]))⟩,trivial⟩ (by decide) (vG rfl (fQ rfl))
end
section
open Go Go.RowKit
theorem Vb {n : Nat} {E : cH} {H : Hp} {d : Option Tmp} {t : TypeId} {pos : String} {af : Array Edge} {g : Option (Nat × Bool)}  :
  aI Tryz.prog n E H ⟨d,.build 48 #[],t,pos,af,g⟩ (fI [Is (.int .i64 0),Is (.int .i64 0),Is (.int .i64 0)]) :=
 gP (parts := []) fun a V w hs => by
  refine ⟨.agg #[(.int .i64 0),(.int .i64 0),(.int .i64 0)],?_,[(.int .i64 0),(.int .i64 0),(.int .i64 0)],rfl,aW (⟨rfl,trivial⟩) (aW (⟨rfl,trivial⟩) (aW (⟨rfl,trivial⟩) (aG)))⟩
  simp [Instr.build,Instr.fill,Sem.run_bind,Result.andThen,fP,O_48,U_48,Z_2]
theorem Et {n : Nat} {E : cH} {H : Hp} {d : Option Tmp} {t : TypeId} {pos : String} {af : Array Edge} {g : Option (Nat × Bool)} {x0 : Operand} {T0 : Ty} [s0 : cT T0 1 false] (h0 : bB E x0 T0) :
  aI Tryz.prog n E H ⟨d,.build 48 #[(0,x0)],t,pos,af,g⟩ (fI [T0,Is (.int .i64 0),Is (.int .i64 0)]) :=
 gP (parts := [(0, x0)]) fun a V w hs => by
  have p0:=h0 n V a hs
  generalize e0:a.eval x0 = v0 at p0
  have q0:=(s0.ok v0 V p0).2.2 rfl
  refine ⟨.agg #[v0,(.int .i64 0),(.int .i64 0)],?_,[v0,(.int .i64 0),(.int .i64 0)],rfl,aW (⟨p0,q0⟩) (aW (⟨rfl,trivial⟩) (aW (⟨rfl,trivial⟩) (aG)))⟩
  simp [e0,Instr.build,Instr.fill,Sem.run_bind,Result.andThen,fP,q0.cells,O_48,U_48,Z_2]
theorem yK {n : Nat} {E : cH} {H : Hp} {d : Option Tmp} {t : TypeId} {pos : String} {af : Array Edge} {g : Option (Nat × Bool)} {x0 x2 : Operand} {T0 T2 : Ty} [s0 : cT T0 1 false] (h0 : bB E x0 T0) [s2 : cT T2 1 false] (h2 : bB E x2 T2) :
  aI Tryz.prog n E H ⟨d,.build 48 #[(0,x0),(2,x2)],t,pos,af,g⟩ (fI [T0,Is (.int .i64 0),T2]) :=
 gP (parts := [(0, x0), (2, x2)]) fun a V w hs => by
  have p0:=h0 n V a hs
  generalize e0:a.eval x0 = v0 at p0
  have q0:=(s0.ok v0 V p0).2.2 rfl
  have p2:=h2 n V a hs
  generalize e2:a.eval x2 = v2 at p2
  have q2:=(s2.ok v2 V p2).2.2 rfl
  refine ⟨.agg #[v0,(.int .i64 0),v2],?_,[v0,(.int .i64 0),v2],rfl,aW (⟨p0,q0⟩) (aW (⟨rfl,trivial⟩) (aW (⟨p2,q2⟩) (aG)))⟩
  simp [e0,e2,Instr.build,Instr.fill,Sem.run_bind,Result.andThen,fP,q0.cells,q2.cells,O_48,U_48,Z_2]
end
section
open Go Go.RowKit
theorem a0V {z:List Qi} {i:Nat} (h:i < z.length):∀ v V,(fR [bA (pkv z ((i + 1:Nat):Int)),aN .i64 (if 1 ≤ ((i + 1:Nat):Int) ∧ ((i + 1:Nat):Int) ≤ z.length then 0 else 1)]).p v V → (fR [bA (gv z i),aN .i64 0]).p v V:=by
 rw [show pkv z ((i + 1:Nat):Int) = gv z i from Sv h,if_pos zo]; exact fun _ _ h=>h
theorem a1Y {n:Nat} {s:List (List Qi)} {i j:Nat} (h:i < n) (k:j < n):∀ v V,(fR [bA (Yg n s ((i + 1:Nat):Int) ((j + 1:Nat):Int)),aN .i64 (if (1 ≤ ((i + 1:Nat):Int) ∧ ((i + 1:Nat):Int) ≤ n) ∧ 1 ≤ ((j + 1:Nat):Int) ∧ ((j + 1:Nat):Int) ≤ n then 0 else 1)]).p v V → (fR [bA (gm s i j),aN .i64 0]).p v V:=by
 rw [show Yg n s ((i + 1:Nat):Int) ((j + 1:Nat):Int) = gm s i j from a18 h k,if_pos zo]; exact fun _ _ h=>h
end
section
open Go Go.RowKit
theorem Qi.zero_div (y:Qi):Qi.zero / y = Qi.zero:=by rw [Qi.div_def,Qi.zero_mul']
theorem a1c {x:Qi} (h:gY x = true):x.im = 0 ∧ x.re ≠ 0:=by
 simp only [gY,decide_eq_true_eq] at h
 exact ⟨Qi.b_zero.1 h.1,fun e=>by have:=Qi.a_zero.2 e; omega⟩
end
section
open Go Go.RowKit
theorem Wx {α:Type} {l:List α} {d:α} {k:Nat} (h:k < l.length):l.getD k d = l[k]:=by simp [List.getD,h]
end
section
open Go Go.RowKit
namespace Qi
theorem Pk {x:Qi}:0 ≤ x.a ↔ 0 ≤ x.re:=by
 have hk:0 < x.den / x.re.den:=Nat.div_pos (Nat.le_of_dvd x.den_pos (Nat.dvd_lcm_left _ _)) x.re.den_pos
 rw [← Rat.num_nonneg]
 show 0 ≤ x.re.num * ((x.den / x.re.den:Nat):Int) ↔ _
 generalize x.den / x.re.den = k at hk
 constructor
 ·intro h
  exact Int.nonneg_of_mul_nonneg_left h zo
 ·intro h; exact Int.mul_nonneg h zo
theorem a_pos {x:Qi}:0 < x.a ↔ 0 < x.re:=by
 have h1:=@Pk x; have h2:=@a_zero x
 constructor
 ·intro h
  have h3:0 ≤ x.re:=h1.1 zo
  have h4:x.re ≠ 0:=fun e=>by have:=h2.2 e; omega
  exact Rat.lt_of_le_of_ne h3 (Ne.symm h4)
 ·intro h
  have h3:0 ≤ x.a:=h1.2 (by grind)
  have h4:x.a ≠ 0:=fun e=>by have:=h2.1 e; grind
  omega
end Qi
def oA (f : Nat → Int) : Nat → Int
 | 0=>0
 | n + 1=>if oA f n ≠ 0 then oA f n else f n
theorem No {f:Nat → Int} {k:Nat} (h:∀ i,i < k → f i = 0) (hk:f k ≠ 0):∀ {n:Nat},k < n → oA f n = f k:=by
 have hz : oA f k = 0 := by
  clear hk
  induction k with
  | zero=>rfl
  | succ k ih=>rw [oA,ih (fun i hi=>h i zo),if_neg (by simp),h k zo]
 intro n
 induction n with
 | zero=>intro h; omega
 | succ n ih =>
  intro hn
  by_cases e:n = k
  ·rw [e,oA,hz,if_neg (by simp)]
  ·rw [oA,ih zo,if_pos hk]
theorem vU {f : Nat → Int} : ∀ {n : Nat}, (∀ i, i < n → f i = 0) → oA f n = 0
 | 0,_=>rfl
 | n + 1,h=>by rw [oA,vU (fun i hi=>h i zo),if_neg (by simp),h n zo]
abbrev eF (l:List (Qi × Qi)) (i:Nat):Qi:=(l.getD i (Qi.zero,Qi.zero)).1
abbrev eV (l:List (Qi × Qi)) (i:Nat):Qi:=(l.getD i (Qi.zero,Qi.zero)).2
structure Zk (l:List (Qi × Qi)) (f:Qi):Prop where
 real:∀ i,i < l.length → (eF l i).b = 0 ∧ (eV l i).b = 0
 up:∀ i,0 < i → i < l.length → (eF l (i - 1)).re < (eF l i).re
 fr:f.b = 0
theorem a19 {x:Qi} (h:gY x = true):x.b = 0:=by simp only [gY,decide_eq_true_eq] at h; exact h.1
theorem Zk.mono {l : List (Qi × Qi)} {f : Qi} (h : Zk l f) {i : Nat} : ∀ {j : Nat}, i < j → j < l.length → (eF l i).re < (eF l j).re
 | 0,h1,_=>by omega
 | j + 1, h1, h2 => by
  have h3:=h.up (j + 1) zo h2
  rw [Nat.add_sub_cancel] at h3
  by_cases e:i = j
  ·rw [e]; exact h3
  ·have := h.mono (i := i) (j := j) zo zo
   grind
def a1x (l:List (Qi × Qi)) (L:Nat):Prop:=∀ e,e ∈ l → aD e.1 L ∧ aD e.2 L
theorem a1x.get {l:List (Qi × Qi)} {L:Nat} (h:a1x l L) (hL:1 ≤ L) (i:Nat):aD (eF l i) L ∧ aD (eV l i) L:=by
 by_cases hi:i < l.length
 ·have e : l.getD i (Qi.zero, Qi.zero) = l[i] := by simp [List.getD, hi]
  show aD (l.getD i _).1 L ∧ aD (l.getD i _).2 L
  rw [e]; exact h _ (List.getElem_mem hi)
 ·have e : l.getD i (Qi.zero, Qi.zero) = (Qi.zero, Qi.zero) := by simp [List.getD, List.getElem?_eq_none (Nat.le_of_not_lt hi)]
  show aD (l.getD i _).1 L ∧ aD (l.getD i _).2 L
  rw [e]; exact ⟨aD.zero hL,aD.zero hL⟩
end
section
open Go Go.RowKit
abbrev dH (M:List (List Qi)) (i:Nat):List Qi:=M.getD i []
def Oy (M : List (List Qi)) (c n : Nat) : Nat → Nat
 | 0=>n
 | k + 1=>if gm M (n - (k + 1)) c = Qi.zero then Oy M c n k else n - (k + 1)
def pv (M:List (List Qi)) (c n:Nat):Nat:=Oy M c n (n - c)
theorem Gq {M : List (List Qi)} {c n : Nat} : ∀ {k : Nat}, k ≤ n → (∀ r, n - k ≤ r → r < Oy M c n k → gm M r c = Qi.zero) ∧ n - k ≤ Oy M c n k ∧ Oy M c n k ≤ n ∧ (Oy M c n k < n → gm M (Oy M c n k) c ≠ Qi.zero)
 | 0,_=>⟨fun r h1 h2=>by simp [Oy] at h2; omega,by simp [Oy],by simp [Oy],fun h=>by simp [Oy] at h⟩
 | k + 1, hk => by
  obtain ⟨i1,i2,i3,i4⟩:=Gq (M:=M) (c:=c) (n:=n) (k:=k) zo
  unfold Oy
  by_cases e:gm M (n - (k + 1)) c = Qi.zero
  ·rw [if_pos e]
   refine ⟨fun r h1 h2=>?_,by omega,i3,i4⟩
   by_cases e2:r = n - (k + 1)
   ·rw [e2]; exact e
   ·exact i1 r zo h2
  ·rw [if_neg e]
   exact ⟨fun r h1 h2=>by omega,Nat.le_refl _,by omega,fun _=>e⟩
theorem pP {M:List (List Qi)} {c n:Nat} (hc:c ≤ n):(∀ r,c ≤ r → r < pv M c n → gm M r c = Qi.zero) ∧ c ≤ pv M c n ∧ pv M c n ≤ n ∧ (pv M c n < n → gm M (pv M c n) c ≠ Qi.zero):=by
 have h:=Gq (M:=M) (c:=c) (n:=n) (k:=n - c) zo
 rw [show n - (n - c) = c by omega] at h
 exact h
theorem a25 {M:List (List Qi)} {c n p:Nat} (hc:c ≤ p) (hp:p ≤ n) (h1:∀ r,c ≤ r → r < p → gm M r c = Qi.zero) (h2:p < n → gm M p c ≠ Qi.zero):pv M c n = p:=by
 obtain ⟨i1,i2,i3,i4⟩:=pP (M:=M) (n:=n) (show c ≤ n by omega)
 rcases Nat.lt_trichotomy (pv M c n) p with h | h | h
 ·exact absurd (h1 _ i2 h) (i4 zo)
 ·exact h
 ·exact absurd (i1 p hc h) (h2 zo)
def kL (rr rc:List Qi) (c k:Nat):List Qi:=tab rr.length fun j=>if c < j ∧ j < k then gv rr j - gv rr c / gv rc c * gv rc j else gv rr j
def redM (M:List (List Qi)) (c r:Nat):List (List Qi):=tab M.length fun i=>if c < i ∧ i < r then kL (dH M i) (dH M c) c (dH M i).length else dH M i
def dR (M : List (List Qi)) : Nat → List (List Qi) × Nat × Int
 | 0=>(M,0,-1)
 | c + 1 =>
  let s:=dR M c
  if 0 ≤ s.2.2 then s else
  if pv s.1 c M.length = M.length then (s.1,s.2.1,(c:Int)) else
  (redM (if pv s.1 c M.length = c then s.1 else swp [] s.1 (pv s.1 c M.length) c) c M.length,s.2.1 + (if pv s.1 c M.length = c then 0 else 1),-1)
theorem Bo {M : List (List Qi)} {c : Nat} (h : 0 ≤ (dR M c).2.2) : ∀ {d : Nat}, c ≤ d → dR M d = dR M c
 | 0,hd=>by rw [show c = 0 by omega]
 | d + 1, hd => by
  by_cases e:c = d + 1
  ·rw [e]
  ·have := Bo h (d := d) zo
   simp only [dR,this]
   rw [if_pos h]
theorem qV (M:List (List Qi)) (c r:Nat):(redM M c r).length = M.length:=aT _ _
theorem Gu {M:List (List Qi)} {n m c r:Nat} (h:eR M n m):eR (redM M c r) n m:=by
 refine ⟨(qV _ _ _).trans h.1,fun x hx=>?_⟩
 obtain ⟨i,hi,rfl⟩:=eE.1 hx
 have hr:=h.row (i:=i) (by rw [← h.1]; exact hi)
 show (if c < i ∧ i < r then kL (dH M i) (dH M c) c (dH M i).length else dH M i).length = m
 split
 ·rw [kL,aT]; exact hr
 ·exact hr
theorem xT {M:List (List Qi)} {n m p c:Nat} (h:eR M n m) (hp:p < n) (hc:c < n):eR (swp [] M p c) n m:=by
 refine ⟨(Ef _ _ _ _).trans h.1,fun x hx=>?_⟩
 unfold swp at hx
 rcases List.mem_or_eq_of_mem_set hx with h1 | h1
 ·rcases List.mem_or_eq_of_mem_set h1 with h2 | h2
  ·exact h.2 x h2
  ·rw [h2]; exact h.row hc
 ·rw [h1]; exact h.row hp
theorem oL {M : List (List Qi)} {n m : Nat} (h : eR M n m) : ∀ {c : Nat}, c ≤ n → eR (dR M c).1 n m
 | 0,_=>h
 | c + 1, hc => by
  have ih:=oL h (c:=c) zo
  obtain ⟨_,_,i3,_⟩:=pP (M:=(dR M c).1) (c:=c) (n:=M.length) (by rw [h.1]; omega)
  simp only [dR]
  split
  ·exact ih
  ·split
   ·exact ih
   ·rename_i e
    apply Gu
    split
    ·exact ih
    ·exact xT ih (by rw [← h.1]; omega) zo
def nC (L : Nat) : Nat → Nat
 | 0=>L
 | c + 1=>6 * nC L c + 4
theorem rW (L : Nat) : ∀ {c d : Nat}, c ≤ d → nC L c ≤ nC L d
 | c,0,h=>by rw [show c = 0 by omega]; exact Nat.le_refl _
 | c, d + 1, h => by
  by_cases e:c = d + 1
  ·rw [e]; exact Nat.le_refl _
  ·have := rW L (c := c) (d := d) zo
   simp only [nC]; omega
theorem tW (L c:Nat):L ≤ nC L c:=rW L (Nat.zero_le c)
theorem Ll {rr rc:List Qi} {L c j:Nat} (h1:cD rr L) (h2:cD rc L) (hL:1 ≤ L) (hp:gv rc c ≠ Qi.zero):aD (gv rr j - gv rr c / gv rc c * gv rc j) (6 * L + 4):=by
 haveI f1:=h1.get hL j; haveI f2:=h1.get hL c; haveI f3:=h2.get hL c; haveI f4:=h2.get hL j
 haveI g:aD (gv rr c / gv rc c) (L + 3 * L + 2):=⟨f2.fit.div f3.fit hp⟩
 have:aD (gv rr j - gv rr c / gv rc c * gv rc j) (L + (L + 3 * L + 2 + L + 1) + 1):=inferInstance
 exact this.le zo
theorem Td {rr rc : List Qi} {L c k : Nat} (h1 : cD rr L) (h2 : cD rc L) (hL : 1 ≤ L) (hp : gv rc c ≠ Qi.zero) : cD (kL rr rc c k) (6 * L + 4) := cD.tab fun j _ => by
 split
 ·exact Ll h1 h2 hL hp
 ·exact (h1.get hL j).le zo
theorem Gt {M : List (List Qi)} {L c r : Nat} (h : bP M L) (hL : 1 ≤ L) (hp : gm M c c ≠ Qi.zero) : bP (redM M c r) (6 * L + 4) := fun x hx => by
 obtain ⟨i,hi,rfl⟩:=eE.1 hx
 show cD (if c < i ∧ i < r then kL (dH M i) (dH M c) c (dH M i).length else dH M i) _
 split
 ·exact Td (h.row i) (h.row c) hL hp
 ·exact (h.row i).le zo
theorem Ee {M : List (List Qi)} {L p c : Nat} (h : bP M L) : bP (swp [] M p c) L := fun x hx => by
 unfold swp at hx
 rcases List.mem_or_eq_of_mem_set hx with h1 | h1
 ·rcases List.mem_or_eq_of_mem_set h1 with h2 | h2
  ·exact h x h2
  ·rw [h2]; exact h.row c
 ·rw [h1]; exact h.row p
theorem Ac {M:List (List Qi)} {p c:Nat} (hc:c < M.length):dH (swp [] M p c) c = dH M p:=by
 simp [dH,swp,List.getD,hc]
theorem yV {M : List (List Qi)} {n m L : Nat} (hs : eR M n m) (h : bP M L) (hL : 1 ≤ L) : ∀ {c : Nat}, c ≤ n → bP (dR M c).1 (nC L c)
 | 0,_=>h
 | c + 1, hc => by
  have ih:=yV hs h hL (c:=c) zo
  have hg:1 ≤ nC L c:=Nat.le_trans hL (tW L c)
  have sh:=oL hs (c:=c) zo
  obtain ⟨_,i2,i3,i4⟩:=pP (M:=(dR M c).1) (c:=c) (n:=M.length) (by rw [hs.1]; omega)
  simp only [dR,nC]
  split
  ·exact ih.le zo
  ·split
   ·exact ih.le zo
   ·rename_i e
    split
    ·rename_i e2
     refine Gt ih hg ?_
     have:=i4 zo
     rw [e2] at this; exact this
    ·refine Gt (Ee ih) hg ?_
     show gv (dH (swp [] _ _ c) c) c ≠ _
     rw [Ac (by rw [sh.1]; omega)]
     exact i4 zo
theorem Jr {rr rc:List Qi} {c:Nat}:rr = kL rr rc c (c + 1):=by
 unfold kL
 have:(tab rr.length fun j=>if c < j ∧ j < c + 1 then gv rr j - gv rr c / gv rc c * gv rc j else gv rr j) = tab rr.length (gv rr):=bE fun j _=>by rw [if_neg zo]
 rw [this]; exact Gh rfl
theorem uE (rr rc:List Qi) (c k:Nat):(kL rr rc c k).length = rr.length:=aT _ _
theorem Gv {rr rc:List Qi} {c k:Nat} (hk:k < rr.length) (h:c < k):gv (kL rr rc c k) k = gv rr k:=by
 rw [kL,pI hk,if_neg zo]
theorem Ok {rr rc:List Qi} {c k:Nat} (hk:k < rr.length) (h:c < k):(kL rr rc c k).set k (gv (kL rr rc c k) k - gv rr c / gv rc c * gv rc k) = kL rr rc c (k + 1):=by
 rw [Gv hk h]
 apply List.ext_getElem?
 intro j
 by_cases hj:j < rr.length
 ·by_cases e : j = k
  ·subst e
   rw [List.getElem?_set_self (by rw [uE]; exact hj),kL,bO hj,if_pos zo]
  ·rw [List.getElem?_set_ne (Ne.symm e), kL, kL, bO hj, bO hj]
   by_cases e2:c < j ∧ j < k
   ·rw [if_pos e2,if_pos zo]
   ·rw [if_neg e2,if_neg zo]
 ·rw [List.getElem?_eq_none (by rw [List.length_set,uE]; omega),List.getElem?_eq_none (by rw [uE]; omega)]
theorem Jq {M:List (List Qi)} {c:Nat}:M = redM M c (c + 1):=by
 unfold redM
 have:(tab M.length fun i=>if c < i ∧ i < c + 1 then kL (dH M i) (dH M c) c (dH M i).length else dH M i) = tab M.length (dH M):=bE fun i _=>by rw [if_neg zo]
 rw [this]; exact Ae (h:=rfl)
theorem uD {M:List (List Qi)} {c r i:Nat} (hi:i < M.length) (h:¬ (c < i ∧ i < r)):dH (redM M c r) i = dH M i:=by
 simp only [dH,redM,List.getD]
 rw [bO hi,if_neg h]; rfl
theorem Oj {M:List (List Qi)} {c r:Nat} (hr:r < M.length) (h:c < r):(redM M c r).set r (kL (dH M r) (dH M c) c (dH M r).length) = redM M c (r + 1):=by
 apply List.ext_getElem?
 intro j
 by_cases hj:j < M.length
 ·by_cases e : j = r
  ·subst e
   rw [List.getElem?_set_self (by rw [qV]; exact hj),redM,bO hj,if_pos zo]
  ·rw [List.getElem?_set_ne (Ne.symm e), redM, redM, bO hj, bO hj]
   by_cases e2:c < j ∧ j < r
   ·rw [if_pos e2,if_pos zo]
   ·rw [if_neg e2,if_neg zo]
 ·rw [List.getElem?_eq_none (by rw [List.length_set,qV]; omega),List.getElem?_eq_none (by rw [qV]; omega)]
theorem Th {M:List (List Qi)} {r:Nat} {x y:List Qi}:(M.set r x).set r y = M.set r y:=List.set_set ..
theorem vH {M:List (List Qi)} {r:Nat} {x:List Qi} (h:r < M.length):dH (M.set r x) r = x:=by simp [dH,List.getD,h]
theorem oR {M:List (List Qi)} {r i:Nat} {x:List Qi} (h:r ≠ i):dH (M.set r x) i = dH M i:=by simp [dH,List.getD,List.getElem?_set_ne h]
theorem a1h {M:List (List Qi)} {r:Nat} (h:r < M.length):M.set r (dH M r) = M:=by
 apply List.ext_getElem?
 intro j
 by_cases e:j = r
 ·subst e; rw [List.getElem?_set_self h]; simp [dH,List.getD,h]
 ·rw [List.getElem?_set_ne (Ne.symm e)]
theorem Tp {X : List (List Qi)} {r c k : Nat} (hr : r < X.length) (hne : r ≠ c) (hk : k < (dH X r).length) (hck : c < k) :
  (X.set r (kL (dH X r) (dH X c) c k)).set r ((dH (X.set r (kL (dH X r) (dH X c) c k)) r).set k (gm (X.set r (kL (dH X r) (dH X c) c k)) r k - gm X r c / gm X c c * gm (X.set r (kL (dH X r) (dH X c) c k)) c k)) = X.set r (kL (dH X r) (dH X c) c (k + 1)):=by
 rw [Th,vH hr]
 have e1:gm (X.set r (kL (dH X r) (dH X c) c k)) r k = gv (kL (dH X r) (dH X c) c k) k:=by show gv (dH (X.set r _) r) k = _; rw [vH hr]
 have e2:gm (X.set r (kL (dH X r) (dH X c) c k)) c k = gv (dH X c) k:=by show gv (dH (X.set r _) c) k = _; rw [oR hne]
 rw [e1,e2]
 exact congrArg _ (Ok hk hck)
theorem Tt {D:List (List Qi)} {r c:Nat} (hr:r < D.length) (hc:c < r):(redM D c r).set r (kL (dH (redM D c r) r) (dH (redM D c r) c) c (dH D r).length) = redM D c (r + 1):=by
 rw [uD hr zo,uD zo zo]
 exact Oj hr hc
theorem a1U {X:List (List Qi)} {r c k:Nat} (hr:r < X.length) (hk:k < (dH X r).length) (hck:c < k):gm (X.set r (kL (dH X r) (dH X c) c k)) r k = gv (dH X r) k:=by
 show gv (dH (X.set r _) r) k = _; rw [vH hr,Gv hk hck]
theorem a1T {X:List (List Qi)} {r c k:Nat} {y:List Qi} (hne:r ≠ c):gm (X.set r y) c k = gv (dH X c) k:=by show gv (dH (X.set r _) c) k = _; rw [oR hne]
theorem Nn {M A:List (List Qi)} {n c sw p:Nat} (hl:M.length = n) (h:dR M c = (A,sw,-1)) (hp:pv A c n = p) (hpn:p < n):dR M (c + 1) = (redM (if p = c then A else swp [] A p c) c n,sw + (if p = c then 0 else 1),-1):=by
 simp only [dR,h,hl,hp]
 rw [if_neg (by decide),if_neg zo]
theorem Rh {M A:List (List Qi)} {n c sw:Nat} (hl:M.length = n) (h:dR M c = (A,sw,-1)) (hp:pv A c n = n) (hc:c < n):dR M n = (A,sw,(c:Int)):=by
 have e : dR M (c + 1) = (A, sw, (c : Int)) := by
  simp only [dR,h,hl,hp]
  rw [if_neg (by decide)]; simp
 rw [Bo (c:=c + 1) (by rw [e]; show (0:Int) ≤ (c:Int); omega) hc,e]
end
section
open Go Go.RowKit
theorem Aw (v : Value) (w : World) : (method (Tryz.prog.types.size + Made.depth) 60 v "Clear").run Tryz.prog w = .ok (82, v) w := by kernel_rfl
end
section
open Go Go.RowKit
theorem Vj {M:List (List Qi)} {n m G B:Nat} (hs:eR M n m) (hstg:∀ c,c ≤ n → bP (dR M c).1 G) (hG1:1 ≤ G) (hg:6 * G + 4 ≤ 17592186044415) (hnm:n ≤ m) (hm:m ≤ 1000):iI Tryz.prog 221 [Is (.slice (some ⟨B,0,none⟩) n n)] [pL B 25 60 5 (cL bA M)] (Unit) (fun _=>fR [NT .i64 (dR M n).2.1,aN .i64 (dR M n).2.2]) (fun _=>[pL B 25 60 5 (cL bA (dR M n).1)]) (fun _=>True):=by
 have hs1:=hs.1
 refine iI.intro Tryz.func221 rfl Tryz.ntmps221 rfl (fun cx Z=>(ts (ro rfl (cQ (cJ 0)) (ro rfl (cQ (cJ 0)) (eJ (ts (ro rfl (cQ (cJ 0)) (eJ (cK (ts (rm rfl (ro rfl (fT U_26 (Ht rfl)) (ro rfl (cX (cJ 0)) (eJ (eU (wZ 1 rfl (fun vs hvs=>?_)))))))))))))))))
 have hvs2:Pc vs n:=by have h:=hvs; rw [List.length_map,hs1] at h; exact h
 refine tJ (fun (c : Nat) (sw : Nat) (vs : List Value) (A : List (List Qi)) => (c ≤ n ∧ sw ≤ c) ∧ dR M c = (A, sw, -1) ∧ Pc vs n) (fun (c : Nat) (sw : Nat) (vs : List Value) (A : List (List Qi)) => n - c) (fun (c : Nat) (sw : Nat) (vs : List Value) (A : List (List Qi)) => [(0, Is (.slice (some ⟨B, 0, none⟩) n n)), (4, NT .i64 sw), (12, NT .i64 n), (13, NT .i64 c)]) (fun (c : Nat) (sw : Nat) (vs : List Value) (A : List (List Qi)) => [Z, iC B 25 60 5 vs vs (cL bA A)]) 0 0 vs M ⟨⟨Nat.zero_le _, Nat.le_refl _⟩, rfl, hvs2⟩
  (zS rfl) (cI.refl _) (fun c sw vs A ⟨⟨hc,hsw⟩,hA,hvs⟩=>?_)
 refine ts (ro rfl (gJ (Ht rfl) (Ht rfl)) (eJ (cK (dQ (Ht rfl) (fun hcn=>?_) (fun hcn=>?_)))))
 ·simp only [decide_eq_true_eq] at hcn
  have hvl:=hvs.len
  have hAs:eR A n m:=by have h:=oL hs hc; rw [hA] at h; exact h
  have hAf:bP A G:=by have h:=hstg c hc; rw [hA] at h; exact h
  have hAl:=hAs.1
  refine cU (cK (eU (ts (rm rfl (ra rfl (eJ (ts (rm rfl (ra rfl (eJ (cK (eU ?_))))))))))))
  refine bF (fun (p : Nat) => (c ≤ p ∧ p ≤ n) ∧ ∀ r, c ≤ r → r < p → gm A r c = Qi.zero) (fun (p : Nat) => n - p) (fun (p : Nat) => [(0, Is (.slice (some ⟨B, 0, none⟩) n n)), (4, NT .i64 sw), (5, NT .i64 c), (6, NT .i64 p), (12, NT .i64 n), (13, NT .i64 c)]) (fun (p : Nat) => [Z, iC B 25 60 5 vs vs (cL bA A)]) c ⟨⟨Nat.le_refl _, hc⟩, fun r h1 h2 => by omega⟩
   (zS rfl) (cI.refl _) (fun p ⟨⟨hcp,hpn⟩,hz⟩=>?_)
  haveI fp:aD (gm A p c) G:=hAf.get hG1 p c
  refine cK (ts (rm rfl (rm rfl (ro rfl (fT U_26 (Ht rfl)) (ro rfl (gJ (Ht rfl) (Ht rfl)) (rm rfl (fZ rfl rfl (eY rfl rfl (Ht rfl) (fun h=>cX (Ht rfl))) (fZ rfl rfl (eY rfl rfl (Ht rfl) (fun h=>cX (Ht rfl))) (fZ rfl rfl (eY rfl rfl (Ht rfl) (fun h=>gX U_26 Z_25 (fW rfl h) (fW rfl h) rfl (by first | omega | (simp at h; omega)) (by rw [Nat.mul_one,Nat.zero_add]))) ?_)))))))))
  refine fZ rfl rfl (eY rfl rfl (Ht rfl) (fun h=>dD A_25 Z_25 (fW rfl h) (j:=1) rfl (by simp at h; omega))) ?_
  refine fZ rfl rfl (eY rfl rfl (Ht rfl) (fun h=>cX (Ht rfl))) (fZ rfl rfl (eY rfl rfl (Ht rfl) (fun h=>dN U_25 Z_60 (fW rfl h) (fW rfl h) rfl (j:=1) rfl zo (by simp at h; omega) (by simp at h; rw [hAs.row h]; omega))) ?_)
  refine fZ rfl rfl (eY rfl rfl (Ht rfl) (fun h=>gF A_60 Z_60 (fW rfl h) (j:=1) rfl zo (by simp at h; omega) (by simp at h; rw [hAs.row h]; omega))) ?_
  refine fZ rfl rfl (eY rfl rfl (Ht rfl) (fun h=>eP gD (fW rfl h))) (fZ rfl rfl (eY rfl rfl (Ht rfl) (fun h=>dL Aw K_82 (rI (x:=gm A p c) (L:=G) zo) (fW rfl h) trivial)) (fZ rfl rfl (eY rfl rfl (Ht rfl) (fun h=>dT (fW rfl h))) (ro rfl (dO (Ht rfl) (fun h=>(fW rfl h))) (eJ (dQ (Ht rfl) (fun he=>?_) (fun he=>?_))))))
  ·have he2 : p < n ∧ gm A p c = Qi.zero := by simpa using he
   refine cU (eU (cY (rm rfl (ro rfl (dW (Ht rfl) (cJ 1) z6) (ra rfl (eJ (bC ?_)))))))
   refine gQ (p + 1) ⟨⟨by omega, by omega⟩, fun r h1 h2 => by
     by_cases e:r = p
     ·rw [e]; exact he2.2
     ·exact hz r h1 zo⟩ zo (zS rfl) (cI.refl _)
  ·have hpv : pv A c n = p := a25 hcp hpn hz (fun h => by simp at he; exact he h)
   refine gG rfl (cK (ts (rm rfl (rm rfl (ro rfl (fT U_26 (Ht rfl)) (ro rfl (cA (Ht rfl) (Ht rfl)) (eJ (dQ (Ht rfl) (fun hp=>?_) (fun hp=>?_)))))))))
   ·have hp2 : p = n := by simpa using hp
    have hend:=Rh hs1 hA (by rw [hpv]; exact hp2) hcn
    refine ts (rm rfl (rm rfl (ra rfl (ra rfl (eJ ?_)))))
    exact kG () trivial [0,1] ⟨⟨_,rfl,fun _ _ _ h=>h⟩,⟨_,rfl,(fun S w V h=>dM (by rw [hend]) S w V (zH (by rw [List.length_map]; omega) S w V h))⟩,trivial⟩ (by decide) (a1g rfl (fJ (fQ rfl) (jQ (by rw [hend]))) (fJ (fQ rfl) (aS (by rw [hend]))))
   ·have hp2 : p < n := by simp at hp; omega
    have hpz:=(pP (M:=A) (c:=c) (n:=n) hc).2.2.2 (by rw [hpv]; exact hp2)
    rw [hpv] at hpz
    have hnx:=Nn hs1 hA hpv hp2
    refine cU (cK (Uw (fun (q:Nat) (us:List Value) (D:List (List Qi))=>(q = sw + (if p = c then 0 else 1) ∧ D = (if p = c then A else swp [] A p c)) ∧ Pc us n) (fun (q:Nat) (us:List Value) (D:List (List Qi))=>[(0,Is (.slice (some ⟨B,0,none⟩) n n)),(4,NT .i64 q),(5,NT .i64 c),(12,NT .i64 n),(13,NT .i64 c)]) (fun (q:Nat) (us:List Value) (D:List (List Qi))=>[Z,iC B 25 60 5 us us (cL bA D)]) ?_ (fun q us D ⟨⟨hq,hD⟩,hus⟩=>?_)))
    ·refine ts (rm rfl (rm rfl (ro rfl (iQ (Ht rfl) (Ht rfl)) (eJ (dQ (Ht rfl) (fun hpc => ?_) (fun hpc => ?_))))))
     ·have hpc2 : ¬ p = c := by simpa using hpc
      refine cK (Y.D_start (m:=14) [(13,1,iC B 25 60 5 (vs.set p (hd vs c)) vs (cL bA A))] (Y.D_step (Ei:=[(0,_)]) rfl rfl (bQ (bJ rfl rfl) bX) rfl rfl (by kernel_rfl) (dX rfl (cX (Ht rfl))) (Y.D_step (Ei:=[(6,_)]) rfl rfl (bQ (bJ rfl rfl) bX) rfl rfl (by kernel_rfl) (dX rfl (cX (Ht rfl))) (bY (Ei:=[(0,_)]) rfl rfl (bQ (bJ rfl rfl) bX) rfl rfl (dX rfl (cX (Ht rfl))) (bY (Ei:=[(5,_)]) rfl rfl (bQ (bJ rfl rfl) bX) rfl rfl (dX rfl (cX (Ht rfl))) ?_)))))
      refine Y.D_step (Ei:=[(0,_)]) rfl rfl (bQ (bJ rfl rfl) bX) rfl rfl (by kernel_rfl) (dX rfl (cX (Ht rfl))) (Y.D_step (Ei:=[(5,_)]) rfl rfl (bQ (bJ rfl rfl) bX) rfl rfl (by kernel_rfl) (dX rfl (cX (Ht rfl))) (Y.D_step (Ei:=[(48,_),(49,_)]) rfl rfl (bQ (bZ 4 rfl rfl) (bQ (bZ 5 rfl rfl) bX)) rfl rfl (by kernel_rfl) (dX rfl (gX U_26 Z_25 (Ht rfl) (Ht rfl) rfl zo (by rw [Nat.mul_one,Nat.zero_add]))) ?_))
      refine Y.D_step (Ei:=[(50,_)]) rfl rfl (bQ (bZ 6 rfl rfl) bX) rfl rfl (by kernel_rfl) (dX rfl (dD A_25 Z_25 (Ht rfl) (j:=1) rfl zo)) (Y.D_step (Ei:=[(0,_)]) rfl rfl (bQ (bJ rfl rfl) bX) rfl rfl (by kernel_rfl) (dX rfl (cX (Ht rfl))) (Y.D_step (Ei:=[(6,_)]) rfl rfl (bQ (bJ rfl rfl) bX) rfl rfl (by kernel_rfl) (dX rfl (cX (Ht rfl))) (Y.D_step (Ei:=[(52,_),(53,_)]) rfl rfl (bQ (bZ 8 rfl rfl) (bQ (bZ 9 rfl rfl) bX)) rfl rfl (by kernel_rfl) (dX rfl (gX U_26 Z_25 (Ht rfl) (Ht rfl) rfl zo (by rw [Nat.mul_one,Nat.zero_add]))) ?_)))
      refine Y.D_step (Ei:=[(54,_)]) rfl rfl (bQ (bZ 10 rfl rfl) bX) rfl rfl (by kernel_rfl) (dX rfl (dD A_25 Z_25 (Ht rfl) (j:=1) rfl zo)) (Y.D_step (Ei:=[(44,_),(45,_)]) rfl rfl (bQ (bZ 0 rfl rfl) (bQ (bZ 1 rfl rfl) bX)) rfl rfl (by kernel_rfl) (dX rfl (gX U_26 Z_25 (Ht rfl) (Ht rfl) rfl zo (by rw [Nat.mul_one,Nat.zero_add]))) ?_)
      refine Y.D_putI (Ei:=[(56,_),(51,_)]) 1 rfl rfl rfl (bQ (bZ 12 rfl rfl) (bQ (bZ 7 rfl rfl) bX)) (.head _) rfl (Pe Z_25 (Ht rfl) (Ht rfl) (hvs.pl c zo) (i:=p) (hs:=vs) zo) (Y.D_done aO rfl (by kernel_rfl) rfl (by simp [Y.okP]) rfl rfl (bU (bU (bU (bU (bU (bU (bU (bU (bU (bU (bU (bU (bU (Y.F_putI (Y.F_nil ?_))))))))))))))))
      refine ro rfl (gX U_26 Z_25 (Ht rfl) (Ht rfl) rfl zo (by rw [Nat.mul_one,Nat.zero_add])) ?_
      refine a0e Z_25 (Ht rfl) (Ht rfl) (j:=1) rfl (hvs.pl p zo) (by rw [List.length_set]; omega) rfl ?_
      refine eJ (pZ 1 rfl (Nx (hs:=swp Dt vs p c) (p:=p) (c:=c) zo zo zo) (cY (rm rfl (ro rfl (dW (Ht rfl) (cJ 1) z6) (ra rfl (eJ (aL (sw + 1,swp Dt vs p c,swp [] A p c) ⟨⟨by rw [if_neg hpc2],by rw [if_neg hpc2]⟩,hvs.swp hp2 hcn⟩ (zS rfl) (cI.refl _))))))))
     ·have hpc2 : p = c := by simpa using hpc
      refine cU (aL (sw,vs,A) ⟨⟨by rw [if_pos hpc2]; rfl,by rw [if_pos hpc2]⟩,hvs⟩ (zS rfl) (cI.refl _))
    ·have hul := hus.len
     rw [← hq,← hD] at hnx
     have hDs:eR D n m:=by rw [hD]; split; exact hAs; exact xT hAs hp2 hcn
     have hDf:bP D G:=by rw [hD]; split; exact hAf; exact Ee hAf
     have hDl:=hDs.1
     have hDz : gm D c c ≠ Qi.zero := by
      rw [hD]; split
      ·rename_i e; rw [e] at hpz; exact hpz
      ·show gv (dH (swp [] A p c) c) c ≠ _
       rw [Ac zo]; exact hpz
     refine ts (rm rfl (ro rfl (dW (Ht rfl) (cJ 1) z6) (ra rfl (eJ (eU ?_)))))
     refine bF (fun (r : Nat) => c < r ∧ r ≤ n) (fun (r : Nat) => n - r) (fun (r : Nat) => [(0, Is (.slice (some ⟨B, 0, none⟩) n n)), (4, NT .i64 q), (5, NT .i64 c), (7, NT .i64 r), (12, NT .i64 n), (13, NT .i64 c)]) (fun (r : Nat) => [Z, iC B 25 60 5 us us (cL bA (redM D c r))]) (c + 1) ⟨Nat.lt_succ_self _, hcn⟩
      (zS rfl) (aU (fun _ _ _ h=>h) (aU (jP (congrArg _ Jq)) aY)) (fun r ⟨hcr,hrn⟩=>?_)
     refine cK (ts (rm rfl (rm rfl (ro rfl (fT U_26 (Ht rfl)) (ro rfl (gJ (Ht rfl) (Ht rfl)) (eJ (dQ (Ht rfl) (fun hr=>?_) (fun hr=>?_))))))))
     ·simp only [decide_eq_true_eq] at hr
      obtain ⟨X,hX⟩:∃ X,X = redM D c r:=⟨_,rfl⟩
      have hXr:dH X r = dH D r:=by rw [hX]; exact uD zo zo
      have hXc:dH X c = dH D c:=by rw [hX]; exact uD zo zo
      have hXl:X.length = n:=by rw [hX,qV]; exact hDl
      have hXrl:(dH X r).length = m:=by rw [hXr]; exact hDs.row hr
      have hXcl:(dH X c).length = m:=by rw [hXc]; exact hDs.row hcn
      have hXrg:(X.getD r []).length = m:=hXrl
      have hXcg:(X.getD c []).length = m:=hXcl
      have hXfr:cD (dH X r) G:=by rw [hXr]; exact hDf.row r
      have hXfc:cD (dH X c) G:=by rw [hXc]; exact hDf.row c
      haveI g1:aD (gm X r c) G:=hXfr.get hG1 c
      haveI g2:aD (gm X c c) G:=hXfc.get hG1 c
      have hXz:gm X c c ≠ Qi.zero:=by show gv (dH X c) c ≠ _; rw [hXc]; exact hDz
      haveI g3:aD (gm X r c / gm X c c) (G + 3 * G + 2):=⟨g1.fit.div g2.fit hXz⟩
      have hend:=Tt (D:=D) (r:=r) (c:=c) zo hcr
      rw [← hX] at hend ⊢
      refine cU (cK (eU (cK (Y.D_start (m:=21) [] (bY (Ei:=[(0,_)]) rfl rfl (bQ (bJ rfl rfl) bX) rfl rfl (dX rfl (cX (Ht rfl))) (bY (Ei:=[(7,_)]) rfl rfl (bQ (bJ rfl rfl) bX) rfl rfl (dX rfl (cX (Ht rfl))) (bY (Ei:=[(69,_),(70,_)]) rfl rfl (bQ (bZ 0 rfl rfl) (bQ (bZ 1 rfl rfl) bX)) rfl rfl (dX rfl (gX U_26 Z_25 (Ht rfl) (Ht rfl) rfl zo (by rw [Nat.mul_one,Nat.zero_add]))) ?_)))))))
      refine bY (Ei:=[(71,_)]) rfl rfl (bQ (bZ 2 rfl rfl) bX) rfl rfl (dX rfl (dD A_25 Z_25 (Ht rfl) (j:=1) rfl zo)) (bY (Ei:=[(5,_)]) rfl rfl (bQ (bJ rfl rfl) bX) rfl rfl (dX rfl (cX (Ht rfl))) (bY (Ei:=[(72,_),(73,_)]) rfl rfl (bQ (bZ 3 rfl rfl) (bQ (bZ 4 rfl rfl) bX)) rfl rfl (dX rfl (dN U_25 Z_60 (Ht rfl) (Ht rfl) rfl (j:=1) rfl zo zo zo)) (bY (Ei:=[(74,_)]) rfl rfl (bQ (bZ 5 rfl rfl) bX) rfl rfl (dX rfl (gF A_60 Z_60 (Ht rfl) (j:=1) rfl zo zo zo)) ?_)))
      refine bY (Ei:=[(75,_)]) rfl rfl (bQ (bZ 6 rfl rfl) bX) rfl rfl (dX rfl (eP gD (Ht rfl))) (bY (Ei:=[(0,_)]) rfl rfl (bQ (bJ rfl rfl) bX) rfl rfl (dX rfl (cX (Ht rfl))) (bY (Ei:=[(5,_)]) rfl rfl (bQ (bJ rfl rfl) bX) rfl rfl (dX rfl (cX (Ht rfl))) (bY (Ei:=[(77,_),(78,_)]) rfl rfl (bQ (bZ 8 rfl rfl) (bQ (bZ 9 rfl rfl) bX)) rfl rfl (dX rfl (gX U_26 Z_25 (Ht rfl) (Ht rfl) rfl zo (by rw [Nat.mul_one,Nat.zero_add]))) ?_)))
      refine bY (Ei:=[(79,_)]) rfl rfl (bQ (bZ 10 rfl rfl) bX) rfl rfl (dX rfl (dD A_25 Z_25 (Ht rfl) (j:=1) rfl zo)) (bY (Ei:=[(5,_)]) rfl rfl (bQ (bJ rfl rfl) bX) rfl rfl (dX rfl (cX (Ht rfl))) (bY (Ei:=[(80,_),(81,_)]) rfl rfl (bQ (bZ 11 rfl rfl) (bQ (bZ 12 rfl rfl) bX)) rfl rfl (dX rfl (dN U_25 Z_60 (Ht rfl) (Ht rfl) rfl (j:=1) rfl zo zo zo)) (bY (Ei:=[(82,_)]) rfl rfl (bQ (bZ 13 rfl rfl) bX) rfl rfl (dX rfl (gF A_60 Z_60 (Ht rfl) (j:=1) rfl zo zo zo)) ?_)))
      refine bY (Ei:=[(76,_),(83,_)]) rfl rfl (bQ (bZ 7 rfl rfl) (bQ (bZ 14 rfl rfl) bX)) rfl rfl (dX rfl (dL qP K_64 (vQ (x:=gm X r c) (y:=gm X c c) (L:=G) (M:=G) zo) (Ht rfl) ⟨(Ht rfl),trivial⟩)) (bY (Ei:=[(84,_)]) rfl rfl (bQ (bZ 15 rfl rfl) bX) rfl rfl (dX rfl (cX (Ht rfl))) (bY (Ei:=[(68,_)]) rfl rfl (bQ (bZ 16 rfl rfl) bX) rfl rfl (dX rfl (dY (Ht rfl) rfl)) (bY (Ei:=[(68,_)]) rfl rfl (bQ (bZ 16 rfl rfl) bX) rfl rfl (dX rfl (dY (Ht rfl) rfl)) ?_)))
      refine Y.D_newp (Ei:=[]) (fun bb=>box bb 60 [aC (decide ((gm X r c / gm X c c).a < 0)),aE (gm X r c / gm X c c).a.natAbs,aC (decide ((gm X r c / gm X c c).b < 0)),aE (gm X r c / gm X c c).b.natAbs,aE (du (gm X r c / gm X c c))]) 20 rfl rfl rfl bX rfl rfl (by kernel_rfl) (eK (Ts:=[Is (.bool false),Is (.slice none 0 0),Is (.bool false),Is (.slice none 0 0),Is (.slice none 0 0)]) O_60 rfl (fun V=>aW zd (aW zd (aW zd (aW zd (aW zd (aG))))))) ?_
      refine Y.D_putN (Ei:=[(85,_)]) 19 rfl rfl rfl rfl rfl rfl (bQ (bZ 17 rfl rfl) bX) (fun bb=>mY Z_60 (Ht rfl) (Ht rfl) rfl (i:=0) rfl (aK rfl) rfl rfl) (Y.D_done aO rfl (by kernel_rfl) rfl (by simp [Y.okP]) rfl rfl (bU (bU (bU (bU (bU (bU (bU (bU (bU (bU (bU (bU (bU (bU (bU (bU (bU (bU (bU (Y.F_newp (fun B8=>Y.F_putN (Y.F_nil ?_)))))))))))))))))))))))
      refine ra rfl (eJ (ts (rm rfl (ro rfl (dW (Ht rfl) (cJ 1) z6) (ra rfl (eJ (eU ?_)))))))
      refine bF (fun (k : Nat) => c < k ∧ k ≤ m) (fun (k : Nat) => m - k) (fun (k : Nat) => [(0, Is (.slice (some ⟨B, 0, none⟩) n n)), (4, NT .i64 q), (5, NT .i64 c), (7, NT .i64 r), (8, cC B8 0), (10, NT .i64 k), (12, NT .i64 n), (13, NT .i64 c)]) (fun (k : Nat) => [Z, iC B 25 60 5 us us (cL bA (X.set r (kL (dH X r) (dH X c) c k))), box B8 60 [aC (decide ((gm X r c / gm X c c).a < 0)), aE (gm X r c / gm X c c).a.natAbs, aC (decide ((gm X r c / gm X c c).b < 0)), aE (gm X r c / gm X c c).b.natAbs, aE (du (gm X r c / gm X c c))]]) (c + 1) ⟨Nat.lt_succ_self _, by omega⟩
       (zS rfl) (aU (fun _ _ _ h=>h) (aU (jP (by rw [← Jr,a1h zo])) (aU (aB rfl) aY))) (fun k ⟨hck,hkm⟩=>?_)
      obtain ⟨Y,hY⟩:∃ Y,Y = (X.set r (kL (dH X r) (dH X c) c k)):=⟨_,rfl⟩
      have hYl:Y.length = n:=by rw [hY,List.length_set]; exact hXl
      have hYrl:(dH Y r).length = m:=by rw [hY,vH zo,uE]; exact hXrl
      have hYcl:(dH Y c).length = m:=by rw [hY,oR zo]; exact hXcl
      have hYrg:(Y.getD r []).length = m:=hYrl
      have hYcg:(Y.getD c []).length = m:=hYcl
      rw [← hY]
      refine cK (ts (rm rfl (rm rfl (rm rfl (ro rfl (gX U_26 Z_25 (Ht rfl) (Ht rfl) rfl zo (by rw [Nat.mul_one,Nat.zero_add])) ?_)))))
      refine ro rfl (dD A_25 Z_25 (Ht rfl) (j:=1) rfl zo) (ro rfl (Xx U_25 (Ht rfl) (j:=1) rfl zo zo) (ro rfl (gJ (Ht rfl) (Ht rfl)) (eJ (dQ (Ht rfl) (fun hk=>?_) (fun hk=>?_)))))
      ·have hk2 : k < m := by simp only [decide_eq_true_eq] at hk; omega
       have e1:gm Y r k = gv (dH X r) k:=by rw [hY]; exact a1U zo zo hck
       have e2:gm Y c k = gv (dH X c) k:=by rw [hY]; exact a1T zo
       haveI y1:aD (gm Y r k) G:=by rw [e1]; exact hXfr.get hG1 k
       haveI y2:aD (gm Y c k) G:=by rw [e2]; exact hXfc.get hG1 k
       have hst:=Tp (X:=X) (r:=r) (c:=c) (k:=k) zo zo zo hck
       rw [← hY] at hst
       refine cU (cK (eU (fV (m:=24) (dp 0 rfl (cX (Ht rfl)) (dp 7 rfl (cX (Ht rfl)) (bR 98 0 99 1 rfl (gX U_26 Z_25 (Ht rfl) (Ht rfl) rfl zo (by rw [Nat.mul_one,Nat.zero_add])) ?_))))))
       refine dq 100 2 rfl (dD A_25 Z_25 (Ht rfl) (j:=1) rfl zo) (dp 10 rfl (cX (Ht rfl)) (dp 0 rfl (cX (Ht rfl)) (dp 7 rfl (cX (Ht rfl)) (bR 103 5 104 6 rfl (gX U_26 Z_25 (Ht rfl) (Ht rfl) rfl zo (by rw [Nat.mul_one,Nat.zero_add])) ?_))))
       refine dq 105 7 rfl (dD A_25 Z_25 (Ht rfl) (j:=1) rfl zo) (dp 10 rfl (cX (Ht rfl)) (bR 106 8 107 9 rfl (dN U_25 Z_60 (Ht rfl) (Ht rfl) rfl (j:=1) rfl zo zo zo) (dq 108 10 rfl (gF A_60 Z_60 (Ht rfl) (j:=1) rfl zo zo zo) (dq 109 11 rfl (eP gD (Ht rfl)) (dp 8 rfl (eG A_60 Z_60 (Ht rfl) (i:=2) rfl rfl rfl) (dq 111 13 rfl (eP gD (Ht rfl)) (dp 0 rfl (cX (Ht rfl)) (dp 5 rfl (cX (Ht rfl)) (bR 113 15 114 16 rfl (gX U_26 Z_25 (Ht rfl) (Ht rfl) rfl zo (by rw [Nat.mul_one,Nat.zero_add])) ?_)))))))))
       refine dq 115 17 rfl (dD A_25 Z_25 (Ht rfl) (j:=1) rfl zo) (dp 10 rfl (cX (Ht rfl)) (bR 116 18 117 19 rfl (dN U_25 Z_60 (Ht rfl) (Ht rfl) rfl (j:=1) rfl zo zo zo) (dq 118 20 rfl (gF A_60 Z_60 (Ht rfl) (j:=1) rfl zo zo zo) (bR 112 14 119 21 rfl (dL jW K_70 (nA (x:=gm X r c / gm X c c) (y:=gm Y c k) (L:=G + 3 * G + 2) (M:=G) zo) (Ht rfl) ⟨(Ht rfl),trivial⟩) (bR 110 12 120 22 rfl (dL nU K_69 (yM (x:=gm Y r k) (y:=gm X r c / gm X c c * gm Y c k) (L:=G) (M:=G + 3 * G + 2 + G + 1) zo) (Ht rfl) ⟨(Ht rfl),trivial⟩) ?_)))))
       refine fG aO rfl (by kernel_rfl) (zF (zF (zF (zF (zF (zF (aV (ro rfl (dN U_25 Z_60 (Ht rfl) (Ht rfl) rfl (j:=1) rfl zo zo zo) (Pf Z_60 (Ht rfl) (Ht rfl) (j:=1) rfl (El.ag rfl) (F:=bA) (z:=gm Y r k - gm X r c / gm X c c * gm Y c k) zo zo zo rfl (eJ (bC (cY ?_))))))))))))
       refine rm rfl (ro rfl (dW (Ht rfl) (cJ 1) z6) (ra rfl (eJ (gQ (k + 1) ⟨by omega,hk2⟩ zo (zS rfl) (aU (fun _ _ _ h=>h) (aU (jP (congrArg _ hst)) (aU (aB rfl) aY)))))))
      ·have hk3 : k = m := by simp only [decide_eq_false_iff_not] at hk; omega
       subst hk3
       refine gG rfl (bC (cY (rm rfl (ro rfl (dW (Ht rfl) (cJ 1) z6) (ra rfl (eJ (eB [0,1] rfl (by decide) (gQ (r + 1) ⟨by omega,hr⟩ zo (zS rfl) (aU (fun _ _ _ h=>h) (aU (jP (by rw [hY,← hend,hDs.row hr])) aY))))))))))
     ·simp only [decide_eq_false_iff_not] at hr
      obtain rfl:r = n:=Nat.le_antisymm hrn zo
      refine gG rfl (bC (cY (ro rfl (dW (Ht rfl) (cJ 1) z6) (rm rfl (eJ (gQ (c + 1,q,us,redM D c r) ⟨⟨hcn,by show q ≤ c + 1; rw [hq]; split <;> omega⟩,hnx,hus⟩ (by dsimp only; omega) (zS rfl) (cI.refl _)))))))
 ·simp only [decide_eq_false_iff_not] at hcn
  obtain rfl:c = n:=Nat.le_antisymm hc zo
  have hvl:=hvs.len
  have hAs:eR A c m:=by have h:=oL hs hc; rw [hA] at h; exact h
  refine gG rfl (ts (rm rfl (ra rfl (ro rfl (cQ cV) (eJ ?_)))))
  exact kG () trivial [0,1] ⟨⟨_,rfl,fun _ _ _ h=>h⟩,⟨_,rfl,(fun S w V h=>dM (by rw [hA]) S w V (zH (by rw [List.length_map,hAs.1]; exact hvl) S w V h))⟩,trivial⟩ (by decide) (a1g rfl (fJ (fQ rfl) (jQ (by rw [hA]))) (fJ (fQ rfl) (aS (by rw [hA]))))
end
section
open Go Go.RowKit
abbrev Fn (M bs:List (List Qi)) (i:Nat):List Qi:=dH M i ++ bs.map fun b=>gv b i
def oI (M bs:List (List Qi)) (n:Nat):List (List Qi):=tab n (Fn M bs)
theorem Wf {r:List Qi} {bs:List (List Qi)} {i j:Nat} (h:j < bs.length):(r ++ (bs.take j).map fun b=>gv b i) ++ [gv (bs.getD j []) i] = r ++ (bs.take (j + 1)).map fun b=>gv b i:=by
 rw [List.append_assoc,List.take_add_one,List.map_append]
 simp [List.getD,h]
theorem oJ {M bs:List (List Qi)} {n m:Nat} (h:eR M n m):eR (oI M bs n) n (m + bs.length):=by
 refine ⟨aT _ _,fun r hr=>?_⟩
 obtain ⟨i,hi,rfl⟩:=eE.1 hr
 rw [List.length_append,List.length_map,h.row hi]
theorem uU {M bs : List (List Qi)} {n L : Nat} (h : bP M L) (hb : bP bs L) (hL : 1 ≤ L) : bP (oI M bs n) L := fun r hr x hx => by
 obtain ⟨i,hi,rfl⟩:=eE.1 hr
 rcases List.mem_append.1 hx with h1 | h1
 ·exact h.row i x h1
 ·obtain ⟨b, hb1, rfl⟩ := List.mem_map.1 h1
  exact cD.get (hb b hb1) hL i
theorem Nd {M:List (List Qi)} {n m:Nat} (h:eR M n m):oI M [] n = M:=by
 have:oI M [] n = tab n (dH M):=bE fun i _=>by simp [Fn]
 rw [this]; exact (Ae (h:=h.1)).symm
def rB (U : List (List Qi)) (x : List Qi) (n c : Nat) : Nat → Qi
 | 0=>gm U c n
 | k + 1=>rB U x n c k - gm U c (c + 1 + k) * gv x (c + 1 + k)
def vO (U : List (List Qi)) (n : Nat) : Nat → List Qi
 | 0=>tab n fun _=>Qi.zero
 | j + 1=>(vO U n j).set (n - (j + 1)) (rB U (vO U n j) n (n - (j + 1)) j / gm U (n - (j + 1)) (n - (j + 1)))
theorem Cj (U : List (List Qi)) (n : Nat) : ∀ j, (vO U n j).length = n
 | 0=>aT _ _
 | j + 1=>by rw [vO,List.length_set,Cj U n j]
def zY (M:List (List Qi)) (b:List Qi) (n:Nat):List (List Qi) × Nat × Int:=dR (oI M [b] n) n
def sK (M:List (List Qi)) (b:List Qi) (n:Nat):Int:=if 0 ≤ (zY M b n).2.2 then 6 else 0
def zZ (M:List (List Qi)) (b:List Qi) (n:Nat):List Qi:=vO (zY M b n).1 n n
def Hr (G : Nat) : Nat → Nat
 | 0=>G
 | j + 1=>j * (Hr G j + G + 2) + 4 * G + 2
theorem Al (G j:Nat):Hr G j ≤ Hr G (j + 1):=by
 cases j with
 | zero=>simp only [Hr]; omega
 | succ j =>
  have:Hr G (j + 1) + G + 2 ≤ (j + 1) * (Hr G (j + 1) + G + 2):=Nat.le_mul_of_pos_left _ zo
  rw [show Hr G (j + 1 + 1) = (j + 1) * (Hr G (j + 1) + G + 2) + 4 * G + 2 from rfl]
  omega
theorem Ka (G : Nat) : ∀ j, G ≤ Hr G j
 | 0=>Nat.le_refl _
 | j + 1=>Nat.le_trans (Ka G j) (Al G j)
theorem Hu (G : Nat) : ∀ {i j : Nat}, i ≤ j → Hr G i ≤ Hr G j
 | i,0,h=>by rw [show i = 0 by omega]; exact Nat.le_refl _
 | i, j + 1, h => by
  by_cases e:i = j + 1
  ·rw [e]; exact Nat.le_refl _
  ·exact Nat.le_trans (Hu G (show i ≤ j by omega)) (Al G j)
theorem uX {M : List (List Qi)} {n m : Nat} (hs : eR M n m) : ∀ {c : Nat}, c ≤ n → (dR M c).2.2 < 0 → ∀ i, i < c → gm (dR M c).1 i i ≠ Qi.zero
 | 0,_,_,i,hi=>by omega
 | c + 1, hc, hst, i, hi => by
  have sh:=oL hs (c:=c) zo
  obtain ⟨_,i2,i3,i4⟩:=pP (M:=(dR M c).1) (c:=c) (n:=M.length) (by rw [hs.1]; omega)
  simp only [dR] at hst ⊢
  split at hst
  ·rename_i h0; omega
  ·rename_i h0
   rw [if_neg h0]
   split at hst
   ·simp at hst; omega
   ·rename_i h1
    rw [if_neg h1]
    have ih:=uX hs (c:=c) zo zo
    have hl : ∀ X : List (List Qi), X.length = n → gm (redM X c M.length) i i = gm X i i := fun X hX => by
     show gv (dH (redM X c M.length) i) i = _
     rw [uD zo zo]
    by_cases e:pv (dR M c).1 c M.length = c
    ·rw [if_pos e, hl _ sh.1]
     by_cases e2:i = c
     ·rw [e2]; have:=i4 (by have:=hs.1; omega); rw [e] at this; exact this
     ·exact ih i zo
    ·have hpl : pv (dR M c).1 c M.length < n := by rw [← hs.1]; omega
     rw [if_neg e,hl _ ((Ef _ _ _ _).trans sh.1)]
     by_cases e2:i = c
     ·rw [e2]
      show gv (dH (swp [] _ _ c) c) c ≠ _
      rw [Ac (by rw [sh.1]; omega)]
      exact i4 (by have:=hs.1; omega)
     ·have : dH (swp [] (dR M c).1 (pv (dR M c).1 c M.length) c) i = dH (dR M c).1 i := by
       simp only [dH,swp,List.getD]
       rw [List.getElem?_set_ne (Ne.symm e2),List.getElem?_set_ne zo]
      show gv (dH (swp [] _ _ c) i) i ≠ _
      rw [this]; exact ih i zo
theorem xS {U : List (List Qi)} {x : List Qi} {n c G X : Nat} (hU : bP U G) (hx : cD x X) (hG : 1 ≤ G) (hX : 1 ≤ X) : ∀ k, aD (rB U x n c k) (G + k * (G + X + 2))
 | 0=>(hU.get hG c n).le zo
 | k + 1 => by
  haveI f1:=xS (n:=n) (c:=c) hU hx hG hX k
  haveI f2:=hU.get hG c (c + 1 + k)
  haveI f3:=hx.get hX (c + 1 + k)
  have:aD (rB U x n c (k + 1)) (G + k * (G + X + 2) + (G + X + 1) + 1):=by unfold rB; infer_instance
  exact this.le (by rw [Nat.add_mul]; omega)
theorem a0n {U:List (List Qi)} {x:List Qi} {n c G X j:Nat} (hU:bP U G) (hx:cD x X) (hG:1 ≤ G) (hX:1 ≤ X) (hz:gm U c c ≠ Qi.zero):aD (rB U x n c j / gm U c c) (j * (X + G + 2) + 4 * G + 2):=by
 have f1:=xS (n:=n) (c:=c) hU hx hG hX j
 have f2:=hU.get hG c c
 have:aD (rB U x n c j / gm U c c) (G + j * (G + X + 2) + 3 * G + 2):=⟨f1.fit.div f2.fit hz⟩
 exact this.le (by rw [Nat.add_comm X G]; omega)
theorem Ps {U : List (List Qi)} {n G : Nat} (hU : bP U G) (hG : 1 ≤ G) (hz : ∀ i, i < n → gm U i i ≠ Qi.zero) : ∀ j, j ≤ n → cD (vO U n j) (Hr G j)
 | 0,_=>cD.tab fun _ _=>aD.zero hG
 | j + 1, hj => fun y hy => by
  have ih:=Ps hU hG hz j zo
  rcases List.mem_or_eq_of_mem_set hy with h1 | h1
  ·exact (ih y h1).le (Al G j)
  ·rw [h1]; exact a0n hU ih hG (Nat.le_trans hG (Ka G j)) (hz _ zo)
theorem Tm {M:List (List Qi)} {b:List Qi} {n:Nat} (h:eR M n n):eR (zY M b n).1 n (n + 1):=oL (oJ h) (Nat.le_refl n)
theorem Tl {M:List (List Qi)} {b:List Qi} {n L:Nat} (h:eR M n n) (hM:bP M L) (hb:cD b L) (hL:1 ≤ L):bP (zY M b n).1 (nC L n):=yV (oJ h) (uU hM (fun r hr=>by simp at hr; subst hr; exact hb) hL) hL (Nat.le_refl n)
def Aj (n i:Nat):List Qi:=(tab n fun _=>Qi.zero).set i (Qi.ofInt 1)
def yZ (n:Nat):List (List Qi):=tab n (Aj n)
theorem pK (n:Nat):eR (yZ n) n n:=⟨aT _ _,fun r hr=>by obtain ⟨i,_,rfl⟩:=eE.1 hr; rw [Aj,List.length_set,aT]⟩
theorem lZ:aD (Qi.ofInt 1) 1:=⟨Qi.Fit.int (L:=1) (by decide) (by decide)⟩
theorem Ov {n i L : Nat} (h : 1 ≤ L) : cD (Aj n i) L := fun x hx => by
 rcases List.mem_or_eq_of_mem_set hx with h1 | h1
 ·obtain ⟨_,_,rfl⟩:=eE.1 h1; exact aD.zero h
 ·rw [h1]; exact lZ.le h
theorem Dk {n L:Nat} (h:1 ≤ L):bP (yZ n) L:=fun r hr=>by obtain ⟨i,_,rfl⟩:=eE.1 hr; exact Ov h
theorem Mm {M:List (List Qi)} {b:List Qi} {n:Nat} (h:¬ 0 ≤ (zY M b n).2.2):(zY M b n).2.2 < 0:=by omega
theorem Eg (F:Qi → Ty) (n:Nat):List.replicate n (F Qi.zero) = (tab n fun _=>Qi.zero).map F:=by rw [mB,uF]
theorem a1E {n j:Nat} (h:(0:Int) ≤ (n:Int) - 1 - (j:Int)):j < n:=by omega
theorem a1F {n j:Nat} (h:(n:Int) - 1 - (j:Int) < 0):n ≤ j:=by omega
end
section
open Go Go.RowKit
theorem Na  : aP Tryz.prog 172 [fB []] (aC true):=by
 refine aP.intro Tryz.func172 rfl Tryz.ntmps172 rfl (fun cx=>(ts (ro rfl (cQ cV) (eJ (ts (rm rfl (ro rfl (cZ Tryz.call226 Io ⟨(Ht rfl),trivial⟩) (rm rfl (ro rfl (dY (Ht rfl) rfl) (ro rfl (dY (Ht rfl) rfl) (ra rfl (ra rfl (eJ (ts (rm rfl (rm rfl (fZ rfl rfl (eY rfl rfl (Ht rfl) (fun h=>cX (Ht rfl))) (fZ rfl rfl (eY rfl rfl (Ht rfl) (fun h=>cX (Ht rfl))) (fZ rfl rfl (eY rfl rfl (Ht rfl) (fun h=>dU U_26 (fW rfl h) aA)) (fZ rfl rfl (eY rfl rfl (Ht rfl) (fun h=>cA (fW rfl h) (fW rfl h))) ?_))))))))))))))))))))
 refine ro rfl (dO (Ht rfl) (fun h=>(fW rfl h))) (ra rfl (eJ (fK rfl (fJ (fQ rfl) ?_))))
 exact (bN (by simp))
theorem Fg {M:List (List Qi)} {n:Nat} (h:eR M n n) (h1:1 ≤ n) (hn:n ≤ 32):aP Tryz.prog 172 [fB M] (aC true):=by
 have hl:=h.1
 refine aP.intro Tryz.func172 rfl Tryz.ntmps172 rfl (fun cx=>(ts (ro rfl (cQ cV) (eJ (ts (rm rfl (ro rfl (cZ Tryz.call226 (Mv h h1 hn hn) ⟨(Ht rfl),trivial⟩) (rm rfl (ro rfl (dY (Ht rfl) rfl) (ro rfl (dY (Ht rfl) rfl) (ra rfl (ra rfl (eJ (ts (rm rfl (rm rfl (fZ rfl rfl (eY rfl rfl (Ht rfl) (fun h=>cX (Ht rfl))) (fZ rfl rfl (eY rfl rfl (Ht rfl) (fun h=>cX (Ht rfl))) (fZ rfl rfl (eY rfl rfl (Ht rfl) (fun h=>dU U_26 (fW rfl h) aA)) (fZ rfl rfl (eY rfl rfl (Ht rfl) (fun h=>cA (fW rfl h) (fW rfl h))) ?_))))))))))))))))))))
 refine ro rfl (dO (Ht rfl) (fun h=>(fW rfl h))) (ra rfl (eJ (fK rfl (fJ (fQ rfl) ?_))))
 exact (bN (by simp [hl]))
theorem Bi {M:List (List Qi)} {n:Nat} (h:eR M n n) (hn:n ≤ 32):aP Tryz.prog 172 [fB M] (aC true):=by
 by_cases e:n = 0
 ·subst e
  obtain rfl:=List.length_eq_zero_iff.1 h.1
  exact Na
 ·exact Fg h zo hn
theorem Bd {M bs:List (List Qi)} {n m:Nat} (hM:eR M n m) (hb:∀ b,b ∈ bs → n ≤ b.length) (hn:n ≤ 1000) (hm:m ≤ 1000) (hbl:bs.length ≤ 1000):iI Tryz.prog 195 [fB M,fB bs] [] (Nat) (fun B=>Is (.slice (some ⟨B,0,none⟩) n n)) (fun B=>[pL B 25 60 5 (cL bA (oI M bs n))]) (fun _=>True):=by
 have hMl:=hM.1
 refine iI.intro Tryz.func195 rfl Tryz.ntmps195 rfl (fun cx Z=>(ts (ro rfl (cQ cV) (eJ (ts (rm rfl (ro rfl (dU U_26 (Ht rfl) aA) (rn rfl (eI (T:=Is (.slice none 0 0)) (i:=Tryz.t25) Tryz.underlying26 xJ rfl rfl (Ht rfl) rfl (fun _=>rfl) trivial (by show 24 * _ ≤ _; omega) zo) fun B12=>(ra rfl (eJ (cK (ts (rm rfl (ro rfl (dU U_26 (Ht rfl) aA) (ro rfl (cX (cJ 0)) (eJ (eU (pZ 1 rfl (xK (e:=60) (s:=5)) ?_))))))))))))))))))
 refine bF (fun (i : Nat) => i ≤ M.length) (fun (i : Nat) => M.length - i) (fun (i : Nat) => [(0, fB M), (1, fB bs), (5, Is (.slice (some ⟨B12, 0, none⟩) M.length M.length)), (13, fB M), (14, NT .i64 M.length), (15, NT .i64 i)]) (fun (i : Nat) => [Z, pL B12 25 60 5 (cL bA (lO (Fn M bs) [] M.length i))]) 0 (Nat.zero_le _)
  (zS rfl) (aU (fun _ _ _ h=>h) (aU (dM (by rw [← jX,sH]; exact qW bA M.length)) aY)) (fun i hi=>?_)
 refine ts (ro rfl (gJ (Ht rfl) (Ht rfl)) (eJ (cK (dQ (Ht rfl) (fun hd0=>?_) (fun hd0=>?_)))))
 ·simp only [decide_eq_true_eq] at hd0
  have hrl:(dH M i).length = m:=hM.row zo
  have hrl2:(M.getD i []).length = m:=hrl
  refine oV 1 (i) rfl (tV hd0) (fun v0=>(cU (cK (eU (ts (rm rfl (ro rfl (dZ U_26 Z_25 (Ht rfl) (Ht rfl) rfl (eX (eQ (d:=[]) hd0))) (ro rfl (dJ A_25 Z_25 (Ht rfl)) (ra rfl (ra rfl (eJ (ts (rm rfl (rm rfl (rm rfl (lY Tryz.call109 (Eu (l:=M.getD i []) zo) ⟨(Ht rfl),trivial⟩ rfl (fun v1 _=>(ro rfl (gX U_26 Z_25 (Ht rfl) (Ht rfl) rfl zo (by rw [Nat.mul_one,Nat.zero_add])) ?_))))))))))))))))))
  refine yC Z_25 (Ht rfl) (Ht rfl) (by simp only [cL,List.length_map,fH]; omega) (j:=1) (l:=3) rfl rfl rfl ?_
  refine eJ (ts (rm rfl (ro rfl (dU U_26 (Ht rfl) aA) (ro rfl (cX (cJ 0)) (eJ (eU (eB [0,1,3] rfl (by decide) ?_)))))))
  refine eS (fun (j : Nat) (v : Value) => j ≤ bs.length) (fun (j : Nat) (v : Value) => bs.length - j) (fun (j : Nat) (v : Value) => [(0, fB M), (1, fB bs), (5, Is (.slice (some ⟨B12, 0, none⟩) M.length M.length)), (6, NT .i64 i), (13, fB M), (14, NT .i64 M.length), (15, NT .i64 i), (25, fB bs), (26, NT .i64 bs.length), (27, NT .i64 j)]) (fun (j : Nat) (v : Value) => [Z, Sb B12 25 60 5 (cL bA (lO (Fn M bs) [] M.length i)) i v, bI 60 5 v ((dH M i ++ (bs.take j).map fun b => gv b i).map bA)]) 0 v1 (Nat.zero_le _)
   (zS rfl) (aU (fun _ _ _ h=>h) (aU (fun _ _ _ h=>h) (aU (bL (by simp)) aY))) (fun j v hj=>?_)
  refine ts (ro rfl (gJ (Ht rfl) (Ht rfl)) (eJ (cK (dQ (Ht rfl) (fun he=>?_) (fun he=>?_)))))
  ·simp only [decide_eq_true_eq] at he
   have hbj:i < (bs.getD j []).length:=by have h1:=hb (bs.getD j []) (by rw [Wx he]; exact List.getElem_mem _); omega
   refine cU (cK (eU (ts (ro rfl (dZ U_26 Z_25 (Ht rfl) (Ht rfl) rfl (eX (eQ (d:=[]) he))) (ro rfl (dJ A_25 Z_25 (Ht rfl)) (ra rfl (eJ (Y.D_startA (m:=12) [] 11 2 rfl rfl (bY (Ei:=[(5,_)]) rfl rfl (bQ (bJ rfl rfl) bX) rfl rfl (dX rfl (cX (Ht rfl))) (bY (Ei:=[(6,_)]) rfl rfl (bQ (bJ rfl rfl) bX) rfl rfl (dX rfl (cX (Ht rfl))) (bY (Ei:=[(5,_)]) rfl rfl (bQ (bJ rfl rfl) bX) rfl rfl (dX rfl (cX (Ht rfl))) ?_)))))))))))
   refine bY (Ei:=[(6,_)]) rfl rfl (bQ (bJ rfl rfl) bX) rfl rfl (dX rfl (cX (Ht rfl))) (bY (Ei:=[(33,_),(34,_)]) rfl rfl (bQ (bZ 2 rfl rfl) (bQ (bZ 3 rfl rfl) bX)) rfl rfl (dX rfl (gX U_26 Z_25 (Ht rfl) (Ht rfl) rfl zo (by rw [Nat.mul_one,Nat.zero_add]))) ?_)
   refine bY (Ei:=[(35,_)]) rfl rfl (bQ (bZ 4 rfl rfl) bX) rfl rfl (dX rfl (kX A_25 Z_25 (Ht rfl) (j:=1) rfl)) (bY (Ei:=[(9,_)]) rfl rfl (bQ (bJ rfl rfl) bX) rfl rfl (dX rfl (cX (Ht rfl))) (bY (Ei:=[(6,_)]) rfl rfl (bQ (bJ rfl rfl) bX) rfl rfl (dX rfl (cX (Ht rfl))) (bY (Ei:=[(37,_),(38,_)]) rfl rfl (bQ (bZ 6 rfl rfl) (bQ (bZ 7 rfl rfl) bX)) rfl rfl (dX rfl (dZ U_25 Z_60 (Ht rfl) (Ht rfl) rfl (eX (eQ (d:=Qi.zero) hbj)))) ?_)))
   refine bY (Ei:=[(39,_)]) rfl rfl (bQ (bZ 8 rfl rfl) bX) rfl rfl (dX rfl (dJ A_60 Z_60 (Ht rfl))) (bY (Ei:=[(40,_)]) rfl rfl (bQ (bZ 9 rfl rfl) bX) rfl rfl (dX rfl (fE (xs:=[.tmp 40]) U_25 Z_60 O_60 (cW (Ht rfl) cG) rfl rfl rfl)) (Y.D_app (Ei:=[(36,_),(41,_)]) rfl rfl rfl rfl (bQ (bZ 5 rfl rfl) (bQ (bZ 10 rfl rfl) bX)) rfl (Pa (inf:=Tryz.t60) pR mO rfl rfl rfl (Ht rfl) (Ht rfl) (by simp) (fun T hT=>by simp at hT; subst hT; exact El.ag rfl) (by show _ * 88 ≤ _; simp only [List.length_map,List.length_append,List.length_take,List.length_cons,List.length_nil]; omega) (by simp only [List.length_map,List.length_append,List.length_take,List.length_cons,List.length_nil]; omega)) ?_))
   refine Y.D_done aO rfl (by kernel_rfl) rfl (by simp [Y.okP]) rfl rfl (bU (bU (bU (bU (bU (bU (bU (bU (bU (bU (bU (Y.F_app (fun v2=>Y.F_nil ?_)))))))))))))
   refine ro rfl (gX U_26 Z_25 (Ht rfl) (Ht rfl) rfl zo (by rw [Nat.mul_one,Nat.zero_add])) ?_
   refine yC Z_25 (Ht rfl) (Ht rfl) (by simp only [cL,List.length_map,fH]; omega) (j:=1) (l:=3) rfl rfl rfl ?_
   refine eJ (bC (cY (ro rfl (dW (Ht rfl) (cJ 1) z6) (rm rfl (eJ (eB [0,1,3] rfl (by decide) (gQ (j + 1,v2) he (by dsimp only; omega) (zS rfl) (aU (fun _ _ _ h=>h) (aU (fun _ _ _ h=>h) (aU (bL ((Pq bA _ (gv (bs.getD j []) i)).trans (congrArg _ (Wf he)))) aY))))))))))
  ·simp only [decide_eq_false_iff_not] at he
   obtain rfl:bs.length = j:=Nat.le_antisymm zo hj
   refine gG rfl (bC (jH 1 2 rfl rfl (by decide) (by simp only [cL,List.length_map,fH]; omega) ?_))
   refine cY (ro rfl (dW (Ht rfl) (cJ 1) z6) (rm rfl (eJ (eB [0,1] rfl (by decide) (gQ (i + 1) hd0 zo (zS rfl) (aU (fun _ _ _ h=>h) (aU (dM (by rw [List.take_length,jY,← lI (f:=Fn M bs)])) aY)))))))
 ·simp only [decide_eq_false_iff_not] at hd0
  obtain rfl:i = M.length:=Nat.le_antisymm hi zo
  subst hMl
  refine gG rfl (ts (rm rfl (ra rfl (eJ ?_))))
  exact kG B12 trivial [0,1] ⟨⟨_,rfl,fun _ _ _ h=>h⟩,⟨_,rfl,(dM (by rw [lH]; rfl))⟩,trivial⟩ (by decide) (vG rfl (fQ rfl))
end
section
open Go Go.RowKit
abbrev ek (n k:Nat):List Qi:=(yZ n).getD k []
theorem a0K {n k:Nat} (h:k < n):(ek n k).length = n:=(pK n).row h
theorem a0J {n k L:Nat} (h:1 ≤ L):cD (ek n k) L:=(Dk h).row k
def Do (M:List (List Qi)) (n:Nat):Int:=oA (fun k=>sK M (ek n k) n) n
def a0U (M:List (List Qi)) (n:Nat):List (List Qi):=tab n fun r=>tab n fun j=>gv (zZ M (ek n j) n) r
theorem rE {α:Type} {n i:Nat} {f:Nat → α} {d:α} (h:i < n):(tab n f).getD i d = f i:=by simp [List.getD,bO h]
def qM (M:List (List Qi)) (n k i:Nat):List (List Qi):=tab n fun r=>tab n fun j=>if j < k ∨ j = k ∧ r < i then gv (zZ M (ek n j) n) r else gm M r j
theorem oP (M:List (List Qi)) (n k i:Nat):eR (qM M n k i) n n:=eR.tab
theorem Nw {M:List (List Qi)} {n:Nat} (h:eR M n n):M = qM M n 0 0:=by
 rw [qM]
 conv=>lhs; rw [pM h]
 exact bE fun r _=>bE fun j _=>by rw [if_neg zo]
theorem Rr (M : List (List Qi)) (n k : Nat) : qM M n k n = qM M n (k + 1) 0 := bE fun r hr => bE fun j _ => by
 by_cases h:j < k ∨ j = k ∧ r < n
 ·rw [if_pos h,if_pos zo]
 ·rw [if_neg h,if_neg zo]
theorem Ru (M:List (List Qi)) (n:Nat):qM M n n 0 = a0U M n:=bE fun r _=>bE fun j hj=>by rw [if_pos zo]
theorem Nv {M:List (List Qi)} {n k i:Nat} (hi:i < n) (hk:k < n):(qM M n k i).set i (((qM M n k i).getD i []).set k (gv (zZ M (ek n k) n) i)) = qM M n k (i + 1):=by
 apply List.ext_getElem?
 intro r
 by_cases hr:r < n
 ·by_cases e : r = i
  ·subst e
   rw [List.getElem?_set_self (by rw [(oP _ _ _ _).1]; exact hr),qM,qM,bO (f:=fun r=>tab n fun j=>if j < k ∨ j = k ∧ r < _ + 1 then gv (zZ M (ek n j) n) r else gm M r j) hr]
   congr 1
   have:(tab n fun x=>tab n fun j=>if j < k ∨ j = k ∧ x < r then gv (zZ M (ek n j) n) x else gm M x j).getD r [] = tab n fun j=>if j < k ∨ j = k ∧ r < r then gv (zZ M (ek n j) n) r else gm M r j:=rE hr
   rw [this]
   apply List.ext_getElem?
   intro j
   by_cases hj:j < n
   ·by_cases e2 : j = k
    ·subst e2
     rw [List.getElem?_set_self (by rw [aT]; exact hj),bO hj,if_pos zo]
    ·rw [List.getElem?_set_ne (Ne.symm e2), bO hj, bO hj]
     by_cases e3:j < k
     ·rw [if_pos (.inl e3),if_pos (.inl e3)]
     ·rw [if_neg zo,if_neg zo]
   ·rw [List.getElem?_eq_none (by rw [List.length_set,aT]; omega),List.getElem?_eq_none (by rw [aT]; omega)]
  ·rw [List.getElem?_set_ne (Ne.symm e), qM, qM, bO hr, bO hr]
   congr 1
   refine bE fun j _=>?_
   by_cases e3:j < k ∨ j = k ∧ r < i
   ·rw [if_pos e3,if_pos zo]
   ·rw [if_neg e3,if_neg zo]
 ·rw [List.getElem?_eq_none (by rw [List.length_set,(oP _ _ _ _).1]; omega),List.getElem?_eq_none (by rw [(oP _ _ _ _).1]; omega)]
theorem Xb {M:List (List Qi)} {n k:Nat} (h:∀ i,i < k → sK M (ek n i) n = 0) (hk:k < n) (hx:sK M (ek n k) n ≠ 0):Do M n = sK M (ek n k) n:=No h hx hk
theorem Nu {M:List (List Qi)} {n:Nat} (h:∀ i,i < n → sK M (ek n i) n = 0):Do M n = 0:=vU h
def pmM (m:Bool) (a b:List (List Qi)) (n:Nat):List (List Qi):=tab n fun i=>tab n fun j=>if m = true then gm a i j - gm b i j else gm a i j + gm b i j
theorem Yi {m:Bool} {a b:List (List Qi)} {n:Nat}:eR (pmM m a b n) n n:=eR.tab
theorem Yh {m : Bool} {a b : List (List Qi)} {n L M : Nat} (ha : bP a L) (hb : bP b M) (h1 : 1 ≤ L) (h2 : 1 ≤ M) : bP (pmM m a b n) (L + M + 1) := bP.tab fun i j _ _ => by
 haveI:=ha.get h1 i j; haveI:=hb.get h2 i j
 split
 ·infer_instance
 ·infer_instance
theorem Pn {T : Ty} {s : Nat} : ∀ vs V, fM [T, Is (.slice none 0 0)] vs V → fM [T, jN s []] vs V
 | [_,_],_,⟨h1,h2,h3⟩=>⟨h1,iZ _ _ h2,h3⟩
 | [],_,h=>h.elim
 | [_],_,h=>h.2.elim
 | _ :: _ :: _ :: _,_,h=>h.2.2.elim
theorem iI.arg {P : Program} {f : FuncId} {Ts Ts' : List Ty} {As : Hp} {γ : Type} {U : γ → Ty} {As' : γ → Hp} {Q : γ → Prop} (h : iI P f Ts As γ U As' Q) (i : ∀ vs V, fM Ts' vs V → fM Ts vs V) : iI P f Ts' As γ U As' Q :=
 fun cx Z vs V w h1 h2=>h cx Z vs V w h1 (i _ _ h2)
end
section
open Go Go.RowKit
section
variable {P:Program} {R:gI} {cx:Cx} {n:Nat} {k:List It} {E:cH} {H:Hp}
theorem If (i l off : Nat) {B : Nat} {BT : TypeId} {Us : List Ty} {v : Value} {A : SA} {T : Ty} (hB : H[i]? = some (box B BT Us)) (hU : Us[off]? = some (Is v)) (hL : H[l]? = some A) (hne : i ≠ l) (hT : ∀ S V, A.h S V V → T.p v V)
  (h:Tr P R cx n k E ((H.set l SA.emp).set i (box B BT (Us.set off T)))):Tr P R cx n k E H:=fun a w ⟨V,hi,hs⟩=>by
 obtain ⟨V',S,hle,hi',hA⟩:=hi.freeze hL
 have hT:=hT S V' hA
 refine h a w ⟨V',hi'.withHH ?_,hs.mono hle⟩
 obtain ⟨F,h1,h2⟩:=hi'.hp
 have hB':(H.set l SA.emp)[i]? = some (box B BT Us):=by rw [List.getElem?_set_ne (Ne.symm hne)]; exact hB
 have hil:=(List.getElem?_eq_some_iff.1 hB').1
 refine ⟨F,fun q A hq=>?_,fun q r b hq hr=>h2 q r b (by simpa using hq) (by simpa using hr)⟩
 by_cases c:i = q
 ·subst c
  rw [List.getElem?_set_self hil] at hq
  obtain rfl:=Option.some.inj hq
  obtain ⟨⟨k1,cs,k2,k3⟩,k4⟩:=h1 i _ hB'
  obtain ⟨u,u1,u2⟩:=k3.get hU
  obtain rfl:u = v:=u2
  have hset : cs.set off u = cs := by
   apply List.ext_getElem?
   intro j
   by_cases cj:off = j
   ·subst cj; rw [List.getElem?_set_self (List.getElem?_eq_some_iff.1 u1).1,u1]
   ·rw [List.getElem?_set_ne cj]
  refine ⟨⟨k1,cs,k2,?_⟩,k4⟩
  have:=k3.set off (v:=u) hT (k3.pl u (List.mem_of_getElem? u1))
  rwa [hset] at this
 ·rw [List.getElem?_set_ne c] at hq
  exact h1 q A hq
theorem a2g {B e l : Nat} {BT : TypeId} {F : Qi → Ty} {q : Value → Prop} {M : List (List Qi)} (hl : l = M.length) : ∀ S V, (nM q B BT e 5 (cL F M)).h S V V → (jN 1 (M.map fun r => jN 5 (r.map F))).p (.slice (some ⟨B, 0, none⟩) l l) V := fun S V h =>
 qL (s:=5) (M:=M) hl _ S V rfl h
end
def nJ (p i:Nat):Nat:=if i < p then i else i + 1
abbrev pU (l:List Nat):Ty:=jN 1 (l.map (NT .i64))
def zC (p n:Nat):List Nat:=tab n fun j=>nJ p j + 1
def Nc (p i:Nat):Nat:=if i ≤ p then i else i - 1
theorem Wc {p n:Nat} (h:p < n):Nc p n = n - 1:=by unfold Nc; split <;> omega
theorem Jt {p i n:Nat} (h:i < n - 1) (hp:p < n):nJ p i < n:=by unfold nJ; split <;> omega
theorem Lu {p n j:Nat} (h:j < n):(zC p n)[j]? = some (nJ p j + 1):=bO h
def Og (z:List Qi) (p m:Nat):List Qi:=tab m fun i=>gv z (nJ p i)
def a24 (s:List (List Qi)) (p m:Nat):List (List Qi):=tab m fun i=>tab m fun j=>gm s (nJ p i) (nJ p j)
def Jw (s:List (List Qi)) (p:Nat) (f:Qi) (i j:Nat):Qi:=gm s (nJ p i) (nJ p j) + gm s (nJ p i) p * (f * gm s p (nJ p j))
def a1r (s:List (List Qi)) (p m:Nat) (f:Qi):List (List Qi):=tab m fun i=>tab m fun j=>Jw s p f i j
def lD (s:List (List Qi)) (p:Nat) (g:Qi):Qi:=g / (Qi.ofInt 1 - gm s p p * g)
def pX (z : List Qi) (s : List (List Qi)) (port : Int) (g : Qi) : Int :=
 if ¬ (1 ≤ port ∧ port ≤ z.length) then 1 else if z.length = 1 then 4 else if Qi.ofInt 1 - gm s (port - 1).toNat (port - 1).toNat * g = Qi.zero then 6 else 0
def Ai (z:List Qi) (s:List (List Qi)) (port:Int) (g:Qi):List Qi:=pV (pX z s port g) (Og z (port - 1).toNat (z.length - 1))
def Ah (z:List Qi) (s:List (List Qi)) (port:Int) (g:Qi):List (List Qi):=pV (pX z s port g) (a1r s (port - 1).toNat (z.length - 1) (lD s (port - 1).toNat g))
theorem Eh {z:List Qi} {s:List (List Qi)} {port:Int} {g:Qi} {e:Int} (h:pX z s port g = e) (he:e ≠ 0):∀ v V,(gR [] []).p v V → (gR (Ai z s port g) (Ah z s port g)).p v V:=by
 rw [Ai,Ah,pV,pV,h,if_neg he,if_neg he]; exact fun _ _ k=>k
theorem a06 (p:Nat):((p:Int) + 1 - 1).toNat = p:=by omega
theorem Ue {z:List Qi} {s:List (List Qi)} {p:Nat} {g:Qi} (h:pX z s ((p:Int) + 1) g = 0):∀ v V,(gR (Og z p (z.length - 1)) (a1r s p (z.length - 1) (lD s p g))).p v V → (gR (Ai z s ((p:Int) + 1) g) (Ah z s ((p:Int) + 1) g)).p v V:=by
 rw [Ai,Ah,pV,pV,h,if_pos rfl,if_pos rfl,a06]; exact fun _ _ k=>k
theorem a1o {z:List Qi} {s:List (List Qi)} {port:Int} {g:Qi} (h:¬ (1 ≤ port ∧ port ≤ z.length)):pX z s port g = 1:=by rw [pX,if_pos h]
theorem a1p {z:List Qi} {s:List (List Qi)} {port:Int} {g:Qi} (h:1 ≤ port ∧ port ≤ z.length) (h1:z.length = 1):pX z s port g = 4:=by rw [pX,if_neg (fun k=>k h),if_pos h1]
theorem a1q {z:List Qi} {s:List (List Qi)} {p:Nat} {g:Qi} (h:p < z.length) (h1:¬ z.length = 1):pX z s ((p:Int) + 1) g = if Qi.ofInt 1 - gm s p p * g = Qi.zero then 6 else 0:=by
 rw [pX,if_neg (fun k=>k zo),if_neg h1,a06]
theorem Ud {s:List (List Qi)} {p L:Nat} {g:Qi} (hs:bP s L) (hg:aD g L) (hL:1 ≤ L) (hd:Qi.ofInt 1 - gm s p p * g ≠ Qi.zero):aD (lD s p g) (7 * L + 11):=by
 haveI f0:=lZ
 haveI f1:=hs.get hL p p
 haveI f2:=hg
 have f3:aD (Qi.ofInt 1 - gm s p p * g) (1 + (L + L + 1) + 1):=@fitSub _ _ _ _ f0 inferInstance
 have:aD (lD s p g) (L + 3 * (1 + (L + L + 1) + 1) + 2):=⟨f2.fit.div f3.fit hd⟩
 exact this.le zo
end
section
open Go Go.RowKit
def yW:List Qi:=[r50,r50].map Rt.q
def Br:List (List Qi):=rq [[vX,vX],[vX,vX]]
def Dj:List Qi:=Ai yW Br 2 (Qi.ofInt 1)
def Nq:List (List Qi):=Ah yW Br 2 (Qi.ofInt 1)
theorem Ri:cO yW Br = 0:=by decide +kernel
theorem Rj:eR Br yW.length yW.length:=(rZ Ri).2.2.1
theorem a0P:pX yW Br 2 (Qi.ofInt 1) = 0:=by decide +kernel
theorem Rk:Dj.length = 1:=by decide +kernel
theorem a03:Nq = [[Qi.ofInt 1]]:=by decide +kernel
theorem a0M:Do (pmM true (yZ yW.length) Br yW.length) yW.length ≠ 0:=by decide +kernel
theorem a1W:cD yW 2:=cD.rt
theorem a02:bP Br 2:=bP.rt
theorem a01:aD (Qi.ofInt 1) 2:=lZ.le (by decide)
theorem a0N:∀ v V,(fR [gR (pV (cO yW Br) yW) (pV (cO yW Br) Br),aN .i64 (cO yW Br)]).p v V → (fR [gR yW Br,aN .i64 0]).p v V:=by rw [Ri]; exact fun _ _ h=>h
theorem a0O:∀ v V,(fR [gR (Ai yW Br ((2:Nat):Int) (Qi.ofInt 1)) (Ah yW Br ((2:Nat):Int) (Qi.ofInt 1)),aN .i64 (pX yW Br ((2:Nat):Int) (Qi.ofInt 1))]).p v V → (fR [gR Dj Nq,aN .i64 0]).p v V:=by
 rw [show pX yW Br ((2:Nat):Int) (Qi.ofInt 1) = 0 from a0P]; exact fun _ _ h=>h
theorem a0Q:eR Nq Dj.length Dj.length:=by rw [Rk,a03]; exact ⟨rfl,by simp⟩
theorem a1V:∀ v V,(fR [bA (Yg Dj.length Nq ((1:Nat):Int) ((1:Nat):Int)),aN .i64 (if (1 ≤ ((1:Nat):Int) ∧ ((1:Nat):Int) ≤ Dj.length) ∧ 1 ≤ ((1:Nat):Int) ∧ ((1:Nat):Int) ≤ Dj.length then 0 else 1)]).p v V → (fR [bA (Qi.ofInt 1),aN .i64 0]).p v V:=by
 rw [Rk,a03,if_pos (by decide)]
 rw [show Yg 1 [[Qi.ofInt 1]] ((1:Nat):Int) ((1:Nat):Int) = Qi.ofInt 1 from rfl]
 exact fun _ _ h=>h
theorem a2h:Oz (Qi.ofInt 1) = [49]:=by decide +kernel
end
section
open Go Go.RowKit
theorem jG (x:Int) {b:Int} (h:0 < b):-b < x.tmod b ∧ x.tmod b < b:=by
 by_cases hx:0 ≤ x
 ·rw [Int.tmod_eq_emod_of_nonneg hx]
  have h1:=Int.emod_nonneg x (by omega:b ≠ 0)
  have h2:=Int.emod_lt_of_pos x h
  omega
 ·have e : x.tmod b = -((-x).tmod b) := by rw [Int.neg_tmod, Int.neg_neg]
  rw [e,Int.tmod_eq_emod_of_nonneg (by omega:0 ≤ -x)]
  have h1:=Int.emod_nonneg (-x) (by omega:b ≠ 0)
  have h2:=Int.emod_lt_of_pos (-x) h
  omega
def oF (x:Int):Int:=if x < 0 then -x else x
theorem qB {x:Int} {b:Int} (h:-b < x ∧ x < b):0 ≤ oF x ∧ oF x < b:=by unfold oF; split <;> omega
def Am (r:Rt):Rt where
 re:=r.re.tmod 9
 im:=r.im.tmod 9
 den:=oF (r.den.tmod 4) + 1
 h1:=by have:=jG r.re (b:=9) (by decide); omega
 h2:=by have:=jG r.re (b:=9) (by decide); omega
 h3:=by have:=jG r.im (b:=9) (by decide); omega
 h4:=by have:=jG r.im (b:=9) (by decide); omega
 h5:=by have:=qB (jG r.den (b:=4) (by decide)); omega
 h6:=by have:=qB (jG r.den (b:=4) (by decide)); omega
def Um (r:Rt):Rt where
 re:=oF (Am r).re + 1
 im:=0
 den:=(Am r).den
 h1:=by have:=qB (jG r.re (b:=9) (by decide)); show _ ≤ oF (r.re.tmod 9) + 1; omega
 h2:=by have:=qB (jG r.re (b:=9) (by decide)); show oF (r.re.tmod 9) + 1 ≤ _; omega
 h3:=by decide
 h4:=by decide
 h5:=(Am r).h5
 h6:=(Am r).h6
def Jo (l:List Rt) (i:Nat):Rt:=if l.length = 0 then default else l.getD (i % l.length) default
def lM (a:Nat):Nat:=a % 4 + 1
def vE (a:Nat) (zl:List Rt):List Rt:=tab (lM a) fun i=>Um (Jo zl i)
def uO (a:Nat) (sl:List Rt):List (List Rt):=tab (lM a) fun i=>tab (lM a) fun j=>Am (Jo sl (lM a * i + j))
theorem Wz (r:Rt):gY (Um r).q = true:=by
 have h1:=qB (jG r.re (b:=9) (by decide))
 have h2:=qB (jG r.den (b:=4) (by decide))
 have hd : (Um r).d = oF (r.den.tmod 4) + 1 := by
  show (if oF (r.den.tmod 4) + 1 = 0 then 1 else oF (r.den.tmod 4) + 1) = _
  rw [if_neg zo]
 have hq:(Um r).q = Qi.frac (oF (r.re.tmod 9) + 1) 0 (oF (r.den.tmod 4) + 1):=by rw [Rt.q,hd]; rfl
 have hb:(Um r).q.b = 0:=Qi.b_zero.2 (by rw [hq]; show ((0:Int):Rat) / _ = 0; rw [Rat.div_def]; exact Rat.zero_mul _)
 have ha : 0 < (Um r).q.a := by
  rw [Qi.a_pos,hq]
  show (0:Rat) < ((oF (r.re.tmod 9) + 1:Int):Rat) / ((oF (r.den.tmod 4) + 1:Int):Rat)
  rw [Rat.div_def]
  refine Rat.mul_pos (Rat.intCast_pos.2 zo) (Rat.inv_pos.2 (Rat.intCast_pos.2 zo))
 simp only [gY,hb,ha,and_self,decide_true]
theorem Sx (a:Nat) (zl sl:List Rt):cO ((vE a zl).map Rt.q) (rq (uO a sl)) = 0:=by
 have hz:((vE a zl).map Rt.q).length = lM a:=by rw [List.length_map,vE,aT]
 have hs:(rq (uO a sl)).length = lM a:=by rw [List.length_map,uO,aT]
 have hn:lM a ≤ 4:=by unfold lM; omega
 have hn1:1 ≤ lM a:=by unfold lM; omega
 rw [cO,if_neg,if_pos]
 ·rw [List.all_eq_true]
  intro x hx
  obtain ⟨r,hr,rfl⟩:=List.mem_map.1 hx
  obtain ⟨i,_,rfl⟩:=eE.1 hr
  exact Wz _
 ·rw [hz, hs]
  rintro (h | h | h | h)
  ·omega
  ·omega
  ·exact h rfl
  ·obtain ⟨r, hr, h2⟩ := List.any_eq_true.1 h
   obtain ⟨y,hy,rfl⟩:=List.mem_map.1 hr
   obtain ⟨i,_,rfl⟩:=eE.1 hy
   simp [aT] at h2
def uV (x : Qi) (l m : List Qi) : Nat → Qi
 | 0=>x
 | k + 1=>uV x l m k + gv l k * gv m k
def Uj (l a : List Qi) : Nat → Qi
 | 0=>Qi.ofInt 0
 | k + 1=>Uj l a k + gv l k * gv a k
theorem Ln (l:List Qi) (k:Nat):gv (l.drop 1) k = gv l (k + 1):=by simp [gv,List.getD,List.getElem?_drop,Nat.add_comm]
theorem Re (l a : List Qi) : ∀ k, uV (gv l 0 * gv a 0) (l.drop 1) (a.drop 1) k = Uj l a (k + 1)
 | 0=>(Qi.zero_add' _).symm
 | k + 1=>by rw [uV,Re l a k,Ln,Ln]; rfl
theorem Kh {l a : List Qi} {L : Nat} (hl : cD l L) (ha : cD a L) (hL : 1 ≤ L) : ∀ k, aD (Uj l a k) (1 + k * (2 * L + 2))
 | 0=>aD.zero zo
 | k + 1 => by
  haveI f1:=Kh hl ha hL k
  haveI f2:=hl.get hL k
  haveI f3:=ha.get hL k
  have:aD (Uj l a (k + 1)) (1 + k * (2 * L + 2) + (L + L + 1) + 1):=by unfold Uj; infer_instance
  exact this.le (by rw [Nat.add_mul]; omega)
theorem Fu {x : Qi} {l m : List Qi} {L M : Nat} (hx : aD x M) (hl : cD l L) (hm : cD m L) (hL : 1 ≤ L) : ∀ k, aD (uV x l m k) (M + k * (2 * L + 2))
 | 0=>hx.le zo
 | k + 1 => by
  haveI f1:=Fu hx hl hm hL k
  haveI f2:=hl.get hL k
  haveI f3:=hm.get hL k
  have:aD (uV x l m (k + 1)) (M + k * (2 * L + 2) + (L + L + 1) + 1):=by unfold uV; infer_instance
  exact this.le (by rw [Nat.add_mul]; omega)
def Nm (s:List (List Qi)) (a:List Qi) (n:Nat):List Qi:=tab n fun i=>Uj (s.getD i []) a n
def Fx (n m:Nat):Int:=if m = n then 0 else 4
theorem Fv {l:List Qi} {L:Nat} (h:cD l L):cD (l.drop 1) L:=fun x hx=>h x (List.mem_of_mem_drop hx)
theorem Rf {s:List (List Qi)} {a:List Qi} {n L:Nat} (hs:bP s L) (ha:cD a L) (hL:1 ≤ L):cD (Nm s a n) (1 + n * (2 * L + 2)):=cD.tab fun i _=>Kh (hs.row i) ha hL n
end
section
open Go Go.RowKit
namespace Qi
def npow' (x : Qi) : Nat → Qi
 | 0=>Qi.ofInt 1
 | k + 1=>npow' x k * x
theorem one_mul2 (x:Qi):Qi.ofInt 1 * x = x:=ext' (by show ((1:Int):Rat) * x.re - 0 * x.im = x.re; grind) (by show ((1:Int):Rat) * x.im + 0 * x.re = x.im; grind)
theorem mul_one2 (x:Qi):x * Qi.ofInt 1 = x:=by rw [mul_comm',one_mul2]
end Qi
instance qiField:Lean.Grind.CommRing Qi where
 natCast:=⟨fun n=>Qi.ofInt n⟩
 ofNat n:=⟨Qi.ofInt n⟩
 nsmul:=⟨fun n x=>Qi.ofInt n * x⟩
 npow:=⟨Qi.npow'⟩
 add_zero:=Qi.add_zero'
 add_comm:=Qi.add_comm'
 add_assoc:=Qi.add_assoc'
 mul_assoc:=Qi.mul_assoc'
 mul_comm:=Qi.mul_comm'
 mul_one:=Qi.mul_one2
 one_mul:=Qi.one_mul2
 left_distrib:=Qi.mul_add'
 right_distrib:=Qi.add_mul'
 zero_mul:=Qi.zero_mul'
 mul_zero:=Qi.mul_zero'
 pow_zero _:=rfl
 pow_succ _ _:=rfl
 ofNat_succ n:=Qi.ext' (by show (((n + 1:Nat):Int):Rat) = ((n:Int):Rat) + ((1:Int):Rat); rw [Int.natCast_add,Rat.intCast_add]; rfl) (by show (0:Rat) = 0 + 0; grind)
 intCast:=⟨Qi.ofInt⟩
 zsmul:=⟨fun n x=>Qi.ofInt n * x⟩
 neg_add_cancel x:=Qi.ext' (by show -x.re + x.re = ((0:Int):Rat); grind) (by show -x.im + x.im = 0; grind)
 sub_eq_add_neg:=Qi.sub_def
 neg_zsmul i x:=Qi.ext' (by show ((-i:Int):Rat) * x.re - 0 * x.im = -((i:Rat) * x.re - 0 * x.im); rw [Rat.intCast_neg]; grind) (by show ((-i:Int):Rat) * x.im + 0 * x.re = -((i:Rat) * x.im + 0 * x.re); rw [Rat.intCast_neg]; grind)
 intCast_neg i:=Qi.ext' (Rat.intCast_neg i) (by show (0:Rat) = -0; grind)
theorem q0:Qi.zero = 0:=rfl
theorem q1:Qi.ofInt 1 = 1:=rfl
theorem zK {x:Qi} (h:x ≠ 0):x * Qi.inv x = 1:=by
 have hn:x.nrm ≠ 0:=fun e=>h (Qi.nrm_zero.1 e)
 have e:x.re * x.re + x.im * x.im = x.nrm:=rfl
 refine Qi.ext' ?_ ?_
 ·show x.re * (x.re / x.nrm) - x.im * (-x.im / x.nrm) = ((1 : Int) : Rat)
  grind
 ·show x.re * (-x.im / x.nrm) + x.im * (x.re / x.nrm) = 0
  grind
theorem qJ {x y:Qi} (h:y ≠ 0):x / y * y = x:=by
 rw [Qi.div_def]
 have:=zK h
 grind
theorem a0L {x y z:Qi} (h:y ≠ 0) (e:x = z * y):x / y = z:=by
 have h1:=qJ (x:=x) h
 have h2:=zK h
 grind
theorem nW {x y:Qi} (h:x * y = 0):x = 0 ∨ y = 0:=by
 by_cases e:x = 0
 ·exact .inl e
 ·right; have:=zK e; grind
end
section
open Go Go.RowKit
theorem Ab (m:Nat) (f:Qi) (a b:Nat → Qi):bM m (fun k=>a k - f * b k) = bM m a - f * bM m b:=by
 induction m with
 | zero=>simp only [bM,q0]; grind
 | succ m ih=>simp only [bM,ih]; grind
theorem rD {m i:Nat} (hi:i < m) {f:Nat → Qi} (h:∀ k,k < m → k ≠ i → f k = 0):bM m f = f i:=by
 induction m with
 | zero=>omega
 | succ m ih =>
  by_cases e:i = m
  ·subst e
   have : bM i f = 0 := by
    rw [← q0,← Cg i]
    exact bT fun k hk=>h k zo zo
   simp only [bM,this]; grind
  ·have h1 := ih zo (fun k hk => h k zo)
   have h2:=h m zo zo
   simp only [bM,h1,h2]; grind
def Ker (M:List (List Qi)) (n m:Nat) (x:Nat → Qi):Prop:=∀ i,i < n → bM m (fun k=>gm M i k * x k) = 0
def vY (rr rc:List Qi) (c k:Nat):List Qi:=tab rr.length fun j=>if c ≤ j ∧ j < k then gv rr j - gv rr c / gv rc c * gv rc j else gv rr j
def redJ (M:List (List Qi)) (c r:Nat):List (List Qi):=tab M.length fun i=>if i ≠ c ∧ i < r then vY (dH M i) (dH M c) c (dH M i).length else dH M i
def Ns (M : List (List Qi)) : Nat → Option (List (List Qi))
 | 0=>some M
 | c + 1=>(Ns M c).bind fun A=>if pv A c M.length = M.length then none else some (redJ (swp [] A (pv A c M.length) c) c M.length)
theorem Ta (M:List (List Qi)) (c r:Nat):(redJ M c r).length = M.length:=aT _ _
theorem Oi (rr rc:List Qi) (c k:Nat):(vY rr rc c k).length = rr.length:=aT _ _
theorem Tb {M:List (List Qi)} {c r i:Nat} (hi:i < M.length):dH (redJ M c r) i = if i ≠ c ∧ i < r then vY (dH M i) (dH M c) c (dH M i).length else dH M i:=by
 simp only [dH,redJ,List.getD]; rw [bO hi]; rfl
theorem Tc {M:List (List Qi)} {n m c r:Nat} (h:eR M n m):eR (redJ M c r) n m:=by
 refine ⟨(Ta _ _ _).trans h.1,fun x hx=>?_⟩
 obtain ⟨i,hi,rfl⟩:=eE.1 hx
 have hr:=h.row (i:=i) (by rw [← h.1]; exact hi)
 show (if i ≠ c ∧ i < r then vY (dH M i) (dH M c) c (dH M i).length else dH M i).length = m
 split
 ·rw [Oi]; exact hr
 ·exact hr
theorem xM {M:List (List Qi)} {n m c i j:Nat} (h:eR M n m) (hi:i < n) (hj:j < m):gm (redJ M c n) i j = if i ≠ c ∧ c ≤ j then gm M i j - gm M i c / gm M c c * gm M c j else gm M i j:=by
 have hr:(dH M i).length = m:=h.row hi
 show gv (dH (redJ M c n) i) j = _
 rw [Tb (by rw [h.1]; exact hi)]
 by_cases e:i = c
 ·rw [if_neg (fun k=>k.1 e),if_neg (fun k=>k.1 e)]
 ·rw [if_pos ⟨e, hi⟩, vY, pI zo]
  by_cases e2:c ≤ j
  ·rw [if_pos ⟨e2,by omega⟩,if_pos ⟨e,e2⟩]
  ·rw [if_neg (fun k=>e2 k.1),if_neg (fun k=>e2 k.2)]
theorem Ju {M:List (List Qi)} {p c i:Nat} (hp:p < M.length) (hc:c < M.length):dH (swp [] M p c) i = dH M (if i = c then p else if i = p then c else i):=by
 simp only [dH,swp,List.getD]
 by_cases e:i = c
 ·subst e; rw [List.getElem?_set_self (by simpa using hc),if_pos rfl]; rfl
 ·rw [List.getElem?_set_ne (Ne.symm e), if_neg e]
  by_cases e2:i = p
  ·subst e2; rw [List.getElem?_set_self hp,if_pos rfl]; rfl
  ·rw [List.getElem?_set_ne (Ne.symm e2),if_neg e2]
theorem Xd {M:List (List Qi)} {n m p c:Nat} {x:Nat → Qi} (hl:M.length = n) (hp:p < n) (hc:c < n):Ker (swp [] M p c) n m x ↔ Ker M n m x:=by
 have key : ∀ i, gm (swp [] M p c) i = gm M (if i = c then p else if i = p then c else i) := fun i => by
  funext j; exact congrArg (fun r=>gv r j) (Ju zo zo)
 constructor
 ·intro h i hi
  have h1:=h (if i = c then p else if i = p then c else i) (by split <;> (try split) <;> omega)
  rw [key] at h1
  have e : (if (if i = c then p else if i = p then c else i) = c then p else if (if i = c then p else if i = p then c else i) = p then c else (if i = c then p else if i = p then c else i)) = i := by
   by_cases e1:i = c
   ·subst e1; rw [if_pos rfl]
    by_cases e2:p = i
    ·rw [if_pos e2]; exact e2
    ·rw [if_neg e2,if_pos rfl]
   ·rw [if_neg e1]
    by_cases e2:i = p
    ·subst e2; rw [if_pos rfl,if_pos rfl]
    ·rw [if_neg e2,if_neg e1,if_neg e2]
  rw [e] at h1; exact h1
 ·intro h i hi
  rw [key]; exact h _ (by split <;> (try split) <;> omega)
theorem Xc {M:List (List Qi)} {n m c:Nat} {x:Nat → Qi} (hs:eR M n m) (hc:c < n) (hz:∀ j,j < c → gm M c j = 0):Ker (redJ M c n) n m x ↔ Ker M n m x:=by
 have key : ∀ i, i < n → i ≠ c → bM m (fun k => gm (redJ M c n) i k * x k) = bM m (fun k => gm M i k * x k) - gm M i c / gm M c c * bM m (fun k => gm M c k * x k) := fun i hi e => by
  rw [← Ab]
  refine bT fun k hk=>?_
  rw [xM hs hi hk]
  by_cases e2:c ≤ k
  ·rw [if_pos ⟨e,e2⟩]; grind
  ·rw [if_neg (fun h=>e2 h.2),hz k zo]; grind
 have keyc:bM m (fun k=>gm (redJ M c n) c k * x k) = bM m (fun k=>gm M c k * x k):=bT fun k hk=>by rw [xM hs hc hk,if_neg (fun h=>h.1 rfl)]
 constructor
 ·intro h i hi
  have h0:=h c hc
  rw [keyc] at h0
  by_cases e:i = c
  ·rw [e]; exact h0
  ·have h1 := h i hi
   rw [key i hi e,h0] at h1
   grind
 ·intro h i hi
  have h0:=h c hc
  by_cases e:i = c
  ·rw [e,keyc]; exact h0
  ·rw [key i hi e,h0,h i hi]; grind
structure GJ (M A:List (List Qi)) (n m c:Nat):Prop where
 sh:eR A n m
 ker:∀ x,Ker A n m x ↔ Ker M n m x
 off:∀ j,j < c → ∀ i,i < n → i ≠ j → gm A i j = 0
 dg:∀ j,j < c → gm A j j ≠ 0
theorem GJ.next {M A:List (List Qi)} {n m c p:Nat} (h:GJ M A n m c) (hc:c < n) (hnm:n ≤ m) (hcp:c ≤ p) (hp:p < n) (hz:gm A p c ≠ 0):GJ M (redJ (swp [] A p c) c n) n m (c + 1):=by
 have hs:eR (swp [] A p c) n m:=xT h.sh hp hc
 have hl:=h.sh.1
 have key : ∀ i, gm (swp [] A p c) i = gm A (if i = c then p else if i = p then c else i) := fun i => by
  funext j; exact congrArg (fun r=>gv r j) (Ju zo zo)
 have hcc:gm (swp [] A p c) c c ≠ 0:=by rw [key,if_pos rfl]; exact hz
 have hoff : ∀ j, j < c → ∀ i, i < n → i ≠ j → gm (swp [] A p c) i j = 0 := fun j hj i hi hij => by
  rw [key]
  by_cases e1:i = c
  ·rw [if_pos e1]; exact h.off j hj p hp zo
  ·rw [if_neg e1]
   by_cases e2:i = p
   ·rw [if_pos e2]; exact h.off j hj c hc zo
   ·rw [if_neg e2]; exact h.off j hj i hi hij
 refine ⟨Tc hs,fun x=>(Xc hs hc (fun j hj=>hoff j hj c hc zo)).trans ((Xd hl hp hc).trans (h.ker x)),fun j hj i hi hij=>?_,fun j hj=>?_⟩
 ·rw [xM hs hi zo]
  by_cases e:j = c
  ·subst e
   rw [if_pos ⟨hij,Nat.le_refl _⟩]
   have:=qJ (x:=gm (swp [] A p j) i j) hcc
   grind
  ·rw [if_neg (fun k=>by omega)]; exact hoff j zo i hi hij
 ·rw [xM hs zo zo]
  by_cases e:j = c
  ·subst e; rw [if_neg (fun k=>k.1 rfl)]; exact hcc
  ·rw [if_neg (fun k=>by omega),key,if_neg zo,if_neg zo]; exact h.dg j zo
theorem Rm {M : List (List Qi)} {n m : Nat} (hs : eR M n m) (hnm : n ≤ m) : ∀ {c : Nat} {A : List (List Qi)}, c ≤ n → Ns M c = some A → GJ M A n m c
 | 0, A, _, h => by
  obtain rfl:=Option.some.inj h
  exact ⟨hs,fun _=>Iff.rfl,fun j hj=>by omega,fun j hj=>by omega⟩
 | c + 1, A, hc, h => by
  simp only [Ns] at h
  obtain ⟨B,h1,h2⟩:=Option.bind_eq_some_iff.1 h
  split at h2
  ·cases h2
  ·rename_i e
   obtain rfl:=Option.some.inj h2
   have ih:=Rm hs hnm (c:=c) zo h1
   rw [hs.1] at e ⊢
   obtain ⟨_,i2,i3,i4⟩:=pP (M:=B) (c:=c) (n:=n) zo
   exact ih.next zo hnm i2 zo (i4 zo)
theorem Oh {rr rc : List Qi} {L c k : Nat} (h1 : cD rr L) (h2 : cD rc L) (hL : 1 ≤ L) (hp : gv rc c ≠ Qi.zero) : cD (vY rr rc c k) (6 * L + 4) := cD.tab fun j _ => by
 split
 ·exact Ll h1 h2 hL hp
 ·exact (h1.get hL j).le zo
theorem Sz {M : List (List Qi)} {L c r : Nat} (h : bP M L) (hL : 1 ≤ L) (hp : gm M c c ≠ Qi.zero) : bP (redJ M c r) (6 * L + 4) := fun x hx => by
 obtain ⟨i,hi,rfl⟩:=eE.1 hx
 show cD (if i ≠ c ∧ i < r then vY (dH M i) (dH M c) c (dH M i).length else dH M i) _
 split
 ·exact Oh (h.row i) (h.row c) hL hp
 ·exact (h.row i).le zo
theorem Rl {M : List (List Qi)} {n m L : Nat} (hs : eR M n m) (hnm : n ≤ m) (h : bP M L) (hL : 1 ≤ L) : ∀ {c : Nat} {A : List (List Qi)}, c ≤ n → Ns M c = some A → bP A (nC L c)
 | 0,A,_,e=>by obtain rfl:=Option.some.inj e; exact h
 | c + 1, A, hc, e => by
  simp only [Ns] at e
  obtain ⟨B,h1,h2⟩:=Option.bind_eq_some_iff.1 e
  split at h2
  ·cases h2
  ·rename_i e3
   obtain rfl:=Option.some.inj h2
   have ih:=Rl hs hnm h hL (c:=c) zo h1
   have hsB:=(Rm hs hnm (c:=c) zo h1).sh
   rw [hs.1] at e3 ⊢
   obtain ⟨_,i2,i3,i4⟩:=pP (M:=B) (c:=c) (n:=n) zo
   refine Sz (Ee ih) (Nat.le_trans hL (tW L c)) ?_
   show gv (dH (swp [] _ _ c) c) c ≠ _
   rw [Ac (by rw [hsB.1]; omega)]
   exact i4 zo
end
section
open Go Go.RowKit
abbrev pA (ps:List (Nat × Nat)) (k:Nat):Nat:=(ps.getD k (0,0)).1
abbrev pB (ps:List (Nat × Nat)) (k:Nat):Nat:=(ps.getD k (0,0)).2
end
section
open Go Go.RowKit
theorem Jf {l:List Qi} {t k:Nat} {v:Qi} (ht:t < l.length):gv (l.set t v) k = if k = t then v else gv l k:=by
 simp only [gv,List.getD]
 by_cases e:k = t
 ·subst e; rw [if_pos rfl,List.getElem?_set_self ht]; rfl
 ·rw [if_neg e,List.getElem?_set_ne (Ne.symm e)]
end
section
open Go Go.RowKit
def clr (A:List (List Qi)) (c i j:Nat):Qi:=if j < c ∧ j < i then 0 else gm A i j
def An (F:Nat → Nat → Qi) (n m:Nat) (x:Nat → Qi):Prop:=∀ i,i < n → bM m (fun k=>F i k * x k) = 0
theorem Jg {F G:Nat → Nat → Qi} {n m:Nat} {x:Nat → Qi} (h:∀ i,i < n → ∀ j,j < m → F i j = G i j):An F n m x ↔ An G n m x:=by
 have e:∀ i,i < n → bM m (fun k=>F i k * x k) = bM m (fun k=>G i k * x k):=fun i hi=>bT fun k hk=>by rw [h i hi k hk]
 exact ⟨fun k i hi=>by rw [← e i hi]; exact k i hi,fun k i hi=>by rw [e i hi]; exact k i hi⟩
def Tz (p c i:Nat):Nat:=if i = c then p else if i = p then c else i
theorem Ua {p c i n:Nat} (hp:p < n) (hc:c < n) (hi:i < n):Tz p c i < n:=by unfold Tz; split <;> (try split) <;> omega
theorem Zb (p c i:Nat):Tz p c (Tz p c i) = i:=by
 unfold Tz
 by_cases e1:i = c
 ·subst e1
  rw [if_pos rfl]
  by_cases e2:p = i
  ·rw [if_pos e2]; exact e2
  ·rw [if_neg e2,if_pos rfl]
 ·rw [if_neg e1]
  by_cases e2:i = p
  ·subst e2; rw [if_pos rfl,if_pos rfl]
  ·rw [if_neg e2,if_neg e1,if_neg e2]
theorem Rw {F : Nat → Nat → Qi} {n m p c : Nat} {x : Nat → Qi} (hp : p < n) (hc : c < n) : An (fun i => F (Tz p c i)) n m x ↔ An F n m x :=
 ⟨fun h i hi=>by have:=h _ (Ua hp hc hi); simp only [Zb] at this; exact this,fun h i hi=>h _ (Ua hp hc hi)⟩
theorem Rv {F G:Nat → Nat → Qi} {n m c:Nat} {x f:Nat → Qi} (hc:c < n) (hG:∀ i,i < n → ∀ j,j < m → G i j = if c < i then F i j - f i * F c j else F i j):An G n m x ↔ An F n m x:=by
 have key : ∀ i, i < n → bM m (fun k => G i k * x k) = if c < i then bM m (fun k => F i k * x k) - f i * bM m (fun k => F c k * x k) else bM m (fun k => F i k * x k) := fun i hi => by
  by_cases e:c < i
  ·rw [if_pos e, ← Ab]
   exact bT fun k hk=>by rw [hG i hi k hk,if_pos e]; grind
  ·rw [if_neg e]
   exact bT fun k hk=>by rw [hG i hi k hk,if_neg e]
 have kc:=key c hc
 rw [if_neg zo] at kc
 constructor
 ·intro h i hi
  have h0:=h c hc
  rw [kc] at h0
  have h1:=h i hi
  rw [key i hi] at h1
  by_cases e:c < i
  ·rw [if_pos e,h0] at h1; grind
  ·rw [if_neg e] at h1; exact h1
 ·intro h i hi
  rw [key i hi]
  by_cases e:c < i
  ·rw [if_pos e,h i hi,h c hc]; grind
  ·rw [if_neg e]; exact h i hi
theorem Yn {M:List (List Qi)} {n m c i j:Nat} (h:eR M n m) (hi:i < n) (hj:j < m):gm (redM M c n) i j = if c < i ∧ c < j then gm M i j - gm M i c / gm M c c * gm M c j else gm M i j:=by
 have hr:(dH M i).length = m:=h.row hi
 have e0 : dH (redM M c n) i = if c < i ∧ i < n then kL (dH M i) (dH M c) c (dH M i).length else dH M i := by
  simp only [dH,redM,List.getD]; rw [bO (by rw [h.1]; exact hi)]; rfl
 show gv (dH (redM M c n) i) j = _
 rw [e0]
 by_cases e:c < i
 ·rw [if_pos ⟨e, hi⟩, kL, pI zo]
  by_cases e2:c < j
  ·rw [if_pos ⟨e2,by omega⟩,if_pos ⟨e,e2⟩]
  ·rw [if_neg (fun k=>e2 k.1),if_neg (fun k=>e2 k.2)]
 ·rw [if_neg (fun k=>e k.1),if_neg (fun k=>e k.1)]
theorem Vy {A:List (List Qi)} {p c i j:Nat} (hc:c < A.length) (hp:p < A.length) (hcp:c ≤ p):clr (swp [] A p c) c i j = clr A c (Tz p c i) j:=by
 have key:gm (swp [] A p c) i j = gm A (Tz p c i) j:=congrArg (fun r=>gv r j) (Ju zo zo)
 unfold clr
 rw [key]
 have e:(j < c ∧ j < i) ↔ (j < c ∧ j < Tz p c i):=by unfold Tz; split <;> (try split) <;> omega
 by_cases h:j < c ∧ j < i
 ·rw [if_pos h,if_pos (e.1 h)]
 ·rw [if_neg h,if_neg (fun k=>h (e.2 k))]
structure EL (M A:List (List Qi)) (n m c:Nat):Prop where
 sh:eR A n m
 ker:∀ x,An (clr A c) n m x ↔ An (gm M) n m x
theorem EL.next {M A:List (List Qi)} {n m c p:Nat} (h:EL M A n m c) (hc:c < n) (hcm:c < m) (hcp:c ≤ p) (hp:p < n) (hz:gm A p c ≠ 0):EL M (redM (if p = c then A else swp [] A p c) c n) n m (c + 1):=by
 have hl:=h.sh.1
 obtain ⟨B,hB⟩:∃ B,B = if p = c then A else swp [] A p c:=⟨_,rfl⟩
 have hs : eR B n m := by
  rw [hB]; split
  ·exact h.sh
  ·exact xT h.sh hp hc
 have hBk : ∀ x, An (clr B c) n m x ↔ An (gm M) n m x := fun x => by
  rw [hB]; split
  ·exact h.ker x
  ·exact (Jg (G:=fun i=>clr A c (Tz p c i)) fun i hi j hj=>Vy zo zo hcp).trans ((Rw hp hc).trans (h.ker x))
 have hBz : gm B c c ≠ 0 := by
  rw [hB]; split
  ·rename_i e; rw [← e] at hz ⊢; exact hz
  ·show gv (dH (swp [] A p c) c) c ≠ 0
   rw [Ac zo]; exact hz
 rw [← hB]
 refine ⟨Gu hs,fun x=>(Rv (f:=fun i=>gm B i c / gm B c c) hc fun i hi j hj=>?_).trans (hBk x)⟩
 have hd:=qJ (x:=gm B i c) hBz
 unfold clr
 rw [Yn hs hi hj]
 by_cases e:c < i
 ·rw [if_pos e]
  by_cases e1:j < c
  ·rw [if_pos zo,if_pos zo,if_pos zo]; grind
  ·by_cases e2 : j = c
   ·subst e2
    rw [if_pos zo,if_neg zo,if_neg zo]; grind
   ·rw [if_neg zo,if_pos zo,if_neg zo,if_neg zo]
 ·rw [if_neg e, if_neg (show ¬ (c < i ∧ c < j) from fun k => e k.1)]
  by_cases e1:j < i
  ·rw [if_pos (show j < c + 1 ∧ j < i by omega),if_pos (show j < c ∧ j < i by omega)]
  ·rw [if_neg (show ¬ (j < c + 1 ∧ j < i) by omega),if_neg (show ¬ (j < c ∧ j < i) by omega)]
end
section
open Go Go.RowKit
abbrev gnI (G:List Nat):List Int:=G.map fun (q:Nat)=>(q:Int) + 1
def uZ (G : List Nat) : Nat → List Nat
 | 0=>[]
 | k + 1=>uZ G k ++ (if k ∈ G then [] else [k])
theorem Ls (G : List Nat) : ∀ k, (uZ G k).length ≤ k
 | 0=>Nat.le_refl _
 | k + 1 => by
  have:=Ls G k
  simp only [uZ,List.length_append]
  split
  ·simp; omega
  ·simp; omega
theorem Lt {p : Nat} : ∀ {k : Nat}, uZ [p] k = tab (Nc p k) (nJ p)
 | 0=>by rw [uZ,show Nc p 0 = 0 by unfold Nc; split <;> omega]; rfl
 | k + 1 => by
  rw [uZ,Lt]
  by_cases c:k = p
  ·subst c
   rw [if_pos (by simp),List.append_nil,show Nc k (k + 1) = Nc k k by unfold Nc; split <;> split <;> omega]
  ·rw [if_neg (by simpa using c)]
   have e1:nJ p (Nc p k) = k:=by unfold nJ Nc; split <;> split <;> omega
   have e2:Nc p (k + 1) = Nc p k + 1:=by unfold Nc; split <;> split <;> omega
   rw [e2,Hk,e1]
theorem Xf {p n:Nat} (h:p < n):(uZ [p] n).map Nat.succ = zC p (n - 1):=by rw [Lt,Wc h,mB]; rfl
theorem Rn {G:List Nat} {i:Nat}:((gnI G).any fun x=>decide (((i + 1:Nat):Int) = x)) = decide (i ∈ G):=by
 rw [Bool.eq_iff_iff]
 simp only [gnI,List.any_map,List.any_eq_true,Function.comp,decide_eq_true_eq]
 constructor
 ·rintro ⟨q, h1, h2⟩
  obtain rfl:i = q:=by omega
  exact h1
 ·intro h; exact ⟨i,h,by omega⟩
abbrev sN (Q:List Nat) (i:Nat):Nat:=Q.getD i 0
def Tw (z:List Qi) (Q:List Nat):List Qi:=tab Q.length fun i=>gv z (sN Q i)
def Tu (s:List (List Qi)) (Q:List Nat):List (List Qi):=tab Q.length fun i=>tab Q.length fun j=>gm s (sN Q i) (sN Q j)
theorem Jp {Q:List Nat} {n i:Nat} (h:∀ x,x ∈ Q → x < n) (hi:i < Q.length):sN Q i < n:=h _ (by rw [show sN Q i = Q[i] by simp [sN,List.getD,hi]]; exact List.getElem_mem hi)
theorem Ed {Q:List Nat} {i:Nat} (h:i < Q.length):(Q.map Nat.succ)[i]? = some (sN Q i + 1):=by simp [sN,List.getD,h]
theorem Ad {m i:Nat} {p:Nat} (h:i < m):sN (tab m (nJ p)) i = nJ p i:=rE h
theorem Tx (z:List Qi) (p m:Nat):Tw z (tab m (nJ p)) = Og z p m:=by
 rw [Tw,aT]; exact bE fun i hi=>by rw [Ad hi]
theorem Tv (s:List (List Qi)) (p m:Nat):Tu s (tab m (nJ p)) = a24 s p m:=by
 rw [Tu,aT]; exact bE fun i hi=>bE fun j hj=>by rw [Ad hi,Ad hj]
theorem Yx {p m n : Nat} (hp : p < n) (hm : m = n - 1) : ∀ x, x ∈ tab m (nJ p) → x < n := fun x hx => by
 obtain ⟨i,hi,rfl⟩:=eE.1 hx; exact Jt zo hp
theorem Xg (p m:Nat):(tab m (nJ p)).map Nat.succ = zC p m:=by rw [mB]; rfl
end
section
open Go Go.RowKit
def gq (ps:List (Nat × Nat)) (x:Nat):Nat:=if x % 2 = 0 then pA ps (x / 2) else pB ps (x / 2)
structure Jn (ps:List (Nat × Nat)) (n K:Nat):Prop where
 lt:∀ x,x < 2 * K → gq ps x < n
 inj:∀ x y,x < 2 * K → y < 2 * K → gq ps x = gq ps y → x = y
theorem Jn.le {ps:List (Nat × Nat)} {n K k:Nat} (h:Jn ps n K) (hk:k ≤ K):Jn ps n k:=⟨fun x hx=>h.lt x zo,fun x y hx hy=>h.inj x y zo zo⟩
end
section
open Go Go.RowKit
theorem Zd {n i j:Nat} (hi:i < n) (hj:j < n):gm (yZ n) i j = if i = j then 1 else 0:=by
 show gv ((yZ n).getD i []) j = _
 rw [yZ,rE hi,Aj,Jf (by rw [aT]; exact hi)]
 by_cases e:j = i
 ·subst e; rw [if_pos rfl,if_pos rfl]; rfl
 ·rw [if_neg e,if_neg (Ne.symm e),pI hj]; rfl
theorem Lw {a b:List (List Qi)} {n m:Nat} (ha:eR a n m) (hb:eR b n m) (h:∀ i,i < n → ∀ j,j < m → gm a i j = gm b i j):a = b:=by
 rw [pM ha,pM hb]
 exact bE fun i hi=>bE fun j hj=>h i hi j hj
end
section
open Go Go.RowKit
theorem pig : ∀ {n m : Nat} {f : Nat → Nat}, (∀ x, x < m → f x < n) → (∀ x y, x < m → y < m → f x = f y → x = y) → m ≤ n
 | 0, m, f, h, _ => by
  cases m with
  | zero=>exact Nat.le_refl 0
  | succ m=>exact absurd (h 0 zo) zo
 | n + 1,0,_,_,_=>by omega
 | n + 1, k + 1, f, h, i => by
  have := pig (n := n) (m := k) (f := fun x => if f x = n then f k else f x) (fun x hx => by
   have h1:=h x zo
   have h2:=h k zo
   by_cases c:f x = n
   ·simp only [if_pos c]
    have:f k ≠ n:=fun e=>by have:=i x k zo zo (by rw [c,e]); omega
    omega
   ·simp only [if_neg c]; omega) (fun x y hx hy e=>by
   by_cases c:f x = n <;> by_cases d:f y = n
   ·exact i x y zo zo (by rw [c,d])
   ·simp only [if_pos c, if_neg d] at e
    have:=i k y zo zo e; omega
   ·simp only [if_neg c, if_pos d] at e
    have:=i x k zo zo e; omega
   ·simp only [if_neg c, if_neg d] at e
    exact i x y zo zo e)
  omega
end
section
open Go Go.RowKit
theorem a1b {x:Qi} (h:gY x = true):x ≠ 0:=fun e=>(a1c h).2 (by rw [e]; rfl)
theorem oW {z:List Qi} (h:z.all gY = true) {i:Nat} (hi:i < z.length):gv z i ≠ 0:=a1b (List.all_eq_true.1 h _ (by rw [show gv z i = z[i] by simp [gv,List.getD,hi]]; exact List.getElem_mem hi))
theorem kD {x y:Qi} {L M:Nat} (hx:aD x L) (hy:aD y M) (h:y ≠ 0):aD (x / y) (L + 3 * M + 2):=⟨hx.fit.div hy.fit h⟩
end
section
open Go Go.RowKit
structure Az (O:List Nat) (n:Nat):Prop where
 nd:O.Nodup
 all:∀ x,x ∈ O ↔ 1 ≤ x ∧ x ≤ n
theorem Az.len {O:List Nat} {n:Nat} (h:Az O n):O.length = n:=by
 refine Nat.le_antisymm ?_ ?_
 ·refine pig (n := n) (f := fun i => O.getD i 0 - 1) (fun x hx => ?_) (fun x y hx hy e => ?_)
  ·have := (h.all (O.getD x 0)).1 (by rw [show O.getD x 0 = O[x] by simp [List.getD, hx]]; exact List.getElem_mem hx)
   show O.getD x 0 - 1 < n; omega
  ·have a := (h.all (O.getD x 0)).1 (by rw [show O.getD x 0 = O[x] by simp [List.getD, hx]]; exact List.getElem_mem hx)
   have b:=(h.all (O.getD y 0)).1 (by rw [show O.getD y 0 = O[y] by simp [List.getD,hy]]; exact List.getElem_mem hy)
   have e2:O.getD x 0 = O.getD y 0:=by have:O.getD x 0 - 1 = O.getD y 0 - 1:=e; omega
   rw [show O.getD x 0 = O[x] by simp [List.getD,hx],show O.getD y 0 = O[y] by simp [List.getD,hy]] at e2
   exact (List.getElem_inj h.nd).1 e2
 ·have key : ∀ j, j < n → ∃ i, i < O.length ∧ O.getD i 0 = j + 1 := fun j hj => by
   obtain ⟨i,hi,e⟩:=List.getElem_of_mem ((h.all (j + 1)).2 ⟨by omega,by omega⟩)
   exact ⟨i,hi,by simp [List.getD,hi,e]⟩
  refine pig (n:=O.length) (f:=fun j=>if hj:j < n then Classical.choose (key j hj) else 0) (fun x hx=>by simp only [dif_pos hx]; exact (Classical.choose_spec (key x hx)).1) (fun x y hx hy e=>?_)
  simp only [dif_pos hx,dif_pos hy] at e
  have a:=(Classical.choose_spec (key x hx)).2
  have b:=(Classical.choose_spec (key y hy)).2
  rw [e] at a; omega
section
variable {O:List Nat} {n:Nat}
theorem Az.at (h:Az O n) {i:Nat} (hi:i < n):1 ≤ O.getD i 0 ∧ O.getD i 0 ≤ n:=by
 have hl:=h.len
 exact (h.all _).1 (by rw [show O.getD i 0 = O[i] by simp [List.getD,show i < O.length by omega]]; exact List.getElem_mem _)
theorem Az.inj (h:Az O n) {i j:Nat} (hi:i < n) (hj:j < n) (e:O.getD i 0 = O.getD j 0):i = j:=by
 have hl:=h.len
 rw [show O.getD i 0 = O[i] by simp [List.getD,show i < O.length by omega],show O.getD j 0 = O[j] by simp [List.getD,show j < O.length by omega]] at e
 exact (List.getElem_inj h.nd).1 e
end
end
section
open Go Go.RowKit
section
variable {S:List (List Qi)} {p q r t a b:Nat}
theorem Yz {x y:Qi} (h:x - y = 0):x = y:=by grind
end
section
variable {S:Nat → Nat → Qi} {p q r t a b:Nat}
def S1 (S:Nat → Nat → Qi) (p q:Nat) (V:Nat → Qi × Qi) (a b:Nat):Qi:=S a b + (S a p * (V b).1 + S a q * (V b).2)
variable {V:Nat → Qi × Qi}
end
end
section
open Go Go.RowKit
def low (c a b:Nat):Nat:=c - (if a < c then 1 else 0) - (if b < c then 1 else 0)
def okP (N p q r t : Nat) : Bool :=
 decide ((uZ [p,q] N).length = N - 2) && decide (low r p q < N - 2) && decide (low t p q < N - 2) && decide (low r p q ≠ low t p q) && decide (sN (uZ [p,q] N) (low r p q) = r) && decide (sN (uZ [p,q] N) (low t p q) = t)
 && decide ((uZ [low r p q,low t p q] (N - 2)).map (sN (uZ [p,q] N)) = uZ [p,q,r,t] N) && decide ((uZ [p,q,r,t] N).length = N - 4) && decide (uZ [t,r,p,q] N = uZ [p,q,r,t] N) && decide (uZ [r,t,p,q] N = uZ [p,q,r,t] N)
section
variable {z:List Qi} {S:List (List Qi)} {N p q r t:Nat} {ζ:Qi}
end
end
section
open Go Go.RowKit
def Gb (x:Qi) (N:Nat):Prop:=∃ p q:Int,x = Qi.mk (p:Rat) (q:Rat) ∧ p.natAbs ≤ N ∧ q.natAbs ≤ N
theorem Gb.le {x:Qi} {N M:Nat} (h:Gb x N) (k:N ≤ M):Gb x M:=by
 obtain ⟨p,q,e,h1,h2⟩:=h; exact ⟨p,q,e,by omega,by omega⟩
theorem Gb.add {x y:Qi} {N M:Nat} (h:Gb x N) (k:Gb y M):Gb (x + y) (N + M):=by
 obtain ⟨p,q,rfl,h1,h2⟩:=h; obtain ⟨r,s,rfl,k1,k2⟩:=k
 refine ⟨p + r,q + s,Qi.ext' ?_ ?_,by omega,by omega⟩
 ·show (p:Rat) + (r:Rat) = ((p + r:Int):Rat); push_cast; rfl
 ·show (q:Rat) + (s:Rat) = ((q + s:Int):Rat); push_cast; rfl
theorem Gb.neg {x:Qi} {N:Nat} (h:Gb x N):Gb (-x) N:=by
 obtain ⟨p,q,rfl,h1,h2⟩:=h
 refine ⟨-p,-q,Qi.ext' ?_ ?_,by omega,by omega⟩
 ·show -(p:Rat) = ((-p:Int):Rat); push_cast; rfl
 ·show -(q:Rat) = ((-q:Int):Rat); push_cast; rfl
theorem Gb.sub {x y:Qi} {N M:Nat} (h:Gb x N) (k:Gb y M):Gb (x - y) (N + M):=by rw [Qi.sub_def]; exact h.add k.neg
theorem nX {p q:Int} {N M:Nat} (h:p.natAbs ≤ N) (k:q.natAbs ≤ M):(p * q).natAbs ≤ N * M:=by rw [Int.natAbs_mul]; exact Nat.mul_le_mul h k
theorem Gb.mul {x y:Qi} {N M:Nat} (h:Gb x N) (k:Gb y M):Gb (x * y) (2 * N * M):=by
 obtain ⟨p,q,rfl,h1,h2⟩:=h; obtain ⟨r,s,rfl,k1,k2⟩:=k
 have a1:=nX h1 k1; have a2:=nX h2 k2; have a3:=nX h1 k2; have a4:=nX h2 k1
 have e:2 * N * M = N * M + N * M:=by rw [Nat.mul_assoc,Nat.two_mul]
 refine ⟨p * r - q * s,p * s + q * r,Qi.ext' ?_ ?_,by omega,by omega⟩
 ·rw [Qi.mul_re]; show (p:Rat) * (r:Rat) - (q:Rat) * (s:Rat) = ((p * r - q * s:Int):Rat); push_cast; rfl
 ·rw [Qi.mul_im]; show (p:Rat) * (s:Rat) + (q:Rat) * (r:Rat) = ((p * s + q * r:Int):Rat); push_cast; rfl
theorem Gb.sum {f : Nat → Qi} {N : Nat} : ∀ {n : Nat}, (∀ k, k < n → Gb (f k) N) → Gb (bM n f) (n * N)
 | 0,_=>⟨0,0,Qi.ext' rfl rfl,by simp,by simp⟩
 | n + 1, h => by
  rw [bM,Nat.succ_mul]
  exact (Gb.sum fun k hk=>h k zo).add (h n zo)
theorem Gb.fit {x:Qi} {N L:Nat} (h:Gb x N) (hN:N < BB ^ L) (hL:1 ≤ L):aD x L:=by
 obtain ⟨p,q,rfl,h1,h2⟩:=h
 have e:Qi.mk (p:Rat) (q:Rat) = Qi.mk' p q 1:=Qi.ext' (by rw [Qi.mk_re]; show (p:Rat) = p / ((1:Nat):Rat); grind) (by rw [Qi.mk_im]; show (q:Rat) = q / ((1:Nat):Rat); grind)
 rw [e]
 exact ⟨Qi.Fit.mk (by decide) zo zo (Qi.one_lt hL)⟩
def fs : Nat → Nat → Nat
 | 0,_=>1
 | n + 1,N=>2 * (n + 1) * N * fs n (4 * N * N)
theorem rQ (x:Qi):((x.den:Int):Rat) * x.re = (x.a:Rat) ∧ ((x.den:Int):Rat) * x.im = (x.b:Rat):=by
 have h:=Qi.nc x.den_pos
 have h2:((x.den:Int):Rat) = (x.den:Rat):=by push_cast; rfl
 rw [h2]
 exact ⟨by rw [Qi.re_eq x]; grind,by rw [Qi.im_eq x]; grind⟩
theorem Mj {L : Nat} {x : Nat → Qi} : ∀ k, (∀ j, j < k → aD (x j) L) → ∃ d : Nat, 0 < d ∧ d ≤ BB ^ (k * L) ∧ ∀ j, j < k → Gb (Qi.ofInt d * x j) (BB ^ (k * L))
 | 0,_=>⟨1,by decide,Nat.pow_pos fA,fun j hj=>by omega⟩
 | k + 1, h => by
  obtain ⟨d,d0,dl,hd⟩:=Mj k fun j hj=>h j zo
  have hx:=(h k zo).fit
  have hm:=rQ (x k)
  have hpow:BB ^ ((k + 1) * L) = BB ^ (k * L) * BB ^ L:=by rw [Nat.succ_mul,Nat.pow_add]
  refine ⟨d * (x k).den,Nat.mul_pos d0 (x k).den_pos,?_,fun j hj=>?_⟩
  ·rw [hpow]; exact Nat.mul_le_mul dl (Nat.le_of_lt hx.2.2)
  ·by_cases e : j = k
   ·subst e
    refine ⟨d * (x j).a,d * (x j).b,Qi.ext' ?_ ?_,?_,?_⟩
    ·rw [Qi.mul_re]
     show (((d * (x j).den:Nat):Int):Rat) * (x j).re - 0 * (x j).im = ((d * (x j).a:Int):Rat)
     have:=hm.1; push_cast at *; grind
    ·rw [Qi.mul_im]
     show (((d * (x j).den:Nat):Int):Rat) * (x j).im + 0 * (x j).re = ((d * (x j).b:Int):Rat)
     have:=hm.2; push_cast at *; grind
    ·rw [hpow]; exact nX (by simpa using dl) (Nat.le_of_lt hx.1)
    ·rw [hpow]; exact nX (by simpa using dl) (Nat.le_of_lt hx.2.1)
   ·obtain ⟨p, q, e1, h1, h2⟩ := hd j zo
    have er:=congrArg Qi.re e1; have ei:=congrArg Qi.im e1
    rw [Qi.mul_re] at er; rw [Qi.mul_im] at ei
    refine ⟨p * (x k).den,q * (x k).den,Qi.ext' ?_ ?_,?_,?_⟩
    ·rw [Qi.mul_re]
     have er:((d:Int):Rat) * (x j).re - 0 * (x j).im = (p:Rat):=er
     show (((d * (x k).den:Nat):Int):Rat) * (x j).re - 0 * (x j).im = ((p * (x k).den:Int):Rat)
     push_cast at *; grind
    ·rw [Qi.mul_im]
     have ei:((d:Int):Rat) * (x j).im + 0 * (x j).re = (q:Rat):=ei
     show (((d * (x k).den:Nat):Int):Rat) * (x j).im + 0 * (x j).re = ((q * (x k).den:Int):Rat)
     push_cast at *; grind
    ·rw [hpow]; exact nX h1 (by simpa using Nat.le_of_lt hx.2.2)
    ·rw [hpow]; exact nX h2 (by simpa using Nat.le_of_lt hx.2.2)
theorem Sj {d : Nat} (h : 0 < d) : Qi.ofInt d ≠ 0 := fun e => by
 have:=congrArg Qi.re e
 have h2:((d:Int):Rat) = ((0:Int):Rat):=this
 rw [Rat.intCast_inj] at h2; omega
end
section
open Go Go.RowKit
section
variable {z:List Qi} {s c:List (List Qi)} {g t:Qi} {p:Nat}
theorem Cf (n:Nat) (f:Nat → Qi):bM (n + 1) f = bM n f + f n:=rfl
end
end
section
open Go Go.RowKit
theorem a1X {n i j:Nat} (hi:i < n) (hj:j < n):gm (yZ n) i j = if i = j then 1 else 0:=Zd hi hj
section
variable {a b:Qi} {A B C:List (List Qi)} {d e:Nat → Qi} {n:Nat}
end
theorem q2:Qi.ofInt 2 = 2:=rfl
section
variable {z:List Qi} {s:List (List Qi)}
end
end
section
open Go Go.RowKit
def wst (w : Nat) : Nat → Nat
 | 0=>w
 | c + 1=>2 * wst w c + 1
theorem Hq (w : Nat) : ∀ {c d : Nat}, c ≤ d → wst w c ≤ wst w d
 | c,0,h=>by rw [show c = 0 by omega]; exact Nat.le_refl _
 | c, d + 1, h => by
  by_cases e:c = d + 1
  ·rw [e]; exact Nat.le_refl _
  ·have := Hq w (c := c) (d := d) zo
   simp only [wst]; omega
def sR (r:List Qi) (w:Nat):Prop:=∃ d:Qi,d ≠ 0 ∧ Gb d (BB ^ w) ∧ ∀ j,Gb (d * gv r j) (BB ^ w)
theorem sR.le {r:List Qi} {w v:Nat} (h:sR r w) (k:w ≤ v):sR r v:=by
 obtain ⟨d,d0,dg,dj⟩:=h
 have hp:BB ^ w ≤ BB ^ v:=Nat.pow_le_pow_right fA k
 exact ⟨d,d0,dg.le hp,fun j=>(dj j).le hp⟩
theorem Jy (w:Nat):2 * BB ^ w * BB ^ w + 2 * BB ^ w * BB ^ w ≤ BB ^ (2 * w + 1):=by
 have e:BB ^ (2 * w + 1) = BB ^ w * BB ^ w * BB:=by rw [Nat.pow_succ,Nat.two_mul,Nat.pow_add]
 rw [e,Nat.mul_assoc 2,← Nat.two_mul,← Nat.mul_assoc 2 2,Nat.mul_comm (2 * 2)]
 exact Nat.mul_le_mul_left _ (by decide)
theorem Ro {l:List Qi} {j:Nat} (h:l.length ≤ j):gv l j = 0:=by simp [gv,List.getD,List.getElem?_eq_none h]; rfl
theorem Lm (N:Nat):Gb 0 N:=⟨0,0,Qi.ext' rfl rfl,by simp,by simp⟩
theorem sR.red {rr rc:List Qi} {c w:Nat} {P:Nat → Prop} [DecidablePred P] (h1:sR rr w) (h2:sR rc w) (hp:gv rc c ≠ 0):sR (tab rr.length fun j=>if P j then gv rr j - gv rr c / gv rc c * gv rc j else gv rr j) (2 * w + 1):=by
 obtain ⟨d,d0,dg,dj⟩:=h1
 obtain ⟨e,e0,eg,ej⟩:=h2
 have t:=Jy w
 refine ⟨d * (e * gv rc c),fun k=>?_,(dg.mul (ej c)).le zo,fun j=>?_⟩
 ·rcases nW k with k | k
  ·exact d0 k
  ·rcases nW k with k | k
   ·exact e0 k
   ·exact hp k
 ·by_cases hj : j < rr.length
  ·rw [pI hj]
   by_cases hP:P j
   ·rw [if_pos hP]
    have hd:=qJ (x:=gv rr c) hp
    have ee : d * (e * gv rc c) * (gv rr j - gv rr c / gv rc c * gv rc j) = d * gv rr j * (e * gv rc c) - d * gv rr c * (e * gv rc j) := by
     have e2:d * (e * gv rc c) * (gv rr c / gv rc c * gv rc j) = d * (gv rr c / gv rc c * gv rc c) * (e * gv rc j):=by grind
     rw [hd] at e2
     grind
    rw [ee]
    exact (((dj j).mul (ej c)).sub ((dj c).mul (ej j))).le t
   ·rw [if_neg hP]
    have ee:d * (e * gv rc c) * gv rr j = d * gv rr j * (e * gv rc c):=by grind
    rw [ee]
    exact ((dj j).mul (ej c)).le zo
  ·rw [Ro (l := tab rr.length fun j => if P j then gv rr j - gv rr c / gv rc c * gv rc j else gv rr j) (by rw [aT]; omega)]
   have ee:d * (e * gv rc c) * 0 = 0:=by grind
   rw [ee]; exact Lm _
theorem sR.fit {r : List Qi} {w : Nat} (h : sR r w) : cD r (4 * (w + 1) + 2) := fun x hx => by
 obtain ⟨d,d0,dg,dj⟩:=h
 obtain ⟨j,hj,e⟩:=List.getElem_of_mem hx
 have e2:gv r j = x:=by simp [gv,List.getD,hj,e]
 have hlt:BB ^ w < BB ^ (w + 1):=Nat.pow_lt_pow_right (by decide) zo
 have f1:aD (d * gv r j) (w + 1):=(dj j).fit hlt zo
 have f2:aD d (w + 1):=dg.fit hlt zo
 have f3:aD (d * gv r j / d) (w + 1 + 3 * (w + 1) + 2):=kD f1 f2 d0
 rw [a0L (z:=x) d0 (by rw [e2]; grind)] at f3
 exact f3.le zo
theorem Yo {r:List Qi} {m L:Nat} (hl:r.length = m) (h:cD r L) (hL:1 ≤ L):sR r (m * L):=by
 obtain ⟨d,d0,dl,dj⟩:=Mj (L:=L) (x:=gv r) m fun j _=>h.get hL j
 refine ⟨Qi.ofInt d,Sj d0,⟨d,0,Qi.ext' rfl (by show (0:Rat) = ((0:Int):Rat); rfl),by simpa using dl,by simp⟩,fun j=>?_⟩
 by_cases hj:j < m
 ·exact dj j hj
 ·rw [Ro zo]
  have ee:Qi.ofInt d * 0 = 0:=by grind
  rw [ee]; exact Lm _
abbrev mE (M:List (List Qi)) (w:Nat):Prop:=∀ r,r ∈ M → sR r w
theorem mE.row {M : List (List Qi)} {w i : Nat} (h : mE M w) (hi : i < M.length) : sR (dH M i) w := h _ (by
 rw [show dH M i = M[i] by simp [dH,List.getD,hi]]; exact List.getElem_mem hi)
theorem Te {M:List (List Qi)} {n m L:Nat} (hs:eR M n m) (h:bP M L) (hL:1 ≤ L):mE M (m * L):=fun r hr=>Yo (hs.2 r hr) (h r hr) hL
theorem mE.swp {M : List (List Qi)} {w p c : Nat} (h : mE M w) (hp : p < M.length) (hc : c < M.length) : mE (swp [] M p c) w := fun x hx => by
 unfold Go.Proofs.YtdlciihkiefckaaGreat.swp at hx
 rcases List.mem_or_eq_of_mem_set hx with h1 | h1
 ·rcases List.mem_or_eq_of_mem_set h1 with h2 | h2
  ·exact h x h2
  ·rw [h2]; exact h.row hc
 ·rw [h1]; exact h.row hp
theorem mE.redM {M : List (List Qi)} {w c r : Nat} (h : mE M w) (hc : c < M.length) (hp : gm M c c ≠ Qi.zero) : mE (redM M c r) (2 * w + 1) := fun x hx => by
 obtain ⟨i,hi,rfl⟩:=eE.1 hx
 show sR (if c < i ∧ i < r then kL (dH M i) (dH M c) c (dH M i).length else dH M i) _
 split
 ·exact (h.row hi).red (h.row hc) hp
 ·exact (h.row hi).le zo
theorem mE.redJ {M : List (List Qi)} {w c r : Nat} (h : mE M w) (hc : c < M.length) (hp : gm M c c ≠ Qi.zero) : mE (redJ M c r) (2 * w + 1) := fun x hx => by
 obtain ⟨i,hi,rfl⟩:=eE.1 hx
 show sR (if i ≠ c ∧ i < r then vY (dH M i) (dH M c) c (dH M i).length else dH M i) _
 split
 ·exact (h.row hi).red (h.row hc) hp
 ·exact (h.row hi).le zo
structure SzS (M:List (List Qi)) (b:List Qi) (n G X:Nat):Prop where
 st:∀ c,c ≤ n → bP (dR (oI M [b] n) c).1 G
 bk:sK M b n = 0 → ∀ j,j ≤ n → cD (vO (zY M b n).1 n j) X
 g1:1 ≤ G
 x1:1 ≤ X
 g:6 * G + 4 ≤ 17592186044415
 x:n * (X + G + 2) + 4 * G + 2 ≤ 17592186044415
theorem SzS.old {M:List (List Qi)} {b:List Qi} {n L:Nat} (hM:eR M n n) (hf:bP M L) (hfb:cD b L) (hL:1 ≤ L) (hg:6 * nC L n + 4 ≤ 17592186044415) (hx:Hr (nC L n) (n + 1) ≤ 17592186044415):SzS M b n (nC L n) (Hr (nC L n) n):=by
 have hcs:eR (oI M [b] n) n (n + 1):=oJ hM
 have hcf:bP (oI M [b] n) L:=uU hf (fun r hr=>by simp at hr; subst hr; exact hfb) hL
 have hG1:1 ≤ nC L n:=Nat.le_trans hL (tW L n)
 refine ⟨fun c hc=>(yV hcs hcf hL hc).le (rW L hc),fun hE j hj=>?_,hG1,Nat.le_trans hG1 (Ka _ _),hg,hx⟩
 have hst:¬ 0 ≤ (zY M b n).2.2:=fun h=>by rw [sK,if_pos h] at hE; omega
 have hf2:=Ps (Tl hM hf hfb hL) hG1 (uX hcs (Nat.le_refl n) (Mm hst)) j hj
 exact fun y hy=>(hf2 y hy).le (Hu _ hj)
structure SzJ (M:List (List Qi)) (b:List Qi) (n G:Nat):Prop where
 st:∀ c A,c ≤ n → Ns (oI M [b] n) c = some A → bP A G
 g1:1 ≤ G
 g:6 * G + 4 ≤ 17592186044415
theorem SzJ.old {M : List (List Qi)} {b : List Qi} {n L : Nat} (hM : eR M n n) (hf : bP M L) (hfb : cD b L) (hL : 1 ≤ L) (hg : 6 * nC L n + 4 ≤ 17592186044415) : SzJ M b n (nC L n) :=
 ⟨fun _ _ hc hA=>(Rl (show eR (oI M [b] n) n (n + 1) from oJ hM) (Nat.le_succ n) (uU hf (fun r hr=>by simp at hr; subst hr; exact hfb) hL) hL hc hA).le (rW L hc),Nat.le_trans hL (tW L n),hg⟩
end
section
open Go Go.RowKit
theorem Zo {n:Nat} (hn:n ≤ 32):iI Tryz.prog 144 [NT .i64 n] [] (Nat) (fun B=>Is (.slice (some ⟨B,0,none⟩) n n)) (fun B=>[nM lR B 25 60 5 (cL bA (yZ n))]) (fun _=>True):=by
 refine iI.intro Tryz.func144 rfl Tryz.ntmps144 rfl (fun cx Z=>(ts (ro rfl (cQ cV) (eJ (ts (rn rfl (eK (Ts:=[Is (.bool false),Is (.slice none 0 0),Is (.bool false),Is (.slice none 0 0),Is (.slice none 0 0)]) O_60 rfl (fun V=>aW zd (aW zd (aW zd (aW zd (aW zd (aG))))))) fun B3=>(eJ (ts (rm rfl (ro rfl (aI.nat (Xz (Ht rfl) (cJ 0)) (show max n 0 = n by omega)) (ro rfl (aI.nat (Mc (Ht rfl) (cJ 32)) (show min n 32 = n by omega)) ?_)))))))))))
 refine rn rfl (eI (T:=Is (.slice none 0 0)) (i:=Tryz.t25) Tryz.underlying26 xJ rfl rfl (Ht rfl) rfl (fun _=>rfl) trivial (by show 24 * _ ≤ _; omega) zo) fun B9=>ra rfl (eJ (cK (ts (rm rfl (ro rfl (fT U_26 (Ht rfl)) (ro rfl (cX (cJ 0)) (eJ (eU (pZ 2 rfl (zI lR ⟨none,0,rfl⟩ (e:=60) (s:=5)) ?_)))))))))
 refine bF (fun (k : Nat) => k ≤ n) (fun (k : Nat) => n - k) (fun (k : Nat) => [(3, cC B3 0), (4, Is (.slice (some ⟨B9, 0, none⟩) n n)), (11, NT .i64 n), (12, NT .i64 k)]) (fun (k : Nat) => [Z, box B3 60 [Is (.bool false), Is (.slice none 0 0), Is (.bool false), Is (.slice none 0 0), Is (.slice none 0 0)], nM lR B9 25 60 5 (cL bA (lO (Aj n) [] n k))]) 0 (Nat.zero_le _)
  (zS rfl) (aU (fun _ _ _ h=>h) (aU (fun _ _ _ h=>h) (aU (dM (by rw [← jX,sH]; exact qW bA n)) aY))) (fun k hk=>?_)
 refine ts (ro rfl (gJ (Ht rfl) (Ht rfl)) (eJ (cK (dQ (Ht rfl) (fun hd=>?_) (fun hd=>?_)))))
 ·simp only [decide_eq_true_eq] at hd
  refine yG 2 (k) rfl (tV hd) (fun v hv=>(cU (cK (eU (ts (rm rfl (ra rfl (eJ (cK (fV (m:=10) (dp 4 rfl (cX (Ht rfl)) (dp 5 rfl (cX (Ht rfl)) (dp 3 rfl (eG A_60 Z_60 (Ht rfl) (i:=1) rfl rfl rfl) (dq 17 2 rfl (eP gD (Ht rfl)) (d0 rfl (cZ K_52 (vR (n:=0) (by decide) (by decide)) ⟨(cJ 0),trivial⟩) (bR 18 3 19 4 rfl (dL tC Tryz.call304 Pv (Ht rfl) ⟨(Ht rfl),trivial⟩) (dq 20 5 rfl (fE (xs:=[.tmp 20]) U_25 Z_60 O_60 (cW (Ht rfl) cG) rfl rfl rfl) ?_)))))))))))))))))
  refine dp 4 rfl (cX (Ht rfl)) (dq 22 7 rfl (fT U_26 (Ht rfl)) (C.D_new (Ei:=[(21,_),(23,_)]) rfl rfl rfl (bV (bG 6 rfl rfl) (bV (bG 8 rfl rfl) bW)) (Nz Tryz.call229 (a0r (m:=n) zo zo) ⟨(Ht rfl),(Ht rfl),trivial⟩) (fG aO rfl (by kernel_rfl) (zF (zF (aJ (C.F_new (fun B24=>aV (ro rfl (gX U_26 Z_25 (Ht rfl) (Ht rfl) rfl zo (by rw [Nat.mul_one,Nat.zero_add])) ?_)))))))))
  refine yC Z_25 (Ht rfl) (Ht rfl) (by simp only [cL,List.length_map,fH]; omega) (j:=2) (l:=4) rfl rfl rfl ?_
  refine eJ ?_
  have hB24:=B24.1.2
  refine fV (m:=9) (dp 4 rfl (cX (Ht rfl)) (dp 5 rfl (cX (Ht rfl)) (bR 26 0 27 1 rfl (gX U_26 Z_25 (Ht rfl) (Ht rfl) rfl zo (by rw [Nat.mul_one,Nat.zero_add])) ?_)))
  refine dq 28 2 rfl (kX A_25 Z_25 (Ht rfl) (j:=2) rfl) (dp 5 rfl (cX (Ht rfl)) (dp 3 rfl (eG A_60 Z_60 (Ht rfl) (i:=1) rfl rfl rfl) (dq 31 5 rfl (eP gD (Ht rfl)) (d0 rfl (cZ K_52 (vR (n:=1) (by decide) (by decide)) ⟨(cJ 1),trivial⟩) (bR 32 6 33 7 rfl (dL tC Tryz.call304 Pv (Ht rfl) ⟨(Ht rfl),trivial⟩) (fG aO rfl (by kernel_rfl) (zF (zF (aJ (aV (ro rfl (cP U_25 Z_60 (Ht rfl) (Ht rfl) rfl (i:=4) rfl (by simp only [List.length_map,aT]; omega) rfl) ?_)))))))))))
  refine lE Z_60 (Ht rfl) (Ht rfl) (El.ag rfl) (i:=4) rfl rfl (by simp only [List.length_map,aT]; omega) rfl ?_
  refine eJ (bC (jH 2 4 rfl rfl (by decide) (by simp only [cL,List.length_map,fH]; omega) ?_))
  refine cY (ro rfl (dW (Ht rfl) (cJ 1) z6) (rm rfl (eJ (eB [0,1,2] rfl (by decide) (gQ (k + 1) hd zo (zS rfl) (aU (fun _ _ _ h=>h) (aU (fun _ _ _ h=>h) (aU (dM (by rw [← lI (f:=Aj n),← jY,Aj,← iU])) aY))))))))
 ·simp only [decide_eq_false_iff_not] at hd
  obtain rfl:n = k:=Nat.le_antisymm zo hk
  refine gG rfl (ts (rm rfl (ra rfl (eJ ?_))))
  exact kG B9 trivial [0,2] ⟨⟨_,rfl,fun _ _ _ h=>h⟩,⟨_,rfl,(dM (by rw [lH]; rfl))⟩,trivial⟩ (by decide) (vG rfl (fQ rfl))
theorem a1H {n:Nat} (hn:n ≤ 32):aP Tryz.prog 144 [NT .i64 n] (fB (yZ n)):=(Zo hn).fun fun B _ v S V h1 h2=>qL (s:=5) (M:=yZ n) (pK n).1.symm v S V h1 h2
theorem Pz {M:List (List Qi)} {b:List Qi} {n G X:Nat} (hM:eR M n n) (hb:b.length = n) (hz:SzS M b n G X) (h1:1 ≤ n) (hn:n ≤ 32):aP Tryz.prog 126 [fB M,cE b] (fR [cE (pV (sK M b n) (zZ M b n)),aN .i64 (sK M b n)]):=by
 have hMl:=hM.1
 have hcs:eR (oI M [b] n) n (n + 1):=oJ hM
 have hg:=hz.g
 have hx:n * (G + X + 2) + 4 * G + 2 ≤ 17592186044415:=by rw [Nat.add_comm G X]; exact hz.x
 obtain ⟨U,hU⟩:∃ U,U = (zY M b n).1:=⟨_,rfl⟩
 have hUs:eR U n (n + 1):=by rw [hU]; exact Tm hM
 have hUl:=hUs.1
 have hUf:bP U G:=by rw [hU]; exact hz.st n (Nat.le_refl n)
 have hG1:=hz.g1
 have hX1:=hz.x1
 refine aP.intro Tryz.func126 rfl Tryz.ntmps126 rfl (fun cx=>(ts (ro rfl (cQ cV) (ro rfl (cQ (cJ 0)) (eJ (cK (ts (rm rfl (ro rfl (cZ Tryz.call172 (Fg hM h1 hn) ⟨(Ht rfl),trivial⟩) (ro rfl (dT (Ht rfl)) (rm rfl (fZ rfl rfl (eY rfl rfl (Ht rfl) (fun h=>cX (Ht rfl))) (fZ rfl rfl (eY rfl rfl (Ht rfl) (fun h=>dU U_25 (fW rfl h) aA)) (fZ rfl rfl (eY rfl rfl (Ht rfl) (fun h=>cX (Ht rfl))) (fZ rfl rfl (eY rfl rfl (Ht rfl) (fun h=>dU U_26 (fW rfl h) aA)) ?_)))))))))))))))
 refine fZ rfl rfl (eY rfl rfl (Ht rfl) (fun h=>iQ (fW rfl h) (fW rfl h))) (ro rfl (kP (Ht rfl) (fun h=>(fW rfl h))) (eJ (gS (Ht rfl) (by simp [hMl,hb]) ?_)))
 refine cU (ts (rm rfl (ro rfl (dU U_26 (Ht rfl) (by rw [List.length_map,hMl])) ?_)))
 refine ra rfl (eJ (ts (rm rfl (rm rfl (ro rfl (fE (xs:=[.tmp 26]) U_26 Z_25 Tryz.zeroValue25 (cW (Ht rfl) cG) rfl rfl rfl) (lY Tryz.call195 (Bd (M:=M) (bs:=[b]) (n:=n) (m:=n) hM (fun r hr=>by simp at hr; subst hr; omega) zo zo (by simp)) ⟨(Ht rfl),(Ht rfl),trivial⟩ rfl (fun B28 _=>?_)))))))
 refine ra rfl (eJ (cK (ts (rm rfl (Ch Tryz.call221 (Vj (n:=n) (m:=n + 1) (G:=G) hcs hz.st hG1 hg zo zo) (i:=0) rfl ⟨(Ht rfl),trivial⟩ rfl (fun uu _=>(rm rfl (ro rfl (dY (Ht rfl) rfl) (ro rfl (dY (Ht rfl) rfl) (ra rfl (ra rfl (eJ (ts (rm rfl (ro rfl (kW (Ht rfl) cV) (eJ (dQ (Ht rfl) (fun hs=>?_) (fun hs=>?_))))))))))))))))))
 ·have he : sK M b n = 6 := by rw [sK, if_pos (show 0 ≤ (zY M b n).2.2 from of_decide_eq_true hs)]
  refine ts (ro rfl (cQ cV) (ro rfl (cQ (cJ 6)) (eJ (cB rfl (fJ (fQ rfl) ?_) (fJ (fQ rfl) ?_)))))
  ·exact (fun v V k=>by rw [he]; exact iZ v V k)
  ·exact (aS he.symm)
 ·have hst : ¬ 0 ≤ (zY M b n).2.2 := of_decide_eq_false hs
  have he:sK M b n = 0:=by rw [sK,if_neg hst]
  have hdz:∀ i,i < n → gm U i i ≠ Qi.zero:=by rw [hU]; exact uX hcs (Nat.le_refl n) (Mm hst)
  refine cU (ts (rm rfl (rn rfl (jJ (T:=bA Qi.zero) (i:=Tryz.t60) pR mO rfl rfl (Ht rfl) rfl kV (El.ag rfl) (by show 88 * _ ≤ _; omega) zo) fun B37=>(ra rfl (eJ (cK (ts (rm rfl (ro rfl (dK (Ht rfl) (cJ 1) zo z6) (ra rfl (eJ (eU (pZ 0 rfl (dM (show cL bA (dR (oI M [b] n) n).1 = cL bA U by rw [hU]; rfl)) (wZ 0 rfl (fun vs hvs=>?_)))))))))))))))
  have hvl:vs.length = n:=by have h:=hvs.len; rw [List.length_map,hUl] at h; exact h
  refine bF (fun (j : Nat) => j ≤ n) (fun (j : Nat) => n - j) (fun (j : Nat) => [(0, Is (.slice (some ⟨B28, 0, none⟩) n n)), (6, NT .i64 n), (9, Is B37), (10, aN .i64 ((n : Int) - 1 - (j : Int)))]) (fun (j : Nat) => [iC B28 25 60 5 vs vs (cL bA U), bI 60 5 B37 ((vO U n j).map bA)]) 0 (Nat.zero_le _)
   (aQ rfl (aQ rfl (aQ rfl (aZ rfl (aS zo) aX)))) (aU (fun _ _ _ h=>h) (aU (bL (by rw [vO]; exact Eg bA n)) aY)) (fun j hj=>?_)
  refine cK (ts (rm rfl (ro rfl (kW (Ht rfl) cV) (eJ (dQ (Ht rfl) (fun hc=>?_) (fun hc=>?_))))))
  ·have hjn : j < n := a1E (of_decide_eq_true hc)
   obtain ⟨q,hq⟩:∃ q,q = n - (j + 1):=⟨_,rfl⟩
   have hqi:(n:Int) - 1 - (j:Int) = (q:Int):=by omega
   have hqr:(U.getD q []).length = n + 1:=hUs.row zo
   have hXf:cD (vO U n j) X:=by rw [hU]; exact hz.bk he j hj
   have hXl:=Cj U n j
   refine cU (cK (eU (ts (rm rfl (rm rfl (ro rfl (gX U_26 Z_25 (Ht rfl) (Ht rfl) hqi zo (by rw [Nat.mul_one,Nat.zero_add])) ?_))))))
   refine ro rfl (dD A_25 Z_25 (Ht rfl) (j:=0) rfl zo) (rm rfl (ro rfl (dN U_25 Z_60 (Ht rfl) (Ht rfl) rfl (j:=0) rfl zo zo zo) (ro rfl (gF A_60 Z_60 (Ht rfl) (j:=0) rfl zo zo zo) (rn rfl (eK (Ts:=[Is (.bool false),Is (.slice none 0 0),Is (.bool false),Is (.slice none 0 0),Is (.slice none 0 0)]) O_60 rfl (fun V=>aW zd (aW zd (aW zd (aW zd (aW zd (aG))))))) fun B11=>?_))))
   refine gZ Z_60 (Ht rfl) (Ht rfl) rfl (i:=2) rfl (aK rfl) rfl rfl (eJ (cK (ts (rm rfl (ro rfl (zO (Ht rfl) cV (r:=((q + 1:Nat):Int)) ((wD (z:=(n:Int) - 1 - (j:Int) + 1) zo).trans zo)) ?_)))))
   refine ra rfl (eJ (eU ?_))
   refine bF (fun (k : Nat) => k ≤ j) (fun (k : Nat) => j - k) (fun (k : Nat) => [(0, Is (.slice (some ⟨B28, 0, none⟩) n n)), (6, NT .i64 n), (9, Is B37), (10, aN .i64 ((n : Int) - 1 - (j : Int))), (11, cC B11 0), (12, NT .i64 (q + 1 + k))]) (fun (k : Nat) => [iC B28 25 60 5 vs vs (cL bA U), bI 60 5 B37 ((vO U n j).map bA), box B11 60 [aC (decide ((rB U (vO U n j) n q k).a < 0)), aE (rB U (vO U n j) n q k).a.natAbs, aC (decide ((rB U (vO U n j) n q k).b < 0)), aE (rB U (vO U n j) n q k).b.natAbs, aE (du (rB U (vO U n j) n q k))]]) 0 (Nat.zero_le _)
    (zS rfl) (aU (fun _ _ _ h=>h) (aU (fun _ _ _ h=>h) (aU (aB rfl) aY))) (fun k hk=>?_)
   refine cK (ts (rm rfl (rm rfl (ro rfl (gJ (Ht rfl) (Ht rfl)) (eJ (dQ (Ht rfl) (fun hf=>?_) (fun hf=>?_)))))))
   ·have hkj : k < j := by simp only [decide_eq_true_eq] at hf; omega
    haveI f1:aD (rB U (vO U n j) n q k) (G + k * (G + X + 2)):=xS hUf hXf hG1 hX1 k
    haveI f2:aD (gm U q (q + 1 + k)) G:=hUf.get hG1 _ _
    haveI f3:aD (gv (vO U n j) (q + 1 + k)) X:=hXf.get hX1 _
    have hb1:k * (G + X + 2) + (G + X + 2) ≤ n * (G + X + 2):=by rw [← Nat.succ_mul]; exact Nat.mul_le_mul_right _ zo
    refine cU (cK (eU (fV (m:=15) (dp 11 rfl (eG A_60 Z_60 (Ht rfl) (i:=2) rfl rfl rfl) (dq 58 0 rfl (eP gD (Ht rfl)) (dp 0 rfl (cX (Ht rfl)) (dp 10 rfl (cX (Ht rfl)) (bR 60 2 61 3 rfl (gX U_26 Z_25 (Ht rfl) (Ht rfl) hqi zo (by rw [Nat.mul_one,Nat.zero_add])) ?_))))))))
    refine dq 62 4 rfl (dD A_25 Z_25 (Ht rfl) (j:=0) rfl zo) (dp 12 rfl (cX (Ht rfl)) (bR 63 5 64 6 rfl (dN U_25 Z_60 (Ht rfl) (Ht rfl) rfl (j:=0) rfl zo zo zo) (dq 65 7 rfl (gF A_60 Z_60 (Ht rfl) (j:=0) rfl zo zo zo) (dq 66 8 rfl (eP gD (Ht rfl)) (dp 9 rfl (cX (Ht rfl)) (dp 12 rfl (cX (Ht rfl)) (bR 68 10 69 11 rfl (cP U_25 Z_60 (Ht rfl) (Ht rfl) rfl (i:=1) rfl (by rw [List.length_map]; omega) rfl) ?_)))))))
    refine dq 70 12 rfl (lS A_60 Z_60 (Ht rfl) (i:=1) rfl rfl (eX (eQ (d:=Qi.zero) zo))) (bR 67 9 71 13 rfl (dL jW K_70 (nA (x:=gm U q (q + 1 + k)) (y:=gv (vO U n j) (q + 1 + k)) (L:=G) (M:=X) zo) (Ht rfl) ⟨(Ht rfl),trivial⟩) (fG aO rfl (by kernel_rfl) (zF (zF (zF (aJ (aJ (aJ (aV (ro rfl (dL nU K_69 (yM (x:=(rB U (vO U n j) n q k)) (y:=gm U q (q + 1 + k) * gv (vO U n j) (q + 1 + k)) (L:=G + k * (G + X + 2)) (M:=G + X + 1) zo) (Ht rfl) ⟨(Ht rfl),trivial⟩) ?_))))))))))
    refine gZ Z_60 (Ht rfl) (Ht rfl) rfl (i:=2) rfl (aK rfl) rfl rfl (eJ (bC (cY (rm rfl (ro rfl (dW (Ht rfl) (cJ 1) z6) (ra rfl (eJ (gQ (k + 1) hkj zo (zS rfl) (aU (fun _ _ _ h=>h) (aU (fun _ _ _ h=>h) (aU (aB rfl) aY)))))))))))
   ·obtain rfl : k = j := Nat.le_antisymm hk (by simp only [decide_eq_false_iff_not] at hf; omega)
    haveI f1:aD (rB U (vO U n k) n q k) (G + k * (G + X + 2)):=xS hUf hXf hG1 hX1 k
    haveI f2:aD (gm U q q) G:=hUf.get hG1 _ _
    have hb3:k * (G + X + 2) ≤ n * (G + X + 2):=Nat.mul_le_mul_right _ zo
    refine gG rfl (Y.D_start (m:=17) [(16,1,bI 60 5 B37 (((vO U n k).map bA).set q (bA ((rB U (vO U n k) n q k) / gm U q q))))] (Y.D_step (Ei:=[(9,_)]) rfl rfl (bQ (bJ rfl rfl) bX) rfl rfl (by kernel_rfl) (dX rfl (cX (Ht rfl))) (Y.D_step (Ei:=[(10,_)]) rfl rfl (bQ (bJ rfl rfl) bX) rfl rfl (by kernel_rfl) (dX rfl (cX (Ht rfl))) (Y.D_step (Ei:=[(11,_)]) rfl rfl (bQ (bJ rfl rfl) bX) rfl rfl (by kernel_rfl) (dX rfl (eG A_60 Z_60 (Ht rfl) (i:=2) rfl rfl rfl)) ?_))))
    refine Y.D_step (Ei:=[(77,_)]) rfl rfl (bQ (bZ 2 rfl rfl) bX) rfl rfl (by kernel_rfl) (dX rfl (eP gD (Ht rfl))) (Y.D_step (Ei:=[(0,_)]) rfl rfl (bQ (bJ rfl rfl) bX) rfl rfl (by kernel_rfl) (dX rfl (cX (Ht rfl))) (Y.D_step (Ei:=[(10,_)]) rfl rfl (bQ (bJ rfl rfl) bX) rfl rfl (by kernel_rfl) (dX rfl (cX (Ht rfl))) (Y.D_step (Ei:=[(79,_),(80,_)]) rfl rfl (bQ (bZ 4 rfl rfl) (bQ (bZ 5 rfl rfl) bX)) rfl rfl (by kernel_rfl) (dX rfl (gX U_26 Z_25 (Ht rfl) (Ht rfl) hqi zo (by rw [Nat.mul_one,Nat.zero_add]))) ?_)))
    refine Y.D_step (Ei:=[(81,_)]) rfl rfl (bQ (bZ 6 rfl rfl) bX) rfl rfl (by kernel_rfl) (dX rfl (dD A_25 Z_25 (Ht rfl) (j:=0) rfl zo)) (Y.D_step (Ei:=[(10,_)]) rfl rfl (bQ (bJ rfl rfl) bX) rfl rfl (by kernel_rfl) (dX rfl (cX (Ht rfl))) (Y.D_step (Ei:=[(82,_),(83,_)]) rfl rfl (bQ (bZ 7 rfl rfl) (bQ (bZ 8 rfl rfl) bX)) rfl rfl (by kernel_rfl) (dX rfl (dN U_25 Z_60 (Ht rfl) (Ht rfl) hqi (j:=0) rfl zo zo zo)) ?_))
    refine Y.D_step (Ei:=[(84,_)]) rfl rfl (bQ (bZ 9 rfl rfl) bX) rfl rfl (by kernel_rfl) (dX rfl (gF A_60 Z_60 (Ht rfl) (j:=0) rfl zo zo zo)) (Y.D_step (Ei:=[(78,_),(85,_)]) rfl rfl (bQ (bZ 3 rfl rfl) (bQ (bZ 10 rfl rfl) bX)) rfl rfl (by kernel_rfl) (dX rfl (dL qP K_64 (vQ (x:=(rB U (vO U n k) n q k)) (y:=gm U q q) (L:=G + k * (G + X + 2)) (M:=G) zo) (Ht rfl) ⟨(Ht rfl),trivial⟩)) (Y.D_step (Ei:=[(86,_)]) rfl rfl (bQ (bZ 11 rfl rfl) bX) rfl rfl (by kernel_rfl) (dX rfl (cX (Ht rfl))) ?_))
    refine Y.D_step (Ei:=[(74,_)]) rfl rfl (bQ (bZ 12 rfl rfl) bX) rfl rfl (by kernel_rfl) (dX rfl (dY (Ht rfl) rfl)) (bY (Ei:=[(74,_)]) rfl rfl (bQ (bZ 12 rfl rfl) bX) rfl rfl (dX rfl (dY (Ht rfl) rfl)) (Y.D_step (Ei:=[(75,_),(76,_)]) rfl rfl (bQ (bZ 0 rfl rfl) (bQ (bZ 1 rfl rfl) bX)) rfl rfl (by kernel_rfl) (dX rfl (cP U_25 Z_60 (Ht rfl) (Ht rfl) hqi (i:=1) rfl (by rw [List.length_map]; omega) rfl)) ?_))
    refine Y.D_putI (Ei:=[(89,_),(87,_)]) 1 rfl rfl rfl (bQ (bZ 15 rfl rfl) (bQ (bZ 13 rfl rfl) bX)) (.head _) rfl (Kc Z_60 (Ht rfl) (Ht rfl) (El.ag rfl) (i:=0) rfl rfl (by rw [List.length_map]; omega)) ?_
    refine Y.D_done aO rfl (by kernel_rfl) rfl (by simp [Y.okP]) rfl rfl (bU (bU (bU (bU (bU (bU (bU (bU (bU (bU (bU (bU (bU (bU (bU (bU (Y.F_putI (Y.F_nil ?_))))))))))))))))))
    refine eJ (bC (cY (rm rfl (ro rfl (iD (Ht rfl) cV (wD zo)) (ra rfl (eJ (eB [0,1] rfl (by decide) (gQ (k + 1) hjn zo (aQ rfl (aQ rfl (aQ rfl (aZ rfl (aS zo) aX)))) (aU (fun _ _ _ h=>h) (aU (bL (by rw [iU,vO,← hq])) aY))))))))))
  ·obtain rfl : j = n := Nat.le_antisymm hj (a1F (by have h := of_decide_eq_false hc; omega))
   refine gW (i:=1) (tt:=9) rfl rfl iY (gG rfl (ts (rm rfl (ra rfl (ro rfl (cQ (cJ 0)) (eJ (cB rfl (fJ (fQ rfl) ?_) (fJ (fQ rfl) ?_))))))))
   ·exact (jC (by rw [he,zZ,← hU]; rfl))
   ·exact (aS he.symm)
end
section
open Go Go.RowKit
theorem Bc {M:List (List Qi)} {n m:Nat} (hM:eR M n m) (hn:n ≤ 1000) (hm:m ≤ 1000):iI Tryz.prog 195 [fB M,Is (.slice none 0 0)] [] Nat (fun B=>Is (.slice (some ⟨B,0,none⟩) n n)) (fun B=>[pL B 25 60 5 (cL bA M)]) (fun _=>True):=by
 have h:=Bd (M:=M) (bs:=[]) hM (fun b hb=>by cases hb) hn hm (by simp)
 rw [Nd hM] at h
 exact h.arg Pn
theorem a0p {M:List (List Qi)} {n G X:Nat} (hM:eR M n n) (hz:∀ i,i < n → SzS M (ek n i) n G X) (hn:n ≤ 32):aP Tryz.prog 224 [fB M] (fR [fB (pV (Do M n) (a0U M n)),aN .i64 (Do M n)]):=by
 have hMl:=hM.1
 refine aP.intro Tryz.func224 rfl Tryz.ntmps224 rfl (fun cx=>(ts (ro rfl (cQ cV) (ro rfl (cQ (cJ 0)) (eJ (cK (ts (rm rfl (ro rfl (cZ Tryz.call172 (Bi hM hn) ⟨(Ht rfl),trivial⟩) (ro rfl (dT (Ht rfl)) (eJ (gS (Ht rfl) (by rfl) ?_))))))))))))
 refine cU (ts (rm rfl (lY Tryz.call195 (Bc hM zo zo) ⟨(Ht rfl),cV,trivial⟩ rfl (fun B14 _=>(ra rfl (eJ (cK (ts (rm rfl (ro rfl (dU U_26 (Ht rfl) (by rw [List.length_map,hMl])) ?_))))))))))
 refine ro rfl (cZ Tryz.call144 (a1H (n:=n) hn) ⟨(Ht rfl),trivial⟩) (ro rfl (dU U_26 (Ht rfl) aA) (ro rfl (cX (cJ 0)) (eJ (eU ?_))))
 refine bF (fun (k : Nat) => k ≤ n ∧ ∀ i, i < k → sK M (ek n i) n = 0) (fun (k : Nat) => n - k) (fun (k : Nat) => [(0, fB M), (4, Is (.slice (some ⟨B14, 0, none⟩) n n)), (17, fB (yZ n)), (18, NT .i64 n), (19, NT .i64 k)]) (fun (k : Nat) => [pL B14 25 60 5 (cL bA (qM M n k 0))]) 0 ⟨Nat.zero_le _, fun i h => by omega⟩
  (aQ rfl (aQ rfl (aQ rfl (aZ rfl (jQ (pK n).1) (zS rfl))))) (aU (dM (congrArg _ (Nw hM))) aY) (fun k ⟨hk,h0⟩=>?_)
 refine ts (ro rfl (gJ (Ht rfl) (Ht rfl)) (eJ (cK (dQ (Ht rfl) (fun hd0=>?_) (fun hd0=>?_)))))
 ·simp only [decide_eq_true_eq] at hd0
  have hel:=a0K hd0
  refine cU (cK (eU (ts (rm rfl (ro rfl (dZ U_26 Z_25 (Ht rfl) (Ht rfl) rfl (eX (eQ (d:=[]) (by rw [(pK n).1]; exact hd0)))) ?_)))))
  refine ro rfl (dJ A_25 Z_25 (Ht rfl)) (ra rfl (ra rfl (eJ (ts (rm rfl (rm rfl (ro rfl (cZ Tryz.call126 (Pz (M:=M) (b:=ek n k) (n:=n) (G:=G) (X:=X) hM hel (hz k hd0) zo hn) ⟨(Ht rfl),(Ht rfl),trivial⟩) (rm rfl (ro rfl (dY (Ht rfl) rfl) (ro rfl (dY (Ht rfl) rfl) (ra rfl (ra rfl (eJ (cK (ts (rm rfl (ro rfl (nG (Ht rfl) cV) (eJ (dQ (Ht rfl) (fun he=>?_) (fun he=>?_))))))))))))))))))))
  ·have he2 : ¬ sK M (ek n k) n = 0 := by simpa using he
   have hi:=Xb h0 hd0 he2
   refine ts (rm rfl (ro rfl (cQ cV) (ra rfl (eJ (cB rfl (fJ (fQ rfl) ?_) (fJ (fQ rfl) ?_))))))
   ·exact (fun v V h=>by rw [hi,pV,if_neg he2]; exact iZ v V h)
   ·exact (aS hi.symm)
  ·have he2 : sK M (ek n k) n = 0 := by simpa using he
   have hxl:(zZ M (ek n k) n).length = n:=Cj _ _ _
   refine vM (E':=[(0,_),(4,_),(5,_),(7,_),(17,_),(18,_),(19,_)]) (aQ rfl (aQ rfl (aQ rfl (aZ rfl (jC (Us:=(zZ M (ek n k) n).map bA) (by rw [he2]; rfl)) (zS rfl))))) ?_
   refine cU (ts (rm rfl (ro rfl (dU U_25 (Ht rfl) aA) (ro rfl (cX (cJ 0)) (eJ (eU ?_))))))
   refine bF (fun (i : Nat) => i ≤ n) (fun (i : Nat) => n - i) (fun (i : Nat) => [(0, fB M), (4, Is (.slice (some ⟨B14, 0, none⟩) n n)), (5, NT .i64 k), (7, cE (zZ M (ek n k) n)), (17, fB (yZ n)), (18, NT .i64 n), (19, NT .i64 k), (34, NT .i64 n), (35, NT .i64 i)]) (fun (i : Nat) => [pL B14 25 60 5 (cL bA (qM M n k i))]) 0 (Nat.zero_le _)
    (aQ rfl (aQ rfl (aQ rfl (aQ rfl (aQ rfl (aQ rfl (aQ rfl (aZ rfl (jQ hxl) (zS rfl))))))))) (cI.refl _) (fun i hi=>?_)
   refine ts (ro rfl (gJ (Ht rfl) (Ht rfl)) (eJ (cK (dQ (Ht rfl) (fun hf2=>?_) (fun hf2=>?_)))))
   ·simp only [decide_eq_true_eq] at hf2
    have hpl:=(oP M n k i).1
    have hpr:((qM M n k i).getD i []).length = n:=(oP M n k i).row hf2
    refine oV 0 (i) rfl (lG zo) (fun v=>(cU (cK (eU (ts (rm rfl (ra rfl (eJ (fV (m:=9) (dp 4 rfl (cX (Ht rfl)) (dp 9 rfl (cX (Ht rfl)) (bR 38 0 39 1 rfl (gX U_26 Z_25 (Ht rfl) (Ht rfl) rfl zo (by rw [Nat.mul_one,Nat.zero_add])) ?_))))))))))))
    refine dq 40 2 rfl (kX A_25 Z_25 (Ht rfl) (j:=0) rfl) (dp 5 rfl (cX (Ht rfl)) (dp 7 rfl (cX (Ht rfl)) (dp 9 rfl (cX (Ht rfl)) (bR 43 5 44 6 rfl (dZ U_25 Z_60 (Ht rfl) (Ht rfl) rfl (eX (eQ (d:=Qi.zero) zo))) (dq 45 7 rfl (dJ A_60 Z_60 (Ht rfl)) (fG aO rfl (by kernel_rfl) (zF (zF (aJ (aV (ro rfl (cP U_25 Z_60 (Ht rfl) (Ht rfl) rfl (i:=1) rfl (by rw [List.length_map]; omega) rfl) ?_)))))))))))
    refine lE Z_60 (Ht rfl) (Ht rfl) (El.ag rfl) (i:=1) rfl rfl (by rw [List.length_map]; omega) rfl ?_
    refine eJ (bC (jH 0 1 rfl rfl (by decide) (by simp only [cL,List.length_map]; omega) ?_))
    refine cY (ro rfl (dW (Ht rfl) (cJ 1) z6) (rm rfl (eJ (eB [0] rfl (by decide) (gQ (i + 1) hf2 zo (zS rfl) (aU (dM (by rw [iU,jY,Nv hf2 hd0])) aY))))))
   ·simp only [decide_eq_false_iff_not] at hf2
    obtain rfl:n = i:=Nat.le_antisymm zo hi
    refine gG rfl (bC (cY (ro rfl (dW (Ht rfl) (cJ 1) z6) (rm rfl (eJ ?_)))))
    refine gQ (k + 1) ⟨hd0, fun j h => by
     by_cases e:j = k
     ·rw [e]; exact he2
     ·exact h0 j zo⟩ zo (zS rfl) (aU (dM (by rw [Rr])) aY)
 ·simp only [decide_eq_false_iff_not] at hd0
  obtain rfl:n = k:=Nat.le_antisymm zo hk
  have hi:=Nu h0
  refine gW (i:=0) (tt:=4) rfl rfl (qL (s:=5) (M:=qM M n n 0) (oP M n n 0).1.symm) (gG rfl (ts (rm rfl (ra rfl (ro rfl (cQ (cJ 0)) (eJ (cB rfl (fJ (fQ rfl) ?_) (fJ (fQ rfl) ?_))))))))
  ·exact (jC (by rw [hi,Ru]; rfl))
  ·exact (aS hi.symm)
theorem a1I {M:List (List Qi)} {n L:Nat} (hM:eR M n n) (hf:bP M L) (hL:1 ≤ L) (h1:1 ≤ n) (hn:n ≤ 32) (hg:6 * nC L n + 4 ≤ 17592186044415) (hx:Hr (nC L n) (n + 1) ≤ 17592186044415):aP Tryz.prog 224 [fB M] (fR [fB (pV (Do M n) (a0U M n)),aN .i64 (Do M n)]):=a0p hM (fun i _=>SzS.old hM hf (a0J hL) hL hg hx) hn
theorem a0B {m:Bool} {a b:List (List Qi)} {n i j L M:Nat} (ha:eR a n n) (hb:eR b n n) (hfa:bP a L) (hfb:bP b M) (h1:1 ≤ L) (h2:1 ≤ M) (hg:L + M + 1 ≤ 17592186044415) (hi:i < n) (hj:j < n):aP Tryz.prog 258 [NT .i64 i,NT .i64 j,PT (aC m),PT (fB a),PT (fB b)] (bA (if m = true then gm a i j - gm b i j else gm a i j + gm b i j)):=by
 have hal:=ha.1
 have hbl:=hb.1
 have har:=ha.row hi
 have hbr:=hb.row hi
 haveI f1:aD (gm a i j) L:=hfa.get h1 i j
 haveI f2:aD (gm b i j) M:=hfb.get h2 i j
 refine aP.intro Tryz.func258 rfl Tryz.ntmps258 rfl (fun cx=>(ts (rn rfl (eK (Ts:=[Is (.bool false),Is (.slice none 0 0),Is (.bool false),Is (.slice none 0 0),Is (.slice none 0 0)]) O_60 rfl (fun V=>aW zd (aW zd (aW zd (aW zd (aW zd (aG))))))) fun B7=>(eJ (cK (ts (ro rfl (dJ A_4 Z_4 (Ht rfl)) (eJ (dQ (Ht rfl) (fun hm=>?_) (fun hm=>?_))))))))))
 ·refine cK (fV (m := 15) (dp 3 rfl (dJ A_26 Z_26 (Ht rfl)) (dp 0 rfl (cX (Ht rfl)) (bR 9 0 10 1 rfl (dZ U_26 Z_25 (Ht rfl) (Ht rfl) rfl (eX (eQ (d := []) zo))) (dq 11 2 rfl (dJ A_25 Z_25 (Ht rfl)) (dp 1 rfl (cX (Ht rfl)) (bR 12 3 13 4 rfl (dZ U_25 Z_60 (Ht rfl) (Ht rfl) rfl (eX (eQ (d := Qi.zero) zo))) (dq 14 5 rfl (dJ A_60 Z_60 (Ht rfl)) (dq 15 6 rfl (eP gD (Ht rfl)) (dp 4 rfl (dJ A_26 Z_26 (Ht rfl)) ?_))))))))))
  refine dp 0 rfl (cX (Ht rfl)) (bR 17 8 18 9 rfl (dZ U_26 Z_25 (Ht rfl) (Ht rfl) rfl (eX (eQ (d:=[]) zo))) (dq 19 10 rfl (dJ A_25 Z_25 (Ht rfl)) (dp 1 rfl (cX (Ht rfl)) (bR 20 11 21 12 rfl (dZ U_25 Z_60 (Ht rfl) (Ht rfl) rfl (eX (eQ (d:=Qi.zero) zo))) (dq 22 13 rfl (dJ A_60 Z_60 (Ht rfl)) (fG aO rfl (by kernel_rfl) (zF (zF (zF (aJ (aJ (aJ (aV ?_)))))))))))))
  refine ro rfl (dL nU K_69 (yM (x:=gm a i j) (y:=gm b i j) (L:=L) (M:=M) hg) (Ht rfl) ⟨(Ht rfl),trivial⟩) (gZ Z_60 (Ht rfl) (Ht rfl) rfl (i:=0) rfl (aK rfl) rfl rfl (eJ (fK rfl (fJ (fY A_60 Z_60 rfl (i:=0) rfl rfl) ?_))))
  exact (kJ (by rw [if_pos hm]))
 ·refine cU (cK (fV (m := 15) (dp 3 rfl (dJ A_26 Z_26 (Ht rfl)) (dp 0 rfl (cX (Ht rfl)) (bR 25 0 26 1 rfl (dZ U_26 Z_25 (Ht rfl) (Ht rfl) rfl (eX (eQ (d := []) zo))) (dq 27 2 rfl (dJ A_25 Z_25 (Ht rfl)) (dp 1 rfl (cX (Ht rfl)) (bR 28 3 29 4 rfl (dZ U_25 Z_60 (Ht rfl) (Ht rfl) rfl (eX (eQ (d := Qi.zero) zo))) (dq 30 5 rfl (dJ A_60 Z_60 (Ht rfl)) (dq 31 6 rfl (eP gD (Ht rfl)) (dp 4 rfl (dJ A_26 Z_26 (Ht rfl)) ?_)))))))))))
  refine dp 0 rfl (cX (Ht rfl)) (bR 33 8 34 9 rfl (dZ U_26 Z_25 (Ht rfl) (Ht rfl) rfl (eX (eQ (d:=[]) zo))) (dq 35 10 rfl (dJ A_25 Z_25 (Ht rfl)) (dp 1 rfl (cX (Ht rfl)) (bR 36 11 37 12 rfl (dZ U_25 Z_60 (Ht rfl) (Ht rfl) rfl (eX (eQ (d:=Qi.zero) zo))) (dq 38 13 rfl (dJ A_60 Z_60 (Ht rfl)) (fG aO rfl (by kernel_rfl) (zF (zF (zF (aJ (aJ (aJ (aV ?_)))))))))))))
  refine ro rfl (dL qO K_71 (vP (x:=gm a i j) (y:=gm b i j) (L:=L) (M:=M) hg) (Ht rfl) ⟨(Ht rfl),trivial⟩) (gZ Z_60 (Ht rfl) (Ht rfl) rfl (i:=0) rfl (aK rfl) rfl rfl (eJ (fK rfl (fJ (fY A_60 Z_60 rfl (i:=0) rfl rfl) ?_))))
  exact (kJ (by rw [if_neg (by rw [hm]; decide)]))
theorem Zw {m:Bool} {a b:List (List Qi)} {n L M:Nat} (ha:eR a n n) (hb:eR b n n) (hfa:bP a L) (hfb:bP b M) (h1:1 ≤ L) (h2:1 ≤ M) (hg:L + M + 1 ≤ 17592186044415) (hn:n ≤ 1000):aP Tryz.prog 212 [fB a,fB b,aC m] (fB (pmM m a b n)):=by
 have hal:=ha.1
 refine aP.intro Tryz.func212 rfl Tryz.ntmps212 rfl (fun cx=>(ts (rn rfl (qR (Ht rfl)) fun B3=>(rn rfl (qR (Ht rfl)) fun B4=>(rn rfl (qR (Ht rfl)) fun B5=>(ro rfl (cQ cV) (eJ (cK (gW (i:=0) (tt:=3) rfl rfl oN (gW (i:=1) (tt:=4) rfl rfl oN (gW (i:=2) (tt:=5) rfl rfl oN (cY (ro rfl (dJ A_26 Z_26 (Ht rfl)) (ro rfl (dU U_26 (Ht rfl) (by rw [List.length_map,hal])) ?_))))))))))))))
 refine ro rfl (pO (γ:=Fin n × Fin n) (Ts:=fun x=>[NT .i64 x.1.1,NT .i64 x.2.1]) (U:=fun x=>bA (if m = true then gm a x.1.1 x.2.1 - gm b x.1.1 x.2.1 else gm a x.1.1 x.2.1 + gm b x.1.1 x.2.1)) Tryz.call258 (fun x=>a0B ha hb hfa hfb h1 h2 hg x.1.2 x.2.2) ⟨(Ht rfl),(Ht rfl),(Ht rfl),trivial⟩) (ro rfl (cZ Tryz.call110 (Cn (n:=n) (f:=fun i j=>if m = true then gm a i j - gm b i j else gm a i j + gm b i j) hn) ⟨(Ht rfl),(Ht rfl),trivial⟩) (ra rfl (eJ ?_)))
 exact fK rfl (fQ rfl)
theorem Vo {Y M:List (List Qi)} {n L:Nat} (hM:eR M n n) (hf:bP M L) (hL:1 ≤ L) (h1:1 ≤ n) (hn:n ≤ 32) (hg:6 * nC L n + 4 ≤ 17592186044415) (hx:Hr (nC L n) (n + 1) ≤ 17592186044415) (hE:Do M n ≠ 0):aP Tryz.prog 132 [fB Y,fB M] (fR [fB [],aN .i64 5]):=by
 refine aP.intro Tryz.func132 rfl Tryz.ntmps132 rfl (fun cx=>(ts (ro rfl (cQ cV) (ro rfl (cQ (cJ 0)) (eJ (ts (rm rfl (ro rfl (cZ Tryz.call224 (a1I hM hf hL h1 hn hg hx) ⟨(Ht rfl),trivial⟩) (rm rfl (ro rfl (dY (Ht rfl) rfl) (ro rfl (dY (Ht rfl) rfl) (ra rfl (ra rfl (eJ (cK (ts (rm rfl (ro rfl (nG (Ht rfl) cV) (eJ (wY (Ht rfl) (by simp [hE]) ?_))))))))))))))))))))
 refine ts (ro rfl (cQ cV) (ro rfl (cQ (cJ 5)) (eJ (cB rfl (fJ (fQ rfl) ?_) (fQ rfl)))))
 exact (fun v V h=>iZ v V h)
theorem a0o {z:List Qi} {s:List (List Qi)} {L:Nat} (hs:eR s z.length z.length) (hf:bP s L) (hL:1 ≤ L) (h1:1 ≤ z.length) (hn:z.length ≤ 8) (hg:6 * nC (L + 2) z.length + 4 ≤ 17592186044415) (hx:Hr (nC (L + 2) z.length) (z.length + 1) ≤ 17592186044415) (hE:Do (pmM true (yZ z.length) s z.length) z.length ≠ 0):aP Tryz.prog 114 [gR z s] (fR [fB [],aN .i64 5]):=by
 have hgl:=tW (L + 2) z.length
 have hid:=pK z.length
 have hif:bP (yZ z.length) 1:=Dk (Nat.le_refl 1)
 have hpf:bP (pmM true (yZ z.length) s z.length) (L + 2):=by have h:=Yh (m:=true) (n:=z.length) hif hf (Nat.le_refl 1) hL; rw [show L + 2 = 1 + L + 1 by omega]; exact h
 refine aP.intro Tryz.func114 rfl Tryz.ntmps114 rfl (fun cx=>(ts (rn rfl (fU (Ht rfl)) fun B1=>(ro rfl (cQ cV) (ro rfl (cQ (cJ 0)) (eJ (ts (ro rfl (eW iX (Ht rfl) rfl) (ro rfl (fX A_25 Z_25 (Ht rfl) (i:=0) rfl rfl) (ro rfl (dU U_25 (Ht rfl) aA) (ro rfl (cZ Tryz.call144 (a1H (n:=z.length) zo) ⟨(Ht rfl),trivial⟩) (ra rfl (eJ (cK (fV (m:=13) (dp 4 rfl (cX (Ht rfl)) (dp 1 rfl (eW iO (Ht rfl) rfl) (dq 13 1 rfl (fX A_26 Z_26 (Ht rfl) (i:=0) rfl rfl) ?_))))))))))))))))))
 refine bR 12 0 14 2 rfl (cZ Tryz.call212 (Zw (m:=false) (n:=z.length) (L:=1) (M:=L) hid hs hif hf (Nat.le_refl 1) hL zo zo) ⟨(Ht rfl),(Ht rfl),cV,trivial⟩) (dp 4 rfl (cX (Ht rfl)) (dp 1 rfl (eW iO (Ht rfl) rfl) (dq 17 5 rfl (fX A_26 Z_26 (Ht rfl) (i:=0) rfl rfl) (bR 16 4 18 6 rfl (cZ Tryz.call212 (Zw (m:=true) (n:=z.length) (L:=1) (M:=L) hid hs hif hf (Nat.le_refl 1) hL zo zo) ⟨(Ht rfl),(Ht rfl),cV,trivial⟩) (bR 15 3 19 7 rfl (cZ Tryz.call132 (Vo (n:=z.length) (L:=L + 2) Yi hpf zo h1 zo hg hx hE) ⟨(Ht rfl),(Ht rfl),trivial⟩) ?_)))))
 refine dq 20 8 rfl (cX (Ht rfl)) (dq 11 9 rfl (dY (Ht rfl) rfl) (dq 11 9 rfl (dY (Ht rfl) rfl) (dq 21 10 rfl (cQ (Ht rfl)) (fG aO rfl (by kernel_rfl) (zF (zF (zF (aJ (aV (ra rfl (eJ (cK (ts (rm rfl (ro rfl (nG (Ht rfl) cV) (eJ (wY (Ht rfl) (by rfl) ?_)))))))))))))))))
 refine ts (rm rfl (ro rfl (cQ cV) (ra rfl (eJ (cB rfl (fJ (fQ rfl) ?_) (fQ rfl))))))
 exact (fun v V h=>iZ v V h)
end
section
open Go Go.RowKit
theorem tN (x y:Qi):(x + y).conj = x.conj + y.conj:=Qi.ext' rfl (by show -(x.im + y.im) = -x.im + -y.im; grind)
theorem Qp (x y:Qi):(x - y).conj = x.conj - y.conj:=Qi.ext' rfl (by show -(x.im - y.im) = -x.im - -y.im; grind)
theorem mI (x y:Qi):(x * y).conj = x.conj * y.conj:=Qi.ext' (by show x.re * y.re - x.im * y.im = x.re * y.re - -x.im * -y.im; grind) (by show -(x.re * y.im + x.im * y.re) = x.re * -y.im + -x.im * y.re; grind)
theorem oH:(0:Qi).conj = 0:=Qi.ext' rfl (by show -(0:Rat) = 0; grind)
theorem yQ:(1:Qi).conj = 1:=Qi.ext' rfl (by show -(0:Rat) = 0; grind)
theorem rN (x:Qi):x.conj.conj = x:=Qi.ext' rfl (by show - -x.im = x.im; grind)
theorem tO (n:Nat) (f:Nat → Qi):(bM n f).conj = bM n fun i=>(f i).conj:=by
 induction n with
 | zero=>exact oH
 | succ n ih=>rw [Cf,Cf,tN,ih]
theorem mW (n:Nat) (a:Qi) (f:Nat → Qi):bM n (fun k=>a * f k) = a * bM n f:=by
 rw [show a * bM n f = bM n f * a by grind,← Aa]; exact bT fun _ _=>by grind
section
variable {z:List Qi} {S c:List (List Qi)} {js:List (Int × Int)} {N:Nat}
end
end
section
open Go Go.RowKit
section
variable {z w:List Qi} {s c:List (List Qi)} {n:Nat}
abbrev dl (i k:Nat):Qi:=if i = k then 1 else 0
theorem vI {n:Nat} (f g:Nat → Qi):bM n f - bM n g = bM n fun k=>f k - g k:=by
 rw [bT (f:=fun k=>f k - g k) (g:=fun k=>f k - 1 * g k) (fun k _=>by grind),Ab]; grind
theorem Oe {x:Qi} (h:gY x = true):x.conj = x:=by
 have hb:=a19 h
 have e : x.im = 0 := by
  have h2:=(rQ x).2
  rw [hb] at h2
  have hd : ((x.den : Int) : Rat) ≠ 0 := by
   have:=x.den_pos
   intro k
   have:(x.den:Int) = 0:=by exact_mod_cast k
   omega
  have h3:((x.den:Int):Rat) * x.im = 0:=by rw [h2]; rfl
  rcases Rat.mul_eq_zero.1 h3 with k | k
  ·exact absurd k hd
  ·exact k
 exact Qi.ext' rfl (by show -x.im = x.im; rw [e]; rfl)
end
section
variable {z:List Qi} {s:List (List Qi)} {n:Nat}
def sJ (z:List Qi) (s:List (List Qi)) (i k m:Nat):Qi:=(if i = k then 1 / gv z i else 0) - bM m fun m=>(gm s m i).conj * gm s m k / gv z m
def oB (z:List Qi) (s:List (List Qi)):List (List Qi):=tab z.length fun i=>tab z.length fun k=>sJ z s i k z.length
def zE (z:List Qi) (s:List (List Qi)):Bool:=(oB z s).all fun r=>!r.any fun x=>!decide (x = 0)
theorem Xi (h:zE z s = true) {i k:Nat} (hi:i < z.length) (hk:k < z.length):sJ z s i k z.length = 0:=by
 rw [zE,List.all_eq_true] at h
 have h2:=h (tab z.length fun k=>sJ z s i k z.length) (eE.2 ⟨i,hi,rfl⟩)
 rw [Bool.not_eq_true',List.any_eq_false] at h2
 have h3:=h2 (sJ z s i k z.length) (eE.2 ⟨k,hk,rfl⟩)
 simpa using h3
end
section
variable {z:List Qi} {s:List (List Qi)} {l:List Int}
end
section
variable {z:List Qi} {s:List (List Qi)} {g t:Qi} {p n:Nat}
end
end
section
open Go Go.RowKit
theorem zQ {z:List Qi} {s:List (List Qi)} {i k:Nat}:sJ z s i k 0 = if i = k then Qi.ofInt 1 / gv z i else Qi.zero:=by
 have e:sJ z s i k 0 = (if i = k then 1 / gv z i else 0) - 0:=rfl
 rw [e,show (if i = k then 1 / gv z i else (0:Qi)) - 0 = if i = k then 1 / gv z i else 0 by grind]; rfl
theorem Gr {z:List Qi} {s:List (List Qi)} {i k m:Nat}:sJ z s i k (m + 1) = sJ z s i k m - (gm s m i).conj * gm s m k / gv z m:=by
 unfold sJ
 rw [show (bM (m + 1) fun m=>(gm s m i).conj * gm s m k / gv z m) = (bM m fun m=>(gm s m i).conj * gm s m k / gv z m) + (gm s m i).conj * gm s m k / gv z m from rfl]
 grind
theorem Dy {z : List Qi} {s : List (List Qi)} {i k L : Nat} (hz : cD z L) (hs : bP s L) (hL : 1 ≤ L) (hp : z.all gY = true) (hi : i < z.length) : ∀ {m : Nat}, m ≤ z.length → aD (sJ z s i k m) (1 + 3 * L + 2 + m * (6 * L + 5))
 | 0, _ => by
  rw [zQ]
  split
  ·exact (kD lZ (hz.get hL i) (oW hp hi)).le zo
  ·exact aD.zero zo
 | m + 1, hm => by
  rw [Gr]
  haveI f1:=Dy (k:=k) hz hs hL hp hi (m:=m) zo
  haveI f2:aD (gm s m i) L:=hs.get hL m i
  haveI f3:aD (gm s m k) L:=hs.get hL m k
  haveI f4:aD (gm s m i).conj L:=fitConj
  haveI f5:aD ((gm s m i).conj * gm s m k) (L + L + 1):=fitMul
  haveI f6:aD ((gm s m i).conj * gm s m k / gv z m) (L + L + 1 + 3 * L + 2):=kD f5 (hz.get hL m) (oW hp zo)
  exact (fitSub (x:=sJ z s i k m) (y:=(gm s m i).conj * gm s m k / gv z m) (L:=1 + 3 * L + 2 + m * (6 * L + 5)) (M:=L + L + 1 + 3 * L + 2)).le (by rw [Nat.succ_mul m]; omega)
theorem pQ {z : List Qi} {s : List (List Qi)} {L : Nat} (hz : cD z L) (hs : bP s L) (hL : 1 ≤ L) (hp : z.all gY = true) (h8 : z.length ≤ 8) : bP (oB z s) (51 * L + 43) := bP.tab fun i k hi _ => (Dy hz hs hL hp hi (Nat.le_refl _)).le (by
 have:z.length * (6 * L + 5) ≤ 8 * (6 * L + 5):=Nat.mul_le_mul_right _ h8
 omega)
theorem mR (z:List Qi) (s:List (List Qi)):eR (oB z s) z.length z.length:=eR.tab
theorem Po {M:List (List Qi)} {n:Nat} (h:M.length = n) (k:∀ j,j < n → ((M.getD j []).any fun x=>!decide (x = 0)) = false):(M.all fun r=>!r.any fun x=>!decide (x = 0)) = true:=by
 rw [List.all_eq_true]; intro r hr
 obtain ⟨j,hj,e⟩:=List.getElem_of_mem hr
 have:=k j zo
 rw [show M.getD j [] = r by simp [List.getD,hj,e]] at this
 rw [this]; rfl
theorem Sh {M:List (List Qi)} {j:Nat} (h:j < M.length) (k:((M.getD j []).any fun x=>!decide (x = 0)) = true):(M.all fun r=>!r.any fun x=>!decide (x = 0)) = false:=by
 rw [List.all_eq_false]
 refine ⟨M[j],List.getElem_mem h,?_⟩
 rw [show M.getD j [] = M[j] by simp [List.getD,h]] at k
 rw [k]; simp
theorem a0w {z:List Qi} {s:List (List Qi)} {n i k L:Nat} (hz:cD z L) (hs:bP s L) (hL:1 ≤ L) (hLb:L ≤ 100000000000) (hp:z.all gY = true) (hsh:eR s z.length z.length) (hn:n = z.length) (h8:n ≤ 8) (hi:i < n) (hk:k < n):aP Tryz.prog 198 [NT .i64 i,NT .i64 k,PT (gR z s)] (bA (sJ z s i k n)):=by
 have hsl:=hsh.1
 haveI f0:=lZ
 haveI f1:aD (gv z i) L:=hz.get hL i
 refine aP.intro Tryz.func198 rfl Tryz.ntmps198 rfl (fun cx=>(ts (rn rfl (eK (Ts:=[Is (.bool false),Is (.slice none 0 0),Is (.bool false),Is (.slice none 0 0),Is (.slice none 0 0)]) O_60 rfl (fun V=>aW zd (aW zd (aW zd (aW zd (aW zd (aG))))))) fun B5=>(eJ (ts (ro rfl (aI.imp (rH ) nF) (rn rfl (eK (Ts:=[Is (.bool false),Is (.slice none 0 0),Is (.bool false),Is (.slice none 0 0),Is (.slice none 0 0)]) O_60 rfl (fun V=>aW zd (aW zd (aW zd (aW zd (aW zd (aG))))))) fun B6=>?_)))))))
 refine gZ Z_60 (Ht rfl) (Ht rfl) rfl (i:=1) rfl (aK rfl) rfl rfl (eJ (cK (eB [0,1] rfl (by decide) (iB (fun (x:Qi)=>x = sJ z s i k 0) (fun (x:Qi)=>[(0,NT .i64 i),(1,NT .i64 k),(2,PT (gR z s)),(5,cC B5 0),(6,cC B6 0)]) (fun (x:Qi)=>[box B5 60 [Is (.bool false),Is (.slice none 0 0),Is (.bool false),Is (.slice none 0 0),Is (.slice none 0 0)],box B6 60 [aC (decide (x.a < 0)),aE x.a.natAbs,aC (decide (x.b < 0)),aE x.b.natAbs,aE (du x)]]) ?_ (fun x hx=>?_)))))
 ·refine ts (rm rfl (rm rfl (ro rfl (cA (Ht rfl) (Ht rfl)) (eJ (dQ (Ht rfl) (fun hb => ?_) (fun hb => ?_))))))
  ·have hij : i = k := by simpa using hb
   refine Y.D_start (m:=11) [(10,1,box B6 60 [aC (decide ((Qi.ofInt 1 / gv z i).a < 0)),aE (Qi.ofInt 1 / gv z i).a.natAbs,aC (decide ((Qi.ofInt 1 / gv z i).b < 0)),aE (Qi.ofInt 1 / gv z i).b.natAbs,aE (du (Qi.ofInt 1 / gv z i))])] (Y.D_step (Ei:=[]) rfl rfl bX rfl rfl (by kernel_rfl) (dX rfl (cZ K_52 (vR (n:=1) (by decide) (by decide)) ⟨(cJ 1),trivial⟩)) (Y.D_step (Ei:=[(2,_)]) rfl rfl (bQ (bJ rfl rfl) bX) rfl rfl (by kernel_rfl) (dX rfl (lK iX (Ht rfl) rfl)) (Y.D_step (Ei:=[(16,_)]) rfl rfl (bQ (bZ 1 rfl rfl) bX) rfl rfl (by kernel_rfl) (dX rfl (dJ A_25 Z_25 (Ht rfl))) ?_)))
   refine Y.D_step (Ei:=[(0,_)]) rfl rfl (bQ (bJ rfl rfl) bX) rfl rfl (by kernel_rfl) (dX rfl (cX (Ht rfl))) (Y.D_step (Ei:=[(17,_),(18,_)]) rfl rfl (bQ (bZ 2 rfl rfl) (bQ (bZ 3 rfl rfl) bX)) rfl rfl (by kernel_rfl) (dX rfl (dZ U_25 Z_60 (Ht rfl) (Ht rfl) rfl (eX (eQ (d:=Qi.zero) zo)))) (Y.D_step (Ei:=[(19,_)]) rfl rfl (bQ (bZ 4 rfl rfl) bX) rfl rfl (by kernel_rfl) (dX rfl (dJ A_60 Z_60 (Ht rfl))) (Y.D_step (Ei:=[(15,_),(20,_)]) rfl rfl (bQ (bZ 0 rfl rfl) (bQ (bZ 5 rfl rfl) bX)) rfl rfl (by kernel_rfl) (dX rfl (cZ K_64 (vQ (x:=Qi.ofInt 1) (y:=gv z i) (L:=1) (M:=L) zo) ⟨(Ht rfl),(Ht rfl),trivial⟩)) ?_)))
   refine Y.D_step (Ei:=[(21,_)]) rfl rfl (bQ (bZ 6 rfl rfl) bX) rfl rfl (by kernel_rfl) (dX rfl (cX (Ht rfl))) (Y.D_step (Ei:=[(14,_)]) rfl rfl (bQ (bZ 7 rfl rfl) bX) rfl rfl (by kernel_rfl) (dX rfl (dY (Ht rfl) rfl)) (bY (Ei:=[(14,_)]) rfl rfl (bQ (bZ 7 rfl rfl) bX) rfl rfl (dX rfl (dY (Ht rfl) rfl)) (Y.D_putI (Ei:=[(6,_),(22,_)]) 1 rfl rfl rfl (bQ (bJ rfl rfl) (bQ (bZ 8 rfl rfl) bX)) (.head _) rfl (mY Z_60 (Ht rfl) (Ht rfl) rfl (i:=0) rfl (aK rfl) rfl rfl) ?_)))
   refine Y.D_done aO rfl (by kernel_rfl) rfl (by simp [Y.okP]) rfl rfl (bU (bU (bU (bU (bU (bU (bU (bU (bU (bU (Y.F_putI (Y.F_nil ?_))))))))))))
   refine eJ (aL (Qi.ofInt 1 / gv z i) (by rw [zQ,if_pos hij]) (zS rfl) (aU (aB rfl) (aU (aB rfl) aY)))
  ·have hij : ¬ i = k := by simpa using hb
   refine cU (aL Qi.zero (by rw [zQ,if_neg hij]) (zS rfl) (aU (aB rfl) (aU (aB rfl) aY)))
 ·subst hx
  refine cK (ts (ro rfl (lK iO (Ht rfl) rfl) (ro rfl (dJ A_26 Z_26 (Ht rfl)) (ro rfl (dU U_26 (Ht rfl) (by rw [List.length_map,hsl])) ?_))))
  refine ro rfl (cX (cJ 0)) (eJ (eU ?_))
  refine bF (fun (m : Nat) => m ≤ n) (fun (m : Nat) => n - m) (fun (m : Nat) => [(0, NT .i64 i), (1, NT .i64 k), (2, PT (gR z s)), (5, cC B5 0), (6, cC B6 0), (26, NT .i64 n), (27, NT .i64 m)]) (fun (m : Nat) => [box B5 60 [Is (.bool false), Is (.slice none 0 0), Is (.bool false), Is (.slice none 0 0), Is (.slice none 0 0)], box B6 60 [aC (decide ((sJ z s i k m).a < 0)), aE (sJ z s i k m).a.natAbs, aC (decide ((sJ z s i k m).b < 0)), aE (sJ z s i k m).b.natAbs, aE (du (sJ z s i k m))]]) 0 (Nat.zero_le _)
   (aQ rfl (aQ rfl (aQ rfl (aQ rfl (aQ rfl (aZ rfl (jQ hn.symm) (zS rfl))))))) (aU (aB rfl) (aU (aB rfl) aY)) (fun m hm=>?_)
  refine ts (ro rfl (gJ (Ht rfl) (Ht rfl)) (eJ (cK (dQ (Ht rfl) (fun hd=>?_) (fun hd=>?_)))))
  ·have hmn : m < n := by simp only [decide_eq_true_eq] at hd; omega
   have hsr:=hsh.row (i:=m) zo
   haveI f2:aD (gm s m i) L:=hs.get hL m i
   haveI f3:aD (gm s m k) L:=hs.get hL m k
   haveI f4:aD (gv z m) L:=hz.get hL m
   haveI f5:aD (gm s m i).conj L:=fitConj
   haveI f6:aD ((gm s m i).conj * gm s m k) (L + L + 1):=fitMul
   haveI f7:aD ((gm s m i).conj * gm s m k / gv z m) (L + L + 1 + 3 * L + 2):=kD f6 f4 (oW hp zo)
   have f8:=Dy (k:=k) hz hs hL hp (show i < z.length by omega) (m:=m) zo
   haveI f9 : aD (sJ z s i k m) (100 * L + 100) := f8.le (by
    have:m * (6 * L + 5) ≤ 8 * (6 * L + 5):=Nat.mul_le_mul_right _ zo
    omega)
   refine cU (cK (eU (ts (rm rfl (ra rfl (eJ (cK (Y.D_start (m:=29) [] (bY (Ei:=[(2,_)]) rfl rfl (bQ (bJ rfl rfl) bX) rfl rfl (dX rfl (lK iO (Ht rfl) rfl)) (bY (Ei:=[(31,_)]) rfl rfl (bQ (bZ 0 rfl rfl) bX) rfl rfl (dX rfl (dJ A_26 Z_26 (Ht rfl))) (bY (Ei:=[(7,_)]) rfl rfl (bQ (bJ rfl rfl) bX) rfl rfl (dX rfl (cX (Ht rfl))) (bY (Ei:=[(32,_),(33,_)]) rfl rfl (bQ (bZ 1 rfl rfl) (bQ (bZ 2 rfl rfl) bX)) rfl rfl (dX rfl (dZ U_26 Z_25 (Ht rfl) (Ht rfl) rfl (eX (eQ (d:=[]) zo)))) ?_))))))))))))
   refine bY (Ei:=[(34,_)]) rfl rfl (bQ (bZ 3 rfl rfl) bX) rfl rfl (dX rfl (dJ A_25 Z_25 (Ht rfl))) (bY (Ei:=[(0,_)]) rfl rfl (bQ (bJ rfl rfl) bX) rfl rfl (dX rfl (cX (Ht rfl))) (bY (Ei:=[(35,_),(36,_)]) rfl rfl (bQ (bZ 4 rfl rfl) (bQ (bZ 5 rfl rfl) bX)) rfl rfl (dX rfl (dZ U_25 Z_60 (Ht rfl) (Ht rfl) rfl (eX (eQ (d:=Qi.zero) zo)))) (bY (Ei:=[(37,_)]) rfl rfl (bQ (bZ 6 rfl rfl) bX) rfl rfl (dX rfl (dJ A_60 Z_60 (Ht rfl))) ?_)))
   refine bY (Ei:=[(38,_)]) rfl rfl (bQ (bZ 7 rfl rfl) bX) rfl rfl (dX rfl (cZ Tryz.call173 Pu ⟨(Ht rfl),trivial⟩)) (bY (Ei:=[(2,_)]) rfl rfl (bQ (bJ rfl rfl) bX) rfl rfl (dX rfl (lK iO (Ht rfl) rfl)) (bY (Ei:=[(40,_)]) rfl rfl (bQ (bZ 9 rfl rfl) bX) rfl rfl (dX rfl (dJ A_26 Z_26 (Ht rfl))) (bY (Ei:=[(7,_)]) rfl rfl (bQ (bJ rfl rfl) bX) rfl rfl (dX rfl (cX (Ht rfl))) (bY (Ei:=[(41,_),(42,_)]) rfl rfl (bQ (bZ 10 rfl rfl) (bQ (bZ 11 rfl rfl) bX)) rfl rfl (dX rfl (dZ U_26 Z_25 (Ht rfl) (Ht rfl) rfl (eX (eQ (d:=[]) zo)))) ?_))))
   refine bY (Ei:=[(43,_)]) rfl rfl (bQ (bZ 12 rfl rfl) bX) rfl rfl (dX rfl (dJ A_25 Z_25 (Ht rfl))) (bY (Ei:=[(1,_)]) rfl rfl (bQ (bJ rfl rfl) bX) rfl rfl (dX rfl (cX (Ht rfl))) (bY (Ei:=[(44,_),(45,_)]) rfl rfl (bQ (bZ 13 rfl rfl) (bQ (bZ 14 rfl rfl) bX)) rfl rfl (dX rfl (dZ U_25 Z_60 (Ht rfl) (Ht rfl) rfl (eX (eQ (d:=Qi.zero) zo)))) (bY (Ei:=[(46,_)]) rfl rfl (bQ (bZ 15 rfl rfl) bX) rfl rfl (dX rfl (dJ A_60 Z_60 (Ht rfl))) ?_)))
   refine bY (Ei:=[(39,_),(47,_)]) rfl rfl (bQ (bZ 8 rfl rfl) (bQ (bZ 16 rfl rfl) bX)) rfl rfl (dX rfl (cZ K_70 (nA (x:=(gm s m i).conj) (y:=gm s m k) (L:=L) (M:=L) zo) ⟨(Ht rfl),(Ht rfl),trivial⟩)) (bY (Ei:=[(2,_)]) rfl rfl (bQ (bJ rfl rfl) bX) rfl rfl (dX rfl (lK iX (Ht rfl) rfl)) (bY (Ei:=[(49,_)]) rfl rfl (bQ (bZ 18 rfl rfl) bX) rfl rfl (dX rfl (dJ A_25 Z_25 (Ht rfl))) (bY (Ei:=[(7,_)]) rfl rfl (bQ (bJ rfl rfl) bX) rfl rfl (dX rfl (cX (Ht rfl))) ?_)))
   refine bY (Ei:=[(50,_),(51,_)]) rfl rfl (bQ (bZ 19 rfl rfl) (bQ (bZ 20 rfl rfl) bX)) rfl rfl (dX rfl (dZ U_25 Z_60 (Ht rfl) (Ht rfl) rfl (eX (eQ (d:=Qi.zero) zo)))) (bY (Ei:=[(52,_)]) rfl rfl (bQ (bZ 21 rfl rfl) bX) rfl rfl (dX rfl (dJ A_60 Z_60 (Ht rfl))) (bY (Ei:=[(48,_),(53,_)]) rfl rfl (bQ (bZ 17 rfl rfl) (bQ (bZ 22 rfl rfl) bX)) rfl rfl (dX rfl (cZ K_64 (vQ (x:=(gm s m i).conj * gm s m k) (y:=gv z m) (L:=L + L + 1) (M:=L) zo) ⟨(Ht rfl),(Ht rfl),trivial⟩)) ?_))
   refine bY (Ei:=[(54,_)]) rfl rfl (bQ (bZ 23 rfl rfl) bX) rfl rfl (dX rfl (cX (Ht rfl))) (bY (Ei:=[(30,_)]) rfl rfl (bQ (bZ 24 rfl rfl) bX) rfl rfl (dX rfl (dY (Ht rfl) rfl)) (bY (Ei:=[(30,_)]) rfl rfl (bQ (bZ 24 rfl rfl) bX) rfl rfl (dX rfl (dY (Ht rfl) rfl)) (Y.D_newp (Ei:=[]) (fun bb=>box bb 60 [aC (decide (((gm s m i).conj * gm s m k / gv z m).a < 0)),aE ((gm s m i).conj * gm s m k / gv z m).a.natAbs,aC (decide (((gm s m i).conj * gm s m k / gv z m).b < 0)),aE ((gm s m i).conj * gm s m k / gv z m).b.natAbs,aE (du ((gm s m i).conj * gm s m k / gv z m))]) 28 rfl rfl rfl bX rfl rfl (by kernel_rfl) (eK (Ts:=[Is (.bool false),Is (.slice none 0 0),Is (.bool false),Is (.slice none 0 0),Is (.slice none 0 0)]) O_60 rfl (fun V=>aW zd (aW zd (aW zd (aW zd (aW zd (aG))))))) ?_)))
   refine Y.D_putN (Ei:=[(55,_)]) 27 rfl rfl rfl rfl rfl rfl (bQ (bZ 25 rfl rfl) bX) (fun bb=>mY Z_60 (Ht rfl) (Ht rfl) rfl (i:=0) rfl (aK rfl) rfl rfl) (Y.D_done aO rfl (by kernel_rfl) rfl (by simp [Y.okP]) rfl rfl (bU (bU (bU (bU (bU (bU (bU (bU (bU (bU (bU (bU (bU (bU (bU (bU (bU (bU (bU (bU (bU (bU (bU (bU (bU (bU (bU (Y.F_newp (fun B8=>Y.F_putN (Y.F_nil ?_)))))))))))))))))))))))))))))))
   refine ra rfl (eJ (cY (ro rfl (eG A_60 Z_60 (Ht rfl) (i:=1) rfl rfl rfl) (ro rfl (eG A_60 Z_60 (Ht rfl) (i:=2) rfl rfl rfl) (ro rfl (cZ K_69 (yM (x:=sJ z s i k m) (y:=((gm s m i).conj * gm s m k / gv z m)) (L:=100 * L + 100) (M:=L + L + 1 + 3 * L + 2) zo) ⟨(Ht rfl),(Ht rfl),trivial⟩) (gZ Z_60 (Ht rfl) (Ht rfl) rfl (i:=1) rfl (aK rfl) rfl rfl (eJ (bC (cY (ro rfl (dW (Ht rfl) (cJ 1) z6) ?_))))))))))
   refine rm rfl (eJ (eB [0,1] rfl (by decide) (gQ (m + 1) hmn zo (zS rfl) (aU (aB rfl) (aU (aB (by rw [Gr]; rfl)) aY)))))
  ·have hmn : m = n := by simp only [decide_eq_false_iff_not] at hd; omega
   rw [hmn]
   refine gG rfl (ts (ro rfl (eG A_60 Z_60 (Ht rfl) (i:=1) rfl rfl rfl) (gZ Z_60 (Ht rfl) (Ht rfl) rfl (i:=0) rfl (aK rfl) rfl rfl (eJ ?_))))
   exact fK rfl (fY A_60 Z_60 rfl (i:=0) rfl rfl)
theorem Kw {z:List Qi} {s:List (List Qi)} {L:Nat} (hz:cD z L) (hs:bP s L) (hL:1 ≤ L) (hLb:L ≤ 100000000000) (hp:z.all gY = true) (hsh:eR s z.length z.length) (h8:z.length ≤ 8):aP Tryz.prog 99 [gR z s] (fB (oB z s)):=by
 refine aP.intro Tryz.func99 rfl Tryz.ntmps99 rfl (fun cx=>(ts (rn rfl (fU (Ht rfl)) fun B1=>(ro rfl (cQ cV) (eJ (cK (gW (i:=0) (tt:=1) rfl rfl xG (cY (ro rfl (lK iX (Ht rfl) rfl) (ro rfl (dJ A_25 Z_25 (Ht rfl)) (ro rfl (dU U_25 (Ht rfl) aA) (ro rfl (pO (γ:=Fin z.length × Fin z.length) (Ts:=fun x=>[NT .i64 x.1.1,NT .i64 x.2.1]) (U:=fun x=>bA (sJ z s x.1.1 x.2.1 z.length)) Tryz.call198 (fun x=>a0w hz hs hL hLb hp hsh rfl h8 x.1.2 x.2.2) ⟨(Ht rfl),trivial⟩) ?_))))))))))))
 refine ro rfl (cZ Tryz.call110 (Cn (n:=z.length) (f:=fun i k=>sJ z s i k z.length) zo) ⟨(Ht rfl),(Ht rfl),trivial⟩) (ra rfl (eJ ?_))
 exact fK rfl (fQ rfl)
theorem Im {z:List Qi} {s:List (List Qi)} {L:Nat} (hz:cD z L) (hs:bP s L) (hL:1 ≤ L) (hLb:L ≤ 100000000000) (hp:z.all gY = true) (hsh:eR s z.length z.length) (h8:z.length ≤ 8):aP Tryz.prog 19 [gR z s] (aC (zE z s)):=by
 have hPf:=pQ hz hs hL hp h8
 have hPs:=mR z s
 have hPw:=Kw hz hs hL hLb hp hsh h8
 rw [zE]
 generalize oB z s = M at *
 obtain ⟨n,hn⟩:∃ n,n = z.length:=⟨_,rfl⟩
 rw [← hn] at hPs
 have hMl:=hPs.1
 refine aP.intro Tryz.func19 rfl Tryz.ntmps19 rfl (fun cx=>(ts (rn rfl (fU (Ht rfl)) fun B1=>(ro rfl (cQ cV) (eJ (cK (ts (ro rfl (eG A_28 Z_28 (Ht rfl) (i:=0) rfl rfl rfl) (ro rfl (cZ Tryz.call99 hPw ⟨(Ht rfl),trivial⟩) (ro rfl (dU U_26 (Ht rfl) (by rw [List.length_map,hMl])) ?_))))))))))
 refine ro rfl (cX (cJ 0)) (eJ (eU ?_))
 refine bF (fun (k : Nat) => k ≤ n ∧ ∀ j, j < k → ((M.getD j []).any fun x => !decide (x = 0)) = false) (fun (k : Nat) => n - k) (fun (k : Nat) => [(6, fB M), (7, NT .i64 n), (8, NT .i64 k)]) (fun (k : Nat) => [box B1 28 [cE z, fB s]]) 0 ⟨Nat.zero_le _, fun j h => by omega⟩
  (zS rfl) (aU (aB rfl) aY) (fun k ⟨hk,hz0⟩=>?_)
 refine ts (ro rfl (gJ (Ht rfl) (Ht rfl)) (eJ (cK (dQ (Ht rfl) (fun hd=>?_) (fun hd=>?_)))))
 ·have hkn : k < n := by simp only [decide_eq_true_eq] at hd; omega
  refine cU (cK (eU (ts (ro rfl (dZ U_26 Z_25 (Ht rfl) (Ht rfl) rfl (eX (eQ (d:=[]) zo))) (ro rfl (dJ A_25 Z_25 (Ht rfl)) (ra rfl (eJ (cK ?_))))))))
  obtain ⟨r,hr⟩:∃ r,r = M.getD k []:=⟨_,rfl⟩
  have hrf:cD r (51 * L + 43):=by rw [hr]; exact hPf.row k
  have hrl:r.length ≤ 1000:=by rw [hr,hPs.row hkn]; omega
  obtain ⟨l,hl⟩:∃ l:List {x:Qi // aD x (51 * L + 43)},r = l.map Subtype.val:=⟨r.attach.map fun x=>⟨x.1,hrf x.1 x.2⟩,by simp⟩
  have hll:l.length ≤ 1000:=by rw [hl,List.length_map] at hrl; exact hrl
  have hany:(r.any fun x=>!decide (x = 0)) = l.any fun x=>!decide (x.1 = Qi.zero):=by rw [hl,List.any_map]; rfl
  refine vM (E':=[(4,_),(6,_),(7,_),(8,_)]) (aZ rfl (jC (Us:=l.map fun x=>bA x.1) (by rw [← hr,hl,List.map_map]; rfl)) (zS rfl)) ?_
  refine cY (rm rfl (ro rfl (cZ Tryz.call103 (sL (l:=l) (T:=fun x=>bA x.1) (p:=fun x=>!decide (x.1 = Qi.zero)) zo) ⟨(Ht rfl),(bB.fn K_82 (γ:={x:Qi // aD x (51 * L + 43)}) (Ts:=fun x=>[bA x.1]) (U:=fun x=>aC (!decide (x.1 = Qi.zero))) (fun x=>haveI:=x.2; rI zo)),trivial⟩) (eJ (dQ (Ht rfl) (fun hc=>?_) (fun hc=>?_)))))
  ·have hf := Sh (M := M) (j := k) zo (by rw [← hr, hany]; exact hc)
   refine ts (ro rfl (cQ cV) (eJ (fK rfl (fJ (fQ rfl) ?_))))
   exact (bN hf.symm)
  ·have hf : ((M.getD k []).any fun x => !decide (x = 0)) = false := by rw [← hr, hany]; exact hc
   refine cU (bC (cY (ro rfl (dW (Ht rfl) (cJ 1) z6) (rm rfl (eJ ?_)))))
   refine gQ (k + 1) ⟨hkn, fun j h => by
    by_cases e:j = k
    ·rw [e]; exact hf
    ·exact hz0 j zo⟩ zo (zS rfl) (aU (aB rfl) aY)
 ·have hkn : k = n := by simp only [decide_eq_false_iff_not] at hd; omega
  have hf:=Po hMl (fun j h=>hz0 j zo)
  refine gG rfl (ts (ro rfl (cQ cV) (eJ (fK rfl (fJ (fQ rfl) ?_)))))
  exact (bN hf.symm)
end
section
open Go Go.RowKit
def tA (p : Nat → Bool) : Nat → Nat → Nat
 | 0,k=>k
 | f + 1,k=>if p k = true then k else tA p f (k + 1)
theorem Di {p : Nat → Bool} : ∀ {f k r : Nat}, k ≤ r → r ≤ k + f → (∀ j, k ≤ j → j < r → p j = false) → (r < k + f → p r = true) → tA p f k = r
 | 0,k,r,h1,h2,_,_=>by simp only [tA]; omega
 | f + 1, k, r, h1, h2, h3, h4 => by
  unfold tA
  by_cases e:r = k
  ·subst e; rw [if_pos (h4 zo)]
  ·rw [if_neg (by rw [h3 k (Nat.le_refl _) zo]; simp)]
   exact Di zo zo (fun j a b=>h3 j zo b) (fun h=>h4 zo)
theorem rU {p : Nat → Bool} : ∀ {f k : Nat}, (k ≤ tA p f k ∧ tA p f k ≤ k + f) ∧ (∀ j, k ≤ j → j < tA p f k → p j = false) ∧ (tA p f k < k + f → p (tA p f k) = true)
 | 0,k=>⟨⟨Nat.le_refl _,Nat.le_refl _⟩,fun j a b=>by simp only [tA] at b; omega,fun h=>by simp only [tA] at h; omega⟩
 | f + 1, k => by
  unfold tA
  by_cases e:p k = true
  ·rw [if_pos e]; exact ⟨⟨Nat.le_refl _,by omega⟩,fun j a b=>by omega,fun _=>e⟩
  ·rw [if_neg e]
   obtain ⟨⟨a1,a2⟩,a3,a4⟩:=rU (p:=p) (f:=f) (k:=k + 1)
   refine ⟨⟨by omega,by omega⟩,fun j a b=>?_,fun h=>a4 zo⟩
   by_cases c:j = k
   ·subst c; simpa using e
   ·exact a3 j zo b
def Xl (x:List Qi) (f:Qi) (y:List Qi):List Qi:=tab x.length fun i=>gv x i + f * gv y i
def Ax (x:Qi):Bool:=decide (Au x Qi.zero < 0)
def Hw (x:Qi):Qi:=if Ax x = true then -x else x
def Nf (G:List (List Qi)) (n i:Nat):Nat:=tA (fun k=>!decide (gm G i k = 0)) (n - (i + 1)) (i + 1)
def rO (G:List (List Qi)) (i k:Nat):Qi:=(Hw (gm G k k) + Qi.ofInt 1) / ((gm G i k).norm + (gm G i k).norm)
def Uk (G V:List (List Qi)) (i k:Nat):List Qi:=Xl (V.getD k []) (-(rO G i k) * gm G i k) (V.getD i [])
def vT (G V:List (List Qi)) (n i:Nat):List Qi:=if gm G i i = 0 then (if Nf G n i < n then Uk G V i (Nf G n i) else []) else []
def uN (G:List (List Qi)) (n i k l:Nat):List (List Qi):=tab n fun r=>tab n fun c=>if (i < r ∧ i < c) ∧ (c < k ∨ c = k ∧ r < l) then gm G r c - gm G r i * (gm G i c / gm G i i) else gm G r c
def dfE (G:List (List Qi)) (n i:Nat):List (List Qi):=uN G n i n 0
def nL (G V:List (List Qi)) (n i k:Nat):List (List Qi):=tab n fun r=>if i < r ∧ r < k then Xl (V.getD r []) (-(gm G i r / gm G i i)) (V.getD i []) else V.getD r []
def gK (h : List (List Qi)) (n : Nat) : Nat → List (List Qi) × List (List Qi)
 | 0=>(h,yZ n)
 | i + 1=>if gm (gK h n i).1 i i = 0 then gK h n i else (dfE (gK h n i).1 n i,nL (gK h n i).1 (gK h n i).2 n i n)
def uL (h : List (List Qi)) (n : Nat) : Nat → Nat → Bool × List Qi
 | 0,_=>(true,[])
 | f + 1,i=>if Ax (gm (gK h n i).1 i i) = true then (false,(gK h n i).2.getD i []) else if vT (gK h n i).1 (gK h n i).2 n i ≠ [] then (false,vT (gK h n i).1 (gK h n i).2 n i) else uL h n f (i + 1)
theorem a0D {G V : List (List Qi)} {i k : Nat} (h : 0 < (V.getD k []).length) : (Uk G V i k).map bA ≠ [] := fun e => by
 have:=congrArg List.length e
 rw [List.length_map,Uk,Xl,aT] at this
 rw [List.length_nil] at this; omega
theorem zM {x : Qi} (h : ¬ x = 0) : x.norm + x.norm ≠ 0 := fun e => by
 have e2:x.nrm + x.nrm = 0:=congrArg Qi.re e
 exact h (Qi.nrm_zero.1 (by grind))
theorem pC (G:List (List Qi)) (n i k l:Nat):eR (uN G n i k l) n n:=eR.tab
theorem Ni {G:List (List Qi)} {n i:Nat} (h:eR G n n):uN G n i (i + 1) 0 = G:=by
 have:uN G n i (i + 1) 0 = tab n fun r=>tab n fun c=>gm G r c:=bE fun r _=>bE fun c _=>by rw [if_neg zo]
 rw [this]; exact (pM h).symm
theorem Wo {G : List (List Qi)} {n i k : Nat} : uN G n i k 0 = uN G n i k (i + 1) := bE fun r _ => bE fun c _ => by
 by_cases a:(i < r ∧ i < c) ∧ (c < k ∨ c = k ∧ r < 0)
 ·rw [if_pos a,if_pos zo]
 ·rw [if_neg a,if_neg zo]
theorem Wn {G : List (List Qi)} {n i k : Nat} : uN G n i k n = uN G n i (k + 1) 0 := bE fun r hr => bE fun c _ => by
 by_cases a:(i < r ∧ i < c) ∧ (c < k ∨ c = k ∧ r < n)
 ·rw [if_pos a,if_pos zo]
 ·rw [if_neg a,if_neg zo]
theorem Dc {G:List (List Qi)} {n i k l r c:Nat} (hr:r < n) (hc:c < n) (h:¬ ((i < r ∧ i < c) ∧ (c < k ∨ c = k ∧ r < l))):gm (uN G n i k l) r c = gm G r c:=by rw [uN,jK hr hc,if_neg h]
theorem Qw {G:List (List Qi)} {n i k l:Nat} (hl:l < n) (hk:k < n) (hil:i < l) (hik:i < k):(uN G n i k l).set l ((dH (uN G n i k l) l).set k (gm G l k - gm G l i * (gm G i k / gm G i i))) = uN G n i k (l + 1):=by
 refine Lw (n:=n) (m:=n) ⟨by rw [List.length_set]; exact aT _ _,fun r hr=>?_⟩ (pC _ _ _ _ _) fun r hr c hc=>?_
 ·rcases List.mem_or_eq_of_mem_set hr with h1 | h1
  ·exact (pC G n i k l).2 r h1
  ·rw [h1,List.length_set]; exact (pC G n i k l).row hl
 ·have hrl : (dH (uN G n i k l) l).length = n := (pC G n i k l).row hl
  have hlen:(uN G n i k l).length = n:=aT _ _
  show gv (dH ((uN G n i k l).set l _) r) c = _
  by_cases e:r = l
  ·subst e
   rw [vH zo,Jf zo]
   by_cases e2:c = k
   ·subst e2
    rw [if_pos rfl,uN,jK hr hc,if_pos zo]
   ·rw [if_neg e2]
    show gm (uN G n i k r) r c = _
    rw [uN,jK hr hc,uN,jK hr hc]
    by_cases a:(i < r ∧ i < c) ∧ (c < k ∨ c = k ∧ r < r)
    ·rw [if_pos a,if_pos zo]
    ·rw [if_neg a,if_neg zo]
  ·rw [oR (fun x => e x.symm)]
   show gm (uN G n i k l) r c = _
   rw [uN,jK hr hc,uN,jK hr hc]
   by_cases a:(i < r ∧ i < c) ∧ (c < k ∨ c = k ∧ r < l)
   ·rw [if_pos a,if_pos zo]
   ·rw [if_neg a,if_neg zo]
theorem Jb {G V:List (List Qi)} {n i:Nat} (h:V.length = n):nL G V n i (i + 1) = V:=by
 have:nL G V n i (i + 1) = tab n fun r=>V.getD r []:=bE fun r _=>by rw [if_neg zo]
 rw [this]; exact (Ae (h:=h)).symm
theorem Nj {G V:List (List Qi)} {n i k:Nat} (hk:k < n) (hik:i < k):(nL G V n i k).set k (Xl (V.getD k []) (-(gm G i k / gm G i i)) (V.getD i [])) = nL G V n i (k + 1):=by
 apply List.ext_getElem?
 intro r
 by_cases hr:r < n
 ·by_cases e : r = k
  ·subst e
   rw [List.getElem?_set_self (by rw [nL,aT]; exact hr),nL,bO hr,if_pos zo]
  ·rw [List.getElem?_set_ne (Ne.symm e), nL, nL, bO hr, bO hr]
   by_cases a:i < r ∧ r < k
   ·rw [if_pos a,if_pos zo]
   ·rw [if_neg a,if_neg zo]
 ·rw [List.getElem?_eq_none (by rw [List.length_set,nL,aT]; omega),List.getElem?_eq_none (by rw [nL,aT]; omega)]
theorem Fs {G V:List (List Qi)} {n i k r:Nat} (hr:r < n) (h:¬ (i < r ∧ r < k)):(nL G V n i k).getD r [] = V.getD r []:=by rw [nL,rE hr,if_neg h]
theorem Dp (x y:List Qi) (f:Qi):(Xl x f y).length = x.length:=aT _ _
theorem rR {h : List (List Qi)} {n : Nat} (hs : eR h n n) : ∀ i, i ≤ n → eR (gK h n i).1 n n ∧ eR (gK h n i).2 n n
 | 0,_=>⟨hs,pK n⟩
 | i + 1, hi => by
  obtain ⟨a,b⟩:=rR hs i zo
  simp only [gK]
  split
  ·exact ⟨a,b⟩
  ·refine ⟨pC _ _ _ _ _, ⟨aT _ _, fun r hr => ?_⟩⟩
   obtain ⟨j,hj,rfl⟩:=eE.1 hr
   by_cases c:i < j ∧ j < n
   ·rw [if_pos c,Dp]; exact b.row hj
   ·rw [if_neg c]; exact b.row hj
def jE (h:List (List Qi)) (n:Nat):Bool:=decide (∀ i,i < n → ∀ k,k < n → gm h i k = (gm h k i).conj)
def uK (h:List (List Qi)) (n:Nat):Bool:=if jE h n = true then (uL h n n 0).1 else false
def Jc (h:List (List Qi)) (n:Nat):List Qi:=if jE h n = true then (uL h n n 0).2 else []
def Ul (h:List (List Qi)) (n:Nat):Int:=if jE h n = true then 0 else 1
theorem Ld {h:List (List Qi)} {n i:Nat} (hi:i < n) (k:Ax (gm (gK h n i).1 i i) = true):uL h n (n - i) i = (false,(gK h n i).2.getD i []):=by
 rw [show n - i = (n - (i + 1)) + 1 by omega,uL,if_pos k]
theorem Lb {h:List (List Qi)} {n i:Nat} (hi:i < n) (k:Ax (gm (gK h n i).1 i i) ≠ true) (w:vT (gK h n i).1 (gK h n i).2 n i ≠ []):uL h n (n - i) i = (false,vT (gK h n i).1 (gK h n i).2 n i):=by
 rw [show n - i = (n - (i + 1)) + 1 by omega,uL,if_neg k,if_pos w]
theorem Qs {h:List (List Qi)} {n i:Nat} (hi:i < n) (k:Ax (gm (gK h n i).1 i i) ≠ true) (w:vT (gK h n i).1 (gK h n i).2 n i = []):uL h n (n - i) i = uL h n (n - (i + 1)) (i + 1):=by
 rw [show n - i = (n - (i + 1)) + 1 by omega,uL,if_neg k,if_neg (fun e=>e w)]
theorem qG {h:List (List Qi)} {n i:Nat} (k:gm (gK h n i).1 i i = 0):gK h n (i + 1) = gK h n i:=by rw [gK,if_pos k]
theorem yS {h:List (List Qi)} {n i:Nat} (k:¬ gm (gK h n i).1 i i = 0):gK h n (i + 1) = (dfE (gK h n i).1 n i,nL (gK h n i).1 (gK h n i).2 n i n):=by rw [gK,if_neg k]
structure Ur (h:List (List Qi)) (n G V:Nat):Prop where
 g:∀ i,i ≤ n → bP (gK h n i).1 G
 v:∀ i,i ≤ n → bP (gK h n i).2 V
 g1:1 ≤ G
 v1:1 ≤ V
 b:10 * G + 2 * V + 40 ≤ 8796093022208
end
section
open Go Go.RowKit
section
variable {P:Program} {R:gI} {cx:Cx} {n:Nat} {k:List It} {E:cH} {H:Hp}
theorem HH.two {base:Nat} {w:World} {V:aR} {Z:SA} {X:Hp} (h:HH base w V (Z :: X)):HH base w V [Z,fD (SA.emp :: X)]:=by
 have h1:HH base w V ((Z :: X).set 0 SA.emp ++ [Z]):=h.last rfl
 have h2:HH base w V (fD (SA.emp :: X) :: [Z]):=HH.repack h1
 exact h2.pick (is:=[1,0]) ⟨⟨_,rfl,fun _ _ _ h=>h⟩,⟨_,rfl,fun _ _ _ h=>h⟩,trivial⟩ (by decide)
theorem iI.pack {f : FuncId} {Ts : List Ty} {γ : Type} {U : γ → Ty} {X : γ → Hp} {Q : γ → Prop} (h : iI P f Ts [] γ U X Q) : iI P f Ts [] γ U (fun x => [fD (SA.emp :: X x)]) Q :=
 fun cx Z vs V w h1 h2=>(h cx Z vs V w h1 h2).mono fun e w' ⟨v,V',x,a,b,c,d,e'⟩=>⟨v,V',x,a,b,c.withHH c.hp.two,d,e'⟩
end
namespace W
variable {P:Program} {R:gI} {cx:Cx} {n:Nat} {k:List It} {E:cH} {H:Hp} {Hf:Bool → Hp} {p:Nat}
end W
end
section
open Go Go.RowKit
section
variable {P:Program} {R:gI} {cx:Cx} {n:Nat} {k:List It} {E:cH} {H:Hp} {ops:Array Oper} {o:Oper} {rest:List Oper}
variable {d:Option Tmp} {t:TypeId} {pos:String} {af:Array Edge} {g:Option (Nat × Bool)}
def hdr : Option (Nat × Nat) → Nat → Value
 | none,_=>.slice none 0 0
 | some (b,cp),l=>.slice (some ⟨b,0,none⟩) l cp
instance shHdr (x:Option (Nat × Nat)) (l:Nat):cT (Is (hdr x l)) 1 false:=by
 match x with
 | none=>exact inferInstanceAs (cT (Is (.slice none 0 0)) 1 false)
 | some (b,cp)=>exact inferInstanceAs (cT (Is (.slice (some ⟨b,0,none⟩) l cp)) 1 false)
end
end
section
open Go Go.RowKit
theorem fM.mk' {V : aR} : ∀ {Ts : List Ty} {vs : List Value}, vs.length = Ts.length → (∀ (q : Nat) (T : Ty), Ts[q]? = some T → ∃ u, vs[q]? = some u ∧ T.p u V) → fM Ts vs V
 | [],[],_,_=>trivial
 | T :: Ts, v :: vs, h, k => by
  obtain ⟨u,h1,h2⟩:=k 0 T rfl
  simp at h1; subst h1
  exact ⟨h2,fM.mk' (by simpa using h) fun q T hT=>k (q + 1) T (by simpa using hT)⟩
 | [],_ :: _,h,_=>by simp at h
 | _ :: _,[],h,_=>by simp at h
section
variable {P:Program} {R:gI} {cx:Cx} {n:Nat} {k:List It} {E:cH} {H:Hp} {ops:Array Oper} {o:Oper} {rest:List Oper}
variable {d:Option Tmp} {t:TypeId} {pos:String} {af:Array Edge} {g:Option (Nat × Bool)}
theorem gM.frzRows {V : aR} {w : World} {j B e s : Nat} {q : Value → Prop} {BT : TypeId} {Rs : List (List Ty)} (h : gM cx V H w) (hH : H[j]? = some (nM q B BT e s Rs)) (hm : Rs.length ≤ maxLen) :
  ∃ V',mF V V' ∧ gM cx V' (H.set j (bI BT 1 (.slice (some ⟨B,0,none⟩) Rs.length Rs.length) (Rs.map (jN s)))) w:=by
 have hjl:=(List.getElem?_eq_some_iff.1 hH).1
 obtain ⟨vs, hv⟩ := h.hp.split (γ := {vs : List Value // vs.length = Rs.length}) (A1 := fun vs => box B BT (vs.1.map Is)) (A2 := fun vs => fD (SA.emp :: List.zipWith (bI e s) vs.1 Rs)) hH (fun S ⟨vs, ⟨h1, h1q⟩, h2⟩ => by
  obtain ⟨S1,S2,k1,k2,k3,k4⟩:=fD.split (q:=0) h2 (A:=box B BT (vs.map Is)) (by simp [mx])
  exact ⟨⟨vs,h1⟩,S2,S1,k2,k1,fun b p r=>k3 b r p,fun b=>by rw [k4 b]; exact Or.comm⟩)
 have h3:gM cx V (H.set j (box B BT (vs.1.map Is)) ++ [fD (SA.emp :: List.zipWith (bI e s) vs.1 Rs)]) w:=h.withHH hv
 obtain ⟨V',S,hle,hi',hA⟩:=h3.freeze (i:=H.length) (A:=fD (SA.emp :: List.zipWith (bI e s) vs.1 Rs)) (by rw [List.getElem?_append_right (by simp)]; simp)
 refine ⟨V',hle,?_⟩
 obtain ⟨F,f1,f2⟩:=hi'.hp
 obtain ⟨G,g1,g2,g3⟩:=hA
 refine hi'.withHH ⟨F,fun i A hA=>?_,fun i l b hi hl=>?_⟩
 ·by_cases c : i = j
  ·subst c
   simp [hjl] at hA; subst hA
   obtain ⟨⟨e0,cs,e1,e2⟩,k2⟩:=f1 i (box B BT (vs.1.map Is)) (by rw [List.getElem?_set_ne zo,List.getElem?_append_left (by simpa using hjl)]; simp [hjl])
   refine ⟨⟨cs,⟨?_,fun x hx=>by rw [(e2.pl x hx).cells]; rfl,fun u hu=>?_⟩,.inr ⟨B,Rs.length,cs.toArray,by rw [List.length_map],e0,e1,by rw [List.length_map]; exact Nat.le_refl _,hm,?_,?_⟩⟩,k2⟩
   ·refine fM.mk' (by rw [e2.length, List.length_map, List.length_map, vs.2]) fun q T hT => ?_
    rw [List.getElem?_map] at hT
    obtain ⟨Ts,hR,rfl⟩:=Option.map_eq_some_iff.1 hT
    have hql:=(List.getElem?_eq_some_iff.1 hR).1
    have hvq:vs.1[q]? = some (vs.1[q]'(by rw [vs.2]; exact hql)):=by simp [vs.2,hql]
    obtain ⟨u,u1,u2⟩:=e2.get (i:=q) (T:=Is (vs.1[q]'(by rw [vs.2]; exact hql))) (by simp [vs.2,hql])
    have hrow:=g1 (q + 1) (bI e s (vs.1[q]'(by rw [vs.2]; exact hql)) Ts) (by simp [List.getElem?_zipWith,hvq,hR])
    exact ⟨u,u1,iY u _ V' u2 hrow⟩
   ·obtain ⟨x, hx, hu⟩ := iT.1 hu
    have:=e2.pl x hx
    rw [this.cells] at hu; simp at hu; subst hu; exact this
   ·have := e2.length
    rw [List.length_map,vs.2] at this
    simp [this]
   ·have := e2.length
    rw [List.length_map,vs.2] at this
    have hf:cR cs = cs:=pH cs fun x hx=>e2.pl x hx
    rw [hf,List.length_map,Nat.mul_one]
    simp [← this]
  ·rw [List.getElem?_set_ne (fun x => c x.symm)] at hA
   have hil:=(List.getElem?_eq_some_iff.1 hA).1
   refine f1 i A ?_
   rw [List.getElem?_set_ne zo,List.getElem?_append_left (by simpa using hil),List.getElem?_set_ne (fun x=>c x.symm)]
   exact hA
 ·simp at hi hl
  exact f2 i l b (by simp; omega) (by simp; omega)
theorem Ms (j : Nat) {B e s : Nat} {q : Value → Prop} {BT : TypeId} {Rs : List (List Ty)} (hH : H[j]? = some (nM q B BT e s Rs)) (hm : Rs.length ≤ maxLen)
  (h:Tr P R cx n k E (H.set j (bI BT 1 (.slice (some ⟨B,0,none⟩) Rs.length Rs.length) (Rs.map (jN s))))):Tr P R cx n k E H:=fun a w ⟨V,hi,hs⟩=>by
 obtain ⟨V',hle,hi'⟩:=hi.frzRows hH hm
 exact h a w ⟨V',hi',hs.mono hle⟩
theorem Ie (j : Nat) {B e s m : Nat} {q : Value → Prop} {BT : TypeId} {Rs : List (List Ty)} {Us : List Ty} (hH : H[j]? = some (nM q B BT e s Rs)) (hm : m ≤ maxLen) (hl : Rs.length = m) (hU : Rs.map (jN s) = Us)
  (h:Tr P R cx n k E (H.set j (bI BT 1 (.slice (some ⟨B,0,none⟩) m m) Us))):Tr P R cx n k E H:=by
 subst hl hU; exact Ms j hH hm h
def NlT (s:Nat) (Ts:List Ty):Ty where
 p v V:=(Ts = [] ∧ v = .slice none 0 0) ∨ (Ts ≠ [] ∧ (jN s Ts).p v V)
 mono h k:=h.imp id fun ⟨a,b⟩=>⟨a,(jN s Ts).mono b k⟩
theorem yX (tx:TypeId) (x y:Operand) (a b:Option Addr) (l c l' c':Nat):eqGuard .neq tx x y (.slice a l c) (.slice b l' c') = pure ():=rfl
theorem Oc {tx ty : TypeId} {x : Operand} {s : Nat} {Ts : List Ty} {e : TypeId} {q : Bool} (hq : q = true ↔ Ts ≠ []) (hU : ∀ w, (underlying tx).run P w = .ok (.slice e) w) (hx : bB E x (NlT s Ts)) :
  aI P n E H ⟨d,.binOp .neq tx x (.const (.slice none 0 0)) ty,t,pos,af,g⟩ (aC q) :=
 eC fun a V w hs => by
  rcases hx n V a hs with ⟨hT,e1⟩ | ⟨hT,ad,cap,e1,_,e3⟩
  ·have hf : q = false := by cases q; rfl; exact absurd hT (hq.1 rfl)
   subst hf
   refine ⟨.bool false,?_,rfl⟩
   have h:=xO (P:=P) (tx:=tx) (e:=e) none 0 0 hU
   simp [execOp,e1,pF,yX,binOp,h,Sem.run_bind,Result.andThen] at h ⊢
  ·have ht : q = true := hq.2 hT
   subst ht
   cases ad with
   | none =>
    cases Ts with
    | nil=>exact absurd rfl hT
    | cons T Ts=>obtain ⟨b,o,x,h,_⟩:=e3 0 T rfl; cases h
   | some ad =>
    refine ⟨.bool true,?_,rfl⟩
    have h:=xO (P:=P) (tx:=tx) (e:=e) (some ad) Ts.length cap hU
    simp [execOp,e1,pF,yX,binOp,h,Sem.run_bind,Result.andThen] at h ⊢
theorem Uq {f : FuncId} {xs : List Operand} {tys : Array TypeId} {Ts : List Ty} {γ : Type} {U : γ → Ty} {i j : Nat} {A B : SA} {A' B' : γ → SA} {Q : γ → Prop} {dd : Nat} (hc : ∀ args w, (callFunc f args).run P w = .ok (.enter f args) w)
  (hF:iI P f Ts [A,B] γ U (fun x=>[A' x,B' x]) Q) (hA:H[i]? = some A) (hB:H[j]? = some B) (hij:i ≠ j) (ha:oD E xs Ts) (hn:Nat.blt dd n = true) (h:∀ x,Q x → Rg P R cx n ops rest k ((dd,U x) :: E) ((H.set j (B' x)).set i (A' x))) :
  Rg P R cx n ops (⟨some dd,.call ⟨.value (.func f),xs.toArray,tys⟩,t,pos,af,none⟩ :: rest) k E H:=by
 intro a w ⟨V,hi,hs⟩
 unfold wpList
 rw [if_pos (by simp [Region.wanted])]
 left
 have hrun : (execOp a.eval ⟨some dd, .call ⟨.value (.func f), xs.toArray, tys⟩, t, pos, af, none⟩).run P w = .ok (.enter f (xs.map a.eval).toArray) w := by
  simp [execOp,resolve,Act.eval,Deferred.ofValue,invoke,hc]
 simp only [Oper.wp,hrun,Oper.upon_enter]
 have hil:=(List.getElem?_eq_some_iff.1 hA).1
 have hjl:=(List.getElem?_eq_some_iff.1 hB).1
 have h1:=hi.hp.last hA
 have h2:=h1.last (i:=j) (A:=B) (by rw [List.getElem?_append_left (by simpa using hjl),List.getElem?_set_ne hij]; exact hB)
 rw [List.set_append_left _ _ (by simpa using hjl),List.append_assoc] at h2
 have h3:=HH.repack h2
 refine (hF cx _ _ V w (hi.withHH h3) (oD.all hs ha)).mono ?_
 rintro e w' ⟨v,V',x,rfl,m1,m2,m3,m4⟩
 refine h x m4 _ _ ⟨V',m2.withHH ?_,(hs.mono m1).put (aK hn) m3⟩
 have g1:=m2.hp.unpack
 have e1 : (H.set i SA.emp).set j SA.emp ++ [A' x, B' x] = (H.set i SA.emp ++ [A' x]).set j SA.emp ++ [B' x] := by
  rw [List.set_append_left _ _ (by simpa using hjl),List.append_assoc]; rfl
 rw [e1] at g1
 have g2:=g1.unlast (by simp; omega)
 rw [List.set_append_left _ _ (by simpa using hjl),List.set_comm _ _ hij] at g2
 exact g2.unlast (by simpa using hil)
end
end
section
open Go Go.RowKit
theorem Cm {x:Qi} {L:Nat} [hx:aD x L] (h:L + L + 1 ≤ 17592186044415):aP Tryz.prog 50 [bA x] (bA x.norm):=by
 have hxa:=iF hx.fit; have hxb:=iM hx.fit; have hxd:=iG hx.fit
 have hxp:=x.den_pos; have hdp:=Nat.mul_pos hxp hxp
 have e1:=iL x.a x.a; have e2:=iL x.b x.b; have e5:=pD x.den x.den
 have e6:=iS (x:=x.a * x.a) (y:=x.b * x.b) (L:=L + L) zo zo
 have hz:(dg (0:Int).natAbs).length ≤ 0:=by rw [show (0:Int).natAbs = 0 from rfl,dI]; exact Nat.le_refl _
 refine aP.intro Tryz.func50 rfl Tryz.ntmps50 rfl (fun cx=>(ts (rn rfl (fU (Ht rfl)) fun B1=>(rn rfl (eK (Ts:=[Is (.bool false),Is (.slice none 0 0),Is (.bool false),Is (.slice none 0 0),Is (.slice none 0 0)]) O_60 rfl (fun V=>aW zd (aW zd (aW zd (aW zd (aW zd (aG))))))) fun B2=>(eJ (cK (fV (m:=17) (dp 1 rfl (eW fF (Ht rfl) rfl) (dq 3 0 rfl (eG A_58 Z_58 (Ht rfl) (i:=0) rfl rfl rfl) (dp 1 rfl (eW fF (Ht rfl) rfl) ?_))))))))))
 refine dq 5 2 rfl (eG A_58 Z_58 (Ht rfl) (i:=0) rfl rfl rfl) (bR 4 1 6 3 rfl (cZ K_151 (nP zo zo) ⟨(Ht rfl),(Ht rfl),trivial⟩) (dp 1 rfl (eW fS (Ht rfl) rfl) (dq 8 5 rfl (eG A_58 Z_58 (Ht rfl) (i:=0) rfl rfl rfl) (dp 1 rfl (eW fS (Ht rfl) rfl) (dq 10 7 rfl (eG A_58 Z_58 (Ht rfl) (i:=0) rfl rfl rfl) (bR 9 6 11 8 rfl (cZ K_151 (nP zo zo) ⟨(Ht rfl),(Ht rfl),trivial⟩) (bR 7 4 12 9 rfl (cZ K_152 (sW zo zo) ⟨(Ht rfl),(Ht rfl),trivial⟩) ?_)))))))
 refine d0 rfl (aI.imp (Km ) tF) (dp 1 rfl (eG A_60 Z_60 (Ht rfl) (i:=0) rfl rfl rfl) (dq 15 12 rfl (cZ K_153 mM ⟨(Ht rfl),trivial⟩) (dp 1 rfl (eG A_60 Z_60 (Ht rfl) (i:=0) rfl rfl rfl) (dq 17 14 rfl (cZ K_153 mM ⟨(Ht rfl),trivial⟩) (bR 16 13 18 15 rfl (cZ K_154 (Bf zo zo) ⟨(Ht rfl),(Ht rfl),trivial⟩) (fG aO rfl (by kernel_rfl) (zF (zF (zF (zF (aJ (aV ?_))))))))))))
 refine ro rfl (cZ K_150 (sV (A:=x.a * x.a + x.b * x.b) (B:=0) (D:=x.den * x.den) hdp zo zo zo) ⟨(Ht rfl),(Ht rfl),(Ht rfl),trivial⟩) (gZ Z_60 (Ht rfl) (Ht rfl) rfl (i:=1) rfl (aK rfl) rfl rfl (eJ (fK rfl (fJ (fY A_60 Z_60 rfl (i:=1) rfl rfl) ?_))))
 exact (kJ (Qi.mk_norm x))
theorem Kv {x y:List Qi} {f:Qi} {n L M N:Nat} (hx:cD x L) (hf:aD f M) (hy:cD y N) (hL:1 ≤ L) (hN:1 ≤ N) (hb:L + M + N + 4 ≤ 17592186044415) (hxl:x.length = n) (hyl:y.length = n) (hn:n ≤ 1000):aP Tryz.prog 197 [cE x,bA f,cE y] (cE (Xl x f y)):=by
 haveI:=hf
 refine aP.intro Tryz.func197 rfl Tryz.ntmps197 rfl (fun cx=>(ts (rn rfl (fU (Ht rfl)) fun B4=>(ro rfl (cQ cV) (eJ (ts (ro rfl (cQ cV) (eJ (cK (cK (Eo 60 5 (cY (rm rfl (ro rfl (dU U_25 (Ht rfl) (by rw [List.length_map,hxl])) ?_))))))))))))))
 refine ro rfl (cX (cJ 0)) (eJ (eU ?_))
 refine eS (fun (i : Nat) (v : Value) => i ≤ n) (fun (i : Nat) (v : Value) => n - i) (fun (i : Nat) (v : Value) => [(0, cE x), (2, cE y), (4, cC B4 0), (7, Is v), (10, NT .i64 n), (11, NT .i64 i)]) (fun (i : Nat) (v : Value) => [box B4 60 [aC (decide (f.a < 0)), aE f.a.natAbs, aC (decide (f.b < 0)), aE f.b.natAbs, aE (du f)], bI 60 5 v ((tab i (fun i => gv x i + f * gv y i)).map bA)]) 0 _ (Nat.zero_le _)
  (zS rfl) (aU (aB rfl) (aU (bL rfl) aY)) (fun i v hi=>?_)
 refine ts (ro rfl (gJ (Ht rfl) (Ht rfl)) (eJ (cK (dQ (Ht rfl) (fun hd=>?_) (fun hd=>?_)))))
 ·have hin : i < n := by simp only [decide_eq_true_eq] at hd; omega
  haveI f1:aD (gv x i) L:=hx.get hL i
  haveI f2:aD (gv y i) N:=hy.get hN i
  haveI f3:aD (f * gv y i) (M + N + 1):=fitMul
  refine cU (cK (eU (ts (rm rfl (ra rfl (eJ (fV (m:=13) (dp 7 rfl (cX (Ht rfl)) (dp 0 rfl (cX (Ht rfl)) (dp 8 rfl (cX (Ht rfl)) (bR 15 1 16 2 rfl (dZ U_25 Z_60 (Ht rfl) (Ht rfl) rfl (eX (eQ (d:=Qi.zero) zo))) (dq 17 3 rfl (dJ A_60 Z_60 (Ht rfl)) (dp 4 rfl (eG A_60 Z_60 (Ht rfl) (i:=0) rfl rfl rfl) (dp 2 rfl (cX (Ht rfl)) (dp 8 rfl (cX (Ht rfl)) (bR 20 6 21 7 rfl (dZ U_25 Z_60 (Ht rfl) (Ht rfl) rfl (eX (eQ (d:=Qi.zero) zo))) ?_))))))))))))))))
  refine dq 22 8 rfl (dJ A_60 Z_60 (Ht rfl)) (bR 19 5 23 9 rfl (cZ K_70 (nA (x:=f) (y:=gv y i) (L:=M) (M:=N) zo) ⟨(Ht rfl),(Ht rfl),trivial⟩) (bR 18 4 24 10 rfl (cZ K_71 (vP (x:=gv x i) (y:=f * gv y i) (L:=L) (M:=M + N + 1) zo) ⟨(Ht rfl),(Ht rfl),trivial⟩) (dq 25 11 rfl (fE (xs:=[.tmp 25]) U_25 Z_60 O_60 (cW (Ht rfl) cG) rfl rfl rfl) (fG aO rfl (by kernel_rfl) (zF (zF (zF (aJ (aV ?_)))))))))
  refine tI (inf:=Tryz.t60) pR mO rfl rfl rfl (Ht rfl) (Ht rfl) (i:=1) rfl (by simp) (fun T hT=>by simp at hT; subst hT; exact El.ag rfl) (by show _ * 88 ≤ _; simp only [List.length_map,aT,List.length_cons,List.length_nil]; omega) (by simp only [List.length_map,aT,List.length_cons,List.length_nil]; omega) rfl (fun v2=>?_)
  refine ra rfl (eJ (bC (cY (ro rfl (dW (Ht rfl) (cJ 1) z6) (rm rfl (eJ (gQ (i + 1,v2) hin (by dsimp only; omega) (zS rfl) (aU (aB rfl) (aU (bL (by rw [Hk,List.map_append]; rfl)) aY)))))))))
 ·have hin : i = n := by simp only [decide_eq_false_iff_not] at hd; omega
  rw [hin]
  refine gG rfl (gW (i:=1) (tt:=7) rfl rfl iY (ts (rm rfl (ra rfl (eJ (fK rfl (fJ (fQ rfl) ?_)))))))
  exact (jC (by rw [Xl,hxl]))
theorem Iq {G V:List (List Qi)} {vs:List Value} {n i L M B BV:Nat} (hG:eR G n n) (hV:eR V n n) (hvs:Pc vs n) (hfG:bP G L) (hfV:bP V M) (hL:1 ≤ L) (hM:1 ≤ M) (hb:10 * L + 2 * M + 40 ≤ 8796093022208) (hi:i < n) (hn:n ≤ 32):iI Tryz.prog 196 [Is (.slice (some ⟨B,0,none⟩) n n),Is (.slice (some ⟨BV,0,none⟩) n n),NT .i64 i] [iC B 25 60 5 vs vs (cL bA G),bI 25 1 (.slice (some ⟨BV,0,none⟩) n n) (V.map cE)] (Unit) (fun _=>NlT 5 ((vT G V n i).map bA)) (fun _=>[iC B 25 60 5 vs vs (cL bA G),bI 25 1 (.slice (some ⟨BV,0,none⟩) n n) (V.map cE)]) (fun _=>True):=by
 have hGl:=hG.1
 have hvl:=hvs.len
 haveI h0:=lZ
 have hVl:=hV.1
 refine iI.intro Tryz.func196 rfl Tryz.ntmps196 rfl (fun cx Z=>?_)
 haveI g0:aD (gm G i i) L:=hfG.get hL i i
 refine ts (ro rfl (cQ cV) (eJ (cK (ts (rm rfl (rm rfl (ro rfl (gX U_26 Z_25 (Ht rfl) (Ht rfl) rfl zo (by rw [Nat.mul_one,Nat.zero_add])) ?_)))))))
 refine ro rfl (dD A_25 Z_25 (Ht rfl) (j:=1) rfl zo) (rm rfl (ro rfl (dN U_25 Z_60 (Ht rfl) (Ht rfl) rfl (j:=1) rfl zo zo (by rw [hG.row zo]; omega)) ?_))
 refine ro rfl (gF A_60 Z_60 (Ht rfl) (j:=1) rfl zo zo (by rw [hG.row zo]; omega)) ?_
 refine ro rfl (cZ K_82 (rI (x:=gm G i i) (L:=L) zo) ⟨(Ht rfl),trivial⟩) (eJ (dQ (Ht rfl) (fun h0=>?_) (fun h0=>?_)))
 ·have hne : ¬ gm G i i = Qi.zero := by simpa using h0
  have hz:vT G V n i = []:=by rw [vT,if_neg (show ¬ gm G i i = 0 from hne)]
  refine ts (ro rfl (cQ cV) (eJ ?_))
  exact kG () trivial [0,1,2] ⟨⟨_,rfl,fun _ _ _ h=>h⟩,⟨_,rfl,fun _ _ _ h=>h⟩,⟨_,rfl,fun _ _ _ h=>h⟩,trivial⟩ (by decide) (vG rfl (fJ (fQ rfl) (fun v V h=>by rw [hz]; exact .inl ⟨rfl,h⟩)))
 ·have hze0 : gm G i i = Qi.zero := by simpa using h0
  have hze:gm G i i = 0:=hze0
  refine cU (cK (ts (rm rfl (ro rfl (dW (Ht rfl) (cJ 1) z6) (ra rfl (eJ (eU ?_)))))))
  refine bF (fun (k : Nat) => (i + 1 ≤ k ∧ k ≤ n) ∧ ∀ j, i + 1 ≤ j → j < k → gm G i j = Qi.zero) (fun (k : Nat) => n - k) (fun (k : Nat) => [(0, Is (.slice (some ⟨B, 0, none⟩) n n)), (1, Is (.slice (some ⟨BV, 0, none⟩) n n)), (2, NT .i64 i), (7, NT .i64 k)]) (fun (k : Nat) => [Z, iC B 25 60 5 vs vs (cL bA G), bI 25 1 (.slice (some ⟨BV, 0, none⟩) n n) (V.map cE)]) (i + 1) ⟨⟨Nat.le_refl _, hi⟩, fun j h1 h2 => by omega⟩
   (zS rfl) (cI.refl _) (fun k ⟨⟨hk1,hk2⟩,hz0⟩=>?_)
  refine cK (ts (rm rfl (rm rfl (ro rfl (fT U_26 (Ht rfl)) (ro rfl (gJ (Ht rfl) (Ht rfl)) (eJ (dQ (Ht rfl) (fun hc=>?_) (fun hc=>?_))))))))
  ·have hkn : k < n := by simp only [decide_eq_true_eq] at hc; omega
   haveI g1:aD (gm G i k) L:=hfG.get hL i k
   haveI g2:aD (gm G k k) L:=hfG.get hL k k
   have hri:=hG.row hi
   have hrk:=hG.row hkn
   refine cU (cK (eU (cK (ts (rm rfl (rm rfl (ro rfl (gX U_26 Z_25 (Ht rfl) (Ht rfl) rfl zo (by rw [Nat.mul_one,Nat.zero_add])) ?_)))))))
   refine ro rfl (dD A_25 Z_25 (Ht rfl) (j:=1) rfl zo) (rm rfl (ro rfl (dN U_25 Z_60 (Ht rfl) (Ht rfl) rfl (j:=1) rfl zo zo zo) (ro rfl (gF A_60 Z_60 (Ht rfl) (j:=1) rfl zo zo zo) (ro rfl (cZ K_82 (rI (x:=gm G i k) (L:=L) zo) ⟨(Ht rfl),trivial⟩) (ro rfl (dT (Ht rfl)) (eJ (dQ (Ht rfl) (fun hd=>?_) (fun hd=>?_))))))))
   ·have hik : gm G i k = Qi.zero := by simpa using hd
    refine gG rfl (cY (rm rfl (ro rfl (dW (Ht rfl) (cJ 1) z6) (ra rfl (eJ ?_)))))
    refine gQ (k + 1) ⟨⟨by omega, hkn⟩, fun j h1 h2 => by
      by_cases e:j = k
      ·rw [e]; exact hik
      ·exact hz0 j h1 zo⟩ zo (zS rfl) (cI.refl _)
   ·have hik : ¬ gm G i k = Qi.zero := by simpa using hd
    have hK:Nf G n i = k:=Di hk1 zo (fun j h1 h2=>by rw [show decide (gm G i j = 0) = true from decide_eq_true (hz0 j h1 h2)]; rfl) (fun _=>by rw [show decide (gm G i k = 0) = false from decide_eq_false hik]; rfl)
    have hw:vT G V n i = Uk G V i k:=by rw [vT,if_pos hze,hK,if_pos hkn]
    refine cU (ts (rm rfl (rm rfl (ro rfl (gX U_26 Z_25 (Ht rfl) (Ht rfl) rfl zo (by rw [Nat.mul_one,Nat.zero_add])) ?_))))
    refine ro rfl (dD A_25 Z_25 (Ht rfl) (j:=1) rfl zo) (rm rfl (ro rfl (dN U_25 Z_60 (Ht rfl) (Ht rfl) rfl (j:=1) rfl zo zo zo) (ro rfl (gF A_60 Z_60 (Ht rfl) (j:=1) rfl zo zo zo) (rn rfl (eK (Ts:=[Is (.bool false),Is (.slice none 0 0),Is (.bool false),Is (.slice none 0 0),Is (.slice none 0 0)]) O_60 rfl (fun V=>aW zd (aW zd (aW zd (aW zd (aW zd (aG))))))) fun B8=>?_))))
    refine gZ Z_60 (Ht rfl) (Ht rfl) rfl (i:=3) rfl (aK rfl) rfl rfl (eJ (cK (iB (fun (x:Qi)=>x = Hw (gm G k k)) (fun (x:Qi)=>[(0,Is (.slice (some ⟨B,0,none⟩) n n)),(1,Is (.slice (some ⟨BV,0,none⟩) n n)),(2,NT .i64 i),(7,NT .i64 k),(8,cC B8 0)]) (fun (x:Qi)=>[Z,iC B 25 60 5 vs vs (cL bA G),bI 25 1 (.slice (some ⟨BV,0,none⟩) n n) (V.map cE),box B8 60 [aC (decide (x.a < 0)),aE x.a.natAbs,aC (decide (x.b < 0)),aE x.b.natAbs,aE (du x)]]) ?_ (fun x hx=>?_))))
    ·refine ts (ro rfl (eG A_60 Z_60 (Ht rfl) (i := 3) rfl rfl rfl) (ro rfl (aI.imp (rH ) nF) (ro rfl (cZ Tryz.call51 (Ko (x := gm G k k) (y := Qi.zero) (L := L) (M := 1) (hy := aD.zero (Nat.le_refl 1)) zo) ⟨(Ht rfl), (Ht rfl), trivial⟩) (ro rfl (lT (Ht rfl) cV) (eJ (dQ (Ht rfl) (fun hn2 => ?_) (fun hn2 => ?_)))))))
     ·refine cY (ro rfl (eG A_60 Z_60 (Ht rfl) (i:=3) rfl rfl rfl) (ro rfl (cZ Tryz.call168 Kp ⟨(Ht rfl),trivial⟩) (gZ Z_60 (Ht rfl) (Ht rfl) rfl (i:=3) rfl (aK rfl) rfl rfl (eJ (aL (-(gm G k k)) (by rw [Hw,Ax,if_pos hn2]) (zS rfl) (cI.refl _))))))
     ·refine cU (aL (gm G k k) (by rw [Hw,Ax,hn2]; rfl) (zS rfl) (cI.refl _))
    ·haveI g3 : aD x L := by
      rw [hx]; unfold Hw; split
      ·exact fitNeg
      ·exact g2
     haveI g4:aD (gm G i k).norm (L + L + 1):=fitNorm
     have hnz:(gm G i k).norm + (gm G i k).norm ≠ 0:=zM hik
     haveI g5:aD ((gm G i k).norm + (gm G i k).norm) (L + L + 1 + (L + L + 1) + 1):=fitAdd (L:=L + L + 1) (M:=L + L + 1)
     haveI g6:aD (x + Qi.ofInt 1) (L + 1 + 1):=fitAdd (L:=L) (M:=1)
     haveI g7:aD (rO G i k) (L + 1 + 1 + 3 * (L + L + 1 + (L + L + 1) + 1) + 2):=by rw [rO,← hx]; exact kD g6 g5 hnz
     refine cK (Y.D_start (m:=26) [] (bY (Ei:=[(8,_)]) rfl rfl (bQ (bJ rfl rfl) bX) rfl rfl (dX rfl (eG A_60 Z_60 (Ht rfl) (i:=3) rfl rfl rfl)) (bY (Ei:=[]) rfl rfl bX rfl rfl (dX rfl (cZ K_52 (vR (n:=1) (by decide) (by decide)) ⟨(cJ 1),trivial⟩)) (bY (Ei:=[(50,_),(51,_)]) rfl rfl (bQ (bZ 0 rfl rfl) (bQ (bZ 1 rfl rfl) bX)) rfl rfl (dX rfl (cZ K_71 (vP (x:=x) (y:=Qi.ofInt 1) (L:=L) (M:=1) zo) ⟨(Ht rfl),(Ht rfl),trivial⟩)) ?_))))
     refine bY (Ei:=[(0,_)]) rfl rfl (bQ (bJ rfl rfl) bX) rfl rfl (dX rfl (cX (Ht rfl))) (bY (Ei:=[(2,_)]) rfl rfl (bQ (bJ rfl rfl) bX) rfl rfl (dX rfl (cX (Ht rfl))) (bY (Ei:=[(53,_),(54,_)]) rfl rfl (bQ (bZ 3 rfl rfl) (bQ (bZ 4 rfl rfl) bX)) rfl rfl (dX rfl (gX U_26 Z_25 (Ht rfl) (Ht rfl) rfl zo (by rw [Nat.mul_one,Nat.zero_add]))) ?_))
     refine bY (Ei:=[(55,_)]) rfl rfl (bQ (bZ 5 rfl rfl) bX) rfl rfl (dX rfl (dD A_25 Z_25 (Ht rfl) (j:=1) rfl zo)) (bY (Ei:=[(7,_)]) rfl rfl (bQ (bJ rfl rfl) bX) rfl rfl (dX rfl (cX (Ht rfl))) (bY (Ei:=[(56,_),(57,_)]) rfl rfl (bQ (bZ 6 rfl rfl) (bQ (bZ 7 rfl rfl) bX)) rfl rfl (dX rfl (dN U_25 Z_60 (Ht rfl) (Ht rfl) rfl (j:=1) rfl zo zo zo)) (bY (Ei:=[(58,_)]) rfl rfl (bQ (bZ 8 rfl rfl) bX) rfl rfl (dX rfl (gF A_60 Z_60 (Ht rfl) (j:=1) rfl zo zo zo)) ?_)))
     refine bY (Ei:=[(59,_)]) rfl rfl (bQ (bZ 9 rfl rfl) bX) rfl rfl (dX rfl (cZ Tryz.call50 (Cm (x:=gm G i k) (L:=L) zo) ⟨(Ht rfl),trivial⟩)) (bY (Ei:=[(0,_)]) rfl rfl (bQ (bJ rfl rfl) bX) rfl rfl (dX rfl (cX (Ht rfl))) (bY (Ei:=[(2,_)]) rfl rfl (bQ (bJ rfl rfl) bX) rfl rfl (dX rfl (cX (Ht rfl))) (bY (Ei:=[(61,_),(62,_)]) rfl rfl (bQ (bZ 11 rfl rfl) (bQ (bZ 12 rfl rfl) bX)) rfl rfl (dX rfl (gX U_26 Z_25 (Ht rfl) (Ht rfl) rfl zo (by rw [Nat.mul_one,Nat.zero_add]))) ?_)))
     refine bY (Ei:=[(63,_)]) rfl rfl (bQ (bZ 13 rfl rfl) bX) rfl rfl (dX rfl (dD A_25 Z_25 (Ht rfl) (j:=1) rfl zo)) (bY (Ei:=[(7,_)]) rfl rfl (bQ (bJ rfl rfl) bX) rfl rfl (dX rfl (cX (Ht rfl))) (bY (Ei:=[(64,_),(65,_)]) rfl rfl (bQ (bZ 14 rfl rfl) (bQ (bZ 15 rfl rfl) bX)) rfl rfl (dX rfl (dN U_25 Z_60 (Ht rfl) (Ht rfl) rfl (j:=1) rfl zo zo zo)) (bY (Ei:=[(66,_)]) rfl rfl (bQ (bZ 16 rfl rfl) bX) rfl rfl (dX rfl (gF A_60 Z_60 (Ht rfl) (j:=1) rfl zo zo zo)) ?_)))
     refine bY (Ei:=[(67,_)]) rfl rfl (bQ (bZ 17 rfl rfl) bX) rfl rfl (dX rfl (cZ Tryz.call50 (Cm (x:=gm G i k) (L:=L) zo) ⟨(Ht rfl),trivial⟩)) (bY (Ei:=[(60,_),(68,_)]) rfl rfl (bQ (bZ 10 rfl rfl) (bQ (bZ 18 rfl rfl) bX)) rfl rfl (dX rfl (cZ K_71 (vP (x:=(gm G i k).norm) (y:=(gm G i k).norm) (L:=L + L + 1) (M:=L + L + 1) zo) ⟨(Ht rfl),(Ht rfl),trivial⟩)) (bY (Ei:=[(52,_),(69,_)]) rfl rfl (bQ (bZ 2 rfl rfl) (bQ (bZ 19 rfl rfl) bX)) rfl rfl (dX rfl (cZ K_64 (eZ (vQ (x:=x + Qi.ofInt 1) (y:=(gm G i k).norm + (gm G i k).norm) (L:=L + 1 + 1) (M:=L + L + 1 + (L + L + 1) + 1) zo) (by rw [hx]; exact fun _ _ k=>k)) ⟨(Ht rfl),(Ht rfl),trivial⟩)) ?_))
     refine bY (Ei:=[(70,_)]) rfl rfl (bQ (bZ 20 rfl rfl) bX) rfl rfl (dX rfl (cX (Ht rfl))) (bY (Ei:=[(49,_)]) rfl rfl (bQ (bZ 21 rfl rfl) bX) rfl rfl (dX rfl (dY (Ht rfl) rfl)) (bY (Ei:=[(49,_)]) rfl rfl (bQ (bZ 21 rfl rfl) bX) rfl rfl (dX rfl (dY (Ht rfl) rfl)) (Y.D_newp (Ei:=[]) (fun bb=>box bb 60 [aC (decide ((rO G i k).a < 0)),aE (rO G i k).a.natAbs,aC (decide ((rO G i k).b < 0)),aE (rO G i k).b.natAbs,aE (du (rO G i k))]) 25 rfl rfl rfl bX rfl rfl (by kernel_rfl) (eK (Ts:=[Is (.bool false),Is (.slice none 0 0),Is (.bool false),Is (.slice none 0 0),Is (.slice none 0 0)]) O_60 rfl (fun V=>aW zd (aW zd (aW zd (aW zd (aW zd (aG))))))) ?_)))
     refine Y.D_putN (Ei:=[(71,_)]) 24 rfl rfl rfl rfl rfl rfl (bQ (bZ 22 rfl rfl) bX) (fun bb=>mY Z_60 (Ht rfl) (Ht rfl) rfl (i:=0) rfl (aK rfl) rfl rfl) (Y.D_done aO rfl (by kernel_rfl) rfl (by simp [Y.okP]) rfl rfl (bU (bU (bU (bU (bU (bU (bU (bU (bU (bU (bU (bU (bU (bU (bU (bU (bU (bU (bU (bU (bU (bU (bU (bU (Y.F_newp (fun B9=>Y.F_putN (Y.F_nil ?_))))))))))))))))))))))))))))
     refine ra rfl (eJ (cK ?_))
     haveI g8:aD (-(rO G i k)) (L + 1 + 1 + 3 * (L + L + 1 + (L + L + 1) + 1) + 2):=fitNeg
     haveI g9:aD (-(rO G i k) * gm G i k) (L + 1 + 1 + 3 * (L + L + 1 + (L + L + 1) + 1) + 2 + L + 1):=fitMul
     refine fV (m:=18) (dp 1 rfl (cX (Ht rfl)) (dp 7 rfl (cX (Ht rfl)) (bR 73 0 74 1 rfl (cP U_26 Z_25 (Ht rfl) (Ht rfl) rfl (i:=2) rfl (by rw [List.length_map]; omega) rfl) ?_)))
     refine dq 75 2 rfl (lS A_25 Z_25 (Ht rfl) (i:=2) rfl rfl (eX (eQ (d:=[]) zo))) (dp 9 rfl (eG A_60 Z_60 (Ht rfl) (i:=4) rfl rfl rfl) (dq 77 4 rfl (cZ Tryz.call168 Kp ⟨(Ht rfl),trivial⟩) (dp 0 rfl (cX (Ht rfl)) (dp 2 rfl (cX (Ht rfl)) (bR 79 6 80 7 rfl (gX U_26 Z_25 (Ht rfl) (Ht rfl) rfl zo (by rw [Nat.mul_one,Nat.zero_add])) ?_)))))
     refine dq 81 8 rfl (dD A_25 Z_25 (Ht rfl) (j:=1) rfl zo) (dp 7 rfl (cX (Ht rfl)) (bR 82 9 83 10 rfl (dN U_25 Z_60 (Ht rfl) (Ht rfl) rfl (j:=1) rfl zo zo zo) (dq 84 11 rfl (gF A_60 Z_60 (Ht rfl) (j:=1) rfl zo zo zo) (bR 78 5 85 12 rfl (cZ K_70 (nA (x:=-(rO G i k)) (y:=gm G i k) (L:=L + 1 + 1 + 3 * (L + L + 1 + (L + L + 1) + 1) + 2) (M:=L) zo) ⟨(Ht rfl),(Ht rfl),trivial⟩) (dp 1 rfl (cX (Ht rfl)) (dp 2 rfl (cX (Ht rfl)) ?_))))))
     refine bR 87 14 88 15 rfl (cP U_26 Z_25 (Ht rfl) (Ht rfl) rfl (i:=2) rfl (by rw [List.length_map]; omega) rfl) ?_
     refine dq 89 16 rfl (lS A_25 Z_25 (Ht rfl) (i:=2) rfl rfl (eX (eQ (d:=[]) zo))) (fG aO rfl (by kernel_rfl) (zF (zF (zF (zF (aJ (aJ (aV (ro rfl (cZ Tryz.call197 (Kv (x:=V.getD k []) (f:=-(rO G i k) * gm G i k) (y:=V.getD i []) (n:=n) (L:=M) (N:=M) (hfV.row k) g9 (hfV.row i) hM hM zo (hV.row hkn) (hV.row hi) zo) ⟨(Ht rfl),(Ht rfl),(Ht rfl),trivial⟩) ?_)))))))))
     refine ra rfl (eJ ?_)
     exact kG () trivial [0,1,2] ⟨⟨_,rfl,fun _ _ _ h=>h⟩,⟨_,rfl,fun _ _ _ h=>h⟩,⟨_,rfl,fun _ _ _ h=>h⟩,trivial⟩ (by decide) (vG rfl (fJ (fQ rfl) (fun v V h=>by rw [hw]; exact .inr ⟨a0D (by rw [hV.row hkn]; omega),h⟩)))
  ·have hkn : k = n := by simp only [decide_eq_false_iff_not] at hc; omega
   have hK:Nf G n i = n:=Di zo zo (fun j h1 h2=>by rw [show decide (gm G i j = 0) = true from decide_eq_true (hz0 j h1 zo)]; rfl) (fun h=>by omega)
   have hw:vT G V n i = []:=by rw [vT,if_pos hze,hK,if_neg zo]
   refine gG rfl (ts (ro rfl (cQ cV) (eJ ?_)))
   exact kG () trivial [0,1,2] ⟨⟨_,rfl,fun _ _ _ h=>h⟩,⟨_,rfl,fun _ _ _ h=>h⟩,⟨_,rfl,fun _ _ _ h=>h⟩,trivial⟩ (by decide) (vG rfl (fJ (fQ rfl) (fun v V h=>by rw [hw]; exact .inl ⟨rfl,h⟩)))
end
section
open Go Go.RowKit
theorem Ii {h:List (List Qi)} {n L G0 V0:Nat} (hs:eR h n n) (hf:bP h L) (hL:1 ≤ L) (hLb:L ≤ 4000000000000) (hz:jE h n = true → Ur h n G0 V0) (hn:n ≤ 32):aP Tryz.prog 98 [fB h] (fR [aC (uK h n),cE (Jc h n),aN .i64 (Ul h n)]):=by
 have hsl:=hs.1
 haveI h0:=lZ
 refine aP.intro Tryz.func98 rfl Tryz.ntmps98 rfl (fun cx=>(ts (ro rfl (cQ cV) (ro rfl (cQ cV) (ro rfl (cQ (cJ 0)) (eJ (cK (ts (rm rfl (ro rfl (cZ Tryz.call172 (Bi hs hn) ⟨(Ht rfl),trivial⟩) (ro rfl (dT (Ht rfl)) (eJ (gS (Ht rfl) (by rfl) ?_)))))))))))))
 refine cU (cK (ts (rm rfl (ro rfl (dU U_26 (Ht rfl) (by rw [List.length_map,hsl])) ?_))))
 refine ro rfl (cX (cJ 0)) (eJ (eU ?_))
 refine bF (fun (i : Nat) => i ≤ n ∧ ∀ a, a < i → ∀ b, b < n → gm h a b = (gm h b a).conj) (fun (i : Nat) => n - i) (fun (i : Nat) => [(0, fB h), (19, fB h), (20, NT .i64 n), (21, NT .i64 i)]) (fun (i : Nat) => []) 0 ⟨Nat.zero_le _, fun a h => by omega⟩
  (zS rfl) aY (fun i ⟨hi,hh⟩=>?_)
 refine ts (ro rfl (gJ (Ht rfl) (Ht rfl)) (eJ (cK (dQ (Ht rfl) (fun hc=>?_) (fun hc=>?_)))))
 ·have hin : i < n := by simp only [decide_eq_true_eq] at hc; omega
  have hri:=hs.row hin
  refine cU (cK (eU (ts (rm rfl (ro rfl (dZ U_26 Z_25 (Ht rfl) (Ht rfl) rfl (eX (eQ (d:=[]) zo))) (ro rfl (dJ A_25 Z_25 (Ht rfl)) (ra rfl (ra rfl (eJ (ts (rm rfl (ro rfl (dU U_25 (Ht rfl) (by rw [List.length_map,hri])) ?_))))))))))))
  refine ro rfl (cX (cJ 0)) (eJ (eU ?_))
  refine bF (fun (k : Nat) => k ≤ n ∧ ∀ b, b < k → gm h i b = (gm h b i).conj) (fun (k : Nat) => n - k) (fun (k : Nat) => [(0, fB h), (5, NT .i64 i), (6, cE (h.getD i [])), (19, fB h), (20, NT .i64 n), (21, NT .i64 i), (27, NT .i64 n), (28, NT .i64 k)]) (fun (k : Nat) => []) 0 ⟨Nat.zero_le _, fun b h => by omega⟩
   (zS rfl) aY (fun k ⟨hk,hk0⟩=>?_)
  refine ts (ro rfl (gJ (Ht rfl) (Ht rfl)) (eJ (cK (dQ (Ht rfl) (fun hd=>?_) (fun hd=>?_)))))
  ·have hkn : k < n := by simp only [decide_eq_true_eq] at hd; omega
   have hrk:=hs.row hkn
   haveI f1:aD (gm h i k) L:=hf.get hL i k
   haveI f2:aD (gm h k i) L:=hf.get hL k i
   haveI f3:aD (gm h k i).conj L:=fitConj
   refine cU (cK (eU (ts (rm rfl (ra rfl (eJ (cK (fV (m:=12) (dp 6 rfl (cX (Ht rfl)) (dp 7 rfl (cX (Ht rfl)) (bR 31 0 32 1 rfl (dZ U_25 Z_60 (Ht rfl) (Ht rfl) rfl (eX (eQ (d:=Qi.zero) zo))) (dq 33 2 rfl (dJ A_60 Z_60 (Ht rfl)) (dp 0 rfl (cX (Ht rfl)) (dp 7 rfl (cX (Ht rfl)) (bR 35 4 36 5 rfl (dZ U_26 Z_25 (Ht rfl) (Ht rfl) rfl (eX (eQ (d:=[]) zo))) (dq 37 6 rfl (dJ A_25 Z_25 (Ht rfl)) (dp 5 rfl (cX (Ht rfl)) ?_)))))))))))))))))
   refine bR 38 7 39 8 rfl (dZ U_25 Z_60 (Ht rfl) (Ht rfl) rfl (eX (eQ (d:=Qi.zero) zo))) (dq 40 9 rfl (dJ A_60 Z_60 (Ht rfl)) (dq 41 10 rfl (cZ Tryz.call173 Pu ⟨(Ht rfl),trivial⟩) (fG aO rfl (by kernel_rfl) (zF (zF (zF (aV (ro rfl (cZ Tryz.call100 (Px (x:=gm h i k) (y:=(gm h k i).conj) (L:=L) (M:=L) zo zo) ⟨(Ht rfl),(Ht rfl),trivial⟩) (ro rfl (dT (Ht rfl)) ?_)))))))))
   refine eJ (dQ (Ht rfl) (fun he=>?_) (fun he=>?_))
   ·have hne : ¬ gm h i k = (gm h k i).conj := by simpa using he
    have hf0:¬ jE h n = true:=fun e=>hne (of_decide_eq_true e i hin k hkn)
    refine ts (ro rfl (cQ cV) (ro rfl (cQ cV) (ro rfl (cQ (cJ 1)) (eJ (yH rfl (fJ (fQ rfl) ?_) (fJ (fQ rfl) ?_) (fJ (fQ rfl) ?_))))))
    ·exact (bN (by rw [uK,if_neg hf0]))
    ·exact (fun v V k=>by rw [Jc,if_neg hf0]; exact iZ v V k)
    ·exact (aS (by rw [Ul,if_neg hf0]; rfl))
   ·have heq : gm h i k = (gm h k i).conj := by simpa using he
    refine cU (bC (cY (ro rfl (dW (Ht rfl) (cJ 1) z6) (rm rfl (eJ ?_)))))
    refine gQ (k + 1) ⟨hkn, fun b h1 => by
      by_cases e:b = k
      ·rw [e]; exact heq
      ·exact hk0 b zo⟩ zo (zS rfl) aY
  ·have hkn : k = n := by simp only [decide_eq_false_iff_not] at hd; omega
   refine gG rfl (bC (cY (ro rfl (dW (Ht rfl) (cJ 1) z6) (rm rfl (eJ ?_)))))
   refine gQ (i + 1) ⟨hin, fun a h1 b h2 => by
     by_cases e:a = i
     ·rw [e]; exact hk0 b zo
     ·exact hh a zo b h2⟩ zo (zS rfl) aY
 ·have hin : i = n := by simp only [decide_eq_false_iff_not] at hc; omega
  have hh0:jE h n = true:=decide_eq_true (fun a h1 b h2=>hh a zo b h2)
  have hz:=hz hh0
  have hg1:=hz.g1
  have hv1:=hz.v1
  have hzb:=hz.b
  clear hin hi hh hc
  refine gG rfl (ts (rm rfl (lY Tryz.call195 (Bc hs zo zo) ⟨(Ht rfl),cV,trivial⟩ rfl (fun B48 _=>(rm rfl (ro rfl (dU U_26 (Ht rfl) (by rw [List.length_map,hsl])) ?_))))))
  refine lY Tryz.call144 (Zo (n:=n) hn) ⟨(Ht rfl),trivial⟩ rfl (fun B51 _=>(ra rfl (ra rfl (eJ (cK (ts (rm rfl (ro rfl (fT U_26 (Ht rfl)) (ro rfl (cX (cJ 0)) (eJ (eU (Ie 1 (m:=n) (Us:=(yZ n).map cE) rfl (Nat.le_trans hn (by decide)) (by rw [cL,List.length_map,(pK n).1]) (by rw [cL,List.map_map]; rfl) ?_))))))))))))
  refine wZ 0 rfl (fun vs hvs=>?_)
  have hvs2:Pc vs n:=by have h:=hvs; rw [cL,List.length_map,hsl] at h; exact h
  refine bF (fun (i : Nat) => i ≤ n ∧ uL h n (n - i) i = uL h n n 0) (fun (i : Nat) => n - i) (fun (i : Nat) => [(8, Is (.slice (some ⟨B48, 0, none⟩) n n)), (9, Is (.slice (some ⟨B51, 0, none⟩) n n)), (53, NT .i64 n), (54, NT .i64 i)]) (fun (i : Nat) => [iC B48 25 60 5 vs vs (cL bA (gK h n i).1), bI 25 1 (.slice (some ⟨B51, 0, none⟩) n n) ((gK h n i).2.map cE)]) 0 ⟨Nat.zero_le _, rfl⟩
   (zS rfl) (cI.refl _) (fun i ⟨hi,hR⟩=>?_)
  refine ts (ro rfl (gJ (Ht rfl) (Ht rfl)) (eJ (cK (dQ (Ht rfl) (fun hc=>?_) (fun hc=>?_)))))
  ·have hin : i < n := by simp only [decide_eq_true_eq] at hc; omega
   have hvl:=hvs2.len
   obtain ⟨hGs,hVs⟩:=rR hs i hi
   have hGf:=hz.g i hi
   have hVf:=hz.v i hi
   have r1:=Ld (h:=h) hin
   have r2:=Lb (h:=h) hin
   have r3:=Qs (h:=h) hin
   have r4:=qG (h:=h) (n:=n) (i:=i)
   have r5:=yS (h:=h) (n:=n) (i:=i)
   rw [hR] at r1 r2 r3
   obtain ⟨S,hS⟩:∃ S,S = gK h n (i + 1):=⟨_,rfl⟩
   rw [← hS] at r4 r5
   obtain ⟨D,hD⟩:∃ D,D = gK h n i:=⟨_,rfl⟩
   rw [← hD] at hGs hVs hGf hVf r1 r2 r3 r4 r5 ⊢
   obtain ⟨X,U⟩:=D
   dsimp only at hGs hVs hGf hVf r1 r2 r3 r4 r5 ⊢
   have hXl:=hGs.1
   have hUl:=hVs.1
   have hri:=hGs.row hin
   haveI g1:aD (gm X i i) G0:=hGf.get hg1 i i
   refine cU (cK (eU (ts (rm rfl (ra rfl (eJ (cK (ts (rm rfl (rm rfl (ro rfl (gX U_26 Z_25 (Ht rfl) (Ht rfl) rfl zo (by rw [Nat.mul_one,Nat.zero_add])) ?_)))))))))))
   refine ro rfl (dD A_25 Z_25 (Ht rfl) (j:=0) rfl zo) (rm rfl (ro rfl (dN U_25 Z_60 (Ht rfl) (Ht rfl) rfl (j:=0) rfl zo zo zo) (ro rfl (gF A_60 Z_60 (Ht rfl) (j:=0) rfl zo zo zo) (ro rfl (aI.imp (rH ) nF) (ro rfl (cZ Tryz.call51 (Ko (x:=gm X i i) (y:=Qi.zero) (L:=G0) (M:=1) (hy:=aD.zero (Nat.le_refl 1)) zo) ⟨(Ht rfl),(Ht rfl),trivial⟩) (ro rfl (lT (Ht rfl) cV) (eJ (dQ (Ht rfl) (fun hng=>?_) (fun hng=>?_)))))))))
   ·have hq := r1 hng
    refine cK (fV (m:=5) (dp 9 rfl (cX (Ht rfl)) (dp 10 rfl (cX (Ht rfl)) (bR 67 0 68 1 rfl (cP U_26 Z_25 (Ht rfl) (Ht rfl) rfl (i:=1) rfl (by rw [List.length_map]; omega) rfl) ?_))))
    refine dq 69 2 rfl (lS A_25 Z_25 (Ht rfl) (i:=1) rfl rfl (eX (eQ (d:=[]) zo))) (d0 rfl (cQ cV) (fG aO rfl (by kernel_rfl) (zF (aJ (aV (ra rfl (ro rfl (cQ (cJ 0)) (eJ (yH rfl (fJ (fQ rfl) ?_) (fJ (fQ rfl) ?_) (fJ (fQ rfl) ?_))))))))))
    ·exact (bN (by rw [uK,if_pos hh0,hq]))
    ·exact (jC (by rw [Jc,if_pos hh0,hq]))
    ·exact (aS (by rw [Ul,if_pos hh0]; rfl))
   ·have hng2 : Ax (gm X i i) ≠ true := by rw [Ax, hng]; simp
    refine cU (cK (ts (rm rfl (rm rfl (rm rfl (Uq Tryz.call196 (Iq (i:=i) (L:=G0) (M:=V0) hGs hVs hvs2 hGf hVf hg1 hv1 zo hin hn) (i:=0) (j:=1) rfl rfl (by decide) ⟨(Ht rfl),(Ht rfl),(Ht rfl),trivial⟩ rfl (fun uu _=>(ra rfl (eJ (ts (rm rfl (ro rfl (Oc (q:=decide (vT X U n i ≠ [])) (by simp) U_25 (Ht rfl)) ?_))))))))))))
    refine eJ (dQ (Ht rfl) (fun hw=>?_) (fun hw=>?_))
    ·have hw2 : vT X U n i ≠ [] := by simpa using hw
     have hq:=r2 hng2 hw2
     refine ts (rm rfl (ro rfl (cQ cV) (ra rfl (ro rfl (cQ (cJ 0)) (eJ (yH rfl (fJ (fQ rfl) ?_) (fJ (fQ rfl) ?_) (fJ (fQ rfl) ?_)))))))
     ·exact (bN (by rw [uK,if_pos hh0,hq]))
     ·exact (fun v V k=>by rw [Jc,if_pos hh0,hq]; exact k.elim (fun k=>absurd k.1 (by simpa using hw2)) (fun k=>k.2))
     ·exact (aS (by rw [Ul,if_pos hh0]; rfl))
    ·have hw2 : vT X U n i = [] := by simpa using hw
     have hq:=r3 hng2 hw2
     refine cU (cK (ts (rm rfl (rm rfl (ro rfl (gX U_26 Z_25 (Ht rfl) (Ht rfl) rfl zo (by rw [Nat.mul_one,Nat.zero_add])) ?_)))))
     refine ro rfl (dD A_25 Z_25 (Ht rfl) (j:=0) rfl zo) (rm rfl (ro rfl (dN U_25 Z_60 (Ht rfl) (Ht rfl) rfl (j:=0) rfl zo zo zo) (ro rfl (gF A_60 Z_60 (Ht rfl) (j:=0) rfl zo zo zo) (ro rfl (cZ K_82 (rI (x:=gm X i i) (L:=G0) zo) ⟨(Ht rfl),trivial⟩) (ro rfl (dT (Ht rfl)) (eJ (dQ (Ht rfl) (fun hcl=>?_) (fun hcl=>?_))))))))
     ·have hx0 : gm X i i = Qi.zero := by simpa using hcl
      have e4:=r4 hx0
      refine gG rfl (cY (ro rfl (dW (Ht rfl) (cJ 1) z6) (rm rfl (eJ (gQ (i + 1) ⟨hin,hq.symm⟩ zo (zS rfl) (aU (jP (by rw [← hS,e4])) (aU (bL (by rw [← hS,e4])) aY)))))))
     ·have hx0 : ¬ gm X i i = Qi.zero := by simpa using hcl
      have e5:=r5 hx0
      refine cU (ts (rm rfl (ro rfl (dW (Ht rfl) (cJ 1) z6) (ra rfl (eJ (eU ?_))))))
      refine bF (fun (k : Nat) => i + 1 ≤ k ∧ k ≤ n) (fun (k : Nat) => n - k) (fun (k : Nat) => [(8, Is (.slice (some ⟨B48, 0, none⟩) n n)), (9, Is (.slice (some ⟨B51, 0, none⟩) n n)), (10, NT .i64 i), (12, NT .i64 k), (53, NT .i64 n), (54, NT .i64 i)]) (fun (k : Nat) => [iC B48 25 60 5 vs vs (cL bA (uN X n i k 0)), bI 25 1 (.slice (some ⟨B51, 0, none⟩) n n) ((nL X U n i k).map cE)]) (i + 1) ⟨Nat.le_refl _, hin⟩
       (zS rfl) (aU (jP (by rw [Ni hGs])) (aU (bL (by rw [Jb hUl])) aY)) (fun k ⟨hk1,hk2⟩=>?_)
      refine cK (ts (rm rfl (rm rfl (ro rfl (fT U_26 (Ht rfl)) (ro rfl (gJ (Ht rfl) (Ht rfl)) (eJ (dQ (Ht rfl) (fun hd=>?_) (fun hd=>?_))))))))
      ·have hkn : k < n := by simp only [decide_eq_true_eq] at hd; omega
       have hYs:=pC X n i k 0
       obtain ⟨Yk,hY⟩:∃ Yk,Yk = uN X n i k 0:=⟨_,rfl⟩
       have y1:gm Yk i k = gm X i k:=by rw [hY]; exact Dc hin hkn zo
       have y2:gm Yk i i = gm X i i:=by rw [hY]; exact Dc hin hin zo
       rw [← hY] at hYs ⊢
       have hYl:=hYs.1
       have hYi:=hYs.row hin
       haveI g2:aD (gm X i k) G0:=hGf.get hg1 i k
       haveI g3:aD (gm Yk i k) G0:=by rw [y1]; exact g2
       haveI g4:aD (gm Yk i i) G0:=by rw [y2]; exact g1
       have g5:aD (gm X i k / gm X i i) (G0 + 3 * G0 + 2):=kD g2 g1 hx0
       obtain ⟨Q,hQ⟩:∃ Q,Q = nL X U n i k:=⟨_,rfl⟩
       have q1:Q.getD k [] = U.getD k []:=by rw [hQ]; exact Fs hkn zo
       have q2:Q.getD i [] = U.getD i []:=by rw [hQ]; exact Fs hin zo
       have hQl:Q.length = n:=by rw [hQ]; exact aT _ _
       have q3:cD (Q.getD k []) V0:=by rw [q1]; exact hVf.row k
       have q4:cD (Q.getD i []) V0:=by rw [q2]; exact hVf.row i
       have q5:(Q.getD k []).length = n:=by rw [q1]; exact hVs.row hkn
       have q6:(Q.getD i []).length = n:=by rw [q2]; exact hVs.row hin
       rw [← hQ]
       obtain ⟨F,hF⟩:∃ F,F = gm X i k / gm X i i:=⟨_,rfl⟩
       rw [← hF] at g5
       haveI g6:aD F (G0 + 3 * G0 + 2):=g5
       have g7:aD (-F) (G0 + 3 * G0 + 2):=fitNeg
       have hfd:gm Yk i k / gm Yk i i = F:=by rw [y1,y2,hF]
       refine cU (cK (eU (cK (Y.D_start (m:=20) [] (bY (Ei:=[(8,_)]) rfl rfl (bQ (bJ rfl rfl) bX) rfl rfl (dX rfl (cX (Ht rfl))) (bY (Ei:=[(10,_)]) rfl rfl (bQ (bJ rfl rfl) bX) rfl rfl (dX rfl (cX (Ht rfl))) (bY (Ei:=[(96,_),(97,_)]) rfl rfl (bQ (bZ 0 rfl rfl) (bQ (bZ 1 rfl rfl) bX)) rfl rfl (dX rfl (gX U_26 Z_25 (Ht rfl) (Ht rfl) rfl zo (by rw [Nat.mul_one,Nat.zero_add]))) ?_)))))))
       refine bY (Ei:=[(98,_)]) rfl rfl (bQ (bZ 2 rfl rfl) bX) rfl rfl (dX rfl (dD A_25 Z_25 (Ht rfl) (j:=0) rfl zo)) (bY (Ei:=[(12,_)]) rfl rfl (bQ (bJ rfl rfl) bX) rfl rfl (dX rfl (cX (Ht rfl))) (bY (Ei:=[(99,_),(100,_)]) rfl rfl (bQ (bZ 3 rfl rfl) (bQ (bZ 4 rfl rfl) bX)) rfl rfl (dX rfl (dN U_25 Z_60 (Ht rfl) (Ht rfl) rfl (j:=0) rfl zo zo zo)) (bY (Ei:=[(101,_)]) rfl rfl (bQ (bZ 5 rfl rfl) bX) rfl rfl (dX rfl (gF A_60 Z_60 (Ht rfl) (j:=0) rfl zo zo zo)) ?_)))
       refine bY (Ei:=[(8,_)]) rfl rfl (bQ (bJ rfl rfl) bX) rfl rfl (dX rfl (cX (Ht rfl))) (bY (Ei:=[(10,_)]) rfl rfl (bQ (bJ rfl rfl) bX) rfl rfl (dX rfl (cX (Ht rfl))) (bY (Ei:=[(103,_),(104,_)]) rfl rfl (bQ (bZ 7 rfl rfl) (bQ (bZ 8 rfl rfl) bX)) rfl rfl (dX rfl (gX U_26 Z_25 (Ht rfl) (Ht rfl) rfl zo (by rw [Nat.mul_one,Nat.zero_add]))) ?_))
       refine bY (Ei:=[(105,_)]) rfl rfl (bQ (bZ 9 rfl rfl) bX) rfl rfl (dX rfl (dD A_25 Z_25 (Ht rfl) (j:=0) rfl zo)) (bY (Ei:=[(10,_)]) rfl rfl (bQ (bJ rfl rfl) bX) rfl rfl (dX rfl (cX (Ht rfl))) (bY (Ei:=[(106,_),(107,_)]) rfl rfl (bQ (bZ 10 rfl rfl) (bQ (bZ 11 rfl rfl) bX)) rfl rfl (dX rfl (dN U_25 Z_60 (Ht rfl) (Ht rfl) rfl (j:=0) rfl zo zo zo)) (bY (Ei:=[(108,_)]) rfl rfl (bQ (bZ 12 rfl rfl) bX) rfl rfl (dX rfl (gF A_60 Z_60 (Ht rfl) (j:=0) rfl zo zo zo)) ?_)))
       refine bY (Ei:=[(102,_),(109,_)]) rfl rfl (bQ (bZ 6 rfl rfl) (bQ (bZ 13 rfl rfl) bX)) rfl rfl (dX rfl (cZ K_64 (eZ (vQ (x:=gm Yk i k) (y:=gm Yk i i) (L:=G0) (M:=G0) zo) (by rw [hfd]; exact fun _ _ k=>k)) ⟨(Ht rfl),(Ht rfl),trivial⟩)) ?_
       refine bY (Ei:=[(110,_)]) rfl rfl (bQ (bZ 14 rfl rfl) bX) rfl rfl (dX rfl (cX (Ht rfl))) (bY (Ei:=[(95,_)]) rfl rfl (bQ (bZ 15 rfl rfl) bX) rfl rfl (dX rfl (dY (Ht rfl) rfl)) (bY (Ei:=[(95,_)]) rfl rfl (bQ (bZ 15 rfl rfl) bX) rfl rfl (dX rfl (dY (Ht rfl) rfl)) (Y.D_newp (Ei:=[]) (fun bb=>box bb 60 [aC (decide (F.a < 0)),aE F.a.natAbs,aC (decide (F.b < 0)),aE F.b.natAbs,aE (du F)]) 19 rfl rfl rfl bX rfl rfl (by kernel_rfl) (eK (Ts:=[Is (.bool false),Is (.slice none 0 0),Is (.bool false),Is (.slice none 0 0),Is (.slice none 0 0)]) O_60 rfl (fun V=>aW zd (aW zd (aW zd (aW zd (aW zd (aG))))))) ?_)))
       refine Y.D_putN (Ei:=[(111,_)]) 18 rfl rfl rfl rfl rfl rfl (bQ (bZ 16 rfl rfl) bX) (fun bb=>mY Z_60 (Ht rfl) (Ht rfl) rfl (i:=0) rfl (aK rfl) rfl rfl) (Y.D_done aO rfl (by kernel_rfl) rfl (by simp [Y.okP]) rfl rfl (bU (bU (bU (bU (bU (bU (bU (bU (bU (bU (bU (bU (bU (bU (bU (bU (bU (bU (Y.F_newp (fun B13=>Y.F_putN (Y.F_nil ?_))))))))))))))))))))))
       refine ra rfl (eJ (cK (fV (m:=13) (dp 9 rfl (cX (Ht rfl)) (dp 12 rfl (cX (Ht rfl)) (dp 9 rfl (cX (Ht rfl)) (dp 12 rfl (cX (Ht rfl)) (bR 115 2 116 3 rfl (cP U_26 Z_25 (Ht rfl) (Ht rfl) rfl (i:=1) rfl (by rw [List.length_map]; omega) rfl) ?_))))))))
       refine dq 117 4 rfl (lS A_25 Z_25 (Ht rfl) (i:=1) rfl rfl (eX (eQ (d:=[]) zo))) (dp 13 rfl (eG A_60 Z_60 (Ht rfl) (i:=2) rfl rfl rfl) (dq 119 6 rfl (cZ Tryz.call168 Kp ⟨(Ht rfl),trivial⟩) (dp 9 rfl (cX (Ht rfl)) (dp 10 rfl (cX (Ht rfl)) (bR 121 8 122 9 rfl (cP U_26 Z_25 (Ht rfl) (Ht rfl) rfl (i:=1) rfl (by rw [List.length_map]; omega) rfl) ?_)))))
       refine dq 123 10 rfl (lS A_25 Z_25 (Ht rfl) (i:=1) rfl rfl (eX (eQ (d:=[]) zo))) (C.D_step (Ei:=[(118,_),(120,_),(124,_)]) rfl rfl (bV (bG 5 rfl rfl) (bV (bG 7 rfl rfl) (bV (bG 11 rfl rfl) bW))) (dX rfl (cZ Tryz.call197 (Kv (n:=n) (L:=V0) (N:=V0) q3 g7 q4 hv1 hv1 zo q5 q6 zo) ⟨(Ht rfl),(Ht rfl),(Ht rfl),trivial⟩)) (fG aO rfl (by kernel_rfl) (zF (zF (zF (aJ (aV ?_)))))))
       refine ro rfl (cP U_26 Z_25 (Ht rfl) (Ht rfl) rfl (i:=1) rfl (by rw [List.length_map]; omega) rfl) ?_
       refine lE Z_25 (Ht rfl) (Ht rfl) El.one (i:=1) rfl rfl (by rw [List.length_map]; omega) rfl ?_
       refine eJ (ts (rm rfl (ro rfl (dW (Ht rfl) (cJ 1) z6) (ra rfl (eJ (eU ?_))))))
       refine bF (fun (l : Nat) => i + 1 ≤ l ∧ l ≤ n) (fun (l : Nat) => n - l) (fun (l : Nat) => [(8, Is (.slice (some ⟨B48, 0, none⟩) n n)), (9, Is (.slice (some ⟨B51, 0, none⟩) n n)), (10, NT .i64 i), (12, NT .i64 k), (13, cC B13 0), (15, NT .i64 l), (53, NT .i64 n), (54, NT .i64 i)]) (fun (l : Nat) => [iC B48 25 60 5 vs vs (cL bA (uN X n i k l)), bI 25 1 (.slice (some ⟨B51, 0, none⟩) n n) ((nL X U n i (k + 1)).map cE), box B13 60 [aC (decide (F.a < 0)), aE F.a.natAbs, aC (decide (F.b < 0)), aE F.b.natAbs, aE (du F)]]) (i + 1) ⟨Nat.le_refl _, hin⟩
        (zS rfl) (aU (jP (by rw [hY,Wo])) (aU (bL (by rw [← List.map_set,q1,q2,hF,hQ]; exact congrArg _ (Nj hkn zo))) (aU (aB rfl) aY))) (fun l ⟨hl1,hl2⟩=>?_)
       refine cK (ts (rm rfl (rm rfl (ro rfl (fT U_26 (Ht rfl)) (ro rfl (gJ (Ht rfl) (Ht rfl)) (eJ (dQ (Ht rfl) (fun he=>?_) (fun he=>?_))))))))
       ·have hln : l < n := by simp only [decide_eq_true_eq] at he; omega
        have hTs:=pC X n i k l
        have hst:=Qw (G:=X) (n:=n) (i:=i) (k:=k) (l:=l) hln hkn zo zo
        obtain ⟨T,hT⟩:∃ T,T = uN X n i k l:=⟨_,rfl⟩
        have t1:gm T l k = gm X l k:=by rw [hT]; exact Dc hln hkn zo
        have t2:gm T l i = gm X l i:=by rw [hT]; exact Dc hln hin zo
        rw [← hF,← t1,← t2,← hT] at hst
        rw [← hT] at hTs ⊢
        have hTl:=hTs.1
        have hTr:=hTs.row hln
        have hTg:(T.getD l []).length = n:=hTr
        haveI p1:aD (gm T l k) G0:=by rw [t1]; exact hGf.get hg1 l k
        haveI p2:aD (gm T l i) G0:=by rw [t2]; exact hGf.get hg1 l i
        haveI p3:aD (gm T l i * F) (G0 + (G0 + 3 * G0 + 2) + 1):=fitMul
        refine cU (cK (eU (fV (m:=22) (dp 8 rfl (cX (Ht rfl)) (dp 15 rfl (cX (Ht rfl)) (bR 135 0 136 1 rfl (gX U_26 Z_25 (Ht rfl) (Ht rfl) rfl zo (by rw [Nat.mul_one,Nat.zero_add])) ?_))))))
        refine dq 137 2 rfl (dD A_25 Z_25 (Ht rfl) (j:=0) rfl zo) (dp 12 rfl (cX (Ht rfl)) (dp 8 rfl (cX (Ht rfl)) (dp 15 rfl (cX (Ht rfl)) (bR 140 5 141 6 rfl (gX U_26 Z_25 (Ht rfl) (Ht rfl) rfl zo (by rw [Nat.mul_one,Nat.zero_add])) ?_))))
        refine dq 142 7 rfl (dD A_25 Z_25 (Ht rfl) (j:=0) rfl zo) (dp 12 rfl (cX (Ht rfl)) (bR 143 8 144 9 rfl (dN U_25 Z_60 (Ht rfl) (Ht rfl) rfl (j:=0) rfl zo zo zo) (dq 145 10 rfl (gF A_60 Z_60 (Ht rfl) (j:=0) rfl zo zo zo) (dp 8 rfl (cX (Ht rfl)) (dp 15 rfl (cX (Ht rfl)) (bR 147 12 148 13 rfl (gX U_26 Z_25 (Ht rfl) (Ht rfl) rfl zo (by rw [Nat.mul_one,Nat.zero_add])) ?_))))))
        refine dq 149 14 rfl (dD A_25 Z_25 (Ht rfl) (j:=0) rfl zo) (dp 10 rfl (cX (Ht rfl)) (bR 150 15 151 16 rfl (dN U_25 Z_60 (Ht rfl) (Ht rfl) rfl (j:=0) rfl zo zo zo) (dq 152 17 rfl (gF A_60 Z_60 (Ht rfl) (j:=0) rfl zo zo zo) (dp 13 rfl (eG A_60 Z_60 (Ht rfl) (i:=2) rfl rfl rfl) (bR 153 18 154 19 rfl (cZ K_70 (nA (x:=gm T l i) (y:=F) (L:=G0) (M:=G0 + 3 * G0 + 2) zo) ⟨(Ht rfl),(Ht rfl),trivial⟩) ?_)))))
        refine bR 146 11 155 20 rfl (cZ K_69 (yM (x:=gm T l k) (y:=gm T l i * F) (L:=G0) (M:=G0 + (G0 + 3 * G0 + 2) + 1) zo) ⟨(Ht rfl),(Ht rfl),trivial⟩) (fG aO rfl (by kernel_rfl) (zF (zF (zF (zF (zF (aJ (aJ (aV (ro rfl (dN U_25 Z_60 (Ht rfl) (Ht rfl) rfl (j:=0) rfl zo zo zo) (Pf Z_60 (Ht rfl) (Ht rfl) (j:=0) rfl (El.ag rfl) (F:=bA) (z:=gm T l k - gm T l i * F) zo zo zo rfl ?_)))))))))))
        refine eJ (bC (cY (rm rfl (ro rfl (dW (Ht rfl) (cJ 1) z6) (ra rfl (eJ (gQ (l + 1) ⟨by omega,hln⟩ zo (zS rfl) (aU (jP (congrArg _ hst)) (aU (fun _ _ _ h=>h) (aU (aB rfl) aY))))))))))
       ·have hln : l = n := by simp only [decide_eq_false_iff_not] at he; omega
        rw [hln,Wn]
        refine gG rfl (bC (cY (rm rfl (ro rfl (dW (Ht rfl) (cJ 1) z6) (ra rfl (eJ (eB [0,1] rfl (by decide) (gQ (k + 1) ⟨by omega,hkn⟩ zo (zS rfl) (aU (fun _ _ _ h=>h) (aU (fun _ _ _ h=>h) aY))))))))))
      ·have hkn : k = n := by simp only [decide_eq_false_iff_not] at hd; omega
       rw [hkn]
       refine gG rfl (bC (cY (ro rfl (dW (Ht rfl) (cJ 1) z6) (rm rfl (eJ (gQ (i + 1) ⟨hin,hq.symm⟩ zo (zS rfl) (aU (jP (by rw [← hS,e5]; rfl)) (aU (bL (by rw [← hS,e5])) aY))))))))
  ·have hin : i = n := by simp only [decide_eq_false_iff_not] at hc; omega
   have hq:uL h n n 0 = (true,[]):=by rw [← hR,hin,Nat.sub_self]; rfl
   refine gG rfl (ts (ro rfl (cQ cV) (ro rfl (cQ cV) (ro rfl (cQ (cJ 0)) (eJ (yH rfl (fJ (fQ rfl) ?_) (fJ (fQ rfl) ?_) (fJ (fQ rfl) ?_)))))))
   ·exact (bN (by rw [uK,if_pos hh0,hq]))
   ·exact (fun v V k=>by rw [Jc,if_pos hh0,hq]; exact iZ v V k)
   ·exact (aS (by rw [Ul,if_pos hh0]; rfl))
end
section
open Go Go.RowKit
theorem a0S:Tryz.prog.info? 3 = some Tryz.t3:=by kernel_rfl
theorem Zc:Tryz.prog.underlying 103 = some (.slice 3):=by kernel_rfl
end
section
open Go Go.RowKit
theorem Ij {l:List Int} {v:Int} (hl:l.length ≤ 1000000):aP Tryz.prog 230 [jN 1 (l.map (aN .i64)),aN .i64 v] (aN .i64 (Dl (fun x=>decide (v = x)) l)):=by
 refine aP.intro Tryz.func230 rfl Tryz.ntmps230 rfl (fun cx=>(ts (ro rfl (cQ (cJ 0)) (eJ (cK (ts (rm rfl (ro rfl (dU U_103 (Ht rfl) aA) (ro rfl (cX (cJ 0)) (eJ (eU ?_)))))))))))
 refine bF (fun (k : Nat) => k ≤ l.length ∧ ∀ (i : Nat) (x : Int), i < k → l[i]? = some x → decide (v = x) = false) (fun (k : Nat) => l.length - k) (fun (k : Nat) => [(0, jN 1 (l.map (aN .i64))), (1, aN .i64 v), (7, NT .i64 l.length), (8, NT .i64 k)]) (fun (k : Nat) => []) 0 ⟨Nat.zero_le _, fun i x h => by omega⟩
  (zS rfl) aY (fun k ⟨hk,hn⟩=>?_)
 refine ts (ro rfl (gJ (Ht rfl) (Ht rfl)) (eJ (cK (dQ (Ht rfl) (fun hb=>?_) (fun hb=>?_)))))
 ·simp only [decide_eq_true_eq] at hb
  refine cU (cK (eU (ts (rm rfl (ra rfl (eJ (ts (rm rfl (rm rfl (rm rfl (ro rfl (dZ U_103 Z_3 (Ht rfl) (Ht rfl) rfl (eX (pW hb))) (ro rfl (dJ A_3 Z_3 (Ht rfl)) (ro rfl (jB (Ht rfl) (Ht rfl)) (eJ (dQ (Ht rfl) (fun hc=>?_) (fun hc=>?_))))))))))))))))
  ·refine ts (rm rfl (ra rfl (eJ (fK rfl (fJ (fQ rfl) ?_)))))
   exact (aS (Dm (p:=fun x=>decide (v = x)) (pW hb) hc hn).symm)
  ·refine cU (bC (cY (ro rfl (dW (Ht rfl) (cJ 1) z6) (rm rfl (eJ ?_)))))
   refine gQ (k + 1) ⟨hb, fun i x h1 h2 => by
    by_cases e:i = k
    ·subst e; rw [pW hb] at h2; obtain rfl:=Option.some.inj h2; exact hc
    ·exact hn i x zo h2⟩ zo (zS rfl) aY
 ·simp only [decide_eq_false_iff_not] at hb
  refine gG rfl (ts (ro rfl (cQ cV) (eJ (fK rfl (fJ (fQ rfl) ?_)))))
  exact (aS (uY (p:=fun x=>decide (v = x)) (fun i x h=>hn i x (by have:=(List.getElem?_eq_some_iff.1 h).1; omega) h)).symm)
theorem Ap {l:List Int} {v:Int} (hl:l.length ≤ 1000000):aP Tryz.prog 145 [jN 1 (l.map (aN .i64)),aN .i64 v] (aC (l.any fun x=>decide (v = x))):=by
 refine aP.intro Tryz.func145 rfl Tryz.ntmps145 rfl (fun cx=>(ts (ro rfl (cQ cV) (eJ (ts (rm rfl (rm rfl (ro rfl (cZ Tryz.call230 (Ij zo) ⟨(Ht rfl),(Ht rfl),trivial⟩) (ro rfl (kW (Ht rfl) cV) (ra rfl (eJ (fK rfl (fJ (fQ rfl) ?_)))))))))))))
 exact (bN (zA _ l))
theorem Vm {z:List Qi} {s:List (List Qi)} {G:List Nat} (hl:z.length ≤ 1000) (hG:G.length ≤ 1000):aP Tryz.prog 124 [gR z s,jN 1 ((gnI G).map (aN .i64))] (pU ((uZ G z.length).map Nat.succ)):=by
 refine aP.intro Tryz.func124 rfl Tryz.ntmps124 rfl (fun cx=>(ts (rn rfl (fU (Ht rfl)) fun B2=>(ro rfl (cQ cV) (eJ (ts (ro rfl (cQ cV) (eJ (cK (ts (ro rfl (cQ (cJ 1)) (eJ (eU (Eo 3 1 ?_))))))))))))))
 refine eS (fun (i : Nat) (v : Value) => i ≤ z.length) (fun (i : Nat) (v : Value) => z.length - i) (fun (i : Nat) (v : Value) => [(1, jN 1 ((gnI G).map (aN .i64))), (2, cC B2 0), (5, Is v), (6, NT .i64 (i + 1))]) (fun (i : Nat) (v : Value) => [box B2 28 [cE z, fB s], bI 3 1 v (((uZ G i).map Nat.succ).map (NT .i64))]) 0 (.slice none 0 0) (Nat.zero_le _)
  (zS rfl) (aU (aB rfl) (aU (bL rfl) aY)) (fun i v hi=>?_)
 refine cK (ts (rm rfl (ro rfl (eW iX (Ht rfl) rfl) (ro rfl (fX A_25 Z_25 (Ht rfl) (i:=0) rfl rfl) (ro rfl (dU U_25 (Ht rfl) aA) (ro rfl (uA (Ht rfl) (Ht rfl)) (eJ (dQ (Ht rfl) (fun hd=>?_) (fun hd=>?_)))))))))
 ·simp only [decide_eq_true_eq] at hd
  have hcl:=Ls G i
  refine cU (cK (eU (iB (fun (v2:Value)=>True) (fun (v2:Value)=>[(1,jN 1 ((gnI G).map (aN .i64))),(2,cC B2 0),(5,Is v2),(6,NT .i64 (i + 1))]) (fun (v2:Value)=>[box B2 28 [cE z,fB s],bI 3 1 v2 (((uZ G (i + 1)).map Nat.succ).map (NT .i64))]) ?_ (fun v2 _=>?_))))
  ·refine ts (rm rfl (rm rfl (ro rfl (cZ Tryz.call145 (Ap (l := gnI G) (v := ((i + 1 : Nat) : Int)) (by rw [List.length_map]; omega)) ⟨(Ht rfl), (Ht rfl), trivial⟩) ?_)))
   refine ro rfl (dT (Ht rfl)) (eJ (dQ (Ht rfl) (fun he=>?_) (fun he=>?_)))
   ·rw [Rn] at he
    have he2:i ∉ G:=by simpa using he
    have hnx:uZ G (i + 1) = uZ G i ++ [i]:=by rw [uZ,if_neg he2]
    refine cY (rm rfl (rm rfl (ro rfl (fE (xs:=[.tmp 19]) U_103 Z_3 Tryz.zeroValue3 (cW (Ht rfl) cG) rfl rfl rfl) (tI (inf:=Tryz.t3) Zc a0S rfl rfl rfl (Ht rfl) (Ht rfl) (i:=1) rfl (by simp) (fun T hT=>by simp at hT; subst hT; exact El.one) (by show _ * 8 ≤ _; simp only [List.length_map,List.length_cons,List.length_nil]; omega) (by simp only [List.length_map,List.length_cons,List.length_nil]; omega) rfl (fun v3=>?_)))))
    refine ra rfl (eJ (aL v3 trivial (zS rfl) (aU (aB rfl) (aU (bL (by rw [hnx,List.map_append,List.map_append]; rfl)) aY))))
   ·rw [Rn] at he
    have he2:i ∈ G:=by simpa using he
    have hnx:uZ G (i + 1) = uZ G i:=by rw [uZ,if_pos he2,List.append_nil]
    refine cU (aL v trivial (zS rfl) (aU (aB rfl) (aU (bL (by rw [hnx])) aY)))
  ·refine bC (cY (rm rfl (ro rfl (dW (Ht rfl) (cJ 1) z6) (ra rfl (eJ (gQ (i + 1,v2) hd (by dsimp only; omega) (zS rfl) (cI.refl _)))))))
 ·simp only [decide_eq_false_iff_not] at hd
  obtain rfl:z.length = i:=Nat.le_antisymm zo hi
  refine gG rfl (gW (i:=1) (tt:=5) rfl rfl iY (ts (rm rfl (ra rfl (eJ ?_)))))
  exact fK rfl (fQ rfl)
theorem a0u {z:List Qi} {s:List (List Qi)} {p:Nat} (hp:p < z.length) (hl:z.length ≤ 1000):aP Tryz.prog 124 [gR z s,jN 1 [aN .i64 ((p:Int) + 1)]] (pU (zC p (z.length - 1))):=by
 rw [← Xf hp]; exact Vm (G:=[p]) hl (by simp)
theorem Vp {z:List Qi} {s:List (List Qi)} {Q:List Nat} {m:Nat} (hs:eR s z.length z.length) (hQ:∀ x,x ∈ Q → x < z.length) (hm:Q.length = m) (hm2:m ≤ 1000) (hl:z.length ≤ 1000) {i j:Nat} (hi:i < m) (hj:j < m):aP Tryz.prog 220 [NT .i64 i,NT .i64 j,PT (gR z s),PT (pU (Q.map Nat.succ))] (bA (gm s (sN Q i) (sN Q j))):=by
 have hki:sN Q i < z.length:=Jp hQ zo
 have hkj:sN Q j < z.length:=Jp hQ zo
 have hsl:=hs.1
 have hsr:=hs.row hki
 refine aP.intro Tryz.func220 rfl Tryz.ntmps220 rfl (fun cx=>(ts (rn rfl (eK (Ts:=[Is (.bool false),Is (.slice none 0 0),Is (.bool false),Is (.slice none 0 0),Is (.slice none 0 0)]) O_60 rfl (fun V=>aW zd (aW zd (aW zd (aW zd (aW zd (aG))))))) fun B6=>(eJ (cK (fV (m:=14) (dp 2 rfl (lK iO (Ht rfl) rfl) (dq 7 0 rfl (dJ A_26 Z_26 (Ht rfl)) (dp 3 rfl (dJ A_103 Z_103 (Ht rfl)) (dp 0 rfl (cX (Ht rfl)) ?_))))))))))
 refine bR 9 2 10 3 rfl (dZ U_103 Z_3 (Ht rfl) (Ht rfl) rfl (eX (Ed zo))) (dq 11 4 rfl (dJ A_3 Z_3 (Ht rfl)) (dq 12 5 rfl (aI.nat (dK (Ht rfl) (cJ 1) zo z6) (show sN Q i + 1 - 1 = sN Q i by omega)) (bR 8 1 13 6 rfl (dZ U_26 Z_25 (Ht rfl) (Ht rfl) rfl (eX (eQ (d:=[]) zo))) (dq 14 7 rfl (dJ A_25 Z_25 (Ht rfl)) (dp 3 rfl (dJ A_103 Z_103 (Ht rfl)) ?_)))))
 refine dp 1 rfl (cX (Ht rfl)) (bR 16 9 17 10 rfl (dZ U_103 Z_3 (Ht rfl) (Ht rfl) rfl (eX (Ed zo))) (dq 18 11 rfl (dJ A_3 Z_3 (Ht rfl)) (dq 19 12 rfl (aI.nat (dK (Ht rfl) (cJ 1) zo z6) (show sN Q j + 1 - 1 = sN Q j by omega)) (fG aO rfl (by kernel_rfl) (zF (zF (zF (aJ (aJ (aV (ro rfl (dZ U_25 Z_60 (Ht rfl) (Ht rfl) rfl (eX (eQ (d:=Qi.zero) zo))) ?_)))))))))))
 refine ro rfl (dJ A_60 Z_60 (Ht rfl)) (gZ Z_60 (Ht rfl) (Ht rfl) rfl (i:=0) rfl (aK rfl) rfl rfl (eJ ?_))
 exact fK rfl (fY A_60 Z_60 rfl (i:=0) rfl rfl)
theorem Vq {z:List Qi} {s:List (List Qi)} {Q:List Nat} {m:Nat} (hs:eR s z.length z.length) (hQ:∀ x,x ∈ Q → x < z.length) (hm:Q.length = m) (hm2:m ≤ 1000) (hl:z.length ≤ 1000):iI Tryz.prog 125 [gR z s,pU (Q.map Nat.succ)] [] (Nat) (fun B=>fI [cE (Tw z Q),Is (.slice (some ⟨B,0,none⟩) m m)]) (fun B=>[pL B 25 60 5 (cL bA (Tu s Q))]) (fun _=>True):=by
 have hll:(Q.map Nat.succ).length = m:=by rw [List.length_map]; exact hm
 refine iI.intro Tryz.func125 rfl Tryz.ntmps125 rfl (fun cx Z=>(ts (rn rfl (fU (Ht rfl)) fun B2=>(rn rfl (qR (Ht rfl)) fun B3=>(rn rfl (eK (Ts:=[Is (.slice none 0 0),Is (.slice none 0 0)]) O_28 rfl (fun V=>aW zd (aW zd (aG)))) fun B4=>(eJ (cK (gW (i:=1) (tt:=2) rfl rfl xG (gW (i:=2) (tt:=3) rfl rfl oN (cY (ro rfl (dJ A_103 Z_103 (Ht rfl)) (ro rfl (dU U_103 (Ht rfl) (by rw [List.length_map,hll])) ?_))))))))))))
 refine rn rfl (jJ (T:=bA Qi.zero) (i:=Tryz.t60) pR mO rfl rfl (Ht rfl) rfl kV (El.ag rfl) (by show 88 * _ ≤ _; omega) zo) fun B10=>ra rfl (eJ (cK (ts (ro rfl (dJ A_103 Z_103 (Ht rfl)) (ro rfl (dU U_103 (Ht rfl) (by rw [List.length_map,hll])) ?_)))))
 refine ro rfl (cX (cJ 0)) (eJ (eU (eB [0,3,4] rfl (by decide) ?_)))
 refine bF (fun (i : Nat) => i ≤ m) (fun (i : Nat) => m - i) (fun (i : Nat) => [(2, PT (gR z s)), (3, PT (pU (Q.map Nat.succ))), (4, cC B4 0), (5, Is B10), (11, pU (Q.map Nat.succ)), (12, NT .i64 m), (13, NT .i64 i)]) (fun (i : Nat) => [Z, box B4 28 [Is (.slice none 0 0), Is (.slice none 0 0)], bI 60 5 B10 ((lO (fun i => gv z (sN Q i)) Qi.zero m i).map bA)]) 0 (Nat.zero_le _)
  (zS rfl) (aU (fun _ _ _ h=>h) (aU (fun _ _ _ h=>h) (aU (bL (by rw [← jX]; exact Eg bA m)) aY))) (fun i hi=>?_)
 refine ts (ro rfl (gJ (Ht rfl) (Ht rfl)) (eJ (cK (dQ (Ht rfl) (fun hd=>?_) (fun hd=>?_)))))
 ·simp only [decide_eq_true_eq] at hd
  have hki:sN Q i < z.length:=Jp hQ zo
  refine cU (cK (eU (ts (rm rfl (ro rfl (dZ U_103 Z_3 (Ht rfl) (Ht rfl) rfl (eX (Ed zo))) (ro rfl (dJ A_3 Z_3 (Ht rfl)) (ra rfl (ra rfl (eJ (cY (rm rfl (rm rfl (ro rfl (lK iX (Ht rfl) rfl) (ro rfl (dJ A_25 Z_25 (Ht rfl)) (rm rfl (ro rfl (aI.nat (dK (Ht rfl) (cJ 1) zo z6) (show sN Q i + 1 - 1 = sN Q i by omega)) (ro rfl (dZ U_25 Z_60 (Ht rfl) (Ht rfl) rfl (eX (eQ (d:=Qi.zero) hki))) ?_)))))))))))))))))
  refine ro rfl (dJ A_60 Z_60 (Ht rfl)) (ro rfl (cP U_25 Z_60 (Ht rfl) (Ht rfl) rfl (i:=2) rfl (by rw [List.length_map,fH]; omega) rfl) ?_)
  refine lE Z_60 (Ht rfl) (Ht rfl) (El.ag rfl) (i:=2) rfl rfl (by rw [List.length_map,fH]; omega) rfl ?_
  refine eJ (bC (cY (ro rfl (dW (Ht rfl) (cJ 1) z6) (rm rfl (eJ (gQ (i + 1) hd zo (zS rfl) (aU (fun _ _ _ h=>h) (aU (fun _ _ _ h=>h) (aU (bL (by rw [iU,← lI (f:=(fun i=>gv z (sN Q i)))])) aY)))))))))
 ·simp only [decide_eq_false_iff_not] at hd
  obtain rfl:m = i:=Nat.le_antisymm zo hi
  rw [lH]
  refine gG rfl (gW (i:=2) (tt:=5) rfl rfl iY ?_)
  rw [show Tw z Q = tab m fun i=>gv z (sN Q i) from by rw [Tw,hm],show Tu s Q = tab m fun i=>tab m fun j=>gm s (sN Q i) (sN Q j) from by rw [Tu,hm]]
  refine ts (rm rfl (ro rfl (dJ A_103 Z_103 (Ht rfl)) (ro rfl (dU U_103 (Ht rfl) (by rw [List.length_map,hll])) ?_)))
  refine ro rfl (pO (γ:=Fin m × Fin m) (Ts:=fun x=>[NT .i64 x.1.1,NT .i64 x.2.1]) (U:=fun x=>bA (gm s (sN Q x.1.1) (sN Q x.2.1))) Tryz.call220 (fun x=>Vp hs hQ hm hm2 hl x.1.2 x.2.2) ⟨(Ht rfl),(Ht rfl),trivial⟩) (lY Tryz.call110 (Ks (n:=m) (f:=fun i j=>gm s (sN Q i) (sN Q j)) zo) ⟨(Ht rfl),(Ht rfl),trivial⟩ rfl (fun B32 _=>(ro rfl (sT (Ht rfl) (Ht rfl)) (gZ Z_28 (Ht rfl) (Ht rfl) rfl (i:=1) rfl (aK rfl) rfl rfl (eJ ?_)))))
  exact kG B32 trivial [0,3] ⟨⟨_,rfl,fun _ _ _ h=>h⟩,⟨_,rfl,fun _ _ _ h=>h⟩,trivial⟩ (by decide) (vG rfl (fY A_28 Z_28 rfl (i:=1) rfl rfl))
theorem Vr {z:List Qi} {s:List (List Qi)} {p m:Nat} (hs:eR s z.length z.length) (hp:p < z.length) (hm:m = z.length - 1) (hl:z.length ≤ 1000):iI Tryz.prog 125 [gR z s,pU (zC p m)] [] Nat (fun B=>fI [cE (Og z p m),Is (.slice (some ⟨B,0,none⟩) m m)]) (fun B=>[pL B 25 60 5 (cL bA (a24 s p m))]) (fun _=>True):=by
 have h:=Vq (Q:=tab m (nJ p)) hs (Yx hp hm) (aT _ _) zo hl
 rw [Tx,Tv,Xg] at h
 exact h
theorem Vx {n:Int} (h1:-9223372036854775808 ≤ n) (h2:n ≤ 9223372036854775807):aP Tryz.prog 118 [aN .i64 n] (bA (Qi.ofInt n)):=by
 refine aP.intro Tryz.func118 rfl Tryz.ntmps118 rfl (fun cx=>(ts (rn rfl (eK (Ts:=[Is (.bool false),Is (.slice none 0 0),Is (.bool false),Is (.slice none 0 0),Is (.slice none 0 0)]) O_60 rfl (fun V=>aW zd (aW zd (aW zd (aW zd (aW zd (aG))))))) fun B2=>(eJ (ts (rn rfl (eK (Ts:=[Is (.bool false),Is (.slice none 0 0),Is (.bool false),Is (.slice none 0 0),Is (.slice none 0 0)]) O_60 rfl (fun V=>aW zd (aW zd (aW zd (aW zd (aW zd (aG))))))) fun B3=>?_))))))
 refine eJ (cK (fV (m:=4) (dp 3 rfl (eG A_60 Z_60 (Ht rfl) (i:=1) rfl rfl rfl) (dq 4 0 rfl (eP gD (Ht rfl)) (dp 0 rfl (cX (Ht rfl)) (dq 6 2 rfl (cZ K_52 (vR (n:=n) h1 h2) ⟨(Ht rfl),trivial⟩) (fG aO rfl (by kernel_rfl) (zF (aV (ro rfl (dL tC Tryz.call304 Pv (Ht rfl) ⟨(Ht rfl),trivial⟩) (gZ Z_60 (Ht rfl) (Ht rfl) rfl (i:=0) rfl (aK rfl) rfl rfl (eJ ?_))))))))))))
 exact fK rfl (fY A_60 Z_60 rfl (i:=0) rfl rfl)
end
section
open Go Go.RowKit
theorem a0s {z:List Qi} {s:List (List Qi)} {port:Int} {g:Qi} {L:Nat} (hs:eR s z.length z.length) (hf:bP s L) (hg:aD g L) (hL:1 ≤ L) (hLb:L ≤ 1000000) (hl:z.length ≤ 1000):aP Tryz.prog 40 [gR z s,aN .i64 port,bA g] (fR [gR (Ai z s port g) (Ah z s port g),aN .i64 (pX z s port g)]):=by
 haveI:=hg
 have hsl:=hs.1
 refine aP.intro Tryz.func40 rfl Tryz.ntmps40 rfl (fun cx=>(ts (rn rfl (fU (Ht rfl)) fun B3=>(rn rfl (fU (Ht rfl)) fun B5=>(rn rfl (eK (Ts:=[Is (.slice none 0 0),Is (.slice none 0 0)]) O_28 rfl (fun V=>aW zd (aW zd (aG)))) fun B6=>(ro rfl (cQ (cJ 0)) (eJ (cK (eU (ts (ro rfl (eG A_28 Z_28 (Ht rfl) (i:=0) rfl rfl rfl) (rm rfl (ro rfl (cZ Tryz.call138 Kt ⟨(Ht rfl),(Ht rfl),trivial⟩) (ro rfl (dT (Ht rfl)) (ra rfl (eJ (dQ (Ht rfl) (fun hb=>?_) (fun hb=>?_))))))))))))))))))
 ·have he : pX z s port g = 1 := a1o (by simpa only [Bool.not_eq_true', decide_eq_false_iff_not] using hb)
  refine ts (ro rfl (aI.imp (rG ) sA) (gZ Z_28 (Ht rfl) (Ht rfl) rfl (i:=2) rfl (aK rfl) rfl rfl (ro rfl (cQ (cJ 1)) (eJ (cB rfl (fJ (fY A_28 Z_28 rfl (i:=2) rfl rfl) ?_) (fJ (fQ rfl) ?_))))))
  ·exact (Eh he (by decide))
  ·exact (aS he.symm)
 ·have hb2 : 1 ≤ port ∧ port ≤ (z.length : Int) := by simpa using hb
  obtain ⟨p,rfl⟩:∃ p:Nat,port = (p:Int) + 1:=⟨(port - 1).toNat,by omega⟩
  have hp:p < z.length:=by omega
  refine ts (ro rfl (eW iX (Ht rfl) rfl) (ro rfl (fX A_25 Z_25 (Ht rfl) (i:=0) rfl rfl) (ro rfl (dU U_25 (Ht rfl) aA) (ro rfl (cA (Ht rfl) (cJ 1)) (ra rfl (eJ (dQ (Ht rfl) (fun hc=>?_) (fun hc=>?_))))))))
  ·have he : pX z s ((p : Int) + 1) g = 4 := a1p hb2 (by simpa using hc)
   refine ts (ro rfl (aI.imp (rG ) sA) (gZ Z_28 (Ht rfl) (Ht rfl) rfl (i:=2) rfl (aK rfl) rfl rfl (ro rfl (cQ (cJ 4)) (eJ (cB rfl (fJ (fY A_28 Z_28 rfl (i:=2) rfl rfl) ?_) (fJ (fQ rfl) ?_))))))
   ·exact (Eh he (by decide))
   ·exact (aS he.symm)
  ·have hn1 : ¬ z.length = 1 := by simpa using hc
   have htd:=a1q (s:=s) (g:=g) hp hn1
   obtain ⟨m,hm⟩:∃ m,m = z.length - 1:=⟨_,rfl⟩
   have hspl:=hs.row hp
   haveI f0:aD (Qi.ofInt 1) 1:=lZ
   haveI f1:aD (gm s p p) L:=hf.get hL p p
   refine cU (bC (ts (rm rfl (ro rfl (iD (Ht rfl) cV (r:=((p:Nat):Int)) ((wD (z:=(p:Int) + 1 - 1) zo).trans zo)) ?_))))
   refine ra rfl (eJ (cK (Y.D_start (m:=22) [] (bY (Ei:=[(5,_)]) rfl rfl (bQ (bJ rfl rfl) bX) rfl rfl (dX rfl (eG A_60 Z_60 (Ht rfl) (i:=1) rfl rfl rfl)) (bY (Ei:=[(32,_)]) rfl rfl (bQ (bZ 0 rfl rfl) bX) rfl rfl (dX rfl (eP gD (Ht rfl))) (bY (Ei:=[]) rfl rfl bX rfl rfl (dX rfl (cZ Tryz.call118 (Vx (n:=1) (by decide) (by decide)) ⟨(cJ 1),trivial⟩)) (bY (Ei:=[(34,_)]) rfl rfl (bQ (bZ 2 rfl rfl) bX) rfl rfl (dX rfl (eP gD (Ht rfl))) ?_)))))))
   refine bY (Ei:=[(3,_)]) rfl rfl (bQ (bJ rfl rfl) bX) rfl rfl (dX rfl (eW iO (Ht rfl) rfl)) (bY (Ei:=[(36,_)]) rfl rfl (bQ (bZ 4 rfl rfl) bX) rfl rfl (dX rfl (fX A_26 Z_26 (Ht rfl) (i:=0) rfl rfl)) (bY (Ei:=[(8,_)]) rfl rfl (bQ (bJ rfl rfl) bX) rfl rfl (dX rfl (cX (Ht rfl))) (bY (Ei:=[(37,_),(38,_)]) rfl rfl (bQ (bZ 5 rfl rfl) (bQ (bZ 6 rfl rfl) bX)) rfl rfl (dX rfl (dZ U_26 Z_25 (Ht rfl) (Ht rfl) rfl (eX (eQ (d:=[]) zo)))) ?_)))
   refine bY (Ei:=[(39,_)]) rfl rfl (bQ (bZ 7 rfl rfl) bX) rfl rfl (dX rfl (dJ A_25 Z_25 (Ht rfl))) (bY (Ei:=[(8,_)]) rfl rfl (bQ (bJ rfl rfl) bX) rfl rfl (dX rfl (cX (Ht rfl))) (bY (Ei:=[(40,_),(41,_)]) rfl rfl (bQ (bZ 8 rfl rfl) (bQ (bZ 9 rfl rfl) bX)) rfl rfl (dX rfl (dZ U_25 Z_60 (Ht rfl) (Ht rfl) rfl (eX (eQ (d:=Qi.zero) zo)))) (bY (Ei:=[(42,_)]) rfl rfl (bQ (bZ 10 rfl rfl) bX) rfl rfl (dX rfl (dJ A_60 Z_60 (Ht rfl))) ?_)))
   refine bY (Ei:=[(43,_)]) rfl rfl (bQ (bZ 11 rfl rfl) bX) rfl rfl (dX rfl (eP gD (Ht rfl))) (bY (Ei:=[(5,_)]) rfl rfl (bQ (bJ rfl rfl) bX) rfl rfl (dX rfl (eG A_60 Z_60 (Ht rfl) (i:=1) rfl rfl rfl)) (bY (Ei:=[(44,_),(45,_)]) rfl rfl (bQ (bZ 12 rfl rfl) (bQ (bZ 13 rfl rfl) bX)) rfl rfl (dX rfl (dL jW K_70 (nA (x:=gm s p p) (y:=g) (L:=L) (M:=L) zo) (Ht rfl) ⟨(Ht rfl),trivial⟩)) (bY (Ei:=[(35,_),(46,_)]) rfl rfl (bQ (bZ 3 rfl rfl) (bQ (bZ 14 rfl rfl) bX)) rfl rfl (dX rfl (dL nU K_69 (yM (x:=Qi.ofInt 1) (y:=gm s p p * g) (L:=1) (M:=L + L + 1) (hx:=f0) zo) (Ht rfl) ⟨(Ht rfl),trivial⟩)) ?_)))
   refine bY (Ei:=[(33,_),(47,_)]) rfl rfl (bQ (bZ 1 rfl rfl) (bQ (bZ 15 rfl rfl) bX)) rfl rfl (dX rfl (dL qP K_64 (vQ (x:=g) (y:=Qi.ofInt 1 - gm s p p * g) (L:=L) (M:=1 + (L + L + 1) + 1) (hy:=@fitSub _ _ _ _ f0 inferInstance) zo) (Ht rfl) ⟨(Ht rfl),trivial⟩)) (bY (Ei:=[(48,_)]) rfl rfl (bQ (bZ 16 rfl rfl) bX) rfl rfl (dX rfl (cX (Ht rfl))) (bY (Ei:=[(31,_)]) rfl rfl (bQ (bZ 17 rfl rfl) bX) rfl rfl (dX rfl (dY (Ht rfl) rfl)) ?_))
   refine bY (Ei:=[(31,_)]) rfl rfl (bQ (bZ 17 rfl rfl) bX) rfl rfl (dX rfl (dY (Ht rfl) rfl)) (Y.D_newp (Ei:=[]) (fun bb=>box bb 60 [aC (decide ((lD s p g).a < 0)),aE (lD s p g).a.natAbs,aC (decide ((lD s p g).b < 0)),aE (lD s p g).b.natAbs,aE (du (lD s p g))]) 21 rfl rfl rfl bX rfl rfl (by kernel_rfl) (eK (Ts:=[Is (.bool false),Is (.slice none 0 0),Is (.bool false),Is (.slice none 0 0),Is (.slice none 0 0)]) O_60 rfl (fun V=>aW zd (aW zd (aW zd (aW zd (aW zd (aG))))))) ?_)
   refine Y.D_putN (Ei:=[(49,_)]) 20 rfl rfl rfl rfl rfl rfl (bQ (bZ 18 rfl rfl) bX) (fun bb=>mY Z_60 (Ht rfl) (Ht rfl) rfl (i:=0) rfl (aK rfl) rfl rfl) (Y.D_done aO rfl (by kernel_rfl) rfl (by simp [Y.okP]) rfl rfl (bU (bU (bU (bU (bU (bU (bU (bU (bU (bU (bU (bU (bU (bU (bU (bU (bU (bU (bU (bU (Y.F_newp (fun B9=>Y.F_putN (Y.F_nil ?_))))))))))))))))))))))))
   refine ra rfl (eJ (cK (ts (rm rfl (ro rfl (nG (Ht rfl) cV) (eJ (dQ (Ht rfl) (fun he=>?_) (fun he=>?_))))))))
   ·have hz : Qi.ofInt 1 - gm s p p * g = Qi.zero := by simp at he; exact he
    have he:pX z s ((p:Int) + 1) g = 6:=by rw [htd,if_pos hz]
    refine ts (ro rfl (aI.imp (rG ) sA) (gZ Z_28 (Ht rfl) (Ht rfl) rfl (i:=2) rfl (aK rfl) rfl rfl (ro rfl (cQ (cJ 6)) (eJ (cB rfl (fJ (fY A_28 Z_28 rfl (i:=2) rfl rfl) ?_) (fJ (fQ rfl) ?_))))))
    ·exact (Eh he (by decide))
    ·exact (aS he.symm)
   ·have hz : Qi.ofInt 1 - gm s p p * g ≠ Qi.zero := by simp at he; exact he
    have he:pX z s ((p:Int) + 1) g = 0:=by rw [htd,if_neg hz]
    haveI ff:aD (lD s p g) (7 * L + 11):=Ud hf hg hL hz
    have hll:(zC p m).length = m:=aT _ _
    refine cU (ts (ro rfl (eG A_28 Z_28 (Ht rfl) (i:=0) rfl rfl rfl) (rm rfl (ro rfl (fE (xs:=[.tmp 55]) U_103 Z_3 Tryz.zeroValue3 (cW (Ht rfl) cG) rfl rfl rfl) (ro rfl (cZ Tryz.call124 (eZ (a0u (z:=z) (s:=s) (p:=p) hp hl) (jC (by rw [← hm]))) ⟨(Ht rfl),(Ht rfl),trivial⟩) ?_)))))
    refine ra rfl (eJ (ts (ro rfl (eG A_28 Z_28 (Ht rfl) (i:=0) rfl rfl rfl) (rm rfl (lY Tryz.call125 (Vr (p:=p) (m:=m) hs hp hm hl) ⟨(Ht rfl),(Ht rfl),trivial⟩ rfl (fun B60 _=>(rn rfl (eK (Ts:=[Is (.slice none 0 0),Is (.slice none 0 0)]) O_28 rfl (fun V=>aW zd (aW zd (aG)))) fun B12=>(gZ Z_28 (Ht rfl) (Ht rfl) rfl (i:=5) rfl (aK rfl) rfl rfl (eJ (cK (ts (rm rfl (ro rfl (dU U_103 (Ht rfl) (by rw [List.length_map,hll])) ?_)))))))))))))
    refine ro rfl (cX (cJ 0)) (eJ (eU (eB [0,2,3,4,5] rfl (by decide) ?_)))
    refine bF (fun (i : Nat) => i ≤ m) (fun (i : Nat) => m - i) (fun (i : Nat) => [(3, cC B3 0), (6, cC B6 0), (8, NT .i64 p), (9, cC B9 0), (11, pU (zC p m)), (12, cC B12 0), (61, pU (zC p m)), (62, NT .i64 m), (63, NT .i64 i)]) (fun (i : Nat) => [box B3 28 [cE z, fB s], box B6 28 [Is (.slice none 0 0), Is (.slice none 0 0)], box B9 60 [aC (decide ((lD s p g).a < 0)), aE (lD s p g).a.natAbs, aC (decide ((lD s p g).b < 0)), aE (lD s p g).b.natAbs, aE (du (lD s p g))], pL B60 25 60 5 (cL bA (qQ (fun i => tab m fun j => Jw s p (lD s p g) i j) (fun i => tab m fun j => gm s (nJ p i) (nJ p j)) m i)), box B12 28 [cE (Og z p m), Is (.slice (some ⟨B60, 0, none⟩) m m)]]) 0 (Nat.zero_le _)
     (zS rfl) (aU (fun _ _ _ h=>h) (aU (fun _ _ _ h=>h) (aU (aB rfl) (aU (dM (by rw [← rX]; rfl)) (aU (aB rfl) aY))))) (fun i hi=>?_)
    refine ts (ro rfl (gJ (Ht rfl) (Ht rfl)) (eJ (cK (dQ (Ht rfl) (fun hd=>?_) (fun hd=>?_)))))
    ·simp only [decide_eq_true_eq] at hd
     have hki:nJ p i < z.length:=Jt zo hp
     have hsr:=hs.row hki
     refine oV 3 (i) rfl (Bq hd) (fun v=>(cU (cK (eU (ts (rm rfl (ro rfl (dZ U_103 Z_3 (Ht rfl) (Ht rfl) rfl (eX (Lu hd))) (ro rfl (dJ A_3 Z_3 (Ht rfl)) (ra rfl (ra rfl (eJ (ts (rm rfl (ro rfl (dU U_103 (Ht rfl) (by rw [List.length_map,hll])) ?_))))))))))))))
     refine ro rfl (cX (cJ 0)) (eJ (eU ?_))
     refine bF (fun (j : Nat) => j ≤ m) (fun (j : Nat) => m - j) (fun (j : Nat) => [(3, cC B3 0), (6, cC B6 0), (8, NT .i64 p), (9, cC B9 0), (11, pU (zC p m)), (12, cC B12 0), (13, NT .i64 i), (14, NT .i64 (nJ p i + 1)), (61, pU (zC p m)), (62, NT .i64 m), (63, NT .i64 i), (68, pU (zC p m)), (69, NT .i64 m), (70, NT .i64 j)]) (fun (j : Nat) => [box B3 28 [cE z, fB s], box B6 28 [Is (.slice none 0 0), Is (.slice none 0 0)], box B9 60 [aC (decide ((lD s p g).a < 0)), aE (lD s p g).a.natAbs, aC (decide ((lD s p g).b < 0)), aE (lD s p g).b.natAbs, aE (du (lD s p g))], Sb B60 25 60 5 (cL bA (qQ (fun i => tab m fun j => Jw s p (lD s p g) i j) (fun i => tab m fun j => gm s (nJ p i) (nJ p j)) m i)) i v, box B12 28 [cE (Og z p m), Is (.slice (some ⟨B60, 0, none⟩) m m)], bI 60 5 v ((qQ (fun j => Jw s p (lD s p g) i j) (fun j => gm s (nJ p i) (nJ p j)) m j).map bA)]) 0 (Nat.zero_le _)
      (zS rfl) (aU (fun _ _ _ h=>h) (aU (fun _ _ _ h=>h) (aU (fun _ _ _ h=>h) (aU (fun _ _ _ h=>h) (aU (fun _ _ _ h=>h) (aU (bL (by rw [← rX])) aY)))))) (fun j hj=>?_)
     refine ts (ro rfl (gJ (Ht rfl) (Ht rfl)) (eJ (cK (dQ (Ht rfl) (fun hf2=>?_) (fun hf2=>?_)))))
     ·simp only [decide_eq_true_eq] at hf2
      have hkj:nJ p j < z.length:=Jt zo hp
      have hrl:=nE (fun j=>Jw s p (lD s p g) i j) (fun j=>gm s (nJ p i) (nJ p j)) m j
      haveI g1:aD (gm s (nJ p i) (nJ p j)) L:=hf.get hL _ _
      haveI g2:aD (gm s (nJ p i) p) L:=hf.get hL _ _
      haveI g3:aD (gm s p (nJ p j)) L:=hf.get hL _ _
      refine cU (cK (eU (ts (rm rfl (ro rfl (dZ U_103 Z_3 (Ht rfl) (Ht rfl) rfl (eX (Lu hf2))) (ro rfl (dJ A_3 Z_3 (Ht rfl)) (ra rfl (ra rfl (eJ (fV (m:=39) (dp 12 rfl (eW iO (Ht rfl) rfl) (dq 75 0 rfl (fX A_26 Z_26 (Ht rfl) (i:=4) rfl rfl) (dp 13 rfl (cX (Ht rfl)) (bR 76 1 77 2 rfl (gX U_26 Z_25 (Ht rfl) (Ht rfl) rfl zo (by rw [Nat.mul_one,Nat.zero_add])) ?_))))))))))))))
      refine dq 78 3 rfl (kX A_25 Z_25 (Ht rfl) (j:=3) rfl) (dp 15 rfl (cX (Ht rfl)) (dp 12 rfl (eW iO (Ht rfl) rfl) (dq 81 6 rfl (fX A_26 Z_26 (Ht rfl) (i:=4) rfl rfl) (dp 13 rfl (cX (Ht rfl)) (bR 82 7 83 8 rfl (gX U_26 Z_25 (Ht rfl) (Ht rfl) rfl zo (by rw [Nat.mul_one,Nat.zero_add])) ?_)))))
      refine dq 84 9 rfl (kX A_25 Z_25 (Ht rfl) (j:=3) rfl) (dp 15 rfl (cX (Ht rfl)) (bR 85 10 86 11 rfl (cP U_25 Z_60 (Ht rfl) (Ht rfl) rfl (i:=5) rfl (by simp only [List.length_map,hrl]; omega) rfl) ?_))
      refine dq 87 12 rfl (lS A_60 Z_60 (Ht rfl) (i:=5) rfl rfl (eX (zJ hf2))) (dq 88 13 rfl (eP gD (Ht rfl)) (dp 3 rfl (eW iO (Ht rfl) rfl) (dq 90 15 rfl (fX A_26 Z_26 (Ht rfl) (i:=0) rfl rfl) (dp 14 rfl (cX (Ht rfl)) (dq 92 17 rfl (aI.nat (dK (Ht rfl) (cJ 1) zo z6) (show nJ p i + 1 - 1 = nJ p i by omega)) (bR 91 16 93 18 rfl (dZ U_26 Z_25 (Ht rfl) (Ht rfl) rfl (eX (eQ (d:=[]) zo))) ?_))))))
      refine dq 94 19 rfl (dJ A_25 Z_25 (Ht rfl)) (dp 8 rfl (cX (Ht rfl)) (bR 95 20 96 21 rfl (dZ U_25 Z_60 (Ht rfl) (Ht rfl) rfl (eX (eQ (d:=Qi.zero) zo))) (dq 97 22 rfl (dJ A_60 Z_60 (Ht rfl)) (dq 98 23 rfl (eP gD (Ht rfl)) (dp 9 rfl (eG A_60 Z_60 (Ht rfl) (i:=2) rfl rfl rfl) (dq 100 25 rfl (eP gD (Ht rfl)) (dp 3 rfl (eW iO (Ht rfl) rfl) (dq 102 27 rfl (fX A_26 Z_26 (Ht rfl) (i:=0) rfl rfl) (dp 8 rfl (cX (Ht rfl)) ?_)))))))))
      refine bR 103 28 104 29 rfl (dZ U_26 Z_25 (Ht rfl) (Ht rfl) rfl (eX (eQ (d:=[]) zo))) (dq 105 30 rfl (dJ A_25 Z_25 (Ht rfl)) (dp 16 rfl (cX (Ht rfl)) (dq 107 32 rfl (aI.nat (dK (Ht rfl) (cJ 1) zo z6) (show nJ p j + 1 - 1 = nJ p j by omega)) (bR 106 31 108 33 rfl (dZ U_25 Z_60 (Ht rfl) (Ht rfl) rfl (eX (eQ (d:=Qi.zero) zo))) (dq 109 34 rfl (dJ A_60 Z_60 (Ht rfl)) ?_)))))
      refine bR 101 26 110 35 rfl (dL jW K_70 (nA (x:=lD s p g) (y:=gm s p (nJ p j)) (L:=7 * L + 11) (M:=L) zo) (Ht rfl) ⟨(Ht rfl),trivial⟩) (bR 99 24 111 36 rfl (dL jW K_70 (nA (x:=gm s (nJ p i) p) (y:=lD s p g * gm s p (nJ p j)) (L:=L) (M:=7 * L + 11 + L + 1) zo) (Ht rfl) ⟨(Ht rfl),trivial⟩) (bR 89 14 112 37 rfl (dL qO K_71 (vP (x:=gm s (nJ p i) (nJ p j)) (y:=gm s (nJ p i) p * (lD s p g * gm s p (nJ p j))) (L:=L) (M:=L + (7 * L + 11 + L + 1) + 1) zo) (Ht rfl) ⟨(Ht rfl),trivial⟩) ?_))
      refine fG aO rfl (by kernel_rfl) (zF (zF (zF (zF (zF (zF (zF (zF (zF (aJ (aJ (aJ (aV (ro rfl (cP U_25 Z_60 (Ht rfl) (Ht rfl) rfl (i:=5) rfl (by simp only [List.length_map,hrl]; omega) rfl) ?_))))))))))))))
      refine lE Z_60 (Ht rfl) (Ht rfl) (El.ag rfl) (i:=5) rfl rfl (by simp only [List.length_map,hrl]; omega) rfl ?_
      refine eJ (bC (cY (ro rfl (dW (Ht rfl) (cJ 1) z6) (rm rfl (eJ (gQ (j + 1) hf2 zo (zS rfl) (aU (fun _ _ _ h=>h) (aU (fun _ _ _ h=>h) (aU (fun _ _ _ h=>h) (aU (fun _ _ _ h=>h) (aU (fun _ _ _ h=>h) (aU (bL (by rw [iU,← tZ (f:=fun j=>Jw s p (lD s p g) i j)]; rfl)) aY))))))))))))
     ·simp only [decide_eq_false_iff_not] at hf2
      obtain rfl:m = j:=Nat.le_antisymm zo hj
      refine gG rfl (bC (jH 3 5 rfl rfl (by decide) (by simp only [cL,List.length_map,nE]; omega) ?_))
      refine cY (ro rfl (dW (Ht rfl) (cJ 1) z6) (rm rfl (eJ (eB [0,1,2,3,4] rfl (by decide) (gQ (i + 1) hd zo (zS rfl) (aU (fun _ _ _ h=>h) (aU (fun _ _ _ h=>h) (aU (fun _ _ _ h=>h) (aU (dM (by rw [jY,tY,← tZ (f:=(fun i=>tab m fun j=>Jw s p (lD s p g) i j))])) (aU (fun _ _ _ h=>h) aY))))))))))
    ·simp only [decide_eq_false_iff_not] at hd
     obtain rfl:m = i:=Nat.le_antisymm zo hi
     rw [tY]
     refine gG rfl (cK (If 4 3 1 rfl rfl rfl (by decide) (a2g (q:=fun _=>True) (M:=a1r s p m (lD s p g)) (aT _ _).symm) ?_))
     subst hm
     refine cY (ro rfl (eG A_28 Z_28 (Ht rfl) (i:=4) rfl rfl rfl) (gZ Z_28 (Ht rfl) (Ht rfl) rfl (i:=1) rfl (aK rfl) rfl rfl (ro rfl (cQ (cJ 0)) (eJ (cB rfl (fJ (fY A_28 Z_28 rfl (i:=1) rfl rfl) ?_) (fJ (fQ rfl) ?_))))))
     ·exact (Ue he)
     ·exact (aS he.symm)
end
section
open Go Go.RowKit
theorem Qc  : aP Tryz.prog 27 [] (aC true):=by
 refine aP.intro Tryz.func27 rfl Tryz.ntmps27 rfl (fun cx=>(ts (ro rfl (cQ cV) (eJ (ts (ro rfl (yK cV cV) (rn rfl (eK (Ts:=[Is (.int .i64 0),Is (.int .i64 0),Is (.int .i64 0)]) O_48 rfl (fun V=>aW zd (aW zd (aW zd (aG))))) fun B1=>(gZ Z_48 (Ht rfl) (Ht rfl) rfl (i:=0) rfl (aK rfl) rfl rfl (eJ (cK (Y.D_start (m:=18) [] (bY (Ei:=[]) rfl rfl bX rfl rfl (dX rfl (Et cV)) (bY (Ei:=[]) rfl rfl bX rfl rfl (dX rfl (Et cV)) ?_)))))))))))))
 refine bY (Ei:=[(12,_),(13,_)]) rfl rfl (bQ (bZ 0 rfl rfl) (bQ (bZ 1 rfl rfl) bX)) rfl rfl (dX rfl (fE (xs:=[.tmp 12,.tmp 13]) U_22 Z_48 O_48 (cW (Ht rfl) (cW (Ht rfl) cG)) rfl rfl rfl)) (bY (Ei:=[(14,_)]) rfl rfl (bQ (bZ 2 rfl rfl) bX) rfl rfl (dX rfl (cZ Tryz.call48 (uR (l:=[r50,r50]) (by decide)) ⟨(Ht rfl),trivial⟩)) (bY (Ei:=[(1,_)]) rfl rfl (bQ (bJ rfl rfl) bX) rfl rfl (dX rfl (eG A_48 Z_48 (Ht rfl) (i:=0) rfl rfl rfl)) ?_))
 refine bY (Ei:=[(1,_)]) rfl rfl (bQ (bJ rfl rfl) bX) rfl rfl (dX rfl (eG A_48 Z_48 (Ht rfl) (i:=0) rfl rfl rfl)) (bY (Ei:=[(16,_),(17,_)]) rfl rfl (bQ (bZ 4 rfl rfl) (bQ (bZ 5 rfl rfl) bX)) rfl rfl (dX rfl (fE (xs:=[.tmp 16,.tmp 17]) U_22 Z_48 O_48 (cW (Ht rfl) (cW (Ht rfl) cG)) rfl rfl rfl)) (bY (Ei:=[(1,_)]) rfl rfl (bQ (bJ rfl rfl) bX) rfl rfl (dX rfl (eG A_48 Z_48 (Ht rfl) (i:=0) rfl rfl rfl)) ?_))
 refine bY (Ei:=[(1,_)]) rfl rfl (bQ (bJ rfl rfl) bX) rfl rfl (dX rfl (eG A_48 Z_48 (Ht rfl) (i:=0) rfl rfl rfl)) (bY (Ei:=[(19,_),(20,_)]) rfl rfl (bQ (bZ 7 rfl rfl) (bQ (bZ 8 rfl rfl) bX)) rfl rfl (dX rfl (fE (xs:=[.tmp 19,.tmp 20]) U_22 Z_48 O_48 (cW (Ht rfl) (cW (Ht rfl) cG)) rfl rfl rfl)) (bY (Ei:=[(18,_),(21,_)]) rfl rfl (bQ (bZ 6 rfl rfl) (bQ (bZ 9 rfl rfl) bX)) rfl rfl (dX rfl (fE (xs:=[.tmp 18,.tmp 21]) U_75 Z_22 Tryz.zeroValue22 (cW (Ht rfl) (cW (Ht rfl) cG)) rfl rfl rfl)) ?_))
 refine bY (Ei:=[(22,_)]) rfl rfl (bQ (bZ 10 rfl rfl) bX) rfl rfl (dX rfl (cZ Tryz.call94 (Be (m:=[[vX,vX],[vX,vX]]) (by decide) (by intro r hr; simp at hr; subst hr; decide)) ⟨(Ht rfl),trivial⟩)) ?_
 refine bY (Ei:=[(15,_),(23,_)]) rfl rfl (bQ (bZ 3 rfl rfl) (bQ (bZ 11 rfl rfl) bX)) rfl rfl (dX rfl (cZ Tryz.call93 (eZ (Ew (z:=yW) (s:=Br) (L:=2) a1W (by decide) (by decide) (by decide)) a0N) ⟨(Ht rfl),(Ht rfl),trivial⟩)) (bY (Ei:=[(24,_)]) rfl rfl (bQ (bZ 12 rfl rfl) bX) rfl rfl (dX rfl (cX (Ht rfl))) (bY (Ei:=[(11,_)]) rfl rfl (bQ (bZ 13 rfl rfl) bX) rfl rfl (dX rfl (dY (Ht rfl) rfl)) (bY (Ei:=[(11,_)]) rfl rfl (bQ (bZ 13 rfl rfl) bX) rfl rfl (dX rfl (dY (Ht rfl) rfl)) ?_)))
 refine Y.D_newp (Ei:=[]) (fun bb=>box bb 28 [cE yW,fB Br]) 17 rfl rfl rfl bX rfl rfl (by kernel_rfl) (eK (Ts:=[Is (.slice none 0 0),Is (.slice none 0 0)]) O_28 rfl (fun V=>aW zd (aW zd (aG)))) (Y.D_putN (Ei:=[(25,_)]) 16 rfl rfl rfl rfl rfl rfl (bQ (bZ 14 rfl rfl) bX) (fun bb=>mY Z_28 (Ht rfl) (Ht rfl) rfl (i:=0) rfl (aK rfl) rfl rfl) (Y.D_done aO rfl (by kernel_rfl) rfl (by simp [Y.okP]) rfl rfl (bU (bU (bU (bU (bU (bU (bU (bU (bU (bU (bU (bU (bU (bU (bU (bU (Y.F_newp (fun B2=>Y.F_putN (Y.F_nil ?_)))))))))))))))))))))
 refine ra rfl (eJ (cK (Y.D_start (m:=8) [] (bY (Ei:=[(2,_)]) rfl rfl (bQ (bJ rfl rfl) bX) rfl rfl (dX rfl (eG A_28 Z_28 (Ht rfl) (i:=1) rfl rfl rfl)) (bY (Ei:=[]) rfl rfl bX rfl rfl (dX rfl (cZ K_52 (vR (n:=1) (by decide) (by decide)) ⟨(cJ 1),trivial⟩)) (bY (Ei:=[(28,_),(29,_)]) rfl rfl (bQ (bZ 0 rfl rfl) (bQ (bZ 1 rfl rfl) bX)) rfl rfl (dX rfl (cZ Tryz.call40 (eZ (a0s (z:=yW) (s:=Br) (port:=((2:Nat):Int)) (g:=Qi.ofInt 1) (L:=2) Rj a02 a01 (by decide) (by decide) (by decide)) a0O) ⟨(Ht rfl),(cJ 2),(Ht rfl),trivial⟩)) ?_))))))
 refine bY (Ei:=[(30,_)]) rfl rfl (bQ (bZ 2 rfl rfl) bX) rfl rfl (dX rfl (cX (Ht rfl))) (bY (Ei:=[(27,_)]) rfl rfl (bQ (bZ 3 rfl rfl) bX) rfl rfl (dX rfl (dY (Ht rfl) rfl)) (bY (Ei:=[(27,_)]) rfl rfl (bQ (bZ 3 rfl rfl) bX) rfl rfl (dX rfl (dY (Ht rfl) rfl)) (Y.D_newp (Ei:=[]) (fun bb=>box bb 28 [cE Dj,fB Nq]) 7 rfl rfl rfl bX rfl rfl (by kernel_rfl) (eK (Ts:=[Is (.slice none 0 0),Is (.slice none 0 0)]) O_28 rfl (fun V=>aW zd (aW zd (aG)))) ?_)))
 refine Y.D_putN (Ei:=[(31,_)]) 6 rfl rfl rfl rfl rfl rfl (bQ (bZ 4 rfl rfl) bX) (fun bb=>mY Z_28 (Ht rfl) (Ht rfl) rfl (i:=0) rfl (aK rfl) rfl rfl) (Y.D_done aO rfl (by kernel_rfl) rfl (by simp [Y.okP]) rfl rfl (bU (bU (bU (bU (bU (bU (Y.F_newp (fun B4=>Y.F_putN (Y.F_nil ?_))))))))))
 refine ra rfl (eJ (ts (ro rfl (eG A_28 Z_28 (Ht rfl) (i:=2) rfl rfl rfl) (ro rfl (cZ Tryz.call39 (eZ (a1G (z:=Dj) (s:=Nq) (i:=((1:Nat):Int)) (j:=((1:Nat):Int)) a0Q (by rw [Rk]; decide)) a1V) ⟨(Ht rfl),(cJ 1),(cJ 1),trivial⟩) ?_))))
 refine rm rfl (ro rfl (dY (Ht rfl) rfl) (ro rfl (dY (Ht rfl) rfl) (rn rfl (eK (Ts:=[Is (.bool false),Is (.slice none 0 0),Is (.bool false),Is (.slice none 0 0),Is (.slice none 0 0)]) O_60 rfl (fun V=>aW zd (aW zd (aW zd (aW zd (aW zd (aG))))))) fun B6=>(gZ Z_60 (Ht rfl) (Ht rfl) rfl (i:=3) rfl (aK rfl) rfl rfl (ra rfl (eJ (ts (ro rfl (eG A_28 Z_28 (Ht rfl) (i:=1) rfl rfl rfl) ?_))))))))
 refine ro rfl (cZ Tryz.call114 (a0o (z:=yW) (s:=Br) (L:=2) Rj a02 (by decide) (by decide) (by decide) (by decide +kernel) (by decide +kernel) a0M) ⟨(Ht rfl),trivial⟩) (rm rfl (ro rfl (dY (Ht rfl) rfl) (ro rfl (dY (Ht rfl) rfl) (ra rfl (ra rfl (eJ (ts (rm rfl (ro rfl (jB (Ht rfl) cV) (rm rfl (fZ rfl rfl (eY rfl rfl (Ht rfl) (fun h=>cX (Ht rfl))) (fZ rfl rfl (eY rfl rfl (Ht rfl) (fun h=>jB (fW rfl h) cV)) (ro rfl (dO (Ht rfl) (fun h=>(fW rfl h))) (rm rfl (fZ rfl rfl (eY rfl rfl (Ht rfl) (fun h=>cX (Ht rfl))) ?_)))))))))))))))
 refine fZ rfl rfl (eY rfl rfl (Ht rfl) (fun h=>jB (fW rfl h) cV)) (ro rfl (dO (Ht rfl) (fun h=>(fW rfl h))) (rm rfl (fZ rfl rfl (eY rfl rfl (Ht rfl) (fun h=>cX (Ht rfl))) (fZ rfl rfl (eY rfl rfl (Ht rfl) (fun h=>jB (fW rfl h) cV)) (ro rfl (dO (Ht rfl) (fun h=>(fW rfl h))) (rm rfl (fZ rfl rfl (eY rfl rfl (Ht rfl) (fun h=>eG A_28 Z_28 (Ht rfl) (i:=1) rfl rfl rfl)) (fZ rfl rfl (eY rfl rfl (Ht rfl) (fun h=>cZ Tryz.call31 Kq ⟨(fW rfl h),trivial⟩)) (fZ rfl rfl (eY rfl rfl (Ht rfl) (fun h=>cA (fW rfl h) (cJ 2))) ?_)))))))))
 refine ro rfl (dO (Ht rfl) (fun h=>(fW rfl h))) (rm rfl (fZ rfl rfl (eY rfl rfl (Ht rfl) (fun h=>eG A_60 Z_60 (Ht rfl) (i:=3) rfl rfl rfl)) (fZ rfl rfl (eY rfl rfl (Ht rfl) (fun h=>cZ Tryz.call115 (Qa (x:=Qi.ofInt 1) (L:=2) (hx:=a01) (by decide)) ⟨(fW rfl h),trivial⟩)) (fZ rfl rfl (eY rfl rfl (Ht rfl) (fun h=>Sn (fW rfl h) (bB.cS (l:=[49]) rfl))) (ro rfl (dO (Ht rfl) (fun h=>(fW rfl h))) (ra rfl (eJ (fK rfl (fJ (fQ rfl) ?_)))))))))
 exact (bN (by rw [a2h]; rfl))
end
section
open Go Go.RowKit
theorem yO {l:List Rt} (hl:l.length ≤ 1000000):aP Tryz.prog 96 [lF l] (uJ (l.map Rt.q)):=by
 refine aP.intro Tryz.func96 rfl Tryz.ntmps96 rfl (fun cx=>(ts (ro rfl (cQ cV) (eJ (ts (rm rfl (ro rfl (dU U_22 (Ht rfl) aA) (rn rfl (jJ (T:=ZQ) (i:=Tryz.t130) Jz zB rfl rfl (Ht rfl) rfl a2b (El.ag rfl) (by show 88 * _ ≤ _; omega) zo) fun B8=>(ra rfl (eJ (cK (ts (rm rfl (ro rfl (dU U_22 (Ht rfl) aA) (ro rfl (cX (cJ 0)) (eJ (eU ?_)))))))))))))))))
 refine bF (fun (k : Nat) => k ≤ l.length) (fun (k : Nat) => l.length - k) (fun (k : Nat) => [(3, Is B8), (9, lF l), (10, NT .i64 l.length), (11, NT .i64 k)]) (fun (k : Nat) => [bI 130 5 B8 (lO (fun i => QT (l.getD i default).q) ZQ l.length k)]) 0 (Nat.zero_le _)
  (zS rfl) (aU (bL (by rw [← jX]; exact uF _ _)) aY) (fun k hk=>?_)
 refine ts (ro rfl (gJ (Ht rfl) (Ht rfl)) (eJ (cK (dQ (Ht rfl) (fun hd=>?_) (fun hd=>?_)))))
 ·simp only [decide_eq_true_eq] at hd
  refine cU (cK (eU (ts (rm rfl (ro rfl (dZ U_22 Z_48 (Ht rfl) (Ht rfl) rfl (eX (eQ (d:=default) hd))) (ro rfl (dJ A_48 Z_48 (Ht rfl)) (rn rfl (eK (Ts:=[Is (.int .i64 0),Is (.int .i64 0),Is (.int .i64 0)]) O_48 rfl (fun V=>aW zd (aW zd (aW zd (aG))))) fun B5=>(ra rfl (gZ Z_48 (Ht rfl) (Ht rfl) rfl (i:=1) rfl (aK rfl) rfl rfl (eJ (cY (rm rfl (rm rfl (ro rfl (eG A_48 Z_48 (Ht rfl) (i:=1) rfl rfl rfl) ?_))))))))))))))
  refine ro rfl (cZ Tryz.call191 a1M ⟨(Ht rfl),trivial⟩) (ro rfl (cP U_29 Z_130 (Ht rfl) (Ht rfl) rfl (i:=0) rfl (by rw [fH]; omega) rfl) ?_)
  refine lE Z_130 (Ht rfl) (Ht rfl) (El.ag rfl) (i:=0) rfl rfl (by rw [fH]; omega) rfl ?_
  refine eJ (bC (cY (ro rfl (dW (Ht rfl) (cJ 1) z6) (rm rfl (eJ (eB [0] rfl (by decide) (gQ (k + 1) hd zo (zS rfl) (aU (bL (lI (f:=fun i=>QT (l.getD i default).q))) aY))))))))
 ·simp only [decide_eq_false_iff_not] at hd
  obtain rfl:k = l.length:=Nat.le_antisymm hk zo
  rw [lH]
  refine gG rfl (gW (i:=0) (tt:=3) rfl rfl iY (ts (rm rfl (ra rfl (eJ (fK rfl (fJ (fQ rfl) ?_)))))))
  exact (jC (by rw [← rF l Rt.q,mB]))
theorem Iz {m:List (List Rt)} (hm:m.length ≤ 1000) (hr:∀ r,r ∈ m → r.length ≤ 1000):aP Tryz.prog 97 [Ph m] (QM (rq m)):=by
 refine aP.intro Tryz.func97 rfl Tryz.ntmps97 rfl (fun cx=>(ts (ro rfl (cQ cV) (eJ (ts (rm rfl (ro rfl (dU U_75 (Ht rfl) aA) (rn rfl (jJ (T:=uJ []) (i:=Tryz.t29) a1t Dn rfl rfl (Ht rfl) rfl (fun V=>iZ _ _ rfl) El.one (by show 24 * _ ≤ _; omega) zo) fun B8=>(ra rfl (eJ (cK (ts (rm rfl (ro rfl (dU U_75 (Ht rfl) aA) (ro rfl (cX (cJ 0)) (eJ (eU ?_)))))))))))))))))
 refine eS (fun (k : Nat) (out : List (List Qi)) => kM (fun i => (m.getD i default).map Rt.q) m.length out k) (fun (k : Nat) (out : List (List Qi)) => m.length - k) (fun (k : Nat) (out : List (List Qi)) => [(3, Is B8), (9, Ph m), (10, NT .i64 m.length), (11, NT .i64 k)]) (fun (k : Nat) (out : List (List Qi)) => [bI 29 1 B8 (out.map uJ)]) 0 (List.replicate m.length []) (kM.start _ _ _)
  (zS rfl) (aU (bL (qX uJ _ _)) aY) (fun k out hS=>?_)
 refine ts (ro rfl (gJ (Ht rfl) (Ht rfl)) (eJ (cK (dQ (Ht rfl) (fun hk=>?_) (fun hk=>?_)))))
 ·simp only [decide_eq_true_eq] at hk
  have hlen:=hS.len
  have hrk : (m.getD k default).length ≤ 1000 := by
   have e:m.getD k default = m[k]:=by simp [List.getD,hk]
   rw [e]; exact hr _ (List.getElem_mem hk)
  refine cU (cK (eU (ts (rm rfl (ro rfl (dZ U_75 Z_22 (Ht rfl) (Ht rfl) rfl (eX (eQ (d:=default) hk))) (ro rfl (dJ A_22 Z_22 (Ht rfl)) (ra rfl (ra rfl (eJ (cY (rm rfl (rm rfl (rm rfl (ro rfl (cZ Tryz.call96 (yO zo) ⟨(Ht rfl),trivial⟩) (ro rfl (cP U_30 Z_29 (Ht rfl) (Ht rfl) rfl (i:=0) rfl (by first | omega | (simp; omega)) rfl) (lE Z_29 (Ht rfl) (Ht rfl) El.one (i:=0) rfl rfl (by first | omega | (simp; omega)) rfl (eJ (bC ?_))))))))))))))))))
  refine cY (ro rfl (dW (Ht rfl) (cJ 1) z6) (rm rfl (eJ (gQ (k + 1,_) (hS.next hk rfl) (by dsimp only; omega) (zS rfl) (aU (bL (iU uJ _ _ _)) aY)))))
 ·simp only [decide_eq_false_iff_not] at hk
  obtain rfl:k = m.length:=Nat.le_antisymm hS.kle zo
  have hfin:=hS.fin
  rw [rF m (fun r=>r.map Rt.q)] at hfin
  refine gG rfl (gW (i:=0) (tt:=3) rfl rfl iY (ts (rm rfl (ra rfl (eJ (fK rfl (fJ (fQ rfl) ?_)))))))
  exact (jC (by rw [hfin]))
theorem Zs {z:List Qi} {s:List (List Qi)} {L:Nat} (hz:cD z L) (hs:bP s L) (hL1:1 ≤ L) (hL:L ≤ 8796093022208) (hsh:eR s z.length z.length) (hl:z.length ≤ 1000):aP Tryz.prog 25 [gR z s,mD z s] (aC true):=by
 have hs1:=hsh.1
 refine aP.intro Tryz.func25 rfl Tryz.ntmps25 rfl (fun cx=>(ts (rn rfl (fU (Ht rfl)) fun B2=>(rn rfl (fU (Ht rfl)) fun B3=>(ro rfl (cQ cV) (eJ (cK (cK (fV (m:=5) (dp 2 rfl (eG A_28 Z_28 (Ht rfl) (i:=0) rfl rfl rfl) (dq 13 0 rfl (cZ Tryz.call31 Kq ⟨(Ht rfl),trivial⟩) (dp 3 rfl (eW kB (Ht rfl) rfl) (dq 15 2 rfl (fX A_29 Z_29 (Ht rfl) (i:=1) rfl rfl) (dq 16 3 rfl (dU U_29 (Ht rfl) aA) (fG aO rfl (by kernel_rfl) (zF (aJ (aV ?_))))))))))))))))))
 refine ro rfl (iQ (Ht rfl) (Ht rfl)) (eJ (gS (Ht rfl) (by simp) ?_))
 refine cU (cK (ts (ro rfl (eW kB (Ht rfl) rfl) (ro rfl (fX A_29 Z_29 (Ht rfl) (i:=1) rfl rfl) (ro rfl (dU U_29 (Ht rfl) aA) (ro rfl (cX (cJ 0)) (eJ (eU ?_))))))))
 refine bF (fun (i : Nat) => i ≤ z.length) (fun (i : Nat) => z.length - i) (fun (i : Nat) => [(2, cC B2 0), (3, cC B3 0), (20, uJ z), (21, NT .i64 z.length), (22, NT .i64 i)]) (fun (i : Nat) => [box B2 28 [cE z, fB s], box B3 32 [uJ z, QM s]]) 0 (Nat.zero_le _)
  (zS rfl) (cI.refl _) (fun i hi=>?_)
 refine ts (ro rfl (gJ (Ht rfl) (Ht rfl)) (eJ (cK (dQ (Ht rfl) (fun hd=>?_) (fun hd=>?_)))))
 ·simp only [decide_eq_true_eq] at hd
  haveI f1:aD (gv z i) L:=hz.get hL1 i
  have hsr:=hsh.row hd
  refine cU (cK (eU (ts (rm rfl (ro rfl (dZ U_29 Z_130 (Ht rfl) (Ht rfl) rfl (eX (eQ (d:=Qi.zero) hd))) (ro rfl (dJ A_130 Z_130 (Ht rfl)) (rn rfl (eK (Ts:=[Is (.bool false),Is (.slice none 0 0),Is (.bool false),Is (.slice none 0 0),Is (.slice none 0 0)]) O_130 rfl (fun V=>aW zd (aW zd (aW zd (aW zd (aW zd (aG))))))) fun B6=>(ra rfl (gZ Z_130 (Ht rfl) (Ht rfl) rfl (i:=2) rfl (aK rfl) rfl rfl ?_)))))))))
  refine eJ (ts (ro rfl (eG A_28 Z_28 (Ht rfl) (i:=0) rfl rfl rfl) (rm rfl (ro rfl (dW (Ht rfl) (cJ 1) z6) (ro rfl (cZ Tryz.call67 (eZ (Zq (z:=z) (s:=s) (i:=((i + 1:Nat):Int)) zo) (a0V hd)) ⟨(Ht rfl),(Ht rfl),trivial⟩) (rm rfl (ro rfl (dY (Ht rfl) rfl) (ro rfl (dY (Ht rfl) rfl) (rn rfl (eK (Ts:=[Is (.bool false),Is (.slice none 0 0),Is (.bool false),Is (.slice none 0 0),Is (.slice none 0 0)]) O_60 rfl (fun V=>aW zd (aW zd (aW zd (aW zd (aW zd (aG))))))) fun B7=>?_)))))))))
  refine gZ Z_60 (Ht rfl) (Ht rfl) rfl (i:=3) rfl (aK rfl) rfl rfl (ra rfl (eJ (cK (ts (rm rfl (ro rfl (nG (Ht rfl) cV) (rm rfl (fZ rfl rfl (eY rfl rfl (Ht rfl) (fun h=>eG A_60 Z_60 (Ht rfl) (i:=3) rfl rfl rfl)) (fZ rfl rfl (eY rfl rfl (Ht rfl) (fun h=>eG A_130 Z_130 (Ht rfl) (i:=2) rfl rfl rfl)) (fZ rfl rfl (eY rfl rfl (Ht rfl) (fun h=>cZ Tryz.call79 (Ku (x:=gv z i) (y:=gv z i) (L:=L) (M:=L) hL hL) ⟨(fW rfl h),(fW rfl h),trivial⟩)) (fZ rfl rfl (eY rfl rfl (Ht rfl) (fun h=>dT (fW rfl h))) ?_)))))))))))
  refine ro rfl (kP (Ht rfl) (fun h=>(fW rfl h))) (eJ (gS (Ht rfl) (by simp) ?_))
  refine cU (ts (ro rfl (eW rT (Ht rfl) rfl) (ro rfl (fX A_30 Z_30 (Ht rfl) (i:=1) rfl rfl) (rm rfl (ro rfl (dZ U_30 Z_29 (Ht rfl) (Ht rfl) rfl (eX (eQ (d:=[]) zo))) (ro rfl (dJ A_29 Z_29 (Ht rfl)) (ro rfl (dU U_29 (Ht rfl) aA) (ro rfl (cX (cJ 0)) (eJ (eU (eB [0,1] rfl (by decide) ?_)))))))))))
  refine bF (fun (j : Nat) => j ≤ z.length) (fun (j : Nat) => z.length - j) (fun (j : Nat) => [(2, cC B2 0), (3, cC B3 0), (5, NT .i64 i), (20, uJ z), (21, NT .i64 z.length), (22, NT .i64 i), (46, uJ (s.getD i [])), (47, NT .i64 z.length), (48, NT .i64 j)]) (fun (j : Nat) => [box B2 28 [cE z, fB s], box B3 32 [uJ z, QM s]]) 0 (Nat.zero_le _)
   (aQ rfl (aQ rfl (aQ rfl (aQ rfl (aQ rfl (aQ rfl (aQ rfl (aZ rfl (jQ hsr) (zS rfl))))))))) (cI.refl _) (fun j hj=>?_)
  refine ts (ro rfl (gJ (Ht rfl) (Ht rfl)) (eJ (cK (dQ (Ht rfl) (fun hf=>?_) (fun hf=>?_)))))
  ·simp only [decide_eq_true_eq] at hf
   haveI f2:aD (gm s i j) L:=hs.get hL1 i j
   refine cU (cK (eU (ts (rm rfl (ro rfl (dZ U_29 Z_130 (Ht rfl) (Ht rfl) rfl (eX (eQ (d:=Qi.zero) zo))) (ro rfl (dJ A_130 Z_130 (Ht rfl)) (rn rfl (eK (Ts:=[Is (.bool false),Is (.slice none 0 0),Is (.bool false),Is (.slice none 0 0),Is (.slice none 0 0)]) O_130 rfl (fun V=>aW zd (aW zd (aW zd (aW zd (aW zd (aG))))))) fun B10=>(ra rfl (gZ Z_130 (Ht rfl) (Ht rfl) rfl (i:=2) rfl (aK rfl) rfl rfl ?_)))))))))
   refine eJ (ts (ro rfl (eG A_28 Z_28 (Ht rfl) (i:=0) rfl rfl rfl) (rm rfl (ro rfl (dW (Ht rfl) (cJ 1) z6) (rm rfl (ro rfl (dW (Ht rfl) (cJ 1) z6) (ro rfl (cZ Tryz.call39 (eZ (a1G (z:=z) (s:=s) (i:=((i + 1:Nat):Int)) (j:=((j + 1:Nat):Int)) hsh zo) (a1Y hd hf)) ⟨(Ht rfl),(Ht rfl),(Ht rfl),trivial⟩) (rm rfl (ro rfl (dY (Ht rfl) rfl) (ro rfl (dY (Ht rfl) rfl) ?_))))))))))
   refine rn rfl (eK (Ts:=[Is (.bool false),Is (.slice none 0 0),Is (.bool false),Is (.slice none 0 0),Is (.slice none 0 0)]) O_60 rfl (fun V=>aW zd (aW zd (aW zd (aW zd (aW zd (aG))))))) fun B11=>gZ Z_60 (Ht rfl) (Ht rfl) rfl (i:=3) rfl (aK rfl) rfl rfl (ra rfl (eJ (ts (rm rfl (ro rfl (nG (Ht rfl) cV) (rm rfl (fZ rfl rfl (eY rfl rfl (Ht rfl) (fun h=>eG A_60 Z_60 (Ht rfl) (i:=3) rfl rfl rfl)) ?_)))))))
   refine fZ rfl rfl (eY rfl rfl (Ht rfl) (fun h=>eG A_130 Z_130 (Ht rfl) (i:=2) rfl rfl rfl)) (fZ rfl rfl (eY rfl rfl (Ht rfl) (fun h=>cZ Tryz.call79 (Ku (x:=gm s i j) (y:=gm s i j) (L:=L) (M:=L) hL hL) ⟨(fW rfl h),(fW rfl h),trivial⟩)) (fZ rfl rfl (eY rfl rfl (Ht rfl) (fun h=>dT (fW rfl h))) (ro rfl (kP (Ht rfl) (fun h=>(fW rfl h))) (eJ (gS (Ht rfl) (by simp) ?_)))))
   refine cU (bC (cY (ro rfl (dW (Ht rfl) (cJ 1) z6) (rm rfl (eJ (eB [0,1] rfl (by decide) (gQ (j + 1) hf zo (zS rfl) (cI.refl _))))))))
  ·refine gG rfl (bC (cY (ro rfl (dW (Ht rfl) (cJ 1) z6) (rm rfl (eJ (eB [0,1] rfl (by decide) (gQ (i + 1) hd zo (zS rfl) (cI.refl _))))))))
 ·refine gG rfl (ts (ro rfl (cQ cV) (eJ ?_)))
  exact fK rfl (fQ rfl)
end
section
open Go Go.RowKit
theorem Cl {n : Nat} {E : cH} {H : Hp} {d : Option Tmp} {t : TypeId} {pos : String} {af : Array Edge} {g : Option (Nat × Bool)} {x0 x1 x2 : Operand} {T0 T1 T2 : Ty} [s0 : cT T0 1 false] (h0 : bB E x0 T0) [s1 : cT T1 1 false] (h1 : bB E x1 T1) [s2 : cT T2 1 false] (h2 : bB E x2 T2) :
  aI Tryz.prog n E H ⟨d,.build 48 #[(0,x0),(1,x1),(2,x2)],t,pos,af,g⟩ (fI [T0,T1,T2]) :=
 gP (parts := [(0, x0), (1, x1), (2, x2)]) fun a V w hs => by
  have p0:=h0 n V a hs
  generalize e0:a.eval x0 = v0 at p0
  have q0:=(s0.ok v0 V p0).2.2 rfl
  have p1:=h1 n V a hs
  generalize e1:a.eval x1 = v1 at p1
  have q1:=(s1.ok v1 V p1).2.2 rfl
  have p2:=h2 n V a hs
  generalize e2:a.eval x2 = v2 at p2
  have q2:=(s2.ok v2 V p2).2.2 rfl
  refine ⟨.agg #[v0,v1,v2],?_,[v0,v1,v2],rfl,aW (⟨p0,q0⟩) (aW (⟨p1,q1⟩) (aW (⟨p2,q2⟩) (aG)))⟩
  simp [e0,e1,e2,Instr.build,Instr.fill,Sem.run_bind,Result.andThen,fP,q0.cells,q1.cells,q2.cells,O_48,U_48,Z_2]
end
section
open Go Go.RowKit
theorem a1K {x:Qi} {l m:List Qi} {L M n:Nat} (hx:aD x M) (hl:cD l L) (hm:cD m L) (hL:1 ≤ L) (hll:l.length = n) (hml:m.length = n) (hn:n ≤ 1000) (hb:M + n * (2 * L + 2) ≤ 17592186044415):aP Tryz.prog 127 [bA x,cE l,cE m] (bA (uV x l m n)):=by
 refine aP.intro Tryz.func127 rfl Tryz.ntmps127 rfl (fun cx=>(ts (rn rfl (fU (Ht rfl)) fun B3=>(rn rfl (eK (Ts:=[Is (.bool false),Is (.slice none 0 0),Is (.bool false),Is (.slice none 0 0),Is (.slice none 0 0)]) O_60 rfl (fun V=>aW zd (aW zd (aW zd (aW zd (aW zd (aG))))))) fun B6=>(eJ (cK (ts (rm rfl (ro rfl (dU U_25 (Ht rfl) (by rw [List.length_map,hll])) ?_)))))))))
 refine ro rfl (cX (cJ 0)) (eJ (eU ?_))
 refine bF (fun (k : Nat) => k ≤ n) (fun (k : Nat) => n - k) (fun (k : Nat) => [(1, cE l), (2, cE m), (3, cC B3 0), (6, cC B6 0), (9, NT .i64 n), (10, NT .i64 k)]) (fun (k : Nat) => [box B3 60 [aC (decide ((uV x l m k).a < 0)), aE (uV x l m k).a.natAbs, aC (decide ((uV x l m k).b < 0)), aE (uV x l m k).b.natAbs, aE (du (uV x l m k))], box B6 60 [Is (.bool false), Is (.slice none 0 0), Is (.bool false), Is (.slice none 0 0), Is (.slice none 0 0)]]) 0 (Nat.zero_le _)
  (zS rfl) (cI.refl _) (fun k hk=>?_)
 refine ts (ro rfl (gJ (Ht rfl) (Ht rfl)) (eJ (cK (dQ (Ht rfl) (fun hd=>?_) (fun hd=>?_)))))
 ·simp only [decide_eq_true_eq] at hd
  haveI f1:=Fu hx hl hm hL k
  haveI f2:=hl.get hL k
  haveI f3:=hm.get hL k
  have hkn:(k + 1) * (2 * L + 2) ≤ n * (2 * L + 2):=Nat.mul_le_mul_right _ hd
  rw [Nat.add_mul] at hkn
  refine cU (cK (eU (ts (rm rfl (ra rfl (eJ (fV (m:=12) (dp 3 rfl (eG A_60 Z_60 (Ht rfl) (i:=0) rfl rfl rfl) (dq 13 0 rfl (eP gD (Ht rfl)) (dp 1 rfl (cX (Ht rfl)) (dp 7 rfl (cX (Ht rfl)) (bR 15 2 16 3 rfl (dZ U_25 Z_60 (Ht rfl) (Ht rfl) rfl (eX (eQ (d:=Qi.zero) zo))) (dq 17 4 rfl (dJ A_60 Z_60 (Ht rfl)) (dq 18 5 rfl (eP gD (Ht rfl)) (dp 2 rfl (cX (Ht rfl)) (dp 7 rfl (cX (Ht rfl)) (bR 20 7 21 8 rfl (dZ U_25 Z_60 (Ht rfl) (Ht rfl) rfl (eX (eQ (d:=Qi.zero) zo))) ?_)))))))))))))))))
  refine dq 22 9 rfl (dJ A_60 Z_60 (Ht rfl)) (bR 19 6 23 10 rfl (dL jW K_70 (nA (x:=gv l k) (y:=gv m k) (L:=L) (M:=L) zo) (Ht rfl) ⟨(Ht rfl),trivial⟩) (fG aO rfl (by kernel_rfl) (zF (zF (zF (aV (ro rfl (dL qO K_71 (vP (x:=uV x l m k) (y:=gv l k * gv m k) (L:=M + k * (2 * L + 2)) (M:=L + L + 1) zo) (Ht rfl) ⟨(Ht rfl),trivial⟩) (gZ Z_60 (Ht rfl) (Ht rfl) rfl (i:=0) rfl (aK rfl) rfl rfl ?_))))))))
  refine eJ (bC (cY (ro rfl (dW (Ht rfl) (cJ 1) z6) (rm rfl (eJ (gQ (k + 1) hd zo (zS rfl) (cI.refl _)))))))
 ·simp only [decide_eq_false_iff_not] at hd
  obtain rfl:k = n:=Nat.le_antisymm hk zo
  refine gG rfl (ts (ro rfl (eG A_60 Z_60 (Ht rfl) (i:=0) rfl rfl rfl) (gZ Z_60 (Ht rfl) (Ht rfl) rfl (i:=1) rfl (aK rfl) rfl rfl (eJ ?_))))
  exact fK rfl (fY A_60 Z_60 rfl (i:=1) rfl rfl)
theorem Vd {z a:List Qi} {s:List (List Qi)} {L:Nat} (hs:eR s z.length z.length) (hf:bP s L) (ha:cD a L) (hL:1 ≤ L) (hLb:L ≤ 3000000000) (h1:1 ≤ z.length) (hl:z.length ≤ 1000):aP Tryz.prog 63 [gR z s,cE a] (fR [cE (pV (Fx z.length a.length) (Nm s a z.length)),aN .i64 (Fx z.length a.length)]):=by
 have hsl:=hs.1
 refine aP.intro Tryz.func63 rfl Tryz.ntmps63 rfl (fun cx=>(ts (rn rfl (fU (Ht rfl)) fun B2=>(ro rfl (cQ cV) (ro rfl (cQ (cJ 0)) (eJ (cK (ts (rm rfl (ro rfl (dU U_25 (Ht rfl) aA) (ro rfl (eW iX (Ht rfl) rfl) (ro rfl (fX A_25 Z_25 (Ht rfl) (i:=0) rfl rfl) (ro rfl (dU U_25 (Ht rfl) aA) (ro rfl (iQ (Ht rfl) (Ht rfl)) (eJ (dQ (Ht rfl) (fun hb=>?_) (fun hb=>?_)))))))))))))))))
 ·have hn : ¬ a.length = z.length := by simpa using hb
  have he:Fx z.length a.length = 4:=by rw [Fx,if_neg hn]
  refine ts (ro rfl (cQ cV) (ro rfl (cQ (cJ 4)) (eJ (cB rfl (fJ (fQ rfl) ?_) (fJ (fQ rfl) ?_)))))
  ·exact (fun v V h=>by rw [he]; exact iZ v V h)
  ·exact (aS he.symm)
 ·have hn : a.length = z.length := by simpa using hb
  have he:Fx z.length a.length = 0:=by rw [Fx,if_pos hn]
  refine cU (ts (rm rfl (ro rfl (dU U_25 (Ht rfl) (by rw [List.length_map,hn])) ?_)))
  refine rn rfl (jJ (T:=bA Qi.zero) (i:=Tryz.t60) pR mO rfl rfl (Ht rfl) rfl kV (El.ag rfl) (by show 88 * _ ≤ _; omega) zo) fun B17=>ra rfl (eJ (cK (ts (ro rfl (eW iO (Ht rfl) rfl) (ro rfl (fX A_26 Z_26 (Ht rfl) (i:=0) rfl rfl) (ro rfl (dU U_26 (Ht rfl) (by rw [List.length_map,hsl])) ?_))))))
  refine ro rfl (cX (cJ 0)) (eJ (eU ?_))
  refine bF (fun (i : Nat) => i ≤ z.length) (fun (i : Nat) => z.length - i) (fun (i : Nat) => [(1, cE a), (2, cC B2 0), (6, Is B17), (19, fB s), (20, NT .i64 z.length), (21, NT .i64 i)]) (fun (i : Nat) => [box B2 28 [cE z, fB s], bI 60 5 B17 ((lO (fun i => Uj (s.getD i []) a z.length) Qi.zero z.length i).map bA)]) 0 (Nat.zero_le _)
   (zS rfl) (aU (aB rfl) (aU (bL (by rw [← jX]; exact Eg bA z.length)) aY)) (fun i hi=>?_)
  refine ts (ro rfl (gJ (Ht rfl) (Ht rfl)) (eJ (cK (dQ (Ht rfl) (fun hd=>?_) (fun hd=>?_)))))
  ·simp only [decide_eq_true_eq] at hd
   have hsr:=hs.row hd
   haveI f1:aD (gm s i 0) L:=hf.get hL i 0
   haveI f2:aD (gv a 0) L:=ha.get hL 0
   have hnl:(z.length - 1) * (2 * L + 2) ≤ 1000 * (2 * L + 2):=Nat.mul_le_mul_right _ zo
   have hda:=Re (s.getD i []) a (z.length - 1)
   rw [show z.length - 1 + 1 = z.length by omega] at hda
   refine cU (cK (eU (ts (rm rfl (ro rfl (dZ U_26 Z_25 (Ht rfl) (Ht rfl) rfl (eX (eQ (d:=[]) zo))) (ro rfl (dJ A_25 Z_25 (Ht rfl)) (ra rfl (ra rfl (eJ (fV (m:=15) (dp 6 rfl (cX (Ht rfl)) (dp 7 rfl (cX (Ht rfl)) (dp 8 rfl (cX (Ht rfl)) (dq 28 2 rfl (dZ U_25 Z_60 (Ht rfl) (cJ 0) rfl (eX (eQ (d:=Qi.zero) zo))) (dq 29 3 rfl (dJ A_60 Z_60 (Ht rfl)) (dq 30 4 rfl (eP gD (Ht rfl)) (dp 1 rfl (cX (Ht rfl)) ?_)))))))))))))))))
   refine dq 32 6 rfl (dZ U_25 Z_60 (Ht rfl) (cJ 0) rfl (eX (eQ (d:=Qi.zero) zo))) (dq 33 7 rfl (dJ A_60 Z_60 (Ht rfl)) (bR 31 5 34 8 rfl (dL jW K_70 (nA (x:=gm s i 0) (y:=gv a 0) (L:=L) (M:=L) zo) (Ht rfl) ⟨(Ht rfl),trivial⟩) (dp 8 rfl (cX (Ht rfl)) (dq 36 10 rfl (aI.imp (zP U_25 Z_60 (Ht rfl) (cJ 1) rfl (by rw [List.length_map]; omega)) (jC (Us:=((s.getD i []).drop 1).map bA) (by rw [List.map_drop]))) ?_))))
   refine dp 1 rfl (cX (Ht rfl)) (dq 38 12 rfl (aI.imp (zP U_25 Z_60 (Ht rfl) (cJ 1) rfl (by rw [List.length_map]; omega)) (jC (Us:=(a.drop 1).map bA) (by rw [List.map_drop]))) ?_)
   refine C.D_step (Ei:=[(35,_),(37,_),(39,_)]) rfl rfl (bV (bG 9 rfl rfl) (bV (bG 11 rfl rfl) (bV (bG 13 rfl rfl) bW))) (dX rfl (cZ Tryz.call127 (eZ (a1K (x:=gm s i 0 * gv a 0) (l:=(s.getD i []).drop 1) (m:=a.drop 1) (L:=L) (M:=L + L + 1) (n:=z.length - 1) inferInstance (Fv (hf.row i)) (Fv ha) hL (by rw [List.length_drop]; omega) (by rw [List.length_drop]; omega) zo zo) (kJ hda)) ⟨(Ht rfl),(Ht rfl),(Ht rfl),trivial⟩)) ?_
   refine fG aO rfl (by kernel_rfl) (zF (zF (zF (aJ (aJ (aJ (aV (ro rfl (cP U_25 Z_60 (Ht rfl) (Ht rfl) rfl (i:=1) rfl (by rw [List.length_map,fH]; omega) rfl) ?_))))))))
   refine lE Z_60 (Ht rfl) (Ht rfl) (El.ag rfl) (i:=1) rfl rfl (by rw [List.length_map,fH]; omega) rfl ?_
   refine eJ (bC (cY (ro rfl (dW (Ht rfl) (cJ 1) z6) (rm rfl (eJ (gQ (i + 1) hd zo (zS rfl) (aU (aB rfl) (aU (bL (by rw [iU,← lI (f:=(fun i=>Uj (s.getD i []) a z.length))])) aY))))))))
  ·simp only [decide_eq_false_iff_not] at hd
   have hiz:i = z.length:=Nat.le_antisymm hi zo
   rw [hiz,lH]
   refine gG rfl (gW (i:=1) (tt:=6) rfl rfl iY (ts (rm rfl (ra rfl (ro rfl (cQ (cJ 0)) (eJ (cB rfl (fJ (fQ rfl) ?_) (fJ (fQ rfl) ?_))))))))
   ·exact (jC (by rw [he]; rfl))
   ·exact (aS he.symm)
theorem La {r:Rt}:aP Tryz.prog 128 [lN r] (lN (Am r)):=by
 have b1:=jG r.den (b:=4) (by decide)
 refine aP.intro Tryz.func128 rfl Tryz.ntmps128 rfl (fun cx=>(ts (rn rfl (fU (Ht rfl)) fun B1=>(rn rfl (eK (Ts:=[Is (.int .i64 0),Is (.int .i64 0),Is (.int .i64 0)]) O_48 rfl (fun V=>aW zd (aW zd (aW zd (aG))))) fun B2=>(eJ (ts (ro rfl (eW nR (Ht rfl) rfl) (ro rfl (fX A_2 Z_2 (Ht rfl) (i:=0) rfl rfl) (ro rfl (Dx (Ht rfl) cV (by decide) rfl) (ra rfl (eJ (cK (iB (fun (d:Int)=>d = oF (r.den.tmod 4)) (fun (d:Int)=>[(1,cC B1 0),(2,cC B2 0),(3,aN .i64 d)]) (fun (d:Int)=>[box B1 48 [aN .i64 r.re,aN .i64 r.im,aN .i64 r.den],box B2 48 [Is (.int .i64 0),Is (.int .i64 0),Is (.int .i64 0)]]) ?_ (fun d hd=>?_))))))))))))))
 ·refine ts (rm rfl (ro rfl (lT (Ht rfl) cV) (eJ (dQ (Ht rfl) (fun hb => ?_) (fun hb => ?_)))))
  ·have hb2 : r.den.tmod 4 < 0 := of_decide_eq_true hb
   refine cY (rm rfl (ro rfl (Dw (Ht rfl) (wD zo)) (ra rfl (eJ (aL (-(r.den.tmod 4)) (by rw [oF,if_pos hb2]) (zS rfl) (cI.refl _))))))
  ·have hb2 : ¬ r.den.tmod 4 < 0 := of_decide_eq_false hb
   refine cU (aL (r.den.tmod 4) (by rw [oF,if_neg hb2]) (zS rfl) (cI.refl _))
 ·have b2 := qB b1
  rw [← hd] at b2
  refine ts (ro rfl (eW pG (Ht rfl) rfl) (ro rfl (fX A_2 Z_2 (Ht rfl) (i:=0) rfl rfl) (ro rfl (Dx (Ht rfl) cV (by decide) rfl) (ro rfl (eW Df (Ht rfl) rfl) (ro rfl (fX A_2 Z_2 (Ht rfl) (i:=0) rfl rfl) (ro rfl (Dx (Ht rfl) cV (by decide) rfl) (rm rfl (ro rfl (zO (Ht rfl) cV (wD zo)) (ro rfl (Cl (Ht rfl) (Ht rfl) (Ht rfl)) (gZ Z_48 (Ht rfl) (Ht rfl) rfl (i:=1) rfl (aK rfl) rfl rfl (eJ (fK rfl (fJ (fY A_48 Z_48 rfl (i:=1) rfl rfl) ?_)))))))))))))
  exact (fun v V h=>by rw [hd] at h; exact h)
theorem Vk {r:Rt}:aP Tryz.prog 34 [lN r] (lN (Um r)):=by
 have b1:-9 < (Am r).re ∧ (Am r).re < 9:=jG r.re (b:=9) (by decide)
 refine aP.intro Tryz.func34 rfl Tryz.ntmps34 rfl (fun cx=>(ts (rn rfl (fU (Ht rfl)) fun B1=>(rn rfl (eK (Ts:=[Is (.int .i64 0),Is (.int .i64 0),Is (.int .i64 0)]) O_48 rfl (fun V=>aW zd (aW zd (aW zd (aG))))) fun B2=>(eJ (ts (ro rfl (eG A_48 Z_48 (Ht rfl) (i:=0) rfl rfl rfl) (ro rfl (cZ Tryz.call128 La ⟨(Ht rfl),trivial⟩) (rn rfl (eK (Ts:=[Is (.int .i64 0),Is (.int .i64 0),Is (.int .i64 0)]) O_48 rfl (fun V=>aW zd (aW zd (aW zd (aG))))) fun B3=>?_)))))))))
 refine gZ Z_48 (Ht rfl) (Ht rfl) rfl (i:=2) rfl (aK rfl) rfl rfl (eJ (cK (iB (fun (x:Int)=>x = oF (Am r).re) (fun (x:Int)=>[(1,cC B1 0),(2,cC B2 0),(3,cC B3 0)]) (fun (x:Int)=>[box B1 48 [aN .i64 r.re,aN .i64 r.im,aN .i64 r.den],box B2 48 [Is (.int .i64 0),Is (.int .i64 0),Is (.int .i64 0)],box B3 48 [aN .i64 x,aN .i64 (Am r).im,aN .i64 (Am r).den]]) ?_ (fun x hx=>?_))))
 ·refine ts (ro rfl (eW pG (Ht rfl) rfl) (ro rfl (fX A_2 Z_2 (Ht rfl) (i := 2) rfl rfl) (ro rfl (lT (Ht rfl) cV) (eJ (dQ (Ht rfl) (fun hb => ?_) (fun hb => ?_))))))
  ·have hb2 : (Am r).re < 0 := of_decide_eq_true hb
   refine cY (ro rfl (eW pG (Ht rfl) rfl) (ro rfl (fX A_2 Z_2 (Ht rfl) (i:=2) rfl rfl) (ro rfl (Dw (Ht rfl) (wD zo)) (ro rfl (eW pG (Ht rfl) rfl) (jT Z_2 (Ht rfl) (Ht rfl) (i:=2) rfl (aK rfl) rfl (eJ (aL (-((Am r).re)) (by rw [oF,if_pos hb2]) (zS rfl) (cI.refl _))))))))
  ·have hb2 : ¬ (Am r).re < 0 := of_decide_eq_false hb
   refine cU (aL ((Am r).re) (by rw [oF,if_neg hb2]) (zS rfl) (cI.refl _))
 ·have b2 := qB b1
  rw [← hx] at b2
  refine ts (ro rfl (eW pG (Ht rfl) rfl) (ro rfl (fX A_2 Z_2 (Ht rfl) (i:=2) rfl rfl) (ro rfl (zO (Ht rfl) cV (wD zo)) (ro rfl (eW nR (Ht rfl) rfl) (ro rfl (fX A_2 Z_2 (Ht rfl) (i:=2) rfl rfl) (ro rfl (yK (Ht rfl) (Ht rfl)) (gZ Z_48 (Ht rfl) (Ht rfl) rfl (i:=1) rfl (aK rfl) rfl rfl (eJ (fK rfl (fJ (fY A_48 Z_48 rfl (i:=1) rfl rfl) ?_))))))))))
  exact (fun v V h=>by rw [hx] at h; exact h)
theorem Qf {l:List Rt} {i:Nat}:aP Tryz.prog 166 [lF l,NT .i64 i] (lN (Jo l i)):=by
 refine aP.intro Tryz.func166 rfl Tryz.ntmps166 rfl (fun cx=>(ts (rn rfl (eK (Ts:=[Is (.int .i64 0),Is (.int .i64 0),Is (.int .i64 0)]) O_48 rfl (fun V=>aW zd (aW zd (aW zd (aG))))) fun B4=>(eJ (cK (ts (rm rfl (ro rfl (dU U_22 (Ht rfl) aA) (ro rfl (cA (Ht rfl) (cJ 0)) (eJ (dQ (Ht rfl) (fun hb=>?_) (fun hb=>?_))))))))))))
 ·have hb2 : l.length = 0 := by simpa only [decide_eq_true_eq] using hb
  refine ts (ro rfl (Vb ) (gZ Z_48 (Ht rfl) (Ht rfl) rfl (i:=0) rfl (aK rfl) rfl rfl (eJ (fK rfl (fJ (fY A_48 Z_48 rfl (i:=0) rfl rfl) ?_)))))
  exact (fun v V h=>by rw [Jo,if_pos hb2]; exact h)
 ·have hb2 : ¬ l.length = 0 := by simpa only [decide_eq_false_iff_not] using hb
  have hm:=Nat.mod_lt i (Nat.pos_of_ne_zero hb2)
  refine cU (ts (rm rfl (rm rfl (rm rfl (ro rfl (dU U_22 (Ht rfl) aA) (ro rfl (kE (Ht rfl) (Ht rfl) zo) (ro rfl (dZ U_22 Z_48 (Ht rfl) (Ht rfl) rfl (eX (eQ (d:=default) hm))) (ro rfl (dJ A_48 Z_48 (Ht rfl)) (gZ Z_48 (Ht rfl) (Ht rfl) rfl (i:=0) rfl (aK rfl) rfl rfl (eJ (fK rfl (fJ (fY A_48 Z_48 rfl (i:=0) rfl rfl) ?_))))))))))))
  exact (fun v V h=>by rw [Jo,if_neg hb2]; exact h)
end
section
open Go Go.RowKit
theorem Ql {M:List (List Qi)} {n m:Nat} (h:eR M n m) (hn:n ≤ 32) (hm:m ≤ 32):aP Tryz.prog 255 [QM M] (aC true):=by
 have hl:=h.1
 refine aP.intro Tryz.func255 rfl Tryz.ntmps255 rfl (fun cx=>(ts (ro rfl (cQ cV) (eJ (cK (ts (rm rfl (ro rfl (dU U_30 (Ht rfl) aA) (ro rfl (eN (Ht rfl) (cJ 32)) (eJ (gS (Ht rfl) (by simp [hl]; omega) ?_)))))))))))
 refine cU (cK (ts (ro rfl (cQ (cJ 0)) (eJ (eU ?_)))))
 refine bF (fun (i : Nat) => i ≤ n) (fun (i : Nat) => n - i) (fun (i : Nat) => [(0, QM M), (3, NT .i64 i)]) (fun (i : Nat) => []) 0 (Nat.zero_le _)
  (zS rfl) aY (fun i hi=>?_)
 refine cK (ts (rm rfl (rm rfl (ro rfl (dU U_30 (Ht rfl) aA) (ro rfl (gJ (Ht rfl) (Ht rfl)) (eJ (dQ (Ht rfl) (fun hd=>?_) (fun hd=>?_))))))))
 ·have hdn : i < n := by simp only [decide_eq_true_eq] at hd; omega
  have hr:=h.row hdn
  have hr0:=h.row (i:=0) zo
  simp at hr hr0
  refine cU (cK (eU (cK (fV (m:=13) (dp 0 rfl (cX (Ht rfl)) (dp 3 rfl (cX (Ht rfl)) (bR 13 0 14 1 rfl (dZ U_30 Z_29 (Ht rfl) (Ht rfl) rfl (eX (eQ (d:=[]) zo))) (dq 15 2 rfl (dJ A_29 Z_29 (Ht rfl)) (dq 16 3 rfl (dU U_29 (Ht rfl) aA) (dp 0 rfl (cX (Ht rfl)) (dq 18 5 rfl (dZ U_30 Z_29 (Ht rfl) (cJ 0) rfl (eX (eQ (d:=[]) zo))) (dq 19 6 rfl (dJ A_29 Z_29 (Ht rfl)) (dq 20 7 rfl (dU U_29 (Ht rfl) aA) ?_)))))))))))))
  refine bR 17 4 21 8 rfl (iQ (Ht rfl) (Ht rfl)) (dq 22 9 rfl (cX (Ht rfl)) (C.D_step (Ei:=[(0,_),(23,_)]) rfl rfl (bV (bK rfl rfl) (bV (bG 10 rfl rfl) bW)) (eY rfl rfl (Ht rfl) (fun h=>cX (Ht rfl))) (C.D_step (Ei:=[(3,_),(23,_)]) rfl rfl (bV (bK rfl rfl) (bV (bG 10 rfl rfl) bW)) (eY rfl rfl (Ht rfl) (fun h=>cX (Ht rfl))) (fG aO rfl (by kernel_rfl) (zF (zF (zF (aJ (aV ?_)))))))))
  refine fZ rfl rfl (eY rfl rfl (Ht rfl) (fun h=>dZ U_30 Z_29 (fW rfl h) (fW rfl h) rfl (eX (eQ (d:=[]) zo)))) (fZ rfl rfl (eY rfl rfl (Ht rfl) (fun h=>dJ A_29 Z_29 (fW rfl h))) (fZ rfl rfl (eY rfl rfl (Ht rfl) (fun h=>dU U_29 (fW rfl h) aA)) (fZ rfl rfl (eY rfl rfl (Ht rfl) (fun h=>eN (fW rfl h) (cJ 32))) (ro rfl (kP (Ht rfl) (fun h=>(fW rfl h))) (eJ (gS (Ht rfl) (by simp [hr,hr0]; omega) ?_))))))
  refine cU (bC (cY (rm rfl (ro rfl (dW (Ht rfl) (cJ 1) z6) (ra rfl (eJ (gQ (i + 1) hdn zo (zS rfl) aY)))))))
 ·refine gG rfl (ts (ro rfl (cQ cV) (eJ ?_)))
  exact fK rfl (fQ rfl)
theorem Ey  : aP Tryz.prog 256 [QM []] (NT .i64 0):=by
 refine aP.intro Tryz.func256 rfl Tryz.ntmps256 rfl (fun cx=>(ts (ro rfl (cQ (cJ 0)) (eJ (cK (ts (rm rfl (ro rfl (dU U_30 (Ht rfl) aA) (ro rfl (cA (Ht rfl) (cJ 0)) (eJ (wY (Ht rfl) (by rfl) ?_)))))))))))
 refine ts (ro rfl (cQ (cJ 0)) (eJ ?_))
 exact fK rfl (fQ rfl)
theorem Iw {M:List (List Qi)} {n m:Nat} (h:eR M n m) (h1:1 ≤ n):aP Tryz.prog 256 [QM M] (NT .i64 m):=by
 have hl:=h.1
 have hr0:=h.row (i:=0) zo
 refine aP.intro Tryz.func256 rfl Tryz.ntmps256 rfl (fun cx=>(ts (ro rfl (cQ (cJ 0)) (eJ (cK (ts (rm rfl (ro rfl (dU U_30 (Ht rfl) aA) (ro rfl (cA (Ht rfl) (cJ 0)) (eJ (gS (Ht rfl) (by simp [hl]; omega) ?_)))))))))))
 refine cU (ts (rm rfl (ro rfl (dZ U_30 Z_29 (Ht rfl) (cJ 0) rfl (eX (eQ (d:=[]) zo))) (ro rfl (dJ A_29 Z_29 (Ht rfl)) (ro rfl (dU U_29 (Ht rfl) aA) (ra rfl (eJ (fK rfl (fJ (fQ rfl) ?_)))))))))
 exact (jQ hr0)
theorem Ez {M:List (List Qi)} {n m:Nat} (h:eR M n m) (h1:1 ≤ n ∨ m = 0):aP Tryz.prog 256 [QM M] (NT .i64 m):=by
 by_cases e:n = 0
 ·subst e
  obtain rfl:=List.length_eq_zero_iff.1 h.1
  rw [show m = 0 by omega]; exact Ey
 ·exact Iw h zo
theorem Iy {M:List (List Qi)} {n:Nat} (hM:eR M n n) (hn:n ≤ 32):aP Tryz.prog 208 [QM M] (aC true):=by
 have hl:=hM.1
 refine aP.intro Tryz.func208 rfl Tryz.ntmps208 rfl (fun cx=>(ts (ro rfl (cQ cV) (eJ (ts (rm rfl (ro rfl (cZ Tryz.call255 (Ql hM hn hn) ⟨(Ht rfl),trivial⟩) (rm rfl (fZ rfl rfl (eY rfl rfl (Ht rfl) (fun h=>cX (Ht rfl))) (fZ rfl rfl (eY rfl rfl (Ht rfl) (fun h=>dU U_30 (fW rfl h) aA)) (fZ rfl rfl (eY rfl rfl (Ht rfl) (fun h=>cX (Ht rfl))) (fZ rfl rfl (eY rfl rfl (Ht rfl) (fun h=>cZ Tryz.call256 (Ez hM zo) ⟨(fW rfl h),trivial⟩)) (fZ rfl rfl (eY rfl rfl (Ht rfl) (fun h=>cA (fW rfl h) (fW rfl h))) ?_)))))))))))))
 refine ro rfl (dO (Ht rfl) (fun h=>(fW rfl h))) (ra rfl (eJ (fK rfl (fJ (fQ rfl) ?_))))
 exact (bN (by simp [hl]))
theorem Fa {M:List (List Qi)} {n m:Nat} (hM:eR M n m) (hn:n ≤ 1000) (h1:1 ≤ m) (hm:m ≤ 1000):iI Tryz.prog 113 [QM M] [] (Nat) (fun B=>Is (.slice (some ⟨B,0,none⟩) n n)) (fun B=>[pL B 29 130 5 (cL QT M)]) (fun _=>True):=by
 have hMl:=hM.1
 refine iI.intro Tryz.func113 rfl Tryz.ntmps113 rfl (fun cx Z=>(ts (ro rfl (cQ cV) (eJ (ts (rm rfl (ro rfl (dU U_30 (Ht rfl) (by rw [List.length_map,hMl])) ?_)))))))
 refine rn rfl (eI (T:=Is (.slice none 0 0)) (i:=Tryz.t29) Tryz.underlying30 Dn rfl rfl (Ht rfl) rfl (fun _=>rfl) trivial (by show 24 * _ ≤ _; omega) zo) fun B7=>ra rfl (eJ (cK (ts (ro rfl (cQ (cJ 0)) (eJ (eU (pZ 1 rfl (xK (e:=130) (s:=5)) ?_)))))))
 refine bF (fun (i : Nat) => i ≤ n) (fun (i : Nat) => n - i) (fun (i : Nat) => [(0, QM M), (3, Is (.slice (some ⟨B7, 0, none⟩) n n)), (4, NT .i64 i)]) (fun (i : Nat) => [Z, pL B7 29 130 5 (cL QT (lO (dH M) [] n i))]) 0 (Nat.zero_le _)
  (zS rfl) (aU (fun _ _ _ h=>h) (aU (dM (by rw [← jX,sH]; exact qW QT n)) aY)) (fun i hi=>?_)
 refine cK (ts (rm rfl (rm rfl (ro rfl (dU U_30 (Ht rfl) aA) (ro rfl (gJ (Ht rfl) (Ht rfl)) (eJ (dQ (Ht rfl) (fun hd0=>?_) (fun hd0=>?_))))))))
 ·have hdn : i < n := by simp only [decide_eq_true_eq] at hd0; omega
  have hrl:(dH M i).length = m:=hM.row hdn
  have hrl2:(M.getD i []).length = m:=hrl
  refine oV 1 (i) rfl (tV hdn) (fun v0=>(cU (cK (eU (cY (rm rfl (rm rfl (rn rfl (vV U_29 Z_130 O_130) fun B16=>(rm rfl (rm rfl (ro rfl (dZ U_30 Z_29 (Ht rfl) (Ht rfl) rfl (eX (eQ (d:=[]) zo))) (ro rfl (dJ A_29 Z_29 (Ht rfl)) (Ba (inf:=Tryz.t130) Jz zB rfl rfl rfl (Ht rfl) (Ht rfl) (i:=3) rfl (fun T hT=>by obtain ⟨x,_,rfl⟩:=List.mem_map.1 hT; exact El.ag rfl) (by show _ * 88 ≤ _; simp only [List.length_map,List.length_append,List.length_take,List.length_cons,List.length_nil]; omega) (by simp only [List.length_map,List.length_append,List.length_take,List.length_cons,List.length_nil]; omega) rfl (fun v1=>?_))))))))))))))
  refine ro rfl (gX U_30 Z_29 (Ht rfl) (Ht rfl) rfl zo (by rw [Nat.mul_one,Nat.zero_add])) ?_
  refine yC Z_29 (Ht rfl) (Ht rfl) (by simp only [cL,List.length_map,fH]; omega) (j:=1) (l:=3) rfl rfl rfl ?_
  refine eJ (bC (eB [0,1,3] rfl (by decide) (jH 1 2 rfl rfl (by decide) (by simp only [cL,List.length_map,fH]; omega) ?_)))
  refine cY (rm rfl (ro rfl (dW (Ht rfl) (cJ 1) z6) (ra rfl (eJ (eB [0,1] rfl (by decide) (gQ (i + 1) hdn zo (zS rfl) (aU (fun _ _ _ h=>h) (aU (dM (by rw [List.nil_append,jY,← lI (f:=dH M)])) aY))))))))
 ·have hin : i = n := by simp only [decide_eq_false_iff_not] at hd0; omega
  subst hin
  refine gG rfl (ts (rm rfl (ra rfl (eJ ?_))))
  exact kG B7 trivial [0,1] ⟨⟨_,rfl,fun _ _ _ h=>h⟩,⟨_,rfl,(dM (by rw [lH]; exact congrArg _ (Ae (h:=hMl)).symm))⟩,trivial⟩ (by decide) (vG rfl (fQ rfl))
end
section
open Go Go.RowKit
def sq (n:Nat) (x y:Nat → Qi) (C:Nat → Nat → Qi):Qi:=bM n fun a=>bM n fun b=>(x a).conj * C a b * y b
section
variable {n:Nat} {x y z x' y':Nat → Qi} {C C':Nat → Nat → Qi}
theorem Hi (hx : ∀ a, a < n → x a = x' a) (hy : ∀ a, a < n → y a = y' a) (hC : ∀ a b, a < n → b < n → C a b = C' a b) : sq n x y C = sq n x' y' C' :=
 bT fun a ha=>bT fun b hb=>by rw [hx a ha,hy b hb,hC a b ha hb]
theorem Tn (f:Qi):sq n x (fun b=>y b + f * z b) C = sq n x y C + f * sq n x z C:=by
 have e : ∀ a, a < n → (bM n fun b => (x a).conj * C a b * (y b + f * z b)) = (bM n fun b => (x a).conj * C a b * y b) + f * bM n fun b => (x a).conj * C a b * z b := fun a _ => by
  rw [← mW,← rC]; exact bT fun b _=>by grind
 rw [sq,bT e,rC,mW]; rfl
theorem Eb (f:Qi):sq n (fun a=>x a + f * z a) y C = sq n x y C + f.conj * sq n z y C:=by
 have e : ∀ a, a < n → (bM n fun b => (x a + f * z a).conj * C a b * y b) = (bM n fun b => (x a).conj * C a b * y b) + f.conj * bM n fun b => (z a).conj * C a b * y b := fun a _ => by
  rw [← mW,← rC]; exact bT fun b _=>by rw [tN,mI]; grind
 rw [sq,bT e,rC,mW]; rfl
theorem Mn (hC:∀ a b,a < n → b < n → C a b = (C b a).conj):sq n y x C = (sq n x y C).conj:=by
 rw [sq,sq,tO,vJ]
 exact bT fun a ha => by
  rw [tO]
  exact bT fun b hb=>by rw [mI,mI,rN,hC b a hb ha]; grind
end
theorem Mi {x:Qi} (h:x = x.conj):x.im = 0:=by
 have:x.im = -x.im:=congrArg Qi.im h
 grind
theorem Bk {x:Qi} (h:x.im = 0):x.conj = x:=Qi.ext' rfl (by show -x.im = x.im; grind)
theorem qF (x:Qi):(0:Rat) < ((x.den:Int):Rat):=by
 have:=x.den_pos
 have h:(0:Int) < (x.den:Int):=by omega
 exact_mod_cast h
theorem Jj {x:Qi} (h:x.im = 0):Ax x = true ↔ x.re < 0:=by
 obtain ⟨d1,d2⟩:=rQ x
 have dp:=qF x
 have hb : x.b = 0 := by
  rw [h] at d2
  have:((x.b:Int):Rat) = 0:=by grind
  exact_mod_cast this
 have e : Au x Qi.zero = iE x.a 0 := by
  have z1:Qi.zero.den = 1:=by decide +kernel
  have z2:Qi.zero.a = 0:=by decide +kernel
  have z3:Qi.zero.b = 0:=by decide +kernel
  rw [Au,z1,z2,z3,hb]
  simp only [Int.natCast_one,Int.mul_one,Int.zero_mul]
  by_cases c:iE x.a 0 = 0
  ·rw [if_neg (fun k=>k c),c]; decide
  ·rw [if_pos c]
 rw [Ax,decide_eq_true_iff,e]
 have e2 : iE x.a 0 < 0 ↔ x.a < 0 := by
  unfold iE
  constructor
  ·intro k; revert k; split
   ·intro _; assumption
   ·split <;> intro k <;> omega
  ·intro k; rw [if_pos k]; decide
 rw [e2]
 constructor
 ·intro k
  have k2:((x.a:Int):Rat) < 0:=by exact_mod_cast k
  rw [← d1] at k2
  apply Decidable.byContradiction
  intro c
  have:=Rat.mul_nonneg (Rat.le_of_lt dp) (Rat.not_lt.1 c)
  grind
 ·intro k
  have k2 : ((x.den : Int) : Rat) * x.re < 0 := by
   have:=Rat.mul_pos dp (show 0 < -x.re by grind)
   grind
  rw [d1] at k2
  exact_mod_cast k2
abbrev vv (V:List (List Qi)) (r:Nat):Nat → Qi:=gv (V.getD r [])
section
variable {h:List (List Qi)} {n:Nat}
theorem Lo (hh:jE h n = true) {a b:Nat} (ha:a < n) (hb:b < n):gm h a b = (gm h b a).conj:=of_decide_eq_true hh a ha b hb
theorem a0G {G:List (List Qi)} {i r c:Nat} (hr:r < n) (hc:c < n) (h1:i < r) (h2:i < c):gm (dfE G n i) r c = gm G r c - gm G r i * (gm G i c / gm G i i):=by
 rw [dfE,uN,jK hr hc,if_pos ⟨⟨h1,h2⟩,.inl hc⟩]
theorem Qx {G V:List (List Qi)} {i r a:Nat} (hr:r < n) (h1:i < r) (hl:(V.getD r []).length = n) (ha:a < n):vv (nL G V n i n) r a = vv V r a + -(gm G i r / gm G i i) * vv V i a:=by
 show gv ((nL G V n i n).getD r []) a = _
 rw [nL,rE hr,if_pos ⟨h1,hr⟩,Xl,pI zo]
theorem tS (hs : eR h n n) (hh : jE h n = true) : ∀ i, i ≤ n → ∀ r c, i ≤ r → r < n → i ≤ c → c < n → gm (gK h n i).1 r c = sq n (vv (gK h n i).2 r) (vv (gK h n i).2 c) (gm h)
 | 0, _, r, c, _, hr, _, hc => by
  have e:∀ r,r < n → ∀ a,a < n → vv (yZ n) r a = if r = a then 1 else 0:=fun r hr a ha=>a1X hr ha
  have e1 : ∀ a, a < n → (bM n fun b => (vv (yZ n) r a).conj * gm h a b * vv (yZ n) c b) = if a = r then gm h a c else 0 := fun a ha => by
   rw [rD hc (fun b hb hne=>by rw [e c hc b hb,if_neg (Ne.symm hne)]; grind),e c hc c hc,if_pos rfl,e r hr a ha]
   by_cases k:r = a
   ·rw [if_pos k,if_pos k.symm,yQ]; grind
   ·rw [if_neg k,if_neg (Ne.symm k),oH]; grind
  show gm h r c = sq n (vv (yZ n) r) (vv (yZ n) c) (gm h)
  rw [sq,bT e1,rD hr (fun a _ hne=>if_neg hne),if_pos rfl]
 | i + 1, hi, r, c, h1, hr, h2, hc => by
  have ih:=tS hs hh i zo
  obtain ⟨hG,hV⟩:=rR hs i zo
  by_cases k:gm (gK h n i).1 i i = 0
  ·rw [qG k]; exact ih r c zo hr zo hc
  ·rw [yS k]
   dsimp only
   generalize hD:gK h n i = D at *
   obtain ⟨G,V⟩:=D
   dsimp only at *
   rw [a0G hr hc zo zo]
   have s1 : sq n (vv (nL G V n i n) r) (vv (nL G V n i n) c) (gm h) = sq n (fun a => vv V r a + -(gm G i r / gm G i i) * vv V i a) (fun a => vv V c a + -(gm G i c / gm G i i) * vv V i a) (gm h) :=
    Hi (fun a ha=>Qx hr zo (hV.row hr) ha) (fun a ha=>Qx hc zo (hV.row hc) ha) fun _ _ _ _=>rfl
   rw [s1,Tn,Eb,Eb,← ih r c zo hr zo hc,← ih i c zo zo zo hc,← ih r i zo hr zo zo,← ih i i zo zo zo zo]
   have d:=qJ (x:=gm G i c) k
   generalize gm G i c / gm G i i = f at *
   generalize (-(gm G i r / gm G i i)).conj = g at *
   grind
theorem yT (hs:eR h n n) (hh:jE h n = true) {i r c:Nat} (hi:i ≤ n) (h1:i ≤ r) (hr:r < n) (h2:i ≤ c) (hc:c < n):gm (gK h n i).1 r c = (gm (gK h n i).1 c r).conj:=by
 rw [tS hs hh i hi r c h1 hr h2 hc,tS hs hh i hi c r h2 hc h1 hr]
 exact Mn fun a b ha hb=>Lo hh ha hb
theorem Fq (hs:eR h n n) (hh:jE h n = true) {i r:Nat} (hi:i ≤ n) (h1:i ≤ r) (hr:r < n):(gm (gK h n i).1 r r).im = 0:=Mi (yT hs hh hi h1 hr h1 hr)
theorem Lf (hs : eR h n n) (hh : jE h n = true) : ∀ f i, i + f = n → (uL h n f i).1 = false → Ax (sq n (gv (uL h n f i).2) (gv (uL h n f i).2) (gm h)) = true ∧ (uL h n f i).2.length = n
 | 0,i,_,k=>by cases k
 | f + 1, i, hf, k => by
  have hin:i < n:=by omega
  obtain ⟨hG,hV⟩:=rR hs i zo
  have form:=tS hs hh i zo
  have herm:∀ {r c},i ≤ r → r < n → i ≤ c → c < n → gm (gK h n i).1 r c = (gm (gK h n i).1 c r).conj:=fun a b c d=>yT hs hh zo a b c d
  have real:∀ {r},i ≤ r → r < n → (gm (gK h n i).1 r r).im = 0:=fun a b=>Fq hs hh zo a b
  rw [uL] at k ⊢
  by_cases c1:Ax (gm (gK h n i).1 i i) = true
  ·rw [if_pos c1]
   have e:=form i i (Nat.le_refl _) hin (Nat.le_refl _) hin
   rw [e] at c1
   exact ⟨c1,hV.row hin⟩
  ·rw [if_neg c1] at k ⊢
   by_cases c2:vT (gK h n i).1 (gK h n i).2 n i ≠ []
   ·rw [if_pos c2]
    dsimp only
    rw [vT] at c2 ⊢
    by_cases c3:gm (gK h n i).1 i i = 0
    ·rw [if_pos c3] at c2 ⊢
     by_cases c4:Nf (gK h n i).1 n i < n
     ·rw [if_pos c4]
      obtain ⟨⟨p1,p2⟩,p3,p4⟩:=rU (p:=fun k=>!decide (gm (gK h n i).1 i k = 0)) (f:=n - (i + 1)) (k:=i + 1)
      have q:=p4 (by show Nf (gK h n i).1 n i < _; omega)
      have p1':i + 1 ≤ Nf (gK h n i).1 n i:=p1
      have hgne : ¬ gm (gK h n i).1 i (Nf (gK h n i).1 n i) = 0 := by
       have:(!decide (gm (gK h n i).1 i (Nf (gK h n i).1 n i) = 0)) = true:=q
       simpa using this
      generalize hkk:Nf (gK h n i).1 n i = kk at *
      generalize hD:gK h n i = D at *
      obtain ⟨G,V⟩:=D
      dsimp only at *
      refine ⟨?_,by rw [Uk,Dp]; exact hV.row c4⟩
      have s1 : sq n (gv (Uk G V i kk)) (gv (Uk G V i kk)) (gm h) = sq n (fun a => vv V kk a + (-(rO G i kk) * gm G i kk) * vv V i a) (fun a => vv V kk a + (-(rO G i kk) * gm G i kk) * vv V i a) (gm h) := by
       have:∀ a,a < n → gv (Uk G V i kk) a = vv V kk a + (-(rO G i kk) * gm G i kk) * vv V i a:=fun a ha=>by rw [Uk,Xl,pI (by rw [hV.row c4]; exact ha)]
       exact Hi this this fun _ _ _ _=>rfl
      rw [s1,Tn,Eb,Eb,← form kk kk zo c4 zo c4,← form i kk zo hin zo c4,← form kk i zo c4 zo hin,← form i i zo hin zo hin,c3]
      have hN:=zM hgne
      have sd:rO G i kk * ((gm G i kk).norm + (gm G i kk).norm) = Hw (gm G kk kk) + 1:=qJ hN
      have zr : (Hw (gm G kk kk)).im = 0 := by
       unfold Hw; split
       ·show -(gm G kk kk).im = 0; rw [real zo c4]; grind
       ·exact real zo c4
      have cN:((gm G i kk).norm).conj = (gm G i kk).norm:=Bk rfl
      have sc : (rO G i kk).conj = rO G i kk := by
       have:=congrArg Qi.conj sd
       rw [mI,tN,tN,cN,Bk zr,yQ,← sd] at this
       have e2:((rO G i kk).conj - rO G i kk) * ((gm G i kk).norm + (gm G i kk).norm) = 0:=by grind
       rcases nW e2 with k | k
       ·grind
       ·exact absurd k hN
      have hki:gm G kk i = (gm G i kk).conj:=herm zo c4 zo hin
      have gg:=Qi.mul_conj_norm (gm G i kk)
      have cneg : (-(rO G i kk) * gm G i kk).conj = -(rO G i kk) * (gm G i kk).conj := by
       rw [mI,show (-(rO G i kk)).conj = -(rO G i kk).conj from Qi.ext' rfl rfl,sc]
      have tot : gm G kk kk + (-(rO G i kk) * gm G i kk).conj * gm G i kk + -(rO G i kk) * gm G i kk * (gm G kk i + (-(rO G i kk) * gm G i kk).conj * 0) = gm G kk kk - (Hw (gm G kk kk) + 1) := by
       rw [cneg,hki,← sd,← gg]; grind
      rw [tot]
      have im0 : (gm G kk kk - (Hw (gm G kk kk) + 1)).im = 0 := by
       show (gm G kk kk).im - ((Hw (gm G kk kk)).im + 0) = 0
       rw [real zo c4,zr]; grind
      rw [Jj im0]
      show (gm G kk kk).re - ((Hw (gm G kk kk)).re + 1) < 0
      have rr:=Jj (real (r:=kk) zo c4)
      unfold Hw
      by_cases c5:Ax (gm G kk kk) = true
      ·rw [if_pos c5]
       have:=rr.1 c5
       show (gm G kk kk).re - (-(gm G kk kk).re + 1) < 0
       grind
      ·rw [if_neg c5]; grind
     ·rw [if_neg c4] at c2; exact absurd rfl c2
    ·rw [if_neg c3] at c2; exact absurd rfl c2
   ·rw [if_neg c2] at k ⊢
    exact Lf hs hh f (i + 1) zo k
def ei (i:Nat) (v:Qi) (a:Nat):Qi:=if a = i then v else 0
def mk (i:Nat) (y:Nat → Qi) (r:Nat):Qi:=if i ≤ r then y r else 0
end
end
end Go.Proofs.YtdlciihkiefckaaGreat
