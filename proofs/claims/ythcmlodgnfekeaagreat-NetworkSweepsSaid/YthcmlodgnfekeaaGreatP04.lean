/- What functions of the program compute, proved by walks over their code, and the plain mathematics of it; a part of the proof in the last text. -/
import Derived.Test.YthcmlodgnfekeaaGreatP03
set_option linter.unusedVariables false
set_option linter.unusedSimpArgs false
set_option maxRecDepth 100000
set_option maxHeartbeats 4000000
namespace Go.Proofs.YthcmlodgnfekeaaGreat
section
open Go Go.RowKit
theorem Ua {n:Nat} (h:n < 4294967296):bA Tryz.prog 289 [NT .u64 1,NT .u64 n] (eT [NT .u64 0,NT .u64 n]):=by
 refine bA.intro Tryz.func289 rfl Tryz.ntmps289 rfl (fun cx=>(ts (ro rfl (cQ (cJ 0)) (ro rfl (cQ (cJ 0)) (eX (ts (rm rfl (ro rfl (aE.nat (rM rfl (Ht rfl) (cJ 4294967295) z7 z7) (show (1:Nat) &&& 4294967295 = 1 by decide)) (ra rfl (eX (ts (rm rfl (ro rfl (aE.nat (dD (Ht rfl) (cJ 32) (by decide)) (show (1:Nat) / 2 ^ 32 = 0 by decide)) (ra rfl (eX (ts (rm rfl (ro rfl (aE.nat (rM rfl (Ht rfl) (cJ 4294967295) z7 z7) (show n &&& 4294967295 = n from (Nat.and_two_pow_sub_one_eq_mod n 32).trans (Nat.mod_eq_of_lt h))) ?_))))))))))))))))))
 refine ra rfl (eX (ts (rm rfl (ro rfl (aE.nat (dD (Ht rfl) (cJ 32) (by decide)) (show n / 2 ^ 32 = 0 from Nat.div_eq_of_lt h)) (ra rfl (eX (ts (rm rfl (rm rfl (ro rfl (aE.nat (jL (Ht rfl) (Ht rfl) z7) (Nat.one_mul n)) (ra rfl (eX (ts (rm rfl (rm rfl (ro rfl (aE.nat (jL (Ht rfl) (Ht rfl) z7) (Nat.zero_mul n)) (rm rfl (ro rfl (aE.nat (dD (Ht rfl) (cJ 32) (by decide)) (show n / 2 ^ 32 = 0 from Nat.div_eq_of_lt h)) ?_))))))))))))))))))
 refine ro rfl (dV (Ht rfl) (Ht rfl) z7) (ra rfl (eX (ts (rm rfl (ro rfl (aE.nat (rM rfl (Ht rfl) (cJ 4294967295) z7 z7) (show (0 + 0:Nat) &&& 4294967295 = 0 by decide)) (ra rfl (eX (ts (rm rfl (ro rfl (aE.nat (dD (Ht rfl) (cJ 32) (by decide)) (show (0 + 0:Nat) / 2 ^ 32 = 0 by decide)) (ra rfl (eX (ts (rm rfl (rm rfl (rm rfl ?_))))))))))))))))
 refine ro rfl (aE.nat (jL (Ht rfl) (Ht rfl) z7) (show (1 * 0:Nat) = 0 by decide)) (ro rfl (dV (Ht rfl) (Ht rfl) z7) (ra rfl (eX (ts (rm rfl (rm rfl (ro rfl (aE.nat (jL (Ht rfl) (Ht rfl) z7) (show (0 * 0:Nat) = 0 by decide)) (rm rfl (ro rfl (dV (Ht rfl) (Ht rfl) z7) ?_)))))))))
 refine rm rfl (ro rfl (aE.nat (dD (Ht rfl) (cJ 32) (by decide)) (show (0 + 0:Nat) / 2 ^ 32 = 0 by decide)) (ro rfl (dV (Ht rfl) (Ht rfl) z7) (ra rfl (eX (ts (rm rfl (rm rfl (ro rfl (aE.nat (jL (Ht rfl) (Ht rfl) z7) (Nat.one_mul n)) (ra rfl (eX (bC rfl (fX (eU rfl) ?_) (eU rfl))))))))))))
 exact (kR (by decide))
theorem Zq {n:Nat} (h:n < 4294967296):bA Tryz.prog 259 [NT .u64 1,NT .u64 n] (eT [NT .u64 0,NT .u64 n]):=by
 refine bA.intro Tryz.func259 rfl Tryz.ntmps259 rfl (fun cx=>(ts (ro rfl (cQ (cJ 0)) (ro rfl (cQ (cJ 0)) (eX (cK (dQ cV (fun hf=>?_) (fun hf=>?_))))))))
 ·exact absurd hf (by decide)
 ·refine cU (ts (rm rfl (rm rfl (ro rfl (cZ Tryz.call289 (Ua h) ⟨(Ht rfl), (Ht rfl), trivial⟩) (rm rfl (ro rfl (dK (Ht rfl) rfl) (ro rfl (dK (Ht rfl) rfl) (ra rfl (ra rfl (eX (ts (rm rfl (rm rfl (ra rfl (ra rfl (eX ?_))))))))))))))))
  exact bC rfl (eU rfl) (eU rfl)
theorem Zn {m:Nat} (h1:1 ≤ m) (hm:m ≤ 1000):iM Tryz.prog 212 [dB [Qi.zero],NT .i64 m] [] ({v:Value // uB v}) (fun v=>Is v.1) (fun v=>[bF 32 5 v.1 ((tab m fun _=>Qi.zero).map aT)]) (fun _=>True):=by
 refine iM.intro Tryz.func212 rfl Tryz.ntmps212 rfl (fun cx Z=>(ts (ro rfl (cQ cV) (eX (cK (ts (rm rfl (ro rfl (gX (Ht rfl) (cJ 0)) (eX (dQ (Ht rfl) (fun h0=>?_) (fun h0=>?_)))))))))))
 ·simp only [decide_eq_true_eq] at h0
  omega
 ·refine cU (ts (rm rfl (ro rfl (dG U_54 (Ht rfl) (show (([Qi.zero].map aT).length : Int) = ((1 : Nat) : Int) from rfl)) (ro rfl (gZ U_3 U_275 (Ht rfl) z7) (rm rfl (ro rfl (gZ U_3 U_275 (Ht rfl) z7) (ro rfl (cZ Tryz.call259 (Zq zo) ⟨(Ht rfl), (Ht rfl), trivial⟩) (rm rfl (ro rfl (dK (Ht rfl) rfl) (ro rfl (dK (Ht rfl) rfl) ?_))))))))))
  refine ra rfl (ra rfl (eX (cK (ts (rm rfl (ro rfl (cH (Ht rfl) (cJ 0)) (rm rfl (fQ rfl rfl (eK rfl rfl (Ht rfl) (fun h=>cX (Ht rfl))) (fQ rfl rfl (eK rfl rfl (Ht rfl) (fun h=>cH (fJ rfl h) (cJ 9223372036854775807))) (ro rfl (iR (Ht rfl) (fun h=>(fJ rfl h))) (eX (dQ (Ht rfl) (fun h2=>?_) (fun h2=>?_)))))))))))))
  ·simp only [Bool.or_eq_true, decide_eq_true_eq] at h2
   omega
  ·refine cU (ts (rm rfl (ro rfl (gZ U_275 U_3 (Ht rfl) z6) (Ti (T := aT Qi.zero) (i := Tryz.t32) qV nQ rfl rfl (Ht rfl) rfl lG (El.ag rfl) (by show 88 * _ ≤ _; omega) zo rfl (fun B30 hB30 => (ra rfl (eX (ts (rm rfl (rm rfl (ro rfl (Rb (q := 1) (T := aT Qi.zero) U_54 Z_32 (i := 1) rfl (Ht rfl) (Ht rfl) (by decide) (El.ag rfl) zo) (ra rfl (eX (cK (eG ?_)))))))))))))))
   refine cL (fun (k : Nat) => 1 ≤ k ∧ k ≤ m) (fun (k : Nat) => m - k) (fun (k : Nat) => [(7, Is B30), (8, NT .i64 k)]) (fun (k : Nat) => [Z, bF 32 5 B30 (List.replicate m (aT Qi.zero))]) (Nat.min 1 m) ⟨by show 1 ≤ min 1 m; omega, by show min 1 m ≤ m; omega⟩
    (zS rfl) (bP.refl _) (fun k ⟨hk1,hk⟩=>?_)
   refine cK (ts (rm rfl (rm rfl (ro rfl (rO U_54 (Ht rfl) (i:=1) rfl (show ((List.replicate m (aT Qi.zero)).length:Int) = ((m:Nat):Int) by simp)) (ro rfl (gX (Ht rfl) (Ht rfl)) (eX (dQ (Ht rfl) (fun hd=>?_) (fun hd=>?_))))))))
   ·simp only [decide_eq_true_eq] at hd
    have hlen:(List.replicate m (aT Qi.zero)).length = m:=by simp
    have h5:Nat.min k ((List.replicate m (aT Qi.zero)).length - k) = min k (m - k):=by rw [hlen]
    refine cU (eG (fZ (m:=8) (dp 8 rfl (cX (Ht rfl)) (dp 7 rfl (cX (Ht rfl)) (dp 8 rfl (cX (Ht rfl)) (cI 39 1 40 2 rfl (Rf U_54 Z_32 (Ht rfl) (Ht rfl) rfl (i:=1) rfl (by rw [hlen]; exact hd)) ?_))))))
    refine dp 7 rfl (cX (Ht rfl)) (dp 8 rfl (cX (Ht rfl)) (cI 42 4 43 5 rfl (Rd U_54 Z_32 (Ht rfl) (Ht rfl) rfl (i:=1) rfl (by rw [hlen]; omega) (by rw [hlen]; omega)) ?_))
    refine cI 41 3 44 6 rfl (Hx (T:=aT Qi.zero) U_54 Z_32 (i:=1) rfl (Ht rfl) (Ht rfl)) (fV aO rfl (by kernel_rfl) (zF (zF (aV (ro rfl (dV (Ht rfl) (Ht rfl) (by show _ < 9223372036854775808; omega)) (ra rfl (eX (bD (fU (k + Nat.min k ((List.replicate m (aT Qi.zero)).length - k)) ⟨by omega,by omega⟩ zo (zS rfl) (bP.refl _))))))))))
   ·refine gV rfl (ts (rm rfl (ra rfl (eX ?_))))
    exact kX ⟨B30,hB30⟩ trivial [0,1] ⟨⟨_,rfl,fun _ _ _ h=>h⟩,⟨_,rfl,(bN (by rw [rR,qM]))⟩,trivial⟩ (by decide) (yX rfl (eU rfl))
end
section
open Go Go.RowKit
theorem Tt {n : Nat} {E : bM} {H : Hp} {d : Option Tmp} {t : TypeId} {pos : String} {af : Array Edge} {g : Option (Nat × Bool)}  :
  aE Tryz.prog n E H ⟨d,.build 23 #[],t,pos,af,g⟩ (dP [Is (.int .i64 0),Is (.int .i64 0),Is (.int .i64 0)]) :=
 eO (parts := []) fun a V w hs => by
  refine ⟨.agg #[(.int .i64 0),(.int .i64 0),(.int .i64 0)],?_,[(.int .i64 0),(.int .i64 0),(.int .i64 0)],rfl,aW (⟨rfl,trivial⟩) (aW (⟨rfl,trivial⟩) (aW (⟨rfl,trivial⟩) (aG)))⟩
  simp [Instr.build,Instr.fill,Sem.run_bind,Result.andThen,dF,O_23,U_23,Z_2]
theorem Dv {n : Nat} {E : bM} {H : Hp} {d : Option Tmp} {t : TypeId} {pos : String} {af : Array Edge} {g : Option (Nat × Bool)} {x0 : Operand} {T0 : Ty} [s0 : cE T0 1 false] (h0 : aS E x0 T0) :
  aE Tryz.prog n E H ⟨d,.build 23 #[(0,x0)],t,pos,af,g⟩ (dP [T0,Is (.int .i64 0),Is (.int .i64 0)]) :=
 eO (parts := [(0, x0)]) fun a V w hs => by
  have p0:=h0 n V a hs
  generalize e0:a.eval x0 = v0 at p0
  have q0:=(s0.ok v0 V p0).2.2 rfl
  refine ⟨.agg #[v0,(.int .i64 0),(.int .i64 0)],?_,[v0,(.int .i64 0),(.int .i64 0)],rfl,aW (⟨p0,q0⟩) (aW (⟨rfl,trivial⟩) (aW (⟨rfl,trivial⟩) (aG)))⟩
  simp [e0,Instr.build,Instr.fill,Sem.run_bind,Result.andThen,dF,q0.cells,O_23,U_23,Z_2]
theorem xT {n : Nat} {E : bM} {H : Hp} {d : Option Tmp} {t : TypeId} {pos : String} {af : Array Edge} {g : Option (Nat × Bool)} {x0 x2 : Operand} {T0 T2 : Ty} [s0 : cE T0 1 false] (h0 : aS E x0 T0) [s2 : cE T2 1 false] (h2 : aS E x2 T2) :
  aE Tryz.prog n E H ⟨d,.build 23 #[(0,x0),(2,x2)],t,pos,af,g⟩ (dP [T0,Is (.int .i64 0),T2]) :=
 eO (parts := [(0, x0), (2, x2)]) fun a V w hs => by
  have p0:=h0 n V a hs
  generalize e0:a.eval x0 = v0 at p0
  have q0:=(s0.ok v0 V p0).2.2 rfl
  have p2:=h2 n V a hs
  generalize e2:a.eval x2 = v2 at p2
  have q2:=(s2.ok v2 V p2).2.2 rfl
  refine ⟨.agg #[v0,(.int .i64 0),v2],?_,[v0,(.int .i64 0),v2],rfl,aW (⟨p0,q0⟩) (aW (⟨rfl,trivial⟩) (aW (⟨p2,q2⟩) (aG)))⟩
  simp [e0,e2,Instr.build,Instr.fill,Sem.run_bind,Result.andThen,dF,q0.cells,q2.cells,O_23,U_23,Z_2]
end
section
open Go Go.RowKit
theorem a0i {z:List Qi} {i:Nat} (h:i < z.length):∀ v V,(eT [aT (pkv z ((i + 1:Nat):Int)),aL .i64 (if 1 ≤ ((i + 1:Nat):Int) ∧ ((i + 1:Nat):Int) ≤ z.length then 0 else 1)]).p v V → (eT [aT (gv z i),aL .i64 0]).p v V:=by
 rw [show pkv z ((i + 1:Nat):Int) = gv z i from a0w h,if_pos zo]; exact fun _ _ h=>h
theorem a1l {n:Nat} {s:List (List Qi)} {i j:Nat} (h:i < n) (k:j < n):∀ v V,(eT [aT (Wk n s ((i + 1:Nat):Int) ((j + 1:Nat):Int)),aL .i64 (if (1 ≤ ((i + 1:Nat):Int) ∧ ((i + 1:Nat):Int) ≤ n) ∧ 1 ≤ ((j + 1:Nat):Int) ∧ ((j + 1:Nat):Int) ≤ n then 0 else 1)]).p v V → (eT [aT (gm s i j),aL .i64 0]).p v V:=by
 rw [show Wk n s ((i + 1:Nat):Int) ((j + 1:Nat):Int) = gm s i j from a0v h k,if_pos zo]; exact fun _ _ h=>h
end
section
open Go Go.RowKit
theorem Qi.zero_div (y:Qi):Qi.zero / y = Qi.zero:=by rw [Qi.div_def,Qi.zero_mul']
theorem pos_re {x:Qi} (h:gC x = true):x.im = 0 ∧ x.re ≠ 0:=by
 simp only [gC,decide_eq_true_eq] at h
 exact ⟨Qi.b_zero.1 h.1,fun e=>by have:=Qi.a_zero.2 e; omega⟩
end
section
open Go Go.RowKit
theorem Kf {α:Type} {l:List α} {d:α} {k:Nat} (h:k < l.length):l.getD k d = l[k]:=by simp [List.getD,h]
end
section
open Go Go.RowKit
namespace Qi
theorem Dt {x:Qi}:0 ≤ x.a ↔ 0 ≤ x.re:=by
 have hk:0 < x.den / x.re.den:=Nat.div_pos (Nat.le_of_dvd x.den_pos (Nat.dvd_lcm_left _ _)) x.re.den_pos
 rw [← Rat.num_nonneg]
 show 0 ≤ x.re.num * ((x.den / x.re.den:Nat):Int) ↔ _
 generalize x.den / x.re.den = k at hk
 constructor
 ·intro h
  exact Int.nonneg_of_mul_nonneg_left h zo
 ·intro h; exact Int.mul_nonneg h zo
theorem a_neg {x:Qi}:x.a < 0 ↔ x.re < 0:=by
 have:=@Dt x
 constructor
 ·intro h; rcases Rat.not_le.1 (fun k=>by have:=this.2 k; omega) with h; exact h
 ·intro h; exact Int.not_le.1 fun k=>Rat.not_le.2 h (this.1 k)
theorem a_pos {x:Qi}:0 < x.a ↔ 0 < x.re:=by
 have h1:=@Dt x; have h2:=@a_zero x
 constructor
 ·intro h
  have h3:0 ≤ x.re:=h1.1 zo
  have h4:x.re ≠ 0:=fun e=>by have:=h2.2 e; omega
  exact Rat.lt_of_le_of_ne h3 (Ne.symm h4)
 ·intro h
  have h3:0 ≤ x.a:=h1.2 (by grind)
  have h4:x.a ≠ 0:=fun e=>by have:=h2.1 e; grind
  omega
theorem sub_im0 {x y:Qi} (hx:x.b = 0) (hy:y.b = 0):(x - y).im = 0:=by
 show x.im - y.im = 0
 rw [b_zero.1 hx,b_zero.1 hy]; grind
end Qi
theorem Pq {m n:Int} (h1:m < 0 ↔ n < 0) (h2:0 < m ↔ 0 < n):fO m 0 = fO n 0:=by
 unfold fO
 by_cases a:m < 0
 ·rw [if_pos a,if_pos (h1.1 a)]
 ·rw [if_neg a, if_neg (fun k => a (h1.2 k))]
  by_cases b:0 < m
  ·rw [if_pos b,if_pos (h2.1 b)]
  ·rw [if_neg b,if_neg (fun k=>b (h2.2 k))]
theorem Pr (m n:Int):fO m n = fO (m - n) 0:=by
 unfold fO
 by_cases a:m < n
 ·rw [if_pos a,if_pos zo]
 ·rw [if_neg a, if_neg (by omega : ¬ m - n < 0)]
  by_cases b:n < m
  ·rw [if_pos b,if_pos zo]
  ·rw [if_neg b,if_neg zo]
def lY (x y:Qi):Int:=fO (x - y).a 0
theorem sT {x y:Qi}:lY x y < 0 ↔ x.re < y.re:=by
 rw [lY,Pp,Qi.a_neg]; show x.re - y.re < 0 ↔ _; constructor <;> intro h <;> grind
theorem wG {x y:Qi}:0 < lY x y ↔ y.re < x.re:=by
 rw [lY,xZ,Qi.a_pos]; show 0 < x.re - y.re ↔ _; constructor <;> intro h <;> grind
theorem Ux {x y:Qi}:lY x y ≤ 0 ↔ x.re ≤ y.re:=by
 have:=@wG x y
 constructor
 ·intro h; exact Rat.not_lt.1 fun k=>by have:=this.2 k; omega
 ·intro h; exact Int.not_lt.1 fun k=>Rat.not_lt.2 h (this.1 k)
theorem mU {x y:Qi} (hx:x.b = 0) (hy:y.b = 0):pU x y = lY x y:=by
 have e2:fO (x.b * y.den) (y.b * x.den) = 0:=by rw [hx,hy]; simp [fO]
 have h0 : x - y = Qi.mk' (x.a * y.den + -y.a * x.den) (x.b * y.den + -y.b * x.den) (x.den * y.den) := by
  obtain ⟨n1,n2,n3⟩:=Qi.neg_a y
  rw [Qi.sub_def,← Qi.mk_add,n1,n2,n3]
 obtain ⟨k,hk,_,h2,_⟩:=Qi.mk_scale (x.a * y.den + -y.a * x.den) (x.b * y.den + -y.b * x.den) (Nat.mul_pos x.den_pos y.den_pos)
 rw [← h0] at h2
 have e1 : fO (x.a * y.den) (y.a * x.den) = lY x y := by
  rw [Pr,lY]
  have e:x.a * y.den - y.a * x.den = (x - y).a * k:=by rw [← h2,Int.neg_mul]; omega
  rw [e]
  refine Pq ?_ ?_
  ·constructor
   ·intro h; exact Int.not_le.1 fun g=>by have:=Int.mul_nonneg g (by omega:(0:Int) ≤ k); omega
   ·intro h; exact Int.mul_neg_of_neg_of_pos h zo
  ·constructor
   ·intro h; exact Int.not_le.1 fun g=>by have:=Int.mul_nonpos_of_nonpos_of_nonneg g (by omega:(0:Int) ≤ k); omega
   ·intro h; exact Int.mul_pos h zo
 unfold pU
 rw [e1,e2]
 by_cases h:lY x y ≠ 0
 ·rw [if_pos h]
 ·rw [if_neg h]; exact (Decidable.not_not.1 h).symm
def Ft (x y:Qi):Int:=if fO (x - y).a 0 ≠ 0 then fO (x - y).a 0 else fO (x - y).imp.a 0
theorem kT {x y:Qi} (hx:x.b = 0) (hy:y.b = 0):Ft x y = lY x y:=by
 have e:(x - y).imp.a = 0:=Qi.a_zero.2 (Qi.sub_im0 hx hy)
 unfold Ft lY
 rw [e]
 by_cases h:fO (x - y).a 0 ≠ 0
 ·rw [if_pos h]
 ·rw [if_neg h,Decidable.not_not.1 h]; rfl
def kO (f : Nat → Int) : Nat → Int
 | 0=>0
 | n + 1=>if kO f n ≠ 0 then kO f n else f n
theorem uC {f:Nat → Int} {k:Nat} (h:∀ i,i < k → f i = 0) (hk:f k ≠ 0):∀ {n:Nat},k < n → kO f n = f k:=by
 have hz : kO f k = 0 := by
  clear hk
  induction k with
  | zero=>rfl
  | succ k ih=>rw [kO,ih (fun i hi=>h i zo),if_neg (by simp),h k zo]
 intro n
 induction n with
 | zero=>intro h; omega
 | succ n ih =>
  intro hn
  by_cases e:n = k
  ·rw [e,kO,hz,if_neg (by simp)]
  ·rw [kO,ih zo,if_pos hk]
theorem nO {f : Nat → Int} : ∀ {n : Nat}, (∀ i, i < n → f i = 0) → kO f n = 0
 | 0,_=>rfl
 | n + 1,h=>by rw [kO,nO (fun i hi=>h i zo),if_neg (by simp),h n zo]
theorem vK {f : Nat → Int} : ∀ {n : Nat}, kO f n = 0 → ∀ i, i < n → f i = 0
 | 0,_,i,hi=>by omega
 | n + 1, h, i, hi => by
  rw [kO] at h
  split at h
  ·rename_i c; exact absurd h c
  ·rename_i c
   by_cases e:i = n
   ·rw [e]; exact h
   ·exact vK (Decidable.not_not.1 c) i zo
abbrev eF (l:List (Qi × Qi)) (i:Nat):Qi:=(l.getD i (Qi.zero,Qi.zero)).1
abbrev eV (l:List (Qi × Qi)) (i:Nat):Qi:=(l.getD i (Qi.zero,Qi.zero)).2
structure Xu (l:List (Qi × Qi)) (f:Qi):Prop where
 real:∀ i,i < l.length → (eF l i).b = 0 ∧ (eV l i).b = 0
 up:∀ i,0 < i → i < l.length → (eF l (i - 1)).re < (eF l i).re
 fr:f.b = 0
theorem a0z {x:Qi} (h:gC x = true):x.b = 0:=by simp only [gC,decide_eq_true_eq] at h; exact h.1
theorem Xu.mono {l : List (Qi × Qi)} {f : Qi} (h : Xu l f) {i : Nat} : ∀ {j : Nat}, i < j → j < l.length → (eF l i).re < (eF l j).re
 | 0,h1,_=>by omega
 | j + 1, h1, h2 => by
  have h3:=h.up (j + 1) zo h2
  rw [Nat.add_sub_cancel] at h3
  by_cases e:i = j
  ·rw [e]; exact h3
  ·have := h.mono (i := i) (j := j) zo zo
   grind
theorem Qi.sub_ne {x y : Qi} (h : x.re ≠ y.re) : x - y ≠ Qi.zero := fun e => h (by
 have:(x - y).re = 0:=by rw [e]; rfl
 have h2:x.re - y.re = 0:=this
 grind)
def a0R (l:List (Qi × Qi)) (L:Nat):Prop:=∀ e,e ∈ l → aP e.1 L ∧ aP e.2 L
theorem a0R.get {l:List (Qi × Qi)} {L:Nat} (h:a0R l L) (hL:1 ≤ L) (i:Nat):aP (eF l i) L ∧ aP (eV l i) L:=by
 by_cases hi:i < l.length
 ·have e : l.getD i (Qi.zero, Qi.zero) = l[i] := by simp [List.getD, hi]
  show aP (l.getD i _).1 L ∧ aP (l.getD i _).2 L
  rw [e]; exact h _ (List.getElem_mem hi)
 ·have e : l.getD i (Qi.zero, Qi.zero) = (Qi.zero, Qi.zero) := by simp [List.getD, List.getElem?_eq_none (Nat.le_of_not_lt hi)]
  show aP (l.getD i _).1 L ∧ aP (l.getD i _).2 L
  rw [e]; exact ⟨aP.zero hL,aP.zero hL⟩
end
section
open Go Go.RowKit
theorem Cb {x y:Qi} {L M:Nat} [hx:aP x L] [hy:aP y M] (h:L + M + 1 ≤ 17592186044415):bA Tryz.prog 85 [QT x,QT y] (aL .i64 (Ft x y)):=by
 refine bA.intro Tryz.func85 rfl Tryz.ntmps85 rfl (fun cx=>(ts (rn rfl (fG (Ht rfl)) fun B2=>(rn rfl (fG (Ht rfl)) fun B3=>(ro rfl (cQ (cJ 0)) (eX (ts (ro rfl (eJ A_40 Z_40 (Ht rfl) (i:=0) rfl rfl rfl) (ro rfl (eJ A_40 Z_40 (Ht rfl) (i:=1) rfl rfl rfl) (ro rfl (cZ Tryz.call88 (Ce zo) ⟨(Ht rfl),(Ht rfl),trivial⟩) (rn rfl (eW (Ts:=[Is (.bool false),Is (.slice none 0 0),Is (.bool false),Is (.slice none 0 0),Is (.slice none 0 0)]) O_40 rfl (fun V=>aW zd (aW zd (aW zd (aW zd (aW zd (aG))))))) fun B5=>?_)))))))))))
 refine gQ Z_40 (Ht rfl) (Ht rfl) rfl (i:=2) rfl (aK rfl) rfl rfl (eX (cK (ts (ro rfl (eJ A_40 Z_40 (Ht rfl) (i:=2) rfl rfl rfl) (ro rfl (cZ Tryz.call90 wE ⟨(Ht rfl),trivial⟩) (ra rfl (eX (ts (rm rfl (ro rfl (jH (Ht rfl) cV) (eX (dQ (Ht rfl) (fun hb=>?_) (fun hb=>?_)))))))))))))
 ·have hb2 : fO (x - y).a 0 ≠ 0 := by simpa using hb
  refine ts (rm rfl (ra rfl (eX (fW rfl (fX (eU rfl) ?_)))))
  exact (aH (by rw [Ft,if_pos hb2]))
 ·have hb2 : ¬ fO (x - y).a 0 ≠ 0 := by simpa using hb
  refine cU (ts (ro rfl (eJ A_40 Z_40 (Ht rfl) (i:=2) rfl rfl rfl) (ro rfl (cZ Tryz.call180 (Ya (L:=L + M + 1) zo) ⟨(Ht rfl),trivial⟩) (ro rfl (cZ Tryz.call90 wE ⟨(Ht rfl),trivial⟩) (ra rfl (eX (fW rfl (fX (eU rfl) ?_))))))))
  exact (aH (by rw [Ft,if_neg hb2]))
end
section
open Go Go.RowKit
@[irreducible] def a1Q (a:Nat):Nat:=a % 9223372036854775808
section
variable {P:Program} {R:fM} {cx:Cx} {n:Nat} {k:List It} {E:bM} {H:Hp} {ops:Array Oper} {o:Oper} {rest:List Oper}
section
variable {d:Option Tmp} {t tx ty:TypeId} {pos:String} {af:Array Edge} {g:Option (Nat × Bool)}
end
end
end
section
namespace Fl
open Ieee
@[irreducible] def w25:Nat:=925
def mg (f:Format) (r:Nat):Nat:=if r < f.binade then r else f.binade + r % f.binade
def up (f:Format) (r:Nat):Nat:=r / f.binade - 1
def nn (f:Format) (r:Nat):Nat:=mg f r * 2 ^ up f r
def rg (f:Format) (x:Nat):Nat:=x % f.signWeight
def ng (f:Format) (x:Nat):Bool:=x / f.signWeight % 2 == 1
def fin (f:Format) (x:Nat):Bool:=decide (rg f x < f.infRung)
def av (f:Format) (x:Nat):Int:=if ng f x then -(nn f (rg f x):Int) else nn f (rg f x)
theorem bs:single.binade ≤ single.infRung:=by decide
theorem yA (a b:Int):(compare a b == .lt) = decide (a < b):=by
 simp only [compare,compareOfLessAndEq]
 by_cases k:a < b
 ·rw [if_pos k]; simp [k]
 ·rw [if_neg k]
  by_cases k2:a = b
  ·rw [if_pos k2]; simp [k]
  ·rw [if_neg k2]; simp [k]
end Fl
end
section
namespace Fl
open Ieee
@[irreducible] def w74:Nat:=1074
def q32 (p:Nat):Qi:=Qi.mk' (av single p) 0 (2 ^ 149)
theorem a0B (p:Nat):(q32 p).im = 0:=by unfold q32; rw [Qi.mk_im]; push_cast; grind
theorem Ie (p:Nat):(q32 p).re = (av single p:Rat) / ((2 ^ 149:Nat):Rat):=rfl
def pw (p:Nat):Bool:=fin single p && decide (0 < av single p)
theorem Wp {p:Nat}:0 < (q32 p).re ↔ 0 < av single p:=by
 rw [Ie]
 have h : (0 : Rat) < ((2 ^ 149 : Nat) : Rat) := by
  have:((0:Nat):Rat) < ((2 ^ 149:Nat):Rat):=Rat.natCast_lt_natCast.2 (Nat.two_pow_pos _)
  exact this
 rw [Rat.lt_div_iff h,Rat.zero_mul]
 exact ⟨fun k=>Rat.intCast_lt_intCast.1 k,fun k=>Rat.intCast_lt_intCast.2 k⟩
theorem Rm {p q:Nat}:(q32 p).re ≤ (q32 q).re ↔ av single p ≤ av single q:=by
 rw [Ie,Ie]
 have h : (0 : Rat) < ((2 ^ 149 : Nat) : Rat) := by
  have:((0:Nat):Rat) < ((2 ^ 149:Nat):Rat):=Rat.natCast_lt_natCast.2 (Nat.two_pow_pos _)
  exact this
 generalize ((2 ^ 149:Nat):Rat) = D at *
 constructor
 ·intro k
  have e:∀ z:Int,(z:Rat) = (z:Rat) / D * D:=fun z=>by grind
  have:=Rat.mul_le_mul_of_nonneg_right k (Rat.le_of_lt h)
  rw [← e,← e] at this
  exact Rat.intCast_le_intCast.1 this
 ·intro k
  rw [Rat.div_def,Rat.div_def]
  exact Rat.mul_le_mul_of_nonneg_right (Rat.intCast_le_intCast.2 k) (Rat.le_of_lt (Rat.inv_pos.2 h))
end Fl
end
section
namespace Fl
theorem Ro {x y:Qi} (hx:x.im = 0) (hy:y.im = 0):(x / y).re = x.re / y.re ∧ (x / y).im = 0:=by
 have hn:y.nrm = y.re * y.re:=by unfold Qi.nrm; rw [hy]; grind
 have hi:Qi.inv y = ⟨y.re / y.nrm,-y.im / y.nrm⟩:=rfl
 constructor
 ·rw [Qi.div_def, Qi.mul_re, hi, hn, hx, hy]
  by_cases h:y.re = 0
  ·rw [h]; show x.re * (0 / (0 * 0)) - 0 * _ = _; grind
  ·show x.re * (y.re / (y.re * y.re)) - 0 * _ = _; grind
 ·rw [Qi.div_def,Qi.mul_im,hi,hx,hy]; show x.re * (-0 / _) + 0 * _ = _; grind
structure Re (x:Qi):Prop where
 im:x.im = 0
theorem Re.sub {x y:Qi} (h:Re x) (k:Re y):Re (x - y):=⟨by rw [Qi.sub_im,h.im,k.im]; grind⟩
theorem Re.add {x y:Qi} (h:Re x) (k:Re y):Re (x + y):=⟨by rw [Qi.add_im,h.im,k.im]; grind⟩
theorem Re.mul {x y:Qi} (h:Re x) (k:Re y):Re (x * y):=⟨by rw [Qi.mul_im,h.im,k.im]; grind⟩
theorem Re.div {x y:Qi} (h:Re x) (k:Re y):Re (x / y):=⟨(Ro h.im k.im).2⟩
theorem Re.one:Re (Qi.ofInt 1):=⟨rfl⟩
theorem Re.q32 (p:Nat):Re (q32 p):=⟨a0B p⟩
theorem Re.of {x:Qi} (h:x.b = 0):Re x:=⟨Qi.b_zero.1 h⟩
theorem Re.b {x:Qi} (h:Re x):x.b = 0:=Qi.b_zero.2 h.im
theorem Re.rdiv {x y:Qi} (h:Re x) (k:Re y):(x / y).re = x.re / y.re:=(Ro h.im k.im).1
theorem Re.rmul {x y:Qi} (h:Re x):(x * y).re = x.re * y.re:=by rw [Qi.mul_re,h.im]; grind
theorem Re.ext {x y:Qi} (h:Re x) (k:Re y) (e:x.re = y.re):x = y:=Qi.ext' e (by rw [h.im,k.im])
def tP (hot cold a b:Qi):Qi:=(hot - a / b * cold) / (a / b - Qi.ofInt 1)
def tR (hot cold a b:Qi):Qi:=(hot * b - cold * a) / (a - b)
theorem a1B {hot cold a b:Qi} (h:Re hot) (c:Re cold) (x:Re a) (y:Re b):Re (tP hot cold a b):=(h.sub ((x.div y).mul c)).div ((x.div y).sub Re.one)
theorem a1A {hot cold a b:Qi} (h:Re hot) (c:Re cold) (x:Re a) (y:Re b) (h0:b.re ≠ 0) (h1:a.re ≠ b.re):tP hot cold a b = tR hot cold a b:=by
 refine Re.ext (a1B h c x y) (((h.mul y).sub (c.mul x)).div (x.sub y)) ?_
 unfold tP tR
 rw [(h.sub ((x.div y).mul c)).rdiv ((x.div y).sub Re.one),((h.mul y).sub (c.mul x)).rdiv (x.sub y),Qi.sub_re,Qi.sub_re,Qi.sub_re,Qi.sub_re,(x.div y).rmul,x.rdiv y,h.rmul,c.rmul]
 show (hot.re - a.re / b.re * cold.re) / (a.re / b.re - ((1:Int):Rat)) = (hot.re * b.re - cold.re * a.re) / (a.re - b.re)
 generalize hot.re = H
 generalize cold.re = K
 generalize a.re = p at *
 generalize b.re = q at *
 have e:p = p / q * q:=by grind
 generalize p / q = y at *
 subst e
 have hy:y - 1 ≠ 0:=by grind
 have e1:y * q - q = (y - 1) * q:=by grind
 have e2:H * q - K * (y * q) = (H - y * K) * q:=by grind
 rw [e1,e2]
 show (H - y * K) / (y - 1) = _
 grind
theorem pos_re {x:Qi} (h:gC x = true):Re x:=Re.of (a0z h)
theorem Dc {p:Nat} (h:pw p = true):0 < (q32 p).re:=by
 unfold pw at h; simp only [Bool.and_eq_true,decide_eq_true_eq] at h; exact Wp.2 h.2
def Rp (hot cold:Qi) (p q:Nat):Int:=if !Yu hot || !Yu cold || !pw p || !pw q then 1 else if decide (lY hot cold ≤ 0) || decide (av Ieee.single p ≤ av Ieee.single q) then 7 else if (tR hot cold (q32 p) (q32 q)).re < 0 then 5 else 0
def Wr (hot cold:Qi) (p q:Nat):Qi × Int:=if Rp hot cold p q = 0 then (tR hot cold (q32 p) (q32 q),0) else (Qi.zero,Rp hot cold p q)
structure Ak (hot cold:Qi) (p q:Nat):Prop where
 h:Re hot
 c:Re cold
 pp:pw p = true
 pq:pw q = true
 ord:¬ av Ieee.single p ≤ av Ieee.single q
theorem Ak.eq {hot cold : Qi} {p q : Nat} (h : Ak hot cold p q) : tP hot cold (q32 p) (q32 q) = tR hot cold (q32 p) (q32 q) :=
 a1A h.h h.c (Re.q32 p) (Re.q32 q) (fun e=>by have:=Dc h.pq; rw [e] at this; exact Rat.lt_irrefl this) (fun e=>h.ord (Rm.1 (by rw [e]; exact Rat.le_refl)))
theorem Ak.ne {hot cold:Qi} {p q:Nat} (h:Ak hot cold p q):q32 q ≠ Qi.zero ∧ q32 p - q32 q ≠ Qi.zero ∧ q32 p / q32 q - Qi.ofInt 1 ≠ Qi.zero:=by
 have h0:(q32 q).re ≠ 0:=fun e=>by have:=Dc h.pq; rw [e] at this; exact Rat.lt_irrefl this
 have h1:(q32 p).re ≠ (q32 q).re:=fun e=>h.ord (Rm.1 (by rw [e]; exact Rat.le_refl))
 refine ⟨fun e=>h0 (by rw [e]; rfl),Qi.sub_ne h1,Qi.sub_ne ?_⟩
 rw [(Re.q32 p).rdiv (Re.q32 q)]
 show _ ≠ ((1:Int):Rat)
 intro e
 apply h1
 have:(q32 p).re / (q32 q).re = 1:=e
 grind
theorem Ak.real {hot cold:Qi} {p q:Nat} (h:Ak hot cold p q):Re (tR hot cold (q32 p) (q32 q)):=((h.h.mul (Re.q32 q)).sub (h.c.mul (Re.q32 p))).div ((Re.q32 p).sub (Re.q32 q))
def cR (n o a b k:Qi):Qi:=(n * (k * a - b) + a * (o - k * n)) / (o - k * n + (k * a - b))
end Fl
end
section
namespace Fl
def lv (l:List (Nat × Nat)):List (Qi × Qi):=l.map fun e=>(q32 e.1,q32 e.2)
abbrev bI (l:List (Nat × Nat)) (i:Nat):Nat:=(l.getD i (0,0)).1
abbrev bO (l:List (Nat × Nat)) (i:Nat):Nat:=(l.getD i (0,0)).2
theorem Hu {l:List (Nat × Nat)} {i:Nat} (h:i < l.length):eF (lv l) i = q32 (bI l i) ∧ eV (lv l) i = q32 (bO l i):=by
 unfold eF eV bI bO lv
 simp [List.getD,List.getElem?_map,List.getElem?_eq_getElem h]
def a1K (l:List (Nat × Nat)) (i:Nat):Int:=if pw (bI l i) = true ∧ pw (bO l i) = true then (if 0 < i ∧ av Ieee.single (bI l i) ≤ av Ieee.single (bI l (i - 1)) then 7 else 0) else 1
def Qp (l:List (Nat × Nat)):Int:=if l.length = 0 ∨ 256 < l.length then 4 else kO (a1K l) l.length
structure Ix (l:List (Nat × Nat)):Prop where
 pos:∀ i,i < l.length → pw (bI l i) = true ∧ pw (bO l i) = true
 up:∀ i,0 < i → i < l.length → (q32 (bI l (i - 1))).re < (q32 (bI l i)).re
 n0:0 < l.length
 n1:l.length ≤ 256
def bnd (l:List (Nat × Nat)) (f:Qi):Qi:=eV (lv l) 0 / eF (lv l) 0 * f
def Pn (l:List (Nat × Nat)) (f:Qi):Int:=zZ (fun e:Qi × Qi=>decide (pU e.2 (bnd l f * e.1) ≤ 0)) (lv l)
def a1h (f:Qi):Bool:=gC f && decide (f.re < 1)
def comp (l : List (Nat × Nat)) (f : Qi) : Qi × Int :=
 if Qp l ≠ 0 then (Qi.zero,Qp l) else if a1h f = false then (Qi.zero,1) else if Pn l f < 0 then (Qi.zero,5)
 else (cR (eF (lv l) ((Pn l f).toNat - 1)) (eV (lv l) ((Pn l f).toNat - 1)) (eF (lv l) (Pn l f).toNat) (eV (lv l) (Pn l f).toNat) (bnd l f),0)
section
variable {l:List (Nat × Nat)} {f:Qi}
theorem Ix.re (h:Ix l) {i:Nat} (hi:i < l.length):Re (eF (lv l) i) ∧ Re (eV (lv l) i) ∧ 0 < (eF (lv l) i).re ∧ 0 < (eV (lv l) i).re:=by
 obtain ⟨e1,e2⟩:=Hu hi
 obtain ⟨p1,p2⟩:=h.pos i hi
 rw [e1,e2]; exact ⟨Re.q32 _,Re.q32 _,Dc p1,Dc p2⟩
theorem Ix.lt (h:Ix l) {i:Nat} (h0:0 < i) (hi:i < l.length):(eF (lv l) (i - 1)).re < (eF (lv l) i).re:=by
 rw [(Hu hi).1,(Hu (show i - 1 < l.length by omega)).1]; exact h.up i h0 hi
end
end Fl
end
section
namespace Fl
open Ieee
def cB (c n:Nat):List (Nat × Nat):=(List.range n).map fun i=>(single.nearest false (i + 1) 0,single.nearest false ((i + 1) * c) 0)
theorem jB (c n:Nat):(cB c n).length = n:=by simp [cB]
theorem nC {c n i:Nat} (h:i < n):bI (cB c n) i = single.nearest false (i + 1) 0 ∧ bO (cB c n) i = single.nearest false ((i + 1) * c) 0:=by
 unfold bI bO cB
 simp [List.getD,List.getElem?_map,List.getElem?_range h]
end Fl
end
section
open Go Go.RowKit
open Fl
@[irreducible] def wF:Nat:=2050
section
attribute [local irreducible] callFunc
end
section
attribute [local irreducible] callFunc
end
section
attribute [local irreducible] callFunc
end
end
section
open Go Go.RowKit
open Fl
theorem a05:aP (Qi.ofInt 1) 1:=⟨Qi.Fit.int (by decide) (by decide)⟩
end
section
open Go Go.RowKit
abbrev dS (M:List (List Qi)) (i:Nat):List Qi:=M.getD i []
def Nx (M : List (List Qi)) (c n : Nat) : Nat → Nat
 | 0=>n
 | k + 1=>if gm M (n - (k + 1)) c = Qi.zero then Nx M c n k else n - (k + 1)
def pv (M:List (List Qi)) (c n:Nat):Nat:=Nx M c n (n - c)
theorem Fs {M : List (List Qi)} {c n : Nat} : ∀ {k : Nat}, k ≤ n → (∀ r, n - k ≤ r → r < Nx M c n k → gm M r c = Qi.zero) ∧ n - k ≤ Nx M c n k ∧ Nx M c n k ≤ n ∧ (Nx M c n k < n → gm M (Nx M c n k) c ≠ Qi.zero)
 | 0,_=>⟨fun r h1 h2=>by simp [Nx] at h2; omega,by simp [Nx],by simp [Nx],fun h=>by simp [Nx] at h⟩
 | k + 1, hk => by
  obtain ⟨i1,i2,i3,i4⟩:=Fs (M:=M) (c:=c) (n:=n) (k:=k) zo
  unfold Nx
  by_cases e:gm M (n - (k + 1)) c = Qi.zero
  ·rw [if_pos e]
   refine ⟨fun r h1 h2=>?_,by omega,i3,i4⟩
   by_cases e2:r = n - (k + 1)
   ·rw [e2]; exact e
   ·exact i1 r zo h2
  ·rw [if_neg e]
   exact ⟨fun r h1 h2=>by omega,Nat.le_refl _,by omega,fun _=>e⟩
theorem pE {M:List (List Qi)} {c n:Nat} (hc:c ≤ n):(∀ r,c ≤ r → r < pv M c n → gm M r c = Qi.zero) ∧ c ≤ pv M c n ∧ pv M c n ≤ n ∧ (pv M c n < n → gm M (pv M c n) c ≠ Qi.zero):=by
 have h:=Fs (M:=M) (c:=c) (n:=n) (k:=n - c) zo
 rw [show n - (n - c) = c by omega] at h
 exact h
theorem a1u {M:List (List Qi)} {c n p:Nat} (hc:c ≤ p) (hp:p ≤ n) (h1:∀ r,c ≤ r → r < p → gm M r c = Qi.zero) (h2:p < n → gm M p c ≠ Qi.zero):pv M c n = p:=by
 obtain ⟨i1,i2,i3,i4⟩:=pE (M:=M) (n:=n) (show c ≤ n by omega)
 rcases Nat.lt_trichotomy (pv M c n) p with h | h | h
 ·exact absurd (h1 _ i2 h) (i4 zo)
 ·exact h
 ·exact absurd (i1 p hc h) (h2 zo)
def kD (rr rc:List Qi) (c k:Nat):List Qi:=tab rr.length fun j=>if c < j ∧ j < k then gv rr j - gv rr c / gv rc c * gv rc j else gv rr j
def redM (M:List (List Qi)) (c r:Nat):List (List Qi):=tab M.length fun i=>if c < i ∧ i < r then kD (dS M i) (dS M c) c (dS M i).length else dS M i
def dM (M : List (List Qi)) : Nat → List (List Qi) × Nat × Int
 | 0=>(M,0,-1)
 | c + 1 =>
  let s:=dM M c
  if 0 ≤ s.2.2 then s else
  if pv s.1 c M.length = M.length then (s.1,s.2.1,(c:Int)) else
  (redM (if pv s.1 c M.length = c then s.1 else swp [] s.1 (pv s.1 c M.length) c) c M.length,s.2.1 + (if pv s.1 c M.length = c then 0 else 1),-1)
theorem Aw {M : List (List Qi)} {c : Nat} (h : 0 ≤ (dM M c).2.2) : ∀ {d : Nat}, c ≤ d → dM M d = dM M c
 | 0,hd=>by rw [show c = 0 by omega]
 | d + 1, hd => by
  by_cases e:c = d + 1
  ·rw [e]
  ·have := Aw h (d := d) zo
   simp only [dM,this]
   rw [if_pos h]
theorem qL (M:List (List Qi)) (c r:Nat):(redM M c r).length = M.length:=bH _ _
theorem Fv {M:List (List Qi)} {n m c r:Nat} (h:iE M n m):iE (redM M c r) n m:=by
 refine ⟨(qL _ _ _).trans h.1,fun x hx=>?_⟩
 obtain ⟨i,hi,rfl⟩:=hZ.1 hx
 have hr:=h.row (i:=i) (by rw [← h.1]; exact hi)
 show (if c < i ∧ i < r then kD (dS M i) (dS M c) c (dS M i).length else dS M i).length = m
 split
 ·rw [kD,bH]; exact hr
 ·exact hr
theorem xB {M:List (List Qi)} {n m p c:Nat} (h:iE M n m) (hp:p < n) (hc:c < n):iE (swp [] M p c) n m:=by
 refine ⟨(Dh _ _ _ _).trans h.1,fun x hx=>?_⟩
 unfold swp at hx
 rcases List.mem_or_eq_of_mem_set hx with h1 | h1
 ·rcases List.mem_or_eq_of_mem_set h1 with h2 | h2
  ·exact h.2 x h2
  ·rw [h2]; exact h.row hc
 ·rw [h1]; exact h.row hp
theorem oF {M : List (List Qi)} {n m : Nat} (h : iE M n m) : ∀ {c : Nat}, c ≤ n → iE (dM M c).1 n m
 | 0,_=>h
 | c + 1, hc => by
  have ih:=oF h (c:=c) zo
  obtain ⟨_,_,i3,_⟩:=pE (M:=(dM M c).1) (c:=c) (n:=M.length) (by rw [h.1]; omega)
  simp only [dM]
  split
  ·exact ih
  ·split
   ·exact ih
   ·rename_i e
    apply Fv
    split
    ·exact ih
    ·exact xB ih (by rw [← h.1]; omega) zo
def nD (L : Nat) : Nat → Nat
 | 0=>L
 | c + 1=>6 * nD L c + 4
theorem rI (L : Nat) : ∀ {c d : Nat}, c ≤ d → nD L c ≤ nD L d
 | c,0,h=>by rw [show c = 0 by omega]; exact Nat.le_refl _
 | c, d + 1, h => by
  by_cases e:c = d + 1
  ·rw [e]; exact Nat.le_refl _
  ·have := rI L (c := c) (d := d) zo
   simp only [nD]; omega
theorem sY (L c:Nat):L ≤ nD L c:=rI L (Nat.zero_le c)
theorem Ke {rr rc:List Qi} {L c j:Nat} (h1:dR rr L) (h2:dR rc L) (hL:1 ≤ L) (hp:gv rc c ≠ Qi.zero):aP (gv rr j - gv rr c / gv rc c * gv rc j) (6 * L + 4):=by
 haveI f1:=h1.get hL j; haveI f2:=h1.get hL c; haveI f3:=h2.get hL c; haveI f4:=h2.get hL j
 haveI g:aP (gv rr c / gv rc c) (L + 3 * L + 2):=⟨f2.fit.div f3.fit hp⟩
 have:aP (gv rr j - gv rr c / gv rc c * gv rc j) (L + (L + 3 * L + 2 + L + 1) + 1):=inferInstance
 exact this.le zo
theorem Rw {rr rc : List Qi} {L c k : Nat} (h1 : dR rr L) (h2 : dR rc L) (hL : 1 ≤ L) (hp : gv rc c ≠ Qi.zero) : dR (kD rr rc c k) (6 * L + 4) := dR.tab fun j _ => by
 split
 ·exact Ke h1 h2 hL hp
 ·exact (h1.get hL j).le zo
theorem Fu {M : List (List Qi)} {L c r : Nat} (h : eE M L) (hL : 1 ≤ L) (hp : gm M c c ≠ Qi.zero) : eE (redM M c r) (6 * L + 4) := fun x hx => by
 obtain ⟨i,hi,rfl⟩:=hZ.1 hx
 show dR (if c < i ∧ i < r then kD (dS M i) (dS M c) c (dS M i).length else dS M i) _
 split
 ·exact Rw (h.row i) (h.row c) hL hp
 ·exact (h.row i).le zo
theorem Dg {M : List (List Qi)} {L p c : Nat} (h : eE M L) : eE (swp [] M p c) L := fun x hx => by
 unfold swp at hx
 rcases List.mem_or_eq_of_mem_set hx with h1 | h1
 ·rcases List.mem_or_eq_of_mem_set h1 with h2 | h2
  ·exact h x h2
  ·rw [h2]; exact h.row c
 ·rw [h1]; exact h.row p
theorem zD {M:List (List Qi)} {p c:Nat} (hc:c < M.length):dS (swp [] M p c) c = dS M p:=by
 simp [dS,swp,List.getD,hc]
theorem yE {M : List (List Qi)} {n m L : Nat} (hs : iE M n m) (h : eE M L) (hL : 1 ≤ L) : ∀ {c : Nat}, c ≤ n → eE (dM M c).1 (nD L c)
 | 0,_=>h
 | c + 1, hc => by
  have ih:=yE hs h hL (c:=c) zo
  have hg:1 ≤ nD L c:=Nat.le_trans hL (sY L c)
  have sh:=oF hs (c:=c) zo
  obtain ⟨_,i2,i3,i4⟩:=pE (M:=(dM M c).1) (c:=c) (n:=M.length) (by rw [hs.1]; omega)
  simp only [dM,nD]
  split
  ·exact ih.le zo
  ·split
   ·exact ih.le zo
   ·rename_i e
    split
    ·rename_i e2
     refine Fu ih hg ?_
     have:=i4 zo
     rw [e2] at this; exact this
    ·refine Fu (Dg ih) hg ?_
     show gv (dS (swp [] _ _ c) c) c ≠ _
     rw [zD (by rw [sh.1]; omega)]
     exact i4 zo
theorem Ih {rr rc:List Qi} {c:Nat}:rr = kD rr rc c (c + 1):=by
 unfold kD
 have:(tab rr.length fun j=>if c < j ∧ j < c + 1 then gv rr j - gv rr c / gv rc c * gv rc j else gv rr j) = tab rr.length (gv rr):=cA fun j _=>by rw [if_neg zo]
 rw [this]; exact Fe rfl
theorem tI (rr rc:List Qi) (c k:Nat):(kD rr rc c k).length = rr.length:=bH _ _
theorem Fw {rr rc:List Qi} {c k:Nat} (hk:k < rr.length) (h:c < k):gv (kD rr rc c k) k = gv rr k:=by
 rw [kD,yK hk,if_neg zo]
theorem Nj {rr rc:List Qi} {c k:Nat} (hk:k < rr.length) (h:c < k):(kD rr rc c k).set k (gv (kD rr rc c k) k - gv rr c / gv rc c * gv rc k) = kD rr rc c (k + 1):=by
 rw [Fw hk h]
 apply List.ext_getElem?
 intro j
 by_cases hj:j < rr.length
 ·by_cases e : j = k
  ·subst e
   rw [List.getElem?_set_self (by rw [tI]; exact hj),kD,cC hj,if_pos zo]
  ·rw [List.getElem?_set_ne (Ne.symm e), kD, kD, cC hj, cC hj]
   by_cases e2:c < j ∧ j < k
   ·rw [if_pos e2,if_pos zo]
   ·rw [if_neg e2,if_neg zo]
 ·rw [List.getElem?_eq_none (by rw [List.length_set,tI]; omega),List.getElem?_eq_none (by rw [tI]; omega)]
theorem Ig {M:List (List Qi)} {c:Nat}:M = redM M c (c + 1):=by
 unfold redM
 have:(tab M.length fun i=>if c < i ∧ i < c + 1 then kD (dS M i) (dS M c) c (dS M i).length else dS M i) = tab M.length (dS M):=cA fun i _=>by rw [if_neg zo]
 rw [this]; exact Di (h:=rfl)
theorem tH {M:List (List Qi)} {c r i:Nat} (hi:i < M.length) (h:¬ (c < i ∧ i < r)):dS (redM M c r) i = dS M i:=by
 simp only [dS,redM,List.getD]
 rw [cC hi,if_neg h]; rfl
theorem Ni {M:List (List Qi)} {c r:Nat} (hr:r < M.length) (h:c < r):(redM M c r).set r (kD (dS M r) (dS M c) c (dS M r).length) = redM M c (r + 1):=by
 apply List.ext_getElem?
 intro j
 by_cases hj:j < M.length
 ·by_cases e : j = r
  ·subst e
   rw [List.getElem?_set_self (by rw [qL]; exact hj),redM,cC hj,if_pos zo]
  ·rw [List.getElem?_set_ne (Ne.symm e), redM, redM, cC hj, cC hj]
   by_cases e2:c < j ∧ j < r
   ·rw [if_pos e2,if_pos zo]
   ·rw [if_neg e2,if_neg zo]
 ·rw [List.getElem?_eq_none (by rw [List.length_set,qL]; omega),List.getElem?_eq_none (by rw [qL]; omega)]
theorem Sb {M:List (List Qi)} {r:Nat} {x y:List Qi}:(M.set r x).set r y = M.set r y:=List.set_set ..
theorem Dd {M:List (List Qi)} {r:Nat} {x:List Qi} (h:r < M.length):dS (M.set r x) r = x:=by simp [dS,List.getD,h]
theorem vA {M:List (List Qi)} {r i:Nat} {x:List Qi} (h:r ≠ i):dS (M.set r x) i = dS M i:=by simp [dS,List.getD,List.getElem?_set_ne h]
theorem a0F {M:List (List Qi)} {r:Nat} (h:r < M.length):M.set r (dS M r) = M:=by
 apply List.ext_getElem?
 intro j
 by_cases e:j = r
 ·subst e; rw [List.getElem?_set_self h]; simp [dS,List.getD,h]
 ·rw [List.getElem?_set_ne (Ne.symm e)]
theorem Sg {X : List (List Qi)} {r c k : Nat} (hr : r < X.length) (hne : r ≠ c) (hk : k < (dS X r).length) (hck : c < k) :
  (X.set r (kD (dS X r) (dS X c) c k)).set r ((dS (X.set r (kD (dS X r) (dS X c) c k)) r).set k (gm (X.set r (kD (dS X r) (dS X c) c k)) r k - gm X r c / gm X c c * gm (X.set r (kD (dS X r) (dS X c) c k)) c k)) = X.set r (kD (dS X r) (dS X c) c (k + 1)):=by
 rw [Sb,Dd hr]
 have e1:gm (X.set r (kD (dS X r) (dS X c) c k)) r k = gv (kD (dS X r) (dS X c) c k) k:=by show gv (dS (X.set r _) r) k = _; rw [Dd hr]
 have e2:gm (X.set r (kD (dS X r) (dS X c) c k)) c k = gv (dS X c) k:=by show gv (dS (X.set r _) c) k = _; rw [vA hne]
 rw [e1,e2]
 exact congrArg _ (Nj hk hck)
theorem Sh {D:List (List Qi)} {r c:Nat} (hr:r < D.length) (hc:c < r):(redM D c r).set r (kD (dS (redM D c r) r) (dS (redM D c r) c) c (dS D r).length) = redM D c (r + 1):=by
 rw [tH hr zo,tH zo zo]
 exact Ni hr hc
theorem a1g {X:List (List Qi)} {r c k:Nat} (hr:r < X.length) (hk:k < (dS X r).length) (hck:c < k):gm (X.set r (kD (dS X r) (dS X c) c k)) r k = gv (dS X r) k:=by
 show gv (dS (X.set r _) r) k = _; rw [Dd hr,Fw hk hck]
theorem a1f {X:List (List Qi)} {r c k:Nat} {y:List Qi} (hne:r ≠ c):gm (X.set r y) c k = gv (dS X c) k:=by show gv (dS (X.set r _) c) k = _; rw [vA hne]
theorem Mo {M A:List (List Qi)} {n c sw p:Nat} (hl:M.length = n) (h:dM M c = (A,sw,-1)) (hp:pv A c n = p) (hpn:p < n):dM M (c + 1) = (redM (if p = c then A else swp [] A p c) c n,sw + (if p = c then 0 else 1),-1):=by
 simp only [dM,h,hl,hp]
 rw [if_neg (by decide),if_neg zo]
theorem Pz {M A:List (List Qi)} {n c sw:Nat} (hl:M.length = n) (h:dM M c = (A,sw,-1)) (hp:pv A c n = n) (hc:c < n):dM M n = (A,sw,(c:Int)):=by
 have e : dM M (c + 1) = (A, sw, (c : Int)) := by
  simp only [dM,h,hl,hp]
  rw [if_neg (by decide)]; simp
 rw [Aw (c:=c + 1) (by rw [e]; show (0:Int) ≤ (c:Int); omega) hc,e]
end
section
open Go Go.RowKit
abbrev Eo (M bs:List (List Qi)) (i:Nat):List Qi:=dS M i ++ bs.map fun b=>gv b i
def oC (M bs:List (List Qi)) (n:Nat):List (List Qi):=tab n (Eo M bs)
theorem Vb {r:List Qi} {bs:List (List Qi)} {i j:Nat} (h:j < bs.length):(r ++ (bs.take j).map fun b=>gv b i) ++ [gv (bs.getD j []) i] = r ++ (bs.take (j + 1)).map fun b=>gv b i:=by
 rw [List.append_assoc,List.take_add_one,List.map_append]
 simp [List.getD,h]
theorem oD {M bs:List (List Qi)} {n m:Nat} (h:iE M n m):iE (oC M bs n) n (m + bs.length):=by
 refine ⟨bH _ _,fun r hr=>?_⟩
 obtain ⟨i,hi,rfl⟩:=hZ.1 hr
 rw [List.length_append,List.length_map,h.row hi]
theorem tY {M bs : List (List Qi)} {n L : Nat} (h : eE M L) (hb : eE bs L) (hL : 1 ≤ L) : eE (oC M bs n) L := fun r hr x hx => by
 obtain ⟨i,hi,rfl⟩:=hZ.1 hr
 rcases List.mem_append.1 hx with h1 | h1
 ·exact h.row i x h1
 ·obtain ⟨b, hb1, rfl⟩ := List.mem_map.1 h1
  exact dR.get (hb b hb1) hL i
theorem Ml {M:List (List Qi)} {n m:Nat} (h:iE M n m):oC M [] n = M:=by
 have:oC M [] n = tab n (dS M):=cA fun i _=>by simp [Eo]
 rw [this]; exact (Di (h:=h.1)).symm
def qR (U : List (List Qi)) (x : List Qi) (n c : Nat) : Nat → Qi
 | 0=>gm U c n
 | k + 1=>qR U x n c k - gm U c (c + 1 + k) * gv x (c + 1 + k)
def vF (U : List (List Qi)) (n : Nat) : Nat → List Qi
 | 0=>tab n fun _=>Qi.zero
 | j + 1=>(vF U n j).set (n - (j + 1)) (qR U (vF U n j) n (n - (j + 1)) j / gm U (n - (j + 1)) (n - (j + 1)))
theorem Bs (U : List (List Qi)) (n : Nat) : ∀ j, (vF U n j).length = n
 | 0=>bH _ _
 | j + 1=>by rw [vF,List.length_set,Bs U n j]
def zA (M:List (List Qi)) (b:List Qi) (n:Nat):List (List Qi) × Nat × Int:=dM (oC M [b] n) n
def rV (M:List (List Qi)) (b:List Qi) (n:Nat):Int:=if 0 ≤ (zA M b n).2.2 then 6 else 0
def zB (M:List (List Qi)) (b:List Qi) (n:Nat):List Qi:=vF (zA M b n).1 n n
def Gm (G : Nat) : Nat → Nat
 | 0=>G
 | j + 1=>j * (Gm G j + G + 2) + 4 * G + 2
theorem zM (G j:Nat):Gm G j ≤ Gm G (j + 1):=by
 cases j with
 | zero=>simp only [Gm]; omega
 | succ j =>
  have:Gm G (j + 1) + G + 2 ≤ (j + 1) * (Gm G (j + 1) + G + 2):=Nat.le_mul_of_pos_left _ zo
  rw [show Gm G (j + 1 + 1) = (j + 1) * (Gm G (j + 1) + G + 2) + 4 * G + 2 from rfl]
  omega
theorem Iv (G : Nat) : ∀ j, G ≤ Gm G j
 | 0=>Nat.le_refl _
 | j + 1=>Nat.le_trans (Iv G j) (zM G j)
theorem Gn (G : Nat) : ∀ {i j : Nat}, i ≤ j → Gm G i ≤ Gm G j
 | i,0,h=>by rw [show i = 0 by omega]; exact Nat.le_refl _
 | i, j + 1, h => by
  by_cases e:i = j + 1
  ·rw [e]; exact Nat.le_refl _
  ·exact Nat.le_trans (Gn G (show i ≤ j by omega)) (zM G j)
theorem uA {M : List (List Qi)} {n m : Nat} (hs : iE M n m) : ∀ {c : Nat}, c ≤ n → (dM M c).2.2 < 0 → ∀ i, i < c → gm (dM M c).1 i i ≠ Qi.zero
 | 0,_,_,i,hi=>by omega
 | c + 1, hc, hst, i, hi => by
  have sh:=oF hs (c:=c) zo
  obtain ⟨_,i2,i3,i4⟩:=pE (M:=(dM M c).1) (c:=c) (n:=M.length) (by rw [hs.1]; omega)
  simp only [dM] at hst ⊢
  split at hst
  ·rename_i h0; omega
  ·rename_i h0
   rw [if_neg h0]
   split at hst
   ·simp at hst; omega
   ·rename_i h1
    rw [if_neg h1]
    have ih:=uA hs (c:=c) zo zo
    have hl : ∀ X : List (List Qi), X.length = n → gm (redM X c M.length) i i = gm X i i := fun X hX => by
     show gv (dS (redM X c M.length) i) i = _
     rw [tH zo zo]
    by_cases e:pv (dM M c).1 c M.length = c
    ·rw [if_pos e, hl _ sh.1]
     by_cases e2:i = c
     ·rw [e2]; have:=i4 (by have:=hs.1; omega); rw [e] at this; exact this
     ·exact ih i zo
    ·have hpl : pv (dM M c).1 c M.length < n := by rw [← hs.1]; omega
     rw [if_neg e,hl _ ((Dh _ _ _ _).trans sh.1)]
     by_cases e2:i = c
     ·rw [e2]
      show gv (dS (swp [] _ _ c) c) c ≠ _
      rw [zD (by rw [sh.1]; omega)]
      exact i4 (by have:=hs.1; omega)
     ·have : dS (swp [] (dM M c).1 (pv (dM M c).1 c M.length) c) i = dS (dM M c).1 i := by
       simp only [dS,swp,List.getD]
       rw [List.getElem?_set_ne (Ne.symm e2),List.getElem?_set_ne zo]
      show gv (dS (swp [] _ _ c) i) i ≠ _
      rw [this]; exact ih i zo
theorem xA {U : List (List Qi)} {x : List Qi} {n c G X : Nat} (hU : eE U G) (hx : dR x X) (hG : 1 ≤ G) (hX : 1 ≤ X) : ∀ k, aP (qR U x n c k) (G + k * (G + X + 2))
 | 0=>(hU.get hG c n).le zo
 | k + 1 => by
  haveI f1:=xA (n:=n) (c:=c) hU hx hG hX k
  haveI f2:=hU.get hG c (c + 1 + k)
  haveI f3:=hx.get hX (c + 1 + k)
  have:aP (qR U x n c (k + 1)) (G + k * (G + X + 2) + (G + X + 1) + 1):=by unfold qR; infer_instance
  exact this.le (by rw [Nat.add_mul]; omega)
theorem Zh {U:List (List Qi)} {x:List Qi} {n c G X j:Nat} (hU:eE U G) (hx:dR x X) (hG:1 ≤ G) (hX:1 ≤ X) (hz:gm U c c ≠ Qi.zero):aP (qR U x n c j / gm U c c) (j * (X + G + 2) + 4 * G + 2):=by
 have f1:=xA (n:=n) (c:=c) hU hx hG hX j
 have f2:=hU.get hG c c
 have:aP (qR U x n c j / gm U c c) (G + j * (G + X + 2) + 3 * G + 2):=⟨f1.fit.div f2.fit hz⟩
 exact this.le (by rw [Nat.add_comm X G]; omega)
theorem Ot {U : List (List Qi)} {n G : Nat} (hU : eE U G) (hG : 1 ≤ G) (hz : ∀ i, i < n → gm U i i ≠ Qi.zero) : ∀ j, j ≤ n → dR (vF U n j) (Gm G j)
 | 0,_=>dR.tab fun _ _=>aP.zero hG
 | j + 1, hj => fun y hy => by
  have ih:=Ot hU hG hz j zo
  rcases List.mem_or_eq_of_mem_set hy with h1 | h1
  ·exact (ih y h1).le (zM G j)
  ·rw [h1]; exact Zh hU ih hG (Nat.le_trans hG (Iv G j)) (hz _ zo)
theorem Se {M:List (List Qi)} {b:List Qi} {n:Nat} (h:iE M n n):iE (zA M b n).1 n (n + 1):=oF (oD h) (Nat.le_refl n)
theorem Sd {M:List (List Qi)} {b:List Qi} {n L:Nat} (h:iE M n n) (hM:eE M L) (hb:dR b L) (hL:1 ≤ L):eE (zA M b n).1 (nD L n):=yE (oD h) (tY hM (fun r hr=>by simp at hr; subst hr; exact hb) hL) hL (Nat.le_refl n)
def Bm (n i:Nat):List Qi:=(tab n fun _=>Qi.zero).set i (Qi.ofInt 1)
def Nw (n:Nat):List (List Qi):=tab n (Bm n)
theorem sZ (n:Nat):iE (Nw n) n n:=⟨bH _ _,fun r hr=>by obtain ⟨i,_,rfl⟩:=hZ.1 hr; rw [Bm,List.length_set,bH]⟩
theorem wL:aP (Qi.ofInt 1) 1:=⟨Qi.Fit.int (L:=1) (by decide) (by decide)⟩
theorem Nt {n i L : Nat} (h : 1 ≤ L) : dR (Bm n i) L := fun x hx => by
 rcases List.mem_or_eq_of_mem_set hx with h1 | h1
 ·obtain ⟨_,_,rfl⟩:=hZ.1 h1; exact aP.zero h
 ·rw [h1]; exact wL.le h
theorem Kg {n L:Nat} (h:1 ≤ L):eE (Nw n) L:=fun r hr=>by obtain ⟨i,_,rfl⟩:=hZ.1 hr; exact Nt h
theorem Ln {M:List (List Qi)} {b:List Qi} {n:Nat} (h:¬ 0 ≤ (zA M b n).2.2):(zA M b n).2.2 < 0:=by omega
theorem Lu (F:Qi → Ty) (n:Nat):List.replicate n (F Qi.zero) = (tab n fun _=>Qi.zero).map F:=by rw [mQ,pF]
theorem a0Y {n j:Nat} (h:(0:Int) ≤ (n:Int) - 1 - (j:Int)):j < n:=by omega
theorem a0Z {n j:Nat} (h:(n:Int) - 1 - (j:Int) < 0):n ≤ j:=by omega
end
section
open Go Go.RowKit
abbrev ek (n k:Nat):List Qi:=(Nw n).getD k []
theorem a03 {n k:Nat} (h:k < n):(ek n k).length = n:=(sZ n).row h
theorem a02 {n k L:Nat} (h:1 ≤ L):dR (ek n k) L:=(Kg h).row k
def Cq (M:List (List Qi)) (n:Nat):Int:=kO (fun k=>rV M (ek n k) n) n
def a0h (M:List (List Qi)) (n:Nat):List (List Qi):=tab n fun r=>tab n fun j=>gv (zB M (ek n j) n) r
theorem Gj {α:Type} {n i:Nat} {f:Nat → α} {d:α} (h:i < n):(tab n f).getD i d = f i:=by simp [List.getD,cC h]
def qC (M:List (List Qi)) (n k i:Nat):List (List Qi):=tab n fun r=>tab n fun j=>if j < k ∨ j = k ∧ r < i then gv (zB M (ek n j) n) r else gm M r j
theorem oJ (M:List (List Qi)) (n k i:Nat):iE (qC M n k i) n n:=iE.tab
theorem Mw {M:List (List Qi)} {n:Nat} (h:iE M n n):M = qC M n 0 0:=by
 rw [qC]
 conv=>lhs; rw [wS h]
 exact cA fun r _=>cA fun j _=>by rw [if_neg zo]
theorem Ql (M : List (List Qi)) (n k : Nat) : qC M n k n = qC M n (k + 1) 0 := cA fun r hr => cA fun j _ => by
 by_cases h:j < k ∨ j = k ∧ r < n
 ·rw [if_pos h,if_pos zo]
 ·rw [if_neg h,if_neg zo]
theorem Qm (M:List (List Qi)) (n:Nat):qC M n n 0 = a0h M n:=cA fun r _=>cA fun j hj=>by rw [if_pos zo]
theorem Mv {M:List (List Qi)} {n k i:Nat} (hi:i < n) (hk:k < n):(qC M n k i).set i (((qC M n k i).getD i []).set k (gv (zB M (ek n k) n) i)) = qC M n k (i + 1):=by
 apply List.ext_getElem?
 intro r
 by_cases hr:r < n
 ·by_cases e : r = i
  ·subst e
   rw [List.getElem?_set_self (by rw [(oJ _ _ _ _).1]; exact hr),qC,qC,cC (f:=fun r=>tab n fun j=>if j < k ∨ j = k ∧ r < _ + 1 then gv (zB M (ek n j) n) r else gm M r j) hr]
   congr 1
   have:(tab n fun x=>tab n fun j=>if j < k ∨ j = k ∧ x < r then gv (zB M (ek n j) n) x else gm M x j).getD r [] = tab n fun j=>if j < k ∨ j = k ∧ r < r then gv (zB M (ek n j) n) r else gm M r j:=Gj hr
   rw [this]
   apply List.ext_getElem?
   intro j
   by_cases hj:j < n
   ·by_cases e2 : j = k
    ·subst e2
     rw [List.getElem?_set_self (by rw [bH]; exact hj),cC hj,if_pos zo]
    ·rw [List.getElem?_set_ne (Ne.symm e2), cC hj, cC hj]
     by_cases e3:j < k
     ·rw [if_pos (.inl e3),if_pos (.inl e3)]
     ·rw [if_neg zo,if_neg zo]
   ·rw [List.getElem?_eq_none (by rw [List.length_set,bH]; omega),List.getElem?_eq_none (by rw [bH]; omega)]
  ·rw [List.getElem?_set_ne (Ne.symm e), qC, qC, cC hr, cC hr]
   congr 1
   refine cA fun j _=>?_
   by_cases e3:j < k ∨ j = k ∧ r < i
   ·rw [if_pos e3,if_pos zo]
   ·rw [if_neg e3,if_neg zo]
 ·rw [List.getElem?_eq_none (by rw [List.length_set,(oJ _ _ _ _).1]; omega),List.getElem?_eq_none (by rw [(oJ _ _ _ _).1]; omega)]
theorem Vi {M:List (List Qi)} {n k:Nat} (h:∀ i,i < k → rV M (ek n i) n = 0) (hk:k < n) (hx:rV M (ek n k) n ≠ 0):Cq M n = rV M (ek n k) n:=uC h hx hk
theorem Mu {M:List (List Qi)} {n:Nat} (h:∀ i,i < n → rV M (ek n i) n = 0):Cq M n = 0:=nO h
def pmM (m:Bool) (a b:List (List Qi)) (n:Nat):List (List Qi):=tab n fun i=>tab n fun j=>if m = true then gm a i j - gm b i j else gm a i j + gm b i j
theorem Wm {m:Bool} {a b:List (List Qi)} {n:Nat}:iE (pmM m a b n) n n:=iE.tab
theorem Wl {m : Bool} {a b : List (List Qi)} {n L M : Nat} (ha : eE a L) (hb : eE b M) (h1 : 1 ≤ L) (h2 : 1 ≤ M) : eE (pmM m a b n) (L + M + 1) := eE.tab fun i j _ _ => by
 haveI:=ha.get h1 i j; haveI:=hb.get h2 i j
 split
 ·infer_instance
 ·infer_instance
theorem On {T : Ty} {s : Nat} : ∀ vs V, fH [T, Is (.slice none 0 0)] vs V → fH [T, iS s []] vs V
 | [_,_],_,⟨h1,h2,h3⟩=>⟨h1,hJ _ _ h2,h3⟩
 | [],_,h=>h.elim
 | [_],_,h=>h.2.elim
 | _ :: _ :: _ :: _,_,h=>h.2.2.elim
theorem iM.arg {P : Program} {f : FuncId} {Ts Ts' : List Ty} {As : Hp} {γ : Type} {U : γ → Ty} {As' : γ → Hp} {Q : γ → Prop} (h : iM P f Ts As γ U As' Q) (i : ∀ vs V, fH Ts' vs V → fH Ts vs V) : iM P f Ts' As γ U As' Q :=
 fun cx Z vs V w h1 h2=>h cx Z vs V w h1 (i _ _ h2)
end
section
open Go Go.RowKit
section
variable {P:Program} {R:fM} {cx:Cx} {n:Nat} {k:List It} {E:bM} {H:Hp}
theorem xO (i l off : Nat) {B : Nat} {BT : TypeId} {Us : List Ty} {v : Value} {A : SA} {T : Ty} (hB : H[i]? = some (box B BT Us)) (hU : Us[off]? = some (Is v)) (hL : H[l]? = some A) (hne : i ≠ l) (hT : ∀ S V, A.h S V V → T.p v V)
  (h:Tr P R cx n k E ((H.set l SA.emp).set i (box B BT (Us.set off T)))):Tr P R cx n k E H:=fun a w ⟨V,hi,hs⟩=>by
 obtain ⟨V',S,hle,hi',hA⟩:=hi.freeze hL
 have hT:=hT S V' hA
 refine h a w ⟨V',hi'.withHH ?_,hs.mono hle⟩
 obtain ⟨F,h1,h2⟩:=hi'.hp
 have hB':(H.set l SA.emp)[i]? = some (box B BT Us):=by rw [List.getElem?_set_ne (Ne.symm hne)]; exact hB
 have hil:=(List.getElem?_eq_some_iff.1 hB').1
 refine ⟨F,fun q A hq=>?_,fun q r b hq hr=>h2 q r b (by simpa using hq) (by simpa using hr)⟩
 by_cases c:i = q
 ·subst c
  rw [List.getElem?_set_self hil] at hq
  obtain rfl:=Option.some.inj hq
  obtain ⟨⟨k1,cs,k2,k3⟩,k4⟩:=h1 i _ hB'
  obtain ⟨u,u1,u2⟩:=k3.get hU
  obtain rfl:u = v:=u2
  have hset : cs.set off u = cs := by
   apply List.ext_getElem?
   intro j
   by_cases cj:off = j
   ·subst cj; rw [List.getElem?_set_self (List.getElem?_eq_some_iff.1 u1).1,u1]
   ·rw [List.getElem?_set_ne cj]
  refine ⟨⟨k1,cs,k2,?_⟩,k4⟩
  have:=k3.set off (v:=u) hT (k3.pl u (List.mem_of_getElem? u1))
  rwa [hset] at this
 ·rw [List.getElem?_set_ne c] at hq
  exact h1 q A hq
theorem a1i {B e l : Nat} {BT : TypeId} {F : Qi → Ty} {q : Value → Prop} {M : List (List Qi)} (hl : l = M.length) : ∀ S V, (rU q B BT e 5 (dE F M)).h S V V → (iS 1 (M.map fun r => iS 5 (r.map F))).p (.slice (some ⟨B, 0, none⟩) l l) V := fun S V h =>
 yI (s:=5) (M:=M) hl _ S V rfl h
end
def nH (p i:Nat):Nat:=if i < p then i else i + 1
abbrev pJ (l:List Nat):Ty:=iS 1 (l.map (NT .i64))
def yO (p n:Nat):List Nat:=tab n fun j=>nH p j + 1
def Mk (p i:Nat):Nat:=if i ≤ p then i else i - 1
theorem Uz {p n:Nat} (h:p < n):Mk p n = n - 1:=by unfold Mk; split <;> omega
theorem Ik {p i n:Nat} (h:i < n - 1) (hp:p < n):nH p i < n:=by unfold nH; split <;> omega
theorem Kn {p n j:Nat} (h:j < n):(yO p n)[j]? = some (nH p j + 1):=cC h
def Nf (z:List Qi) (p m:Nat):List Qi:=tab m fun i=>gv z (nH p i)
def a1s (s:List (List Qi)) (p m:Nat):List (List Qi):=tab m fun i=>tab m fun j=>gm s (nH p i) (nH p j)
def In (s:List (List Qi)) (p:Nat) (f:Qi) (i j:Nat):Qi:=gm s (nH p i) (nH p j) + gm s (nH p i) p * (f * gm s p (nH p j))
def a0N (s:List (List Qi)) (p m:Nat) (f:Qi):List (List Qi):=tab m fun i=>tab m fun j=>In s p f i j
def kW (s:List (List Qi)) (p:Nat) (g:Qi):Qi:=g / (Qi.ofInt 1 - gm s p p * g)
def pN (z : List Qi) (s : List (List Qi)) (port : Int) (g : Qi) : Int :=
 if ¬ (1 ≤ port ∧ port ≤ z.length) then 1 else if z.length = 1 then 4 else if Qi.ofInt 1 - gm s (port - 1).toNat (port - 1).toNat * g = Qi.zero then 6 else 0
def zJ (z:List Qi) (s:List (List Qi)) (port:Int) (g:Qi):List Qi:=gD (pN z s port g) (Nf z (port - 1).toNat (z.length - 1))
def zI (z:List Qi) (s:List (List Qi)) (port:Int) (g:Qi):List (List Qi):=gD (pN z s port g) (a0N s (port - 1).toNat (z.length - 1) (kW s (port - 1).toNat g))
theorem Dk {z:List Qi} {s:List (List Qi)} {port:Int} {g:Qi} {e:Int} (h:pN z s port g = e) (he:e ≠ 0):∀ v V,(gE [] []).p v V → (gE (zJ z s port g) (zI z s port g)).p v V:=by
 rw [zJ,zI,gD,gD,h,if_neg he,if_neg he]; exact fun _ _ k=>k
theorem Yr (p:Nat):((p:Int) + 1 - 1).toNat = p:=by omega
theorem Sx {z:List Qi} {s:List (List Qi)} {p:Nat} {g:Qi} (h:pN z s ((p:Int) + 1) g = 0):∀ v V,(gE (Nf z p (z.length - 1)) (a0N s p (z.length - 1) (kW s p g))).p v V → (gE (zJ z s ((p:Int) + 1) g) (zI z s ((p:Int) + 1) g)).p v V:=by
 rw [zJ,zI,gD,gD,h,if_pos rfl,if_pos rfl,Yr]; exact fun _ _ k=>k
theorem a0K {z:List Qi} {s:List (List Qi)} {port:Int} {g:Qi} (h:¬ (1 ≤ port ∧ port ≤ z.length)):pN z s port g = 1:=by rw [pN,if_pos h]
theorem a0L {z:List Qi} {s:List (List Qi)} {port:Int} {g:Qi} (h:1 ≤ port ∧ port ≤ z.length) (h1:z.length = 1):pN z s port g = 4:=by rw [pN,if_neg (fun k=>k h),if_pos h1]
theorem a0M {z:List Qi} {s:List (List Qi)} {p:Nat} {g:Qi} (h:p < z.length) (h1:¬ z.length = 1):pN z s ((p:Int) + 1) g = if Qi.ofInt 1 - gm s p p * g = Qi.zero then 6 else 0:=by
 rw [pN,if_neg (fun k=>k zo),if_neg h1,Yr]
theorem Sw {s:List (List Qi)} {p L:Nat} {g:Qi} (hs:eE s L) (hg:aP g L) (hL:1 ≤ L) (hd:Qi.ofInt 1 - gm s p p * g ≠ Qi.zero):aP (kW s p g) (7 * L + 11):=by
 haveI f0:=wL
 haveI f1:=hs.get hL p p
 haveI f2:=hg
 have f3:aP (Qi.ofInt 1 - gm s p p * g) (1 + (L + L + 1) + 1):=@fitSub _ _ _ _ f0 inferInstance
 have:aP (kW s p g) (L + 3 * (1 + (L + L + 1) + 1) + 2):=⟨f2.fit.div f3.fit hd⟩
 exact this.le zo
end
section
open Go Go.RowKit
def yJ:List Qi:=[r50,r50].map Rt.q
def Ay:List (List Qi):=rq [[vN,vN],[vN,vN]]
def Cn:List Qi:=zJ yJ Ay 2 (Qi.ofInt 1)
def Mr:List (List Qi):=zI yJ Ay 2 (Qi.ofInt 1)
theorem Qc:cF yJ Ay = 0:=by decide +kernel
theorem Qd:iE Ay yJ.length yJ.length:=(rL Qc).2.2.1
theorem a09:pN yJ Ay 2 (Qi.ofInt 1) = 0:=by decide +kernel
theorem Qe:Cn.length = 1:=by decide +kernel
theorem Yk:Mr = [[Qi.ofInt 1]]:=by decide +kernel
theorem a06:Cq (pmM true (Nw yJ.length) Ay yJ.length) yJ.length ≠ 0:=by decide +kernel
theorem a1k:dR yJ 2:=dR.rt
theorem Yj:eE Ay 2:=eE.rt
theorem Yi:aP (Qi.ofInt 1) 2:=wL.le (by decide)
theorem a07:∀ v V,(eT [gE (gD (cF yJ Ay) yJ) (gD (cF yJ Ay) Ay),aL .i64 (cF yJ Ay)]).p v V → (eT [gE yJ Ay,aL .i64 0]).p v V:=by rw [Qc]; exact fun _ _ h=>h
theorem a08:∀ v V,(eT [gE (zJ yJ Ay ((2:Nat):Int) (Qi.ofInt 1)) (zI yJ Ay ((2:Nat):Int) (Qi.ofInt 1)),aL .i64 (pN yJ Ay ((2:Nat):Int) (Qi.ofInt 1))]).p v V → (eT [gE Cn Mr,aL .i64 0]).p v V:=by
 rw [show pN yJ Ay ((2:Nat):Int) (Qi.ofInt 1) = 0 from a09]; exact fun _ _ h=>h
theorem a0a:iE Mr Cn.length Cn.length:=by rw [Qe,Yk]; exact ⟨rfl,by simp⟩
theorem a1j:∀ v V,(eT [aT (Wk Cn.length Mr ((1:Nat):Int) ((1:Nat):Int)),aL .i64 (if (1 ≤ ((1:Nat):Int) ∧ ((1:Nat):Int) ≤ Cn.length) ∧ 1 ≤ ((1:Nat):Int) ∧ ((1:Nat):Int) ≤ Cn.length then 0 else 1)]).p v V → (eT [aT (Qi.ofInt 1),aL .i64 0]).p v V:=by
 rw [Qe,Yk,if_pos (by decide)]
 rw [show Wk 1 [[Qi.ofInt 1]] ((1:Nat):Int) ((1:Nat):Int) = Qi.ofInt 1 from rfl]
 exact fun _ _ h=>h
theorem a1I:Ny (Qi.ofInt 1) = [49]:=by decide +kernel
end
section
open Go Go.RowKit
theorem jD (x:Int) {b:Int} (h:0 < b):-b < x.tmod b ∧ x.tmod b < b:=by
 by_cases hx:0 ≤ x
 ·rw [Int.tmod_eq_emod_of_nonneg hx]
  have h1:=Int.emod_nonneg x (by omega:b ≠ 0)
  have h2:=Int.emod_lt_of_pos x h
  omega
 ·have e : x.tmod b = -((-x).tmod b) := by rw [Int.neg_tmod, Int.neg_neg]
  rw [e,Int.tmod_eq_emod_of_nonneg (by omega:0 ≤ -x)]
  have h1:=Int.emod_nonneg (-x) (by omega:b ≠ 0)
  have h2:=Int.emod_lt_of_pos (-x) h
  omega
def nZ (x:Int):Int:=if x < 0 then -x else x
theorem pS {x:Int} {b:Int} (h:-b < x ∧ x < b):0 ≤ nZ x ∧ nZ x < b:=by unfold nZ; split <;> omega
def zP (r:Rt):Rt where
 re:=r.re.tmod 9
 im:=r.im.tmod 9
 den:=nZ (r.den.tmod 4) + 1
 h1:=by have:=jD r.re (b:=9) (by decide); omega
 h2:=by have:=jD r.re (b:=9) (by decide); omega
 h3:=by have:=jD r.im (b:=9) (by decide); omega
 h4:=by have:=jD r.im (b:=9) (by decide); omega
 h5:=by have:=pS (jD r.den (b:=4) (by decide)); omega
 h6:=by have:=pS (jD r.den (b:=4) (by decide)); omega
def Td (r:Rt):Rt where
 re:=nZ (zP r).re + 1
 im:=0
 den:=(zP r).den
 h1:=by have:=pS (jD r.re (b:=9) (by decide)); show _ ≤ nZ (r.re.tmod 9) + 1; omega
 h2:=by have:=pS (jD r.re (b:=9) (by decide)); show nZ (r.re.tmod 9) + 1 ≤ _; omega
 h3:=by decide
 h4:=by decide
 h5:=(zP r).h5
 h6:=(zP r).h6
def Ia (l:List Rt) (i:Nat):Rt:=if l.length = 0 then default else l.getD (i % l.length) default
def lC (a:Nat):Nat:=a % 4 + 1
def uY (a:Nat) (zl:List Rt):List Rt:=tab (lC a) fun i=>Td (Ia zl i)
def tO (a:Nat) (sl:List Rt):List (List Rt):=tab (lC a) fun i=>tab (lC a) fun j=>zP (Ia sl (lC a * i + j))
theorem Vg (r:Rt):gC (Td r).q = true:=by
 have h1:=pS (jD r.re (b:=9) (by decide))
 have h2:=pS (jD r.den (b:=4) (by decide))
 have hd : (Td r).d = nZ (r.den.tmod 4) + 1 := by
  show (if nZ (r.den.tmod 4) + 1 = 0 then 1 else nZ (r.den.tmod 4) + 1) = _
  rw [if_neg zo]
 have hq:(Td r).q = Qi.frac (nZ (r.re.tmod 9) + 1) 0 (nZ (r.den.tmod 4) + 1):=by rw [Rt.q,hd]; rfl
 have hb:(Td r).q.b = 0:=Qi.b_zero.2 (by rw [hq]; show ((0:Int):Rat) / _ = 0; rw [Rat.div_def]; exact Rat.zero_mul _)
 have ha : 0 < (Td r).q.a := by
  rw [Qi.a_pos,hq]
  show (0:Rat) < ((nZ (r.re.tmod 9) + 1:Int):Rat) / ((nZ (r.den.tmod 4) + 1:Int):Rat)
  rw [Rat.div_def]
  refine Rat.mul_pos (Rat.intCast_pos.2 zo) (Rat.inv_pos.2 (Rat.intCast_pos.2 zo))
 simp only [gC,hb,ha,and_self,decide_true]
theorem Rk (a:Nat) (zl sl:List Rt):cF ((uY a zl).map Rt.q) (rq (tO a sl)) = 0:=by
 have hz:((uY a zl).map Rt.q).length = lC a:=by rw [List.length_map,uY,bH]
 have hs:(rq (tO a sl)).length = lC a:=by rw [List.length_map,tO,bH]
 have hn:lC a ≤ 4:=by unfold lC; omega
 have hn1:1 ≤ lC a:=by unfold lC; omega
 rw [cF,if_neg,if_pos]
 ·rw [List.all_eq_true]
  intro x hx
  obtain ⟨r,hr,rfl⟩:=List.mem_map.1 hx
  obtain ⟨i,_,rfl⟩:=hZ.1 hr
  exact Vg _
 ·rw [hz, hs]
  rintro (h | h | h | h)
  ·omega
  ·omega
  ·exact h rfl
  ·obtain ⟨r, hr, h2⟩ := List.any_eq_true.1 h
   obtain ⟨y,hy,rfl⟩:=List.mem_map.1 hr
   obtain ⟨i,_,rfl⟩:=hZ.1 hy
   simp [bH] at h2
end
section
open Go Go.RowKit
namespace Qi
def npow' (x : Qi) : Nat → Qi
 | 0=>Qi.ofInt 1
 | k + 1=>npow' x k * x
theorem one_mul2 (x:Qi):Qi.ofInt 1 * x = x:=ext' (by show ((1:Int):Rat) * x.re - 0 * x.im = x.re; grind) (by show ((1:Int):Rat) * x.im + 0 * x.re = x.im; grind)
theorem mul_one2 (x:Qi):x * Qi.ofInt 1 = x:=by rw [mul_comm',one_mul2]
end Qi
instance qiField:Lean.Grind.CommRing Qi where
 natCast:=⟨fun n=>Qi.ofInt n⟩
 ofNat n:=⟨Qi.ofInt n⟩
 nsmul:=⟨fun n x=>Qi.ofInt n * x⟩
 npow:=⟨Qi.npow'⟩
 add_zero:=Qi.add_zero'
 add_comm:=Qi.add_comm'
 add_assoc:=Qi.add_assoc'
 mul_assoc:=Qi.mul_assoc'
 mul_comm:=Qi.mul_comm'
 mul_one:=Qi.mul_one2
 one_mul:=Qi.one_mul2
 left_distrib:=Qi.mul_add'
 right_distrib:=Qi.add_mul'
 zero_mul:=Qi.zero_mul'
 mul_zero:=Qi.mul_zero'
 pow_zero _:=rfl
 pow_succ _ _:=rfl
 ofNat_succ n:=Qi.ext' (by show (((n + 1:Nat):Int):Rat) = ((n:Int):Rat) + ((1:Int):Rat); rw [Int.natCast_add,Rat.intCast_add]; rfl) (by show (0:Rat) = 0 + 0; grind)
 intCast:=⟨Qi.ofInt⟩
 zsmul:=⟨fun n x=>Qi.ofInt n * x⟩
 neg_add_cancel x:=Qi.ext' (by show -x.re + x.re = ((0:Int):Rat); grind) (by show -x.im + x.im = 0; grind)
 sub_eq_add_neg:=Qi.sub_def
 neg_zsmul i x:=Qi.ext' (by show ((-i:Int):Rat) * x.re - 0 * x.im = -((i:Rat) * x.re - 0 * x.im); rw [Rat.intCast_neg]; grind) (by show ((-i:Int):Rat) * x.im + 0 * x.re = -((i:Rat) * x.im + 0 * x.re); rw [Rat.intCast_neg]; grind)
 intCast_neg i:=Qi.ext' (Rat.intCast_neg i) (by show (0:Rat) = -0; grind)
theorem q0:Qi.zero = 0:=rfl
theorem q1:Qi.ofInt 1 = 1:=rfl
theorem yR {x:Qi} (h:x ≠ 0):x * Qi.inv x = 1:=by
 have hn:x.nrm ≠ 0:=fun e=>h (Qi.nrm_zero.1 e)
 have e:x.re * x.re + x.im * x.im = x.nrm:=rfl
 refine Qi.ext' ?_ ?_
 ·show x.re * (x.re / x.nrm) - x.im * (-x.im / x.nrm) = ((1 : Int) : Rat)
  grind
 ·show x.re * (-x.im / x.nrm) + x.im * (x.re / x.nrm) = 0
  grind
theorem Ci {x y:Qi} (h:y ≠ 0):x / y * y = x:=by
 rw [Qi.div_def]
 have:=yR h
 grind
theorem a04 {x y z:Qi} (h:y ≠ 0) (e:x = z * y):x / y = z:=by
 have h1:=Ci (x:=x) h
 have h2:=yR h
 grind
theorem vL {x y:Qi} (h:x * y = 0):x = 0 ∨ y = 0:=by
 by_cases e:x = 0
 ·exact .inl e
 ·right; have:=yR e; grind
end
section
open Fl
abbrev NP:=List Qi × List (List Qi)
abbrev iA:NP:=([],[])
abbrev nz (l:List NP) (i:Nat):List Qi:=(l.getD i iA).1
abbrev ns (l:List NP) (i:Nat):List (List Qi):=(l.getD i iA).2
def Ae (f : List Qi) (l : List NP) (i : Nat) : Int :=
 if gC (gv f i) = false then 1 else if 0 < i ∧ lY (gv f i) (gv f (i - 1)) ≤ 0 then 7 else if (nz l i).length ≠ (nz l 0).length then 4 else if nz l i ≠ nz l 0 then 40 else 0
def vR (f:List Qi) (l:List NP):Int:=if f.length ≠ l.length ∨ 1024 < f.length then 4 else kO (Ae f l) f.length
structure rT (f:List Qi) (l:List NP):Prop where
 len:f.length = l.length
 n1:f.length ≤ 1024
 pos:∀ i,i < f.length → gC (gv f i) = true
 up:∀ i,0 < i → i < f.length → (gv f (i - 1)).re < (gv f i).re
 zs:∀ i,i < f.length → nz l i = nz l 0
section
variable {f:List Qi} {l:List NP}
theorem Lp {i:Nat} (h:gC (gv f i) = false):Ae f l i = 1:=by rw [Ae,if_pos h]
theorem Lr {i:Nat} (h:gC (gv f i) = true) (h2:0 < i ∧ lY (gv f i) (gv f (i - 1)) ≤ 0):Ae f l i = 7:=by rw [Ae,if_neg (by rw [h]; decide),if_pos h2]
theorem Gi {i:Nat} (h:gC (gv f i) = true) (h2:¬ (0 < i ∧ lY (gv f i) (gv f (i - 1)) ≤ 0)) (h3:(nz l i).length ≠ (nz l 0).length):Ae f l i = 4:=by rw [Ae,if_neg (by rw [h]; decide),if_neg h2,if_pos h3]
theorem Lq {i:Nat} (h:gC (gv f i) = true) (h2:¬ (0 < i ∧ lY (gv f i) (gv f (i - 1)) ≤ 0)) (h3:(nz l i).length = (nz l 0).length) (h4:nz l i ≠ nz l 0):Ae f l i = 40:=by rw [Ae,if_neg (by rw [h]; decide),if_neg h2,if_neg (fun k=>k h3),if_pos h4]
theorem Sm {i:Nat} (h:gC (gv f i) = true) (h2:¬ (0 < i ∧ lY (gv f i) (gv f (i - 1)) ≤ 0)) (h4:nz l i = nz l 0):Ae f l i = 0:=by rw [Ae,if_neg (by rw [h]; decide),if_neg h2,if_neg (fun k=>k (by rw [h4])),if_neg (fun k=>k h4)]
theorem qS {i:Nat} (h:Ae f l i = 0):gC (gv f i) = true ∧ (0 < i → (gv f (i - 1)).re < (gv f i).re) ∧ nz l i = nz l 0:=by
 unfold Ae at h
 by_cases c1:gC (gv f i) = false
 ·rw [if_pos c1] at h; cases h
 ·rw [if_neg c1] at h
  by_cases c2:0 < i ∧ lY (gv f i) (gv f (i - 1)) ≤ 0
  ·rw [if_pos c2] at h; cases h
  ·rw [if_neg c2] at h
   by_cases c3:(nz l i).length ≠ (nz l 0).length
   ·rw [if_pos c3] at h; cases h
   ·rw [if_neg c3] at h
    by_cases c4:nz l i ≠ nz l 0
    ·rw [if_pos c4] at h; cases h
    ·refine ⟨by simpa using c1, fun h0 => ?_, Classical.byContradiction c4⟩
     have:¬ lY (gv f i) (gv f (i - 1)) ≤ 0:=fun k=>c2 ⟨h0,k⟩
     rw [Ux] at this
     exact Rat.not_le.1 this
theorem Ls (h:f.length ≠ l.length ∨ 1024 < f.length):vR f l = 4:=by rw [vR,if_pos h]
theorem zC {k:Nat} {e:Int} (h:¬ (f.length ≠ l.length ∨ 1024 < f.length)) (hk:k < f.length) (h0:∀ i,i < k → Ae f l i = 0) (h1:Ae f l k = e) (he:e ≠ 0):vR f l = e:=by
 have:=uC h0 (by rw [h1]; exact he) hk
 rw [vR,if_neg h,this,h1]
theorem Yq (h:¬ (f.length ≠ l.length ∨ 1024 < f.length)) (h0:∀ i,i < f.length → Ae f l i = 0):vR f l = 0:=by
 rw [vR,if_neg h,nO h0]
theorem a1z (h:vR f l = 0):rT f l:=by
 unfold vR at h
 by_cases c:f.length ≠ l.length ∨ 1024 < f.length
 ·rw [if_pos c] at h; cases h
 ·rw [if_neg c] at h
  have h0:=vK h
  exact ⟨by omega,by omega,fun i hi=>(qS (h0 i hi)).1,fun i h1 hi=>(qS (h0 i hi)).2.1 h1,fun i hi=>(qS (h0 i hi)).2.2⟩
theorem rT.nil:rT [] []:=⟨rfl,by decide,fun i h=>by simp at h,fun i _ h=>by simp at h,fun i h=>by simp at h⟩
theorem rT.re (h:rT f l) {i:Nat} (hi:i < f.length):Re (gv f i):=Fl.pos_re (h.pos i hi)
theorem rT.lt (h:rT f l) {i j:Nat} (hij:i < j) (hj:j < f.length):(gv f i).re < (gv f j).re:=by
 induction j with
 | zero=>omega
 | succ j ih =>
  have h1:=h.up (j + 1) zo hj
  rw [Nat.add_sub_cancel] at h1
  rcases Nat.eq_or_lt_of_le (Nat.le_of_lt_succ hij) with e | e
  ·rw [e]; exact h1
  ·have h2 := ih e zo
   grind
def rJ (f:List Qi) (x:Qi):Nat:=f.findIdx fun y=>decide (x.re ≤ y.re)
theorem Hr {x:Qi} {k:Nat} (h1:k ≤ f.length) (h2:∀ i,i < k → (gv f i).re < x.re) (h3:k < f.length → x.re ≤ (gv f k).re):rJ f x = k:=by
 unfold rJ
 rcases Nat.eq_or_lt_of_le h1 with e | e
 ·subst e
  refine List.findIdx_eq_length.2 fun y hy=>?_
  obtain ⟨i,hi,rfl⟩:=List.getElem_of_mem hy
  have:=h2 i hi
  rw [show gv f i = f[i] by simp [gv,List.getD,hi]] at this
  exact decide_eq_false (Rat.not_le.2 this)
 ·rw [List.findIdx_eq e]
  refine ⟨?_,fun j hj=>?_⟩
  ·have := h3 e
   rw [show gv f k = f[k] by simp [gv,List.getD,e]] at this
   exact decide_eq_true this
  ·have := h2 j hj
   rw [show gv f j = f[j]'zo by simp [gv,List.getD,show j < f.length by omega]] at this
   simpa [Rat.not_le] using this
def My (l:List NP) (k:Nat) (r:Qi):NP:=(nz l (k - 1),tab (nz l (k - 1)).length fun i=>tab (nz l (k - 1)).length fun j=>gm (ns l (k - 1)) i j + r * (gm (ns l k) i j - gm (ns l (k - 1)) i j))
def zU (f:List Qi) (x:Qi) (k:Nat):Qi:=(x - gv f (k - 1)) / (gv f k - gv f (k - 1))
def nW (f : List Qi) (l : List NP) (x : Qi) : NP × Int :=
 if x.b ≠ 0 then (iA,1) else if rJ f x < f.length ∧ gv f (rJ f x) = x then (l.getD (rJ f x) iA,0) else if rJ f x = 0 ∨ rJ f x = f.length then (iA,5) else (My l (rJ f x) (zU f x (rJ f x)),0)
theorem Bv {x:Qi} (h:x.b ≠ 0):nW f l x = (iA,1):=by rw [nW,if_pos h]
theorem Ox {x:Qi} {k:Nat} (h:x.b = 0) (hk:rJ f x = k) (h2:k < f.length ∧ gv f k = x):nW f l x = (l.getD k iA,0):=by rw [nW,if_neg (fun k=>k h),hk,if_pos h2]
theorem Dw {x:Qi} {k:Nat} (h:x.b = 0) (hk:rJ f x = k) (h2:¬ (k < f.length ∧ gv f k = x)) (h3:k = 0 ∨ k = f.length):nW f l x = (iA,5):=by rw [nW,if_neg (fun k=>k h),hk,if_neg h2,if_pos h3]
theorem Jg {x:Qi} {k:Nat} (h:x.b = 0) (hk:rJ f x = k) (h2:¬ (k < f.length ∧ gv f k = x)) (h3:¬ (k = 0 ∨ k = f.length)):nW f l x = (My l k (zU f x k),0):=by rw [nW,if_neg (fun k=>k h),hk,if_neg h2,if_neg h3]
theorem Vq (p q r:Qi):(Qi.ofInt 1 - r) * p + r * q = p + r * (q - p):=by
 have:Qi.ofInt 1 = (1:Qi):=rfl
 rw [this]; grind
def Lg (f : List Qi) (l : List NP) (xs : List Qi) (i : Nat) : Int :=
 if (nW f l (gv xs i)).2 ≠ 0 then (nW f l (gv xs i)).2 else if 0 < i ∧ lY (gv xs i) (gv xs (i - 1)) ≤ 0 then 7 else 0
def Ad (f:List Qi) (l:List NP) (xs:List Qi):Int:=if 1024 < xs.length then 4 else kO (Lg f l xs) xs.length
def zO (f:List Qi) (l:List NP) (xs:List Qi):List NP:=xs.map fun x=>(nW f l x).1
theorem wY {xs:List Qi} {i:Nat} (h:(nW f l (gv xs i)).2 ≠ 0):Lg f l xs i = (nW f l (gv xs i)).2:=by rw [Lg,if_pos h]
theorem Lh {xs:List Qi} {i:Nat} (h:(nW f l (gv xs i)).2 = 0) (h2:0 < i ∧ lY (gv xs i) (gv xs (i - 1)) ≤ 0):Lg f l xs i = 7:=by rw [Lg,if_neg (fun k=>k h),if_pos h2]
theorem Rx {xs:List Qi} {i:Nat} (h:(nW f l (gv xs i)).2 = 0) (h2:¬ (0 < i ∧ lY (gv xs i) (gv xs (i - 1)) ≤ 0)):Lg f l xs i = 0:=by rw [Lg,if_neg (fun k=>k h),if_neg h2]
theorem Lk {xs:List Qi} (h:1024 < xs.length):Ad f l xs = 4:=by rw [Ad,if_pos h]
theorem Li {xs:List Qi} {k:Nat} {e:Int} (h:¬ 1024 < xs.length) (hk:k < xs.length) (h0:∀ i,i < k → Lg f l xs i = 0) (h1:Lg f l xs k = e) (he:e ≠ 0):Ad f l xs = e:=by
 have:=uC h0 (by rw [h1]; exact he) hk
 rw [Ad,if_neg h,this,h1]
theorem Yo {xs:List Qi} (h:¬ 1024 < xs.length) (h0:∀ i,i < xs.length → Lg f l xs i = 0):Ad f l xs = 0:=by
 rw [Ad,if_neg h,nO h0]
theorem Bw {x:Qi} (h:(nW f l x).2 = 0):Re x:=by
 by_cases c:x.b = 0
 ·exact Re.of c
 ·rw [Bv c] at h; cases h
end
end
section
open Go Go.RowKit
section
variable {P:Program} {R:fM} {cx:Cx} {n:Nat} {k:List It} {E:bM} {H:Hp}
theorem HH.two {base:Nat} {w:World} {V:aR} {Z:SA} {X:Hp} (h:HH base w V (Z :: X)):HH base w V [Z,fL (SA.emp :: X)]:=by
 have h1:HH base w V ((Z :: X).set 0 SA.emp ++ [Z]):=h.last rfl
 have h2:HH base w V (fL (SA.emp :: X) :: [Z]):=HH.repack h1
 exact h2.pick (is:=[1,0]) ⟨⟨_,rfl,fun _ _ _ h=>h⟩,⟨_,rfl,fun _ _ _ h=>h⟩,trivial⟩ (by decide)
theorem iM.pack {f : FuncId} {Ts : List Ty} {γ : Type} {U : γ → Ty} {X : γ → Hp} {Q : γ → Prop} (h : iM P f Ts [] γ U X Q) : iM P f Ts [] γ U (fun x => [fL (SA.emp :: X x)]) Q :=
 fun cx Z vs V w h1 h2=>(h cx Z vs V w h1 h2).mono fun e w' ⟨v,V',x,a,b,c,d,e'⟩=>⟨v,V',x,a,b,c.withHH c.hp.two,d,e'⟩
end
namespace W
variable {P:Program} {R:fM} {cx:Cx} {n:Nat} {k:List It} {E:bM} {H:Hp} {Hf:Bool → Hp} {p:Nat}
end W
end
section
open Go Go.RowKit
section
variable {P:Program} {n:Nat} {E:bM} {H:Hp}
variable {d:Option Tmp} {t:TypeId} {pos:String} {af:Array Edge} {g:Option (Nat × Bool)}
theorem Ag {x y : Operand} {s e : Nat} {v : Value} {Ts Us : List Ty} {inf : TypeInfo} {z : Value} {dd : Nat} (ht : P.underlying t = some (.slice e)) (hi : P.info? e = some inf) (hz : inf.zero = some z) (hsize : inf.size = s) (hzs : z.cells.size = s)
  (hx:aS E x (Is v)) (hy:aS E y (iS s Us)) (hEl:∀ T,T ∈ Us → El s T) (hlen:(Ts.length + Us.length) * inf.bytes ≤ 140737488355328) (h63:Ts.length + Us.length ≤ 9223372036854775807) {t':TypeId} :
  vC P n E (bF e s v Ts) ⟨some dd,.call ⟨.builtin .append,#[x,y],#[t,t]⟩,t',pos,af,none⟩ Value (fun v=>Is v) (fun v=>bF e s v (Ts ++ Us)):=fun cx X a w V hinv hs=>by
 obtain ⟨v',w',hrun,hi'⟩:=xR (dd:=dd) (pos:=pos) (af:=af) (t':=t') (H:=[bF e s v Ts] ++ X) (i:=0) ht hi hz hsize hzs hx hy rfl hEl hlen h63 hinv hs
 exact ⟨v',v',w',hrun,rfl,hi'⟩
end
end
section
open Go Go.RowKit
section
variable {P:Program} {n:Nat} {E:bM} {H:Hp}
variable {d:Option Tmp} {t:TypeId} {pos:String} {af:Array Edge} {g:Option (Nat × Bool)}
end
theorem Jf {B:Nat} {BT:TypeId} {Ts Us:List Ty} (h:Nz Ts Us):∀ S m V,(box B BT Ts).h S m V → (box B BT Us).h S m V:=fun S m V ⟨e,cs,h1,k⟩=>⟨e,cs,h1,h.all k.all,k.pl⟩
end
section
open Go Go.RowKit
namespace Y
theorem HH.move {base:Nat} {w:World} {V:aR} {L:Hp} {e e':Nat} {A:SA} (hA:L[e]? = some A) (hE:L[e']? = some SA.emp) (hne:e ≠ e') (h:HH base w V L):HH base w V ((L.set e SA.emp).set e' A):=by
 obtain ⟨F,f1,f2⟩:=h
 have le:=(List.getElem?_eq_some_iff.1 hA).1
 have le':=(List.getElem?_eq_some_iff.1 hE).1
 have he0:F e' = []:=(f1 e' SA.emp hE).1
 refine ⟨fun i=>if i = e' then F e else if i = e then [] else F i,fun i B hB=>?_,fun i j b hi hj hbi hbj=>?_⟩
 ·by_cases c : i = e'
  ·subst c
   rw [List.getElem?_set_self (by simp; exact le')] at hB
   obtain rfl:=Option.some.inj hB
   simp only [if_pos rfl]
   exact f1 e A hA
  ·rw [List.getElem?_set_ne (Ne.symm c)] at hB
   simp only [if_neg c]
   by_cases c2:i = e
   ·subst c2
    rw [List.getElem?_set_self le] at hB
    obtain rfl:=Option.some.inj hB
    simp only [if_pos rfl]
    exact ⟨rfl,fun b hb=>by simp at hb⟩
   ·rw [List.getElem?_set_ne (Ne.symm c2)] at hB
    simp only [if_neg c2]
    exact f1 i B hB
 ·simp at hi hj
  have key : ∀ i, i < L.length → b ∈ (if i = e' then F e else if i = e then [] else F i) → ∃ k, k < L.length ∧ b ∈ F k ∧ (i = e' → k = e) ∧ (i ≠ e' → i ≠ e ∧ k = i) := fun i hi hb => by
   by_cases c:i = e'
   ·rw [if_pos c] at hb; exact ⟨e,le,hb,fun _=>rfl,fun k=>absurd c k⟩
   ·rw [if_neg c] at hb
    by_cases c2:i = e
    ·rw [if_pos c2] at hb; simp at hb
    ·rw [if_neg c2] at hb; exact ⟨i,hi,hb,fun k=>absurd k c,fun _=>⟨c2,rfl⟩⟩
  obtain ⟨k1,l1,m1,a1,b1⟩:=key i hi hbi
  obtain ⟨k2,l2,m2,a2,b2⟩:=key j hj hbj
  have hk:=f2 k1 k2 b l1 l2 m1 m2
  by_cases c:i = e' <;> by_cases c':j = e'
  ·omega
  ·have:=a1 c; have:=b2 c'; omega
  ·have:=b1 c; have:=a2 c'; omega
  ·have:=b1 c; have:=b2 c'; omega
theorem vX.step {Ho H : Hp} {pr : Nat → SA} {m e q : Nat} {A : SA} (hi : vX Ho H pr m) (hA : H[e]? = some A) (hq : q < m) (hp : pr q = SA.emp) : vX Ho (H.set e SA.emp) (fun i => if i = q then A else pr i) m := fun base w V h => by
 have h1:=hi base w V h
 have le:=(List.getElem?_eq_some_iff.1 hA).1
 have hA':(H ++ (List.range m).map pr)[e]? = some A:=by rw [List.getElem?_append_left le]; exact hA
 have hE' : (H ++ (List.range m).map pr)[H.length + q]? = some SA.emp := by
  rw [List.getElem?_append_right zo,Nat.add_sub_cancel_left,List.getElem?_map,List.getElem?_range hq,Option.map_some,hp]
 have h2:=HH.move hA' hE' zo h1
 have e1 : ((H ++ (List.range m).map pr).set e SA.emp).set (H.length + q) A = H.set e SA.emp ++ (List.range m).map (fun i => if i = q then A else pr i) := by
  apply List.ext_getElem?
  intro i
  by_cases c:i < H.length
  ·rw [List.getElem?_set_ne zo, List.getElem?_append_left (by simp; exact c)]
   by_cases c2:e = i
   ·subst c2; rw [List.getElem?_set_self (by simp; omega),List.getElem?_set_self le]
   ·rw [List.getElem?_set_ne c2,List.getElem?_set_ne c2,List.getElem?_append_left c]
  ·rw [List.getElem?_append_right (l₁ := H.set e SA.emp) (by simp; omega), List.length_set, List.getElem?_map]
   by_cases c2:i - H.length < m
   ·rw [List.getElem?_range c2, Option.map_some]
    by_cases c3:i = H.length + q
    ·subst c3; rw [List.getElem?_set_self (by simp; omega)]; simp
    ·rw [List.getElem?_set_ne (Ne.symm c3),List.getElem?_set_ne zo,List.getElem?_append_right zo,List.getElem?_map,List.getElem?_range c2,Option.map_some,if_neg zo]
   ·have : (List.range m)[i - H.length]? = Option.none := List.getElem?_eq_none (by simp; omega)
    rw [this,Option.map_none,List.getElem?_eq_none]; simp; omega
 rw [e1] at h2; exact h2
section
variable {P:Program} {R:fM} {cx:Cx} {n:Nat} {k:List It} {E:bM} {H:Hp}
theorem D_startAA {ops : List Oper} {m : Nat} {id : Nat} (ps : kN) (q e q' e' : Nat) {A A' : SA} (hA : H[e]? = some A) (hA' : (H.set e SA.emp)[e']? = some A') (hq : Nat.blt q m = true) (hq' : Nat.blt q' m = true) (hne : Nat.beq q' q = false)
  (h:Dr P R cx n ops m k E H ((H.set e SA.emp).set e' SA.emp) ps (fun i=>if i = q' then A' else if i = q then A else SA.emp) ops []):Tr P R cx n (.code (.region id ops.toArray true) :: k) E H :=
 h (vX.step (vX.one hA (aK hq)) hA' (aK hq') (if_neg (fun k=>by rw [k,Nat.beq_refl] at hne; cases hne))) (by simp) trivial id
end
end Y
end
section
open Go Go.RowKit
theorem lW {n : Nat} {E : bM} {H : Hp} {d : Option Tmp} {t : TypeId} {pos : String} {af : Array Edge} {g : Option (Nat × Bool)}  :
  aE Tryz.prog n E H ⟨d,.build 108 #[],t,pos,af,g⟩ (dP [Is (.slice none 0 0),Is (.slice none 0 0)]) :=
 eO (parts := []) fun a V w hs => by
  refine ⟨.agg #[(.slice none 0 0),(.slice none 0 0)],?_,[(.slice none 0 0),(.slice none 0 0)],rfl,aW (⟨rfl,trivial⟩) (aW (⟨rfl,trivial⟩) (aG))⟩
  simp [Instr.build,Instr.fill,Sem.run_bind,Result.andThen,dF,O_108,U_108,Z_54,Z_98]
theorem Du {n : Nat} {E : bM} {H : Hp} {d : Option Tmp} {t : TypeId} {pos : String} {af : Array Edge} {g : Option (Nat × Bool)} {x0 x1 : Operand} {T0 T1 : Ty} [s0 : cE T0 1 false] (h0 : aS E x0 T0) [s1 : cE T1 1 false] (h1 : aS E x1 T1) :
  aE Tryz.prog n E H ⟨d,.build 108 #[(0,x0),(1,x1)],t,pos,af,g⟩ (dP [T0,T1]) :=
 eO (parts := [(0, x0), (1, x1)]) fun a V w hs => by
  have p0:=h0 n V a hs
  generalize e0:a.eval x0 = v0 at p0
  have q0:=(s0.ok v0 V p0).2.2 rfl
  have p1:=h1 n V a hs
  generalize e1:a.eval x1 = v1 at p1
  have q1:=(s1.ok v1 V p1).2.2 rfl
  refine ⟨.agg #[v0,v1],?_,[v0,v1],rfl,aW (⟨p0,q0⟩) (aW (⟨p1,q1⟩) (aG))⟩
  simp [e0,e1,Instr.build,Instr.fill,Sem.run_bind,Result.andThen,dF,q0.cells,q1.cells,O_108,U_108,Z_54,Z_98]
theorem kF (a:Addr) (w:World):(Instr.fieldAt 108 (.pointer (some a)) 0).run Tryz.prog w = .ok (.pointer (some (a.add 0))) w:=by
 simp [Instr.fieldAt,Instr.sureAddr,fieldPlace,Sem.run_bind,Result.andThen,U_108,Z_54]
theorem oG (a:Addr) (w:World):(Instr.fieldAt 108 (.pointer (some a)) 1).run Tryz.prog w = .ok (.pointer (some (a.add 1))) w:=by
 simp [Instr.fieldAt,Instr.sureAddr,fieldPlace,Sem.run_bind,Result.andThen,U_108,Z_98]
theorem Cp:Tryz.prog.info? 80 = some Tryz.t80:=by kernel_rfl
theorem Ip:Tryz.prog.underlying 98 = some (.slice 80):=by kernel_rfl
end
section
open Go Go.RowKit
open Fl
abbrev Th (l:List NP):Ty:=iS 2 (l.map fun n=>gE n.1 n.2)
abbrev Tc (f:List Qi) (l:List NP):Ty:=dP [dB f,Th l]
abbrev PG (L:Nat):={p:Qi × Qi // aP p.1 L ∧ aP p.2 L}
theorem qT:∀ v V,(dP [Is (.slice none 0 0),Is (.slice none 0 0)]).p v V → (Tc [] []).p v V:=qZ ⟨hJ,hJ,trivial⟩
structure Gu (f:List Qi) (l:List NP) (L:Nat):Prop where
 ff:dR f L
 fz:∀ i,dR (nz l i) L
 fs:∀ i,eE (ns l i) L
 sh:∀ i,iE (ns l i) (nz l i).length (nz l i).length
 h8:∀ i,(nz l i).length ≤ 8
 nl:l.length ≤ 1000
 nf:f.length ≤ 1000
theorem Uw {x y:Qi} (h:Re x) (k:Re y):pU x y = 0 ↔ x = y:=by
 have e:=mU h.b k.b
 have h1:=@sT x y
 have h2:=@wG x y
 rw [← e] at h1 h2
 constructor
 ·intro z
  refine Re.ext h k ?_
  have a1:¬ x.re < y.re:=fun q=>by have:=h1.2 q; omega
  have a2:¬ y.re < x.re:=fun q=>by have:=h2.2 q; omega
  rw [Rat.not_lt] at a1 a2
  exact Rat.le_antisymm a2 a1
 ·intro z; subst z
  have a1:¬ pU x x < 0:=fun q=>Rat.lt_irrefl (h1.1 q)
  have a2:¬ 0 < pU x x:=fun q=>Rat.lt_irrefl (h2.1 q)
  omega
theorem Ov {B:Nat} {BT:TypeId}:∀ S m V,(box B BT [Is (.bool false),Is (.slice none 0 0),Is (.bool false),Is (.slice none 0 0),Is (.slice none 0 0)]).h S m V → (box B BT [aB (decide (Qi.zero.a < 0)),aD Qi.zero.a.natAbs,aB (decide (Qi.zero.b < 0)),aD Qi.zero.b.natAbs,aD (du Qi.zero)]).h S m V:=by
 obtain ⟨e1,e2,e3⟩:=Qi.int_a 0
 have e4:du (Qi.ofInt 0) = 0:=by rw [du,e3]; rfl
 have ez:Qi.zero = Qi.ofInt 0:=rfl
 rw [ez,e1,e2,e4]
 exact Jf ⟨nT,gS,nT,gS,gS,trivial⟩
theorem nV {Ts Us:List Ty} (h:Ts = Us):∀ v V,(eT Ts).p v V → (eT Us).p v V:=fun v V k=>h ▸ k
theorem Fd {a b : List Qi} (hl : a.length = b.length) (h : ∀ i, i < a.length → gv a i = gv b i) : a = b := List.ext_getElem hl fun i h1 h2 => by
 have:=h i h1
 rwa [show gv a i = a[i] by simp [gv,List.getD,h1],show gv b i = b[i] by simp [gv,List.getD,h2]] at this
theorem a12 {a b:List Qi} {L:Nat} (ha:dR a L) (hb:dR b L) (hL1:1 ≤ L) (hn:a.length ≤ 1000):bA Tryz.prog 137 [dB a,dB b,Dn Tryz.prog (PG L) (fun x=>[aT x.1.1,aT x.1.2]) (fun x=>aB (decide (x.1.1 = x.1.2)))] (aB (decide (a = b))):=by
 refine bA.intro Tryz.func137 rfl Tryz.ntmps137 rfl (fun cx=>(ts (ro rfl (cQ cV) (eX (cK (ts (rm rfl (ro rfl (dG U_54 (Ht rfl) aA) (rm rfl (ro rfl (dG U_54 (Ht rfl) aA) (ro rfl (gL (Ht rfl) (Ht rfl)) (eX (dQ (Ht rfl) (fun hc=>?_) (fun hc=>?_))))))))))))))
 ·have hc2 : a ≠ b := fun e => by subst e; simp at hc
  refine ts (ro rfl (cQ cV) (eX (fW rfl (fX (eU rfl) ?_))))
  exact (dI (decide_eq_false hc2).symm)
 ·have hl : a.length = b.length := by simpa using hc
  refine cU (cK (ts (rm rfl (ro rfl (dG U_54 (Ht rfl) aA) (ro rfl (cX (cJ 0)) (eX (eG ?_)))))))
  refine cL (fun (k : Nat) => k ≤ a.length ∧ ∀ i, i < k → gv a i = gv b i) (fun (k : Nat) => a.length - k) (fun (k : Nat) => [(1, dB b), (2, Dn Tryz.prog (PG L) (fun x => [aT x.1.1, aT x.1.2]) (fun x => aB (decide (x.1.1 = x.1.2)))), (15, dB a), (16, NT .i64 a.length), (17, NT .i64 k)]) (fun (k : Nat) => []) 0 ⟨Nat.zero_le _, fun i h => by omega⟩
   (zS rfl) aY (fun k ⟨hk,h0⟩=>?_)
  refine ts (ro rfl (gX (Ht rfl) (Ht rfl)) (eX (cK (dQ (Ht rfl) (fun hd=>?_) (fun hd=>?_)))))
  ·have hd2 : k < a.length := by simpa using hd
   refine cU (cK (eG (ts (rm rfl (ro rfl (dZ U_54 Z_32 (Ht rfl) (Ht rfl) rfl (dY (dU (d:=Qi.zero) hd2))) (ro rfl (dJ A_32 Z_32 (Ht rfl)) (rn rfl (eW (Ts:=[Is (.bool false),Is (.slice none 0 0),Is (.bool false),Is (.slice none 0 0),Is (.slice none 0 0)]) O_32 rfl (fun V=>aW zd (aW zd (aW zd (aW zd (aW zd (aG))))))) fun B8=>(ra rfl (gQ Z_32 (Ht rfl) (Ht rfl) rfl (i:=0) rfl (aK rfl) rfl rfl ?_)))))))))
   refine eX (ts (rm rfl (rm rfl (ro rfl (dZ U_54 Z_32 (Ht rfl) (Ht rfl) rfl (dY (dU (d:=Qi.zero) (show k < b.length by omega)))) (ro rfl (dJ A_32 Z_32 (Ht rfl)) (rn rfl (eW (Ts:=[Is (.bool false),Is (.slice none 0 0),Is (.bool false),Is (.slice none 0 0),Is (.slice none 0 0)]) O_32 rfl (fun V=>aW zd (aW zd (aW zd (aW zd (aW zd (aG))))))) fun B9=>(gQ Z_32 (Ht rfl) (Ht rfl) rfl (i:=1) rfl (aK rfl) rfl rfl ?_)))))))
   refine eX (ts (rm rfl (ro rfl (eJ A_32 Z_32 (Ht rfl) (i:=0) rfl rfl rfl) (ro rfl (eJ A_32 Z_32 (Ht rfl) (i:=1) rfl rfl rfl) (ro rfl (oK ((⟨(gv a k,gv b k),ha.get hL1 k,hb.get hL1 k⟩):PG L) (Ht rfl) ⟨(Ht rfl),(Ht rfl),trivial⟩) (ro rfl (fB (Ht rfl)) (eX (dQ (Ht rfl) (fun he=>?_) (fun he=>?_)))))))))
   ·have he2 : ¬ gv a k = gv b k := by simpa using he
    have hne:a ≠ b:=fun e=>he2 (by rw [e])
    refine ts (ro rfl (cQ cV) (eX (fW rfl (fX (eU rfl) ?_))))
    exact (dI (decide_eq_false hne).symm)
   ·have he2 : gv a k = gv b k := by simpa using he
    refine cU (bD (cY (ro rfl (dV (Ht rfl) (cJ 1) z6) (rm rfl (eX (dT [] rfl (by decide) ?_))))))
    refine fU (k + 1) ⟨hd2, fun i h => by
     by_cases e:i = k
     ·rw [e]; exact he2
     ·exact h0 i zo⟩ zo (zS rfl) aY
  ·have hd2 : a.length ≤ k := by simpa using hd
   have hab:a = b:=Fd hl fun i hi=>h0 i zo
   refine gV rfl (ts (ro rfl (cQ cV) (eX (fW rfl (fX (eU rfl) ?_)))))
   exact (dI (decide_eq_true hab).symm)
theorem Zi {f:List Qi} {x:Qi} {L:Nat} (hf:dR f L) (hx:aP x L) (hL1:1 ≤ L) (hn:f.length ≤ 1000) (hr:∀ i,i < f.length → Re (gv f i)) (hxr:Re x) (hup:∀ i j,i < j → j < f.length → (gv f i).re < (gv f j).re):bA Tryz.prog 141 [dB f,aT x,Dn Tryz.prog (PG L) (fun x=>[aT x.1.1,aT x.1.2]) (fun x=>aL .i64 (pU x.1.1 x.1.2))] (eT [NT .i64 (rJ f x),aB (decide (rJ f x < f.length ∧ gv f (rJ f x) = x))]):=by
 refine bA.intro Tryz.func141 rfl Tryz.ntmps141 rfl (fun cx=>(ts (rn rfl (fG (Ht rfl)) fun B4=>(ro rfl (cQ (cJ 0)) (ro rfl (cQ cV) (eX (ts (rm rfl (ro rfl (dG U_54 (Ht rfl) aA) (ra rfl (eX (ts (rm rfl (ro rfl (cQ (cJ 0)) (ra rfl (eX (cK (eG ?_))))))))))))))))))
 refine fN (fun (i : Nat) (j : Nat) => (i ≤ j ∧ j ≤ f.length) ∧ (∀ t, t < i → (gv f t).re < x.re) ∧ ∀ t, j ≤ t → t < f.length → x.re ≤ (gv f t).re) (fun (i : Nat) (j : Nat) => j - i) (fun (i : Nat) (j : Nat) => [(0, dB f), (2, Dn Tryz.prog (PG L) (fun x => [aT x.1.1, aT x.1.2]) (fun x => aL .i64 (pU x.1.1 x.1.2))), (4, bR B4 0), (8, NT .i64 f.length), (9, NT .i64 i), (10, NT .i64 j)]) (fun (i : Nat) (j : Nat) => [box B4 32 [aB (decide (x.a < 0)), aD x.a.natAbs, aB (decide (x.b < 0)), aD x.b.natAbs, aD (du x)]]) 0 f.length ⟨⟨Nat.zero_le _, Nat.le_refl _⟩, fun t h => by omega, fun t h1 h2 => by omega⟩
  (zS rfl) (bP.refl _) (fun i j ⟨⟨hij,hj⟩,h1,h2⟩=>?_)
 refine cK (ts (rm rfl (rm rfl (ro rfl (gX (Ht rfl) (Ht rfl)) (eX (dQ (Ht rfl) (fun hc=>?_) (fun hc=>?_)))))))
 ·have hc2 : i < j := by simpa using hc
  obtain ⟨m,hm⟩:∃ m,m = (i + j) / 2 ^ 1:=⟨_,rfl⟩
  have hm2:i ≤ m ∧ m < j:=by omega
  have hml:m < f.length:=by omega
  have hcm:=mU (hr m hml).b hxr.b
  refine cU (eG (ts (rm rfl (rm rfl (ro rfl (dV (Ht rfl) (Ht rfl) z6) (ro rfl (gZ U_3 U_275 (Ht rfl) z7) (ro rfl (aE.nat (dD (Ht rfl) (cJ 1) (by decide)) hm.symm) (ro rfl (gZ U_275 U_3 (Ht rfl) z6) (ra rfl (eX (cK (fZ (m:=6) (dp 2 rfl (cX (Ht rfl)) ?_)))))))))))))
  refine dp 0 rfl (cX (Ht rfl)) (dp 11 rfl (cX (Ht rfl)) (cI 25 1 26 2 rfl (dZ U_54 Z_32 (Ht rfl) (Ht rfl) rfl (dY (dU (d:=Qi.zero) hml))) (dq 27 3 rfl (dJ A_32 Z_32 (Ht rfl)) (dp 4 rfl (eJ A_32 Z_32 (Ht rfl) (i:=0) rfl rfl rfl) (fV aO rfl (by kernel_rfl) (zF (aJ (aJ (aV (ro rfl (oK ((⟨(gv f m,x),hf.get hL1 m,hx⟩):PG L) (Ht rfl) ⟨(Ht rfl),(Ht rfl),trivial⟩) (ro rfl (lH (Ht rfl) cV) (eX (dQ (Ht rfl) (fun hd=>?_) (fun hd=>?_))))))))))))))
  ·have hd2 : (gv f m).re < x.re := by have h := hd; simp only [decide_eq_true_eq] at h; rw [hcm, sT] at h; exact h
   refine cY (rm rfl (ro rfl (dV (Ht rfl) (cJ 1) z6) (ra rfl (eX (bD ?_)))))
   refine fU (m + 1, j) ⟨⟨by dsimp only; omega, hj⟩, fun t ht => by
     rcases Nat.lt_or_ge t m with k | k
     ·have:=hup t m k hml; grind
     ·have : t = m := by dsimp only at ht; omega
      rw [this]; exact hd2,h2⟩ (by dsimp only; omega) (zS rfl) (bP.refl _)
  ·have hd2 : x.re ≤ (gv f m).re := by have h := hd; simp only [decide_eq_false_iff_not] at h; rw [hcm, sT] at h; exact Rat.not_lt.1 h
   refine cY (rm rfl (ra rfl (eX (bD ?_))))
   refine fU (i, m) ⟨⟨hm2.1, by dsimp only; omega⟩, h1, fun t ht htl => by
     rcases Nat.eq_or_lt_of_le ht with k | k
     ·rw [← k]; exact hd2
     ·have:=hup m t k htl; grind⟩ (by dsimp only; omega) (zS rfl) (bP.refl _)
 ·have hc2 : i = j := by have h := hc; simp only [decide_eq_false_iff_not] at h; omega
  subst hc2
  have hlb:rJ f x = i:=Hr hj h1 fun h=>h2 i (Nat.le_refl _) h
  refine gV rfl (cK (fZ (m:=15) (dp 9 rfl (cX (Ht rfl)) (dp 9 rfl (cX (Ht rfl)) (dp 8 rfl (cX (Ht rfl)) (cI 36 1 37 2 rfl (gX (Ht rfl) (Ht rfl)) (dq 38 3 rfl (cX (Ht rfl)) (C.D_step (Ei:=[(2,_),(39,_)]) rfl rfl (bV (bK rfl rfl) (bV (bG 4 rfl rfl) bW)) (eK rfl rfl (Ht rfl) (fun h=>cX (Ht rfl))) (C.D_step (Ei:=[(0,_),(39,_)]) rfl rfl (bV (bK rfl rfl) (bV (bG 4 rfl rfl) bW)) (eK rfl rfl (Ht rfl) (fun h=>cX (Ht rfl))) (C.D_step (Ei:=[(9,_),(39,_)]) rfl rfl (bV (bK rfl rfl) (bV (bG 4 rfl rfl) bW)) (eK rfl rfl (Ht rfl) (fun h=>cX (Ht rfl))) ?_))))))))))
  refine C.D_step (Ei:=[(41,_),(42,_),(39,_)]) rfl rfl (bV (bG 6 rfl rfl) (bV (bG 7 rfl rfl) (bV (bG 4 rfl rfl) bW))) (eK rfl rfl (Ht rfl) (fun h=>dZ U_54 Z_32 (fJ rfl h) (fJ rfl h) rfl (dY (dU (d:=Qi.zero) (by simpa using h))))) ?_
  refine C.D_step (Ei:=[(43,_),(39,_)]) rfl rfl (bV (bG 8 rfl rfl) (bV (bG 4 rfl rfl) bW)) (eK rfl rfl (Ht rfl) (fun h=>dJ A_32 Z_32 (fJ rfl h))) (C.D_step (Ei:=[(4,_),(39,_)]) rfl rfl (bV (bK rfl rfl) (bV (bG 4 rfl rfl) bW)) (eK rfl rfl (Ht rfl) (fun h=>eJ A_32 Z_32 (Ht rfl) (i:=0) rfl rfl rfl)) (C.D_step (Ei:=[(40,_),(44,_),(45,_),(39,_)]) rfl rfl (bV (bG 5 rfl rfl) (bV (bG 9 rfl rfl) (bV (bG 10 rfl rfl) (bV (bG 4 rfl rfl) bW)))) (eK rfl rfl (Ht rfl) (fun h=>oK ((⟨(gv f i,x),hf.get hL1 i,hx⟩):PG L) (fJ rfl h) ⟨(fJ rfl h),(fJ rfl h),trivial⟩)) ?_))
  refine C.D_step (Ei:=[(46,_),(39,_)]) rfl rfl (bV (bG 11 rfl rfl) (bV (bG 4 rfl rfl) bW)) (eK rfl rfl (Ht rfl) (fun h=>iB (fJ rfl h) cV)) (cI 39 4 47 12 rfl (cT (Ht rfl) (fun h=>(fJ rfl h))) (dq 35 0 rfl (cQ (Ht rfl)) (fV aO rfl (by kernel_rfl) (zF (zF (zF (aJ (aJ (aJ (aV (ra rfl (eX (bC rfl (fX (eU rfl) ?_) (fX (eU rfl) ?_))))))))))))))
  ·exact (kR hlb.symm)
  ·exact (dI (by
    rw [hlb]
    by_cases k:i < f.length
    ·have h3 := Uw (hr i k) hxr
     rw [decide_eq_true k,Bool.true_and,decide_eq_decide]; exact ⟨fun e=>⟨k,h3.1 e⟩,fun e=>h3.2 e.2⟩
    ·simp [k]))
theorem Gy {l:List NP} (hl:l.length ≤ 1000):iM Tryz.prog 138 [Th l] [] (Value) (fun v=>Is v) (fun v=>[bF 80 2 v (l.map fun n=>gE n.1 n.2)]) (fun _=>True):=by
 refine iM.intro Tryz.func138 rfl Tryz.ntmps138 rfl (fun cx Z=>(ts (ro rfl (cQ cV) (eX (cK (ts (rm rfl (ro rfl (Fq U_98 (Ht rfl)) (eX (Ja (Ht rfl) (fun hb=>?_) (fun hb=>?_)))))))))))
 ·have hT : (l.map fun n => gE n.1 n.2) = [] := hb rfl
  refine ts (ro rfl (cQ cV) (eX (xP 80 2 ?_)))
  exact kX (.slice none 0 0) trivial [0,1] ⟨⟨_,rfl,fun _ _ _ h=>h⟩,⟨_,rfl,(bN hT.symm)⟩,trivial⟩ (by decide) (yX rfl (eU rfl))
 ·refine cU (ts (rn rfl (mE U_98 Z_80 O_80) fun B5 => (rm rfl (tQ (inf := Tryz.t80) Ip Cp rfl rfl rfl (Ht rfl) (Ht rfl) (i := 1) rfl (fun T hT => by obtain ⟨x, _, rfl⟩ := List.mem_map.1 hT; exact El.ag rfl) (by show _ * 48 ≤ _; simp only [List.length_map, List.length_nil]; omega) (by simp only [List.length_map, List.length_nil]; omega) rfl (fun v2 => ?_)))))
  refine ra rfl (eX ?_)
  exact kX v2 trivial [0,1] ⟨⟨_,rfl,fun _ _ _ h=>h⟩,⟨_,rfl,fun _ _ _ h=>h⟩,trivial⟩ (by decide) (yX rfl (eU rfl))
theorem Ma {l:List NP} (hl:l.length ≤ 1000):bA Tryz.prog 138 [Th l] (Th l):=(Gy hl).fun fun v _=>iN
theorem Hc {f:List Qi} {l:List NP} {L:Nat} (hf:Gu f l L) (hL1:1 ≤ L) (hL:L ≤ 1000000):bA Tryz.prog 49 [dB f,Th l] (eT [Tc (gD (vR f l) f) (gD (vR f l) l),aL .i64 (vR f l)]):=by
 have nl:=hf.nl; have nf:=hf.nf
 refine bA.intro Tryz.func49 rfl Tryz.ntmps49 rfl (fun cx=>(ts (rn rfl (eW (Ts:=[Is (.slice none 0 0),Is (.slice none 0 0)]) O_108 rfl (fun V=>aW zd (aW zd (aG)))) fun B4=>(ro rfl (cQ (cJ 0)) (eX (cK (ts (rm rfl (ro rfl (dG U_54 (Ht rfl) aA) (rm rfl (ro rfl (dG U_98 (Ht rfl) aA) (ro rfl (gL (Ht rfl) (Ht rfl)) (rm rfl (fQ rfl rfl (eK rfl rfl (Ht rfl) (fun h=>cX (Ht rfl))) (fQ rfl rfl (eK rfl rfl (Ht rfl) (fun h=>dG U_54 (fJ rfl h) aA)) ?_)))))))))))))))
 refine fQ rfl rfl (eK rfl rfl (Ht rfl) (fun h=>cH (fJ rfl h) (cJ 1024))) (ro rfl (iR (Ht rfl) (fun h=>(fJ rfl h))) (eX (dQ (Ht rfl) (fun hb=>?_) (fun hb=>?_))))
 ·have he : vR f l = 4 := Ls (by simpa using hb)
  refine ts (ro rfl (aE.imp (lW ) qT) (gQ Z_108 (Ht rfl) (Ht rfl) rfl (i:=0) rfl (aK rfl) rfl rfl (ro rfl (cQ (cJ 4)) (eX (bC rfl (fX (fK A_108 Z_108 rfl (i:=0) rfl rfl) ?_) (fX (eU rfl) ?_))))))
  ·exact (fun v V h=>by rw [gD,gD,if_neg (by rw [he]; decide),if_neg (by rw [he]; decide)]; exact h)
  ·exact (aH he.symm)
 ·have hne : ¬ (f.length ≠ l.length ∨ 1024 < f.length) := by have h := hb; simp at h; omega
  refine cU (cK (ts (rm rfl (ro rfl (dG U_54 (Ht rfl) aA) (ro rfl (cX (cJ 0)) (eX (eG ?_)))))))
  refine cL (fun (k : Nat) => k ≤ f.length ∧ ∀ i, i < k → Ae f l i = 0) (fun (k : Nat) => f.length - k) (fun (k : Nat) => [(0, dB f), (1, Th l), (4, bR B4 0), (18, dB f), (19, NT .i64 f.length), (20, NT .i64 k)]) (fun (k : Nat) => [box B4 108 [Is (.slice none 0 0), Is (.slice none 0 0)]]) 0 ⟨Nat.zero_le _, fun i h => by omega⟩
   (zS rfl) (bP.refl _) (fun k ⟨hk,h0⟩=>?_)
  refine ts (ro rfl (gX (Ht rfl) (Ht rfl)) (eX (cK (dQ (Ht rfl) (fun hc=>?_) (fun hc=>?_)))))
  ·have hc2 : k < f.length := by simpa using hc
   haveI f1:aP (gv f k) L:=hf.ff.get hL1 k
   haveI f2:aP (gv f (k - 1)) L:=hf.ff.get hL1 (k - 1)
   have hkl:k < l.length:=by omega
   refine cU (cK (eG (ts (rm rfl (ra rfl (eX (eG (ts (rm rfl (rm rfl (ro rfl (dZ U_54 Z_32 (Ht rfl) (Ht rfl) rfl (dY (dU (d:=Qi.zero) hc2))) (ro rfl (dJ A_32 Z_32 (Ht rfl)) (ro rfl (cZ Tryz.call136 (xW (x:=gv f k) (L:=L) zo) ⟨(Ht rfl),trivial⟩) (ro rfl (fB (Ht rfl)) (ra rfl (eX (dQ (Ht rfl) (fun hd=>?_) (fun hd=>?_))))))))))))))))))
   ·have he : vR f l = 1 := zC hne hc2 h0 (Lp (by simpa using hd)) (by decide)
    refine ts (ro rfl (aE.imp (lW ) qT) (gQ Z_108 (Ht rfl) (Ht rfl) rfl (i:=0) rfl (aK rfl) rfl rfl (ro rfl (cQ (cJ 1)) (eX (bC rfl (fX (fK A_108 Z_108 rfl (i:=0) rfl rfl) ?_) (fX (eU rfl) ?_))))))
    ·exact (fun v V h=>by rw [gD,gD,if_neg (by rw [he]; decide),if_neg (by rw [he]; decide)]; exact h)
    ·exact (aH he.symm)
   ·have hp : gC (gv f k) = true := by simpa using hd
    have hpr:0 < k → Re (gv f (k - 1)):=fun h=>Fl.pos_re (qS (h0 (k - 1) zo)).1
    refine cK (fZ (m:=12) (dp 6 rfl (cX (Ht rfl)) (dq 32 0 rfl (cH (Ht rfl) (cJ 0)) (dq 33 1 rfl (cX (Ht rfl)) (C.D_step (Ei:=[(0,_),(34,_)]) rfl rfl (bV (bK rfl rfl) (bV (bG 2 rfl rfl) bW)) (eK rfl rfl (Ht rfl) (fun h=>cX (Ht rfl))) (C.D_step (Ei:=[(6,_),(34,_)]) rfl rfl (bV (bK rfl rfl) (bV (bG 2 rfl rfl) bW)) (eK rfl rfl (Ht rfl) (fun h=>cX (Ht rfl))) (C.D_step (Ei:=[(35,_),(36,_),(34,_)]) rfl rfl (bV (bG 3 rfl rfl) (bV (bG 4 rfl rfl) (bV (bG 2 rfl rfl) bW))) (eK rfl rfl (Ht rfl) (fun h=>dZ U_54 Z_32 (fJ rfl h) (fJ rfl h) rfl (dY (dU (d:=Qi.zero) hc2)))) ?_)))))))
    refine C.D_step (Ei:=[(37,_),(34,_)]) rfl rfl (bV (bG 5 rfl rfl) (bV (bG 2 rfl rfl) bW)) (eK rfl rfl (Ht rfl) (fun h=>dJ A_32 Z_32 (fJ rfl h))) (C.D_step (Ei:=[(0,_),(34,_)]) rfl rfl (bV (bK rfl rfl) (bV (bG 2 rfl rfl) bW)) (eK rfl rfl (Ht rfl) (fun h=>cX (Ht rfl))) (C.D_step (Ei:=[(6,_),(34,_)]) rfl rfl (bV (bK rfl rfl) (bV (bG 2 rfl rfl) bW)) (eK rfl rfl (Ht rfl) (fun h=>cX (Ht rfl))) (C.D_step (Ei:=[(40,_),(34,_)]) rfl rfl (bV (bG 8 rfl rfl) (bV (bG 2 rfl rfl) bW)) (eK rfl rfl (Ht rfl) (fun h=>dW (fJ rfl h) (cJ 1) (by first | omega | (simp at h; omega)) (by show _ < 9223372036854775808; first | omega | (simp at h; omega)))) ?_)))
    refine C.D_step (Ei:=[(39,_),(41,_),(34,_)]) rfl rfl (bV (bG 7 rfl rfl) (bV (bG 9 rfl rfl) (bV (bG 2 rfl rfl) bW))) (eK rfl rfl (Ht rfl) (fun h=>dZ U_54 Z_32 (fJ rfl h) (fJ rfl h) rfl (dY (dU (d:=Qi.zero) zo)))) (C.D_step (Ei:=[(42,_),(34,_)]) rfl rfl (bV (bG 10 rfl rfl) (bV (bG 2 rfl rfl) bW)) (eK rfl rfl (Ht rfl) (fun h=>dJ A_32 Z_32 (fJ rfl h))) (fV aO rfl (by kernel_rfl) (zF (zF (zF (aV ?_))))))
    refine fQ rfl rfl (eK rfl rfl (Ht rfl) (fun h=>cZ Tryz.call30 (Jk (x:=gv f k) (y:=gv f (k - 1)) (L:=L) (M:=L) zo) ⟨(fJ rfl h),(fJ rfl h),trivial⟩)) (fQ rfl rfl (eK rfl rfl (Ht rfl) (fun h=>uW (fJ rfl h) cV)) (ro rfl (cT (Ht rfl) (fun h=>(fJ rfl h))) (ra rfl (eX (dQ (Ht rfl) (fun he=>?_) (fun he=>?_))))))
    ·have he2 : 0 < k ∧ pU (gv f k) (gv f (k - 1)) ≤ 0 := by simpa using he
     rw [mU (Fl.pos_re hp).b (hpr he2.1).b] at he2
     have he:vR f l = 7:=zC hne hc2 h0 (Lr hp he2) (by decide)
     refine ts (ro rfl (aE.imp (lW ) qT) (gQ Z_108 (Ht rfl) (Ht rfl) rfl (i:=0) rfl (aK rfl) rfl rfl (ro rfl (cQ (cJ 7)) (eX (bC rfl (fX (fK A_108 Z_108 rfl (i:=0) rfl rfl) ?_) (fX (eU rfl) ?_))))))
     ·exact (fun v V h=>by rw [gD,gD,if_neg (by rw [he]; decide),if_neg (by rw [he]; decide)]; exact h)
     ·exact (aH he.symm)
    ·have he2 : ¬ (0 < k ∧ lY (gv f k) (gv f (k - 1)) ≤ 0) := by
      rintro ⟨a1,a2⟩
      have h:=he
      simp only [Bool.and_eq_false_iff,decide_eq_false_iff_not] at h
      rcases h with h | h
      ·exact h a1
      ·exact h (by rw [mU (Fl.pos_re hp).b (hpr a1).b]; exact a2)
     refine cK (fZ (m:=11) (dp 1 rfl (cX (Ht rfl)) (dp 6 rfl (cX (Ht rfl)) (cI 49 0 50 1 rfl (dZ U_98 Z_80 (Ht rfl) (Ht rfl) rfl (dY (dU (d:=iA) hkl))) (dq 51 2 rfl (gB jU (Ht rfl) rfl) (dq 52 3 rfl (dJ A_54 Z_54 (Ht rfl)) (dq 53 4 rfl (dG U_54 (Ht rfl) aA) (dp 1 rfl (cX (Ht rfl)) (dq 55 6 rfl (dZ U_98 Z_80 (Ht rfl) (cJ 0) rfl (dY (dU (d:=iA) zo))) (dq 56 7 rfl (gB jU (Ht rfl) rfl) (dq 57 8 rfl (dJ A_54 Z_54 (Ht rfl)) ?_)))))))))))
     refine dq 58 9 rfl (dG U_54 (Ht rfl) aA) (fV aO rfl (by kernel_rfl) (zF (zF (aJ (aJ (aJ (aV (ro rfl (gL (Ht rfl) (Ht rfl)) (ra rfl (eX (dQ (Ht rfl) (fun hg=>?_) (fun hg=>?_))))))))))))
     ·have hg2 : (nz l k).length ≠ (nz l 0).length := by have h := hg; simp only [Bool.not_eq_true', decide_eq_false_iff_not] at h; exact h
      have he:vR f l = 4:=zC hne hc2 h0 (Gi hp he2 hg2) (by decide)
      refine ts (ro rfl (aE.imp (lW ) qT) (gQ Z_108 (Ht rfl) (Ht rfl) rfl (i:=0) rfl (aK rfl) rfl rfl (ro rfl (cQ (cJ 4)) (eX (bC rfl (fX (fK A_108 Z_108 rfl (i:=0) rfl rfl) ?_) (fX (eU rfl) ?_))))))
      ·exact (fun v V h=>by rw [gD,gD,if_neg (by rw [he]; decide),if_neg (by rw [he]; decide)]; exact h)
      ·exact (aH he.symm)
     ·have hg2 : (nz l k).length = (nz l 0).length := by have h := hg; simp only [Bool.not_eq_false', decide_eq_true_eq] at h; exact h
      have h8:=hf.h8 k
      refine cK (fZ (m:=9) (dp 1 rfl (cX (Ht rfl)) (dp 6 rfl (cX (Ht rfl)) (cI 63 0 64 1 rfl (dZ U_98 Z_80 (Ht rfl) (Ht rfl) rfl (dY (dU (d:=iA) hkl))) (dq 65 2 rfl (gB jU (Ht rfl) rfl) (dq 66 3 rfl (dJ A_54 Z_54 (Ht rfl)) (dp 1 rfl (cX (Ht rfl)) (dq 68 5 rfl (dZ U_98 Z_80 (Ht rfl) (cJ 0) rfl (dY (dU (d:=iA) zo))) (dq 69 6 rfl (gB jU (Ht rfl) rfl) (dq 70 7 rfl (dJ A_54 Z_54 (Ht rfl)) (fV aO rfl (by kernel_rfl) (zF (zF (aJ (aV ?_)))))))))))))))
      refine ro rfl (cZ Tryz.call137 (a12 (a:=nz l k) (b:=nz l 0) (L:=L) (hf.fz k) (hf.fz 0) hL1 zo) ⟨(Ht rfl),(Ht rfl),(aS.fn Tryz.call45 (γ:=PG L) (Ts:=fun x=>[aT x.1.1,aT x.1.2]) (U:=fun x=>aB (decide (x.1.1 = x.1.2))) (fun x=>haveI:=x.2.1; haveI:=x.2.2; Zo (L:=L) (M:=L) zo zo)),trivial⟩) (ro rfl (fB (Ht rfl)) (ra rfl (eX (dQ (Ht rfl) (fun hi=>?_) (fun hi=>?_)))))
      ·have hi2 : nz l k ≠ nz l 0 := by have h := hi; simp only [Bool.not_eq_true', decide_eq_false_iff_not] at h; exact h
       have he:vR f l = 40:=zC hne hc2 h0 (Lq hp he2 hg2 hi2) (by decide)
       refine ts (ro rfl (aE.imp (lW ) qT) (gQ Z_108 (Ht rfl) (Ht rfl) rfl (i:=0) rfl (aK rfl) rfl rfl (ro rfl (cQ (cJ 40)) (eX (bC rfl (fX (fK A_108 Z_108 rfl (i:=0) rfl rfl) ?_) (fX (eU rfl) ?_))))))
       ·exact (fun v V h=>by rw [gD,gD,if_neg (by rw [he]; decide),if_neg (by rw [he]; decide)]; exact h)
       ·exact (aH he.symm)
      ·have hi2 : nz l k = nz l 0 := by have h := hi; simp only [Bool.not_eq_false', decide_eq_true_eq] at h; exact h
       have hk0:Ae f l k = 0:=Sm hp he2 hi2
       refine cU (bD (bD (cY (ro rfl (dV (Ht rfl) (cJ 1) z6) (rm rfl (eX (dT [0] rfl (by decide) ?_)))))))
       refine fU (k + 1) ⟨hc2, fun i h => by
         by_cases e:i = k
         ·rw [e]; exact hk0
         ·exact h0 i zo⟩ zo (zS rfl) (bP.refl _)
  ·have hc2 : f.length ≤ k := by simpa using hc
   have he:vR f l = 0:=Yq hne (fun i h=>h0 i zo)
   refine gV rfl (ts (rm rfl (ro rfl (cZ Tryz.call120 (Jj zo) ⟨(Ht rfl),trivial⟩) (rm rfl (ro rfl (cZ Tryz.call138 (Ma (l:=l) zo) ⟨(Ht rfl),trivial⟩) (ro rfl (Du (Ht rfl) (Ht rfl)) (gQ Z_108 (Ht rfl) (Ht rfl) rfl (i:=0) rfl (aK rfl) rfl rfl (ro rfl (cQ (cJ 0)) (eX (bC rfl (fX (fK A_108 Z_108 rfl (i:=0) rfl rfl) ?_) (fX (eU rfl) ?_)))))))))))
   ·exact (fun v V h=>by rw [he,gD,gD,if_pos rfl,if_pos rfl]; exact h)
   ·exact (aH he.symm)
theorem Pa {f:List Qi} {l:List NP}:bA Tryz.prog 62 [Tc f l] (NT .i64 f.length):=by
 refine bA.intro Tryz.func62 rfl Tryz.ntmps62 rfl (fun cx=>(ts (rn rfl (fG (Ht rfl)) fun B1=>(ro rfl (cQ (cJ 0)) (eX (ts (ro rfl (eZ kF (Ht rfl) rfl) (ro rfl (eY A_54 Z_54 (Ht rfl) (i:=0) rfl rfl) (ro rfl (dG U_54 (Ht rfl) aA) (ra rfl (eX ?_)))))))))))
 exact fW rfl (eU rfl)
def Ic (f:List Qi) (l:List NP) (i:Int):(Qi × NP) × Int:=if 0 ≤ i ∧ i < f.length then ((gv f i.toNat,l.getD i.toNat iA),0) else ((Qi.zero,iA),1)
theorem a1t {f:List Qi} {l:List NP} {i:Int} (h:¬ (0 ≤ i ∧ i < f.length)):Ic f l i = ((Qi.zero,iA),1):=by rw [Ic,if_neg h]
theorem Yn {f:List Qi} {l:List NP} {k:Nat} (h:k < f.length):Ic f l (k:Int) = ((gv f k,l.getD k iA),0):=by rw [Ic,if_pos zo,Int.toNat_natCast]
theorem Jo {f:List Qi} {l:List NP} {i:Int} (hl:f.length = l.length):bA Tryz.prog 54 [Tc f l,aL .i64 i] (eT [aT (Ic f l i).1.1,gE (Ic f l i).1.2.1 (Ic f l i).1.2.2,aL .i64 (Ic f l i).2]):=by
 refine bA.intro Tryz.func54 rfl Tryz.ntmps54 rfl (fun cx=>(ts (rn rfl (fG (Ht rfl)) fun B2=>(rn rfl (eW (Ts:=[Is (.bool false),Is (.slice none 0 0),Is (.bool false),Is (.slice none 0 0),Is (.slice none 0 0)]) O_32 rfl (fun V=>aW zd (aW zd (aW zd (aW zd (aW zd (aG))))))) fun B4=>(rn rfl (eW (Ts:=[Is (.slice none 0 0),Is (.slice none 0 0)]) O_80 rfl (fun V=>aW zd (aW zd (aG)))) fun B5=>?_)))))
 refine ro rfl (cQ (cJ 0)) (eX (cK (ts (rm rfl (ro rfl (lH (Ht rfl) cV) (rm rfl (fQ rfl rfl (eK rfl rfl (Ht rfl) (fun h=>cX (Ht rfl))) (fQ rfl rfl (eK rfl rfl (Ht rfl) (fun h=>eZ kF (Ht rfl) rfl)) (fQ rfl rfl (eK rfl rfl (Ht rfl) (fun h=>eY A_54 Z_54 (fJ rfl h) (i:=0) rfl rfl)) (fQ rfl rfl (eK rfl rfl (Ht rfl) (fun h=>dG U_54 (fJ rfl h) aA)) (fQ rfl rfl (eK rfl rfl (Ht rfl) (fun h=>jP (fJ rfl h) (fJ rfl h))) (ro rfl (iR (Ht rfl) (fun h=>(fJ rfl h))) ?_))))))))))))
 refine eX (dQ (Ht rfl) (fun hb=>?_) (fun hb=>?_))
 ·have hb2 : ¬ (0 ≤ i ∧ i < f.length) := by have h := hb; simp only [Bool.or_eq_true, decide_eq_true_eq] at h; omega
  have he:=a1t (l:=l) hb2
  refine ts (ro rfl (aE.imp (wD ) qI) (ro rfl (aE.imp (mL ) lP) (gQ Z_32 (Ht rfl) (Ht rfl) rfl (i:=1) rfl (aK rfl) rfl rfl (gQ Z_80 (Ht rfl) (Ht rfl) rfl (i:=2) rfl (aK rfl) rfl rfl (ro rfl (cQ (cJ 1)) (eX (Gx rfl (fX (fK A_32 Z_32 rfl (i:=1) rfl rfl) ?_) (fX (fK A_80 Z_80 rfl (i:=2) rfl rfl) ?_) (fX (eU rfl) ?_))))))))
  ·exact (kB (by rw [he]))
  ·exact (fun v V h=>by rw [he]; exact h)
  ·exact (aH (by rw [he]; rfl))
 ·have hb2 : 0 ≤ i ∧ i < f.length := by have h := hb; simp only [Bool.or_eq_false_iff, decide_eq_false_iff_not] at h; omega
  obtain ⟨k,rfl⟩:∃ k:Nat,i = k:=⟨i.toNat,by omega⟩
  have hk:k < f.length:=by omega
  have he:=Yn (l:=l) hk
  refine cU (cK (Y.D_start (m:=11) [(10,1,box B4 32 [aB (decide ((gv f k).a < 0)),aD (gv f k).a.natAbs,aB (decide ((gv f k).b < 0)),aD (gv f k).b.natAbs,aD (du (gv f k))])] (Y.D_step (Ei:=[(2,_)]) rfl rfl (bQ (bJ rfl rfl) bX) rfl rfl (by kernel_rfl) (dX rfl (eZ kF (Ht rfl) rfl)) (Y.D_step (Ei:=[(18,_)]) rfl rfl (bQ (bZ 0 rfl rfl) bX) rfl rfl (by kernel_rfl) (dX rfl (eY A_54 Z_54 (Ht rfl) (i:=0) rfl rfl)) (Y.D_step (Ei:=[(1,_)]) rfl rfl (bQ (bJ rfl rfl) bX) rfl rfl (by kernel_rfl) (dX rfl (cX (Ht rfl))) ?_)))))
  refine Y.D_step (Ei:=[(19,_),(20,_)]) rfl rfl (bQ (bZ 1 rfl rfl) (bQ (bZ 2 rfl rfl) bX)) rfl rfl (by kernel_rfl) (dX rfl (dZ U_54 Z_32 (Ht rfl) (Ht rfl) rfl (dY (dU (d:=Qi.zero) hk)))) (Y.D_step (Ei:=[(21,_)]) rfl rfl (bQ (bZ 3 rfl rfl) bX) rfl rfl (by kernel_rfl) (dX rfl (dJ A_32 Z_32 (Ht rfl))) (bY (Ei:=[(2,_)]) rfl rfl (bQ (bJ rfl rfl) bX) rfl rfl (dX rfl (eZ oG (Ht rfl) rfl)) (bY (Ei:=[(23,_)]) rfl rfl (bQ (bZ 5 rfl rfl) bX) rfl rfl (dX rfl (eY A_98 Z_98 (Ht rfl) (i:=0) rfl rfl)) ?_)))
  refine bY (Ei:=[(1,_)]) rfl rfl (bQ (bJ rfl rfl) bX) rfl rfl (dX rfl (cX (Ht rfl))) (bY (Ei:=[(24,_),(25,_)]) rfl rfl (bQ (bZ 6 rfl rfl) (bQ (bZ 7 rfl rfl) bX)) rfl rfl (dX rfl (dZ U_98 Z_80 (Ht rfl) (Ht rfl) rfl (dY (dU (d:=iA) zo)))) (bY (Ei:=[(26,_)]) rfl rfl (bQ (bZ 8 rfl rfl) bX) rfl rfl (dX rfl (dJ A_80 Z_80 (Ht rfl))) (Y.D_putI (Ei:=[(4,_),(22,_)]) 1 rfl rfl rfl (bQ (bJ rfl rfl) (bQ (bZ 4 rfl rfl) bX)) (.head _) rfl (mK Z_32 (Ht rfl) (Ht rfl) rfl (i:=0) rfl (aK rfl) rfl rfl) ?_)))
  refine Y.D_done aO rfl (by kernel_rfl) rfl (by simp [Y.okP]) rfl rfl (bU (bU (bU (bU (bU (bU (bU (bU (bU (bU (Y.F_putI (Y.F_nil ?_))))))))))))
  refine gQ Z_80 (Ht rfl) (Ht rfl) rfl (i:=2) rfl (aK rfl) rfl rfl (ro rfl (cQ (cJ 0)) (eX (Gx rfl (fX (fK A_32 Z_32 rfl (i:=1) rfl rfl) ?_) (fX (fK A_80 Z_80 rfl (i:=2) rfl rfl) ?_) (fX (eU rfl) ?_))))
  ·exact (kB (by rw [he]))
  ·exact (fun v V h=>by rw [he]; exact h)
  ·exact (aH (by rw [he]; rfl))
theorem Zj {z y:List Qi} {S U:List (List Qi)} {r:Qi} {n i j L M:Nat} (hs:iE S n n) (hu:iE U n n) (hi:i < n) (hj:j < n) (fs:eE S L) (fu:eE U L) (fr:aP r M) (hL1:1 ≤ L) (hL:L ≤ 1000000) (hM:M ≤ 10000000):bA Tryz.prog 143 [NT .i64 i,NT .i64 j,PT (gE z S),PT (aT r),PT (gE y U)] (aT (gm S i j + r * (gm U i j - gm S i j))):=by
 haveI f1:=fs.get hL1 i j
 haveI f2:=fu.get hL1 i j
 haveI:=fr
 have h1:=hs.row hi
 have h2:=hu.row hi
 have h3:=hs.1
 have h4:=hu.1
 refine bA.intro Tryz.func143 rfl Tryz.ntmps143 rfl (fun cx=>(ts (rn rfl (eW (Ts:=[Is (.bool false),Is (.slice none 0 0),Is (.bool false),Is (.slice none 0 0),Is (.slice none 0 0)]) O_32 rfl (fun V=>aW zd (aW zd (aW zd (aW zd (aW zd (aG))))))) fun B7=>(eX (cK (fZ (m:=30) (dp 2 rfl (gB kJ (Ht rfl) rfl) (dq 8 0 rfl (dJ A_78 Z_78 (Ht rfl)) (dp 0 rfl (cX (Ht rfl)) (cI 9 1 10 2 rfl (dZ U_78 Z_54 (Ht rfl) (Ht rfl) rfl (dY (dU (d:=[]) zo))) ?_))))))))))
 refine dq 11 3 rfl (dJ A_54 Z_54 (Ht rfl)) (dp 1 rfl (cX (Ht rfl)) (cI 12 4 13 5 rfl (dZ U_54 Z_32 (Ht rfl) (Ht rfl) rfl (dY (dU (d:=Qi.zero) zo))) (dq 14 6 rfl (dJ A_32 Z_32 (Ht rfl)) (dq 15 7 rfl (eD fF (Ht rfl)) (dp 3 rfl (dJ A_32 Z_32 (Ht rfl)) (dq 17 9 rfl (eD fF (Ht rfl)) (dp 4 rfl (gB kJ (Ht rfl) rfl) (dq 19 11 rfl (dJ A_78 Z_78 (Ht rfl)) (dp 0 rfl (cX (Ht rfl)) (cI 20 12 21 13 rfl (dZ U_78 Z_54 (Ht rfl) (Ht rfl) rfl (dY (dU (d:=[]) zo))) ?_))))))))))
 refine dq 22 14 rfl (dJ A_54 Z_54 (Ht rfl)) (dp 1 rfl (cX (Ht rfl)) (cI 23 15 24 16 rfl (dZ U_54 Z_32 (Ht rfl) (Ht rfl) rfl (dY (dU (d:=Qi.zero) zo))) (dq 25 17 rfl (dJ A_32 Z_32 (Ht rfl)) (dq 26 18 rfl (eD fF (Ht rfl)) (dp 2 rfl (gB kJ (Ht rfl) rfl) (dq 28 20 rfl (dJ A_78 Z_78 (Ht rfl)) (dp 0 rfl (cX (Ht rfl)) (cI 29 21 30 22 rfl (dZ U_78 Z_54 (Ht rfl) (Ht rfl) rfl (dY (dU (d:=[]) zo))) (dq 31 23 rfl (dJ A_54 Z_54 (Ht rfl)) ?_)))))))))
 refine dp 1 rfl (cX (Ht rfl)) (cI 32 24 33 25 rfl (dZ U_54 Z_32 (Ht rfl) (Ht rfl) rfl (dY (dU (d:=Qi.zero) zo))) (dq 34 26 rfl (dJ A_32 Z_32 (Ht rfl)) (cI 27 19 35 27 rfl (dA mC K_32 (xV (x:=gm U i j) (y:=gm S i j) (L:=L) (M:=L) zo) (Ht rfl) ⟨(Ht rfl),trivial⟩) (cI 18 10 36 28 rfl (dA kQ K_29 (xU (x:=r) (y:=gm U i j - gm S i j) (L:=M) (M:=L + L + 1) zo) (Ht rfl) ⟨(Ht rfl),trivial⟩) (fV aO rfl (by kernel_rfl) (zF (zF (zF (zF (zF (zF (zF (aJ (aJ (aV ?_)))))))))))))))
 refine ro rfl (dA qE Tryz.call33 (Jh (x:=gm S i j) (y:=r * (gm U i j - gm S i j)) (L:=L) (M:=M + (L + L + 1) + 1) zo) (Ht rfl) ⟨(Ht rfl),trivial⟩) (gQ Z_32 (Ht rfl) (Ht rfl) rfl (i:=0) rfl (aK rfl) rfl rfl (eX ?_))
 exact fW rfl (fK A_32 Z_32 rfl (i:=0) rfl rfl)
theorem Al {f:List Qi} {l:List NP} {x:Qi} {L:Nat} (ok:rT f l) (hf:Gu f l L) (hx:aP x L) (hL1:1 ≤ L) (hL:L ≤ 1000):bA Tryz.prog 55 [Tc f l,aT x] (eT [gE (nW f l x).1.1 (nW f l x).1.2,aL .i64 (nW f l x).2]):=by
 have nl:=hf.nl; have nf:=hf.nf; have hfl:=ok.len
 refine bA.intro Tryz.func55 rfl Tryz.ntmps55 rfl (fun cx=>(ts (rn rfl (fG (Ht rfl)) fun B2=>(rn rfl (fG (Ht rfl)) fun B3=>(rn rfl (eW (Ts:=[Is (.slice none 0 0),Is (.slice none 0 0)]) O_80 rfl (fun V=>aW zd (aW zd (aG)))) fun B4=>(ro rfl (cQ (cJ 0)) (eX (cK (ts (ro rfl (eJ A_32 Z_32 (Ht rfl) (i:=1) rfl rfl rfl) (ro rfl (cZ Tryz.call35 (Hd (x:=x)) ⟨(Ht rfl),trivial⟩) (ro rfl (fB (Ht rfl)) (eX (dQ (Ht rfl) (fun hb=>?_) (fun hb=>?_)))))))))))))))
 ·have he := Bv (f := f) (l := l) (x := x) (by simpa using hb)
  refine ts (ro rfl (aE.imp (mL ) lP) (gQ Z_80 (Ht rfl) (Ht rfl) rfl (i:=2) rfl (aK rfl) rfl rfl (ro rfl (cQ (cJ 1)) (eX (bC rfl (fX (fK A_80 Z_80 rfl (i:=2) rfl rfl) ?_) (fX (eU rfl) ?_))))))
  ·exact (fun v V h=>by rw [he]; exact h)
  ·exact (aH (by rw [he]; rfl))
 ·have hxb : x.b = 0 := by simpa using hb
  obtain ⟨k,hk⟩:∃ k,rJ f x = k:=⟨_,rfl⟩
  refine cU (ts (ro rfl (eZ kF (Ht rfl) rfl) (ro rfl (eY A_54 Z_54 (Ht rfl) (i:=0) rfl rfl) (ro rfl (eJ A_32 Z_32 (Ht rfl) (i:=1) rfl rfl rfl) (ro rfl (cZ Tryz.call141 (eQ (Zi (f:=f) (x:=x) (L:=L) hf.ff hx hL1 zo (fun i hi=>ok.re hi) (Re.of hxb) (fun i j h1 h2=>ok.lt h1 h2)) (nV (by rw [hk]))) ⟨(Ht rfl),(Ht rfl),(aS.fn Tryz.call30 (γ:=PG L) (Ts:=fun x=>[aT x.1.1,aT x.1.2]) (U:=fun x=>aL .i64 (pU x.1.1 x.1.2)) (fun x=>haveI:=x.2.1; haveI:=x.2.2; Jk (L:=L) (M:=L) zo)),trivial⟩) ?_)))))
  refine rm rfl (ro rfl (dK (Ht rfl) rfl) (ro rfl (dK (Ht rfl) rfl) (ra rfl (ra rfl (eX (cK (eG (ts (rm rfl (ra rfl (eX (dQ (Ht rfl) (fun hc=>?_) (fun hc=>?_)))))))))))))
  ·have hc2 : k < f.length ∧ gv f k = x := of_decide_eq_true hc
   have he:=Ox (l:=l) hxb hk hc2
   refine ts (ro rfl (eZ oG (Ht rfl) rfl) (ro rfl (eY A_98 Z_98 (Ht rfl) (i:=0) rfl rfl) (rm rfl (ro rfl (dZ U_98 Z_80 (Ht rfl) (Ht rfl) rfl (dY (dU (d:=iA) zo))) (ro rfl (dJ A_80 Z_80 (Ht rfl)) (gQ Z_80 (Ht rfl) (Ht rfl) rfl (i:=2) rfl (aK rfl) rfl rfl (ro rfl (cQ (cJ 0)) (eX (bC rfl (fX (fK A_80 Z_80 rfl (i:=2) rfl rfl) ?_) (fX (eU rfl) ?_))))))))))
   ·exact (fun v V h=>by rw [he]; exact h)
   ·exact (aH (by rw [he]; rfl))
  ·have hc2 : ¬ (k < f.length ∧ gv f k = x) := of_decide_eq_false hc
   refine ts (rm rfl (ro rfl (bT (Ht rfl) (cJ 0)) (rm rfl (fQ rfl rfl (eK rfl rfl (Ht rfl) (fun h=>cX (Ht rfl))) (fQ rfl rfl (eK rfl rfl (Ht rfl) (fun h=>eZ kF (Ht rfl) rfl)) (fQ rfl rfl (eK rfl rfl (Ht rfl) (fun h=>eY A_54 Z_54 (fJ rfl h) (i:=0) rfl rfl)) (fQ rfl rfl (eK rfl rfl (Ht rfl) (fun h=>dG U_54 (fJ rfl h) aA)) (fQ rfl rfl (eK rfl rfl (Ht rfl) (fun h=>bT (fJ rfl h) (fJ rfl h))) (ro rfl (iR (Ht rfl) (fun h=>(fJ rfl h))) (ra rfl (eX ?_)))))))))))
   refine dQ (Ht rfl) (fun hd=>?_) (fun hd=>?_)
   ·have hd2 : k = 0 ∨ k = f.length := by have h := hd; simp only [Bool.or_eq_true, decide_eq_true_eq] at h; exact h
    have he:=Dw (l:=l) hxb hk hc2 hd2
    refine ts (ro rfl (aE.imp (mL ) lP) (gQ Z_80 (Ht rfl) (Ht rfl) rfl (i:=2) rfl (aK rfl) rfl rfl (ro rfl (cQ (cJ 5)) (eX (bC rfl (fX (fK A_80 Z_80 rfl (i:=2) rfl rfl) ?_) (fX (eU rfl) ?_))))))
    ·exact (fun v V h=>by rw [he]; exact h)
    ·exact (aH (by rw [he]; rfl))
   ·have hd2 : ¬ (k = 0 ∨ k = f.length) := by have h := hd; simp only [Bool.or_eq_false_iff, decide_eq_false_iff_not] at h; omega
    have he:=Jg (l:=l) hxb hk hc2 hd2
    have hkl:k ≤ f.length:=by rw [← hk]; exact List.findIdx_le_length
    have hk1:k < f.length:=by omega
    haveI:=hx
    haveI f1:=hf.ff.get hL1 k
    haveI f2:=hf.ff.get hL1 (k - 1)
    have gR : aP (zU f x k) (2 * L + 1 + 3 * (2 * L + 1) + 2) := by
     have h:aP (zU f x k) (L + L + 1 + 3 * (L + L + 1) + 2):=by unfold zU; infer_instance
     exact h.le zo
    have hz1:nz l k = nz l (k - 1):=(ok.zs k hk1).trans (ok.zs (k - 1) zo).symm
    have s1:=hf.sh (k - 1)
    have s2:=hf.sh k
    rw [hz1] at s2
    have h8:=hf.h8 (k - 1)
    refine cU (bD (cK (Y.D_start (m:=26) [] (bY (Ei:=[(3,_)]) rfl rfl (bQ (bJ rfl rfl) bX) rfl rfl (dX rfl (eJ A_32 Z_32 (Ht rfl) (i:=1) rfl rfl rfl)) (bY (Ei:=[(2,_)]) rfl rfl (bQ (bJ rfl rfl) bX) rfl rfl (dX rfl (eZ kF (Ht rfl) rfl)) (bY (Ei:=[(46,_)]) rfl rfl (bQ (bZ 1 rfl rfl) bX) rfl rfl (dX rfl (eY A_54 Z_54 (Ht rfl) (i:=0) rfl rfl)) (bY (Ei:=[(6,_)]) rfl rfl (bQ (bJ rfl rfl) bX) rfl rfl (dX rfl (cX (Ht rfl))) ?_)))))))
    refine bY (Ei:=[(48,_)]) rfl rfl (bQ (bZ 3 rfl rfl) bX) rfl rfl (dX rfl (dW (Ht rfl) (cJ 1) zo z6)) (bY (Ei:=[(47,_),(49,_)]) rfl rfl (bQ (bZ 2 rfl rfl) (bQ (bZ 4 rfl rfl) bX)) rfl rfl (dX rfl (dZ U_54 Z_32 (Ht rfl) (Ht rfl) rfl (dY (dU (d:=Qi.zero) zo)))) (bY (Ei:=[(50,_)]) rfl rfl (bQ (bZ 5 rfl rfl) bX) rfl rfl (dX rfl (dJ A_32 Z_32 (Ht rfl))) ?_))
    refine bY (Ei:=[(45,_),(51,_)]) rfl rfl (bQ (bZ 0 rfl rfl) (bQ (bZ 6 rfl rfl) bX)) rfl rfl (dX rfl (cZ K_32 (xV (x:=x) (y:=gv f (k - 1)) (L:=L) (M:=L) zo) ⟨(Ht rfl),(Ht rfl),trivial⟩)) (bY (Ei:=[(2,_)]) rfl rfl (bQ (bJ rfl rfl) bX) rfl rfl (dX rfl (eZ kF (Ht rfl) rfl)) (bY (Ei:=[(53,_)]) rfl rfl (bQ (bZ 8 rfl rfl) bX) rfl rfl (dX rfl (eY A_54 Z_54 (Ht rfl) (i:=0) rfl rfl)) (bY (Ei:=[(6,_)]) rfl rfl (bQ (bJ rfl rfl) bX) rfl rfl (dX rfl (cX (Ht rfl))) ?_)))
    refine bY (Ei:=[(54,_),(55,_)]) rfl rfl (bQ (bZ 9 rfl rfl) (bQ (bZ 10 rfl rfl) bX)) rfl rfl (dX rfl (dZ U_54 Z_32 (Ht rfl) (Ht rfl) rfl (dY (dU (d:=Qi.zero) hk1)))) (bY (Ei:=[(56,_)]) rfl rfl (bQ (bZ 11 rfl rfl) bX) rfl rfl (dX rfl (dJ A_32 Z_32 (Ht rfl))) (bY (Ei:=[(2,_)]) rfl rfl (bQ (bJ rfl rfl) bX) rfl rfl (dX rfl (eZ kF (Ht rfl) rfl)) (bY (Ei:=[(58,_)]) rfl rfl (bQ (bZ 13 rfl rfl) bX) rfl rfl (dX rfl (eY A_54 Z_54 (Ht rfl) (i:=0) rfl rfl)) ?_)))
    refine bY (Ei:=[(6,_)]) rfl rfl (bQ (bJ rfl rfl) bX) rfl rfl (dX rfl (cX (Ht rfl))) (bY (Ei:=[(60,_)]) rfl rfl (bQ (bZ 15 rfl rfl) bX) rfl rfl (dX rfl (dW (Ht rfl) (cJ 1) zo z6)) (bY (Ei:=[(59,_),(61,_)]) rfl rfl (bQ (bZ 14 rfl rfl) (bQ (bZ 16 rfl rfl) bX)) rfl rfl (dX rfl (dZ U_54 Z_32 (Ht rfl) (Ht rfl) rfl (dY (dU (d:=Qi.zero) zo)))) ?_))
    refine bY (Ei:=[(62,_)]) rfl rfl (bQ (bZ 17 rfl rfl) bX) rfl rfl (dX rfl (dJ A_32 Z_32 (Ht rfl))) (bY (Ei:=[(57,_),(63,_)]) rfl rfl (bQ (bZ 12 rfl rfl) (bQ (bZ 18 rfl rfl) bX)) rfl rfl (dX rfl (cZ K_32 (xV (x:=gv f k) (y:=gv f (k - 1)) (L:=L) (M:=L) zo) ⟨(Ht rfl),(Ht rfl),trivial⟩)) (bY (Ei:=[(52,_),(64,_)]) rfl rfl (bQ (bZ 7 rfl rfl) (bQ (bZ 19 rfl rfl) bX)) rfl rfl (dX rfl (cZ Tryz.call142 (Jl (x:=x - gv f (k - 1)) (y:=gv f k - gv f (k - 1)) (L:=L + L + 1) (M:=L + L + 1) zo) ⟨(Ht rfl),(Ht rfl),trivial⟩)) ?_))
    refine bY (Ei:=[(65,_)]) rfl rfl (bQ (bZ 20 rfl rfl) bX) rfl rfl (dX rfl (cX (Ht rfl))) (bY (Ei:=[(44,_)]) rfl rfl (bQ (bZ 21 rfl rfl) bX) rfl rfl (dX rfl (dK (Ht rfl) rfl)) (bY (Ei:=[(44,_)]) rfl rfl (bQ (bZ 21 rfl rfl) bX) rfl rfl (dX rfl (dK (Ht rfl) rfl)) (Y.D_newp (Ei:=[]) (fun bb=>box bb 32 [aB (decide ((zU f x k).a < 0)),aD (zU f x k).a.natAbs,aB (decide ((zU f x k).b < 0)),aD (zU f x k).b.natAbs,aD (du (zU f x k))]) 25 rfl rfl rfl bX rfl rfl (by kernel_rfl) (eW (Ts:=[Is (.bool false),Is (.slice none 0 0),Is (.bool false),Is (.slice none 0 0),Is (.slice none 0 0)]) O_32 rfl (fun V=>aW zd (aW zd (aW zd (aW zd (aW zd (aG))))))) ?_)))
    refine Y.D_putN (Ei:=[(66,_)]) 24 rfl rfl rfl rfl rfl rfl (bQ (bZ 22 rfl rfl) bX) (fun bb=>mK Z_32 (Ht rfl) (Ht rfl) rfl (i:=0) rfl (aK rfl) rfl rfl) (Y.D_done aO rfl (by kernel_rfl) rfl (by simp [Y.okP]) rfl rfl (bU (bU (bU (bU (bU (bU (bU (bU (bU (bU (bU (bU (bU (bU (bU (bU (bU (bU (bU (bU (bU (bU (bU (bU (Y.F_newp (fun B8=>Y.F_putN (Y.F_nil ?_))))))))))))))))))))))))))))
    refine ra rfl (eX (cK (Y.D_start (m:=14) [] (bY (Ei:=[(2,_)]) rfl rfl (bQ (bJ rfl rfl) bX) rfl rfl (dX rfl (eZ oG (Ht rfl) rfl)) (bY (Ei:=[(68,_)]) rfl rfl (bQ (bZ 0 rfl rfl) bX) rfl rfl (dX rfl (eY A_98 Z_98 (Ht rfl) (i:=0) rfl rfl)) (bY (Ei:=[(6,_)]) rfl rfl (bQ (bJ rfl rfl) bX) rfl rfl (dX rfl (cX (Ht rfl))) (bY (Ei:=[(70,_)]) rfl rfl (bQ (bZ 2 rfl rfl) bX) rfl rfl (dX rfl (dW (Ht rfl) (cJ 1) zo z6)) ?_)))))))
    refine bY (Ei:=[(69,_),(71,_)]) rfl rfl (bQ (bZ 1 rfl rfl) (bQ (bZ 3 rfl rfl) bX)) rfl rfl (dX rfl (dZ U_98 Z_80 (Ht rfl) (Ht rfl) rfl (dY (dU (d:=iA) zo)))) (bY (Ei:=[(72,_)]) rfl rfl (bQ (bZ 4 rfl rfl) bX) rfl rfl (dX rfl (dJ A_80 Z_80 (Ht rfl))) (bY (Ei:=[(2,_)]) rfl rfl (bQ (bJ rfl rfl) bX) rfl rfl (dX rfl (eZ oG (Ht rfl) rfl)) (bY (Ei:=[(74,_)]) rfl rfl (bQ (bZ 6 rfl rfl) bX) rfl rfl (dX rfl (eY A_98 Z_98 (Ht rfl) (i:=0) rfl rfl)) ?_)))
    refine bY (Ei:=[(6,_)]) rfl rfl (bQ (bJ rfl rfl) bX) rfl rfl (dX rfl (cX (Ht rfl))) (bY (Ei:=[(75,_),(76,_)]) rfl rfl (bQ (bZ 7 rfl rfl) (bQ (bZ 8 rfl rfl) bX)) rfl rfl (dX rfl (dZ U_98 Z_80 (Ht rfl) (Ht rfl) rfl (dY (dU (d:=iA) zo)))) (bY (Ei:=[(77,_)]) rfl rfl (bQ (bZ 9 rfl rfl) bX) rfl rfl (dX rfl (dJ A_80 Z_80 (Ht rfl))) (Y.D_newp (Ei:=[]) (fun bb=>box bb 80 [dB (nz l (k - 1)),fT (ns l (k - 1))]) 13 rfl rfl rfl bX rfl rfl (by kernel_rfl) (eW (Ts:=[Is (.slice none 0 0),Is (.slice none 0 0)]) O_80 rfl (fun V=>aW zd (aW zd (aG)))) ?_)))
    refine Y.D_new (Ei:=[]) rfl rfl rfl bX rfl rfl (eW (Ts:=[Is (.slice none 0 0),Is (.slice none 0 0)]) O_80 rfl (fun V=>aW zd (aW zd (aG)))) (Y.D_putN (Ei:=[(73,_)]) 11 rfl rfl rfl rfl rfl rfl (bQ (bZ 5 rfl rfl) bX) (fun bb=>mK Z_80 (Ht rfl) (Ht rfl) rfl (i:=0) rfl (aK rfl) rfl rfl) (Y.D_done aO rfl (by kernel_rfl) rfl (by simp [Y.okP]) rfl rfl (bU (bU (bU (bU (bU (bU (bU (bU (bU (bU (bU (Y.F_newp (fun B10=>Y.F_new (fun B11=>Y.F_putN (Y.F_nil ?_)))))))))))))))))
    refine gQ Z_80 (Ht rfl) (Ht rfl) rfl (i:=5) rfl (aK rfl) rfl rfl (eX (ts (rn rfl (eW (Ts:=[Is (.bool false),Is (.slice none 0 0),Is (.bool false),Is (.slice none 0 0),Is (.slice none 0 0)]) O_32 rfl (fun V=>aW zd (aW zd (aW zd (aW zd (aW zd (aG))))))) fun B12=>(eX (cK (oP 6 rfl Ov (cY (ro rfl (eJ A_32 Z_32 (Ht rfl) (i:=6) rfl rfl rfl) (ro rfl (eD fF (Ht rfl)) ?_)))))))))
    refine ro rfl (eJ A_32 Z_32 (Ht rfl) (i:=3) rfl rfl rfl) (ro rfl (dA oZ Tryz.call318 a1G (Ht rfl) ⟨(Ht rfl),trivial⟩) (rn rfl (eW (Ts:=[Is (.bool false),Is (.slice none 0 0),Is (.bool false),Is (.slice none 0 0),Is (.slice none 0 0)]) O_32 rfl (fun V=>aW zd (aW zd (aW zd (aW zd (aW zd (aG))))))) fun B13=>(gQ Z_32 (Ht rfl) (Ht rfl) rfl (i:=7) rfl (aK rfl) rfl rfl (eX (cK ?_)))))
    refine gJ (i:=4) (tt:=10) rfl rfl wM (gJ (i:=5) (tt:=11) rfl rfl wM (gJ (i:=7) (tt:=13) rfl rfl wM ?_))
    obtain ⟨n,hn⟩:∃ n,n = (nz l (k - 1)).length:=⟨_,rfl⟩
    have hn2:n = (nz l (k - 1)).length:=hn
    rw [← hn] at s1 s2
    have hmix:My l k (zU f x k) = (nz l (k - 1),(tab n fun i=>tab n fun j=>gm (ns l (k - 1)) i j + zU f x k * (gm (ns l k) i j - gm (ns l (k - 1)) i j))):=by rw [hn]; rfl
    rw [hmix] at he
    refine cY (ro rfl (tE (γ:=Fin n × Fin n) (Ts:=fun q=>[NT .i64 q.1.1,NT .i64 q.2.1]) (U:=fun q=>aT (gm (ns l (k - 1)) q.1.1 q.2.1 + zU f x k * (gm (ns l k) q.1.1 q.2.1 - gm (ns l (k - 1)) q.1.1 q.2.1))) Tryz.call143 (fun q=>Zj (z:=nz l (k - 1)) (y:=nz l k) (S:=ns l (k - 1)) (U:=ns l k) (r:=zU f x k) (n:=n) (i:=q.1.1) (j:=q.2.1) (L:=L) (M:=2 * L + 1 + 3 * (2 * L + 1) + 2) s1 s2 q.1.2 q.2.2 (hf.fs _) (hf.fs _) gR hL1 zo zo) ⟨(Ht rfl),(Ht rfl),(Ht rfl),trivial⟩) ?_)
    refine ra rfl (eX (cK (fZ (m:=7) (dp 10 rfl (gB jU (Ht rfl) rfl) (dq 84 0 rfl (dJ A_54 Z_54 (Ht rfl)) (dp 10 rfl (gB jU (Ht rfl) rfl) (dq 86 2 rfl (dJ A_54 Z_54 (Ht rfl)) (dq 87 3 rfl (aE.nat (dG U_54 (Ht rfl) aA) hn.symm) (dp 14 rfl (cX (Ht rfl)) (cI 88 4 89 5 rfl (cZ Tryz.call144 (Hi (n:=n) (f:=fun i j=>gm (ns l (k - 1)) i j + zU f x k * (gm (ns l k) i j - gm (ns l (k - 1)) i j)) zo) ⟨(Ht rfl),(Ht rfl),trivial⟩) (fV aO rfl (by kernel_rfl) (zF (aJ (aJ (aJ (aV ?_))))))))))))))))
    refine ro rfl (sD (Ht rfl) (Ht rfl)) (gQ Z_80 (Ht rfl) (Ht rfl) rfl (i:=2) rfl (aK rfl) rfl rfl (ro rfl (cQ (cJ 0)) (eX (bC rfl (fX (fK A_80 Z_80 rfl (i:=2) rfl rfl) ?_) (fX (eU rfl) ?_)))))
    ·exact (fun v V h=>by rw [he]; exact h)
    ·exact (aH (by rw [he]; rfl))
end
section
open Go Go.RowKit
theorem Ab (v : Value) (w : World) : (method (Tryz.prog.types.size + Made.depth) 32 v "Clear").run Tryz.prog w = .ok (34, v) w := by kernel_rfl
end
section
open Go Go.RowKit
theorem Ue {M:List (List Qi)} {n m G B:Nat} (hs:iE M n m) (hstg:∀ c,c ≤ n → eE (dM M c).1 G) (hG1:1 ≤ G) (hg:6 * G + 4 ≤ 17592186044415) (hnm:n ≤ m) (hm:m ≤ 1000):iM Tryz.prog 265 [Is (.slice (some ⟨B,0,none⟩) n n)] [pM B 54 32 5 (dE aT M)] (Unit) (fun _=>eT [NT .i64 (dM M n).2.1,aL .i64 (dM M n).2.2]) (fun _=>[pM B 54 32 5 (dE aT (dM M n).1)]) (fun _=>True):=by
 have hs1:=hs.1
 refine iM.intro Tryz.func265 rfl Tryz.ntmps265 rfl (fun cx Z=>(ts (ro rfl (cQ (cJ 0)) (ro rfl (cQ (cJ 0)) (eX (ts (ro rfl (cQ (cJ 0)) (eX (cK (ts (rm rfl (ro rfl (iY U_78 (Ht rfl)) (ro rfl (cX (cJ 0)) (eX (eG (Bq 1 rfl (fun vs hvs=>?_)))))))))))))))))
 have hvs2:Xn vs n:=by have h:=hvs; rw [List.length_map,hs1] at h; exact h
 refine sO (fun (c : Nat) (sw : Nat) (vs : List Value) (A : List (List Qi)) => (c ≤ n ∧ sw ≤ c) ∧ dM M c = (A, sw, -1) ∧ Xn vs n) (fun (c : Nat) (sw : Nat) (vs : List Value) (A : List (List Qi)) => n - c) (fun (c : Nat) (sw : Nat) (vs : List Value) (A : List (List Qi)) => [(0, Is (.slice (some ⟨B, 0, none⟩) n n)), (4, NT .i64 sw), (12, NT .i64 n), (13, NT .i64 c)]) (fun (c : Nat) (sw : Nat) (vs : List Value) (A : List (List Qi)) => [Z, iW B 54 32 5 vs vs (dE aT A)]) 0 0 vs M ⟨⟨Nat.zero_le _, Nat.le_refl _⟩, rfl, hvs2⟩
  (zS rfl) (bP.refl _) (fun c sw vs A ⟨⟨hc,hsw⟩,hA,hvs⟩=>?_)
 refine ts (ro rfl (gX (Ht rfl) (Ht rfl)) (eX (cK (dQ (Ht rfl) (fun hcn=>?_) (fun hcn=>?_)))))
 ·simp only [decide_eq_true_eq] at hcn
  have hvl:=hvs.len
  have hAs:iE A n m:=by have h:=oF hs hc; rw [hA] at h; exact h
  have hAf:eE A G:=by have h:=hstg c hc; rw [hA] at h; exact h
  have hAl:=hAs.1
  refine cU (cK (eG (ts (rm rfl (ra rfl (eX (ts (rm rfl (ra rfl (eX (cK (eG ?_))))))))))))
  refine cL (fun (p : Nat) => (c ≤ p ∧ p ≤ n) ∧ ∀ r, c ≤ r → r < p → gm A r c = Qi.zero) (fun (p : Nat) => n - p) (fun (p : Nat) => [(0, Is (.slice (some ⟨B, 0, none⟩) n n)), (4, NT .i64 sw), (5, NT .i64 c), (6, NT .i64 p), (12, NT .i64 n), (13, NT .i64 c)]) (fun (p : Nat) => [Z, iW B 54 32 5 vs vs (dE aT A)]) c ⟨⟨Nat.le_refl _, hc⟩, fun r h1 h2 => by omega⟩
   (zS rfl) (bP.refl _) (fun p ⟨⟨hcp,hpn⟩,hz⟩=>?_)
  haveI fp:aP (gm A p c) G:=hAf.get hG1 p c
  refine cK (ts (rm rfl (rm rfl (ro rfl (iY U_78 (Ht rfl)) (ro rfl (gX (Ht rfl) (Ht rfl)) (rm rfl (fQ rfl rfl (eK rfl rfl (Ht rfl) (fun h=>cX (Ht rfl))) (fQ rfl rfl (eK rfl rfl (Ht rfl) (fun h=>cX (Ht rfl))) (fQ rfl rfl (eK rfl rfl (Ht rfl) (fun h=>fY U_78 Z_54 (fJ rfl h) (fJ rfl h) rfl (by first | omega | (simp at h; omega)) (by rw [Nat.mul_one,Nat.zero_add]))) ?_)))))))))
  refine fQ rfl rfl (eK rfl rfl (Ht rfl) (fun h=>jV A_54 Z_54 (fJ rfl h) (j:=1) rfl (by simp at h; omega))) ?_
  refine fQ rfl rfl (eK rfl rfl (Ht rfl) (fun h=>cX (Ht rfl))) (fQ rfl rfl (eK rfl rfl (Ht rfl) (fun h=>lQ U_54 Z_32 (fJ rfl h) (fJ rfl h) rfl (j:=1) rfl zo (by simp at h; omega) (by simp at h; rw [hAs.row h]; omega))) ?_)
  refine fQ rfl rfl (eK rfl rfl (Ht rfl) (fun h=>qJ A_32 Z_32 (fJ rfl h) (j:=1) rfl zo (by simp at h; omega) (by simp at h; rw [hAs.row h]; omega))) ?_
  refine fQ rfl rfl (eK rfl rfl (Ht rfl) (fun h=>eD fF (fJ rfl h))) (fQ rfl rfl (eK rfl rfl (Ht rfl) (fun h=>dA Ab Tryz.call34 (Ji (x:=gm A p c) (L:=G) zo) (fJ rfl h) trivial)) (fQ rfl rfl (eK rfl rfl (Ht rfl) (fun h=>fB (fJ rfl h))) (ro rfl (cT (Ht rfl) (fun h=>(fJ rfl h))) (eX (dQ (Ht rfl) (fun he=>?_) (fun he=>?_))))))
  ·have he2 : p < n ∧ gm A p c = Qi.zero := by simpa using he
   refine cU (eG (cY (rm rfl (ro rfl (dV (Ht rfl) (cJ 1) z6) (ra rfl (eX (bD ?_)))))))
   refine fU (p + 1) ⟨⟨by omega, by omega⟩, fun r h1 h2 => by
     by_cases e:r = p
     ·rw [e]; exact he2.2
     ·exact hz r h1 zo⟩ zo (zS rfl) (bP.refl _)
  ·have hpv : pv A c n = p := a1u hcp hpn hz (fun h => by simp at he; exact he h)
   refine gV rfl (cK (ts (rm rfl (rm rfl (ro rfl (iY U_78 (Ht rfl)) (ro rfl (bT (Ht rfl) (Ht rfl)) (eX (dQ (Ht rfl) (fun hp=>?_) (fun hp=>?_)))))))))
   ·have hp2 : p = n := by simpa using hp
    have hend:=Pz hs1 hA (by rw [hpv]; exact hp2) hcn
    refine ts (rm rfl (rm rfl (ra rfl (ra rfl (eX ?_)))))
    exact kX () trivial [0,1] ⟨⟨_,rfl,fun _ _ _ h=>h⟩,⟨_,rfl,(fun S w V h=>fE (by rw [hend]) S w V (sG (by rw [List.length_map]; omega) S w V h))⟩,trivial⟩ (by decide) (a0E rfl (fX (eU rfl) (kR (by rw [hend]))) (fX (eU rfl) (aH (by rw [hend]))))
   ·have hp2 : p < n := by simp at hp; omega
    have hpz:=(pE (M:=A) (c:=c) (n:=n) hc).2.2.2 (by rw [hpv]; exact hp2)
    rw [hpv] at hpz
    have hnx:=Mo hs1 hA hpv hp2
    refine cU (cK (Tl (fun (q:Nat) (us:List Value) (D:List (List Qi))=>(q = sw + (if p = c then 0 else 1) ∧ D = (if p = c then A else swp [] A p c)) ∧ Xn us n) (fun (q:Nat) (us:List Value) (D:List (List Qi))=>[(0,Is (.slice (some ⟨B,0,none⟩) n n)),(4,NT .i64 q),(5,NT .i64 c),(12,NT .i64 n),(13,NT .i64 c)]) (fun (q:Nat) (us:List Value) (D:List (List Qi))=>[Z,iW B 54 32 5 us us (dE aT D)]) ?_ (fun q us D ⟨⟨hq,hD⟩,hus⟩=>?_)))
    ·refine ts (rm rfl (rm rfl (ro rfl (gL (Ht rfl) (Ht rfl)) (eX (dQ (Ht rfl) (fun hpc => ?_) (fun hpc => ?_))))))
     ·have hpc2 : ¬ p = c := by simpa using hpc
      refine cK (Y.D_start (m:=14) [(13,1,iW B 54 32 5 (vs.set p (hd vs c)) vs (dE aT A))] (Y.D_step (Ei:=[(0,_)]) rfl rfl (bQ (bJ rfl rfl) bX) rfl rfl (by kernel_rfl) (dX rfl (cX (Ht rfl))) (Y.D_step (Ei:=[(6,_)]) rfl rfl (bQ (bJ rfl rfl) bX) rfl rfl (by kernel_rfl) (dX rfl (cX (Ht rfl))) (bY (Ei:=[(0,_)]) rfl rfl (bQ (bJ rfl rfl) bX) rfl rfl (dX rfl (cX (Ht rfl))) (bY (Ei:=[(5,_)]) rfl rfl (bQ (bJ rfl rfl) bX) rfl rfl (dX rfl (cX (Ht rfl))) ?_)))))
      refine Y.D_step (Ei:=[(0,_)]) rfl rfl (bQ (bJ rfl rfl) bX) rfl rfl (by kernel_rfl) (dX rfl (cX (Ht rfl))) (Y.D_step (Ei:=[(5,_)]) rfl rfl (bQ (bJ rfl rfl) bX) rfl rfl (by kernel_rfl) (dX rfl (cX (Ht rfl))) (Y.D_step (Ei:=[(48,_),(49,_)]) rfl rfl (bQ (bZ 4 rfl rfl) (bQ (bZ 5 rfl rfl) bX)) rfl rfl (by kernel_rfl) (dX rfl (fY U_78 Z_54 (Ht rfl) (Ht rfl) rfl zo (by rw [Nat.mul_one,Nat.zero_add]))) ?_))
      refine Y.D_step (Ei:=[(50,_)]) rfl rfl (bQ (bZ 6 rfl rfl) bX) rfl rfl (by kernel_rfl) (dX rfl (jV A_54 Z_54 (Ht rfl) (j:=1) rfl zo)) (Y.D_step (Ei:=[(0,_)]) rfl rfl (bQ (bJ rfl rfl) bX) rfl rfl (by kernel_rfl) (dX rfl (cX (Ht rfl))) (Y.D_step (Ei:=[(6,_)]) rfl rfl (bQ (bJ rfl rfl) bX) rfl rfl (by kernel_rfl) (dX rfl (cX (Ht rfl))) (Y.D_step (Ei:=[(52,_),(53,_)]) rfl rfl (bQ (bZ 8 rfl rfl) (bQ (bZ 9 rfl rfl) bX)) rfl rfl (by kernel_rfl) (dX rfl (fY U_78 Z_54 (Ht rfl) (Ht rfl) rfl zo (by rw [Nat.mul_one,Nat.zero_add]))) ?_)))
      refine Y.D_step (Ei:=[(54,_)]) rfl rfl (bQ (bZ 10 rfl rfl) bX) rfl rfl (by kernel_rfl) (dX rfl (jV A_54 Z_54 (Ht rfl) (j:=1) rfl zo)) (Y.D_step (Ei:=[(44,_),(45,_)]) rfl rfl (bQ (bZ 0 rfl rfl) (bQ (bZ 1 rfl rfl) bX)) rfl rfl (by kernel_rfl) (dX rfl (fY U_78 Z_54 (Ht rfl) (Ht rfl) rfl zo (by rw [Nat.mul_one,Nat.zero_add]))) ?_)
      refine Y.D_putI (Ei:=[(56,_),(51,_)]) 1 rfl rfl rfl (bQ (bZ 12 rfl rfl) (bQ (bZ 7 rfl rfl) bX)) (.head _) rfl (Oe Z_54 (Ht rfl) (Ht rfl) (hvs.pl c zo) (i:=p) (hs:=vs) zo) (Y.D_done aO rfl (by kernel_rfl) rfl (by simp [Y.okP]) rfl rfl (bU (bU (bU (bU (bU (bU (bU (bU (bU (bU (bU (bU (bU (Y.F_putI (Y.F_nil ?_))))))))))))))))
      refine ro rfl (fY U_78 Z_54 (Ht rfl) (Ht rfl) rfl zo (by rw [Nat.mul_one,Nat.zero_add])) ?_
      refine Yy Z_54 (Ht rfl) (Ht rfl) (j:=1) rfl (hvs.pl p zo) (by rw [List.length_set]; omega) rfl ?_
      refine eX (oP 1 rfl (Mx (hs:=swp Cu vs p c) (p:=p) (c:=c) zo zo zo) (cY (rm rfl (ro rfl (dV (Ht rfl) (cJ 1) z6) (ra rfl (eX (aN (sw + 1,swp Cu vs p c,swp [] A p c) ⟨⟨by rw [if_neg hpc2],by rw [if_neg hpc2]⟩,hvs.swp hp2 hcn⟩ (zS rfl) (bP.refl _))))))))
     ·have hpc2 : p = c := by simpa using hpc
      refine cU (aN (sw,vs,A) ⟨⟨by rw [if_pos hpc2]; rfl,by rw [if_pos hpc2]⟩,hvs⟩ (zS rfl) (bP.refl _))
    ·have hul := hus.len
     rw [← hq,← hD] at hnx
     have hDs:iE D n m:=by rw [hD]; split; exact hAs; exact xB hAs hp2 hcn
     have hDf:eE D G:=by rw [hD]; split; exact hAf; exact Dg hAf
     have hDl:=hDs.1
     have hDz : gm D c c ≠ Qi.zero := by
      rw [hD]; split
      ·rename_i e; rw [e] at hpz; exact hpz
      ·show gv (dS (swp [] A p c) c) c ≠ _
       rw [zD zo]; exact hpz
     refine ts (rm rfl (ro rfl (dV (Ht rfl) (cJ 1) z6) (ra rfl (eX (eG ?_)))))
     refine cL (fun (r : Nat) => c < r ∧ r ≤ n) (fun (r : Nat) => n - r) (fun (r : Nat) => [(0, Is (.slice (some ⟨B, 0, none⟩) n n)), (4, NT .i64 q), (5, NT .i64 c), (7, NT .i64 r), (12, NT .i64 n), (13, NT .i64 c)]) (fun (r : Nat) => [Z, iW B 54 32 5 us us (dE aT (redM D c r))]) (c + 1) ⟨Nat.lt_succ_self _, hcn⟩
      (zS rfl) (aU (fun _ _ _ h=>h) (aU (oY (congrArg _ Ig)) aY)) (fun r ⟨hcr,hrn⟩=>?_)
     refine cK (ts (rm rfl (rm rfl (ro rfl (iY U_78 (Ht rfl)) (ro rfl (gX (Ht rfl) (Ht rfl)) (eX (dQ (Ht rfl) (fun hr=>?_) (fun hr=>?_))))))))
     ·simp only [decide_eq_true_eq] at hr
      obtain ⟨X,hX⟩:∃ X,X = redM D c r:=⟨_,rfl⟩
      have hXr:dS X r = dS D r:=by rw [hX]; exact tH zo zo
      have hXc:dS X c = dS D c:=by rw [hX]; exact tH zo zo
      have hXl:X.length = n:=by rw [hX,qL]; exact hDl
      have hXrl:(dS X r).length = m:=by rw [hXr]; exact hDs.row hr
      have hXcl:(dS X c).length = m:=by rw [hXc]; exact hDs.row hcn
      have hXrg:(X.getD r []).length = m:=hXrl
      have hXcg:(X.getD c []).length = m:=hXcl
      have hXfr:dR (dS X r) G:=by rw [hXr]; exact hDf.row r
      have hXfc:dR (dS X c) G:=by rw [hXc]; exact hDf.row c
      haveI g1:aP (gm X r c) G:=hXfr.get hG1 c
      haveI g2:aP (gm X c c) G:=hXfc.get hG1 c
      have hXz:gm X c c ≠ Qi.zero:=by show gv (dS X c) c ≠ _; rw [hXc]; exact hDz
      haveI g3:aP (gm X r c / gm X c c) (G + 3 * G + 2):=⟨g1.fit.div g2.fit hXz⟩
      have hend:=Sh (D:=D) (r:=r) (c:=c) zo hcr
      rw [← hX] at hend ⊢
      refine cU (cK (eG (cK (Y.D_start (m:=21) [] (bY (Ei:=[(0,_)]) rfl rfl (bQ (bJ rfl rfl) bX) rfl rfl (dX rfl (cX (Ht rfl))) (bY (Ei:=[(7,_)]) rfl rfl (bQ (bJ rfl rfl) bX) rfl rfl (dX rfl (cX (Ht rfl))) (bY (Ei:=[(69,_),(70,_)]) rfl rfl (bQ (bZ 0 rfl rfl) (bQ (bZ 1 rfl rfl) bX)) rfl rfl (dX rfl (fY U_78 Z_54 (Ht rfl) (Ht rfl) rfl zo (by rw [Nat.mul_one,Nat.zero_add]))) ?_)))))))
      refine bY (Ei:=[(71,_)]) rfl rfl (bQ (bZ 2 rfl rfl) bX) rfl rfl (dX rfl (jV A_54 Z_54 (Ht rfl) (j:=1) rfl zo)) (bY (Ei:=[(5,_)]) rfl rfl (bQ (bJ rfl rfl) bX) rfl rfl (dX rfl (cX (Ht rfl))) (bY (Ei:=[(72,_),(73,_)]) rfl rfl (bQ (bZ 3 rfl rfl) (bQ (bZ 4 rfl rfl) bX)) rfl rfl (dX rfl (lQ U_54 Z_32 (Ht rfl) (Ht rfl) rfl (j:=1) rfl zo zo zo)) (bY (Ei:=[(74,_)]) rfl rfl (bQ (bZ 5 rfl rfl) bX) rfl rfl (dX rfl (qJ A_32 Z_32 (Ht rfl) (j:=1) rfl zo zo zo)) ?_)))
      refine bY (Ei:=[(75,_)]) rfl rfl (bQ (bZ 6 rfl rfl) bX) rfl rfl (dX rfl (eD fF (Ht rfl))) (bY (Ei:=[(0,_)]) rfl rfl (bQ (bJ rfl rfl) bX) rfl rfl (dX rfl (cX (Ht rfl))) (bY (Ei:=[(5,_)]) rfl rfl (bQ (bJ rfl rfl) bX) rfl rfl (dX rfl (cX (Ht rfl))) (bY (Ei:=[(77,_),(78,_)]) rfl rfl (bQ (bZ 8 rfl rfl) (bQ (bZ 9 rfl rfl) bX)) rfl rfl (dX rfl (fY U_78 Z_54 (Ht rfl) (Ht rfl) rfl zo (by rw [Nat.mul_one,Nat.zero_add]))) ?_)))
      refine bY (Ei:=[(79,_)]) rfl rfl (bQ (bZ 10 rfl rfl) bX) rfl rfl (dX rfl (jV A_54 Z_54 (Ht rfl) (j:=1) rfl zo)) (bY (Ei:=[(5,_)]) rfl rfl (bQ (bJ rfl rfl) bX) rfl rfl (dX rfl (cX (Ht rfl))) (bY (Ei:=[(80,_),(81,_)]) rfl rfl (bQ (bZ 11 rfl rfl) (bQ (bZ 12 rfl rfl) bX)) rfl rfl (dX rfl (lQ U_54 Z_32 (Ht rfl) (Ht rfl) rfl (j:=1) rfl zo zo zo)) (bY (Ei:=[(82,_)]) rfl rfl (bQ (bZ 13 rfl rfl) bX) rfl rfl (dX rfl (qJ A_32 Z_32 (Ht rfl) (j:=1) rfl zo zo zo)) ?_)))
      refine bY (Ei:=[(76,_),(83,_)]) rfl rfl (bQ (bZ 7 rfl rfl) (bQ (bZ 14 rfl rfl) bX)) rfl rfl (dX rfl (dA qF Tryz.call142 (Jl (x:=gm X r c) (y:=gm X c c) (L:=G) (M:=G) zo) (Ht rfl) ⟨(Ht rfl),trivial⟩)) (bY (Ei:=[(84,_)]) rfl rfl (bQ (bZ 15 rfl rfl) bX) rfl rfl (dX rfl (cX (Ht rfl))) (bY (Ei:=[(68,_)]) rfl rfl (bQ (bZ 16 rfl rfl) bX) rfl rfl (dX rfl (dK (Ht rfl) rfl)) (bY (Ei:=[(68,_)]) rfl rfl (bQ (bZ 16 rfl rfl) bX) rfl rfl (dX rfl (dK (Ht rfl) rfl)) ?_)))
      refine Y.D_newp (Ei:=[]) (fun bb=>box bb 32 [aB (decide ((gm X r c / gm X c c).a < 0)),aD (gm X r c / gm X c c).a.natAbs,aB (decide ((gm X r c / gm X c c).b < 0)),aD (gm X r c / gm X c c).b.natAbs,aD (du (gm X r c / gm X c c))]) 20 rfl rfl rfl bX rfl rfl (by kernel_rfl) (eW (Ts:=[Is (.bool false),Is (.slice none 0 0),Is (.bool false),Is (.slice none 0 0),Is (.slice none 0 0)]) O_32 rfl (fun V=>aW zd (aW zd (aW zd (aW zd (aW zd (aG))))))) ?_
      refine Y.D_putN (Ei:=[(85,_)]) 19 rfl rfl rfl rfl rfl rfl (bQ (bZ 17 rfl rfl) bX) (fun bb=>mK Z_32 (Ht rfl) (Ht rfl) rfl (i:=0) rfl (aK rfl) rfl rfl) (Y.D_done aO rfl (by kernel_rfl) rfl (by simp [Y.okP]) rfl rfl (bU (bU (bU (bU (bU (bU (bU (bU (bU (bU (bU (bU (bU (bU (bU (bU (bU (bU (bU (Y.F_newp (fun B8=>Y.F_putN (Y.F_nil ?_)))))))))))))))))))))))
      refine ra rfl (eX (ts (rm rfl (ro rfl (dV (Ht rfl) (cJ 1) z6) (ra rfl (eX (eG ?_)))))))
      refine cL (fun (k : Nat) => c < k ∧ k ≤ m) (fun (k : Nat) => m - k) (fun (k : Nat) => [(0, Is (.slice (some ⟨B, 0, none⟩) n n)), (4, NT .i64 q), (5, NT .i64 c), (7, NT .i64 r), (8, bR B8 0), (10, NT .i64 k), (12, NT .i64 n), (13, NT .i64 c)]) (fun (k : Nat) => [Z, iW B 54 32 5 us us (dE aT (X.set r (kD (dS X r) (dS X c) c k))), box B8 32 [aB (decide ((gm X r c / gm X c c).a < 0)), aD (gm X r c / gm X c c).a.natAbs, aB (decide ((gm X r c / gm X c c).b < 0)), aD (gm X r c / gm X c c).b.natAbs, aD (du (gm X r c / gm X c c))]]) (c + 1) ⟨Nat.lt_succ_self _, by omega⟩
       (zS rfl) (aU (fun _ _ _ h=>h) (aU (oY (by rw [← Ih,a0F zo])) (aU (aC rfl) aY))) (fun k ⟨hck,hkm⟩=>?_)
      obtain ⟨Y,hY⟩:∃ Y,Y = (X.set r (kD (dS X r) (dS X c) c k)):=⟨_,rfl⟩
      have hYl:Y.length = n:=by rw [hY,List.length_set]; exact hXl
      have hYrl:(dS Y r).length = m:=by rw [hY,Dd zo,tI]; exact hXrl
      have hYcl:(dS Y c).length = m:=by rw [hY,vA zo]; exact hXcl
      have hYrg:(Y.getD r []).length = m:=hYrl
      have hYcg:(Y.getD c []).length = m:=hYcl
      rw [← hY]
      refine cK (ts (rm rfl (rm rfl (rm rfl (ro rfl (fY U_78 Z_54 (Ht rfl) (Ht rfl) rfl zo (by rw [Nat.mul_one,Nat.zero_add])) ?_)))))
      refine ro rfl (jV A_54 Z_54 (Ht rfl) (j:=1) rfl zo) (ro rfl (Wd U_54 (Ht rfl) (j:=1) rfl zo zo) (ro rfl (gX (Ht rfl) (Ht rfl)) (eX (dQ (Ht rfl) (fun hk=>?_) (fun hk=>?_)))))
      ·have hk2 : k < m := by simp only [decide_eq_true_eq] at hk; omega
       have e1:gm Y r k = gv (dS X r) k:=by rw [hY]; exact a1g zo zo hck
       have e2:gm Y c k = gv (dS X c) k:=by rw [hY]; exact a1f zo
       haveI y1:aP (gm Y r k) G:=by rw [e1]; exact hXfr.get hG1 k
       haveI y2:aP (gm Y c k) G:=by rw [e2]; exact hXfc.get hG1 k
       have hst:=Sg (X:=X) (r:=r) (c:=c) (k:=k) zo zo zo hck
       rw [← hY] at hst
       refine cU (cK (eG (fZ (m:=24) (dp 0 rfl (cX (Ht rfl)) (dp 7 rfl (cX (Ht rfl)) (cI 98 0 99 1 rfl (fY U_78 Z_54 (Ht rfl) (Ht rfl) rfl zo (by rw [Nat.mul_one,Nat.zero_add])) ?_))))))
       refine dq 100 2 rfl (jV A_54 Z_54 (Ht rfl) (j:=1) rfl zo) (dp 10 rfl (cX (Ht rfl)) (dp 0 rfl (cX (Ht rfl)) (dp 7 rfl (cX (Ht rfl)) (cI 103 5 104 6 rfl (fY U_78 Z_54 (Ht rfl) (Ht rfl) rfl zo (by rw [Nat.mul_one,Nat.zero_add])) ?_))))
       refine dq 105 7 rfl (jV A_54 Z_54 (Ht rfl) (j:=1) rfl zo) (dp 10 rfl (cX (Ht rfl)) (cI 106 8 107 9 rfl (lQ U_54 Z_32 (Ht rfl) (Ht rfl) rfl (j:=1) rfl zo zo zo) (dq 108 10 rfl (qJ A_32 Z_32 (Ht rfl) (j:=1) rfl zo zo zo) (dq 109 11 rfl (eD fF (Ht rfl)) (dp 8 rfl (eJ A_32 Z_32 (Ht rfl) (i:=2) rfl rfl rfl) (dq 111 13 rfl (eD fF (Ht rfl)) (dp 0 rfl (cX (Ht rfl)) (dp 5 rfl (cX (Ht rfl)) (cI 113 15 114 16 rfl (fY U_78 Z_54 (Ht rfl) (Ht rfl) rfl zo (by rw [Nat.mul_one,Nat.zero_add])) ?_)))))))))
       refine dq 115 17 rfl (jV A_54 Z_54 (Ht rfl) (j:=1) rfl zo) (dp 10 rfl (cX (Ht rfl)) (cI 116 18 117 19 rfl (lQ U_54 Z_32 (Ht rfl) (Ht rfl) rfl (j:=1) rfl zo zo zo) (dq 118 20 rfl (qJ A_32 Z_32 (Ht rfl) (j:=1) rfl zo zo zo) (cI 112 14 119 21 rfl (dA kQ K_29 (xU (x:=gm X r c / gm X c c) (y:=gm Y c k) (L:=G + 3 * G + 2) (M:=G) zo) (Ht rfl) ⟨(Ht rfl),trivial⟩) (cI 110 12 120 22 rfl (dA mC K_32 (xV (x:=gm Y r k) (y:=gm X r c / gm X c c * gm Y c k) (L:=G) (M:=G + 3 * G + 2 + G + 1) zo) (Ht rfl) ⟨(Ht rfl),trivial⟩) ?_)))))
       refine fV aO rfl (by kernel_rfl) (zF (zF (zF (zF (zF (zF (aV (ro rfl (lQ U_54 Z_32 (Ht rfl) (Ht rfl) rfl (j:=1) rfl zo zo zo) (Xq Z_32 (Ht rfl) (Ht rfl) (j:=1) rfl (El.ag rfl) (F:=aT) (z:=gm Y r k - gm X r c / gm X c c * gm Y c k) zo zo zo rfl (eX (bD (cY ?_))))))))))))
       refine rm rfl (ro rfl (dV (Ht rfl) (cJ 1) z6) (ra rfl (eX (fU (k + 1) ⟨by omega,hk2⟩ zo (zS rfl) (aU (fun _ _ _ h=>h) (aU (oY (congrArg _ hst)) (aU (aC rfl) aY)))))))
      ·have hk3 : k = m := by simp only [decide_eq_false_iff_not] at hk; omega
       subst hk3
       refine gV rfl (bD (cY (rm rfl (ro rfl (dV (Ht rfl) (cJ 1) z6) (ra rfl (eX (dT [0,1] rfl (by decide) (fU (r + 1) ⟨by omega,hr⟩ zo (zS rfl) (aU (fun _ _ _ h=>h) (aU (oY (by rw [hY,← hend,hDs.row hr])) aY))))))))))
     ·simp only [decide_eq_false_iff_not] at hr
      obtain rfl:r = n:=Nat.le_antisymm hrn zo
      refine gV rfl (bD (cY (ro rfl (dV (Ht rfl) (cJ 1) z6) (rm rfl (eX (fU (c + 1,q,us,redM D c r) ⟨⟨hcn,by show q ≤ c + 1; rw [hq]; split <;> omega⟩,hnx,hus⟩ (by dsimp only; omega) (zS rfl) (bP.refl _)))))))
 ·simp only [decide_eq_false_iff_not] at hcn
  obtain rfl:c = n:=Nat.le_antisymm hc zo
  have hvl:=hvs.len
  have hAs:iE A c m:=by have h:=oF hs hc; rw [hA] at h; exact h
  refine gV rfl (ts (rm rfl (ra rfl (ro rfl (cQ cV) (eX ?_)))))
  exact kX () trivial [0,1] ⟨⟨_,rfl,fun _ _ _ h=>h⟩,⟨_,rfl,(fun S w V h=>fE (by rw [hA]) S w V (sG (by rw [List.length_map,hAs.1]; exact hvl) S w V h))⟩,trivial⟩ (by decide) (a0E rfl (fX (eU rfl) (kR (by rw [hA]))) (fX (eU rfl) (aH (by rw [hA]))))
end
section
open Go Go.RowKit
theorem Mh  : bA Tryz.prog 229 [fT []] (aB true):=by
 refine bA.intro Tryz.func229 rfl Tryz.ntmps229 rfl (fun cx=>(ts (ro rfl (cQ cV) (eX (ts (rm rfl (ro rfl (cZ Tryz.call231 Hg ⟨(Ht rfl),trivial⟩) (rm rfl (ro rfl (dK (Ht rfl) rfl) (ro rfl (dK (Ht rfl) rfl) (ra rfl (ra rfl (eX (ts (rm rfl (rm rfl (fQ rfl rfl (eK rfl rfl (Ht rfl) (fun h=>cX (Ht rfl))) (fQ rfl rfl (eK rfl rfl (Ht rfl) (fun h=>cX (Ht rfl))) (fQ rfl rfl (eK rfl rfl (Ht rfl) (fun h=>dG U_78 (fJ rfl h) aA)) (fQ rfl rfl (eK rfl rfl (Ht rfl) (fun h=>bT (fJ rfl h) (fJ rfl h))) ?_))))))))))))))))))))
 refine ro rfl (cT (Ht rfl) (fun h=>(fJ rfl h))) (ra rfl (eX (fW rfl (fX (eU rfl) ?_))))
 exact (dI (by simp))
theorem Eh {M:List (List Qi)} {n:Nat} (h:iE M n n) (h1:1 ≤ n) (hn:n ≤ 32):bA Tryz.prog 229 [fT M] (aB true):=by
 have hl:=h.1
 refine bA.intro Tryz.func229 rfl Tryz.ntmps229 rfl (fun cx=>(ts (ro rfl (cQ cV) (eX (ts (rm rfl (ro rfl (cZ Tryz.call231 (Mc h h1 hn hn) ⟨(Ht rfl),trivial⟩) (rm rfl (ro rfl (dK (Ht rfl) rfl) (ro rfl (dK (Ht rfl) rfl) (ra rfl (ra rfl (eX (ts (rm rfl (rm rfl (fQ rfl rfl (eK rfl rfl (Ht rfl) (fun h=>cX (Ht rfl))) (fQ rfl rfl (eK rfl rfl (Ht rfl) (fun h=>cX (Ht rfl))) (fQ rfl rfl (eK rfl rfl (Ht rfl) (fun h=>dG U_78 (fJ rfl h) aA)) (fQ rfl rfl (eK rfl rfl (Ht rfl) (fun h=>bT (fJ rfl h) (fJ rfl h))) ?_))))))))))))))))))))
 refine ro rfl (cT (Ht rfl) (fun h=>(fJ rfl h))) (ra rfl (eX (fW rfl (fX (eU rfl) ?_))))
 exact (dI (by simp [hl]))
theorem Mi {M:List (List Qi)} {n:Nat} (h:iE M n n) (hn:n ≤ 32):bA Tryz.prog 229 [fT M] (aB true):=by
 by_cases e:n = 0
 ·subst e
  obtain rfl:=List.length_eq_zero_iff.1 h.1
  exact Mh
 ·exact Eh h zo hn
theorem Am {M bs:List (List Qi)} {n m:Nat} (hM:iE M n m) (hb:∀ b,b ∈ bs → n ≤ b.length) (hn:n ≤ 1000) (hm:m ≤ 1000) (hbl:bs.length ≤ 1000):iM Tryz.prog 230 [fT M,fT bs] [] (Nat) (fun B=>Is (.slice (some ⟨B,0,none⟩) n n)) (fun B=>[pM B 54 32 5 (dE aT (oC M bs n))]) (fun _=>True):=by
 have hMl:=hM.1
 refine iM.intro Tryz.func230 rfl Tryz.ntmps230 rfl (fun cx Z=>(ts (ro rfl (cQ cV) (eX (ts (rm rfl (ro rfl (dG U_78 (Ht rfl) aA) (rn rfl (eI (T:=Is (.slice none 0 0)) (i:=Tryz.t54) Tryz.underlying78 wQ rfl rfl (Ht rfl) rfl (fun _=>rfl) trivial (by show 24 * _ ≤ _; omega) zo) fun B12=>(ra rfl (eX (cK (ts (rm rfl (ro rfl (dG U_78 (Ht rfl) aA) (ro rfl (cX (cJ 0)) (eX (eG (oP 1 rfl (wR (e:=32) (s:=5)) ?_))))))))))))))))))
 refine cL (fun (i : Nat) => i ≤ M.length) (fun (i : Nat) => M.length - i) (fun (i : Nat) => [(0, fT M), (1, fT bs), (5, Is (.slice (some ⟨B12, 0, none⟩) M.length M.length)), (13, fT M), (14, NT .i64 M.length), (15, NT .i64 i)]) (fun (i : Nat) => [Z, pM B12 54 32 5 (dE aT (mP (Eo M bs) [] M.length i))]) 0 (Nat.zero_le _)
  (zS rfl) (aU (fun _ _ _ h=>h) (aU (fE (by rw [← kG,rR]; exact tJ aT M.length)) aY)) (fun i hi=>?_)
 refine ts (ro rfl (gX (Ht rfl) (Ht rfl)) (eX (cK (dQ (Ht rfl) (fun hd0=>?_) (fun hd0=>?_)))))
 ·simp only [decide_eq_true_eq] at hd0
  have hrl:(dS M i).length = m:=hM.row zo
  have hrl2:(M.getD i []).length = m:=hrl
  refine qX 1 (i) rfl (yH hd0) (fun v0=>(cU (cK (eG (ts (rm rfl (ro rfl (dZ U_78 Z_54 (Ht rfl) (Ht rfl) rfl (dY (dU (d:=[]) hd0))) (ro rfl (dJ A_54 Z_54 (Ht rfl)) (ra rfl (ra rfl (eX (ts (rm rfl (rm rfl (rm rfl (sN Tryz.call120 (Dx (l:=M.getD i []) zo) ⟨(Ht rfl),trivial⟩ rfl (fun v1 _=>(ro rfl (fY U_78 Z_54 (Ht rfl) (Ht rfl) rfl zo (by rw [Nat.mul_one,Nat.zero_add])) ?_))))))))))))))))))
  refine Aj Z_54 (Ht rfl) (Ht rfl) (by simp only [dE,List.length_map,eP]; omega) (j:=1) (l:=3) rfl rfl rfl ?_
  refine eX (ts (rm rfl (ro rfl (dG U_78 (Ht rfl) aA) (ro rfl (cX (cJ 0)) (eX (eG (dT [0,1,3] rfl (by decide) ?_)))))))
  refine fN (fun (j : Nat) (v : Value) => j ≤ bs.length) (fun (j : Nat) (v : Value) => bs.length - j) (fun (j : Nat) (v : Value) => [(0, fT M), (1, fT bs), (5, Is (.slice (some ⟨B12, 0, none⟩) M.length M.length)), (6, NT .i64 i), (13, fT M), (14, NT .i64 M.length), (15, NT .i64 i), (25, fT bs), (26, NT .i64 bs.length), (27, NT .i64 j)]) (fun (j : Nat) (v : Value) => [Z, Vp B12 54 32 5 (dE aT (mP (Eo M bs) [] M.length i)) i v, bF 32 5 v ((dS M i ++ (bs.take j).map fun b => gv b i).map aT)]) 0 v1 (Nat.zero_le _)
   (zS rfl) (aU (fun _ _ _ h=>h) (aU (fun _ _ _ h=>h) (aU (bN (by simp)) aY))) (fun j v hj=>?_)
  refine ts (ro rfl (gX (Ht rfl) (Ht rfl)) (eX (cK (dQ (Ht rfl) (fun he=>?_) (fun he=>?_)))))
  ·simp only [decide_eq_true_eq] at he
   have hbj:i < (bs.getD j []).length:=by have h1:=hb (bs.getD j []) (by rw [Kf he]; exact List.getElem_mem _); omega
   refine cU (cK (eG (ts (ro rfl (dZ U_78 Z_54 (Ht rfl) (Ht rfl) rfl (dY (dU (d:=[]) he))) (ro rfl (dJ A_54 Z_54 (Ht rfl)) (ra rfl (eX (Y.D_startA (m:=12) [] 11 2 rfl rfl (bY (Ei:=[(5,_)]) rfl rfl (bQ (bJ rfl rfl) bX) rfl rfl (dX rfl (cX (Ht rfl))) (bY (Ei:=[(6,_)]) rfl rfl (bQ (bJ rfl rfl) bX) rfl rfl (dX rfl (cX (Ht rfl))) (bY (Ei:=[(5,_)]) rfl rfl (bQ (bJ rfl rfl) bX) rfl rfl (dX rfl (cX (Ht rfl))) ?_)))))))))))
   refine bY (Ei:=[(6,_)]) rfl rfl (bQ (bJ rfl rfl) bX) rfl rfl (dX rfl (cX (Ht rfl))) (bY (Ei:=[(33,_),(34,_)]) rfl rfl (bQ (bZ 2 rfl rfl) (bQ (bZ 3 rfl rfl) bX)) rfl rfl (dX rfl (fY U_78 Z_54 (Ht rfl) (Ht rfl) rfl zo (by rw [Nat.mul_one,Nat.zero_add]))) ?_)
   refine bY (Ei:=[(35,_)]) rfl rfl (bQ (bZ 4 rfl rfl) bX) rfl rfl (dX rfl (pD A_54 Z_54 (Ht rfl) (j:=1) rfl)) (bY (Ei:=[(9,_)]) rfl rfl (bQ (bJ rfl rfl) bX) rfl rfl (dX rfl (cX (Ht rfl))) (bY (Ei:=[(6,_)]) rfl rfl (bQ (bJ rfl rfl) bX) rfl rfl (dX rfl (cX (Ht rfl))) (bY (Ei:=[(37,_),(38,_)]) rfl rfl (bQ (bZ 6 rfl rfl) (bQ (bZ 7 rfl rfl) bX)) rfl rfl (dX rfl (dZ U_54 Z_32 (Ht rfl) (Ht rfl) rfl (dY (dU (d:=Qi.zero) hbj)))) ?_)))
   refine bY (Ei:=[(39,_)]) rfl rfl (bQ (bZ 8 rfl rfl) bX) rfl rfl (dX rfl (dJ A_32 Z_32 (Ht rfl))) (bY (Ei:=[(40,_)]) rfl rfl (bQ (bZ 9 rfl rfl) bX) rfl rfl (dX rfl (dH (xs:=[.tmp 40]) U_54 Z_32 O_32 (cW (Ht rfl) cG) rfl rfl rfl)) (Y.D_app (Ei:=[(36,_),(41,_)]) rfl rfl rfl rfl (bQ (bZ 5 rfl rfl) (bQ (bZ 10 rfl rfl) bX)) rfl (sM (inf:=Tryz.t32) qV nQ rfl rfl rfl (Ht rfl) (Ht rfl) (by simp) (fun T hT=>by simp at hT; subst hT; exact El.ag rfl) (by show _ * 88 ≤ _; simp only [List.length_map,List.length_append,List.length_take,List.length_cons,List.length_nil]; omega) (by simp only [List.length_map,List.length_append,List.length_take,List.length_cons,List.length_nil]; omega)) ?_))
   refine Y.D_done aO rfl (by kernel_rfl) rfl (by simp [Y.okP]) rfl rfl (bU (bU (bU (bU (bU (bU (bU (bU (bU (bU (bU (Y.F_app (fun v2=>Y.F_nil ?_)))))))))))))
   refine ro rfl (fY U_78 Z_54 (Ht rfl) (Ht rfl) rfl zo (by rw [Nat.mul_one,Nat.zero_add])) ?_
   refine Aj Z_54 (Ht rfl) (Ht rfl) (by simp only [dE,List.length_map,eP]; omega) (j:=1) (l:=3) rfl rfl rfl ?_
   refine eX (bD (cY (ro rfl (dV (Ht rfl) (cJ 1) z6) (rm rfl (eX (dT [0,1,3] rfl (by decide) (fU (j + 1,v2) he (by dsimp only; omega) (zS rfl) (aU (fun _ _ _ h=>h) (aU (fun _ _ _ h=>h) (aU (bN ((pT aT _ (gv (bs.getD j []) i)).trans (congrArg _ (Vb he)))) aY))))))))))
  ·simp only [decide_eq_false_iff_not] at he
   obtain rfl:bs.length = j:=Nat.le_antisymm zo hj
   refine gV rfl (bD (lD 1 2 rfl rfl (by decide) (by simp only [dE,List.length_map,eP]; omega) ?_))
   refine cY (ro rfl (dV (Ht rfl) (cJ 1) z6) (rm rfl (eX (dT [0,1] rfl (by decide) (fU (i + 1) hd0 zo (zS rfl) (aU (fun _ _ _ h=>h) (aU (fE (by rw [List.take_length,mH,← lO (f:=Eo M bs)])) aY)))))))
 ·simp only [decide_eq_false_iff_not] at hd0
  obtain rfl:i = M.length:=Nat.le_antisymm hi zo
  subst hMl
  refine gV rfl (ts (rm rfl (ra rfl (eX ?_))))
  exact kX B12 trivial [0,1] ⟨⟨_,rfl,fun _ _ _ h=>h⟩,⟨_,rfl,(fE (by rw [lN]; rfl))⟩,trivial⟩ (by decide) (yX rfl (eU rfl))
end
section
open Go Go.RowKit
theorem Gh (m:Nat) (f:Qi) (a b:Nat → Qi):lL m (fun k=>a k - f * b k) = lL m a - f * lL m b:=by
 induction m with
 | zero=>simp only [lL,q0]; grind
 | succ m ih=>simp only [lL,ih]; grind
def Ker (M:List (List Qi)) (n m:Nat) (x:Nat → Qi):Prop:=∀ i,i < n → lL m (fun k=>gm M i k * x k) = 0
def vO (rr rc:List Qi) (c k:Nat):List Qi:=tab rr.length fun j=>if c ≤ j ∧ j < k then gv rr j - gv rr c / gv rc c * gv rc j else gv rr j
def redJ (M:List (List Qi)) (c r:Nat):List (List Qi):=tab M.length fun i=>if i ≠ c ∧ i < r then vO (dS M i) (dS M c) c (dS M i).length else dS M i
def Ms (M : List (List Qi)) : Nat → Option (List (List Qi))
 | 0=>some M
 | c + 1=>(Ms M c).bind fun A=>if pv A c M.length = M.length then none else some (redJ (swp [] A (pv A c M.length) c) c M.length)
theorem Rr (M:List (List Qi)) (c r:Nat):(redJ M c r).length = M.length:=bH _ _
theorem Nh (rr rc:List Qi) (c k:Nat):(vO rr rc c k).length = rr.length:=bH _ _
theorem Ru {M:List (List Qi)} {c r i:Nat} (hi:i < M.length):dS (redJ M c r) i = if i ≠ c ∧ i < r then vO (dS M i) (dS M c) c (dS M i).length else dS M i:=by
 simp only [dS,redJ,List.getD]; rw [cC hi]; rfl
theorem Rv {M:List (List Qi)} {n m c r:Nat} (h:iE M n m):iE (redJ M c r) n m:=by
 refine ⟨(Rr _ _ _).trans h.1,fun x hx=>?_⟩
 obtain ⟨i,hi,rfl⟩:=hZ.1 hx
 have hr:=h.row (i:=i) (by rw [← h.1]; exact hi)
 show (if i ≠ c ∧ i < r then vO (dS M i) (dS M c) c (dS M i).length else dS M i).length = m
 split
 ·rw [Nh]; exact hr
 ·exact hr
theorem wW {M:List (List Qi)} {n m c i j:Nat} (h:iE M n m) (hi:i < n) (hj:j < m):gm (redJ M c n) i j = if i ≠ c ∧ c ≤ j then gm M i j - gm M i c / gm M c c * gm M c j else gm M i j:=by
 have hr:(dS M i).length = m:=h.row hi
 show gv (dS (redJ M c n) i) j = _
 rw [Ru (by rw [h.1]; exact hi)]
 by_cases e:i = c
 ·rw [if_neg (fun k=>k.1 e),if_neg (fun k=>k.1 e)]
 ·rw [if_pos ⟨e, hi⟩, vO, yK zo]
  by_cases e2:c ≤ j
  ·rw [if_pos ⟨e2,by omega⟩,if_pos ⟨e,e2⟩]
  ·rw [if_neg (fun k=>e2 k.1),if_neg (fun k=>e2 k.2)]
theorem Il {M:List (List Qi)} {p c i:Nat} (hp:p < M.length) (hc:c < M.length):dS (swp [] M p c) i = dS M (if i = c then p else if i = p then c else i):=by
 simp only [dS,swp,List.getD]
 by_cases e:i = c
 ·subst e; rw [List.getElem?_set_self (by simpa using hc),if_pos rfl]; rfl
 ·rw [List.getElem?_set_ne (Ne.symm e), if_neg e]
  by_cases e2:i = p
  ·subst e2; rw [List.getElem?_set_self hp,if_pos rfl]; rfl
  ·rw [List.getElem?_set_ne (Ne.symm e2),if_neg e2]
theorem Vk {M:List (List Qi)} {n m p c:Nat} {x:Nat → Qi} (hl:M.length = n) (hp:p < n) (hc:c < n):Ker (swp [] M p c) n m x ↔ Ker M n m x:=by
 have key : ∀ i, gm (swp [] M p c) i = gm M (if i = c then p else if i = p then c else i) := fun i => by
  funext j; exact congrArg (fun r=>gv r j) (Il zo zo)
 constructor
 ·intro h i hi
  have h1:=h (if i = c then p else if i = p then c else i) (by split <;> (try split) <;> omega)
  rw [key] at h1
  have e : (if (if i = c then p else if i = p then c else i) = c then p else if (if i = c then p else if i = p then c else i) = p then c else (if i = c then p else if i = p then c else i)) = i := by
   by_cases e1:i = c
   ·subst e1; rw [if_pos rfl]
    by_cases e2:p = i
    ·rw [if_pos e2]; exact e2
    ·rw [if_neg e2,if_pos rfl]
   ·rw [if_neg e1]
    by_cases e2:i = p
    ·subst e2; rw [if_pos rfl,if_pos rfl]
    ·rw [if_neg e2,if_neg e1,if_neg e2]
  rw [e] at h1; exact h1
 ·intro h i hi
  rw [key]; exact h _ (by split <;> (try split) <;> omega)
theorem Vj {M:List (List Qi)} {n m c:Nat} {x:Nat → Qi} (hs:iE M n m) (hc:c < n) (hz:∀ j,j < c → gm M c j = 0):Ker (redJ M c n) n m x ↔ Ker M n m x:=by
 have key : ∀ i, i < n → i ≠ c → lL m (fun k => gm (redJ M c n) i k * x k) = lL m (fun k => gm M i k * x k) - gm M i c / gm M c c * lL m (fun k => gm M c k * x k) := fun i hi e => by
  rw [← Gh]
  refine nI fun k hk=>?_
  rw [wW hs hi hk]
  by_cases e2:c ≤ k
  ·rw [if_pos ⟨e,e2⟩]; grind
  ·rw [if_neg (fun h=>e2 h.2),hz k zo]; grind
 have keyc:lL m (fun k=>gm (redJ M c n) c k * x k) = lL m (fun k=>gm M c k * x k):=nI fun k hk=>by rw [wW hs hc hk,if_neg (fun h=>h.1 rfl)]
 constructor
 ·intro h i hi
  have h0:=h c hc
  rw [keyc] at h0
  by_cases e:i = c
  ·rw [e]; exact h0
  ·have h1 := h i hi
   rw [key i hi e,h0] at h1
   grind
 ·intro h i hi
  have h0:=h c hc
  by_cases e:i = c
  ·rw [e,keyc]; exact h0
  ·rw [key i hi e,h0,h i hi]; grind
structure GJ (M A:List (List Qi)) (n m c:Nat):Prop where
 sh:iE A n m
 ker:∀ x,Ker A n m x ↔ Ker M n m x
 off:∀ j,j < c → ∀ i,i < n → i ≠ j → gm A i j = 0
 dg:∀ j,j < c → gm A j j ≠ 0
theorem GJ.next {M A:List (List Qi)} {n m c p:Nat} (h:GJ M A n m c) (hc:c < n) (hnm:n ≤ m) (hcp:c ≤ p) (hp:p < n) (hz:gm A p c ≠ 0):GJ M (redJ (swp [] A p c) c n) n m (c + 1):=by
 have hs:iE (swp [] A p c) n m:=xB h.sh hp hc
 have hl:=h.sh.1
 have key : ∀ i, gm (swp [] A p c) i = gm A (if i = c then p else if i = p then c else i) := fun i => by
  funext j; exact congrArg (fun r=>gv r j) (Il zo zo)
 have hcc:gm (swp [] A p c) c c ≠ 0:=by rw [key,if_pos rfl]; exact hz
 have hoff : ∀ j, j < c → ∀ i, i < n → i ≠ j → gm (swp [] A p c) i j = 0 := fun j hj i hi hij => by
  rw [key]
  by_cases e1:i = c
  ·rw [if_pos e1]; exact h.off j hj p hp zo
  ·rw [if_neg e1]
   by_cases e2:i = p
   ·rw [if_pos e2]; exact h.off j hj c hc zo
   ·rw [if_neg e2]; exact h.off j hj i hi hij
 refine ⟨Rv hs,fun x=>(Vj hs hc (fun j hj=>hoff j hj c hc zo)).trans ((Vk hl hp hc).trans (h.ker x)),fun j hj i hi hij=>?_,fun j hj=>?_⟩
 ·rw [wW hs hi zo]
  by_cases e:j = c
  ·subst e
   rw [if_pos ⟨hij,Nat.le_refl _⟩]
   have:=Ci (x:=gm (swp [] A p j) i j) hcc
   grind
  ·rw [if_neg (fun k=>by omega)]; exact hoff j zo i hi hij
 ·rw [wW hs zo zo]
  by_cases e:j = c
  ·subst e; rw [if_neg (fun k=>k.1 rfl)]; exact hcc
  ·rw [if_neg (fun k=>by omega),key,if_neg zo,if_neg zo]; exact h.dg j zo
theorem Qg {M : List (List Qi)} {n m : Nat} (hs : iE M n m) (hnm : n ≤ m) : ∀ {c : Nat} {A : List (List Qi)}, c ≤ n → Ms M c = some A → GJ M A n m c
 | 0, A, _, h => by
  obtain rfl:=Option.some.inj h
  exact ⟨hs,fun _=>Iff.rfl,fun j hj=>by omega,fun j hj=>by omega⟩
 | c + 1, A, hc, h => by
  simp only [Ms] at h
  obtain ⟨B,h1,h2⟩:=Option.bind_eq_some_iff.1 h
  split at h2
  ·cases h2
  ·rename_i e
   obtain rfl:=Option.some.inj h2
   have ih:=Qg hs hnm (c:=c) zo h1
   rw [hs.1] at e ⊢
   obtain ⟨_,i2,i3,i4⟩:=pE (M:=B) (c:=c) (n:=n) zo
   exact ih.next zo hnm i2 zo (i4 zo)
theorem Ng {rr rc : List Qi} {L c k : Nat} (h1 : dR rr L) (h2 : dR rc L) (hL : 1 ≤ L) (hp : gv rc c ≠ Qi.zero) : dR (vO rr rc c k) (6 * L + 4) := dR.tab fun j _ => by
 split
 ·exact Ke h1 h2 hL hp
 ·exact (h1.get hL j).le zo
theorem Rq {M : List (List Qi)} {L c r : Nat} (h : eE M L) (hL : 1 ≤ L) (hp : gm M c c ≠ Qi.zero) : eE (redJ M c r) (6 * L + 4) := fun x hx => by
 obtain ⟨i,hi,rfl⟩:=hZ.1 hx
 show dR (if i ≠ c ∧ i < r then vO (dS M i) (dS M c) c (dS M i).length else dS M i) _
 split
 ·exact Ng (h.row i) (h.row c) hL hp
 ·exact (h.row i).le zo
theorem Qf {M : List (List Qi)} {n m L : Nat} (hs : iE M n m) (hnm : n ≤ m) (h : eE M L) (hL : 1 ≤ L) : ∀ {c : Nat} {A : List (List Qi)}, c ≤ n → Ms M c = some A → eE A (nD L c)
 | 0,A,_,e=>by obtain rfl:=Option.some.inj e; exact h
 | c + 1, A, hc, e => by
  simp only [Ms] at e
  obtain ⟨B,h1,h2⟩:=Option.bind_eq_some_iff.1 e
  split at h2
  ·cases h2
  ·rename_i e3
   obtain rfl:=Option.some.inj h2
   have ih:=Qf hs hnm h hL (c:=c) zo h1
   have hsB:=(Qg hs hnm (c:=c) zo h1).sh
   rw [hs.1] at e3 ⊢
   obtain ⟨_,i2,i3,i4⟩:=pE (M:=B) (c:=c) (n:=n) zo
   refine Rq (Dg ih) (Nat.le_trans hL (sY L c)) ?_
   show gv (dS (swp [] _ _ c) c) c ≠ _
   rw [zD (by rw [hsB.1]; omega)]
   exact i4 zo
end
section
open Go Go.RowKit
abbrev pA (ps:List (Nat × Nat)) (k:Nat):Nat:=(ps.getD k (0,0)).1
abbrev pB (ps:List (Nat × Nat)) (k:Nat):Nat:=(ps.getD k (0,0)).2
end
section
open Go Go.RowKit
theorem a0e {l:List Qi} {t k:Nat} {v:Qi} (ht:t < l.length):gv (l.set t v) k = if k = t then v else gv l k:=by
 simp only [gv,List.getD]
 by_cases e:k = t
 ·subst e; rw [if_pos rfl,List.getElem?_set_self ht]; rfl
 ·rw [if_neg e,List.getElem?_set_ne (Ne.symm e)]
end
section
open Go Go.RowKit
def Zz (A:List (List Qi)) (c i j:Nat):Qi:=if j < c ∧ j < i then 0 else gm A i j
def zQ (F:Nat → Nat → Qi) (n m:Nat) (x:Nat → Qi):Prop:=∀ i,i < n → lL m (fun k=>F i k * x k) = 0
theorem Hq {F G:Nat → Nat → Qi} {n m:Nat} {x:Nat → Qi} (h:∀ i,i < n → ∀ j,j < m → F i j = G i j):zQ F n m x ↔ zQ G n m x:=by
 have e:∀ i,i < n → lL m (fun k=>F i k * x k) = lL m (fun k=>G i k * x k):=fun i hi=>nI fun k hk=>by rw [h i hi k hk]
 exact ⟨fun k i hi=>by rw [← e i hi]; exact k i hi,fun k i hi=>by rw [e i hi]; exact k i hi⟩
def Sr (p c i:Nat):Nat:=if i = c then p else if i = p then c else i
theorem Ss {p c i n:Nat} (hp:p < n) (hc:c < n) (hi:i < n):Sr p c i < n:=by unfold Sr; split <;> (try split) <;> omega
theorem Xf (p c i:Nat):Sr p c (Sr p c i) = i:=by
 unfold Sr
 by_cases e1:i = c
 ·subst e1
  rw [if_pos rfl]
  by_cases e2:p = i
  ·rw [if_pos e2]; exact e2
  ·rw [if_neg e2,if_pos rfl]
 ·rw [if_neg e1]
  by_cases e2:i = p
  ·subst e2; rw [if_pos rfl,if_pos rfl]
  ·rw [if_neg e2,if_neg e1,if_neg e2]
theorem Qo {F : Nat → Nat → Qi} {n m p c : Nat} {x : Nat → Qi} (hp : p < n) (hc : c < n) : zQ (fun i => F (Sr p c i)) n m x ↔ zQ F n m x :=
 ⟨fun h i hi=>by have:=h _ (Ss hp hc hi); simp only [Xf] at this; exact this,fun h i hi=>h _ (Ss hp hc hi)⟩
theorem Qn {F G:Nat → Nat → Qi} {n m c:Nat} {x f:Nat → Qi} (hc:c < n) (hG:∀ i,i < n → ∀ j,j < m → G i j = if c < i then F i j - f i * F c j else F i j):zQ G n m x ↔ zQ F n m x:=by
 have key : ∀ i, i < n → lL m (fun k => G i k * x k) = if c < i then lL m (fun k => F i k * x k) - f i * lL m (fun k => F c k * x k) else lL m (fun k => F i k * x k) := fun i hi => by
  by_cases e:c < i
  ·rw [if_pos e, ← Gh]
   exact nI fun k hk=>by rw [hG i hi k hk,if_pos e]; grind
  ·rw [if_neg e]
   exact nI fun k hk=>by rw [hG i hi k hk,if_neg e]
 have kc:=key c hc
 rw [if_neg zo] at kc
 constructor
 ·intro h i hi
  have h0:=h c hc
  rw [kc] at h0
  have h1:=h i hi
  rw [key i hi] at h1
  by_cases e:c < i
  ·rw [if_pos e,h0] at h1; grind
  ·rw [if_neg e] at h1; exact h1
 ·intro h i hi
  rw [key i hi]
  by_cases e:c < i
  ·rw [if_pos e,h i hi,h c hc]; grind
  ·rw [if_neg e]; exact h i hi
theorem Wt {M:List (List Qi)} {n m c i j:Nat} (h:iE M n m) (hi:i < n) (hj:j < m):gm (redM M c n) i j = if c < i ∧ c < j then gm M i j - gm M i c / gm M c c * gm M c j else gm M i j:=by
 have hr:(dS M i).length = m:=h.row hi
 have e0 : dS (redM M c n) i = if c < i ∧ i < n then kD (dS M i) (dS M c) c (dS M i).length else dS M i := by
  simp only [dS,redM,List.getD]; rw [cC (by rw [h.1]; exact hi)]; rfl
 show gv (dS (redM M c n) i) j = _
 rw [e0]
 by_cases e:c < i
 ·rw [if_pos ⟨e, hi⟩, kD, yK zo]
  by_cases e2:c < j
  ·rw [if_pos ⟨e2,by omega⟩,if_pos ⟨e,e2⟩]
  ·rw [if_neg (fun k=>e2 k.1),if_neg (fun k=>e2 k.2)]
 ·rw [if_neg (fun k=>e k.1),if_neg (fun k=>e k.1)]
theorem Ut {A:List (List Qi)} {p c i j:Nat} (hc:c < A.length) (hp:p < A.length) (hcp:c ≤ p):Zz (swp [] A p c) c i j = Zz A c (Sr p c i) j:=by
 have key:gm (swp [] A p c) i j = gm A (Sr p c i) j:=congrArg (fun r=>gv r j) (Il zo zo)
 unfold Zz
 rw [key]
 have e:(j < c ∧ j < i) ↔ (j < c ∧ j < Sr p c i):=by unfold Sr; split <;> (try split) <;> omega
 by_cases h:j < c ∧ j < i
 ·rw [if_pos h,if_pos (e.1 h)]
 ·rw [if_neg h,if_neg (fun k=>h (e.2 k))]
structure EL (M A:List (List Qi)) (n m c:Nat):Prop where
 sh:iE A n m
 ker:∀ x,zQ (Zz A c) n m x ↔ zQ (gm M) n m x
theorem EL.next {M A:List (List Qi)} {n m c p:Nat} (h:EL M A n m c) (hc:c < n) (hcm:c < m) (hcp:c ≤ p) (hp:p < n) (hz:gm A p c ≠ 0):EL M (redM (if p = c then A else swp [] A p c) c n) n m (c + 1):=by
 have hl:=h.sh.1
 obtain ⟨B,hB⟩:∃ B,B = if p = c then A else swp [] A p c:=⟨_,rfl⟩
 have hs : iE B n m := by
  rw [hB]; split
  ·exact h.sh
  ·exact xB h.sh hp hc
 have hBk : ∀ x, zQ (Zz B c) n m x ↔ zQ (gm M) n m x := fun x => by
  rw [hB]; split
  ·exact h.ker x
  ·exact (Hq (G:=fun i=>Zz A c (Sr p c i)) fun i hi j hj=>Ut zo zo hcp).trans ((Qo hp hc).trans (h.ker x))
 have hBz : gm B c c ≠ 0 := by
  rw [hB]; split
  ·rename_i e; rw [← e] at hz ⊢; exact hz
  ·show gv (dS (swp [] A p c) c) c ≠ 0
   rw [zD zo]; exact hz
 rw [← hB]
 refine ⟨Fv hs,fun x=>(Qn (f:=fun i=>gm B i c / gm B c c) hc fun i hi j hj=>?_).trans (hBk x)⟩
 have hd:=Ci (x:=gm B i c) hBz
 unfold Zz
 rw [Wt hs hi hj]
 by_cases e:c < i
 ·rw [if_pos e]
  by_cases e1:j < c
  ·rw [if_pos zo,if_pos zo,if_pos zo]; grind
  ·by_cases e2 : j = c
   ·subst e2
    rw [if_pos zo,if_neg zo,if_neg zo]; grind
   ·rw [if_neg zo,if_pos zo,if_neg zo,if_neg zo]
 ·rw [if_neg e, if_neg (show ¬ (c < i ∧ c < j) from fun k => e k.1)]
  by_cases e1:j < i
  ·rw [if_pos (show j < c + 1 ∧ j < i by omega),if_pos (show j < c ∧ j < i by omega)]
  ·rw [if_neg (show ¬ (j < c + 1 ∧ j < i) by omega),if_neg (show ¬ (j < c ∧ j < i) by omega)]
end
section
open Go Go.RowKit
abbrev gnI (G:List Nat):List Int:=G.map fun (q:Nat)=>(q:Int) + 1
def uE (G : List Nat) : Nat → List Nat
 | 0=>[]
 | k + 1=>uE G k ++ (if k ∈ G then [] else [k])
theorem Kl (G : List Nat) : ∀ k, (uE G k).length ≤ k
 | 0=>Nat.le_refl _
 | k + 1 => by
  have:=Kl G k
  simp only [uE,List.length_append]
  split
  ·simp; omega
  ·simp; omega
theorem Km {p : Nat} : ∀ {k : Nat}, uE [p] k = tab (Mk p k) (nH p)
 | 0=>by rw [uE,show Mk p 0 = 0 by unfold Mk; split <;> omega]; rfl
 | k + 1 => by
  rw [uE,Km]
  by_cases c:k = p
  ·subst c
   rw [if_pos (by simp),List.append_nil,show Mk k (k + 1) = Mk k k by unfold Mk; split <;> split <;> omega]
  ·rw [if_neg (by simpa using c)]
   have e1:nH p (Mk p k) = k:=by unfold nH Mk; split <;> split <;> omega
   have e2:Mk p (k + 1) = Mk p k + 1:=by unfold Mk; split <;> split <;> omega
   rw [e2,Sq,e1]
theorem Vl {p n:Nat} (h:p < n):(uE [p] n).map Nat.succ = yO p (n - 1):=by rw [Km,Uz h,mQ]; rfl
theorem Qh {G:List Nat} {i:Nat}:((gnI G).any fun x=>decide (((i + 1:Nat):Int) = x)) = decide (i ∈ G):=by
 rw [Bool.eq_iff_iff]
 simp only [gnI,List.any_map,List.any_eq_true,Function.comp,decide_eq_true_eq]
 constructor
 ·rintro ⟨q, h1, h2⟩
  obtain rfl:i = q:=by omega
  exact h1
 ·intro h; exact ⟨i,h,by omega⟩
abbrev rX (Q:List Nat) (i:Nat):Nat:=Q.getD i 0
def Sk (z:List Qi) (Q:List Nat):List Qi:=tab Q.length fun i=>gv z (rX Q i)
def Si (s:List (List Qi)) (Q:List Nat):List (List Qi):=tab Q.length fun i=>tab Q.length fun j=>gm s (rX Q i) (rX Q j)
theorem If {Q:List Nat} {n i:Nat} (h:∀ x,x ∈ Q → x < n) (hi:i < Q.length):rX Q i < n:=h _ (by rw [show rX Q i = Q[i] by simp [rX,List.getD,hi]]; exact List.getElem_mem hi)
theorem Df {Q:List Nat} {i:Nat} (h:i < Q.length):(Q.map Nat.succ)[i]? = some (rX Q i + 1):=by simp [rX,List.getD,h]
theorem zE {m i:Nat} {p:Nat} (h:i < m):rX (tab m (nH p)) i = nH p i:=Gj h
theorem Sl (z:List Qi) (p m:Nat):Sk z (tab m (nH p)) = Nf z p m:=by
 rw [Sk,bH]; exact cA fun i hi=>by rw [zE hi]
theorem Sj (s:List (List Qi)) (p m:Nat):Si s (tab m (nH p)) = a1s s p m:=by
 rw [Si,bH]; exact cA fun i hi=>cA fun j hj=>by rw [zE hi,zE hj]
theorem Xc {p m n : Nat} (hp : p < n) (hm : m = n - 1) : ∀ x, x ∈ tab m (nH p) → x < n := fun x hx => by
 obtain ⟨i,hi,rfl⟩:=hZ.1 hx; exact Ik zo hp
theorem Vm (p m:Nat):(tab m (nH p)).map Nat.succ = yO p m:=by rw [mQ]; rfl
end
section
open Go Go.RowKit
def gq (ps:List (Nat × Nat)) (x:Nat):Nat:=if x % 2 = 0 then pA ps (x / 2) else pB ps (x / 2)
structure Jn (ps:List (Nat × Nat)) (n K:Nat):Prop where
 lt:∀ x,x < 2 * K → gq ps x < n
 inj:∀ x y,x < 2 * K → y < 2 * K → gq ps x = gq ps y → x = y
theorem Jn.le {ps:List (Nat × Nat)} {n K k:Nat} (h:Jn ps n K) (hk:k ≤ K):Jn ps n k:=⟨fun x hx=>h.lt x zo,fun x y hx hy=>h.inj x y zo zo⟩
end
section
open Go Go.RowKit
theorem Kp {a b:List (List Qi)} {n m:Nat} (ha:iE a n m) (hb:iE b n m) (h:∀ i,i < n → ∀ j,j < m → gm a i j = gm b i j):a = b:=by
 rw [wS ha,wS hb]
 exact cA fun i hi=>cA fun j hj=>h i hi j hj
end
section
open Go Go.RowKit
theorem pig : ∀ {n m : Nat} {f : Nat → Nat}, (∀ x, x < m → f x < n) → (∀ x y, x < m → y < m → f x = f y → x = y) → m ≤ n
 | 0, m, f, h, _ => by
  cases m with
  | zero=>exact Nat.le_refl 0
  | succ m=>exact absurd (h 0 zo) zo
 | n + 1,0,_,_,_=>by omega
 | n + 1, k + 1, f, h, i => by
  have := pig (n := n) (m := k) (f := fun x => if f x = n then f k else f x) (fun x hx => by
   have h1:=h x zo
   have h2:=h k zo
   by_cases c:f x = n
   ·simp only [if_pos c]
    have:f k ≠ n:=fun e=>by have:=i x k zo zo (by rw [c,e]); omega
    omega
   ·simp only [if_neg c]; omega) (fun x y hx hy e=>by
   by_cases c:f x = n <;> by_cases d:f y = n
   ·exact i x y zo zo (by rw [c,d])
   ·simp only [if_pos c, if_neg d] at e
    have:=i k y zo zo e; omega
   ·simp only [if_neg c, if_pos d] at e
    have:=i x k zo zo e; omega
   ·simp only [if_neg c, if_neg d] at e
    exact i x y zo zo e)
  omega
end
section
open Go Go.RowKit
theorem Vc {x y:Qi} {L M:Nat} (hx:aP x L) (hy:aP y M) (h:y ≠ 0):aP (x / y) (L + 3 * M + 2):=⟨hx.fit.div hy.fit h⟩
end
section
open Go Go.RowKit
section
variable {φ:Qi → Qi → Bool} {z:List Qi} {js:List (Int × Int)}
end
def Nm (M:List (List Qi)) (i j:Nat) (v:Qi):List (List Qi):=M.set i ((M.getD i []).set j v)
theorem Sa {M:List (List Qi)} {n m i j:Nat} {v:Qi} (h:iE M n m):iE (Nm M i j v) n m:=by
 refine ⟨by rw [Nm,List.length_set]; exact h.1,fun r hr=>?_⟩
 rcases Nat.lt_or_ge i M.length with hi | hi
 ·rcases List.mem_or_eq_of_mem_set hr with h1 | h1
  ·exact h.2 r h1
  ·rw [h1,List.length_set]; exact h.row (by rw [← h.1]; exact hi)
 ·rw [Nm,List.set_eq_of_length_le hi] at hr; exact h.2 r hr
theorem Wx {M:List (List Qi)} {n m i j a b:Nat} {v:Qi} (h:iE M n m) (hi:i < n) (hj:j < m):gm (Nm M i j v) a b = if a = i ∧ b = j then v else gm M a b:=by
 have hl:=h.1
 have hr:=h.row hi
 by_cases e:a = i
 ·subst e
  show gv ((M.set a ((M.getD a []).set j v)).getD a []) b = _
  rw [show (M.set a ((M.getD a []).set j v)).getD a [] = (M.getD a []).set j v by simp [List.getD,show a < M.length by omega],a0e zo]
  by_cases e2:b = j
  ·rw [if_pos e2,if_pos ⟨rfl,e2⟩]
  ·rw [if_neg e2,if_neg (fun k=>e2 k.2)]
 ·rw [if_neg (fun k => e k.1)]
  show gv ((M.set i ((M.getD i []).set j v)).getD a []) b = gv (M.getD a []) b
  rw [show (M.set i ((M.getD i []).set j v)).getD a [] = M.getD a [] by simp [List.getD,List.getElem?_set_ne (Ne.symm e)]]
section
variable {js:List (Int × Int)} {n:Nat}
end
theorem w3a {vs:List Value} {M:List (List Qi)} {n m:Nat} (h:vs.length = n) (s:iE M n m):vs.length = M.length:=h.trans s.1.symm
theorem w3b {M:List (List Qi)} {n m p:Nat} (s:iE M n m) (hp:p < n):p < M.length:=by rw [s.1]; exact hp
theorem w3c {M:List (List Qi)} {n m p q:Nat} (s:iE M n m) (hp:p < n) (hq:q < m):q < (M.getD p []).length:=by rw [s.row hp]; exact hq
end
section
open Go Go.RowKit
structure Ai (O:List Nat) (n:Nat):Prop where
 nd:O.Nodup
 all:∀ x,x ∈ O ↔ 1 ≤ x ∧ x ≤ n
theorem Ai.len {O:List Nat} {n:Nat} (h:Ai O n):O.length = n:=by
 refine Nat.le_antisymm ?_ ?_
 ·refine pig (n := n) (f := fun i => O.getD i 0 - 1) (fun x hx => ?_) (fun x y hx hy e => ?_)
  ·have := (h.all (O.getD x 0)).1 (by rw [show O.getD x 0 = O[x] by simp [List.getD, hx]]; exact List.getElem_mem hx)
   show O.getD x 0 - 1 < n; omega
  ·have a := (h.all (O.getD x 0)).1 (by rw [show O.getD x 0 = O[x] by simp [List.getD, hx]]; exact List.getElem_mem hx)
   have b:=(h.all (O.getD y 0)).1 (by rw [show O.getD y 0 = O[y] by simp [List.getD,hy]]; exact List.getElem_mem hy)
   have e2:O.getD x 0 = O.getD y 0:=by have:O.getD x 0 - 1 = O.getD y 0 - 1:=e; omega
   rw [show O.getD x 0 = O[x] by simp [List.getD,hx],show O.getD y 0 = O[y] by simp [List.getD,hy]] at e2
   exact (List.getElem_inj h.nd).1 e2
 ·have key : ∀ j, j < n → ∃ i, i < O.length ∧ O.getD i 0 = j + 1 := fun j hj => by
   obtain ⟨i,hi,e⟩:=List.getElem_of_mem ((h.all (j + 1)).2 ⟨by omega,by omega⟩)
   exact ⟨i,hi,by simp [List.getD,hi,e]⟩
  refine pig (n:=O.length) (f:=fun j=>if hj:j < n then Classical.choose (key j hj) else 0) (fun x hx=>by simp only [dif_pos hx]; exact (Classical.choose_spec (key x hx)).1) (fun x y hx hy e=>?_)
  simp only [dif_pos hx,dif_pos hy] at e
  have a:=(Classical.choose_spec (key x hx)).2
  have b:=(Classical.choose_spec (key y hy)).2
  rw [e] at a; omega
section
variable {O:List Nat} {n:Nat}
theorem Ai.at (h:Ai O n) {i:Nat} (hi:i < n):1 ≤ O.getD i 0 ∧ O.getD i 0 ≤ n:=by
 have hl:=h.len
 exact (h.all _).1 (by rw [show O.getD i 0 = O[i] by simp [List.getD,show i < O.length by omega]]; exact List.getElem_mem _)
theorem Ai.inj (h:Ai O n) {i j:Nat} (hi:i < n) (hj:j < n) (e:O.getD i 0 = O.getD j 0):i = j:=by
 have hl:=h.len
 rw [show O.getD i 0 = O[i] by simp [List.getD,show i < O.length by omega],show O.getD j 0 = O[j] by simp [List.getD,show j < O.length by omega]] at e
 exact (List.getElem_inj h.nd).1 e
end
end
section
open Go Go.RowKit
section
variable {S:List (List Qi)} {p q r t a b:Nat}
theorem Xe {x y:Qi} (h:x - y = 0):x = y:=by grind
end
section
variable {S:Nat → Nat → Qi} {p q r t a b:Nat}
def S1 (S:Nat → Nat → Qi) (p q:Nat) (V:Nat → Qi × Qi) (a b:Nat):Qi:=S a b + (S a p * (V b).1 + S a q * (V b).2)
variable {V:Nat → Qi × Qi}
end
end
section
open Go Go.RowKit
def low (c a b:Nat):Nat:=c - (if a < c then 1 else 0) - (if b < c then 1 else 0)
def okP (N p q r t : Nat) : Bool :=
 decide ((uE [p,q] N).length = N - 2) && decide (low r p q < N - 2) && decide (low t p q < N - 2) && decide (low r p q ≠ low t p q) && decide (rX (uE [p,q] N) (low r p q) = r) && decide (rX (uE [p,q] N) (low t p q) = t)
 && decide ((uE [low r p q,low t p q] (N - 2)).map (rX (uE [p,q] N)) = uE [p,q,r,t] N) && decide ((uE [p,q,r,t] N).length = N - 4) && decide (uE [t,r,p,q] N = uE [p,q,r,t] N) && decide (uE [r,t,p,q] N = uE [p,q,r,t] N)
section
variable {z:List Qi} {S:List (List Qi)} {N p q r t:Nat} {ζ:Qi}
end
end
section
open Go Go.RowKit
def Gb (x:Qi) (N:Nat):Prop:=∃ p q:Int,x = Qi.mk (p:Rat) (q:Rat) ∧ p.natAbs ≤ N ∧ q.natAbs ≤ N
theorem Gb.le {x:Qi} {N M:Nat} (h:Gb x N) (k:N ≤ M):Gb x M:=by
 obtain ⟨p,q,e,h1,h2⟩:=h; exact ⟨p,q,e,by omega,by omega⟩
theorem Gb.add {x y:Qi} {N M:Nat} (h:Gb x N) (k:Gb y M):Gb (x + y) (N + M):=by
 obtain ⟨p,q,rfl,h1,h2⟩:=h; obtain ⟨r,s,rfl,k1,k2⟩:=k
 refine ⟨p + r,q + s,Qi.ext' ?_ ?_,by omega,by omega⟩
 ·show (p:Rat) + (r:Rat) = ((p + r:Int):Rat); push_cast; rfl
 ·show (q:Rat) + (s:Rat) = ((q + s:Int):Rat); push_cast; rfl
theorem Gb.neg {x:Qi} {N:Nat} (h:Gb x N):Gb (-x) N:=by
 obtain ⟨p,q,rfl,h1,h2⟩:=h
 refine ⟨-p,-q,Qi.ext' ?_ ?_,by omega,by omega⟩
 ·show -(p:Rat) = ((-p:Int):Rat); push_cast; rfl
 ·show -(q:Rat) = ((-q:Int):Rat); push_cast; rfl
theorem Gb.sub {x y:Qi} {N M:Nat} (h:Gb x N) (k:Gb y M):Gb (x - y) (N + M):=by rw [Qi.sub_def]; exact h.add k.neg
theorem wU {p q:Int} {N M:Nat} (h:p.natAbs ≤ N) (k:q.natAbs ≤ M):(p * q).natAbs ≤ N * M:=by rw [Int.natAbs_mul]; exact Nat.mul_le_mul h k
theorem Gb.mul {x y:Qi} {N M:Nat} (h:Gb x N) (k:Gb y M):Gb (x * y) (2 * N * M):=by
 obtain ⟨p,q,rfl,h1,h2⟩:=h; obtain ⟨r,s,rfl,k1,k2⟩:=k
 have a1:=wU h1 k1; have a2:=wU h2 k2; have a3:=wU h1 k2; have a4:=wU h2 k1
 have e:2 * N * M = N * M + N * M:=by rw [Nat.mul_assoc,Nat.two_mul]
 refine ⟨p * r - q * s,p * s + q * r,Qi.ext' ?_ ?_,by omega,by omega⟩
 ·rw [Qi.mul_re]; show (p:Rat) * (r:Rat) - (q:Rat) * (s:Rat) = ((p * r - q * s:Int):Rat); push_cast; rfl
 ·rw [Qi.mul_im]; show (p:Rat) * (s:Rat) + (q:Rat) * (r:Rat) = ((p * s + q * r:Int):Rat); push_cast; rfl
theorem Gb.sum {f : Nat → Qi} {N : Nat} : ∀ {n : Nat}, (∀ k, k < n → Gb (f k) N) → Gb (lL n f) (n * N)
 | 0,_=>⟨0,0,Qi.ext' rfl rfl,by simp,by simp⟩
 | n + 1, h => by
  rw [lL,Nat.succ_mul]
  exact (Gb.sum fun k hk=>h k zo).add (h n zo)
theorem Gb.fit {x:Qi} {N L:Nat} (h:Gb x N) (hN:N < BB ^ L) (hL:1 ≤ L):aP x L:=by
 obtain ⟨p,q,rfl,h1,h2⟩:=h
 have e:Qi.mk (p:Rat) (q:Rat) = Qi.mk' p q 1:=Qi.ext' (by rw [Qi.mk_re]; show (p:Rat) = p / ((1:Nat):Rat); grind) (by rw [Qi.mk_im]; show (q:Rat) = q / ((1:Nat):Rat); grind)
 rw [e]
 exact ⟨Qi.Fit.mk (by decide) zo zo (Qi.one_lt hL)⟩
def fs : Nat → Nat → Nat
 | 0,_=>1
 | n + 1,N=>2 * (n + 1) * N * fs n (4 * N * N)
end
section
open Go Go.RowKit
section
variable {a b:Qi} {A B C:List (List Qi)} {d e:Nat → Qi} {n:Nat}
end
theorem q2:Qi.ofInt 2 = 2:=rfl
section
variable {z:List Qi} {s:List (List Qi)}
end
end
section
open Go Go.RowKit
def tU (r:List Qi) (w:Nat):Prop:=∃ d:Qi,d ≠ 0 ∧ Gb d (BB ^ w) ∧ ∀ j,Gb (d * gv r j) (BB ^ w)
theorem tU.le {r:List Qi} {w v:Nat} (h:tU r w) (k:w ≤ v):tU r v:=by
 obtain ⟨d,d0,dg,dj⟩:=h
 have hp:BB ^ w ≤ BB ^ v:=Nat.pow_le_pow_right eS k
 exact ⟨d,d0,dg.le hp,fun j=>(dj j).le hp⟩
theorem Io (w:Nat):2 * BB ^ w * BB ^ w + 2 * BB ^ w * BB ^ w ≤ BB ^ (2 * w + 1):=by
 have e:BB ^ (2 * w + 1) = BB ^ w * BB ^ w * BB:=by rw [Nat.pow_succ,Nat.two_mul,Nat.pow_add]
 rw [e,Nat.mul_assoc 2,← Nat.two_mul,← Nat.mul_assoc 2 2,Nat.mul_comm (2 * 2)]
 exact Nat.mul_le_mul_left _ (by decide)
theorem a0d {l:List Qi} {j:Nat} (h:l.length ≤ j):gv l j = 0:=by simp [gv,List.getD,List.getElem?_eq_none h]; rfl
theorem Vf (N:Nat):Gb 0 N:=⟨0,0,Qi.ext' rfl rfl,by simp,by simp⟩
theorem tU.red {rr rc:List Qi} {c w:Nat} {P:Nat → Prop} [DecidablePred P] (h1:tU rr w) (h2:tU rc w) (hp:gv rc c ≠ 0):tU (tab rr.length fun j=>if P j then gv rr j - gv rr c / gv rc c * gv rc j else gv rr j) (2 * w + 1):=by
 obtain ⟨d,d0,dg,dj⟩:=h1
 obtain ⟨e,e0,eg,ej⟩:=h2
 have t:=Io w
 refine ⟨d * (e * gv rc c),fun k=>?_,(dg.mul (ej c)).le zo,fun j=>?_⟩
 ·rcases vL k with k | k
  ·exact d0 k
  ·rcases vL k with k | k
   ·exact e0 k
   ·exact hp k
 ·by_cases hj : j < rr.length
  ·rw [yK hj]
   by_cases hP:P j
   ·rw [if_pos hP]
    have hd:=Ci (x:=gv rr c) hp
    have ee : d * (e * gv rc c) * (gv rr j - gv rr c / gv rc c * gv rc j) = d * gv rr j * (e * gv rc c) - d * gv rr c * (e * gv rc j) := by
     have e2:d * (e * gv rc c) * (gv rr c / gv rc c * gv rc j) = d * (gv rr c / gv rc c * gv rc c) * (e * gv rc j):=by grind
     rw [hd] at e2
     grind
    rw [ee]
    exact (((dj j).mul (ej c)).sub ((dj c).mul (ej j))).le t
   ·rw [if_neg hP]
    have ee:d * (e * gv rc c) * gv rr j = d * gv rr j * (e * gv rc c):=by grind
    rw [ee]
    exact ((dj j).mul (ej c)).le zo
  ·rw [a0d (l := tab rr.length fun j => if P j then gv rr j - gv rr c / gv rc c * gv rc j else gv rr j) (by rw [bH]; omega)]
   have ee:d * (e * gv rc c) * 0 = 0:=by grind
   rw [ee]; exact Vf _
theorem tU.fit {r : List Qi} {w : Nat} (h : tU r w) : dR r (4 * (w + 1) + 2) := fun x hx => by
 obtain ⟨d,d0,dg,dj⟩:=h
 obtain ⟨j,hj,e⟩:=List.getElem_of_mem hx
 have e2:gv r j = x:=by simp [gv,List.getD,hj,e]
 have hlt:BB ^ w < BB ^ (w + 1):=Nat.pow_lt_pow_right (by decide) zo
 have f1:aP (d * gv r j) (w + 1):=(dj j).fit hlt zo
 have f2:aP d (w + 1):=dg.fit hlt zo
 have f3:aP (d * gv r j / d) (w + 1 + 3 * (w + 1) + 2):=Vc f1 f2 d0
 rw [a04 (z:=x) d0 (by rw [e2]; grind)] at f3
 exact f3.le zo
abbrev pQ (M:List (List Qi)) (w:Nat):Prop:=∀ r,r ∈ M → tU r w
theorem pQ.row {M : List (List Qi)} {w i : Nat} (h : pQ M w) (hi : i < M.length) : tU (dS M i) w := h _ (by
 rw [show dS M i = M[i] by simp [dS,List.getD,hi]]; exact List.getElem_mem hi)
theorem pQ.swp {M : List (List Qi)} {w p c : Nat} (h : pQ M w) (hp : p < M.length) (hc : c < M.length) : pQ (swp [] M p c) w := fun x hx => by
 unfold Go.Proofs.YthcmlodgnfekeaaGreat.swp at hx
 rcases List.mem_or_eq_of_mem_set hx with h1 | h1
 ·rcases List.mem_or_eq_of_mem_set h1 with h2 | h2
  ·exact h x h2
  ·rw [h2]; exact h.row hc
 ·rw [h1]; exact h.row hp
theorem pQ.redM {M : List (List Qi)} {w c r : Nat} (h : pQ M w) (hc : c < M.length) (hp : gm M c c ≠ Qi.zero) : pQ (redM M c r) (2 * w + 1) := fun x hx => by
 obtain ⟨i,hi,rfl⟩:=hZ.1 hx
 show tU (if c < i ∧ i < r then kD (dS M i) (dS M c) c (dS M i).length else dS M i) _
 split
 ·exact (h.row hi).red (h.row hc) hp
 ·exact (h.row hi).le zo
theorem pQ.redJ {M : List (List Qi)} {w c r : Nat} (h : pQ M w) (hc : c < M.length) (hp : gm M c c ≠ Qi.zero) : pQ (redJ M c r) (2 * w + 1) := fun x hx => by
 obtain ⟨i,hi,rfl⟩:=hZ.1 hx
 show tU (if i ≠ c ∧ i < r then vO (dS M i) (dS M c) c (dS M i).length else dS M i) _
 split
 ·exact (h.row hi).red (h.row hc) hp
 ·exact (h.row hi).le zo
structure SzS (M:List (List Qi)) (b:List Qi) (n G X:Nat):Prop where
 st:∀ c,c ≤ n → eE (dM (oC M [b] n) c).1 G
 bk:rV M b n = 0 → ∀ j,j ≤ n → dR (vF (zA M b n).1 n j) X
 g1:1 ≤ G
 x1:1 ≤ X
 g:6 * G + 4 ≤ 17592186044415
 x:n * (X + G + 2) + 4 * G + 2 ≤ 17592186044415
theorem SzS.old {M:List (List Qi)} {b:List Qi} {n L:Nat} (hM:iE M n n) (hf:eE M L) (hfb:dR b L) (hL:1 ≤ L) (hg:6 * nD L n + 4 ≤ 17592186044415) (hx:Gm (nD L n) (n + 1) ≤ 17592186044415):SzS M b n (nD L n) (Gm (nD L n) n):=by
 have hcs:iE (oC M [b] n) n (n + 1):=oD hM
 have hcf:eE (oC M [b] n) L:=tY hf (fun r hr=>by simp at hr; subst hr; exact hfb) hL
 have hG1:1 ≤ nD L n:=Nat.le_trans hL (sY L n)
 refine ⟨fun c hc=>(yE hcs hcf hL hc).le (rI L hc),fun hE j hj=>?_,hG1,Nat.le_trans hG1 (Iv _ _),hg,hx⟩
 have hst:¬ 0 ≤ (zA M b n).2.2:=fun h=>by rw [rV,if_pos h] at hE; omega
 have hf2:=Ot (Sd hM hf hfb hL) hG1 (uA hcs (Nat.le_refl n) (Ln hst)) j hj
 exact fun y hy=>(hf2 y hy).le (Gn _ hj)
structure SzJ (M:List (List Qi)) (b:List Qi) (n G:Nat):Prop where
 st:∀ c A,c ≤ n → Ms (oC M [b] n) c = some A → eE A G
 g1:1 ≤ G
 g:6 * G + 4 ≤ 17592186044415
theorem SzJ.old {M : List (List Qi)} {b : List Qi} {n L : Nat} (hM : iE M n n) (hf : eE M L) (hfb : dR b L) (hL : 1 ≤ L) (hg : 6 * nD L n + 4 ≤ 17592186044415) : SzJ M b n (nD L n) :=
 ⟨fun _ _ hc hA=>(Qf (show iE (oC M [b] n) n (n + 1) from oD hM) (Nat.le_succ n) (tY hf (fun r hr=>by simp at hr; subst hr; exact hfb) hL) hL hc hA).le (rI L hc),Nat.le_trans hL (sY L n),hg⟩
end
section
open Go Go.RowKit
theorem a14 {n:Nat} (hn:n ≤ 32):iM Tryz.prog 215 [NT .i64 n] [] (Nat) (fun B=>Is (.slice (some ⟨B,0,none⟩) n n)) (fun B=>[rU uB B 54 32 5 (dE aT (Nw n))]) (fun _=>True):=by
 refine iM.intro Tryz.func215 rfl Tryz.ntmps215 rfl (fun cx Z=>(ts (ro rfl (cQ cV) (eX (ts (rn rfl (eW (Ts:=[Is (.bool false),Is (.slice none 0 0),Is (.bool false),Is (.slice none 0 0),Is (.slice none 0 0)]) O_32 rfl (fun V=>aW zd (aW zd (aW zd (aW zd (aW zd (aG))))))) fun B3=>(eX (ts (rm rfl (ro rfl (aE.nat (Wf (Ht rfl) (cJ 0)) (show max n 0 = n by omega)) (ro rfl (aE.nat (Kx (Ht rfl) (cJ 32)) (show min n 32 = n by omega)) ?_)))))))))))
 refine rn rfl (eI (T:=Is (.slice none 0 0)) (i:=Tryz.t54) Tryz.underlying78 wQ rfl rfl (Ht rfl) rfl (fun _=>rfl) trivial (by show 24 * _ ≤ _; omega) zo) fun B9=>ra rfl (eX (cK (ts (rm rfl (ro rfl (iY U_78 (Ht rfl)) (ro rfl (cX (cJ 0)) (eX (eG (oP 2 rfl (Fg uB ⟨none,0,rfl⟩ (e:=32) (s:=5)) ?_)))))))))
 refine cL (fun (k : Nat) => k ≤ n) (fun (k : Nat) => n - k) (fun (k : Nat) => [(3, bR B3 0), (4, Is (.slice (some ⟨B9, 0, none⟩) n n)), (11, NT .i64 n), (12, NT .i64 k)]) (fun (k : Nat) => [Z, box B3 32 [Is (.bool false), Is (.slice none 0 0), Is (.bool false), Is (.slice none 0 0), Is (.slice none 0 0)], rU uB B9 54 32 5 (dE aT (mP (Bm n) [] n k))]) 0 (Nat.zero_le _)
  (zS rfl) (aU (fun _ _ _ h=>h) (aU (fun _ _ _ h=>h) (aU (fE (by rw [← kG,rR]; exact tJ aT n)) aY))) (fun k hk=>?_)
 refine ts (ro rfl (gX (Ht rfl) (Ht rfl)) (eX (cK (dQ (Ht rfl) (fun hd=>?_) (fun hd=>?_)))))
 ·simp only [decide_eq_true_eq] at hd
  refine Ok 2 (k) rfl (yH hd) (fun v hv=>(cU (cK (eG (ts (rm rfl (ra rfl (eX (cK (fZ (m:=10) (dp 4 rfl (cX (Ht rfl)) (dp 5 rfl (cX (Ht rfl)) (dp 3 rfl (eJ A_32 Z_32 (Ht rfl) (i:=1) rfl rfl rfl) (dq 17 2 rfl (eD fF (Ht rfl)) (d0 rfl (cZ Tryz.call36 (Jm (n:=0) (by decide) (by decide)) ⟨(cJ 0),trivial⟩) (cI 18 3 19 4 rfl (dA oZ Tryz.call318 Oy (Ht rfl) ⟨(Ht rfl),trivial⟩) (dq 20 5 rfl (dH (xs:=[.tmp 20]) U_54 Z_32 O_32 (cW (Ht rfl) cG) rfl rfl rfl) ?_)))))))))))))))))
  refine dp 4 rfl (cX (Ht rfl)) (dq 22 7 rfl (iY U_78 (Ht rfl)) (C.D_new (Ei:=[(21,_),(23,_)]) rfl rfl rfl (bV (bG 6 rfl rfl) (bV (bG 8 rfl rfl) bW)) (Bc Tryz.call212 (Zn (m:=n) zo zo) ⟨(Ht rfl),(Ht rfl),trivial⟩) (fV aO rfl (by kernel_rfl) (zF (zF (aJ (C.F_new (fun B24=>aV (ro rfl (fY U_78 Z_54 (Ht rfl) (Ht rfl) rfl zo (by rw [Nat.mul_one,Nat.zero_add])) ?_)))))))))
  refine Aj Z_54 (Ht rfl) (Ht rfl) (by simp only [dE,List.length_map,eP]; omega) (j:=2) (l:=4) rfl rfl rfl ?_
  refine eX ?_
  have hB24:=B24.1.2
  refine fZ (m:=9) (dp 4 rfl (cX (Ht rfl)) (dp 5 rfl (cX (Ht rfl)) (cI 26 0 27 1 rfl (fY U_78 Z_54 (Ht rfl) (Ht rfl) rfl zo (by rw [Nat.mul_one,Nat.zero_add])) ?_)))
  refine dq 28 2 rfl (pD A_54 Z_54 (Ht rfl) (j:=2) rfl) (dp 5 rfl (cX (Ht rfl)) (dp 3 rfl (eJ A_32 Z_32 (Ht rfl) (i:=1) rfl rfl rfl) (dq 31 5 rfl (eD fF (Ht rfl)) (d0 rfl (cZ Tryz.call36 (Jm (n:=1) (by decide) (by decide)) ⟨(cJ 1),trivial⟩) (cI 32 6 33 7 rfl (dA oZ Tryz.call318 Oy (Ht rfl) ⟨(Ht rfl),trivial⟩) (fV aO rfl (by kernel_rfl) (zF (zF (aJ (aV (ro rfl (eR U_54 Z_32 (Ht rfl) (Ht rfl) rfl (i:=4) rfl (by simp only [List.length_map,bH]; omega) rfl) ?_)))))))))))
  refine mX Z_32 (Ht rfl) (Ht rfl) (El.ag rfl) (i:=4) rfl rfl (by simp only [List.length_map,bH]; omega) rfl ?_
  refine eX (bD (lD 2 4 rfl rfl (by decide) (by simp only [dE,List.length_map,eP]; omega) ?_))
  refine cY (ro rfl (dV (Ht rfl) (cJ 1) z6) (rm rfl (eX (dT [0,1,2] rfl (by decide) (fU (k + 1) hd zo (zS rfl) (aU (fun _ _ _ h=>h) (aU (fun _ _ _ h=>h) (aU (fE (by rw [← lO (f:=Bm n),← mH,Bm,← lA])) aY))))))))
 ·simp only [decide_eq_false_iff_not] at hd
  obtain rfl:n = k:=Nat.le_antisymm zo hk
  refine gV rfl (ts (rm rfl (ra rfl (eX ?_))))
  exact kX B9 trivial [0,2] ⟨⟨_,rfl,fun _ _ _ h=>h⟩,⟨_,rfl,(fE (by rw [lN]; rfl))⟩,trivial⟩ (by decide) (yX rfl (eU rfl))
theorem a13 {n:Nat} (hn:n ≤ 32):bA Tryz.prog 215 [NT .i64 n] (fT (Nw n)):=(a14 hn).fun fun B _ v S V h1 h2=>yI (s:=5) (M:=Nw n) (sZ n).1.symm v S V h1 h2
theorem Pb {M:List (List Qi)} {b:List Qi} {n G X:Nat} (hM:iE M n n) (hb:b.length = n) (hz:SzS M b n G X) (h1:1 ≤ n) (hn:n ≤ 32):bA Tryz.prog 227 [fT M,dB b] (eT [dB (gD (rV M b n) (zB M b n)),aL .i64 (rV M b n)]):=by
 have hMl:=hM.1
 have hcs:iE (oC M [b] n) n (n + 1):=oD hM
 have hg:=hz.g
 have hx:n * (G + X + 2) + 4 * G + 2 ≤ 17592186044415:=by rw [Nat.add_comm G X]; exact hz.x
 obtain ⟨U,hU⟩:∃ U,U = (zA M b n).1:=⟨_,rfl⟩
 have hUs:iE U n (n + 1):=by rw [hU]; exact Se hM
 have hUl:=hUs.1
 have hUf:eE U G:=by rw [hU]; exact hz.st n (Nat.le_refl n)
 have hG1:=hz.g1
 have hX1:=hz.x1
 refine bA.intro Tryz.func227 rfl Tryz.ntmps227 rfl (fun cx=>(ts (ro rfl (cQ cV) (ro rfl (cQ (cJ 0)) (eX (cK (ts (rm rfl (ro rfl (cZ Tryz.call229 (Eh hM h1 hn) ⟨(Ht rfl),trivial⟩) (ro rfl (fB (Ht rfl)) (rm rfl (fQ rfl rfl (eK rfl rfl (Ht rfl) (fun h=>cX (Ht rfl))) (fQ rfl rfl (eK rfl rfl (Ht rfl) (fun h=>dG U_54 (fJ rfl h) aA)) (fQ rfl rfl (eK rfl rfl (Ht rfl) (fun h=>cX (Ht rfl))) (fQ rfl rfl (eK rfl rfl (Ht rfl) (fun h=>dG U_78 (fJ rfl h) aA)) ?_)))))))))))))))
 refine fQ rfl rfl (eK rfl rfl (Ht rfl) (fun h=>gL (fJ rfl h) (fJ rfl h))) (ro rfl (iR (Ht rfl) (fun h=>(fJ rfl h))) (eX (jK (Ht rfl) (by simp [hMl,hb]) ?_)))
 refine cU (ts (rm rfl (ro rfl (dG U_78 (Ht rfl) (by rw [List.length_map,hMl])) ?_)))
 refine ra rfl (eX (ts (rm rfl (rm rfl (ro rfl (dH (xs:=[.tmp 26]) U_78 Z_54 Tryz.zeroValue54 (cW (Ht rfl) cG) rfl rfl rfl) (sN Tryz.call230 (Am (M:=M) (bs:=[b]) (n:=n) (m:=n) hM (fun r hr=>by simp at hr; subst hr; omega) zo zo (by simp)) ⟨(Ht rfl),(Ht rfl),trivial⟩ rfl (fun B28 _=>?_)))))))
 refine ra rfl (eX (cK (ts (rm rfl (Bo Tryz.call265 (Ue (n:=n) (m:=n + 1) (G:=G) hcs hz.st hG1 hg zo zo) (i:=0) rfl ⟨(Ht rfl),trivial⟩ rfl (fun uu _=>(rm rfl (ro rfl (dK (Ht rfl) rfl) (ro rfl (dK (Ht rfl) rfl) (ra rfl (ra rfl (eX (ts (rm rfl (ro rfl (jP (Ht rfl) cV) (eX (dQ (Ht rfl) (fun hs=>?_) (fun hs=>?_))))))))))))))))))
 ·have he : rV M b n = 6 := by rw [rV, if_pos (show 0 ≤ (zA M b n).2.2 from of_decide_eq_true hs)]
  refine ts (ro rfl (cQ cV) (ro rfl (cQ (cJ 6)) (eX (bC rfl (fX (eU rfl) ?_) (fX (eU rfl) ?_)))))
  ·exact (fun v V k=>by rw [he]; exact hJ v V k)
  ·exact (aH he.symm)
 ·have hst : ¬ 0 ≤ (zA M b n).2.2 := of_decide_eq_false hs
  have he:rV M b n = 0:=by rw [rV,if_neg hst]
  have hdz:∀ i,i < n → gm U i i ≠ Qi.zero:=by rw [hU]; exact uA hcs (Nat.le_refl n) (Ln hst)
  refine cU (ts (rm rfl (rn rfl (iQ (T:=aT Qi.zero) (i:=Tryz.t32) qV nQ rfl rfl (Ht rfl) rfl lG (El.ag rfl) (by show 88 * _ ≤ _; omega) zo) fun B37=>(ra rfl (eX (cK (ts (rm rfl (ro rfl (dW (Ht rfl) (cJ 1) zo z6) (ra rfl (eX (eG (oP 0 rfl (fE (show dE aT (dM (oC M [b] n) n).1 = dE aT U by rw [hU]; rfl)) (Bq 0 rfl (fun vs hvs=>?_)))))))))))))))
  have hvl:vs.length = n:=by have h:=hvs.len; rw [List.length_map,hUl] at h; exact h
  refine cL (fun (j : Nat) => j ≤ n) (fun (j : Nat) => n - j) (fun (j : Nat) => [(0, Is (.slice (some ⟨B28, 0, none⟩) n n)), (6, NT .i64 n), (9, Is B37), (10, aL .i64 ((n : Int) - 1 - (j : Int)))]) (fun (j : Nat) => [iW B28 54 32 5 vs vs (dE aT U), bF 32 5 B37 ((vF U n j).map aT)]) 0 (Nat.zero_le _)
   (aQ rfl (aQ rfl (aQ rfl (aZ rfl (aH zo) aX)))) (aU (fun _ _ _ h=>h) (aU (bN (by rw [vF]; exact Lu aT n)) aY)) (fun j hj=>?_)
  refine cK (ts (rm rfl (ro rfl (jP (Ht rfl) cV) (eX (dQ (Ht rfl) (fun hc=>?_) (fun hc=>?_))))))
  ·have hjn : j < n := a0Y (of_decide_eq_true hc)
   obtain ⟨q,hq⟩:∃ q,q = n - (j + 1):=⟨_,rfl⟩
   have hqi:(n:Int) - 1 - (j:Int) = (q:Int):=by omega
   have hqr:(U.getD q []).length = n + 1:=hUs.row zo
   have hXf:dR (vF U n j) X:=by rw [hU]; exact hz.bk he j hj
   have hXl:=Bs U n j
   refine cU (cK (eG (ts (rm rfl (rm rfl (ro rfl (fY U_78 Z_54 (Ht rfl) (Ht rfl) hqi zo (by rw [Nat.mul_one,Nat.zero_add])) ?_))))))
   refine ro rfl (jV A_54 Z_54 (Ht rfl) (j:=0) rfl zo) (rm rfl (ro rfl (lQ U_54 Z_32 (Ht rfl) (Ht rfl) rfl (j:=0) rfl zo zo zo) (ro rfl (qJ A_32 Z_32 (Ht rfl) (j:=0) rfl zo zo zo) (rn rfl (eW (Ts:=[Is (.bool false),Is (.slice none 0 0),Is (.bool false),Is (.slice none 0 0),Is (.slice none 0 0)]) O_32 rfl (fun V=>aW zd (aW zd (aW zd (aW zd (aW zd (aG))))))) fun B11=>?_))))
   refine gQ Z_32 (Ht rfl) (Ht rfl) rfl (i:=2) rfl (aK rfl) rfl rfl (eX (cK (ts (rm rfl (ro rfl (yU (Ht rfl) cV (r:=((q + 1:Nat):Int)) ((vT (z:=(n:Int) - 1 - (j:Int) + 1) zo).trans zo)) ?_)))))
   refine ra rfl (eX (eG ?_))
   refine cL (fun (k : Nat) => k ≤ j) (fun (k : Nat) => j - k) (fun (k : Nat) => [(0, Is (.slice (some ⟨B28, 0, none⟩) n n)), (6, NT .i64 n), (9, Is B37), (10, aL .i64 ((n : Int) - 1 - (j : Int))), (11, bR B11 0), (12, NT .i64 (q + 1 + k))]) (fun (k : Nat) => [iW B28 54 32 5 vs vs (dE aT U), bF 32 5 B37 ((vF U n j).map aT), box B11 32 [aB (decide ((qR U (vF U n j) n q k).a < 0)), aD (qR U (vF U n j) n q k).a.natAbs, aB (decide ((qR U (vF U n j) n q k).b < 0)), aD (qR U (vF U n j) n q k).b.natAbs, aD (du (qR U (vF U n j) n q k))]]) 0 (Nat.zero_le _)
    (zS rfl) (aU (fun _ _ _ h=>h) (aU (fun _ _ _ h=>h) (aU (aC rfl) aY))) (fun k hk=>?_)
   refine cK (ts (rm rfl (rm rfl (ro rfl (gX (Ht rfl) (Ht rfl)) (eX (dQ (Ht rfl) (fun hf=>?_) (fun hf=>?_)))))))
   ·have hkj : k < j := by simp only [decide_eq_true_eq] at hf; omega
    haveI f1:aP (qR U (vF U n j) n q k) (G + k * (G + X + 2)):=xA hUf hXf hG1 hX1 k
    haveI f2:aP (gm U q (q + 1 + k)) G:=hUf.get hG1 _ _
    haveI f3:aP (gv (vF U n j) (q + 1 + k)) X:=hXf.get hX1 _
    have hb1:k * (G + X + 2) + (G + X + 2) ≤ n * (G + X + 2):=by rw [← Nat.succ_mul]; exact Nat.mul_le_mul_right _ zo
    refine cU (cK (eG (fZ (m:=15) (dp 11 rfl (eJ A_32 Z_32 (Ht rfl) (i:=2) rfl rfl rfl) (dq 58 0 rfl (eD fF (Ht rfl)) (dp 0 rfl (cX (Ht rfl)) (dp 10 rfl (cX (Ht rfl)) (cI 60 2 61 3 rfl (fY U_78 Z_54 (Ht rfl) (Ht rfl) hqi zo (by rw [Nat.mul_one,Nat.zero_add])) ?_))))))))
    refine dq 62 4 rfl (jV A_54 Z_54 (Ht rfl) (j:=0) rfl zo) (dp 12 rfl (cX (Ht rfl)) (cI 63 5 64 6 rfl (lQ U_54 Z_32 (Ht rfl) (Ht rfl) rfl (j:=0) rfl zo zo zo) (dq 65 7 rfl (qJ A_32 Z_32 (Ht rfl) (j:=0) rfl zo zo zo) (dq 66 8 rfl (eD fF (Ht rfl)) (dp 9 rfl (cX (Ht rfl)) (dp 12 rfl (cX (Ht rfl)) (cI 68 10 69 11 rfl (eR U_54 Z_32 (Ht rfl) (Ht rfl) rfl (i:=1) rfl (by rw [List.length_map]; omega) rfl) ?_)))))))
    refine dq 70 12 rfl (uV A_32 Z_32 (Ht rfl) (i:=1) rfl rfl (dY (dU (d:=Qi.zero) zo))) (cI 67 9 71 13 rfl (dA kQ K_29 (xU (x:=gm U q (q + 1 + k)) (y:=gv (vF U n j) (q + 1 + k)) (L:=G) (M:=X) zo) (Ht rfl) ⟨(Ht rfl),trivial⟩) (fV aO rfl (by kernel_rfl) (zF (zF (zF (aJ (aJ (aJ (aV (ro rfl (dA mC K_32 (xV (x:=(qR U (vF U n j) n q k)) (y:=gm U q (q + 1 + k) * gv (vF U n j) (q + 1 + k)) (L:=G + k * (G + X + 2)) (M:=G + X + 1) zo) (Ht rfl) ⟨(Ht rfl),trivial⟩) ?_))))))))))
    refine gQ Z_32 (Ht rfl) (Ht rfl) rfl (i:=2) rfl (aK rfl) rfl rfl (eX (bD (cY (rm rfl (ro rfl (dV (Ht rfl) (cJ 1) z6) (ra rfl (eX (fU (k + 1) hkj zo (zS rfl) (aU (fun _ _ _ h=>h) (aU (fun _ _ _ h=>h) (aU (aC rfl) aY)))))))))))
   ·obtain rfl : k = j := Nat.le_antisymm hk (by simp only [decide_eq_false_iff_not] at hf; omega)
    haveI f1:aP (qR U (vF U n k) n q k) (G + k * (G + X + 2)):=xA hUf hXf hG1 hX1 k
    haveI f2:aP (gm U q q) G:=hUf.get hG1 _ _
    have hb3:k * (G + X + 2) ≤ n * (G + X + 2):=Nat.mul_le_mul_right _ zo
    refine gV rfl (Y.D_start (m:=17) [(16,1,bF 32 5 B37 (((vF U n k).map aT).set q (aT ((qR U (vF U n k) n q k) / gm U q q))))] (Y.D_step (Ei:=[(9,_)]) rfl rfl (bQ (bJ rfl rfl) bX) rfl rfl (by kernel_rfl) (dX rfl (cX (Ht rfl))) (Y.D_step (Ei:=[(10,_)]) rfl rfl (bQ (bJ rfl rfl) bX) rfl rfl (by kernel_rfl) (dX rfl (cX (Ht rfl))) (Y.D_step (Ei:=[(11,_)]) rfl rfl (bQ (bJ rfl rfl) bX) rfl rfl (by kernel_rfl) (dX rfl (eJ A_32 Z_32 (Ht rfl) (i:=2) rfl rfl rfl)) ?_))))
    refine Y.D_step (Ei:=[(77,_)]) rfl rfl (bQ (bZ 2 rfl rfl) bX) rfl rfl (by kernel_rfl) (dX rfl (eD fF (Ht rfl))) (Y.D_step (Ei:=[(0,_)]) rfl rfl (bQ (bJ rfl rfl) bX) rfl rfl (by kernel_rfl) (dX rfl (cX (Ht rfl))) (Y.D_step (Ei:=[(10,_)]) rfl rfl (bQ (bJ rfl rfl) bX) rfl rfl (by kernel_rfl) (dX rfl (cX (Ht rfl))) (Y.D_step (Ei:=[(79,_),(80,_)]) rfl rfl (bQ (bZ 4 rfl rfl) (bQ (bZ 5 rfl rfl) bX)) rfl rfl (by kernel_rfl) (dX rfl (fY U_78 Z_54 (Ht rfl) (Ht rfl) hqi zo (by rw [Nat.mul_one,Nat.zero_add]))) ?_)))
    refine Y.D_step (Ei:=[(81,_)]) rfl rfl (bQ (bZ 6 rfl rfl) bX) rfl rfl (by kernel_rfl) (dX rfl (jV A_54 Z_54 (Ht rfl) (j:=0) rfl zo)) (Y.D_step (Ei:=[(10,_)]) rfl rfl (bQ (bJ rfl rfl) bX) rfl rfl (by kernel_rfl) (dX rfl (cX (Ht rfl))) (Y.D_step (Ei:=[(82,_),(83,_)]) rfl rfl (bQ (bZ 7 rfl rfl) (bQ (bZ 8 rfl rfl) bX)) rfl rfl (by kernel_rfl) (dX rfl (lQ U_54 Z_32 (Ht rfl) (Ht rfl) hqi (j:=0) rfl zo zo zo)) ?_))
    refine Y.D_step (Ei:=[(84,_)]) rfl rfl (bQ (bZ 9 rfl rfl) bX) rfl rfl (by kernel_rfl) (dX rfl (qJ A_32 Z_32 (Ht rfl) (j:=0) rfl zo zo zo)) (Y.D_step (Ei:=[(78,_),(85,_)]) rfl rfl (bQ (bZ 3 rfl rfl) (bQ (bZ 10 rfl rfl) bX)) rfl rfl (by kernel_rfl) (dX rfl (dA qF Tryz.call142 (Jl (x:=(qR U (vF U n k) n q k)) (y:=gm U q q) (L:=G + k * (G + X + 2)) (M:=G) zo) (Ht rfl) ⟨(Ht rfl),trivial⟩)) (Y.D_step (Ei:=[(86,_)]) rfl rfl (bQ (bZ 11 rfl rfl) bX) rfl rfl (by kernel_rfl) (dX rfl (cX (Ht rfl))) ?_))
    refine Y.D_step (Ei:=[(74,_)]) rfl rfl (bQ (bZ 12 rfl rfl) bX) rfl rfl (by kernel_rfl) (dX rfl (dK (Ht rfl) rfl)) (bY (Ei:=[(74,_)]) rfl rfl (bQ (bZ 12 rfl rfl) bX) rfl rfl (dX rfl (dK (Ht rfl) rfl)) (Y.D_step (Ei:=[(75,_),(76,_)]) rfl rfl (bQ (bZ 0 rfl rfl) (bQ (bZ 1 rfl rfl) bX)) rfl rfl (by kernel_rfl) (dX rfl (eR U_54 Z_32 (Ht rfl) (Ht rfl) hqi (i:=1) rfl (by rw [List.length_map]; omega) rfl)) ?_))
    refine Y.D_putI (Ei:=[(89,_),(87,_)]) 1 rfl rfl rfl (bQ (bZ 15 rfl rfl) (bQ (bZ 13 rfl rfl) bX)) (.head _) rfl (Iy Z_32 (Ht rfl) (Ht rfl) (El.ag rfl) (i:=0) rfl rfl (by rw [List.length_map]; omega)) ?_
    refine Y.D_done aO rfl (by kernel_rfl) rfl (by simp [Y.okP]) rfl rfl (bU (bU (bU (bU (bU (bU (bU (bU (bU (bU (bU (bU (bU (bU (bU (bU (Y.F_putI (Y.F_nil ?_))))))))))))))))))
    refine eX (bD (cY (rm rfl (ro rfl (gT (Ht rfl) cV (vT zo)) (ra rfl (eX (dT [0,1] rfl (by decide) (fU (k + 1) hjn zo (aQ rfl (aQ rfl (aQ rfl (aZ rfl (aH zo) aX)))) (aU (fun _ _ _ h=>h) (aU (bN (by rw [lA,vF,← hq])) aY))))))))))
  ·obtain rfl : j = n := Nat.le_antisymm hj (a0Z (by have h := of_decide_eq_false hc; omega))
   refine gJ (i:=1) (tt:=9) rfl rfl iN (gV rfl (ts (rm rfl (ra rfl (ro rfl (cQ (cJ 0)) (eX (bC rfl (fX (eU rfl) ?_) (fX (eU rfl) ?_))))))))
   ·exact (jQ (by rw [he,zB,← hU]; rfl))
   ·exact (aH he.symm)
end
section
open Go Go.RowKit
theorem Md {M:List (List Qi)} {n m:Nat} (hM:iE M n m) (hn:n ≤ 1000) (hm:m ≤ 1000):iM Tryz.prog 230 [fT M,Is (.slice none 0 0)] [] Nat (fun B=>Is (.slice (some ⟨B,0,none⟩) n n)) (fun B=>[pM B 54 32 5 (dE aT M)]) (fun _=>True):=by
 have h:=Am (M:=M) (bs:=[]) hM (fun b hb=>by cases hb) hn hm (by simp)
 rw [Ml hM] at h
 exact h.arg On
theorem Zl {M:List (List Qi)} {n G X:Nat} (hM:iE M n n) (hz:∀ i,i < n → SzS M (ek n i) n G X) (hn:n ≤ 32):bA Tryz.prog 164 [fT M] (eT [fT (gD (Cq M n) (a0h M n)),aL .i64 (Cq M n)]):=by
 have hMl:=hM.1
 refine bA.intro Tryz.func164 rfl Tryz.ntmps164 rfl (fun cx=>(ts (ro rfl (cQ cV) (ro rfl (cQ (cJ 0)) (eX (cK (ts (rm rfl (ro rfl (cZ Tryz.call229 (Mi hM hn) ⟨(Ht rfl),trivial⟩) (ro rfl (fB (Ht rfl)) (eX (jK (Ht rfl) (by rfl) ?_))))))))))))
 refine cU (ts (rm rfl (sN Tryz.call230 (Md hM zo zo) ⟨(Ht rfl),cV,trivial⟩ rfl (fun B14 _=>(ra rfl (eX (cK (ts (rm rfl (ro rfl (dG U_78 (Ht rfl) (by rw [List.length_map,hMl])) ?_))))))))))
 refine ro rfl (cZ Tryz.call215 (a13 (n:=n) hn) ⟨(Ht rfl),trivial⟩) (ro rfl (dG U_78 (Ht rfl) aA) (ro rfl (cX (cJ 0)) (eX (eG ?_))))
 refine cL (fun (k : Nat) => k ≤ n ∧ ∀ i, i < k → rV M (ek n i) n = 0) (fun (k : Nat) => n - k) (fun (k : Nat) => [(0, fT M), (4, Is (.slice (some ⟨B14, 0, none⟩) n n)), (17, fT (Nw n)), (18, NT .i64 n), (19, NT .i64 k)]) (fun (k : Nat) => [pM B14 54 32 5 (dE aT (qC M n k 0))]) 0 ⟨Nat.zero_le _, fun i h => by omega⟩
  (aQ rfl (aQ rfl (aQ rfl (aZ rfl (kR (sZ n).1) (zS rfl))))) (aU (fE (congrArg _ (Mw hM))) aY) (fun k ⟨hk,h0⟩=>?_)
 refine ts (ro rfl (gX (Ht rfl) (Ht rfl)) (eX (cK (dQ (Ht rfl) (fun hd0=>?_) (fun hd0=>?_)))))
 ·simp only [decide_eq_true_eq] at hd0
  have hel:=a03 hd0
  refine cU (cK (eG (ts (rm rfl (ro rfl (dZ U_78 Z_54 (Ht rfl) (Ht rfl) rfl (dY (dU (d:=[]) (by rw [(sZ n).1]; exact hd0)))) ?_)))))
  refine ro rfl (dJ A_54 Z_54 (Ht rfl)) (ra rfl (ra rfl (eX (ts (rm rfl (rm rfl (ro rfl (cZ Tryz.call227 (Pb (M:=M) (b:=ek n k) (n:=n) (G:=G) (X:=X) hM hel (hz k hd0) zo hn) ⟨(Ht rfl),(Ht rfl),trivial⟩) (rm rfl (ro rfl (dK (Ht rfl) rfl) (ro rfl (dK (Ht rfl) rfl) (ra rfl (ra rfl (eX (cK (ts (rm rfl (ro rfl (jH (Ht rfl) cV) (eX (dQ (Ht rfl) (fun he=>?_) (fun he=>?_))))))))))))))))))))
  ·have he2 : ¬ rV M (ek n k) n = 0 := by simpa using he
   have hi:=Vi h0 hd0 he2
   refine ts (rm rfl (ro rfl (cQ cV) (ra rfl (eX (bC rfl (fX (eU rfl) ?_) (fX (eU rfl) ?_))))))
   ·exact (fun v V h=>by rw [hi,gD,if_neg he2]; exact hJ v V h)
   ·exact (aH hi.symm)
  ·have he2 : rV M (ek n k) n = 0 := by simpa using he
   have hxl:(zB M (ek n k) n).length = n:=Bs _ _ _
   refine xQ (E':=[(0,_),(4,_),(5,_),(7,_),(17,_),(18,_),(19,_)]) (aQ rfl (aQ rfl (aQ rfl (aZ rfl (jQ (Us:=(zB M (ek n k) n).map aT) (by rw [he2]; rfl)) (zS rfl))))) ?_
   refine cU (ts (rm rfl (ro rfl (dG U_54 (Ht rfl) aA) (ro rfl (cX (cJ 0)) (eX (eG ?_))))))
   refine cL (fun (i : Nat) => i ≤ n) (fun (i : Nat) => n - i) (fun (i : Nat) => [(0, fT M), (4, Is (.slice (some ⟨B14, 0, none⟩) n n)), (5, NT .i64 k), (7, dB (zB M (ek n k) n)), (17, fT (Nw n)), (18, NT .i64 n), (19, NT .i64 k), (34, NT .i64 n), (35, NT .i64 i)]) (fun (i : Nat) => [pM B14 54 32 5 (dE aT (qC M n k i))]) 0 (Nat.zero_le _)
    (aQ rfl (aQ rfl (aQ rfl (aQ rfl (aQ rfl (aQ rfl (aQ rfl (aZ rfl (kR hxl) (zS rfl))))))))) (bP.refl _) (fun i hi=>?_)
   refine ts (ro rfl (gX (Ht rfl) (Ht rfl)) (eX (cK (dQ (Ht rfl) (fun hf2=>?_) (fun hf2=>?_)))))
   ·simp only [decide_eq_true_eq] at hf2
    have hpl:=(oJ M n k i).1
    have hpr:((qC M n k i).getD i []).length = n:=(oJ M n k i).row hf2
    refine qX 0 (i) rfl (mB zo) (fun v=>(cU (cK (eG (ts (rm rfl (ra rfl (eX (fZ (m:=9) (dp 4 rfl (cX (Ht rfl)) (dp 9 rfl (cX (Ht rfl)) (cI 38 0 39 1 rfl (fY U_78 Z_54 (Ht rfl) (Ht rfl) rfl zo (by rw [Nat.mul_one,Nat.zero_add])) ?_))))))))))))
    refine dq 40 2 rfl (pD A_54 Z_54 (Ht rfl) (j:=0) rfl) (dp 5 rfl (cX (Ht rfl)) (dp 7 rfl (cX (Ht rfl)) (dp 9 rfl (cX (Ht rfl)) (cI 43 5 44 6 rfl (dZ U_54 Z_32 (Ht rfl) (Ht rfl) rfl (dY (dU (d:=Qi.zero) zo))) (dq 45 7 rfl (dJ A_32 Z_32 (Ht rfl)) (fV aO rfl (by kernel_rfl) (zF (zF (aJ (aV (ro rfl (eR U_54 Z_32 (Ht rfl) (Ht rfl) rfl (i:=1) rfl (by rw [List.length_map]; omega) rfl) ?_)))))))))))
    refine mX Z_32 (Ht rfl) (Ht rfl) (El.ag rfl) (i:=1) rfl rfl (by rw [List.length_map]; omega) rfl ?_
    refine eX (bD (lD 0 1 rfl rfl (by decide) (by simp only [dE,List.length_map]; omega) ?_))
    refine cY (ro rfl (dV (Ht rfl) (cJ 1) z6) (rm rfl (eX (dT [0] rfl (by decide) (fU (i + 1) hf2 zo (zS rfl) (aU (fE (by rw [lA,mH,Mv hf2 hd0])) aY))))))
   ·simp only [decide_eq_false_iff_not] at hf2
    obtain rfl:n = i:=Nat.le_antisymm zo hi
    refine gV rfl (bD (cY (ro rfl (dV (Ht rfl) (cJ 1) z6) (rm rfl (eX ?_)))))
    refine fU (k + 1) ⟨hd0, fun j h => by
     by_cases e:j = k
     ·rw [e]; exact he2
     ·exact h0 j zo⟩ zo (zS rfl) (aU (fE (by rw [Ql])) aY)
 ·simp only [decide_eq_false_iff_not] at hd0
  obtain rfl:n = k:=Nat.le_antisymm zo hk
  have hi:=Mu h0
  refine gJ (i:=0) (tt:=4) rfl rfl (yI (s:=5) (M:=qC M n n 0) (oJ M n n 0).1.symm) (gV rfl (ts (rm rfl (ra rfl (ro rfl (cQ (cJ 0)) (eX (bC rfl (fX (eU rfl) ?_) (fX (eU rfl) ?_))))))))
  ·exact (jQ (by rw [hi,Qm]; rfl))
  ·exact (aH hi.symm)
theorem a15 {M:List (List Qi)} {n L:Nat} (hM:iE M n n) (hf:eE M L) (hL:1 ≤ L) (h1:1 ≤ n) (hn:n ≤ 32) (hg:6 * nD L n + 4 ≤ 17592186044415) (hx:Gm (nD L n) (n + 1) ≤ 17592186044415):bA Tryz.prog 164 [fT M] (eT [fT (gD (Cq M n) (a0h M n)),aL .i64 (Cq M n)]):=Zl hM (fun i _=>SzS.old hM hf (a02 hL) hL hg hx) hn
theorem Zx {m:Bool} {a b:List (List Qi)} {n i j L M:Nat} (ha:iE a n n) (hb:iE b n n) (hfa:eE a L) (hfb:eE b M) (h1:1 ≤ L) (h2:1 ≤ M) (hg:L + M + 1 ≤ 17592186044415) (hi:i < n) (hj:j < n):bA Tryz.prog 263 [NT .i64 i,NT .i64 j,PT (aB m),PT (fT a),PT (fT b)] (aT (if m = true then gm a i j - gm b i j else gm a i j + gm b i j)):=by
 have hal:=ha.1
 have hbl:=hb.1
 have har:=ha.row hi
 have hbr:=hb.row hi
 haveI f1:aP (gm a i j) L:=hfa.get h1 i j
 haveI f2:aP (gm b i j) M:=hfb.get h2 i j
 refine bA.intro Tryz.func263 rfl Tryz.ntmps263 rfl (fun cx=>(ts (rn rfl (eW (Ts:=[Is (.bool false),Is (.slice none 0 0),Is (.bool false),Is (.slice none 0 0),Is (.slice none 0 0)]) O_32 rfl (fun V=>aW zd (aW zd (aW zd (aW zd (aW zd (aG))))))) fun B7=>(eX (cK (ts (ro rfl (dJ A_4 Z_4 (Ht rfl)) (eX (dQ (Ht rfl) (fun hm=>?_) (fun hm=>?_))))))))))
 ·refine cK (fZ (m := 15) (dp 3 rfl (dJ A_78 Z_78 (Ht rfl)) (dp 0 rfl (cX (Ht rfl)) (cI 9 0 10 1 rfl (dZ U_78 Z_54 (Ht rfl) (Ht rfl) rfl (dY (dU (d := []) zo))) (dq 11 2 rfl (dJ A_54 Z_54 (Ht rfl)) (dp 1 rfl (cX (Ht rfl)) (cI 12 3 13 4 rfl (dZ U_54 Z_32 (Ht rfl) (Ht rfl) rfl (dY (dU (d := Qi.zero) zo))) (dq 14 5 rfl (dJ A_32 Z_32 (Ht rfl)) (dq 15 6 rfl (eD fF (Ht rfl)) (dp 4 rfl (dJ A_78 Z_78 (Ht rfl)) ?_))))))))))
  refine dp 0 rfl (cX (Ht rfl)) (cI 17 8 18 9 rfl (dZ U_78 Z_54 (Ht rfl) (Ht rfl) rfl (dY (dU (d:=[]) zo))) (dq 19 10 rfl (dJ A_54 Z_54 (Ht rfl)) (dp 1 rfl (cX (Ht rfl)) (cI 20 11 21 12 rfl (dZ U_54 Z_32 (Ht rfl) (Ht rfl) rfl (dY (dU (d:=Qi.zero) zo))) (dq 22 13 rfl (dJ A_32 Z_32 (Ht rfl)) (fV aO rfl (by kernel_rfl) (zF (zF (zF (aJ (aJ (aJ (aV ?_)))))))))))))
  refine ro rfl (dA mC K_32 (xV (x:=gm a i j) (y:=gm b i j) (L:=L) (M:=M) hg) (Ht rfl) ⟨(Ht rfl),trivial⟩) (gQ Z_32 (Ht rfl) (Ht rfl) rfl (i:=0) rfl (aK rfl) rfl rfl (eX (fW rfl (fX (fK A_32 Z_32 rfl (i:=0) rfl rfl) ?_))))
  exact (kB (by rw [if_pos hm]))
 ·refine cU (cK (fZ (m := 15) (dp 3 rfl (dJ A_78 Z_78 (Ht rfl)) (dp 0 rfl (cX (Ht rfl)) (cI 25 0 26 1 rfl (dZ U_78 Z_54 (Ht rfl) (Ht rfl) rfl (dY (dU (d := []) zo))) (dq 27 2 rfl (dJ A_54 Z_54 (Ht rfl)) (dp 1 rfl (cX (Ht rfl)) (cI 28 3 29 4 rfl (dZ U_54 Z_32 (Ht rfl) (Ht rfl) rfl (dY (dU (d := Qi.zero) zo))) (dq 30 5 rfl (dJ A_32 Z_32 (Ht rfl)) (dq 31 6 rfl (eD fF (Ht rfl)) (dp 4 rfl (dJ A_78 Z_78 (Ht rfl)) ?_)))))))))))
  refine dp 0 rfl (cX (Ht rfl)) (cI 33 8 34 9 rfl (dZ U_78 Z_54 (Ht rfl) (Ht rfl) rfl (dY (dU (d:=[]) zo))) (dq 35 10 rfl (dJ A_54 Z_54 (Ht rfl)) (dp 1 rfl (cX (Ht rfl)) (cI 36 11 37 12 rfl (dZ U_54 Z_32 (Ht rfl) (Ht rfl) rfl (dY (dU (d:=Qi.zero) zo))) (dq 38 13 rfl (dJ A_32 Z_32 (Ht rfl)) (fV aO rfl (by kernel_rfl) (zF (zF (zF (aJ (aJ (aJ (aV ?_)))))))))))))
  refine ro rfl (dA qE Tryz.call33 (Jh (x:=gm a i j) (y:=gm b i j) (L:=L) (M:=M) hg) (Ht rfl) ⟨(Ht rfl),trivial⟩) (gQ Z_32 (Ht rfl) (Ht rfl) rfl (i:=0) rfl (aK rfl) rfl rfl (eX (fW rfl (fX (fK A_32 Z_32 rfl (i:=0) rfl rfl) ?_))))
  exact (kB (by rw [if_neg (by rw [hm]; decide)]))
theorem Ye {m:Bool} {a b:List (List Qi)} {n L M:Nat} (ha:iE a n n) (hb:iE b n n) (hfa:eE a L) (hfb:eE b M) (h1:1 ≤ L) (h2:1 ≤ M) (hg:L + M + 1 ≤ 17592186044415) (hn:n ≤ 1000):bA Tryz.prog 217 [fT a,fT b,aB m] (fT (pmM m a b n)):=by
 have hal:=ha.1
 refine bA.intro Tryz.func217 rfl Tryz.ntmps217 rfl (fun cx=>(ts (rn rfl (qH (Ht rfl)) fun B3=>(rn rfl (qH (Ht rfl)) fun B4=>(rn rfl (qH (Ht rfl)) fun B5=>(ro rfl (cQ cV) (eX (cK (gJ (i:=0) (tt:=3) rfl rfl oH (gJ (i:=1) (tt:=4) rfl rfl oH (gJ (i:=2) (tt:=5) rfl rfl oH (cY (ro rfl (dJ A_78 Z_78 (Ht rfl)) (ro rfl (dG U_78 (Ht rfl) (by rw [List.length_map,hal])) ?_))))))))))))))
 refine ro rfl (tE (γ:=Fin n × Fin n) (Ts:=fun x=>[NT .i64 x.1.1,NT .i64 x.2.1]) (U:=fun x=>aT (if m = true then gm a x.1.1 x.2.1 - gm b x.1.1 x.2.1 else gm a x.1.1 x.2.1 + gm b x.1.1 x.2.1)) Tryz.call263 (fun x=>Zx ha hb hfa hfb h1 h2 hg x.1.2 x.2.2) ⟨(Ht rfl),(Ht rfl),(Ht rfl),trivial⟩) (ro rfl (cZ Tryz.call144 (Hi (n:=n) (f:=fun i j=>if m = true then gm a i j - gm b i j else gm a i j + gm b i j) hn) ⟨(Ht rfl),(Ht rfl),trivial⟩) (ra rfl (eX ?_)))
 exact fW rfl (eU rfl)
theorem Ui {Y M:List (List Qi)} {n L:Nat} (hM:iE M n n) (hf:eE M L) (hL:1 ≤ L) (h1:1 ≤ n) (hn:n ≤ 32) (hg:6 * nD L n + 4 ≤ 17592186044415) (hx:Gm (nD L n) (n + 1) ≤ 17592186044415) (hE:Cq M n ≠ 0):bA Tryz.prog 216 [fT Y,fT M] (eT [fT [],aL .i64 5]):=by
 refine bA.intro Tryz.func216 rfl Tryz.ntmps216 rfl (fun cx=>(ts (ro rfl (cQ cV) (ro rfl (cQ (cJ 0)) (eX (ts (rm rfl (ro rfl (cZ Tryz.call164 (a15 hM hf hL h1 hn hg hx) ⟨(Ht rfl),trivial⟩) (rm rfl (ro rfl (dK (Ht rfl) rfl) (ro rfl (dK (Ht rfl) rfl) (ra rfl (ra rfl (eX (cK (ts (rm rfl (ro rfl (jH (Ht rfl) cV) (eX (Bp (Ht rfl) (by simp [hE]) ?_))))))))))))))))))))
 refine ts (ro rfl (cQ cV) (ro rfl (cQ (cJ 5)) (eX (bC rfl (fX (eU rfl) ?_) (eU rfl)))))
 exact (fun v V h=>hJ v V h)
theorem Zk {z:List Qi} {s:List (List Qi)} {L:Nat} (hs:iE s z.length z.length) (hf:eE s L) (hL:1 ≤ L) (h1:1 ≤ z.length) (hn:z.length ≤ 8) (hg:6 * nD (L + 2) z.length + 4 ≤ 17592186044415) (hx:Gm (nD (L + 2) z.length) (z.length + 1) ≤ 17592186044415) (hE:Cq (pmM true (Nw z.length) s z.length) z.length ≠ 0):bA Tryz.prog 131 [gE z s] (eT [fT [],aL .i64 5]):=by
 have hgl:=sY (L + 2) z.length
 have hid:=sZ z.length
 have hif:eE (Nw z.length) 1:=Kg (Nat.le_refl 1)
 have hpf:eE (pmM true (Nw z.length) s z.length) (L + 2):=by have h:=Wl (m:=true) (n:=z.length) hif hf (Nat.le_refl 1) hL; rw [show L + 2 = 1 + L + 1 by omega]; exact h
 refine bA.intro Tryz.func131 rfl Tryz.ntmps131 rfl (fun cx=>(ts (rn rfl (fG (Ht rfl)) fun B1=>(ro rfl (cQ cV) (ro rfl (cQ (cJ 0)) (eX (ts (ro rfl (eZ jU (Ht rfl) rfl) (ro rfl (eY A_54 Z_54 (Ht rfl) (i:=0) rfl rfl) (ro rfl (dG U_54 (Ht rfl) aA) (ro rfl (cZ Tryz.call215 (a13 (n:=z.length) zo) ⟨(Ht rfl),trivial⟩) (ra rfl (eX (cK (fZ (m:=13) (dp 4 rfl (cX (Ht rfl)) (dp 1 rfl (eZ kJ (Ht rfl) rfl) (dq 13 1 rfl (eY A_78 Z_78 (Ht rfl) (i:=0) rfl rfl) ?_))))))))))))))))))
 refine cI 12 0 14 2 rfl (cZ Tryz.call217 (Ye (m:=false) (n:=z.length) (L:=1) (M:=L) hid hs hif hf (Nat.le_refl 1) hL zo zo) ⟨(Ht rfl),(Ht rfl),cV,trivial⟩) (dp 4 rfl (cX (Ht rfl)) (dp 1 rfl (eZ kJ (Ht rfl) rfl) (dq 17 5 rfl (eY A_78 Z_78 (Ht rfl) (i:=0) rfl rfl) (cI 16 4 18 6 rfl (cZ Tryz.call217 (Ye (m:=true) (n:=z.length) (L:=1) (M:=L) hid hs hif hf (Nat.le_refl 1) hL zo zo) ⟨(Ht rfl),(Ht rfl),cV,trivial⟩) (cI 15 3 19 7 rfl (cZ Tryz.call216 (Ui (n:=z.length) (L:=L + 2) Wm hpf zo h1 zo hg hx hE) ⟨(Ht rfl),(Ht rfl),trivial⟩) ?_)))))
 refine dq 20 8 rfl (cX (Ht rfl)) (dq 11 9 rfl (dK (Ht rfl) rfl) (dq 11 9 rfl (dK (Ht rfl) rfl) (dq 21 10 rfl (cQ (Ht rfl)) (fV aO rfl (by kernel_rfl) (zF (zF (zF (aJ (aV (ra rfl (eX (cK (ts (rm rfl (ro rfl (jH (Ht rfl) cV) (eX (Bp (Ht rfl) (by rfl) ?_)))))))))))))))))
 refine ts (rm rfl (ro rfl (cQ cV) (ra rfl (eX (bC rfl (fX (eU rfl) ?_) (eU rfl))))))
 exact (fun v V h=>hJ v V h)
end
section
open Go Go.RowKit
theorem a0f:Tryz.prog.info? 3 = some Tryz.t3:=by kernel_rfl
theorem Xh:Tryz.prog.underlying 283 = some (.slice 3):=by kernel_rfl
end
section
open Go Go.RowKit
theorem Gz {l:List Int} {v:Int} (hl:l.length ≤ 1000000):bA Tryz.prog 287 [iS 1 (l.map (aL .i64)),aL .i64 v] (aL .i64 (zZ (fun x=>decide (v = x)) l)):=by
 refine bA.intro Tryz.func287 rfl Tryz.ntmps287 rfl (fun cx=>(ts (ro rfl (cQ (cJ 0)) (eX (cK (ts (rm rfl (ro rfl (dG U_283 (Ht rfl) aA) (ro rfl (cX (cJ 0)) (eX (eG ?_)))))))))))
 refine cL (fun (k : Nat) => k ≤ l.length ∧ ∀ (i : Nat) (x : Int), i < k → l[i]? = some x → decide (v = x) = false) (fun (k : Nat) => l.length - k) (fun (k : Nat) => [(0, iS 1 (l.map (aL .i64))), (1, aL .i64 v), (7, NT .i64 l.length), (8, NT .i64 k)]) (fun (k : Nat) => []) 0 ⟨Nat.zero_le _, fun i x h => by omega⟩
  (zS rfl) aY (fun k ⟨hk,hn⟩=>?_)
 refine ts (ro rfl (gX (Ht rfl) (Ht rfl)) (eX (cK (dQ (Ht rfl) (fun hb=>?_) (fun hb=>?_)))))
 ·simp only [decide_eq_true_eq] at hb
  refine cU (cK (eG (ts (rm rfl (ra rfl (eX (ts (rm rfl (rm rfl (rm rfl (ro rfl (dZ U_283 Z_3 (Ht rfl) (Ht rfl) rfl (dY (pL hb))) (ro rfl (dJ A_3 Z_3 (Ht rfl)) (ro rfl (iB (Ht rfl) (Ht rfl)) (eX (dQ (Ht rfl) (fun hc=>?_) (fun hc=>?_))))))))))))))))
  ·refine ts (rm rfl (ra rfl (eX (fW rfl (fX (eU rfl) ?_)))))
   exact (aH (Co (p:=fun x=>decide (v = x)) (pL hb) hc hn).symm)
  ·refine cU (bD (cY (ro rfl (dV (Ht rfl) (cJ 1) z6) (rm rfl (eX ?_)))))
   refine fU (k + 1) ⟨hb, fun i x h1 h2 => by
    by_cases e:i = k
    ·subst e; rw [pL hb] at h2; obtain rfl:=Option.some.inj h2; exact hc
    ·exact hn i x zo h2⟩ zo (zS rfl) aY
 ·simp only [decide_eq_false_iff_not] at hb
  refine gV rfl (ts (ro rfl (cQ cV) (eX (fW rfl (fX (eU rfl) ?_)))))
  exact (aH (uD (p:=fun x=>decide (v = x)) (fun i x h=>hn i x (by have:=(List.getElem?_eq_some_iff.1 h).1; omega) h)).symm)
theorem zV {l:List Int} {v:Int} (hl:l.length ≤ 1000000):bA Tryz.prog 257 [iS 1 (l.map (aL .i64)),aL .i64 v] (aB (l.any fun x=>decide (v = x))):=by
 refine bA.intro Tryz.func257 rfl Tryz.ntmps257 rfl (fun cx=>(ts (ro rfl (cQ cV) (eX (ts (rm rfl (rm rfl (ro rfl (cZ Tryz.call287 (Gz zo) ⟨(Ht rfl),(Ht rfl),trivial⟩) (ro rfl (jP (Ht rfl) cV) (ra rfl (eX (fW rfl (fX (eU rfl) ?_)))))))))))))
 exact (dI (yM _ l))
theorem Ug {z:List Qi} {s:List (List Qi)} {G:List Nat} (hl:z.length ≤ 1000) (hG:G.length ≤ 1000):bA Tryz.prog 210 [gE z s,iS 1 ((gnI G).map (aL .i64))] (pJ ((uE G z.length).map Nat.succ)):=by
 refine bA.intro Tryz.func210 rfl Tryz.ntmps210 rfl (fun cx=>(ts (rn rfl (fG (Ht rfl)) fun B2=>(ro rfl (cQ cV) (eX (ts (ro rfl (cQ cV) (eX (cK (ts (ro rfl (cQ (cJ 1)) (eX (eG (xP 3 1 ?_))))))))))))))
 refine fN (fun (i : Nat) (v : Value) => i ≤ z.length) (fun (i : Nat) (v : Value) => z.length - i) (fun (i : Nat) (v : Value) => [(1, iS 1 ((gnI G).map (aL .i64))), (2, bR B2 0), (5, Is v), (6, NT .i64 (i + 1))]) (fun (i : Nat) (v : Value) => [box B2 80 [dB z, fT s], bF 3 1 v (((uE G i).map Nat.succ).map (NT .i64))]) 0 (.slice none 0 0) (Nat.zero_le _)
  (zS rfl) (aU (aC rfl) (aU (bN rfl) aY)) (fun i v hi=>?_)
 refine cK (ts (rm rfl (ro rfl (eZ jU (Ht rfl) rfl) (ro rfl (eY A_54 Z_54 (Ht rfl) (i:=0) rfl rfl) (ro rfl (dG U_54 (Ht rfl) aA) (ro rfl (wV (Ht rfl) (Ht rfl)) (eX (dQ (Ht rfl) (fun hd=>?_) (fun hd=>?_)))))))))
 ·simp only [decide_eq_true_eq] at hd
  have hcl:=Kl G i
  refine cU (cK (eG (iJ (fun (v2:Value)=>True) (fun (v2:Value)=>[(1,iS 1 ((gnI G).map (aL .i64))),(2,bR B2 0),(5,Is v2),(6,NT .i64 (i + 1))]) (fun (v2:Value)=>[box B2 80 [dB z,fT s],bF 3 1 v2 (((uE G (i + 1)).map Nat.succ).map (NT .i64))]) ?_ (fun v2 _=>?_))))
  ·refine ts (rm rfl (rm rfl (ro rfl (cZ Tryz.call257 (zV (l := gnI G) (v := ((i + 1 : Nat) : Int)) (by rw [List.length_map]; omega)) ⟨(Ht rfl), (Ht rfl), trivial⟩) ?_)))
   refine ro rfl (fB (Ht rfl)) (eX (dQ (Ht rfl) (fun he=>?_) (fun he=>?_)))
   ·rw [Qh] at he
    have he2:i ∉ G:=by simpa using he
    have hnx:uE G (i + 1) = uE G i ++ [i]:=by rw [uE,if_neg he2]
    refine cY (rm rfl (rm rfl (ro rfl (dH (xs:=[.tmp 19]) U_283 Z_3 Tryz.zeroValue3 (cW (Ht rfl) cG) rfl rfl rfl) (xK (inf:=Tryz.t3) Xh a0f rfl rfl rfl (Ht rfl) (Ht rfl) (i:=1) rfl (by simp) (fun T hT=>by simp at hT; subst hT; exact El.one) (by show _ * 8 ≤ _; simp only [List.length_map,List.length_cons,List.length_nil]; omega) (by simp only [List.length_map,List.length_cons,List.length_nil]; omega) rfl (fun v3=>?_)))))
    refine ra rfl (eX (aN v3 trivial (zS rfl) (aU (aC rfl) (aU (bN (by rw [hnx,List.map_append,List.map_append]; rfl)) aY))))
   ·rw [Qh] at he
    have he2:i ∈ G:=by simpa using he
    have hnx:uE G (i + 1) = uE G i:=by rw [uE,if_pos he2,List.append_nil]
    refine cU (aN v trivial (zS rfl) (aU (aC rfl) (aU (bN (by rw [hnx])) aY)))
  ·refine bD (cY (rm rfl (ro rfl (dV (Ht rfl) (cJ 1) z6) (ra rfl (eX (fU (i + 1,v2) hd (by dsimp only; omega) (zS rfl) (bP.refl _)))))))
 ·simp only [decide_eq_false_iff_not] at hd
  obtain rfl:z.length = i:=Nat.le_antisymm zo hi
  refine gV rfl (gJ (i:=1) (tt:=5) rfl rfl iN (ts (rm rfl (ra rfl (eX ?_)))))
  exact fW rfl (eU rfl)
theorem Zr {z:List Qi} {s:List (List Qi)} {p:Nat} (hp:p < z.length) (hl:z.length ≤ 1000):bA Tryz.prog 210 [gE z s,iS 1 [aL .i64 ((p:Int) + 1)]] (pJ (yO p (z.length - 1))):=by
 rw [← Vl hp]; exact Ug (G:=[p]) hl (by simp)
theorem Uj {z:List Qi} {s:List (List Qi)} {Q:List Nat} {m:Nat} (hs:iE s z.length z.length) (hQ:∀ x,x ∈ Q → x < z.length) (hm:Q.length = m) (hm2:m ≤ 1000) (hl:z.length ≤ 1000) {i j:Nat} (hi:i < m) (hj:j < m):bA Tryz.prog 258 [NT .i64 i,NT .i64 j,PT (gE z s),PT (pJ (Q.map Nat.succ))] (aT (gm s (rX Q i) (rX Q j))):=by
 have hki:rX Q i < z.length:=If hQ zo
 have hkj:rX Q j < z.length:=If hQ zo
 have hsl:=hs.1
 have hsr:=hs.row hki
 refine bA.intro Tryz.func258 rfl Tryz.ntmps258 rfl (fun cx=>(ts (rn rfl (eW (Ts:=[Is (.bool false),Is (.slice none 0 0),Is (.bool false),Is (.slice none 0 0),Is (.slice none 0 0)]) O_32 rfl (fun V=>aW zd (aW zd (aW zd (aW zd (aW zd (aG))))))) fun B6=>(eX (cK (fZ (m:=14) (dp 2 rfl (gB kJ (Ht rfl) rfl) (dq 7 0 rfl (dJ A_78 Z_78 (Ht rfl)) (dp 3 rfl (dJ A_283 Z_283 (Ht rfl)) (dp 0 rfl (cX (Ht rfl)) ?_))))))))))
 refine cI 9 2 10 3 rfl (dZ U_283 Z_3 (Ht rfl) (Ht rfl) rfl (dY (Df zo))) (dq 11 4 rfl (dJ A_3 Z_3 (Ht rfl)) (dq 12 5 rfl (aE.nat (dW (Ht rfl) (cJ 1) zo z6) (show rX Q i + 1 - 1 = rX Q i by omega)) (cI 8 1 13 6 rfl (dZ U_78 Z_54 (Ht rfl) (Ht rfl) rfl (dY (dU (d:=[]) zo))) (dq 14 7 rfl (dJ A_54 Z_54 (Ht rfl)) (dp 3 rfl (dJ A_283 Z_283 (Ht rfl)) ?_)))))
 refine dp 1 rfl (cX (Ht rfl)) (cI 16 9 17 10 rfl (dZ U_283 Z_3 (Ht rfl) (Ht rfl) rfl (dY (Df zo))) (dq 18 11 rfl (dJ A_3 Z_3 (Ht rfl)) (dq 19 12 rfl (aE.nat (dW (Ht rfl) (cJ 1) zo z6) (show rX Q j + 1 - 1 = rX Q j by omega)) (fV aO rfl (by kernel_rfl) (zF (zF (zF (aJ (aJ (aV (ro rfl (dZ U_54 Z_32 (Ht rfl) (Ht rfl) rfl (dY (dU (d:=Qi.zero) zo))) ?_)))))))))))
 refine ro rfl (dJ A_32 Z_32 (Ht rfl)) (gQ Z_32 (Ht rfl) (Ht rfl) rfl (i:=0) rfl (aK rfl) rfl rfl (eX ?_))
 exact fW rfl (fK A_32 Z_32 rfl (i:=0) rfl rfl)
theorem Uk {z:List Qi} {s:List (List Qi)} {Q:List Nat} {m:Nat} (hs:iE s z.length z.length) (hQ:∀ x,x ∈ Q → x < z.length) (hm:Q.length = m) (hm2:m ≤ 1000) (hl:z.length ≤ 1000):iM Tryz.prog 211 [gE z s,pJ (Q.map Nat.succ)] [] (Nat) (fun B=>dP [dB (Sk z Q),Is (.slice (some ⟨B,0,none⟩) m m)]) (fun B=>[pM B 54 32 5 (dE aT (Si s Q))]) (fun _=>True):=by
 have hll:(Q.map Nat.succ).length = m:=by rw [List.length_map]; exact hm
 refine iM.intro Tryz.func211 rfl Tryz.ntmps211 rfl (fun cx Z=>(ts (rn rfl (fG (Ht rfl)) fun B2=>(rn rfl (qH (Ht rfl)) fun B3=>(rn rfl (eW (Ts:=[Is (.slice none 0 0),Is (.slice none 0 0)]) O_80 rfl (fun V=>aW zd (aW zd (aG)))) fun B4=>(eX (cK (gJ (i:=1) (tt:=2) rfl rfl wM (gJ (i:=2) (tt:=3) rfl rfl oH (cY (ro rfl (dJ A_283 Z_283 (Ht rfl)) (ro rfl (dG U_283 (Ht rfl) (by rw [List.length_map,hll])) ?_))))))))))))
 refine rn rfl (iQ (T:=aT Qi.zero) (i:=Tryz.t32) qV nQ rfl rfl (Ht rfl) rfl lG (El.ag rfl) (by show 88 * _ ≤ _; omega) zo) fun B10=>ra rfl (eX (cK (ts (ro rfl (dJ A_283 Z_283 (Ht rfl)) (ro rfl (dG U_283 (Ht rfl) (by rw [List.length_map,hll])) ?_)))))
 refine ro rfl (cX (cJ 0)) (eX (eG (dT [0,3,4] rfl (by decide) ?_)))
 refine cL (fun (i : Nat) => i ≤ m) (fun (i : Nat) => m - i) (fun (i : Nat) => [(2, PT (gE z s)), (3, PT (pJ (Q.map Nat.succ))), (4, bR B4 0), (5, Is B10), (11, pJ (Q.map Nat.succ)), (12, NT .i64 m), (13, NT .i64 i)]) (fun (i : Nat) => [Z, box B4 80 [Is (.slice none 0 0), Is (.slice none 0 0)], bF 32 5 B10 ((mP (fun i => gv z (rX Q i)) Qi.zero m i).map aT)]) 0 (Nat.zero_le _)
  (zS rfl) (aU (fun _ _ _ h=>h) (aU (fun _ _ _ h=>h) (aU (bN (by rw [← kG]; exact Lu aT m)) aY))) (fun i hi=>?_)
 refine ts (ro rfl (gX (Ht rfl) (Ht rfl)) (eX (cK (dQ (Ht rfl) (fun hd=>?_) (fun hd=>?_)))))
 ·simp only [decide_eq_true_eq] at hd
  have hki:rX Q i < z.length:=If hQ zo
  refine cU (cK (eG (ts (rm rfl (ro rfl (dZ U_283 Z_3 (Ht rfl) (Ht rfl) rfl (dY (Df zo))) (ro rfl (dJ A_3 Z_3 (Ht rfl)) (ra rfl (ra rfl (eX (cY (rm rfl (rm rfl (ro rfl (gB jU (Ht rfl) rfl) (ro rfl (dJ A_54 Z_54 (Ht rfl)) (rm rfl (ro rfl (aE.nat (dW (Ht rfl) (cJ 1) zo z6) (show rX Q i + 1 - 1 = rX Q i by omega)) (ro rfl (dZ U_54 Z_32 (Ht rfl) (Ht rfl) rfl (dY (dU (d:=Qi.zero) hki))) ?_)))))))))))))))))
  refine ro rfl (dJ A_32 Z_32 (Ht rfl)) (ro rfl (eR U_54 Z_32 (Ht rfl) (Ht rfl) rfl (i:=2) rfl (by rw [List.length_map,eP]; omega) rfl) ?_)
  refine mX Z_32 (Ht rfl) (Ht rfl) (El.ag rfl) (i:=2) rfl rfl (by rw [List.length_map,eP]; omega) rfl ?_
  refine eX (bD (cY (ro rfl (dV (Ht rfl) (cJ 1) z6) (rm rfl (eX (fU (i + 1) hd zo (zS rfl) (aU (fun _ _ _ h=>h) (aU (fun _ _ _ h=>h) (aU (bN (by rw [lA,← lO (f:=(fun i=>gv z (rX Q i)))])) aY)))))))))
 ·simp only [decide_eq_false_iff_not] at hd
  obtain rfl:m = i:=Nat.le_antisymm zo hi
  rw [lN]
  refine gV rfl (gJ (i:=2) (tt:=5) rfl rfl iN ?_)
  rw [show Sk z Q = tab m fun i=>gv z (rX Q i) from by rw [Sk,hm],show Si s Q = tab m fun i=>tab m fun j=>gm s (rX Q i) (rX Q j) from by rw [Si,hm]]
  refine ts (rm rfl (ro rfl (dJ A_283 Z_283 (Ht rfl)) (ro rfl (dG U_283 (Ht rfl) (by rw [List.length_map,hll])) ?_)))
  refine ro rfl (tE (γ:=Fin m × Fin m) (Ts:=fun x=>[NT .i64 x.1.1,NT .i64 x.2.1]) (U:=fun x=>aT (gm s (rX Q x.1.1) (rX Q x.2.1))) Tryz.call258 (fun x=>Uj hs hQ hm hm2 hl x.1.2 x.2.2) ⟨(Ht rfl),(Ht rfl),trivial⟩) (sN Tryz.call144 (Jr (n:=m) (f:=fun i j=>gm s (rX Q i) (rX Q j)) zo) ⟨(Ht rfl),(Ht rfl),trivial⟩ rfl (fun B32 _=>(ro rfl (sD (Ht rfl) (Ht rfl)) (gQ Z_80 (Ht rfl) (Ht rfl) rfl (i:=1) rfl (aK rfl) rfl rfl (eX ?_)))))
  exact kX B32 trivial [0,3] ⟨⟨_,rfl,fun _ _ _ h=>h⟩,⟨_,rfl,fun _ _ _ h=>h⟩,trivial⟩ (by decide) (yX rfl (fK A_80 Z_80 rfl (i:=1) rfl rfl))
theorem Ul {z:List Qi} {s:List (List Qi)} {p m:Nat} (hs:iE s z.length z.length) (hp:p < z.length) (hm:m = z.length - 1) (hl:z.length ≤ 1000):iM Tryz.prog 211 [gE z s,pJ (yO p m)] [] Nat (fun B=>dP [dB (Nf z p m),Is (.slice (some ⟨B,0,none⟩) m m)]) (fun B=>[pM B 54 32 5 (dE aT (a1s s p m))]) (fun _=>True):=by
 have h:=Uk (Q:=tab m (nH p)) hs (Xc hp hm) (bH _ _) zo hl
 rw [Sl,Sj,Vm] at h
 exact h
theorem Ur {n:Int} (h1:-9223372036854775808 ≤ n) (h2:n ≤ 9223372036854775807):bA Tryz.prog 154 [aL .i64 n] (aT (Qi.ofInt n)):=by
 refine bA.intro Tryz.func154 rfl Tryz.ntmps154 rfl (fun cx=>(ts (rn rfl (eW (Ts:=[Is (.bool false),Is (.slice none 0 0),Is (.bool false),Is (.slice none 0 0),Is (.slice none 0 0)]) O_32 rfl (fun V=>aW zd (aW zd (aW zd (aW zd (aW zd (aG))))))) fun B2=>(eX (ts (rn rfl (eW (Ts:=[Is (.bool false),Is (.slice none 0 0),Is (.bool false),Is (.slice none 0 0),Is (.slice none 0 0)]) O_32 rfl (fun V=>aW zd (aW zd (aW zd (aW zd (aW zd (aG))))))) fun B3=>?_))))))
 refine eX (cK (fZ (m:=4) (dp 3 rfl (eJ A_32 Z_32 (Ht rfl) (i:=1) rfl rfl rfl) (dq 4 0 rfl (eD fF (Ht rfl)) (dp 0 rfl (cX (Ht rfl)) (dq 6 2 rfl (cZ Tryz.call36 (Jm (n:=n) h1 h2) ⟨(Ht rfl),trivial⟩) (fV aO rfl (by kernel_rfl) (zF (aV (ro rfl (dA oZ Tryz.call318 Oy (Ht rfl) ⟨(Ht rfl),trivial⟩) (gQ Z_32 (Ht rfl) (Ht rfl) rfl (i:=0) rfl (aK rfl) rfl rfl (eX ?_))))))))))))
 exact fW rfl (fK A_32 Z_32 rfl (i:=0) rfl rfl)
end
section
open Go Go.RowKit
theorem Zp {z:List Qi} {s:List (List Qi)} {port:Int} {g:Qi} {L:Nat} (hs:iE s z.length z.length) (hf:eE s L) (hg:aP g L) (hL:1 ≤ L) (hLb:L ≤ 1000000) (hl:z.length ≤ 1000):bA Tryz.prog 121 [gE z s,aL .i64 port,aT g] (eT [gE (zJ z s port g) (zI z s port g),aL .i64 (pN z s port g)]):=by
 haveI:=hg
 have hsl:=hs.1
 refine bA.intro Tryz.func121 rfl Tryz.ntmps121 rfl (fun cx=>(ts (rn rfl (fG (Ht rfl)) fun B3=>(rn rfl (fG (Ht rfl)) fun B5=>(rn rfl (eW (Ts:=[Is (.slice none 0 0),Is (.slice none 0 0)]) O_80 rfl (fun V=>aW zd (aW zd (aG)))) fun B6=>(ro rfl (cQ (cJ 0)) (eX (cK (eG (ts (ro rfl (eJ A_80 Z_80 (Ht rfl) (i:=0) rfl rfl rfl) (rm rfl (ro rfl (cZ Tryz.call209 Js ⟨(Ht rfl),(Ht rfl),trivial⟩) (ro rfl (fB (Ht rfl)) (ra rfl (eX (dQ (Ht rfl) (fun hb=>?_) (fun hb=>?_))))))))))))))))))
 ·have he : pN z s port g = 1 := a0K (by simpa only [Bool.not_eq_true', decide_eq_false_iff_not] using hb)
  refine ts (ro rfl (aE.imp (mL ) lP) (gQ Z_80 (Ht rfl) (Ht rfl) rfl (i:=2) rfl (aK rfl) rfl rfl (ro rfl (cQ (cJ 1)) (eX (bC rfl (fX (fK A_80 Z_80 rfl (i:=2) rfl rfl) ?_) (fX (eU rfl) ?_))))))
  ·exact (Dk he (by decide))
  ·exact (aH he.symm)
 ·have hb2 : 1 ≤ port ∧ port ≤ (z.length : Int) := by simpa using hb
  obtain ⟨p,rfl⟩:∃ p:Nat,port = (p:Int) + 1:=⟨(port - 1).toNat,by omega⟩
  have hp:p < z.length:=by omega
  refine ts (ro rfl (eZ jU (Ht rfl) rfl) (ro rfl (eY A_54 Z_54 (Ht rfl) (i:=0) rfl rfl) (ro rfl (dG U_54 (Ht rfl) aA) (ro rfl (bT (Ht rfl) (cJ 1)) (ra rfl (eX (dQ (Ht rfl) (fun hc=>?_) (fun hc=>?_))))))))
  ·have he : pN z s ((p : Int) + 1) g = 4 := a0L hb2 (by simpa using hc)
   refine ts (ro rfl (aE.imp (mL ) lP) (gQ Z_80 (Ht rfl) (Ht rfl) rfl (i:=2) rfl (aK rfl) rfl rfl (ro rfl (cQ (cJ 4)) (eX (bC rfl (fX (fK A_80 Z_80 rfl (i:=2) rfl rfl) ?_) (fX (eU rfl) ?_))))))
   ·exact (Dk he (by decide))
   ·exact (aH he.symm)
  ·have hn1 : ¬ z.length = 1 := by simpa using hc
   have htd:=a0M (s:=s) (g:=g) hp hn1
   obtain ⟨m,hm⟩:∃ m,m = z.length - 1:=⟨_,rfl⟩
   have hspl:=hs.row hp
   haveI f0:aP (Qi.ofInt 1) 1:=wL
   haveI f1:aP (gm s p p) L:=hf.get hL p p
   refine cU (bD (ts (rm rfl (ro rfl (gT (Ht rfl) cV (r:=((p:Nat):Int)) ((vT (z:=(p:Int) + 1 - 1) zo).trans zo)) ?_))))
   refine ra rfl (eX (cK (Y.D_start (m:=22) [] (bY (Ei:=[(5,_)]) rfl rfl (bQ (bJ rfl rfl) bX) rfl rfl (dX rfl (eJ A_32 Z_32 (Ht rfl) (i:=1) rfl rfl rfl)) (bY (Ei:=[(32,_)]) rfl rfl (bQ (bZ 0 rfl rfl) bX) rfl rfl (dX rfl (eD fF (Ht rfl))) (bY (Ei:=[]) rfl rfl bX rfl rfl (dX rfl (cZ Tryz.call154 (Ur (n:=1) (by decide) (by decide)) ⟨(cJ 1),trivial⟩)) (bY (Ei:=[(34,_)]) rfl rfl (bQ (bZ 2 rfl rfl) bX) rfl rfl (dX rfl (eD fF (Ht rfl))) ?_)))))))
   refine bY (Ei:=[(3,_)]) rfl rfl (bQ (bJ rfl rfl) bX) rfl rfl (dX rfl (eZ kJ (Ht rfl) rfl)) (bY (Ei:=[(36,_)]) rfl rfl (bQ (bZ 4 rfl rfl) bX) rfl rfl (dX rfl (eY A_78 Z_78 (Ht rfl) (i:=0) rfl rfl)) (bY (Ei:=[(8,_)]) rfl rfl (bQ (bJ rfl rfl) bX) rfl rfl (dX rfl (cX (Ht rfl))) (bY (Ei:=[(37,_),(38,_)]) rfl rfl (bQ (bZ 5 rfl rfl) (bQ (bZ 6 rfl rfl) bX)) rfl rfl (dX rfl (dZ U_78 Z_54 (Ht rfl) (Ht rfl) rfl (dY (dU (d:=[]) zo)))) ?_)))
   refine bY (Ei:=[(39,_)]) rfl rfl (bQ (bZ 7 rfl rfl) bX) rfl rfl (dX rfl (dJ A_54 Z_54 (Ht rfl))) (bY (Ei:=[(8,_)]) rfl rfl (bQ (bJ rfl rfl) bX) rfl rfl (dX rfl (cX (Ht rfl))) (bY (Ei:=[(40,_),(41,_)]) rfl rfl (bQ (bZ 8 rfl rfl) (bQ (bZ 9 rfl rfl) bX)) rfl rfl (dX rfl (dZ U_54 Z_32 (Ht rfl) (Ht rfl) rfl (dY (dU (d:=Qi.zero) zo)))) (bY (Ei:=[(42,_)]) rfl rfl (bQ (bZ 10 rfl rfl) bX) rfl rfl (dX rfl (dJ A_32 Z_32 (Ht rfl))) ?_)))
   refine bY (Ei:=[(43,_)]) rfl rfl (bQ (bZ 11 rfl rfl) bX) rfl rfl (dX rfl (eD fF (Ht rfl))) (bY (Ei:=[(5,_)]) rfl rfl (bQ (bJ rfl rfl) bX) rfl rfl (dX rfl (eJ A_32 Z_32 (Ht rfl) (i:=1) rfl rfl rfl)) (bY (Ei:=[(44,_),(45,_)]) rfl rfl (bQ (bZ 12 rfl rfl) (bQ (bZ 13 rfl rfl) bX)) rfl rfl (dX rfl (dA kQ K_29 (xU (x:=gm s p p) (y:=g) (L:=L) (M:=L) zo) (Ht rfl) ⟨(Ht rfl),trivial⟩)) (bY (Ei:=[(35,_),(46,_)]) rfl rfl (bQ (bZ 3 rfl rfl) (bQ (bZ 14 rfl rfl) bX)) rfl rfl (dX rfl (dA mC K_32 (xV (x:=Qi.ofInt 1) (y:=gm s p p * g) (L:=1) (M:=L + L + 1) (hx:=f0) zo) (Ht rfl) ⟨(Ht rfl),trivial⟩)) ?_)))
   refine bY (Ei:=[(33,_),(47,_)]) rfl rfl (bQ (bZ 1 rfl rfl) (bQ (bZ 15 rfl rfl) bX)) rfl rfl (dX rfl (dA qF Tryz.call142 (Jl (x:=g) (y:=Qi.ofInt 1 - gm s p p * g) (L:=L) (M:=1 + (L + L + 1) + 1) (hy:=@fitSub _ _ _ _ f0 inferInstance) zo) (Ht rfl) ⟨(Ht rfl),trivial⟩)) (bY (Ei:=[(48,_)]) rfl rfl (bQ (bZ 16 rfl rfl) bX) rfl rfl (dX rfl (cX (Ht rfl))) (bY (Ei:=[(31,_)]) rfl rfl (bQ (bZ 17 rfl rfl) bX) rfl rfl (dX rfl (dK (Ht rfl) rfl)) ?_))
   refine bY (Ei:=[(31,_)]) rfl rfl (bQ (bZ 17 rfl rfl) bX) rfl rfl (dX rfl (dK (Ht rfl) rfl)) (Y.D_newp (Ei:=[]) (fun bb=>box bb 32 [aB (decide ((kW s p g).a < 0)),aD (kW s p g).a.natAbs,aB (decide ((kW s p g).b < 0)),aD (kW s p g).b.natAbs,aD (du (kW s p g))]) 21 rfl rfl rfl bX rfl rfl (by kernel_rfl) (eW (Ts:=[Is (.bool false),Is (.slice none 0 0),Is (.bool false),Is (.slice none 0 0),Is (.slice none 0 0)]) O_32 rfl (fun V=>aW zd (aW zd (aW zd (aW zd (aW zd (aG))))))) ?_)
   refine Y.D_putN (Ei:=[(49,_)]) 20 rfl rfl rfl rfl rfl rfl (bQ (bZ 18 rfl rfl) bX) (fun bb=>mK Z_32 (Ht rfl) (Ht rfl) rfl (i:=0) rfl (aK rfl) rfl rfl) (Y.D_done aO rfl (by kernel_rfl) rfl (by simp [Y.okP]) rfl rfl (bU (bU (bU (bU (bU (bU (bU (bU (bU (bU (bU (bU (bU (bU (bU (bU (bU (bU (bU (bU (Y.F_newp (fun B9=>Y.F_putN (Y.F_nil ?_))))))))))))))))))))))))
   refine ra rfl (eX (cK (ts (rm rfl (ro rfl (jH (Ht rfl) cV) (eX (dQ (Ht rfl) (fun he=>?_) (fun he=>?_))))))))
   ·have hz : Qi.ofInt 1 - gm s p p * g = Qi.zero := by simp at he; exact he
    have he:pN z s ((p:Int) + 1) g = 6:=by rw [htd,if_pos hz]
    refine ts (ro rfl (aE.imp (mL ) lP) (gQ Z_80 (Ht rfl) (Ht rfl) rfl (i:=2) rfl (aK rfl) rfl rfl (ro rfl (cQ (cJ 6)) (eX (bC rfl (fX (fK A_80 Z_80 rfl (i:=2) rfl rfl) ?_) (fX (eU rfl) ?_))))))
    ·exact (Dk he (by decide))
    ·exact (aH he.symm)
   ·have hz : Qi.ofInt 1 - gm s p p * g ≠ Qi.zero := by simp at he; exact he
    have he:pN z s ((p:Int) + 1) g = 0:=by rw [htd,if_neg hz]
    haveI ff:aP (kW s p g) (7 * L + 11):=Sw hf hg hL hz
    have hll:(yO p m).length = m:=bH _ _
    refine cU (ts (ro rfl (eJ A_80 Z_80 (Ht rfl) (i:=0) rfl rfl rfl) (rm rfl (ro rfl (dH (xs:=[.tmp 55]) U_283 Z_3 Tryz.zeroValue3 (cW (Ht rfl) cG) rfl rfl rfl) (ro rfl (cZ Tryz.call210 (eQ (Zr (z:=z) (s:=s) (p:=p) hp hl) (jQ (by rw [← hm]))) ⟨(Ht rfl),(Ht rfl),trivial⟩) ?_)))))
    refine ra rfl (eX (ts (ro rfl (eJ A_80 Z_80 (Ht rfl) (i:=0) rfl rfl rfl) (rm rfl (sN Tryz.call211 (Ul (p:=p) (m:=m) hs hp hm hl) ⟨(Ht rfl),(Ht rfl),trivial⟩ rfl (fun B60 _=>(rn rfl (eW (Ts:=[Is (.slice none 0 0),Is (.slice none 0 0)]) O_80 rfl (fun V=>aW zd (aW zd (aG)))) fun B12=>(gQ Z_80 (Ht rfl) (Ht rfl) rfl (i:=5) rfl (aK rfl) rfl rfl (eX (cK (ts (rm rfl (ro rfl (dG U_283 (Ht rfl) (by rw [List.length_map,hll])) ?_)))))))))))))
    refine ro rfl (cX (cJ 0)) (eX (eG (dT [0,2,3,4,5] rfl (by decide) ?_)))
    refine cL (fun (i : Nat) => i ≤ m) (fun (i : Nat) => m - i) (fun (i : Nat) => [(3, bR B3 0), (6, bR B6 0), (8, NT .i64 p), (9, bR B9 0), (11, pJ (yO p m)), (12, bR B12 0), (61, pJ (yO p m)), (62, NT .i64 m), (63, NT .i64 i)]) (fun (i : Nat) => [box B3 80 [dB z, fT s], box B6 80 [Is (.slice none 0 0), Is (.slice none 0 0)], box B9 32 [aB (decide ((kW s p g).a < 0)), aD (kW s p g).a.natAbs, aB (decide ((kW s p g).b < 0)), aD (kW s p g).b.natAbs, aD (du (kW s p g))], pM B60 54 32 5 (dE aT (tC (fun i => tab m fun j => In s p (kW s p g) i j) (fun i => tab m fun j => gm s (nH p i) (nH p j)) m i)), box B12 80 [dB (Nf z p m), Is (.slice (some ⟨B60, 0, none⟩) m m)]]) 0 (Nat.zero_le _)
     (zS rfl) (aU (fun _ _ _ h=>h) (aU (fun _ _ _ h=>h) (aU (aC rfl) (aU (fE (by rw [← Ba]; rfl)) (aU (aC rfl) aY))))) (fun i hi=>?_)
    refine ts (ro rfl (gX (Ht rfl) (Ht rfl)) (eX (cK (dQ (Ht rfl) (fun hd=>?_) (fun hd=>?_)))))
    ·simp only [decide_eq_true_eq] at hd
     have hki:nH p i < z.length:=Ik zo hp
     have hsr:=hs.row hki
     refine qX 3 (i) rfl (Mp hd) (fun v=>(cU (cK (eG (ts (rm rfl (ro rfl (dZ U_283 Z_3 (Ht rfl) (Ht rfl) rfl (dY (Kn hd))) (ro rfl (dJ A_3 Z_3 (Ht rfl)) (ra rfl (ra rfl (eX (ts (rm rfl (ro rfl (dG U_283 (Ht rfl) (by rw [List.length_map,hll])) ?_))))))))))))))
     refine ro rfl (cX (cJ 0)) (eX (eG ?_))
     refine cL (fun (j : Nat) => j ≤ m) (fun (j : Nat) => m - j) (fun (j : Nat) => [(3, bR B3 0), (6, bR B6 0), (8, NT .i64 p), (9, bR B9 0), (11, pJ (yO p m)), (12, bR B12 0), (13, NT .i64 i), (14, NT .i64 (nH p i + 1)), (61, pJ (yO p m)), (62, NT .i64 m), (63, NT .i64 i), (68, pJ (yO p m)), (69, NT .i64 m), (70, NT .i64 j)]) (fun (j : Nat) => [box B3 80 [dB z, fT s], box B6 80 [Is (.slice none 0 0), Is (.slice none 0 0)], box B9 32 [aB (decide ((kW s p g).a < 0)), aD (kW s p g).a.natAbs, aB (decide ((kW s p g).b < 0)), aD (kW s p g).b.natAbs, aD (du (kW s p g))], Vp B60 54 32 5 (dE aT (tC (fun i => tab m fun j => In s p (kW s p g) i j) (fun i => tab m fun j => gm s (nH p i) (nH p j)) m i)) i v, box B12 80 [dB (Nf z p m), Is (.slice (some ⟨B60, 0, none⟩) m m)], bF 32 5 v ((tC (fun j => In s p (kW s p g) i j) (fun j => gm s (nH p i) (nH p j)) m j).map aT)]) 0 (Nat.zero_le _)
      (zS rfl) (aU (fun _ _ _ h=>h) (aU (fun _ _ _ h=>h) (aU (fun _ _ _ h=>h) (aU (fun _ _ _ h=>h) (aU (fun _ _ _ h=>h) (aU (bN (by rw [← Ba])) aY)))))) (fun j hj=>?_)
     refine ts (ro rfl (gX (Ht rfl) (Ht rfl)) (eX (cK (dQ (Ht rfl) (fun hf2=>?_) (fun hf2=>?_)))))
     ·simp only [decide_eq_true_eq] at hf2
      have hkj:nH p j < z.length:=Ik zo hp
      have hrl:=qG (fun j=>In s p (kW s p g) i j) (fun j=>gm s (nH p i) (nH p j)) m j
      haveI g1:aP (gm s (nH p i) (nH p j)) L:=hf.get hL _ _
      haveI g2:aP (gm s (nH p i) p) L:=hf.get hL _ _
      haveI g3:aP (gm s p (nH p j)) L:=hf.get hL _ _
      refine cU (cK (eG (ts (rm rfl (ro rfl (dZ U_283 Z_3 (Ht rfl) (Ht rfl) rfl (dY (Kn hf2))) (ro rfl (dJ A_3 Z_3 (Ht rfl)) (ra rfl (ra rfl (eX (fZ (m:=39) (dp 12 rfl (eZ kJ (Ht rfl) rfl) (dq 75 0 rfl (eY A_78 Z_78 (Ht rfl) (i:=4) rfl rfl) (dp 13 rfl (cX (Ht rfl)) (cI 76 1 77 2 rfl (fY U_78 Z_54 (Ht rfl) (Ht rfl) rfl zo (by rw [Nat.mul_one,Nat.zero_add])) ?_))))))))))))))
      refine dq 78 3 rfl (pD A_54 Z_54 (Ht rfl) (j:=3) rfl) (dp 15 rfl (cX (Ht rfl)) (dp 12 rfl (eZ kJ (Ht rfl) rfl) (dq 81 6 rfl (eY A_78 Z_78 (Ht rfl) (i:=4) rfl rfl) (dp 13 rfl (cX (Ht rfl)) (cI 82 7 83 8 rfl (fY U_78 Z_54 (Ht rfl) (Ht rfl) rfl zo (by rw [Nat.mul_one,Nat.zero_add])) ?_)))))
      refine dq 84 9 rfl (pD A_54 Z_54 (Ht rfl) (j:=3) rfl) (dp 15 rfl (cX (Ht rfl)) (cI 85 10 86 11 rfl (eR U_54 Z_32 (Ht rfl) (Ht rfl) rfl (i:=5) rfl (by simp only [List.length_map,hrl]; omega) rfl) ?_))
      refine dq 87 12 rfl (uV A_32 Z_32 (Ht rfl) (i:=5) rfl rfl (dY (Fi hf2))) (dq 88 13 rfl (eD fF (Ht rfl)) (dp 3 rfl (eZ kJ (Ht rfl) rfl) (dq 90 15 rfl (eY A_78 Z_78 (Ht rfl) (i:=0) rfl rfl) (dp 14 rfl (cX (Ht rfl)) (dq 92 17 rfl (aE.nat (dW (Ht rfl) (cJ 1) zo z6) (show nH p i + 1 - 1 = nH p i by omega)) (cI 91 16 93 18 rfl (dZ U_78 Z_54 (Ht rfl) (Ht rfl) rfl (dY (dU (d:=[]) zo))) ?_))))))
      refine dq 94 19 rfl (dJ A_54 Z_54 (Ht rfl)) (dp 8 rfl (cX (Ht rfl)) (cI 95 20 96 21 rfl (dZ U_54 Z_32 (Ht rfl) (Ht rfl) rfl (dY (dU (d:=Qi.zero) zo))) (dq 97 22 rfl (dJ A_32 Z_32 (Ht rfl)) (dq 98 23 rfl (eD fF (Ht rfl)) (dp 9 rfl (eJ A_32 Z_32 (Ht rfl) (i:=2) rfl rfl rfl) (dq 100 25 rfl (eD fF (Ht rfl)) (dp 3 rfl (eZ kJ (Ht rfl) rfl) (dq 102 27 rfl (eY A_78 Z_78 (Ht rfl) (i:=0) rfl rfl) (dp 8 rfl (cX (Ht rfl)) ?_)))))))))
      refine cI 103 28 104 29 rfl (dZ U_78 Z_54 (Ht rfl) (Ht rfl) rfl (dY (dU (d:=[]) zo))) (dq 105 30 rfl (dJ A_54 Z_54 (Ht rfl)) (dp 16 rfl (cX (Ht rfl)) (dq 107 32 rfl (aE.nat (dW (Ht rfl) (cJ 1) zo z6) (show nH p j + 1 - 1 = nH p j by omega)) (cI 106 31 108 33 rfl (dZ U_54 Z_32 (Ht rfl) (Ht rfl) rfl (dY (dU (d:=Qi.zero) zo))) (dq 109 34 rfl (dJ A_32 Z_32 (Ht rfl)) ?_)))))
      refine cI 101 26 110 35 rfl (dA kQ K_29 (xU (x:=kW s p g) (y:=gm s p (nH p j)) (L:=7 * L + 11) (M:=L) zo) (Ht rfl) ⟨(Ht rfl),trivial⟩) (cI 99 24 111 36 rfl (dA kQ K_29 (xU (x:=gm s (nH p i) p) (y:=kW s p g * gm s p (nH p j)) (L:=L) (M:=7 * L + 11 + L + 1) zo) (Ht rfl) ⟨(Ht rfl),trivial⟩) (cI 89 14 112 37 rfl (dA qE Tryz.call33 (Jh (x:=gm s (nH p i) (nH p j)) (y:=gm s (nH p i) p * (kW s p g * gm s p (nH p j))) (L:=L) (M:=L + (7 * L + 11 + L + 1) + 1) zo) (Ht rfl) ⟨(Ht rfl),trivial⟩) ?_))
      refine fV aO rfl (by kernel_rfl) (zF (zF (zF (zF (zF (zF (zF (zF (zF (aJ (aJ (aJ (aV (ro rfl (eR U_54 Z_32 (Ht rfl) (Ht rfl) rfl (i:=5) rfl (by simp only [List.length_map,hrl]; omega) rfl) ?_))))))))))))))
      refine mX Z_32 (Ht rfl) (Ht rfl) (El.ag rfl) (i:=5) rfl rfl (by simp only [List.length_map,hrl]; omega) rfl ?_
      refine eX (bD (cY (ro rfl (dV (Ht rfl) (cJ 1) z6) (rm rfl (eX (fU (j + 1) hf2 zo (zS rfl) (aU (fun _ _ _ h=>h) (aU (fun _ _ _ h=>h) (aU (fun _ _ _ h=>h) (aU (fun _ _ _ h=>h) (aU (fun _ _ _ h=>h) (aU (bN (by rw [lA,← Fj (f:=fun j=>In s p (kW s p g) i j)]; rfl)) aY))))))))))))
     ·simp only [decide_eq_false_iff_not] at hf2
      obtain rfl:m = j:=Nat.le_antisymm zo hj
      refine gV rfl (bD (lD 3 5 rfl rfl (by decide) (by simp only [dE,List.length_map,qG]; omega) ?_))
      refine cY (ro rfl (dV (Ht rfl) (cJ 1) z6) (rm rfl (eX (dT [0,1,2,3,4] rfl (by decide) (fU (i + 1) hd zo (zS rfl) (aU (fun _ _ _ h=>h) (aU (fun _ _ _ h=>h) (aU (fun _ _ _ h=>h) (aU (fE (by rw [mH,Fh,← Fj (f:=(fun i=>tab m fun j=>In s p (kW s p g) i j))])) (aU (fun _ _ _ h=>h) aY))))))))))
    ·simp only [decide_eq_false_iff_not] at hd
     obtain rfl:m = i:=Nat.le_antisymm zo hi
     rw [Fh]
     refine gV rfl (cK (xO 4 3 1 rfl rfl rfl (by decide) (a1i (q:=fun _=>True) (M:=a0N s p m (kW s p g)) (bH _ _).symm) ?_))
     subst hm
     refine cY (ro rfl (eJ A_80 Z_80 (Ht rfl) (i:=4) rfl rfl rfl) (gQ Z_80 (Ht rfl) (Ht rfl) rfl (i:=1) rfl (aK rfl) rfl rfl (ro rfl (cQ (cJ 0)) (eX (bC rfl (fX (fK A_80 Z_80 rfl (i:=1) rfl rfl) ?_) (fX (eU rfl) ?_))))))
     ·exact (Sx he)
     ·exact (aH he.symm)
end
section
open Go Go.RowKit
theorem Dy  : bA Tryz.prog 47 [] (aB true):=by
 refine bA.intro Tryz.func47 rfl Tryz.ntmps47 rfl (fun cx=>(ts (ro rfl (cQ cV) (eX (ts (ro rfl (xT cV cV) (rn rfl (eW (Ts:=[Is (.int .i64 0),Is (.int .i64 0),Is (.int .i64 0)]) O_23 rfl (fun V=>aW zd (aW zd (aW zd (aG))))) fun B1=>(gQ Z_23 (Ht rfl) (Ht rfl) rfl (i:=0) rfl (aK rfl) rfl rfl (eX (cK (Y.D_start (m:=18) [] (bY (Ei:=[]) rfl rfl bX rfl rfl (dX rfl (Dv cV)) (bY (Ei:=[]) rfl rfl bX rfl rfl (dX rfl (Dv cV)) ?_)))))))))))))
 refine bY (Ei:=[(12,_),(13,_)]) rfl rfl (bQ (bZ 0 rfl rfl) (bQ (bZ 1 rfl rfl) bX)) rfl rfl (dX rfl (dH (xs:=[.tmp 12,.tmp 13]) U_77 Z_23 O_23 (cW (Ht rfl) (cW (Ht rfl) cG)) rfl rfl rfl)) (bY (Ei:=[(14,_)]) rfl rfl (bQ (bZ 2 rfl rfl) bX) rfl rfl (dX rfl (cZ Tryz.call50 (oA (l:=[r50,r50]) (by decide)) ⟨(Ht rfl),trivial⟩)) (bY (Ei:=[(1,_)]) rfl rfl (bQ (bJ rfl rfl) bX) rfl rfl (dX rfl (eJ A_23 Z_23 (Ht rfl) (i:=0) rfl rfl rfl)) ?_))
 refine bY (Ei:=[(1,_)]) rfl rfl (bQ (bJ rfl rfl) bX) rfl rfl (dX rfl (eJ A_23 Z_23 (Ht rfl) (i:=0) rfl rfl rfl)) (bY (Ei:=[(16,_),(17,_)]) rfl rfl (bQ (bZ 4 rfl rfl) (bQ (bZ 5 rfl rfl) bX)) rfl rfl (dX rfl (dH (xs:=[.tmp 16,.tmp 17]) U_77 Z_23 O_23 (cW (Ht rfl) (cW (Ht rfl) cG)) rfl rfl rfl)) (bY (Ei:=[(1,_)]) rfl rfl (bQ (bJ rfl rfl) bX) rfl rfl (dX rfl (eJ A_23 Z_23 (Ht rfl) (i:=0) rfl rfl rfl)) ?_))
 refine bY (Ei:=[(1,_)]) rfl rfl (bQ (bJ rfl rfl) bX) rfl rfl (dX rfl (eJ A_23 Z_23 (Ht rfl) (i:=0) rfl rfl rfl)) (bY (Ei:=[(19,_),(20,_)]) rfl rfl (bQ (bZ 7 rfl rfl) (bQ (bZ 8 rfl rfl) bX)) rfl rfl (dX rfl (dH (xs:=[.tmp 19,.tmp 20]) U_77 Z_23 O_23 (cW (Ht rfl) (cW (Ht rfl) cG)) rfl rfl rfl)) (bY (Ei:=[(18,_),(21,_)]) rfl rfl (bQ (bZ 6 rfl rfl) (bQ (bZ 9 rfl rfl) bX)) rfl rfl (dX rfl (dH (xs:=[.tmp 18,.tmp 21]) U_181 Z_77 Tryz.zeroValue77 (cW (Ht rfl) (cW (Ht rfl) cG)) rfl rfl rfl)) ?_))
 refine bY (Ei:=[(22,_)]) rfl rfl (bQ (bZ 10 rfl rfl) bX) rfl rfl (dX rfl (cZ Tryz.call99 (An (m:=[[vN,vN],[vN,vN]]) (by decide) (by intro r hr; simp at hr; subst hr; decide)) ⟨(Ht rfl),trivial⟩)) ?_
 refine bY (Ei:=[(15,_),(23,_)]) rfl rfl (bQ (bZ 3 rfl rfl) (bQ (bZ 11 rfl rfl) bX)) rfl rfl (dX rfl (cZ Tryz.call98 (eQ (Eb (z:=yJ) (s:=Ay) (L:=2) a1k (by decide) (by decide) (by decide)) a07) ⟨(Ht rfl),(Ht rfl),trivial⟩)) (bY (Ei:=[(24,_)]) rfl rfl (bQ (bZ 12 rfl rfl) bX) rfl rfl (dX rfl (cX (Ht rfl))) (bY (Ei:=[(11,_)]) rfl rfl (bQ (bZ 13 rfl rfl) bX) rfl rfl (dX rfl (dK (Ht rfl) rfl)) (bY (Ei:=[(11,_)]) rfl rfl (bQ (bZ 13 rfl rfl) bX) rfl rfl (dX rfl (dK (Ht rfl) rfl)) ?_)))
 refine Y.D_newp (Ei:=[]) (fun bb=>box bb 80 [dB yJ,fT Ay]) 17 rfl rfl rfl bX rfl rfl (by kernel_rfl) (eW (Ts:=[Is (.slice none 0 0),Is (.slice none 0 0)]) O_80 rfl (fun V=>aW zd (aW zd (aG)))) (Y.D_putN (Ei:=[(25,_)]) 16 rfl rfl rfl rfl rfl rfl (bQ (bZ 14 rfl rfl) bX) (fun bb=>mK Z_80 (Ht rfl) (Ht rfl) rfl (i:=0) rfl (aK rfl) rfl rfl) (Y.D_done aO rfl (by kernel_rfl) rfl (by simp [Y.okP]) rfl rfl (bU (bU (bU (bU (bU (bU (bU (bU (bU (bU (bU (bU (bU (bU (bU (bU (Y.F_newp (fun B2=>Y.F_putN (Y.F_nil ?_)))))))))))))))))))))
 refine ra rfl (eX (cK (Y.D_start (m:=8) [] (bY (Ei:=[(2,_)]) rfl rfl (bQ (bJ rfl rfl) bX) rfl rfl (dX rfl (eJ A_80 Z_80 (Ht rfl) (i:=1) rfl rfl rfl)) (bY (Ei:=[]) rfl rfl bX rfl rfl (dX rfl (cZ Tryz.call36 (Jm (n:=1) (by decide) (by decide)) ⟨(cJ 1),trivial⟩)) (bY (Ei:=[(28,_),(29,_)]) rfl rfl (bQ (bZ 0 rfl rfl) (bQ (bZ 1 rfl rfl) bX)) rfl rfl (dX rfl (cZ Tryz.call121 (eQ (Zp (z:=yJ) (s:=Ay) (port:=((2:Nat):Int)) (g:=Qi.ofInt 1) (L:=2) Qd Yj Yi (by decide) (by decide) (by decide)) a08) ⟨(Ht rfl),(cJ 2),(Ht rfl),trivial⟩)) ?_))))))
 refine bY (Ei:=[(30,_)]) rfl rfl (bQ (bZ 2 rfl rfl) bX) rfl rfl (dX rfl (cX (Ht rfl))) (bY (Ei:=[(27,_)]) rfl rfl (bQ (bZ 3 rfl rfl) bX) rfl rfl (dX rfl (dK (Ht rfl) rfl)) (bY (Ei:=[(27,_)]) rfl rfl (bQ (bZ 3 rfl rfl) bX) rfl rfl (dX rfl (dK (Ht rfl) rfl)) (Y.D_newp (Ei:=[]) (fun bb=>box bb 80 [dB Cn,fT Mr]) 7 rfl rfl rfl bX rfl rfl (by kernel_rfl) (eW (Ts:=[Is (.slice none 0 0),Is (.slice none 0 0)]) O_80 rfl (fun V=>aW zd (aW zd (aG)))) ?_)))
 refine Y.D_putN (Ei:=[(31,_)]) 6 rfl rfl rfl rfl rfl rfl (bQ (bZ 4 rfl rfl) bX) (fun bb=>mK Z_80 (Ht rfl) (Ht rfl) rfl (i:=0) rfl (aK rfl) rfl rfl) (Y.D_done aO rfl (by kernel_rfl) rfl (by simp [Y.okP]) rfl rfl (bU (bU (bU (bU (bU (bU (Y.F_newp (fun B4=>Y.F_putN (Y.F_nil ?_))))))))))
 refine ra rfl (eX (ts (ro rfl (eJ A_80 Z_80 (Ht rfl) (i:=2) rfl rfl rfl) (ro rfl (cZ Tryz.call130 (eQ (a11 (z:=Cn) (s:=Mr) (i:=((1:Nat):Int)) (j:=((1:Nat):Int)) a0a (by rw [Qe]; decide)) a1j) ⟨(Ht rfl),(cJ 1),(cJ 1),trivial⟩) ?_))))
 refine rm rfl (ro rfl (dK (Ht rfl) rfl) (ro rfl (dK (Ht rfl) rfl) (rn rfl (eW (Ts:=[Is (.bool false),Is (.slice none 0 0),Is (.bool false),Is (.slice none 0 0),Is (.slice none 0 0)]) O_32 rfl (fun V=>aW zd (aW zd (aW zd (aW zd (aW zd (aG))))))) fun B6=>(gQ Z_32 (Ht rfl) (Ht rfl) rfl (i:=3) rfl (aK rfl) rfl rfl (ra rfl (eX (ts (ro rfl (eJ A_80 Z_80 (Ht rfl) (i:=1) rfl rfl rfl) ?_))))))))
 refine ro rfl (cZ Tryz.call131 (Zk (z:=yJ) (s:=Ay) (L:=2) Qd Yj (by decide) (by decide) (by decide) (by decide +kernel) (by decide +kernel) a06) ⟨(Ht rfl),trivial⟩) (rm rfl (ro rfl (dK (Ht rfl) rfl) (ro rfl (dK (Ht rfl) rfl) (ra rfl (ra rfl (eX (ts (rm rfl (ro rfl (iB (Ht rfl) cV) (rm rfl (fQ rfl rfl (eK rfl rfl (Ht rfl) (fun h=>cX (Ht rfl))) (fQ rfl rfl (eK rfl rfl (Ht rfl) (fun h=>iB (fJ rfl h) cV)) (ro rfl (cT (Ht rfl) (fun h=>(fJ rfl h))) (rm rfl (fQ rfl rfl (eK rfl rfl (Ht rfl) (fun h=>cX (Ht rfl))) ?_)))))))))))))))
 refine fQ rfl rfl (eK rfl rfl (Ht rfl) (fun h=>iB (fJ rfl h) cV)) (ro rfl (cT (Ht rfl) (fun h=>(fJ rfl h))) (rm rfl (fQ rfl rfl (eK rfl rfl (Ht rfl) (fun h=>cX (Ht rfl))) (fQ rfl rfl (eK rfl rfl (Ht rfl) (fun h=>iB (fJ rfl h) cV)) (ro rfl (cT (Ht rfl) (fun h=>(fJ rfl h))) (rm rfl (fQ rfl rfl (eK rfl rfl (Ht rfl) (fun h=>eJ A_80 Z_80 (Ht rfl) (i:=1) rfl rfl rfl)) (fQ rfl rfl (eK rfl rfl (Ht rfl) (fun h=>cZ Tryz.call117 Jp ⟨(fJ rfl h),trivial⟩)) (fQ rfl rfl (eK rfl rfl (Ht rfl) (fun h=>bT (fJ rfl h) (cJ 2))) ?_)))))))))
 refine ro rfl (cT (Ht rfl) (fun h=>(fJ rfl h))) (rm rfl (fQ rfl rfl (eK rfl rfl (Ht rfl) (fun h=>eJ A_32 Z_32 (Ht rfl) (i:=3) rfl rfl rfl)) (fQ rfl rfl (eK rfl rfl (Ht rfl) (fun h=>cZ Tryz.call92 (Pc (x:=Qi.ofInt 1) (L:=2) (hx:=Yi) (by decide)) ⟨(fJ rfl h),trivial⟩)) (fQ rfl rfl (eK rfl rfl (Ht rfl) (fun h=>Rc (fJ rfl h) (aS.cS (l:=[49]) rfl))) (ro rfl (cT (Ht rfl) (fun h=>(fJ rfl h))) (ra rfl (eX (fW rfl (fX (eU rfl) ?_)))))))))
 exact (dI (by rw [a1I]; rfl))
end
section
open Go Go.RowKit
theorem mA (a:Addr) (w:World):(Instr.fieldAt 104 (.pointer (some a)) 0).run Tryz.prog w = .ok (.pointer (some (a.add 0))) w:=by
 simp [Instr.fieldAt,Instr.sureAddr,fieldPlace,Sem.run_bind,Result.andThen,U_104,Z_57]
theorem nA (a:Addr) (w:World):(Instr.fieldAt 104 (.pointer (some a)) 1).run Tryz.prog w = .ok (.pointer (some (a.add 1))) w:=by
 simp [Instr.fieldAt,Instr.sureAddr,fieldPlace,Sem.run_bind,Result.andThen,U_104,Z_102]
theorem wP:Tryz.prog.info? 40 = some Tryz.t40:=by kernel_rfl
theorem Ki:Tryz.prog.info? 57 = some Tryz.t57:=by kernel_rfl
theorem Xg:Tryz.prog.underlying 102 = some (.slice 57):=by kernel_rfl
theorem Dl:Tryz.prog.underlying 57 = some (.slice 40):=by kernel_rfl
end
section
open Go Go.RowKit
theorem oR {l:List Rt} (hl:l.length ≤ 1000000):bA Tryz.prog 52 [jJ l] (pO (l.map Rt.q)):=by
 refine bA.intro Tryz.func52 rfl Tryz.ntmps52 rfl (fun cx=>(ts (ro rfl (cQ cV) (eX (ts (rm rfl (ro rfl (dG U_77 (Ht rfl) aA) (rn rfl (iQ (T:=ZQ) (i:=Tryz.t40) Dl wP rfl rfl (Ht rfl) rfl a1P (El.ag rfl) (by show 88 * _ ≤ _; omega) zo) fun B8=>(ra rfl (eX (cK (ts (rm rfl (ro rfl (dG U_77 (Ht rfl) aA) (ro rfl (cX (cJ 0)) (eX (eG ?_)))))))))))))))))
 refine cL (fun (k : Nat) => k ≤ l.length) (fun (k : Nat) => l.length - k) (fun (k : Nat) => [(3, Is B8), (9, jJ l), (10, NT .i64 l.length), (11, NT .i64 k)]) (fun (k : Nat) => [bF 40 5 B8 (mP (fun i => QT (l.getD i default).q) ZQ l.length k)]) 0 (Nat.zero_le _)
  (zS rfl) (aU (bN (by rw [← kG]; exact pF _ _)) aY) (fun k hk=>?_)
 refine ts (ro rfl (gX (Ht rfl) (Ht rfl)) (eX (cK (dQ (Ht rfl) (fun hd=>?_) (fun hd=>?_)))))
 ·simp only [decide_eq_true_eq] at hd
  refine cU (cK (eG (ts (rm rfl (ro rfl (dZ U_77 Z_23 (Ht rfl) (Ht rfl) rfl (dY (dU (d:=default) hd))) (ro rfl (dJ A_23 Z_23 (Ht rfl)) (rn rfl (eW (Ts:=[Is (.int .i64 0),Is (.int .i64 0),Is (.int .i64 0)]) O_23 rfl (fun V=>aW zd (aW zd (aW zd (aG))))) fun B5=>(ra rfl (gQ Z_23 (Ht rfl) (Ht rfl) rfl (i:=1) rfl (aK rfl) rfl rfl (eX (cY (rm rfl (rm rfl (ro rfl (eJ A_23 Z_23 (Ht rfl) (i:=1) rfl rfl rfl) ?_))))))))))))))
  refine ro rfl (cZ Tryz.call16 Yb ⟨(Ht rfl),trivial⟩) (ro rfl (eR U_57 Z_40 (Ht rfl) (Ht rfl) rfl (i:=0) rfl (by rw [eP]; omega) rfl) ?_)
  refine mX Z_40 (Ht rfl) (Ht rfl) (El.ag rfl) (i:=0) rfl rfl (by rw [eP]; omega) rfl ?_
  refine eX (bD (cY (ro rfl (dV (Ht rfl) (cJ 1) z6) (rm rfl (eX (dT [0] rfl (by decide) (fU (k + 1) hd zo (zS rfl) (aU (bN (lO (f:=fun i=>QT (l.getD i default).q))) aY))))))))
 ·simp only [decide_eq_false_iff_not] at hd
  obtain rfl:k = l.length:=Nat.le_antisymm hk zo
  rw [lN]
  refine gV rfl (gJ (i:=0) (tt:=3) rfl rfl iN (ts (rm rfl (ra rfl (eX (fW rfl (fX (eU rfl) ?_)))))))
  exact (jQ (by rw [← qU l Rt.q,mQ]))
theorem Hl {m:List (List Rt)} (hm:m.length ≤ 1000) (hr:∀ r,r ∈ m → r.length ≤ 1000):bA Tryz.prog 134 [Oi m] (QM (rq m)):=by
 refine bA.intro Tryz.func134 rfl Tryz.ntmps134 rfl (fun cx=>(ts (ro rfl (cQ cV) (eX (ts (rm rfl (ro rfl (dG U_181 (Ht rfl) aA) (rn rfl (iQ (T:=pO []) (i:=Tryz.t57) Xg Ki rfl rfl (Ht rfl) rfl (fun V=>hJ _ _ rfl) El.one (by show 24 * _ ≤ _; omega) zo) fun B8=>(ra rfl (eX (cK (ts (rm rfl (ro rfl (dG U_181 (Ht rfl) aA) (ro rfl (cX (cJ 0)) (eX (eG ?_)))))))))))))))))
 refine fN (fun (k : Nat) (out : List (List Qi)) => lT (fun i => (m.getD i default).map Rt.q) m.length out k) (fun (k : Nat) (out : List (List Qi)) => m.length - k) (fun (k : Nat) (out : List (List Qi)) => [(3, Is B8), (9, Oi m), (10, NT .i64 m.length), (11, NT .i64 k)]) (fun (k : Nat) (out : List (List Qi)) => [bF 57 1 B8 (out.map pO)]) 0 (List.replicate m.length []) (lT.start _ _ _)
  (zS rfl) (aU (bN (qM pO _ _)) aY) (fun k out hS=>?_)
 refine ts (ro rfl (gX (Ht rfl) (Ht rfl)) (eX (cK (dQ (Ht rfl) (fun hk=>?_) (fun hk=>?_)))))
 ·simp only [decide_eq_true_eq] at hk
  have hlen:=hS.len
  have hrk : (m.getD k default).length ≤ 1000 := by
   have e:m.getD k default = m[k]:=by simp [List.getD,hk]
   rw [e]; exact hr _ (List.getElem_mem hk)
  refine cU (cK (eG (ts (rm rfl (ro rfl (dZ U_181 Z_77 (Ht rfl) (Ht rfl) rfl (dY (dU (d:=default) hk))) (ro rfl (dJ A_77 Z_77 (Ht rfl)) (ra rfl (ra rfl (eX (cY (rm rfl (rm rfl (rm rfl (ro rfl (cZ Tryz.call52 (oR zo) ⟨(Ht rfl),trivial⟩) (ro rfl (eR U_102 Z_57 (Ht rfl) (Ht rfl) rfl (i:=0) rfl (by first | omega | (simp; omega)) rfl) (mX Z_57 (Ht rfl) (Ht rfl) El.one (i:=0) rfl rfl (by first | omega | (simp; omega)) rfl (eX (bD ?_))))))))))))))))))
  refine cY (ro rfl (dV (Ht rfl) (cJ 1) z6) (rm rfl (eX (fU (k + 1,_) (hS.next hk rfl) (by dsimp only; omega) (zS rfl) (aU (bN (lA pO _ _ _)) aY)))))
 ·simp only [decide_eq_false_iff_not] at hk
  obtain rfl:k = m.length:=Nat.le_antisymm hS.kle zo
  have hfin:=hS.fin
  rw [qU m (fun r=>r.map Rt.q)] at hfin
  refine gV rfl (gJ (i:=0) (tt:=3) rfl rfl iN (ts (rm rfl (ra rfl (eX (fW rfl (fX (eU rfl) ?_)))))))
  exact (jQ (by rw [hfin]))
theorem Pe {z:List Qi} {s:List (List Qi)} {L:Nat} (hz:dR z L) (hs:eE s L) (hL1:1 ≤ L) (hL:L ≤ 8796093022208) (hsh:iE s z.length z.length) (hl:z.length ≤ 1000):bA Tryz.prog 135 [gE z s,jY z s] (aB true):=by
 have hs1:=hsh.1
 refine bA.intro Tryz.func135 rfl Tryz.ntmps135 rfl (fun cx=>(ts (rn rfl (fG (Ht rfl)) fun B2=>(rn rfl (fG (Ht rfl)) fun B3=>(ro rfl (cQ cV) (eX (cK (cK (fZ (m:=5) (dp 2 rfl (eJ A_80 Z_80 (Ht rfl) (i:=0) rfl rfl rfl) (dq 13 0 rfl (cZ Tryz.call117 Jp ⟨(Ht rfl),trivial⟩) (dp 3 rfl (eZ mA (Ht rfl) rfl) (dq 15 2 rfl (eY A_57 Z_57 (Ht rfl) (i:=1) rfl rfl) (dq 16 3 rfl (dG U_57 (Ht rfl) aA) (fV aO rfl (by kernel_rfl) (zF (aJ (aV ?_))))))))))))))))))
 refine ro rfl (gL (Ht rfl) (Ht rfl)) (eX (jK (Ht rfl) (by simp) ?_))
 refine cU (cK (ts (ro rfl (eZ mA (Ht rfl) rfl) (ro rfl (eY A_57 Z_57 (Ht rfl) (i:=1) rfl rfl) (ro rfl (dG U_57 (Ht rfl) aA) (ro rfl (cX (cJ 0)) (eX (eG ?_))))))))
 refine cL (fun (i : Nat) => i ≤ z.length) (fun (i : Nat) => z.length - i) (fun (i : Nat) => [(2, bR B2 0), (3, bR B3 0), (20, pO z), (21, NT .i64 z.length), (22, NT .i64 i)]) (fun (i : Nat) => [box B2 80 [dB z, fT s], box B3 104 [pO z, QM s]]) 0 (Nat.zero_le _)
  (zS rfl) (bP.refl _) (fun i hi=>?_)
 refine ts (ro rfl (gX (Ht rfl) (Ht rfl)) (eX (cK (dQ (Ht rfl) (fun hd=>?_) (fun hd=>?_)))))
 ·simp only [decide_eq_true_eq] at hd
  haveI f1:aP (gv z i) L:=hz.get hL1 i
  have hsr:=hsh.row hd
  refine cU (cK (eG (ts (rm rfl (ro rfl (dZ U_57 Z_40 (Ht rfl) (Ht rfl) rfl (dY (dU (d:=Qi.zero) hd))) (ro rfl (dJ A_40 Z_40 (Ht rfl)) (rn rfl (eW (Ts:=[Is (.bool false),Is (.slice none 0 0),Is (.bool false),Is (.slice none 0 0),Is (.slice none 0 0)]) O_40 rfl (fun V=>aW zd (aW zd (aW zd (aW zd (aW zd (aG))))))) fun B6=>(ra rfl (gQ Z_40 (Ht rfl) (Ht rfl) rfl (i:=2) rfl (aK rfl) rfl rfl ?_)))))))))
  refine eX (ts (ro rfl (eJ A_80 Z_80 (Ht rfl) (i:=0) rfl rfl rfl) (rm rfl (ro rfl (dV (Ht rfl) (cJ 1) z6) (ro rfl (cZ Tryz.call124 (eQ (a18 (z:=z) (s:=s) (i:=((i + 1:Nat):Int)) zo) (a0i hd)) ⟨(Ht rfl),(Ht rfl),trivial⟩) (rm rfl (ro rfl (dK (Ht rfl) rfl) (ro rfl (dK (Ht rfl) rfl) (rn rfl (eW (Ts:=[Is (.bool false),Is (.slice none 0 0),Is (.bool false),Is (.slice none 0 0),Is (.slice none 0 0)]) O_32 rfl (fun V=>aW zd (aW zd (aW zd (aW zd (aW zd (aG))))))) fun B7=>?_)))))))))
  refine gQ Z_32 (Ht rfl) (Ht rfl) rfl (i:=3) rfl (aK rfl) rfl rfl (ra rfl (eX (cK (ts (rm rfl (ro rfl (jH (Ht rfl) cV) (rm rfl (fQ rfl rfl (eK rfl rfl (Ht rfl) (fun h=>eJ A_32 Z_32 (Ht rfl) (i:=3) rfl rfl rfl)) (fQ rfl rfl (eK rfl rfl (Ht rfl) (fun h=>eJ A_40 Z_40 (Ht rfl) (i:=2) rfl rfl rfl)) (fQ rfl rfl (eK rfl rfl (Ht rfl) (fun h=>cZ Tryz.call17 (Bx (x:=gv z i) (y:=gv z i) (L:=L) (M:=L) hL hL) ⟨(fJ rfl h),(fJ rfl h),trivial⟩)) (fQ rfl rfl (eK rfl rfl (Ht rfl) (fun h=>fB (fJ rfl h))) ?_)))))))))))
  refine ro rfl (iR (Ht rfl) (fun h=>(fJ rfl h))) (eX (jK (Ht rfl) (by simp) ?_))
  refine cU (ts (ro rfl (eZ nA (Ht rfl) rfl) (ro rfl (eY A_102 Z_102 (Ht rfl) (i:=1) rfl rfl) (rm rfl (ro rfl (dZ U_102 Z_57 (Ht rfl) (Ht rfl) rfl (dY (dU (d:=[]) zo))) (ro rfl (dJ A_57 Z_57 (Ht rfl)) (ro rfl (dG U_57 (Ht rfl) aA) (ro rfl (cX (cJ 0)) (eX (eG (dT [0,1] rfl (by decide) ?_)))))))))))
  refine cL (fun (j : Nat) => j ≤ z.length) (fun (j : Nat) => z.length - j) (fun (j : Nat) => [(2, bR B2 0), (3, bR B3 0), (5, NT .i64 i), (20, pO z), (21, NT .i64 z.length), (22, NT .i64 i), (46, pO (s.getD i [])), (47, NT .i64 z.length), (48, NT .i64 j)]) (fun (j : Nat) => [box B2 80 [dB z, fT s], box B3 104 [pO z, QM s]]) 0 (Nat.zero_le _)
   (aQ rfl (aQ rfl (aQ rfl (aQ rfl (aQ rfl (aQ rfl (aQ rfl (aZ rfl (kR hsr) (zS rfl))))))))) (bP.refl _) (fun j hj=>?_)
  refine ts (ro rfl (gX (Ht rfl) (Ht rfl)) (eX (cK (dQ (Ht rfl) (fun hf=>?_) (fun hf=>?_)))))
  ·simp only [decide_eq_true_eq] at hf
   haveI f2:aP (gm s i j) L:=hs.get hL1 i j
   refine cU (cK (eG (ts (rm rfl (ro rfl (dZ U_57 Z_40 (Ht rfl) (Ht rfl) rfl (dY (dU (d:=Qi.zero) zo))) (ro rfl (dJ A_40 Z_40 (Ht rfl)) (rn rfl (eW (Ts:=[Is (.bool false),Is (.slice none 0 0),Is (.bool false),Is (.slice none 0 0),Is (.slice none 0 0)]) O_40 rfl (fun V=>aW zd (aW zd (aW zd (aW zd (aW zd (aG))))))) fun B10=>(ra rfl (gQ Z_40 (Ht rfl) (Ht rfl) rfl (i:=2) rfl (aK rfl) rfl rfl ?_)))))))))
   refine eX (ts (ro rfl (eJ A_80 Z_80 (Ht rfl) (i:=0) rfl rfl rfl) (rm rfl (ro rfl (dV (Ht rfl) (cJ 1) z6) (rm rfl (ro rfl (dV (Ht rfl) (cJ 1) z6) (ro rfl (cZ Tryz.call130 (eQ (a11 (z:=z) (s:=s) (i:=((i + 1:Nat):Int)) (j:=((j + 1:Nat):Int)) hsh zo) (a1l hd hf)) ⟨(Ht rfl),(Ht rfl),(Ht rfl),trivial⟩) (rm rfl (ro rfl (dK (Ht rfl) rfl) (ro rfl (dK (Ht rfl) rfl) ?_))))))))))
   refine rn rfl (eW (Ts:=[Is (.bool false),Is (.slice none 0 0),Is (.bool false),Is (.slice none 0 0),Is (.slice none 0 0)]) O_32 rfl (fun V=>aW zd (aW zd (aW zd (aW zd (aW zd (aG))))))) fun B11=>gQ Z_32 (Ht rfl) (Ht rfl) rfl (i:=3) rfl (aK rfl) rfl rfl (ra rfl (eX (ts (rm rfl (ro rfl (jH (Ht rfl) cV) (rm rfl (fQ rfl rfl (eK rfl rfl (Ht rfl) (fun h=>eJ A_32 Z_32 (Ht rfl) (i:=3) rfl rfl rfl)) ?_)))))))
   refine fQ rfl rfl (eK rfl rfl (Ht rfl) (fun h=>eJ A_40 Z_40 (Ht rfl) (i:=2) rfl rfl rfl)) (fQ rfl rfl (eK rfl rfl (Ht rfl) (fun h=>cZ Tryz.call17 (Bx (x:=gm s i j) (y:=gm s i j) (L:=L) (M:=L) hL hL) ⟨(fJ rfl h),(fJ rfl h),trivial⟩)) (fQ rfl rfl (eK rfl rfl (Ht rfl) (fun h=>fB (fJ rfl h))) (ro rfl (iR (Ht rfl) (fun h=>(fJ rfl h))) (eX (jK (Ht rfl) (by simp) ?_)))))
   refine cU (bD (cY (ro rfl (dV (Ht rfl) (cJ 1) z6) (rm rfl (eX (dT [0,1] rfl (by decide) (fU (j + 1) hf zo (zS rfl) (bP.refl _))))))))
  ·refine gV rfl (bD (cY (ro rfl (dV (Ht rfl) (cJ 1) z6) (rm rfl (eX (dT [0,1] rfl (by decide) (fU (i + 1) hd zo (zS rfl) (bP.refl _))))))))
 ·refine gV rfl (ts (ro rfl (cQ cV) (eX ?_)))
  exact fW rfl (eU rfl)
end
section
open Go Go.RowKit
theorem Bu {n : Nat} {E : bM} {H : Hp} {d : Option Tmp} {t : TypeId} {pos : String} {af : Array Edge} {g : Option (Nat × Bool)} {x0 x1 x2 : Operand} {T0 T1 T2 : Ty} [s0 : cE T0 1 false] (h0 : aS E x0 T0) [s1 : cE T1 1 false] (h1 : aS E x1 T1) [s2 : cE T2 1 false] (h2 : aS E x2 T2) :
  aE Tryz.prog n E H ⟨d,.build 23 #[(0,x0),(1,x1),(2,x2)],t,pos,af,g⟩ (dP [T0,T1,T2]) :=
 eO (parts := [(0, x0), (1, x1), (2, x2)]) fun a V w hs => by
  have p0:=h0 n V a hs
  generalize e0:a.eval x0 = v0 at p0
  have q0:=(s0.ok v0 V p0).2.2 rfl
  have p1:=h1 n V a hs
  generalize e1:a.eval x1 = v1 at p1
  have q1:=(s1.ok v1 V p1).2.2 rfl
  have p2:=h2 n V a hs
  generalize e2:a.eval x2 = v2 at p2
  have q2:=(s2.ok v2 V p2).2.2 rfl
  refine ⟨.agg #[v0,v1,v2],?_,[v0,v1,v2],rfl,aW (⟨p0,q0⟩) (aW (⟨p1,q1⟩) (aW (⟨p2,q2⟩) (aG)))⟩
  simp [e0,e1,e2,Instr.build,Instr.fill,Sem.run_bind,Result.andThen,dF,q0.cells,q1.cells,q2.cells,O_23,U_23,Z_2]
end
section
open Go Go.RowKit
theorem Jz {r:Rt}:bA Tryz.prog 146 [kV r] (kV (zP r)):=by
 have b1:=jD r.den (b:=4) (by decide)
 refine bA.intro Tryz.func146 rfl Tryz.ntmps146 rfl (fun cx=>(ts (rn rfl (fG (Ht rfl)) fun B1=>(rn rfl (eW (Ts:=[Is (.int .i64 0),Is (.int .i64 0),Is (.int .i64 0)]) O_23 rfl (fun V=>aW zd (aW zd (aW zd (aG))))) fun B2=>(eX (ts (ro rfl (eZ nN (Ht rfl) rfl) (ro rfl (eY A_2 Z_2 (Ht rfl) (i:=0) rfl rfl) (ro rfl (Db (Ht rfl) cV (by decide) rfl) (ra rfl (eX (cK (iJ (fun (d:Int)=>d = nZ (r.den.tmod 4)) (fun (d:Int)=>[(1,bR B1 0),(2,bR B2 0),(3,aL .i64 d)]) (fun (d:Int)=>[box B1 23 [aL .i64 r.re,aL .i64 r.im,aL .i64 r.den],box B2 23 [Is (.int .i64 0),Is (.int .i64 0),Is (.int .i64 0)]]) ?_ (fun d hd=>?_))))))))))))))
 ·refine ts (rm rfl (ro rfl (lH (Ht rfl) cV) (eX (dQ (Ht rfl) (fun hb => ?_) (fun hb => ?_)))))
  ·have hb2 : r.den.tmod 4 < 0 := of_decide_eq_true hb
   refine cY (rm rfl (ro rfl (Da (Ht rfl) (vT zo)) (ra rfl (eX (aN (-(r.den.tmod 4)) (by rw [nZ,if_pos hb2]) (zS rfl) (bP.refl _))))))
  ·have hb2 : ¬ r.den.tmod 4 < 0 := of_decide_eq_false hb
   refine cU (aN (r.den.tmod 4) (by rw [nZ,if_neg hb2]) (zS rfl) (bP.refl _))
 ·have b2 := pS b1
  rw [← hd] at b2
  refine ts (ro rfl (eZ oV (Ht rfl) rfl) (ro rfl (eY A_2 Z_2 (Ht rfl) (i:=0) rfl rfl) (ro rfl (Db (Ht rfl) cV (by decide) rfl) (ro rfl (eZ Ck (Ht rfl) rfl) (ro rfl (eY A_2 Z_2 (Ht rfl) (i:=0) rfl rfl) (ro rfl (Db (Ht rfl) cV (by decide) rfl) (rm rfl (ro rfl (yU (Ht rfl) cV (vT zo)) (ro rfl (Bu (Ht rfl) (Ht rfl) (Ht rfl)) (gQ Z_23 (Ht rfl) (Ht rfl) rfl (i:=1) rfl (aK rfl) rfl rfl (eX (fW rfl (fX (fK A_23 Z_23 rfl (i:=1) rfl rfl) ?_)))))))))))))
  exact (fun v V h=>by rw [hd] at h; exact h)
theorem Uf {r:Rt}:bA Tryz.prog 61 [kV r] (kV (Td r)):=by
 have b1:-9 < (zP r).re ∧ (zP r).re < 9:=jD r.re (b:=9) (by decide)
 refine bA.intro Tryz.func61 rfl Tryz.ntmps61 rfl (fun cx=>(ts (rn rfl (fG (Ht rfl)) fun B1=>(rn rfl (eW (Ts:=[Is (.int .i64 0),Is (.int .i64 0),Is (.int .i64 0)]) O_23 rfl (fun V=>aW zd (aW zd (aW zd (aG))))) fun B2=>(eX (ts (ro rfl (eJ A_23 Z_23 (Ht rfl) (i:=0) rfl rfl rfl) (ro rfl (cZ Tryz.call146 Jz ⟨(Ht rfl),trivial⟩) (rn rfl (eW (Ts:=[Is (.int .i64 0),Is (.int .i64 0),Is (.int .i64 0)]) O_23 rfl (fun V=>aW zd (aW zd (aW zd (aG))))) fun B3=>?_)))))))))
 refine gQ Z_23 (Ht rfl) (Ht rfl) rfl (i:=2) rfl (aK rfl) rfl rfl (eX (cK (iJ (fun (x:Int)=>x = nZ (zP r).re) (fun (x:Int)=>[(1,bR B1 0),(2,bR B2 0),(3,bR B3 0)]) (fun (x:Int)=>[box B1 23 [aL .i64 r.re,aL .i64 r.im,aL .i64 r.den],box B2 23 [Is (.int .i64 0),Is (.int .i64 0),Is (.int .i64 0)],box B3 23 [aL .i64 x,aL .i64 (zP r).im,aL .i64 (zP r).den]]) ?_ (fun x hx=>?_))))
 ·refine ts (ro rfl (eZ oV (Ht rfl) rfl) (ro rfl (eY A_2 Z_2 (Ht rfl) (i := 2) rfl rfl) (ro rfl (lH (Ht rfl) cV) (eX (dQ (Ht rfl) (fun hb => ?_) (fun hb => ?_))))))
  ·have hb2 : (zP r).re < 0 := of_decide_eq_true hb
   refine cY (ro rfl (eZ oV (Ht rfl) rfl) (ro rfl (eY A_2 Z_2 (Ht rfl) (i:=2) rfl rfl) (ro rfl (Da (Ht rfl) (vT zo)) (ro rfl (eZ oV (Ht rfl) rfl) (jN Z_2 (Ht rfl) (Ht rfl) (i:=2) rfl (aK rfl) rfl (eX (aN (-((zP r).re)) (by rw [nZ,if_pos hb2]) (zS rfl) (bP.refl _))))))))
  ·have hb2 : ¬ (zP r).re < 0 := of_decide_eq_false hb
   refine cU (aN ((zP r).re) (by rw [nZ,if_neg hb2]) (zS rfl) (bP.refl _))
 ·have b2 := pS b1
  rw [← hx] at b2
  refine ts (ro rfl (eZ oV (Ht rfl) rfl) (ro rfl (eY A_2 Z_2 (Ht rfl) (i:=2) rfl rfl) (ro rfl (yU (Ht rfl) cV (vT zo)) (ro rfl (eZ nN (Ht rfl) rfl) (ro rfl (eY A_2 Z_2 (Ht rfl) (i:=2) rfl rfl) (ro rfl (xT (Ht rfl) (Ht rfl)) (gQ Z_23 (Ht rfl) (Ht rfl) rfl (i:=1) rfl (aK rfl) rfl rfl (eX (fW rfl (fX (fK A_23 Z_23 rfl (i:=1) rfl rfl) ?_))))))))))
  exact (fun v V h=>by rw [hx] at h; exact h)
theorem Pg {l:List Rt} {i:Nat}:bA Tryz.prog 221 [jJ l,NT .i64 i] (kV (Ia l i)):=by
 refine bA.intro Tryz.func221 rfl Tryz.ntmps221 rfl (fun cx=>(ts (rn rfl (eW (Ts:=[Is (.int .i64 0),Is (.int .i64 0),Is (.int .i64 0)]) O_23 rfl (fun V=>aW zd (aW zd (aW zd (aG))))) fun B4=>(eX (cK (ts (rm rfl (ro rfl (dG U_77 (Ht rfl) aA) (ro rfl (bT (Ht rfl) (cJ 0)) (eX (dQ (Ht rfl) (fun hb=>?_) (fun hb=>?_))))))))))))
 ·have hb2 : l.length = 0 := by simpa only [decide_eq_true_eq] using hb
  refine ts (ro rfl (Tt ) (gQ Z_23 (Ht rfl) (Ht rfl) rfl (i:=0) rfl (aK rfl) rfl rfl (eX (fW rfl (fX (fK A_23 Z_23 rfl (i:=0) rfl rfl) ?_)))))
  exact (fun v V h=>by rw [Ia,if_pos hb2]; exact h)
 ·have hb2 : ¬ l.length = 0 := by simpa only [decide_eq_false_iff_not] using hb
  have hm:=Nat.mod_lt i (Nat.pos_of_ne_zero hb2)
  refine cU (ts (rm rfl (rm rfl (rm rfl (ro rfl (dG U_77 (Ht rfl) aA) (ro rfl (jW (Ht rfl) (Ht rfl) zo) (ro rfl (dZ U_77 Z_23 (Ht rfl) (Ht rfl) rfl (dY (dU (d:=default) hm))) (ro rfl (dJ A_23 Z_23 (Ht rfl)) (gQ Z_23 (Ht rfl) (Ht rfl) rfl (i:=0) rfl (aK rfl) rfl rfl (eX (fW rfl (fX (fK A_23 Z_23 rfl (i:=0) rfl rfl) ?_))))))))))))
  exact (fun v V h=>by rw [Ia,if_neg hb2]; exact h)
end
section
open Go Go.RowKit
theorem Pi {M:List (List Qi)} {n m:Nat} (hM:iE M n m) (hn:n ≤ 1000) (h1:1 ≤ m) (hm:m ≤ 1000):iM Tryz.prog 145 [QM M] [] (Nat) (fun B=>Is (.slice (some ⟨B,0,none⟩) n n)) (fun B=>[pM B 57 40 5 (dE QT M)]) (fun _=>True):=by
 have hMl:=hM.1
 refine iM.intro Tryz.func145 rfl Tryz.ntmps145 rfl (fun cx Z=>(ts (ro rfl (cQ cV) (eX (ts (rm rfl (ro rfl (dG U_102 (Ht rfl) (by rw [List.length_map,hMl])) ?_)))))))
 refine rn rfl (eI (T:=Is (.slice none 0 0)) (i:=Tryz.t57) Tryz.underlying102 Ki rfl rfl (Ht rfl) rfl (fun _=>rfl) trivial (by show 24 * _ ≤ _; omega) zo) fun B7=>ra rfl (eX (cK (ts (ro rfl (cQ (cJ 0)) (eX (eG (oP 1 rfl (wR (e:=40) (s:=5)) ?_)))))))
 refine cL (fun (i : Nat) => i ≤ n) (fun (i : Nat) => n - i) (fun (i : Nat) => [(0, QM M), (3, Is (.slice (some ⟨B7, 0, none⟩) n n)), (4, NT .i64 i)]) (fun (i : Nat) => [Z, pM B7 57 40 5 (dE QT (mP (dS M) [] n i))]) 0 (Nat.zero_le _)
  (zS rfl) (aU (fun _ _ _ h=>h) (aU (fE (by rw [← kG,rR]; exact tJ QT n)) aY)) (fun i hi=>?_)
 refine cK (ts (rm rfl (rm rfl (ro rfl (dG U_102 (Ht rfl) aA) (ro rfl (gX (Ht rfl) (Ht rfl)) (eX (dQ (Ht rfl) (fun hd0=>?_) (fun hd0=>?_))))))))
 ·have hdn : i < n := by simp only [decide_eq_true_eq] at hd0; omega
  have hrl:(dS M i).length = m:=hM.row hdn
  have hrl2:(M.getD i []).length = m:=hrl
  refine qX 1 (i) rfl (yH hdn) (fun v0=>(cU (cK (eG (cY (rm rfl (rm rfl (rn rfl (mE U_57 Z_40 O_40) fun B16=>(rm rfl (rm rfl (ro rfl (dZ U_102 Z_57 (Ht rfl) (Ht rfl) rfl (dY (dU (d:=[]) zo))) (ro rfl (dJ A_57 Z_57 (Ht rfl)) (tQ (inf:=Tryz.t40) Dl wP rfl rfl rfl (Ht rfl) (Ht rfl) (i:=3) rfl (fun T hT=>by obtain ⟨x,_,rfl⟩:=List.mem_map.1 hT; exact El.ag rfl) (by show _ * 88 ≤ _; simp only [List.length_map,List.length_append,List.length_take,List.length_cons,List.length_nil]; omega) (by simp only [List.length_map,List.length_append,List.length_take,List.length_cons,List.length_nil]; omega) rfl (fun v1=>?_))))))))))))))
  refine ro rfl (fY U_102 Z_57 (Ht rfl) (Ht rfl) rfl zo (by rw [Nat.mul_one,Nat.zero_add])) ?_
  refine Aj Z_57 (Ht rfl) (Ht rfl) (by simp only [dE,List.length_map,eP]; omega) (j:=1) (l:=3) rfl rfl rfl ?_
  refine eX (bD (dT [0,1,3] rfl (by decide) (lD 1 2 rfl rfl (by decide) (by simp only [dE,List.length_map,eP]; omega) ?_)))
  refine cY (rm rfl (ro rfl (dV (Ht rfl) (cJ 1) z6) (ra rfl (eX (dT [0,1] rfl (by decide) (fU (i + 1) hdn zo (zS rfl) (aU (fun _ _ _ h=>h) (aU (fE (by rw [List.nil_append,mH,← lO (f:=dS M)])) aY))))))))
 ·have hin : i = n := by simp only [decide_eq_false_iff_not] at hd0; omega
  subst hin
  refine gV rfl (ts (rm rfl (ra rfl (eX ?_))))
  exact kX B7 trivial [0,1] ⟨⟨_,rfl,fun _ _ _ h=>h⟩,⟨_,rfl,(fE (by rw [lN]; exact congrArg _ (Di (h:=hMl)).symm))⟩,trivial⟩ (by decide) (yX rfl (eU rfl))
end
section
open Go Go.RowKit
def wC (V S:Nat → Nat → Qi) (P:Nat → Nat → Bool) (n:Nat):List (List Qi):=tab n fun a=>tab n fun b=>if P a b = true then V a b else S a b
theorem tM {V S:Nat → Nat → Qi} {P:Nat → Nat → Bool} {n:Nat}:iE (wC V S P n) n n:=iE.tab
theorem Ir {V S:Nat → Nat → Qi} {P:Nat → Nat → Bool} {n a b:Nat} (ha:a < n) (hb:b < n):gm (wC V S P n) a b = if P a b = true then V a b else S a b:=a0c ha hb
theorem Xk {V S : Nat → Nat → Qi} {P P' : Nat → Nat → Bool} {n i j : Nat} (hi : i < n) (hj : j < n) (h : ∀ a b, P' a b = true ↔ P a b = true ∨ (a = i ∧ b = j)) : Nm (wC V S P n) i j (V i j) = wC V S P' n :=
 Kp (Sa tM) tM fun a ha b hb => by
  rw [Wx tM hi hj,Ir ha hb,Ir ha hb]
  by_cases e:a = i ∧ b = j
  ·rw [if_pos e,if_pos ((h a b).2 (.inr e)),e.1,e.2]
  ·rw [if_neg e]
   by_cases c:P a b = true
   ·rw [if_pos c,if_pos ((h a b).2 (.inl c))]
   ·rw [if_neg c,if_neg fun k=>((h a b).1 k).elim c e]
def Gq (i j a b:Nat):Bool:=decide (a < i ∨ (a = i ∧ b < j))
theorem Ri {i j a b:Nat}:Gq i (j + 1) a b = true ↔ Gq i j a b = true ∨ (a = i ∧ b = j):=by simp only [Gq,decide_eq_true_eq]; omega
theorem Xj {V S : Nat → Nat → Qi} {n i : Nat} : wC V S (Gq i n) n = wC V S (Gq (i + 1) 0) n := cA fun a _ => cA fun b hb => by
 have:Gq i n a b = Gq (i + 1) 0 a b:=by rw [Bool.eq_iff_iff]; simp only [Gq,decide_eq_true_eq]; omega
 rw [this]
theorem Tb {V : Nat → Nat → Qi} {M : List (List Qi)} {n : Nat} (h : iE M n n) : M = wC V (gm M) (Gq 0 0) n := Kp h tM fun a ha b hb => by
 rw [Ir ha hb,if_neg (by simp [Gq])]
theorem Xi {V S : Nat → Nat → Qi} {n : Nat} : wC V S (Gq n 0) n = tab n fun a => tab n fun b => V a b := cA fun a ha => cA fun b _ => by
 rw [if_pos (by simp [Gq]; omega)]
end
section
open Go Go.RowKit
theorem lX {n : Nat} {E : bM} {H : Hp} {d : Option Tmp} {t : TypeId} {pos : String} {af : Array Edge} {g : Option (Nat × Bool)}  :
  aE Tryz.prog n E H ⟨d,.build 113 #[],t,pos,af,g⟩ (dP [Is (.slice none 0 0),Is (.slice none 0 0)]) :=
 eO (parts := []) fun a V w hs => by
  refine ⟨.agg #[(.slice none 0 0),(.slice none 0 0)],?_,[(.slice none 0 0),(.slice none 0 0)],rfl,aW (⟨rfl,trivial⟩) (aW (⟨rfl,trivial⟩) (aG))⟩
  simp [Instr.build,Instr.fill,Sem.run_bind,Result.andThen,dF,O_113,U_113,Z_57,Z_99]
theorem vH {n : Nat} {E : bM} {H : Hp} {d : Option Tmp} {t : TypeId} {pos : String} {af : Array Edge} {g : Option (Nat × Bool)} {x0 x1 : Operand} {T0 T1 : Ty} [s0 : cE T0 1 false] (h0 : aS E x0 T0) [s1 : cE T1 1 false] (h1 : aS E x1 T1) :
  aE Tryz.prog n E H ⟨d,.build 113 #[(0,x0),(1,x1)],t,pos,af,g⟩ (dP [T0,T1]) :=
 eO (parts := [(0, x0), (1, x1)]) fun a V w hs => by
  have p0:=h0 n V a hs
  generalize e0:a.eval x0 = v0 at p0
  have q0:=(s0.ok v0 V p0).2.2 rfl
  have p1:=h1 n V a hs
  generalize e1:a.eval x1 = v1 at p1
  have q1:=(s1.ok v1 V p1).2.2 rfl
  refine ⟨.agg #[v0,v1],?_,[v0,v1],rfl,aW (⟨p0,q0⟩) (aW (⟨p1,q1⟩) (aG))⟩
  simp [e0,e1,Instr.build,Instr.fill,Sem.run_bind,Result.andThen,dF,q0.cells,q1.cells,O_113,U_113,Z_57,Z_99]
theorem jA (a:Addr) (w:World):(Instr.fieldAt 113 (.pointer (some a)) 0).run Tryz.prog w = .ok (.pointer (some (a.add 0))) w:=by
 simp [Instr.fieldAt,Instr.sureAddr,fieldPlace,Sem.run_bind,Result.andThen,U_113,Z_57]
theorem nB (a:Addr) (w:World):(Instr.fieldAt 113 (.pointer (some a)) 1).run Tryz.prog w = .ok (.pointer (some (a.add 1))) w:=by
 simp [Instr.fieldAt,Instr.sureAddr,fieldPlace,Sem.run_bind,Result.andThen,U_113,Z_99]
end
end Go.Proofs.YthcmlodgnfekeaaGreat
