/- A part of the proof: PnC, IgA, RqA. -/
import Derived.Test.YtcanljninhfmhaaGreatS17
import Derived.Test.YtcanljninhfmhaaGreatS21
set_option linter.all false
namespace Go.Proofs.YtcanljninhfmhaaGreat
structure R where
 neg : Bool
 num : List UInt32
 den : List UInt32
deriving DecidableEq
def sgn (b : Bool) (n : Nat) : Int := if b then -(n : Int) else n
theorem sgn_natAbs (b : Bool) (n : Nat) : (sgn b n).natAbs = n := by cases b <;> simp [sgn]
theorem sgn_zero (b : Bool) : sgn b 0 = 0 := by cases b <;> rfl
theorem sgn_lt {b : Bool} {n : Nat} : sgn b n < 0 ↔ (b = true ∧ n ≠ 0) := by cases b <;> simp [sgn] <;> omega
theorem sgn_self (z : Int) : sgn (decide (z < 0)) z.natAbs = z := by
 by_cases h : z < 0 <;> simp [sgn, h] <;> omega
theorem sgn_mul (a b : Bool) (n m : Nat) : sgn a n * sgn b m = sgn (a != b) (n * m) := by
 cases a <;> cases b <;> simp [sgn, Int.neg_mul, Int.mul_neg]
theorem sgn_mul_nat (a : Bool) (n m : Nat) : sgn a n * (m : Int) = sgn a (n * m) := by
 cases a <;> simp [sgn, Int.neg_mul]
theorem sgn_not (a : Bool) (n : Nat) : sgn (!a) n = - sgn a n := by cases a <;> simp [sgn]
def R.n (x : R) : Int := sgn x.neg (val x.num)
def R.d (x : R) : Nat := if val x.den = 0 then 1 else val x.den
def R.q (x : R) : Rat := mkRat x.n x.d
theorem R.d_ne (x : R) : x.d ≠ 0 := by unfold R.d; split <;> omega
def ratR (q : Rat) : R := ⟨decide (q.num < 0), limbs q.num.natAbs, if q.den = 1 then [] else limbs q.den⟩
theorem n_ratR (q : Rat) : (ratR q).n = q.num := by simp only [R.n, ratR, val_limbs]; exact sgn_self _
theorem d_ratR (q : Rat) : (ratR q).d = q.den := by
 have := q.den_pos
 unfold R.d ratR
 by_cases h : q.den = 1
 ·simp [h, val]
 ·simp only [h, if_false, val_limbs]; split <;> omega
theorem q_ratR (q : Rat) : (ratR q).q = q := by rw [R.q, n_ratR, d_ratR]; exact Rat.mkRat_self q
theorem ratR_zero : ratR 0 = ⟨false, [], []⟩ := by simp [ratR, limbs_zero]
theorem quo_num {neg : Bool} {n d : Nat} (hd : d ≠ 0) : (mkRat (sgn neg n) d).num = sgn neg (n / Nat.gcd n d) := by
 rw [Rat.num_mkRat, if_neg hd, sgn_natAbs, Nat.gcd_comm]
 have hg : ((Nat.gcd n d : Nat) : Int) ∣ (n : Int) := Int.natCast_dvd_natCast.2 (Nat.gcd_dvd_left n d)
 cases neg
 ·simp only [sgn]; rfl
 ·simp only [sgn]
  show (-(n : Int)) / ((Nat.gcd n d : Nat) : Int) = - ((n / Nat.gcd n d : Nat) : Int)
  rw [Int.neg_ediv_of_dvd hg]; rfl
theorem quo_den {neg : Bool} {n d : Nat} (hd : d ≠ 0) : (mkRat (sgn neg n) d).den = d / Nat.gcd n d := by
 rw [Rat.den_mkRat, if_neg hd, sgn_natAbs, Nat.gcd_comm]
theorem quo_parts {neg : Bool} {n d : Nat} (hd : d ≠ 0) :
  ratR (mkRat (sgn neg n) d) = ⟨neg && decide (n ≠ 0), limbs (n / Nat.gcd n d), if d / Nat.gcd n d = 1 then [] else limbs (d / Nat.gcd n d)⟩ := by
 rw [ratR, quo_num hd, quo_den hd, sgn_natAbs]
 congr 1
 rw [Bool.eq_iff_iff]
 have hg : 0 < Nat.gcd n d := Nat.gcd_pos_of_pos_right n (Nat.pos_of_ne_zero hd)
 have h1 : n / Nat.gcd n d = 0 ↔ n = 0 := by
  rw [Nat.div_eq_zero_iff_lt hg]
  constructor
  ·intro h
   rcases Nat.eq_zero_or_pos n with h0 | h0
   ·exact h0
   ·have := Nat.gcd_le_left d h0; omega
  ·intro h; omega
 simp only [decide_eq_true_eq, Bool.and_eq_true, sgn_lt, ne_eq, h1]
theorem q_add (a b : R) : a.q + b.q = mkRat (a.n * b.d + b.n * a.d) (a.d * b.d) := Rat.mkRat_add_mkRat _ _ a.d_ne b.d_ne
theorem q_mul (a b : R) : a.q * b.q = mkRat (a.n * b.n) (a.d * b.d) := Rat.mkRat_mul_mkRat _ _ _ _
theorem q_neg (a : R) : (⟨!a.neg, a.num, a.den⟩ : R).q = - a.q := by
 simp only [R.q, R.n, R.d, sgn_not, Rat.neg_mkRat]
theorem mkRat_nonneg {n : Int} {d : Nat} (hd : d ≠ 0) : 0 ≤ mkRat n d ↔ 0 ≤ n := by
 rw [← Rat.divInt_ofNat]; exact Rat.divInt_nonneg_iff_of_pos_right (by omega)
theorem q_sub (a b : R) : a.q - b.q = mkRat (a.n * b.d - b.n * a.d) (a.d * b.d) := by
 rw [Rat.sub_eq_add_neg, ← q_neg, q_add]
 simp only [R.n, R.d, sgn_not, Int.neg_mul, Int.sub_eq_add_neg]
theorem q_le (a b : R) : a.q ≤ b.q ↔ a.n * b.d ≤ b.n * a.d := by
 rw [Rat.le_iff_sub_nonneg, q_sub, mkRat_nonneg (Nat.mul_ne_zero b.d_ne a.d_ne)]
 omega
theorem q_lt (a b : R) : a.q < b.q ↔ a.n * b.d < b.n * a.d := by
 rw [← Rat.not_le, q_le]; omega
theorem q_eq_zero (a : R) : a.q = 0 ↔ a.n = 0 := Rat.mkRat_eq_zero a.d_ne
theorem q_nonneg (a : R) : 0 ≤ a.q ↔ 0 ≤ a.n := mkRat_nonneg a.d_ne
theorem q_neg_iff (a : R) : a.q < 0 ↔ a.n < 0 := by rw [← Rat.not_le, q_nonneg]; omega
theorem q_pos (a : R) : 0 < a.q ↔ 0 < a.n := by
 have h1 := q_nonneg a; have h2 := q_eq_zero a
 rw [Rat.lt_iff_le_and_ne]
 constructor
 ·rintro ⟨h, h'⟩; have := h1.1 h; have : a.n ≠ 0 := fun e => h' (h2.2 e).symm; omega
 ·intro h; exact ⟨h1.2 (by omega), fun e => by have := h2.1 e.symm; omega⟩
def sgnQ (q : Rat) : Int := if q < 0 then -1 else if 0 < q then 1 else 0
def cmpQ (a b : Rat) : Int := if a < b then -1 else if b < a then 1 else 0
def sgnI (z : Int) : Int := if z < 0 then -1 else if 0 < z then 1 else 0
def cmpZ (a b : Int) : Int := if a < b then -1 else if b < a then 1 else 0
theorem sgnQ_q (a : R) : sgnQ a.q = sgnI a.n := by simp only [sgnQ, sgnI, q_neg_iff, q_pos]
theorem cmpQ_q (a b : R) : cmpQ a.q b.q = cmpZ (a.n * b.d) (b.n * a.d) := by simp only [cmpQ, cmpZ, q_lt]
structure Fits (k : Nat) (q : Rat) : Prop where
 num : q.num.natAbs < B ^ k
 den : q.den < B ^ k
theorem Fits.mono {k m : Nat} {q : Rat} (h : Fits k q) (hm : k ≤ m) : Fits m q :=
 ⟨Nat.lt_of_lt_of_le h.num (Nat.pow_le_pow_right B_pos hm), Nat.lt_of_lt_of_le h.den (Nat.pow_le_pow_right B_pos hm)⟩
theorem fits_mkRat {k : Nat} {n : Int} {d : Nat} (hn : n.natAbs < B ^ k) (hd : d < B ^ k) (h0 : d ≠ 0) : Fits k (mkRat n d) := by
 have hs : n = sgn (decide (n < 0)) n.natAbs := (sgn_self n).symm
 rw [hs]
 refine ⟨?_, ?_⟩
 ·rw [quo_num h0, sgn_natAbs]
  exact Nat.lt_of_le_of_lt (Nat.div_le_self _ _) hn
 ·rw [quo_den h0]
  exact Nat.lt_of_le_of_lt (Nat.div_le_self _ _) hd
theorem fits_R {k : Nat} {x : R} (h1 : x.num.length ≤ k) (h2 : x.den.length ≤ k) (hk : 1 ≤ k) : Fits k x.q := by
 refine fits_mkRat ?_ ?_ x.d_ne
 ·rw [R.n, sgn_natAbs]
  exact Nat.lt_of_lt_of_le (val_lt _) (Nat.pow_le_pow_right B_pos h1)
 ·unfold R.d
  split
  ·exact Nat.lt_of_lt_of_le (show 1 < B ^ 1 by decide) (Nat.pow_le_pow_right B_pos hk)
  ·exact Nat.lt_of_lt_of_le (val_lt _) (Nat.pow_le_pow_right B_pos h2)
theorem Fits.lnum {k : Nat} {q : Rat} (h : Fits k q) : (ratR q).num.length ≤ k := limbs_length_le h.num
theorem Fits.lden {k : Nat} {q : Rat} (h : Fits k q) : (ratR q).den.length ≤ k := by
 unfold ratR
 by_cases h1 : q.den = 1
 ·simp [h1]
 ·simp only [h1, if_false]; exact limbs_length_le h.den
theorem mul_lt_pow {a b k m : Nat} (ha : a < B ^ k) (hb : b < B ^ m) : a * b < B ^ (k + m) := by
 rw [Nat.pow_add]; exact Nat.mul_lt_mul'' ha hb
theorem fits_mul {k m : Nat} {a b : Rat} (ha : Fits k a) (hb : Fits m b) : Fits (k + m) (a * b) := by
 rw [Rat.mul_def']
 refine fits_mkRat ?_ (mul_lt_pow ha.den hb.den) (Nat.mul_ne_zero a.den_nz b.den_nz)
 rw [Int.natAbs_mul]
 exact mul_lt_pow ha.num hb.num
theorem fits_add {k m : Nat} {a b : Rat} (ha : Fits k a) (hb : Fits m b) : Fits (k + m + 1) (a + b) := by
 rw [Rat.add_def']
 have h1 := mul_lt_pow ha.num hb.den
 have h2 := mul_lt_pow hb.num ha.den
 rw [Nat.add_comm m k] at h2
 have h3 : B ^ (k + m + 1) = B ^ (k + m) * B := Nat.pow_succ _ _
 have hd := mul_lt_pow ha.den hb.den
 have h5 : B ^ (k + m) * 2 ≤ B ^ (k + m) * B := Nat.mul_le_mul_left _ (by decide)
 refine fits_mkRat ?_ ?_ (Nat.mul_ne_zero a.den_nz b.den_nz)
 ·have h4 := Int.natAbs_add_le (a.num * b.den) (b.num * a.den)
  rw [Int.natAbs_mul, Int.natAbs_mul, Int.natAbs_natCast, Int.natAbs_natCast] at h4
  rw [h3]; omega
 ·rw [h3]; omega
theorem fits_neg {k : Nat} {a : Rat} (ha : Fits k a) : Fits k (-a) := ⟨by rw [Rat.neg_num, Int.natAbs_neg]; exact ha.num, by rw [Rat.neg_den]; exact ha.den⟩
theorem fits_sub {k m : Nat} {a b : Rat} (ha : Fits k a) (hb : Fits m b) : Fits (k + m + 1) (a - b) := by
 rw [Rat.sub_eq_add_neg]; exact fits_add ha (fits_neg hb)
theorem fits_zero {k : Nat} (hk : 1 ≤ k) : Fits k 0 :=
 ⟨by simp; exact Nat.pow_pos B_pos, by simp; exact Nat.lt_of_lt_of_le (show 1 < B ^ 1 by decide) (Nat.pow_le_pow_right B_pos hk)⟩
theorem fits_int {k : Nat} {z : Int} (h : z.natAbs < B ^ k) (hk : 1 ≤ k) : Fits k (z : Rat) :=
 ⟨by simpa using h, by simp; exact Nat.lt_of_lt_of_le (show 1 < B ^ 1 by decide) (Nat.pow_le_pow_right B_pos hk)⟩
theorem fits_inv {k : Nat} {a : Rat} (ha : Fits k a) : Fits k a⁻¹ := by
 refine ⟨?_, ?_⟩
 ·rw [Rat.num_inv, Int.natAbs_mul]
  have h1 : a.num.sign.natAbs ≤ 1 := by rw [Int.natAbs_sign]; split <;> omega
  have h2 := ha.den
  have := Nat.mul_le_mul_right ((a.den : Int).natAbs) h1
  rw [Int.natAbs_natCast] at *
  omega
 ·rw [Rat.den_inv]
  split
  ·have := ha.den; have := a.den_pos; omega
  ·exact ha.num
def R.ok (x : R) : Bool := decide (x = ratR x.q)
theorem ok_ratR (q : Rat) : (ratR q).ok = true := by simp [R.ok, q_ratR]
end Go.Proofs.YtcanljninhfmhaaGreat

namespace Go.Proofs.YtcanljninhfmhaaGreat
open Go
set_option linter.unusedVariables false
set_option maxRecDepth 100000
theorem callS_d {f : FuncId} {args args' : List PV} {K : PV → Prop} {r : PV} (h2 : allLe les args args') (h3 : SoundS f args' r) (h5 : nmIn [] r = true) (h4 : K r) : CallS f args K := ⟨args', r, lesL_le h2, h3, h5, h4⟩
theorem len_mul (a b : List UInt32) : (limbs (val a * val b)).length ≤ a.length + b.length := limbs_length_le (mul_lt_pow (val_lt a) (val_lt b))
theorem len_add (a b : List UInt32) : (limbs (val a + val b)).length ≤ a.length + b.length + 1 := by
 refine limbs_length_le ?_
 have h1 := Nat.lt_of_lt_of_le (val_lt a) (Nat.pow_le_pow_right B_pos (Nat.le_add_right a.length b.length))
 have h2 := Nat.lt_of_lt_of_le (val_lt b) (Nat.pow_le_pow_right B_pos (Nat.le_add_left b.length a.length))
 have h3 : B ^ (a.length + b.length) * 2 ≤ B ^ (a.length + b.length) * B := Nat.mul_le_mul_left _ (by decide)
 rw [Nat.pow_succ]
 omega
theorem len_sub (a b : List UInt32) : (limbs (val a - val b)).length ≤ a.length := limbs_length_le (Nat.lt_of_le_of_lt (Nat.sub_le _ _) (val_lt a))
structure Z where
 neg : Bool
 mag : List UInt32
def Z.v (x : Z) : Int := sgn x.neg (val x.mag)
def intZ (z : Int) : Z := ⟨decide (z < 0), limbs z.natAbs⟩
theorem v_intZ (z : Int) : (intZ z).v = z := by simp only [Z.v, intZ, val_limbs]; exact sgn_self z
abbrev zv (x : Z) : PV := .agg [.bool (fun _ => x.neg), nat x.mag]
theorem intZ_sgn (neg : Bool) (n : Nat) : intZ (sgn neg n) = ⟨neg && decide (n ≠ 0), limbs n⟩ := by
 simp only [intZ, sgn_natAbs]
 congr 1
 rw [Bool.eq_iff_iff]
 simp only [decide_eq_true_eq, sgn_lt, Bool.and_eq_true]
theorem sgn_nn {b : Bool} {n : Nat} (h : ¬ sgn b n < 0) : sgn b n = (n : Int) := by
 cases b
 ·rfl
 ·simp only [sgn, if_true] at h ⊢
  omega
theorem hf203 : Pg.funcs[161]? = some Tryz.f161 := by rw [Pg_eq]; rfl
theorem s203 (neg : Bool) (m : List UInt32) (hm : m.length < 2^40) : SoundS 161 [.bool (fun _ => neg), nat m] (zv (intZ (sgn neg (val m)))) := by
 refine sound_fn hf203 rfl rfl rfl rfl rfl ?_
 rw [intZ_sgn]
 cbv
 refine callS' rfl okA (s223 m hm) rfl ?_
 cbv
 refine br_bool (fun h => ?_) (fun h => ?_)
 ·subst h
  cbv
  (refine retC rfl ?_; cbv)
  refine ⟨leS_bool ?_, leS_refl _, trivial⟩
  rw [Bool.eq_iff_iff]
  simp only [decide_eq_true_eq, lm_length, Bool.true_and]
  rw [← @limbs_eq_nil (val m), ← List.length_eq_zero_iff]
  (try dsimp only [ncast] at *)
  omega
 ·subst h
  cbv
  (refine retC rfl ?_; cbv)
  exact ⟨leS_ff rfl, leS_refl _, trivial⟩
theorem hf164 : Pg.funcs[133]? = some Tryz.f133 := by rw [Pg_eq]; rfl
theorem s164 (x : Int) (h1 : -9223372036854775808 ≤ x) (h2 : x < 9223372036854775808) : SoundS 133 [.int .i64 (fun _ => x)] (zv (intZ x)) := by
 refine sound_fn hf164 rfl rfl rfl rfl rfl ?_
 have hBB : B * B = 18446744073709551616 := by decide
 have e : zv (intZ x) = .agg [.bool (fun _ => decide (x < 0)), nat (limbs x.natAbs)] := rfl
 rw [e]
 cbv
 refine cut_dec (fun h => ?_) (fun h => ?_)
 ·have e1 : nx .u64 (0 - nx .u64 x) = ((x.natAbs : Nat) : Int) := by simp only [nx_u64]; omega
  generalize hn : x.natAbs = n at *
  cbv
  refine callS' rfl (by exact ⟨leS_int e1, trivial⟩) (s211 n (by omega)) rfl ?_
  cbv
  (refine retC rfl ?_; cbv)
  exact ⟨leS_tt (decide_eq_true h), leS_refl _, trivial⟩
 ·have e1 : nx .u64 x = ((x.natAbs : Nat) : Int) := by simp only [nx_u64]; omega
  generalize hn : x.natAbs = n at *
  cbv
  refine callS' rfl (by exact ⟨leS_int e1, trivial⟩) (s211 n (by omega)) rfl ?_
  cbv
  (refine retC rfl ?_; cbv)
  exact ⟨leS_ff (decide_eq_false h), leS_refl _, trivial⟩
theorem hf146 : Pg.funcs[109]? = some Tryz.f109 := by rw [Pg_eq]; rfl
theorem s146 (x : Z) (hx : x.mag.length < 2^40) : SoundS 109 [zv x] (.int .i64 (fun _ => sgnI x.v)) := by
 refine sound_fn hf146 rfl rfl rfl rfl rfl ?_
 obtain ⟨neg, mag⟩ := x
 have hv : Z.v ⟨neg, mag⟩ = sgn neg (val mag) := rfl
 rw [hv]
 have h0 : ((bitsP (val mag) : Nat) : Int) = 0 ↔ val mag = 0 := by rw [← bitsP_eq0]; omega
 have hs := s202 mag hx
 generalize bitsP (val mag) = b at h0 hs
 generalize hS : sgnI (sgn neg (val mag)) = S at *
 cbv
 refine callS' rfl okA (hs) rfl ?_
 cbv
 refine cut_dec (fun h => ?_) (fun h => ?_)
 ·cbv
  (refine retC rfl ?_; cbv)
  refine leS_int ?_
  rw [← hS, h0.1 h, sgn_zero]; rfl
 ·have hne : val mag ≠ 0 := fun e => h (h0.2 e)
  cbv
  refine cut_bool (fun h2 => ?_) (fun h2 => ?_)
  ·subst h2
   cbv
   (refine retC rfl ?_; cbv)
   refine leS_int ?_
   rw [← hS, show sgn true (val mag) = -(val mag : Int) from rfl]; unfold sgnI; rw [if_pos (by omega)]
  ·subst h2
   cbv
   (refine retC rfl ?_; cbv)
   refine leS_int ?_
   rw [← hS, show sgn false (val mag) = (val mag : Int) from rfl]; unfold sgnI; rw [if_neg (by omega), if_pos (by omega)]
theorem hf212 : Pg.funcs[189]? = some Tryz.f189 := by rw [Pg_eq]; rfl
theorem s212 (x y : Z) (hx : x.mag.length < 2^40) (hy : y.mag.length < 2^40) : SoundS 189 [zv x, zv y] (.int .i64 (fun _ => cmpZ x.v y.v)) := by
 refine sound_fn hf212 rfl rfl rfl rfl rfl ?_
 have hsx := s146 x hx
 have hsy := s146 y hy
 have hxv : x.v = sgn x.neg (val x.mag) := rfl
 have hyv : y.v = sgn y.neg (val y.mag) := rfl
 have h1 : sgnI x.v < sgnI y.v → cmpZ x.v y.v = -1 := by intro h; unfold sgnI at h; unfold cmpZ; split at h <;> split at h <;> (try split at h) <;> (try split at h) <;> first | (rw [if_pos (by omega)]) | omega
 have h2 : sgnI y.v < sgnI x.v → cmpZ x.v y.v = 1 := by intro h; unfold sgnI at h; unfold cmpZ; split at h <;> split at h <;> (try split at h) <;> (try split at h) <;> first | (rw [if_neg (by omega), if_pos (by omega)]) | omega
 have h3 : sgnI x.v = sgnI y.v → sgnI x.v < 0 → cmpZ x.v y.v = cmpI (val y.mag) (val x.mag) := by
  intro h h'
  have a1 : x.v < 0 := by unfold sgnI at h'; split at h' <;> (try split at h') <;> omega
  have a2 : y.v < 0 := by rw [h] at h'; unfold sgnI at h'; split at h' <;> (try split at h') <;> omega
  rw [hxv, sgn_lt] at a1
  rw [hyv, sgn_lt] at a2
  rw [hxv, hyv, a1.1, a2.1]
  simp only [cmpZ, cmpI, sgn, if_true]
  split <;> split <;> (try split) <;> (try split) <;> omega
 have h4 : sgnI x.v = sgnI y.v → ¬ sgnI x.v < 0 → cmpZ x.v y.v = cmpI (val x.mag) (val y.mag) := by
  intro h h'
  have a1 : ¬ x.v < 0 := by unfold sgnI at h'; split at h' <;> (try split at h') <;> omega
  have a2 : ¬ y.v < 0 := by rw [h] at h'; unfold sgnI at h'; split at h' <;> (try split at h') <;> omega
  have b1 : x.v = (val x.mag : Int) := by rw [hxv] at a1 ⊢; exact sgn_nn a1
  have b2 : y.v = (val y.mag : Int) := by rw [hyv] at a2 ⊢; exact sgn_nn a2
  rw [b1, b2]
  simp only [cmpZ, cmpI]
  split <;> split <;> (try split) <;> (try split) <;> omega
 generalize cmpZ x.v y.v = C at *
 generalize sgnI x.v = s at *
 generalize sgnI y.v = t at *
 cbv
 refine draw_of 4 (by cbv) ?_
 cbv
 refine callS_d okA (hsx) rfl ?_
 cbv
 refine callS_d okA (hsy) rfl ?_
 cbv
 refine cut_dec (fun h => ?_) (fun h => ?_)
 ·cbv
  (refine retC rfl ?_; cbv)
  exact leS_int (h1 h).symm
 ·cbv
  refine cut_dec (fun h' => ?_) (fun h' => ?_)
  ·cbv
   (refine retC rfl ?_; cbv)
   exact leS_int (h2 h').symm
  ·have he : s = t := by omega
   cbv
   refine cut_dec (fun h5 => ?_) (fun h5 => ?_)
   ·have h6 := h3 he h5
    have h7 := s162 y.mag x.mag hy hx
    rw [← h6] at h7
    cbv
    refine callS' rfl okA (h7) rfl ?_
    cbv
    (refine retC rfl ?_; cbv)
    exact leS_refl _
   ·have h6 := h4 he h5
    have h7 := s162 x.mag y.mag hx hy
    rw [← h6] at h7
    cbv
    refine callS' rfl okA (h7) rfl ?_
    cbv
    (refine retC rfl ?_; cbv)
    exact leS_refl _
theorem hf192 : Pg.funcs[139]? = some Tryz.f139 := by rw [Pg_eq]; rfl
theorem s192 (x y : Z) (hx : x.mag.length < 2^38) (hy : y.mag.length < 2^38) : SoundS 139 [zv x, zv y] (zv (intZ (x.v + y.v))) := by
 refine sound_fn hf192 rfl rfl rfl rfl rfl ?_
 obtain ⟨n1, m1⟩ := x
 obtain ⟨n2, m2⟩ := y
 have hv : Z.v ⟨n1, m1⟩ + Z.v ⟨n2, m2⟩ = sgn n1 (val m1) + sgn n2 (val m2) := rfl
 have hl := len_add m1 m2
 have hl1 := len_sub m1 m2
 have hl2 := len_sub m2 m1
 have hx' : m1.length < 2^38 := hx
 have hy' : m2.length < 2^38 := hy
 rw [hv]
 have c1 : n1 = n2 → SoundS 161 [.bool (fun _ => n1), nat (limbs (val m1 + val m2))] (zv (intZ (sgn n1 (val m1) + sgn n2 (val m2)))) := by
  intro h
  have := s203 n1 (limbs (val m1 + val m2)) (by omega)
  rw [val_limbs] at this
  have e : sgn n1 (val m1 + val m2) = sgn n1 (val m1) + sgn n2 (val m2) := by rw [← h]; cases n1 <;> simp [sgn]; omega
  rw [e] at this
  exact this
 have c2 : n1 ≠ n2 → ¬ cmpI (val m1) (val m2) < 0 → SoundS 161 [.bool (fun _ => n1), nat (limbs (val m1 - val m2))] (zv (intZ (sgn n1 (val m1) + sgn n2 (val m2)))) := by
  intro h h'
  have hge : val m2 ≤ val m1 := by
   unfold cmpI at h'
   rcases Nat.lt_or_ge (val m1) (val m2) with h3 | h3
   ·rw [if_pos h3] at h'; omega
   ·exact h3
  have := s203 n1 (limbs (val m1 - val m2)) (by omega)
  rw [val_limbs] at this
  have e : sgn n1 (val m1 - val m2) = sgn n1 (val m1) + sgn n2 (val m2) := by cases n1 <;> cases n2 <;> simp [sgn] at h ⊢ <;> omega
  rw [e] at this
  exact this
 have c3 : n1 ≠ n2 → cmpI (val m1) (val m2) < 0 → SoundS 161 [.bool (fun _ => n2), nat (limbs (val m2 - val m1))] (zv (intZ (sgn n1 (val m1) + sgn n2 (val m2)))) := by
  intro h h'
  have hge : val m1 ≤ val m2 := by
   unfold cmpI at h'
   rcases Nat.lt_or_ge (val m1) (val m2) with h3 | h3
   ·omega
   ·rw [if_neg (by omega)] at h'; split at h' <;> omega
  have := s203 n2 (limbs (val m2 - val m1)) (by omega)
  rw [val_limbs] at this
  have e : sgn n2 (val m2 - val m1) = sgn n1 (val m1) + sgn n2 (val m2) := by cases n1 <;> cases n2 <;> simp [sgn] at h ⊢ <;> omega
  rw [e] at this
  exact this
 have c0 := s162 m1 m2 (by omega) (by omega)
 generalize cmpI (val m1) (val m2) = cm at *
 generalize sgn n1 (val m1) + sgn n2 (val m2) = T at *
 cbv
 refine cut_dec (fun h => ?_) (fun h => ?_)
 ·have h' := c1 h
  generalize intZ T = W at *
  cbv
  refine draw_of 8 (by cbv) ?_
  cbv
  refine callS_d okA (s221 m1 m2 (by omega) (by omega)) rfl ?_
  cbv
  refine callS_d okA (h') rfl ?_
  cbv
  (refine retC rfl ?_; cbv)
  exact ⟨leS_refl _, leS_refl _, trivial⟩
 ·have h2 := c2 h
  have h3 := c3 h
  generalize intZ T = W at *
  cbv
  refine callS' rfl okA (c0) rfl ?_
  cbv
  refine cut_dec (fun h4 => ?_) (fun h4 => ?_)
  ·cbv
   refine callS' rfl okA (s222 m2 m1 (by omega) (by omega)) rfl ?_
   cbv
   refine callS' rfl okA (h3 h4) rfl ?_
   cbv
   (refine retC rfl ?_; cbv)
   exact ⟨leS_refl _, leS_refl _, trivial⟩
  ·cbv
   refine callS' rfl okA (s222 m1 m2 (by omega) (by omega)) rfl ?_
   cbv
   refine callS' rfl okA (h2 h4) rfl ?_
   cbv
   (refine retC rfl ?_; cbv)
   exact ⟨leS_refl _, leS_refl _, trivial⟩
theorem hf220 : Pg.funcs[178]? = some Tryz.f178 := by rw [Pg_eq]; rfl
theorem s220 (x y : Z) (hx : x.mag.length < 2^38) (hy : y.mag.length < 2^38) : SoundS 178 [zv x, zv y] (zv (intZ (x.v * y.v))) := by
 refine sound_fn hf220 rfl rfl rfl rfl rfl ?_
 obtain ⟨n1, m1⟩ := x
 obtain ⟨n2, m2⟩ := y
 have hl := len_mul m1 m2
 have hx' : m1.length < 2^38 := hx
 have hy' : m2.length < 2^38 := hy
 have hv : Z.v ⟨n1, m1⟩ * Z.v ⟨n2, m2⟩ = sgn (n1 != n2) (val m1 * val m2) := sgn_mul _ _ _ _
 rw [hv]
 have c1 := s203 (n1 != n2) (limbs (val m1 * val m2)) (by omega)
 rw [val_limbs] at c1
 have hb : (n1 != n2) = !decide (n1 = n2) := by cases n1 <;> cases n2 <;> rfl
 generalize intZ (sgn (n1 != n2) (val m1 * val m2)) = W at *
 generalize hnb : (n1 != n2) = nb at *
 cbv
 refine draw_of 11 (by cbv) ?_
 cbv
 refine callS_d okA (s194 m1 m2 (by omega) (by omega)) rfl ?_
 cbv
 refine callS_d (by exact ⟨leS_nbool hb, leS_refl _, trivial⟩) c1 rfl ?_
 cbv
 (refine retC rfl ?_; cbv)
 exact ⟨leS_refl _, leS_refl _, trivial⟩
end Go.Proofs.YtcanljninhfmhaaGreat

namespace Go.Proofs.YtcanljninhfmhaaGreat
open Go
set_option linter.unusedVariables false
set_option maxRecDepth 100000
abbrev rv (x : R) : PV := .agg [.bool (fun _ => x.neg), nat x.num, nat x.den]
structure R.sz (x : R) (k : Nat) : Prop where
 n : x.num.length ≤ k
 d : x.den.length ≤ k
theorem ratR_sz {k : Nat} {q : Rat} (h : Fits k q) : (ratR q).sz k := ⟨h.lnum, h.lden⟩
theorem R.sz.fits {k : Nat} {x : R} (h : x.sz k) (hk : 1 ≤ k) : Fits k x.q := fits_R h.n h.d hk
theorem R.sz.mono {k m : Nat} {x : R} (h : x.sz k) (hm : k ≤ m) : x.sz m := ⟨Nat.le_trans h.n hm, Nat.le_trans h.d hm⟩
def underL (d : List UInt32) : List UInt32 := if val d = 0 then [1] else d
theorem val_under (x : R) : val (underL x.den) = x.d := by
 unfold underL R.d
 split
 ·rfl
 ·rfl
theorem under_len (d : List UInt32) : (underL d).length ≤ d.length + 1 := by unfold underL; split <;> simp
theorem limbs_one : limbs 1 = [1] := by rw [limbs_pos (by decide)]; rw [show 1 / B = 0 by decide, limbs_zero]; rfl
theorem limbs_eq_one {n : Nat} : limbs n = [1] ↔ n = 1 := by
 constructor
 ·intro h
  have := val_limbs n
  rw [h] at this
  exact this.symm
 ·intro h; rw [h, limbs_one]
theorem hf210 : Pg.funcs[173]? = some Tryz.f173 := by rw [Pg_eq]; rfl
theorem s210 : SoundS 173 [] (nat [1]) := by
 refine sound_fn hf210 rfl rfl rfl rfl rfl ?_
 cbv
 (refine retC rfl ?_; cbv)
 exact leS_sl rfl
theorem hf224 : Pg.funcs[182]? = some Tryz.f182 := by rw [Pg_eq]; rfl
theorem s224 (l : List UInt32) (hl : l.length < 2^40) : SoundS 182 [nat l] (.bool (fun _ => decide (l = [1]))) := by
 refine sound_fn hf224 rfl rfl rfl rfl rfl ?_
 generalize hd : decide (l = [1]) = d
 cbv
 refine br_dec (fun h => ?_) (fun h => ?_)
 ·have h1 : l.length = 1 := om
  cbv
  refine idx_lm 0 rfl (by omega) ?_
  cbv
  (refine retC rfl ?_; cbv)
  refine leS_bool ?_
  rw [← hd, decide_eq_decide]
  match l, h1 with
  | [x], _ =>
   have e1 : [x].getD 0 0 = x := rfl
   rw [e1]
   constructor
   ·intro h2
    have : x = 1 := UInt32.toNat_inj.1 (by show x.toNat = 1; (try dsimp only [ncast] at *); omega)
    rw [this]
   ·intro h2; rw [List.cons.inj h2 |>.1]; rfl
 ·cbv
  (refine retC rfl ?_; cbv)
  refine leS_ff ?_
  rw [← hd]
  exact decide_eq_false fun e => h (by rw [e]; rfl)
theorem hf195 : Pg.funcs[142]? = some Tryz.f142 := by rw [Pg_eq]; rfl
theorem s195 (x : R) (hx : x.den.length < 2^40) : SoundS 142 [rv x] (nat (underL x.den)) := by
 refine sound_fn hf195 rfl rfl rfl rfl rfl ?_
 obtain ⟨neg, num, den⟩ := x
 have h0 : ((bitsP (val den) : Nat) : Int) = 0 ↔ val den = 0 := by rw [← bitsP_eq0]; omega
 have hs := s202 den hx
 have e1 : val den = 0 → underL den = [1] := fun h => if_pos h
 have e2 : val den ≠ 0 → underL den = den := fun h => if_neg h
 show wp _ _ (postOf _ (nat (underL den)) [] [])
 generalize underL den = u at *
 generalize bitsP (val den) = b at h0 hs
 cbv
 refine callS' rfl okA (hs) rfl ?_
 cbv
 refine cut_dec (fun h => ?_) (fun h => ?_)
 ·cbv
  refine callS' rfl okA (s210) rfl ?_
  cbv
  (refine retC rfl ?_; cbv)
  exact leS_sl (by rw [e1 (h0.1 h)])
 ·cbv
  (refine retC rfl ?_; cbv)
  exact leS_sl (by rw [e2 (fun e => h (h0.2 e))])
theorem hf193 : Pg.funcs[140]? = some Tryz.f140 := by rw [Pg_eq]; rfl
theorem s193 (neg : Bool) (num den : List UInt32) (hn : num.length < 2^38) (hd : den.length < 2^38) (h0 : val den ≠ 0) : SoundS 140 [.bool (fun _ => neg), nat num, nat den] (rv (ratR (mkRat (sgn neg (val num)) (val den)))) := by
 refine sound_fn hf193 rfl rfl rfl rfl rfl ?_
 rw [quo_parts h0]
 have hnl := limbs_length_le' num
 have hdl := limbs_length_le' den
 have hg0 : Nat.gcd (val num) (val den) ≠ 0 := fun e => h0 (Nat.eq_zero_of_gcd_eq_zero_right e)
 have cg := s225 (limbs (val num)) (limbs (val den)) (by omega) (by omega)
 have cn := s226 (limbs (val num)) (limbs (Nat.gcd (val num) (val den))) (by omega) (Nat.lt_of_le_of_lt (len_le_val (Nat.le_of_dvd (Nat.pos_of_ne_zero h0) (Nat.gcd_dvd_right _ _))) (by omega)) (by rw [val_limbs]; exact hg0)
 have cd := s226 (limbs (val den)) (limbs (Nat.gcd (val num) (val den))) (by omega) (Nat.lt_of_le_of_lt (len_le_val (Nat.le_of_dvd (Nat.pos_of_ne_zero h0) (Nat.gcd_dvd_right _ _))) (by omega)) (by rw [val_limbs]; exact hg0)
 have cu := s224 (limbs (Nat.gcd (val num) (val den))) (Nat.lt_of_le_of_lt (len_le_val (Nat.le_of_dvd (Nat.pos_of_ne_zero h0) (Nat.gcd_dvd_right _ _))) (by omega))
 have cf := s224 (limbs (val den / Nat.gcd (val num) (val den))) (Nat.lt_of_le_of_lt (len_le_val (Nat.div_le_self _ _)) (by omega))
 have cd1 := s224 (limbs (val den)) (by omega)
 have cm1 := s223 num (by omega)
 have cm2 := s223 den (by omega)
 rw [val_limbs, val_limbs] at cg cn cd
 have hN : ∀ n, ((lm (limbs n)).length : Int) = 0 ↔ n = 0 := fun n => by
  rw [lm_length, ← @limbs_eq_nil n, ← List.length_eq_zero_iff]; omega
 have hge1 : Nat.gcd (val num) (val den) = 1 → val num / Nat.gcd (val num) (val den) = val num ∧ val den / Nat.gcd (val num) (val den) = val den := fun e => by rw [e, Nat.div_one, Nat.div_one]; exact ⟨rfl, rfl⟩
 have hz : val num = 0 → val num / Nat.gcd (val num) (val den) = 0 ∧ val den / Nat.gcd (val num) (val den) = 1 := fun e => by rw [e, Nat.gcd_zero_left, Nat.zero_div, Nat.div_self (Nat.pos_of_ne_zero h0)]; exact ⟨rfl, rfl⟩
 have hd1 : val den = 1 → Nat.gcd (val num) (val den) = 1 := fun e => by rw [e, Nat.gcd_one_right]
 generalize val den / Nat.gcd (val num) (val den) = D' at *
 generalize val num / Nat.gcd (val num) (val den) = N' at *
 generalize Nat.gcd (val num) (val den) = g at *
 generalize val num = N at *
 generalize val den = Dn at *
 show wp _ _ (postOf _ (.agg [.bool (fun _ => neg && decide (N ≠ 0)), nat (limbs N'), nat (if D' = 1 then [] else limbs D')]) [] [])
 generalize hr1 : (neg && decide (N ≠ 0)) = r1
 generalize hr2 : (if D' = 1 then [] else limbs D') = r2
 cbv
 refine callS' rfl okA (cm1) rfl ?_
 cbv
 refine cut_dec (fun h => ?_) (fun h => ?_)
 ·have e := (hN N).1 h
  obtain ⟨e1, e2⟩ := hz e
  cbv
  (refine retC rfl ?_; cbv)
  refine ⟨leS_ff ?_, leS_nil ?_, leS_nil ?_, trivial⟩
  ·rw [← hr1, e]; simp
  ·rw [e1, limbs_zero]; rfl
  ·rw [← hr2, if_pos e2]; rfl
 ·have e := fun e => h ((hN N).2 e)
  have hr1' : neg = r1 := by rw [← hr1, show decide (N ≠ 0) = true from decide_eq_true e, Bool.and_true]
  cbv
  refine callS' rfl okA (cm2) rfl ?_
  cbv
  refine callS' rfl okA (cd1) rfl ?_
  cbv
  refine cut_dec (fun h2 => ?_) (fun h2 => ?_)
  ·have e1 := limbs_eq_one.1 h2
   have e3 := hd1 e1
   obtain ⟨e4, e5⟩ := hge1 e3
   cbv
   (refine retC rfl ?_; cbv)
   refine ⟨leS_bool hr1', leS_sl (by rw [e4]), leS_nil ?_, trivial⟩
   rw [← hr2, if_pos (by rw [e5, e1])]; rfl
  ·cbv
   refine callS' rfl okA (cg) rfl ?_
   cbv
   refine callS' rfl okA (cu) rfl ?_
   cbv
   refine cut_meet (σ := Unit) (fun _ => ⟨[(0, .bool (fun _ => neg)), (1, nat (limbs N')), (2, nat (limbs D')), (6, .ptr 6 0)], [(6, .box [.ff, .nil, .nil])]⟩) (fun _ => True) (fun h3 => ?_) (fun h3 => ?_) ?_
   ·have e3 := limbs_eq_one.1 h3
    obtain ⟨e4, e5⟩ := hge1 e3
    cbv
    refine ⟨(), trivial, .le ?_ ?_ rfl⟩
    ·cbv
     exact ⟨leS_refl _, leS_sl (by rw [e4]), leS_sl (by rw [e5]), leS_refl _, trivial⟩
    ·cbv
     exact ⟨⟨leS_refl _, leS_refl _, leS_refl _, trivial⟩, trivial⟩
   ·cbv
    refine callS' rfl okA (cn) rfl ?_
    cbv
    refine callS' rfl okA (cd) rfl ?_
    cbv
    refine ⟨(), trivial, .le ?_ ?_ rfl⟩
    ·cbv
     exact ⟨leS_refl _, leS_refl _, leS_refl _, leS_refl _, trivial⟩
    ·cbv
     exact ⟨⟨leS_refl _, leS_refl _, leS_refl _, trivial⟩, trivial⟩
   intro _ _
   cbv
   refine callS' rfl okA (cf) rfl ?_
   cbv
   refine cut_dec (fun h3 => ?_) (fun h3 => ?_)
   ·cbv
    (refine retC rfl ?_; cbv)
    exact ⟨leS_bool hr1', leS_refl _, leS_nil (by rw [← hr2, if_pos (limbs_eq_one.1 h3)]; rfl), trivial⟩
   ·cbv
    (refine retC rfl ?_; cbv)
    exact ⟨leS_bool hr1', leS_refl _, leS_sl (by rw [← hr2, if_neg (fun e => h3 (limbs_eq_one.2 e))]), trivial⟩
theorem hf161 : Pg.funcs[130]? = some Tryz.f130 := by rw [Pg_eq]; rfl
theorem s161 (x : R) (hx : x.sz (2^36)) : SoundS 130 [rv x] (rv (ratR x.q)) := by
 refine sound_fn hf161 rfl rfl rfl rfl rfl ?_
 have h1 := hx.n
 have h2 := hx.d
 have h3 := under_len x.den
 have cu := s195 x (by omega)
 have cq := s193 x.neg x.num (underL x.den) (by omega) (by omega) (by rw [val_under]; exact x.d_ne)
 rw [val_under] at cq
 have e : mkRat (sgn x.neg (val x.num)) x.d = x.q := rfl
 rw [e] at cq
 generalize ratR x.q = W at *
 generalize underL x.den = u at *
 obtain ⟨neg, num, den⟩ := x
 cbv
 refine draw_of 7 (by cbv) ?_
 cbv
 refine callS_d okA (cu) rfl ?_
 cbv
 refine callS_d okA (cq) rfl ?_
 cbv
 (refine retC rfl ?_; cbv)
 exact ⟨leS_refl _, leS_refl _, leS_refl _, trivial⟩
theorem ok_iff (x : R) : x.ok = true ↔ (x.neg = (ratR x.q).neg ∧ x.num.length = (ratR x.q).num.length ∧ x.den.length = (ratR x.q).den.length ∧ cmpI (val x.num) (val (ratR x.q).num) = 0 ∧ cmpI (val x.den) (val (ratR x.q).den) = 0) := by
 have hc : ∀ a b, cmpI a b = 0 ↔ a = b := fun a b => by unfold cmpI; split <;> (try split) <;> omega
 simp only [R.ok, decide_eq_true_eq, hc]
 constructor
 ·intro h
  rw [← h]
  exact ⟨rfl, rfl, rfl, rfl, rfl⟩
 ·rintro ⟨h1, h2, h3, h4, h5⟩
  have e1 := val_inj h2 h4
  have e2 := val_inj h3 h5
  generalize ratR x.q = y at *
  obtain ⟨a, b, c⟩ := x
  obtain ⟨a', b', c'⟩ := y
  simp only at h1 e1 e2
  rw [h1, e1, e2]
theorem ok_nil (neg : Bool) (num : List UInt32) : R.ok ⟨neg, num, []⟩ = (canon num && (!neg || decide (0 < num.length))) := by
 have hq : R.q ⟨neg, num, []⟩ = mkRat (sgn neg (val num)) 1 := rfl
 have hp := quo_parts (neg := neg) (n := val num) (d := 1) (by decide)
 rw [Bool.eq_iff_iff]
 simp only [R.ok, decide_eq_true_eq, hq, hp, Nat.gcd_one_right, Nat.div_one, if_true, R.mk.injEq, and_true, Bool.and_eq_true, Bool.or_eq_true, Bool.not_eq_true']
 have hlen : 0 < num.length ↔ num ≠ [] := by rw [← List.length_pos_iff]
 constructor
 ·rintro ⟨h1, h2⟩
  have hcn : canon num = true := by rw [h2]; exact canon_limbs _
  refine ⟨hcn, ?_⟩
  cases neg with
  | false => exact .inl rfl
  | true =>
   right
   rw [hlen]
   intro e
   rw [e] at h1
   simp [val] at h1
 ·rintro ⟨h1, h2⟩
  refine ⟨?_, (limbs_val h1).symm⟩
  cases neg with
  | false => rfl
  | true =>
   have := hlen.1 (h2.resolve_left (by decide))
   have := val_pos h1 this
   simp; omega
theorem hf103 : Pg.funcs[81]? = some Tryz.f81 := by rw [Pg_eq]; rfl
theorem s103 (x : R) (hx : x.sz (2^36)) : SoundS 81 [rv x] (.bool (fun _ => x.ok)) := by
 refine sound_fn hf103 rfl rfl rfl rfl rfl ?_
 have h1 := hx.n
 have h2 := hx.d
 have hok := ok_iff x
 have hnil : x.den.length = 0 → x.ok = (canon x.num && (!x.neg || decide (0 < x.num.length))) := by
  intro h
  obtain ⟨a, b, c⟩ := x
  have : c = [] := List.eq_nil_of_length_eq_zero h
  subst this
  exact ok_nil a b
 have cc := s161 x hx
 have cv := s160 x.num (by omega)
 have hf : Fits (2^36) x.q := hx.fits (by decide)
 have hl1 := hf.lnum
 have hl2 := hf.lden
 have cm1 := s162 x.num (ratR x.q).num (by omega) (by omega)
 have cm2 := s162 x.den (ratR x.q).den (by omega) (by omega)
 generalize hO : x.ok = O at *
 generalize ratR x.q = W at *
 clear hf
 obtain ⟨neg, num, den⟩ := x
 obtain ⟨neg', num', den'⟩ := W
 simp only at *
 generalize cmpI (val num) (val num') = c1 at *
 generalize cmpI (val den) (val den') = c2 at *
 cbv
 refine cut_dec (fun h => ?_) (fun h => ?_)
 ·have e := hnil om
  cbv
  refine callS' rfl okA (cv) rfl ?_
  generalize canon num = cn at *
  cbv
  refine br_bool (fun h3 => ?_) (fun h3 => ?_)
  ·subst h3
   cbv
   refine br_bool (fun h4 => ?_) (fun h4 => ?_)
   ·subst h4
    cbv
    (refine retC rfl ?_; cbv)
    exact leS_bool (by rw [e]; simp [lm_length])
   ·subst h4
    cbv
    (refine retC rfl ?_; cbv)
    exact leS_tt (by rw [e]; rfl)
  ·subst h3
   cbv
   (refine retC rfl ?_; cbv)
   exact leS_ff (by rw [e]; rfl)
 ·cbv
  refine callS' rfl okA (cc) rfl ?_
  cbv
  have hno : ∀ P : Prop, ¬ P → (O = true → P) → O = false := fun P h h' => by cases O; rfl; exact absurd (h' rfl) h
  refine br_dec (fun h3 => ?_) (fun h3 => ?_)
  ·cbv
   refine br_dec (fun h4 => ?_) (fun h4 => ?_)
   ·cbv
    refine br_dec (fun h5 => ?_) (fun h5 => ?_)
    ·cbv
     refine callS' rfl okA (cm1) rfl ?_
     cbv
     refine br_dec (fun h6 => ?_) (fun h6 => ?_)
     ·cbv
      refine callS' rfl okA (cm2) rfl ?_
      cbv
      (refine retC rfl ?_; cbv)
      refine leS_bool ?_
      rw [Bool.eq_iff_iff, hok, decide_eq_true_eq]
      (try dsimp only [ncast] at *)
      simp only [lm_length] at h4 h5
      exact ⟨fun h7 => ⟨h3, by omega, by omega, h6, h7⟩, fun h7 => h7.2.2.2.2⟩
     ·cbv
      (refine retC rfl ?_; cbv)
      exact leS_ff (hno _ h6 fun h7 => (hok.1 h7).2.2.2.1)
    ·cbv
     (refine retC rfl ?_; cbv)
     refine leS_ff (hno _ h5 fun h7 => ?_)
     have := (hok.1 h7).2.2.1
     (try dsimp only [ncast] at *)
     simp only [lm_length]; omega
   ·cbv
    (refine retC rfl ?_; cbv)
    refine leS_ff (hno _ h4 fun h7 => ?_)
    have := (hok.1 h7).2.1
    (try dsimp only [ncast] at *)
    simp only [lm_length]; omega
  ·cbv
   (refine retC rfl ?_; cbv)
   exact leS_ff (hno _ h3 fun h7 => (hok.1 h7).1)
end Go.Proofs.YtcanljninhfmhaaGreat
