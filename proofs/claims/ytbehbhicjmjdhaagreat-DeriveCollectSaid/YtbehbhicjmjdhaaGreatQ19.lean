/- CONTRACTS: natural, part J: Gcd. * PLAIN LAWS, part C: rational numbers in rows of limbs. No program. -/
import Derived.Test.YtbehbhicjmjdhaaGreatQ18
import Derived.Test.YtbehbhicjmjdhaaGreatQ14

namespace Go.Proofs.YtbehbhicjmjdhaaGreat
open Go
set_option linter.unusedVariables false
set_option maxRecDepth 100000

theorem len_le_val {n m : Nat} (h : n ≤ m) : (limbs n).length ≤ (limbs m).length := by
  rcases Nat.lt_or_ge (limbs m).length (limbs n).length with h1 | h1
  · have := cmp_len h1; omega
  · exact h1
theorem hf225 : Pg.funcs[86]? = some Tryz.f86 := by rw [Pg_eq]; rfl
theorem s225 (a b : List UInt32) (ha : a.length < 2^39) (hb : b.length < 2^39) : SoundS 86 [nat a, nat b] (nat (limbs (Nat.gcd (val a) (val b)))) := by
  refine sound_fn hf225 rfl rfl rfl rfl rfl ?_
  have ha' := Nat.lt_of_le_of_lt (limbs_length_le' a) ha
  have hb' := Nat.lt_of_le_of_lt (limbs_length_le' b) hb
  have hBB : B * B = 18446744073709551616 := by decide
  generalize hg : Nat.gcd (val a) (val b) = g
  cbv
  refine callS' rfl (by exact ⟨leS_refl _, trivial⟩) (s209 a (by omega)) rfl ?_
  cbv
  refine callS' rfl (by exact ⟨leS_refl _, trivial⟩) (s209 b (by omega)) rfl ?_
  cbv
  refine loop_n (σ := Nat × Nat) (fun z => ⟨[(0, nat (limbs z.1)), (1, nat (limbs z.2))], []⟩) (fun z => (limbs z.1).length < 2^39 ∧ (limbs z.2).length < 2^39 ∧ Nat.gcd z.1 z.2 = g) (fun z => z.2) (val a, val b) ⟨ha', hb', hg⟩ (.le ?_ trivial rfl) ?_
  · cbv
    exact ⟨leS_refl _, leS_refl _, trivial⟩
  intro z hz
  obtain ⟨h1, h2, h3⟩ := hz
  generalize z.1 = x at *
  generalize z.2 = y at *
  cbv
  refine cut_dec (fun h4 => ?_) (fun h4 => ?_)
  · cbv
    have hy : y ≠ 0 := fun e => by subst e; (try dsimp only [ncast] at *); simp [lm, limbs_zero] at h4
    refine callS' rfl (by exact ⟨leS_refl _, leS_refl _, trivial⟩) (s226 (limbs x) (limbs y) h1 h2 (by rw [val_limbs]; exact hy)) rfl ?_
    cbv
    have hm := Nat.mod_lt x (Nat.pos_of_ne_zero hy)
    refine ⟨(y, x % y), ⟨h2, Nat.lt_of_le_of_lt (len_le_val (Nat.le_of_lt hm)) h2, by rw [Nat.gcd_comm, ← Nat.gcd_rec, Nat.gcd_comm]; exact h3⟩, hm, .le ?_ trivial rfl⟩
    cbv
    exact ⟨leS_refl _, leS_sl (by rw [val_limbs, val_limbs]), trivial⟩
  · have hy2 : y < B * B := len2.1 (by (try dsimp only [ncast] at *); rw [lm_length] at h4; omega)
    cbv
    refine cut_dec (fun h5 => ?_) (fun h5 => ?_)
    · have hy : y = 0 := limbs_eq_nil.1 (List.eq_nil_of_length_eq_zero (by (try dsimp only [ncast] at *); rw [lm_length] at h5; omega))
      subst hy
      cbv
      refine callS' rfl (by exact ⟨leS_refl _, trivial⟩) (s223 (limbs x) (by omega)) rfl ?_
      cbv
      refine ret0 rfl (leS_sl ?_) rfl
      rw [val_limbs, ← h3, Nat.gcd_zero_right]
    · have hy : y ≠ 0 := fun e => h5 (by subst e; simp [lm, limbs_zero])
      have hm := Nat.mod_lt x (Nat.pos_of_ne_zero hy)
      cbv
      refine callS' rfl (by exact ⟨leS_refl _, leS_refl _, trivial⟩) (s226 (limbs x) (limbs y) h1 h2 (by rw [val_limbs]; exact hy)) rfl ?_
      rw [val_limbs, val_limbs]
      cbv
      refine callS' rfl (by exact ⟨leS_refl _, trivial⟩) (s231 (limbs y) (by omega)) rfl ?_
      rw [val_limbs, if_pos hy2]
      cbv
      refine callS' rfl (by exact ⟨leS_refl _, trivial⟩) (s231 (limbs (x % y)) (Nat.lt_of_le_of_lt (len_le_val (Nat.le_of_lt hm)) (by omega))) rfl ?_
      rw [val_limbs, if_pos (by omega)]
      cbv
      refine loop_n (σ := Nat × Nat) (fun z => ⟨[(11, .int .u64 (fun _ => (z.1 : Int))), (13, .int .u64 (fun _ => (z.2 : Int)))], []⟩) (fun z => z.1 < B * B ∧ z.2 < B * B ∧ Nat.gcd z.1 z.2 = g) (fun z => z.2) (y, x % y) ⟨hy2, by omega, by rw [Nat.gcd_comm, ← Nat.gcd_rec, Nat.gcd_comm]; exact h3⟩ (.le ?_ trivial rfl) ?_
      · cbv
        exact ⟨leS_refl _, leS_refl _, trivial⟩
      clear hm hy h3 h4 h5 h1 h2 hy2
      intro z hz
      obtain ⟨h1, h2, h3⟩ := hz
      generalize z.1 = x at *
      generalize z.2 = y at *
      cbv
      refine cut_dec (fun h4 => ?_) (fun h4 => ?_)
      · have hy : 0 < y := (by (try dsimp only [ncast] at *) <;> (try simp only [lm_length] at *) <;> omega)
        have hm := Nat.mod_lt x hy
        cbv
        refine draw_of 5 (by cbv) ?_
        cbv
        refine ⟨nz_of (by (try dsimp only [ncast] at *) <;> (try simp only [lm_length] at *) <;> omega), (y, x % y), ⟨h2, by omega, by rw [Nat.gcd_comm, ← Nat.gcd_rec, Nat.gcd_comm]; exact h3⟩, hm, .le ?_ trivial rfl⟩
        cbv
        exact ⟨leS_refl _, leS_int irem_nat, trivial⟩
      · have hy : y = 0 := (by (try dsimp only [ncast] at *) <;> (try simp only [lm_length] at *) <;> omega)
        subst hy
        cbv
        refine callS' rfl (by exact ⟨leS_refl _, trivial⟩) (s211 x h1) rfl ?_
        cbv
        refine ret0 rfl (leS_sl ?_) rfl
        rw [← h3, Nat.gcd_zero_right]
end Go.Proofs.YtbehbhicjmjdhaaGreat

namespace Go.Proofs.YtbehbhicjmjdhaaGreat

/-- A number of the program's, in whatever form. -/
structure R where
  neg : Bool
  num : List UInt32
  den : List UInt32
deriving DecidableEq

def sgn (b : Bool) (n : Nat) : Int := if b then -(n : Int) else n
theorem sgn_natAbs (b : Bool) (n : Nat) : (sgn b n).natAbs = n := by cases b <;> simp [sgn]
theorem sgn_zero (b : Bool) : sgn b 0 = 0 := by cases b <;> rfl
theorem sgn_eq_zero {b : Bool} {n : Nat} : sgn b n = 0 ↔ n = 0 := by cases b <;> simp [sgn] <;> omega
theorem sgn_lt {b : Bool} {n : Nat} : sgn b n < 0 ↔ (b = true ∧ n ≠ 0) := by cases b <;> simp [sgn] <;> omega
theorem sgn_self (z : Int) : sgn (decide (z < 0)) z.natAbs = z := by
  by_cases h : z < 0 <;> simp [sgn, h] <;> omega
theorem sgn_mul (a b : Bool) (n m : Nat) : sgn a n * sgn b m = sgn (a != b) (n * m) := by
  cases a <;> cases b <;> simp [sgn, Int.neg_mul, Int.mul_neg]
theorem sgn_mul_nat (a : Bool) (n m : Nat) : sgn a n * (m : Int) = sgn a (n * m) := by
  cases a <;> simp [sgn, Int.neg_mul]
theorem sgn_not (a : Bool) (n : Nat) : sgn (!a) n = - sgn a n := by cases a <;> simp [sgn]

def R.n (x : R) : Int := sgn x.neg (val x.num)
def R.d (x : R) : Nat := if val x.den = 0 then 1 else val x.den
def R.q (x : R) : Rat := mkRat x.n x.d
theorem R.d_ne (x : R) : x.d ≠ 0 := by unfold R.d; split <;> omega
theorem R.d_pos (x : R) : 0 < x.d := Nat.pos_of_ne_zero x.d_ne

/-- The canonical form. -/
def ratR (q : Rat) : R := ⟨decide (q.num < 0), limbs q.num.natAbs, if q.den = 1 then [] else limbs q.den⟩
theorem n_ratR (q : Rat) : (ratR q).n = q.num := by simp only [R.n, ratR, val_limbs]; exact sgn_self _
theorem d_ratR (q : Rat) : (ratR q).d = q.den := by
  have := q.den_pos
  unfold R.d ratR
  by_cases h : q.den = 1
  · simp [h, val]
  · simp only [h, if_false, val_limbs]; split <;> omega
theorem q_ratR (q : Rat) : (ratR q).q = q := by rw [R.q, n_ratR, d_ratR]; exact Rat.mkRat_self q
theorem ratR_inj {a b : Rat} (h : ratR a = ratR b) : a = b := by rw [← q_ratR a, h, q_ratR]
theorem ratR_zero : ratR 0 = ⟨false, [], []⟩ := by simp [ratR, limbs_zero]

theorem quo_num {neg : Bool} {n d : Nat} (hd : d ≠ 0) : (mkRat (sgn neg n) d).num = sgn neg (n / Nat.gcd n d) := by
  rw [Rat.num_mkRat, if_neg hd, sgn_natAbs, Nat.gcd_comm]
  have hg : ((Nat.gcd n d : Nat) : Int) ∣ (n : Int) := Int.natCast_dvd_natCast.2 (Nat.gcd_dvd_left n d)
  cases neg
  · simp only [sgn]; rfl
  · simp only [sgn]
    show (-(n : Int)) / ((Nat.gcd n d : Nat) : Int) = - ((n / Nat.gcd n d : Nat) : Int)
    rw [Int.neg_ediv_of_dvd hg]; rfl
theorem quo_den {neg : Bool} {n d : Nat} (hd : d ≠ 0) : (mkRat (sgn neg n) d).den = d / Nat.gcd n d := by
  rw [Rat.den_mkRat, if_neg hd, sgn_natAbs, Nat.gcd_comm]

/-- How a quotient is brought into its form. -/
theorem quo_parts {neg : Bool} {n d : Nat} (hd : d ≠ 0) :
    ratR (mkRat (sgn neg n) d) = ⟨neg && decide (n ≠ 0), limbs (n / Nat.gcd n d), if d / Nat.gcd n d = 1 then [] else limbs (d / Nat.gcd n d)⟩ := by
  rw [ratR, quo_num hd, quo_den hd, sgn_natAbs]
  congr 1
  rw [Bool.eq_iff_iff]
  have hg : 0 < Nat.gcd n d := Nat.gcd_pos_of_pos_right n (Nat.pos_of_ne_zero hd)
  have h1 : n / Nat.gcd n d = 0 ↔ n = 0 := by
    rw [Nat.div_eq_zero_iff_lt hg]
    constructor
    · intro h
      rcases Nat.eq_zero_or_pos n with h0 | h0
      · exact h0
      · have := Nat.gcd_le_left d h0; omega
    · intro h; omega
  simp only [decide_eq_true_eq, Bool.and_eq_true, sgn_lt, ne_eq, h1]

theorem quo_zero {neg : Bool} {d : Nat} : ratR (mkRat (sgn neg 0) d) = ⟨false, [], []⟩ := by rw [sgn_zero, Rat.zero_mkRat, ratR_zero]

theorem q_add (a b : R) : a.q + b.q = mkRat (a.n * b.d + b.n * a.d) (a.d * b.d) := Rat.mkRat_add_mkRat _ _ a.d_ne b.d_ne
theorem q_mul (a b : R) : a.q * b.q = mkRat (a.n * b.n) (a.d * b.d) := Rat.mkRat_mul_mkRat _ _ _ _
theorem q_neg (a : R) : (⟨!a.neg, a.num, a.den⟩ : R).q = - a.q := by
  simp only [R.q, R.n, R.d, sgn_not, Rat.neg_mkRat]
theorem mkRat_nonneg {n : Int} {d : Nat} (hd : d ≠ 0) : 0 ≤ mkRat n d ↔ 0 ≤ n := by
  rw [← Rat.divInt_ofNat]; exact Rat.divInt_nonneg_iff_of_pos_right (by omega)
theorem q_sub (a b : R) : a.q - b.q = mkRat (a.n * b.d - b.n * a.d) (a.d * b.d) := by
  rw [Rat.sub_eq_add_neg, ← q_neg, q_add]
  simp only [R.n, R.d, sgn_not, Int.neg_mul, Int.sub_eq_add_neg]
theorem q_le (a b : R) : a.q ≤ b.q ↔ a.n * b.d ≤ b.n * a.d := by
  rw [Rat.le_iff_sub_nonneg, q_sub, mkRat_nonneg (Nat.mul_ne_zero b.d_ne a.d_ne)]
  omega
theorem q_lt (a b : R) : a.q < b.q ↔ a.n * b.d < b.n * a.d := by
  rw [← Rat.not_le, q_le]; omega
theorem q_eq_zero (a : R) : a.q = 0 ↔ a.n = 0 := Rat.mkRat_eq_zero a.d_ne
theorem q_nonneg (a : R) : 0 ≤ a.q ↔ 0 ≤ a.n := mkRat_nonneg a.d_ne
theorem q_neg_iff (a : R) : a.q < 0 ↔ a.n < 0 := by rw [← Rat.not_le, q_nonneg]; omega
theorem q_pos (a : R) : 0 < a.q ↔ 0 < a.n := by
  have h1 := q_nonneg a; have h2 := q_eq_zero a
  rw [Rat.lt_iff_le_and_ne]
  constructor
  · rintro ⟨h, h'⟩; have := h1.1 h; have : a.n ≠ 0 := fun e => h' (h2.2 e).symm; omega
  · intro h; exact ⟨h1.2 (by omega), fun e => by have := h2.1 e.symm; omega⟩

/-- The sign, and the order, as numbers. -/
def sgnQ (q : Rat) : Int := if q < 0 then -1 else if 0 < q then 1 else 0
def cmpQ (a b : Rat) : Int := if a < b then -1 else if b < a then 1 else 0
def sgnI (z : Int) : Int := if z < 0 then -1 else if 0 < z then 1 else 0
def cmpZ (a b : Int) : Int := if a < b then -1 else if b < a then 1 else 0
theorem sgnQ_q (a : R) : sgnQ a.q = sgnI a.n := by simp only [sgnQ, sgnI, q_neg_iff, q_pos]
theorem cmpQ_q (a b : R) : cmpQ a.q b.q = cmpZ (a.n * b.d) (b.n * a.d) := by simp only [cmpQ, cmpZ, q_lt]

/-! ### Sizes -/

/-- Numerator and denominator have at most k limbs. -/
structure Fits (k : Nat) (q : Rat) : Prop where
  num : q.num.natAbs < B ^ k
  den : q.den < B ^ k
theorem Fits.mono {k m : Nat} {q : Rat} (h : Fits k q) (hm : k ≤ m) : Fits m q :=
  ⟨Nat.lt_of_lt_of_le h.num (Nat.pow_le_pow_right B_pos hm), Nat.lt_of_lt_of_le h.den (Nat.pow_le_pow_right B_pos hm)⟩
theorem fits_mkRat {k : Nat} {n : Int} {d : Nat} (hn : n.natAbs < B ^ k) (hd : d < B ^ k) (h0 : d ≠ 0) : Fits k (mkRat n d) := by
  have hs : n = sgn (decide (n < 0)) n.natAbs := (sgn_self n).symm
  rw [hs]
  refine ⟨?_, ?_⟩
  · rw [quo_num h0, sgn_natAbs]
    exact Nat.lt_of_le_of_lt (Nat.div_le_self _ _) hn
  · rw [quo_den h0]
    exact Nat.lt_of_le_of_lt (Nat.div_le_self _ _) hd
theorem fits_R {k : Nat} {x : R} (h1 : x.num.length ≤ k) (h2 : x.den.length ≤ k) (hk : 1 ≤ k) : Fits k x.q := by
  refine fits_mkRat ?_ ?_ x.d_ne
  · rw [R.n, sgn_natAbs]
    exact Nat.lt_of_lt_of_le (val_lt _) (Nat.pow_le_pow_right B_pos h1)
  · unfold R.d
    split
    · exact Nat.lt_of_lt_of_le (show 1 < B ^ 1 by decide) (Nat.pow_le_pow_right B_pos hk)
    · exact Nat.lt_of_lt_of_le (val_lt _) (Nat.pow_le_pow_right B_pos h2)
theorem Fits.lnum {k : Nat} {q : Rat} (h : Fits k q) : (ratR q).num.length ≤ k := limbs_length_le h.num
theorem Fits.lden {k : Nat} {q : Rat} (h : Fits k q) : (ratR q).den.length ≤ k := by
  unfold ratR
  by_cases h1 : q.den = 1
  · simp [h1]
  · simp only [h1, if_false]; exact limbs_length_le h.den
theorem mul_lt_pow {a b k m : Nat} (ha : a < B ^ k) (hb : b < B ^ m) : a * b < B ^ (k + m) := by
  rw [Nat.pow_add]; exact Nat.mul_lt_mul'' ha hb
theorem fits_mul {k m : Nat} {a b : Rat} (ha : Fits k a) (hb : Fits m b) : Fits (k + m) (a * b) := by
  rw [Rat.mul_def']
  refine fits_mkRat ?_ (mul_lt_pow ha.den hb.den) (Nat.mul_ne_zero a.den_nz b.den_nz)
  rw [Int.natAbs_mul]
  exact mul_lt_pow ha.num hb.num
theorem fits_add {k m : Nat} {a b : Rat} (ha : Fits k a) (hb : Fits m b) : Fits (k + m + 1) (a + b) := by
  rw [Rat.add_def']
  have h1 := mul_lt_pow ha.num hb.den
  have h2 := mul_lt_pow hb.num ha.den
  rw [Nat.add_comm m k] at h2
  have h3 : B ^ (k + m + 1) = B ^ (k + m) * B := Nat.pow_succ _ _
  have hd := mul_lt_pow ha.den hb.den
  have h5 : B ^ (k + m) * 2 ≤ B ^ (k + m) * B := Nat.mul_le_mul_left _ (by decide)
  refine fits_mkRat ?_ ?_ (Nat.mul_ne_zero a.den_nz b.den_nz)
  · have h4 := Int.natAbs_add_le (a.num * b.den) (b.num * a.den)
    rw [Int.natAbs_mul, Int.natAbs_mul, Int.natAbs_natCast, Int.natAbs_natCast] at h4
    rw [h3]; omega
  · rw [h3]; omega
theorem fits_neg {k : Nat} {a : Rat} (ha : Fits k a) : Fits k (-a) := ⟨by rw [Rat.neg_num, Int.natAbs_neg]; exact ha.num, by rw [Rat.neg_den]; exact ha.den⟩
theorem fits_sub {k m : Nat} {a b : Rat} (ha : Fits k a) (hb : Fits m b) : Fits (k + m + 1) (a - b) := by
  rw [Rat.sub_eq_add_neg]; exact fits_add ha (fits_neg hb)
theorem fits_zero {k : Nat} (hk : 1 ≤ k) : Fits k 0 :=
  ⟨by simp; exact Nat.pow_pos B_pos, by simp; exact Nat.lt_of_lt_of_le (show 1 < B ^ 1 by decide) (Nat.pow_le_pow_right B_pos hk)⟩
theorem fits_int {k : Nat} {z : Int} (h : z.natAbs < B ^ k) (hk : 1 ≤ k) : Fits k (z : Rat) :=
  ⟨by simpa using h, by simp; exact Nat.lt_of_lt_of_le (show 1 < B ^ 1 by decide) (Nat.pow_le_pow_right B_pos hk)⟩
theorem fits_inv {k : Nat} {a : Rat} (ha : Fits k a) : Fits k a⁻¹ := by
  refine ⟨?_, ?_⟩
  · rw [Rat.num_inv, Int.natAbs_mul]
    have h1 : a.num.sign.natAbs ≤ 1 := by rw [Int.natAbs_sign]; split <;> omega
    have h2 := ha.den
    have := Nat.mul_le_mul_right ((a.den : Int).natAbs) h1
    rw [Int.natAbs_natCast] at *
    omega
  · rw [Rat.den_inv]
    split
    · have := ha.den; have := a.den_pos; omega
    · exact ha.num

/-- Whether a number has its canonical form. -/
def R.ok (x : R) : Bool := decide (x = ratR x.q)
theorem ok_ratR (q : Rat) : (ratR q).ok = true := by simp [R.ok, q_ratR]
theorem eq_of_ok {x : R} (h : x.ok = true) : x = ratR x.q := of_decide_eq_true h

end Go.Proofs.YtbehbhicjmjdhaaGreat
