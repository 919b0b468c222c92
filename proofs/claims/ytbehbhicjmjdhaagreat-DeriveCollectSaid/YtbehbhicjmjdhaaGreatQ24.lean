/- CONTRACTS: the reference 03 (rational numbers). * CONTRACTS: the reference 03 (rational numbers), part B. -/
import Derived.Test.YtbehbhicjmjdhaaGreatQ23

namespace Go.Proofs.YtbehbhicjmjdhaaGreat
open Go
set_option linter.unusedVariables false
set_option maxRecDepth 100000

/-- The denominator, trimmed. -/
def oneL (d : List UInt32) : List UInt32 := limbs (if val d = 0 then 1 else val d)
theorem val_one (x : R) : val (oneL x.den) = x.d := by
  unfold oneL R.d
  rw [val_limbs]
theorem one_len (d : List UInt32) : (oneL d).length ≤ d.length + 1 := by
  unfold oneL
  split
  · rw [limbs_one]; simp
  · have := limbs_length_le' d; omega
theorem hf100 : Pg.funcs[91]? = some Tryz.f91 := by rw [Pg_eq]; rfl
theorem s100 (d : List UInt32) (hd : d.length < 2^40) : SoundS 91 [nat d] (nat (oneL d)) := by
  refine sound_fn hf100 rfl rfl rfl rfl rfl ?_
  have c1 := s155 d (by omega)
  have e1 : (limbs (val d)).length = 0 → oneL d = [1] := fun h => by unfold oneL; rw [if_pos (limbs_eq_nil.1 (List.eq_nil_of_length_eq_zero h)), limbs_one]
  have e2 : (limbs (val d)).length ≠ 0 → oneL d = limbs (val d) := fun h => by unfold oneL; rw [if_neg (fun e => h (by rw [e, limbs_zero]; rfl))]
  generalize oneL d = u at *
  generalize limbs (val d) = p at *
  cbv
  refine callS' rfl (by repeat' first | exact trivial | exact leS_refl _ | exact leS_tt rfl | exact leS_ff rfl | exact leS_nil rfl | apply And.intro) (c1) rfl ?_
  cbv
  refine cut_dec (fun h => ?_) (fun h => ?_)
  · have := e1 (by (try dsimp only [ncast] at *) <;> (try simp only [lm_length] at *) <;> omega)
    subst this
    cbv
    (refine retC rfl ?_; cbv)
    exact leS_sl rfl
  · have := e2 (by (try dsimp only [ncast] at *); rw [lm_length] at h; omega)
    subst this
    cbv
    (refine retC rfl ?_; cbv)
    exact leS_refl _
theorem hf102 : Pg.funcs[93]? = some Tryz.f93 := by rw [Pg_eq]; rfl
theorem s102 (neg : Bool) (num den : List UInt32) (hn : num.length < 2^33) (hd : den.length < 2^33) (h0 : val den ≠ 0) : SoundS 93 [.bool (fun _ => neg), nat num, nat den] (rv (ratR (mkRat (sgn neg (val num)) (val den)))) := by
  refine sound_fn hf102 rfl rfl rfl rfl rfl ?_
  rw [quo_parts h0]
  have hg0 : Nat.gcd (val num) (val den) ≠ 0 := fun e => h0 (Nat.eq_zero_of_gcd_eq_zero_right e)
  have hgl : (limbs (Nat.gcd (val num) (val den))).length < 2^33 := Nat.lt_of_le_of_lt (Nat.le_trans (len_le_val (Nat.le_of_dvd (Nat.pos_of_ne_zero h0) (Nat.gcd_dvd_right _ _))) (limbs_length_le' den)) hd
  have cg := s158 num den (by omega) (by omega)
  have cn := s159 num (limbs (Nat.gcd (val num) (val den))) (by omega) (by omega) (by rw [val_limbs]; exact hg0)
  have cd := s159 den (limbs (Nat.gcd (val num) (val den))) (by omega) (by omega) (by rw [val_limbs]; exact hg0)
  rw [val_limbs] at cn cd
  have hnz : val num / Nat.gcd (val num) (val den) = 0 ↔ val num = 0 := by
    rw [Nat.div_eq_zero_iff_lt (Nat.pos_of_ne_zero hg0)]
    constructor
    · intro h
      rcases Nat.eq_zero_or_pos (val num) with e | e
      · exact e
      · have := Nat.gcd_le_left (val den) e; omega
    · intro h; omega
  have hdl : (limbs (val den / Nat.gcd (val num) (val den))).length < 2^33 := Nat.lt_of_le_of_lt (Nat.le_trans (len_le_val (Nat.div_le_self _ _)) (limbs_length_le' den)) hd
  generalize val den / Nat.gcd (val num) (val den) = D' at *
  generalize val num / Nat.gcd (val num) (val den) = N' at *
  generalize Nat.gcd (val num) (val den) = g at *
  generalize val num = N at *
  show wp _ _ (postOf _ (.agg [.bool (fun _ => neg && decide (N ≠ 0)), nat (limbs N'), nat (if D' = 1 then [] else limbs D')]) [] [])
  have hN0 : decide (N ≠ 0) = decide (0 < (limbs N').length) := by
    rw [decide_eq_decide, List.length_pos_iff, ne_eq, ne_eq, limbs_eq_nil, hnz]
  rw [hN0]
  have hone := @limbs_eq_one D'
  generalize hr2 : (if D' = 1 then [] else limbs D') = r2
  have hr2a : limbs D' = [1] → r2 = [] := fun h => by rw [← hr2, if_pos (hone.1 h)]
  have hr2b : limbs D' ≠ [1] → r2 = limbs D' := fun h => by rw [← hr2, if_neg (fun e => h (hone.2 e))]
  generalize limbs D' = dl at *
  generalize limbs N' = nl at *
  clear hr2 hone hN0 hnz
  cbv
  refine callS' rfl (by repeat' first | exact trivial | exact leS_refl _ | exact leS_tt rfl | exact leS_ff rfl | exact leS_nil rfl | apply And.intro) (cg) rfl ?_
  cbv
  refine callS' rfl (by repeat' first | exact trivial | exact leS_refl _ | exact leS_tt rfl | exact leS_ff rfl | exact leS_nil rfl | apply And.intro) (cn) rfl ?_
  cbv
  refine callS' rfl (by repeat' first | exact trivial | exact leS_refl _ | exact leS_tt rfl | exact leS_ff rfl | exact leS_nil rfl | apply And.intro) (cd) rfl ?_
  cbv
  have one_of : ∀ (h1 : dl.length = 1), ((dl.getD 0 0).toNat : Int) = 1 ↔ dl = [1] := by
    intro h1
    match dl, h1 with
    | [x], _ =>
      have e1 : [x].getD 0 0 = x := rfl
      rw [e1]
      constructor
      · intro h2
        have : x = 1 := UInt32.toNat_inj.1 (by show x.toNat = 1; omega)
        rw [this]
      · intro h2; rw [List.cons.inj h2 |>.1]; rfl
  refine br_dec (fun h => ?_) (fun h => ?_)
  · have h1 : dl.length = 1 := (by (try dsimp only [ncast] at *) <;> (try simp only [lm_length] at *) <;> omega)
    have ho := one_of h1
    cbv
    refine idx_lm 0 rfl (by omega) ?_
    cbv
    refine cut_dec (fun h2 => ?_) (fun h2 => ?_)
    · have h3 := hr2a (ho.1 h2)
      cbv
      refine br_bool (fun h4 => ?_) (fun h4 => ?_)
      · subst h4
        cbv
        (refine retC rfl ?_; cbv)
        exact ⟨leS_bool (by simp [lm_length]), leS_refl _, leS_nil (by rw [h3]; rfl), trivial⟩
      · subst h4
        cbv
        (refine retC rfl ?_; cbv)
        exact ⟨leS_ff rfl, leS_refl _, leS_nil (by rw [h3]; rfl), trivial⟩
    · have h3 := hr2b (fun e => h2 (ho.2 e))
      cbv
      refine br_bool (fun h4 => ?_) (fun h4 => ?_)
      · subst h4
        cbv
        (refine retC rfl ?_; cbv)
        exact ⟨leS_bool (by simp [lm_length]), leS_refl _, leS_sl (by rw [h3]), trivial⟩
      · subst h4
        cbv
        (refine retC rfl ?_; cbv)
        exact ⟨leS_ff rfl, leS_refl _, leS_sl (by rw [h3]), trivial⟩
  · have h3 := hr2b (fun e => h (by rw [e]; rfl))
    cbv
    refine br_bool (fun h4 => ?_) (fun h4 => ?_)
    · subst h4
      cbv
      (refine retC rfl ?_; cbv)
      exact ⟨leS_bool (by simp [lm_length]), leS_refl _, leS_sl (by rw [h3]), trivial⟩
    · subst h4
      cbv
      (refine retC rfl ?_; cbv)
      exact ⟨leS_ff rfl, leS_refl _, leS_sl (by rw [h3]), trivial⟩
theorem hf47 : Pg.funcs[57]? = some Tryz.f57 := by rw [Pg_eq]; rfl
theorem s47 (x : R) (hx : x.sz (2^32)) : SoundS 57 [rv x] (rv (ratR x.q)) := by
  refine sound_fn hf47 rfl rfl rfl rfl rfl ?_
  have h1 := hx.n
  have h2 := hx.d
  have h3 := one_len x.den
  have cu := s100 x.den (by omega)
  have cq := s102 x.neg x.num (oneL x.den) (by omega) (by omega) (by rw [val_one]; exact x.d_ne)
  rw [val_one] at cq
  have e : mkRat (sgn x.neg (val x.num)) x.d = x.q := rfl
  rw [e] at cq
  generalize ratR x.q = W at *
  generalize oneL x.den = u at *
  obtain ⟨neg, num, den⟩ := x
  cbv
  refine draw_of 8 (by cbv) ?_
  cbv
  refine callS_d (by repeat' first | exact trivial | exact leS_refl _ | exact leS_tt rfl | exact leS_ff rfl | exact leS_nil rfl | apply And.intro) (cu) rfl ?_
  cbv
  refine callS_d (by repeat' first | exact trivial | exact leS_refl _ | exact leS_tt rfl | exact leS_ff rfl | exact leS_nil rfl | apply And.intro) (cq) rfl ?_
  cbv
  (refine retC rfl ?_; cbv)
  exact ⟨leS_refl _, leS_refl _, leS_refl _, trivial⟩
theorem hf35 : Pg.funcs[25]? = some Tryz.f25 := by rw [Pg_eq]; rfl
theorem s35 (x : R) (hx : x.num.length < 2^40) : SoundS 25 [rv x] (.int .i64 (fun _ => sgnQ x.q)) := by
  refine sound_fn hf35 rfl rfl rfl rfl rfl ?_
  have c2 := s90 ⟨x.neg, x.num⟩ hx
  have e : Z.v ⟨x.neg, x.num⟩ = x.n := rfl
  rw [e, ← sgnQ_q] at c2
  generalize sgnQ x.q = s at *
  obtain ⟨neg, num, den⟩ := x
  cbv
  refine callS' rfl (by repeat' first | exact trivial | exact leS_refl _ | exact leS_tt rfl | exact leS_ff rfl | exact leS_nil rfl | apply And.intro) (c2) rfl ?_
  cbv
  (refine retC rfl ?_; cbv)
  exact leS_refl _
theorem hf77 : Pg.funcs[95]? = some Tryz.f95 := by rw [Pg_eq]; rfl
theorem s77 (x y : R) (hx : x.sz (2^31)) (hy : y.sz (2^31)) : SoundS 95 [rv x, rv y] (rv (ratR (x.q * y.q))) := by
  refine sound_fn hf77 rfl rfl rfl rfl rfl ?_
  have h1 := hx.n
  have h2 := hx.d
  have h3 := hy.n
  have h4 := hy.d
  have h7 := one_len x.den
  have h8 := one_len y.den
  have cux := s100 x.den (by omega)
  have cuy := s100 y.den (by omega)
  have cm := s99 (oneL x.den) (oneL y.den) (by omega) (by omega)
  have hml := len_mul (oneL x.den) (oneL y.den)
  rw [val_one, val_one] at cm hml
  have cn := s99 x.num y.num (by omega) (by omega)
  have hnl := len_mul x.num y.num
  have cq := s102 (x.neg != y.neg) (limbs (val x.num * val y.num)) (limbs (x.d * y.d)) (by omega) (by omega) (by rw [val_limbs]; exact Nat.mul_ne_zero x.d_ne y.d_ne)
  rw [val_limbs, val_limbs, ← sgn_mul] at cq
  have e : mkRat (sgn x.neg (val x.num) * sgn y.neg (val y.num)) (x.d * y.d) = x.q * y.q := (q_mul x y).symm
  rw [e] at cq
  have hb : (x.neg != y.neg) = !decide (x.neg = y.neg) := by cases x.neg <;> cases y.neg <;> rfl
  clear hml hnl e
  generalize ratR (x.q * y.q) = W at *
  generalize limbs (x.d * y.d) = M at *
  generalize limbs (val x.num * val y.num) = P at *
  generalize oneL x.den = ux at *
  generalize oneL y.den = uy at *
  obtain ⟨a, b, c⟩ := x
  obtain ⟨a', b', c'⟩ := y
  simp only at *
  generalize (a != a') = nb at *
  cbv
  refine draw_of 18 (by cbv) ?_
  cbv
  refine callS_d (by repeat' first | exact trivial | exact leS_refl _ | exact leS_tt rfl | exact leS_ff rfl | exact leS_nil rfl | apply And.intro) (cn) rfl ?_
  cbv
  refine callS_d (by repeat' first | exact trivial | exact leS_refl _ | exact leS_tt rfl | exact leS_ff rfl | exact leS_nil rfl | apply And.intro) (cux) rfl ?_
  cbv
  refine callS_d (by repeat' first | exact trivial | exact leS_refl _ | exact leS_tt rfl | exact leS_ff rfl | exact leS_nil rfl | apply And.intro) (cuy) rfl ?_
  cbv
  refine callS_d (by repeat' first | exact trivial | exact leS_refl _ | exact leS_tt rfl | exact leS_ff rfl | exact leS_nil rfl | apply And.intro) (cm) rfl ?_
  cbv
  refine callS_d (by exact ⟨leS_nbool hb, leS_refl _, leS_refl _, trivial⟩) cq rfl ?_
  cbv
  (refine retC rfl ?_; cbv)
  exact ⟨leS_refl _, leS_refl _, leS_refl _, trivial⟩
theorem hf69 : Pg.funcs[27]? = some Tryz.f27 := by rw [Pg_eq]; rfl
theorem s69 (x y : R) (hx : x.sz (2^32)) (hy : y.sz (2^32)) : SoundS 27 [rv x, rv y] (.bool (fun _ => decide (x = y))) := by
  refine sound_fn hf69 rfl rfl rfl rfl rfl ?_
  have h1 := hx.n
  have h2 := hx.d
  have h3 := hy.n
  have h4 := hy.d
  have c1 := s130 x.num y.num (by omega) (by omega)
  have c2 := s130 x.den y.den (by omega) (by omega)
  obtain ⟨a, b, c⟩ := x
  obtain ⟨a', b', c'⟩ := y
  have hO : (decide ((⟨a, b, c⟩ : R) = ⟨a', b', c'⟩)) = (decide (a = a') && (decide (b = b') && decide (c = c'))) := by
    rw [Bool.eq_iff_iff]
    simp only [decide_eq_true_eq, R.mk.injEq, Bool.and_eq_true]
  rw [hO]
  simp only at c1 c2
  generalize decide (b = b') = d1 at *
  generalize decide (c = c') = d2 at *
  clear hO h1 h2 h3 h4 hx hy
  generalize hr : (decide (a = a') && (d1 && d2)) = r
  cbv
  refine br_dec (fun h => ?_) (fun h => ?_)
  · rw [show decide (a = a') = true from decide_eq_true h, Bool.true_and] at hr
    cbv
    refine callS' rfl (by repeat' first | exact trivial | exact leS_refl _ | exact leS_tt rfl | exact leS_ff rfl | exact leS_nil rfl | apply And.intro) (c1) rfl ?_
    cbv
    refine br_bool (fun h' => ?_) (fun h' => ?_)
    · subst h'
      cbv
      refine callS' rfl (by repeat' first | exact trivial | exact leS_refl _ | exact leS_tt rfl | exact leS_ff rfl | exact leS_nil rfl | apply And.intro) (c2) rfl ?_
      cbv
      (refine retC rfl ?_; cbv)
      exact leS_bool (by rw [← hr]; rfl)
    · subst h'
      cbv
      (refine retC rfl ?_; cbv)
      exact leS_ff (by rw [← hr]; rfl)
  · rw [show decide (a = a') = false from decide_eq_false h, Bool.false_and] at hr
    cbv
    (refine retC rfl ?_; cbv)
    exact leS_ff hr.symm
end Go.Proofs.YtbehbhicjmjdhaaGreat

namespace Go.Proofs.YtbehbhicjmjdhaaGreat
open Go
set_option linter.unusedVariables false
set_option maxRecDepth 100000

theorem hf129 : Pg.funcs[29]? = some Tryz.f29 := by rw [Pg_eq]; rfl
theorem s129 (x : R) (hx : x.sz (2^32)) : SoundS 29 [rv x] (.bool (fun _ => x.ok)) := by
  refine sound_fn hf129 rfl rfl rfl rfl rfl ?_
  have cc := s47 x hx
  have cs := s69 x (ratR x.q) hx (ratR_sz (hx.fits (by decide)))
  have e : decide (x = ratR x.q) = x.ok := rfl
  rw [e] at cs
  generalize x.ok = o at *
  generalize ratR x.q = W at *
  obtain ⟨a, b, c⟩ := x
  obtain ⟨a', b', c'⟩ := W
  cbv
  refine draw_of 4 (by cbv) ?_
  cbv
  refine callS_d (by repeat' first | exact trivial | exact leS_refl _ | exact leS_tt rfl | exact leS_ff rfl | exact leS_nil rfl | apply And.intro) (cc) rfl ?_
  cbv
  refine callS_d (by repeat' first | exact trivial | exact leS_refl _ | exact leS_tt rfl | exact leS_ff rfl | exact leS_nil rfl | apply And.intro) (cs) rfl ?_
  cbv
  (refine retC rfl ?_; cbv)
  exact leS_refl _
theorem ratR_int (z : Int) : ratR (z : Rat) = ⟨(intZ z).neg, (intZ z).mag, []⟩ := by
  unfold ratR intZ
  simp only [Rat.num_intCast, Rat.den_intCast, if_true]
  congr
theorem hf32 : Pg.funcs[13]? = some Tryz.f13 := by rw [Pg_eq]; rfl
theorem s32 (x : Int) (h1 : -9223372036854775808 ≤ x) (h2 : x < 9223372036854775808) : SoundS 13 [.int .i64 (fun _ => x)] (rv (ratR (x : Rat))) := by
  refine sound_fn hf32 rfl rfl rfl rfl rfl ?_
  have c1 := s88 x h1 h2
  rw [ratR_int]
  generalize intZ x = y at *
  obtain ⟨a, b⟩ := y
  cbv
  refine callS' rfl (by repeat' first | exact trivial | exact leS_refl _ | exact leS_tt rfl | exact leS_ff rfl | exact leS_nil rfl | apply And.intro) (c1) rfl ?_
  cbv
  (refine retC rfl ?_; cbv)
  exact ⟨leS_refl _, leS_refl _, leS_nil rfl, trivial⟩
/-- A quotient of integers. -/
def divZ (a b : Int) : Rat := Rat.divInt a b
theorem divZ_sgn (a b : Bool) (n m : Nat) : mkRat (sgn (a != b) n) m = divZ (sgn a n) (sgn b m) := by
  have h1 : ∀ (z : Int), Rat.divInt z (m : Int) = mkRat z m := fun z => Rat.divInt_ofNat z m
  have h2 : ∀ (z : Int), Rat.divInt z (-(m : Int)) = mkRat (-z) m := fun z => by rw [Rat.divInt_neg', h1]
  unfold divZ
  cases b
  · rw [show sgn false m = (m : Int) from rfl, h1]
    cases a <;> rfl
  · rw [show sgn true m = -(m : Int) from rfl, h2]
    cases a
    · rfl
    · show mkRat (n : Int) m = mkRat (- -(n : Int)) m
      rw [Int.neg_neg]
end Go.Proofs.YtbehbhicjmjdhaaGreat
