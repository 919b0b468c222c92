/- A part of the proof: RqB, ReA. -/
import Derived.Test.YtcanljninhfmhaaGreatS22
set_option linter.all false
namespace Go.Proofs.YtcanljninhfmhaaGreat
open Go
set_option linter.unusedVariables false
set_option maxRecDepth 100000
theorem hf163 : Pg.funcs[132]? = some Tryz.f132 := by rw [Pg_eq]; rfl
theorem s163 (x : Z) (hx : x.mag.length < 2^38) : SoundS 132 [zv x] (rv (ratR (x.v : Rat))) := by
 refine sound_fn hf163 rfl rfl rfl rfl rfl ?_
 have cq := s193 x.neg x.mag [1] hx (by simp) (by decide)
 have e : mkRat (sgn x.neg (val x.mag)) (val [1]) = (x.v : Rat) := by
  have := Rat.mkRat_self (x.v : Rat)
  rw [Rat.num_intCast, Rat.den_intCast] at this
  exact this
 rw [e] at cq
 generalize ratR (x.v : Rat) = W at *
 obtain ⟨neg, mag⟩ := x
 cbv
 refine draw_of 6 (by cbv) ?_
 cbv
 refine callS_d okA (s210) rfl ?_
 cbv
 refine callS_d okA (cq) rfl ?_
 cbv
 (refine retC rfl ?_; cbv)
 exact ⟨leS_refl _, leS_refl _, leS_refl _, trivial⟩
theorem intZ_len (x : Int) (h1 : -9223372036854775808 ≤ x) (h2 : x < 9223372036854775808) : (intZ x).mag.length ≤ 2 := by
 refine limbs_length_le ?_
 have : B ^ 2 = 18446744073709551616 := by decide
 omega
theorem hf104 : Pg.funcs[82]? = some Tryz.f82 := by rw [Pg_eq]; rfl
theorem s104 (x : Int) (h1 : -9223372036854775808 ≤ x) (h2 : x < 9223372036854775808) : SoundS 82 [.int .i64 (fun _ => x)] (rv (ratR (x : Rat))) := by
 refine sound_fn hf104 rfl rfl rfl rfl rfl ?_
 have c1 := s164 x h1 h2
 have hl := intZ_len x h1 h2
 have c2 := s163 (intZ x) (by omega)
 rw [v_intZ] at c2
 generalize ratR (x : Rat) = W at *
 generalize intZ x = y at *
 cbv
 refine callS' rfl okA (c1) rfl ?_
 cbv
 refine callS' rfl okA (c2) rfl ?_
 cbv
 (refine retC rfl ?_; cbv)
 exact ⟨leS_refl _, leS_refl _, leS_refl _, trivial⟩
theorem hf147 : Pg.funcs[110]? = some Tryz.f110 := by rw [Pg_eq]; rfl
theorem s147 (x : R) (hx : x.num.length < 2^40) : SoundS 110 [rv x] (zv (intZ x.n)) := by
 refine sound_fn hf147 rfl rfl rfl rfl rfl ?_
 have c1 := s203 x.neg x.num hx
 have e : sgn x.neg (val x.num) = x.n := rfl
 rw [e] at c1
 generalize intZ x.n = W at *
 obtain ⟨neg, num, den⟩ := x
 cbv
 refine callS' rfl okA (c1) rfl ?_
 cbv
 (refine retC rfl ?_; cbv)
 exact ⟨leS_refl _, leS_refl _, trivial⟩
theorem n_len (x : R) : (intZ x.n).mag.length ≤ x.num.length := by
 refine limbs_length_le ?_
 rw [R.n, sgn_natAbs]; exact val_lt _
theorem hf86 : Pg.funcs[58]? = some Tryz.f58 := by rw [Pg_eq]; rfl
theorem s86 (x : R) (hx : x.num.length < 2^40) : SoundS 58 [rv x] (.int .i64 (fun _ => sgnQ x.q)) := by
 refine sound_fn hf86 rfl rfl rfl rfl rfl ?_
 have c1 := s147 x hx
 have hl := n_len x
 have c2 := s146 (intZ x.n) (by omega)
 rw [v_intZ, ← sgnQ_q] at c2
 generalize sgnQ x.q = s at *
 generalize intZ x.n = W at *
 obtain ⟨neg, num, den⟩ := x
 cbv
 refine callS' rfl okA (c1) rfl ?_
 cbv
 refine callS' rfl okA (c2) rfl ?_
 cbv
 (refine retC rfl ?_; cbv)
 exact leS_refl _
theorem hf191 : Pg.funcs[138]? = some Tryz.f138 := by rw [Pg_eq]; rfl
theorem s191 (x y : R) (hx : x.sz (2^34)) (hy : y.sz (2^34)) : SoundS 138 [rv x, rv y] (.tup [zv (intZ (x.n * y.d)), zv (intZ (y.n * x.d))]) := by
 refine sound_fn hf191 rfl rfl rfl rfl rfl ?_
 have h1 := hx.n
 have h2 := hx.d
 have h3 := hy.n
 have h4 := hy.d
 have h5 := under_len x.den
 have h6 := under_len y.den
 have h7 := n_len x
 have h8 := n_len y
 have cux := s195 x (by omega)
 have cuy := s195 y (by omega)
 have csx := s147 x (by omega)
 have csy := s147 y (by omega)
 have cm1 := s220 (intZ x.n) ⟨false, underL y.den⟩ (by omega) (show (underL y.den).length < _ by omega)
 have cm2 := s220 (intZ y.n) ⟨false, underL x.den⟩ (by omega) (show (underL x.den).length < _ by omega)
 have e1 : Z.v ⟨false, underL y.den⟩ = (y.d : Int) := by rw [← val_under]; rfl
 have e2 : Z.v ⟨false, underL x.den⟩ = (x.d : Int) := by rw [← val_under]; rfl
 rw [v_intZ, e1] at cm1
 rw [v_intZ, e2] at cm2
 generalize intZ (x.n * (y.d : Int)) = W1 at *
 generalize intZ (y.n * (x.d : Int)) = W2 at *
 generalize intZ x.n = X at *
 generalize intZ y.n = Y at *
 generalize underL x.den = ux at *
 generalize underL y.den = uy at *
 obtain ⟨a, b, c⟩ := x
 obtain ⟨a', b', c'⟩ := y
 cbv
 refine draw_of 4 (by cbv) ?_
 cbv
 refine callS_d okA (cux) rfl ?_
 cbv
 refine callS_d okA (cuy) rfl ?_
 cbv
 refine draw_of 10 (by cbv) ?_
 cbv
 refine callS_d okA (csx) rfl ?_
 cbv
 refine callS_d okA (cm1) rfl ?_
 cbv
 refine callS_d okA (csy) rfl ?_
 cbv
 refine callS_d okA (cm2) rfl ?_
 cbv
 (refine retC rfl ?_; cbv)
 exact ⟨⟨leS_refl _, leS_refl _, trivial⟩, ⟨leS_refl _, leS_refl _, trivial⟩, trivial⟩
theorem cross_len (x y : R) (hx : x.sz (2^34)) (hy : y.sz (2^34)) : (intZ (x.n * (y.d : Int))).mag.length ≤ 2^36 := by
 have h1 := hx.n
 have h4 := hy.d
 have h6 := under_len y.den
 refine Nat.le_trans (limbs_length_le (k := x.num.length + (underL y.den).length) ?_) (by omega)
 rw [Int.natAbs_mul, R.n, sgn_natAbs, Int.natAbs_natCast, ← val_under]
 exact mul_lt_pow (val_lt _) (val_lt _)
theorem hf165 : Pg.funcs[163]? = some Tryz.f163 := by rw [Pg_eq]; rfl
theorem s165 (x y : R) (hx : x.sz (2^34)) (hy : y.sz (2^34)) : SoundS 163 [rv x, rv y] (.int .i64 (fun _ => cmpQ x.q y.q)) := by
 refine sound_fn hf165 rfl rfl rfl rfl rfl ?_
 have h1 := hx.n
 have h3 := hy.n
 have h5 := cross_len x y hx hy
 have h6 := cross_len y x hy hx
 have cx := s86 x (by omega)
 have cy := s86 y (by omega)
 have cc := s191 x y hx hy
 have ci := s212 _ _ (Nat.lt_of_le_of_lt h5 (by omega)) (Nat.lt_of_le_of_lt h6 (by omega))
 rw [v_intZ, v_intZ, ← cmpQ_q] at ci
 have k1 : sgnQ x.q < sgnQ y.q → cmpQ x.q y.q = -1 := by
  intro h
  have : x.q < y.q := by unfold sgnQ at h; grind
  simp [cmpQ, this]
 have k2 : sgnQ y.q < sgnQ x.q → cmpQ x.q y.q = 1 := by
  intro h
  have h7 : y.q < x.q := by unfold sgnQ at h; grind
  have h8 : ¬ x.q < y.q := by grind
  simp [cmpQ, h7, h8]
 generalize cmpQ x.q y.q = C at *
 generalize sgnQ x.q = s at *
 generalize sgnQ y.q = t at *
 generalize intZ (x.n * (y.d : Int)) = W1 at *
 generalize intZ (y.n * (x.d : Int)) = W2 at *
 obtain ⟨a, b, c⟩ := x
 obtain ⟨a', b', c'⟩ := y
 obtain ⟨p1, p2⟩ := W1
 obtain ⟨q1, q2⟩ := W2
 cbv
 refine draw_of 4 (by cbv) ?_
 cbv
 refine callS_d okA (cx) rfl ?_
 cbv
 refine callS_d okA (cy) rfl ?_
 cbv
 refine cut_dec (fun h => ?_) (fun h => ?_)
 ·cbv
  refine callS' rfl okA (cc) rfl ?_
  cbv
  refine callS' rfl okA (ci) rfl ?_
  cbv
  (refine retC rfl ?_; cbv)
  exact leS_refl _
 ·cbv
  refine cut_dec (fun h' => ?_) (fun h' => ?_)
  ·cbv
   (refine retC rfl ?_; cbv)
   exact leS_int (k1 h').symm
  ·cbv
   (refine retC rfl ?_; cbv)
   exact leS_int (k2 (by omega)).symm
theorem hf138 : Pg.funcs[91]? = some Tryz.f91 := by rw [Pg_eq]; rfl
theorem s138 (x y : R) (hx : x.sz (2^34)) (hy : y.sz (2^34)) : SoundS 91 [rv x, rv y] (rv (ratR (x.q + y.q))) := by
 refine sound_fn hf138 rfl rfl rfl rfl rfl ?_
 have h1 := hx.n
 have h2 := hx.d
 have h3 := hy.n
 have h4 := hy.d
 have h5 := cross_len x y hx hy
 have h6 := cross_len y x hy hx
 have h7 := under_len x.den
 have h8 := under_len y.den
 have cc := s191 x y hx hy
 have ca := s192 _ _ (Nat.lt_of_le_of_lt h5 (by omega)) (Nat.lt_of_le_of_lt h6 (by omega))
 rw [v_intZ, v_intZ] at ca
 have cux := s195 x (by omega)
 have cuy := s195 y (by omega)
 have cm := s194 (underL x.den) (underL y.den) (by omega) (by omega)
 have hml := len_mul (underL x.den) (underL y.den)
 rw [val_under, val_under] at cm hml
 have hsl : (intZ (x.n * (y.d : Int) + y.n * (x.d : Int))).mag.length < 2^38 := by
  obtain ⟨k, hk⟩ : ∃ k, k = 68719476736 := ⟨_, rfl⟩
  have h5' : (intZ (x.n * (y.d : Int))).mag.length ≤ k := by rw [hk]; exact h5
  have h6' : (intZ (y.n * (x.d : Int))).mag.length ≤ k := by rw [hk]; exact h6
  have e1 : (x.n * (y.d : Int)).natAbs < B ^ k := by have := val_lt (intZ (x.n * (y.d : Int))).mag; rw [show val (intZ (x.n * (y.d : Int))).mag = (x.n * (y.d : Int)).natAbs from val_limbs _] at this; exact Nat.lt_of_lt_of_le this (Nat.pow_le_pow_right B_pos h5')
  have e2 : (y.n * (x.d : Int)).natAbs < B ^ k := by have := val_lt (intZ (y.n * (x.d : Int))).mag; rw [show val (intZ (y.n * (x.d : Int))).mag = (y.n * (x.d : Int)).natAbs from val_limbs _] at this; exact Nat.lt_of_lt_of_le this (Nat.pow_le_pow_right B_pos h6')
  have e3 := Int.natAbs_add_le (x.n * (y.d : Int)) (y.n * (x.d : Int))
  have e4 : B ^ k * 2 ≤ B ^ k * B := Nat.mul_le_mul_left _ (by decide)
  have e5 : (limbs (x.n * (y.d : Int) + y.n * (x.d : Int)).natAbs).length ≤ k + 1 := limbs_length_le (by rw [Nat.pow_succ B k]; generalize B ^ k = P at *; omega)
  show (limbs (x.n * (y.d : Int) + y.n * (x.d : Int)).natAbs).length < 2^38
  omega
 have cq := s193 (intZ (x.n * (y.d : Int) + y.n * (x.d : Int))).neg (intZ (x.n * (y.d : Int) + y.n * (x.d : Int))).mag (limbs (x.d * y.d)) hsl (by omega) (by rw [val_limbs]; exact Nat.mul_ne_zero x.d_ne y.d_ne)
 have e6 : sgn (intZ (x.n * (y.d : Int) + y.n * (x.d : Int))).neg (val (intZ (x.n * (y.d : Int) + y.n * (x.d : Int))).mag) = x.n * (y.d : Int) + y.n * (x.d : Int) := v_intZ _
 rw [e6, val_limbs, ← q_add] at cq
 clear e6 hsl hml h5 h6
 generalize ratR (x.q + y.q) = W at *
 generalize limbs (x.d * y.d) = M at *
 generalize intZ (x.n * (y.d : Int) + y.n * (x.d : Int)) = S at *
 generalize intZ (x.n * (y.d : Int)) = W1 at *
 generalize intZ (y.n * (x.d : Int)) = W2 at *
 generalize underL x.den = ux at *
 generalize underL y.den = uy at *
 obtain ⟨a, b, c⟩ := x
 obtain ⟨a', b', c'⟩ := y
 obtain ⟨p1, p2⟩ := W1
 obtain ⟨q1, q2⟩ := W2
 obtain ⟨s1, s2⟩ := S
 cbv
 refine callS' rfl okA (cc) rfl ?_
 cbv
 refine callS' rfl okA (ca) rfl ?_
 cbv
 refine draw_of 10 (by cbv) ?_
 cbv
 refine callS_d okA (cux) rfl ?_
 cbv
 refine callS_d okA (cuy) rfl ?_
 cbv
 refine callS_d okA (cm) rfl ?_
 cbv
 refine callS_d okA (cq) rfl ?_
 cbv
 (refine retC rfl ?_; cbv)
 exact ⟨leS_refl _, leS_refl _, leS_refl _, trivial⟩
theorem hf176 : Pg.funcs[156]? = some Tryz.f156 := by rw [Pg_eq]; rfl
theorem s176 (x y : R) (hx : x.sz (2^34)) (hy : y.sz (2^34)) : SoundS 156 [rv x, rv y] (rv (ratR (x.q - y.q))) := by
 refine sound_fn hf176 rfl rfl rfl rfl rfl ?_
 have ca := s138 x ⟨!y.neg, y.num, y.den⟩ hx ⟨hy.n, hy.d⟩
 rw [q_neg, ← Rat.sub_eq_add_neg] at ca
 generalize ratR (x.q - y.q) = W at *
 obtain ⟨a, b, c⟩ := x
 obtain ⟨a', b', c'⟩ := y
 generalize hna : (!a') = na at *
 cbv
 refine callS' rfl (by exact ⟨⟨leS_refl _, leS_refl _, leS_refl _, trivial⟩, ⟨leS_nbool hna.symm, leS_refl _, leS_refl _, trivial⟩, trivial⟩) ca rfl ?_
 cbv
 (refine retC rfl ?_; cbv)
 exact ⟨leS_refl _, leS_refl _, leS_refl _, trivial⟩
theorem hf199 : Pg.funcs[157]? = some Tryz.f157 := by rw [Pg_eq]; rfl
theorem s199 (x y : R) (hx : x.sz (2^34)) (hy : y.sz (2^34)) : SoundS 157 [rv x, rv y] (rv (ratR (x.q * y.q))) := by
 refine sound_fn hf199 rfl rfl rfl rfl rfl ?_
 have h1 := hx.n
 have h2 := hx.d
 have h3 := hy.n
 have h4 := hy.d
 have h7 := under_len x.den
 have h8 := under_len y.den
 have cux := s195 x (by omega)
 have cuy := s195 y (by omega)
 have cm := s194 (underL x.den) (underL y.den) (by omega) (by omega)
 have hml := len_mul (underL x.den) (underL y.den)
 rw [val_under, val_under] at cm hml
 have cn := s194 x.num y.num (by omega) (by omega)
 have hnl := len_mul x.num y.num
 have cq := s193 (x.neg != y.neg) (limbs (val x.num * val y.num)) (limbs (x.d * y.d)) (by omega) (by omega) (by rw [val_limbs]; exact Nat.mul_ne_zero x.d_ne y.d_ne)
 rw [val_limbs, val_limbs, ← sgn_mul] at cq
 have e : mkRat (sgn x.neg (val x.num) * sgn y.neg (val y.num)) (x.d * y.d) = x.q * y.q := (q_mul x y).symm
 rw [e] at cq
 have hb : (x.neg != y.neg) = !decide (x.neg = y.neg) := by cases x.neg <;> cases y.neg <;> rfl
 clear hml hnl e
 generalize ratR (x.q * y.q) = W at *
 generalize limbs (x.d * y.d) = M at *
 generalize limbs (val x.num * val y.num) = P at *
 generalize underL x.den = ux at *
 generalize underL y.den = uy at *
 obtain ⟨a, b, c⟩ := x
 obtain ⟨a', b', c'⟩ := y
 simp only at *
 generalize (a != a') = nb at *
 cbv
 refine draw_of 16 (by cbv) ?_
 cbv
 refine callS_d okA (cn) rfl ?_
 cbv
 refine callS_d okA (cux) rfl ?_
 cbv
 refine callS_d okA (cuy) rfl ?_
 cbv
 refine callS_d okA (cm) rfl ?_
 cbv
 refine callS_d (by exact ⟨leS_nbool hb, leS_refl _, leS_refl _, trivial⟩) cq rfl ?_
 cbv
 (refine retC rfl ?_; cbv)
 exact ⟨leS_refl _, leS_refl _, leS_refl _, trivial⟩
end Go.Proofs.YtcanljninhfmhaaGreat

namespace Go.Proofs.YtcanljninhfmhaaGreat
open Go
set_option linter.unusedVariables false
set_option maxRecDepth 100000
theorem ty33 : ty 33 = .sli 1 4 [.int .u32 (fun _ => 0)] := by cbv
theorem val_drop_step (l : List UInt32) (k : Nat) : val (l.drop k) = (l.getD k 0).toNat + B * val (l.drop (k + 1)) := by
 rcases Nat.lt_or_ge k l.length with h | h
 ·exact val_drop_cons h
 ·rw [List.drop_of_length_le h, List.drop_of_length_le (by omega)]
  simp [List.getElem?_eq_none h, val]
theorem val_split2 (l : List UInt32) (m : Nat) : val l = val (l.take m) + B ^ m * val (l.drop m) := by
 rcases Nat.lt_or_ge m l.length with h | h
 ·exact val_drop m (by omega)
 ·rw [List.drop_of_length_le h, List.take_of_length_le h]
  simp [val]
theorem lt_of_drop {a b : List UInt32} {m : Nat} (h : val (a.drop m) < val (b.drop m)) : val a < val b := by
 rw [val_split2 a m, val_split2 b m]
 have h1 := val_take_lt a m
 have h2 := Nat.mul_le_mul_left (B ^ m) (show val (a.drop m) + 1 ≤ val (b.drop m) from h)
 rw [Nat.mul_add] at h2
 omega
theorem hf154 : Pg.funcs[123]? = some Tryz.f123 := by rw [Pg_eq]; rfl
theorem s154 (a : List UInt32) (i : Nat) (ha : a.length < 2^40) : SoundS 123 [nat a, .int .i64 (fun _ => (i : Int))] (.int .u32 (fun _ => ((a.getD i 0).toNat : Int))) := by
 refine sound_fn hf154 rfl rfl rfl rfl rfl ?_
 generalize hx : a.getD i 0 = x
 cbv
 refine cut_dec (fun h => ?_) (fun h => ?_)
 ·cbv
  refine idx_lm i om om ?_
  rw [hx]
  cbv
  (refine retC rfl ?_; cbv)
  exact leS_refl _
 ·cbv
  (refine retC rfl ?_; cbv)
  refine leS_int ?_
  have : a.length ≤ i := om
  rw [← hx]
  simp [List.getElem?_eq_none this]
theorem hf155 : Pg.funcs[124]? = some Tryz.f124 := by rw [Pg_eq]; rfl
theorem s155 (l : List UInt32) (hl : l.length < 2^41) : SoundS 124 [nat l] (nat (limbs (val l))) := by
 refine sound_fn hf155 rfl rfl rfl rfl rfl ?_
 have fin : ∀ n, n ≤ l.length → val (l.take n) = val l → (n = 0 ∨ ∃ m, n = m + 1 ∧ l.getD m 0 ≠ 0) → l.take n = limbs (val l) := by
  intro n hn hv h
  rcases h with rfl | ⟨m, rfl, h⟩
  ·rw [← hv]; simp [val, limbs_zero]
  ·rw [← hv, limbs_val (by rw [take_snoc l (by omega), canon_snoc]; simpa using h)]
 generalize hW : limbs (val l) = W at *
 cbv
 refine loop_n (σ := Nat) (fun n => ⟨[(0, nat l), (2, .nil), (3, .int .i64 (fun _ => (n : Int)))], []⟩) (fun n => n ≤ l.length ∧ val (l.take n) = val l) (fun n => n) l.length ⟨Nat.le_refl _, by simp⟩ (.le ?_ trivial rfl) ?_
 ·cbv
  exact ⟨leS_refl _, leS_refl _, leS_int (by simp [lm_length]), trivial⟩
 intro n hn
 have done : (n = 0 ∨ ∃ m, n = m + 1 ∧ l.getD m 0 ≠ 0) → ((lm l).take ((n : Int)).toNat).drop (Int.toNat 0) = lm W := fun h => by
  show ((lm l).take ((n : Int)).toNat).drop 0 = lm W
  rw [List.drop_zero, Int.toNat_natCast, lm_take, fin n hn.1 hn.2 h]
 have hwl : W.length ≤ l.length := by rw [← hW]; exact limbs_length_le' l
 cbv
 refine br_dec (fun h => ?_) (fun h => ?_)
 ·(try dsimp only [ncast] at *)
  obtain ⟨m, rfl⟩ : ∃ m, n = m + 1 := ⟨n - 1, by omega⟩
  cbv
  refine ⟨in64_of om om, idx_lm m om om ?_⟩
  cbv
  refine cut_dec (fun h2 => ?_) (fun h2 => ?_)
  ·cbv
   refine ⟨in64_of om om, m, ⟨om, ?_⟩, om, .le ?_ trivial rfl⟩
   ·have e : l.getD m 0 = 0 := by
     have : (l.getD m 0).toNat = 0 := om
     exact UInt32.toNat_inj.1 this
    rw [← hn.2, take_snoc l (by omega), e, val_snoc0]
   ·cbv
    exact ⟨leS_refl _, leS_refl _, leS_int om, trivial⟩
  ·have e : l.getD m 0 ≠ 0 := fun e => by (try dsimp only [ncast] at *); rw [e] at h2; exact h2 rfl
   have hd := done (.inr ⟨m, rfl, e⟩)
   cbv
   refine ⟨slok_of (Int.le_refl _) om om, lm_wid l, ?_⟩
   (try dsimp only [ncast] at *)
   rw [hd]
   refine app_nil ty34 rfl rfl (lm_wid W) (room_of om om) rfl ?_
   cbv
   refine retW (.frz 22 rfl rfl ?_ ?_) rfl ?_ rfl
   ·cbv
    exact ⟨frok_of (by simp), frok_of (by simp), trivial⟩
   ·exact trivial
   ·exact leS_sl (by simp)
 ·have h0 : n = 0 := om
  have hd := done (.inl h0)
  cbv
  refine ⟨slok_of (Int.le_refl _) om om, lm_wid l, ?_⟩
  (try dsimp only [ncast] at *)
  rw [hd]
  refine app_nil ty34 rfl rfl (lm_wid W) (room_of om om) rfl ?_
  cbv
  refine retW (.frz 22 rfl rfl ?_ ?_) rfl ?_ rfl
  ·cbv
   exact ⟨frok_of (by simp), frok_of (by simp), trivial⟩
  ·exact trivial
  ·exact leS_sl (by simp)
theorem hf149 : Pg.funcs[114]? = some Tryz.f114 := by rw [Pg_eq]; rfl
theorem s149 (x : Nat) (hx : x < B * B) : SoundS 114 [.int .u64 (fun _ => (x : Int))] (nat (limbs x)) := by
 refine sound_fn hf149 rfl rfl rfl rfl rfl ?_
 have h2 : x / B < B := Nat.div_lt_of_lt_mul hx
 have hv : val [UInt32.ofNat (x % B), UInt32.ofNat (x / B)] = x := by
  simp only [val, ofNat_mod]
  rw [UInt32.toNat_ofNat', Nat.mod_eq_of_lt (show x / B < 2 ^ 32 from h2), Nat.mul_zero, Nat.add_zero]
  exact Nat.mod_add_div x B
 have c1 := s155 [UInt32.ofNat (x % B), UInt32.ofNat (x / B)] (by simp)
 rw [hv] at c1
 have he : ([[.int .u32 (nx .u32 (x : Int))], [.int .u32 (nx .u32 (ishr .u64 (x : Int) 32))]] : List (List D)) = lm [UInt32.ofNat (x % B), UInt32.ofNat (x / B)] := by
  rw [ishr32]
  simp only [lm, List.map_cons, List.map_nil, ofNat_mod, u32_mod, Nat.mod_eq_of_lt h2, nx_u32, B] at *
  congr 3 <;> congr 1 <;> omega
 generalize limbs x = W at *
 cbv
 refine ⟨nn_of (by omega), ?_⟩
 refine callS' rfl (by exact ⟨leS_sl he, trivial⟩) c1 rfl ?_
 cbv
 (refine retC rfl ?_; cbv)
 exact leS_refl _
theorem hf206 : Pg.funcs[169]? = some Tryz.f169 := by rw [Pg_eq]; rfl
theorem s206 (l : List UInt32) (hl : l.length < 2^40) : SoundS 169 [nat l] (.tup [.int .u64 (fun _ => ((if val l < B * B then val l else 0 : Nat) : Int)), .bool (fun _ => decide (val l < B * B))]) := by
 refine sound_fn hf206 rfl rfl rfl rfl rfl ?_
 have hl' := Nat.lt_of_le_of_lt (limbs_length_le' l) hl
 have c1 := s155 l (by omega)
 have hv := val_limbs (val l)
 have h2 := @len2 (val l)
 generalize limbs (val l) = p at *
 generalize hr : (if val l < B * B then val l else 0 : Nat) = r
 generalize hb : decide (val l < B * B) = b
 generalize val l = v at *
 have hin : p.length ≤ 2 → r = val p ∧ b = true := fun h => by rw [← hr, ← hb, if_pos (h2.1 h), hv]; exact ⟨rfl, decide_eq_true (h2.1 h)⟩
 cbv
 refine callS' rfl okA (c1) rfl ?_
 cbv
 refine cut_dec (fun h => ?_) (fun h => ?_)
 ·have h0 : p.length = 0 := om
  obtain ⟨e1, e2⟩ := hin (by omega)
  cbv
  (refine retC rfl ?_; cbv)
  refine ⟨leS_int ?_, leS_tt e2, trivial⟩
  rw [e1, List.eq_nil_of_length_eq_zero h0]; rfl
 ·cbv
  refine cut_dec (fun h3 => ?_) (fun h3 => ?_)
  ·have h0 : p.length = 1 := om
   obtain ⟨e1, e2⟩ := hin (by omega)
   cbv
   refine idx_lm 0 rfl (by omega) ?_
   cbv
   (refine retC rfl ?_; cbv)
   refine ⟨leS_int ?_, leS_tt e2, trivial⟩
   rw [e1]
   match p, h0 with
   | [x], _ =>
    have := u32_lt x
    show nx .u64 ((x.toNat : Nat) : Int) = ((x.toNat + B * 0 : Nat) : Int)
    rw [nx_nat (by simp only [B] at this; omega)]; simp
  ·cbv
   refine cut_dec (fun h4 => ?_) (fun h4 => ?_)
   ·have h0 : p.length = 2 := om
    obtain ⟨e1, e2⟩ := hin (by omega)
    cbv
    refine draw_of 10 (by cbv) ?_
    cbv
    refine idx_lm 0 rfl (by omega) ?_
    cbv
    refine idx_lm 1 rfl (by omega) ?_
    cbv
    refine ⟨nn_of (by omega), ?_⟩
    (refine retC rfl ?_; cbv)
    refine ⟨leS_int ?_, leS_tt e2, trivial⟩
    rw [e1]
    match p, h0 with
    | [x, y], _ =>
     have h5 := u32_lt x
     have h6 := u32_lt y
     show ior .u64 (nx .u64 ((x.toNat : Nat) : Int)) (ishl .u64 (nx .u64 ((y.toNat : Nat) : Int)) 32) = ((x.toNat + B * (y.toNat + B * 0) : Nat) : Int)
     rw [nx_nat (n := x.toNat) (by simp only [B] at h5; omega), or2 h5 h6]; rfl
   ·have h0 : ¬ p.length ≤ 2 := om
    have h5 : ¬ v < B * B := fun e => h0 (h2.2 e)
    cbv
    (refine retC rfl ?_; cbv)
    exact ⟨leS_int (by rw [← hr, if_neg h5]; rfl), leS_ff (by rw [← hb]; exact decide_eq_false h5), trivial⟩
theorem hf205 : Pg.funcs[168]? = some Tryz.f168 := by rw [Pg_eq]; rfl
theorem s205 (a b : List UInt32) (ha : a.length < 2^40) (hb : b.length < 2^40) : SoundS 168 [nat a, nat b] (.int .i64 (fun _ => cmpI (val a) (val b))) := by
 refine sound_fn hf205 rfl rfl rfl rfl rfl ?_
 have hlt : val a < val b → cmpI (val a) (val b) = -1 := cmpI_lt
 have hgt : val b < val a → cmpI (val a) (val b) = 1 := cmpI_gt
 have heq : val a = val b → cmpI (val a) (val b) = 0 := fun h => by rw [h, cmpI_eq]
 generalize hC : cmpI (val a) (val b) = C at *
 have hmax : imax ((lm a).length : Int) ((lm b).length : Int) = ((max a.length b.length : Nat) : Int) := by
  unfold imax
  rw [lm_length, lm_length]
  split <;> omega
 cbv
 refine ⟨in64_of (by (try dsimp only [ncast] at *); rw [hmax]; omega) (by (try dsimp only [ncast] at *); rw [hmax]; omega), ?_⟩
 refine loop_n (σ := Nat) (fun n => ⟨[(0, nat a), (1, nat b), (5, .int .i64 (fun _ => (n : Int) - 1))], []⟩) (fun n => n ≤ max a.length b.length ∧ val (a.drop n) = val (b.drop n)) (fun n => n) (max a.length b.length) ⟨Nat.le_refl _, by rw [List.drop_of_length_le (by omega), List.drop_of_length_le (by omega)]⟩ (.le ?_ trivial rfl) ?_
 ·cbv
  exact ⟨leS_refl _, leS_refl _, leS_int (by (try dsimp only [ncast] at *); rw [hmax]), trivial⟩
 intro n hn
 cbv
 refine cut_dec (fun h => ?_) (fun h => ?_)
 ·(try dsimp only [ncast] at *)
  obtain ⟨m, rfl⟩ : ∃ m, n = m + 1 := ⟨n - 1, by omega⟩
  have hm : ((m + 1 : Nat) : Int) - 1 = (m : Int) := by omega
  have da := val_drop_step a m
  rw [hn.2] at da
  have db := val_drop_step b m
  have ca := s154 a m ha
  have cb := s154 b m hb
  cbv
  refine callS' rfl (by exact ⟨leS_refl _, leS_int hm, trivial⟩) ca rfl ?_
  cbv
  refine callS' rfl (by exact ⟨leS_refl _, leS_int hm, trivial⟩) cb rfl ?_
  cbv
  refine cut_dec (fun h2 => ?_) (fun h2 => ?_)
  ·cbv
   (refine retC rfl ?_; cbv)
   exact leS_int (hlt (lt_of_drop (m := m) (by (try dsimp only [ncast] at *); omega))).symm
  ·cbv
   refine callS' rfl (by exact ⟨leS_refl _, leS_int hm, trivial⟩) ca rfl ?_
   cbv
   refine callS' rfl (by exact ⟨leS_refl _, leS_int hm, trivial⟩) cb rfl ?_
   cbv
   refine cut_dec (fun h3 => ?_) (fun h3 => ?_)
   ·cbv
    (refine retC rfl ?_; cbv)
    exact leS_int (hgt (lt_of_drop (m := m) (by (try dsimp only [ncast] at *); omega))).symm
   ·cbv
    refine ⟨in64_of om om, m, ⟨by omega, by (try dsimp only [ncast] at *); omega⟩, by omega, .le ?_ trivial rfl⟩
    cbv
    exact ⟨leS_refl _, leS_refl _, leS_int om, trivial⟩
 ·have h0 : n = 0 := om
  subst h0
  cbv
  (refine retC rfl ?_; cbv)
  exact leS_int (heq (by simpa using hn.2)).symm
theorem hf130 : Pg.funcs[108]? = some Tryz.f108 := by rw [Pg_eq]; rfl
theorem s130 (a b : List UInt32) (ha : a.length < 2^40) (hb : b.length < 2^40) : SoundS 108 [nat a, nat b] (.bool (fun _ => decide (a = b))) := by
 refine sound_fn hf130 rfl rfl rfl rfl rfl ?_
 generalize hC : decide (a = b) = C at *
 cbv
 refine cut_dec (fun h => ?_) (fun h => ?_)
 ·have hl : a.length = b.length := by (try dsimp only [ncast] at *); simp only [lm_length] at h; omega
  cbv
  refine loop_n (σ := Nat) (fun n => ⟨[(0, nat a), (1, nat b), (5, .int .i64 (fun _ => (n : Int)))], []⟩) (fun n => n ≤ a.length ∧ a.take n = b.take n) (fun n => a.length - n) 0 ⟨Nat.zero_le _, by simp⟩ (.le ?_ trivial rfl) ?_
  ·cbv
   exact ⟨leS_refl _, leS_refl _, leS_refl _, trivial⟩
  intro n hn
  cbv
  refine cut_dec (fun h2 => ?_) (fun h2 => ?_)
  ·have hlt : n < a.length := om
   cbv
   refine draw_of 9 (by cbv) ?_
   cbv
   refine idx_lm n om om ?_
   cbv
   refine idx_lm n om om ?_
   cbv
   refine cut_dec (fun h3 => ?_) (fun h3 => ?_)
   ·cbv
    refine ⟨in64_of om om, n + 1, ⟨hlt, ?_⟩, by show a.length - (n + 1) < a.length - n; omega, .le ?_ trivial rfl⟩
    ·have e : a.getD n 0 = b.getD n 0 := UInt32.toNat_inj.1 (by (try dsimp only [ncast] at *); omega)
     rw [take_snoc a hlt, take_snoc b (by omega), hn.2, e]
    ·cbv
     exact ⟨leS_refl _, leS_refl _, leS_int om, trivial⟩
   ·cbv
    (refine retC rfl ?_; cbv)
    refine leS_ff ?_
    rw [← hC]
    exact decide_eq_false fun e => h3 (by rw [e])
  ·have hn0 : n = a.length := om
   subst hn0
   cbv
   (refine retC rfl ?_; cbv)
   refine leS_tt ?_
   rw [← hC]
   refine decide_eq_true ?_
   have := hn.2
   rwa [List.take_of_length_le (Nat.le_refl _), List.take_of_length_le (by omega)] at this
 ·cbv
  (refine retC rfl ?_; cbv)
  refine leS_ff ?_
  rw [← hC]
  exact decide_eq_false fun e => h (by rw [e])
end Go.Proofs.YtcanljninhfmhaaGreat
