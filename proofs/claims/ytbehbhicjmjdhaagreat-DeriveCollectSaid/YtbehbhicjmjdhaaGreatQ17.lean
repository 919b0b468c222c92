/- CONTRACTS: natural, part F: Len32, LeadingZeros32, Bits, Shr, Uint, short. * CONTRACTS: natural, part G: short, estimate, reduce. -/
import Derived.Test.YtbehbhicjmjdhaaGreatQ16
import Derived.Test.YtbehbhicjmjdhaaGreatQ15

namespace Go.Proofs.YtbehbhicjmjdhaaGreat
open Go
set_option linter.unusedVariables false
set_option maxRecDepth 100000

/-- A contract of the kit's own words, of one integer. -/
theorem soundS_int1 {f : FuncId} {fn : Func} (hf : Pg.funcs[f]? = some fn) (hb : fn.body.isSome = true) (hname : (fn.name == "runtime.NumGoroutine") = false) {k k' : IntKind} {x z : Int}
    (h : ∀ w, Calls Pg f #[.int k x] w fun e w' => e = .returned (.int k' z) ∧ w' = w) : SoundS f [.int k (fun _ => x)] (.int k' (fun _ => z)) where
  isf vals w := by
    obtain ⟨c, hc⟩ := Option.isSome_iff_exists.1 hb
    have hn : ¬ fn.name = "runtime.NumGoroutine" := by simpa using hname
    simp [callFunc, hf, hn, hc]
  go w S β vals hbnd hobj hsz hrep := by
    have h0 := rep_int (hrep 0 (by simp))
    have hv : vals = #[.int k x] := by
      apply Array.ext
      · simpa using hsz
      · intro i h1 h2
        have : i = 0 := by simp at h2; omega
        subst this
        have : vals.getD 0 undef = vals[0] := by simp [h1]
        rw [this] at h0
        simpa using h0
    subst hv
    refine (h w).mono ?_
    rintro e w' ⟨rfl, rfl⟩
    exact ⟨_, S, β, rfl, ⟨Nat.le_refl _, rfl, rfl, rfl, fun _ _ _ => rfl, fun b vs T h => ⟨vs, h, rfl⟩, hbnd, fun _ _ h => h, fun _ _ _ h => h⟩, .c rfl (.int _ _), hobj, rfl, fun _ _ h => by simp at h, fun n o b h => by simp at h⟩

theorem hf228 : Pg.funcs[108]? = some Tryz.f108 := by rw [Pg_eq]; rfl
theorem s228 (x : Nat) (hx : x < 4294967296) : SoundS 108 [.int .u32 (fun _ => (x : Int))] (.int .i64 (fun _ => (Lib.bitLen x : Int))) := by
  refine soundS_int1 hf228 rfl rfl fun w => ?_
  rw [Pg_eq]
  exact len32 (x : Int) w (by omega) (by omega)
theorem bitLen_lt {x : Nat} (hx : x < 4294967296) : Lib.bitLen x ≤ 32 := Lib.bitLen_le x 32 (by omega) (by omega)
theorem hf233 : Pg.funcs[113]? = some Tryz.f113 := by rw [Pg_eq]; rfl
theorem s233 (x : Nat) (hx : x < 4294967296) : SoundS 113 [.int .u32 (fun _ => (x : Int))] (.int .i64 (fun _ => 32 - (Lib.bitLen x : Int))) := by
  refine sound_fn hf233 rfl rfl rfl rfl rfl ?_
  have := bitLen_lt hx
  cbv
  refine callS' rfl (by exact ⟨leS_refl _, trivial⟩) (s228 x hx) rfl ?_
  cbv
  refine ⟨in64_of (by (try dsimp only [ncast] at *) <;> (try simp only [lm_length] at *) <;> omega) (by (try dsimp only [ncast] at *) <;> (try simp only [lm_length] at *) <;> omega), ?_⟩
  exact ret0 rfl (leS_refl _) rfl

/-! ### Bits, Uint -/

def bitsP (n : Nat) : Nat := if n = 0 then 0 else 32 * ((limbs n).length - 1) + Lib.bitLen ((limbs n).getD ((limbs n).length - 1) 0).toNat
theorem bitLen_pos {x : Nat} (h : x ≠ 0) (hx : x < 4294967296) : 0 < Lib.bitLen x := by
  rw [Lib.bitLen_half x h (by omega)]; omega
theorem top_ne {n : Nat} (h : n ≠ 0) : ((limbs n).getD ((limbs n).length - 1) 0).toNat ≠ 0 := by
  have h1 := canon_limbs n
  rw [canon_last (fun e => h (limbs_eq_nil.1 e))] at h1
  intro e
  have : (limbs n).getD ((limbs n).length - 1) 0 = 0 := UInt32.toNat_inj.1 e
  rw [this] at h1
  exact absurd h1 (by decide)
theorem bitsP_eq0 {n : Nat} : bitsP n = 0 ↔ n = 0 := by
  unfold bitsP
  split
  · simp_all
  · rename_i h
    have := bitLen_pos (top_ne h) (u32_lt _)
    constructor <;> intro <;> omega
theorem bitsP_le {n : Nat} : bitsP n ≤ 32 * (limbs n).length := by
  unfold bitsP
  split
  · omega
  · rename_i h
    have h1 := bitLen_lt (x := ((limbs n).getD ((limbs n).length - 1) 0).toNat) (u32_lt _)
    have : 0 < (limbs n).length := by rcases Nat.eq_zero_or_pos (limbs n).length with e | e; exact absurd (limbs_eq_nil.1 (List.eq_nil_of_length_eq_zero e)) h; exact e
    omega
theorem hf202 : Pg.funcs[76]? = some Tryz.f76 := by rw [Pg_eq]; rfl
theorem s202 (l : List UInt32) (hl : l.length < 2^40) : SoundS 76 [nat l] (.int .i64 (fun _ => (bitsP (val l) : Int))) := by
  refine sound_fn hf202 rfl rfl rfl rfl rfl ?_
  have hl' := Nat.lt_of_le_of_lt (limbs_length_le' l) hl
  cbv
  refine callS' rfl (by exact ⟨leS_refl _, trivial⟩) (s209 l (by omega)) rfl ?_
  cbv
  refine cut_dec (fun h => ?_) (fun h => ?_)
  · cbv
    refine ret0 rfl ?_ rfl
    have : val l = 0 := limbs_eq_nil.1 (List.eq_nil_of_length_eq_zero (by (try dsimp only [ncast] at *) <;> (try simp only [lm_length] at *) <;> omega))
    exact leS_int (by rw [bitsP_eq0.2 this]; rfl)
  · cbv
    have h0 : val l ≠ 0 := fun e => h (by rw [e, limbs_zero]; rfl)
    have hp : 0 < (limbs (val l)).length := (by (try dsimp only [ncast] at *) <;> (try simp only [lm_length] at *) <;> omega)
    refine ⟨in64_of (by (try dsimp only [ncast] at *) <;> (try simp only [lm_length] at *) <;> omega) (by (try dsimp only [ncast] at *) <;> (try simp only [lm_length] at *) <;> omega), in64_of (by (try dsimp only [ncast] at *) <;> (try simp only [lm_length] at *) <;> omega) (by (try dsimp only [ncast] at *) <;> (try simp only [lm_length] at *) <;> omega), in64_of (by (try dsimp only [ncast] at *) <;> (try simp only [lm_length] at *) <;> omega) (by (try dsimp only [ncast] at *) <;> (try simp only [lm_length] at *) <;> omega), idx_lm ((limbs (val l)).length - 1) (by (try dsimp only [ncast] at *) <;> (try simp only [lm_length] at *) <;> omega) (by (try dsimp only [ncast] at *) <;> (try simp only [lm_length] at *) <;> omega) ?_⟩
    cbv
    have h3 := bitLen_lt (x := ((limbs (val l)).getD ((limbs (val l)).length - 1) 0).toNat) (u32_lt _)
    have h5 : bitsP (val l) = 32 * ((limbs (val l)).length - 1) + Lib.bitLen ((limbs (val l)).getD ((limbs (val l)).length - 1) 0).toNat := by rw [bitsP, if_neg h0]
    refine callS' rfl (by exact ⟨leS_refl _, trivial⟩) (s228 ((limbs (val l)).getD ((limbs (val l)).length - 1) 0).toNat (u32_lt _)) rfl ?_
    generalize Lib.bitLen ((limbs (val l)).getD ((limbs (val l)).length - 1) 0).toNat = t at *
    cbv
    refine ⟨in64_of (by (try dsimp only [ncast] at *) <;> (try simp only [lm_length] at *) <;> omega) (by (try dsimp only [ncast] at *) <;> (try simp only [lm_length] at *) <;> omega), ?_⟩
    refine ret0 rfl ?_ rfl
    exact leS_int (by rw [h5]; (try dsimp only [ncast] at *); simp only [lm_length]; omega)

theorem ior64 {a b : Nat} (ha : a < 18446744073709551616) (hb : b < 18446744073709551616) : ior .u64 (a : Int) (b : Int) = ((a ||| b : Nat) : Int) := by
  unfold ior
  have h1 : a ||| b < 2 ^ 64 := Nat.or_lt_two_pow ha hb
  have key : (BitVec.ofInt 64 (a : Int) ||| BitVec.ofInt 64 (b : Int)).toNat = a ||| b := by
    rw [BitVec.toNat_or, BitVec.ofInt_natCast, BitVec.ofInt_natCast, BitVec.toNat_ofNat, BitVec.toNat_ofNat, Nat.mod_eq_of_lt (show a < 2 ^ 64 from ha), Nat.mod_eq_of_lt (show b < 2 ^ 64 from hb)]
  show IntKind.u64.wrap ((BitVec.ofInt 64 (a : Int) ||| BitVec.ofInt 64 (b : Int)).toNat : Int) = _
  rw [key]
  have := nx_u64 ((a ||| b : Nat) : Int)
  unfold nx at this
  rw [this]
  omega
/-- Two limbs into one word. -/
theorem or2 {a b : Nat} (ha : a < 4294967296) (hb : b < 4294967296) : ior .u64 (a : Int) (ishl .u64 (nx .u64 (b : Int)) 32) = ((a + 4294967296 * b : Nat) : Int) := by
  have h1 := ishl_nat (a := b) (k := 32) (by omega) (by omega)
  rw [nx_nat (by omega)]
  show ior .u64 (a : Int) (ishl .u64 (b : Int) ((32 : Nat) : Int)) = _
  rw [h1, ior64 (by omega) (by omega), Nat.mul_comm b, or_add (k := 32) ha]
theorem or2' {a b : Nat} (ha : a < 4294967296) (hb : b < 4294967296) : ior .u64 (ishl .u64 (b : Int) 32) (nx .u64 (a : Int)) = ((a + 4294967296 * b : Nat) : Int) := by
  have h1 := ishl_nat (a := b) (k := 32) (by omega) (by omega)
  rw [nx_nat (by omega)]
  show ior .u64 (ishl .u64 (b : Int) ((32 : Nat) : Int)) (a : Int) = _
  rw [h1, ior64 (by omega) (by omega), Nat.mul_comm b, Nat.or_comm, or_add (k := 32) ha]
theorem len2 {n : Nat} : (limbs n).length ≤ 2 ↔ n < B * B := by
  constructor
  · intro h
    have h1 := val_lt (limbs n)
    rw [val_limbs] at h1
    have := Nat.pow_le_pow_right B_pos h
    have e : B ^ 2 = B * B := by rw [Nat.pow_succ, Nat.pow_one]
    omega
  · intro h
    exact limbs_length_le (by rw [Nat.pow_succ, Nat.pow_one]; exact h)
theorem hf231 : Pg.funcs[111]? = some Tryz.f111 := by rw [Pg_eq]; rfl
theorem s231 (l : List UInt32) (hl : l.length < 2^40) : SoundS 111 [nat l] (.tup [.int .u64 (fun _ => ((if val l < B * B then val l else 0 : Nat) : Int)), .bool (fun _ => decide (val l < B * B))]) := by
  refine sound_fn hf231 rfl rfl rfl rfl rfl ?_
  have hl' := Nat.lt_of_le_of_lt (limbs_length_le' l) hl
  cbv
  refine callS' rfl (by exact ⟨leS_refl _, trivial⟩) (s209 l (by omega)) rfl ?_
  cbv
  refine cut_dec (fun h => ?_) (fun h => ?_)
  · cbv
    have h1 : ¬ val l < B * B := fun h1 => by have := len2.2 h1; (try dsimp only [ncast] at *); simp only [lm_length] at h; omega
    refine ret0 rfl ?_ rfl
    exact ⟨leS_int (by rw [if_neg h1]; rfl), leS_ff (decide_eq_false h1), trivial⟩
  · have h2 : (limbs (val l)).length ≤ 2 := (by (try dsimp only [ncast] at *) <;> (try simp only [lm_length] at *) <;> omega)
    have h1 : val l < B * B := len2.1 h2
    have hv := val_limbs (val l)
    generalize limbs (val l) = p at *
    cbv
    refine loop_n (σ := Nat) (fun s => ⟨[(0, nat p), (4, .int .u64 (fun _ => (val (p.take s) : Int))), (12, nat p), (13, .int .i64 (fun _ => (p.length : Int))), (14, .int .i64 (fun _ => (s : Int)))], []⟩)
      (fun s => s ≤ p.length) (fun s => p.length - s) 0 (by (try dsimp only [ncast] at *) <;> (try simp only [lm_length] at *) <;> omega) (.le ?_ trivial rfl) ?_
    · cbv
      exact ⟨leS_refl _, leS_refl _, leS_refl _, leS_int (by (try dsimp only [ncast] at *) <;> (try simp only [lm_length] at *) <;> omega), leS_refl _, trivial⟩
    intro i hi
    cbv
    refine cut_dec (fun h5 => ?_) (fun h5 => ?_)
    · cbv
      refine idx_lm i (by (try dsimp only [ncast] at *) <;> (try simp only [lm_length] at *) <;> omega) (by (try dsimp only [ncast] at *) <;> (try simp only [lm_length] at *) <;> omega) ?_
      cbv
      refine ⟨in64_of (by (try dsimp only [ncast] at *) <;> (try simp only [lm_length] at *) <;> omega) (by (try dsimp only [ncast] at *) <;> (try simp only [lm_length] at *) <;> omega), nn_of (by (try dsimp only [ncast] at *) <;> (try simp only [lm_length] at *) <;> omega), in64_of (by (try dsimp only [ncast] at *) <;> (try simp only [lm_length] at *) <;> omega) (by (try dsimp only [ncast] at *) <;> (try simp only [lm_length] at *) <;> omega), i + 1, (by (try dsimp only [ncast] at *) <;> (try simp only [lm_length] at *) <;> omega), (by (try dsimp only [ncast] at *) <;> (try simp only [lm_length] at *) <;> omega), .le ?_ trivial rfl⟩
      cbv
      have hd := u32_lt (p.getD i 0)
      have hv1 := val_take_lt p i
      have hv2 := val_take_getD p i
      refine ⟨leS_refl _, leS_int ?_, leS_refl _, leS_refl _, leS_int (by (try dsimp only [ncast] at *) <;> (try simp only [lm_length] at *) <;> omega), trivial⟩
      have hi2 : i = 0 ∨ i = 1 := (by (try dsimp only [ncast] at *) <;> (try simp only [lm_length] at *) <;> omega)
      simp only [B] at hd
      rcases hi2 with rfl | rfl
      · rw [hv2]
        simp only [val, List.take_zero, Nat.pow_zero, Nat.one_mul]
        have e := or2 (a := 0) (b := 0) (by omega) (by omega)
        have h9 : ishl .u64 (nx .u64 ((p.getD 0 0).toNat : Int)) (32 * ((0 : Nat) : Int)) = ((p.getD 0 0).toNat : Int) := by
          have := ishl_nat (a := (p.getD 0 0).toNat) (k := 0) (by omega) (by omega)
          rw [nx_nat (by omega)]
          simpa using this
        show ior .u64 ((0 : Nat) : Int) (ishl .u64 (nx .u64 ((p.getD 0 0).toNat : Int)) (32 * ((0 : Nat) : Int))) = _
        rw [h9, ior64 (by omega) (by omega)]
        simp
      · rw [hv2]
        rw [Nat.pow_one] at hv1 ⊢
        have := or2 (a := val (p.take 1)) (b := (p.getD 1 0).toNat) hv1 (by omega)
        show ior .u64 (val (p.take 1) : Int) (ishl .u64 (nx .u64 ((p.getD 1 0).toNat : Int)) 32) = _
        rw [this]
        rfl
    · cbv
      refine ret0 rfl ?_ rfl
      have : i = p.length := (by (try dsimp only [ncast] at *) <;> (try simp only [lm_length] at *) <;> omega)
      subst this
      rw [List.take_of_length_le (Nat.le_refl _)]
      exact ⟨leS_int (by rw [if_pos h1, hv]), leS_tt (decide_eq_true h1), trivial⟩

/-! ### Shr, short -/

theorem shr_step {bi b1 Y s : Nat} (hs : s < 32) (hb : bi < B) (h1 : b1 = Y % B) : (bi + B * Y) / 2 ^ s = ((bi + B * b1) / 2 ^ s) % B + B * (Y / 2 ^ s) := by
  have hP : 0 < 2 ^ s := Nat.two_pow_pos s
  have hB : B = 2 ^ s * 2 ^ (32 - s) := by
    rw [← Nat.pow_add]
    have : s + (32 - s) = 32 := by omega
    rw [this]; rfl
  have key : ∀ y, (bi + B * y) / 2 ^ s = (bi + B * (y % 2 ^ s)) / 2 ^ s + B * (y / 2 ^ s) := by
    intro y
    have e : bi + B * y = (bi + B * (y % 2 ^ s)) + 2 ^ s * (B * (y / 2 ^ s)) := by
      have h := Nat.mod_add_div y (2 ^ s)
      calc bi + B * y = bi + B * (y % 2 ^ s + 2 ^ s * (y / 2 ^ s)) := by rw [h]
        _ = _ := by rw [Nat.mul_add, Nat.mul_left_comm]; omega
    rw [e, Nat.add_mul_div_left _ _ hP]
  have hmod : b1 % 2 ^ s = Y % 2 ^ s := by
    rw [h1]
    exact Nat.mod_mod_of_dvd Y ⟨_, hB⟩
  have hlt : (bi + B * (Y % 2 ^ s)) / 2 ^ s < B := by
    rw [Nat.div_lt_iff_lt_mul hP]
    have h2 := Nat.mod_lt Y hP
    have h3 := Nat.mul_le_mul_left B (show Y % 2 ^ s + 1 ≤ 2 ^ s from h2)
    rw [Nat.mul_add] at h3
    omega
  rw [key Y, key b1, hmod, Nat.add_mul_mod_self_left, Nat.mod_eq_of_lt hlt]
theorem ishr_nat {a k : Nat} (hk : k ≤ 64) : ishr .u64 (a : Int) (k : Int) = ((a / 2 ^ k : Nat) : Int) := by
  unfold ishr
  have : min (k : Int).toNat IntKind.u64.bits = k := by simp [IntKind.bits]; omega
  rw [this, Int.fdiv_eq_ediv_of_nonneg _ (by exact Int.le_of_lt (Int.pow_pos (by decide)))]
  push_cast
  rfl
theorem irem_nat {a b : Nat} : irem (a : Int) (b : Int) = ((a % b : Nat) : Int) := by
  unfold irem; rfl
theorem iquo_nat {a b : Nat} : iquo (a : Int) (b : Int) = ((a / b : Nat) : Int) := by
  unfold iquo; rfl
theorem val_drop_mod {l : List UInt32} (j : Nat) : (l.getD j 0).toNat = val (l.drop j) % B := by
  rcases Nat.lt_or_ge j l.length with h | h
  · rw [val_drop_cons h, Nat.add_mul_mod_self_left, Nat.mod_eq_of_lt (u32_lt _)]
  · rw [List.drop_of_length_le h]
    simp [List.getElem?_eq_none h, val]
theorem div_pow_limbs (n k : Nat) : val ((limbs n).drop (k / 32)) / 2 ^ (k % 32) = n / 2 ^ k := by
  have e : val ((limbs n).drop (k / 32)) = n / B ^ (k / 32) := by
    rcases Nat.lt_or_ge (limbs n).length (k / 32) with h | h
    · rw [List.drop_of_length_le (by omega)]
      have h1 := val_lt (limbs n)
      rw [val_limbs] at h1
      have := Nat.pow_le_pow_right B_pos (Nat.le_of_lt h)
      rw [Nat.div_eq_of_lt (by omega)]; rfl
    · have h1 := val_drop (l := limbs n) (k / 32) h
      rw [val_limbs] at h1
      have h2 := val_take_lt (limbs n) (k / 32)
      have hB := Nat.pow_pos (n := k / 32) B_pos
      generalize B ^ (k / 32) = M at *
      generalize val ((limbs n).drop (k / 32)) = x at *
      rw [h1, Nat.add_mul_div_left _ _ hB, Nat.div_eq_of_lt h2]
      omega
  rw [e, Nat.div_div_eq_div_mul]
  congr 1
  show (2 ^ 32) ^ (k / 32) * 2 ^ (k % 32) = 2 ^ k
  rw [← Nat.pow_mul, ← Nat.pow_add]
  congr 1
  omega
theorem nx_i64 {z : Int} (h1 : -9223372036854775808 ≤ z) (h2 : z < 9223372036854775808) : nx .i64 z = z := by
  unfold nx
  simp [IntKind.wrap, IntKind.signed, IntKind.bits]
  split <;> omega
theorem hf237 : Pg.funcs[117]? = some Tryz.f117 := by rw [Pg_eq]; rfl
theorem s237 (a : List UInt32) (k : Nat) (ha : a.length < 2^40) (hk : k ≤ 1048576) : SoundS 117 [nat a, .int .i64 (fun _ => (k : Int))] (.tup [nat (limbs (val a / 2 ^ k)), .int .i64 (fun _ => 0)]) := by
  refine sound_fn hf237 rfl rfl rfl rfl rfl ?_
  have ha' := Nat.lt_of_le_of_lt (limbs_length_le' a) ha
  have hdp := div_pow_limbs (val a) k
  have hq : iquo (k : Int) 32 = ((k / 32 : Nat) : Int) := iquo_nat (b := 32)
  have hr : irem (k : Int) 32 = ((k % 32 : Nat) : Int) := irem_nat (b := 32)
  have hni : nx .i64 (iquo (k : Int) 32) = ((k / 32 : Nat) : Int) := by rw [hq, nx_i64 (by omega) (by omega)]
  cbv
  refine br_dec (fun h => (by (try dsimp only [ncast] at *) <;> (try simp only [lm_length] at *) <;> omega)) (fun h => ?_)
  cbv
  refine cut_dec (fun h => (by (try dsimp only [ncast] at *) <;> (try simp only [lm_length] at *) <;> omega)) (fun h => ?_)
  cbv
  refine callS' rfl (by exact ⟨leS_refl _, trivial⟩) (s209 a (by omega)) rfl ?_
  generalize hp : limbs (val a) = p at *
  cbv
  refine ⟨nz_of (by omega), ?_⟩
  refine cut_dec (fun h2 => ?_) (fun h2 => ?_)
  · cbv
    (try dsimp only [ncast] at *)
    rw [hni] at h2
    refine ret0 rfl ?_ rfl
    refine ⟨leS_nil ?_, leS_refl _, trivial⟩
    rw [List.drop_of_length_le (by rw [lm_length] at h2; omega)] at hdp
    rw [← hdp]
    simp [val, limbs_zero, lm]
  · (try dsimp only [ncast] at *)
    rw [hni] at h2
    cbv
    have hkl : k / 32 < p.length := (by (try dsimp only [ncast] at *) <;> (try simp only [lm_length] at *) <;> omega)
    refine ⟨nz_of (by omega), slok_of (by (try dsimp only [ncast] at *); rw [hni]; omega) (by (try dsimp only [ncast] at *); rw [hni, lm_length]; omega) (Int.le_refl _), lm_wid p, ?_⟩
    have hsl : ((lm p).take (((lm p).length : Nat) : Int).toNat).drop (nx .i64 (iquo (k : Int) 32)).toNat = lm (p.drop (k / 32)) := by
      rw [hni, Int.toNat_natCast, Int.toNat_natCast, List.take_of_length_le (Nat.le_refl _), lm_drop]
    (try dsimp only [ncast] at *)
    rw [hsl]
    have hbl : (p.drop (k / 32)).length < 2^40 := by rw [List.length_drop]; omega
    generalize p.drop (k / 32) = b at *
    cbv
    refine ⟨room_of (by (try dsimp only [ncast] at *) <;> (try simp only [lm_length] at *) <;> omega) (by (try dsimp only [ncast] at *) <;> (try simp only [lm_length] at *) <;> omega), mkok_of (by (try dsimp only [ncast] at *) <;> (try simp only [lm_length] at *) <;> omega) (by (try dsimp only [ncast] at *) <;> (try simp only [lm_length] at *) <;> omega), ?_⟩
    cbv
    refine loop_n (σ := Nat × List UInt32) (fun s => ⟨[(0, nat b), (1, .int .i64 (fun _ => (k : Int))), (6, .osl 29 1 (fun _ => 0) (fun _ => b.length)), (30, nat b), (31, .int .i64 (fun _ => (b.length : Int))), (32, .int .i64 (fun _ => (s.1 : Int)))], [(29, .arr 1 (fun _ => lm s.2))]⟩)
      (fun s => s.1 ≤ b.length ∧ s.2.length = b.length ∧ val (s.2.take s.1) + B ^ s.1 * (val (b.drop s.1) / 2 ^ (k % 32)) = val b / 2 ^ (k % 32)) (fun s => b.length - s.1)
      (0, List.replicate b.length 0) ⟨(by (try dsimp only [ncast] at *) <;> (try simp only [lm_length] at *) <;> omega), by simp, by simp [val]⟩ (.le ?_ ?_ rfl) ?_
    · cbv
      exact ⟨leS_refl _, leS_refl _, leS_osl rfl (by (try dsimp only [ncast] at *) <;> (try simp only [lm_length] at *) <;> omega), leS_refl _, leS_int (by (try dsimp only [ncast] at *) <;> (try simp only [lm_length] at *) <;> omega), leS_refl _, trivial⟩
    · cbv
      refine ⟨elsEq_of ?_, trivial⟩
      show List.replicate (((lm b).length : Int)).toNat _ = _
      have : (((lm b).length : Int)).toNat = b.length := by rw [lm_length]; omega
      rw [this]
      simp [lm, mapD, toD]
    intro s hs
    obtain ⟨h1, h3, h4⟩ := hs
    generalize s.1 = i at *
    generalize s.2 = out at *
    cbv
    refine cut_dec (fun h5 => ?_) (fun h5 => ?_)
    · cbv
      refine idx_lm i (by (try dsimp only [ncast] at *) <;> (try simp only [lm_length] at *) <;> omega) (by (try dsimp only [ncast] at *) <;> (try simp only [lm_length] at *) <;> omega) ?_
      cbv
      have hd := u32_lt (b.getD i 0)
      have hd1 := u32_lt (b.getD (i + 1) 0)
      have hks : k % 32 < 32 := Nat.mod_lt _ (by omega)
      refine ⟨in64_of (by (try dsimp only [ncast] at *) <;> (try simp only [lm_length] at *) <;> omega) (by (try dsimp only [ncast] at *) <;> (try simp only [lm_length] at *) <;> omega), ?_⟩
      refine cut_meet (σ := Unit) (fun _ => ⟨[(0, nat b), (1, .int .i64 (fun _ => (k : Int))), (6, .osl 29 1 (fun _ => 0) (fun _ => b.length)), (7, .int .i64 (fun _ => (i : Int))), (9, .int .u64 (fun _ => (((b.getD i 0).toNat + 4294967296 * (b.getD (i + 1) 0).toNat : Nat) : Int))), (30, nat b), (31, .int .i64 (fun _ => (b.length : Int))), (32, .int .i64 (fun _ => (i : Int)))], [(29, .arr 1 (fun _ => lm out))]⟩) (fun _ => True) (fun h6 => ?_) (fun h6 => ?_) ?_
      · cbv
        refine ⟨in64_of (by (try dsimp only [ncast] at *) <;> (try simp only [lm_length] at *) <;> omega) (by (try dsimp only [ncast] at *) <;> (try simp only [lm_length] at *) <;> omega), idx_lm (i + 1) (by (try dsimp only [ncast] at *) <;> (try simp only [lm_length] at *) <;> omega) (by (try dsimp only [ncast] at *) <;> (try simp only [lm_length] at *) <;> omega) ?_⟩
        cbv
        refine ⟨nn_of (by omega), (), trivial, .le ?_ ?_ rfl⟩
        · cbv
          refine ⟨leS_refl _, leS_refl _, leS_refl _, leS_refl _, leS_int ?_, leS_refl _, leS_refl _, leS_refl _, trivial⟩
          (try dsimp only [ncast] at *)
          rw [nx_nat (n := (b.getD i 0).toNat) (by simp only [B] at hd; omega)]
          exact or2 hd hd1
        · cbv
          exact ⟨elsEq_of rfl, trivial⟩
      · cbv
        refine ⟨(), trivial, .le ?_ ?_ rfl⟩
        · cbv
          refine ⟨leS_refl _, leS_refl _, leS_refl _, leS_refl _, leS_int ?_, leS_refl _, leS_refl _, leS_refl _, trivial⟩
          have : (b.getD (i + 1) 0).toNat = 0 := by
            have : b.length ≤ i + 1 := (by (try dsimp only [ncast] at *) <;> (try simp only [lm_length] at *) <;> omega)
            simp [List.getElem?_eq_none this]
          (try dsimp only [ncast] at *)
          rw [nx_nat (n := (b.getD i 0).toNat) (by simp only [B] at hd; omega), this]
          rfl
        · cbv
          exact ⟨elsEq_of rfl, trivial⟩
      intro _ _
      have hY : (b.getD (i + 1) 0).toNat = val (b.drop (i + 1)) % B := val_drop_mod _
      have hX := val_drop_cons (l := b) (i := i) (by (try dsimp only [ncast] at *) <;> (try simp only [lm_length] at *) <;> omega)
      have hst := shr_step (bi := (b.getD i 0).toNat) hks hd hY
      rw [← hX] at hst
      generalize hw : (b.getD i 0).toNat + 4294967296 * (b.getD (i + 1) 0).toNat = w at *
      have hw' : (b.getD i 0).toNat + B * (b.getD (i + 1) 0).toNat = w := hw
      rw [hw'] at hst
      cbv
      refine ⟨nz_of (by omega), nn_of (by (try dsimp only [ncast] at *); rw [hr]; omega), rng_of (by (try dsimp only [ncast] at *) <;> (try simp only [lm_length] at *) <;> omega) (by (try dsimp only [ncast] at *) <;> (try simp only [lm_length] at *) <;> omega), el_lm i (by simp) (by (try dsimp only [ncast] at *) <;> (try simp only [lm_length] at *) <;> omega) ?_⟩
      cbv
      refine ⟨in64_of (by (try dsimp only [ncast] at *) <;> (try simp only [lm_length] at *) <;> omega) (by (try dsimp only [ncast] at *) <;> (try simp only [lm_length] at *) <;> omega), (i + 1, out.set i (UInt32.ofNat (w / 2 ^ (k % 32)))), ⟨(by (try dsimp only [ncast] at *) <;> (try simp only [lm_length] at *) <;> omega), by simpa using h3, ?_⟩, (by (try dsimp only [ncast] at *) <;> (try simp only [lm_length] at *) <;> omega), .le ?_ ?_ rfl⟩
      · show val ((out.set i _).take (i + 1)) + B ^ (i + 1) * _ = _
        rw [val_set_take _ (by (try dsimp only [ncast] at *) <;> (try simp only [lm_length] at *) <;> omega), u32_mod, ← h4, hst, Nat.mul_add, Nat.pow_succ, Nat.mul_assoc, Nat.add_assoc]
      · cbv
        exact ⟨leS_refl _, leS_refl _, leS_refl _, leS_refl _, leS_refl _, leS_int (by (try dsimp only [ncast] at *) <;> (try simp only [lm_length] at *) <;> omega), trivial⟩
      · cbv
        refine ⟨elsEq_of ?_, trivial⟩
        have e : ishr .u64 (w : Int) (irem (k : Int) 32) = ((w / 2 ^ (k % 32) : Nat) : Int) := by rw [hr]; exact ishr_nat (by omega)
        show (lm out).set (0 + (i : Int).toNat) [.int .u32 (nx .u32 (ishr .u64 (w : Int) (irem (k : Int) 32)))] = _
        rw [e]
        exact lm_set_nx out (by simp) _
    · cbv
      have hi : i = b.length := (by (try dsimp only [ncast] at *) <;> (try simp only [lm_length] at *) <;> omega)
      subst hi
      refine callW (.trans (.le (ps' := ⟨[(62, .osl 29 1 (fun _ => 0) (fun _ => b.length))], [(29, .arr 1 (fun _ => lm out))]⟩) ?_ ?_ rfl) (.frz 29 rfl rfl ?_ ?_)) rfl (by refine ⟨leS_sl ?_, trivial⟩; exact List.take_of_length_le (by simp [lm_length] <;> omega)) (s209 out (by omega)) rfl ?_
      · cbv
        exact ⟨leS_refl _, trivial⟩
      · cbv
        exact ⟨elsEq_of rfl, trivial⟩
      · cbv
        exact ⟨frok_of (by simp [lm_length] <;> omega), trivial⟩
      · exact trivial
      cbv
      refine ret0 rfl ?_ rfl
      refine ⟨leS_sl ?_, leS_refl _, trivial⟩
      rw [List.take_of_length_le (by omega), List.drop_of_length_le (Nat.le_refl _)] at h4
      congr 2
      rw [← hdp, ← h4]
      simp [val]
end Go.Proofs.YtbehbhicjmjdhaaGreat

namespace Go.Proofs.YtbehbhicjmjdhaaGreat
open Go
set_option linter.unusedVariables false
set_option maxRecDepth 100000

theorem mk_row (n : Nat) (m : Int) (h : m = n) : (List.replicate m.toNat (mapD [.int .u32 (fun _ => 0)]) : List (List D)) = lm (List.replicate n 0) := by
  subst h
  simp [lm, mapD, toD]
theorem val_drop_set {l : List UInt32} {i : Nat} (h : i < l.length) (x : UInt32) : val ((l.set i x).drop i) = x.toNat + B * val (l.drop (i + 1)) := by
  have := val_drop_cons (l := l.set i x) (i := i) (by simpa using h)
  rw [this, List.drop_set_of_lt (by omega)]
  simp [h]
theorem hf232 : Pg.funcs[112]? = some Tryz.f112 := by rw [Pg_eq]; rfl
theorem s232 (a : List UInt32) (d : Nat) (ha : a.length < 2^40) (hd : d < B) (hd0 : 0 < d) : SoundS 112 [nat a, .int .u32 (fun _ => (d : Int))] (.tup [nat (limbs (val a / d)), nat (limbs (val a % d))]) := by
  have hdd : nx .u64 (d : Int) = (d : Int) := nx_nat (by simp only [B] at hd; omega)
  refine sound_fn hf232 rfl rfl rfl rfl rfl ?_
  cbv
  refine ⟨room_of (by (try dsimp only [ncast] at *) <;> (try simp only [lm_length] at *) <;> omega) (by (try dsimp only [ncast] at *) <;> (try simp only [lm_length] at *) <;> omega), mkok_of (by (try dsimp only [ncast] at *) <;> (try simp only [lm_length] at *) <;> omega) (by (try dsimp only [ncast] at *) <;> (try simp only [lm_length] at *) <;> omega), ?_⟩
  cbv
  refine ⟨in64_of (by (try dsimp only [ncast] at *) <;> (try simp only [lm_length] at *) <;> omega) (by (try dsimp only [ncast] at *) <;> (try simp only [lm_length] at *) <;> omega), ?_⟩
  refine loop_n (σ := Nat × Nat × List UInt32) (fun s => ⟨[(0, nat a), (1, .int .u32 (fun _ => (d : Int))), (6, .osl 11 1 (fun _ => 0) (fun _ => a.length)), (7, .int .u64 (fun _ => (s.2.1 : Int))), (8, .int .i64 (fun _ => (s.1 : Int) - 1))], [(11, .arr 1 (fun _ => lm s.2.2))]⟩)
    (fun s => s.1 ≤ a.length ∧ s.2.1 < d ∧ s.2.2.length = a.length ∧ val (a.drop s.1) = d * val (s.2.2.drop s.1) + s.2.1) (fun s => s.1)
    (a.length, 0, List.replicate a.length 0) ⟨(by (try dsimp only [ncast] at *) <;> (try simp only [lm_length] at *) <;> omega), hd0, by simp, by simp [val]⟩ (.le ?_ ?_ rfl) ?_
  · cbv
    exact ⟨leS_refl _, leS_refl _, leS_osl rfl (by (try dsimp only [ncast] at *) <;> (try simp only [lm_length] at *) <;> omega), leS_refl _, leS_int (by (try dsimp only [ncast] at *) <;> (try simp only [lm_length] at *) <;> omega), trivial⟩
  · cbv
    exact ⟨elsEq_of (mk_row a.length _ (by (try dsimp only [ncast] at *) <;> (try simp only [lm_length] at *) <;> omega)), trivial⟩
  intro s hs
  obtain ⟨h1, h2, h3, h4⟩ := hs
  generalize s.1 = n at *
  generalize s.2.1 = r at *
  generalize s.2.2 = out at *
  cbv
  refine cut_dec (fun h5 => ?_) (fun h5 => ?_)
  · (try dsimp only [ncast] at *)
    obtain ⟨m, rfl⟩ : ∃ m, n = m + 1 := ⟨n - 1, by omega⟩
    cbv
    have hx := u32_lt (a.getD m 0)
    refine ⟨nn_of (by omega), idx_lm m (by (try dsimp only [ncast] at *) <;> (try simp only [lm_length] at *) <;> omega) (by (try dsimp only [ncast] at *) <;> (try simp only [lm_length] at *) <;> omega) ?_⟩
    have hX := val_drop_cons (l := a) (i := m) (by (try dsimp only [ncast] at *) <;> (try simp only [lm_length] at *) <;> omega)
    generalize hxx : (a.getD m 0).toNat = x at *
    have hT : ior .u64 (ishl .u64 (r : Int) 32) (nx .u64 (x : Int)) = ((x + B * r : Nat) : Int) := by
      have := or2' (a := x) (b := r) hx (by simp only [B] at hd; omega)
      exact this
    have hlt : x + B * r < d * B := by
      have := Nat.mul_le_mul_left B (show r + 1 ≤ d from h2)
      rw [Nat.mul_add, Nat.mul_comm B d] at this
      omega
    have hq : (x + B * r) / d < B := by rw [Nat.div_lt_iff_lt_mul hd0, Nat.mul_comm B d]; exact hlt
    have hdB : d * B ≤ B * B := Nat.mul_le_mul_right B (Nat.le_of_lt hd)
    have hr := Nat.mod_lt (x + B * r) hd0
    have hdm := Nat.div_add_mod (x + B * r) d
    generalize hqq : (x + B * r) / d = q at *
    generalize hrr : (x + B * r) % d = r' at *
    have hQ : iquo (ior .u64 (ishl .u64 (r : Int) 32) (nx .u64 (x : Int))) (nx .u64 (d : Int)) = (q : Int) := by rw [hT, hdd, iquo_nat, hqq]
    have hR : irem (ior .u64 (ishl .u64 (r : Int) 32) (nx .u64 (x : Int))) (nx .u64 (d : Int)) = (r' : Int) := by rw [hT, hdd, irem_nat, hrr]
    cbv
    refine ⟨nz_of (by (try dsimp only [ncast] at *); rw [hdd]; omega), rng_of (by (try dsimp only [ncast] at *) <;> (try simp only [lm_length] at *) <;> omega) (by (try dsimp only [ncast] at *) <;> (try simp only [lm_length] at *) <;> omega), el_lm m (by (try dsimp only [ncast] at *); omega) (by (try dsimp only [ncast] at *) <;> (try simp only [lm_length] at *) <;> omega) ?_⟩
    cbv
    refine ⟨nz_of (by (try dsimp only [ncast] at *); rw [hdd]; omega), in64_of (by (try dsimp only [ncast] at *) <;> (try simp only [lm_length] at *) <;> omega) (by (try dsimp only [ncast] at *) <;> (try simp only [lm_length] at *) <;> omega), (m, r', out.set m (UInt32.ofNat q)), ⟨(by (try dsimp only [ncast] at *) <;> (try simp only [lm_length] at *) <;> omega), hr, by simpa using h3, ?_⟩, (by (try dsimp only [ncast] at *) <;> (try simp only [lm_length] at *) <;> omega), .le ?_ ?_ rfl⟩
    · show val (a.drop m) = d * val ((out.set m _).drop m) + r'
      rw [hX, h4, val_drop_set (by (try dsimp only [ncast] at *) <;> (try simp only [lm_length] at *) <;> omega), u32_mod, Nat.mod_eq_of_lt hq, Nat.mul_add B, Nat.mul_add d, Nat.mul_left_comm B d]
      have : x + B * r = d * q + r' := hdm.symm
      omega
    · cbv
      exact ⟨leS_refl _, leS_refl _, leS_refl _, leS_int hR, leS_int (by (try dsimp only [ncast] at *) <;> (try simp only [lm_length] at *) <;> omega), trivial⟩
    · cbv
      refine ⟨elsEq_of (lm_set_to out (j := m) ?_ ?_ hq), trivial⟩
      · (try dsimp only [ncast] at *); omega
      · show nx .u32 (nx .u64 (iquo (ior .u64 (ishl .u64 (r : Int) 32) (nx .u64 (x : Int))) (nx .u64 (d : Int)))) = (q : Int)
        simp only [B] at hq
        rw [hQ, nx_nat (by omega), nx_u32]; omega
  · cbv
    have hn : n = 0 := (by (try dsimp only [ncast] at *) <;> (try simp only [lm_length] at *) <;> omega)
    subst hn
    refine callW (.trans (.le (ps' := ⟨[(7, .int .u64 (fun _ => (r : Int))), (39, .osl 11 1 (fun _ => 0) (fun _ => a.length))], [(11, .arr 1 (fun _ => lm out))]⟩) ?_ ?_ rfl) (.frz 11 rfl rfl ?_ ?_)) rfl (by refine ⟨leS_sl ?_, trivial⟩; exact List.take_of_length_le (by simp [lm_length] <;> omega)) (s209 out (by omega)) rfl ?_
    · cbv
      exact ⟨leS_refl _, leS_refl _, trivial⟩
    · cbv
      exact ⟨elsEq_of rfl, trivial⟩
    · cbv
      exact ⟨frok_of (by simp [lm_length] <;> omega), trivial⟩
    · exact trivial
    cbv
    have hrB : r < B * B := by have := hd; simp only [B] at *; omega
    refine callS' rfl (by exact ⟨leS_refl _, trivial⟩) (s211 r hrB) rfl ?_
    cbv
    refine ret0 rfl ?_ rfl
    simp only [List.drop_zero] at h4
    have e1 : val a / d = val out := (Nat.div_eq_of_lt_le (by rw [Nat.mul_comm]; omega) (by rw [Nat.mul_comm, Nat.mul_add]; omega))
    have e2 : val a % d = r := by rw [h4, Nat.mul_add_mod]; exact Nat.mod_eq_of_lt h2
    exact ⟨leS_sl (by rw [e1]), leS_sl (by rw [e2]), trivial⟩

/-! ### estimate -/

theorem getD_mid {pre x post : List UInt32} {j : Nat} (h : j < x.length) : (pre ++ (x ++ post)).getD (pre.length + j) 0 = x.getD j 0 := by
  simp [List.getElem?_append, h, show ¬ pre.length + j < pre.length by omega]
theorem el_mid {pre x post : List UInt32} {i : Nat} {K : List PV → Prop} (j : Nat) (hi : i = pre.length + j) (hj : j < x.length) (hK : K [.int .u32 (fun _ => ((x.getD j 0).toNat : Int))]) : ElOk 1 (fun _ => lm (pre ++ (x ++ post))) (fun _ => i) K := by
  refine el_lm (pre.length + j) hi (by simp; omega) ?_
  rw [getD_mid hj]
  exact hK

/-- The results of a call that was given one object to keep. -/
theorem retK1 {rs : List ResultVar} {r : PV} {ps : PS} {l : List PV} {n : Nat} {o : Obj'} (h1 : resV ps rs = some l) (h2 : les (oneV l) (ren id r)) (h3 : lv r = true) (h4 : getO ps.objs n = some o) (h5 : closedO o = true) (h6 : Nat.ble 1000000 n = true) : RetOk rs r [(n, o)] [] ps :=
  ⟨ps, l, id, .refl ps, h1, les_le h2, h3, ⟨⟨h4, h5⟩, trivial⟩, rfl, ⟨rfl, Nat.le_of_ble_eq_true h6⟩, trivial⟩
theorem retK1W {rs : List ResultVar} {r : PV} {ps ps' : PS} {l : List PV} {n : Nat} {o : Obj'} (hw : Wk ps ps') (h1 : resV ps' rs = some l) (h2 : les (oneV l) (ren id r)) (h3 : lv r = true) (h4 : getO ps'.objs n = some o) (h5 : closedO o = true) (h6 : Nat.ble 1000000 n = true) : RetOk rs r [(n, o)] [] ps :=
  ⟨ps', l, id, hw, h1, les_le h2, h3, ⟨⟨h4, h5⟩, trivial⟩, rfl, ⟨rfl, Nat.le_of_ble_eq_true h6⟩, trivial⟩
theorem estF_stop {v1 v2 u2 q r : Nat} (hr : r < B) (hv : 0 < v1) (h : ¬ (B ≤ q ∨ r * B + u2 < q * v2)) : estF v1 v2 u2 q r = q := by
  rw [estF, dif_neg (by omega), if_neg h]
theorem estF_brk {v1 v2 u2 q r : Nat} (hr : r < B) (hv : 0 < v1) (h : B ≤ q ∨ r * B + u2 < q * v2) (h2 : B ≤ r + v1) : estF v1 v2 u2 q r = q - 1 := by
  rw [estF, dif_neg (by omega), if_pos h, if_pos h2]
theorem estF_go {v1 v2 u2 q r : Nat} (hr : r < B) (hv : 0 < v1) (h : B ≤ q ∨ r * B + u2 < q * v2) (h2 : ¬ B ≤ r + v1) : estF v1 v2 u2 q r = estF v1 v2 u2 (q - 1) (r + v1) := by
  rw [estF, dif_neg (by omega), if_pos h, if_neg h2]
abbrev kx (pre x post : List UInt32) : List (Nat × Obj') := [(1000000, .arr 1 (fun _ => lm (pre ++ (x ++ post))))]
theorem hf236 : Pg.funcs[116]? = some Tryz.f116 := by rw [Pg_eq]; rfl
theorem s236 (pre x post v : List UInt32) (n : Nat) (hx : x.length = n + 3) (hv : v.length = n + 2) (hn : n < 2^40) (hp : pre.length < 2^40) (hnorm : B ≤ 2 * (v.getD (n + 1) 0).toNat) (hle : (x.getD (n + 2) 0).toNat ≤ (v.getD (n + 1) 0).toNat) :
    Sound 116 [.osl 1000000 1 (fun _ => pre.length) (fun _ => n + 3), nat v] (kx pre x post) []
      (.int .u64 (fun _ => ((estF (v.getD (n + 1) 0).toNat (v.getD n 0).toNat (x.getD n 0).toNat (((x.getD (n + 2) 0).toNat * B + (x.getD (n + 1) 0).toNat) / (v.getD (n + 1) 0).toNat) (((x.getD (n + 2) 0).toNat * B + (x.getD (n + 1) 0).toNat) % (v.getD (n + 1) 0).toNat) : Nat) : Int)))
      (kx pre x post) [] := by
  refine sound_fn hf236 rfl rfl rfl rfl rfl ?_
  have hu0 := u32_lt (x.getD (n + 2) 0)
  have hu1 := u32_lt (x.getD (n + 1) 0)
  have hu2 := u32_lt (x.getD n 0)
  have hv1 := u32_lt (v.getD (n + 1) 0)
  have hv2 := u32_lt (v.getD n 0)
  have hB : B = 4294967296 := rfl
  generalize hxa : (x.getD (n + 2) 0).toNat = xa at *
  generalize hxb : (x.getD (n + 1) 0).toNat = xb at *
  generalize hxc : (x.getD n 0).toNat = xc at *
  generalize hva : (v.getD (n + 1) 0).toNat = va at *
  generalize hvb : (v.getD n 0).toNat = vb at *
  have hT : ior .u64 (ishl .u64 (nx .u64 (xa : Int)) 32) (nx .u64 (xb : Int)) = ((xa * B + xb : Nat) : Int) := by
    rw [nx_nat (n := xa) (by omega), or2' hu1 hu0, Nat.mul_comm xa, Nat.add_comm]; rfl
  have hva0 : 0 < va := by omega
  have hq0 : (xa * B + xb) / va ≤ B + 1 := by
    have : xa * B + xb < (B + 2) * va := by
      have h1 := Nat.mul_le_mul_right B hle
      rw [Nat.add_mul, Nat.mul_comm B va]
      omega
    have := (Nat.div_lt_iff_lt_mul hva0).2 this
    omega
  have hr0 : (xa * B + xb) % va < B := Nat.lt_trans (Nat.mod_lt _ hva0) hv1
  generalize hQ : estF va vb xc ((xa * B + xb) / va) ((xa * B + xb) % va) = Q
  have hq' : iquo ((xa * B + xb : Nat) : Int) (va : Int) = (((xa * B + xb) / va : Nat) : Int) := iquo_nat
  have hr' : irem ((xa * B + xb : Nat) : Int) (va : Int) = (((xa * B + xb) % va : Nat) : Int) := irem_nat
  generalize hq0' : (xa * B + xb) / va = q0 at *
  generalize hr0' : (xa * B + xb) % va = r0 at *
  generalize (xa * B + xb : Nat) = top at *
  have hvn : nx .u64 (va : Int) = (va : Int) := nx_nat (by omega)
  cbv
  refine draw_of 13 (by cbv) ?_
  cbv
  refine ⟨rng_of (by (try dsimp only [ncast] at *) <;> (try simp only [lm_length] at *) <;> omega) (by (try dsimp only [ncast] at *) <;> (try simp only [lm_length] at *) <;> omega), el_mid (n + 2) (by (try dsimp only [ncast] at *) <;> (try simp only [lm_length] at *) <;> omega) (by (try dsimp only [ncast] at *) <;> (try simp only [lm_length] at *) <;> omega) ?_⟩
  cbv
  refine ⟨nn_of (by omega), in64_of (by (try dsimp only [ncast] at *) <;> (try simp only [lm_length] at *) <;> omega) (by (try dsimp only [ncast] at *) <;> (try simp only [lm_length] at *) <;> omega), rng_of (by (try dsimp only [ncast] at *) <;> (try simp only [lm_length] at *) <;> omega) (by (try dsimp only [ncast] at *) <;> (try simp only [lm_length] at *) <;> omega), el_mid (n + 1) (by (try dsimp only [ncast] at *) <;> (try simp only [lm_length] at *) <;> omega) (by (try dsimp only [ncast] at *) <;> (try simp only [lm_length] at *) <;> omega) ?_⟩
  cbv
  refine draw_of 18 (by cbv) ?_
  cbv
  refine ⟨in64_of (by (try dsimp only [ncast] at *) <;> (try simp only [lm_length] at *) <;> omega) (by (try dsimp only [ncast] at *) <;> (try simp only [lm_length] at *) <;> omega), idx_lm (n + 1) (by (try dsimp only [ncast] at *) <;> (try simp only [lm_length] at *) <;> omega) (by (try dsimp only [ncast] at *) <;> (try simp only [lm_length] at *) <;> omega) ?_⟩
  cbv
  refine ⟨nz_of (by (try dsimp only [ncast] at *); rw [hva, hvn]; omega), in64_of (by (try dsimp only [ncast] at *) <;> (try simp only [lm_length] at *) <;> omega) (by (try dsimp only [ncast] at *) <;> (try simp only [lm_length] at *) <;> omega), idx_lm (n + 1) (by (try dsimp only [ncast] at *) <;> (try simp only [lm_length] at *) <;> omega) (by (try dsimp only [ncast] at *) <;> (try simp only [lm_length] at *) <;> omega) ?_⟩
  cbv
  refine ⟨nz_of (by (try dsimp only [ncast] at *); rw [hva, hvn]; omega), ?_⟩
  refine loop_n (σ := Nat × Nat) (fun s => ⟨[(0, .osl 1000000 1 (fun _ => pre.length) (fun _ => n + 3)), (1, nat v), (5, .int .i64 (fun _ => ((n + 2 : Nat) : Int))), (7, .int .u64 (fun _ => (s.1 : Int))), (8, .int .u64 (fun _ => (s.2 : Int)))], kx pre x post⟩)
    (fun s => s.1 ≤ B + 1 ∧ s.2 < B ∧ estF va vb xc s.1 s.2 = Q) (fun s => B - s.2)
    (q0, r0) ⟨hq0, hr0, hQ⟩ (.le ?_ ?_ rfl) ?_
  · cbv
    refine ⟨leS_refl _, leS_refl _, leS_int (by (try dsimp only [ncast] at *) <;> (try simp only [lm_length] at *) <;> omega), leS_int ?_, leS_int ?_, trivial⟩
    · (try dsimp only [ncast] at *)
      rw [hxa, hxb, hva, hT, hvn, hq', nx_nat (by omega)]
    · (try dsimp only [ncast] at *)
      rw [hxa, hxb, hva, hT, hvn, hr']
  · cbv
    exact ⟨elsEq_of rfl, trivial⟩
  intro s hs
  obtain ⟨h1, h2, h3⟩ := hs
  generalize s.1 = q at *
  generalize s.2 = r at *
  have hround : (B ≤ q ∨ r * B + xc < q * vb) → 0 < q := by
    rintro (h | h)
    · omega
    · rcases Nat.eq_zero_or_pos q with e | e
      · rw [e, Nat.zero_mul] at h; omega
      · exact e
  have hq1 : 0 < q → nx .u64 ((q : Int) - 1) = ((q - 1 : Nat) : Int) := fun h => by rw [nx_u64]; omega
  have hr1 : nx .u64 ((r : Int) + (va : Int)) = ((r + va : Nat) : Int) := by rw [nx_u64]; omega
  cbv
  refine draw_of 22 (by cbv) ?_
  cbv
  have fin : (B ≤ q ∨ r * B + xc < q * vb) → ∀ (K : Prop), (B ≤ r + va → Q = q - 1 → K) → (¬ B ≤ r + va → (estF va vb xc (q - 1) (r + va) = Q ∧ q - 1 ≤ B + 1 ∧ r + va < B ∧ B - (r + va) < B - r) → K) → K := by
    intro hc K k1 k2
    by_cases h4 : B ≤ r + va
    · exact k1 h4 (by rw [← h3, estF_brk h2 hva0 hc h4])
    · exact k2 h4 ⟨by rw [← h3, estF_go h2 hva0 hc h4], by omega, by omega, by omega⟩
  refine br_dec (fun h4 => ?_) (fun h4 => ?_)
  · have hc : B ≤ q ∨ r * B + xc < q * vb := .inl (by rw [hB]; exact (by (try dsimp only [ncast] at *) <;> (try simp only [lm_length] at *) <;> omega))
    cbv
    refine ⟨in64_of (by (try dsimp only [ncast] at *) <;> (try simp only [lm_length] at *) <;> omega) (by (try dsimp only [ncast] at *) <;> (try simp only [lm_length] at *) <;> omega), idx_lm (n + 1) (by (try dsimp only [ncast] at *) <;> (try simp only [lm_length] at *) <;> omega) (by (try dsimp only [ncast] at *) <;> (try simp only [lm_length] at *) <;> omega) ?_⟩
    have hz : nx .u64 ((r : Int) + nx .u64 (((v.getD (n + 1) 0).toNat : Nat) : Int)) = ((r + va : Nat) : Int) := by rw [hva, hvn]; exact hr1
    have hz2 := hq1 (hround hc)
    cbv
    (try dsimp only [ncast] at *)
    refine fin hc _ (fun h6 h7 => ?_) (fun h6 h7 => ?_)
    · refine cut_dec (fun h8 => ?_) (fun h8 => absurd h8 (by rw [hz]; omega))
      cbv
      exact retK1 rfl (leS_int (by rw [h7]; exact hz2)) rfl rfl rfl rfl
    · refine cut_dec (fun h8 => absurd h8 (by rw [hz]; omega)) (fun h8 => ?_)
      cbv
      refine ⟨(q - 1, r + va), ⟨h7.2.1, h7.2.2.1, h7.1⟩, h7.2.2.2, .le ?_ ?_ rfl⟩
      · cbv
        exact ⟨leS_refl _, leS_refl _, leS_refl _, leS_int hz2, leS_int hz, trivial⟩
      · cbv
        exact ⟨elsEq_of rfl, trivial⟩
  · cbv
    refine ⟨in64_of (by (try dsimp only [ncast] at *) <;> (try simp only [lm_length] at *) <;> omega) (by (try dsimp only [ncast] at *) <;> (try simp only [lm_length] at *) <;> omega), idx_lm n (by (try dsimp only [ncast] at *) <;> (try simp only [lm_length] at *) <;> omega) (by (try dsimp only [ncast] at *) <;> (try simp only [lm_length] at *) <;> omega) ?_⟩
    cbv
    refine ⟨nn_of (by (try dsimp only [ncast] at *) <;> (try simp only [lm_length] at *) <;> omega), in64_of (by (try dsimp only [ncast] at *) <;> (try simp only [lm_length] at *) <;> omega) (by (try dsimp only [ncast] at *) <;> (try simp only [lm_length] at *) <;> omega), rng_of (by (try dsimp only [ncast] at *) <;> (try simp only [lm_length] at *) <;> omega) (by (try dsimp only [ncast] at *) <;> (try simp only [lm_length] at *) <;> omega), el_mid n (by (try dsimp only [ncast] at *) <;> (try simp only [lm_length] at *) <;> omega) (by (try dsimp only [ncast] at *) <;> (try simp only [lm_length] at *) <;> omega) ?_⟩
    have hq2 : q < B := by rw [hB]; exact (by (try dsimp only [ncast] at *) <;> (try simp only [lm_length] at *) <;> omega)
    have hm1 : nx .u64 ((q : Int) * nx .u64 (((v.getD n 0).toNat : Nat) : Int)) = ((q * vb : Nat) : Int) := by
      rw [hvb, nx_nat (n := vb) (by omega)]
      have : q * vb < 4294967296 * 4294967296 := Nat.mul_lt_mul'' (by omega) (by omega)
      exact nx_nat (by omega)
    have hm2 : ior .u64 (ishl .u64 (r : Int) 32) (nx .u64 (((x.getD n 0).toNat : Nat) : Int)) = ((r * B + xc : Nat) : Int) := by
      rw [hxc]
      have := or2' (a := xc) (b := r) hu2 h2
      rw [this, Nat.mul_comm r, Nat.add_comm]; rfl
    cbv
    (try dsimp only [ncast] at *)
    refine cut_dec (fun h5 => ?_) (fun h5 => ?_)
    · have hc : B ≤ q ∨ r * B + xc < q * vb := .inr (by rw [hm1, hm2] at h5; omega)
      cbv
      refine ⟨in64_of (by (try dsimp only [ncast] at *) <;> (try simp only [lm_length] at *) <;> omega) (by (try dsimp only [ncast] at *) <;> (try simp only [lm_length] at *) <;> omega), idx_lm (n + 1) (by (try dsimp only [ncast] at *) <;> (try simp only [lm_length] at *) <;> omega) (by (try dsimp only [ncast] at *) <;> (try simp only [lm_length] at *) <;> omega) ?_⟩
      have hz : nx .u64 ((r : Int) + nx .u64 (((v.getD (n + 1) 0).toNat : Nat) : Int)) = ((r + va : Nat) : Int) := by rw [hva, hvn]; exact hr1
      have hz2 := hq1 (hround hc)
      cbv
      (try dsimp only [ncast] at *)
      refine fin hc _ (fun h6 h7 => ?_) (fun h6 h7 => ?_)
      · refine cut_dec (fun h8 => ?_) (fun h8 => absurd h8 (by rw [hz]; omega))
        cbv
        exact retK1 rfl (leS_int (by rw [h7]; exact hz2)) rfl rfl rfl rfl
      · refine cut_dec (fun h8 => absurd h8 (by rw [hz]; omega)) (fun h8 => ?_)
        cbv
        refine ⟨(q - 1, r + va), ⟨h7.2.1, h7.2.2.1, h7.1⟩, h7.2.2.2, .le ?_ ?_ rfl⟩
        · cbv
          exact ⟨leS_refl _, leS_refl _, leS_refl _, leS_int hz2, leS_int hz, trivial⟩
        · cbv
          exact ⟨elsEq_of rfl, trivial⟩
    · have hc : ¬ (B ≤ q ∨ r * B + xc < q * vb) := by rw [hm1, hm2] at h5; omega
      have hs := estF_stop h2 hva0 hc
      cbv
      exact retK1 rfl (leS_int (by rw [← h3, hs])) rfl rfl rfl rfl
end Go.Proofs.YtbehbhicjmjdhaaGreat
