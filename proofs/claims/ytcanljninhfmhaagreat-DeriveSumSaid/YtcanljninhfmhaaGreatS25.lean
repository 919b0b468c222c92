/- A part of the proof: ReD. -/
import Derived.Test.YtcanljninhfmhaaGreatS24
set_option linter.all false
namespace Go.Proofs.YtcanljninhfmhaaGreat
open Go
set_option linter.unusedVariables false
set_option maxRecDepth 100000
theorem ishr_u32 {a k : Nat} (hk : k ≤ 32) : ishr .u32 (a : Int) (k : Int) = ((a / 2 ^ k : Nat) : Int) := by
 unfold ishr
 have : min (k : Int).toNat IntKind.u32.bits = k := by simp [IntKind.bits]; omega
 rw [this, Int.fdiv_eq_ediv_of_nonneg _ (by exact Int.le_of_lt (Int.pow_pos (by decide)))]
 push_cast
 rfl
theorem bitsP_gt (n : Nat) : n < 2 ^ bitsP n := by
 unfold bitsP
 split
 ·rename_i h; subst h; decide
 ·rename_i h
  have hp : 0 < (limbs n).length := by rcases Nat.eq_zero_or_pos (limbs n).length with e | e; exact absurd (limbs_eq_nil.1 (List.eq_nil_of_length_eq_zero e)) h; exact e
  have h1 := val_take_getD (limbs n) ((limbs n).length - 1)
  have h2 := val_take_lt (limbs n) ((limbs n).length - 1)
  have h3 := bitLen_gt _ _ (Nat.le_refl ((limbs n).getD ((limbs n).length - 1) 0).toNat) (u32_lt _)
  rw [List.take_of_length_le (by omega), val_limbs] at h1
  have h4 : 2 ^ (32 * ((limbs n).length - 1)) = B ^ ((limbs n).length - 1) := by rw [Nat.pow_mul, show (2 : Nat) ^ 32 = B from rfl]
  rw [Nat.pow_add, h4]
  generalize ((limbs n).getD ((limbs n).length - 1) 0).toNat = t at *
  have h6 := Nat.mul_le_mul_left (B ^ ((limbs n).length - 1)) (show t + 1 ≤ 2 ^ Lib.bitLen t from h3)
  rw [Nat.mul_add, Nat.mul_one] at h6
  generalize B ^ ((limbs n).length - 1) = P at *
  generalize P * 2 ^ Lib.bitLen t = Q at *
  omega
theorem hf207 : Pg.funcs[170]? = some Tryz.f170 := by rw [Pg_eq]; rfl
theorem s207 (l : List UInt32) (hl : l.length < 2^40) : SoundS 170 [nat l] (.int .i64 (fun _ => (bitsP (val l) : Int))) := by
 refine sound_fn hf207 rfl rfl rfl rfl rfl ?_
 have hl' := Nat.lt_of_le_of_lt (limbs_length_le' l) hl
 have c1 := s155 l (by omega)
 have hb0 : (limbs (val l)).length = 0 → bitsP (val l) = 0 := fun h => bitsP_eq0.2 (limbs_eq_nil.1 (List.eq_nil_of_length_eq_zero h))
 have hb1 : (limbs (val l)).length ≠ 0 → bitsP (val l) = 32 * ((limbs (val l)).length - 1) + Lib.bitLen ((limbs (val l)).getD ((limbs (val l)).length - 1) 0).toNat := fun h => by
  rw [bitsP, if_neg (fun e => h (by rw [e, limbs_zero]; rfl))]
 generalize bitsP (val l) = bp at *
 generalize limbs (val l) = p at *
 cbv
 refine callS' rfl okA (c1) rfl ?_
 cbv
 refine cut_dec (fun h => ?_) (fun h => ?_)
 ·cbv
  (refine retC rfl ?_; cbv)
  exact leS_int (by rw [hb0 om]; rfl)
 ·have hp : p.length ≠ 0 := om
  have hbp := hb1 hp
  have ht := u32_lt (p.getD (p.length - 1) 0)
  have htl := bitLen_lt ht
  cbv
  refine ⟨in64_of om om, in64_of om om, in64_of om om, idx_lm (p.length - 1) om om ?_⟩
  generalize (p.getD (p.length - 1) 0).toNat = t at *
  cbv
  refine loop_n (σ := Nat × Nat) (fun s => ⟨[(3, .int .i64 (fun _ => (s.1 : Int))), (4, .int .u32 (fun _ => (s.2 : Int)))], []⟩) (fun s => s.1 + Lib.bitLen s.2 = bp ∧ s.2 < B) (fun s => s.2) (32 * (p.length - 1), t) ⟨hbp.symm, ht⟩ (.le ?_ trivial rfl) ?_
  ·cbv
   exact ⟨leS_int om, leS_refl _, trivial⟩
  intro s hs
  obtain ⟨h1, h2⟩ := hs
  generalize s.1 = k at *
  generalize s.2 = x at *
  cbv
  refine cut_dec (fun h3 => ?_) (fun h3 => ?_)
  ·have hx : 0 < x := om
   have hh := Lib.bitLen_half x (by omega) (by simp only [B] at h2; omega)
   have hdiv : x / 2 < x := by omega
   have hd2 := ishr_u32 (a := x) (k := 1) (by omega)
   generalize hy : x / 2 = y at *
   cbv
   refine ⟨in64_of om om, nn_of (by omega), (k + 1, y), ⟨by show k + 1 + Lib.bitLen y = bp; omega, by show y < B; omega⟩, hdiv, .le ?_ trivial rfl⟩
   cbv
   refine ⟨leS_int om, leS_int ?_, trivial⟩
   exact hd2
  ·have hx : x = 0 := om
   subst hx
   rw [show Lib.bitLen 0 = 0 by decide] at h1
   cbv
   (refine retC rfl ?_; cbv)
   exact leS_int om
theorem iand1 {x : Nat} (hx : x < 4294967296) : iand .u32 (x : Int) 1 = ((x % 2 : Nat) : Int) := by
 unfold iand
 have key : (BitVec.ofInt 32 (x : Int) &&& BitVec.ofInt 32 1).toNat = x % 2 := by
  rw [BitVec.toNat_and, BitVec.ofInt_natCast, BitVec.toNat_ofNat, Nat.mod_eq_of_lt (show x < 2 ^ 32 from hx)]
  show x &&& 1 = x % 2
  exact Nat.and_one_is_mod x
 show IntKind.u32.wrap ((BitVec.ofInt 32 (x : Int) &&& BitVec.ofInt 32 1).toNat : Int) = _
 rw [key]
 have := nx_u32 ((x % 2 : Nat) : Int)
 unfold nx at this
 rw [this]
 omega
theorem ishl1 {k : Nat} (hk : k < 32) : ishl .u32 1 (k : Int) = ((2 ^ k : Nat) : Int) := by
 unfold ishl
 have e : ((1 : Int) * 2 ^ (min (k : Int).toNat IntKind.u32.bits)) = ((2 ^ k : Nat) : Int) := by
  have : min (k : Int).toNat IntKind.u32.bits = k := by simp [IntKind.bits]; omega
  rw [this]
  push_cast
  omega
 have h2 : 2 ^ k < 4294967296 := Nat.pow_lt_pow_right (m := k) (n := 32) (by omega) hk
 have := nx_u32 ((2 ^ k : Nat) : Int)
 unfold nx at this
 rw [e, this]
 generalize 2 ^ k = z at *
 omega
theorem bit_limb (l : List UInt32) (i : Nat) : (l.getD (i / 32) 0).toNat / 2 ^ (i % 32) % 2 = val l / 2 ^ i % 2 := by
 have h1 := val_drop_mod (l := l) (i / 32)
 have h2 : val (l.drop (i / 32)) = val l / B ^ (i / 32) := by
  have h3 := val_split2 l (i / 32)
  have h4 := val_take_lt l (i / 32)
  have hB := Nat.pow_pos (n := i / 32) B_pos
  generalize B ^ (i / 32) = M at *
  rw [h3, Nat.add_mul_div_left _ _ hB, Nat.div_eq_of_lt h4]
  omega
 have h5 : 2 ^ i = B ^ (i / 32) * 2 ^ (i % 32) := by
  show 2 ^ i = (2 ^ 32) ^ (i / 32) * 2 ^ (i % 32)
  rw [← Nat.pow_mul, ← Nat.pow_add]
  congr 1; omega
 rw [h1, h2, h5, ← Nat.div_div_eq_div_mul]
 generalize val l / B ^ (i / 32) = y
 have h6 : B = 2 ^ (i % 32) * 2 ^ (32 - i % 32) := by
  rw [← Nat.pow_add, show i % 32 + (32 - i % 32) = 32 by omega]; rfl
 have h7 : 2 ^ (32 - i % 32) = 2 * 2 ^ (31 - i % 32) := by
  rw [show 32 - i % 32 = 31 - i % 32 + 1 by omega, Nat.pow_succ, Nat.mul_comm]
 rw [h6, Nat.mod_mul_right_div_self, h7, Nat.mod_mul_right_mod]
theorem bit_step {A b i : Nat} (hb : 0 < b) : A / 2 ^ i = 2 * (A / 2 ^ (i + 1)) + A / 2 ^ i % 2 := by
 have : A / 2 ^ (i + 1) = A / 2 ^ i / 2 := by rw [Nat.pow_succ, ← Nat.div_div_eq_div_mul]
 rw [this]
 omega
theorem div_bits {A b i : Nat} (hb : 0 < b) :
  (b ≤ 2 * (A / 2 ^ (i + 1) % b) + A / 2 ^ i % 2 → A / 2 ^ i / b = 2 * (A / 2 ^ (i + 1) / b) + 1 ∧ A / 2 ^ i % b = 2 * (A / 2 ^ (i + 1) % b) + A / 2 ^ i % 2 - b) ∧
  (2 * (A / 2 ^ (i + 1) % b) + A / 2 ^ i % 2 < b → A / 2 ^ i / b = 2 * (A / 2 ^ (i + 1) / b) ∧ A / 2 ^ i % b = 2 * (A / 2 ^ (i + 1) % b) + A / 2 ^ i % 2) := by
 have h1 := bit_step (A := A) (i := i) hb
 have h2 := Nat.div_add_mod (A / 2 ^ (i + 1)) b
 have h3 := Nat.mod_lt (A / 2 ^ (i + 1)) hb
 have h4 : A / 2 ^ i % 2 < 2 := Nat.mod_lt _ (by omega)
 generalize A / 2 ^ (i + 1) % b = r at *
 generalize A / 2 ^ (i + 1) / b = Q at *
 generalize A / 2 ^ i % 2 = t at *
 rw [h1]
 generalize A / 2 ^ (i + 1) = X at *
 have h5 : b * (2 * Q) = 2 * (b * Q) := Nat.mul_left_comm _ _ _
 constructor
 ·intro h
  have e : 2 * X + t = b * (2 * Q + 1) + (2 * r + t - b) := by rw [Nat.mul_add, Nat.mul_one]; omega
  rw [e, Nat.mul_add_div hb, Nat.mul_add_mod, Nat.div_eq_of_lt (by omega), Nat.mod_eq_of_lt (by omega)]
  exact ⟨by omega, rfl⟩
 ·intro h
  have e : 2 * X + t = b * (2 * Q) + (2 * r + t) := by omega
  rw [e, Nat.mul_add_div hb, Nat.mul_add_mod, Nat.div_eq_of_lt h, Nat.mod_eq_of_lt h]
  exact ⟨by omega, rfl⟩
theorem limb_free {q : List UInt32} {i m : Nat} (h : val q = m * 2 ^ (i + 1)) : ∃ t, (q.getD (i / 32) 0).toNat = 2 ^ (i % 32 + 1) * t := by
 have h1 := val_drop_mod (l := q) (i / 32)
 have h3 := val_split2 q (i / 32)
 have h4 := val_take_lt q (i / 32)
 have h5 : 2 ^ (i + 1) = B ^ (i / 32) * 2 ^ (i % 32 + 1) := by
  show 2 ^ (i + 1) = (2 ^ 32) ^ (i / 32) * 2 ^ (i % 32 + 1)
  rw [← Nat.pow_mul, ← Nat.pow_add]
  congr 1; omega
 have h2 : val (q.drop (i / 32)) = 2 ^ (i % 32 + 1) * m := by
  have hB := Nat.pow_pos (n := i / 32) B_pos
  have e : val (q.drop (i / 32)) = val q / B ^ (i / 32) := by
   generalize B ^ (i / 32) = M at *
   rw [h3, Nat.add_mul_div_left _ _ hB, Nat.div_eq_of_lt h4]
   omega
  rw [e, h, h5, Nat.mul_comm m, Nat.mul_assoc, Nat.mul_div_cancel_left _ hB]
 have h6 : B = 2 ^ (i % 32 + 1) * 2 ^ (31 - i % 32) := by
  rw [← Nat.pow_add, show i % 32 + 1 + (31 - i % 32) = 32 by omega]; rfl
 rw [h1, h2, h6, Nat.mul_mod_mul_left]
 exact ⟨_, rfl⟩
theorem hf159 : Pg.funcs[128]? = some Tryz.f128 := by rw [Pg_eq]; rfl
theorem s159 (a b : List UInt32) (ha : a.length < 2^34) (hb : b.length < 2^34) (h0 : val b ≠ 0) : SoundS 128 [nat a, nat b] (.tup [nat (limbs (val a / val b)), nat (limbs (val a % val b)), .int .i64 (fun _ => 0)]) := by
 refine sound_fn hf159 rfl rfl rfl rfl rfl ?_
 have hB : B = 4294967296 := rfl
 have hbp : 0 < val b := Nat.pos_of_ne_zero h0
 have ca := s206 a (by omega)
 have cb := s206 b (by omega)
 have cbits := s207 a (by omega)
 have hbits := bitsP_gt (val a)
 have hbl : bitsP (val a) ≤ 32 * a.length := Nat.le_trans bitsP_le (Nat.mul_le_mul_left _ (limbs_length_le' a))
 have hrl : ∀ n, (limbs (val a / 2 ^ n % val b)).length ≤ b.length := fun n => limbs_length_le (Nat.lt_trans (Nat.mod_lt _ hbp) (val_lt b))
 have hdiv0 : val a / 2 ^ bitsP (val a) = 0 := Nat.div_eq_of_lt hbits
 have hb1 : val b < B * B → (if val b < B * B then val b else 0 : Nat) = val b := fun h => if_pos h
 have ha1 : val a < B * B → (if val a < B * B then val a else 0 : Nat) = val a := fun h => if_pos h
 have cof := fun (h : val a < B * B) => s149 (val a / val b) (Nat.lt_of_le_of_lt (Nat.div_le_self _ _) h)
 have cor := fun (h : val a < B * B) => s149 (val a % val b) (Nat.lt_of_le_of_lt (Nat.mod_le _ _) h)
 have hda : decide (val a < B * B) = true → val a < B * B := of_decide_eq_true
 have hdb : decide (val b < B * B) = true → val b < B * B := of_decide_eq_true
 generalize (if val a < B * B then val a else 0 : Nat) = x at *
 generalize (if val b < B * B then val b else 0 : Nat) = y at *
 generalize decide (val a < B * B) = d1 at *
 generalize decide (val b < B * B) = d2 at *
 generalize hbb : bitsP (val a) = bits at *
 cbv
 refine callS' rfl okA (ca) rfl ?_
 cbv
 refine callS' rfl okA (cb) rfl ?_
 cbv
 refine br_bool (fun h => ?_) (fun h => ?_)
 ·subst h
  have hyb := hb1 (hdb rfl)
  cbv
  refine cut_dec (fun h => absurd (show y = 0 from om) (by rw [hyb]; exact h0)) (fun h => ?_)
  cbv
  refine br_bool (fun h1 => ?_) (fun h1 => ?_)
  ·subst h1
   have hxa := ha1 (hda rfl)
   have c1 := cof (hda rfl)
   have c2 := cor (hda rfl)
   have hxl : val a < 18446744073709551616 := hda rfl
   have e1 : nx .u64 (iquo (x : Int) (y : Int)) = ((val a / val b : Nat) : Int) := by rw [iquo_nat, hxa, hyb]; exact nx_nat (Nat.lt_of_le_of_lt (Nat.div_le_self _ _) hxl)
   have e2 : irem (x : Int) (y : Int) = ((val a % val b : Nat) : Int) := by rw [irem_nat, hxa, hyb]
   cbv
   refine cut_bool (fun _ => ?_) (fun h => absurd h (by decide))
   cbv
   refine draw_of 8 (by cbv) ?_
   cbv
   refine ⟨nz_of (by omega), ?_⟩
   refine callS_d (by exact ⟨leS_int e1, trivial⟩) c1 rfl ?_
   cbv
   refine ⟨nz_of (by omega), ?_⟩
   refine callS_d (by exact ⟨leS_int e2, trivial⟩) c2 rfl ?_
   cbv
   (refine retC rfl ?_; cbv)
   exact ⟨leS_refl _, leS_refl _, leS_refl _, trivial⟩
  ·subst h1
   cbv
   refine ⟨room_of om om, mkok_of om om, ?_⟩
   cbv
   refine callS' rfl okA (cbits) rfl ?_
   cbv
   refine ⟨in64_of om om, ?_⟩
   refine loop_n (σ := Nat × List UInt32) (fun s => ⟨[(0, nat a), (1, nat b), (11, .osl 43 1 (fun _ => 0) (fun _ => a.length)), (12, nat (limbs (val a / 2 ^ s.1 % val b))), (13, .int .i64 (fun _ => (s.1 : Int) - 1))], [(43, .arr 1 (fun _ => lm s.2))]⟩)
    (fun s => s.1 ≤ bits ∧ s.2.length = a.length ∧ val s.2 = (val a / 2 ^ s.1 / val b) * 2 ^ s.1) (fun s => s.1) (bits, List.replicate a.length 0) ⟨Nat.le_refl _, by simp, by rw [hdiv0]; simp [val_zeros]⟩ (.le ?_ ?_ rfl) ?_
   ·cbv
    exact ⟨leS_refl _, leS_refl _, leS_osl rfl (by (try dsimp only [ncast] at *); simp only [lm_length]; omega), leS_nil (by rw [hdiv0, Nat.zero_mod, limbs_zero]; rfl), leS_refl _, trivial⟩
   ·cbv
    exact ⟨elsEq_of (mk_row _ _ (by (try dsimp only [ncast] at *); simp only [lm_length])), trivial⟩
   intro s hs
   obtain ⟨k1, k2, k3⟩ := hs
   generalize s.1 = n at *
   generalize s.2 = q at *
   cbv
   refine cut_dec (fun h5 => ?_) (fun h5 => ?_)
   ·obtain ⟨i, rfl⟩ : ∃ i, n = i + 1 := ⟨n - 1, by (try dsimp only [ncast] at *); omega⟩
    have hi1 : ((i + 1 : Nat) : Int) - 1 = (i : Int) := by omega
    have hq : nx .i64 (iquo (((i + 1 : Nat) : Int) - 1) 32) = ((i / 32 : Nat) : Int) := by
     rw [hi1, show iquo (i : Int) 32 = ((i / 32 : Nat) : Int) from iquo_nat (b := 32), nx_i64 (by omega) (by omega)]
    have hr : irem (((i + 1 : Nat) : Int) - 1) 32 = ((i % 32 : Nat) : Int) := by rw [hi1]; exact irem_nat (b := 32)
    have hil : i / 32 < a.length := by omega
    have hbit := bit_limb a i
    have hbit2 : val a / 2 ^ i % 2 < 2 := Nat.mod_lt _ (by omega)
    have hd := u32_lt (a.getD (i / 32) 0)
    have hrl1 := hrl (i + 1)
    have cs := s208 (limbs (val a / 2 ^ (i + 1) % val b)) 1 (by omega) (by omega)
    rw [val_limbs] at cs
    have hl2 : (limbs (val a / 2 ^ (i + 1) % val b * 2 ^ 1)).length ≤ b.length + 1 := by
     refine limbs_length_le ?_
     rw [show B ^ (b.length + 1) = B ^ b.length * B from Nat.pow_succ _ _]
     refine Nat.mul_lt_mul'' (Nat.lt_trans (Nat.mod_lt _ hbp) (val_lt b)) (by decide)
    have cadd := s156 (limbs (val a / 2 ^ (i + 1) % val b * 2 ^ 1)) [UInt32.ofNat (val a / 2 ^ i % 2)] (by omega) (by simp)
    have hv1 : val [UInt32.ofNat (val a / 2 ^ i % 2)] = val a / 2 ^ i % 2 := by
     simp only [val, u32_mod, B]; omega
    rw [val_limbs, hv1] at cadd
    have hdb := div_bits (A := val a) (i := i) hbp
    have e2r : val a / 2 ^ (i + 1) % val b * 2 ^ 1 + val a / 2 ^ i % 2 = 2 * (val a / 2 ^ (i + 1) % val b) + val a / 2 ^ i % 2 := by omega
    rw [e2r] at cadd
    have hl3 : (limbs (2 * (val a / 2 ^ (i + 1) % val b) + val a / 2 ^ i % 2)).length ≤ b.length + 1 := by
     refine limbs_length_le ?_
     have h7 := Nat.lt_trans (Nat.mod_lt (val a / 2 ^ (i + 1)) hbp) (val_lt b)
     have h8 : B ^ b.length * 4 ≤ B ^ b.length * B := Nat.mul_le_mul_left _ (by decide)
     rw [show B ^ (b.length + 1) = B ^ b.length * B from Nat.pow_succ _ _]
     generalize B ^ b.length = P at *
     omega
    have ccmp := s205 (limbs (2 * (val a / 2 ^ (i + 1) % val b) + val a / 2 ^ i % 2)) b (by omega) (by omega)
    have csub := s157 (limbs (2 * (val a / 2 ^ (i + 1) % val b) + val a / 2 ^ i % 2)) b (by omega) (by omega)
    rw [val_limbs] at ccmp csub
    obtain ⟨hd1, hd2⟩ := hdb
    have hfree := limb_free (q := q) (i := i) (m := val a / 2 ^ (i + 1) / val b) k3
    have hpow : (2 : Nat) ^ (i + 1) = 2 * 2 ^ i := by rw [Nat.pow_succ, Nat.mul_comm]
    have k3' : val q = val a / 2 ^ (i + 1) / val b * (2 * 2 ^ i) := by rw [← hpow]; exact k3
    have hcl : 0 ≤ cmpI (2 * (val a / 2 ^ (i + 1) % val b) + val a / 2 ^ i % 2) (val b) ↔ val b ≤ 2 * (val a / 2 ^ (i + 1) % val b) + val a / 2 ^ i % 2 := by
     unfold cmpI
     split
     ·omega
     ·split <;> omega
    have hbitE : ([[.int .u32 (iand .u32 (ishr .u32 (((a.getD (i / 32) 0).toNat : Nat) : Int) (irem (((i + 1 : Nat) : Int) - 1) 32)) 1)]] : List (List D)) = lm [UInt32.ofNat (val a / 2 ^ i % 2)] := by
     rw [hr, ishr_u32 (by omega), iand1 (Nat.lt_of_le_of_lt (Nat.div_le_self _ _) hd), hbit]
     simp only [lm, List.map_cons, List.map_nil, u32_mod]
     rw [Nat.mod_eq_of_lt (show val a / 2 ^ i % 2 < B by simp only [B]; omega)]
    generalize cmpI (2 * (val a / 2 ^ (i + 1) % val b) + val a / 2 ^ i % 2) (val b) = C at *
    generalize hR : 2 * (val a / 2 ^ (i + 1) % val b) + val a / 2 ^ i % 2 = R at *
    generalize limbs (val a / 2 ^ (i + 1) % val b * 2 ^ 1) = L2 at *
    cbv
    refine callS' rfl (by exact ⟨leS_refl _, leS_int rfl, trivial⟩) cs rfl ?_
    cbv
    refine ⟨nz_of (by omega), idx_lm (i / 32) (by (try dsimp only [ncast] at *); rw [hq]) hil ?_⟩
    cbv
    refine ⟨nz_of (by omega), nn_of (by (try dsimp only [ncast] at *); rw [hr]; omega), ?_⟩
    refine callS' rfl (by exact ⟨leS_refl _, leS_sl hbitE, trivial⟩) cadd rfl ?_
    cbv
    refine callS' rfl okA (ccmp) rfl ?_
    cbv
    refine cut_dec (fun h6 => ?_) (fun h6 => ?_)
    ·obtain ⟨e1, e2⟩ := hd1 (hcl.1 h6)
     obtain ⟨t, ht⟩ := hfree
     have hqj := u32_lt (q.getD (i / 32) 0)
     have hs32 : i % 32 < 32 := Nat.mod_lt _ (by omega)
     have h2s : 2 ^ (i % 32) < 2 ^ (i % 32 + 1) := Nat.pow_lt_pow_right (by omega) (by omega)
     have h2B : 2 ^ (i % 32) < 4294967296 := Nat.pow_lt_pow_right (n := 32) (by omega) hs32
     have hor : (q.getD (i / 32) 0).toNat ||| 2 ^ (i % 32) = (q.getD (i / 32) 0).toNat + 2 ^ (i % 32) := by
      rw [ht, Nat.or_comm, or_add h2s, Nat.add_comm]
     have horl : (q.getD (i / 32) 0).toNat + 2 ^ (i % 32) < B := by
      rw [← hor]; exact Nat.or_lt_two_pow (n := 32) hqj h2B
     have hW : ior .u32 (((q.getD (i / 32) 0).toNat : Nat) : Int) (ishl .u32 1 (irem (((i + 1 : Nat) : Int) - 1) 32)) = (((q.getD (i / 32) 0).toNat + 2 ^ (i % 32) : Nat) : Int) := by
      rw [hr, ishl1 hs32, ior_or hqj h2B, hor]
     have hq40 : q.length < 2^40 := by omega
     have hjq : i / 32 < q.length := by omega
     cbv
     refine callS' rfl okA (csub) rfl ?_
     cbv
     refine draw_of 10 (by cbv) ?_
     cbv
     refine ⟨nz_of (by omega), rng_of (by (try dsimp only [ncast] at *); rw [hq]; omega) (by (try dsimp only [ncast] at *); rw [hq]; omega), el_lm (i / 32) (by (try dsimp only [ncast] at *); rw [hq]; omega) hjq ?_⟩
     cbv
     refine ⟨nz_of (by omega), nn_of (by (try dsimp only [ncast] at *); rw [hr]; omega), rng_of (by (try dsimp only [ncast] at *); rw [hq]; omega) (by (try dsimp only [ncast] at *); rw [hq]; omega), el_lm (i / 32) (by (try dsimp only [ncast] at *); rw [hq]; omega) hjq ?_⟩
     cbv
     refine ⟨in64_of om om, (i, q.set (i / 32) (UInt32.ofNat ((q.getD (i / 32) 0).toNat + 2 ^ (i % 32)))), ⟨by omega, by simpa using k2, ?_⟩, by show i < i + 1; omega, .le ?_ ?_ rfl⟩
     ·show val (q.set (i / 32) _) = val a / 2 ^ i / val b * 2 ^ i
      have e3 := val_set q hjq (UInt32.ofNat ((q.getD (i / 32) 0).toNat + 2 ^ (i % 32)))
      have e4 : 2 ^ i = B ^ (i / 32) * 2 ^ (i % 32) := by
       show 2 ^ i = (2 ^ 32) ^ (i / 32) * 2 ^ (i % 32)
       rw [← Nat.pow_mul, ← Nat.pow_add]
       congr 1; omega
      rw [u32_mod, Nat.mod_eq_of_lt horl, Nat.mul_add, ← e4, k3'] at e3
      rw [e1, Nat.add_mul, Nat.one_mul, Nat.mul_comm 2 (val a / 2 ^ (i + 1) / val b), Nat.mul_assoc]
      omega
     ·cbv
      exact ⟨leS_refl _, leS_refl _, leS_refl _, leS_sl (by rw [e2]), leS_int om, trivial⟩
     ·cbv
      have hset : (lm q).set (0 + (nx .i64 (iquo (((i + 1 : Nat) : Int) - 1) 32)).toNat) [.int .u32 (ior .u32 (((q.getD (i / 32) 0).toNat : Nat) : Int) (ishl .u32 1 (irem (((i + 1 : Nat) : Int) - 1) 32)))] = lm (q.set (i / 32) (UInt32.ofNat ((q.getD (i / 32) 0).toNat + 2 ^ (i % 32)))) := by
       rw [hq]; exact lm_set_to q (by rw [Int.toNat_natCast, Nat.zero_add]) hW horl
      exact ⟨elsEq_of hset, trivial⟩
    ·obtain ⟨e1, e2⟩ := hd2 (by have := fun e => h6 (hcl.2 e); omega)
     cbv
     refine ⟨in64_of om om, (i, q), ⟨by omega, k2, ?_⟩, by show i < i + 1; omega, .le ?_ ?_ rfl⟩
     ·show val q = val a / 2 ^ i / val b * 2 ^ i
      rw [k3', e1, Nat.mul_comm 2 (val a / 2 ^ (i + 1) / val b), Nat.mul_assoc]
     ·cbv
      exact ⟨leS_refl _, leS_refl _, leS_refl _, leS_sl (by rw [e2]), leS_int om, trivial⟩
     ·cbv
      exact ⟨elsEq_of rfl, trivial⟩
   ·have hn : n = 0 := by (try dsimp only [ncast] at *); omega
    subst hn
    rw [Nat.pow_zero, Nat.div_one, Nat.mul_one] at k3
    have cm := s155 q (by omega)
    rw [k3] at cm
    cbv
    refine callW (.frz 43 rfl rfl ?_ ?_) rfl (by refine ⟨leS_sl ?_, trivial⟩; exact List.take_of_length_le (by show ((lm q).drop 0).length ≤ a.length; rw [List.drop_zero, lm_length]; omega)) cm rfl ?_
    ·cbv
     exact ⟨frok_of (by rw [lm_length]; omega), frok_of (by rw [lm_length]; omega), trivial⟩
    ·exact trivial
    cbv
    (refine retC rfl ?_; cbv)
    exact ⟨leS_refl _, leS_sl (by rw [Nat.pow_zero, Nat.div_one]), leS_refl _, trivial⟩
 ·subst h
  cbv
  refine br_bool (fun h1 => ?_) (fun h1 => ?_)
  ·subst h1
   cbv
   refine cut_bool (fun h => absurd h (by decide)) (fun _ => ?_)
   cbv
   refine ⟨room_of om om, mkok_of om om, ?_⟩
   cbv
   refine callS' rfl okA (cbits) rfl ?_
   cbv
   refine ⟨in64_of om om, ?_⟩
   refine loop_n (σ := Nat × List UInt32) (fun s => ⟨[(0, nat a), (1, nat b), (11, .osl 43 1 (fun _ => 0) (fun _ => a.length)), (12, nat (limbs (val a / 2 ^ s.1 % val b))), (13, .int .i64 (fun _ => (s.1 : Int) - 1))], [(43, .arr 1 (fun _ => lm s.2))]⟩)
    (fun s => s.1 ≤ bits ∧ s.2.length = a.length ∧ val s.2 = (val a / 2 ^ s.1 / val b) * 2 ^ s.1) (fun s => s.1) (bits, List.replicate a.length 0) ⟨Nat.le_refl _, by simp, by rw [hdiv0]; simp [val_zeros]⟩ (.le ?_ ?_ rfl) ?_
   ·cbv
    exact ⟨leS_refl _, leS_refl _, leS_osl rfl (by (try dsimp only [ncast] at *); simp only [lm_length]; omega), leS_nil (by rw [hdiv0, Nat.zero_mod, limbs_zero]; rfl), leS_refl _, trivial⟩
   ·cbv
    exact ⟨elsEq_of (mk_row _ _ (by (try dsimp only [ncast] at *); simp only [lm_length])), trivial⟩
   intro s hs
   obtain ⟨k1, k2, k3⟩ := hs
   generalize s.1 = n at *
   generalize s.2 = q at *
   cbv
   refine cut_dec (fun h5 => ?_) (fun h5 => ?_)
   ·obtain ⟨i, rfl⟩ : ∃ i, n = i + 1 := ⟨n - 1, by (try dsimp only [ncast] at *); omega⟩
    have hi1 : ((i + 1 : Nat) : Int) - 1 = (i : Int) := by omega
    have hq : nx .i64 (iquo (((i + 1 : Nat) : Int) - 1) 32) = ((i / 32 : Nat) : Int) := by
     rw [hi1, show iquo (i : Int) 32 = ((i / 32 : Nat) : Int) from iquo_nat (b := 32), nx_i64 (by omega) (by omega)]
    have hr : irem (((i + 1 : Nat) : Int) - 1) 32 = ((i % 32 : Nat) : Int) := by rw [hi1]; exact irem_nat (b := 32)
    have hil : i / 32 < a.length := by omega
    have hbit := bit_limb a i
    have hbit2 : val a / 2 ^ i % 2 < 2 := Nat.mod_lt _ (by omega)
    have hd := u32_lt (a.getD (i / 32) 0)
    have hrl1 := hrl (i + 1)
    have cs := s208 (limbs (val a / 2 ^ (i + 1) % val b)) 1 (by omega) (by omega)
    rw [val_limbs] at cs
    have hl2 : (limbs (val a / 2 ^ (i + 1) % val b * 2 ^ 1)).length ≤ b.length + 1 := by
     refine limbs_length_le ?_
     rw [show B ^ (b.length + 1) = B ^ b.length * B from Nat.pow_succ _ _]
     refine Nat.mul_lt_mul'' (Nat.lt_trans (Nat.mod_lt _ hbp) (val_lt b)) (by decide)
    have cadd := s156 (limbs (val a / 2 ^ (i + 1) % val b * 2 ^ 1)) [UInt32.ofNat (val a / 2 ^ i % 2)] (by omega) (by simp)
    have hv1 : val [UInt32.ofNat (val a / 2 ^ i % 2)] = val a / 2 ^ i % 2 := by
     simp only [val, u32_mod, B]; omega
    rw [val_limbs, hv1] at cadd
    have hdb := div_bits (A := val a) (i := i) hbp
    have e2r : val a / 2 ^ (i + 1) % val b * 2 ^ 1 + val a / 2 ^ i % 2 = 2 * (val a / 2 ^ (i + 1) % val b) + val a / 2 ^ i % 2 := by omega
    rw [e2r] at cadd
    have hl3 : (limbs (2 * (val a / 2 ^ (i + 1) % val b) + val a / 2 ^ i % 2)).length ≤ b.length + 1 := by
     refine limbs_length_le ?_
     have h7 := Nat.lt_trans (Nat.mod_lt (val a / 2 ^ (i + 1)) hbp) (val_lt b)
     have h8 : B ^ b.length * 4 ≤ B ^ b.length * B := Nat.mul_le_mul_left _ (by decide)
     rw [show B ^ (b.length + 1) = B ^ b.length * B from Nat.pow_succ _ _]
     generalize B ^ b.length = P at *
     omega
    have ccmp := s205 (limbs (2 * (val a / 2 ^ (i + 1) % val b) + val a / 2 ^ i % 2)) b (by omega) (by omega)
    have csub := s157 (limbs (2 * (val a / 2 ^ (i + 1) % val b) + val a / 2 ^ i % 2)) b (by omega) (by omega)
    rw [val_limbs] at ccmp csub
    obtain ⟨hd1, hd2⟩ := hdb
    have hfree := limb_free (q := q) (i := i) (m := val a / 2 ^ (i + 1) / val b) k3
    have hpow : (2 : Nat) ^ (i + 1) = 2 * 2 ^ i := by rw [Nat.pow_succ, Nat.mul_comm]
    have k3' : val q = val a / 2 ^ (i + 1) / val b * (2 * 2 ^ i) := by rw [← hpow]; exact k3
    have hcl : 0 ≤ cmpI (2 * (val a / 2 ^ (i + 1) % val b) + val a / 2 ^ i % 2) (val b) ↔ val b ≤ 2 * (val a / 2 ^ (i + 1) % val b) + val a / 2 ^ i % 2 := by
     unfold cmpI
     split
     ·omega
     ·split <;> omega
    have hbitE : ([[.int .u32 (iand .u32 (ishr .u32 (((a.getD (i / 32) 0).toNat : Nat) : Int) (irem (((i + 1 : Nat) : Int) - 1) 32)) 1)]] : List (List D)) = lm [UInt32.ofNat (val a / 2 ^ i % 2)] := by
     rw [hr, ishr_u32 (by omega), iand1 (Nat.lt_of_le_of_lt (Nat.div_le_self _ _) hd), hbit]
     simp only [lm, List.map_cons, List.map_nil, u32_mod]
     rw [Nat.mod_eq_of_lt (show val a / 2 ^ i % 2 < B by simp only [B]; omega)]
    generalize cmpI (2 * (val a / 2 ^ (i + 1) % val b) + val a / 2 ^ i % 2) (val b) = C at *
    generalize hR : 2 * (val a / 2 ^ (i + 1) % val b) + val a / 2 ^ i % 2 = R at *
    generalize limbs (val a / 2 ^ (i + 1) % val b * 2 ^ 1) = L2 at *
    cbv
    refine callS' rfl (by exact ⟨leS_refl _, leS_int rfl, trivial⟩) cs rfl ?_
    cbv
    refine ⟨nz_of (by omega), idx_lm (i / 32) (by (try dsimp only [ncast] at *); rw [hq]) hil ?_⟩
    cbv
    refine ⟨nz_of (by omega), nn_of (by (try dsimp only [ncast] at *); rw [hr]; omega), ?_⟩
    refine callS' rfl (by exact ⟨leS_refl _, leS_sl hbitE, trivial⟩) cadd rfl ?_
    cbv
    refine callS' rfl okA (ccmp) rfl ?_
    cbv
    refine cut_dec (fun h6 => ?_) (fun h6 => ?_)
    ·obtain ⟨e1, e2⟩ := hd1 (hcl.1 h6)
     obtain ⟨t, ht⟩ := hfree
     have hqj := u32_lt (q.getD (i / 32) 0)
     have hs32 : i % 32 < 32 := Nat.mod_lt _ (by omega)
     have h2s : 2 ^ (i % 32) < 2 ^ (i % 32 + 1) := Nat.pow_lt_pow_right (by omega) (by omega)
     have h2B : 2 ^ (i % 32) < 4294967296 := Nat.pow_lt_pow_right (n := 32) (by omega) hs32
     have hor : (q.getD (i / 32) 0).toNat ||| 2 ^ (i % 32) = (q.getD (i / 32) 0).toNat + 2 ^ (i % 32) := by
      rw [ht, Nat.or_comm, or_add h2s, Nat.add_comm]
     have horl : (q.getD (i / 32) 0).toNat + 2 ^ (i % 32) < B := by
      rw [← hor]; exact Nat.or_lt_two_pow (n := 32) hqj h2B
     have hW : ior .u32 (((q.getD (i / 32) 0).toNat : Nat) : Int) (ishl .u32 1 (irem (((i + 1 : Nat) : Int) - 1) 32)) = (((q.getD (i / 32) 0).toNat + 2 ^ (i % 32) : Nat) : Int) := by
      rw [hr, ishl1 hs32, ior_or hqj h2B, hor]
     have hq40 : q.length < 2^40 := by omega
     have hjq : i / 32 < q.length := by omega
     cbv
     refine callS' rfl okA (csub) rfl ?_
     cbv
     refine draw_of 10 (by cbv) ?_
     cbv
     refine ⟨nz_of (by omega), rng_of (by (try dsimp only [ncast] at *); rw [hq]; omega) (by (try dsimp only [ncast] at *); rw [hq]; omega), el_lm (i / 32) (by (try dsimp only [ncast] at *); rw [hq]; omega) hjq ?_⟩
     cbv
     refine ⟨nz_of (by omega), nn_of (by (try dsimp only [ncast] at *); rw [hr]; omega), rng_of (by (try dsimp only [ncast] at *); rw [hq]; omega) (by (try dsimp only [ncast] at *); rw [hq]; omega), el_lm (i / 32) (by (try dsimp only [ncast] at *); rw [hq]; omega) hjq ?_⟩
     cbv
     refine ⟨in64_of om om, (i, q.set (i / 32) (UInt32.ofNat ((q.getD (i / 32) 0).toNat + 2 ^ (i % 32)))), ⟨by omega, by simpa using k2, ?_⟩, by show i < i + 1; omega, .le ?_ ?_ rfl⟩
     ·show val (q.set (i / 32) _) = val a / 2 ^ i / val b * 2 ^ i
      have e3 := val_set q hjq (UInt32.ofNat ((q.getD (i / 32) 0).toNat + 2 ^ (i % 32)))
      have e4 : 2 ^ i = B ^ (i / 32) * 2 ^ (i % 32) := by
       show 2 ^ i = (2 ^ 32) ^ (i / 32) * 2 ^ (i % 32)
       rw [← Nat.pow_mul, ← Nat.pow_add]
       congr 1; omega
      rw [u32_mod, Nat.mod_eq_of_lt horl, Nat.mul_add, ← e4, k3'] at e3
      rw [e1, Nat.add_mul, Nat.one_mul, Nat.mul_comm 2 (val a / 2 ^ (i + 1) / val b), Nat.mul_assoc]
      omega
     ·cbv
      exact ⟨leS_refl _, leS_refl _, leS_refl _, leS_sl (by rw [e2]), leS_int om, trivial⟩
     ·cbv
      have hset : (lm q).set (0 + (nx .i64 (iquo (((i + 1 : Nat) : Int) - 1) 32)).toNat) [.int .u32 (ior .u32 (((q.getD (i / 32) 0).toNat : Nat) : Int) (ishl .u32 1 (irem (((i + 1 : Nat) : Int) - 1) 32)))] = lm (q.set (i / 32) (UInt32.ofNat ((q.getD (i / 32) 0).toNat + 2 ^ (i % 32)))) := by
       rw [hq]; exact lm_set_to q (by rw [Int.toNat_natCast, Nat.zero_add]) hW horl
      exact ⟨elsEq_of hset, trivial⟩
    ·obtain ⟨e1, e2⟩ := hd2 (by have := fun e => h6 (hcl.2 e); omega)
     cbv
     refine ⟨in64_of om om, (i, q), ⟨by omega, k2, ?_⟩, by show i < i + 1; omega, .le ?_ ?_ rfl⟩
     ·show val q = val a / 2 ^ i / val b * 2 ^ i
      rw [k3', e1, Nat.mul_comm 2 (val a / 2 ^ (i + 1) / val b), Nat.mul_assoc]
     ·cbv
      exact ⟨leS_refl _, leS_refl _, leS_refl _, leS_sl (by rw [e2]), leS_int om, trivial⟩
     ·cbv
      exact ⟨elsEq_of rfl, trivial⟩
   ·have hn : n = 0 := by (try dsimp only [ncast] at *); omega
    subst hn
    rw [Nat.pow_zero, Nat.div_one, Nat.mul_one] at k3
    have cm := s155 q (by omega)
    rw [k3] at cm
    cbv
    refine callW (.frz 43 rfl rfl ?_ ?_) rfl (by refine ⟨leS_sl ?_, trivial⟩; exact List.take_of_length_le (by show ((lm q).drop 0).length ≤ a.length; rw [List.drop_zero, lm_length]; omega)) cm rfl ?_
    ·cbv
     exact ⟨frok_of (by rw [lm_length]; omega), frok_of (by rw [lm_length]; omega), trivial⟩
    ·exact trivial
    cbv
    (refine retC rfl ?_; cbv)
    exact ⟨leS_refl _, leS_sl (by rw [Nat.pow_zero, Nat.div_one]), leS_refl _, trivial⟩
  ·subst h1
   cbv
   refine ⟨room_of om om, mkok_of om om, ?_⟩
   cbv
   refine callS' rfl okA (cbits) rfl ?_
   cbv
   refine ⟨in64_of om om, ?_⟩
   refine loop_n (σ := Nat × List UInt32) (fun s => ⟨[(0, nat a), (1, nat b), (11, .osl 43 1 (fun _ => 0) (fun _ => a.length)), (12, nat (limbs (val a / 2 ^ s.1 % val b))), (13, .int .i64 (fun _ => (s.1 : Int) - 1))], [(43, .arr 1 (fun _ => lm s.2))]⟩)
    (fun s => s.1 ≤ bits ∧ s.2.length = a.length ∧ val s.2 = (val a / 2 ^ s.1 / val b) * 2 ^ s.1) (fun s => s.1) (bits, List.replicate a.length 0) ⟨Nat.le_refl _, by simp, by rw [hdiv0]; simp [val_zeros]⟩ (.le ?_ ?_ rfl) ?_
   ·cbv
    exact ⟨leS_refl _, leS_refl _, leS_osl rfl (by (try dsimp only [ncast] at *); simp only [lm_length]; omega), leS_nil (by rw [hdiv0, Nat.zero_mod, limbs_zero]; rfl), leS_refl _, trivial⟩
   ·cbv
    exact ⟨elsEq_of (mk_row _ _ (by (try dsimp only [ncast] at *); simp only [lm_length])), trivial⟩
   intro s hs
   obtain ⟨k1, k2, k3⟩ := hs
   generalize s.1 = n at *
   generalize s.2 = q at *
   cbv
   refine cut_dec (fun h5 => ?_) (fun h5 => ?_)
   ·obtain ⟨i, rfl⟩ : ∃ i, n = i + 1 := ⟨n - 1, by (try dsimp only [ncast] at *); omega⟩
    have hi1 : ((i + 1 : Nat) : Int) - 1 = (i : Int) := by omega
    have hq : nx .i64 (iquo (((i + 1 : Nat) : Int) - 1) 32) = ((i / 32 : Nat) : Int) := by
     rw [hi1, show iquo (i : Int) 32 = ((i / 32 : Nat) : Int) from iquo_nat (b := 32), nx_i64 (by omega) (by omega)]
    have hr : irem (((i + 1 : Nat) : Int) - 1) 32 = ((i % 32 : Nat) : Int) := by rw [hi1]; exact irem_nat (b := 32)
    have hil : i / 32 < a.length := by omega
    have hbit := bit_limb a i
    have hbit2 : val a / 2 ^ i % 2 < 2 := Nat.mod_lt _ (by omega)
    have hd := u32_lt (a.getD (i / 32) 0)
    have hrl1 := hrl (i + 1)
    have cs := s208 (limbs (val a / 2 ^ (i + 1) % val b)) 1 (by omega) (by omega)
    rw [val_limbs] at cs
    have hl2 : (limbs (val a / 2 ^ (i + 1) % val b * 2 ^ 1)).length ≤ b.length + 1 := by
     refine limbs_length_le ?_
     rw [show B ^ (b.length + 1) = B ^ b.length * B from Nat.pow_succ _ _]
     refine Nat.mul_lt_mul'' (Nat.lt_trans (Nat.mod_lt _ hbp) (val_lt b)) (by decide)
    have cadd := s156 (limbs (val a / 2 ^ (i + 1) % val b * 2 ^ 1)) [UInt32.ofNat (val a / 2 ^ i % 2)] (by omega) (by simp)
    have hv1 : val [UInt32.ofNat (val a / 2 ^ i % 2)] = val a / 2 ^ i % 2 := by
     simp only [val, u32_mod, B]; omega
    rw [val_limbs, hv1] at cadd
    have hdb := div_bits (A := val a) (i := i) hbp
    have e2r : val a / 2 ^ (i + 1) % val b * 2 ^ 1 + val a / 2 ^ i % 2 = 2 * (val a / 2 ^ (i + 1) % val b) + val a / 2 ^ i % 2 := by omega
    rw [e2r] at cadd
    have hl3 : (limbs (2 * (val a / 2 ^ (i + 1) % val b) + val a / 2 ^ i % 2)).length ≤ b.length + 1 := by
     refine limbs_length_le ?_
     have h7 := Nat.lt_trans (Nat.mod_lt (val a / 2 ^ (i + 1)) hbp) (val_lt b)
     have h8 : B ^ b.length * 4 ≤ B ^ b.length * B := Nat.mul_le_mul_left _ (by decide)
     rw [show B ^ (b.length + 1) = B ^ b.length * B from Nat.pow_succ _ _]
     generalize B ^ b.length = P at *
     omega
    have ccmp := s205 (limbs (2 * (val a / 2 ^ (i + 1) % val b) + val a / 2 ^ i % 2)) b (by omega) (by omega)
    have csub := s157 (limbs (2 * (val a / 2 ^ (i + 1) % val b) + val a / 2 ^ i % 2)) b (by omega) (by omega)
    rw [val_limbs] at ccmp csub
    obtain ⟨hd1, hd2⟩ := hdb
    have hfree := limb_free (q := q) (i := i) (m := val a / 2 ^ (i + 1) / val b) k3
    have hpow : (2 : Nat) ^ (i + 1) = 2 * 2 ^ i := by rw [Nat.pow_succ, Nat.mul_comm]
    have k3' : val q = val a / 2 ^ (i + 1) / val b * (2 * 2 ^ i) := by rw [← hpow]; exact k3
    have hcl : 0 ≤ cmpI (2 * (val a / 2 ^ (i + 1) % val b) + val a / 2 ^ i % 2) (val b) ↔ val b ≤ 2 * (val a / 2 ^ (i + 1) % val b) + val a / 2 ^ i % 2 := by
     unfold cmpI
     split
     ·omega
     ·split <;> omega
    have hbitE : ([[.int .u32 (iand .u32 (ishr .u32 (((a.getD (i / 32) 0).toNat : Nat) : Int) (irem (((i + 1 : Nat) : Int) - 1) 32)) 1)]] : List (List D)) = lm [UInt32.ofNat (val a / 2 ^ i % 2)] := by
     rw [hr, ishr_u32 (by omega), iand1 (Nat.lt_of_le_of_lt (Nat.div_le_self _ _) hd), hbit]
     simp only [lm, List.map_cons, List.map_nil, u32_mod]
     rw [Nat.mod_eq_of_lt (show val a / 2 ^ i % 2 < B by simp only [B]; omega)]
    generalize cmpI (2 * (val a / 2 ^ (i + 1) % val b) + val a / 2 ^ i % 2) (val b) = C at *
    generalize hR : 2 * (val a / 2 ^ (i + 1) % val b) + val a / 2 ^ i % 2 = R at *
    generalize limbs (val a / 2 ^ (i + 1) % val b * 2 ^ 1) = L2 at *
    cbv
    refine callS' rfl (by exact ⟨leS_refl _, leS_int rfl, trivial⟩) cs rfl ?_
    cbv
    refine ⟨nz_of (by omega), idx_lm (i / 32) (by (try dsimp only [ncast] at *); rw [hq]) hil ?_⟩
    cbv
    refine ⟨nz_of (by omega), nn_of (by (try dsimp only [ncast] at *); rw [hr]; omega), ?_⟩
    refine callS' rfl (by exact ⟨leS_refl _, leS_sl hbitE, trivial⟩) cadd rfl ?_
    cbv
    refine callS' rfl okA (ccmp) rfl ?_
    cbv
    refine cut_dec (fun h6 => ?_) (fun h6 => ?_)
    ·obtain ⟨e1, e2⟩ := hd1 (hcl.1 h6)
     obtain ⟨t, ht⟩ := hfree
     have hqj := u32_lt (q.getD (i / 32) 0)
     have hs32 : i % 32 < 32 := Nat.mod_lt _ (by omega)
     have h2s : 2 ^ (i % 32) < 2 ^ (i % 32 + 1) := Nat.pow_lt_pow_right (by omega) (by omega)
     have h2B : 2 ^ (i % 32) < 4294967296 := Nat.pow_lt_pow_right (n := 32) (by omega) hs32
     have hor : (q.getD (i / 32) 0).toNat ||| 2 ^ (i % 32) = (q.getD (i / 32) 0).toNat + 2 ^ (i % 32) := by
      rw [ht, Nat.or_comm, or_add h2s, Nat.add_comm]
     have horl : (q.getD (i / 32) 0).toNat + 2 ^ (i % 32) < B := by
      rw [← hor]; exact Nat.or_lt_two_pow (n := 32) hqj h2B
     have hW : ior .u32 (((q.getD (i / 32) 0).toNat : Nat) : Int) (ishl .u32 1 (irem (((i + 1 : Nat) : Int) - 1) 32)) = (((q.getD (i / 32) 0).toNat + 2 ^ (i % 32) : Nat) : Int) := by
      rw [hr, ishl1 hs32, ior_or hqj h2B, hor]
     have hq40 : q.length < 2^40 := by omega
     have hjq : i / 32 < q.length := by omega
     cbv
     refine callS' rfl okA (csub) rfl ?_
     cbv
     refine draw_of 10 (by cbv) ?_
     cbv
     refine ⟨nz_of (by omega), rng_of (by (try dsimp only [ncast] at *); rw [hq]; omega) (by (try dsimp only [ncast] at *); rw [hq]; omega), el_lm (i / 32) (by (try dsimp only [ncast] at *); rw [hq]; omega) hjq ?_⟩
     cbv
     refine ⟨nz_of (by omega), nn_of (by (try dsimp only [ncast] at *); rw [hr]; omega), rng_of (by (try dsimp only [ncast] at *); rw [hq]; omega) (by (try dsimp only [ncast] at *); rw [hq]; omega), el_lm (i / 32) (by (try dsimp only [ncast] at *); rw [hq]; omega) hjq ?_⟩
     cbv
     refine ⟨in64_of om om, (i, q.set (i / 32) (UInt32.ofNat ((q.getD (i / 32) 0).toNat + 2 ^ (i % 32)))), ⟨by omega, by simpa using k2, ?_⟩, by show i < i + 1; omega, .le ?_ ?_ rfl⟩
     ·show val (q.set (i / 32) _) = val a / 2 ^ i / val b * 2 ^ i
      have e3 := val_set q hjq (UInt32.ofNat ((q.getD (i / 32) 0).toNat + 2 ^ (i % 32)))
      have e4 : 2 ^ i = B ^ (i / 32) * 2 ^ (i % 32) := by
       show 2 ^ i = (2 ^ 32) ^ (i / 32) * 2 ^ (i % 32)
       rw [← Nat.pow_mul, ← Nat.pow_add]
       congr 1; omega
      rw [u32_mod, Nat.mod_eq_of_lt horl, Nat.mul_add, ← e4, k3'] at e3
      rw [e1, Nat.add_mul, Nat.one_mul, Nat.mul_comm 2 (val a / 2 ^ (i + 1) / val b), Nat.mul_assoc]
      omega
     ·cbv
      exact ⟨leS_refl _, leS_refl _, leS_refl _, leS_sl (by rw [e2]), leS_int om, trivial⟩
     ·cbv
      have hset : (lm q).set (0 + (nx .i64 (iquo (((i + 1 : Nat) : Int) - 1) 32)).toNat) [.int .u32 (ior .u32 (((q.getD (i / 32) 0).toNat : Nat) : Int) (ishl .u32 1 (irem (((i + 1 : Nat) : Int) - 1) 32)))] = lm (q.set (i / 32) (UInt32.ofNat ((q.getD (i / 32) 0).toNat + 2 ^ (i % 32)))) := by
       rw [hq]; exact lm_set_to q (by rw [Int.toNat_natCast, Nat.zero_add]) hW horl
      exact ⟨elsEq_of hset, trivial⟩
    ·obtain ⟨e1, e2⟩ := hd2 (by have := fun e => h6 (hcl.2 e); omega)
     cbv
     refine ⟨in64_of om om, (i, q), ⟨by omega, k2, ?_⟩, by show i < i + 1; omega, .le ?_ ?_ rfl⟩
     ·show val q = val a / 2 ^ i / val b * 2 ^ i
      rw [k3', e1, Nat.mul_comm 2 (val a / 2 ^ (i + 1) / val b), Nat.mul_assoc]
     ·cbv
      exact ⟨leS_refl _, leS_refl _, leS_refl _, leS_sl (by rw [e2]), leS_int om, trivial⟩
     ·cbv
      exact ⟨elsEq_of rfl, trivial⟩
   ·have hn : n = 0 := by (try dsimp only [ncast] at *); omega
    subst hn
    rw [Nat.pow_zero, Nat.div_one, Nat.mul_one] at k3
    have cm := s155 q (by omega)
    rw [k3] at cm
    cbv
    refine callW (.frz 43 rfl rfl ?_ ?_) rfl (by refine ⟨leS_sl ?_, trivial⟩; exact List.take_of_length_le (by show ((lm q).drop 0).length ≤ a.length; rw [List.drop_zero, lm_length]; omega)) cm rfl ?_
    ·cbv
     exact ⟨frok_of (by rw [lm_length]; omega), frok_of (by rw [lm_length]; omega), trivial⟩
    ·exact trivial
    cbv
    (refine retC rfl ?_; cbv)
    exact ⟨leS_refl _, leS_sl (by rw [Nat.pow_zero, Nat.div_one]), leS_refl _, trivial⟩
end Go.Proofs.YtcanljninhfmhaaGreat
