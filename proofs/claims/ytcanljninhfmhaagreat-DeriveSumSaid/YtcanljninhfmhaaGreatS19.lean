/- A part of the proof: NtE, NtF. -/
import Derived.Test.YtcanljninhfmhaaGreatS17
import Derived.Test.YtcanljninhfmhaaGreatS18
set_option linter.all false
namespace Go.Proofs.YtcanljninhfmhaaGreat
open Go
set_option linter.unusedVariables false
set_option maxRecDepth 100000
theorem ior_or {a b : Nat} (ha : a < 4294967296) (hb : b < 4294967296) : ior .u32 (a : Int) (b : Int) = ((a ||| b : Nat) : Int) := by
 unfold ior
 have h1 : a ||| b < 2 ^ 32 := Nat.or_lt_two_pow ha hb
 have key : (BitVec.ofInt 32 (a : Int) ||| BitVec.ofInt 32 (b : Int)).toNat = a ||| b := by
  rw [BitVec.toNat_or, BitVec.ofInt_natCast, BitVec.ofInt_natCast, BitVec.toNat_ofNat, BitVec.toNat_ofNat, Nat.mod_eq_of_lt (show a < 2 ^ 32 from ha), Nat.mod_eq_of_lt (show b < 2 ^ 32 from hb)]
 show IntKind.u32.wrap ((BitVec.ofInt 32 (a : Int) ||| BitVec.ofInt 32 (b : Int)).toNat : Int) = _
 rw [key]
 have := nx_u32 ((a ||| b : Nat) : Int)
 unfold nx at this
 rw [this]
 omega
theorem or_add {a k c : Nat} (ha : a < 2 ^ k) : a ||| (2 ^ k * c) = a + 2 ^ k * c := by
 rw [Nat.or_comm, Nat.add_comm, Nat.two_pow_add_eq_or_of_lt ha]
theorem ishl_nat {a k : Nat} (hk : k < 64) (h : a * 2 ^ k < 18446744073709551616) : ishl .u64 (a : Int) (k : Int) = ((a * 2 ^ k : Nat) : Int) := by
 unfold ishl
 have := nx_u64 ((a * 2 ^ k : Nat) : Int)
 unfold nx at this
 have e : ((a : Int) * 2 ^ (min (k : Int).toNat IntKind.u64.bits)) = ((a * 2 ^ k : Nat) : Int) := by
  have : min (k : Int).toNat IntKind.u64.bits = k := by simp [IntKind.bits]; omega
  rw [this]
  push_cast
  rfl
 rw [e, this]
 omega
theorem el_lm' {els : List (List D)} {l : List UInt32} (he : els = lm l) {i : Nat} {K : List PV → Prop} (j : Nat) (hk : i = j) (hj : j < l.length) (hK : K [.int .u32 (fun _ => ((l.getD j 0).toNat : Int))]) : ElOk 1 (fun _ => els) (fun _ => i) K := by
 subst he; exact el_lm j hk hj hK
theorem hf234 : Pg.funcs[196]? = some Tryz.f196 := by rw [Pg_eq]; rfl
theorem s234 (a : List UInt32) (k : Nat) (ha : a.length < 2^40) (hk : k < 32) : Sound 196 [nat a, .int .i64 (fun _ => (k : Int))] [] [] (.osl 12 1 (fun _ => 0) (fun _ => a.length + 1)) [] [(12, .arr 1 (fun _ => lm (pad (val a * 2 ^ k) (a.length + 1))))] := by
  refine sound_fn hf234 rfl rfl rfl rfl rfl ?_
  cbv
  refine ⟨in64_of om om, room_of om om, mkok_of om om, ?_⟩
  cbv
  refine loop_n (σ := Nat × List UInt32) (fun s => ⟨[(0, nat a), (1, .int .i64 (fun _ => (k : Int))), (5, .osl 12 1 (fun _ => 0) (fun _ => a.length + 1)), (13, nat a), (14, .int .i64 (fun _ => (a.length : Int))), (15, .int .i64 (fun _ => (s.1 : Int)))], [(12, .arr 1 (fun _ => lm s.2))]⟩)
    (fun s => s.1 ≤ a.length ∧ s.2.length = a.length + 1 ∧ val s.2 = val (a.take s.1) * 2 ^ k ∧ (s.2.getD s.1 0).toNat < 2 ^ k ∧ ∀ j, s.1 < j → s.2.getD j 0 = 0) (fun s => a.length - s.1)
    (0, List.replicate (a.length + 1) 0) ⟨om, by simp, by simp [val, val_zeros], by simp; exact Nat.pow_pos (by omega), fun j _ => by simp only [List.getD_eq_getElem?_getD, List.getElem?_replicate]; split <;> rfl⟩ (.le ?_ ?_ rfl) ?_
  · cbv
    exact ⟨leS_refl _, leS_refl _, leS_osl rfl om, leS_refl _, leS_int om, leS_refl _, trivial⟩
  · cbv
    refine ⟨elsEq_of ?_, trivial⟩
    show List.replicate (((lm a).length : Int) + 1).toNat _ = _
    have : (((lm a).length : Int) + 1).toNat = a.length + 1 := by rw [lm_length]; omega
    rw [this]
    simp [lm, mapD, toD]
  intro s hs
  obtain ⟨h1, h2, h3, h3', h4⟩ := hs
  generalize s.1 = i at *
  generalize s.2 = out at *
  cbv
  refine cut_dec (fun h5 => ?_) (fun h5 => ?_)
  · cbv
    refine idx_lm i om om ?_
    cbv
    refine ⟨nn_of om, rng_of om om, el_lm i (by simp) om ?_⟩
    cbv
    refine ⟨rng_of om om, el_lm i (by simp) om ?_⟩
    cbv
    have hd := u32_lt (a.getD i 0)
    have ho := u32_lt (out.getD i 0)
    generalize hdd : (a.getD i 0).toNat = d at *
    generalize hoo : (out.getD i 0).toNat = o at *
    have hB : B = 4294967296 := rfl
    have hx : d * 2 ^ k < 4294967296 * 4294967296 := Nat.mul_lt_mul'' (by omega) (Nat.pow_lt_pow_right (by omega) hk)
    have hT : ishl .u64 (nx .u64 (d : Int)) (k : Int) = ((d * 2 ^ k : Nat) : Int) := by
      rw [nx_nat (by omega), ishl_nat (by omega) (by omega)]
    have hmod : ∃ c, (d * 2 ^ k) % B = 2 ^ k * c := by
      have hB2 : B = 2 ^ k * 2 ^ (32 - k) := by rw [← Nat.pow_add]; have : k + (32 - k) = 32 := by omega
                                                rw [this]; rfl
      rw [hB2, Nat.mul_comm d, Nat.mul_mod_mul_left]
      exact ⟨_, rfl⟩
    obtain ⟨e, he⟩ := hmod
    have hml : (d * 2 ^ k) % B < B := Nat.mod_lt _ B_pos
    have hw : o + (d * 2 ^ k) % B < B := by
      rw [he, ← or_add h3']
      exact Nat.or_lt_two_pow (n := 32) ho (by rw [← he]; exact hml)
    have hW : ior .u32 (o : Int) (nx .u32 (ishl .u64 (nx .u64 (d : Int)) (k : Int))) = ((o + (d * 2 ^ k) % B : Nat) : Int) := by
      have h8 : nx .u32 ((d * 2 ^ k : Nat) : Int) = (((d * 2 ^ k) % B : Nat) : Int) := by rw [nx_u32, hB]; omega
      rw [hT, h8, ior_or ho hml, he, or_add h3']
    have hset1 := val_set out (j := i) om (UInt32.ofNat (o + (d * 2 ^ k) % B))
    have hels : (lm out).set (0 + (i : Int).toNat) [.int .u32 (ior .u32 (o : Int) (nx .u32 (ishl .u64 (nx .u64 (d : Int)) (k : Int))))] = lm (out.set i (UInt32.ofNat (o + (d * 2 ^ k) % B))) := by
      rw [hW]; exact lm_set_to out (by simp) rfl hw
    have hlen1 : (out.set i (UInt32.ofNat (o + (d * 2 ^ k) % B))).length = a.length + 1 := by simpa using h2
    have hi1 : 0 + ((i : Int) + 1).toNat = i + 1 := by omega
    generalize hout1 : out.set i (UInt32.ofNat (o + (d * 2 ^ k) % B)) = out1 at *
    refine ⟨in64_of om om, nn_of (by omega), rng_of om om, el_lm' hels (i + 1) hi1 om ?_⟩
    cbv
    have hz1 : out1.getD (i + 1) 0 = 0 := by rw [← hout1, getD_set_u _ _ _ _ (by omega)]; exact h4 _ (by omega)
    have hset2 := val_set out1 (j := i + 1) om (UInt32.ofNat (d * 2 ^ k / B))
    have hq : d * 2 ^ k / B < 2 ^ k := by
      rw [Nat.div_lt_iff_lt_mul B_pos, Nat.mul_comm]
      exact Nat.mul_lt_mul_of_pos_left hd (Nat.pow_pos (by omega))
    have hqB : d * 2 ^ k / B < B := Nat.lt_trans hq (show 2 ^ k < 2 ^ 32 from Nat.pow_lt_pow_right (by omega) hk)
    refine ⟨in64_of om om, (i + 1, out1.set (i + 1) (UInt32.ofNat (d * 2 ^ k / B))), ⟨om, by simpa using hlen1, ?_, ?_, ?_⟩, om, .le ?_ ?_ rfl⟩
    · show val (out1.set (i + 1) _) = val (a.take (i + 1)) * 2 ^ k
      rw [val_take_getD a, hdd, Nat.add_mul, ← h3, Nat.mul_assoc]
      rw [hz1, u32_mod, Nat.mod_eq_of_lt hqB] at hset2
      rw [u32_mod, Nat.mod_eq_of_lt hw] at hset1
      have e1 : B ^ i * ((d * 2 ^ k) % B) + B ^ (i + 1) * (d * 2 ^ k / B) = B ^ i * (d * 2 ^ k) := by
        rw [Nat.pow_succ, Nat.mul_assoc, ← Nat.mul_add, Nat.mod_add_div]
      rw [Nat.mul_add (B ^ i) o, hoo] at hset1
      simp only [UInt32.toNat_zero, Nat.mul_zero, Nat.add_zero] at hset2
      omega
    · show ((out1.set (i + 1) _).getD (i + 1) 0).toNat < 2 ^ k
      have : (out1.set (i + 1) (UInt32.ofNat (d * 2 ^ k / B))).getD (i + 1) 0 = UInt32.ofNat (d * 2 ^ k / B) := by
        have : i + 1 < out1.length := om
        simp [this]
      rw [this, u32_mod, Nat.mod_eq_of_lt hqB]
      exact hq
    · intro j hj
      show (out1.set (i + 1) _).getD j 0 = 0
      have hj' : i + 1 < j := hj
      rw [getD_set_u _ _ _ _ (by omega), ← hout1, getD_set_u _ _ _ _ (by omega)]
      exact h4 j (by omega)
    · cbv
      exact ⟨leS_refl _, leS_refl _, leS_refl _, leS_refl _, leS_refl _, leS_int om, trivial⟩
    · cbv
      refine ⟨elsEq_of ?_, trivial⟩
      show ((lm out).set (0 + (i : Int).toNat) [.int .u32 (ior .u32 (o : Int) (nx .u32 (ishl .u64 (nx .u64 (d : Int)) (k : Int))))]).set (0 + ((i : Int) + 1).toNat) [.int .u32 (nx .u32 (ishr .u64 (ishl .u64 (nx .u64 (d : Int)) (k : Int)) 32))] = _
      rw [hels, hT, ishr32]
      exact lm_set_nx out1 hi1 _
  · cbv
    have hip : i = a.length := om
    subst hip
    rw [List.take_of_length_le (Nat.le_refl _)] at h3
    refine ⟨⟨_, _, id, .refl _, rfl, les_le (leS_refl _), rfl, ?_, rfl, trivial⟩⟩
    exact ⟨⟨by rw [pad_of h2 h3]; rfl, rfl⟩, trivial⟩
end Go.Proofs.YtcanljninhfmhaaGreat

namespace Go.Proofs.YtcanljninhfmhaaGreat
open Go
set_option linter.unusedVariables false
set_option maxRecDepth 100000
theorem soundS_int1 {f : FuncId} {fn : Func} (hf : Pg.funcs[f]? = some fn) (hb : fn.body.isSome = true) (hname : (fn.name == "runtime.NumGoroutine") = false) {k k' : IntKind} {x z : Int}
  (h : ∀ w, Calls Pg f #[.int k x] w fun e w' => e = .returned (.int k' z) ∧ w' = w) : SoundS f [.int k (fun _ => x)] (.int k' (fun _ => z)) where
 isf vals w := by
  obtain ⟨c, hc⟩ := Option.isSome_iff_exists.1 hb
  have hn : ¬ fn.name = "runtime.NumGoroutine" := by simpa using hname
  simp [callFunc, hf, hn, hc]
 go w S β vals hbnd hobj hsz hrep := by
  have h0 := rep_int (hrep 0 (by simp))
  have hv : vals = #[.int k x] := by
   apply Array.ext
   ·simpa using hsz
   ·intro i h1 h2
    have : i = 0 := by simp at h2; omega
    subst this
    have : vals.getD 0 undef = vals[0] := by simp [h1]
    rw [this] at h0
    simpa using h0
  subst hv
  refine (h w).mono ?_
  rintro e w' ⟨rfl, rfl⟩
  exact ⟨_, S, β, rfl, ⟨Nat.le_refl _, rfl, rfl, rfl, fun _ _ _ => rfl, fun b vs T h => ⟨vs, h, rfl⟩, hbnd, fun _ _ _ h => h, fun _ _ _ _ h => h⟩, .c rfl (.int _ _), hobj, rfl, fun _ _ h => by simp at h, fun n o b h => by simp at h⟩
theorem hf228 : Pg.funcs[187]? = some Tryz.f187 := by rw [Pg_eq]; rfl
theorem s228 (x : Nat) (hx : x < 4294967296) : SoundS 187 [.int .u32 (fun _ => (x : Int))] (.int .i64 (fun _ => (Lib.bitLen x : Int))) := by
 refine soundS_int1 hf228 rfl rfl fun w => ?_
 rw [Pg_eq]
 exact len32 (x : Int) w (by omega) (by omega)
theorem bitLen_lt {x : Nat} (hx : x < 4294967296) : Lib.bitLen x ≤ 32 := Lib.bitLen_le x 32 (by omega) (by omega)
theorem hf233 : Pg.funcs[195]? = some Tryz.f195 := by rw [Pg_eq]; rfl
theorem s233 (x : Nat) (hx : x < 4294967296) : SoundS 195 [.int .u32 (fun _ => (x : Int))] (.int .i64 (fun _ => 32 - (Lib.bitLen x : Int))) := by
 refine sound_fn hf233 rfl rfl rfl rfl rfl ?_
 have := bitLen_lt hx
 cbv
 refine callS' rfl (by exact ⟨leS_refl _, trivial⟩) (s228 x hx) rfl ?_
 cbv
 refine ⟨in64_of om om, ?_⟩
 exact ret0 rfl (leS_refl _) rfl
def bitsP (n : Nat) : Nat := if n = 0 then 0 else 32 * ((limbs n).length - 1) + Lib.bitLen ((limbs n).getD ((limbs n).length - 1) 0).toNat
theorem bitLen_pos {x : Nat} (h : x ≠ 0) (hx : x < 4294967296) : 0 < Lib.bitLen x := by
 rw [Lib.bitLen_half x h (by omega)]; omega
theorem top_ne {n : Nat} (h : n ≠ 0) : ((limbs n).getD ((limbs n).length - 1) 0).toNat ≠ 0 := by
 have h1 := canon_limbs n
 rw [canon_last (fun e => h (limbs_eq_nil.1 e))] at h1
 intro e
 have : (limbs n).getD ((limbs n).length - 1) 0 = 0 := UInt32.toNat_inj.1 e
 rw [this] at h1
 exact absurd h1 (by decide)
theorem bitsP_eq0 {n : Nat} : bitsP n = 0 ↔ n = 0 := by
 unfold bitsP
 split
 ·simp_all
 ·rename_i h
  have := bitLen_pos (top_ne h) (u32_lt _)
  constructor <;> intro <;> omega
theorem bitsP_le {n : Nat} : bitsP n ≤ 32 * (limbs n).length := by
 unfold bitsP
 split
 ·omega
 ·rename_i h
  have h1 := bitLen_lt (x := ((limbs n).getD ((limbs n).length - 1) 0).toNat) (u32_lt _)
  have : 0 < (limbs n).length := by rcases Nat.eq_zero_or_pos (limbs n).length with e | e; exact absurd (limbs_eq_nil.1 (List.eq_nil_of_length_eq_zero e)) h; exact e
  omega
theorem hf202 : Pg.funcs[160]? = some Tryz.f160 := by rw [Pg_eq]; rfl
theorem s202 (l : List UInt32) (hl : l.length < 2^40) : SoundS 160 [nat l] (.int .i64 (fun _ => (bitsP (val l) : Int))) := by
 refine sound_fn hf202 rfl rfl rfl rfl rfl ?_
 have hl' := Nat.lt_of_le_of_lt (limbs_length_le' l) hl
 cbv
 refine callS' rfl (by exact ⟨leS_refl _, trivial⟩) (s209 l (by omega)) rfl ?_
 cbv
 refine cut_dec (fun h => ?_) (fun h => ?_)
 ·cbv
  refine ret0 rfl ?_ rfl
  have : val l = 0 := limbs_eq_nil.1 (List.eq_nil_of_length_eq_zero om)
  exact leS_int (by rw [bitsP_eq0.2 this]; rfl)
 ·cbv
  have h0 : val l ≠ 0 := fun e => h (by rw [e, limbs_zero]; rfl)
  have hp : 0 < (limbs (val l)).length := om
  refine ⟨in64_of om om, in64_of om om, in64_of om om, idx_lm ((limbs (val l)).length - 1) om om ?_⟩
  cbv
  have h3 := bitLen_lt (x := ((limbs (val l)).getD ((limbs (val l)).length - 1) 0).toNat) (u32_lt _)
  have h5 : bitsP (val l) = 32 * ((limbs (val l)).length - 1) + Lib.bitLen ((limbs (val l)).getD ((limbs (val l)).length - 1) 0).toNat := by rw [bitsP, if_neg h0]
  refine callS' rfl (by exact ⟨leS_refl _, trivial⟩) (s228 ((limbs (val l)).getD ((limbs (val l)).length - 1) 0).toNat (u32_lt _)) rfl ?_
  generalize Lib.bitLen ((limbs (val l)).getD ((limbs (val l)).length - 1) 0).toNat = t at *
  cbv
  refine ⟨in64_of om om, ?_⟩
  refine ret0 rfl ?_ rfl
  exact leS_int (by rw [h5]; (try dsimp only [ncast] at *); simp only [lm_length]; omega)
theorem ior64 {a b : Nat} (ha : a < 18446744073709551616) (hb : b < 18446744073709551616) : ior .u64 (a : Int) (b : Int) = ((a ||| b : Nat) : Int) := by
 unfold ior
 have h1 : a ||| b < 2 ^ 64 := Nat.or_lt_two_pow ha hb
 have key : (BitVec.ofInt 64 (a : Int) ||| BitVec.ofInt 64 (b : Int)).toNat = a ||| b := by
  rw [BitVec.toNat_or, BitVec.ofInt_natCast, BitVec.ofInt_natCast, BitVec.toNat_ofNat, BitVec.toNat_ofNat, Nat.mod_eq_of_lt (show a < 2 ^ 64 from ha), Nat.mod_eq_of_lt (show b < 2 ^ 64 from hb)]
 show IntKind.u64.wrap ((BitVec.ofInt 64 (a : Int) ||| BitVec.ofInt 64 (b : Int)).toNat : Int) = _
 rw [key]
 have := nx_u64 ((a ||| b : Nat) : Int)
 unfold nx at this
 rw [this]
 omega
theorem or2 {a b : Nat} (ha : a < 4294967296) (hb : b < 4294967296) : ior .u64 (a : Int) (ishl .u64 (nx .u64 (b : Int)) 32) = ((a + 4294967296 * b : Nat) : Int) := by
 have h1 := ishl_nat (a := b) (k := 32) (by omega) (by omega)
 rw [nx_nat (by omega)]
 show ior .u64 (a : Int) (ishl .u64 (b : Int) ((32 : Nat) : Int)) = _
 rw [h1, ior64 (by omega) (by omega), Nat.mul_comm b, or_add (k := 32) ha]
theorem or2' {a b : Nat} (ha : a < 4294967296) (hb : b < 4294967296) : ior .u64 (ishl .u64 (b : Int) 32) (nx .u64 (a : Int)) = ((a + 4294967296 * b : Nat) : Int) := by
 have h1 := ishl_nat (a := b) (k := 32) (by omega) (by omega)
 rw [nx_nat (by omega)]
 show ior .u64 (ishl .u64 (b : Int) ((32 : Nat) : Int)) (a : Int) = _
 rw [h1, ior64 (by omega) (by omega), Nat.mul_comm b, Nat.or_comm, or_add (k := 32) ha]
theorem len2 {n : Nat} : (limbs n).length ≤ 2 ↔ n < B * B := by
 constructor
 ·intro h
  have h1 := val_lt (limbs n)
  rw [val_limbs] at h1
  have := Nat.pow_le_pow_right B_pos h
  have e : B ^ 2 = B * B := by rw [Nat.pow_succ, Nat.pow_one]
  omega
 ·intro h
  exact limbs_length_le (by rw [Nat.pow_succ, Nat.pow_one]; exact h)
theorem hf231 : Pg.funcs[193]? = some Tryz.f193 := by rw [Pg_eq]; rfl
theorem s231 (l : List UInt32) (hl : l.length < 2^40) : SoundS 193 [nat l] (.tup [.int .u64 (fun _ => ((if val l < B * B then val l else 0 : Nat) : Int)), .bool (fun _ => decide (val l < B * B))]) := by
 refine sound_fn hf231 rfl rfl rfl rfl rfl ?_
 have hl' := Nat.lt_of_le_of_lt (limbs_length_le' l) hl
 cbv
 refine callS' rfl (by exact ⟨leS_refl _, trivial⟩) (s209 l (by omega)) rfl ?_
 cbv
 refine cut_dec (fun h => ?_) (fun h => ?_)
 ·cbv
  have h1 : ¬ val l < B * B := fun h1 => by have := len2.2 h1; (try dsimp only [ncast] at *); simp only [lm_length] at h; omega
  refine ret0 rfl ?_ rfl
  exact ⟨leS_int (by rw [if_neg h1]; rfl), leS_ff (decide_eq_false h1), trivial⟩
 ·have h2 : (limbs (val l)).length ≤ 2 := om
  have h1 : val l < B * B := len2.1 h2
  have hv := val_limbs (val l)
  generalize limbs (val l) = p at *
  cbv
  refine loop_n (σ := Nat) (fun s => ⟨[(0, nat p), (4, .int .u64 (fun _ => (val (p.take s) : Int))), (12, nat p), (13, .int .i64 (fun _ => (p.length : Int))), (14, .int .i64 (fun _ => (s : Int)))], []⟩)
   (fun s => s ≤ p.length) (fun s => p.length - s) 0 om (.le ?_ trivial rfl) ?_
  ·cbv
   exact ⟨leS_refl _, leS_refl _, leS_refl _, leS_int om, leS_refl _, trivial⟩
  intro i hi
  cbv
  refine cut_dec (fun h5 => ?_) (fun h5 => ?_)
  ·cbv
   refine idx_lm i om om ?_
   cbv
   refine ⟨in64_of om om, nn_of om, in64_of om om, i + 1, om, om, .le ?_ trivial rfl⟩
   cbv
   have hd := u32_lt (p.getD i 0)
   have hv1 := val_take_lt p i
   have hv2 := val_take_getD p i
   refine ⟨leS_refl _, leS_int ?_, leS_refl _, leS_refl _, leS_int om, trivial⟩
   have hi2 : i = 0 ∨ i = 1 := om
   simp only [B] at hd
   rcases hi2 with rfl | rfl
   ·rw [hv2]
    simp only [val, List.take_zero, Nat.pow_zero, Nat.one_mul]
    have e := or2 (a := 0) (b := 0) (by omega) (by omega)
    have h9 : ishl .u64 (nx .u64 ((p.getD 0 0).toNat : Int)) (32 * ((0 : Nat) : Int)) = ((p.getD 0 0).toNat : Int) := by
     have := ishl_nat (a := (p.getD 0 0).toNat) (k := 0) (by omega) (by omega)
     rw [nx_nat (by omega)]
     simpa using this
    show ior .u64 ((0 : Nat) : Int) (ishl .u64 (nx .u64 ((p.getD 0 0).toNat : Int)) (32 * ((0 : Nat) : Int))) = _
    rw [h9, ior64 (by omega) (by omega)]
    simp
   ·rw [hv2]
    rw [Nat.pow_one] at hv1 ⊢
    have := or2 (a := val (p.take 1)) (b := (p.getD 1 0).toNat) hv1 (by omega)
    show ior .u64 (val (p.take 1) : Int) (ishl .u64 (nx .u64 ((p.getD 1 0).toNat : Int)) 32) = _
    rw [this]
    rfl
  ·cbv
   refine ret0 rfl ?_ rfl
   have : i = p.length := om
   subst this
   rw [List.take_of_length_le (Nat.le_refl _)]
   exact ⟨leS_int (by rw [if_pos h1, hv]), leS_tt (decide_eq_true h1), trivial⟩
theorem shr_step {bi b1 Y s : Nat} (hs : s < 32) (hb : bi < B) (h1 : b1 = Y % B) : (bi + B * Y) / 2 ^ s = ((bi + B * b1) / 2 ^ s) % B + B * (Y / 2 ^ s) := by
 have hP : 0 < 2 ^ s := Nat.two_pow_pos s
 have hB : B = 2 ^ s * 2 ^ (32 - s) := by
  rw [← Nat.pow_add]
  have : s + (32 - s) = 32 := by omega
  rw [this]; rfl
 have key : ∀ y, (bi + B * y) / 2 ^ s = (bi + B * (y % 2 ^ s)) / 2 ^ s + B * (y / 2 ^ s) := by
  intro y
  have e : bi + B * y = (bi + B * (y % 2 ^ s)) + 2 ^ s * (B * (y / 2 ^ s)) := by
   have h := Nat.mod_add_div y (2 ^ s)
   calc bi + B * y = bi + B * (y % 2 ^ s + 2 ^ s * (y / 2 ^ s)) := by rw [h]
    _ = _ := by rw [Nat.mul_add, Nat.mul_left_comm]; omega
  rw [e, Nat.add_mul_div_left _ _ hP]
 have hmod : b1 % 2 ^ s = Y % 2 ^ s := by
  rw [h1]
  exact Nat.mod_mod_of_dvd Y ⟨_, hB⟩
 have hlt : (bi + B * (Y % 2 ^ s)) / 2 ^ s < B := by
  rw [Nat.div_lt_iff_lt_mul hP]
  have h2 := Nat.mod_lt Y hP
  have h3 := Nat.mul_le_mul_left B (show Y % 2 ^ s + 1 ≤ 2 ^ s from h2)
  rw [Nat.mul_add] at h3
  omega
 rw [key Y, key b1, hmod, Nat.add_mul_mod_self_left, Nat.mod_eq_of_lt hlt]
theorem ishr_nat {a k : Nat} (hk : k ≤ 64) : ishr .u64 (a : Int) (k : Int) = ((a / 2 ^ k : Nat) : Int) := by
 unfold ishr
 have : min (k : Int).toNat IntKind.u64.bits = k := by simp [IntKind.bits]; omega
 rw [this, Int.fdiv_eq_ediv_of_nonneg _ (by exact Int.le_of_lt (Int.pow_pos (by decide)))]
 push_cast
 rfl
theorem irem_nat {a b : Nat} : irem (a : Int) (b : Int) = ((a % b : Nat) : Int) := by
 unfold irem; rfl
theorem iquo_nat {a b : Nat} : iquo (a : Int) (b : Int) = ((a / b : Nat) : Int) := by
 unfold iquo; rfl
theorem val_drop_mod {l : List UInt32} (j : Nat) : (l.getD j 0).toNat = val (l.drop j) % B := by
 rcases Nat.lt_or_ge j l.length with h | h
 ·rw [val_drop_cons h, Nat.add_mul_mod_self_left, Nat.mod_eq_of_lt (u32_lt _)]
 ·rw [List.drop_of_length_le h]
  simp [List.getElem?_eq_none h, val]
theorem div_pow_limbs (n k : Nat) : val ((limbs n).drop (k / 32)) / 2 ^ (k % 32) = n / 2 ^ k := by
 have e : val ((limbs n).drop (k / 32)) = n / B ^ (k / 32) := by
  rcases Nat.lt_or_ge (limbs n).length (k / 32) with h | h
  ·rw [List.drop_of_length_le (by omega)]
   have h1 := val_lt (limbs n)
   rw [val_limbs] at h1
   have := Nat.pow_le_pow_right B_pos (Nat.le_of_lt h)
   rw [Nat.div_eq_of_lt (by omega)]; rfl
  ·have h1 := val_drop (l := limbs n) (k / 32) h
   rw [val_limbs] at h1
   have h2 := val_take_lt (limbs n) (k / 32)
   have hB := Nat.pow_pos (n := k / 32) B_pos
   generalize B ^ (k / 32) = M at *
   generalize val ((limbs n).drop (k / 32)) = x at *
   rw [h1, Nat.add_mul_div_left _ _ hB, Nat.div_eq_of_lt h2]
   omega
 rw [e, Nat.div_div_eq_div_mul]
 congr 1
 show (2 ^ 32) ^ (k / 32) * 2 ^ (k % 32) = 2 ^ k
 rw [← Nat.pow_mul, ← Nat.pow_add]
 congr 1
 omega
theorem nx_i64 {z : Int} (h1 : -9223372036854775808 ≤ z) (h2 : z < 9223372036854775808) : nx .i64 z = z := by
 unfold nx
 simp [IntKind.wrap, IntKind.signed, IntKind.bits]
 split <;> omega
theorem hf237 : Pg.funcs[199]? = some Tryz.f199 := by rw [Pg_eq]; rfl
theorem s237 (a : List UInt32) (k : Nat) (ha : a.length < 2^40) (hk : k ≤ 1048576) : SoundS 199 [nat a, .int .i64 (fun _ => (k : Int))] (.tup [nat (limbs (val a / 2 ^ k)), .int .i64 (fun _ => 0)]) := by
 refine sound_fn hf237 rfl rfl rfl rfl rfl ?_
 have ha' := Nat.lt_of_le_of_lt (limbs_length_le' a) ha
 have hdp := div_pow_limbs (val a) k
 have hq : iquo (k : Int) 32 = ((k / 32 : Nat) : Int) := iquo_nat (b := 32)
 have hr : irem (k : Int) 32 = ((k % 32 : Nat) : Int) := irem_nat (b := 32)
 have hni : nx .i64 (iquo (k : Int) 32) = ((k / 32 : Nat) : Int) := by rw [hq, nx_i64 (by omega) (by omega)]
 cbv
 refine br_dec (fun h => om) (fun h => ?_)
 cbv
 refine cut_dec (fun h => om) (fun h => ?_)
 cbv
 refine callS' rfl (by exact ⟨leS_refl _, trivial⟩) (s209 a (by omega)) rfl ?_
 generalize hp : limbs (val a) = p at *
 cbv
 refine ⟨nz_of (by omega), ?_⟩
 refine cut_dec (fun h2 => ?_) (fun h2 => ?_)
 ·cbv
  (try dsimp only [ncast] at *)
  rw [hni] at h2
  refine ret0 rfl ?_ rfl
  refine ⟨leS_nil ?_, leS_refl _, trivial⟩
  rw [List.drop_of_length_le (by rw [lm_length] at h2; omega)] at hdp
  rw [← hdp]
  simp [val, limbs_zero, lm]
 ·(try dsimp only [ncast] at *)
  rw [hni] at h2
  cbv
  have hkl : k / 32 < p.length := om
  refine ⟨nz_of (by omega), slok_of (by (try dsimp only [ncast] at *); rw [hni]; omega) (by (try dsimp only [ncast] at *); rw [hni, lm_length]; omega) (Int.le_refl _), lm_wid p, ?_⟩
  have hsl : ((lm p).take (((lm p).length : Nat) : Int).toNat).drop (nx .i64 (iquo (k : Int) 32)).toNat = lm (p.drop (k / 32)) := by
   rw [hni, Int.toNat_natCast, Int.toNat_natCast, List.take_of_length_le (Nat.le_refl _), lm_drop]
  (try dsimp only [ncast] at *)
  rw [hsl]
  have hbl : (p.drop (k / 32)).length < 2^40 := by rw [List.length_drop]; omega
  generalize p.drop (k / 32) = b at *
  cbv
  refine ⟨room_of om om, mkok_of om om, ?_⟩
  cbv
  refine loop_n (σ := Nat × List UInt32) (fun s => ⟨[(0, nat b), (1, .int .i64 (fun _ => (k : Int))), (6, .osl 29 1 (fun _ => 0) (fun _ => b.length)), (30, nat b), (31, .int .i64 (fun _ => (b.length : Int))), (32, .int .i64 (fun _ => (s.1 : Int)))], [(29, .arr 1 (fun _ => lm s.2))]⟩)
   (fun s => s.1 ≤ b.length ∧ s.2.length = b.length ∧ val (s.2.take s.1) + B ^ s.1 * (val (b.drop s.1) / 2 ^ (k % 32)) = val b / 2 ^ (k % 32)) (fun s => b.length - s.1)
   (0, List.replicate b.length 0) ⟨om, by simp, by simp [val]⟩ (.le ?_ ?_ rfl) ?_
  ·cbv
   exact ⟨leS_refl _, leS_refl _, leS_osl rfl om, leS_refl _, leS_int om, leS_refl _, trivial⟩
  ·cbv
   refine ⟨elsEq_of ?_, trivial⟩
   show List.replicate (((lm b).length : Int)).toNat _ = _
   have : (((lm b).length : Int)).toNat = b.length := by rw [lm_length]; omega
   rw [this]
   simp [lm, mapD, toD]
  intro s hs
  obtain ⟨h1, h3, h4⟩ := hs
  generalize s.1 = i at *
  generalize s.2 = out at *
  cbv
  refine cut_dec (fun h5 => ?_) (fun h5 => ?_)
  ·cbv
   refine idx_lm i om om ?_
   cbv
   have hd := u32_lt (b.getD i 0)
   have hd1 := u32_lt (b.getD (i + 1) 0)
   have hks : k % 32 < 32 := Nat.mod_lt _ (by omega)
   refine ⟨in64_of om om, ?_⟩
   refine cut_meet (σ := Unit) (fun _ => ⟨[(0, nat b), (1, .int .i64 (fun _ => (k : Int))), (6, .osl 29 1 (fun _ => 0) (fun _ => b.length)), (7, .int .i64 (fun _ => (i : Int))), (9, .int .u64 (fun _ => (((b.getD i 0).toNat + 4294967296 * (b.getD (i + 1) 0).toNat : Nat) : Int))), (30, nat b), (31, .int .i64 (fun _ => (b.length : Int))), (32, .int .i64 (fun _ => (i : Int)))], [(29, .arr 1 (fun _ => lm out))]⟩) (fun _ => True) (fun h6 => ?_) (fun h6 => ?_) ?_
   ·cbv
    refine ⟨in64_of om om, idx_lm (i + 1) om om ?_⟩
    cbv
    refine ⟨nn_of (by omega), (), trivial, .le ?_ ?_ rfl⟩
    ·cbv
     refine ⟨leS_refl _, leS_refl _, leS_refl _, leS_refl _, leS_int ?_, leS_refl _, leS_refl _, leS_refl _, trivial⟩
     (try dsimp only [ncast] at *)
     rw [nx_nat (n := (b.getD i 0).toNat) (by simp only [B] at hd; omega)]
     exact or2 hd hd1
    ·cbv
     exact ⟨elsEq_of rfl, trivial⟩
   ·cbv
    refine ⟨(), trivial, .le ?_ ?_ rfl⟩
    ·cbv
     refine ⟨leS_refl _, leS_refl _, leS_refl _, leS_refl _, leS_int ?_, leS_refl _, leS_refl _, leS_refl _, trivial⟩
     have : (b.getD (i + 1) 0).toNat = 0 := by
      have : b.length ≤ i + 1 := om
      simp [List.getElem?_eq_none this]
     (try dsimp only [ncast] at *)
     rw [nx_nat (n := (b.getD i 0).toNat) (by simp only [B] at hd; omega), this]
     rfl
    ·cbv
     exact ⟨elsEq_of rfl, trivial⟩
   intro _ _
   have hY : (b.getD (i + 1) 0).toNat = val (b.drop (i + 1)) % B := val_drop_mod _
   have hX := val_drop_cons (l := b) (i := i) om
   have hst := shr_step (bi := (b.getD i 0).toNat) hks hd hY
   rw [← hX] at hst
   generalize hw : (b.getD i 0).toNat + 4294967296 * (b.getD (i + 1) 0).toNat = w at *
   have hw' : (b.getD i 0).toNat + B * (b.getD (i + 1) 0).toNat = w := hw
   rw [hw'] at hst
   cbv
   refine ⟨nz_of (by omega), nn_of (by (try dsimp only [ncast] at *); rw [hr]; omega), rng_of om om, el_lm i (by simp) om ?_⟩
   cbv
   refine ⟨in64_of om om, (i + 1, out.set i (UInt32.ofNat (w / 2 ^ (k % 32)))), ⟨om, by simpa using h3, ?_⟩, om, .le ?_ ?_ rfl⟩
   ·show val ((out.set i _).take (i + 1)) + B ^ (i + 1) * _ = _
    rw [val_set_take _ om, u32_mod, ← h4, hst, Nat.mul_add, Nat.pow_succ, Nat.mul_assoc, Nat.add_assoc]
   ·cbv
    exact ⟨leS_refl _, leS_refl _, leS_refl _, leS_refl _, leS_refl _, leS_int om, trivial⟩
   ·cbv
    refine ⟨elsEq_of ?_, trivial⟩
    have e : ishr .u64 (w : Int) (irem (k : Int) 32) = ((w / 2 ^ (k % 32) : Nat) : Int) := by rw [hr]; exact ishr_nat (by omega)
    show (lm out).set (0 + (i : Int).toNat) [.int .u32 (nx .u32 (ishr .u64 (w : Int) (irem (k : Int) 32)))] = _
    rw [e]
    exact lm_set_nx out (by simp) _
  ·cbv
   have hi : i = b.length := om
   subst hi
   refine callW (.trans (.le (ps' := ⟨[(62, .osl 29 1 (fun _ => 0) (fun _ => b.length))], [(29, .arr 1 (fun _ => lm out))]⟩) ?_ ?_ rfl) (.frz 29 rfl rfl ?_ ?_)) rfl (by refine ⟨leS_sl ?_, trivial⟩; exact List.take_of_length_le (by simp [lm_length] <;> omega)) (s209 out (by omega)) rfl ?_
   ·cbv
    exact ⟨leS_refl _, trivial⟩
   ·cbv
    exact ⟨elsEq_of rfl, trivial⟩
   ·cbv
    exact ⟨frok_of (by simp [lm_length] <;> omega), trivial⟩
   ·exact trivial
   cbv
   refine ret0 rfl ?_ rfl
   refine ⟨leS_sl ?_, leS_refl _, trivial⟩
   rw [List.take_of_length_le (by omega), List.drop_of_length_le (Nat.le_refl _)] at h4
   congr 2
   rw [← hdp, ← h4]
   simp [val]
end Go.Proofs.YtcanljninhfmhaaGreat
