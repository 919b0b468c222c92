/- CONTRACTS: natural, part E: left (a shift by less than a limb). -/
import Derived.Test.YtbehbhicjmjdhaaGreatQ13
import Derived.Test.YtbehbhicjmjdhaaGreatQ14

namespace Go.Proofs.YtbehbhicjmjdhaaGreat
open Go
set_option linter.unusedVariables false
set_option maxRecDepth 100000

theorem ior_or {a b : Nat} (ha : a < 4294967296) (hb : b < 4294967296) : ior .u32 (a : Int) (b : Int) = ((a ||| b : Nat) : Int) := by
  unfold ior
  have h1 : a ||| b < 2 ^ 32 := Nat.or_lt_two_pow ha hb
  have key : (BitVec.ofInt 32 (a : Int) ||| BitVec.ofInt 32 (b : Int)).toNat = a ||| b := by
    rw [BitVec.toNat_or, BitVec.ofInt_natCast, BitVec.ofInt_natCast, BitVec.toNat_ofNat, BitVec.toNat_ofNat, Nat.mod_eq_of_lt (show a < 2 ^ 32 from ha), Nat.mod_eq_of_lt (show b < 2 ^ 32 from hb)]
  show IntKind.u32.wrap ((BitVec.ofInt 32 (a : Int) ||| BitVec.ofInt 32 (b : Int)).toNat : Int) = _
  rw [key]
  have := nx_u32 ((a ||| b : Nat) : Int)
  unfold nx at this
  rw [this]
  omega
theorem or_add {a k c : Nat} (ha : a < 2 ^ k) : a ||| (2 ^ k * c) = a + 2 ^ k * c := by
  rw [Nat.or_comm, Nat.add_comm, Nat.two_pow_add_eq_or_of_lt ha]
theorem ishl_nat {a k : Nat} (hk : k < 64) (h : a * 2 ^ k < 18446744073709551616) : ishl .u64 (a : Int) (k : Int) = ((a * 2 ^ k : Nat) : Int) := by
  unfold ishl
  have := nx_u64 ((a * 2 ^ k : Nat) : Int)
  unfold nx at this
  have e : ((a : Int) * 2 ^ (min (k : Int).toNat IntKind.u64.bits)) = ((a * 2 ^ k : Nat) : Int) := by
    have : min (k : Int).toNat IntKind.u64.bits = k := by simp [IntKind.bits]; omega
    rw [this]
    push_cast
    rfl
  rw [e, this]
  omega
theorem el_lm' {els : List (List D)} {l : List UInt32} (he : els = lm l) {i : Nat} {K : List PV → Prop} (j : Nat) (hk : i = j) (hj : j < l.length) (hK : K [.int .u32 (fun _ => ((l.getD j 0).toNat : Int))]) : ElOk 1 (fun _ => els) (fun _ => i) K := by
  subst he; exact el_lm j hk hj hK
theorem hf234 : Pg.funcs[114]? = some Tryz.f114 := by rw [Pg_eq]; rfl
theorem s234 (a : List UInt32) (k : Nat) (ha : a.length < 2^40) (hk : k < 32) : Sound 114 [nat a, .int .i64 (fun _ => (k : Int))] [] [] (.osl 12 1 (fun _ => 0) (fun _ => a.length + 1)) [] [(12, .arr 1 (fun _ => lm (pad (val a * 2 ^ k) (a.length + 1))))] := by
  refine sound_fn hf234 rfl rfl rfl rfl rfl ?_
  cbv
  refine ⟨in64_of (by (try dsimp only [ncast] at *) <;> (try simp only [lm_length] at *) <;> omega) (by (try dsimp only [ncast] at *) <;> (try simp only [lm_length] at *) <;> omega), room_of (by (try dsimp only [ncast] at *) <;> (try simp only [lm_length] at *) <;> omega) (by (try dsimp only [ncast] at *) <;> (try simp only [lm_length] at *) <;> omega), mkok_of (by (try dsimp only [ncast] at *) <;> (try simp only [lm_length] at *) <;> omega) (by (try dsimp only [ncast] at *) <;> (try simp only [lm_length] at *) <;> omega), ?_⟩
  cbv
  refine loop_n (σ := Nat × List UInt32) (fun s => ⟨[(0, nat a), (1, .int .i64 (fun _ => (k : Int))), (5, .osl 12 1 (fun _ => 0) (fun _ => a.length + 1)), (13, nat a), (14, .int .i64 (fun _ => (a.length : Int))), (15, .int .i64 (fun _ => (s.1 : Int)))], [(12, .arr 1 (fun _ => lm s.2))]⟩)
    (fun s => s.1 ≤ a.length ∧ s.2.length = a.length + 1 ∧ val s.2 = val (a.take s.1) * 2 ^ k ∧ (s.2.getD s.1 0).toNat < 2 ^ k ∧ ∀ j, s.1 < j → s.2.getD j 0 = 0) (fun s => a.length - s.1)
    (0, List.replicate (a.length + 1) 0) ⟨(by (try dsimp only [ncast] at *) <;> (try simp only [lm_length] at *) <;> omega), by simp, by simp [val, val_zeros], by simp; exact Nat.pow_pos (by omega), fun j _ => by simp only [List.getD_eq_getElem?_getD, List.getElem?_replicate]; split <;> rfl⟩ (.le ?_ ?_ rfl) ?_
  · cbv
    exact ⟨leS_refl _, leS_refl _, leS_osl rfl (by (try dsimp only [ncast] at *) <;> (try simp only [lm_length] at *) <;> omega), leS_refl _, leS_int (by (try dsimp only [ncast] at *) <;> (try simp only [lm_length] at *) <;> omega), leS_refl _, trivial⟩
  · cbv
    refine ⟨elsEq_of ?_, trivial⟩
    show List.replicate (((lm a).length : Int) + 1).toNat _ = _
    have : (((lm a).length : Int) + 1).toNat = a.length + 1 := by rw [lm_length]; omega
    rw [this]
    simp [lm, mapD, toD]
  intro s hs
  obtain ⟨h1, h2, h3, h3', h4⟩ := hs
  generalize s.1 = i at *
  generalize s.2 = out at *
  cbv
  refine cut_dec (fun h5 => ?_) (fun h5 => ?_)
  · cbv
    refine idx_lm i (by (try dsimp only [ncast] at *) <;> (try simp only [lm_length] at *) <;> omega) (by (try dsimp only [ncast] at *) <;> (try simp only [lm_length] at *) <;> omega) ?_
    cbv
    refine ⟨nn_of (by (try dsimp only [ncast] at *) <;> (try simp only [lm_length] at *) <;> omega), rng_of (by (try dsimp only [ncast] at *) <;> (try simp only [lm_length] at *) <;> omega) (by (try dsimp only [ncast] at *) <;> (try simp only [lm_length] at *) <;> omega), el_lm i (by simp) (by (try dsimp only [ncast] at *) <;> (try simp only [lm_length] at *) <;> omega) ?_⟩
    cbv
    refine ⟨rng_of (by (try dsimp only [ncast] at *) <;> (try simp only [lm_length] at *) <;> omega) (by (try dsimp only [ncast] at *) <;> (try simp only [lm_length] at *) <;> omega), el_lm i (by simp) (by (try dsimp only [ncast] at *) <;> (try simp only [lm_length] at *) <;> omega) ?_⟩
    cbv
    have hd := u32_lt (a.getD i 0)
    have ho := u32_lt (out.getD i 0)
    generalize hdd : (a.getD i 0).toNat = d at *
    generalize hoo : (out.getD i 0).toNat = o at *
    have hB : B = 4294967296 := rfl
    have hx : d * 2 ^ k < 4294967296 * 4294967296 := Nat.mul_lt_mul'' (by omega) (Nat.pow_lt_pow_right (by omega) hk)
    have hT : ishl .u64 (nx .u64 (d : Int)) (k : Int) = ((d * 2 ^ k : Nat) : Int) := by
      rw [nx_nat (by omega), ishl_nat (by omega) (by omega)]
    have hmod : ∃ c, (d * 2 ^ k) % B = 2 ^ k * c := by
      have hB2 : B = 2 ^ k * 2 ^ (32 - k) := by rw [← Nat.pow_add]; have : k + (32 - k) = 32 := by omega
                                                rw [this]; rfl
      rw [hB2, Nat.mul_comm d, Nat.mul_mod_mul_left]
      exact ⟨_, rfl⟩
    obtain ⟨e, he⟩ := hmod
    have hml : (d * 2 ^ k) % B < B := Nat.mod_lt _ B_pos
    have hw : o + (d * 2 ^ k) % B < B := by
      rw [he, ← or_add h3']
      exact Nat.or_lt_two_pow (n := 32) ho (by rw [← he]; exact hml)
    have hW : ior .u32 (o : Int) (nx .u32 (ishl .u64 (nx .u64 (d : Int)) (k : Int))) = ((o + (d * 2 ^ k) % B : Nat) : Int) := by
      have h8 : nx .u32 ((d * 2 ^ k : Nat) : Int) = (((d * 2 ^ k) % B : Nat) : Int) := by rw [nx_u32, hB]; omega
      rw [hT, h8, ior_or ho hml, he, or_add h3']
    have hset1 := val_set out (j := i) (by (try dsimp only [ncast] at *) <;> (try simp only [lm_length] at *) <;> omega) (UInt32.ofNat (o + (d * 2 ^ k) % B))
    have hels : (lm out).set (0 + (i : Int).toNat) [.int .u32 (ior .u32 (o : Int) (nx .u32 (ishl .u64 (nx .u64 (d : Int)) (k : Int))))] = lm (out.set i (UInt32.ofNat (o + (d * 2 ^ k) % B))) := by
      rw [hW]; exact lm_set_to out (by simp) rfl hw
    have hlen1 : (out.set i (UInt32.ofNat (o + (d * 2 ^ k) % B))).length = a.length + 1 := by simpa using h2
    have hi1 : 0 + ((i : Int) + 1).toNat = i + 1 := by omega
    generalize hout1 : out.set i (UInt32.ofNat (o + (d * 2 ^ k) % B)) = out1 at *
    refine ⟨in64_of (by (try dsimp only [ncast] at *) <;> (try simp only [lm_length] at *) <;> omega) (by (try dsimp only [ncast] at *) <;> (try simp only [lm_length] at *) <;> omega), nn_of (by omega), rng_of (by (try dsimp only [ncast] at *) <;> (try simp only [lm_length] at *) <;> omega) (by (try dsimp only [ncast] at *) <;> (try simp only [lm_length] at *) <;> omega), el_lm' hels (i + 1) hi1 (by (try dsimp only [ncast] at *) <;> (try simp only [lm_length] at *) <;> omega) ?_⟩
    cbv
    have hz1 : out1.getD (i + 1) 0 = 0 := by rw [← hout1, getD_set_u _ _ _ _ (by omega)]; exact h4 _ (by omega)
    have hset2 := val_set out1 (j := i + 1) (by (try dsimp only [ncast] at *) <;> (try simp only [lm_length] at *) <;> omega) (UInt32.ofNat (d * 2 ^ k / B))
    have hq : d * 2 ^ k / B < 2 ^ k := by
      rw [Nat.div_lt_iff_lt_mul B_pos, Nat.mul_comm]
      exact Nat.mul_lt_mul_of_pos_left hd (Nat.pow_pos (by omega))
    have hqB : d * 2 ^ k / B < B := Nat.lt_trans hq (show 2 ^ k < 2 ^ 32 from Nat.pow_lt_pow_right (by omega) hk)
    refine ⟨in64_of (by (try dsimp only [ncast] at *) <;> (try simp only [lm_length] at *) <;> omega) (by (try dsimp only [ncast] at *) <;> (try simp only [lm_length] at *) <;> omega), (i + 1, out1.set (i + 1) (UInt32.ofNat (d * 2 ^ k / B))), ⟨(by (try dsimp only [ncast] at *) <;> (try simp only [lm_length] at *) <;> omega), by simpa using hlen1, ?_, ?_, ?_⟩, (by (try dsimp only [ncast] at *) <;> (try simp only [lm_length] at *) <;> omega), .le ?_ ?_ rfl⟩
    · show val (out1.set (i + 1) _) = val (a.take (i + 1)) * 2 ^ k
      rw [val_take_getD a, hdd, Nat.add_mul, ← h3, Nat.mul_assoc]
      rw [hz1, u32_mod, Nat.mod_eq_of_lt hqB] at hset2
      rw [u32_mod, Nat.mod_eq_of_lt hw] at hset1
      have e1 : B ^ i * ((d * 2 ^ k) % B) + B ^ (i + 1) * (d * 2 ^ k / B) = B ^ i * (d * 2 ^ k) := by
        rw [Nat.pow_succ, Nat.mul_assoc, ← Nat.mul_add, Nat.mod_add_div]
      rw [Nat.mul_add (B ^ i) o, hoo] at hset1
      simp only [UInt32.toNat_zero, Nat.mul_zero, Nat.add_zero] at hset2
      omega
    · show ((out1.set (i + 1) _).getD (i + 1) 0).toNat < 2 ^ k
      have : (out1.set (i + 1) (UInt32.ofNat (d * 2 ^ k / B))).getD (i + 1) 0 = UInt32.ofNat (d * 2 ^ k / B) := by
        have : i + 1 < out1.length := (by (try dsimp only [ncast] at *) <;> (try simp only [lm_length] at *) <;> omega)
        simp [this]
      rw [this, u32_mod, Nat.mod_eq_of_lt hqB]
      exact hq
    · intro j hj
      show (out1.set (i + 1) _).getD j 0 = 0
      have hj' : i + 1 < j := hj
      rw [getD_set_u _ _ _ _ (by omega), ← hout1, getD_set_u _ _ _ _ (by omega)]
      exact h4 j (by omega)
    · cbv
      exact ⟨leS_refl _, leS_refl _, leS_refl _, leS_refl _, leS_refl _, leS_int (by (try dsimp only [ncast] at *) <;> (try simp only [lm_length] at *) <;> omega), trivial⟩
    · cbv
      refine ⟨elsEq_of ?_, trivial⟩
      show ((lm out).set (0 + (i : Int).toNat) [.int .u32 (ior .u32 (o : Int) (nx .u32 (ishl .u64 (nx .u64 (d : Int)) (k : Int))))]).set (0 + ((i : Int) + 1).toNat) [.int .u32 (nx .u32 (ishr .u64 (ishl .u64 (nx .u64 (d : Int)) (k : Int)) 32))] = _
      rw [hels, hT, ishr32]
      exact lm_set_nx out1 hi1 _
  · cbv
    have hip : i = a.length := (by (try dsimp only [ncast] at *) <;> (try simp only [lm_length] at *) <;> omega)
    subst hip
    rw [List.take_of_length_le (Nat.le_refl _)] at h3
    refine ⟨⟨_, _, id, .refl _, rfl, les_le (leS_refl _), rfl, ?_, rfl, trivial⟩⟩
    exact ⟨⟨by rw [pad_of h2 h3]; rfl, rfl⟩, trivial⟩
end Go.Proofs.YtbehbhicjmjdhaaGreat
