/- CONTRACTS: natural, part C: Sub. * CONTRACTS: natural, part D: Mul. -/
import Derived.Test.YtbehbhicjmjdhaaGreatQ12

namespace Go.Proofs.YtbehbhicjmjdhaaGreat
open Go
set_option linter.unusedVariables false
set_option maxRecDepth 100000

theorem lm_set_to (out : List UInt32) {k j : Nat} (hk : k = j) {z : Int} {w : Nat} (hz : z = (w : Int)) (hw : w < B) : (lm out).set k [.int .u32 z] = lm (out.set j (UInt32.ofNat w)) := by
  subst hk hz
  rw [← lm_set, u32_mod, Nat.mod_eq_of_lt hw]
theorem ishr63 (z : Int) : ishr .u64 z 63 = z / 9223372036854775808 := by
  unfold ishr
  simp [IntKind.bits, Int.fdiv_eq_ediv_of_nonneg]

theorem hf222 : Pg.funcs[83]? = some Tryz.f83 := by rw [Pg_eq]; rfl
theorem s222 (a b : List UInt32) (ha : a.length < 2^40) (hb : b.length < 2^40) : SoundS 83 [nat a, nat b] (.tup [nat (limbs (val a - val b)), .int .i64 (fun _ => if val b ≤ val a then 0 else 2)]) := by
  refine sound_fn hf222 rfl rfl rfl rfl rfl ?_
  cbv
  refine callS' rfl (by exact ⟨leS_refl _, trivial⟩) (s209 a (by omega)) rfl ?_
  cbv
  refine callS' rfl (by exact ⟨leS_refl _, trivial⟩) (s209 b (by omega)) rfl ?_
  cbv
  have ha' := Nat.lt_of_le_of_lt (limbs_length_le' a) ha
  have hb' := Nat.lt_of_le_of_lt (limbs_length_le' b) hb
  refine callS' rfl (by exact ⟨leS_refl _, leS_refl _, trivial⟩) (s162 _ _ ha' hb') rfl ?_
  cbv
  simp only [val_limbs]
  refine cut_dec (fun h => ?_) (fun h => ?_)
  · have h' : val a < val b := by
      rcases Nat.lt_trichotomy (val a) (val b) with h1 | h1 | h1
      · exact h1
      · rw [h1, cmpI_eq] at h; omega
      · rw [cmpI_gt h1] at h; omega
    cbv
    refine ret0 rfl ?_ rfl
    refine ⟨leS_nil ?_, leS_int ?_, trivial⟩
    · rw [Nat.sub_eq_zero_of_le (by omega), limbs_zero]; rfl
    · rw [if_neg (by omega)]
  have hle : val b ≤ val a := by
    rcases Nat.lt_or_ge (val a) (val b) with h1 | h1
    · rw [cmpI_lt h1] at h; omega
    · exact h1
  have hv : val (limbs (val a)) = val a := val_limbs _
  have hv2 : val (limbs (val b)) = val b := val_limbs _
  have hpq : (limbs (val b)).length ≤ (limbs (val a)).length := by
    rcases Nat.lt_or_ge (limbs (val a)).length (limbs (val b)).length with h1 | h1
    · have := cmp_len h1; omega
    · exact h1
  generalize limbs (val a) = p at *
  generalize limbs (val b) = q at *
  cbv
  refine ⟨room_of (by (try dsimp only [ncast] at *) <;> (try simp only [lm_length] at *) <;> omega) (by (try dsimp only [ncast] at *) <;> (try simp only [lm_length] at *) <;> omega), mkok_of (by (try dsimp only [ncast] at *) <;> (try simp only [lm_length] at *) <;> omega) (by (try dsimp only [ncast] at *) <;> (try simp only [lm_length] at *) <;> omega), ?_⟩
  cbv
  refine loop_n (σ := Nat × Nat × List UInt32) (fun s => ⟨[(0, nat p), (1, nat q), (6, .osl 21 1 (fun _ => 0) (fun _ => p.length)), (7, .int .u64 (fun _ => (s.2.1 : Int))), (22, nat p), (23, .int .i64 (fun _ => (p.length : Int))), (24, .int .i64 (fun _ => (s.1 : Int)))], [(21, .arr 1 (fun _ => lm s.2.2))]⟩)
    (fun s => s.1 ≤ p.length ∧ s.2.1 < 2 ∧ s.2.2.length = p.length ∧ val (s.2.2.take s.1) + val (q.take s.1) = val (p.take s.1) + B ^ s.1 * s.2.1) (fun s => p.length - s.1)
    (0, 0, List.replicate p.length 0) ⟨(by (try dsimp only [ncast] at *) <;> (try simp only [lm_length] at *) <;> omega), (by (try dsimp only [ncast] at *) <;> (try simp only [lm_length] at *) <;> omega), by simp, by simp [val]⟩ (.le ?_ ?_ rfl) ?_
  · cbv
    exact ⟨leS_refl _, leS_refl _, leS_osl rfl (by (try dsimp only [ncast] at *) <;> (try simp only [lm_length] at *) <;> omega), leS_refl _, leS_refl _, leS_int (by (try dsimp only [ncast] at *) <;> (try simp only [lm_length] at *) <;> omega), leS_refl _, trivial⟩
  · cbv
    refine ⟨elsEq_of ?_, trivial⟩
    show List.replicate (((lm p).length : Int)).toNat _ = _
    have : (((lm p).length : Int)).toNat = p.length := by rw [lm_length]; omega
    rw [this]
    simp [lm, mapD, toD]
  intro s hs
  obtain ⟨h1, h2, h3, h4⟩ := hs
  generalize s.1 = i at *
  generalize s.2.1 = c at *
  generalize s.2.2 = out at *
  cbv
  refine cut_dec (fun h5 => ?_) (fun h5 => ?_)
  · cbv
    refine idx_lm i (by (try dsimp only [ncast] at *) <;> (try simp only [lm_length] at *) <;> omega) (by (try dsimp only [ncast] at *) <;> (try simp only [lm_length] at *) <;> omega) ?_
    cbv
    have hpi := u32_lt (p.getD i 0)
    have hqi := u32_lt (q.getD i 0)
    simp only [B] at hpi hqi
    refine cut_meet (σ := Unit) (fun _ => ⟨[(0, nat p), (1, nat q), (6, .osl 21 1 (fun _ => 0) (fun _ => p.length)), (10, .int .u64 (fun _ => nx .u64 (((p.getD i 0).toNat : Int) - (c : Int) - ((q.getD i 0).toNat : Int)))), (8, .int .i64 (fun _ => (i : Int))), (22, nat p), (23, .int .i64 (fun _ => (p.length : Int))), (24, .int .i64 (fun _ => (i : Int)))], [(21, .arr 1 (fun _ => lm out))]⟩) (fun _ => True) (fun h6 => ?_) (fun h6 => ?_) ?_
    · cbv
      refine idx_lm i (by (try dsimp only [ncast] at *) <;> (try simp only [lm_length] at *) <;> omega) (by (try dsimp only [ncast] at *) <;> (try simp only [lm_length] at *) <;> omega) ?_
      cbv
      refine ⟨(), trivial, .le ?_ ?_ rfl⟩
      · cbv
        refine ⟨leS_refl _, leS_refl _, leS_refl _, leS_int ?_, leS_refl _, leS_refl _, leS_refl _, leS_refl _, trivial⟩
        (try dsimp only [ncast] at *)
        simp only [nx_u64]
        omega
      · cbv
        exact ⟨elsEq_of rfl, trivial⟩
    · cbv
      refine ⟨(), trivial, .le ?_ ?_ rfl⟩
      · cbv
        refine ⟨leS_refl _, leS_refl _, leS_refl _, leS_int ?_, leS_refl _, leS_refl _, leS_refl _, leS_refl _, trivial⟩
        have : (q.getD i 0).toNat = 0 := by
          have : q.length ≤ i := (by (try dsimp only [ncast] at *) <;> (try simp only [lm_length] at *) <;> omega)
          simp [List.getElem?_eq_none this]
        (try dsimp only [ncast] at *)
        simp only [nx_u64]
        omega
      · cbv
        exact ⟨elsEq_of rfl, trivial⟩
    intro _ _
    obtain ⟨w, c', hw, hc', he⟩ : ∃ w c' : Nat, w < B ∧ c' < 2 ∧ (p.getD i 0).toNat + B * c' = w + c + (q.getD i 0).toNat := by
      simp only [B]
      by_cases hlt : (p.getD i 0).toNat < c + (q.getD i 0).toNat
      · exact ⟨(p.getD i 0).toNat + 4294967296 - c - (q.getD i 0).toNat, 1, by omega, by omega, by omega⟩
      · exact ⟨(p.getD i 0).toNat - c - (q.getD i 0).toNat, 0, by omega, by omega, by omega⟩
    have hz : nx .u64 (((p.getD i 0).toNat : Int) - (c : Int) - ((q.getD i 0).toNat : Int)) = if c' = 0 then (w : Int) else (w : Int) + 18446744069414584320 := by
      rw [nx_u64]
      simp only [B] at *
      split <;> omega
    simp only [hz]
    cbv
    refine ⟨rng_of (by (try dsimp only [ncast] at *) <;> (try simp only [lm_length] at *) <;> omega) (by (try dsimp only [ncast] at *) <;> (try simp only [lm_length] at *) <;> omega), el_lm i (by simp) (by (try dsimp only [ncast] at *) <;> (try simp only [lm_length] at *) <;> omega) ?_⟩
    cbv
    refine ⟨nn_of (by omega), in64_of (by (try dsimp only [ncast] at *) <;> (try simp only [lm_length] at *) <;> omega) (by (try dsimp only [ncast] at *) <;> (try simp only [lm_length] at *) <;> omega), (i + 1, c', out.set i (UInt32.ofNat w)), ⟨(by (try dsimp only [ncast] at *) <;> (try simp only [lm_length] at *) <;> omega), hc', by simpa using h3, ?_⟩, (by (try dsimp only [ncast] at *) <;> (try simp only [lm_length] at *) <;> omega), .le ?_ ?_ rfl⟩
    · show val ((out.set i (UInt32.ofNat w)).take (i + 1)) + val (q.take (i + 1)) = val (p.take (i + 1)) + B ^ (i + 1) * c'
      rw [val_set_take _ (by (try dsimp only [ncast] at *) <;> (try simp only [lm_length] at *) <;> omega), val_take_getD p, val_take_getD q, u32_mod, Nat.mod_eq_of_lt hw]
      have e1 : B ^ i * (p.getD i 0).toNat + B ^ (i + 1) * c' = B ^ i * w + B ^ i * c + B ^ i * (q.getD i 0).toNat := by
        rw [Nat.pow_succ, Nat.mul_assoc, ← Nat.mul_add, he, Nat.mul_add, Nat.mul_add]
      omega
    · cbv
      refine ⟨leS_refl _, leS_refl _, leS_refl _, leS_int ?_, leS_refl _, leS_refl _, leS_int (by (try dsimp only [ncast] at *) <;> (try simp only [lm_length] at *) <;> omega), trivial⟩
      rw [ishr63]
      show (if c' = 0 then (w : Int) else (w : Int) + 18446744069414584320) / 9223372036854775808 = (c' : Int)
      simp only [B] at hw
      split <;> omega
    · cbv
      refine ⟨elsEq_of (lm_set_to out (by simp) ?_ hw), trivial⟩
      show nx .u32 (if c' = 0 then (w : Int) else (w : Int) + 18446744069414584320) = (w : Int)
      rw [nx_u32]
      simp only [B] at hw
      split <;> omega
  · cbv
    have hi : i = p.length := (by (try dsimp only [ncast] at *) <;> (try simp only [lm_length] at *) <;> omega)
    subst hi
    refine callW (.trans (.le (ps' := ⟨[(52, .osl 21 1 (fun _ => 0) (fun _ => p.length))], [(21, .arr 1 (fun _ => lm out))]⟩) ?_ ?_ rfl) (.frz 21 rfl rfl ?_ ?_)) rfl (by refine ⟨leS_sl ?_, trivial⟩; exact List.take_of_length_le (by simp [lm_length] <;> omega)) (s209 out (by omega)) rfl ?_
    · cbv
      exact ⟨leS_refl _, trivial⟩
    · cbv
      exact ⟨elsEq_of rfl, trivial⟩
    · cbv
      exact ⟨frok_of (by simp [lm_length] <;> omega), trivial⟩
    · exact trivial
    cbv
    refine ret0 rfl ?_ rfl
    rw [List.take_of_length_le (by omega), List.take_of_length_le hpq, List.take_of_length_le (Nat.le_refl _)] at h4
    have hlo := val_lt out
    have hlq := val_lt q
    have hc0 : c = 0 := by
      rcases Nat.eq_zero_or_pos c with h6 | h6
      · exact h6
      · exfalso
        have : c = 1 := by omega
        subst this
        rw [h3] at hlo
        omega
    subst hc0
    refine ⟨leS_sl ?_, leS_int ?_, trivial⟩
    · congr 2; omega
    · rw [if_pos hle]
end Go.Proofs.YtbehbhicjmjdhaaGreat

namespace Go.Proofs.YtbehbhicjmjdhaaGreat
open Go
set_option linter.unusedVariables false
set_option maxRecDepth 100000

theorem nx_nat {n : Nat} (h : n < 18446744073709551616) : nx .u64 (n : Int) = (n : Int) := by rw [nx_u64]; omega
theorem ty34' : True := trivial

theorem hf194 : Pg.funcs[53]? = some Tryz.f53 := by rw [Pg_eq]; rfl
theorem s194 (a b : List UInt32) (ha : a.length < 2^40) (hb : b.length < 2^40) : SoundS 53 [nat a, nat b] (nat (limbs (val a * val b))) := by
  refine sound_fn hf194 rfl rfl rfl rfl rfl ?_
  cbv
  refine callS' rfl (by exact ⟨leS_refl _, trivial⟩) (s209 a (by omega)) rfl ?_
  cbv
  refine callS' rfl (by exact ⟨leS_refl _, trivial⟩) (s209 b (by omega)) rfl ?_
  cbv
  have ha' := Nat.lt_of_le_of_lt (limbs_length_le' a) ha
  have hb' := Nat.lt_of_le_of_lt (limbs_length_le' b) hb
  have hv : val (limbs (val a)) = val a := val_limbs _
  have hv2 : val (limbs (val b)) = val b := val_limbs _
  generalize limbs (val a) = p at *
  generalize limbs (val b) = q at *
  -- one of them is empty
  refine br_dec (fun h => ?_) (fun h => ?_)
  · cbv
    refine ret0 rfl ?_ rfl
    refine leS_nil ?_
    have : p = [] := List.eq_nil_of_length_eq_zero (by (try dsimp only [ncast] at *) <;> (try simp only [lm_length] at *) <;> omega)
    subst this
    rw [← hv]
    simp [val, limbs_zero, lm]
  cbv
  refine cut_dec (fun h' => ?_) (fun h' => ?_)
  · cbv
    refine ret0 rfl ?_ rfl
    refine leS_nil ?_
    have : q = [] := List.eq_nil_of_length_eq_zero (by (try dsimp only [ncast] at *) <;> (try simp only [lm_length] at *) <;> omega)
    subst this
    rw [← hv2]
    simp [val, limbs_zero, lm]
  cbv
  refine ⟨in64_of (by (try dsimp only [ncast] at *) <;> (try simp only [lm_length] at *) <;> omega) (by (try dsimp only [ncast] at *) <;> (try simp only [lm_length] at *) <;> omega), room_of (by (try dsimp only [ncast] at *) <;> (try simp only [lm_length] at *) <;> omega) (by (try dsimp only [ncast] at *) <;> (try simp only [lm_length] at *) <;> omega), mkok_of (by (try dsimp only [ncast] at *) <;> (try simp only [lm_length] at *) <;> omega) (by (try dsimp only [ncast] at *) <;> (try simp only [lm_length] at *) <;> omega), ?_⟩
  cbv
  refine loop_n (σ := Nat × List UInt32) (fun s => ⟨[(0, nat p), (1, nat q), (5, .osl 28 1 (fun _ => 0) (fun _ => p.length + q.length)), (29, nat p), (30, .int .i64 (fun _ => (p.length : Int))), (31, .int .i64 (fun _ => (s.1 : Int)))], [(28, .arr 1 (fun _ => lm s.2))]⟩)
    (fun s => s.1 ≤ p.length ∧ s.2.length = p.length + q.length ∧ val s.2 = val (p.take s.1) * val q ∧ ∀ j, s.1 + q.length ≤ j → s.2.getD j 0 = 0) (fun s => p.length - s.1)
    (0, List.replicate (p.length + q.length) 0) ⟨(by (try dsimp only [ncast] at *) <;> (try simp only [lm_length] at *) <;> omega), by simp, by simp [val, val_zeros], fun j _ => by simp only [List.getD_eq_getElem?_getD, List.getElem?_replicate]; split <;> rfl⟩ (.le ?_ ?_ rfl) ?_
  · cbv
    exact ⟨leS_refl _, leS_refl _, leS_osl rfl (by (try dsimp only [ncast] at *) <;> (try simp only [lm_length] at *) <;> omega), leS_refl _, leS_int (by (try dsimp only [ncast] at *) <;> (try simp only [lm_length] at *) <;> omega), leS_refl _, trivial⟩
  · cbv
    refine ⟨elsEq_of ?_, trivial⟩
    show List.replicate (((lm p).length : Int) + ((lm q).length : Int)).toNat _ = _
    have : (((lm p).length : Int) + ((lm q).length : Int)).toNat = p.length + q.length := by rw [lm_length, lm_length]; omega
    rw [this]
    simp [lm, mapD, toD]
  intro s hs
  obtain ⟨h1, h2, h3, h4⟩ := hs
  generalize s.1 = i at *
  generalize s.2 = out at *
  cbv
  refine cut_dec (fun h5 => ?_) (fun h5 => ?_)
  · cbv
    refine idx_lm i (by (try dsimp only [ncast] at *) <;> (try simp only [lm_length] at *) <;> omega) (by (try dsimp only [ncast] at *) <;> (try simp only [lm_length] at *) <;> omega) ?_
    cbv
    have hx := u32_lt (p.getD i 0)
    generalize hpx : (p.getD i 0).toNat = x at *
    refine loop_n (σ := Nat × Nat × List UInt32) (fun s => ⟨[(0, nat p), (1, nat q), (5, .osl 28 1 (fun _ => 0) (fun _ => p.length + q.length)), (29, nat p), (30, .int .i64 (fun _ => (p.length : Int))), (31, .int .i64 (fun _ => (i : Int))), (6, .int .i64 (fun _ => (i : Int))), (7, .int .u32 (fun _ => (x : Int))), (8, .int .u64 (fun _ => (s.2.1 : Int))), (36, nat q), (37, .int .i64 (fun _ => (q.length : Int))), (38, .int .i64 (fun _ => (s.1 : Int)))], [(28, .arr 1 (fun _ => lm s.2.2))]⟩)
      (fun s => s.1 ≤ q.length ∧ s.2.1 < B ∧ s.2.2.length = p.length + q.length ∧ val s.2.2 + B ^ (i + s.1) * s.2.1 = val (p.take i) * val q + B ^ i * (x * val (q.take s.1)) ∧ ∀ j, i + q.length ≤ j → s.2.2.getD j 0 = 0) (fun s => q.length - s.1)
      (0, 0, out) ⟨(by (try dsimp only [ncast] at *) <;> (try simp only [lm_length] at *) <;> omega), B_pos, h2, by simp [val, h3], h4⟩ (.le ?_ ?_ rfl) ?_
    · cbv
      exact ⟨leS_refl _, leS_refl _, leS_refl _, leS_refl _, leS_refl _, leS_refl _, leS_refl _, leS_refl _, leS_refl _, leS_refl _, leS_int (by (try dsimp only [ncast] at *) <;> (try simp only [lm_length] at *) <;> omega), leS_refl _, trivial⟩
    · cbv
      exact ⟨elsEq_of rfl, trivial⟩
    intro s hs
    obtain ⟨g1, g2, g3, g4, g5⟩ := hs
    generalize s.1 = k at *
    generalize s.2.1 = c at *
    generalize s.2.2 = out' at *
    cbv
    refine cut_dec (fun h6 => ?_) (fun h6 => ?_)
    · cbv
      refine idx_lm k (by (try dsimp only [ncast] at *) <;> (try simp only [lm_length] at *) <;> omega) (by (try dsimp only [ncast] at *) <;> (try simp only [lm_length] at *) <;> omega) ?_
      cbv
      have hik : 0 + ((i : Int) + (k : Int)).toNat = i + k := by omega
      refine ⟨in64_of (by (try dsimp only [ncast] at *) <;> (try simp only [lm_length] at *) <;> omega) (by (try dsimp only [ncast] at *) <;> (try simp only [lm_length] at *) <;> omega), rng_of (by (try dsimp only [ncast] at *) <;> (try simp only [lm_length] at *) <;> omega) (by (try dsimp only [ncast] at *) <;> (try simp only [lm_length] at *) <;> omega), el_lm (i + k) hik (by (try dsimp only [ncast] at *) <;> (try simp only [lm_length] at *) <;> omega) ?_⟩
      cbv
      refine ⟨in64_of (by (try dsimp only [ncast] at *) <;> (try simp only [lm_length] at *) <;> omega) (by (try dsimp only [ncast] at *) <;> (try simp only [lm_length] at *) <;> omega), rng_of (by (try dsimp only [ncast] at *) <;> (try simp only [lm_length] at *) <;> omega) (by (try dsimp only [ncast] at *) <;> (try simp only [lm_length] at *) <;> omega), el_lm (i + k) hik (by (try dsimp only [ncast] at *) <;> (try simp only [lm_length] at *) <;> omega) ?_⟩
      cbv
      have hy := u32_lt (q.getD k 0)
      have ho := u32_lt (out'.getD (i + k) 0)
      have hset := val_set out' (j := i + k) (by (try dsimp only [ncast] at *) <;> (try simp only [lm_length] at *) <;> omega) (UInt32.ofNat (c + (x * (q.getD k 0).toNat + (out'.getD (i + k) 0).toNat)))
      have htk := val_take_getD q k
      generalize hqy : (q.getD k 0).toNat = y at *
      generalize hoo : (out'.getD (i + k) 0).toNat = o at *
      have hm : x * y ≤ 4294967295 * 4294967295 := Nat.mul_le_mul (by simp only [B] at hx; omega) (by simp only [B] at hy; omega)
      have hB : B = 4294967296 := rfl
      have hT : nx .u64 ((c : Int) + nx .u64 (nx .u64 (nx .u64 (x : Int) * nx .u64 (y : Int)) + nx .u64 (o : Int))) = ((c + (x * y + o) : Nat) : Int) := by
        rw [nx_nat (n := x) (by omega), nx_nat (n := y) (by omega), nx_nat (n := o) (by omega), ← Int.natCast_mul, nx_nat (n := x * y) (by omega), ← Int.natCast_add, nx_nat (n := x * y + o) (by omega), ← Int.natCast_add, nx_nat (by omega)]
      refine ⟨nn_of (by omega), in64_of (by (try dsimp only [ncast] at *) <;> (try simp only [lm_length] at *) <;> omega) (by (try dsimp only [ncast] at *) <;> (try simp only [lm_length] at *) <;> omega), (k + 1, (c + (x * y + o)) / B, out'.set (i + k) (UInt32.ofNat (c + (x * y + o)))), ⟨(by (try dsimp only [ncast] at *) <;> (try simp only [lm_length] at *) <;> omega), ?_, by simpa using g3, ?_, ?_⟩, (by (try dsimp only [ncast] at *) <;> (try simp only [lm_length] at *) <;> omega), .le ?_ ?_ rfl⟩
      · show (c + (x * y + o)) / B < B
        exact Nat.div_lt_of_lt_mul (by have : B * B = 18446744073709551616 := rfl; omega)
      · show val (out'.set (i + k) (UInt32.ofNat (c + (x * y + o)))) + B ^ (i + (k + 1)) * ((c + (x * y + o)) / B) = val (p.take i) * val q + B ^ i * (x * val (q.take (k + 1)))
        rw [htk]
        rw [u32_mod] at hset
        have e0 : ∀ t, B ^ (i + k) * (t % B) + B ^ (i + (k + 1)) * (t / B) = B ^ (i + k) * t := by
          intro t
          have : i + (k + 1) = (i + k) + 1 := by omega
          rw [this, Nat.pow_succ, Nat.mul_assoc, ← Nat.mul_add, Nat.mod_add_div]
        have e1 := e0 (c + (x * y + o))
        have e3 : B ^ (i + k) * (c + (x * y + o)) = B ^ (i + k) * c + B ^ (i + k) * (x * y) + B ^ (i + k) * o := by rw [Nat.mul_add, Nat.mul_add]; omega
        have e2 : B ^ i * (x * (val (q.take k) + B ^ k * y)) = B ^ i * (x * val (q.take k)) + B ^ (i + k) * (x * y) := by
          rw [Nat.mul_add, Nat.mul_add, Nat.pow_add]
          congr 1
          rw [Nat.mul_left_comm x, Nat.mul_assoc]
        omega
      · intro j hj
        show (out'.set (i + k) _).getD j 0 = 0
        rw [getD_set_u _ _ _ _ (by (try dsimp only [ncast] at *); omega)]
        exact g5 j hj
      · cbv
        refine ⟨leS_refl _, leS_refl _, leS_refl _, leS_refl _, leS_refl _, leS_refl _, leS_refl _, leS_refl _, leS_int ?_, leS_refl _, leS_refl _, leS_int (by (try dsimp only [ncast] at *) <;> (try simp only [lm_length] at *) <;> omega), trivial⟩
        exact (congrArg (fun z => ishr .u64 z 32) hT).trans (ishr32 _)
      · cbv
        refine ⟨elsEq_of ?_, trivial⟩
        exact (congrArg (fun z => (lm out').set (0 + ((i : Int) + (k : Int)).toNat) [.int .u32 (nx .u32 z)]) hT).trans (lm_set_nx out' hik _)
    · cbv
      have hkq : k = q.length := (by (try dsimp only [ncast] at *) <;> (try simp only [lm_length] at *) <;> omega)
      subst hkq
      have hlq : 0 + ((i : Int) + ((lm q).length : Int)).toNat = i + q.length := by rw [lm_length]; omega
      refine ⟨in64_of (by (try dsimp only [ncast] at *) <;> (try simp only [lm_length] at *) <;> omega) (by (try dsimp only [ncast] at *) <;> (try simp only [lm_length] at *) <;> omega), rng_of (by (try dsimp only [ncast] at *) <;> (try simp only [lm_length] at *) <;> omega) (by (try dsimp only [ncast] at *) <;> (try simp only [lm_length] at *) <;> omega), el_lm (i + q.length) hlq (by (try dsimp only [ncast] at *) <;> (try simp only [lm_length] at *) <;> omega) ?_⟩
      cbv
      refine ⟨in64_of (by (try dsimp only [ncast] at *) <;> (try simp only [lm_length] at *) <;> omega) (by (try dsimp only [ncast] at *) <;> (try simp only [lm_length] at *) <;> omega), (i + 1, out'.set (i + q.length) (UInt32.ofNat c)), ⟨(by (try dsimp only [ncast] at *) <;> (try simp only [lm_length] at *) <;> omega), by simpa using g3, ?_, ?_⟩, (by (try dsimp only [ncast] at *) <;> (try simp only [lm_length] at *) <;> omega), .le ?_ ?_ rfl⟩
      · show val (out'.set (i + q.length) (UInt32.ofNat c)) = val (p.take (i + 1)) * val q
        have hset := val_set out' (j := i + q.length) (by (try dsimp only [ncast] at *) <;> (try simp only [lm_length] at *) <;> omega) (UInt32.ofNat c)
        rw [g5 _ (Nat.le_refl _), u32_mod, Nat.mod_eq_of_lt g2] at hset
        rw [List.take_of_length_le (Nat.le_refl _)] at g4
        rw [val_take_getD p, hpx, Nat.add_mul, Nat.mul_assoc]
        simp only [UInt32.toNat_zero, Nat.mul_zero, Nat.add_zero] at hset
        omega
      · intro j hj
        show (out'.set (i + q.length) _).getD j 0 = 0
        have hj' : i + 1 + q.length ≤ j := hj
        rw [getD_set_u _ _ _ _ (by omega)]
        exact g5 j (by omega)
      · cbv
        exact ⟨leS_refl _, leS_refl _, leS_refl _, leS_refl _, leS_refl _, leS_int (by (try dsimp only [ncast] at *) <;> (try simp only [lm_length] at *) <;> omega), trivial⟩
      · cbv
        exact ⟨elsEq_of (lm_set_nx out' hlq c), trivial⟩
  · cbv
    have hip : i = p.length := (by (try dsimp only [ncast] at *) <;> (try simp only [lm_length] at *) <;> omega)
    subst hip
    refine callW (.trans (.le (ps' := ⟨[(77, .osl 28 1 (fun _ => 0) (fun _ => p.length + q.length))], [(28, .arr 1 (fun _ => lm out))]⟩) ?_ ?_ rfl) (.frz 28 rfl rfl ?_ ?_)) rfl (by refine ⟨leS_sl ?_, trivial⟩; exact List.take_of_length_le (by simp [lm_length] <;> omega)) (s209 out (by omega)) rfl ?_
    · cbv
      exact ⟨leS_refl _, trivial⟩
    · cbv
      exact ⟨elsEq_of rfl, trivial⟩
    · cbv
      exact ⟨frok_of (by simp [lm_length] <;> omega), trivial⟩
    · exact trivial
    cbv
    refine ret0 rfl ?_ rfl
    rw [List.take_of_length_le (Nat.le_refl _)] at h3
    refine leS_sl ?_
    rw [h3, hv, hv2]
end Go.Proofs.YtbehbhicjmjdhaaGreat
