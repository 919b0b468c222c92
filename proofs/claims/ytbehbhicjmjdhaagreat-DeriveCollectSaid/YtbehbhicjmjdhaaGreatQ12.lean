/- CONTRACTS: natural, part A: trim, Make, Valid, Of. * CONTRACTS: natural, part B: Add. -/
import Derived.Test.YtbehbhicjmjdhaaGreatQ11

namespace Go.Proofs.YtbehbhicjmjdhaaGreat
open Go
set_option linter.unusedVariables false
set_option maxRecDepth 100000

theorem hf209 : Pg.funcs[88]? = some Tryz.f88 := by rw [Pg_eq]; rfl
theorem s209 (l : List UInt32) (hl : l.length < 2^44) : SoundS 88 [nat l] (nat (limbs (val l))) := by
  refine sound_fn hf209 rfl rfl rfl rfl rfl ?_
  cbv
  refine loop_n (σ := Nat) (fun n => ⟨[(0, nat l), (2, .nil), (3, .int .i64 (fun _ => (n : Int)))], []⟩) (fun n => n ≤ l.length ∧ val (l.take n) = val l) (fun n => n) l.length ⟨Nat.le_refl _, by simp⟩ (.le ?_ trivial rfl) ?_
  · cbv
    exact ⟨leS_refl _, leS_refl _, leS_int (by simp [lm_length]), trivial⟩
  intro n hn
  cbv
  refine br_dec (fun h => ?_) (fun h => ?_)
  · (try dsimp only [ncast] at *)
    obtain ⟨m, rfl⟩ : ∃ m, n = m + 1 := ⟨n - 1, by omega⟩
    cbv
    refine ⟨in64_of (by (try dsimp only [ncast] at *) <;> (try simp only [lm_length] at *) <;> omega) (by (try dsimp only [ncast] at *) <;> (try simp only [lm_length] at *) <;> omega), idx_lm m (by (try dsimp only [ncast] at *) <;> (try simp only [lm_length] at *) <;> omega) (by (try dsimp only [ncast] at *) <;> (try simp only [lm_length] at *) <;> omega) ?_⟩
    cbv
    refine cut_dec (fun h2 => ?_) (fun h2 => ?_)
    · cbv
      refine ⟨in64_of (by (try dsimp only [ncast] at *) <;> (try simp only [lm_length] at *) <;> omega) (by (try dsimp only [ncast] at *) <;> (try simp only [lm_length] at *) <;> omega), m, ⟨(by (try dsimp only [ncast] at *) <;> (try simp only [lm_length] at *) <;> omega), ?_⟩, (by (try dsimp only [ncast] at *) <;> (try simp only [lm_length] at *) <;> omega), .le ?_ trivial rfl⟩
      · have e : l.getD m 0 = 0 := by
          have : (l.getD m 0).toNat = 0 := (by (try dsimp only [ncast] at *) <;> (try simp only [lm_length] at *) <;> omega)
          exact UInt32.toNat_inj.1 this
        rw [← hn.2, take_snoc l (by omega), e, val_snoc0]
      · cbv
        exact ⟨leS_refl _, leS_refl _, leS_int (by (try dsimp only [ncast] at *) <;> (try simp only [lm_length] at *) <;> omega), trivial⟩
    · cbv
      refine cut_dec (fun h3 => (by (try dsimp only [ncast] at *) <;> (try simp only [lm_length] at *) <;> omega)) (fun h3 => ?_)
      cbv
      refine ⟨slok_of (by (try dsimp only [ncast] at *) <;> (try simp only [lm_length] at *) <;> omega) (by (try dsimp only [ncast] at *) <;> (try simp only [lm_length] at *) <;> omega) (by (try dsimp only [ncast] at *) <;> (try simp only [lm_length] at *) <;> omega), lm_wid l, ?_⟩
      cbv
      refine ret0 rfl ?_ rfl
      refine leS_sl ?_
      have e : l.getD m 0 ≠ 0 := fun e => by (try dsimp only [ncast] at *); rw [e] at h2; exact h2 rfl
      simp only [lm_take, lm_drop]
      rw [← hn.2, limbs_val (by rw [take_snoc l (by omega), canon_snoc]; simpa using e)]
      rfl
  · cbv
    refine cut_dec (fun h3 => ?_) (fun h3 => (by (try dsimp only [ncast] at *) <;> (try simp only [lm_length] at *) <;> omega))
    cbv
    refine ret0 rfl ?_ rfl
    refine leS_nil ?_
    have : n = 0 := (by (try dsimp only [ncast] at *) <;> (try simp only [lm_length] at *) <;> omega)
    subst this
    rw [← hn.2]
    simp [val, limbs_zero, lm]

theorem ty34 : ty 38 = .sli 1 4 [.int .u32 (fun _ => 0)] := by cbv
theorem hf230 : Pg.funcs[110]? = some Tryz.f110 := by rw [Pg_eq]; rfl
theorem s230 (l : List UInt32) (hl : l.length < 2^40) : SoundS 110 [nat l] (nat l) := by
  refine sound_fn hf230 rfl rfl rfl rfl rfl ?_
  cbv
  refine ⟨fun b hb => ?_⟩
  cbv
  refine cut_bool (fun h => ?_) (fun h => ?_)
  · cbv
    refine ret0 rfl ?_ rfl
    exact leS_nil (hb h)
  · cbv
    refine app_nil ty34 rfl rfl (lm_wid l) (room_of (by (try dsimp only [ncast] at *) <;> (try simp only [lm_length] at *) <;> omega) (by (try dsimp only [ncast] at *) <;> (try simp only [lm_length] at *) <;> omega)) rfl ?_
    cbv
    refine retW (.frz 7 rfl rfl ?_ ?_) rfl ?_ rfl
    · cbv
      exact ⟨frok_of (by simp), frok_of (by simp), trivial⟩
    · exact trivial
    · refine leS_sl ?_
      simp
theorem hf223 : Pg.funcs[84]? = some Tryz.f84 := by rw [Pg_eq]; rfl
theorem s223 (l : List UInt32) (hl : l.length < 2^40) : SoundS 84 [nat l] (nat (limbs (val l))) := by
  refine sound_fn hf223 rfl rfl rfl rfl rfl ?_
  cbv
  refine callS' rfl (by exact ⟨leS_refl _, trivial⟩) (s209 l (by omega)) rfl ?_
  cbv
  refine callS' rfl (by exact ⟨leS_refl _, trivial⟩) (s230 _ (Nat.lt_of_le_of_lt (limbs_length_le' l) hl)) rfl ?_
  cbv
  refine ret0 rfl ?_ rfl
  exact leS_refl _
theorem canon_last {l : List UInt32} (h : l ≠ []) : canon l = (l.getD (l.length - 1) 0 != 0) := by
  have : l = l.dropLast ++ [l.getD (l.length - 1) 0] := by
    rw [List.getD_eq_getElem?_getD, ← List.getLast?_eq_getElem?, List.getLast?_eq_some_getLast h]
    exact (List.dropLast_concat_getLast h).symm
  rw [this, canon_snoc]
  simp
theorem u32_ne0 (x : UInt32) : (x != 0) = !decide ((x.toNat : Int) = 0) := by
  rw [Bool.eq_iff_iff]
  simp only [bne_iff_ne, ne_eq, Bool.not_eq_true', decide_eq_false_iff_not]
  constructor
  · intro h e
    exact h (UInt32.toNat_inj.1 (by simpa using e))
  · intro h e
    exact h (by rw [e]; rfl)
theorem hf160 : Pg.funcs[59]? = some Tryz.f59 := by rw [Pg_eq]; rfl
theorem s160 (l : List UInt32) (hl : l.length < 2^40) : SoundS 59 [nat l] (.bool (fun _ => canon l)) := by
  refine sound_fn hf160 rfl rfl rfl rfl rfl ?_
  cbv
  refine br_dec (fun h => ?_) (fun h => ?_)
  · cbv
    refine ret0 rfl ?_ rfl
    refine leS_tt ?_
    have : l = [] := List.eq_nil_of_length_eq_zero (by (try dsimp only [ncast] at *) <;> (try simp only [lm_length] at *) <;> omega)
    subst this
    rfl
  · cbv
    refine ⟨in64_of (by (try dsimp only [ncast] at *) <;> (try simp only [lm_length] at *) <;> omega) (by (try dsimp only [ncast] at *) <;> (try simp only [lm_length] at *) <;> omega), idx_lm (l.length - 1) (by (try dsimp only [ncast] at *) <;> (try simp only [lm_length] at *) <;> omega) (by (try dsimp only [ncast] at *) <;> (try simp only [lm_length] at *) <;> omega) ?_⟩
    cbv
    refine ret0 rfl ?_ rfl
    refine leS_nbool ?_
    have hne : l ≠ [] := fun e => by subst e; exact h rfl
    rw [canon_last hne]
    exact u32_ne0 _
theorem hf211 : Pg.funcs[104]? = some Tryz.f104 := by rw [Pg_eq]; rfl
theorem s211 (x : Nat) (hx : x < B * B) : SoundS 104 [.int .u64 (fun _ => (x : Int))] (nat (limbs x)) := by
  refine sound_fn hf211 rfl rfl rfl rfl rfl ?_
  cbv
  refine ⟨nn_of (by omega), ?_⟩
  refine callS' rfl (by
    refine ⟨leS_sl ?_, trivial⟩
    have h1 : ishr .u64 (x : Int) 32 = ((x / B : Nat) : Int) := by
      unfold ishr
      simp [IntKind.bits, B, Int.fdiv_eq_ediv_of_nonneg]
    have h2 : x / B < B := Nat.div_lt_of_lt_mul hx
    simp only [mapDD, mapD, toD, lm, List.map_cons, List.map_nil, ncast, h1, nx_u32, ofNat_mod]
    rw [UInt32.toNat_ofNat', Nat.mod_eq_of_lt (show x / B < 2 ^ 32 from h2)]
    simp only [B] at *
    congr 3
    · congr 1; omega) (s209 [UInt32.ofNat (x % B), UInt32.ofNat (x / B)] (by simp)) rfl ?_
  cbv
  refine ret0 rfl ?_ rfl
  refine leS_sl ?_
  have h2 : x / B < B := Nat.div_lt_of_lt_mul hx
  have : val [UInt32.ofNat (x % B), UInt32.ofNat (x / B)] = x := by
    simp only [val, ofNat_mod]
    rw [UInt32.toNat_ofNat', Nat.mod_eq_of_lt (show x / B < 2 ^ 32 from h2), Nat.mul_zero, Nat.add_zero]
    exact Nat.mod_add_div x B
  rw [this]

/-! ### Cmp -/


theorem hf162 : Pg.funcs[61]? = some Tryz.f61 := by rw [Pg_eq]; rfl
theorem s162 (a b : List UInt32) (ha : a.length < 2^40) (hb : b.length < 2^40) : SoundS 61 [nat a, nat b] (.int .i64 (fun _ => cmpI (val a) (val b))) := by
  refine sound_fn hf162 rfl rfl rfl rfl rfl ?_
  cbv
  refine callS' rfl (by exact ⟨leS_refl _, trivial⟩) (s209 a (by omega)) rfl ?_
  cbv
  refine callS' rfl (by exact ⟨leS_refl _, trivial⟩) (s209 b (by omega)) rfl ?_
  cbv
  have ha' := Nat.lt_of_le_of_lt (limbs_length_le' a) ha
  have hb' := Nat.lt_of_le_of_lt (limbs_length_le' b) hb
  refine cut_dec (fun h => ?_) (fun h => ?_)
  · cbv
    have hl : (limbs (val a)).length = (limbs (val b)).length := (by (try dsimp only [ncast] at *) <;> (try simp only [lm_length] at *) <;> omega)
    refine ⟨in64_of (by (try dsimp only [ncast] at *) <;> (try simp only [lm_length] at *) <;> omega) (by (try dsimp only [ncast] at *) <;> (try simp only [lm_length] at *) <;> omega), ?_⟩
    refine loop_n (σ := Nat) (fun n => ⟨[(0, nat (limbs (val a))), (1, nat (limbs (val b))), (5, .int .i64 (fun _ => (n : Int) - 1))], []⟩) (fun n => n ≤ (limbs (val a)).length ∧ (limbs (val a)).drop n = (limbs (val b)).drop n) (fun n => n) (limbs (val a)).length ⟨Nat.le_refl _, by simp [hl]⟩ (.le ?_ trivial rfl) ?_
    · cbv
      exact ⟨leS_refl _, leS_refl _, leS_int (by (try dsimp only [ncast] at *) <;> (try simp only [lm_length] at *) <;> omega), trivial⟩
    intro n hn
    cbv
    refine cut_dec (fun h2 => ?_) (fun h2 => ?_)
    · (try dsimp only [ncast] at *)
      obtain ⟨m, rfl⟩ : ∃ m, n = m + 1 := ⟨n - 1, by omega⟩
      cbv
      refine draw_of 9 (by cbv) ?_
      cbv
      refine idx_lm m (by (try dsimp only [ncast] at *) <;> (try simp only [lm_length] at *) <;> omega) (by (try dsimp only [ncast] at *) <;> (try simp only [lm_length] at *) <;> omega) ?_
      cbv
      refine idx_lm m (by (try dsimp only [ncast] at *) <;> (try simp only [lm_length] at *) <;> omega) (by (try dsimp only [ncast] at *) <;> (try simp only [lm_length] at *) <;> omega) ?_
      cbv
      refine cut_dec (fun h3 => ?_) (fun h3 => ?_)
      · cbv
        refine ⟨in64_of (by (try dsimp only [ncast] at *) <;> (try simp only [lm_length] at *) <;> omega) (by (try dsimp only [ncast] at *) <;> (try simp only [lm_length] at *) <;> omega), m, ⟨(by (try dsimp only [ncast] at *) <;> (try simp only [lm_length] at *) <;> omega), ?_⟩, (by (try dsimp only [ncast] at *) <;> (try simp only [lm_length] at *) <;> omega), .le ?_ trivial rfl⟩
        · (try dsimp only [ncast] at *)
          have e : (limbs (val a)).getD m 0 = (limbs (val b)).getD m 0 := UInt32.toNat_inj.1 (by omega)
          rw [List.drop_eq_getElem_cons (by omega : m < (limbs (val a)).length), List.drop_eq_getElem_cons (by omega : m < (limbs (val b)).length), hn.2]
          congr 1
          simpa [show m < (limbs (val a)).length by omega, show m < (limbs (val b)).length by omega] using e
        · cbv
          exact ⟨leS_refl _, leS_refl _, leS_int (by (try dsimp only [ncast] at *) <;> (try simp only [lm_length] at *) <;> omega), trivial⟩
      · cbv
        refine draw_of 9 (by cbv) ?_
        cbv
        refine idx_lm m (by (try dsimp only [ncast] at *) <;> (try simp only [lm_length] at *) <;> omega) (by (try dsimp only [ncast] at *) <;> (try simp only [lm_length] at *) <;> omega) ?_
        cbv
        refine idx_lm m (by (try dsimp only [ncast] at *) <;> (try simp only [lm_length] at *) <;> omega) (by (try dsimp only [ncast] at *) <;> (try simp only [lm_length] at *) <;> omega) ?_
        cbv
        refine cut_dec (fun h4 => ?_) (fun h4 => ?_)
        · cbv
          refine ret0 rfl ?_ rfl
          refine leS_int ?_
          have := cmp_at (a := limbs (val a)) (b := limbs (val b)) (m := m) (by (try dsimp only [ncast] at *) <;> (try simp only [lm_length] at *) <;> omega) (by (try dsimp only [ncast] at *) <;> (try simp only [lm_length] at *) <;> omega) hn.2 (by (try dsimp only [ncast] at *) <;> (try simp only [lm_length] at *) <;> omega)
          rw [val_limbs, val_limbs] at this
          rw [cmpI_lt this]
        · cbv
          refine ret0 rfl ?_ rfl
          refine leS_int ?_
          have := cmp_at (a := limbs (val b)) (b := limbs (val a)) (m := m) (by (try dsimp only [ncast] at *) <;> (try simp only [lm_length] at *) <;> omega) (by (try dsimp only [ncast] at *) <;> (try simp only [lm_length] at *) <;> omega) hn.2.symm (by (try dsimp only [ncast] at *) <;> (try simp only [lm_length] at *) <;> omega)
          rw [val_limbs, val_limbs] at this
          rw [cmpI_gt this]
    · cbv
      refine ret0 rfl ?_ rfl
      refine leS_int ?_
      have h0 : n = 0 := (by (try dsimp only [ncast] at *) <;> (try simp only [lm_length] at *) <;> omega)
      subst h0
      have e : limbs (val a) = limbs (val b) := by simpa using hn.2
      have : val a = val b := by rw [← val_limbs (val a), e, val_limbs]
      rw [this, cmpI_eq]
  · cbv
    refine cut_dec (fun h2 => ?_) (fun h2 => ?_)
    · cbv
      refine ret0 rfl ?_ rfl
      refine leS_int ?_
      rw [cmpI_lt (cmp_len (by (try dsimp only [ncast] at *) <;> (try simp only [lm_length] at *) <;> omega))]
    · cbv
      refine ret0 rfl ?_ rfl
      refine leS_int ?_
      rw [cmpI_gt (cmp_len (by (try dsimp only [ncast] at *) <;> (try simp only [lm_length] at *) <;> omega))]
end Go.Proofs.YtbehbhicjmjdhaaGreat

namespace Go.Proofs.YtbehbhicjmjdhaaGreat
open Go
set_option linter.unusedVariables false
set_option maxRecDepth 100000

theorem lm_set (l : List UInt32) (i : Nat) (x : UInt32) : (lm l).set i [.int .u32 x.toNat] = lm (l.set i x) := by
  simp [lm, List.map_set]
theorem ishr32 (n : Nat) : ishr .u64 (n : Int) 32 = ((n / B : Nat) : Int) := by
  unfold ishr
  simp [IntKind.bits, B, Int.fdiv_eq_ediv_of_nonneg]

theorem lm_set_nx (out : List UInt32) {k j : Nat} (hk : k = j) (d : Nat) : (lm out).set k [.int .u32 (nx .u32 ((d : Nat) : Int))] = lm (out.set j (UInt32.ofNat d)) := by
  subst hk
  rw [← lm_set, u32_mod, nx_u32]
  simp [B]
theorem hf221 : Pg.funcs[82]? = some Tryz.f82 := by rw [Pg_eq]; rfl
theorem s221 (a b : List UInt32) (ha : a.length < 2^40) (hb : b.length < 2^40) : SoundS 82 [nat a, nat b] (nat (limbs (val a + val b))) := by
  refine sound_fn hf221 rfl rfl rfl rfl rfl ?_
  cbv
  refine callS' rfl (by exact ⟨leS_refl _, trivial⟩) (s209 a (by omega)) rfl ?_
  cbv
  refine callS' rfl (by exact ⟨leS_refl _, trivial⟩) (s209 b (by omega)) rfl ?_
  cbv
  have ha' := Nat.lt_of_le_of_lt (limbs_length_le' a) ha
  have hb' := Nat.lt_of_le_of_lt (limbs_length_le' b) hb
  refine cut_meet (σ := List UInt32 × List UInt32) (fun s => ⟨[(0, nat s.1), (1, nat s.2), (4, .nil)], []⟩) (fun s => s.2.length ≤ s.1.length ∧ s.1.length < 2^40 ∧ val s.1 + val s.2 = val a + val b) (fun h => ?_) (fun h => ?_) ?_
  · cbv
    refine ⟨(limbs (val b), limbs (val a)), ⟨(by (try dsimp only [ncast] at *) <;> (try simp only [lm_length] at *) <;> omega), hb', by simp only [val_limbs]; omega⟩, .le ?_ trivial rfl⟩
    cbv
    exact ⟨leS_refl _, leS_refl _, leS_refl _, trivial⟩
  · cbv
    refine ⟨(limbs (val a), limbs (val b)), ⟨(by (try dsimp only [ncast] at *) <;> (try simp only [lm_length] at *) <;> omega), ha', by simp only [val_limbs]⟩, .le ?_ trivial rfl⟩
    cbv
    exact ⟨leS_refl _, leS_refl _, leS_refl _, trivial⟩
  intro s hs
  obtain ⟨hpq, hp, hv⟩ := hs
  generalize s.1 = p at *
  generalize s.2 = q at *
  cbv
  refine ⟨in64_of (by (try dsimp only [ncast] at *) <;> (try simp only [lm_length] at *) <;> omega) (by (try dsimp only [ncast] at *) <;> (try simp only [lm_length] at *) <;> omega), room_of (by (try dsimp only [ncast] at *) <;> (try simp only [lm_length] at *) <;> omega) (by (try dsimp only [ncast] at *) <;> (try simp only [lm_length] at *) <;> omega), mkok_of (by (try dsimp only [ncast] at *) <;> (try simp only [lm_length] at *) <;> omega) (by (try dsimp only [ncast] at *) <;> (try simp only [lm_length] at *) <;> omega), ?_⟩
  cbv
  refine loop_n (σ := Nat × Nat × List UInt32) (fun s => ⟨[(0, nat p), (1, nat q), (5, .osl 23 1 (fun _ => 0) (fun _ => p.length + 1)), (6, .int .u64 (fun _ => (s.2.1 : Int))), (24, nat p), (25, .int .i64 (fun _ => (p.length : Int))), (26, .int .i64 (fun _ => (s.1 : Int)))], [(23, .arr 1 (fun _ => lm s.2.2))]⟩)
    (fun s => s.1 ≤ p.length ∧ s.2.1 < 2 ∧ s.2.2.length = p.length + 1 ∧ val (s.2.2.take s.1) + B ^ s.1 * s.2.1 = val (p.take s.1) + val (q.take s.1)) (fun s => p.length - s.1)
    (0, 0, List.replicate (p.length + 1) 0) ⟨(by (try dsimp only [ncast] at *) <;> (try simp only [lm_length] at *) <;> omega), (by (try dsimp only [ncast] at *) <;> (try simp only [lm_length] at *) <;> omega), by simp, by simp [val]⟩ (.le ?_ ?_ rfl) ?_
  · cbv
    exact ⟨leS_refl _, leS_refl _, leS_osl rfl (by (try dsimp only [ncast] at *) <;> (try simp only [lm_length] at *) <;> omega), leS_refl _, leS_refl _, leS_int (by (try dsimp only [ncast] at *) <;> (try simp only [lm_length] at *) <;> omega), leS_refl _, trivial⟩
  · cbv
    refine ⟨elsEq_of ?_, trivial⟩
    show List.replicate (((lm p).length : Int) + 1).toNat _ = _
    have : (((lm p).length : Int) + 1).toNat = p.length + 1 := by rw [lm_length]; omega
    rw [this]
    simp [lm, mapD, toD]
  intro s hs
  obtain ⟨h1, h2, h3, h4⟩ := hs
  generalize s.1 = i at *
  generalize s.2.1 = c at *
  generalize s.2.2 = out at *
  cbv
  refine cut_dec (fun h5 => ?_) (fun h5 => ?_)
  · cbv
    refine idx_lm i (by (try dsimp only [ncast] at *) <;> (try simp only [lm_length] at *) <;> omega) (by (try dsimp only [ncast] at *) <;> (try simp only [lm_length] at *) <;> omega) ?_
    cbv
    have hpi := u32_lt (p.getD i 0)
    have hqi := u32_lt (q.getD i 0)
    simp only [B] at hpi hqi
    refine cut_meet (σ := Unit) (fun _ => ⟨[(0, nat p), (1, nat q), (5, .osl 23 1 (fun _ => 0) (fun _ => p.length + 1)), (6, .int .u64 (fun _ => ((c + (p.getD i 0).toNat + (q.getD i 0).toNat : Nat) : Int))), (7, .int .i64 (fun _ => (i : Int))), (24, nat p), (25, .int .i64 (fun _ => (p.length : Int))), (26, .int .i64 (fun _ => (i : Int)))], [(23, .arr 1 (fun _ => lm out))]⟩) (fun _ => True) (fun h6 => ?_) (fun h6 => ?_) ?_
    · cbv
      refine idx_lm i (by (try dsimp only [ncast] at *) <;> (try simp only [lm_length] at *) <;> omega) (by (try dsimp only [ncast] at *) <;> (try simp only [lm_length] at *) <;> omega) ?_
      cbv
      refine ⟨(), trivial, .le ?_ ?_ rfl⟩
      · cbv
        refine ⟨leS_refl _, leS_refl _, leS_refl _, leS_int ?_, leS_refl _, leS_refl _, leS_refl _, leS_refl _, trivial⟩
        (try dsimp only [ncast] at *)
        simp only [nx_u64]
        omega
      · cbv
        exact ⟨elsEq_of rfl, trivial⟩
    · cbv
      refine ⟨(), trivial, .le ?_ ?_ rfl⟩
      · cbv
        refine ⟨leS_refl _, leS_refl _, leS_refl _, leS_int ?_, leS_refl _, leS_refl _, leS_refl _, leS_refl _, trivial⟩
        have : (q.getD i 0).toNat = 0 := by
          have : q.length ≤ i := (by (try dsimp only [ncast] at *) <;> (try simp only [lm_length] at *) <;> omega)
          simp [List.getElem?_eq_none this]
        (try dsimp only [ncast] at *)
        simp only [nx_u64]
        omega
      · cbv
        exact ⟨elsEq_of rfl, trivial⟩
    intro _ _
    generalize hd : c + (p.getD i 0).toNat + (q.getD i 0).toNat = d
    cbv
    refine ⟨rng_of (by (try dsimp only [ncast] at *) <;> (try simp only [lm_length] at *) <;> omega) (by (try dsimp only [ncast] at *) <;> (try simp only [lm_length] at *) <;> omega), el_lm i (by simp) (by (try dsimp only [ncast] at *) <;> (try simp only [lm_length] at *) <;> omega) ?_⟩
    cbv
    refine ⟨nn_of (by omega), in64_of (by (try dsimp only [ncast] at *) <;> (try simp only [lm_length] at *) <;> omega) (by (try dsimp only [ncast] at *) <;> (try simp only [lm_length] at *) <;> omega), (i + 1, d / B, out.set i (UInt32.ofNat d)), ⟨(by (try dsimp only [ncast] at *) <;> (try simp only [lm_length] at *) <;> omega), ?_, by simpa using h3, ?_⟩, (by (try dsimp only [ncast] at *) <;> (try simp only [lm_length] at *) <;> omega), .le ?_ ?_ rfl⟩
    · show d / B < 2
      simp only [B]
      omega
    · show val ((out.set i (UInt32.ofNat d)).take (i + 1)) + B ^ (i + 1) * (d / B) = val (p.take (i + 1)) + val (q.take (i + 1))
      rw [val_set_take _ (by (try dsimp only [ncast] at *) <;> (try simp only [lm_length] at *) <;> omega), val_take_getD p, val_take_getD q, u32_mod]
      have e1 : B ^ i * (d % B) + B ^ (i + 1) * (d / B) = B ^ i * d := by
        rw [Nat.pow_succ, Nat.mul_assoc, ← Nat.mul_add, Nat.mod_add_div]
      have e2 : B ^ i * d = B ^ i * c + B ^ i * (p.getD i 0).toNat + B ^ i * (q.getD i 0).toNat := by rw [← hd, Nat.mul_add, Nat.mul_add]
      omega
    · cbv
      refine ⟨leS_refl _, leS_refl _, leS_refl _, leS_int (ishr32 d), leS_refl _, leS_refl _, leS_int (by (try dsimp only [ncast] at *) <;> (try simp only [lm_length] at *) <;> omega), trivial⟩
    · cbv
      exact ⟨elsEq_of (lm_set_nx out (by simp) d), trivial⟩
  · cbv
    refine ⟨rng_of (by (try dsimp only [ncast] at *) <;> (try simp only [lm_length] at *) <;> omega) (by (try dsimp only [ncast] at *) <;> (try simp only [lm_length] at *) <;> omega), el_lm p.length (by simp [lm_length]) (by (try dsimp only [ncast] at *) <;> (try simp only [lm_length] at *) <;> omega) ?_⟩
    cbv
    have hi : i = p.length := (by (try dsimp only [ncast] at *) <;> (try simp only [lm_length] at *) <;> omega)
    subst hi
    refine callW (.trans (.le (ps' := ⟨[(60, .osl 23 1 (fun _ => 0) (fun _ => p.length + 1))], [(23, .arr 1 (fun _ => lm (out.set p.length (UInt32.ofNat c))))]⟩) ?_ ?_ rfl) (.frz 23 rfl rfl ?_ ?_)) rfl (by refine ⟨leS_sl ?_, trivial⟩; exact List.take_of_length_le (by simp [lm_length] <;> omega)) (s209 (out.set p.length (UInt32.ofNat c)) (by simp; omega)) rfl ?_
    · cbv
      exact ⟨leS_refl _, trivial⟩
    · cbv
      exact ⟨elsEq_of (lm_set_nx out (by simp [lm_length]) c), trivial⟩
    · cbv
      exact ⟨frok_of (by simp [lm_length]; omega), trivial⟩
    · exact trivial
    cbv
    refine ret0 rfl ?_ rfl
    refine leS_sl ?_
    congr 2
    have e := val_set_take out (n := p.length) (by omega) (UInt32.ofNat c)
    rw [List.take_of_length_le (by simp; omega), u32_mod, Nat.mod_eq_of_lt (show c < B by simp only [B]; omega), h4, List.take_of_length_le (Nat.le_refl _), List.take_of_length_le hpq] at e
    omega
end Go.Proofs.YtbehbhicjmjdhaaGreat
