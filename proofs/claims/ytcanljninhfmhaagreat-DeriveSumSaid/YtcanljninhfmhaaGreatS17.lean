/- A part of the proof: NtD, PnB. -/
import Derived.Test.YtcanljninhfmhaaGreatS16
set_option linter.all false
namespace Go.Proofs.YtcanljninhfmhaaGreat
open Go
set_option linter.unusedVariables false
set_option maxRecDepth 100000
theorem nx_nat {n : Nat} (h : n < 18446744073709551616) : nx .u64 (n : Int) = (n : Int) := by rw [nx_u64]; omega
theorem hf194 : Pg.funcs[141]? = some Tryz.f141 := by rw [Pg_eq]; rfl
theorem s194 (a b : List UInt32) (ha : a.length < 2^40) (hb : b.length < 2^40) : SoundS 141 [nat a, nat b] (nat (limbs (val a * val b))) := by
 refine sound_fn hf194 rfl rfl rfl rfl rfl ?_
 cbv
 refine callS' rfl (by exact ⟨leS_refl _, trivial⟩) (s209 a (by omega)) rfl ?_
 cbv
 refine callS' rfl (by exact ⟨leS_refl _, trivial⟩) (s209 b (by omega)) rfl ?_
 cbv
 have ha' := Nat.lt_of_le_of_lt (limbs_length_le' a) ha
 have hb' := Nat.lt_of_le_of_lt (limbs_length_le' b) hb
 have hv : val (limbs (val a)) = val a := val_limbs _
 have hv2 : val (limbs (val b)) = val b := val_limbs _
 generalize limbs (val a) = p at *
 generalize limbs (val b) = q at *
 
 refine br_dec (fun h => ?_) (fun h => ?_)
 ·cbv
  refine ret0 rfl ?_ rfl
  refine leS_nil ?_
  have : p = [] := List.eq_nil_of_length_eq_zero om
  subst this
  rw [← hv]
  simp [val, limbs_zero, lm]
 cbv
 refine cut_dec (fun h' => ?_) (fun h' => ?_)
 ·cbv
  refine ret0 rfl ?_ rfl
  refine leS_nil ?_
  have : q = [] := List.eq_nil_of_length_eq_zero om
  subst this
  rw [← hv2]
  simp [val, limbs_zero, lm]
 cbv
 refine ⟨in64_of om om, room_of om om, mkok_of om om, ?_⟩
 cbv
 refine loop_n (σ := Nat × List UInt32) (fun s => ⟨[(0, nat p), (1, nat q), (5, .osl 28 1 (fun _ => 0) (fun _ => p.length + q.length)), (29, nat p), (30, .int .i64 (fun _ => (p.length : Int))), (31, .int .i64 (fun _ => (s.1 : Int)))], [(28, .arr 1 (fun _ => lm s.2))]⟩)
  (fun s => s.1 ≤ p.length ∧ s.2.length = p.length + q.length ∧ val s.2 = val (p.take s.1) * val q ∧ ∀ j, s.1 + q.length ≤ j → s.2.getD j 0 = 0) (fun s => p.length - s.1)
  (0, List.replicate (p.length + q.length) 0) ⟨om, by simp, by simp [val, val_zeros], fun j _ => by simp only [List.getD_eq_getElem?_getD, List.getElem?_replicate]; split <;> rfl⟩ (.le ?_ ?_ rfl) ?_
 ·cbv
  exact ⟨leS_refl _, leS_refl _, leS_osl rfl om, leS_refl _, leS_int om, leS_refl _, trivial⟩
 ·cbv
  refine ⟨elsEq_of ?_, trivial⟩
  show List.replicate (((lm p).length : Int) + ((lm q).length : Int)).toNat _ = _
  have : (((lm p).length : Int) + ((lm q).length : Int)).toNat = p.length + q.length := by rw [lm_length, lm_length]; omega
  rw [this]
  simp [lm, mapD, toD]
 intro s hs
 obtain ⟨h1, h2, h3, h4⟩ := hs
 generalize s.1 = i at *
 generalize s.2 = out at *
 cbv
 refine cut_dec (fun h5 => ?_) (fun h5 => ?_)
 ·cbv
  refine idx_lm i om om ?_
  cbv
  have hx := u32_lt (p.getD i 0)
  generalize hpx : (p.getD i 0).toNat = x at *
  refine loop_n (σ := Nat × Nat × List UInt32) (fun s => ⟨[(0, nat p), (1, nat q), (5, .osl 28 1 (fun _ => 0) (fun _ => p.length + q.length)), (29, nat p), (30, .int .i64 (fun _ => (p.length : Int))), (31, .int .i64 (fun _ => (i : Int))), (6, .int .i64 (fun _ => (i : Int))), (7, .int .u32 (fun _ => (x : Int))), (8, .int .u64 (fun _ => (s.2.1 : Int))), (36, nat q), (37, .int .i64 (fun _ => (q.length : Int))), (38, .int .i64 (fun _ => (s.1 : Int)))], [(28, .arr 1 (fun _ => lm s.2.2))]⟩)
   (fun s => s.1 ≤ q.length ∧ s.2.1 < B ∧ s.2.2.length = p.length + q.length ∧ val s.2.2 + B ^ (i + s.1) * s.2.1 = val (p.take i) * val q + B ^ i * (x * val (q.take s.1)) ∧ ∀ j, i + q.length ≤ j → s.2.2.getD j 0 = 0) (fun s => q.length - s.1)
   (0, 0, out) ⟨om, B_pos, h2, by simp [val, h3], h4⟩ (.le ?_ ?_ rfl) ?_
  ·cbv
   exact ⟨leS_refl _, leS_refl _, leS_refl _, leS_refl _, leS_refl _, leS_refl _, leS_refl _, leS_refl _, leS_refl _, leS_refl _, leS_int om, leS_refl _, trivial⟩
  ·cbv
   exact ⟨elsEq_of rfl, trivial⟩
  intro s hs
  obtain ⟨g1, g2, g3, g4, g5⟩ := hs
  generalize s.1 = k at *
  generalize s.2.1 = c at *
  generalize s.2.2 = out' at *
  cbv
  refine cut_dec (fun h6 => ?_) (fun h6 => ?_)
  ·cbv
   refine idx_lm k om om ?_
   cbv
   have hik : 0 + ((i : Int) + (k : Int)).toNat = i + k := by omega
   refine ⟨in64_of om om, rng_of om om, el_lm (i + k) hik om ?_⟩
   cbv
   refine ⟨in64_of om om, rng_of om om, el_lm (i + k) hik om ?_⟩
   cbv
   have hy := u32_lt (q.getD k 0)
   have ho := u32_lt (out'.getD (i + k) 0)
   have hset := val_set out' (j := i + k) om (UInt32.ofNat (c + (x * (q.getD k 0).toNat + (out'.getD (i + k) 0).toNat)))
   have htk := val_take_getD q k
   generalize hqy : (q.getD k 0).toNat = y at *
   generalize hoo : (out'.getD (i + k) 0).toNat = o at *
   have hm : x * y ≤ 4294967295 * 4294967295 := Nat.mul_le_mul (by simp only [B] at hx; omega) (by simp only [B] at hy; omega)
   have hB : B = 4294967296 := rfl
   have hT : nx .u64 ((c : Int) + nx .u64 (nx .u64 (nx .u64 (x : Int) * nx .u64 (y : Int)) + nx .u64 (o : Int))) = ((c + (x * y + o) : Nat) : Int) := by
    rw [nx_nat (n := x) (by omega), nx_nat (n := y) (by omega), nx_nat (n := o) (by omega), ← Int.natCast_mul, nx_nat (n := x * y) (by omega), ← Int.natCast_add, nx_nat (n := x * y + o) (by omega), ← Int.natCast_add, nx_nat (by omega)]
   refine ⟨nn_of (by omega), in64_of om om, (k + 1, (c + (x * y + o)) / B, out'.set (i + k) (UInt32.ofNat (c + (x * y + o)))), ⟨om, ?_, by simpa using g3, ?_, ?_⟩, om, .le ?_ ?_ rfl⟩
   ·show (c + (x * y + o)) / B < B
    exact Nat.div_lt_of_lt_mul (by have : B * B = 18446744073709551616 := rfl; omega)
   ·show val (out'.set (i + k) (UInt32.ofNat (c + (x * y + o)))) + B ^ (i + (k + 1)) * ((c + (x * y + o)) / B) = val (p.take i) * val q + B ^ i * (x * val (q.take (k + 1)))
    rw [htk]
    rw [u32_mod] at hset
    have e0 : ∀ t, B ^ (i + k) * (t % B) + B ^ (i + (k + 1)) * (t / B) = B ^ (i + k) * t := by
     intro t
     have : i + (k + 1) = (i + k) + 1 := by omega
     rw [this, Nat.pow_succ, Nat.mul_assoc, ← Nat.mul_add, Nat.mod_add_div]
    have e1 := e0 (c + (x * y + o))
    have e3 : B ^ (i + k) * (c + (x * y + o)) = B ^ (i + k) * c + B ^ (i + k) * (x * y) + B ^ (i + k) * o := by rw [Nat.mul_add, Nat.mul_add]; omega
    have e2 : B ^ i * (x * (val (q.take k) + B ^ k * y)) = B ^ i * (x * val (q.take k)) + B ^ (i + k) * (x * y) := by
     rw [Nat.mul_add, Nat.mul_add, Nat.pow_add]
     congr 1
     rw [Nat.mul_left_comm x, Nat.mul_assoc]
    omega
   ·intro j hj
    show (out'.set (i + k) _).getD j 0 = 0
    rw [getD_set_u _ _ _ _ (by (try dsimp only [ncast] at *); omega)]
    exact g5 j hj
   ·cbv
    refine ⟨leS_refl _, leS_refl _, leS_refl _, leS_refl _, leS_refl _, leS_refl _, leS_refl _, leS_refl _, leS_int ?_, leS_refl _, leS_refl _, leS_int om, trivial⟩
    exact (congrArg (fun z => ishr .u64 z 32) hT).trans (ishr32 _)
   ·cbv
    refine ⟨elsEq_of ?_, trivial⟩
    exact (congrArg (fun z => (lm out').set (0 + ((i : Int) + (k : Int)).toNat) [.int .u32 (nx .u32 z)]) hT).trans (lm_set_nx out' hik _)
  ·cbv
   have hkq : k = q.length := om
   subst hkq
   have hlq : 0 + ((i : Int) + ((lm q).length : Int)).toNat = i + q.length := by rw [lm_length]; omega
   refine ⟨in64_of om om, rng_of om om, el_lm (i + q.length) hlq om ?_⟩
   cbv
   refine ⟨in64_of om om, (i + 1, out'.set (i + q.length) (UInt32.ofNat c)), ⟨om, by simpa using g3, ?_, ?_⟩, om, .le ?_ ?_ rfl⟩
   ·show val (out'.set (i + q.length) (UInt32.ofNat c)) = val (p.take (i + 1)) * val q
    have hset := val_set out' (j := i + q.length) om (UInt32.ofNat c)
    rw [g5 _ (Nat.le_refl _), u32_mod, Nat.mod_eq_of_lt g2] at hset
    rw [List.take_of_length_le (Nat.le_refl _)] at g4
    rw [val_take_getD p, hpx, Nat.add_mul, Nat.mul_assoc]
    simp only [UInt32.toNat_zero, Nat.mul_zero, Nat.add_zero] at hset
    omega
   ·intro j hj
    show (out'.set (i + q.length) _).getD j 0 = 0
    have hj' : i + 1 + q.length ≤ j := hj
    rw [getD_set_u _ _ _ _ (by omega)]
    exact g5 j (by omega)
   ·cbv
    exact ⟨leS_refl _, leS_refl _, leS_refl _, leS_refl _, leS_refl _, leS_int om, trivial⟩
   ·cbv
    exact ⟨elsEq_of (lm_set_nx out' hlq c), trivial⟩
 ·cbv
  have hip : i = p.length := om
  subst hip
  refine callW (.trans (.le (ps' := ⟨[(77, .osl 28 1 (fun _ => 0) (fun _ => p.length + q.length))], [(28, .arr 1 (fun _ => lm out))]⟩) ?_ ?_ rfl) (.frz 28 rfl rfl ?_ ?_)) rfl (by refine ⟨leS_sl ?_, trivial⟩; exact List.take_of_length_le (by simp [lm_length] <;> omega)) (s209 out (by omega)) rfl ?_
  ·cbv
   exact ⟨leS_refl _, trivial⟩
  ·cbv
   exact ⟨elsEq_of rfl, trivial⟩
  ·cbv
   exact ⟨frok_of (by simp [lm_length] <;> omega), trivial⟩
  ·exact trivial
  cbv
  refine ret0 rfl ?_ rfl
  rw [List.take_of_length_le (Nat.le_refl _)] at h3
  refine leS_sl ?_
  rw [h3, hv, hv2]
end Go.Proofs.YtcanljninhfmhaaGreat

namespace Go.Proofs.YtcanljninhfmhaaGreat
def pad (n m : Nat) : List UInt32 := limbs n ++ List.replicate (m - (limbs n).length) 0
theorem pad_of {l : List UInt32} {n m : Nat} (hl : l.length = m) (hv : val l = n) : l = pad n m := by
 have h1 : (limbs n).length ≤ m := by rw [← hv, ← hl]; exact limbs_length_le' l
 refine val_inj ?_ ?_
 ·simp [pad]; omega
 ·rw [pad, val_append, val_zeros, val_limbs, hv]; omega
theorem pad_length {n m : Nat} (h : n < B ^ m) : (pad n m).length = m := by
 have := limbs_length_le h
 simp [pad]; omega
theorem val_pad (n m : Nat) : val (pad n m) = n := by rw [pad, val_append, val_zeros, val_limbs]; omega
theorem val_top2 {l : List UInt32} {n : Nat} (hl : l.length = n + 2) : val l = val (l.take n) + B ^ n * ((l.getD (n + 1) 0).toNat * B + (l.getD n 0).toNat) := by
 have h1 := val_take_getD l n
 have h2 := val_take_getD l (n + 1)
 rw [List.take_of_length_le (by omega)] at h2
 rw [h2, h1, Nat.pow_succ, Nat.mul_add, Nat.mul_assoc, Nat.mul_comm B]
 omega
theorem val_top3 {l : List UInt32} {n : Nat} (hl : l.length = n + 3) : val l = val (l.take n) + B ^ n * (((l.getD (n + 2) 0).toNat * B + (l.getD (n + 1) 0).toNat) * B + (l.getD n 0).toNat) := by
 have h1 := val_take_getD l n
 have h2 := val_take_getD l (n + 1)
 have h3 := val_take_getD l (n + 2)
 rw [List.take_of_length_le (by omega)] at h3
 rw [h3, h2, h1]
 have e : B ^ (n + 2) = B ^ n * (B * B) := by rw [Nat.pow_succ, Nat.pow_succ, Nat.mul_assoc]
 rw [e, Nat.pow_succ, Nat.mul_add, Nat.add_mul, Nat.mul_add, Nat.mul_assoc, Nat.mul_assoc]
 rw [Nat.mul_comm (B * B), ← Nat.mul_assoc (l.getD (n + 2) 0).toNat, Nat.mul_comm B (l.getD (n + 1) 0).toNat]
 omega
structure EstInv (U V P top v1 v2 u2 : Nat) (q r : Nat) : Prop where
 top : q * v1 + r = top
 lo : U < (q + 1) * V
theorem est_init {U V P top v1 v2 u2 ur vr : Nat} (hv1 : 0 < v1) (hU : U = ur + P * (top * B + u2)) (hV : V = vr + P * (v1 * B + v2)) (hur : ur < P) (hu2 : u2 < B) :
  EstInv U V P top v1 v2 u2 (top / v1) (top % v1) := by
 refine ⟨by rw [Nat.mul_comm]; exact Nat.div_add_mod top v1, ?_⟩
 have h1 : top + 1 ≤ (top / v1 + 1) * v1 := by
  have := Nat.div_add_mod top v1
  have := Nat.mod_lt top hv1
  rw [Nat.add_mul, Nat.mul_comm (top / v1)]
  omega
 have h2 : (top + 1) * B ≤ (top / v1 + 1) * (v1 * B + v2) := by
  rw [Nat.mul_add, ← Nat.mul_assoc]
  exact Nat.le_trans (Nat.mul_le_mul_right B h1) (Nat.le_add_right _ _)
 have h3 : top * B + u2 + 1 ≤ (top + 1) * B := by rw [Nat.add_mul]; omega
 have h4 := Nat.mul_le_mul_left P (Nat.le_trans h3 h2)
 have h5 : (top / v1 + 1) * V = (top / v1 + 1) * vr + P * ((top / v1 + 1) * (v1 * B + v2)) := by
  rw [hV, Nat.mul_add, Nat.mul_left_comm]
 have h6 : P * (top * B + u2 + 1) = P * (top * B + u2) + P := by rw [Nat.mul_add, Nat.mul_one]
 omega
theorem est_over {U V P top v1 v2 u2 ur vr q r : Nat} (hU : U = ur + P * (top * B + u2)) (hV : V = vr + P * (v1 * B + v2)) (hur : ur < P)
  (ht : q * v1 + r = top) (h : r * B + u2 < q * v2) : U < q * V := by
 have h1 : top * B + u2 + 1 ≤ q * (v1 * B + v2) := by
  rw [← ht, Nat.mul_add, Nat.add_mul, Nat.mul_assoc]
  omega
 have h2 := Nat.mul_le_mul_left P h1
 have h3 : q * V = q * vr + P * (q * (v1 * B + v2)) := by rw [hV, Nat.mul_add, Nat.mul_left_comm]
 have h4 : P * (top * B + u2 + 1) = P * (top * B + u2) + P := by rw [Nat.mul_add, Nat.mul_one]
 omega
theorem est_step {U V P top v1 v2 u2 q r : Nat} (hq : 0 < q) (ht : q * v1 + r = top) (h : U < q * V) : EstInv U V P top v1 v2 u2 (q - 1) (r + v1) := by
 obtain ⟨k, rfl⟩ : ∃ k, q = k + 1 := ⟨q - 1, by omega⟩
 refine ⟨?_, by simpa using h⟩
 rw [← ht, Nat.add_sub_cancel, Nat.add_mul]; omega
theorem est_upper {U V P top v1 v2 u2 ur vr q r : Nat} (hv1 : 0 < v1) (hU : U = ur + P * (top * B + u2)) (hV : V = vr + P * (v1 * B + v2)) (hvr : vr < P)
  (ht : q * v1 + r = top) (hq : q ≤ B) (h : q * v2 ≤ r * B + u2) : q * V ≤ U + V := by
 have h1 : q * (v1 * B + v2) ≤ top * B + u2 := by
  rw [← ht, Nat.mul_add, Nat.add_mul, Nat.mul_assoc]
  omega
 have h2 := Nat.mul_le_mul_left P h1
 have h3 : q * V = q * vr + P * (q * (v1 * B + v2)) := by rw [hV, Nat.mul_add, Nat.mul_left_comm]
 have h4 : q * vr ≤ B * P := Nat.mul_le_mul hq (Nat.le_of_lt hvr)
 have h5 : B * P ≤ P * (v1 * B + v2) := by
  rw [Nat.mul_comm B P]
  refine Nat.mul_le_mul_left P (Nat.le_trans (?_ : B ≤ v1 * B) (Nat.le_add_right _ _))
  exact Nat.le_mul_of_pos_left B hv1
 omega
def estF (v1 v2 u2 q r : Nat) : Nat :=
 if h : B ≤ r ∨ v1 = 0 then q
 else if B ≤ q ∨ r * B + u2 < q * v2 then (if B ≤ r + v1 then q - 1 else estF v1 v2 u2 (q - 1) (r + v1)) else q
termination_by B - r
decreasing_by simp at h; omega
structure Est (U V q : Nat) : Prop where
 b : q < B
 lo : U < (q + 1) * V
 hi : q * V ≤ U + V
theorem estF_est {U V P top v1 v2 u2 ur vr : Nat} (hv1 : 0 < v1) (hv2 : v2 < B) (hu2 : u2 < B) (hU : U = ur + P * (top * B + u2)) (hV : V = vr + P * (v1 * B + v2)) (hur : ur < P) (hvr : vr < P) (hlt : U < B * V) (htop : top < v1 * B + B) :
  ∀ n q r, B - r ≤ n → EstInv U V P top v1 v2 u2 q r → r < B → q ≤ B + 1 → Est U V (estF v1 v2 u2 q r)
 | 0, q, r, hn, hi, hr, hq => by omega
 | n + 1, q, r, hn, hi, hr, hq => by
  rw [estF]
  rw [dif_neg (by omega)]
  by_cases hc : B ≤ q ∨ r * B + u2 < q * v2
  ·rw [if_pos hc]
   have hq0 : 0 < q := by
    rcases hc with h | h
    ·exact Nat.lt_of_lt_of_le B_pos h
    ·rcases Nat.eq_zero_or_pos q with e | e
     ·rw [e] at h; simp at h
     ·exact e
   have hover : U < q * V := by
    rcases hc with h | h
    ·exact Nat.lt_of_lt_of_le hlt (Nat.mul_le_mul_right V h)
    ·exact est_over hU hV hur hi.top h
   have hst := est_step (P := P) (v2 := v2) (u2 := u2) hq0 hi.top hover
   by_cases h2 : B ≤ r + v1
   ·rw [if_pos h2]
    have hqB : q - 1 < B := by
     rcases Nat.lt_or_ge (q - 1) B with h | h
     ·exact h
     ·have h3 := hst.top
      have h4 := Nat.mul_le_mul_right v1 h
      rw [Nat.mul_comm B v1] at h4
      omega
    refine ⟨hqB, hst.lo, est_upper (r := r + v1) (v2 := v2) (u2 := u2) hv1 hU hV hvr hst.top (Nat.le_of_lt hqB) ?_⟩
    have h5 : (q - 1) * v2 ≤ B * B := Nat.mul_le_mul (Nat.le_of_lt hqB) (Nat.le_of_lt hv2)
    have h6 : B * B ≤ (r + v1) * B := Nat.mul_le_mul_right B h2
    omega
   ·rw [if_neg h2]
    exact estF_est hv1 hv2 hu2 hU hV hur hvr hlt htop n _ _ (by omega) hst (by omega) (by omega)
  ·rw [if_neg hc]
   have h1 : q < B := by omega
   exact ⟨h1, hi.lo, est_upper hv1 hU hV hvr hi.top (Nat.le_of_lt h1) (by omega)⟩
def digit (U V q : Nat) : Nat := if q * V ≤ U then q else q - 1
theorem digit_eq {U V q : Nat} (hV : 0 < V) (h : Est U V q) : digit U V q = U / V := by
 unfold digit
 split
 ·rename_i h1
  exact (Nat.div_eq_of_lt_le h1 h.lo).symm
 ·rename_i h1
  have h1 : U < q * V := by omega
  have hq : q ≠ 0 := fun e => by rw [e] at h1; omega
  obtain ⟨k, rfl⟩ : ∃ k, q = k + 1 := ⟨q - 1, by omega⟩
  have h2 := h.hi
  rw [Nat.add_mul, Nat.one_mul] at h2
  rw [Nat.add_sub_cancel]
  exact (Nat.div_eq_of_lt_le (by omega) h1).symm
theorem val_drop {l : List UInt32} (n : Nat) (h : n ≤ l.length) : val l = val (l.take n) + B ^ n * val (l.drop n) := by
 have e : (l.take n).length = n := by simp; omega
 calc val l = val (l.take n ++ l.drop n) := by rw [List.take_append_drop]
  _ = _ := by rw [val_append, e]
theorem val_drop_cons {l : List UInt32} {i : Nat} (h : i < l.length) : val (l.drop i) = (l.getD i 0).toNat + B * val (l.drop (i + 1)) := by
 have : l.drop i = l.getD i 0 :: l.drop (i + 1) := by
  rw [List.drop_eq_getElem_cons h]
  simp [h]
 rw [this]
 rfl
theorem val_zero_of_lt {l : List UInt32} (n : Nat) (hn : n ≤ l.length) (h : val l < B ^ n) : val (l.drop n) = 0 := by
 have h1 := val_drop n hn
 rcases Nat.eq_zero_or_pos (val (l.drop n)) with h2 | h2
 ·exact h2
 ·have := Nat.mul_le_mul_left (B ^ n) h2
  omega
theorem div_round {pre x post : List UInt32} {V n q : Nat} (hx : x.length = n + 1) (hpost : val post = 0) (hV : val x < V * B) (hVn : V < B ^ n) (h0 : 0 < V) (hq : q = val x / V) :
  q < B ∧ val (pad (val x - q * V) (n + 1) ++ post) < V ∧
  val (pre ++ (pad (val x - q * V) (n + 1) ++ post)) + V * (B ^ pre.length * q) = val (pre ++ (x ++ post)) := by
 have hmod : val x - q * V = val x % V := by
  have := Nat.div_add_mod (val x) V
  rw [hq, Nat.mul_comm]
  omega
 have hlt := Nat.mod_lt (val x) h0
 refine ⟨by rw [hq, Nat.div_lt_iff_lt_mul h0, Nat.mul_comm]; exact hV, ?_, ?_⟩
 ·rw [val_append, val_pad, hpost, hmod]
  simpa using hlt
 ·rw [val_append, val_append, val_append, val_append, val_pad, hpost, hmod]
  simp only [Nat.mul_zero, Nat.add_zero]
  have := Nat.div_add_mod (val x) V
  rw [← hq] at this
  have e : V * (B ^ pre.length * q) = B ^ pre.length * (V * q) := Nat.mul_left_comm _ _ _
  rw [e, Nat.add_assoc, ← Nat.mul_add]
  congr 2
  omega
end Go.Proofs.YtcanljninhfmhaaGreat
