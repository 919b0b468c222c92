/- A part of the proof: ReB, ReC. -/
import Derived.Test.YtcanljninhfmhaaGreatS23
set_option linter.all false
namespace Go.Proofs.YtcanljninhfmhaaGreat
open Go
set_option linter.unusedVariables false
set_option maxRecDepth 100000
theorem wid_one (d : D) : Wid 1 (fun _ => [[d]]) := ⟨fun e he => by simp at he; subst he; rfl⟩
theorem lm_snoc (out : List UInt32) (S : Nat) : lm out ++ [[.int .u32 (nx .u32 ((S : Nat) : Int))]] = lm (out ++ [UInt32.ofNat S]) := by
 rw [← lm_append]
 congr 1
 simp only [lm, List.map_cons, List.map_nil, u32_mod, nx_u32, B]
 congr 2
theorem val_snoc' (l : List UInt32) (S : Nat) : val (l ++ [UInt32.ofNat S]) = val l + B ^ l.length * (S % B) := by rw [val_snoc, u32_mod]
theorem hf156 : Pg.funcs[125]? = some Tryz.f125 := by rw [Pg_eq]; rfl
theorem s156 (a b : List UInt32) (ha : a.length < 2^40) (hb : b.length < 2^40) : SoundS 125 [nat a, nat b] (nat (limbs (val a + val b))) := by
 refine sound_fn hf156 rfl rfl rfl rfl rfl ?_
 generalize hW : limbs (val a + val b) = W
 cbv
 refine loop_n (σ := Nat × Nat × List UInt32) (fun s => ⟨[(0, nat a), (1, nat b), (5, .osl 35 1 (fun _ => 0) (fun _ => s.1)), (6, .int .u64 (fun _ => (s.2.1 : Int))), (7, .int .i64 (fun _ => (s.1 : Int)))], [(35, .arr 1 (fun _ => lm s.2.2))]⟩)
  (fun s => s.1 ≤ max a.length b.length ∧ s.2.1 < 2 ∧ s.2.2.length = s.1 ∧ val s.2.2 + B ^ s.1 * s.2.1 = val (a.take s.1) + val (b.take s.1)) (fun s => max a.length b.length - s.1)
  (0, 0, []) ⟨Nat.zero_le _, by show (0 : Nat) < 2; omega, rfl, by simp [val]⟩ (.trans (.adoptT 35 1 5 rfl rfl) (.le ?_ ?_ rfl)) ?_
 ·cbv
  exact ⟨leS_refl _, leS_refl _, leS_refl _, leS_refl _, leS_refl _, trivial⟩
 ·cbv
  exact ⟨elsEq_of rfl, trivial⟩
 intro s hs
 obtain ⟨h1, h2, h3, h4⟩ := hs
 generalize s.1 = i at *
 generalize s.2.1 = c at *
 generalize s.2.2 = out at *
 have ca := s154 a i ha
 have cb := s154 b i hb
 have hx := u32_lt (a.getD i 0)
 have hy := u32_lt (b.getD i 0)
 simp only [B] at hx hy
 cbv
 refine br_dec (fun h5 => ?_) (fun h5 => ?_)
 ·have hi : i < a.length := om
  cbv
  refine callS' rfl okA ca rfl ?_
  cbv
  refine callS' rfl okA cb rfl ?_
  have hS : nx .u64 ((c : Int) + nx .u64 (nx .u64 (((a.getD i 0).toNat : Nat) : Int) + nx .u64 (((b.getD i 0).toNat : Nat) : Int))) = ((c + ((a.getD i 0).toNat + (b.getD i 0).toNat) : Nat) : Int) := by
   simp only [nx_u64]; omega
  cbv
  refine app_own ty33 rfl rfl rfl (by rw [lm_length, h3]) rfl (wid_one _) (room_of (Int.natCast_nonneg _) (by show (((lm out).length + 1 : Nat) : Int) * 4 ≤ 70368744177664; rw [lm_length, h3]; omega)) rfl ?_
  cbv
  refine ⟨nn_of (by omega), in64_of om om, (i + 1, (c + ((a.getD i 0).toNat + (b.getD i 0).toNat)) / B, out ++ [UInt32.ofNat (c + ((a.getD i 0).toNat + (b.getD i 0).toNat))]), ⟨by show i + 1 ≤ max a.length b.length; omega, ?_, by simp [h3], ?_⟩, by show max a.length b.length - (i + 1) < max a.length b.length - i; omega, .le ?_ ?_ rfl⟩
  ·show (c + ((a.getD i 0).toNat + (b.getD i 0).toNat)) / B < 2
   rw [Nat.div_lt_iff_lt_mul B_pos]; simp only [B]; omega
  ·show val (out ++ [_]) + B ^ (i + 1) * ((c + ((a.getD i 0).toNat + (b.getD i 0).toNat)) / B) = val (a.take (i + 1)) + val (b.take (i + 1))
   rw [val_snoc', h3, val_take_getD a, val_take_getD b, Nat.pow_succ]
   have hdm := Nat.mod_add_div (c + ((a.getD i 0).toNat + (b.getD i 0).toNat)) B
   generalize (c + ((a.getD i 0).toNat + (b.getD i 0).toNat)) % B = lo at *
   generalize (c + ((a.getD i 0).toNat + (b.getD i 0).toNat)) / B = hi at *
   generalize (a.getD i 0).toNat = x at *
   generalize (b.getD i 0).toNat = y at *
   generalize B ^ i = P at *
   have e1 : P * lo + P * B * hi = P * c + P * x + P * y := by
    rw [Nat.mul_assoc, ← Nat.mul_add, hdm, Nat.mul_add, Nat.mul_add]; omega
   omega
  ·cbv
   refine ⟨leS_refl _, leS_refl _, leS_osl rfl (by show (lm out).length + 1 = i + 1; rw [lm_length, h3]), leS_int ?_, leS_int om, trivial⟩
   (try dsimp only [ncast] at *)
   rw [hS]; exact ishr32 _
  ·cbv
   refine ⟨elsEq_of ?_, trivial⟩
   (try dsimp only [ncast] at *)
   rw [hS]
   exact lm_snoc out _
 ·cbv
  refine cut_dec (fun h6 => ?_) (fun h6 => ?_)
  ·have hi : i < b.length := om
   cbv
   refine callS' rfl okA ca rfl ?_
   cbv
   refine callS' rfl okA cb rfl ?_
   have hS : nx .u64 ((c : Int) + nx .u64 (nx .u64 (((a.getD i 0).toNat : Nat) : Int) + nx .u64 (((b.getD i 0).toNat : Nat) : Int))) = ((c + ((a.getD i 0).toNat + (b.getD i 0).toNat) : Nat) : Int) := by
    simp only [nx_u64]; omega
   cbv
   refine app_own ty33 rfl rfl rfl (by rw [lm_length, h3]) rfl (wid_one _) (room_of (Int.natCast_nonneg _) (by show (((lm out).length + 1 : Nat) : Int) * 4 ≤ 70368744177664; rw [lm_length, h3]; omega)) rfl ?_
   cbv
   refine ⟨nn_of (by omega), in64_of om om, (i + 1, (c + ((a.getD i 0).toNat + (b.getD i 0).toNat)) / B, out ++ [UInt32.ofNat (c + ((a.getD i 0).toNat + (b.getD i 0).toNat))]), ⟨by show i + 1 ≤ max a.length b.length; omega, ?_, by simp [h3], ?_⟩, by show max a.length b.length - (i + 1) < max a.length b.length - i; omega, .le ?_ ?_ rfl⟩
   ·show (c + ((a.getD i 0).toNat + (b.getD i 0).toNat)) / B < 2
    rw [Nat.div_lt_iff_lt_mul B_pos]; simp only [B]; omega
   ·show val (out ++ [_]) + B ^ (i + 1) * ((c + ((a.getD i 0).toNat + (b.getD i 0).toNat)) / B) = val (a.take (i + 1)) + val (b.take (i + 1))
    rw [val_snoc', h3, val_take_getD a, val_take_getD b, Nat.pow_succ]
    have hdm := Nat.mod_add_div (c + ((a.getD i 0).toNat + (b.getD i 0).toNat)) B
    generalize (c + ((a.getD i 0).toNat + (b.getD i 0).toNat)) % B = lo at *
    generalize (c + ((a.getD i 0).toNat + (b.getD i 0).toNat)) / B = hi at *
    generalize (a.getD i 0).toNat = x at *
    generalize (b.getD i 0).toNat = y at *
    generalize B ^ i = P at *
    have e1 : P * lo + P * B * hi = P * c + P * x + P * y := by
     rw [Nat.mul_assoc, ← Nat.mul_add, hdm, Nat.mul_add, Nat.mul_add]; omega
    omega
   ·cbv
    refine ⟨leS_refl _, leS_refl _, leS_osl rfl (by show (lm out).length + 1 = i + 1; rw [lm_length, h3]), leS_int ?_, leS_int om, trivial⟩
    (try dsimp only [ncast] at *)
    rw [hS]; exact ishr32 _
   ·cbv
    refine ⟨elsEq_of ?_, trivial⟩
    (try dsimp only [ncast] at *)
    rw [hS]
    exact lm_snoc out _
  ·have hi1 : a.length ≤ i := om
   have hi2 : b.length ≤ i := om
   rw [List.take_of_length_le hi1, List.take_of_length_le hi2] at h4
   have cm := s155 (out ++ [UInt32.ofNat c]) (by simp; omega)
   have hv : val (out ++ [UInt32.ofNat c]) = val a + val b := by
    rw [val_snoc', h3, Nat.mod_eq_of_lt (show c < B by simp only [B]; omega)]; exact h4
   rw [hv, hW] at cm
   cbv
   refine app_own ty33 rfl rfl rfl (by rw [lm_length, h3]) rfl (wid_one _) (room_of (Int.natCast_nonneg _) (by show (((lm out).length + 1 : Nat) : Int) * 4 ≤ 70368744177664; rw [lm_length, h3]; omega)) rfl ?_
   cbv
   refine callW (.frz 42 rfl rfl ?_ ?_) rfl (by refine ⟨leS_sl ?_, trivial⟩; exact (List.take_of_length_le (by show (lm out ++ [_]).length ≤ (lm out).length + 1; simp)).trans (lm_snoc out c)) cm rfl ?_
   ·cbv
    exact ⟨frok_of (by show 0 + ((lm out).length + 1) ≤ (lm out ++ [_]).length; simp), trivial⟩
   ·exact trivial
   cbv
   (refine retC rfl ?_; cbv)
   exact leS_refl _
theorem hf157 : Pg.funcs[126]? = some Tryz.f126 := by rw [Pg_eq]; rfl
theorem s157 (a b : List UInt32) (ha : a.length < 2^40) (hb : b.length < 2^40) : SoundS 126 [nat a, nat b] (.tup [nat (limbs (val a - val b)), .int .i64 (fun _ => if val b ≤ val a then 0 else 2)]) := by
 refine sound_fn hf157 rfl rfl rfl rfl rfl ?_
 have cc := s205 a b ha hb
 have hcl : cmpI (val a) (val b) < 0 ↔ val a < val b := by
  unfold cmpI
  split
  ·omega
  ·split <;> omega
 generalize cmpI (val a) (val b) = C at *
 have hlt : val a < val b → limbs (val a - val b) = [] ∧ (if val b ≤ val a then (0 : Int) else 2) = 2 := fun h => ⟨by rw [Nat.sub_eq_zero_of_le (by omega), limbs_zero], by rw [if_neg (by omega)]⟩
 have hge : val b ≤ val a → (if val b ≤ val a then (0 : Int) else 2) = 0 := fun h => if_pos h
 generalize hW : limbs (val a - val b) = W at *
 generalize (if val b ≤ val a then (0 : Int) else 2) = E at *
 cbv
 refine callS' rfl okA (cc) rfl ?_
 cbv
 refine cut_dec (fun h => ?_) (fun h => ?_)
 ·obtain ⟨e1, e2⟩ := hlt (hcl.1 h)
  cbv
  (refine retC rfl ?_; cbv)
  exact ⟨leS_nil (by rw [e1]; rfl), leS_int (by rw [e2]), trivial⟩
 have hba : val b ≤ val a := by
  rcases Nat.lt_or_ge (val a) (val b) with h1 | h1
  ·exact absurd (hcl.2 h1) h
  ·exact h1
 have hE := hge hba
 cbv
 refine loop_n (σ := Nat × Nat × List UInt32) (fun s => ⟨[(0, nat a), (1, nat b), (6, .osl 42 1 (fun _ => 0) (fun _ => s.1)), (7, .int .u64 (fun _ => (s.2.1 : Int))), (8, .int .i64 (fun _ => (s.1 : Int)))], [(42, .arr 1 (fun _ => lm s.2.2))]⟩)
  (fun s => s.1 ≤ a.length ∧ s.2.1 < 2 ∧ s.2.2.length = s.1 ∧ val s.2.2 + val (b.take s.1) = val (a.take s.1) + B ^ s.1 * s.2.1) (fun s => a.length - s.1)
  (0, 0, []) ⟨Nat.zero_le _, by show (0 : Nat) < 2; omega, rfl, by simp [val]⟩ (.trans (.adoptT 42 1 6 rfl rfl) (.le ?_ ?_ rfl)) ?_
 ·cbv
  exact ⟨leS_refl _, leS_refl _, leS_refl _, leS_refl _, leS_refl _, trivial⟩
 ·cbv
  exact ⟨elsEq_of rfl, trivial⟩
 intro s hs
 obtain ⟨h1, h2, h3, h4⟩ := hs
 generalize s.1 = i at *
 generalize s.2.1 = c at *
 generalize s.2.2 = out at *
 have ca := s154 a i ha
 have cb := s154 b i hb
 have hx := u32_lt (a.getD i 0)
 have hy := u32_lt (b.getD i 0)
 simp only [B] at hx hy
 cbv
 refine cut_dec (fun h5 => ?_) (fun h5 => ?_)
 ·have hi : i < a.length := om
  have hX : nx .u64 (((a.getD i 0).toNat : Nat) : Int) = (((a.getD i 0).toNat : Nat) : Int) := nx_nat (by omega)
  have hY : nx .u64 (nx .u64 (((b.getD i 0).toNat : Nat) : Int) + (c : Int)) = (((b.getD i 0).toNat + c : Nat) : Int) := by simp only [nx_u64]; omega
  cbv
  refine callS' rfl okA ca rfl ?_
  cbv
  refine callS' rfl okA cb rfl ?_
  cbv
  refine cut_dec (fun h6 => ?_) (fun h6 => ?_)
  ·(try dsimp only [ncast] at *)
   rw [hX, hY] at h6
   have h6' : (a.getD i 0).toNat < (b.getD i 0).toNat + c := Int.ofNat_lt.1 h6
   clear h6
   have hZ : nx .u64 (nx .u64 (nx .u64 (((a.getD i 0).toNat : Nat) : Int) + 4294967296) - nx .u64 (nx .u64 (((b.getD i 0).toNat : Nat) : Int) + (c : Int))) = (((a.getD i 0).toNat + 4294967296 - ((b.getD i 0).toNat + c) : Nat) : Int) := by
    rw [hX, hY]; simp only [nx_u64]; omega
   cbv
   refine app_own ty33 rfl rfl rfl (by rw [lm_length, h3]) rfl (wid_one _) (room_of (Int.natCast_nonneg _) (by show (((lm out).length + 1 : Nat) : Int) * 4 ≤ 70368744177664; rw [lm_length, h3]; omega)) rfl ?_
   cbv
   refine ⟨in64_of om om, (i + 1, 1, out ++ [UInt32.ofNat ((a.getD i 0).toNat + 4294967296 - ((b.getD i 0).toNat + c))]), ⟨hi, by show 1 < 2; omega, by simp [h3], ?_⟩, by show a.length - (i + 1) < a.length - i; omega, .le ?_ ?_ rfl⟩
   ·show val (out ++ [_]) + val (b.take (i + 1)) = val (a.take (i + 1)) + B ^ (i + 1) * 1
    rw [val_snoc', h3, val_take_getD a, val_take_getD b, Nat.pow_succ, Nat.mod_eq_of_lt (show (a.getD i 0).toNat + 4294967296 - ((b.getD i 0).toNat + c) < B by simp only [B]; omega)]
    generalize (a.getD i 0).toNat = x at *
    generalize (b.getD i 0).toNat = y at *
    generalize B ^ i = P at *
    have e1 : P * (x + 4294967296 - (y + c)) + P * y + P * c = P * x + P * B * 1 := by
     rw [← Nat.mul_add, ← Nat.mul_add, Nat.mul_assoc, ← Nat.mul_add]; congr 1; simp only [B]; omega
    omega
   ·cbv
    exact ⟨leS_refl _, leS_refl _, leS_osl rfl (by show (lm out).length + 1 = i + 1; rw [lm_length, h3]), leS_refl _, leS_int om, trivial⟩
   ·cbv
    refine ⟨elsEq_of ?_, trivial⟩
    (try dsimp only [ncast] at *)
    rw [hZ]
    exact lm_snoc out _
  ·(try dsimp only [ncast] at *)
   rw [hX, hY] at h6
   have h6' : (b.getD i 0).toNat + c ≤ (a.getD i 0).toNat := Nat.not_lt.1 (fun e => h6 (Int.ofNat_lt.2 e))
   clear h6
   have hZ : nx .u64 (nx .u64 (((a.getD i 0).toNat : Nat) : Int) - nx .u64 (nx .u64 (((b.getD i 0).toNat : Nat) : Int) + (c : Int))) = (((a.getD i 0).toNat - ((b.getD i 0).toNat + c) : Nat) : Int) := by
    rw [hX, hY]; simp only [nx_u64]; omega
   cbv
   refine app_own ty33 rfl rfl rfl (by rw [lm_length, h3]) rfl (wid_one _) (room_of (Int.natCast_nonneg _) (by show (((lm out).length + 1 : Nat) : Int) * 4 ≤ 70368744177664; rw [lm_length, h3]; omega)) rfl ?_
   cbv
   refine ⟨in64_of om om, (i + 1, 0, out ++ [UInt32.ofNat ((a.getD i 0).toNat - ((b.getD i 0).toNat + c))]), ⟨hi, by show 0 < 2; omega, by simp [h3], ?_⟩, by show a.length - (i + 1) < a.length - i; omega, .le ?_ ?_ rfl⟩
   ·show val (out ++ [_]) + val (b.take (i + 1)) = val (a.take (i + 1)) + B ^ (i + 1) * 0
    rw [val_snoc', h3, val_take_getD a, val_take_getD b, Nat.pow_succ, Nat.mod_eq_of_lt (show (a.getD i 0).toNat - ((b.getD i 0).toNat + c) < B by simp only [B]; omega)]
    generalize (a.getD i 0).toNat = x at *
    generalize (b.getD i 0).toNat = y at *
    generalize B ^ i = P at *
    have e1 : P * (x - (y + c)) + P * y + P * c = P * x + P * B * 0 := by
     rw [← Nat.mul_add, ← Nat.mul_add, Nat.mul_assoc, ← Nat.mul_add]; congr 1; simp only [B]; omega
    omega
   ·cbv
    exact ⟨leS_refl _, leS_refl _, leS_osl rfl (by show (lm out).length + 1 = i + 1; rw [lm_length, h3]), leS_refl _, leS_int om, trivial⟩
   ·cbv
    refine ⟨elsEq_of ?_, trivial⟩
    (try dsimp only [ncast] at *)
    rw [hZ]
    exact lm_snoc out _
 ·have hi : i = a.length := om
  have hbt : val (b.take a.length) = val b := by
   have e1 := val_split2 b a.length
   have e2 := val_lt a
   rcases Nat.eq_zero_or_pos (val (b.drop a.length)) with e3 | e3
   ·rw [e3] at e1; omega
   ·have := Nat.mul_le_mul_left (B ^ a.length) e3; omega
  rw [hi, List.take_of_length_le (Nat.le_refl _), hbt] at h4
  have hc0 : c = 0 := by
   have e1 := val_lt out
   rw [h3, hi] at e1
   rcases Nat.eq_zero_or_pos c with e2 | e2
   ·exact e2
   ·have : c = 1 := by omega
    subst this
    omega
  have cm := s155 out (by omega)
  have hv : val out = val a - val b := by subst hc0; omega
  rw [hv, hW] at cm
  cbv
  refine callW (.frz 42 rfl rfl ?_ ?_) rfl (by refine ⟨leS_sl ?_, trivial⟩; exact List.take_of_length_le (by show ((lm out).drop 0).length ≤ i; rw [List.drop_zero, lm_length]; omega)) cm rfl ?_
  ·cbv
   exact ⟨frok_of (by rw [lm_length]; omega), frok_of (by rw [lm_length]; omega), trivial⟩
  ·exact trivial
  cbv
  (refine retC rfl ?_; cbv)
  exact ⟨leS_refl _, leS_int (by rw [hE]), trivial⟩
end Go.Proofs.YtcanljninhfmhaaGreat

namespace Go.Proofs.YtcanljninhfmhaaGreat
open Go
set_option linter.unusedVariables false
set_option maxRecDepth 100000
theorem hf99 : Pg.funcs[77]? = some Tryz.f77 := by rw [Pg_eq]; rfl
theorem s99 (a b : List UInt32) (ha : a.length < 2^39) (hb : b.length < 2^39) : SoundS 77 [nat a, nat b] (nat (limbs (val a * val b))) := by
 refine sound_fn hf99 rfl rfl rfl rfl rfl ?_
 have hBB : B * B = 18446744073709551616 := by decide
 have hB : B = 4294967296 := rfl
 generalize hW : limbs (val a * val b) = W
 cbv
 refine ⟨in64_of om om, in64_of om om, room_of om om, mkok_of om om, ?_⟩
 cbv
 refine loop_n (σ := Nat × List UInt32) (fun s => ⟨[(0, nat a), (1, nat b), (5, .osl 15 1 (fun _ => 0) (fun _ => a.length + b.length + 1)), (6, .int .i64 (fun _ => (s.1 : Int)))], [(15, .arr 1 (fun _ => lm s.2))]⟩)
  (fun s => s.1 ≤ a.length ∧ s.2.length = a.length + b.length + 1 ∧ val s.2 = val (a.take s.1) * val b) (fun s => a.length - s.1)
  (0, List.replicate (a.length + b.length + 1) 0) ⟨Nat.zero_le _, by simp, by simp [val, val_zeros]⟩ (.le ?_ ?_ rfl) ?_
 ·cbv
  exact ⟨leS_refl _, leS_refl _, leS_osl rfl (by (try dsimp only [ncast] at *); simp only [lm_length]; omega), leS_refl _, trivial⟩
 ·cbv
  exact ⟨elsEq_of (mk_row _ _ (by (try dsimp only [ncast] at *); simp only [lm_length]; omega)), trivial⟩
 intro s hs
 obtain ⟨h1, h2, h3⟩ := hs
 generalize s.1 = i at *
 generalize s.2 = out at *
 cbv
 refine cut_dec (fun h4 => ?_) (fun h4 => ?_)
 ·have hi : i < a.length := om
  have hx := u32_lt (a.getD i 0)
  have hta := val_take_getD a i
  cbv
  refine loop_n (σ := Nat × Nat × List UInt32) (fun s => ⟨[(0, nat a), (1, nat b), (5, .osl 15 1 (fun _ => 0) (fun _ => a.length + b.length + 1)), (6, .int .i64 (fun _ => (i : Int))), (7, .int .u64 (fun _ => (s.2.1 : Int))), (8, .int .i64 (fun _ => (s.1 : Int)))], [(15, .arr 1 (fun _ => lm s.2.2))]⟩)
   (fun s => s.1 ≤ b.length + 1 ∧ s.2.1 < B ∧ s.2.2.length = a.length + b.length + 1 ∧ val s.2.2 + B ^ (i + s.1) * s.2.1 = val (a.take i) * val b + B ^ i * ((a.getD i 0).toNat * val (b.take s.1))) (fun s => b.length + 1 - s.1)
   (0, 0, out) ⟨Nat.zero_le _, B_pos, h2, by simp [val, h3]⟩ (.le ?_ ?_ rfl) ?_
  ·cbv
   exact ⟨leS_refl _, leS_refl _, leS_refl _, leS_refl _, leS_refl _, leS_refl _, trivial⟩
  ·cbv
   exact ⟨elsEq_of rfl, trivial⟩
  intro s hs
  obtain ⟨k1, k2, k3, k4⟩ := hs
  generalize s.1 = k at *
  generalize s.2.1 = c at *
  generalize s.2.2 = o at *
  have cb := s154 b k (by omega)
  have hy := u32_lt (b.getD k 0)
  have ho := u32_lt (o.getD (i + k) 0)
  cbv
  refine cut_dec (fun h5 => ?_) (fun h5 => ?_)
  ·have hk : k ≤ b.length := om
   have hm : (a.getD i 0).toNat * (b.getD k 0).toNat ≤ (B - 1) * (B - 1) := Nat.mul_le_mul (by omega) (by omega)
   have hmB : (B - 1) * (B - 1) + (B - 1) + (B - 1) < B * B := by decide
   have hTl : c + ((a.getD i 0).toNat * (b.getD k 0).toNat + (o.getD (i + k) 0).toNat) < B * B := by omega
   have hS : nx .u64 ((c : Int) + nx .u64 (nx .u64 (nx .u64 (((a.getD i 0).toNat : Nat) : Int) * nx .u64 (((b.getD k 0).toNat : Nat) : Int)) + nx .u64 (((o.getD (i + k) 0).toNat : Nat) : Int))) = ((c + ((a.getD i 0).toNat * (b.getD k 0).toNat + (o.getD (i + k) 0).toNat) : Nat) : Int) := by
    rw [nx_nat (n := (a.getD i 0).toNat) (by omega), nx_nat (n := (b.getD k 0).toNat) (by omega), nx_nat (n := (o.getD (i + k) 0).toNat) (by omega)]
    have e1 : nx .u64 ((((a.getD i 0).toNat : Nat) : Int) * (((b.getD k 0).toNat : Nat) : Int)) = (((a.getD i 0).toNat * (b.getD k 0).toNat : Nat) : Int) := nx_nat (n := (a.getD i 0).toNat * (b.getD k 0).toNat) (by omega)
    rw [e1]
    have e2 : nx .u64 ((((a.getD i 0).toNat * (b.getD k 0).toNat : Nat) : Int) + (((o.getD (i + k) 0).toNat : Nat) : Int)) = (((a.getD i 0).toNat * (b.getD k 0).toNat + (o.getD (i + k) 0).toNat : Nat) : Int) := nx_nat (n := (a.getD i 0).toNat * (b.getD k 0).toNat + (o.getD (i + k) 0).toNat) (by omega)
    rw [e2]
    exact nx_nat (n := c + ((a.getD i 0).toNat * (b.getD k 0).toNat + (o.getD (i + k) 0).toNat)) (by omega)
   cbv
   refine draw_of 20 (by cbv) ?_
   cbv
   refine idx_lm i om om ?_
   cbv
   refine callS_d okA (cb) rfl ?_
   cbv
   refine ⟨in64_of om om, rng_of om om, el_lm (i + k) (by (try dsimp only [ncast] at *); omega) om ?_⟩
   cbv
   refine ⟨in64_of om om, rng_of om om, el_lm (i + k) (by (try dsimp only [ncast] at *); omega) om ?_⟩
   cbv
   refine ⟨nn_of (by omega), in64_of om om, (k + 1, (c + ((a.getD i 0).toNat * (b.getD k 0).toNat + (o.getD (i + k) 0).toNat)) / B, o.set (i + k) (UInt32.ofNat (c + ((a.getD i 0).toNat * (b.getD k 0).toNat + (o.getD (i + k) 0).toNat)))), ⟨by show k + 1 ≤ b.length + 1; omega, ?_, by simpa using k3, ?_⟩, by show b.length + 1 - (k + 1) < b.length + 1 - k; omega, .le ?_ ?_ rfl⟩
   ·show (c + ((a.getD i 0).toNat * (b.getD k 0).toNat + (o.getD (i + k) 0).toNat)) / B < B
    rw [Nat.div_lt_iff_lt_mul B_pos]; exact hTl
   ·show val (o.set (i + k) _) + B ^ (i + (k + 1)) * ((c + ((a.getD i 0).toNat * (b.getD k 0).toNat + (o.getD (i + k) 0).toNat)) / B) = val (a.take i) * val b + B ^ i * ((a.getD i 0).toNat * val (b.take (k + 1)))
    have e1 := val_set o (j := i + k) (by omega) (UInt32.ofNat (c + ((a.getD i 0).toNat * (b.getD k 0).toNat + (o.getD (i + k) 0).toNat)))
    rw [u32_mod] at e1
    rw [val_take_getD b, show B ^ (i + (k + 1)) = B ^ (i + k) * B by rw [← Nat.add_assoc, Nat.pow_succ]]
    have hdm := Nat.mod_add_div (c + ((a.getD i 0).toNat * (b.getD k 0).toNat + (o.getD (i + k) 0).toNat)) B
    have e3 : B ^ i * ((a.getD i 0).toNat * (val (b.take k) + B ^ k * (b.getD k 0).toNat)) = B ^ i * ((a.getD i 0).toNat * val (b.take k)) + B ^ (i + k) * ((a.getD i 0).toNat * (b.getD k 0).toNat) := by
     rw [Nat.mul_add, Nat.mul_add, Nat.pow_add, Nat.mul_left_comm (a.getD i 0).toNat, ← Nat.mul_assoc (B ^ i) (B ^ k)]
    rw [e3]
    generalize val (o.set (i + k) (UInt32.ofNat (c + ((a.getD i 0).toNat * (b.getD k 0).toNat + (o.getD (i + k) 0).toNat)))) = vo at *
    generalize (c + ((a.getD i 0).toNat * (b.getD k 0).toNat + (o.getD (i + k) 0).toNat)) % B = lo at *
    generalize (c + ((a.getD i 0).toNat * (b.getD k 0).toNat + (o.getD (i + k) 0).toNat)) / B = hi' at *
    generalize (a.getD i 0).toNat * (b.getD k 0).toNat = m at *
    generalize (o.getD (i + k) 0).toNat = x at *
    generalize B ^ (i + k) = P at *
    have e2 : P * lo + P * B * hi' = P * c + P * m + P * x := by
     rw [Nat.mul_assoc, ← Nat.mul_add, hdm, Nat.mul_add, Nat.mul_add]; omega
    omega
   ·cbv
    refine ⟨leS_refl _, leS_refl _, leS_refl _, leS_refl _, leS_int ?_, leS_int om, trivial⟩
    (try dsimp only [ncast] at *)
    rw [hS]; exact ishr32 _
   ·cbv
    refine ⟨elsEq_of ?_, trivial⟩
    (try dsimp only [ncast] at *)
    rw [hS]
    exact lm_set_nx o (by simp; omega) _
  ·have hk : k = b.length + 1 := om
   rw [List.take_of_length_le (show b.length ≤ k by omega)] at k4
   have hfull : val (a.take i) * val b + B ^ i * ((a.getD i 0).toNat * val b) = val (a.take (i + 1)) * val b := by rw [hta, Nat.add_mul, Nat.mul_assoc]
   rw [hfull] at k4
   have hc0 : c = 0 := by
    have e1 := Nat.mul_lt_mul'' (val_take_lt a (i + 1)) (val_lt b)
    have e0 : i + 1 + b.length = i + k := by omega
    rw [← Nat.pow_add, e0] at e1
    generalize B ^ (i + k) = P at *
    rcases Nat.eq_zero_or_pos c with e2 | e2
    ·exact e2
    ·exfalso
     have e3 : P * 1 ≤ P * c := Nat.mul_le_mul_left P e2
     rw [Nat.mul_one] at e3
     omega
   have k5 : val o = val (a.take (i + 1)) * val b := by rw [hc0, Nat.mul_zero, Nat.add_zero] at k4; exact k4
   cbv
   refine ⟨in64_of om om, (i + 1, o), ⟨hi, k3, k5⟩, by show a.length - (i + 1) < a.length - i; omega, .le ?_ ?_ rfl⟩
   ·cbv
    exact ⟨leS_refl _, leS_refl _, leS_refl _, leS_int om, trivial⟩
   ·cbv
    exact ⟨elsEq_of rfl, trivial⟩
 ·have hi : i = a.length := om
  rw [hi, List.take_of_length_le (Nat.le_refl _)] at h3
  have cm := s155 out (by omega)
  rw [h3, hW] at cm
  cbv
  refine callW (.frz 15 rfl rfl ?_ ?_) rfl (by refine ⟨leS_sl ?_, trivial⟩; exact List.take_of_length_le (by show ((lm out).drop 0).length ≤ a.length + b.length + 1; rw [List.drop_zero, lm_length]; omega)) cm rfl ?_
  ·cbv
   exact ⟨frok_of (by rw [lm_length]; omega), frok_of (by rw [lm_length]; omega), trivial⟩
  ·exact trivial
  cbv
  (refine retC rfl ?_; cbv)
  exact leS_refl _
def shlGood (a : List UInt32) (k : Nat) : Option (Nat × Nat × List UInt32) → Prop
 | none => True
 | some s => s.1 ≤ a.length ∧ s.2.1 < 2 ^ k ∧ s.2.2.length = s.1 ∧ val s.2.2 + B ^ s.1 * s.2.1 = val (a.take s.1) * 2 ^ k
def shlMu (a : List UInt32) : Option (Nat × Nat × List UInt32) → Nat
 | none => a.length + 1
 | some s => a.length - s.1
theorem hf208 : Pg.funcs[171]? = some Tryz.f171 := by rw [Pg_eq]; rfl
theorem s208 (a : List UInt32) (k : Nat) (ha : a.length < 2^40) (hk : k < 32) : SoundS 171 [nat a, .int .i64 (fun _ => (k : Int))] (nat (limbs (val a * 2 ^ k))) := by
 refine sound_fn hf208 rfl rfl rfl rfl rfl ?_
 generalize hW : limbs (val a * 2 ^ k) = W
 have hk2 := Nat.two_pow_pos k
 have hq : nx .i64 (iquo (k : Int) 32) = 0 := by
  have := iquo_nat (a := k) (b := 32)
  rw [show k / 32 = 0 by omega] at this
  rw [show iquo (k : Int) 32 = 0 from this, nx_i64 (by omega) (by omega)]
 have hr : irem (k : Int) 32 = (k : Int) := by
  have := irem_nat (a := k) (b := 32)
  rw [show k % 32 = k by omega] at this
  exact this
 obtain ⟨i0, hi0⟩ : ∃ i0 : Nat, i0 = 0 := ⟨0, rfl⟩
 obtain ⟨c0, hc0⟩ : ∃ c0 : Nat, c0 = 0 := ⟨0, rfl⟩
 obtain ⟨out0, hout0⟩ : ∃ out0 : List UInt32, out0 = [] := ⟨[], rfl⟩
 cbv
 refine ⟨nz_of (by omega), room_of (by (try dsimp only [ncast] at *); rw [hq]; omega) (by (try dsimp only [ncast] at *); rw [hq]; omega), mkok_of (by (try dsimp only [ncast] at *); rw [hq]; omega) (by (try dsimp only [ncast] at *); rw [hq]; omega), ?_⟩
 cbv
 refine loop_n (σ := Option (Nat × Nat × List UInt32)) (fun s => match s with
   | none => ⟨[(0, nat a), (1, .int .i64 (fun _ => (k : Int))), (5, .osl 10 1 (fun _ => 0) (fun _ => i0)), (6, .int .u64 (fun _ => (c0 : Int))), (7, .int .i64 (fun _ => (i0 : Int)))], [(10, .arr 1 (fun _ => lm out0))]⟩
   | some s => ⟨[(0, nat a), (1, .int .i64 (fun _ => (k : Int))), (5, .osl 31 1 (fun _ => 0) (fun _ => s.1)), (6, .int .u64 (fun _ => (s.2.1 : Int))), (7, .int .i64 (fun _ => (s.1 : Int)))], [(31, .arr 1 (fun _ => lm s.2.2))]⟩)
  (shlGood a k) (shlMu a) none trivial (.le ?_ ?_ rfl) ?_
 ·cbv
  exact ⟨leS_refl _, leS_refl _, leS_osl rfl (by (try dsimp only [ncast] at *); rw [hq, hi0]; rfl), leS_int (by rw [hc0]; rfl), leS_int (by rw [hi0]; rfl), trivial⟩
 ·cbv
  exact ⟨elsEq_of (by (try dsimp only [ncast] at *); rw [hq, hout0]; rfl), trivial⟩
 intro s hs
 cases s with
 | none =>
  have h1 : i0 ≤ a.length := by omega
  have h2 : c0 < 2 ^ k := by omega
  have h3 : out0.length = i0 := by rw [hout0, hi0]; rfl
  have h4 : val out0 + B ^ i0 * c0 = val (a.take i0) * 2 ^ k := by rw [hout0, hi0, hc0]; simp [val]
  clear hi0 hc0 hout0
  generalize i0 = i at *
  generalize c0 = c at *
  generalize out0 = out at *
  have hmu : shlMu a none = a.length + 1 := rfl
  cbv
  refine cut_dec (fun h5 => ?_) (fun h5 => ?_)
  ·have hi : i < a.length := om
   have hx := u32_lt (a.getD i 0)
   simp only [B] at hx
   have hm : (a.getD i 0).toNat * 2 ^ k < 4294967296 * 2 ^ k := Nat.mul_lt_mul_of_pos_right hx hk2
   have hm2 : 4294967296 * 2 ^ k ≤ 4294967296 * 2147483648 := Nat.mul_le_mul_left _ (Nat.pow_le_pow_right (show 0 < 2 by omega) (show k ≤ 31 by omega))
   have hS : ior .u64 (c : Int) (ishl .u64 (nx .u64 (((a.getD i 0).toNat : Nat) : Int)) (irem (k : Int) 32)) = ((c + 2 ^ k * (a.getD i 0).toNat : Nat) : Int) := by
    rw [hr, nx_nat (n := (a.getD i 0).toNat) (by omega), ishl_nat (by omega) (by omega), ior64 (by omega) (by omega), Nat.mul_comm (a.getD i 0).toNat, or_add h2]
   cbv
   refine idx_lm i om om ?_
   cbv
   refine ⟨nz_of (by omega), nn_of (by (try dsimp only [ncast] at *); rw [hr]; omega), ?_⟩
   refine app_own ty33 rfl rfl rfl (by rw [lm_length, h3]) rfl (wid_one _) (room_of (Int.natCast_nonneg _) (by show (((lm out).length + 1 : Nat) : Int) * 4 ≤ 70368744177664; rw [lm_length, h3]; omega)) rfl ?_
   cbv
   obtain ⟨i', hi'⟩ : ∃ x, x = i + 1 := ⟨_, rfl⟩
   obtain ⟨c', hc'⟩ : ∃ x, x = (c + 2 ^ k * (a.getD i 0).toNat) / B := ⟨_, rfl⟩
   obtain ⟨out', ho'⟩ : ∃ x, x = out ++ [UInt32.ofNat (c + 2 ^ k * (a.getD i 0).toNat)] := ⟨_, rfl⟩
   refine ⟨nn_of (by omega), in64_of om om, some (i', c', out'), ⟨by show i' ≤ a.length; omega, ?_, by show out'.length = i'; rw [ho', hi']; simp [h3], ?_⟩, by show a.length - i' < a.length + 1; omega, .le ?_ ?_ rfl⟩
   ·show c' < 2 ^ k
    rw [hc']
    show (c + 2 ^ k * (a.getD i 0).toNat) / B < 2 ^ k
    rw [Nat.div_lt_iff_lt_mul B_pos]
    have : 2 ^ k * ((a.getD i 0).toNat + 1) ≤ 2 ^ k * B := Nat.mul_le_mul_left _ (by simp only [B]; omega)
    rw [Nat.mul_add] at this
    omega
   ·show val out' + B ^ i' * c' = val (a.take i') * 2 ^ k
    rw [ho', hc', hi', val_snoc', h3, val_take_getD a, Nat.pow_succ, Nat.add_mul, ← h4]
    have hdm := Nat.mod_add_div (c + 2 ^ k * (a.getD i 0).toNat) B
    have e0 : B ^ i * (a.getD i 0).toNat * 2 ^ k = B ^ i * (2 ^ k * (a.getD i 0).toNat) := by rw [Nat.mul_assoc, Nat.mul_comm (2 ^ k)]
    rw [e0]
    generalize 2 ^ k * (a.getD i 0).toNat = m at *
    generalize (c + m) % B = lo at *
    generalize (c + m) / B = hi' at *
    generalize B ^ i = P at *
    have e1 : P * lo + P * B * hi' = P * c + P * m := by
     rw [Nat.mul_assoc, ← Nat.mul_add, hdm, Nat.mul_add]
    omega
   ·cbv
    refine ⟨leS_refl _, leS_refl _, leS_osl rfl (by show (lm out).length + 1 = i'; rw [lm_length, h3, hi']), leS_int ?_, leS_int om, trivial⟩
    (try dsimp only [ncast] at *)
    rw [hS, hc']; exact ishr32 _
   ·cbv
    refine ⟨elsEq_of ?_, trivial⟩
    (try dsimp only [ncast] at *)
    rw [hS, ho']
    exact lm_snoc out _
  ·have hi : a.length ≤ i := om
   have cm := s155 (out ++ [UInt32.ofNat c]) (by simp; omega)
   have hcB : c < B := Nat.lt_of_lt_of_le h2 (by simp only [B]; exact Nat.pow_le_pow_right (show 0 < 2 by omega) (show k ≤ 32 by omega))
   rw [List.take_of_length_le hi] at h4
   have hv : val (out ++ [UInt32.ofNat c]) = val a * 2 ^ k := by
    rw [val_snoc', h3, Nat.mod_eq_of_lt hcB]; exact h4
   rw [hv, hW] at cm
   cbv
   refine app_own ty33 rfl rfl rfl (by rw [lm_length, h3]) rfl (wid_one _) (room_of (Int.natCast_nonneg _) (by show (((lm out).length + 1 : Nat) : Int) * 4 ≤ 70368744177664; rw [lm_length, h3]; omega)) rfl ?_
   cbv
   refine callW (.frz 38 rfl rfl ?_ ?_) rfl (by refine ⟨leS_sl ?_, trivial⟩; exact (List.take_of_length_le (by show (lm out ++ [_]).length ≤ (lm out).length + 1; simp)).trans (lm_snoc out c)) cm rfl ?_
   ·cbv
    exact ⟨frok_of (by show 0 + ((lm out).length + 1) ≤ (lm out ++ [_]).length; simp), trivial⟩
   ·exact trivial
   cbv
   (refine retC rfl ?_; cbv)
   exact leS_refl _
 | some s =>
  obtain ⟨h1, h2, h3, h4⟩ := hs
  obtain ⟨i, c, out⟩ := s
  simp only at h1 h2 h3 h4
  clear hi0 hc0 hout0
  cbv
  refine cut_dec (fun h5 => ?_) (fun h5 => ?_)
  ·have hi : i < a.length := om
   have hx := u32_lt (a.getD i 0)
   simp only [B] at hx
   have hm : (a.getD i 0).toNat * 2 ^ k < 4294967296 * 2 ^ k := Nat.mul_lt_mul_of_pos_right hx hk2
   have hm2 : 4294967296 * 2 ^ k ≤ 4294967296 * 2147483648 := Nat.mul_le_mul_left _ (Nat.pow_le_pow_right (show 0 < 2 by omega) (show k ≤ 31 by omega))
   have hS : ior .u64 (c : Int) (ishl .u64 (nx .u64 (((a.getD i 0).toNat : Nat) : Int)) (irem (k : Int) 32)) = ((c + 2 ^ k * (a.getD i 0).toNat : Nat) : Int) := by
    rw [hr, nx_nat (n := (a.getD i 0).toNat) (by omega), ishl_nat (by omega) (by omega), ior64 (by omega) (by omega), Nat.mul_comm (a.getD i 0).toNat, or_add h2]
   cbv
   refine idx_lm i om om ?_
   cbv
   refine ⟨nz_of (by omega), nn_of (by (try dsimp only [ncast] at *); rw [hr]; omega), ?_⟩
   refine app_own ty33 rfl rfl rfl (by rw [lm_length, h3]) rfl (wid_one _) (room_of (Int.natCast_nonneg _) (by show (((lm out).length + 1 : Nat) : Int) * 4 ≤ 70368744177664; rw [lm_length, h3]; omega)) rfl ?_
   cbv
   obtain ⟨i', hi'⟩ : ∃ x, x = i + 1 := ⟨_, rfl⟩
   obtain ⟨c', hc'⟩ : ∃ x, x = (c + 2 ^ k * (a.getD i 0).toNat) / B := ⟨_, rfl⟩
   obtain ⟨out', ho'⟩ : ∃ x, x = out ++ [UInt32.ofNat (c + 2 ^ k * (a.getD i 0).toNat)] := ⟨_, rfl⟩
   refine ⟨nn_of (by omega), in64_of om om, some (i', c', out'), ⟨by show i' ≤ a.length; omega, ?_, by show out'.length = i'; rw [ho', hi']; simp [h3], ?_⟩, by show a.length - i' < a.length - i; omega, .le ?_ ?_ rfl⟩
   ·show c' < 2 ^ k
    rw [hc']
    show (c + 2 ^ k * (a.getD i 0).toNat) / B < 2 ^ k
    rw [Nat.div_lt_iff_lt_mul B_pos]
    have : 2 ^ k * ((a.getD i 0).toNat + 1) ≤ 2 ^ k * B := Nat.mul_le_mul_left _ (by simp only [B]; omega)
    rw [Nat.mul_add] at this
    omega
   ·show val out' + B ^ i' * c' = val (a.take i') * 2 ^ k
    rw [ho', hc', hi', val_snoc', h3, val_take_getD a, Nat.pow_succ, Nat.add_mul, ← h4]
    have hdm := Nat.mod_add_div (c + 2 ^ k * (a.getD i 0).toNat) B
    have e0 : B ^ i * (a.getD i 0).toNat * 2 ^ k = B ^ i * (2 ^ k * (a.getD i 0).toNat) := by rw [Nat.mul_assoc, Nat.mul_comm (2 ^ k)]
    rw [e0]
    generalize 2 ^ k * (a.getD i 0).toNat = m at *
    generalize (c + m) % B = lo at *
    generalize (c + m) / B = hi' at *
    generalize B ^ i = P at *
    have e1 : P * lo + P * B * hi' = P * c + P * m := by
     rw [Nat.mul_assoc, ← Nat.mul_add, hdm, Nat.mul_add]
    omega
   ·cbv
    refine ⟨leS_refl _, leS_refl _, leS_osl rfl (by show (lm out).length + 1 = i'; rw [lm_length, h3, hi']), leS_int ?_, leS_int om, trivial⟩
    (try dsimp only [ncast] at *)
    rw [hS, hc']; exact ishr32 _
   ·cbv
    refine ⟨elsEq_of ?_, trivial⟩
    (try dsimp only [ncast] at *)
    rw [hS, ho']
    exact lm_snoc out _
  ·have hi : a.length ≤ i := om
   have cm := s155 (out ++ [UInt32.ofNat c]) (by simp; omega)
   have hcB : c < B := Nat.lt_of_lt_of_le h2 (by simp only [B]; exact Nat.pow_le_pow_right (show 0 < 2 by omega) (show k ≤ 32 by omega))
   rw [List.take_of_length_le hi] at h4
   have hv : val (out ++ [UInt32.ofNat c]) = val a * 2 ^ k := by
    rw [val_snoc', h3, Nat.mod_eq_of_lt hcB]; exact h4
   rw [hv, hW] at cm
   cbv
   refine app_own ty33 rfl rfl rfl (by rw [lm_length, h3]) rfl (wid_one _) (room_of (Int.natCast_nonneg _) (by show (((lm out).length + 1 : Nat) : Int) * 4 ≤ 70368744177664; rw [lm_length, h3]; omega)) rfl ?_
   cbv
   refine callW (.frz 38 rfl rfl ?_ ?_) rfl (by refine ⟨leS_sl ?_, trivial⟩; exact (List.take_of_length_le (by show (lm out ++ [_]).length ≤ (lm out).length + 1; simp)).trans (lm_snoc out c)) cm rfl ?_
   ·cbv
    exact ⟨frok_of (by show 0 + ((lm out).length + 1) ≤ (lm out ++ [_]).length; simp), trivial⟩
   ·exact trivial
   cbv
   (refine retC rfl ?_; cbv)
   exact leS_refl _
end Go.Proofs.YtcanljninhfmhaaGreat
