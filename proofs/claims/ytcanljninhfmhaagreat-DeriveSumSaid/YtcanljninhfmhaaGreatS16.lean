/- A part of the proof: PnA, NtA, NtB, NtC. -/
import Derived.Test.YtcanljninhfmhaaGreatS15
set_option linter.all false
namespace Go.Proofs.YtcanljninhfmhaaGreat
def B : Nat := 4294967296
theorem B_pos : 0 < B := by decide
theorem u32_lt (x : UInt32) : x.toNat < B := x.toNat_lt
def val : List UInt32 → Nat
 | [] => 0
 | x :: r => x.toNat + B * val r
def limbs (n : Nat) : List UInt32 :=
 if h : n = 0 then [] else UInt32.ofNat (n % B) :: limbs (n / B)
termination_by n
decreasing_by exact Nat.div_lt_self (by omega) (by decide)
theorem limbs_zero : limbs 0 = [] := by rw [limbs]; simp
theorem limbs_pos {n : Nat} (h : n ≠ 0) : limbs n = UInt32.ofNat (n % B) :: limbs (n / B) := by rw [limbs]; simp [h]
theorem ofNat_mod (n : Nat) : (UInt32.ofNat (n % B)).toNat = n % B := by
 rw [UInt32.toNat_ofNat']
 exact Nat.mod_eq_of_lt (Nat.mod_lt _ B_pos)
theorem val_limbs (n : Nat) : val (limbs n) = n := by
 induction n using Nat.strongRecOn with
 | _ n ih =>
  by_cases h : n = 0
  ·subst h; rw [limbs_zero]; rfl
  ·rw [limbs_pos h, val, ofNat_mod, ih (n / B) (Nat.div_lt_self (by omega) (by decide))]
   exact Nat.mod_add_div n B
theorem val_append : ∀ (a b : List UInt32), val (a ++ b) = val a + B ^ a.length * val b
 | [], b => by simp [val]
 | x :: a, b => by
  simp only [List.cons_append, val, List.length_cons, val_append a b]
  rw [Nat.mul_add, Nat.pow_succ, ← Nat.mul_assoc, Nat.mul_comm B (B ^ a.length)]
  omega
theorem val_lt : ∀ (l : List UInt32), val l < B ^ l.length
 | [] => by simp [val]
 | x :: r => by
  have h1 := val_lt r
  have h2 := u32_lt x
  have h3 : B * (val r + 1) ≤ B * B ^ r.length := Nat.mul_le_mul_left _ h1
  simp only [val, List.length_cons, Nat.pow_succ]
  rw [Nat.mul_comm (B ^ r.length) B]
  rw [Nat.mul_add] at h3
  omega
def canon : List UInt32 → Bool
 | [] => true
 | [x] => x != 0
 | _ :: y :: r => canon (y :: r)
theorem canon_cons (x : UInt32) {r : List UInt32} (h : r ≠ []) : canon (x :: r) = canon r := by
 cases r with
 | nil => exact absurd rfl h
 | cons y r => rfl
theorem val_pos : ∀ {l : List UInt32}, canon l = true → l ≠ [] → 0 < val l
 | [], _, h => absurd rfl h
 | [x], h, _ => by
  have h1 : x ≠ 0 := by simpa [canon] using h
  have : x.toNat ≠ 0 := fun e => h1 (UInt32.toNat_inj.1 e)
  simp only [val]; omega
 | x :: y :: r, h, _ => by
  have h1 := val_pos (l := y :: r) h (by simp)
  have : B * 1 ≤ B * val (y :: r) := Nat.mul_le_mul_left _ h1
  have h2 : (0 : Nat) < B := B_pos
  show 0 < x.toNat + B * val (y :: r)
  omega
theorem limbs_val : ∀ {l : List UInt32}, canon l = true → limbs (val l) = l
 | [], _ => by simp [val, limbs_zero]
 | x :: r, h => by
  have hp := val_pos h (by simp)
  rw [limbs_pos (by omega)]
  have hx := u32_lt x
  have h1 : val (x :: r) % B = x.toNat := by
   simp only [val]
   rw [Nat.add_mul_mod_self_left, Nat.mod_eq_of_lt hx]
  have h2 : val (x :: r) / B = val r := by
   simp only [val]
   rw [Nat.add_mul_div_left _ _ B_pos, Nat.div_eq_of_lt hx]
   omega
  rw [h1, h2]
  have hr : canon r = true := by
   cases r with
   | nil => rfl
   | cons y r => exact h
  rw [limbs_val hr]
  congr 1
  exact UInt32.toNat_inj.1 (by rw [UInt32.toNat_ofNat']; exact Nat.mod_eq_of_lt hx)
theorem canon_limbs (n : Nat) : canon (limbs n) = true := by
 induction n using Nat.strongRecOn with
 | _ n ih =>
  by_cases h : n = 0
  ·subst h; rw [limbs_zero]; rfl
  ·rw [limbs_pos h]
   by_cases h2 : n / B = 0
   ·rw [h2, limbs_zero]
    have hlt : n < B := (Nat.div_eq_zero_iff_lt B_pos).1 h2
    have : (UInt32.ofNat (n % B)).toNat ≠ 0 := by rw [ofNat_mod, Nat.mod_eq_of_lt hlt]; exact h
    simp only [canon, bne_iff_ne, ne_eq]
    exact fun e => this (by rw [e]; rfl)
   ·rw [canon_cons _ (by rw [limbs_pos h2]; simp)]
    exact ih _ (Nat.div_lt_self (by omega) (by decide))
theorem canon_snoc (l : List UInt32) (x : UInt32) : canon (l ++ [x]) = (x != 0) := by
 induction l with
 | nil => rfl
 | cons y l ih => rw [List.cons_append, canon_cons _ (by simp), ih]
theorem val_snoc0 (l : List UInt32) : val (l ++ [0]) = val l := by rw [val_append]; simp [val]
theorem val_inj : ∀ {a b : List UInt32}, a.length = b.length → val a = val b → a = b
 | [], [], _, _ => rfl
 | x :: a, y :: b, hl, hv => by
  simp only [val] at hv
  have hx := u32_lt x; have hy := u32_lt y
  have h1 : x.toNat = y.toNat := by
   have := congrArg (· % B) hv
   simp only [Nat.add_mul_mod_self_left, Nat.mod_eq_of_lt hx, Nat.mod_eq_of_lt hy] at this
   exact this
  have h2 : val a = val b := by
   rw [h1] at hv
   exact Nat.eq_of_mul_eq_mul_left B_pos (Nat.add_left_cancel hv)
  rw [UInt32.toNat_inj.1 h1, val_inj (by simpa using hl) h2]
 | [], y :: b, hl, _ => by simp at hl
 | x :: a, [], hl, _ => by simp at hl
theorem limbs_length_le {n k : Nat} (h : n < B ^ k) : (limbs n).length ≤ k := by
 induction k generalizing n with
 | zero =>
  have : n = 0 := by simpa using h
  subst this
  rw [limbs_zero]
  simp
 | succ k ih =>
  by_cases h0 : n = 0
  ·subst h0; rw [limbs_zero]; simp
  ·rw [limbs_pos h0, List.length_cons]
   have : n / B < B ^ k := by
    rw [Nat.div_lt_iff_lt_mul B_pos]
    rw [Nat.pow_succ] at h
    exact h
   have := ih this
   omega
theorem limbs_length_le' (l : List UInt32) : (limbs (val l)).length ≤ l.length := limbs_length_le (val_lt l)
theorem limbs_length_gt {n k : Nat} (h : B ^ k ≤ n) : k < (limbs n).length := by
 rcases Nat.lt_or_ge k (limbs n).length with h' | h'
 ·exact h'
 ·have h1 := val_lt (limbs n)
  rw [val_limbs] at h1
  have : B ^ (limbs n).length ≤ B ^ k := Nat.pow_le_pow_right B_pos h'
  omega
theorem limbs_eq_nil {n : Nat} : limbs n = [] ↔ n = 0 := by
 constructor
 ·intro h
  have := val_limbs n
  rw [h] at this
  exact this.symm
 ·intro h; subst h; exact limbs_zero
theorem take_snoc (l : List UInt32) {n : Nat} (h : n < l.length) : l.take (n + 1) = l.take n ++ [l.getD n 0] := by
 rw [List.take_add_one]
 simp [h]
theorem val_split (l : List UInt32) {m : Nat} (h : m < l.length) : val l = val (l.take m) + B ^ m * ((l.getD m 0).toNat + B * val (l.drop (m + 1))) := by
 have e : l = l.take m ++ (l.getD m 0 :: l.drop (m + 1)) := by
  have : l.drop m = l.getD m 0 :: l.drop (m + 1) := by
   rw [List.drop_eq_getElem_cons h]
   simp [h]
  rw [← this, List.take_append_drop]
 have hl : (l.take m).length = m := by simp; omega
 calc val l = val (l.take m ++ (l.getD m 0 :: l.drop (m + 1))) := by rw [← e]
  _ = _ := by rw [val_append, hl]; rfl
theorem val_take_lt (l : List UInt32) (m : Nat) : val (l.take m) < B ^ m := by
 have h1 := val_lt (l.take m)
 have h2 : (l.take m).length ≤ m := by simp; omega
 exact Nat.lt_of_lt_of_le h1 (Nat.pow_le_pow_right B_pos h2)
theorem cmp_at {a b : List UInt32} {m : Nat} (ha : m < a.length) (hb : m < b.length) (hd : a.drop (m + 1) = b.drop (m + 1)) (h : (a.getD m 0).toNat < (b.getD m 0).toNat) : val a < val b := by
 rw [val_split a ha, val_split b hb, hd]
 have h1 := val_take_lt a m
 have h2 : (a.getD m 0).toNat + 1 + B * val (b.drop (m + 1)) ≤ (b.getD m 0).toNat + B * val (b.drop (m + 1)) := by omega
 have h3 := Nat.mul_le_mul_left (B ^ m) h2
 have h4 : B ^ m * ((a.getD m 0).toNat + 1 + B * val (b.drop (m + 1))) = B ^ m * ((a.getD m 0).toNat + B * val (b.drop (m + 1))) + B ^ m := by
  rw [Nat.add_right_comm, Nat.mul_add (B ^ m) _ 1, Nat.mul_one]
 omega
theorem cmp_len {n m : Nat} (h : (limbs n).length < (limbs m).length) : n < m := by
 have h1 := val_lt (limbs n)
 rw [val_limbs] at h1
 rcases Nat.lt_or_ge n m with h' | h'
 ·exact h'
 ·have h2 := limbs_length_le (Nat.lt_of_le_of_lt h' h1)
  omega
def cmpI (a b : Nat) : Int := if a < b then -1 else if b < a then 1 else 0
theorem cmpI_lt {a b : Nat} (h : a < b) : cmpI a b = -1 := by simp [cmpI, h]
theorem cmpI_gt {a b : Nat} (h : b < a) : cmpI a b = 1 := by simp [cmpI, h, Nat.not_lt.2 (Nat.le_of_lt h)]
theorem cmpI_eq (a : Nat) : cmpI a a = 0 := by simp [cmpI]
theorem val_snoc (l : List UInt32) (x : UInt32) : val (l ++ [x]) = val l + B ^ l.length * x.toNat := by rw [val_append]; simp [val]
theorem val_take_succ (l : List UInt32) {n : Nat} (h : n < l.length) : val (l.take (n + 1)) = val (l.take n) + B ^ n * (l.getD n 0).toNat := by
 rw [take_snoc l h, val_snoc]
 congr 3
 simp; omega
theorem val_take_getD (l : List UInt32) (n : Nat) : val (l.take (n + 1)) = val (l.take n) + B ^ n * (l.getD n 0).toNat := by
 rcases Nat.lt_or_ge n l.length with h | h
 ·exact val_take_succ l h
 ·rw [List.take_of_length_le (by omega), List.take_of_length_le h]
  simp [List.getElem?_eq_none h]
theorem val_set_take (l : List UInt32) {n : Nat} (h : n < l.length) (x : UInt32) : val ((l.set n x).take (n + 1)) = val (l.take n) + B ^ n * x.toNat := by
 rw [val_take_succ _ (by simpa using h)]
 congr 2
 ·rw [List.take_set_of_le (Nat.le_refl _)]
 ·simp [h]
theorem u32_mod (n : Nat) : (UInt32.ofNat n).toNat = n % B := by rw [UInt32.toNat_ofNat']; rfl
theorem val_set (l : List UInt32) {j : Nat} (h : j < l.length) (x : UInt32) : val (l.set j x) + B ^ j * (l.getD j 0).toNat = val l + B ^ j * x.toNat := by
 have hs : j < (l.set j x).length := by simpa using h
 rw [val_split l h, val_split (l.set j x) hs]
 have e1 : (l.set j x).take j = l.take j := List.take_set_of_le (Nat.le_refl _)
 have e2 : (l.set j x).drop (j + 1) = l.drop (j + 1) := by rw [List.drop_set_of_lt (by omega)]
 have e3 : (l.set j x).getD j 0 = x := by simp [h]
 rw [e1, e2, e3, Nat.mul_add, Nat.mul_add]
 omega
theorem val_zeros (n : Nat) : val (List.replicate n 0) = 0 := by
 induction n with
 | zero => rfl
 | succ n ih => simp [List.replicate_succ, val, ih]
theorem getD_set_u (l : List UInt32) (j k : Nat) (x : UInt32) (h : j ≠ k) : (l.set j x).getD k 0 = l.getD k 0 := by
 simp [List.getElem?_set_ne h]
end Go.Proofs.YtcanljninhfmhaaGreat

namespace Go.Proofs.YtcanljninhfmhaaGreat
open Go
set_option linter.unusedVariables false
set_option maxRecDepth 100000
theorem hf209 : Pg.funcs[172]? = some Tryz.f172 := by rw [Pg_eq]; rfl
theorem s209 (l : List UInt32) (hl : l.length < 2^44) : SoundS 172 [nat l] (nat (limbs (val l))) := by
 refine sound_fn hf209 rfl rfl rfl rfl rfl ?_
 cbv
 refine loop_n (σ := Nat) (fun n => ⟨[(0, nat l), (2, .nil), (3, .int .i64 (fun _ => (n : Int)))], []⟩) (fun n => n ≤ l.length ∧ val (l.take n) = val l) (fun n => n) l.length ⟨Nat.le_refl _, by simp⟩ (.le ?_ trivial rfl) ?_
 ·cbv
  exact ⟨leS_refl _, leS_refl _, leS_int (by simp [lm_length]), trivial⟩
 intro n hn
 cbv
 refine br_dec (fun h => ?_) (fun h => ?_)
 ·(try dsimp only [ncast] at *)
  obtain ⟨m, rfl⟩ : ∃ m, n = m + 1 := ⟨n - 1, by omega⟩
  cbv
  refine ⟨in64_of om om, idx_lm m om om ?_⟩
  cbv
  refine cut_dec (fun h2 => ?_) (fun h2 => ?_)
  ·cbv
   refine ⟨in64_of om om, m, ⟨om, ?_⟩, om, .le ?_ trivial rfl⟩
   ·have e : l.getD m 0 = 0 := by
     have : (l.getD m 0).toNat = 0 := om
     exact UInt32.toNat_inj.1 this
    rw [← hn.2, take_snoc l (by omega), e, val_snoc0]
   ·cbv
    exact ⟨leS_refl _, leS_refl _, leS_int om, trivial⟩
  ·cbv
   refine cut_dec (fun h3 => om) (fun h3 => ?_)
   cbv
   refine ⟨slok_of om om om, lm_wid l, ?_⟩
   cbv
   refine ret0 rfl ?_ rfl
   refine leS_sl ?_
   have e : l.getD m 0 ≠ 0 := fun e => by (try dsimp only [ncast] at *); rw [e] at h2; exact h2 rfl
   simp only [lm_take, lm_drop]
   rw [← hn.2, limbs_val (by rw [take_snoc l (by omega), canon_snoc]; simpa using e)]
   rfl
 ·cbv
  refine cut_dec (fun h3 => ?_) (fun h3 => om)
  cbv
  refine ret0 rfl ?_ rfl
  refine leS_nil ?_
  have : n = 0 := om
  subst this
  rw [← hn.2]
  simp [val, limbs_zero, lm]
theorem ty34 : ty 34 = .sli 1 4 [.int .u32 (fun _ => 0)] := by cbv
theorem hf230 : Pg.funcs[192]? = some Tryz.f192 := by rw [Pg_eq]; rfl
theorem s230 (l : List UInt32) (hl : l.length < 2^40) : SoundS 192 [nat l] (nat l) := by
 refine sound_fn hf230 rfl rfl rfl rfl rfl ?_
 cbv
 refine ⟨fun b hb => ?_⟩
 cbv
 refine cut_bool (fun h => ?_) (fun h => ?_)
 ·cbv
  refine ret0 rfl ?_ rfl
  exact leS_nil (hb h)
 ·cbv
  refine app_nil ty34 rfl rfl (lm_wid l) (room_of om om) rfl ?_
  cbv
  refine retW (.frz 7 rfl rfl ?_ ?_) rfl ?_ rfl
  ·cbv
   exact ⟨frok_of (by simp), frok_of (by simp), trivial⟩
  ·exact trivial
  ·refine leS_sl ?_
   simp
theorem hf223 : Pg.funcs[181]? = some Tryz.f181 := by rw [Pg_eq]; rfl
theorem s223 (l : List UInt32) (hl : l.length < 2^40) : SoundS 181 [nat l] (nat (limbs (val l))) := by
 refine sound_fn hf223 rfl rfl rfl rfl rfl ?_
 cbv
 refine callS' rfl (by exact ⟨leS_refl _, trivial⟩) (s209 l (by omega)) rfl ?_
 cbv
 refine callS' rfl (by exact ⟨leS_refl _, trivial⟩) (s230 _ (Nat.lt_of_le_of_lt (limbs_length_le' l) hl)) rfl ?_
 cbv
 refine ret0 rfl ?_ rfl
 exact leS_refl _
theorem canon_last {l : List UInt32} (h : l ≠ []) : canon l = (l.getD (l.length - 1) 0 != 0) := by
 have : l = l.dropLast ++ [l.getD (l.length - 1) 0] := by
  rw [List.getD_eq_getElem?_getD, ← List.getLast?_eq_getElem?, List.getLast?_eq_some_getLast h]
  exact (List.dropLast_concat_getLast h).symm
 rw [this, canon_snoc]
 simp
theorem u32_ne0 (x : UInt32) : (x != 0) = !decide ((x.toNat : Int) = 0) := by
 rw [Bool.eq_iff_iff]
 simp only [bne_iff_ne, ne_eq, Bool.not_eq_true', decide_eq_false_iff_not]
 constructor
 ·intro h e
  exact h (UInt32.toNat_inj.1 (by simpa using e))
 ·intro h e
  exact h (by rw [e]; rfl)
theorem hf160 : Pg.funcs[129]? = some Tryz.f129 := by rw [Pg_eq]; rfl
theorem s160 (l : List UInt32) (hl : l.length < 2^40) : SoundS 129 [nat l] (.bool (fun _ => canon l)) := by
 refine sound_fn hf160 rfl rfl rfl rfl rfl ?_
 cbv
 refine br_dec (fun h => ?_) (fun h => ?_)
 ·cbv
  refine ret0 rfl ?_ rfl
  refine leS_tt ?_
  have : l = [] := List.eq_nil_of_length_eq_zero om
  subst this
  rfl
 ·cbv
  refine ⟨in64_of om om, idx_lm (l.length - 1) om om ?_⟩
  cbv
  refine ret0 rfl ?_ rfl
  refine leS_nbool ?_
  have hne : l ≠ [] := fun e => by subst e; exact h rfl
  rw [canon_last hne]
  exact u32_ne0 _
theorem hf211 : Pg.funcs[174]? = some Tryz.f174 := by rw [Pg_eq]; rfl
theorem s211 (x : Nat) (hx : x < B * B) : SoundS 174 [.int .u64 (fun _ => (x : Int))] (nat (limbs x)) := by
 refine sound_fn hf211 rfl rfl rfl rfl rfl ?_
 cbv
 refine ⟨nn_of (by omega), ?_⟩
 refine callS' rfl (by
  refine ⟨leS_sl ?_, trivial⟩
  have h1 : ishr .u64 (x : Int) 32 = ((x / B : Nat) : Int) := by
   unfold ishr
   simp [IntKind.bits, B, Int.fdiv_eq_ediv_of_nonneg]
  have h2 : x / B < B := Nat.div_lt_of_lt_mul hx
  simp only [mapDD, mapD, toD, lm, List.map_cons, List.map_nil, ncast, h1, nx_u32, ofNat_mod]
  rw [UInt32.toNat_ofNat', Nat.mod_eq_of_lt (show x / B < 2 ^ 32 from h2)]
  simp only [B] at *
  congr 3
  ·congr 1; omega) (s209 [UInt32.ofNat (x % B), UInt32.ofNat (x / B)] (by simp)) rfl ?_
 cbv
 refine ret0 rfl ?_ rfl
 refine leS_sl ?_
 have h2 : x / B < B := Nat.div_lt_of_lt_mul hx
 have : val [UInt32.ofNat (x % B), UInt32.ofNat (x / B)] = x := by
  simp only [val, ofNat_mod]
  rw [UInt32.toNat_ofNat', Nat.mod_eq_of_lt (show x / B < 2 ^ 32 from h2), Nat.mul_zero, Nat.add_zero]
  exact Nat.mod_add_div x B
 rw [this]
theorem hf162 : Pg.funcs[131]? = some Tryz.f131 := by rw [Pg_eq]; rfl
theorem s162 (a b : List UInt32) (ha : a.length < 2^40) (hb : b.length < 2^40) : SoundS 131 [nat a, nat b] (.int .i64 (fun _ => cmpI (val a) (val b))) := by
 refine sound_fn hf162 rfl rfl rfl rfl rfl ?_
 cbv
 refine callS' rfl (by exact ⟨leS_refl _, trivial⟩) (s209 a (by omega)) rfl ?_
 cbv
 refine callS' rfl (by exact ⟨leS_refl _, trivial⟩) (s209 b (by omega)) rfl ?_
 cbv
 have ha' := Nat.lt_of_le_of_lt (limbs_length_le' a) ha
 have hb' := Nat.lt_of_le_of_lt (limbs_length_le' b) hb
 refine cut_dec (fun h => ?_) (fun h => ?_)
 ·cbv
  have hl : (limbs (val a)).length = (limbs (val b)).length := om
  refine ⟨in64_of om om, ?_⟩
  refine loop_n (σ := Nat) (fun n => ⟨[(0, nat (limbs (val a))), (1, nat (limbs (val b))), (5, .int .i64 (fun _ => (n : Int) - 1))], []⟩) (fun n => n ≤ (limbs (val a)).length ∧ (limbs (val a)).drop n = (limbs (val b)).drop n) (fun n => n) (limbs (val a)).length ⟨Nat.le_refl _, by simp [hl]⟩ (.le ?_ trivial rfl) ?_
  ·cbv
   exact ⟨leS_refl _, leS_refl _, leS_int om, trivial⟩
  intro n hn
  cbv
  refine cut_dec (fun h2 => ?_) (fun h2 => ?_)
  ·(try dsimp only [ncast] at *)
   obtain ⟨m, rfl⟩ : ∃ m, n = m + 1 := ⟨n - 1, by omega⟩
   cbv
   refine draw_of 9 (by cbv) ?_
   cbv
   refine idx_lm m om om ?_
   cbv
   refine idx_lm m om om ?_
   cbv
   refine cut_dec (fun h3 => ?_) (fun h3 => ?_)
   ·cbv
    refine ⟨in64_of om om, m, ⟨om, ?_⟩, om, .le ?_ trivial rfl⟩
    ·(try dsimp only [ncast] at *)
     have e : (limbs (val a)).getD m 0 = (limbs (val b)).getD m 0 := UInt32.toNat_inj.1 (by omega)
     rw [List.drop_eq_getElem_cons (by omega : m < (limbs (val a)).length), List.drop_eq_getElem_cons (by omega : m < (limbs (val b)).length), hn.2]
     congr 1
     simpa [show m < (limbs (val a)).length by omega, show m < (limbs (val b)).length by omega] using e
    ·cbv
     exact ⟨leS_refl _, leS_refl _, leS_int om, trivial⟩
   ·cbv
    refine draw_of 9 (by cbv) ?_
    cbv
    refine idx_lm m om om ?_
    cbv
    refine idx_lm m om om ?_
    cbv
    refine cut_dec (fun h4 => ?_) (fun h4 => ?_)
    ·cbv
     refine ret0 rfl ?_ rfl
     refine leS_int ?_
     have := cmp_at (a := limbs (val a)) (b := limbs (val b)) (m := m) om om hn.2 om
     rw [val_limbs, val_limbs] at this
     rw [cmpI_lt this]
    ·cbv
     refine ret0 rfl ?_ rfl
     refine leS_int ?_
     have := cmp_at (a := limbs (val b)) (b := limbs (val a)) (m := m) om om hn.2.symm om
     rw [val_limbs, val_limbs] at this
     rw [cmpI_gt this]
  ·cbv
   refine ret0 rfl ?_ rfl
   refine leS_int ?_
   have h0 : n = 0 := om
   subst h0
   have e : limbs (val a) = limbs (val b) := by simpa using hn.2
   have : val a = val b := by rw [← val_limbs (val a), e, val_limbs]
   rw [this, cmpI_eq]
 ·cbv
  refine cut_dec (fun h2 => ?_) (fun h2 => ?_)
  ·cbv
   refine ret0 rfl ?_ rfl
   refine leS_int ?_
   rw [cmpI_lt (cmp_len om)]
  ·cbv
   refine ret0 rfl ?_ rfl
   refine leS_int ?_
   rw [cmpI_gt (cmp_len om)]
end Go.Proofs.YtcanljninhfmhaaGreat

namespace Go.Proofs.YtcanljninhfmhaaGreat
open Go
set_option linter.unusedVariables false
set_option maxRecDepth 100000
theorem lm_set (l : List UInt32) (i : Nat) (x : UInt32) : (lm l).set i [.int .u32 x.toNat] = lm (l.set i x) := by
 simp [lm, List.map_set]
theorem ishr32 (n : Nat) : ishr .u64 (n : Int) 32 = ((n / B : Nat) : Int) := by
 unfold ishr
 simp [IntKind.bits, B, Int.fdiv_eq_ediv_of_nonneg]
theorem lm_set_nx (out : List UInt32) {k j : Nat} (hk : k = j) (d : Nat) : (lm out).set k [.int .u32 (nx .u32 ((d : Nat) : Int))] = lm (out.set j (UInt32.ofNat d)) := by
 subst hk
 rw [← lm_set, u32_mod, nx_u32]
 simp [B]
theorem hf221 : Pg.funcs[179]? = some Tryz.f179 := by rw [Pg_eq]; rfl
theorem s221 (a b : List UInt32) (ha : a.length < 2^40) (hb : b.length < 2^40) : SoundS 179 [nat a, nat b] (nat (limbs (val a + val b))) := by
 refine sound_fn hf221 rfl rfl rfl rfl rfl ?_
 cbv
 refine callS' rfl (by exact ⟨leS_refl _, trivial⟩) (s209 a (by omega)) rfl ?_
 cbv
 refine callS' rfl (by exact ⟨leS_refl _, trivial⟩) (s209 b (by omega)) rfl ?_
 cbv
 have ha' := Nat.lt_of_le_of_lt (limbs_length_le' a) ha
 have hb' := Nat.lt_of_le_of_lt (limbs_length_le' b) hb
 refine cut_meet (σ := List UInt32 × List UInt32) (fun s => ⟨[(0, nat s.1), (1, nat s.2), (4, .nil)], []⟩) (fun s => s.2.length ≤ s.1.length ∧ s.1.length < 2^40 ∧ val s.1 + val s.2 = val a + val b) (fun h => ?_) (fun h => ?_) ?_
 ·cbv
  refine ⟨(limbs (val b), limbs (val a)), ⟨om, hb', by simp only [val_limbs]; omega⟩, .le ?_ trivial rfl⟩
  cbv
  exact ⟨leS_refl _, leS_refl _, leS_refl _, trivial⟩
 ·cbv
  refine ⟨(limbs (val a), limbs (val b)), ⟨om, ha', by simp only [val_limbs]⟩, .le ?_ trivial rfl⟩
  cbv
  exact ⟨leS_refl _, leS_refl _, leS_refl _, trivial⟩
 intro s hs
 obtain ⟨hpq, hp, hv⟩ := hs
 generalize s.1 = p at *
 generalize s.2 = q at *
 cbv
 refine ⟨in64_of om om, room_of om om, mkok_of om om, ?_⟩
 cbv
 refine loop_n (σ := Nat × Nat × List UInt32) (fun s => ⟨[(0, nat p), (1, nat q), (5, .osl 23 1 (fun _ => 0) (fun _ => p.length + 1)), (6, .int .u64 (fun _ => (s.2.1 : Int))), (24, nat p), (25, .int .i64 (fun _ => (p.length : Int))), (26, .int .i64 (fun _ => (s.1 : Int)))], [(23, .arr 1 (fun _ => lm s.2.2))]⟩)
  (fun s => s.1 ≤ p.length ∧ s.2.1 < 2 ∧ s.2.2.length = p.length + 1 ∧ val (s.2.2.take s.1) + B ^ s.1 * s.2.1 = val (p.take s.1) + val (q.take s.1)) (fun s => p.length - s.1)
  (0, 0, List.replicate (p.length + 1) 0) ⟨om, om, by simp, by simp [val]⟩ (.le ?_ ?_ rfl) ?_
 ·cbv
  exact ⟨leS_refl _, leS_refl _, leS_osl rfl om, leS_refl _, leS_refl _, leS_int om, leS_refl _, trivial⟩
 ·cbv
  refine ⟨elsEq_of ?_, trivial⟩
  show List.replicate (((lm p).length : Int) + 1).toNat _ = _
  have : (((lm p).length : Int) + 1).toNat = p.length + 1 := by rw [lm_length]; omega
  rw [this]
  simp [lm, mapD, toD]
 intro s hs
 obtain ⟨h1, h2, h3, h4⟩ := hs
 generalize s.1 = i at *
 generalize s.2.1 = c at *
 generalize s.2.2 = out at *
 cbv
 refine cut_dec (fun h5 => ?_) (fun h5 => ?_)
 ·cbv
  refine idx_lm i om om ?_
  cbv
  have hpi := u32_lt (p.getD i 0)
  have hqi := u32_lt (q.getD i 0)
  simp only [B] at hpi hqi
  refine cut_meet (σ := Unit) (fun _ => ⟨[(0, nat p), (1, nat q), (5, .osl 23 1 (fun _ => 0) (fun _ => p.length + 1)), (6, .int .u64 (fun _ => ((c + (p.getD i 0).toNat + (q.getD i 0).toNat : Nat) : Int))), (7, .int .i64 (fun _ => (i : Int))), (24, nat p), (25, .int .i64 (fun _ => (p.length : Int))), (26, .int .i64 (fun _ => (i : Int)))], [(23, .arr 1 (fun _ => lm out))]⟩) (fun _ => True) (fun h6 => ?_) (fun h6 => ?_) ?_
  ·cbv
   refine idx_lm i om om ?_
   cbv
   refine ⟨(), trivial, .le ?_ ?_ rfl⟩
   ·cbv
    refine ⟨leS_refl _, leS_refl _, leS_refl _, leS_int ?_, leS_refl _, leS_refl _, leS_refl _, leS_refl _, trivial⟩
    (try dsimp only [ncast] at *)
    simp only [nx_u64]
    omega
   ·cbv
    exact ⟨elsEq_of rfl, trivial⟩
  ·cbv
   refine ⟨(), trivial, .le ?_ ?_ rfl⟩
   ·cbv
    refine ⟨leS_refl _, leS_refl _, leS_refl _, leS_int ?_, leS_refl _, leS_refl _, leS_refl _, leS_refl _, trivial⟩
    have : (q.getD i 0).toNat = 0 := by
     have : q.length ≤ i := om
     simp [List.getElem?_eq_none this]
    (try dsimp only [ncast] at *)
    simp only [nx_u64]
    omega
   ·cbv
    exact ⟨elsEq_of rfl, trivial⟩
  intro _ _
  generalize hd : c + (p.getD i 0).toNat + (q.getD i 0).toNat = d
  cbv
  refine ⟨rng_of om om, el_lm i (by simp) om ?_⟩
  cbv
  refine ⟨nn_of (by omega), in64_of om om, (i + 1, d / B, out.set i (UInt32.ofNat d)), ⟨om, ?_, by simpa using h3, ?_⟩, om, .le ?_ ?_ rfl⟩
  ·show d / B < 2
   simp only [B]
   omega
  ·show val ((out.set i (UInt32.ofNat d)).take (i + 1)) + B ^ (i + 1) * (d / B) = val (p.take (i + 1)) + val (q.take (i + 1))
   rw [val_set_take _ om, val_take_getD p, val_take_getD q, u32_mod]
   have e1 : B ^ i * (d % B) + B ^ (i + 1) * (d / B) = B ^ i * d := by
    rw [Nat.pow_succ, Nat.mul_assoc, ← Nat.mul_add, Nat.mod_add_div]
   have e2 : B ^ i * d = B ^ i * c + B ^ i * (p.getD i 0).toNat + B ^ i * (q.getD i 0).toNat := by rw [← hd, Nat.mul_add, Nat.mul_add]
   omega
  ·cbv
   refine ⟨leS_refl _, leS_refl _, leS_refl _, leS_int (ishr32 d), leS_refl _, leS_refl _, leS_int om, trivial⟩
  ·cbv
   exact ⟨elsEq_of (lm_set_nx out (by simp) d), trivial⟩
 ·cbv
  refine ⟨rng_of om om, el_lm p.length (by simp [lm_length]) om ?_⟩
  cbv
  have hi : i = p.length := om
  subst hi
  refine callW (.trans (.le (ps' := ⟨[(60, .osl 23 1 (fun _ => 0) (fun _ => p.length + 1))], [(23, .arr 1 (fun _ => lm (out.set p.length (UInt32.ofNat c))))]⟩) ?_ ?_ rfl) (.frz 23 rfl rfl ?_ ?_)) rfl (by refine ⟨leS_sl ?_, trivial⟩; exact List.take_of_length_le (by simp [lm_length] <;> omega)) (s209 (out.set p.length (UInt32.ofNat c)) (by simp; omega)) rfl ?_
  ·cbv
   exact ⟨leS_refl _, trivial⟩
  ·cbv
   exact ⟨elsEq_of (lm_set_nx out (by simp [lm_length]) c), trivial⟩
  ·cbv
   exact ⟨frok_of (by simp [lm_length]; omega), trivial⟩
  ·exact trivial
  cbv
  refine ret0 rfl ?_ rfl
  refine leS_sl ?_
  congr 2
  have e := val_set_take out (n := p.length) (by omega) (UInt32.ofNat c)
  rw [List.take_of_length_le (by simp; omega), u32_mod, Nat.mod_eq_of_lt (show c < B by simp only [B]; omega), h4, List.take_of_length_le (Nat.le_refl _), List.take_of_length_le hpq] at e
  omega
end Go.Proofs.YtcanljninhfmhaaGreat

namespace Go.Proofs.YtcanljninhfmhaaGreat
open Go
set_option linter.unusedVariables false
set_option maxRecDepth 100000
theorem lm_set_to (out : List UInt32) {k j : Nat} (hk : k = j) {z : Int} {w : Nat} (hz : z = (w : Int)) (hw : w < B) : (lm out).set k [.int .u32 z] = lm (out.set j (UInt32.ofNat w)) := by
 subst hk hz
 rw [← lm_set, u32_mod, Nat.mod_eq_of_lt hw]
theorem ishr63 (z : Int) : ishr .u64 z 63 = z / 9223372036854775808 := by
 unfold ishr
 simp [IntKind.bits, Int.fdiv_eq_ediv_of_nonneg]
theorem hf222 : Pg.funcs[180]? = some Tryz.f180 := by rw [Pg_eq]; rfl
theorem s222 (a b : List UInt32) (ha : a.length < 2^40) (hb : b.length < 2^40) : SoundS 180 [nat a, nat b] (.tup [nat (limbs (val a - val b)), .int .i64 (fun _ => if val b ≤ val a then 0 else 2)]) := by
 refine sound_fn hf222 rfl rfl rfl rfl rfl ?_
 cbv
 refine callS' rfl (by exact ⟨leS_refl _, trivial⟩) (s209 a (by omega)) rfl ?_
 cbv
 refine callS' rfl (by exact ⟨leS_refl _, trivial⟩) (s209 b (by omega)) rfl ?_
 cbv
 have ha' := Nat.lt_of_le_of_lt (limbs_length_le' a) ha
 have hb' := Nat.lt_of_le_of_lt (limbs_length_le' b) hb
 refine callS' rfl (by exact ⟨leS_refl _, leS_refl _, trivial⟩) (s162 _ _ ha' hb') rfl ?_
 cbv
 simp only [val_limbs]
 refine cut_dec (fun h => ?_) (fun h => ?_)
 ·have h' : val a < val b := by
   rcases Nat.lt_trichotomy (val a) (val b) with h1 | h1 | h1
   ·exact h1
   ·rw [h1, cmpI_eq] at h; omega
   ·rw [cmpI_gt h1] at h; omega
  cbv
  refine ret0 rfl ?_ rfl
  refine ⟨leS_nil ?_, leS_int ?_, trivial⟩
  ·rw [Nat.sub_eq_zero_of_le (by omega), limbs_zero]; rfl
  ·rw [if_neg (by omega)]
 have hle : val b ≤ val a := by
  rcases Nat.lt_or_ge (val a) (val b) with h1 | h1
  ·rw [cmpI_lt h1] at h; omega
  ·exact h1
 have hv : val (limbs (val a)) = val a := val_limbs _
 have hv2 : val (limbs (val b)) = val b := val_limbs _
 have hpq : (limbs (val b)).length ≤ (limbs (val a)).length := by
  rcases Nat.lt_or_ge (limbs (val a)).length (limbs (val b)).length with h1 | h1
  ·have := cmp_len h1; omega
  ·exact h1
 generalize limbs (val a) = p at *
 generalize limbs (val b) = q at *
 cbv
 refine ⟨room_of om om, mkok_of om om, ?_⟩
 cbv
 refine loop_n (σ := Nat × Nat × List UInt32) (fun s => ⟨[(0, nat p), (1, nat q), (6, .osl 21 1 (fun _ => 0) (fun _ => p.length)), (7, .int .u64 (fun _ => (s.2.1 : Int))), (22, nat p), (23, .int .i64 (fun _ => (p.length : Int))), (24, .int .i64 (fun _ => (s.1 : Int)))], [(21, .arr 1 (fun _ => lm s.2.2))]⟩)
  (fun s => s.1 ≤ p.length ∧ s.2.1 < 2 ∧ s.2.2.length = p.length ∧ val (s.2.2.take s.1) + val (q.take s.1) = val (p.take s.1) + B ^ s.1 * s.2.1) (fun s => p.length - s.1)
  (0, 0, List.replicate p.length 0) ⟨om, om, by simp, by simp [val]⟩ (.le ?_ ?_ rfl) ?_
 ·cbv
  exact ⟨leS_refl _, leS_refl _, leS_osl rfl om, leS_refl _, leS_refl _, leS_int om, leS_refl _, trivial⟩
 ·cbv
  refine ⟨elsEq_of ?_, trivial⟩
  show List.replicate (((lm p).length : Int)).toNat _ = _
  have : (((lm p).length : Int)).toNat = p.length := by rw [lm_length]; omega
  rw [this]
  simp [lm, mapD, toD]
 intro s hs
 obtain ⟨h1, h2, h3, h4⟩ := hs
 generalize s.1 = i at *
 generalize s.2.1 = c at *
 generalize s.2.2 = out at *
 cbv
 refine cut_dec (fun h5 => ?_) (fun h5 => ?_)
 ·cbv
  refine idx_lm i om om ?_
  cbv
  have hpi := u32_lt (p.getD i 0)
  have hqi := u32_lt (q.getD i 0)
  simp only [B] at hpi hqi
  refine cut_meet (σ := Unit) (fun _ => ⟨[(0, nat p), (1, nat q), (6, .osl 21 1 (fun _ => 0) (fun _ => p.length)), (10, .int .u64 (fun _ => nx .u64 (((p.getD i 0).toNat : Int) - (c : Int) - ((q.getD i 0).toNat : Int)))), (8, .int .i64 (fun _ => (i : Int))), (22, nat p), (23, .int .i64 (fun _ => (p.length : Int))), (24, .int .i64 (fun _ => (i : Int)))], [(21, .arr 1 (fun _ => lm out))]⟩) (fun _ => True) (fun h6 => ?_) (fun h6 => ?_) ?_
  ·cbv
   refine idx_lm i om om ?_
   cbv
   refine ⟨(), trivial, .le ?_ ?_ rfl⟩
   ·cbv
    refine ⟨leS_refl _, leS_refl _, leS_refl _, leS_int ?_, leS_refl _, leS_refl _, leS_refl _, leS_refl _, trivial⟩
    (try dsimp only [ncast] at *)
    simp only [nx_u64]
    omega
   ·cbv
    exact ⟨elsEq_of rfl, trivial⟩
  ·cbv
   refine ⟨(), trivial, .le ?_ ?_ rfl⟩
   ·cbv
    refine ⟨leS_refl _, leS_refl _, leS_refl _, leS_int ?_, leS_refl _, leS_refl _, leS_refl _, leS_refl _, trivial⟩
    have : (q.getD i 0).toNat = 0 := by
     have : q.length ≤ i := om
     simp [List.getElem?_eq_none this]
    (try dsimp only [ncast] at *)
    simp only [nx_u64]
    omega
   ·cbv
    exact ⟨elsEq_of rfl, trivial⟩
  intro _ _
  obtain ⟨w, c', hw, hc', he⟩ : ∃ w c' : Nat, w < B ∧ c' < 2 ∧ (p.getD i 0).toNat + B * c' = w + c + (q.getD i 0).toNat := by
   simp only [B]
   by_cases hlt : (p.getD i 0).toNat < c + (q.getD i 0).toNat
   ·exact ⟨(p.getD i 0).toNat + 4294967296 - c - (q.getD i 0).toNat, 1, by omega, by omega, by omega⟩
   ·exact ⟨(p.getD i 0).toNat - c - (q.getD i 0).toNat, 0, by omega, by omega, by omega⟩
  have hz : nx .u64 (((p.getD i 0).toNat : Int) - (c : Int) - ((q.getD i 0).toNat : Int)) = if c' = 0 then (w : Int) else (w : Int) + 18446744069414584320 := by
   rw [nx_u64]
   simp only [B] at *
   split <;> omega
  simp only [hz]
  cbv
  refine ⟨rng_of om om, el_lm i (by simp) om ?_⟩
  cbv
  refine ⟨nn_of (by omega), in64_of om om, (i + 1, c', out.set i (UInt32.ofNat w)), ⟨om, hc', by simpa using h3, ?_⟩, om, .le ?_ ?_ rfl⟩
  ·show val ((out.set i (UInt32.ofNat w)).take (i + 1)) + val (q.take (i + 1)) = val (p.take (i + 1)) + B ^ (i + 1) * c'
   rw [val_set_take _ om, val_take_getD p, val_take_getD q, u32_mod, Nat.mod_eq_of_lt hw]
   have e1 : B ^ i * (p.getD i 0).toNat + B ^ (i + 1) * c' = B ^ i * w + B ^ i * c + B ^ i * (q.getD i 0).toNat := by
    rw [Nat.pow_succ, Nat.mul_assoc, ← Nat.mul_add, he, Nat.mul_add, Nat.mul_add]
   omega
  ·cbv
   refine ⟨leS_refl _, leS_refl _, leS_refl _, leS_int ?_, leS_refl _, leS_refl _, leS_int om, trivial⟩
   rw [ishr63]
   show (if c' = 0 then (w : Int) else (w : Int) + 18446744069414584320) / 9223372036854775808 = (c' : Int)
   simp only [B] at hw
   split <;> omega
  ·cbv
   refine ⟨elsEq_of (lm_set_to out (by simp) ?_ hw), trivial⟩
   show nx .u32 (if c' = 0 then (w : Int) else (w : Int) + 18446744069414584320) = (w : Int)
   rw [nx_u32]
   simp only [B] at hw
   split <;> omega
 ·cbv
  have hi : i = p.length := om
  subst hi
  refine callW (.trans (.le (ps' := ⟨[(52, .osl 21 1 (fun _ => 0) (fun _ => p.length))], [(21, .arr 1 (fun _ => lm out))]⟩) ?_ ?_ rfl) (.frz 21 rfl rfl ?_ ?_)) rfl (by refine ⟨leS_sl ?_, trivial⟩; exact List.take_of_length_le (by simp [lm_length] <;> omega)) (s209 out (by omega)) rfl ?_
  ·cbv
   exact ⟨leS_refl _, trivial⟩
  ·cbv
   exact ⟨elsEq_of rfl, trivial⟩
  ·cbv
   exact ⟨frok_of (by simp [lm_length] <;> omega), trivial⟩
  ·exact trivial
  cbv
  refine ret0 rfl ?_ rfl
  rw [List.take_of_length_le (by omega), List.take_of_length_le hpq, List.take_of_length_le (Nat.le_refl _)] at h4
  have hlo := val_lt out
  have hlq := val_lt q
  have hc0 : c = 0 := by
   rcases Nat.eq_zero_or_pos c with h6 | h6
   ·exact h6
   ·exfalso
    have : c = 1 := by omega
    subst this
    rw [h3] at hlo
    omega
  subst hc0
  refine ⟨leS_sl ?_, leS_int ?_, trivial⟩
  ·congr 2; omega
  ·rw [if_pos hle]
end Go.Proofs.YtcanljninhfmhaaGreat
