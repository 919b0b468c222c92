/- A part of the proof: NtI, NtJ. -/
import Derived.Test.YtcanljninhfmhaaGreatS20
set_option linter.all false
namespace Go.Proofs.YtcanljninhfmhaaGreat
open Go
set_option linter.unusedVariables false
set_option maxRecDepth 100000
theorem callK {g : Operand} {as_ : List Operand} {dst : Option Nat} {ps ps' : PS} {K : PS → Prop} {f : FuncId} {caps cargs : List PV} {kept eaten : List (Nat × Obj')} {r : PV} {kept' made : List (Nat × Obj')} (hn : Nat → Nat) (hw : Wk ps ps')
  (h1 : ev (lookT ps'.tmps) g = .fn f caps) (h2 : allLe les (evs (ev (lookT ps'.tmps)) as_ ++ caps) (renL hn cargs)) (h3 : Sound f cargs kept eaten r kept' made) (h4 : hasObjs hn ps'.objs (kept ++ eaten))
  (h5 : ndO (namesH hn (kept ++ eaten)) = true) (h5' : ndO (kept ++ eaten) = true) (h6 : closedOs (kept' ++ made) = true) (h7 : ndO (namesH hn made) = true) (h8 : freeAll hn (ownMid hn eaten ps') made = true) (h9 : allL lv cargs = true) (h10 : lv r = true) (h11 : nmIn (nmsO (kept' ++ made)) r = true)
  (h12 : K (put (ownNext hn eaten kept' made ps') dst (ren hn r))) : CallOk g as_ dst ps K :=
 ⟨ps', hw, f, caps, h1, .inr ⟨hn, cargs, kept, eaten, r, kept', made, lesL_le h2, h3, h4, h5, h5', h6, h7, h8, h9, h10, h11, h12⟩⟩
theorem bitLen_gt : ∀ (n x : Nat), x ≤ n → x < 4294967296 → x < 2 ^ Lib.bitLen x
 | 0, x, h, _ => by
  have : x = 0 := by omega
  subst this
  exact Nat.two_pow_pos _
 | n + 1, x, h, hx => by
  rcases Nat.eq_zero_or_pos x with e | e
  ·subst e; exact Nat.two_pow_pos _
  ·rw [Lib.bitLen_half x (by omega) (by omega), Nat.add_comm, Nat.pow_succ]
   have := bitLen_gt n (x / 2) (by omega) (by omega)
   omega
theorem bitLen_ge {x : Nat} (h : x ≠ 0) (hx : x < 4294967296) : 2 ^ (Lib.bitLen x - 1) ≤ x := by
 rcases Nat.lt_or_ge x (2 ^ (Lib.bitLen x - 1)) with h1 | h1
 ·have h2 := Lib.bitLen_le x (Lib.bitLen x - 1) (by have := bitLen_lt hx; omega) h1
  have := bitLen_pos h hx
  omega
 ·exact h1
theorem norm_shift {x : Nat} (h : x ≠ 0) (hx : x < 4294967296) : 32 - Lib.bitLen x < 32 ∧ 2147483648 ≤ x * 2 ^ (32 - Lib.bitLen x) ∧ x * 2 ^ (32 - Lib.bitLen x) < 4294967296 := by
 have h1 := bitLen_ge h hx
 have h2 := bitLen_gt x x (Nat.le_refl _) hx
 have h3 := bitLen_lt hx
 have h4 := bitLen_pos h hx
 generalize Lib.bitLen x = k at *
 refine ⟨by omega, ?_, ?_⟩
 ·have h5 := Nat.mul_le_mul_right (2 ^ (32 - k)) h1
  rw [← Nat.pow_add] at h5
  have : k - 1 + (32 - k) = 31 := by omega
  rw [this] at h5
  exact h5
 ·have h5 := Nat.mul_lt_mul_of_pos_right h2 (Nat.two_pow_pos (32 - k))
  rw [← Nat.pow_add] at h5
  have : k + (32 - k) = 32 := by omega
  rw [this] at h5
  exact h5
theorem hf226 : Pg.funcs[184]? = some Tryz.f184 := by rw [Pg_eq]; rfl
theorem top_ge {p : List UInt32} (hc : canon p = true) {n : Nat} (hl : p.length = n + 1) : B ^ n ≤ val p := by
 have hne : p ≠ [] := fun e => by rw [e] at hl; simp at hl
 have h1 := canon_last hne
 rw [hc] at h1
 have h2 : (p.getD n 0).toNat ≠ 0 := by
  intro e
  have : p.getD (p.length - 1) 0 = 0 := by rw [hl]; exact UInt32.toNat_inj.1 e
  rw [this] at h1
  exact absurd h1 (by decide)
 have h3 := val_take_getD p n
 rw [List.take_of_length_le (by omega)] at h3
 have := Nat.mul_le_mul_left (B ^ n) (show 1 ≤ (p.getD n 0).toNat by omega)
 omega
structure DivInv (A V N M : Nat) (k : Nat) (u out : List UInt32) : Prop where
 kle : k ≤ M
 lu : u.length = N
 lo : out.length = M
 lt : val (u.drop k) < V
 eq : val u + V * (B ^ k * val (out.drop k)) = A
theorem div_step {A V N M i n q : Nat} {u out : List UInt32} (h : DivInv A V N M (i + 1) u out) (hV : V < B ^ (n + 2)) (h0 : 0 < V) (hN : i + n + 3 ≤ N) :
  let x := (u.drop i).take (n + 3)
  let pre := u.take i
  let post := u.drop (i + (n + 3))
  u = pre ++ (x ++ post) ∧ x.length = n + 3 ∧ pre.length = i ∧ val x < B * V ∧ (q = val x / V → q < B ∧ DivInv A V N M i (pre ++ (pad (val x - q * V) (n + 3) ++ post)) (out.set i (UInt32.ofNat q))) := by
 intro x pre post
 have hlu := h.lu
 have e1 : x ++ post = u.drop i := by
  show (u.drop i).take (n + 3) ++ u.drop (i + (n + 3)) = u.drop i
  rw [← List.drop_drop, List.take_append_drop]
 have e0 : u = pre ++ (x ++ post) := by rw [e1]; exact (List.take_append_drop i u).symm
 have hxl : x.length = n + 3 := by show ((u.drop i).take (n + 3)).length = _; rw [List.length_take, List.length_drop]; omega
 have hpl : pre.length = i := by show (u.take i).length = _; rw [List.length_take]; omega
 have hpost : val post = 0 := by
  have h2 := val_zero_of_lt (l := u.drop (i + 1)) (n + 2) (by rw [List.length_drop]; omega) (Nat.lt_trans h.lt hV)
  rw [List.drop_drop] at h2
  have : i + 1 + (n + 2) = i + (n + 3) := by omega
  rw [this] at h2
  exact h2
 have hdi : val (u.drop i) = val x := by
  rw [← e1, val_append, hpost]; omega
 have hxv : val x < B * V := by
  have h3 := val_drop_cons (l := u) (i := i) (by omega)
  have h4 := u32_lt (u.getD i 0)
  have h5 := Nat.mul_le_mul_left B (show val (u.drop (i + 1)) + 1 ≤ V from h.lt)
  rw [Nat.mul_add] at h5
  omega
 refine ⟨e0, hxl, hpl, hxv, fun hq => ?_⟩
 obtain ⟨r1, r2, r3⟩ := div_round (pre := pre) (x := x) (post := post) (V := V) (n := n + 2) hxl hpost (by rw [Nat.mul_comm]; exact hxv) hV h0 hq
 have r3 : val (pre ++ (pad (val x - q * V) (n + 3) ++ post)) + V * (B ^ pre.length * q) = val (pre ++ (x ++ post)) := r3
 have hk := h.kle
 have hlo := h.lo
 refine ⟨r1, by omega, ?_, by simpa using hlo, ?_, ?_⟩
 ·have hpad : (pad (val x - q * V) (n + 3)).length = n + 3 := by
   refine pad_length (Nat.lt_of_le_of_lt (Nat.sub_le _ _) ?_)
   have := val_lt x
   rw [hxl] at this
   exact this
  rw [List.length_append, List.length_append, hpad, hpl]
  show i + (n + 3 + (u.drop (i + (n + 3))).length) = N
  rw [List.length_drop]; omega
 ·rw [List.drop_append_of_le_length (by omega), List.drop_of_length_le (by omega), List.nil_append]
  exact r2
 ·have h6 := h.eq
  rw [← e0, hpl] at r3
  have h7 := val_drop_set (l := out) (i := i) (by omega) (UInt32.ofNat q)
  rw [u32_mod, Nat.mod_eq_of_lt r1] at h7
  rw [show B ^ (i + 1) = B ^ i * B from Nat.pow_succ _ _] at h6
  rw [h7, Nat.mul_add (B ^ i), Nat.mul_add V, ← Nat.mul_assoc (B ^ i) B]
  omega
theorem s226 (a b : List UInt32) (ha : a.length < 2^39) (hb : b.length < 2^39) (h0 : val b ≠ 0) : SoundS 184 [nat a, nat b] (.tup [nat (limbs (val a / val b)), nat (limbs (val a % val b)), .int .i64 (fun _ => 0)]) := by
  refine sound_fn hf226 rfl rfl rfl rfl rfl ?_
  have ha' := Nat.lt_of_le_of_lt (limbs_length_le' a) ha
  have hb' := Nat.lt_of_le_of_lt (limbs_length_le' b) hb
  have hB : B = 4294967296 := rfl
  cbv
  refine callS' rfl (by exact ⟨leS_refl _, trivial⟩) (s209 a (by omega)) rfl ?_
  cbv
  refine callS' rfl (by exact ⟨leS_refl _, trivial⟩) (s209 b (by omega)) rfl ?_
  have hva : val (limbs (val a)) = val a := val_limbs _
  have hvb : val (limbs (val b)) = val b := val_limbs _
  have hca := canon_limbs (val a)
  have hcb := canon_limbs (val b)
  have hqne : (limbs (val b)).length ≠ 0 := fun e => h0 (limbs_eq_nil.1 (List.eq_nil_of_length_eq_zero e))
  have hlen : ¬ val a < val b → (limbs (val b)).length ≤ (limbs (val a)).length := by
    intro h
    rcases Nat.lt_or_ge (limbs (val a)).length (limbs (val b)).length with h1 | h1
    · exact absurd (cmp_len h1) h
    · exact h1
  generalize limbs (val a) = p at *
  generalize limbs (val b) = q at *
  cbv
  refine cut_dec (fun h => absurd (show q.length = 0 by (try dsimp only [ncast] at *); rw [lm_length] at h; omega) hqne) (fun h => ?_)
  cbv
  refine callS' rfl (by exact ⟨leS_refl _, leS_refl _, trivial⟩) (s162 p q (by omega) (by omega)) rfl ?_
  rw [hva, hvb]
  have hcmp : cmpI (val a) (val b) < 0 ↔ val a < val b := by
    unfold cmpI
    split
    · omega
    · split <;> omega
  generalize cmpI (val a) (val b) = cm at *
  cbv
  refine cut_dec (fun h1 => ?_) (fun h1 => ?_)
  · have hlt := hcmp.1 h1
    cbv
    refine callS' rfl (by exact ⟨leS_refl _, trivial⟩) (s223 p (by omega)) rfl ?_
    cbv
    refine ret0 rfl ?_ rfl
    refine ⟨leS_nil ?_, leS_sl ?_, leS_refl _, trivial⟩
    · rw [Nat.div_eq_of_lt hlt, limbs_zero]; rfl
    · rw [hva, Nat.mod_eq_of_lt hlt]
  · have hge : ¬ val a < val b := fun e => h1 (hcmp.2 e)
    have hlpq := hlen hge
    cbv
    refine cut_dec (fun h2 => ?_) (fun h2 => ?_)
    · have hq1 : q.length = 1 := by (try dsimp only [ncast] at *); rw [lm_length] at h2; omega
      cbv
      refine idx_lm 0 rfl (by omega) ?_
      cbv
      have hvq : val b = (q.getD 0 0).toNat := by
        have := val_take_getD q 0
        rw [List.take_of_length_le (by omega)] at this
        simp [val] at this
        rw [← hvb, this]
        simp
      refine callS' rfl (by exact ⟨leS_refl _, leS_refl _, trivial⟩) (s232 p (q.getD 0 0).toNat (by omega) (u32_lt _) (by omega)) rfl ?_
      cbv
      refine ret0 rfl ?_ rfl
      exact ⟨leS_sl (by rw [hva, hvq]), leS_sl (by rw [hva, hvq]), leS_refl _, trivial⟩
    · have hq2 : q.length ≠ 1 := by (try dsimp only [ncast] at *); rw [lm_length] at h2; omega
      obtain ⟨n, hn⟩ : ∃ n, q.length = n + 2 := ⟨q.length - 2, by omega⟩
      have htl : (q.getD (n + 1) 0).toNat ≠ 0 := by
        intro e
        have h3 := canon_last (l := q) (fun e => by rw [e] at hn; simp at hn)
        have : q.getD (q.length - 1) 0 = 0 := by rw [hn]; exact UInt32.toNat_inj.1 e
        rw [this, hcb] at h3
        exact absurd h3 (by decide)
      obtain ⟨hs1, hs2, hs3⟩ := norm_shift htl (u32_lt (q.getD (n + 1) 0))
      have hbl := bitLen_lt (u32_lt (q.getD (n + 1) 0))
      cbv
      refine ⟨in64_of om om, idx_lm (n + 1) om om ?_⟩
      cbv
      refine callS' rfl (by exact ⟨leS_refl _, trivial⟩) (s233 (q.getD (n + 1) 0).toNat (u32_lt _)) rfl ?_
      have hsi : (32 : Int) - ((Lib.bitLen (q.getD (n + 1) 0).toNat : Nat) : Int) = ((32 - Lib.bitLen (q.getD (n + 1) 0).toNat : Nat) : Int) := by omega
      rw [hsi]
      generalize hsd : 32 - Lib.bitLen (q.getD (n + 1) 0).toNat = s at *
      cbv
      refine callK (fun _ => 55) (.refl _) rfl (by exact ⟨leS_refl _, leS_refl _, trivial⟩) (s234 p s (by omega) hs1) trivial rfl rfl rfl rfl rfl rfl rfl rfl ?_
      cbv
      refine callK (fun _ => 58) (.refl _) rfl (by exact ⟨leS_refl _, leS_refl _, trivial⟩) (s234 q s (by omega) hs1) trivial rfl rfl rfl rfl rfl rfl rfl rfl ?_
      cbv
      
      have hVlt : val q * 2 ^ s < B ^ (n + 2) := by
        have h3 := val_take_getD q (n + 1)
        have h4 := val_take_lt q (n + 1)
        rw [List.take_of_length_le (by omega)] at h3
        rw [h3, Nat.add_mul, Nat.mul_assoc, show B ^ (n + 2) = B ^ (n + 1) * B from Nat.pow_succ _ _]
        have h5 := Nat.mul_lt_mul_of_pos_right h4 (Nat.two_pow_pos s)
        have h6 : (q.getD (n + 1) 0).toNat * 2 ^ s + 2 ^ s ≤ B := by
          obtain ⟨z, hz⟩ : 2 ^ s ∣ B := ⟨2 ^ (32 - s), by rw [← Nat.pow_add]; have : s + (32 - s) = 32 := by omega
                                                          rw [this]; rfl⟩
          rw [hz, Nat.mul_comm _ (2 ^ s), ← Nat.mul_succ]
          refine Nat.mul_le_mul_left _ ?_
          have : 2 ^ s * (q.getD (n + 1) 0).toNat < 2 ^ s * z := by rw [← hz, Nat.mul_comm]; exact hs3
          exact Nat.lt_of_mul_lt_mul_left this
        have h7 := Nat.mul_le_mul_left (B ^ (n + 1)) h6
        rw [Nat.mul_add] at h7
        omega
      have hqge := top_ge hcb (n := n + 1) hn
      have hVge : B ^ (n + 1) * 2 ^ s ≤ val q * 2 ^ s := Nat.mul_le_mul_right _ hqge
      have hVtop : B ^ (n + 1) * 2147483648 ≤ val q * 2 ^ s := by
        have h3 := val_take_getD q (n + 1)
        rw [List.take_of_length_le (by omega)] at h3
        rw [h3, Nat.add_mul, Nat.mul_assoc]
        have := Nat.mul_le_mul_left (B ^ (n + 1)) hs2
        omega
      have hp2 := Nat.two_pow_pos s
      have hBn := Nat.pow_pos (n := n + 1) B_pos
      have hV0 : 0 < val q * 2 ^ s := by omega
      have hvl : (limbs (val q * 2 ^ s)).length = n + 2 := by
        have h3 := limbs_length_le hVlt
        have h4 := limbs_length_gt (n := val q * 2 ^ s) (k := n + 1) (by omega)
        omega
      have hvv := val_limbs (val q * 2 ^ s)
      have hpl := val_lt p
      have hA0 : val ((pad (val p * 2 ^ s) (p.length + 1)).drop (p.length - q.length + 1)) < val q * 2 ^ s := by
        have hpx : val p * 2 ^ s < B ^ (p.length + 1) := by
          rw [Nat.pow_succ]
          refine Nat.lt_of_lt_of_le (Nat.mul_lt_mul_of_pos_right hpl hp2) (Nat.mul_le_mul_left _ ?_)
          exact Nat.le_of_lt (Nat.pow_lt_pow_right (show 1 < 2 by omega) hs1)
        have h3 := val_drop (l := pad (val p * 2 ^ s) (p.length + 1)) (p.length - q.length + 1) (by rw [pad_length hpx]; omega)
        rw [val_pad] at h3
        have h4 : B ^ p.length = B ^ (p.length - q.length + 1) * B ^ (n + 1) := by rw [← Nat.pow_add]; congr 1; omega
        have h5 : B ^ (p.length - q.length + 1) * val ((pad (val p * 2 ^ s) (p.length + 1)).drop (p.length - q.length + 1)) < B ^ (p.length - q.length + 1) * (B ^ (n + 1) * 2 ^ s) := by
          rw [← Nat.mul_assoc, ← h4]
          have := Nat.mul_lt_mul_of_pos_right hpl hp2
          omega
        have := Nat.lt_of_mul_lt_mul_left h5
        omega
      have hpadl : (pad (val p * 2 ^ s) (p.length + 1)).length = p.length + 1 := by
        refine pad_length ?_
        rw [Nat.pow_succ]
        refine Nat.lt_of_lt_of_le (Nat.mul_lt_mul_of_pos_right hpl hp2) (Nat.mul_le_mul_left _ ?_)
        exact Nat.le_of_lt (Nat.pow_lt_pow_right (show 1 < 2 by omega) hs1)
      have hpadv := val_pad (val p * 2 ^ s) (p.length + 1)
      have hfrz : ((lm (pad (val q * 2 ^ s) (q.length + 1))).drop 0).take (q.length + 1) = lm (pad (val q * 2 ^ s) (q.length + 1)) := by
        rw [List.drop_zero]
        refine List.take_of_length_le ?_
        rw [lm_length, pad_length (Nat.lt_trans hVlt (by rw [hn]; exact Nat.pow_lt_pow_right (by decide) (by omega)))]
        exact Nat.le_refl _
      have hpql : (pad (val q * 2 ^ s) (q.length + 1)).length = q.length + 1 :=
        pad_length (Nat.lt_trans hVlt (by rw [hn]; exact Nat.pow_lt_pow_right (by decide) (by omega)))
      have hvpq := val_pad (val q * 2 ^ s) (q.length + 1)
      generalize pad (val q * 2 ^ s) (q.length + 1) = vq at *
      generalize hU0 : pad (val p * 2 ^ s) (p.length + 1) = u0 at *
      refine callW (.trans (.le (ps' := ⟨[(0, nat p), (1, nat q), (9, .int .i64 (fun _ => (s : Int))), (55, .osl 55 1 (fun _ => 0) (fun _ => p.length + 1)), (58, .osl 58 1 (fun _ => 0) (fun _ => q.length + 1))], [(55, .arr 1 (fun _ => lm u0)), (58, .arr 1 (fun _ => lm vq))]⟩) ?_ ?_ rfl) (.frz 58 rfl rfl ?_ ?_)) rfl (by refine ⟨leS_sl ?_, trivial⟩; exact hfrz) (s209 vq (by omega)) rfl ?_
      · cbv
        exact ⟨leS_refl _, leS_refl _, leS_refl _, leS_refl _, leS_refl _, trivial⟩
      · cbv
        exact ⟨elsEq_of rfl, elsEq_of rfl, trivial⟩
      · cbv
        refine ⟨frok_of ?_, trivial⟩
        rw [lm_length]; omega
      · exact trivial
      rw [hvpq]
      have hdiv : val a / val b = val p * 2 ^ s / (val q * 2 ^ s) := by rw [hva, hvb, Nat.mul_div_mul_right _ _ hp2]
      have hmod : val p * 2 ^ s % (val q * 2 ^ s) = (val a % val b) * 2 ^ s := by rw [hva, hvb, Nat.mul_mod_mul_right]
      clear hVge hqge hfrz
      generalize hVV : val q * 2 ^ s = V at *
      generalize limbs V = v at *
      generalize hAA : val p * 2 ^ s = A at *
      have hvt := val_top2 hvl
      rw [hvv] at hvt
      have hvtl := val_take_lt v n
      have hvtl1 := val_take_lt v (n + 1)
      have hvtop := val_take_getD v (n + 1)
      rw [List.take_of_length_le (by omega), hvv] at hvtop
      have hnorm : B ≤ 2 * (v.getD (n + 1) 0).toNat := by
        rcases Nat.lt_or_ge (2 * (v.getD (n + 1) 0).toNat) B with h3 | h3
        · exfalso
          have h4 := Nat.mul_le_mul_left (B ^ (n + 1)) (show (v.getD (n + 1) 0).toNat + 1 ≤ 2147483648 by omega)
          rw [Nat.mul_add] at h4
          omega
        · exact h3
      obtain ⟨M, hM⟩ : ∃ M, M = p.length - q.length + 1 := ⟨_, rfl⟩
      rw [← hM] at hA0
      cbv
      refine ⟨in64_of om om, in64_of om om, room_of om om, mkok_of om om, in64_of om om, ?_⟩
      refine loop_n (σ := Nat × List UInt32 × List UInt32) (fun z => ⟨[(9, .int .i64 (fun _ => (s : Int))), (10, .osl 55 1 (fun _ => 0) (fun _ => p.length + 1)), (11, nat v), (12, .osl 66 1 (fun _ => 0) (fun _ => M)), (13, .int .i64 (fun _ => (z.1 : Int) - 1))], [(55, .arr 1 (fun _ => lm z.2.1)), (66, .arr 1 (fun _ => lm z.2.2))]⟩)
        (fun z => DivInv A V (p.length + 1) M z.1 z.2.1 z.2.2) (fun z => z.1) (M, u0, List.replicate M 0) ⟨Nat.le_refl _, hpadl, by simp, hA0, by simp [val]; exact hpadv⟩ (.le ?_ ?_ rfl) ?_
      · cbv
        exact ⟨leS_refl _, leS_refl _, leS_refl _, leS_osl rfl (by (try dsimp only [ncast] at *); simp only [lm_length]; omega), leS_int (by (try dsimp only [ncast] at *); simp only [lm_length]; omega), trivial⟩
      · cbv
        exact ⟨elsEq_of rfl, elsEq_of (mk_row M _ (by (try dsimp only [ncast] at *); simp only [lm_length]; omega)), trivial⟩
      intro z hz
      generalize z.1 = k at *
      generalize z.2.1 = u at *
      generalize z.2.2 = out at *
      cbv
      refine cut_dec (fun h3 => ?_) (fun h3 => ?_)
      · obtain ⟨i, rfl⟩ : ∃ i, k = i + 1 := ⟨k - 1, by (try dsimp only [ncast] at *); omega⟩
        have hkle := hz.kle
        have hlo := hz.lo
        obtain ⟨e0, hxl, hprel, hxv, hstep⟩ := div_step (n := n) (q := digit (val ((u.drop i).take (n + 3))) V (estF (v.getD (n + 1) 0).toNat (v.getD n 0).toNat ((((u.drop i).take (n + 3))).getD n 0).toNat (((((u.drop i).take (n + 3)).getD (n + 2) 0).toNat * B + (((u.drop i).take (n + 3)).getD (n + 1) 0).toNat) / (v.getD (n + 1) 0).toNat) (((((u.drop i).take (n + 3)).getD (n + 2) 0).toNat * B + (((u.drop i).take (n + 3)).getD (n + 1) 0).toNat) % (v.getD (n + 1) 0).toNat))) hz hVlt hV0 (by omega)
        generalize (u.drop i).take (n + 3) = x at *
        generalize u.take i = pre at *
        generalize u.drop (i + (n + 3)) = post at *
        have hxt := val_top3 hxl
        have hxtl := val_take_lt x n
        have hx2 := u32_lt (x.getD n 0)
        have hv2 := u32_lt (v.getD n 0)
        have hv1 := u32_lt (v.getD (n + 1) 0)
        have hx1 := u32_lt (x.getD (n + 1) 0)
        have hle : (x.getD (n + 2) 0).toNat ≤ (v.getD (n + 1) 0).toNat := by
          rcases Nat.lt_or_ge (v.getD (n + 1) 0).toNat (x.getD (n + 2) 0).toNat with h4 | h4
          · exfalso
            have h5 := val_take_getD x (n + 2)
            rw [List.take_of_length_le (by omega)] at h5
            have h6 := Nat.mul_le_mul_left (B ^ (n + 2)) (show (v.getD (n + 1) 0).toNat + 1 ≤ (x.getD (n + 2) 0).toNat from h4)
            have h7 : B * V < B * (B ^ (n + 1) * ((v.getD (n + 1) 0).toNat + 1)) := Nat.mul_lt_mul_of_pos_left (by rw [Nat.mul_add]; omega) B_pos
            rw [← Nat.mul_assoc, show B * B ^ (n + 1) = B ^ (n + 2) by rw [Nat.pow_succ B (n + 1), Nat.mul_comm]] at h7
            omega
          · exact h4
        have hS := s236 pre x post v n hxl hvl (by omega) (by omega) hnorm hle
        have htopv : 0 < (v.getD (n + 1) 0).toNat := by omega
        have htop : (x.getD (n + 2) 0).toNat * B + (x.getD (n + 1) 0).toNat < (v.getD (n + 1) 0).toNat * B + B := by
          have := Nat.mul_le_mul_right B hle
          omega
        have hq0 : ((x.getD (n + 2) 0).toNat * B + (x.getD (n + 1) 0).toNat) / (v.getD (n + 1) 0).toNat ≤ B + 1 := by
          have h4 : (x.getD (n + 2) 0).toNat * B + (x.getD (n + 1) 0).toNat < (B + 2) * (v.getD (n + 1) 0).toNat := by
            rw [Nat.add_mul, Nat.mul_comm B (v.getD (n + 1) 0).toNat]
            omega
          have := (Nat.div_lt_iff_lt_mul htopv).2 h4
          omega
        have hr0 : ((x.getD (n + 2) 0).toNat * B + (x.getD (n + 1) 0).toNat) % (v.getD (n + 1) 0).toNat < B := Nat.lt_trans (Nat.mod_lt _ htopv) hv1
        have hE := estF_est (U := val x) (V := V) (P := B ^ n) (ur := val (x.take n)) (vr := val (v.take n)) htopv hv2 hx2 hxt hvt hxtl hvtl hxv htop (B - ((x.getD (n + 2) 0).toNat * B + (x.getD (n + 1) 0).toNat) % (v.getD (n + 1) 0).toNat) _ _ (Nat.le_refl _) (est_init htopv hxt hvt hxtl hx2) hr0 hq0
        generalize estF (v.getD (n + 1) 0).toNat (v.getD n 0).toNat (x.getD n 0).toNat (((x.getD (n + 2) 0).toNat * B + (x.getD (n + 1) 0).toNat) / (v.getD (n + 1) 0).toNat) (((x.getD (n + 2) 0).toNat * B + (x.getD (n + 1) 0).toNat) % (v.getD (n + 1) 0).toNat) = q0 at *
        have hR := s235 pre x post v (n + 2) q0 hxl hvl (by omega) (by omega) hE.b (by rw [hvv]; exact hE.hi)
        rw [hvv] at hR
        have hdg := digit_eq hV0 hE
        obtain ⟨hdB, hinv⟩ := hstep hdg
        generalize digit (val x) V q0 = d at *
        have hi1 : ((i + 1 : Nat) : Int) - 1 = (i : Int) := by omega
        cbv
        (try dsimp only [ncast] at *)
        refine ⟨in64_of om om, in64_of om om, slok_of om om om, slne_of om, ?_⟩
        refine callK (fun _ => 55) (.le (ps' := ⟨[(9, .int .i64 (fun _ => (s : Int))), (10, .osl 55 1 (fun _ => 0) (fun _ => p.length + 1)), (11, nat v), (12, .osl 66 1 (fun _ => 0) (fun _ => M)), (13, .int .i64 (fun _ => (i : Int))), (82, .osl 66 1 (fun _ => 0) (fun _ => M)), (83, .int .i64 (fun _ => (i : Int))), (84, .osl 55 1 (fun _ => pre.length) (fun _ => n + 2 + 1)), (85, nat v), (86, .osl 55 1 (fun _ => pre.length) (fun _ => n + 3)), (87, nat v)], [(55, .arr 1 (fun _ => lm (pre ++ (x ++ post)))), (66, .arr 1 (fun _ => lm out))]⟩) ?_ ?_ rfl) rfl (by exact ⟨leS_refl _, leS_refl _, trivial⟩) hS ⟨⟨rfl, rfl⟩, trivial⟩ rfl rfl rfl rfl rfl rfl rfl rfl ?_
        · cbv
          refine ⟨leS_refl _, leS_refl _, leS_refl _, leS_refl _, leS_int om, leS_refl _, leS_int om, leS_osl ?_ ?_, leS_refl _, leS_osl ?_ ?_, leS_refl _, trivial⟩ <;> ((try dsimp only [ncast] at *); (try simp only [lm_length]); omega)
        · cbv
          exact ⟨elsEq_of (by rw [e0]), elsEq_of rfl, trivial⟩
        cbv
        refine callK (fun _ => 55) (.refl _) rfl (by exact ⟨leS_refl _, leS_refl _, leS_refl _, trivial⟩) hR ⟨⟨rfl, rfl⟩, trivial⟩ rfl rfl rfl rfl rfl rfl rfl rfl ?_
        cbv
        refine ⟨rng_of om om, el_lm i (by simp) (by omega) ?_⟩
        cbv
        refine ⟨in64_of om om, (i, pre ++ (pad (val x - d * V) (n + 2 + 1) ++ post), out.set i (UInt32.ofNat d)), hinv, Nat.lt_succ_self i, .le ?_ ?_ rfl⟩
        · cbv
          exact ⟨leS_refl _, leS_refl _, leS_refl _, leS_refl _, leS_refl _, trivial⟩
        · cbv
          exact ⟨elsEq_of rfl, elsEq_of (lm_set_to out (by simp) rfl hdB), trivial⟩
      · have hk0 : k = 0 := by (try dsimp only [ncast] at *); omega
        subst hk0
        have hlo := hz.lo
        have hlu := hz.lu
        have heq := hz.eq
        have hlt := hz.lt
        rw [List.drop_zero, Nat.pow_zero, Nat.one_mul] at heq
        rw [List.drop_zero] at hlt
        have hQ : A / V = val out := Nat.div_eq_of_lt_le (by rw [Nat.mul_comm]; omega) (by rw [Nat.mul_comm, Nat.mul_add]; omega)
        have hRm : A % V = val u := by rw [← heq, Nat.add_mul_mod_self_left]; exact Nat.mod_eq_of_lt hlt
        cbv
        refine callW (.trans (.le (ps' := ⟨[(9, .int .i64 (fun _ => (s : Int))), (12, .osl 66 1 (fun _ => 0) (fun _ => M)), (92, .osl 55 1 (fun _ => 0) (fun _ => p.length + 1)), (93, .int .i64 (fun _ => (s : Int)))], [(55, .arr 1 (fun _ => lm u)), (66, .arr 1 (fun _ => lm out))]⟩) ?_ ?_ rfl) (.trans (.frz 55 rfl rfl ?_ ?_) (.frz 66 rfl rfl ?_ ?_))) rfl (by refine ⟨leS_sl ?_, leS_refl _, trivial⟩; exact List.take_of_length_le (by simp [lm_length] <;> omega)) (s237 u s (by omega) (by omega)) rfl ?_
        · cbv
          exact ⟨leS_refl _, leS_refl _, leS_refl _, leS_refl _, trivial⟩
        · cbv
          exact ⟨elsEq_of rfl, elsEq_of rfl, trivial⟩
        · cbv
          exact ⟨frok_of (by rw [lm_length]; omega), trivial⟩
        · exact trivial
        · cbv
          exact ⟨frok_of (by rw [lm_length]; omega), trivial⟩
        · exact trivial
        cbv
        refine callS' rfl (by refine ⟨leS_sl ?_, trivial⟩; exact List.take_of_length_le (by simp [lm_length] <;> omega)) (s209 out (by omega)) rfl ?_
        cbv
        refine ret0 rfl ?_ rfl
        refine ⟨leS_sl ?_, leS_sl ?_, leS_refl _, trivial⟩
        · rw [hdiv, hQ]
        · rw [← hRm, hmod, Nat.mul_div_cancel _ hp2]
end Go.Proofs.YtcanljninhfmhaaGreat

namespace Go.Proofs.YtcanljninhfmhaaGreat
open Go
set_option linter.unusedVariables false
set_option maxRecDepth 100000
theorem len_le_val {n m : Nat} (h : n ≤ m) : (limbs n).length ≤ (limbs m).length := by
 rcases Nat.lt_or_ge (limbs m).length (limbs n).length with h1 | h1
 ·have := cmp_len h1; omega
 ·exact h1
theorem hf225 : Pg.funcs[183]? = some Tryz.f183 := by rw [Pg_eq]; rfl
theorem s225 (a b : List UInt32) (ha : a.length < 2^39) (hb : b.length < 2^39) : SoundS 183 [nat a, nat b] (nat (limbs (Nat.gcd (val a) (val b)))) := by
 refine sound_fn hf225 rfl rfl rfl rfl rfl ?_
 have ha' := Nat.lt_of_le_of_lt (limbs_length_le' a) ha
 have hb' := Nat.lt_of_le_of_lt (limbs_length_le' b) hb
 have hBB : B * B = 18446744073709551616 := by decide
 generalize hg : Nat.gcd (val a) (val b) = g
 cbv
 refine callS' rfl (by exact ⟨leS_refl _, trivial⟩) (s209 a (by omega)) rfl ?_
 cbv
 refine callS' rfl (by exact ⟨leS_refl _, trivial⟩) (s209 b (by omega)) rfl ?_
 cbv
 refine loop_n (σ := Nat × Nat) (fun z => ⟨[(0, nat (limbs z.1)), (1, nat (limbs z.2))], []⟩) (fun z => (limbs z.1).length < 2^39 ∧ (limbs z.2).length < 2^39 ∧ Nat.gcd z.1 z.2 = g) (fun z => z.2) (val a, val b) ⟨ha', hb', hg⟩ (.le ?_ trivial rfl) ?_
 ·cbv
  exact ⟨leS_refl _, leS_refl _, trivial⟩
 intro z hz
 obtain ⟨h1, h2, h3⟩ := hz
 generalize z.1 = x at *
 generalize z.2 = y at *
 cbv
 refine cut_dec (fun h4 => ?_) (fun h4 => ?_)
 ·cbv
  have hy : y ≠ 0 := fun e => by subst e; (try dsimp only [ncast] at *); simp [lm, limbs_zero] at h4
  refine callS' rfl (by exact ⟨leS_refl _, leS_refl _, trivial⟩) (s226 (limbs x) (limbs y) h1 h2 (by rw [val_limbs]; exact hy)) rfl ?_
  cbv
  have hm := Nat.mod_lt x (Nat.pos_of_ne_zero hy)
  refine ⟨(y, x % y), ⟨h2, Nat.lt_of_le_of_lt (len_le_val (Nat.le_of_lt hm)) h2, by rw [Nat.gcd_comm, ← Nat.gcd_rec, Nat.gcd_comm]; exact h3⟩, hm, .le ?_ trivial rfl⟩
  cbv
  exact ⟨leS_refl _, leS_sl (by rw [val_limbs, val_limbs]), trivial⟩
 ·have hy2 : y < B * B := len2.1 (by (try dsimp only [ncast] at *); rw [lm_length] at h4; omega)
  cbv
  refine cut_dec (fun h5 => ?_) (fun h5 => ?_)
  ·have hy : y = 0 := limbs_eq_nil.1 (List.eq_nil_of_length_eq_zero (by (try dsimp only [ncast] at *); rw [lm_length] at h5; omega))
   subst hy
   cbv
   refine callS' rfl (by exact ⟨leS_refl _, trivial⟩) (s223 (limbs x) (by omega)) rfl ?_
   cbv
   refine ret0 rfl (leS_sl ?_) rfl
   rw [val_limbs, ← h3, Nat.gcd_zero_right]
  ·have hy : y ≠ 0 := fun e => h5 (by subst e; simp [lm, limbs_zero])
   have hm := Nat.mod_lt x (Nat.pos_of_ne_zero hy)
   cbv
   refine callS' rfl (by exact ⟨leS_refl _, leS_refl _, trivial⟩) (s226 (limbs x) (limbs y) h1 h2 (by rw [val_limbs]; exact hy)) rfl ?_
   rw [val_limbs, val_limbs]
   cbv
   refine callS' rfl (by exact ⟨leS_refl _, trivial⟩) (s231 (limbs y) (by omega)) rfl ?_
   rw [val_limbs, if_pos hy2]
   cbv
   refine callS' rfl (by exact ⟨leS_refl _, trivial⟩) (s231 (limbs (x % y)) (Nat.lt_of_le_of_lt (len_le_val (Nat.le_of_lt hm)) (by omega))) rfl ?_
   rw [val_limbs, if_pos (by omega)]
   cbv
   refine loop_n (σ := Nat × Nat) (fun z => ⟨[(11, .int .u64 (fun _ => (z.1 : Int))), (13, .int .u64 (fun _ => (z.2 : Int)))], []⟩) (fun z => z.1 < B * B ∧ z.2 < B * B ∧ Nat.gcd z.1 z.2 = g) (fun z => z.2) (y, x % y) ⟨hy2, by omega, by rw [Nat.gcd_comm, ← Nat.gcd_rec, Nat.gcd_comm]; exact h3⟩ (.le ?_ trivial rfl) ?_
   ·cbv
    exact ⟨leS_refl _, leS_refl _, trivial⟩
   clear hm hy h3 h4 h5 h1 h2 hy2
   intro z hz
   obtain ⟨h1, h2, h3⟩ := hz
   generalize z.1 = x at *
   generalize z.2 = y at *
   cbv
   refine cut_dec (fun h4 => ?_) (fun h4 => ?_)
   ·have hy : 0 < y := om
    have hm := Nat.mod_lt x hy
    cbv
    refine draw_of 5 (by cbv) ?_
    cbv
    refine ⟨nz_of om, (y, x % y), ⟨h2, by omega, by rw [Nat.gcd_comm, ← Nat.gcd_rec, Nat.gcd_comm]; exact h3⟩, hm, .le ?_ trivial rfl⟩
    cbv
    exact ⟨leS_refl _, leS_int irem_nat, trivial⟩
   ·have hy : y = 0 := om
    subst hy
    cbv
    refine callS' rfl (by exact ⟨leS_refl _, trivial⟩) (s211 x h1) rfl ?_
    cbv
    refine ret0 rfl (leS_sl ?_) rfl
    rw [← h3, Nat.gcd_zero_right]
end Go.Proofs.YtcanljninhfmhaaGreat
