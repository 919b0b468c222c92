/- A part of the proof: RuE, RuF, RuG, RuH, RuI, SpV. -/
import Derived.Test.YtcanljninhfmhaaGreatS43
import Derived.Test.YtcanljninhfmhaaGreatS38
import Derived.Test.YtcanljninhfmhaaGreatS36
import Derived.Test.YtcanljninhfmhaaGreatS41
import Derived.Test.YtcanljninhfmhaaGreatS39
set_option linter.all false
namespace Go.Proofs.YtcanljninhfmhaaGreat
open Go
set_option linter.unusedVariables false
set_option maxRecDepth 100000
set_option maxHeartbeats 4000000
theorem hfR21Best : Pg.funcs[111]? = some Tryz.f111 := by rw [Pg_eq]; rfl
theorem sR21Best (s : Scp) (unit : Int) (hs : Lsz (2^20) s.lems) : SoundS 111 [sv s, .int .i64 (fun _ => unit)] (.tup [.int .i64 (fun _ => ((s.best unit).1 : Int)), .int .i64 (fun _ => ((s.best unit).2 : Int))]) := by
 refine sound_fn hfR21Best rfl rfl rfl rfl rfl ?_
 have hll := hs.len
 obtain ⟨⟨⟨gn, us, os⟩, ⟨lo, hi, rows⟩, ⟨ts, c1, c2, c3⟩⟩, path, L⟩ := s
 dsimp only at hs hll
 have cc : ∀ m m', m ∈ L → m' ∈ L → SoundS 35 [rv m.v, rv m'.v] (.int .i64 (fun _ => cmpQ m.v.q m'.v.q)) := fun m m' h h' => s42 m.v m'.v ((hs.sz m h).mono (by decide)) ((hs.sz m' h').mono (by decide))
 have hst : ∀ n m r b, bestG L unit n (m :: r) b = bestG L unit (n + 1) r (if m.u = unit then (if m.up = true then (if b.2 = 0 ∨ cmpQ m.v.q (valAt L b.2) < 0 then (b.1, n + 1) else b) else (if b.1 = 0 ∨ 0 < cmpQ m.v.q (valAt L b.1) then (n + 1, b.2) else b)) else b) := fun _ _ _ _ => rfl
 have hva : ∀ k m, L[k - 1]? = some m → valAt L k = m.v.q := fun k m h => by unfold valAt; rw [h]; rfl
 have hni : ∀ n b, bestG L unit n [] b = b := fun _ _ => rfl
 have hgoal : ((⟨⟨⟨gn, us, os⟩, ⟨lo, hi, rows⟩, ⟨ts, c1, c2, c3⟩⟩, path, L⟩ : Scp).best unit) = bestG L unit 0 L (0, 0) := rfl
 rw [hgoal]
 obtain ⟨B, hB⟩ : ∃ B, bestG L unit 0 L (0, 0) = B := ⟨_, rfl⟩
 rw [hB]
 obtain ⟨B1, B2⟩ := B
 dsimp only
 generalize bestG L unit = BG at *
 clear hgoal
 cbv
 refine loop_n (σ := Nat × Nat × Nat) (fun st => ⟨[(1, .int .i64 (fun _ => unit)), (2, .ptr 2 0), (6, .int .i64 (fun _ => (st.2.1 : Int))), (7, .int .i64 (fun _ => (st.2.2 : Int))), (8, .int .i64 (fun _ => ((st.1 + 1 : Nat) : Int)))], [(2, .box [.int .i64 (fun _ => gn), alv us, alv os, rlv lo, rlv hi, alv rows, tsv ts, .bool (fun _ => c1), nat c2, nat c3, dlv path, llv L])]⟩)
  (fun st => st.1 ≤ L.length ∧ BG st.1 (L.drop st.1) st.2 = (B1, B2) ∧ st.2.1 ≤ L.length ∧ st.2.2 ≤ L.length) (fun st => L.length - st.1)
  (0, 0, 0) ⟨by show 0 ≤ _; omega, hB, Nat.zero_le _, Nat.zero_le _⟩ (.le okZ okZ rfl) ?_
 intro st hst'
 obtain ⟨i, b1, b2⟩ := st
 obtain ⟨h1, h2, h3, h4⟩ := hst'
 dsimp only at h1 h2 h3 h4
 clear hB
 cbv
 refine cut_dec (fun h5 => ?_) (fun h5 => ?_)
 ·rw [enc_len] at h5
  have hlt : i < L.length := by (try dsimp only [ncast] at *); omega
  obtain ⟨m, hm⟩ := get_some hlt
  have hmem := List.mem_of_getElem? hm
  rw [drop_of_get hm, hst] at h2
  have idx : ∀ {K : List PV → Prop}, K (lc m) → IdxOk 6 (fun _ => enc lc L) (fun _ => ((i + 1 : Nat) : Int) - 1) K := fun hK => idx_at' hm (by omega) lc_flat lc_len hK
  have hin : ∀ k : Nat, k ≤ L.length → ¬ k = 0 → ∃ m', m' ∈ L ∧ valAt L k = m'.v.q ∧ ∀ {K : List PV → Prop}, K (lc m') → IdxOk 6 (fun _ => enc lc L) (fun _ => (k : Int) - 1) K := fun k hk h0 => by
   obtain ⟨m', hm'⟩ := get_some (l := L) (i := k - 1) (by omega)
   exact ⟨m', List.mem_of_getElem? hm', hva k m' hm', fun hK => idx_at' hm' (by omega) lc_flat lc_len hK⟩
  clear hst hva
  cbv
  refine ⟨in64_of om om, idx ?_⟩
  cbv
  refine cut_dec (fun e1 => ?_) (fun e1 => ?_)
  ·rw [if_pos e1] at h2
   cbv
   refine draw_of 19 (by cbv) ?_
   cbv
   refine br_bool (fun e2 => ?_) (fun e2 => ?_)
   ·rw [if_pos e2] at h2
    cbv
    refine br_dec (fun e3 => ?_) (fun e3 => ?_)
    ·have e3' : b2 = 0 := by (try dsimp only [ncast] at *); omega
     rw [if_pos (.inl e3')] at h2
     cbv
     refine draw_of 20 (by cbv) ?_
     cbv
     refine br_bool (fun e4 => ?_) (fun e4 => by rw [e2] at e4; cases e4)
     cbv
     exact ⟨in64_of om om, (i + 1, b1, (i + 1)), ⟨om, h2, (by show b1 ≤ _; omega), (by show (i + 1) ≤ _; omega)⟩, om, .le okZ okZ rfl⟩
    have e3' : ¬ b2 = 0 := by (try dsimp only [ncast] at *); omega
    obtain ⟨m', hm', hv', idx'⟩ := hin b2 h4 e3'
    have cx := cc m m' hmem hm'
    rw [hv'] at h2
    generalize cmpQ m.v.q m'.v.q = x at *
    cbv
    refine ⟨in64_of om om, idx' ?_⟩
    cbv
    refine callS_d okA (cx) rfl ?_
    cbv
    refine cut_dec (fun e5 => ?_) (fun e5 => ?_)
    ·rw [if_pos (.inr e5)] at h2
     cbv
     refine draw_of 20 (by cbv) ?_
     cbv
     refine br_bool (fun e4 => ?_) (fun e4 => by rw [e2] at e4; cases e4)
     cbv
     exact ⟨in64_of om om, (i + 1, b1, (i + 1)), ⟨om, h2, (by show b1 ≤ _; omega), (by show (i + 1) ≤ _; omega)⟩, om, .le okZ okZ rfl⟩
    ·rw [if_neg (fun h => h.elim e3' e5)] at h2
     cbv
     refine draw_of 20 (by cbv) ?_
     cbv
     refine br_bool (fun e4 => ?_) (fun e4 => by rw [e2] at e4; cases e4)
     cbv
     exact ⟨in64_of om om, (i + 1, b1, b2), ⟨om, h2, (by show b1 ≤ _; omega), (by show b2 ≤ _; omega)⟩, om, .le okZ okZ rfl⟩
   ·rw [if_neg (by rw [e2]; decide)] at h2
    cbv
    refine draw_of 20 (by cbv) ?_
    cbv
    refine br_bool (fun e4 => by rw [e2] at e4; cases e4) (fun e4 => ?_)
    cbv
    refine br_dec (fun e3 => ?_) (fun e3 => ?_)
    ·have e3' : b1 = 0 := by (try dsimp only [ncast] at *); omega
     rw [if_pos (.inl e3')] at h2
     cbv
     exact ⟨in64_of om om, (i + 1, (i + 1), b2), ⟨om, h2, (by show (i + 1) ≤ _; omega), (by show b2 ≤ _; omega)⟩, om, .le okZ okZ rfl⟩
    have e3' : ¬ b1 = 0 := by (try dsimp only [ncast] at *); omega
    obtain ⟨m', hm', hv', idx'⟩ := hin b1 h3 e3'
    have cx := cc m m' hmem hm'
    rw [hv'] at h2
    generalize cmpQ m.v.q m'.v.q = x at *
    cbv
    refine ⟨in64_of om om, idx' ?_⟩
    cbv
    refine callS_d okA (cx) rfl ?_
    cbv
    refine cut_dec (fun e5 => ?_) (fun e5 => ?_)
    ·rw [if_pos (.inr e5)] at h2
     cbv
     exact ⟨in64_of om om, (i + 1, (i + 1), b2), ⟨om, h2, (by show (i + 1) ≤ _; omega), (by show b2 ≤ _; omega)⟩, om, .le okZ okZ rfl⟩
    ·rw [if_neg (fun h => h.elim e3' e5)] at h2
     cbv
     exact ⟨in64_of om om, (i + 1, b1, b2), ⟨om, h2, (by show b1 ≤ _; omega), (by show b2 ≤ _; omega)⟩, om, .le okZ okZ rfl⟩
  ·rw [if_neg e1] at h2
   cbv
   exact ⟨in64_of om om, (i + 1, b1, b2), ⟨om, h2, (by show b1 ≤ _; omega), (by show b2 ≤ _; omega)⟩, om, .le okZ okZ rfl⟩
 ·have hi : i = L.length := by rw [enc_len] at h5; (try dsimp only [ncast] at *); omega
  rw [hi, List.drop_length, hni] at h2
  obtain ⟨q1, q2⟩ := Prod.mk.inj h2
  subst q1 q2
  cbv
  (refine retC rfl ?_; cbv)
  exact ⟨leS_refl _, leS_refl _, trivial⟩
end Go.Proofs.YtcanljninhfmhaaGreat

namespace Go.Proofs.YtcanljninhfmhaaGreat
open Go
set_option linter.unusedVariables false
set_option maxRecDepth 100000
set_option maxHeartbeats 4000000
theorem hfR22Mrg : Pg.funcs[145]? = some Tryz.f145 := by rw [Pg_eq]; rfl
theorem sR22Mrg (a b : List (Row × Rat)) (c : R) (ha : ∀ t, t ∈ a → Fits (2^28) t.2) (hal : a.length ≤ 2^36) (hb : ∀ t, t ∈ b → Fits (2^20) t.2) (hbl : b.length ≤ 64) (hc : c.sz (2^20)) :
  SoundS 145 [mlv (mR a), mlv (mR b), rv c] (mlv (mR (mergeM a b c.q))) := by
 refine sound_fn hfR22Mrg rfl rfl rfl rfl rfl ?_
 have hcf : Fits (2^20) c.q := hc.fits (by decide)
 have c1 : ∀ q, Fits (2^20) q → SoundS 46 [rv (ratR q), rv c] (rv (ratR (q * c.q))) := fun q hq => by
  have := s77 (ratR q) c ((ratR_sz hq).mono (by decide)) (hc.mono (by decide))
  rw [q_ratR] at this
  exact this
 have c2 : ∀ (l : List (Row × Rat)) (r : Row) (q : Rat), Mfit (2^30) l → Fits (2^21) q → SoundS 61 [mlv (mR l), rwv r, rv (ratR q)] (mlv (mR (plMq l r q))) := fun l r q hl hq => by
  have := sPlM l r (ratR q) hl ((ratR_sz hq).mono (by decide))
  rw [q_ratR] at this
  exact this
 obtain ⟨A0, hA0⟩ : ∃ n : Nat, n = 2^28 := ⟨_, rfl⟩
 obtain ⟨L0, hL0⟩ : ∃ n : Nat, n = 2^36 := ⟨_, rfl⟩
 obtain ⟨D0, hD0⟩ : ∃ n : Nat, n = 2^21 + 1 := ⟨_, rfl⟩
 rw [← hA0] at ha
 rw [← hL0] at hal
 have hAD : ∀ i : Nat, i ≤ 64 → A0 + i * D0 ≤ 2^30 := fun i hi => by
  have : i * D0 ≤ 64 * D0 := Nat.mul_le_mul_right _ hi
  omega
 obtain ⟨G, hG⟩ : ∃ G : List (Row × Rat) → List (Row × Rat) → List (Row × Rat), ∀ x y, G x y = mergeM x y c.q := ⟨_, fun _ _ => rfl⟩
 have hn : ∀ x, G x [] = x := fun x => by rw [hG]; rfl
 have hs : ∀ x t r, G x (t :: r) = G (plMq x t.1 (t.2 * c.q)) r := fun x t r => by rw [hG, hG]; rfl
 rw [← hG]
 obtain ⟨res, hres⟩ : ∃ r, G a b = r := ⟨_, rfl⟩
 rw [hres]
 clear hG
 have hbm : ∀ (i : Nat) t, b[i]? = some t → (mR b)[i]? = some ⟨t.1, ratR t.2⟩ := fun i t h => by simp [mR, List.getElem?_map, h]
 have hbl' : (mR b).length = b.length := mR_len b
 cbv
 refine loop_n (σ := Nat × List (Row × Rat)) (fun s => ⟨[(0, mlv (mR s.2)), (1, mlv (mR b)), (5, .ptr 5 0), (7, .int .i64 (fun _ => (s.1 : Int)))], [(5, .box [.bool (fun _ => c.neg), nat c.num, nat c.den])]⟩)
  (fun s => s.1 ≤ b.length ∧ G s.2 (b.drop s.1) = res ∧ (∀ t, t ∈ s.2 → Fits (A0 + s.1 * D0) t.2) ∧ s.2.length ≤ L0 + s.1) (fun s => b.length - s.1)
  (0, a) ⟨Nat.zero_le _, hres, by simpa using ha, by simpa using hal⟩ (.le okZ okZ rfl) ?_
 intro st hst
 obtain ⟨i, acc⟩ := st
 obtain ⟨h1, h2, h3, h4⟩ := hst
 dsimp only at h1 h2 h3 h4
 clear hres
 cbv
 refine cut_dec (fun h5 => ?_) (fun h5 => ?_)
 ·rw [enc_len, hbl'] at h5
  have hlt : i < b.length := by (try dsimp only [ncast] at *); omega
  obtain ⟨t, ht⟩ := get_some hlt
  have hm := hbm i t ht
  have hq := hb t (List.mem_of_getElem? ht)
  rw [drop_of_get ht, hs] at h2
  obtain ⟨r, q⟩ := t
  dsimp only at h2 hm hq
  have d1 := c1 q hq
  have d2 := c2 acc r (q * c.q) ⟨by omega, fun t ht => (h3 t ht).mono (hAD i (by omega))⟩ ((fits_mul hq hcf).mono (by decide))
  have h3' := plMq_fit (r := r) ((fits_mul hq hcf).mono (show _ ≤ 2^21 by decide)) h3
  have h4' := plMq_len acc r (q * c.q)
  generalize plMq acc r (q * c.q) = acc' at *
  generalize ratR (q * c.q) = Y at *
  generalize ratR q = X at *
  clear c1 c2 hs hn
  cbv
  refine draw_of 14 (by cbv) ?_
  cbv
  refine idx_at hm mc_flat mc_len ?_
  cbv
  refine idx_at hm mc_flat mc_len ?_
  cbv
  refine callS_d okA (d1) rfl ?_
  cbv
  refine callS_d okA (d2) rfl ?_
  cbv
  exact ⟨in64_of om om, (i + 1, acc'), ⟨om, h2, fun t ht => (h3' t ht).mono (by show _ ≤ A0 + (i + 1) * D0; rw [Nat.succ_mul]; omega), (by show acc'.length ≤ L0 + (i + 1); omega)⟩, om, .le okZ okZ rfl⟩
 ·have hi : i = b.length := by rw [enc_len, hbl'] at h5; (try dsimp only [ncast] at *); omega
  rw [hi, List.drop_length, hn] at h2
  subst h2
  cbv
  (refine retC rfl ?_; cbv)
  exact leS_refl _
theorem hfR22AL : Pg.funcs[144]? = some Tryz.f144 := by rw [Pg_eq]; rfl
theorem sR22AL (s : Scp) (v : Int) (hv : -4611686018427387904 ≤ v) (hv2 : v < 4611686018427387904) (hn : 0 ≤ s.q.g.n) (hn2 : s.q.g.n ≤ 256) : SoundS 144 [sv s, .int .i64 (fun _ => v)] (mlv (mR (s.atLeastM v))) := by
 refine sound_fn hfR22AL rfl rfl rfl rfl rfl ?_
 have c1 := s32 1 (by decide) (by decide)
 rw [show (((1 : Int) : Rat)) = (1 : Rat) by rfl] at c1
 have h1 : v < s.q.g.n → mR (s.atLeastM v) = [⟨⟨1, v, 0, 0⟩, ratR 1⟩] := fun h => by unfold Scp.atLeastM; rw [if_pos h]; rfl
 have h2 : ¬ v < s.q.g.n → mR (s.atLeastM v) = [⟨⟨5, v - s.q.g.n, 0, 0⟩, ratR 1⟩] := fun h => by unfold Scp.atLeastM; rw [if_neg h]; rfl
 generalize mR (s.atLeastM v) = res at *
 generalize ratR 1 = O1 at *
 cbv
 refine cut_dec (fun e => ?_) (fun e => ?_)
 ·rw [h1 e]
  cbv
  refine callS' rfl okA (c1) rfl ?_
  cbv
  (refine retC rfl ?_; cbv)
  exact leS_sl rfl
 ·rw [h2 e]
  cbv
  refine draw_of 10 (by cbv) ?_
  cbv
  refine ⟨in64_of (by (try dsimp only [ncast] at *); omega) (by (try dsimp only [ncast] at *); omega), ?_⟩
  cbv
  refine callS_d okA (c1) rfl ?_
  cbv
  (refine retC rfl ?_; cbv)
  exact leS_sl rfl
end Go.Proofs.YtcanljninhfmhaaGreat

namespace Go.Proofs.YtcanljninhfmhaaGreat
open Go
set_option linter.unusedVariables false
set_option maxRecDepth 100000
set_option maxHeartbeats 4000000
theorem q_div (x y : R) : mkRat (sgn (x.neg != y.neg) (val x.num * y.d)) (x.d * val y.num) = x.q / y.q := by
 rw [Rat.div_def, R.q, R.q, ← Rat.divInt_ofNat, ← Rat.divInt_ofNat, ← Rat.divInt_ofNat, Rat.inv_divInt, Rat.divInt_mul_divInt]
 unfold R.n sgn
 cases x.neg <;> cases y.neg <;> simp [Rat.divInt_neg', Int.neg_mul, Int.mul_neg]
theorem sgnQ_zero {q : Rat} : sgnQ q = 0 ↔ q = 0 := by unfold sgnQ; split <;> (try split) <;> constructor <;> grind
theorem hf182 : Pg.funcs[185]? = some Tryz.f185 := by rw [Pg_eq]; rfl
theorem s182 (x y : R) (hx : x.sz (2^31)) (hy : y.sz (2^31)) (h0 : y.q ≠ 0) : SoundS 185 [rv x, rv y] (.tup [rv (ratR (x.q / y.q)), .int .i64 (fun _ => (0 : Int))]) := by
 refine sound_fn hf182 rfl rfl rfl rfl rfl ?_
 have h1 := hx.n
 have h2 := hx.d
 have h3 := hy.n
 have h4 := hy.d
 have h7 := one_len x.den
 have h8 := one_len y.den
 have hyn : val y.num ≠ 0 := fun h => h0 (by
  have : y.n = 0 := by unfold R.n; rw [h]; simp [sgn]
  rw [R.q, this]; simp)
 have csg := s35 y (by omega)
 have hsg : ¬ sgnQ y.q = 0 := fun h => h0 (sgnQ_zero.1 h)
 have cux := s100 x.den (by omega)
 have cuy := s100 y.den (by omega)
 have cm := s99 (oneL x.den) y.num (by omega) (by omega)
 have hml := len_mul (oneL x.den) y.num
 rw [val_one] at cm hml
 have cn := s99 x.num (oneL y.den) (by omega) (by omega)
 have hnl := len_mul x.num (oneL y.den)
 rw [val_one] at cn hnl
 have cq := s102 (x.neg != y.neg) (limbs (val x.num * y.d)) (limbs (x.d * val y.num)) (by omega) (by omega) (by rw [val_limbs]; exact Nat.mul_ne_zero x.d_ne hyn)
 rw [val_limbs, val_limbs, q_div] at cq
 have hb : (x.neg != y.neg) = !decide (x.neg = y.neg) := by cases x.neg <;> cases y.neg <;> rfl
 clear hml hnl hx hy h0
 generalize ratR (x.q / y.q) = W at *
 generalize sgnQ y.q = sg at *
 generalize limbs (x.d * val y.num) = M at *
 generalize limbs (val x.num * y.d) = P at *
 generalize oneL x.den = ux at *
 generalize oneL y.den = uy at *
 obtain ⟨a, b, c⟩ := x
 obtain ⟨a', b', c'⟩ := y
 simp only at *
 generalize (a != a') = nb at *
 cbv
 refine callS' rfl okA (csg) rfl ?_
 cbv
 refine cut_no hsg ?_
 cbv
 refine draw_of 18 (by cbv) ?_
 cbv
 refine callS_d okA (cuy) rfl ?_
 cbv
 refine callS_d okA (cn) rfl ?_
 cbv
 refine callS_d okA (cux) rfl ?_
 cbv
 refine callS_d okA (cm) rfl ?_
 cbv
 refine callS_d (by exact ⟨leS_nbool hb, leS_refl _, leS_refl _, trivial⟩) cq rfl ?_
 cbv
 (refine retC rfl ?_; cbv)
 exact ⟨⟨leS_refl _, leS_refl _, leS_refl _, trivial⟩, leS_refl _, trivial⟩
end Go.Proofs.YtcanljninhfmhaaGreat

namespace Go.Proofs.YtcanljninhfmhaaGreat
open Go
set_option linter.unusedVariables false
set_option maxRecDepth 100000
set_option maxHeartbeats 4000000
theorem hfR22AM : Pg.funcs[143]? = some Tryz.f143 := by rw [Pg_eq]; rfl
theorem sR22AM (s : Scp) (v : Int) (hs : Lsz (2^20) s.lems) (hv : -4611686018427387904 ≤ v) (hv2 : v < 4611686018427387904) (hn : 0 ≤ s.q.g.n) (hn2 : s.q.g.n ≤ 256) :
  SoundS 143 [sv s, .int .i64 (fun _ => v)] (.tup [mlv (mR ((s.atMostM v).getD [])), .bool (fun _ => (s.atMostM v).isSome)]) := by
 refine sound_fn hfR22AM rfl rfl rfl rfl rfl ?_
 have c1 := s32 1 (by decide) (by decide)
 rw [show (((1 : Int) : Rat)) = (1 : Rat) by rfl] at c1
 have cb := sR21Best s (v - s.q.g.n) hs
 have hbs := fun k h h0 => best_spec (s := s) (unit := v - s.q.g.n) (k := k) h h0
 have hss := hs.sz
 have hva : ∀ k m, s.lems[k - 1]? = some m → valAt s.lems k = m.v.q := fun k m h => by unfold valAt; rw [h]; rfl
 have h1 : v < s.q.g.n → s.atMostM v = some [(⟨2, v, 0, 0⟩, 1)] := fun h => by unfold Scp.atMostM; rw [if_pos h]
 have h2 : ¬ v < s.q.g.n → (s.best (v - s.q.g.n)).1 = 0 ∨ (s.best (v - s.q.g.n)).2 = 0 → s.atMostM v = none := fun h h' => by unfold Scp.atMostM; rw [if_neg h, if_pos h']
 have h3 : ¬ v < s.q.g.n → ¬ ((s.best (v - s.q.g.n)).1 = 0 ∨ (s.best (v - s.q.g.n)).2 = 0) → s.atMostM v = some (upM (v - s.q.g.n) (s.best (v - s.q.g.n)).1 (s.best (v - s.q.g.n)).2 (valAt s.lems (s.best (v - s.q.g.n)).1) (valAt s.lems (s.best (v - s.q.g.n)).2)) := fun h h' => by unfold Scp.atMostM; rw [if_neg h, if_neg h']
 generalize s.atMostM v = o at *
 generalize s.best (v - s.q.g.n) = B at *
 obtain ⟨b1, b2⟩ := B
 dsimp only at h2 h3 hbs cb
 have hll := hs.len
 obtain ⟨⟨⟨gn, us, os⟩, ⟨lo, hi, rows⟩, ⟨ts, c1', c2', c3'⟩⟩, path, L⟩ := s
 dsimp only at *
 obtain ⟨res, hres⟩ : ∃ r, mR (o.getD []) = r := ⟨_, rfl⟩
 obtain ⟨bb, hbb⟩ : ∃ b, o.isSome = b := ⟨_, rfl⟩
 rw [hres, hbb]
 have r1 : v < gn → res = [⟨⟨2, v, 0, 0⟩, ratR 1⟩] ∧ bb = true := fun h => by rw [← hres, ← hbb, h1 h]; exact ⟨rfl, rfl⟩
 have r2 : ¬ v < gn → b1 = 0 ∨ b2 = 0 → res = [] ∧ bb = false := fun h h' => by rw [← hres, ← hbb, h2 h h']; exact ⟨rfl, rfl⟩
 have r3 : ¬ v < gn → ¬ (b1 = 0 ∨ b2 = 0) → ∀ m1 m2, L[b1 - 1]? = some m1 → L[b2 - 1]? = some m2 → res = mR (upM (v - gn) b1 b2 m1.v.q m2.v.q) ∧ bb = true := fun h h' m1 m2 g1 g2 => by
  rw [← hres, ← hbb, h3 h h', hva b1 m1 g1, hva b2 m2 g2]; exact ⟨rfl, rfl⟩
 clear h1 h2 h3 hres hbb hva hs
 obtain ⟨O1, hO1⟩ : ∃ O, ratR 1 = O := ⟨_, rfl⟩
 rw [hO1] at c1 r1
 cbv
 refine callS' rfl okA (c1) rfl ?_
 cbv
 refine cut_dec (fun e => ?_) (fun e => ?_)
 ·obtain ⟨q1, q2⟩ := r1 e
  subst q1 q2
  cbv
  (refine retC rfl ?_; cbv)
  exact ⟨leS_sl rfl, leS_tt rfl, trivial⟩
 cbv
 refine ⟨in64_of (by (try dsimp only [ncast] at *); omega) (by (try dsimp only [ncast] at *); omega), ?_⟩
 cbv
 refine callS' rfl okA (cb) rfl ?_
 cbv
 refine br_dec (fun e1 => ?_) (fun e1 => ?_)
 ·obtain ⟨q1, q2⟩ := r2 e (.inl (by (try dsimp only [ncast] at *); omega))
  subst q1 q2
  cbv
  (refine retC rfl ?_; cbv)
  exact ⟨leS_nil rfl, leS_ff rfl, trivial⟩
 cbv
 refine cut_dec (fun e2 => ?_) (fun e2 => ?_)
 ·obtain ⟨q1, q2⟩ := r2 e (.inr (by (try dsimp only [ncast] at *); omega))
  subst q1 q2
  cbv
  (refine retC rfl ?_; cbv)
  exact ⟨leS_nil rfl, leS_ff rfl, trivial⟩
 have e1' : b1 ≠ 0 := by (try dsimp only [ncast] at *); omega
 have e2' : b2 ≠ 0 := by (try dsimp only [ncast] at *); omega
 obtain ⟨m1, g1, _⟩ := hbs b1 (.inl rfl) e1'
 obtain ⟨m2, g2, _⟩ := hbs b2 (.inr rfl) e2'
 have r3' := r3 e (by omega) m1 m2 g1 g2
 have z1 := hss m1 (List.mem_of_getElem? g1)
 have z2 := hss m2 (List.mem_of_getElem? g2)
 have l1 := (List.getElem?_eq_some_iff.1 g1).1
 have l2 := (List.getElem?_eq_some_iff.1 g2).1
 have i1 : ∀ {K : List PV → Prop}, K (lc m1) → IdxOk 6 (fun _ => enc lc L) (fun _ => (b1 : Int) - 1) K := fun hK => idx_at' g1 (by omega) lc_flat lc_len hK
 have i2 : ∀ {K : List PV → Prop}, K (lc m2) → IdxOk 6 (fun _ => enc lc L) (fun _ => (b2 : Int) - 1) K := fun hK => idx_at' g2 (by omega) lc_flat lc_len hK
 have csl := s35 m1.v (by have := z1.n; omega)
 have csu := s35 m2.v (by have := z2.n; omega)
 have cdf := s93 m2.v m1.v (z2.mono (by decide)) (z1.mono (by decide))
 have fu := z2.fits (by decide)
 have fd := fits_sub fu (z1.fits (by decide))
 have cdv : m2.v.q - m1.v.q ≠ 0 → SoundS 185 [rv O1, rv (ratR (m2.v.q - m1.v.q))] (.tup [rv (ratR (1 / (m2.v.q - m1.v.q))), .int .i64 (fun _ => (0 : Int))]) := fun h => by
  have := s182 (ratR 1) (ratR (m2.v.q - m1.v.q)) ((ratR_sz fits_one).mono (by decide)) ((ratR_sz fd).mono (by decide)) (by rw [q_ratR]; exact h)
  rw [q_ratR, q_ratR, hO1] at this
  exact this
 have fq : Fits (2^22) (1 / (m2.v.q - m1.v.q)) := by rw [Rat.div_def]; exact (fits_mul fits_one (fits_inv fd)).mono (by decide)
 have cmu := s77 (ratR (1 / (m2.v.q - m1.v.q))) m2.v ((ratR_sz fq).mono (by decide)) (z2.mono (by decide))
 rw [q_ratR] at cmu
 have hne : ¬ sgnQ m2.v.q ≤ 0 → ¬ 0 ≤ sgnQ m1.v.q → m2.v.q - m1.v.q ≠ 0 := fun h h' => by
  have hu : 0 < m2.v.q := by unfold sgnQ at h; split at h <;> (try split at h) <;> grind
  have hl : m1.v.q < 0 := by unfold sgnQ at h'; split at h' <;> (try split at h') <;> grind
  grind
 have ra : sgnQ m2.v.q ≤ 0 → res = [⟨⟨10, v - gn, 0, b2⟩, O1⟩] := fun h => by rw [r3'.1, ← hO1]; unfold upM; rw [if_pos h]; rfl
 have rb : ¬ sgnQ m2.v.q ≤ 0 → 0 ≤ sgnQ m1.v.q → res = [⟨⟨8, v - gn, b1, 0⟩, O1⟩, ⟨⟨12, v - gn, 0, b2⟩, O1⟩] := fun h h' => by rw [r3'.1, ← hO1]; unfold upM; rw [if_neg h, if_pos h']; rfl
 have rcc : ¬ sgnQ m2.v.q ≤ 0 → ¬ 0 ≤ sgnQ m1.v.q → res = [⟨⟨12, v - gn, 0, b2⟩, ratR (1 / (m2.v.q - m1.v.q) * m2.v.q)⟩, ⟨⟨13, v - gn, b1, b2⟩, ratR (1 / (m2.v.q - m1.v.q))⟩] := fun h h' => by rw [r3'.1]; unfold upM; rw [if_neg h, if_neg h']; rfl
 obtain ⟨_, q2⟩ := r3'
 subst q2
 have cdv' := fun h h' => cdv (hne h h')
 clear cdv hne fq fd fu z1 z2 r1 r2 r3 cb hbs c1
 generalize sgnQ m2.v.q = su at *
 generalize sgnQ m1.v.q = sl at *
 generalize ratR (1 / (m2.v.q - m1.v.q) * m2.v.q) = M at *
 generalize ratR (1 / (m2.v.q - m1.v.q)) = Q at *
 generalize ratR (m2.v.q - m1.v.q) = D at *
 cbv
 refine draw_ef 17 [(16, 10)] (by cbv) (by cbv) (by cbv) ?_
 cbv
 refine ⟨in64_of (by (try dsimp only [ncast] at *); omega) (by (try dsimp only [ncast] at *); omega), i1 ?_⟩
 cbv
 refine ⟨in64_of (by (try dsimp only [ncast] at *); omega) (by (try dsimp only [ncast] at *); omega), i2 ?_⟩
 cbv
 refine callS' rfl okA (csu) rfl ?_
 cbv
 refine cut_dec (fun e3 => ?_) (fun e3 => ?_)
 ·have q1 := ra e3
  subst q1
  cbv
  (refine retC rfl ?_; cbv)
  exact ⟨leS_sl rfl, leS_tt rfl, trivial⟩
 cbv
 refine callS' rfl okA (csl) rfl ?_
 cbv
 refine cut_dec (fun e4 => ?_) (fun e4 => ?_)
 ·have q1 := rb e3 e4
  subst q1
  cbv
  (refine retC rfl ?_; cbv)
  exact ⟨leS_sl rfl, leS_tt rfl, trivial⟩
 have q1 := rcc e3 e4
 have cd := cdv' e3 e4
 subst q1
 cbv
 refine draw_ef 10 [(9, 12)] (by cbv) (by cbv) (by cbv) ?_
 cbv
 refine callS_d okA (cdf) rfl ?_
 cbv
 refine callS_d okA (cd) rfl ?_
 cbv
 refine draw_of 13 (by cbv) ?_
 cbv
 refine callS_d okA (cmu) rfl ?_
 cbv
 (refine retC rfl ?_; cbv)
 exact ⟨leS_sl rfl, leS_tt rfl, trivial⟩
end Go.Proofs.YtcanljninhfmhaaGreat

namespace Go.Proofs.YtcanljninhfmhaaGreat
open Go
set_option linter.unusedVariables false
set_option maxRecDepth 100000
set_option maxHeartbeats 4000000
structure AbvOk (s : Scp) (f : F) : Prop where
 cn : Cn f.ts
 fl : f.fl (2^20) (2^30)
 v : ∀ t, t ∈ f.ts → -4611686018427387904 ≤ t.1 ∧ t.1 < 4611686018427387904
 pre : ∀ i l, s.aboveL (f.ts.take i) [] = some l → (∀ t, t ∈ l → Fits (2^28) t.2) ∧ l.length ≤ 2^36
 most : ∀ t, t ∈ f.ts → ∀ more, s.atMostM t.1 = some more → (∀ x, x ∈ more → Fits (2^20) x.2) ∧ more.length ≤ 64
 sum : ∀ l, s.aboveL f.ts [] = some l → SumOk s (mR l)
theorem aboveL_snoc {s : Scp} {t : Int × Rat} {more : List (Row × Rat)} (ht : (if 0 < sgnQ t.2 then some (s.atLeastM t.1) else s.atMostM t.1) = some more) : ∀ {ts : List (Int × Rat)} {l l' : List (Row × Rat)}, s.aboveL ts l = some l' → s.aboveL (ts ++ [t]) l = some (mergeM l' more (absQ t.2))
 | [], l, l', h => by
  cases h
  rw [List.nil_append]
  unfold Scp.aboveL
  rw [ht]; rfl
 | x :: r, l, l', h => by
  rw [List.cons_append]
  unfold Scp.aboveL at h ⊢
  cases hx : (if 0 < sgnQ x.2 then some (s.atLeastM x.1) else s.atMostM x.1) with
  | none => rw [hx] at h; cases h
  | some g =>
   rw [hx] at h
   exact aboveL_snoc ht h
theorem least_fit (s : Scp) (v : Int) : (∀ x, x ∈ s.atLeastM v → Fits (2^20) x.2) ∧ (s.atLeastM v).length ≤ 64 := by
 unfold Scp.atLeastM
 split <;> refine ⟨fun x hx => ?_, by simp⟩ <;> (obtain rfl := List.mem_singleton.1 hx; exact fits_one.mono (by decide))
theorem hfR22Abv : Pg.funcs[96]? = some Tryz.f96 := by rw [Pg_eq]; rfl
theorem sR22Abv (s : Scp) (f : F) (hs : s.sz (2^20)) (hn : 0 ≤ s.q.g.n) (hn2 : s.q.g.n ≤ 256) (hok : AbvOk s f) :
  SoundS 96 [sv s, fv f] (.tup [rv (ratR (((s.above f).map Prod.fst).getD 0)), mlv (mR (((s.above f).map Prod.snd).getD [])), .bool (fun _ => (s.above f).isSome)]) := by
 refine sound_fn hfR22Abv rfl rfl rfl rfl rfl ?_
 have cam : ∀ t, t ∈ f.ts → SoundS 143 [sv s, .int .i64 (fun _ => t.1)] (.tup [mlv (mR ((s.atMostM t.1).getD [])), .bool (fun _ => (s.atMostM t.1).isSome)]) := fun t ht => sR22AM s t.1 hs.lems (hok.v t ht).1 (hok.v t ht).2 hn hn2
 have cal : ∀ t, t ∈ f.ts → SoundS 144 [sv s, .int .i64 (fun _ => t.1)] (mlv (mR (s.atLeastM t.1))) := fun t ht => sR22AL s t.1 (hok.v t ht).1 (hok.v t ht).2 hn hn2
 have csg : ∀ t, t ∈ f.ts → SoundS 28 [rv (ratR t.2)] (.int .i64 (fun _ => sgnQ t.2)) := fun t ht => by
  have := s35 (ratR t.2) (Nat.lt_of_le_of_lt (ratR_sz (hok.fl.t t ht)).n (by decide))
  rw [q_ratR] at this
  exact this
 have cmg : ∀ t, t ∈ f.ts → ∀ a b, (∀ t, t ∈ a → Fits (2^28) t.2) → a.length ≤ 2^36 → (∀ t, t ∈ b → Fits (2^20) t.2) → b.length ≤ 64 → SoundS 145 [mlv (mR a), mlv (mR b), .agg [.bool (fun _ => false), nat (ratR t.2).num, nat (ratR t.2).den]] (mlv (mR (mergeM a b (absQ t.2)))) := fun t ht a b h1 h2 h3 h4 => by
  have := sR22Mrg a b ⟨false, (ratR t.2).num, (ratR t.2).den⟩ h1 h2 h3 h4 (by rw [ratR_abs]; exact ratR_sz (absQ_fits (hok.fl.t t ht)))
  have e : (⟨false, (ratR t.2).num, (ratR t.2).den⟩ : R).q = absQ t.2 := by rw [ratR_abs, q_ratR]
  rw [e] at this
  exact this
 have cfin : ∀ l, s.aboveL f.ts [] = some l → SoundS 17 [sv s, mlv (mR l)] (.tup [fv (s.sum (mR l)).2, .int .i64 (fun _ => (s.sum (mR l)).1)]) ∧ SoundS 27 [fv f, fv (s.sum (mR l)).2] (fv (f.sub (s.sum (mR l)).2)) := fun l hl =>
  ⟨sR22Sum s (mR l) hs (hok.sum l hl), sFSub hok.cn (Scp.sum_can s _) hok.fl (Scp.sum_fl' (hok.sum l hl)) (by decide) (by decide) (by decide) (by decide)⟩
 have hab : s.above f = (s.aboveL f.ts []).map fun l => ((f.sub (s.sum (mR l)).2).c, l) := rfl
 rw [hab]
 obtain ⟨o, ho⟩ : ∃ o, s.aboveL f.ts [] = o := ⟨_, rfl⟩
 rw [ho] at cfin ⊢
 obtain ⟨AL, hAL⟩ : ∃ AL, s.aboveL = AL := ⟨_, rfl⟩
 have hTn : ∀ l, AL [] l = some l := fun l => by rw [← hAL]; rfl
 have hTc : ∀ t r l, AL (t :: r) l = match (if 0 < sgnQ t.2 then some (s.atLeastM t.1) else s.atMostM t.1) with
  | none => none
  | some more => AL r (mergeM l more (absQ t.2)) := fun t r l => by rw [← hAL]; rfl
 obtain ⟨PR, hPR⟩ : ∃ PR : Nat → List (Row × Rat) → Prop, ∀ i l, PR i l = (s.aboveL (f.ts.take i) [] = some l) := ⟨_, fun _ _ => rfl⟩
 have hPRs : ∀ i t more l, f.ts[i]? = some t → (if 0 < sgnQ t.2 then some (s.atLeastM t.1) else s.atMostM t.1) = some more → PR i l → PR (i + 1) (mergeM l more (absQ t.2)) := fun i t more l h1 h2 h3 => by
  rw [hPR] at h3 ⊢
  rw [takeS_snoc h1]
  exact aboveL_snoc h2 h3
 have hPR0 : PR 0 [] := by rw [hPR]; rfl
 have hpre : ∀ i l, PR i l → (∀ t, t ∈ l → Fits (2^28) t.2) ∧ l.length ≤ 2^36 := fun i l h => hok.pre i l (by rw [← hPR]; exact h)
 have hmost := hok.most
 rw [hAL] at ho
 have hfl : f.ts.length < 2^38 := by have := hok.fl.len; omega
 obtain ⟨V, hV⟩ : ∃ V, fA f = V := ⟨_, rfl⟩
 have hVt : ∀ (i : Nat) t, f.ts[i]? = some t → V.ts[i]? = some (t.1, ratR t.2) := fun i t h => by
  rw [← hV]
  show (tR f.ts)[i]? = _
  simp [tR, List.getElem?_map, h]
 have hVl : V.ts.length = f.ts.length := by rw [← hV]; exact tR_len _
 have hfv : fv f = av V := by rw [← hV]
 rw [hfv] at cfin ⊢
 obtain ⟨W, hW⟩ : ∃ W, ratR (((o.map fun l => ((f.sub (s.sum (mR l)).2).c, l)).map Prod.fst).getD 0) = W := ⟨_, rfl⟩
 obtain ⟨RL, hRL⟩ : ∃ W, mR (((o.map fun l => ((f.sub (s.sum (mR l)).2).c, l)).map Prod.snd).getD []) = W := ⟨_, rfl⟩
 obtain ⟨bb, hbb⟩ : ∃ W, (o.map fun l => ((f.sub (s.sum (mR l)).2).c, l)).isSome = W := ⟨_, rfl⟩
 rw [hW, hRL, hbb]
 have gN : o = none → W = R0 ∧ RL = [] ∧ bb = false := fun h => by rw [h] at hW hRL hbb; exact ⟨hW.symm.trans ratR_zero, hRL.symm, hbb.symm⟩
 have gS : ∀ l, o = some l → W = ratR (f.sub (s.sum (mR l)).2).c ∧ RL = mR l ∧ bb = true := fun l h => by rw [h] at hW hRL hbb; exact ⟨hW.symm, hRL.symm, hbb.symm⟩
 clear hW hRL hbb hab hAL hPR hok hV hfv
 obtain ⟨w1, w2, w3⟩ := W
 have gN' : o = none → w1 = false ∧ w2 = [] ∧ w3 = [] ∧ RL = [] ∧ bb = false := fun h => by
  obtain ⟨h1, h2, h3⟩ := gN h
  have h1' := R.mk.inj h1
  exact ⟨h1'.1, h1'.2.1, h1'.2.2, h2, h3⟩
 clear gN
 cbv
 refine loop_n (σ := Nat × List (Row × Rat)) (fun st => ⟨[(2, .ptr 2 0), (3, .ptr 3 0), (4, .ptr 4 0), (7, mlv (mR st.2)), (8, .int .i64 (fun _ => (st.1 : Int)))], [(2, .box (sc s)), (3, .box [tsv V.ts, .bool (fun _ => V.c.neg), nat V.c.num, nat V.c.den]), (4, .box [.ff, .nil, .nil])]⟩)
  (fun st => st.1 ≤ f.ts.length ∧ AL (f.ts.drop st.1) st.2 = o ∧ PR st.1 st.2) (fun st => f.ts.length - st.1)
  (0, []) ⟨Nat.zero_le _, ho, hPR0⟩ (.le okZ okZ rfl) ?_
 intro st hst
 obtain ⟨i, acc⟩ := st
 obtain ⟨h1, h2, h4⟩ := hst
 dsimp only at h1 h2 h4
 clear ho hPR0
 have h3 := hpre i acc h4
 cbv
 refine cut_dec (fun h5 => ?_) (fun h5 => ?_)
 ·rw [enc_len, hVl] at h5
  have hlt : i < f.ts.length := by (try dsimp only [ncast] at *); omega
  obtain ⟨t, ht⟩ := get_some hlt
  have hmem := List.mem_of_getElem? ht
  have hx := hVt i t ht
  have cam' := cam t hmem
  have cal' := cal t hmem
  have csg' := csg t hmem
  have hmo := hmost t hmem
  have cmg' := cmg t hmem
  obtain ⟨X, hX⟩ : ∃ X, ratR t.2 = X := ⟨_, rfl⟩
  simp only [hX] at cmg'
  rw [hX] at hx csg'
  clear cam cal csg cmg hmost hVt cfin gS
  generalize hsg : sgnQ t.2 = sg at *
  cbv
  refine idx_at hx tc_flat tc_len ?_
  cbv
  refine callS' rfl okA (cam') rfl ?_
  cbv
  refine callS' rfl okA (csg') rfl ?_
  cbv
  refine cut_dec (fun e1 => ?_) (fun e1 => ?_)
  ·have HM : (if 0 < sgnQ t.2 then some (s.atLeastM t.1) else s.atMostM t.1) = some (s.atLeastM t.1) := by rw [hsg, if_pos e1]
   have hls := least_fit s t.1
   have hPn := hPRs i t _ acc ht HM h4
   have hn' : AL (f.ts.drop i) acc = AL (f.ts.drop (i + 1)) (mergeM acc (s.atLeastM t.1) (absQ t.2)) := by rw [drop_of_get ht, hTc, HM]
   rw [hn'] at h2
   have cm := cmg' acc _ h3.1 h3.2 hls.1 hls.2
   clear HM hTc hPRs hn' hls
   generalize s.atLeastM t.1 = more at *
   generalize mergeM acc more (absQ t.2) = acc' at *
   cbv
   refine callS' rfl okA (cal') rfl ?_
   cbv
   refine callS' rfl okA (cm) rfl ?_
   cbv
   exact ⟨in64_of om om, (i + 1, acc'), ⟨om, h2, hPn⟩, om, .le okZ okZ rfl⟩
  ·have HM0 : (if 0 < sgnQ t.2 then some (s.atLeastM t.1) else s.atMostM t.1) = s.atMostM t.1 := by rw [hsg, if_neg e1]
   cases hoo : s.atMostM t.1 with
   | none =>
    have hz : o = none := by rw [← h2, drop_of_get ht, hTc, HM0, hoo]
    obtain ⟨q1, q2, q3, q4, q5⟩ := gN' hz
    subst q1 q2 q3 q4 q5
    cbv
    refine cut_bool (fun e => absurd e (by simp)) (fun _ => ?_)
    cbv
    (refine retC rfl ?_; cbv)
    exact ⟨⟨leS_ff rfl, leS_nil rfl, leS_nil rfl, trivial⟩, leS_nil rfl, leS_ff rfl, trivial⟩
   | some more =>
    have hls := hmo more hoo
    have hPn := hPRs i t more acc ht (HM0.trans hoo) h4
    have hn' : AL (f.ts.drop i) acc = AL (f.ts.drop (i + 1)) (mergeM acc more (absQ t.2)) := by rw [drop_of_get ht, hTc, HM0, hoo]
    rw [hn'] at h2
    have cm := cmg' acc more h3.1 h3.2 hls.1 hls.2
    have hg : (s.atMostM t.1).getD [] = more := by rw [hoo]; rfl
    clear HM0 hTc hPRs hn' hls
    generalize mergeM acc more (absQ t.2) = acc' at *
    cbv
    refine cut_bool (fun _ => ?_) (fun e => absurd e (by simp))
    cbv
    refine callS' rfl (by exact ⟨leS_refl _, leS_sl rfl, ⟨leS_ff rfl, leS_refl _, leS_refl _, trivial⟩, trivial⟩) cm rfl ?_
    cbv
    exact ⟨in64_of om om, (i + 1, acc'), ⟨om, h2, hPn⟩, om, .le okZ okZ rfl⟩
 ·have hi : i = f.ts.length := by rw [enc_len, hVl] at h5; (try dsimp only [ncast] at *); omega
  rw [hi, List.drop_length, hTn] at h2
  obtain ⟨c1, c2⟩ := cfin acc h2.symm
  obtain ⟨q1, q2, q3⟩ := gS acc h2.symm
  subst q2 q3
  (try dsimp only [fv] at c1 c2)
  have e1 : fA (f.sub (s.sum (mR acc)).2) = ⟨tR (f.sub (s.sum (mR acc)).2).ts, ratR (f.sub (s.sum (mR acc)).2).c⟩ := rfl
  rw [e1, ← q1] at c2
  generalize tR (f.sub (s.sum (mR acc)).2).ts = TT at *
  generalize fA (s.sum (mR acc)).2 = SS at *
  generalize (s.sum (mR acc)).1 = code at *
  clear q1 e1 gS gN' cfin
  cbv
  refine callS' rfl okA (c1) rfl ?_
  cbv
  refine callS' rfl okA (c2) rfl ?_
  cbv
  (refine retC rfl ?_; cbv)
  exact ⟨⟨leS_refl _, leS_refl _, leS_refl _, trivial⟩, leS_refl _, leS_tt rfl, trivial⟩
end Go.Proofs.YtcanljninhfmhaaGreat

namespace Go.Proofs.YtcanljninhfmhaaGreat
open Go
set_option linter.unusedVariables false
theorem Wt.take {s : Scp} : ∀ {l : List (Row × Rat)} {N : Nat}, Wt s l N → ∀ i, ∃ M, M ≤ N ∧ Wt s (l.take i) M
 | _, _, .nil, i => ⟨0, Nat.le_refl _, by rw [List.take_nil]; exact .nil⟩
 | _, _, .cons hk hg h, 0 => ⟨0, Nat.zero_le _, by rw [List.take_zero]; exact .nil⟩
 | _, _, .cons (k := k) (g := g) (N := N) hk hg h, i + 1 => by
  obtain ⟨M, h1, h2⟩ := h.take i
  exact ⟨k + g + 5 + M, by omega, by rw [List.take_succ_cons]; exact .cons hk hg h2⟩
theorem Wt.fmem {s : Scp} : ∀ {l : List (Row × Rat)} {N : Nat}, Wt s l N → ∀ t, t ∈ l → ∀ f, s.fm t.1 = some f → f.fl N 3000
 | _, _, .nil, t, ht => absurd ht (by simp)
 | _, _, .cons hk hg h, t, ht => by
  rcases List.mem_cons.1 ht with rfl | ht
  ·exact fun f hf => (hg f hf).mono (by omega) (Nat.le_refl _)
  ·exact fun f hf => (h.fmem t ht f hf).mono (by omega) (Nat.le_refl _)
theorem Wt.sumOk {s : Scp} {l : List (Row × Rat)} {N : Nat} (h : Wt s l N) (hN : N < 2^26) (hf : ∀ t, t ∈ l → ∀ f, s.fm t.1 = some f → f.fl (2^24) 3000) (hc : ∀ t, t ∈ l → Fits (2^20) t.2) (hl : l.length ≤ 100000) : SumOk s (mR l) where
 fm m hm f hf' := by
  obtain ⟨t, ht, rfl⟩ := List.mem_map.1 hm
  exact (hf t ht f hf').mono (Nat.le_refl _) (by decide)
 c := ⟨by rw [mR_len]; omega, fun m hm => by
  obtain ⟨t, ht, rfl⟩ := List.mem_map.1 hm
  exact ratR_sz (hc t ht)⟩
 pre i acc ha := by
  obtain ⟨M, h1, h2⟩ := h.take i
  rw [mR_take] at ha
  have := h2.sumL zero_fl ha
  have hl2 : (l.take i).length ≤ l.length := by rw [List.length_take]; omega
  exact this.mono (by omega) (by omega)
theorem Wt.sumOk' {s : Scp} {l : List (Row × Rat)} {N : Nat} (h : Wt s l N) (hN : N ≤ 2^20) (hl : l.length ≤ 100000) : SumOk s (mR l) :=
 h.sumOk (Nat.lt_of_le_of_lt hN (by decide)) (fun t ht f hf => (h.fmem t ht f hf).mono (Nat.le_trans hN (by decide)) (Nat.le_refl _)) (fun t ht => (h.mem t ht).mono hN) hl
theorem abvOk_of {s : Scp} {x : FQry} (hq : s.q = x.q) (hx : x.small) (hL : LB KK s.lems) {f : F} {j : Nat} (hj : j ≤ 3) (hf : f.fl 46 7) (hw : f.wf ((x.g.n + j : Nat) : Int)) : AbvOk s f := by
 have ok := KK_ok hx.g.n1 hx.g.n2 hj
 have kl := KK_le j
 have hn := hx.g.n2
 have hv : ∀ t, t ∈ f.ts → ((0 : Nat) : Int) ≤ t.1 ∧ t.1 < ((x.g.n + j : Nat) : Int) := fun t ht => by have := hw.v t ht; omega
 have key : ∀ i l, s.aboveL (f.ts.take i) [] = some l → ∃ M, M ≤ 2^20 ∧ Wt s l M ∧ l.length ≤ 14 := fun i l h => by
  obtain ⟨M, h1, h2⟩ := aboveL_wt hq hx KK_pos hL (hi := x.g.n + j) (lo := 0) (hw.cn.take i) (fun t ht => hv t (List.mem_of_mem_take ht)) (fun t ht => hf.t t (List.mem_of_mem_take ht)) (Nat.zero_le _) .nil h
  have h3 := aboveL_len h
  have h4 := hf.len
  have h5 : (f.ts.take i).length ≤ f.ts.length := by rw [List.length_take]; omega
  have h6 : csum KK x.g.n 0 = 0 := rfl
  simp only [List.length_nil] at h3
  refine ⟨M, ?_, h2, by omega⟩
  have : (679650 : Nat) ≤ 2^20 := by decide
  omega
 refine ⟨hw.cn, hf.mono (by decide) (by decide), fun t ht => ?_, fun i l h => ?_, fun t ht more h => ?_, fun l h => ?_⟩
 ·have := hv t ht
  omega
 ·obtain ⟨M, h1, h2, h3⟩ := key i l h
  exact ⟨fun t ht => (h2.mem t ht).mono (Nat.le_trans h1 (by decide)), by omega⟩
 ·obtain ⟨v, hv1⟩ : ∃ v : Nat, t.1 = v := ⟨t.1.toNat, by have := hv t ht; omega⟩
  rw [hv1] at h
  obtain ⟨B, h1, h2⟩ := most_wt hq hx KK_pos hL v h
  have h3 := most_len h
  refine ⟨fun u hu => (h2.mem u hu).mono ?_, by omega⟩
  have hlt : v + 1 ≤ x.g.n + j := by have := hv t ht; omega
  have h4 := csum_mono (K := KK) (n := x.g.n) hlt
  have h5 : csum KK x.g.n (v + 1) = csum KK x.g.n v + cst KK x.g.n v := rfl
  have : (679650 : Nat) ≤ 2^20 := by decide
  omega
 ·have hfull : f.ts.take f.ts.length = f.ts := List.take_length
  obtain ⟨M, h1, h2, h3⟩ := key f.ts.length l (by rw [hfull]; exact h)
  exact h2.sumOk' h1 (by omega)
end Go.Proofs.YtcanljninhfmhaaGreat
