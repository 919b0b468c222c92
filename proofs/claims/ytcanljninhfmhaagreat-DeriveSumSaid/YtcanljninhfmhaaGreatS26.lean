/- A part of the proof: ReE, ReF, ReG, ReH. -/
import Derived.Test.YtcanljninhfmhaaGreatS25
set_option linter.all false
namespace Go.Proofs.YtcanljninhfmhaaGreat
open Go
set_option linter.unusedVariables false
set_option maxRecDepth 100000
theorem hf158 : Pg.funcs[127]? = some Tryz.f127 := by rw [Pg_eq]; rfl
theorem s158 (a b : List UInt32) (ha : a.length < 2^34) (hb : b.length < 2^34) : SoundS 127 [nat a, nat b] (nat (limbs (Nat.gcd (val a) (val b)))) := by
 refine sound_fn hf158 rfl rfl rfl rfl rfl ?_
 have ha' := Nat.lt_of_le_of_lt (limbs_length_le' a) ha
 have hb' := Nat.lt_of_le_of_lt (limbs_length_le' b) hb
 generalize hg : Nat.gcd (val a) (val b) = g
 cbv
 refine callS' rfl okA (s155 a (by omega)) rfl ?_
 cbv
 refine callS' rfl okA (s155 b (by omega)) rfl ?_
 cbv
 refine loop_n (σ := Nat × Nat) (fun z => ⟨[(0, nat (limbs z.1)), (1, nat (limbs z.2))], []⟩) (fun z => (limbs z.1).length < 2^34 ∧ (limbs z.2).length < 2^34 ∧ Nat.gcd z.1 z.2 = g) (fun z => z.2) (val a, val b) ⟨ha', hb', hg⟩ (.le ?_ trivial rfl) ?_
 ·cbv
  exact ⟨leS_refl _, leS_refl _, trivial⟩
 intro z hz
 obtain ⟨h1, h2, h3⟩ := hz
 generalize z.1 = x at *
 generalize z.2 = y at *
 cbv
 refine cut_dec (fun h4 => ?_) (fun h4 => ?_)
 ·have hy : y ≠ 0 := fun e => by subst e; (try dsimp only [ncast] at *); simp [lm, limbs_zero] at h4
  have hm := Nat.mod_lt x (Nat.pos_of_ne_zero hy)
  have c1 := s159 (limbs x) (limbs y) h1 h2 (by rw [val_limbs]; exact hy)
  rw [val_limbs, val_limbs] at c1
  cbv
  refine callS' rfl okA (c1) rfl ?_
  cbv
  refine ⟨(y, x % y), ⟨h2, Nat.lt_of_le_of_lt (len_le_val (Nat.le_of_lt hm)) h2, by rw [Nat.gcd_comm, ← Nat.gcd_rec, Nat.gcd_comm]; exact h3⟩, hm, .le ?_ trivial rfl⟩
  cbv
  exact ⟨leS_refl _, leS_refl _, trivial⟩
 ·have hy : y = 0 := limbs_eq_nil.1 (List.eq_nil_of_length_eq_zero (by (try dsimp only [ncast] at *); rw [lm_length] at h4; omega))
  subst hy
  cbv
  (refine retC rfl ?_; cbv)
  exact leS_sl (by rw [← h3, Nat.gcd_zero_right])
theorem hf148 : Pg.funcs[113]? = some Tryz.f113 := by rw [Pg_eq]; rfl
theorem s148 (neg : Bool) (m : List UInt32) (hm : m.length < 2^40) : SoundS 113 [.bool (fun _ => neg), nat m] (zv (intZ (sgn neg (val m)))) := by
 refine sound_fn hf148 rfl rfl rfl rfl rfl ?_
 rw [intZ_sgn]
 cbv
 refine callS' rfl okA (s155 m (by omega)) rfl ?_
 cbv
 refine br_bool (fun h => ?_) (fun h => ?_)
 ·subst h
  cbv
  (refine retC rfl ?_; cbv)
  refine ⟨leS_bool ?_, leS_refl _, trivial⟩
  rw [Bool.eq_iff_iff]
  simp only [decide_eq_true_eq, lm_length, Bool.true_and]
  rw [← @limbs_eq_nil (val m), ← List.length_eq_zero_iff]
  (try dsimp only [ncast] at *)
  omega
 ·subst h
  cbv
  (refine retC rfl ?_; cbv)
  exact ⟨leS_ff rfl, leS_refl _, trivial⟩
theorem hf88 : Pg.funcs[62]? = some Tryz.f62 := by rw [Pg_eq]; rfl
theorem s88 (x : Int) (h1 : -9223372036854775808 ≤ x) (h2 : x < 9223372036854775808) : SoundS 62 [.int .i64 (fun _ => x)] (zv (intZ x)) := by
 refine sound_fn hf88 rfl rfl rfl rfl rfl ?_
 have hBB : B * B = 18446744073709551616 := by decide
 have hl : (limbs x.natAbs).length ≤ 2 := len2.2 (by omega)
 have c1 := s148 true (limbs x.natAbs) (by omega)
 have c2 := s148 false (limbs x.natAbs) (by omega)
 have c3 := s149 x.natAbs (by omega)
 rw [val_limbs] at c1 c2
 have e1 : x < 0 → sgn true x.natAbs = x := fun h => by show -(x.natAbs : Int) = x; omega
 have e2 : ¬ x < 0 → sgn false x.natAbs = x := fun h => by show (x.natAbs : Int) = x; omega
 have n1 : x < 0 → nx .u64 (0 - nx .u64 x) = ((x.natAbs : Nat) : Int) := fun h => by simp only [nx_u64]; omega
 have n2 : ¬ x < 0 → nx .u64 x = ((x.natAbs : Nat) : Int) := fun h => by simp only [nx_u64]; omega
 generalize x.natAbs = n at *
 cbv
 refine cut_dec (fun h => ?_) (fun h => ?_)
 ·rw [e1 h] at c1
  generalize intZ x = W at *
  have n3 := n1 h
  cbv
  refine callS' rfl (by exact ⟨leS_int n3, trivial⟩) c3 rfl ?_
  cbv
  refine callS' rfl okA (c1) rfl ?_
  cbv
  (refine retC rfl ?_; cbv)
  exact ⟨leS_refl _, leS_refl _, trivial⟩
 ·rw [e2 h] at c2
  generalize intZ x = W at *
  have n3 := n2 h
  cbv
  refine callS' rfl (by exact ⟨leS_int n3, trivial⟩) c3 rfl ?_
  cbv
  refine callS' rfl okA (c2) rfl ?_
  cbv
  (refine retC rfl ?_; cbv)
  exact ⟨leS_refl _, leS_refl _, trivial⟩
theorem hf90 : Pg.funcs[64]? = some Tryz.f64 := by rw [Pg_eq]; rfl
theorem s90 (x : Z) (hx : x.mag.length < 2^40) : SoundS 64 [zv x] (.int .i64 (fun _ => sgnI x.v)) := by
 refine sound_fn hf90 rfl rfl rfl rfl rfl ?_
 have c1 := s148 x.neg x.mag hx
 have e : sgn x.neg (val x.mag) = x.v := rfl
 rw [e] at c1
 have hneg : (intZ x.v).neg = decide (x.v < 0) := rfl
 have hmag : (intZ x.v).mag.length = 0 ↔ x.v = 0 := by
  show (limbs x.v.natAbs).length = 0 ↔ _
  rw [List.length_eq_zero_iff, limbs_eq_nil]; omega
 have e0 : x.v = 0 → sgnI x.v = 0 := fun h => by rw [h]; rfl
 have e1 : x.v < 0 → sgnI x.v = -1 := fun h => by unfold sgnI; rw [if_pos h]
 have e2 : ¬ x.v < 0 → x.v ≠ 0 → sgnI x.v = 1 := fun h h' => by unfold sgnI; rw [if_neg h, if_pos (by omega)]
 generalize sgnI x.v = s at *
 generalize intZ x.v = W at *
 generalize x.v = v at *
 obtain ⟨a, m⟩ := x
 obtain ⟨w1, w2⟩ := W
 simp only at hneg hmag
 cbv
 refine callS' rfl okA (c1) rfl ?_
 cbv
 refine cut_dec (fun h => ?_) (fun h => ?_)
 ·cbv
  (refine retC rfl ?_; cbv)
  exact leS_int (e0 (hmag.1 om)).symm
 ·have hv : v ≠ 0 := fun e => h (by have := hmag.2 e; (try dsimp only [ncast] at *); rw [lm_length]; omega)
  cbv
  refine cut_bool (fun h2 => ?_) (fun h2 => ?_)
  ·cbv
   (refine retC rfl ?_; cbv)
   exact leS_int (e1 (of_decide_eq_true (hneg.symm.trans h2))).symm
  ·cbv
   (refine retC rfl ?_; cbv)
   exact leS_int (e2 (of_decide_eq_false (hneg.symm.trans h2)) hv).symm
theorem hf101 : Pg.funcs[79]? = some Tryz.f79 := by rw [Pg_eq]; rfl
theorem s101 (x y : Z) (hx : x.mag.length < 2^38) (hy : y.mag.length < 2^38) : SoundS 79 [zv x, zv y] (zv (intZ (x.v + y.v))) := by
 refine sound_fn hf101 rfl rfl rfl rfl rfl ?_
 obtain ⟨n1, m1⟩ := x
 obtain ⟨n2, m2⟩ := y
 have hv : Z.v ⟨n1, m1⟩ + Z.v ⟨n2, m2⟩ = sgn n1 (val m1) + sgn n2 (val m2) := rfl
 have hl := len_add m1 m2
 have hl1 := len_sub m1 m2
 have hl2 := len_sub m2 m1
 have hx' : m1.length < 2^38 := hx
 have hy' : m2.length < 2^38 := hy
 rw [hv]
 have c1 : n1 = n2 → SoundS 113 [.bool (fun _ => n1), nat (limbs (val m1 + val m2))] (zv (intZ (sgn n1 (val m1) + sgn n2 (val m2)))) := by
  intro h
  have := s148 n1 (limbs (val m1 + val m2)) (by omega)
  rw [val_limbs] at this
  have e : sgn n1 (val m1 + val m2) = sgn n1 (val m1) + sgn n2 (val m2) := by rw [← h]; cases n1 <;> simp [sgn]; omega
  rw [e] at this
  exact this
 have c2 : n1 ≠ n2 → val m2 ≤ val m1 → SoundS 113 [.bool (fun _ => n1), nat (limbs (val m1 - val m2))] (zv (intZ (sgn n1 (val m1) + sgn n2 (val m2)))) := by
  intro h hge
  have := s148 n1 (limbs (val m1 - val m2)) (by omega)
  rw [val_limbs] at this
  have e : sgn n1 (val m1 - val m2) = sgn n1 (val m1) + sgn n2 (val m2) := by cases n1 <;> cases n2 <;> simp [sgn] at h ⊢ <;> omega
  rw [e] at this
  exact this
 have c3 : n1 ≠ n2 → ¬ val m2 ≤ val m1 → SoundS 113 [.bool (fun _ => n2), nat (limbs (val m2 - val m1))] (zv (intZ (sgn n1 (val m1) + sgn n2 (val m2)))) := by
  intro h hge
  have := s148 n2 (limbs (val m2 - val m1)) (by omega)
  rw [val_limbs] at this
  have e : sgn n2 (val m2 - val m1) = sgn n1 (val m1) + sgn n2 (val m2) := by cases n1 <;> cases n2 <;> simp [sgn] at h ⊢ <;> omega
  rw [e] at this
  exact this
 have cs1 := s157 m1 m2 (by omega) (by omega)
 have cs2 := s157 m2 m1 (by omega) (by omega)
 have hE1 : val m2 ≤ val m1 → (if val m2 ≤ val m1 then (0 : Int) else 2) = 0 := fun h => if_pos h
 have hE2 : ¬ val m2 ≤ val m1 → (if val m2 ≤ val m1 then (0 : Int) else 2) = 2 := fun h => if_neg h
 generalize (if val m2 ≤ val m1 then (0 : Int) else 2) = E at *
 generalize (if val m1 ≤ val m2 then (0 : Int) else 2) = E' at *
 generalize sgn n1 (val m1) + sgn n2 (val m2) = T at *
 cbv
 refine cut_dec (fun h => ?_) (fun h => ?_)
 ·have h' := c1 h
  generalize intZ T = W at *
  cbv
  refine draw_of 8 (by cbv) ?_
  cbv
  refine callS_d okA (s156 m1 m2 (by omega) (by omega)) rfl ?_
  cbv
  refine callS_d okA (h') rfl ?_
  cbv
  (refine retC rfl ?_; cbv)
  exact ⟨leS_refl _, leS_refl _, trivial⟩
 ·have h2 := c2 h
  have h3 := c3 h
  generalize intZ T = W at *
  cbv
  refine callS' rfl okA (cs1) rfl ?_
  cbv
  refine cut_dec (fun h4 => ?_) (fun h4 => ?_)
  ·have hge : val m2 ≤ val m1 := by
    rcases Nat.lt_or_ge (val m1) (val m2) with e | e
    ·have := hE2 (by omega); omega
    ·exact e
   cbv
   refine callS' rfl okA (h2 hge) rfl ?_
   cbv
   (refine retC rfl ?_; cbv)
   exact ⟨leS_refl _, leS_refl _, trivial⟩
  ·have hlt : ¬ val m2 ≤ val m1 := fun e => h4 (hE1 e)
   cbv
   refine callS' rfl okA (cs2) rfl ?_
   cbv
   refine callS' rfl okA (h3 hlt) rfl ?_
   cbv
   (refine retC rfl ?_; cbv)
   exact ⟨leS_refl _, leS_refl _, trivial⟩
end Go.Proofs.YtcanljninhfmhaaGreat

namespace Go.Proofs.YtcanljninhfmhaaGreat
open Go
set_option linter.unusedVariables false
set_option maxRecDepth 100000
def oneL (d : List UInt32) : List UInt32 := limbs (if val d = 0 then 1 else val d)
theorem val_one (x : R) : val (oneL x.den) = x.d := by
 unfold oneL R.d
 rw [val_limbs]
theorem one_len (d : List UInt32) : (oneL d).length ≤ d.length + 1 := by
 unfold oneL
 split
 ·rw [limbs_one]; simp
 ·have := limbs_length_le' d; omega
theorem hf100 : Pg.funcs[78]? = some Tryz.f78 := by rw [Pg_eq]; rfl
theorem s100 (d : List UInt32) (hd : d.length < 2^40) : SoundS 78 [nat d] (nat (oneL d)) := by
 refine sound_fn hf100 rfl rfl rfl rfl rfl ?_
 have c1 := s155 d (by omega)
 have e1 : (limbs (val d)).length = 0 → oneL d = [1] := fun h => by unfold oneL; rw [if_pos (limbs_eq_nil.1 (List.eq_nil_of_length_eq_zero h)), limbs_one]
 have e2 : (limbs (val d)).length ≠ 0 → oneL d = limbs (val d) := fun h => by unfold oneL; rw [if_neg (fun e => h (by rw [e, limbs_zero]; rfl))]
 generalize oneL d = u at *
 generalize limbs (val d) = p at *
 cbv
 refine callS' rfl okA (c1) rfl ?_
 cbv
 refine cut_dec (fun h => ?_) (fun h => ?_)
 ·have := e1 om
  subst this
  cbv
  (refine retC rfl ?_; cbv)
  exact leS_sl rfl
 ·have := e2 (by (try dsimp only [ncast] at *); rw [lm_length] at h; omega)
  subst this
  cbv
  (refine retC rfl ?_; cbv)
  exact leS_refl _
theorem hf102 : Pg.funcs[80]? = some Tryz.f80 := by rw [Pg_eq]; rfl
theorem s102 (neg : Bool) (num den : List UInt32) (hn : num.length < 2^33) (hd : den.length < 2^33) (h0 : val den ≠ 0) : SoundS 80 [.bool (fun _ => neg), nat num, nat den] (rv (ratR (mkRat (sgn neg (val num)) (val den)))) := by
 refine sound_fn hf102 rfl rfl rfl rfl rfl ?_
 rw [quo_parts h0]
 have hg0 : Nat.gcd (val num) (val den) ≠ 0 := fun e => h0 (Nat.eq_zero_of_gcd_eq_zero_right e)
 have hgl : (limbs (Nat.gcd (val num) (val den))).length < 2^33 := Nat.lt_of_le_of_lt (Nat.le_trans (len_le_val (Nat.le_of_dvd (Nat.pos_of_ne_zero h0) (Nat.gcd_dvd_right _ _))) (limbs_length_le' den)) hd
 have cg := s158 num den (by omega) (by omega)
 have cn := s159 num (limbs (Nat.gcd (val num) (val den))) (by omega) (by omega) (by rw [val_limbs]; exact hg0)
 have cd := s159 den (limbs (Nat.gcd (val num) (val den))) (by omega) (by omega) (by rw [val_limbs]; exact hg0)
 rw [val_limbs] at cn cd
 have hnz : val num / Nat.gcd (val num) (val den) = 0 ↔ val num = 0 := by
  rw [Nat.div_eq_zero_iff_lt (Nat.pos_of_ne_zero hg0)]
  constructor
  ·intro h
   rcases Nat.eq_zero_or_pos (val num) with e | e
   ·exact e
   ·have := Nat.gcd_le_left (val den) e; omega
  ·intro h; omega
 have hdl : (limbs (val den / Nat.gcd (val num) (val den))).length < 2^33 := Nat.lt_of_le_of_lt (Nat.le_trans (len_le_val (Nat.div_le_self _ _)) (limbs_length_le' den)) hd
 generalize val den / Nat.gcd (val num) (val den) = D' at *
 generalize val num / Nat.gcd (val num) (val den) = N' at *
 generalize Nat.gcd (val num) (val den) = g at *
 generalize val num = N at *
 show wp _ _ (postOf _ (.agg [.bool (fun _ => neg && decide (N ≠ 0)), nat (limbs N'), nat (if D' = 1 then [] else limbs D')]) [] [])
 have hN0 : decide (N ≠ 0) = decide (0 < (limbs N').length) := by
  rw [decide_eq_decide, List.length_pos_iff, ne_eq, ne_eq, limbs_eq_nil, hnz]
 rw [hN0]
 have hone := @limbs_eq_one D'
 generalize hr2 : (if D' = 1 then [] else limbs D') = r2
 have hr2a : limbs D' = [1] → r2 = [] := fun h => by rw [← hr2, if_pos (hone.1 h)]
 have hr2b : limbs D' ≠ [1] → r2 = limbs D' := fun h => by rw [← hr2, if_neg (fun e => h (hone.2 e))]
 generalize limbs D' = dl at *
 generalize limbs N' = nl at *
 clear hr2 hone hN0 hnz
 cbv
 refine callS' rfl okA (cg) rfl ?_
 cbv
 refine callS' rfl okA (cn) rfl ?_
 cbv
 refine callS' rfl okA (cd) rfl ?_
 cbv
 have one_of : ∀ (h1 : dl.length = 1), ((dl.getD 0 0).toNat : Int) = 1 ↔ dl = [1] := by
  intro h1
  match dl, h1 with
  | [x], _ =>
   have e1 : [x].getD 0 0 = x := rfl
   rw [e1]
   constructor
   ·intro h2
    have : x = 1 := UInt32.toNat_inj.1 (by show x.toNat = 1; omega)
    rw [this]
   ·intro h2; rw [List.cons.inj h2 |>.1]; rfl
 refine br_dec (fun h => ?_) (fun h => ?_)
 ·have h1 : dl.length = 1 := om
  have ho := one_of h1
  cbv
  refine idx_lm 0 rfl (by omega) ?_
  cbv
  refine cut_dec (fun h2 => ?_) (fun h2 => ?_)
  ·have h3 := hr2a (ho.1 h2)
   cbv
   refine br_bool (fun h4 => ?_) (fun h4 => ?_)
   ·subst h4
    cbv
    (refine retC rfl ?_; cbv)
    exact ⟨leS_bool (by simp [lm_length]), leS_refl _, leS_nil (by rw [h3]; rfl), trivial⟩
   ·subst h4
    cbv
    (refine retC rfl ?_; cbv)
    exact ⟨leS_ff rfl, leS_refl _, leS_nil (by rw [h3]; rfl), trivial⟩
  ·have h3 := hr2b (fun e => h2 (ho.2 e))
   cbv
   refine br_bool (fun h4 => ?_) (fun h4 => ?_)
   ·subst h4
    cbv
    (refine retC rfl ?_; cbv)
    exact ⟨leS_bool (by simp [lm_length]), leS_refl _, leS_sl (by rw [h3]), trivial⟩
   ·subst h4
    cbv
    (refine retC rfl ?_; cbv)
    exact ⟨leS_ff rfl, leS_refl _, leS_sl (by rw [h3]), trivial⟩
 ·have h3 := hr2b (fun e => h (by rw [e]; rfl))
  cbv
  refine br_bool (fun h4 => ?_) (fun h4 => ?_)
  ·subst h4
   cbv
   (refine retC rfl ?_; cbv)
   exact ⟨leS_bool (by simp [lm_length]), leS_refl _, leS_sl (by rw [h3]), trivial⟩
  ·subst h4
   cbv
   (refine retC rfl ?_; cbv)
   exact ⟨leS_ff rfl, leS_refl _, leS_sl (by rw [h3]), trivial⟩
theorem hf47 : Pg.funcs[40]? = some Tryz.f40 := by rw [Pg_eq]; rfl
theorem s47 (x : R) (hx : x.sz (2^32)) : SoundS 40 [rv x] (rv (ratR x.q)) := by
 refine sound_fn hf47 rfl rfl rfl rfl rfl ?_
 have h1 := hx.n
 have h2 := hx.d
 have h3 := one_len x.den
 have cu := s100 x.den (by omega)
 have cq := s102 x.neg x.num (oneL x.den) (by omega) (by omega) (by rw [val_one]; exact x.d_ne)
 rw [val_one] at cq
 have e : mkRat (sgn x.neg (val x.num)) x.d = x.q := rfl
 rw [e] at cq
 generalize ratR x.q = W at *
 generalize oneL x.den = u at *
 obtain ⟨neg, num, den⟩ := x
 cbv
 refine draw_of 8 (by cbv) ?_
 cbv
 refine callS_d okA (cu) rfl ?_
 cbv
 refine callS_d okA (cq) rfl ?_
 cbv
 (refine retC rfl ?_; cbv)
 exact ⟨leS_refl _, leS_refl _, leS_refl _, trivial⟩
theorem hf35 : Pg.funcs[28]? = some Tryz.f28 := by rw [Pg_eq]; rfl
theorem s35 (x : R) (hx : x.num.length < 2^40) : SoundS 28 [rv x] (.int .i64 (fun _ => sgnQ x.q)) := by
 refine sound_fn hf35 rfl rfl rfl rfl rfl ?_
 have c2 := s90 ⟨x.neg, x.num⟩ hx
 have e : Z.v ⟨x.neg, x.num⟩ = x.n := rfl
 rw [e, ← sgnQ_q] at c2
 generalize sgnQ x.q = s at *
 obtain ⟨neg, num, den⟩ := x
 cbv
 refine callS' rfl okA (c2) rfl ?_
 cbv
 (refine retC rfl ?_; cbv)
 exact leS_refl _
theorem hf143 : Pg.funcs[97]? = some Tryz.f97 := by rw [Pg_eq]; rfl
theorem s143 (x : R) (hx : x.sz (2^32)) : SoundS 97 [rv x] (rv (ratR (-x.q))) := by
 refine sound_fn hf143 rfl rfl rfl rfl rfl ?_
 have ca := s47 ⟨!x.neg, x.num, x.den⟩ ⟨hx.n, hx.d⟩
 rw [q_neg] at ca
 generalize ratR (-x.q) = W at *
 obtain ⟨a, b, c⟩ := x
 generalize hna : (!a) = na at *
 cbv
 refine callS' rfl (by exact ⟨⟨leS_nbool hna.symm, leS_refl _, leS_refl _, trivial⟩, trivial⟩) ca rfl ?_
 cbv
 (refine retC rfl ?_; cbv)
 exact ⟨leS_refl _, leS_refl _, leS_refl _, trivial⟩
theorem hf77 : Pg.funcs[46]? = some Tryz.f46 := by rw [Pg_eq]; rfl
theorem s77 (x y : R) (hx : x.sz (2^31)) (hy : y.sz (2^31)) : SoundS 46 [rv x, rv y] (rv (ratR (x.q * y.q))) := by
 refine sound_fn hf77 rfl rfl rfl rfl rfl ?_
 have h1 := hx.n
 have h2 := hx.d
 have h3 := hy.n
 have h4 := hy.d
 have h7 := one_len x.den
 have h8 := one_len y.den
 have cux := s100 x.den (by omega)
 have cuy := s100 y.den (by omega)
 have cm := s99 (oneL x.den) (oneL y.den) (by omega) (by omega)
 have hml := len_mul (oneL x.den) (oneL y.den)
 rw [val_one, val_one] at cm hml
 have cn := s99 x.num y.num (by omega) (by omega)
 have hnl := len_mul x.num y.num
 have cq := s102 (x.neg != y.neg) (limbs (val x.num * val y.num)) (limbs (x.d * y.d)) (by omega) (by omega) (by rw [val_limbs]; exact Nat.mul_ne_zero x.d_ne y.d_ne)
 rw [val_limbs, val_limbs, ← sgn_mul] at cq
 have e : mkRat (sgn x.neg (val x.num) * sgn y.neg (val y.num)) (x.d * y.d) = x.q * y.q := (q_mul x y).symm
 rw [e] at cq
 have hb : (x.neg != y.neg) = !decide (x.neg = y.neg) := by cases x.neg <;> cases y.neg <;> rfl
 clear hml hnl e
 generalize ratR (x.q * y.q) = W at *
 generalize limbs (x.d * y.d) = M at *
 generalize limbs (val x.num * val y.num) = P at *
 generalize oneL x.den = ux at *
 generalize oneL y.den = uy at *
 obtain ⟨a, b, c⟩ := x
 obtain ⟨a', b', c'⟩ := y
 simp only at *
 generalize (a != a') = nb at *
 cbv
 refine draw_of 18 (by cbv) ?_
 cbv
 refine callS_d okA (cn) rfl ?_
 cbv
 refine callS_d okA (cux) rfl ?_
 cbv
 refine callS_d okA (cuy) rfl ?_
 cbv
 refine callS_d okA (cm) rfl ?_
 cbv
 refine callS_d (by exact ⟨leS_nbool hb, leS_refl _, leS_refl _, trivial⟩) cq rfl ?_
 cbv
 (refine retC rfl ?_; cbv)
 exact ⟨leS_refl _, leS_refl _, leS_refl _, trivial⟩
theorem hf69 : Pg.funcs[55]? = some Tryz.f55 := by rw [Pg_eq]; rfl
theorem s69 (x y : R) (hx : x.sz (2^32)) (hy : y.sz (2^32)) : SoundS 55 [rv x, rv y] (.bool (fun _ => decide (x = y))) := by
 refine sound_fn hf69 rfl rfl rfl rfl rfl ?_
 have h1 := hx.n
 have h2 := hx.d
 have h3 := hy.n
 have h4 := hy.d
 have c1 := s130 x.num y.num (by omega) (by omega)
 have c2 := s130 x.den y.den (by omega) (by omega)
 obtain ⟨a, b, c⟩ := x
 obtain ⟨a', b', c'⟩ := y
 have hO : (decide ((⟨a, b, c⟩ : R) = ⟨a', b', c'⟩)) = (decide (a = a') && (decide (b = b') && decide (c = c'))) := by
  rw [Bool.eq_iff_iff]
  simp only [decide_eq_true_eq, R.mk.injEq, Bool.and_eq_true]
 rw [hO]
 simp only at c1 c2
 generalize decide (b = b') = d1 at *
 generalize decide (c = c') = d2 at *
 clear hO h1 h2 h3 h4 hx hy
 generalize hr : (decide (a = a') && (d1 && d2)) = r
 cbv
 refine br_dec (fun h => ?_) (fun h => ?_)
 ·rw [show decide (a = a') = true from decide_eq_true h, Bool.true_and] at hr
  cbv
  refine callS' rfl okA (c1) rfl ?_
  cbv
  refine br_bool (fun h' => ?_) (fun h' => ?_)
  ·subst h'
   cbv
   refine callS' rfl okA (c2) rfl ?_
   cbv
   (refine retC rfl ?_; cbv)
   exact leS_bool (by rw [← hr]; rfl)
  ·subst h'
   cbv
   (refine retC rfl ?_; cbv)
   exact leS_ff (by rw [← hr]; rfl)
 ·rw [show decide (a = a') = false from decide_eq_false h, Bool.false_and] at hr
  cbv
  (refine retC rfl ?_; cbv)
  exact leS_ff hr.symm
end Go.Proofs.YtcanljninhfmhaaGreat

namespace Go.Proofs.YtcanljninhfmhaaGreat
open Go
set_option linter.unusedVariables false
set_option maxRecDepth 100000
theorem hf129 : Pg.funcs[92]? = some Tryz.f92 := by rw [Pg_eq]; rfl
theorem s129 (x : R) (hx : x.sz (2^32)) : SoundS 92 [rv x] (.bool (fun _ => x.ok)) := by
 refine sound_fn hf129 rfl rfl rfl rfl rfl ?_
 have cc := s47 x hx
 have cs := s69 x (ratR x.q) hx (ratR_sz (hx.fits (by decide)))
 have e : decide (x = ratR x.q) = x.ok := rfl
 rw [e] at cs
 generalize x.ok = o at *
 generalize ratR x.q = W at *
 obtain ⟨a, b, c⟩ := x
 obtain ⟨a', b', c'⟩ := W
 cbv
 refine draw_of 4 (by cbv) ?_
 cbv
 refine callS_d okA (cc) rfl ?_
 cbv
 refine callS_d okA (cs) rfl ?_
 cbv
 (refine retC rfl ?_; cbv)
 exact leS_refl _
theorem ratR_int (z : Int) : ratR (z : Rat) = ⟨(intZ z).neg, (intZ z).mag, []⟩ := by
 unfold ratR intZ
 simp only [Rat.num_intCast, Rat.den_intCast, if_true]
 congr
theorem hf32 : Pg.funcs[25]? = some Tryz.f25 := by rw [Pg_eq]; rfl
theorem s32 (x : Int) (h1 : -9223372036854775808 ≤ x) (h2 : x < 9223372036854775808) : SoundS 25 [.int .i64 (fun _ => x)] (rv (ratR (x : Rat))) := by
 refine sound_fn hf32 rfl rfl rfl rfl rfl ?_
 have c1 := s88 x h1 h2
 rw [ratR_int]
 generalize intZ x = y at *
 obtain ⟨a, b⟩ := y
 cbv
 refine callS' rfl okA (c1) rfl ?_
 cbv
 (refine retC rfl ?_; cbv)
 exact ⟨leS_refl _, leS_refl _, leS_nil rfl, trivial⟩
def divZ (a b : Int) : Rat := Rat.divInt a b
theorem divZ_sgn (a b : Bool) (n m : Nat) : mkRat (sgn (a != b) n) m = divZ (sgn a n) (sgn b m) := by
 have h1 : ∀ (z : Int), Rat.divInt z (m : Int) = mkRat z m := fun z => Rat.divInt_ofNat z m
 have h2 : ∀ (z : Int), Rat.divInt z (-(m : Int)) = mkRat (-z) m := fun z => by rw [Rat.divInt_neg', h1]
 unfold divZ
 cases b
 ·rw [show sgn false m = (m : Int) from rfl, h1]
  cases a <;> rfl
 ·rw [show sgn true m = -(m : Int) from rfl, h2]
  cases a
  ·rfl
  ·show mkRat (n : Int) m = mkRat (- -(n : Int)) m
   rw [Int.neg_neg]
theorem hf98 : Pg.funcs[76]? = some Tryz.f76 := by rw [Pg_eq]; rfl
theorem s98 (x y : Z) (hx : x.mag.length < 2^33) (hy : y.mag.length < 2^33) (h0 : y.v ≠ 0) : SoundS 76 [zv x, zv y] (.tup [rv (ratR (divZ x.v y.v)), .int .i64 (fun _ => 0)]) := by
 refine sound_fn hf98 rfl rfl rfl rfl rfl ?_
 have cs := s90 y (by omega)
 have hs : sgnI y.v ≠ 0 := by unfold sgnI; split <;> (try split) <;> omega
 have hv0 : val y.mag ≠ 0 := fun e => h0 (by unfold Z.v; rw [e, sgn_zero])
 have cq := s102 (x.neg != y.neg) x.mag y.mag hx hy hv0
 have e : mkRat (sgn (x.neg != y.neg) (val x.mag)) (val y.mag) = divZ x.v y.v := by
  exact divZ_sgn _ _ _ _
 rw [e] at cq
 have hb : (x.neg != y.neg) = !decide (x.neg = y.neg) := by cases x.neg <;> cases y.neg <;> rfl
 generalize ratR (divZ x.v y.v) = W at *
 generalize sgnI y.v = s at *
 obtain ⟨a, b⟩ := x
 obtain ⟨a', b'⟩ := y
 simp only at *
 generalize (a != a') = nb at *
 cbv
 refine callS' rfl okA (cs) rfl ?_
 cbv
 refine cut_dec (fun h => absurd h hs) (fun h => ?_)
 cbv
 refine callS' rfl (by exact ⟨leS_nbool hb, leS_refl _, leS_refl _, trivial⟩) cq rfl ?_
 cbv
 (refine retC rfl ?_; cbv)
 exact ⟨⟨leS_refl _, leS_refl _, leS_refl _, trivial⟩, leS_refl _, trivial⟩
theorem hf43 : Pg.funcs[36]? = some Tryz.f36 := by rw [Pg_eq]; rfl
theorem s43 (x y : Int) (h1 : -9223372036854775808 ≤ x) (h2 : x < 9223372036854775808) (h3 : -9223372036854775808 ≤ y) (h4 : y < 9223372036854775808) (h0 : y ≠ 0) : SoundS 36 [.int .i64 (fun _ => x), .int .i64 (fun _ => y)] (.tup [rv (ratR (divZ x y)), .int .i64 (fun _ => 0)]) := by
 refine sound_fn hf43 rfl rfl rfl rfl rfl ?_
 have c1 := s88 x h1 h2
 have c2 := s88 y h3 h4
 have hl1 := intZ_len x h1 h2
 have hl2 := intZ_len y h3 h4
 have c3 := s98 (intZ x) (intZ y) (by omega) (by omega) (by rw [v_intZ]; exact h0)
 rw [v_intZ, v_intZ] at c3
 generalize ratR (divZ x y) = W at *
 generalize intZ x = X at *
 generalize intZ y = Y at *
 cbv
 refine callS' rfl okA (c1) rfl ?_
 cbv
 refine callS' rfl okA (c2) rfl ?_
 cbv
 refine callS' rfl okA (c3) rfl ?_
 cbv
 (refine retC rfl ?_; cbv)
 exact ⟨⟨leS_refl _, leS_refl _, leS_refl _, trivial⟩, leS_refl _, trivial⟩
end Go.Proofs.YtcanljninhfmhaaGreat

namespace Go.Proofs.YtcanljninhfmhaaGreat
open Go
set_option linter.unusedVariables false
set_option maxRecDepth 100000
theorem hf44 : Pg.funcs[37]? = some Tryz.f37 := by rw [Pg_eq]; rfl
theorem s44 (x y : R) (hx : x.sz (2^31)) (hy : y.sz (2^31)) : SoundS 37 [rv x, rv y] (rv (ratR (x.q + y.q))) := by
 refine sound_fn hf44 rfl rfl rfl rfl rfl ?_
 have h1 := hx.n
 have h2 := hx.d
 have h3 := hy.n
 have h4 := hy.d
 have h7 := one_len x.den
 have h8 := one_len y.den
 have cux := s100 x.den (by omega)
 have cuy := s100 y.den (by omega)
 have cx := s99 x.num (oneL y.den) (by omega) (by omega)
 have cy := s99 y.num (oneL x.den) (by omega) (by omega)
 have hxl := len_mul x.num (oneL y.den)
 have hyl := len_mul y.num (oneL x.den)
 rw [val_one] at cx cy hxl hyl
 have ca := s101 ⟨x.neg, limbs (val x.num * y.d)⟩ ⟨y.neg, limbs (val y.num * x.d)⟩ (show (limbs (val x.num * y.d)).length < _ by omega) (show (limbs (val y.num * x.d)).length < _ by omega)
 have e1 : Z.v ⟨x.neg, limbs (val x.num * y.d)⟩ = x.n * (y.d : Int) := by unfold Z.v R.n; rw [val_limbs, sgn_mul_nat]
 have e2 : Z.v ⟨y.neg, limbs (val y.num * x.d)⟩ = y.n * (x.d : Int) := by unfold Z.v R.n; rw [val_limbs, sgn_mul_nat]
 rw [e1, e2] at ca
 have cm := s99 (oneL x.den) (oneL y.den) (by omega) (by omega)
 have hml := len_mul (oneL x.den) (oneL y.den)
 rw [val_one, val_one] at cm hml
 have hsl : (intZ (x.n * (y.d : Int) + y.n * (x.d : Int))).mag.length < 2^33 := by
  have a1 := val_lt (limbs (val x.num * y.d))
  have a2 := val_lt (limbs (val y.num * x.d))
  rw [val_limbs] at a1 a2
  obtain ⟨k, hk⟩ : ∃ k, k = 4294967297 := ⟨_, rfl⟩
  have b1 := Nat.lt_of_lt_of_le a1 (Nat.pow_le_pow_right B_pos (show (limbs (val x.num * y.d)).length ≤ k by omega))
  have b2 := Nat.lt_of_lt_of_le a2 (Nat.pow_le_pow_right B_pos (show (limbs (val y.num * x.d)).length ≤ k by omega))
  have e3 := Int.natAbs_add_le (x.n * (y.d : Int)) (y.n * (x.d : Int))
  rw [Int.natAbs_mul, Int.natAbs_mul, R.n, R.n, sgn_natAbs, sgn_natAbs, Int.natAbs_natCast, Int.natAbs_natCast] at e3
  have e4 : B ^ k * 2 ≤ B ^ k * B := Nat.mul_le_mul_left _ (by decide)
  have e5 : (limbs (x.n * (y.d : Int) + y.n * (x.d : Int)).natAbs).length ≤ k + 1 := limbs_length_le (by rw [Nat.pow_succ B k]; unfold R.n; generalize B ^ k = P at *; omega)
  show (limbs (x.n * (y.d : Int) + y.n * (x.d : Int)).natAbs).length < 2^33
  omega
 have cq := s102 (intZ (x.n * (y.d : Int) + y.n * (x.d : Int))).neg (intZ (x.n * (y.d : Int) + y.n * (x.d : Int))).mag (limbs (x.d * y.d)) hsl (by omega) (by rw [val_limbs]; exact Nat.mul_ne_zero x.d_ne y.d_ne)
 have e6 : sgn (intZ (x.n * (y.d : Int) + y.n * (x.d : Int))).neg (val (intZ (x.n * (y.d : Int) + y.n * (x.d : Int))).mag) = x.n * (y.d : Int) + y.n * (x.d : Int) := v_intZ _
 rw [e6, val_limbs, ← q_add] at cq
 clear e6 hsl hml e1 e2 hxl hyl
 generalize ratR (x.q + y.q) = W at *
 generalize limbs (x.d * y.d) = M at *
 generalize intZ (x.n * (y.d : Int) + y.n * (x.d : Int)) = S at *
 generalize limbs (val x.num * y.d) = W1 at *
 generalize limbs (val y.num * x.d) = W2 at *
 generalize oneL x.den = ux at *
 generalize oneL y.den = uy at *
 obtain ⟨a, b, c⟩ := x
 obtain ⟨a', b', c'⟩ := y
 obtain ⟨s1, s2⟩ := S
 cbv
 refine draw_mk 10 (by cbv) (by cbv) ?_
 cbv
 refine callS_d okA (cuy) rfl ?_
 cbv
 refine callS_d okA (cx) rfl ?_
 cbv
 refine draw_mk 10 (by cbv) (by cbv) ?_
 cbv
 refine callS_d okA (cux) rfl ?_
 cbv
 refine callS_d okA (cy) rfl ?_
 cbv
 refine callS' rfl okA (ca) rfl ?_
 cbv
 refine draw_of 12 (by cbv) ?_
 cbv
 refine callS_d okA (cux) rfl ?_
 cbv
 refine callS_d okA (cuy) rfl ?_
 cbv
 refine callS_d okA (cm) rfl ?_
 cbv
 refine callS_d okA (cq) rfl ?_
 cbv
 (refine retC rfl ?_; cbv)
 exact ⟨leS_refl _, leS_refl _, leS_refl _, trivial⟩
theorem hf93 : Pg.funcs[69]? = some Tryz.f69 := by rw [Pg_eq]; rfl
theorem s93 (x y : R) (hx : x.sz (2^31)) (hy : y.sz (2^31)) : SoundS 69 [rv x, rv y] (rv (ratR (x.q - y.q))) := by
 refine sound_fn hf93 rfl rfl rfl rfl rfl ?_
 have cn := s143 y (hy.mono (by omega))
 have ca := s44 x (ratR (-y.q)) hx (ratR_sz (fits_neg (hy.fits (by decide))))
 rw [q_ratR, ← Rat.sub_eq_add_neg] at ca
 generalize ratR (x.q - y.q) = W at *
 generalize ratR (-y.q) = V at *
 obtain ⟨a, b, c⟩ := x
 obtain ⟨a', b', c'⟩ := y
 cbv
 refine draw_of 4 (by cbv) ?_
 cbv
 refine callS_d okA (cn) rfl ?_
 cbv
 refine callS_d okA (ca) rfl ?_
 cbv
 (refine retC rfl ?_; cbv)
 exact ⟨leS_refl _, leS_refl _, leS_refl _, trivial⟩
theorem cmp_sub (a b : Rat) : sgnQ (a - b) = cmpQ a b := by
 unfold sgnQ cmpQ
 have h1 : a - b < 0 ↔ a < b := by grind
 have h2 : 0 < a - b ↔ b < a := by grind
 simp only [h1, h2]
theorem hf42 : Pg.funcs[35]? = some Tryz.f35 := by rw [Pg_eq]; rfl
theorem s42 (x y : R) (hx : x.sz (2^31)) (hy : y.sz (2^31)) : SoundS 35 [rv x, rv y] (.int .i64 (fun _ => cmpQ x.q y.q)) := by
 refine sound_fn hf42 rfl rfl rfl rfl rfl ?_
 have ca := s93 x y hx hy
 have hf := (fits_sub (hx.fits (by decide)) (hy.fits (by decide))).lnum
 have cs := s35 (ratR (x.q - y.q)) (Nat.lt_of_le_of_lt hf (by omega))
 rw [q_ratR, cmp_sub] at cs
 clear hf
 generalize cmpQ x.q y.q = C at *
 generalize ratR (x.q - y.q) = W at *
 cbv
 refine callS' rfl okA (ca) rfl ?_
 cbv
 refine callS' rfl okA (cs) rfl ?_
 cbv
 (refine retC rfl ?_; cbv)
 exact leS_refl _
end Go.Proofs.YtcanljninhfmhaaGreat
