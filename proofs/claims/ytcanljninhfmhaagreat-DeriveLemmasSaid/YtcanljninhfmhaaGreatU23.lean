/- A part of the proof: ReE, ReF, ReG, ReH, AfA. -/
import Derived.Test.YtcanljninhfmhaaGreatU22
set_option linter.all false
namespace Go.Proofs.YtcanljninhfmhaaGreat
open Go
set_option maxRecDepth 100000
theorem s158 (a b : List UInt32) (ha : a.length < 2^34) (hb : b.length < 2^34) : zC 127 [nat a, nat b] (nat (zI (Nat.gcd (val a) (val b)))) := by
 refine sF Tryz.f127 ?_
 have ha' := Nat.lt_of_le_of_lt (zU a) ha
 have hb' := Nat.lt_of_le_of_lt (zU b) hb
 generalize hg : Nat.gcd (val a) (val b) = g
 cbv
 refine cA (r4 a (by omega)) ?_
 cbv
 refine cA (r4 b (by omega)) ?_
 cbv
 refine z5 (σ := Nat × Nat) (fun z => ⟨[(0, nat (zI z.1)), (1, nat (zI z.2))], []⟩) (fun z => (zI z.1).length < 2^34 ∧ (zI z.2).length < 2^34 ∧ Nat.gcd z.1 z.2 = g) (fun z => z.2) (val a, val b) ⟨ha', hb', hg⟩ (.le ?_ trivial rfl) ?_
 ·cbv
  exact okA
 intro z hz
 obtain ⟨h1, h2, h3⟩ := hz
 generalize z.1 = x at *
 generalize z.2 = y at *
 cbv
 refine zF (fun h4 => ?_) (fun h4 => ?_)
 ·have hy : y ≠ 0 := fun e => by subst e; (try dsimp only [zG] at *); simp [lm, yL] at h4
  have hm := Nat.mod_lt x (Nat.pos_of_ne_zero hy)
  have c1 := s159 (zI x) (zI y) h1 h2 (by rw [zM]; exact hy)
  rw [zM, zM] at c1
  cbv
  refine cA c1 ?_
  cbv
  refine ⟨(y, x % y), ⟨h2, Nat.lt_of_le_of_lt (v5 (Nat.le_of_lt hm)) h2, by rw [Nat.gcd_comm, ← Nat.gcd_rec, Nat.gcd_comm]; exact h3⟩, hm, .le ?_ trivial rfl⟩
  cbv
  exact okA
 ·have hy : y = 0 := xD.1 (List.eq_nil_of_length_eq_zero (by (try dsimp only [zG] at *); rw [zK] at h4; omega))
  subst hy
  cbv
  (refine rC ?_; cbv)
  exact zP (by rw [← h3, Nat.gcd_zero_right])
theorem s148 (neg : Bool) (m : List UInt32) (hm : m.length < 2^40) : zC 113 [.bool (fun _ => neg), nat m] (zv (xB (sgn neg (val m)))) := by
 refine sF Tryz.f113 ?_
 rw [intZ_sgn]
 cbv
 refine cA (r4 m (by omega)) ?_
 cbv
 refine z4 (fun h => ?_) (fun h => ?_)
 ·subst h
  cbv
  (refine rC ?_; cbv)
  refine ⟨zV ?_, lR, trivial⟩
  rw [Bool.eq_iff_iff]
  simp only [decide_eq_true_eq, zK, Bool.true_and]
  rw [← @xD (val m), ← List.length_eq_zero_iff]
  (try dsimp only [zG] at *)
  omega
 ·subst h
  cbv
  (refine rC ?_; cbv)
  exact okA
theorem s88 (x : Int) (h1 : -9223372036854775808 ≤ x) (h2 : x < 9223372036854775808) : zC 62 [.int .i64 (fun _ => x)] (zv (xB x)) := by
 refine sF Tryz.f62 ?_
 have hBB : B * B = 18446744073709551616 := by decide
 have hl : (zI x.natAbs).length ≤ 2 := len2.2 (by omega)
 have c1 := s148 true (zI x.natAbs) (by omega)
 have c2 := s148 false (zI x.natAbs) (by omega)
 have c3 := s149 x.natAbs (by omega)
 rw [zM] at c1 c2
 have e1 : x < 0 → sgn true x.natAbs = x := fun h => by show -(x.natAbs : Int) = x; omega
 have e2 : ¬ x < 0 → sgn false x.natAbs = x := fun h => by show (x.natAbs : Int) = x; omega
 have n1 : x < 0 → nx .u64 (0 - nx .u64 x) = ((x.natAbs : Nat) : Int) := fun h => by simp only [wW]; omega
 have n2 : ¬ x < 0 → nx .u64 x = ((x.natAbs : Nat) : Int) := fun h => by simp only [wW]; omega
 generalize x.natAbs = n at *
 cbv
 refine zF (fun h => ?_) (fun h => ?_)
 ·rw [e1 h] at c1
  generalize xB x = W at *
  have n3 := n1 h
  cbv
  refine yQ rfl (by exact ⟨zD n3, trivial⟩) c3 rfl ?_
  cbv
  refine cA c1 ?_
  cbv
  (refine rC ?_; cbv)
  exact okA
 ·rw [e2 h] at c2
  generalize xB x = W at *
  have n3 := n2 h
  cbv
  refine yQ rfl (by exact ⟨zD n3, trivial⟩) c3 rfl ?_
  cbv
  refine cA c2 ?_
  cbv
  (refine rC ?_; cbv)
  exact okA
theorem s90 (x : Z) (hx : x.mag.length < 2^40) : zC 64 [zv x] (.int .i64 (fun _ => uS x.v)) := by
 refine sF Tryz.f64 ?_
 have c1 := s148 x.neg x.mag hx
 have e : sgn x.neg (val x.mag) = x.v := rfl
 rw [e] at c1
 have hneg : (xB x.v).neg = decide (x.v < 0) := rfl
 have hmag : (xB x.v).mag.length = 0 ↔ x.v = 0 := by
  show (zI x.v.natAbs).length = 0 ↔ _
  rw [List.length_eq_zero_iff, xD]; omega
 have e0 : x.v = 0 → uS x.v = 0 := fun h => by rw [h]; rfl
 have e1 : x.v < 0 → uS x.v = -1 := fun h => by unfold uS; rw [if_pos h]
 have e2 : ¬ x.v < 0 → x.v ≠ 0 → uS x.v = 1 := fun h h' => by unfold uS; rw [if_neg h, if_pos (by omega)]
 generalize uS x.v = s at *
 generalize xB x.v = W at *
 generalize x.v = v at *
 obtain ⟨a, m⟩ := x
 obtain ⟨w1, w2⟩ := W
 simp only at hneg hmag
 cbv
 refine cA c1 ?_
 cbv
 refine zF (fun h => ?_) (fun h => ?_)
 ·cbv
  (refine rC ?_; cbv)
  exact zD (e0 (hmag.1 om)).symm
 ·have hv : v ≠ 0 := fun e => h (by have := hmag.2 e; (try dsimp only [zG] at *); rw [zK]; omega)
  cbv
  refine zT (fun h2 => ?_) (fun h2 => ?_)
  ·cbv
   (refine rC ?_; cbv)
   exact zD (e1 (of_decide_eq_true (hneg.symm.trans h2))).symm
  ·cbv
   (refine rC ?_; cbv)
   exact zD (e2 (of_decide_eq_false (hneg.symm.trans h2)) hv).symm
theorem s101 (x y : Z) (hx : x.mag.length < 2^38) (hy : y.mag.length < 2^38) : zC 79 [zv x, zv y] (zv (xB (x.v + y.v))) := by
 refine sF Tryz.f79 ?_
 obtain ⟨n1, m1⟩ := x
 obtain ⟨n2, m2⟩ := y
 have hv : Z.v ⟨n1, m1⟩ + Z.v ⟨n2, m2⟩ = sgn n1 (val m1) + sgn n2 (val m2) := rfl
 have hl := len_add m1 m2
 have hl1 := n8 m1 m2
 have hl2 := n8 m2 m1
 have hx' : m1.length < 2^38 := hx
 have hy' : m2.length < 2^38 := hy
 rw [hv]
 have c1 : n1 = n2 → zC 113 [.bool (fun _ => n1), nat (zI (val m1 + val m2))] (zv (xB (sgn n1 (val m1) + sgn n2 (val m2)))) := by
  intro h
  have := s148 n1 (zI (val m1 + val m2)) (by omega)
  rw [zM] at this
  have e : sgn n1 (val m1 + val m2) = sgn n1 (val m1) + sgn n2 (val m2) := by rw [← h]; cases n1 <;> simp [sgn]; omega
  rw [e] at this
  exact this
 have c2 : n1 ≠ n2 → val m2 ≤ val m1 → zC 113 [.bool (fun _ => n1), nat (zI (val m1 - val m2))] (zv (xB (sgn n1 (val m1) + sgn n2 (val m2)))) := by
  intro h hge
  have := s148 n1 (zI (val m1 - val m2)) (by omega)
  rw [zM] at this
  have e : sgn n1 (val m1 - val m2) = sgn n1 (val m1) + sgn n2 (val m2) := by cases n1 <;> cases n2 <;> simp [sgn] at h ⊢ <;> omega
  rw [e] at this
  exact this
 have c3 : n1 ≠ n2 → ¬ val m2 ≤ val m1 → zC 113 [.bool (fun _ => n2), nat (zI (val m2 - val m1))] (zv (xB (sgn n1 (val m1) + sgn n2 (val m2)))) := by
  intro h hge
  have := s148 n2 (zI (val m2 - val m1)) (by omega)
  rw [zM] at this
  have e : sgn n2 (val m2 - val m1) = sgn n1 (val m1) + sgn n2 (val m2) := by cases n1 <;> cases n2 <;> simp [sgn] at h ⊢ <;> omega
  rw [e] at this
  exact this
 have cs1 := s157 m1 m2 (by omega) (by omega)
 have cs2 := s157 m2 m1 (by omega) (by omega)
 have hE1 : val m2 ≤ val m1 → (if val m2 ≤ val m1 then (0 : Int) else 2) = 0 := fun h => if_pos h
 have hE2 : ¬ val m2 ≤ val m1 → (if val m2 ≤ val m1 then (0 : Int) else 2) = 2 := fun h => if_neg h
 generalize (if val m2 ≤ val m1 then (0 : Int) else 2) = E at *
 generalize (if val m1 ≤ val m2 then (0 : Int) else 2) = E' at *
 generalize sgn n1 (val m1) + sgn n2 (val m2) = T at *
 cbv
 refine zF (fun h => ?_) (fun h => ?_)
 ·have h' := c1 h
  generalize xB T = W at *
  cbv
  refine zO 8 (by cbv) ?_
  cbv
  refine dA (s156 m1 m2 (by omega) (by omega)) ?_
  cbv
  refine dA h' ?_
  cbv
  (refine rC ?_; cbv)
  exact okA
 ·have h2 := c2 h
  have h3 := c3 h
  generalize xB T = W at *
  cbv
  refine cA cs1 ?_
  cbv
  refine zF (fun h4 => ?_) (fun h4 => ?_)
  ·have hge : val m2 ≤ val m1 := by
    rcases Nat.lt_or_ge (val m1) (val m2) with e | e
    ·have := hE2 (by omega); omega
    ·exact e
   cbv
   refine cA (h2 hge) ?_
   cbv
   (refine rC ?_; cbv)
   exact okA
  ·have hlt : ¬ val m2 ≤ val m1 := fun e => h4 (hE1 e)
   cbv
   refine cA cs2 ?_
   cbv
   refine cA (h3 hlt) ?_
   cbv
   (refine rC ?_; cbv)
   exact okA
def uT (d : List UInt32) : List UInt32 := zI (if val d = 0 then 1 else val d)
theorem gG (x : R) : val (uT x.den) = x.d := by
 unfold uT R.d
 rw [zM]
theorem bJ (d : List UInt32) : (uT d).length ≤ d.length + 1 := by
 unfold uT
 split
 ·rw [mQ]; simp
 ·have := zU d; omega
theorem s100 (d : List UInt32) (hd : d.length < 2^40) : zC 78 [nat d] (nat (uT d)) := by
 refine sF Tryz.f78 ?_
 have c1 := r4 d (by omega)
 have e1 : (zI (val d)).length = 0 → uT d = [1] := fun h => by unfold uT; rw [if_pos (xD.1 (List.eq_nil_of_length_eq_zero h)), mQ]
 have e2 : (zI (val d)).length ≠ 0 → uT d = zI (val d) := fun h => by unfold uT; rw [if_neg (fun e => h (by rw [e, yL]; rfl))]
 generalize uT d = u at *
 generalize zI (val d) = p at *
 cbv
 refine cA c1 ?_
 cbv
 refine zF (fun h => ?_) (fun h => ?_)
 ·have := e1 om
  subst this
  cbv
  (refine rC ?_; cbv)
  exact zP rfl
 ·have := e2 (by (try dsimp only [zG] at *); rw [zK] at h; omega)
  subst this
  cbv
  (refine rC ?_; cbv)
  exact lR
theorem s102 (neg : Bool) (num den : List UInt32) (hn : num.length < 2^33) (hd : den.length < 2^33) (h0 : val den ≠ 0) : zC 80 [.bool (fun _ => neg), nat num, nat den] (rv (zE (mkRat (sgn neg (val num)) (val den)))) := by
 refine sF Tryz.f80 ?_
 rw [mI h0]
 have hg0 : Nat.gcd (val num) (val den) ≠ 0 := fun e => h0 (Nat.eq_zero_of_gcd_eq_zero_right e)
 have hgl : (zI (Nat.gcd (val num) (val den))).length < 2^33 := Nat.lt_of_le_of_lt (Nat.le_trans (v5 (Nat.le_of_dvd (Nat.pos_of_ne_zero h0) (Nat.gcd_dvd_right _ _))) (zU den)) hd
 have cg := s158 num den (by omega) (by omega)
 have cn := s159 num (zI (Nat.gcd (val num) (val den))) (by omega) (by omega) (by rw [zM]; exact hg0)
 have cd := s159 den (zI (Nat.gcd (val num) (val den))) (by omega) (by omega) (by rw [zM]; exact hg0)
 rw [zM] at cn cd
 have hnz : val num / Nat.gcd (val num) (val den) = 0 ↔ val num = 0 := by
  rw [Nat.div_eq_zero_iff_lt (Nat.pos_of_ne_zero hg0)]
  constructor
  ·intro h
   rcases Nat.eq_zero_or_pos (val num) with e | e
   ·exact e
   ·have := Nat.gcd_le_left (val den) e; omega
  ·intro h; omega
 have hdl : (zI (val den / Nat.gcd (val num) (val den))).length < 2^33 := Nat.lt_of_le_of_lt (Nat.le_trans (v5 (Nat.div_le_self _ _)) (zU den)) hd
 generalize val den / Nat.gcd (val num) (val den) = D' at *
 generalize val num / Nat.gcd (val num) (val den) = N' at *
 generalize Nat.gcd (val num) (val den) = g at *
 generalize val num = N at *
 show wp _ _ (jC _ (.agg [.bool (fun _ => neg && decide (N ≠ 0)), nat (zI N'), nat (if D' = 1 then [] else zI D')]) [] [])
 have hN0 : decide (N ≠ 0) = decide (0 < (zI N').length) := by
  rw [decide_eq_decide, List.length_pos_iff, ne_eq, ne_eq, xD, hnz]
 rw [hN0]
 have hone := @kO D'
 generalize hr2 : (if D' = 1 then [] else zI D') = r2
 have hr2a : zI D' = [1] → r2 = [] := fun h => by rw [← hr2, if_pos (hone.1 h)]
 have hr2b : zI D' ≠ [1] → r2 = zI D' := fun h => by rw [← hr2, if_neg (fun e => h (hone.2 e))]
 generalize zI D' = dl at *
 generalize zI N' = nl at *
 clear hr2 hone hN0 hnz
 cbv
 refine cA cg ?_
 cbv
 refine cA cn ?_
 cbv
 refine cA cd ?_
 cbv
 have one_of : ∀ (h1 : dl.length = 1), ((dl.getD 0 0).toNat : Int) = 1 ↔ dl = [1] := by
  intro h1
  match dl, h1 with
  | [x], _ =>
   have e1 : [x].getD 0 0 = x := rfl
   rw [e1]
   constructor
   ·intro h2
    have : x = 1 := UInt32.toNat_inj.1 (by show x.toNat = 1; omega)
    rw [this]
   ·intro h2; rw [List.cons.inj h2 |>.1]; rfl
 refine zQ (fun h => ?_) (fun h => ?_)
 ·have h1 : dl.length = 1 := om
  have ho := one_of h1
  cbv
  refine yU 0 rfl (by omega) ?_
  cbv
  refine zF (fun h2 => ?_) (fun h2 => ?_)
  ·have h3 := hr2a (ho.1 h2)
   cbv
   refine z4 (fun h4 => ?_) (fun h4 => ?_)
   ·subst h4
    cbv
    (refine rC ?_; cbv)
    exact ⟨zV (by simp [zK]), lR, y5 (by rw [h3]; rfl), trivial⟩
   ·subst h4
    cbv
    (refine rC ?_; cbv)
    exact ⟨zN rfl, lR, y5 (by rw [h3]; rfl), trivial⟩
  ·have h3 := hr2b (fun e => h2 (ho.2 e))
   cbv
   refine z4 (fun h4 => ?_) (fun h4 => ?_)
   ·subst h4
    cbv
    (refine rC ?_; cbv)
    exact ⟨zV (by simp [zK]), lR, zP (by rw [h3]), trivial⟩
   ·subst h4
    cbv
    (refine rC ?_; cbv)
    exact ⟨zN rfl, lR, zP (by rw [h3]), trivial⟩
 ·have h3 := hr2b (fun e => h (by rw [e]; rfl))
  cbv
  refine z4 (fun h4 => ?_) (fun h4 => ?_)
  ·subst h4
   cbv
   (refine rC ?_; cbv)
   exact ⟨zV (by simp [zK]), lR, zP (by rw [h3]), trivial⟩
  ·subst h4
   cbv
   (refine rC ?_; cbv)
   exact ⟨zN rfl, lR, zP (by rw [h3]), trivial⟩
theorem s47 (x : R) (hx : x.sz (2^32)) : zC 40 [rv x] (rv (zE x.q)) := by
 refine sF Tryz.f40 ?_
 have h1 := hx.n
 have h2 := hx.d
 have h3 := bJ x.den
 have cu := s100 x.den (by omega)
 have cq := s102 x.neg x.num (uT x.den) (by omega) (by omega) (by rw [gG]; exact x.d_ne)
 rw [gG] at cq
 have e : mkRat (sgn x.neg (val x.num)) x.d = x.q := rfl
 rw [e] at cq
 generalize zE x.q = W at *
 generalize uT x.den = u at *
 obtain ⟨neg, num, den⟩ := x
 cbv
 refine zO 8 (by cbv) ?_
 cbv
 refine dA cu ?_
 cbv
 refine dA cq ?_
 cbv
 (refine rC ?_; cbv)
 exact okA
theorem s35 (x : R) (hx : x.num.length < 2^40) : zC 28 [rv x] (.int .i64 (fun _ => yA x.q)) := by
 refine sF Tryz.f28 ?_
 have c2 := s90 ⟨x.neg, x.num⟩ hx
 have e : Z.v ⟨x.neg, x.num⟩ = x.n := rfl
 rw [e, ← sgnQ_q] at c2
 generalize yA x.q = s at *
 obtain ⟨neg, num, den⟩ := x
 cbv
 refine cA c2 ?_
 cbv
 (refine rC ?_; cbv)
 exact lR
theorem s143 (x : R) (hx : x.sz (2^32)) : zC 97 [rv x] (rv (zE (-x.q))) := by
 refine sF Tryz.f97 ?_
 have ca := s47 ⟨!x.neg, x.num, x.den⟩ ⟨hx.n, hx.d⟩
 rw [q_neg] at ca
 generalize zE (-x.q) = W at *
 obtain ⟨a, b, c⟩ := x
 generalize hna : (!a) = na at *
 cbv
 refine yQ rfl (by exact ⟨⟨wI hna.symm, lR, lR, trivial⟩, trivial⟩) ca rfl ?_
 cbv
 (refine rC ?_; cbv)
 exact okA
theorem s77 (x y : R) (hx : x.sz (2^31)) (hy : y.sz (2^31)) : zC 46 [rv x, rv y] (rv (zE (x.q * y.q))) := by
 refine sF Tryz.f46 ?_
 have h1 := hx.n
 have h2 := hx.d
 have h3 := hy.n
 have h4 := hy.d
 have h7 := bJ x.den
 have h8 := bJ y.den
 have cux := s100 x.den (by omega)
 have cuy := s100 y.den (by omega)
 have cm := s99 (uT x.den) (uT y.den) (by omega) (by omega)
 have hml := kP (uT x.den) (uT y.den)
 rw [gG, gG] at cm hml
 have cn := s99 x.num y.num (by omega) (by omega)
 have hnl := kP x.num y.num
 have cq := s102 (x.neg != y.neg) (zI (val x.num * val y.num)) (zI (x.d * y.d)) (by omega) (by omega) (by rw [zM]; exact Nat.mul_ne_zero x.d_ne y.d_ne)
 rw [zM, zM, ← sgn_mul] at cq
 have e : mkRat (sgn x.neg (val x.num) * sgn y.neg (val y.num)) (x.d * y.d) = x.q * y.q := (q_mul x y).symm
 rw [e] at cq
 have hb : (x.neg != y.neg) = !decide (x.neg = y.neg) := by cases x.neg <;> cases y.neg <;> rfl
 clear hml hnl e
 generalize zE (x.q * y.q) = W at *
 generalize zI (x.d * y.d) = M at *
 generalize zI (val x.num * val y.num) = P at *
 generalize uT x.den = ux at *
 generalize uT y.den = uy at *
 obtain ⟨a, b, c⟩ := x
 obtain ⟨a', b', c'⟩ := y
 simp only at *
 generalize (a != a') = nb at *
 cbv
 refine zO 18 (by cbv) ?_
 cbv
 refine dA cn ?_
 cbv
 refine dA cux ?_
 cbv
 refine dA cuy ?_
 cbv
 refine dA cm ?_
 cbv
 refine y6 (by exact ⟨wI hb, lR, lR, trivial⟩) cq rfl ?_
 cbv
 (refine rC ?_; cbv)
 exact okA
theorem s69 (x y : R) (hx : x.sz (2^32)) (hy : y.sz (2^32)) : zC 55 [rv x, rv y] (.bool (fun _ => decide (x = y))) := by
 refine sF Tryz.f55 ?_
 have h1 := hx.n
 have h2 := hx.d
 have h3 := hy.n
 have h4 := hy.d
 have c1 := s130 x.num y.num (by omega) (by omega)
 have c2 := s130 x.den y.den (by omega) (by omega)
 obtain ⟨a, b, c⟩ := x
 obtain ⟨a', b', c'⟩ := y
 have hO : (decide ((⟨a, b, c⟩ : R) = ⟨a', b', c'⟩)) = (decide (a = a') && (decide (b = b') && decide (c = c'))) := by
  rw [Bool.eq_iff_iff]
  simp only [decide_eq_true_eq, R.mk.injEq, Bool.and_eq_true]
 rw [hO]
 simp only at c1 c2
 generalize decide (b = b') = d1 at *
 generalize decide (c = c') = d2 at *
 clear hO h1 h2 h3 h4 hx hy
 generalize hr : (decide (a = a') && (d1 && d2)) = r
 cbv
 refine zQ (fun h => ?_) (fun h => ?_)
 ·rw [show decide (a = a') = true from decide_eq_true h, Bool.true_and] at hr
  cbv
  refine cA c1 ?_
  cbv
  refine z4 (fun h' => ?_) (fun h' => ?_)
  ·subst h'
   cbv
   refine cA c2 ?_
   cbv
   (refine rC ?_; cbv)
   exact zV (by rw [← hr]; rfl)
  ·subst h'
   cbv
   (refine rC ?_; cbv)
   exact zN (by rw [← hr]; rfl)
 ·rw [show decide (a = a') = false from decide_eq_false h, Bool.false_and] at hr
  cbv
  (refine rC ?_; cbv)
  exact zN hr.symm
theorem s129 (x : R) (hx : x.sz (2^32)) : zC 92 [rv x] (.bool (fun _ => x.ok)) := by
 refine sF Tryz.f92 ?_
 have cc := s47 x hx
 have cs := s69 x (zE x.q) hx (zY (hx.fits (by decide)))
 have e : decide (x = zE x.q) = x.ok := rfl
 rw [e] at cs
 generalize x.ok = o at *
 generalize zE x.q = W at *
 obtain ⟨a, b, c⟩ := x
 obtain ⟨a', b', c'⟩ := W
 cbv
 refine zO 4 (by cbv) ?_
 cbv
 refine dA cc ?_
 cbv
 refine dA cs ?_
 cbv
 (refine rC ?_; cbv)
 exact lR
theorem ratR_int (z : Int) : zE (z : Rat) = ⟨(xB z).neg, (xB z).mag, []⟩ := by
 unfold zE xB
 simp only [Rat.num_intCast, Rat.den_intCast, if_true]
 congr
theorem s32 (x : Int) (h1 : -9223372036854775808 ≤ x) (h2 : x < 9223372036854775808) : zC 25 [.int .i64 (fun _ => x)] (rv (zE (x : Rat))) := by
 refine sF Tryz.f25 ?_
 have c1 := s88 x h1 h2
 rw [ratR_int]
 generalize xB x = y at *
 obtain ⟨a, b⟩ := y
 cbv
 refine cA c1 ?_
 cbv
 (refine rC ?_; cbv)
 exact okA
def wU (a b : Int) : Rat := Rat.divInt a b
theorem divZ_sgn (a b : Bool) (n m : Nat) : mkRat (sgn (a != b) n) m = wU (sgn a n) (sgn b m) := by
 have h1 : ∀ (z : Int), Rat.divInt z (m : Int) = mkRat z m := fun z => Rat.divInt_ofNat z m
 have h2 : ∀ (z : Int), Rat.divInt z (-(m : Int)) = mkRat (-z) m := fun z => by rw [Rat.divInt_neg', h1]
 unfold wU
 cases b
 ·rw [show sgn false m = (m : Int) from rfl, h1]
  cases a <;> rfl
 ·rw [show sgn true m = -(m : Int) from rfl, h2]
  cases a
  ·rfl
  ·show mkRat (n : Int) m = mkRat (- -(n : Int)) m
   rw [Int.neg_neg]
theorem s98 (x y : Z) (hx : x.mag.length < 2^33) (hy : y.mag.length < 2^33) (h0 : y.v ≠ 0) : zC 76 [zv x, zv y] (.tup [rv (zE (wU x.v y.v)), .int .i64 (fun _ => 0)]) := by
 refine sF Tryz.f76 ?_
 have cs := s90 y (by omega)
 have hs : uS y.v ≠ 0 := by unfold uS; split <;> (try split) <;> omega
 have hv0 : val y.mag ≠ 0 := fun e => h0 (by unfold Z.v; rw [e, sgn_zero])
 have cq := s102 (x.neg != y.neg) x.mag y.mag hx hy hv0
 have e : mkRat (sgn (x.neg != y.neg) (val x.mag)) (val y.mag) = wU x.v y.v := by
  exact divZ_sgn _ _ _ _
 rw [e] at cq
 have hb : (x.neg != y.neg) = !decide (x.neg = y.neg) := by cases x.neg <;> cases y.neg <;> rfl
 generalize zE (wU x.v y.v) = W at *
 generalize uS y.v = s at *
 obtain ⟨a, b⟩ := x
 obtain ⟨a', b'⟩ := y
 simp only at *
 generalize (a != a') = nb at *
 cbv
 refine cA cs ?_
 cbv
 refine zF (fun h => absurd h hs) (fun h => ?_)
 cbv
 refine yQ rfl (by exact ⟨wI hb, lR, lR, trivial⟩) cq rfl ?_
 cbv
 (refine rC ?_; cbv)
 exact okA
theorem s43 (x y : Int) (h1 : -9223372036854775808 ≤ x) (h2 : x < 9223372036854775808) (h3 : -9223372036854775808 ≤ y) (h4 : y < 9223372036854775808) (h0 : y ≠ 0) : zC 36 [.int .i64 (fun _ => x), .int .i64 (fun _ => y)] (.tup [rv (zE (wU x y)), .int .i64 (fun _ => 0)]) := by
 refine sF Tryz.f36 ?_
 have c1 := s88 x h1 h2
 have c2 := s88 y h3 h4
 have hl1 := eC x h1 h2
 have hl2 := eC y h3 h4
 have c3 := s98 (xB x) (xB y) (by omega) (by omega) (by rw [kZ]; exact h0)
 rw [kZ, kZ] at c3
 generalize zE (wU x y) = W at *
 generalize xB x = X at *
 generalize xB y = Y at *
 cbv
 refine cA c1 ?_
 cbv
 refine cA c2 ?_
 cbv
 refine cA c3 ?_
 cbv
 (refine rC ?_; cbv)
 exact okA
theorem s44 (x y : R) (hx : x.sz (2^31)) (hy : y.sz (2^31)) : zC 37 [rv x, rv y] (rv (zE (x.q + y.q))) := by
 refine sF Tryz.f37 ?_
 have h1 := hx.n
 have h2 := hx.d
 have h3 := hy.n
 have h4 := hy.d
 have h7 := bJ x.den
 have h8 := bJ y.den
 have cux := s100 x.den (by omega)
 have cuy := s100 y.den (by omega)
 have cx := s99 x.num (uT y.den) (by omega) (by omega)
 have cy := s99 y.num (uT x.den) (by omega) (by omega)
 have hxl := kP x.num (uT y.den)
 have hyl := kP y.num (uT x.den)
 rw [gG] at cx cy hxl hyl
 have ca := s101 ⟨x.neg, zI (val x.num * y.d)⟩ ⟨y.neg, zI (val y.num * x.d)⟩ (show (zI (val x.num * y.d)).length < _ by omega) (show (zI (val y.num * x.d)).length < _ by omega)
 have e1 : Z.v ⟨x.neg, zI (val x.num * y.d)⟩ = x.n * (y.d : Int) := by unfold Z.v R.n; rw [zM, m8]
 have e2 : Z.v ⟨y.neg, zI (val y.num * x.d)⟩ = y.n * (x.d : Int) := by unfold Z.v R.n; rw [zM, m8]
 rw [e1, e2] at ca
 have cm := s99 (uT x.den) (uT y.den) (by omega) (by omega)
 have hml := kP (uT x.den) (uT y.den)
 rw [gG, gG] at cm hml
 have hsl : (xB (x.n * (y.d : Int) + y.n * (x.d : Int))).mag.length < 2^33 := by
  have a1 := y9 (zI (val x.num * y.d))
  have a2 := y9 (zI (val y.num * x.d))
  rw [zM] at a1 a2
  obtain ⟨k, hk⟩ : ∃ k, k = 4294967297 := ⟨_, rfl⟩
  have b1 := Nat.lt_of_lt_of_le a1 (Nat.pow_le_pow_right xJ (show (zI (val x.num * y.d)).length ≤ k by omega))
  have b2 := Nat.lt_of_lt_of_le a2 (Nat.pow_le_pow_right xJ (show (zI (val y.num * x.d)).length ≤ k by omega))
  have e3 := Int.natAbs_add_le (x.n * (y.d : Int)) (y.n * (x.d : Int))
  rw [Int.natAbs_mul, Int.natAbs_mul, R.n, R.n, vC, vC, Int.natAbs_natCast, Int.natAbs_natCast] at e3
  have e4 : B ^ k * 2 ≤ B ^ k * B := Nat.mul_le_mul_left _ (by decide)
  have e5 : (zI (x.n * (y.d : Int) + y.n * (x.d : Int)).natAbs).length ≤ k + 1 := z9 (by rw [Nat.pow_succ B k]; unfold R.n; generalize B ^ k = P at *; omega)
  show (zI (x.n * (y.d : Int) + y.n * (x.d : Int)).natAbs).length < 2^33
  omega
 have cq := s102 (xB (x.n * (y.d : Int) + y.n * (x.d : Int))).neg (xB (x.n * (y.d : Int) + y.n * (x.d : Int))).mag (zI (x.d * y.d)) hsl (by omega) (by rw [zM]; exact Nat.mul_ne_zero x.d_ne y.d_ne)
 have e6 : sgn (xB (x.n * (y.d : Int) + y.n * (x.d : Int))).neg (val (xB (x.n * (y.d : Int) + y.n * (x.d : Int))).mag) = x.n * (y.d : Int) + y.n * (x.d : Int) := kZ _
 rw [e6, zM, ← q_add] at cq
 clear e6 hsl hml e1 e2 hxl hyl
 generalize zE (x.q + y.q) = W at *
 generalize zI (x.d * y.d) = M at *
 generalize xB (x.n * (y.d : Int) + y.n * (x.d : Int)) = S at *
 generalize zI (val x.num * y.d) = W1 at *
 generalize zI (val y.num * x.d) = W2 at *
 generalize uT x.den = ux at *
 generalize uT y.den = uy at *
 obtain ⟨a, b, c⟩ := x
 obtain ⟨a', b', c'⟩ := y
 obtain ⟨s1, s2⟩ := S
 cbv
 refine uW 10 (by cbv) (by cbv) ?_
 cbv
 refine dA cuy ?_
 cbv
 refine dA cx ?_
 cbv
 refine uW 10 (by cbv) (by cbv) ?_
 cbv
 refine dA cux ?_
 cbv
 refine dA cy ?_
 cbv
 refine cA ca ?_
 cbv
 refine zO 12 (by cbv) ?_
 cbv
 refine dA cux ?_
 cbv
 refine dA cuy ?_
 cbv
 refine dA cm ?_
 cbv
 refine dA cq ?_
 cbv
 (refine rC ?_; cbv)
 exact okA
theorem s93 (x y : R) (hx : x.sz (2^31)) (hy : y.sz (2^31)) : zC 69 [rv x, rv y] (rv (zE (x.q - y.q))) := by
 refine sF Tryz.f69 ?_
 have cn := s143 y (hy.mono (by omega))
 have ca := s44 x (zE (-y.q)) hx (zY (aX (hy.fits (by decide))))
 rw [zW, ← Rat.sub_eq_add_neg] at ca
 generalize zE (x.q - y.q) = W at *
 generalize zE (-y.q) = V at *
 obtain ⟨a, b, c⟩ := x
 obtain ⟨a', b', c'⟩ := y
 cbv
 refine zO 4 (by cbv) ?_
 cbv
 refine dA cn ?_
 cbv
 refine dA ca ?_
 cbv
 (refine rC ?_; cbv)
 exact okA
theorem cmp_sub (a b : Rat) : yA (a - b) = x6 a b := by
 unfold yA x6
 have h1 : a - b < 0 ↔ a < b := by grind
 have h2 : 0 < a - b ↔ b < a := by grind
 simp only [h1, h2]
theorem s42 (x y : R) (hx : x.sz (2^31)) (hy : y.sz (2^31)) : zC 35 [rv x, rv y] (.int .i64 (fun _ => x6 x.q y.q)) := by
 refine sF Tryz.f35 ?_
 have ca := s93 x y hx hy
 have hf := (u9 (hx.fits (by decide)) (hy.fits (by decide))).lnum
 have cs := s35 (zE (x.q - y.q)) (Nat.lt_of_le_of_lt hf (by omega))
 rw [zW, cmp_sub] at cs
 clear hf
 generalize x6 x.q y.q = C at *
 generalize zE (x.q - y.q) = W at *
 cbv
 refine cA ca ?_
 cbv
 refine cA cs ?_
 cbv
 (refine rC ?_; cbv)
 exact lR
theorem s70 (x y : R) (hx : x.sz (2^31)) (hy : y.sz (2^31)) : zC 74 [rv x, rv y] (rv (zE (rF x.q y.q))) := by
 refine sF Tryz.f74 ?_
 have cc := s42 x y hx hy
 have cx := s47 x (hx.mono (by omega))
 have cy := s47 y (hy.mono (by omega))
 have k1 : 0 ≤ x6 x.q y.q → rF x.q y.q = x.q := by intro h; unfold x6 at h; unfold rF; split <;> simp_all
 have k2 : ¬ 0 ≤ x6 x.q y.q → rF x.q y.q = y.q := by
  intro h; unfold x6 at h; unfold rF
  split
  ·rfl
  ·rename_i h'
   rw [if_neg h'] at h
   split at h <;> simp at h
 generalize x6 x.q y.q = C at *
 generalize rF x.q y.q = m at *
 generalize x.q = qx at *
 generalize y.q = qy at *
 have k1' : 0 ≤ C → zE qx = zE m := fun h => by rw [k1 h]
 have k2' : ¬ 0 ≤ C → zE qy = zE m := fun h => by rw [k2 h]
 generalize zE m = W at *
 generalize zE qx = X at *
 generalize zE qy = Y at *
 cbv
 refine cA cc ?_
 cbv
 refine zF (fun h => ?_) (fun h => ?_)
 ·have := k1' h
  subst this
  cbv
  refine cA cx ?_
  cbv
  (refine rC ?_; cbv)
  exact okA
 ·have := k2' h
  subst this
  cbv
  refine cA cy ?_
  cbv
  (refine rC ?_; cbv)
  exact okA
def enc {α : Type} (p : α → List PV) (l : List α) : List (List D) := l.map fun a => xF (p a)
section
variable {α : Type} {p : α → List PV}
theorem zA (p : α → List PV) (l : List α) : (enc p l).length = l.length := by simp [enc]
theorem wS {n : Nat} (hn : ∀ a, (p a).length = n) (l : List α) : Wid n (fun _ => enc p l) := ⟨fun e he => by
 simp only [enc, List.mem_map] at he; obtain ⟨x, _, rfl⟩ := he; rw [vS, hn]⟩
theorem z8 (p : α → List PV) (l m : List α) : enc p l ++ enc p m = enc p (l ++ m) := by simp [enc]
theorem yY {n : Nat} {l : List α} {k : Int} {K : List PV → Prop} (j : Nat) (hk : k = (j : Int)) (hj : j < l.length) (hf : ∀ a, yR uG (p a) = true) (hn : ∀ a, (p a).length = n)
  (hK : ∀ a, l[j]? = some a → K (p a)) : IdxOk n (fun _ => enc p l) (fun _ => k) K :=
 idx_of j hk (p l[j]) (hf _) (hn _) (by simp [enc, hj]) (hK _ (by simp [hj]))
end
structure A where
 ts : List (Int × R)
 c : R
structure F where
 ts : List (Int × Rat)
 c : Rat
theorem F.ext' {f g : F} (h1 : f.ts = g.ts) (h2 : f.c = g.c) : f = g := by cases f; cases g; simp_all
def tq (l : List (Int × R)) : List (Int × Rat) := l.map fun t => (t.1, t.2.q)
def tR (l : List (Int × Rat)) : List (Int × R) := l.map fun t => (t.1, zE t.2)
def A.f (a : A) : F := ⟨tq a.ts, a.c.q⟩
def fA (f : F) : A := ⟨tR f.ts, zE f.c⟩
theorem tq_tR (l : List (Int × Rat)) : tq (tR l) = l := by simp [tq, tR, zW, Function.comp_def]
theorem wO (f : F) : (fA f).f = f := by simp [A.f, fA, tq_tR, zW]
def rc (x : R) : List PV := [.bool (fun _ => x.neg), nat x.num, nat x.den]
def tc (t : Int × R) : List PV := [.int .i64 (fun _ => t.1), .bool (fun _ => t.2.neg), nat t.2.num, nat t.2.den]
abbrev tsv (l : List (Int × R)) : PV := .sl (fun _ => enc tc l)
def ac (f : A) : List PV := [tsv f.ts, .bool (fun _ => f.c.neg), nat f.c.num, nat f.c.den]
abbrev av (f : A) : PV := .agg [tsv f.ts, .bool (fun _ => f.c.neg), nat f.c.num, nat f.c.den]
abbrev fv (f : F) : PV := av (fA f)
theorem xW (a : R) : yR uG (rc a) = true := rfl
theorem wQ (a : R) : (rc a).length = 3 := rfl
theorem xM (a : Int × R) : yR uG (tc a) = true := rfl
theorem xL (a : Int × R) : (tc a).length = 4 := rfl
theorem uX (a : A) : yR uG (ac a) = true := rfl
theorem jN (a : A) : (ac a).length = 4 := rfl
structure Tsz (k : Nat) (l : List (Int × R)) : Prop where
 len : l.length < 2^38
 sz : ∀ t, t ∈ l → t.2.sz k
structure A.sz (a : A) (k : Nat) : Prop where
 t : Tsz k a.ts
 c : a.c.sz k
theorem Tsz.mono {k m : Nat} {l} (h : Tsz k l) (hm : k ≤ m) : Tsz m l := ⟨h.len, fun t ht => (h.sz t ht).mono hm⟩
theorem A.sz.mono {k m : Nat} {a : A} (h : a.sz k) (hm : k ≤ m) : a.sz m := ⟨h.t.mono hm, h.c.mono hm⟩
structure Tfit (k : Nat) (l : List (Int × Rat)) : Prop where
 len : l.length < 2^38
 fit : ∀ t, t ∈ l → Fits k t.2
structure F.fit (f : F) (k : Nat) : Prop where
 t : Tfit k f.ts
 c : Fits k f.c
theorem Tfit.mono {k m : Nat} {l} (h : Tfit k l) (hm : k ≤ m) : Tfit m l := ⟨h.len, fun t ht => (h.fit t ht).mono hm⟩
theorem F.fit.mono {k m : Nat} {a : F} (h : a.fit k) (hm : k ≤ m) : a.fit m := ⟨h.t.mono hm, h.c.mono hm⟩
theorem Tfit.tR {k : Nat} {l} (h : Tfit k l) : Tsz k (tR l) := ⟨by simpa [Go.Proofs.YtcanljninhfmhaaGreat.tR] using h.len, fun t ht => by
 simp only [Go.Proofs.YtcanljninhfmhaaGreat.tR, List.mem_map] at ht
 obtain ⟨u, hu, rfl⟩ := ht
 exact zY (h.fit u hu)⟩
theorem F.fit.fA {k : Nat} {f : F} (h : f.fit k) : (fA f).sz k := ⟨h.t.tR, zY h.c⟩
theorem Tsz.fit {k : Nat} {l} (h : Tsz k l) (hk : 1 ≤ k) : Tfit k (tq l) := ⟨by simpa [tq] using h.len, fun t ht => by
 simp only [tq, List.mem_map] at ht
 obtain ⟨u, hu, rfl⟩ := ht
 exact (h.sz u hu).fits hk⟩
theorem A.sz.fit {k : Nat} {a : A} (h : a.sz k) (hk : 1 ≤ k) : a.f.fit k := ⟨h.t.fit hk, h.c.fits hk⟩
def vT (vars : Int) : Int → List (Int × R) → Bool
 | _, [] => true
 | p, t :: r => decide (0 ≤ t.1) && decide (t.1 < vars) && decide (p < t.1) && decide (t.2.q ≠ 0) && t.2.ok && vT vars t.1 r
def A.valid (vars : Int) (a : A) : Bool := vT vars (-1) a.ts && a.c.ok
structure Cn (l : List (Int × Rat)) : Prop where
 s : l.Pairwise (fun a b => a.1 < b.1)
 n : ∀ t, t ∈ l → t.2 ≠ 0
theorem Cn.nil : Cn [] := ⟨.nil, by simp⟩
theorem Cn.tail {t l} (h : Cn (t :: l)) : Cn l := ⟨(List.pairwise_cons.1 h.s).2, fun u hu => h.n u (List.mem_cons_of_mem _ hu)⟩
theorem Cn.lt {t l} (h : Cn (t :: l)) : ∀ u, u ∈ l → t.1 < u.1 := (List.pairwise_cons.1 h.s).1
theorem Cn.hd {t l} (h : Cn (t :: l)) : t.2 ≠ 0 := h.n t List.mem_cons_self
theorem Cn.cons {t l} (h : Cn l) (h1 : ∀ u, u ∈ l → t.1 < u.1) (h2 : t.2 ≠ 0) : Cn (t :: l) :=
 ⟨List.pairwise_cons.2 ⟨h1, h.s⟩, fun u hu => by rcases List.mem_cons.1 hu with rfl | hu <;> first | exact h2 | exact h.n u hu⟩
def co : List (Int × Rat) → Int → Rat
 | [], _ => 0
 | t :: r, v => (if t.1 = v then t.2 else 0) + co r v
theorem lH {l : List (Int × Rat)} {v : Int} (h : ∀ t, t ∈ l → t.1 ≠ v) : co l v = 0 := by
 induction l with
 | nil => rfl
 | cons t r ih =>
  simp only [co, if_neg (h t List.mem_cons_self), ih fun u hu => h u (List.mem_cons_of_mem _ hu)]
  grind
theorem qS {t : Int × Rat} {l} (h : Cn (t :: l)) : co (t :: l) t.1 = t.2 := by
 simp only [co, if_true, lH fun u hu => (Int.ne_of_lt (h.lt u hu)).symm]
 grind
theorem Cn.ext : ∀ {l m : List (Int × Rat)}, Cn l → Cn m → (∀ v, co l v = co m v) → l = m
 | [], [], _, _, _ => rfl
 | [], b :: m, _, hm, h => by
  have := h b.1
  rw [qS hm] at this
  exact absurd this.symm hm.hd
 | a :: l, [], hl, _, h => by
  have := h a.1
  rw [qS hl] at this
  exact absurd this hl.hd
 | a :: l, b :: m, hl, hm, h => by
  have h1 : a.1 = b.1 := by
   rcases Int.lt_trichotomy a.1 b.1 with c | c | c
   ·have := h a.1
    rw [qS hl, lH (l := b :: m) (fun t ht => by
     rcases List.mem_cons.1 ht with rfl | ht
     ·omega
     ·have := hm.lt t ht; omega)] at this
    exact absurd this hl.hd
   ·exact c
   ·have := h b.1
    rw [qS hm, lH (l := a :: l) (fun t ht => by
     rcases List.mem_cons.1 ht with rfl | ht
     ·omega
     ·have := hl.lt t ht; omega)] at this
    exact absurd this.symm hm.hd
  have h2 : a.2 = b.2 := by
   have := h a.1
   rw [qS hl, h1, qS hm] at this
   exact this
  have h3 : a = b := Prod.ext h1 h2
  subst h3
  congr 1
  refine Cn.ext hl.tail hm.tail fun v => ?_
  have := h v
  simp only [co] at this
  grind
def pc (v : Int) (q : Rat) (r : List (Int × Rat)) : List (Int × Rat) := if q = 0 then r else (v, q) :: r
theorem rR (v : Int) (q : Rat) (r) (w : Int) : co (pc v q r) w = (if v = w then q else 0) + co r w := by
 unfold pc
 split
 ·rename_i h; rw [h]; split <;> grind
 ·rfl
theorem Cn.pc {v : Int} {q : Rat} {r} (h : Cn r) (h1 : ∀ u, u ∈ r → v < u.1) : Cn (pc v q r) := by
 unfold Go.Proofs.YtcanljninhfmhaaGreat.pc
 split
 ·exact h
 ·exact h.cons h1 (by assumption)
theorem vE {v : Int} {q : Rat} {r u} (h : u ∈ pc v q r) : u = (v, q) ∨ u ∈ r := by
 unfold pc at h
 split at h
 ·exact .inr h
 ·exact List.mem_cons.1 h
def mrg (c : Rat) : List (Int × Rat) → List (Int × Rat) → List (Int × Rat)
 | [], [] => []
 | a :: aa, [] => pc a.1 a.2 (mrg c aa [])
 | [], b :: bb => pc b.1 (b.2 * c) (mrg c [] bb)
 | a :: aa, b :: bb => if a.1 < b.1 then pc a.1 a.2 (mrg c aa (b :: bb)) else if b.1 < a.1 then pc b.1 (b.2 * c) (mrg c (a :: aa) bb) else pc a.1 (a.2 + b.2 * c) (mrg c aa bb)
termination_by a b => a.length + b.length
theorem jI (c : Rat) : ∀ (a b : List (Int × Rat)) (v : Int), co (mrg c a b) v = co a v + co b v * c
 | [], [], v => by rw [mrg]; simp only [co]; grind
 | a :: aa, [], v => by rw [mrg, rR, jI c aa []]; simp only [co]; grind
 | [], b :: bb, v => by rw [mrg, rR, jI c [] bb]; simp only [co]; split <;> grind
 | a :: aa, b :: bb, v => by
  rw [mrg]
  split
  ·rw [rR, jI c aa (b :: bb)]; simp only [co]; grind
  ·split
   ·rw [rR, jI c (a :: aa) bb]; simp only [co]; split <;> grind
   ·have : a.1 = b.1 := by omega
    rw [rR, jI c aa bb]; simp only [co, this]; split <;> grind
termination_by a b => a.length + b.length
theorem kN {c : Rat} : ∀ {a b : List (Int × Rat)} {u}, u ∈ mrg c a b → (∃ t, t ∈ a ∧ t.1 = u.1) ∨ (∃ t, t ∈ b ∧ t.1 = u.1)
 | [], [], u, h => by rw [mrg] at h; exact absurd h (by simp)
 | a :: aa, [], u, h => by
  rw [mrg] at h
  rcases vE h with rfl | h
  ·exact .inl ⟨a, List.mem_cons_self, rfl⟩
  ·rcases kN h with ⟨t, h1, h2⟩ | ⟨t, h1, h2⟩
   ·exact .inl ⟨t, List.mem_cons_of_mem _ h1, h2⟩
   ·exact .inr ⟨t, h1, h2⟩
 | [], b :: bb, u, h => by
  rw [mrg] at h
  rcases vE h with rfl | h
  ·exact .inr ⟨b, List.mem_cons_self, rfl⟩
  ·rcases kN h with ⟨t, h1, h2⟩ | ⟨t, h1, h2⟩
   ·exact .inl ⟨t, h1, h2⟩
   ·exact .inr ⟨t, List.mem_cons_of_mem _ h1, h2⟩
 | a :: aa, b :: bb, u, h => by
  rw [mrg] at h
  split at h
  ·rcases vE h with rfl | h
   ·exact .inl ⟨a, List.mem_cons_self, rfl⟩
   ·rcases kN h with ⟨t, h1, h2⟩ | ⟨t, h1, h2⟩
    ·exact .inl ⟨t, List.mem_cons_of_mem _ h1, h2⟩
    ·exact .inr ⟨t, h1, h2⟩
  ·split at h
   ·rcases vE h with rfl | h
    ·exact .inr ⟨b, List.mem_cons_self, rfl⟩
    ·rcases kN h with ⟨t, h1, h2⟩ | ⟨t, h1, h2⟩
     ·exact .inl ⟨t, h1, h2⟩
     ·exact .inr ⟨t, List.mem_cons_of_mem _ h1, h2⟩
   ·rcases vE h with rfl | h
    ·exact .inl ⟨a, List.mem_cons_self, rfl⟩
    ·rcases kN h with ⟨t, h1, h2⟩ | ⟨t, h1, h2⟩
     ·exact .inl ⟨t, List.mem_cons_of_mem _ h1, h2⟩
     ·exact .inr ⟨t, List.mem_cons_of_mem _ h1, h2⟩
termination_by a b => a.length + b.length
theorem Cn.mrg {c : Rat} : ∀ {a b : List (Int × Rat)}, Cn a → Cn b → Cn (mrg c a b)
 | [], [], _, _ => by rw [Go.Proofs.YtcanljninhfmhaaGreat.mrg]; exact Cn.nil
 | a :: aa, [], ha, hb => by
  rw [Go.Proofs.YtcanljninhfmhaaGreat.mrg]
  refine Cn.pc (Cn.mrg ha.tail hb) fun u hu => ?_
  rcases kN hu with ⟨t, h1, h2⟩ | ⟨t, h1, h2⟩
  ·rw [← h2]; exact ha.lt t h1
  ·exact absurd h1 (by simp)
 | [], b :: bb, ha, hb => by
  rw [Go.Proofs.YtcanljninhfmhaaGreat.mrg]
  refine Cn.pc (Cn.mrg ha hb.tail) fun u hu => ?_
  rcases kN hu with ⟨t, h1, h2⟩ | ⟨t, h1, h2⟩
  ·exact absurd h1 (by simp)
  ·rw [← h2]; exact hb.lt t h1
 | a :: aa, b :: bb, ha, hb => by
  rw [Go.Proofs.YtcanljninhfmhaaGreat.mrg]
  split
  ·rename_i hlt
   refine Cn.pc (Cn.mrg ha.tail hb) fun u hu => ?_
   rcases kN hu with ⟨t, h1, h2⟩ | ⟨t, h1, h2⟩
   ·rw [← h2]; exact ha.lt t h1
   ·rw [← h2]
    rcases List.mem_cons.1 h1 with rfl | h1
    ·exact hlt
    ·exact Int.lt_trans hlt (hb.lt t h1)
  ·split
   ·rename_i _ hlt
    refine Cn.pc (Cn.mrg ha hb.tail) fun u hu => ?_
    rcases kN hu with ⟨t, h1, h2⟩ | ⟨t, h1, h2⟩
    ·rw [← h2]
     rcases List.mem_cons.1 h1 with rfl | h1
     ·exact hlt
     ·exact Int.lt_trans hlt (ha.lt t h1)
    ·rw [← h2]; exact hb.lt t h1
   ·have : a.1 = b.1 := by omega
    refine Cn.pc (Cn.mrg ha.tail hb.tail) fun u hu => ?_
    rcases kN hu with ⟨t, h1, h2⟩ | ⟨t, h1, h2⟩
    ·rw [← h2]; exact ha.lt t h1
    ·rw [← h2, this]; exact hb.lt t h1
termination_by a b => a.length + b.length
theorem dQ (v : Int) (q : Rat) (r) : (pc v q r).length ≤ r.length + 1 := by unfold pc; split <;> simp
theorem gL (c : Rat) : ∀ (a b : List (Int × Rat)), (mrg c a b).length ≤ a.length + b.length
 | [], [] => by rw [mrg]; simp
 | a :: aa, [] => by rw [mrg]; have := dQ a.1 a.2 (mrg c aa []); have := gL c aa []; simp only [List.length_cons] at *; omega
 | [], b :: bb => by rw [mrg]; have := dQ b.1 (b.2 * c) (mrg c [] bb); have := gL c [] bb; simp only [List.length_cons] at *; omega
 | a :: aa, b :: bb => by
  rw [mrg]
  split
  ·have := dQ a.1 a.2 (mrg c aa (b :: bb)); have := gL c aa (b :: bb); simp only [List.length_cons] at *; omega
  ·split
   ·have := dQ b.1 (b.2 * c) (mrg c (a :: aa) bb); have := gL c (a :: aa) bb; simp only [List.length_cons] at *; omega
   ·have := dQ a.1 (a.2 + b.2 * c) (mrg c aa bb); have := gL c aa bb; simp only [List.length_cons] at *; omega
termination_by a b => a.length + b.length
def F.merge (f g : F) (c : Rat) : F := ⟨mrg c f.ts g.ts, f.c + g.c * c⟩
def F.add (f g : F) : F := f.merge g 1
def F.sub (f g : F) : F := f.merge g (-1)
def F.scale (f : F) (c : Rat) : F := F.merge ⟨[], 0⟩ f c
theorem sO {c : Rat} {k m : Nat} (hc : Fits m c) : ∀ {a b : List (Int × Rat)}, (∀ t, t ∈ a → Fits k t.2) → (∀ t, t ∈ b → Fits k t.2) → ∀ u, u ∈ mrg c a b → Fits (2 * k + m + 1) u.2
 | [], [], _, _, u, h => by rw [mrg] at h; exact absurd h (by simp)
 | a :: aa, [], ha, hb, u, h => by
  rw [mrg] at h
  rcases vE h with rfl | h
  ·exact (ha a List.mem_cons_self).mono (by omega)
  ·exact sO hc (fun t ht => ha t (List.mem_cons_of_mem _ ht)) hb u h
 | [], b :: bb, ha, hb, u, h => by
  rw [mrg] at h
  rcases vE h with rfl | h
  ·exact (xI (hb b List.mem_cons_self) hc).mono (by omega)
  ·exact sO hc ha (fun t ht => hb t (List.mem_cons_of_mem _ ht)) u h
 | a :: aa, b :: bb, ha, hb, u, h => by
  rw [mrg] at h
  split at h
  ·rcases vE h with rfl | h
   ·exact (ha a List.mem_cons_self).mono (by omega)
   ·exact sO hc (fun t ht => ha t (List.mem_cons_of_mem _ ht)) hb u h
  ·split at h
   ·rcases vE h with rfl | h
    ·exact (xI (hb b List.mem_cons_self) hc).mono (by omega)
    ·exact sO hc ha (fun t ht => hb t (List.mem_cons_of_mem _ ht)) u h
   ·rcases vE h with rfl | h
    ·exact (wX (ha a List.mem_cons_self) (xI (hb b List.mem_cons_self) hc)).mono (by omega)
    ·exact sO hc (fun t ht => ha t (List.mem_cons_of_mem _ ht)) (fun t ht => hb t (List.mem_cons_of_mem _ ht)) u h
termination_by a b => a.length + b.length
theorem okQ {p : Prop} (h : p := by (try simp only [zA, zK] at *) <;> (try dsimp only [zG] at *) <;> omega) : p := h
theorem aO {t base x d ps K n b z xs} (ht : ty t = .sli n b z) {m o len els} (hK : K ⟨vX (vG (scr m) ps.tmps) d (.osl m n (fun _ => 0) (fun _ => (els ()).length + (xs ()).length)), xH (scr m) (wG ps.objs m) ++ [(m, .arr n (fun _ => els () ++ xs ()))]⟩) (hb : ev (zB ps.tmps) base = .osl m n o len := by exact rfl) (ho : yH ps.objs m = some (.arr n els) := by exact rfl) (ho0 : o () = 0 := by exact rfl) (hl : len () = (els ()).length := by simp [zA, zR]) (hx : ev (zB ps.tmps) x = .sl xs := by exact rfl) (hw : Wid n xs := by exact ⟨by simp [zR, xF]⟩) (hr : Room (fun _ => (((els ()).length + (xs ()).length : Nat) : Int)) b := by exact yF (by simp [zR, zA] <;> omega) (by simp [zR, zA] at *; (try dsimp only [zG] at *); omega)) (hf : yO m ⟨vG (scr m) ps.tmps, xH (scr m) (wG ps.objs m)⟩ = true := by exact rfl) : AppOk t base x (some d) ps K := app_ownN ht hb ho ho0 hl hx hw hr hf hK
theorem aL {t base x d ps K n b z xs} (ht : ty t = .sli n b z) {m o len els} (hK : K ⟨vX (vG (scr m) ps.tmps) d (.osl m n (fun _ => 0) (fun _ => (els ()).length + (xs ()).length)), xH (scr m) (wG ps.objs m) ++ [(m, .log n (fun _ => els () ++ xs ()))]⟩) (hb : ev (zB ps.tmps) base = .osl m n o len := by exact rfl) (ho : yH ps.objs m = some (.log n els) := by exact rfl) (ho0 : o () = 0 := by exact rfl) (hl : len () = (els ()).length := by simp [zA, zR]) (hx : ev (zB ps.tmps) x = .sl xs := by exact rfl) (hw : Wid n xs := by exact ⟨by simp [zR, xF]⟩) (hr : Room (fun _ => (((els ()).length + (xs ()).length : Nat) : Int)) b := by exact yF (by simp [zR, zA] <;> omega) (by simp [zR, zA] at *; (try dsimp only [zG] at *); omega)) (hf : yO m ⟨vG (scr m) ps.tmps, xH (scr m) (wG ps.objs m)⟩ = true := by exact rfl) : AppOk t base x (some d) ps K := oE ht hb ho ho0 hl hx hw hr hf hK
end Go.Proofs.YtcanljninhfmhaaGreat
