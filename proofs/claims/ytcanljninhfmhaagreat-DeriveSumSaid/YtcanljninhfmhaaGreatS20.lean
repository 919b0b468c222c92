/- A part of the proof: NtG, NtH. -/
import Derived.Test.YtcanljninhfmhaaGreatS19
set_option linter.all false
namespace Go.Proofs.YtcanljninhfmhaaGreat
open Go
set_option linter.unusedVariables false
set_option maxRecDepth 100000
theorem mk_row (n : Nat) (m : Int) (h : m = n) : (List.replicate m.toNat (mapD [.int .u32 (fun _ => 0)]) : List (List D)) = lm (List.replicate n 0) := by
 subst h
 simp [lm, mapD, toD]
theorem val_drop_set {l : List UInt32} {i : Nat} (h : i < l.length) (x : UInt32) : val ((l.set i x).drop i) = x.toNat + B * val (l.drop (i + 1)) := by
 have := val_drop_cons (l := l.set i x) (i := i) (by simpa using h)
 rw [this, List.drop_set_of_lt (by omega)]
 simp [h]
theorem hf232 : Pg.funcs[194]? = some Tryz.f194 := by rw [Pg_eq]; rfl
theorem s232 (a : List UInt32) (d : Nat) (ha : a.length < 2^40) (hd : d < B) (hd0 : 0 < d) : SoundS 194 [nat a, .int .u32 (fun _ => (d : Int))] (.tup [nat (limbs (val a / d)), nat (limbs (val a % d))]) := by
 have hdd : nx .u64 (d : Int) = (d : Int) := nx_nat (by simp only [B] at hd; omega)
 refine sound_fn hf232 rfl rfl rfl rfl rfl ?_
 cbv
 refine ⟨room_of om om, mkok_of om om, ?_⟩
 cbv
 refine ⟨in64_of om om, ?_⟩
 refine loop_n (σ := Nat × Nat × List UInt32) (fun s => ⟨[(0, nat a), (1, .int .u32 (fun _ => (d : Int))), (6, .osl 11 1 (fun _ => 0) (fun _ => a.length)), (7, .int .u64 (fun _ => (s.2.1 : Int))), (8, .int .i64 (fun _ => (s.1 : Int) - 1))], [(11, .arr 1 (fun _ => lm s.2.2))]⟩)
  (fun s => s.1 ≤ a.length ∧ s.2.1 < d ∧ s.2.2.length = a.length ∧ val (a.drop s.1) = d * val (s.2.2.drop s.1) + s.2.1) (fun s => s.1)
  (a.length, 0, List.replicate a.length 0) ⟨om, hd0, by simp, by simp [val]⟩ (.le ?_ ?_ rfl) ?_
 ·cbv
  exact ⟨leS_refl _, leS_refl _, leS_osl rfl om, leS_refl _, leS_int om, trivial⟩
 ·cbv
  exact ⟨elsEq_of (mk_row a.length _ om), trivial⟩
 intro s hs
 obtain ⟨h1, h2, h3, h4⟩ := hs
 generalize s.1 = n at *
 generalize s.2.1 = r at *
 generalize s.2.2 = out at *
 cbv
 refine cut_dec (fun h5 => ?_) (fun h5 => ?_)
 ·(try dsimp only [ncast] at *)
  obtain ⟨m, rfl⟩ : ∃ m, n = m + 1 := ⟨n - 1, by omega⟩
  cbv
  have hx := u32_lt (a.getD m 0)
  refine ⟨nn_of (by omega), idx_lm m om om ?_⟩
  have hX := val_drop_cons (l := a) (i := m) om
  generalize hxx : (a.getD m 0).toNat = x at *
  have hT : ior .u64 (ishl .u64 (r : Int) 32) (nx .u64 (x : Int)) = ((x + B * r : Nat) : Int) := by
   have := or2' (a := x) (b := r) hx (by simp only [B] at hd; omega)
   exact this
  have hlt : x + B * r < d * B := by
   have := Nat.mul_le_mul_left B (show r + 1 ≤ d from h2)
   rw [Nat.mul_add, Nat.mul_comm B d] at this
   omega
  have hq : (x + B * r) / d < B := by rw [Nat.div_lt_iff_lt_mul hd0, Nat.mul_comm B d]; exact hlt
  have hdB : d * B ≤ B * B := Nat.mul_le_mul_right B (Nat.le_of_lt hd)
  have hr := Nat.mod_lt (x + B * r) hd0
  have hdm := Nat.div_add_mod (x + B * r) d
  generalize hqq : (x + B * r) / d = q at *
  generalize hrr : (x + B * r) % d = r' at *
  have hQ : iquo (ior .u64 (ishl .u64 (r : Int) 32) (nx .u64 (x : Int))) (nx .u64 (d : Int)) = (q : Int) := by rw [hT, hdd, iquo_nat, hqq]
  have hR : irem (ior .u64 (ishl .u64 (r : Int) 32) (nx .u64 (x : Int))) (nx .u64 (d : Int)) = (r' : Int) := by rw [hT, hdd, irem_nat, hrr]
  cbv
  refine ⟨nz_of (by (try dsimp only [ncast] at *); rw [hdd]; omega), rng_of om om, el_lm m (by (try dsimp only [ncast] at *); omega) om ?_⟩
  cbv
  refine ⟨nz_of (by (try dsimp only [ncast] at *); rw [hdd]; omega), in64_of om om, (m, r', out.set m (UInt32.ofNat q)), ⟨om, hr, by simpa using h3, ?_⟩, om, .le ?_ ?_ rfl⟩
  ·show val (a.drop m) = d * val ((out.set m _).drop m) + r'
   rw [hX, h4, val_drop_set om, u32_mod, Nat.mod_eq_of_lt hq, Nat.mul_add B, Nat.mul_add d, Nat.mul_left_comm B d]
   have : x + B * r = d * q + r' := hdm.symm
   omega
  ·cbv
   exact ⟨leS_refl _, leS_refl _, leS_refl _, leS_int hR, leS_int om, trivial⟩
  ·cbv
   refine ⟨elsEq_of (lm_set_to out (j := m) ?_ ?_ hq), trivial⟩
   ·(try dsimp only [ncast] at *); omega
   ·show nx .u32 (nx .u64 (iquo (ior .u64 (ishl .u64 (r : Int) 32) (nx .u64 (x : Int))) (nx .u64 (d : Int)))) = (q : Int)
    simp only [B] at hq
    rw [hQ, nx_nat (by omega), nx_u32]; omega
 ·cbv
  have hn : n = 0 := om
  subst hn
  refine callW (.trans (.le (ps' := ⟨[(7, .int .u64 (fun _ => (r : Int))), (39, .osl 11 1 (fun _ => 0) (fun _ => a.length))], [(11, .arr 1 (fun _ => lm out))]⟩) ?_ ?_ rfl) (.frz 11 rfl rfl ?_ ?_)) rfl (by refine ⟨leS_sl ?_, trivial⟩; exact List.take_of_length_le (by simp [lm_length] <;> omega)) (s209 out (by omega)) rfl ?_
  ·cbv
   exact ⟨leS_refl _, leS_refl _, trivial⟩
  ·cbv
   exact ⟨elsEq_of rfl, trivial⟩
  ·cbv
   exact ⟨frok_of (by simp [lm_length] <;> omega), trivial⟩
  ·exact trivial
  cbv
  have hrB : r < B * B := by have := hd; simp only [B] at *; omega
  refine callS' rfl (by exact ⟨leS_refl _, trivial⟩) (s211 r hrB) rfl ?_
  cbv
  refine ret0 rfl ?_ rfl
  simp only [List.drop_zero] at h4
  have e1 : val a / d = val out := (Nat.div_eq_of_lt_le (by rw [Nat.mul_comm]; omega) (by rw [Nat.mul_comm, Nat.mul_add]; omega))
  have e2 : val a % d = r := by rw [h4, Nat.mul_add_mod]; exact Nat.mod_eq_of_lt h2
  exact ⟨leS_sl (by rw [e1]), leS_sl (by rw [e2]), trivial⟩
theorem getD_mid {pre x post : List UInt32} {j : Nat} (h : j < x.length) : (pre ++ (x ++ post)).getD (pre.length + j) 0 = x.getD j 0 := by
 simp [List.getElem?_append, h, show ¬ pre.length + j < pre.length by omega]
theorem el_mid {pre x post : List UInt32} {i : Nat} {K : List PV → Prop} (j : Nat) (hi : i = pre.length + j) (hj : j < x.length) (hK : K [.int .u32 (fun _ => ((x.getD j 0).toNat : Int))]) : ElOk 1 (fun _ => lm (pre ++ (x ++ post))) (fun _ => i) K := by
 refine el_lm (pre.length + j) hi (by simp; omega) ?_
 rw [getD_mid hj]
 exact hK
theorem retK1 {rs : List ResultVar} {r : PV} {ps : PS} {l : List PV} {n : Nat} {o : Obj'} (h1 : resV ps rs = some l) (h2 : les (oneV l) (ren id r)) (h3 : lv r = true) (h4 : getO ps.objs n = some o) (h5 : closedO o = true) (h6 : Nat.ble 1000000 n = true) : RetOk rs r [(n, o)] [] ps :=
 ⟨ps, l, id, .refl ps, h1, les_le h2, h3, ⟨⟨h4, h5⟩, trivial⟩, rfl, ⟨rfl, Nat.le_of_ble_eq_true h6⟩, trivial⟩
theorem retK1W {rs : List ResultVar} {r : PV} {ps ps' : PS} {l : List PV} {n : Nat} {o : Obj'} (hw : Wk ps ps') (h1 : resV ps' rs = some l) (h2 : les (oneV l) (ren id r)) (h3 : lv r = true) (h4 : getO ps'.objs n = some o) (h5 : closedO o = true) (h6 : Nat.ble 1000000 n = true) : RetOk rs r [(n, o)] [] ps :=
 ⟨ps', l, id, hw, h1, les_le h2, h3, ⟨⟨h4, h5⟩, trivial⟩, rfl, ⟨rfl, Nat.le_of_ble_eq_true h6⟩, trivial⟩
theorem estF_stop {v1 v2 u2 q r : Nat} (hr : r < B) (hv : 0 < v1) (h : ¬ (B ≤ q ∨ r * B + u2 < q * v2)) : estF v1 v2 u2 q r = q := by
 rw [estF, dif_neg (by omega), if_neg h]
theorem estF_brk {v1 v2 u2 q r : Nat} (hr : r < B) (hv : 0 < v1) (h : B ≤ q ∨ r * B + u2 < q * v2) (h2 : B ≤ r + v1) : estF v1 v2 u2 q r = q - 1 := by
 rw [estF, dif_neg (by omega), if_pos h, if_pos h2]
theorem estF_go {v1 v2 u2 q r : Nat} (hr : r < B) (hv : 0 < v1) (h : B ≤ q ∨ r * B + u2 < q * v2) (h2 : ¬ B ≤ r + v1) : estF v1 v2 u2 q r = estF v1 v2 u2 (q - 1) (r + v1) := by
 rw [estF, dif_neg (by omega), if_pos h, if_neg h2]
abbrev kx (pre x post : List UInt32) : List (Nat × Obj') := [(1000000, .arr 1 (fun _ => lm (pre ++ (x ++ post))))]
theorem hf236 : Pg.funcs[198]? = some Tryz.f198 := by rw [Pg_eq]; rfl
theorem s236 (pre x post v : List UInt32) (n : Nat) (hx : x.length = n + 3) (hv : v.length = n + 2) (hn : n < 2^40) (hp : pre.length < 2^40) (hnorm : B ≤ 2 * (v.getD (n + 1) 0).toNat) (hle : (x.getD (n + 2) 0).toNat ≤ (v.getD (n + 1) 0).toNat) :
  Sound 198 [.osl 1000000 1 (fun _ => pre.length) (fun _ => n + 3), nat v] (kx pre x post) []
   (.int .u64 (fun _ => ((estF (v.getD (n + 1) 0).toNat (v.getD n 0).toNat (x.getD n 0).toNat (((x.getD (n + 2) 0).toNat * B + (x.getD (n + 1) 0).toNat) / (v.getD (n + 1) 0).toNat) (((x.getD (n + 2) 0).toNat * B + (x.getD (n + 1) 0).toNat) % (v.getD (n + 1) 0).toNat) : Nat) : Int)))
   (kx pre x post) [] := by
 refine sound_fn hf236 rfl rfl rfl rfl rfl ?_
 have hu0 := u32_lt (x.getD (n + 2) 0)
 have hu1 := u32_lt (x.getD (n + 1) 0)
 have hu2 := u32_lt (x.getD n 0)
 have hv1 := u32_lt (v.getD (n + 1) 0)
 have hv2 := u32_lt (v.getD n 0)
 have hB : B = 4294967296 := rfl
 generalize hxa : (x.getD (n + 2) 0).toNat = xa at *
 generalize hxb : (x.getD (n + 1) 0).toNat = xb at *
 generalize hxc : (x.getD n 0).toNat = xc at *
 generalize hva : (v.getD (n + 1) 0).toNat = va at *
 generalize hvb : (v.getD n 0).toNat = vb at *
 have hT : ior .u64 (ishl .u64 (nx .u64 (xa : Int)) 32) (nx .u64 (xb : Int)) = ((xa * B + xb : Nat) : Int) := by
  rw [nx_nat (n := xa) (by omega), or2' hu1 hu0, Nat.mul_comm xa, Nat.add_comm]; rfl
 have hva0 : 0 < va := by omega
 have hq0 : (xa * B + xb) / va ≤ B + 1 := by
  have : xa * B + xb < (B + 2) * va := by
   have h1 := Nat.mul_le_mul_right B hle
   rw [Nat.add_mul, Nat.mul_comm B va]
   omega
  have := (Nat.div_lt_iff_lt_mul hva0).2 this
  omega
 have hr0 : (xa * B + xb) % va < B := Nat.lt_trans (Nat.mod_lt _ hva0) hv1
 generalize hQ : estF va vb xc ((xa * B + xb) / va) ((xa * B + xb) % va) = Q
 have hq' : iquo ((xa * B + xb : Nat) : Int) (va : Int) = (((xa * B + xb) / va : Nat) : Int) := iquo_nat
 have hr' : irem ((xa * B + xb : Nat) : Int) (va : Int) = (((xa * B + xb) % va : Nat) : Int) := irem_nat
 generalize hq0' : (xa * B + xb) / va = q0 at *
 generalize hr0' : (xa * B + xb) % va = r0 at *
 generalize (xa * B + xb : Nat) = top at *
 have hvn : nx .u64 (va : Int) = (va : Int) := nx_nat (by omega)
 cbv
 refine draw_of 13 (by cbv) ?_
 cbv
 refine ⟨rng_of om om, el_mid (n + 2) om om ?_⟩
 cbv
 refine ⟨nn_of (by omega), in64_of om om, rng_of om om, el_mid (n + 1) om om ?_⟩
 cbv
 refine draw_of 18 (by cbv) ?_
 cbv
 refine ⟨in64_of om om, idx_lm (n + 1) om om ?_⟩
 cbv
 refine ⟨nz_of (by (try dsimp only [ncast] at *); rw [hva, hvn]; omega), in64_of om om, idx_lm (n + 1) om om ?_⟩
 cbv
 refine ⟨nz_of (by (try dsimp only [ncast] at *); rw [hva, hvn]; omega), ?_⟩
 refine loop_n (σ := Nat × Nat) (fun s => ⟨[(0, .osl 1000000 1 (fun _ => pre.length) (fun _ => n + 3)), (1, nat v), (5, .int .i64 (fun _ => ((n + 2 : Nat) : Int))), (7, .int .u64 (fun _ => (s.1 : Int))), (8, .int .u64 (fun _ => (s.2 : Int)))], kx pre x post⟩)
  (fun s => s.1 ≤ B + 1 ∧ s.2 < B ∧ estF va vb xc s.1 s.2 = Q) (fun s => B - s.2)
  (q0, r0) ⟨hq0, hr0, hQ⟩ (.le ?_ ?_ rfl) ?_
 ·cbv
  refine ⟨leS_refl _, leS_refl _, leS_int om, leS_int ?_, leS_int ?_, trivial⟩
  ·(try dsimp only [ncast] at *)
   rw [hxa, hxb, hva, hT, hvn, hq', nx_nat (by omega)]
  ·(try dsimp only [ncast] at *)
   rw [hxa, hxb, hva, hT, hvn, hr']
 ·cbv
  exact ⟨elsEq_of rfl, trivial⟩
 intro s hs
 obtain ⟨h1, h2, h3⟩ := hs
 generalize s.1 = q at *
 generalize s.2 = r at *
 have hround : (B ≤ q ∨ r * B + xc < q * vb) → 0 < q := by
  rintro (h | h)
  ·omega
  ·rcases Nat.eq_zero_or_pos q with e | e
   ·rw [e, Nat.zero_mul] at h; omega
   ·exact e
 have hq1 : 0 < q → nx .u64 ((q : Int) - 1) = ((q - 1 : Nat) : Int) := fun h => by rw [nx_u64]; omega
 have hr1 : nx .u64 ((r : Int) + (va : Int)) = ((r + va : Nat) : Int) := by rw [nx_u64]; omega
 cbv
 refine draw_of 22 (by cbv) ?_
 cbv
 have fin : (B ≤ q ∨ r * B + xc < q * vb) → ∀ (K : Prop), (B ≤ r + va → Q = q - 1 → K) → (¬ B ≤ r + va → (estF va vb xc (q - 1) (r + va) = Q ∧ q - 1 ≤ B + 1 ∧ r + va < B ∧ B - (r + va) < B - r) → K) → K := by
  intro hc K k1 k2
  by_cases h4 : B ≤ r + va
  ·exact k1 h4 (by rw [← h3, estF_brk h2 hva0 hc h4])
  ·exact k2 h4 ⟨by rw [← h3, estF_go h2 hva0 hc h4], by omega, by omega, by omega⟩
 refine br_dec (fun h4 => ?_) (fun h4 => ?_)
 ·have hc : B ≤ q ∨ r * B + xc < q * vb := .inl (by rw [hB]; exact om)
  cbv
  refine ⟨in64_of om om, idx_lm (n + 1) om om ?_⟩
  have hz : nx .u64 ((r : Int) + nx .u64 (((v.getD (n + 1) 0).toNat : Nat) : Int)) = ((r + va : Nat) : Int) := by rw [hva, hvn]; exact hr1
  have hz2 := hq1 (hround hc)
  cbv
  (try dsimp only [ncast] at *)
  refine fin hc _ (fun h6 h7 => ?_) (fun h6 h7 => ?_)
  ·refine cut_dec (fun h8 => ?_) (fun h8 => absurd h8 (by rw [hz]; omega))
   cbv
   exact retK1 rfl (leS_int (by rw [h7]; exact hz2)) rfl rfl rfl rfl
  ·refine cut_dec (fun h8 => absurd h8 (by rw [hz]; omega)) (fun h8 => ?_)
   cbv
   refine ⟨(q - 1, r + va), ⟨h7.2.1, h7.2.2.1, h7.1⟩, h7.2.2.2, .le ?_ ?_ rfl⟩
   ·cbv
    exact ⟨leS_refl _, leS_refl _, leS_refl _, leS_int hz2, leS_int hz, trivial⟩
   ·cbv
    exact ⟨elsEq_of rfl, trivial⟩
 ·cbv
  refine ⟨in64_of om om, idx_lm n om om ?_⟩
  cbv
  refine ⟨nn_of om, in64_of om om, rng_of om om, el_mid n om om ?_⟩
  have hq2 : q < B := by rw [hB]; exact om
  have hm1 : nx .u64 ((q : Int) * nx .u64 (((v.getD n 0).toNat : Nat) : Int)) = ((q * vb : Nat) : Int) := by
   rw [hvb, nx_nat (n := vb) (by omega)]
   have : q * vb < 4294967296 * 4294967296 := Nat.mul_lt_mul'' (by omega) (by omega)
   exact nx_nat (by omega)
  have hm2 : ior .u64 (ishl .u64 (r : Int) 32) (nx .u64 (((x.getD n 0).toNat : Nat) : Int)) = ((r * B + xc : Nat) : Int) := by
   rw [hxc]
   have := or2' (a := xc) (b := r) hu2 h2
   rw [this, Nat.mul_comm r, Nat.add_comm]; rfl
  cbv
  (try dsimp only [ncast] at *)
  refine cut_dec (fun h5 => ?_) (fun h5 => ?_)
  ·have hc : B ≤ q ∨ r * B + xc < q * vb := .inr (by rw [hm1, hm2] at h5; omega)
   cbv
   refine ⟨in64_of om om, idx_lm (n + 1) om om ?_⟩
   have hz : nx .u64 ((r : Int) + nx .u64 (((v.getD (n + 1) 0).toNat : Nat) : Int)) = ((r + va : Nat) : Int) := by rw [hva, hvn]; exact hr1
   have hz2 := hq1 (hround hc)
   cbv
   (try dsimp only [ncast] at *)
   refine fin hc _ (fun h6 h7 => ?_) (fun h6 h7 => ?_)
   ·refine cut_dec (fun h8 => ?_) (fun h8 => absurd h8 (by rw [hz]; omega))
    cbv
    exact retK1 rfl (leS_int (by rw [h7]; exact hz2)) rfl rfl rfl rfl
   ·refine cut_dec (fun h8 => absurd h8 (by rw [hz]; omega)) (fun h8 => ?_)
    cbv
    refine ⟨(q - 1, r + va), ⟨h7.2.1, h7.2.2.1, h7.1⟩, h7.2.2.2, .le ?_ ?_ rfl⟩
    ·cbv
     exact ⟨leS_refl _, leS_refl _, leS_refl _, leS_int hz2, leS_int hz, trivial⟩
    ·cbv
     exact ⟨elsEq_of rfl, trivial⟩
  ·have hc : ¬ (B ≤ q ∨ r * B + xc < q * vb) := by rw [hm1, hm2] at h5; omega
   have hs := estF_stop h2 hva0 hc
   cbv
   exact retK1 rfl (leS_int (by rw [← h3, hs])) rfl rfl rfl rfl
end Go.Proofs.YtcanljninhfmhaaGreat

namespace Go.Proofs.YtcanljninhfmhaaGreat
open Go
set_option linter.unusedVariables false
set_option maxRecDepth 100000
theorem set_mid {pre x post : List UInt32} {j : Nat} (h : j < x.length) (w : UInt32) : (pre ++ (x ++ post)).set (pre.length + j) w = pre ++ (x.set j w ++ post) := by
 rw [List.set_append_right _ _ (by omega), List.set_append_left _ _ (by omega)]
 congr 3
 omega
theorem lm_mid {pre x post : List UInt32} {j w k : Nat} {z : Int} (hk : k = pre.length + j) (h : j < x.length) (hz : z = (w : Int)) (hw : w < B) :
  (lm (pre ++ (x ++ post))).set k [.int .u32 z] = lm (pre ++ (x.set j (UInt32.ofNat w) ++ post)) := by
 rw [← set_mid h]
 exact lm_set_to _ hk hz hw
theorem lm_mid_nx {pre x post : List UInt32} {j S k : Nat} (hk : k = pre.length + j) (h : j < x.length) :
  (lm (pre ++ (x ++ post))).set k [.int .u32 (nx .u32 ((S : Nat) : Int))] = lm (pre ++ (x.set j (UInt32.ofNat S) ++ post)) := by
 rw [← set_mid h]
 exact lm_set_nx _ hk S
theorem sub_limb {u lo b : Nat} (hu : u < B) (hlo : lo ≤ B) (hb : b < 2) (hlb : lo + b ≤ B) : ∃ w b' : Nat, w < B ∧ b' < 2 ∧ u + B * b' = w + lo + b ∧
  nx .u64 (nx .u64 ((u : Int) - (lo : Int)) - (b : Int)) = (if b' = 0 then (w : Int) else (w : Int) + 18446744069414584320) := by
 simp only [B] at *
 by_cases h : u < lo + b
 ·refine ⟨u + 4294967296 - lo - b, 1, by omega, by omega, by omega, ?_⟩
  simp only [nx_u64]
  rw [if_neg (by omega)]
  omega
 ·refine ⟨u - lo - b, 0, by omega, by omega, by omega, ?_⟩
  simp only [nx_u64]
  simp only [if_true]
  omega
theorem top_bit {w b' : Nat} (hw : w < B) (hb : b' < 2) : ishr .u64 (if b' = 0 then (w : Int) else (w : Int) + 18446744069414584320) 63 = (b' : Int) := by
 simp only [B] at hw
 rw [ishr63]
 split <;> omega
theorem low_limb {w b' : Nat} (hw : w < B) : nx .u32 (if b' = 0 then (w : Int) else (w : Int) + 18446744069414584320) = (w : Int) := by
 simp only [B] at hw
 rw [nx_u32]
 split <;> omega
theorem red_fin {P R t s : Nat} (ht : t < P) (hR : R < P) (h : t + P * s = P * B + R) : s = B ∧ t = R := by
 rcases Nat.lt_trichotomy s B with h1 | h1 | h1
 ·have := Nat.mul_le_mul_left P (show s + 1 ≤ B from h1)
  rw [Nat.mul_add] at this
  omega
 ·subst h1; exact ⟨rfl, by omega⟩
 ·have := Nat.mul_le_mul_left P (show B + 1 ≤ s from h1)
  rw [Nat.mul_add] at this
  omega
theorem hf235 : Pg.funcs[197]? = some Tryz.f197 := by rw [Pg_eq]; rfl
theorem s235 (pre x post v : List UInt32) (n q : Nat) (hx : x.length = n + 1) (hv : v.length = n) (hn : n < 2^40) (hp : pre.length < 2^40) (hq : q < B) (hhi : q * val v ≤ val x + val v) :
  Sound 197 [.osl 1000000 1 (fun _ => pre.length) (fun _ => n + 1), nat v, .int .u64 (fun _ => (q : Int))] (kx pre x post) []
   (.int .u32 (fun _ => ((digit (val x) (val v) q : Nat) : Int))) (kx pre (pad (val x - digit (val x) (val v) q * val v) (n + 1)) post) [] := by
 refine sound_fn hf235 rfl rfl rfl rfl rfl ?_
 have hB : B = 4294967296 := rfl
 have hBB : B * B = 18446744073709551616 := by decide
 have hV := val_lt v
 rw [hv] at hV
 have hdig : digit (val x) (val v) q = if q * val v ≤ val x then q else q - 1 := rfl
 generalize hD : digit (val x) (val v) q = D at *
 generalize hF : pad (val x - D * val v) (n + 1) = F
 cbv
 refine loop_n (σ := Nat × Nat × Nat × List UInt32) (fun s => ⟨[(0, .osl 1000000 1 (fun _ => pre.length) (fun _ => n + 1)), (1, nat v), (2, .int .u64 (fun _ => (q : Int))), (7, .int .u64 (fun _ => (s.2.1 : Int))), (8, .int .u64 (fun _ => (s.2.2.1 : Int))), (15, nat v), (16, .int .i64 (fun _ => (n : Int))), (17, .int .i64 (fun _ => (s.1 : Int)))], kx pre s.2.2.2 post⟩)
  (fun s => s.1 ≤ n ∧ s.2.1 < B ∧ s.2.2.1 < 2 ∧ s.2.2.2.length = n + 1 ∧ s.2.2.2.drop s.1 = x.drop s.1 ∧ val (s.2.2.2.take s.1) + q * val (v.take s.1) = val (x.take s.1) + B ^ s.1 * (s.2.1 + s.2.2.1)) (fun s => n - s.1)
  (0, 0, 0, x) ⟨om, B_pos, by show (0 : Nat) < 2; omega, hx, rfl, by simp [val]⟩ (.le ?_ ?_ rfl) ?_
 ·cbv
  exact ⟨leS_refl _, leS_refl _, leS_refl _, leS_refl _, leS_refl _, leS_refl _, leS_int om, leS_refl _, trivial⟩
 ·cbv
  exact ⟨elsEq_of rfl, trivial⟩
 intro s hs
 obtain ⟨h1, h2, h3, h4, h5, h6⟩ := hs
 generalize s.1 = i at *
 generalize s.2.1 = c at *
 generalize s.2.2.1 = b at *
 generalize s.2.2.2 = y at *
 cbv
 refine cut_dec (fun h7 => ?_) (fun h7 => ?_)
 ·have hin : i < n := om
  have hyx : y.getD i 0 = x.getD i 0 := by
   have := congrArg (fun l => l.getD 0 0) h5
   simpa using this
  have hd := u32_lt (v.getD i 0)
  have hu := u32_lt (x.getD i 0)
  have hCl : c + q * (v.getD i 0).toNat < B * B := by
   have h8 : q * (v.getD i 0).toNat ≤ (B - 1) * (B - 1) := Nat.mul_le_mul (by omega) (by omega)
   have h9 : (B - 1) * (B - 1) + (B - 1) < B * B := by decide
   omega
  obtain ⟨w, b', hw, hb', hwe, hz⟩ := sub_limb (u := (x.getD i 0).toNat) (lo := (c + q * (v.getD i 0).toNat) % B) (b := b) hu (Nat.le_of_lt (Nat.mod_lt _ B_pos)) h3 (by have := Nat.mod_lt (c + q * (v.getD i 0).toNat) B_pos; omega)
  have hC : nx .u64 ((c : Int) + nx .u64 ((q : Int) * nx .u64 (((v.getD i 0).toNat : Nat) : Int))) = ((c + q * (v.getD i 0).toNat : Nat) : Int) := by
   rw [nx_nat (n := (v.getD i 0).toNat) (by omega)]
   have e1 : nx .u64 ((q : Int) * (((v.getD i 0).toNat : Nat) : Int)) = ((q * (v.getD i 0).toNat : Nat) : Int) := nx_nat (n := q * (v.getD i 0).toNat) (by omega)
   rw [e1]
   exact nx_nat (n := c + q * (v.getD i 0).toNat) (by omega)
  have hlo : nx .u64 (nx .u32 ((c + q * (v.getD i 0).toNat : Nat) : Int)) = (((c + q * (v.getD i 0).toNat) % B : Nat) : Int) := by
   rw [nx_u32, hB]
   have : (((c + q * (v.getD i 0).toNat : Nat) : Int) % 4294967296) = (((c + q * (v.getD i 0).toNat) % 4294967296 : Nat) : Int) := by omega
   rw [this]
   exact nx_nat (by omega)
  have hui : nx .u64 (((y.getD i 0).toNat : Nat) : Int) = (((x.getD i 0).toNat : Nat) : Int) := by rw [hyx]; exact nx_nat (by omega)
  have hZ : nx .u64 (nx .u64 (nx .u64 (((y.getD i 0).toNat : Nat) : Int) - nx .u64 (nx .u32 (nx .u64 ((c : Int) + nx .u64 ((q : Int) * nx .u64 (((v.getD i 0).toNat : Nat) : Int)))))) - (b : Int)) = (if b' = 0 then (w : Int) else (w : Int) + 18446744069414584320) := by
   rw [hC, hlo, hui]; exact hz
  cbv
  refine idx_lm i om om ?_
  cbv
  refine ⟨rng_of om om, el_mid i om om ?_⟩
  cbv
  refine ⟨rng_of om om, el_mid i om om ?_⟩
  cbv
  refine ⟨nn_of (by omega), nn_of (by omega), in64_of om om, (i + 1, (c + q * (v.getD i 0).toNat) / B, b', y.set i (UInt32.ofNat w)), ⟨om, ?_, hb', by simpa using h4, ?_, ?_⟩, om, .le ?_ ?_ rfl⟩
  ·rw [Nat.div_lt_iff_lt_mul B_pos]; exact hCl
  ·show (y.set i _).drop (i + 1) = x.drop (i + 1)
   rw [List.drop_set_of_lt (by omega), ← List.drop_drop, ← List.drop_drop, h5]
  ·show val ((y.set i _).take (i + 1)) + q * val (v.take (i + 1)) = val (x.take (i + 1)) + B ^ (i + 1) * ((c + q * (v.getD i 0).toNat) / B + b')
   rw [val_set_take _ om, val_take_getD v, val_take_getD x, u32_mod, Nat.mod_eq_of_lt hw, Nat.pow_succ]
   have hdm := Nat.mod_add_div (c + q * (v.getD i 0).toNat) B
   generalize (c + q * (v.getD i 0).toNat) % B = lo at *
   generalize (c + q * (v.getD i 0).toNat) / B = hi at *
   generalize (v.getD i 0).toNat = d at *
   generalize (x.getD i 0).toNat = u at *
   generalize B ^ i = P at *
   have e1 : P * u + P * B * (hi + b') = P * (w + q * d + c + b) := by
    rw [Nat.mul_assoc, ← Nat.mul_add]
    congr 1
    rw [Nat.mul_add]
    omega
   have e2 : P * (w + q * d + c + b) = P * w + q * (P * d) + P * (c + b) := by
    rw [Nat.add_assoc, Nat.mul_add, Nat.mul_add, Nat.mul_left_comm q]
   rw [Nat.mul_add q]
   omega
  ·cbv
   refine ⟨leS_refl _, leS_refl _, leS_refl _, leS_int ?_, leS_int ?_, leS_refl _, leS_refl _, leS_int om, trivial⟩
   ·(try dsimp only [ncast] at *)
    rw [hC]; exact ishr32 _
   ·(try dsimp only [ncast] at *)
    rw [hZ]; exact top_bit hw hb'
  ·cbv
   have hset : (lm (pre ++ (y ++ post))).set (pre.length + (i : Int).toNat) [.int .u32 (nx .u32 (nx .u64 (nx .u64 (nx .u64 (((y.getD i 0).toNat : Nat) : Int) - nx .u64 (nx .u32 (nx .u64 ((c : Int) + nx .u64 ((q : Int) * nx .u64 (((v.getD i 0).toNat : Nat) : Int)))))) - (b : Int))))] = lm (pre ++ (y.set i (UInt32.ofNat w) ++ post)) :=
    lm_mid (by simp) (by omega) (by rw [hZ]; exact low_limb hw) hw
   exact ⟨elsEq_of hset, trivial⟩
 ·have hin : i = n := om
  subst hin
  have hyx : y.getD i 0 = x.getD i 0 := by
   have := congrArg (fun l => l.getD 0 0) h5
   simpa using this
  have hu := u32_lt (x.getD i 0)
  obtain ⟨w, b', hw, hb', hwe, hz⟩ := sub_limb (u := (x.getD i 0).toNat) (lo := c) (b := b) hu (Nat.le_of_lt h2) h3 (by omega)
  have hui : nx .u64 (((y.getD i 0).toNat : Nat) : Int) = (((x.getD i 0).toNat : Nat) : Int) := by rw [hyx]; exact nx_nat (by omega)
  have hZ : nx .u64 (nx .u64 (nx .u64 (((y.getD i 0).toNat : Nat) : Int) - (c : Int)) - (b : Int)) = (if b' = 0 then (w : Int) else (w : Int) + 18446744069414584320) := by
   rw [hui]; exact hz
  have hTB := top_bit hw hb'
  have hLL := low_limb (w := w) (b' := b') hw
  generalize hzz : (if b' = 0 then (w : Int) else (w : Int) + 18446744069414584320) = zz at *
  have hi40 : i < 2^40 := hn
  cbv
  refine ⟨rng_of om om, el_mid i om om ?_⟩
  cbv
  refine ⟨rng_of om om, el_mid i om om ?_⟩
  have hset : (lm (pre ++ (y ++ post))).set (pre.length + (((lm v).length : Nat) : Int).toNat) [.int .u32 (nx .u32 (nx .u64 (nx .u64 (nx .u64 (((y.getD i 0).toNat : Nat) : Int) - (c : Int)) - (b : Int))))] = lm (pre ++ (y.set i (UInt32.ofNat w) ++ post)) :=
   lm_mid (pre := pre) (x := y) (post := post) (j := i) (by rw [lm_length, hv]; simp) (by omega) (by rw [hZ]; exact hLL) hw
  have hlen1 : (y.set i (UInt32.ofNat w)).length = i + 1 := by simpa using h4
  have hval1 : val (y.set i (UInt32.ofNat w)) + q * val v = val x + B ^ (i + 1) * b' := by
   have e1 := val_set_take y (n := i) (by omega) (UInt32.ofNat w)
   have e2 := val_take_getD x i
   rw [List.take_of_length_le (Nat.le_of_eq hlen1), u32_mod, Nat.mod_eq_of_lt hw] at e1
   rw [List.take_of_length_le (Nat.le_of_eq hx)] at e2
   rw [List.take_of_length_le (Nat.le_of_eq hv)] at h6
   rw [e1, e2, Nat.pow_succ, Nat.mul_assoc]
   generalize B ^ i = P at *
   have e3 : P * (x.getD i 0).toNat + P * (B * b') = P * w + P * (c + b) := by
    rw [← Nat.mul_add, ← Nat.mul_add]; congr 1; omega
   omega
  have hlt1 := val_lt (y.set i (UInt32.ofNat w))
  rw [hlen1] at hlt1
  generalize hy1 : y.set i (UInt32.ofNat w) = y1 at *
  cbv
  refine ⟨nn_of (by omega), ?_⟩
  refine cut_dec (fun h8 => ?_) (fun h8 => ?_)
  ·have hb0 : b' = 0 := by (try dsimp only [ncast] at *); rw [hZ, hTB] at h8; omega
   subst hb0
   have hle : q * val v ≤ val x := by omega
   rw [if_pos hle] at hdig
   have hy : y1 = F := by
    rw [← hF, hdig]
    exact pad_of hlen1 (by omega)
   cbv
   refine retK1W (.le (ps' := ⟨[(6, .int .u32 (fun _ => (D : Int)))], kx pre F post⟩) ?_ ?_ rfl) rfl (leS_refl _) rfl rfl rfl rfl
   ·cbv
    refine ⟨leS_int ?_, trivial⟩
    rw [hdig]
    show nx .u32 (q : Int) = (q : Int)
    rw [nx_u32]; omega
   ·cbv
    refine ⟨elsEq_of ?_, trivial⟩
    rw [← hy]
    exact hset
  ·have hb1 : b' = 1 := by (try dsimp only [ncast] at *); rw [hZ, hTB] at h8; omega
   subst hb1
   rw [Nat.mul_one] at hval1
   have hgt : ¬ q * val v ≤ val x := by omega
   rw [if_neg hgt] at hdig
   have hq1 : 0 < q := by
    rcases Nat.eq_zero_or_pos q with e | e
    ·rw [e] at hgt; simp at hgt
    ·exact e
   cbv
   refine loop_n (σ := Nat × Nat × List UInt32) (fun s => ⟨[(0, .osl 1000000 1 (fun _ => pre.length) (fun _ => i + 1)), (1, nat v), (2, .int .u64 (fun _ => (q : Int))), (7, .int .u64 (fun _ => (s.2.1 : Int))), (70, nat v), (71, .int .i64 (fun _ => (i : Int))), (72, .int .i64 (fun _ => (s.1 : Int)))], kx pre s.2.2 post⟩)
    (fun s => s.1 ≤ i ∧ s.2.1 < 2 ∧ s.2.2.length = i + 1 ∧ s.2.2.drop s.1 = y1.drop s.1 ∧ val (s.2.2.take s.1) + B ^ s.1 * s.2.1 = val (y1.take s.1) + val (v.take s.1)) (fun s => i - s.1)
    (0, 0, y1) ⟨om, by show (0 : Nat) < 2; omega, hlen1, rfl, by simp [val]⟩ (.le ?_ ?_ rfl) ?_
   ·cbv
    exact ⟨leS_refl _, leS_refl _, leS_refl _, leS_refl _, leS_refl _, leS_int (by rw [lm_length, hv]), leS_refl _, trivial⟩
   ·cbv
    exact ⟨elsEq_of hset, trivial⟩
   intro s hs
   obtain ⟨k1, k2, k3, k4, k5⟩ := hs
   generalize s.1 = m at *
   generalize s.2.1 = e at *
   generalize s.2.2 = t at *
   have htx : t.getD m 0 = y1.getD m 0 := by
    have := congrArg (fun l => l.getD 0 0) k4
    simpa using this
   cbv
   refine cut_dec (fun k6 => ?_) (fun k6 => ?_)
   ·have hin : m < i := om
    have hd := u32_lt (v.getD m 0)
    have ht := u32_lt (y1.getD m 0)
    have hS : nx .u64 ((e : Int) + nx .u64 (nx .u64 (((t.getD m 0).toNat : Nat) : Int) + nx .u64 (((v.getD m 0).toNat : Nat) : Int))) = ((e + ((y1.getD m 0).toNat + (v.getD m 0).toNat) : Nat) : Int) := by
     rw [htx]; simp only [nx_u64]; omega
    cbv
    refine idx_lm m om om ?_
    cbv
    refine ⟨rng_of om om, el_mid m om om ?_⟩
    cbv
    refine ⟨rng_of om om, el_mid m om om ?_⟩
    cbv
    refine ⟨nn_of (by omega), in64_of om om, (m + 1, (e + ((y1.getD m 0).toNat + (v.getD m 0).toNat)) / B, t.set m (UInt32.ofNat (e + ((y1.getD m 0).toNat + (v.getD m 0).toNat)))), ⟨om, ?_, by simpa using k3, ?_, ?_⟩, om, .le ?_ ?_ rfl⟩
    ·show (e + ((y1.getD m 0).toNat + (v.getD m 0).toNat)) / B < 2
     rw [Nat.div_lt_iff_lt_mul B_pos]; omega
    ·show (t.set m _).drop (m + 1) = y1.drop (m + 1)
     rw [List.drop_set_of_lt (by omega), ← List.drop_drop, ← List.drop_drop, k4]
    ·show val ((t.set m _).take (m + 1)) + B ^ (m + 1) * ((e + ((y1.getD m 0).toNat + (v.getD m 0).toNat)) / B) = val (y1.take (m + 1)) + val (v.take (m + 1))
     rw [val_set_take _ om, val_take_getD v, val_take_getD y1, u32_mod, Nat.pow_succ]
     have hdm := Nat.mod_add_div (e + ((y1.getD m 0).toNat + (v.getD m 0).toNat)) B
     generalize (e + ((y1.getD m 0).toNat + (v.getD m 0).toNat)) % B = lo at *
     generalize (e + ((y1.getD m 0).toNat + (v.getD m 0).toNat)) / B = hi at *
     generalize (v.getD m 0).toNat = d at *
     generalize (y1.getD m 0).toNat = u at *
     generalize B ^ m = P at *
     have e1 : P * lo + P * B * hi = P * e + P * u + P * d := by
      rw [Nat.mul_assoc, ← Nat.mul_add, hdm, Nat.mul_add, Nat.mul_add]; omega
     omega
    ·cbv
     refine ⟨leS_refl _, leS_refl _, leS_refl _, leS_int ?_, leS_refl _, leS_refl _, leS_int om, trivial⟩
     (try dsimp only [ncast] at *)
     rw [hS]; exact ishr32 _
    ·cbv
     have hset2 : (lm (pre ++ (t ++ post))).set (pre.length + (m : Int).toNat) [.int .u32 (nx .u32 (nx .u64 ((e : Int) + nx .u64 (nx .u64 (((t.getD m 0).toNat : Nat) : Int) + nx .u64 (((v.getD m 0).toNat : Nat) : Int)))))] = lm (pre ++ (t.set m (UInt32.ofNat (e + ((y1.getD m 0).toNat + (v.getD m 0).toNat))) ++ post)) := by
      rw [hS]; exact lm_mid_nx (by simp) (by omega)
     exact ⟨elsEq_of hset2, trivial⟩
   ·have hin : m = i := om
    subst hin
    cbv
    refine ⟨rng_of om om, el_mid m om om ?_⟩
    cbv
    refine ⟨rng_of om om, el_mid m om om ?_⟩
    have hyt := val_take_getD y1 m
    rw [List.take_of_length_le (Nat.le_of_eq hlen1)] at hyt
    rw [List.take_of_length_le (Nat.le_of_eq hv)] at k5
    have htl := val_take_lt t m
    have hR : val x + val v - q * val v < B ^ m := by omega
    have hfin := red_fin (P := B ^ m) (s := e + (y1.getD m 0).toNat) htl hR (by
     rw [Nat.mul_add]
     rw [Nat.pow_succ] at hval1
     omega)
    have ht1 := u32_lt (y1.getD m 0)
    have hset3 : (lm (pre ++ (t ++ post))).set (pre.length + (((lm v).length : Nat) : Int).toNat) [.int .u32 (nx .u32 ((((t.getD m 0).toNat : Nat) : Int) + nx .u32 (e : Int)))] = lm (pre ++ (t.set m (UInt32.ofNat 0) ++ post)) :=
     lm_mid (w := 0) (by rw [lm_length, hv]; simp) (by omega) (by rw [htx]; simp only [nx_u32]; omega) B_pos
    have hWV : val v ≤ q * val v := Nat.le_mul_of_pos_left _ hq1
    have hDv : D * val v = q * val v - val v := by
     rw [hdig, Nat.sub_mul, Nat.one_mul]
    have hF2 : t.set m (UInt32.ofNat 0) = F := by
     rw [← hF]
     refine pad_of (by simpa using k3) ?_
     have e1 := val_set_take t (n := m) (by omega) (UInt32.ofNat 0)
     rw [List.take_of_length_le (by simp; omega)] at e1
     rw [e1, hfin.2, hDv]
     simp only [u32_mod, Nat.zero_mod, Nat.mul_zero, Nat.add_zero]
     omega
    cbv
    refine retK1W (.le (ps' := ⟨[(6, .int .u32 (fun _ => (D : Int)))], kx pre F post⟩) ?_ ?_ rfl) rfl (leS_refl _) rfl rfl rfl rfl
    ·cbv
     refine ⟨leS_int ?_, trivial⟩
     rw [hdig]
     show nx .u32 (nx .u64 ((q : Int) - 1)) = ((q - 1 : Nat) : Int)
     simp only [nx_u32, nx_u64]; omega
    ·cbv
     refine ⟨elsEq_of ?_, trivial⟩
     rw [← hF2]
     exact hset3
end Go.Proofs.YtcanljninhfmhaaGreat
