/- A part of the proof: LxE. -/
import Derived.Test.YtcanljninhfmhaaGreatU37
import Derived.Test.YtcanljninhfmhaaGreatU44
set_option linter.all false
namespace Go.Proofs.YtcanljninhfmhaaGreat
open Go
set_option maxRecDepth 100000
set_option maxHeartbeats 4000000
theorem nx_i8 {z : Int} (h1 : -128 ≤ z) (h2 : z ≤ 127) : nx .i64 z = z := by
 unfold nx
 simp [IntKind.wrap, IntKind.signed, IntKind.bits]
 omega
theorem divZ4_nn (z : Int) : 0 ≤ wU z 4 ↔ 0 ≤ z := by
 unfold wU
 rw [show (4 : Int) = ((4 : Nat) : Int) from rfl, Rat.divInt_ofNat, Rat.mkRat_eq_div, Rat.div_def]
 have h4 : (0 : Rat) < (((4 : Nat) : Rat))⁻¹ := Rat.inv_pos.2 (by decide +kernel)
 constructor
 ·intro h
  by_cases hz : 0 ≤ z
  ·exact hz
  ·have : (z : Rat) * (((4 : Nat) : Rat))⁻¹ < 0 := by
    have hz' : (z : Rat) < 0 := Rat.intCast_neg_iff.2 (by omega)
    have := Rat.mul_lt_mul_of_pos_right hz' h4
    rw [Rat.zero_mul] at this
    exact this
   grind
 ·intro h
  exact Rat.mul_nonneg (Rat.intCast_nonneg.2 h) (Rat.le_of_lt h4)
theorem divZ4_np (z : Int) : wU z 4 ≤ 0 ↔ z ≤ 0 := by
 unfold wU
 rw [show (4 : Int) = ((4 : Nat) : Int) from rfl, Rat.divInt_ofNat, Rat.mkRat_eq_div, Rat.div_def]
 have h4 : (0 : Rat) < (((4 : Nat) : Rat))⁻¹ := Rat.inv_pos.2 (by decide +kernel)
 constructor
 ·intro h
  by_cases hz : z ≤ 0
  ·exact hz
  ·have : 0 < (z : Rat) * (((4 : Nat) : Rat))⁻¹ := Rat.mul_pos (Rat.intCast_pos.2 (by omega)) h4
   grind
 ·intro h
  have hz' : (z : Rat) ≤ 0 := by
   by_cases e : z = 0
   ·rw [e]; decide +kernel
   ·exact Rat.le_of_lt (Rat.intCast_neg_iff.2 (by omega))
  have := Rat.mul_le_mul_of_nonneg_right hz' (Rat.le_of_lt h4)
  rw [Rat.zero_mul] at this
  exact this
theorem divZ4_fits {z : Int} (h1 : -128 ≤ z) (h2 : z ≤ 127) : Fits 1 (wU z 4) := by
 have : ∀ k : Fin 256, (wU ((k.val : Int) - 128) 4).num.natAbs < B ∧ (wU ((k.val : Int) - 128) 4).den < B := by decide +kernel
 obtain ⟨g1, g2⟩ := this ⟨(z + 128).toNat, by omega⟩
 have e : (((z + 128).toNat : Nat) : Int) - 128 = z := by omega
 simp only [e] at g1 g2
 exact ⟨by simpa using g1, by simpa using g2⟩
theorem sLwDLm (raw : List UInt8) (ch : Int) (hr : raw.length ≤ 9223372036854775807) (hch : -128 ≤ ch ∧ ch ≤ 127) : zC 7 [u8v raw, .int .i8 (fun _ => ch)] (.bool (fun _ => true)) := by
 refine sF Tryz.f7 ?_
 have ca := sAwake
 have csc : raw.length ≤ 400 → zC 14 [u8v raw] (sv (fdS raw).bounded) := fun h => pX raw (by omega)
 have bz := jK raw
 have bk := fQ raw
 have cscp := iJ (fdS raw).bounded bz (fun m hm => by have := (bk.pf m hm).2; omega)
 rw [dV raw] at cscp
 obtain ⟨h1, h2⟩ := hch
 have hnx := nx_i8 h1 h2
 have cfr := s43 ch 4 (by omega) (by omega) (by decide) (by decide) (by decide)
 have dft := divZ4_fits h1 h2
 have facts : ∀ i, i < (fdS raw).bounded.lems.length → ∃ (m : Lem) (V' : R) (okb : Bool), (fdS raw).bounded.lems[i]? = some m ∧ zC 37 [rv m.v, rv (zE (wU ch 4))] (rv V') ∧
   zC 38 [sv ⟨(fdS raw).bounded.q, (fdS raw).bounded.path, (fdS raw).bounded.lems.take i⟩, lv' ⟨m.u, m.up, V', m.pf⟩] (.bool (fun _ => okb)) ∧ zC 38 [sv ⟨(fdS raw).bounded.q, (fdS raw).bounded.path, (fdS raw).bounded.lems.take i⟩, lv' m] (.bool (fun _ => true)) ∧
   (m.up = true → okb = decide (0 ≤ ch)) ∧ (m.up = false → okb = decide (ch ≤ 0)) := fun i hi => by
  obtain ⟨m, hm⟩ := zX hi
  have hmem := List.mem_of_getElem? hm
  have hps := Scp.pre_sz bz i
  have hmv := bz.lems.sz m hmem
  obtain ⟨k, _, hmf⟩ := bk.lb m hmem
  have hkk := KK_le k
  have c1 := s44 m.v (zE (wU ch 4)) (hmv.mono (by decide)) ((zY dft).mono (by decide))
  rw [zW] at c1
  have hpl := (bk.pf m hmem).2
  have hz' : (zE (m.v.q + wU ch 4)).sz (2^20) := (zY (wX hmf dft)).mono (Nat.le_trans (m := 679660) (by omega) (by decide))
  have c2 := cC ((fdS raw).bounded.pre i) (rU m (wU ch 4)) hps hz' (bz.lems.pf m hmem) (by show m.pf.length ≤ 100; omega)
  rw [oR raw _ hm] at c2
  have c3 := cC ((fdS raw).bounded.pre i) m hps hmv (bz.lems.pf m hmem) (by omega)
  rw [bounded_lem raw hm] at c3
  refine ⟨m, _, l7 m (wU ch 4), hm, c1, c2, c3, fun h => ?_, fun h => ?_⟩
  ·unfold l7
   rw [if_pos h]
   exact decide_eq_decide.2 (divZ4_nn ch)
  ·unfold l7
   rw [if_neg (by rw [h]; decide)]
   exact decide_eq_decide.2 (divZ4_np ch)
 have hll := bk.len
 clear bz bk dft
 generalize (fdS raw).bounded = Bd at *
 generalize zE (wU ch 4) = D at *
 obtain ⟨⟨⟨n, us, os⟩, ⟨lo, hi', rows⟩, ⟨ts, c⟩⟩, path, lems⟩ := Bd
 dsimp only at facts hll
 cbv
 refine cA ca ?_
 cbv
 refine bN rfl ?_
 cbv
 refine zF (fun h4 => ?_) (fun h4 => ?_)
 ·cbv
  (refine rC ?_; cbv)
  exact yG rfl
 have h4' : raw.length ≤ 400 := by rw [zA] at h4; (try dsimp only [zG] at *); omega
 have csc' := csc h4'
 clear csc
 cbv
 refine cA csc' ?_
 cbv
 refine cA cscp ?_
 cbv
 refine bN rfl ?_
 cbv
 refine yQ rfl (by exact ⟨zD hnx, lR, trivial⟩) cfr rfl ?_
 cbv
 refine z5 (σ := Nat) (fun i => ⟨[(1, .int .i8 (fun _ => ch)), (5, .ptr 5 0), (6, .ptr 6 0), (8, .int .i64 (fun _ => (i : Int)))],
   [(5, .box [.int .i64 (fun _ => n), alv us, alv os, rlv lo, rlv hi', alv rows, tsv ts, .bool (fun _ => c.neg), nat c.num, nat c.den, dlv path, llv lems]), (6, .box [.bool (fun _ => D.neg), nat D.num, nat D.den])]⟩)
  (fun i => i ≤ lems.length) (fun i => lems.length - i) 0 (Nat.zero_le _) (wkZ) ?_
 intro i hi
 cbv
 refine zF (fun h => ?_) (fun h => ?_)
 ·have hlt : i < lems.length := by rw [zA] at h; (try dsimp only [zG] at *); omega
  obtain ⟨m, V', okb, g1, c1, c2, c3, o1, o2⟩ := facts i hlt
  clear facts
  obtain ⟨mu, mup, mv', mpf⟩ := m
  dsimp only at c1 c2 o1 o2
  have hsl : ((enc lc lems).take i).drop 0 = enc lc (lems.take i) := by rw [List.drop_zero]; simp [enc, List.map_take]
  cbv
  refine uW 10 (by cbv) (by cbv) ?_
  cbv
  refine ⟨wZ om om (by rw [zA]; (try dsimp only [zG] at *); omega), wS uM _, ?_⟩
  cbv
  refine yV g1 v7 uM ?_
  cbv
  refine cA c1 ?_
  cbv
  refine zT (fun e2 => ?_) (fun e2 => ?_)
  ·have ho := o1 e2
   cbv
   refine zO 15 (by cbv) ?_
   cbv
   refine y6 (by exact ⟨⟨lR, lR, lR, lR, lR, lR, lR, lR, lR, lR, lR, zP hsl, trivial⟩, okA, trivial⟩) c2 rfl ?_
   cbv
   refine x7 (by rw [ho]) ?_
   cbv
   refine yV g1 v7 uM ?_
   cbv
   refine y6 (by exact ⟨⟨lR, lR, lR, lR, lR, lR, lR, lR, lR, lR, lR, zP hsl, trivial⟩, okA, trivial⟩) c3 rfl ?_
   cbv
   refine bN rfl ?_
   cbv
   exact ⟨zH om om, i + 1, (by show i + 1 ≤ lems.length; omega), (by show lems.length - (i + 1) < lems.length - i; omega), wkZ⟩
  ·have ho := o2 e2
   cbv
   refine zO 15 (by cbv) ?_
   cbv
   refine y6 (by exact ⟨⟨lR, lR, lR, lR, lR, lR, lR, lR, lR, lR, lR, zP hsl, trivial⟩, okA, trivial⟩) c2 rfl ?_
   cbv
   refine x7 (by rw [ho]) ?_
   cbv
   refine yV g1 v7 uM ?_
   cbv
   refine y6 (by exact ⟨⟨lR, lR, lR, lR, lR, lR, lR, lR, lR, lR, lR, zP hsl, trivial⟩, okA, trivial⟩) c3 rfl ?_
   cbv
   refine bN rfl ?_
   cbv
   exact ⟨zH om om, i + 1, (by show i + 1 ≤ lems.length; omega), (by show lems.length - (i + 1) < lems.length - i; omega), wkZ⟩
 cbv
 (refine rC ?_; cbv)
 exact yG rfl
end Go.Proofs.YtcanljninhfmhaaGreat
