/- A part of the proof: LxC. -/
import Derived.Test.YtcanljninhfmhaaGreatU39
import Derived.Test.YtcanljninhfmhaaGreatU40
set_option linter.all false
namespace Go.Proofs.YtcanljninhfmhaaGreat
open Go
set_option maxRecDepth 100000
set_option maxHeartbeats 4000000
theorem sLwDSd (raw ws at' : List UInt8) (hr : raw.length ≤ 9223372036854775807) (hl : ws.length ≤ 9223372036854775807) (ha : at'.length ≤ 9223372036854775807) : zC 5 [u8v raw, u8v ws, u8v at'] (.bool (fun _ => true)) := by
 refine sF Tryz.f5 ?_
 have ca := sAwake
 have csc : raw.length ≤ 400 → zC 14 [u8v raw] (sv (fdS raw).bounded) := fun h => pX raw (by omega)
 have bz := jK raw
 have hx := y7 raw 0
 have hok := kS raw 0
 have cscp := iJ (fdS raw).bounded bz (fun m hm => by have := ((fQ raw).pf m hm).2; omega)
 rw [dV raw] at cscp
 have hio := ins_ok raw at'
 have cins : at'.length ≤ 8 → zC 30 [rgv (fdS raw).bounded.q.r, u8v at'] (rlv ((kG at' 0 (fdY raw 0).1.r.bs).map zE)) := fun h => sR19Ins (fdY raw 0).1.r at' hx.r (by have := hx.g.n2; omega) (by omega)
 have cmem := sR21Mem (fdY raw 0).1 (fdS raw).path (fdS raw).bounded.lems (kG at' 0 (fdY raw 0).1.r.bs) hx hok ((eY raw).mono (by decide)) hio
 have hsv : sv ⟨(fdY raw 0).1.q, (fdS raw).path, (fdS raw).bounded.lems⟩ = sv (fdS raw).bounded := rfl
 rw [hsv] at cmem
 have facts : ws.length ≤ 30 → ∃ (S : A) (l : List Mult), zC 23 [sv (fdS raw).bounded, u8v ws] (mlv l) ∧ zC 15 [sv (fdS raw).bounded, mlv l] (.tup [av S, .int .i64 (fun _ => 0)]) ∧
   (oN (fdY raw 0).1 (fdS raw).path (kG at' 0 (fdY raw 0).1.r.bs) = true → ∃ (PRE VV : List R) (y : R) (z : Int), PtF raw (kG at' 0 (fdY raw 0).1.r.bs) PRE VV ∧ zC 33 [av S, rlv VV] (.tup [rv y, .int .i64 (fun _ => 0)]) ∧ zC 28 [rv y] (.int .i64 (fun _ => z)) ∧ 0 ≤ z ∧ zC 21 [sv (fdS raw).bounded, mlv l] (.bool (fun _ => false))) := fun h => by
  have C := comb_all (raw := raw) h
  have cm := sLwComb' raw ws h
  generalize kX (fdS raw).bounded.all ws [] = l at *
  have s0 := comb_sum0 C
  have fl := Scp.sum_fl' C.ok
  have c1 := sDvSum (fdS raw).bounded (mR l) bz C.sz C.len
  rw [s0] at c1
  refine ⟨_, mR l, cm, c1, fun hm => ?_⟩
  obtain ⟨hP, hL, hF⟩ := pt_facts hio hm
  obtain ⟨y, z, e1, e2, e3⟩ := pt_eval hio (sum_wf (mR l)) fl (Nat.le_refl _) (t8 hP hL s0)
  have cr := bF (fdS raw).bounded (mR l) bz C.sz C.len
  rw [oL hP hL (mR l)] at cr
  exact ⟨_, _, y, z, hF, e1, e2, e3, cr⟩
 generalize oN (fdY raw 0).1 (fdS raw).path (kG at' 0 (fdY raw 0).1.r.bs) = mb at *
 have facts' : ws.length ≤ 30 → ∃ (S : A) (l : List Mult), zC 23 [sv (fdS raw).bounded, u8v ws] (mlv l) ∧ zC 15 [sv (fdS raw).bounded, mlv l] (.tup [av S, .int .i64 (fun _ => 0)]) ∧
   (mb = true → ∃ (PRE VV : List R) (y : R) (z : Int), (∀ i, i < (fdS raw).bounded.lems.length → ∃ (m : Lem) (u : Nat) (p : R) (z : Int), (fdS raw).bounded.lems[i]? = some m ∧ m.u = (u : Int) ∧ PRE[u]? = some p ∧ zC 35 [rv p, rv m.v] (.int .i64 (fun _ => z)) ∧ (m.up = true → z ≤ 0) ∧ (m.up = false → 0 ≤ z)) ∧
    zC 32 [gv (fdS raw).bounded.q.g, rlv ((kG at' 0 (fdY raw 0).1.r.bs).map zE)] (.tup [rlv VV, .int .i64 (fun _ => 0)]) ∧ zC 34 [gv (fdS raw).bounded.q.g, rlv ((kG at' 0 (fdY raw 0).1.r.bs).map zE)] (.tup [rlv PRE, .int .i64 (fun _ => 0)]) ∧
    zC 33 [av S, rlv VV] (.tup [rv y, .int .i64 (fun _ => 0)]) ∧ zC 28 [rv y] (.int .i64 (fun _ => z)) ∧ 0 ≤ z ∧ zC 21 [sv (fdS raw).bounded, mlv l] (.bool (fun _ => false))) := fun h => by
  obtain ⟨S, l, g1, g2, g3⟩ := facts h
  refine ⟨S, l, g1, g2, fun hm => ?_⟩
  obtain ⟨PRE, VV, y, z, k1, k2, k3, k4, k5⟩ := g3 hm
  exact ⟨PRE, VV, y, z, k1.lem, k1.val, k1.pre, k2, k3, k4, k5⟩
 have hll := (fQ raw).len
 clear facts bz hx hok hio hsv
 generalize (fdS raw).bounded = Bd at *
 generalize (kG at' 0 (fdY raw 0).1.r.bs).map zE = X at *
 obtain ⟨⟨⟨n, us, os⟩, ⟨lo, hi', rows⟩, ⟨ts, c⟩⟩, path, lems⟩ := Bd
 dsimp only at facts' hll
 cbv
 refine cA ca ?_
 cbv
 refine bN rfl ?_
 cbv
 refine zQ (fun h4 => ?_) (fun h4 => ?_)
 ·cbv
  (refine rC ?_; cbv)
  exact yG rfl
 have h4' : raw.length ≤ 400 := by rw [zA] at h4; (try dsimp only [zG] at *); omega
 have csc' := csc h4'
 clear csc
 cbv
 refine zQ (fun h5 => ?_) (fun h5 => ?_)
 ·cbv
  (refine rC ?_; cbv)
  exact yG rfl
 have h5' : ws.length ≤ 30 := by rw [zA] at h5; (try dsimp only [zG] at *); omega
 obtain ⟨S, l, d0, d1, hF⟩ := facts' h5'
 clear facts'
 obtain ⟨Sts, Sc⟩ := S
 cbv
 refine zF (fun h6 => ?_) (fun h6 => ?_)
 ·cbv
  (refine rC ?_; cbv)
  exact yG rfl
 have ci := cins (by rw [zA] at h6; (try dsimp only [zG] at *); omega)
 clear cins
 cbv
 refine cA csc' ?_
 cbv
 refine cA d0 ?_
 cbv
 refine cA d1 ?_
 cbv
 refine x7 rfl ?_
 cbv
 refine cA cscp ?_
 cbv
 refine bN rfl ?_
 cbv
 refine cA ci ?_
 cbv
 refine cA cmem ?_
 cbv
 refine zT (fun e1 => ?_) (fun e1 => ?_)
 rotate_left
 ·cbv
  (refine rC ?_; cbv)
  exact yG rfl
 obtain ⟨PRE, VV, y, z, k1, k2, k3, k4, k5, k6, k7⟩ := hF e1
 clear hF
 cbv
 refine cA k2 ?_
 cbv
 refine cA k4 ?_
 cbv
 refine cA k3 ?_
 cbv
 refine z5 (σ := Nat) (fun i => ⟨[(7, .ptr 7 0), (8, mlv l), (14, .ptr 14 0), (15, .int .i64 (fun _ => 0)), (16, rlv PRE), (18, .int .i64 (fun _ => (i : Int)))],
   [(7, .box [.int .i64 (fun _ => n), alv us, alv os, rlv lo, rlv hi', alv rows, tsv ts, .bool (fun _ => c.neg), nat c.num, nat c.den, dlv path, llv lems]), (14, .box [.bool (fun _ => y.neg), nat y.num, nat y.den])]⟩)
  (fun i => i ≤ lems.length) (fun i => lems.length - i) 0 (Nat.zero_le _) (wkZ) ?_
 intro i hi
 cbv
 refine zF (fun h => ?_) (fun h => ?_)
 ·have hlt : i < lems.length := by rw [zA] at h; (try dsimp only [zG] at *); omega
  obtain ⟨m, u, p, z', g1, g2, g3, g4, g5, g6⟩ := k1 i hlt
  clear k1
  obtain ⟨mu, mup, mv', mpf⟩ := m
  dsimp only at g2 g4 g5 g6
  cbv
  refine yV g1 v7 uM ?_
  cbv
  refine zO 8 (by cbv) ?_
  cbv
  refine v8 g3 g2 xW wQ ?_
  cbv
  refine dA g4 ?_
  cbv
  refine z4 (fun e2 => ?_) (fun e2 => ?_)
  ·have hz := g5 e2
   cbv
   refine zZ om ?_
   cbv
   refine rS e2 ?_
   cbv
   exact ⟨zH om om, i + 1, (by show i + 1 ≤ lems.length; omega), (by show lems.length - (i + 1) < lems.length - i; omega), wkZ⟩
  ·have hz := g6 e2
   cbv
   refine br_ff e2 ?_
   cbv
   refine z6 om ?_
   cbv
   exact ⟨zH om om, i + 1, (by show i + 1 ≤ lems.length; omega), (by show lems.length - (i + 1) < lems.length - i; omega), wkZ⟩
 clear k1
 cbv
 refine x7 rfl ?_
 cbv
 refine cA k5 ?_
 cbv
 refine x7 om ?_
 cbv
 refine cA k7 ?_
 cbv
 (refine rC ?_; cbv)
 exact wI rfl
end Go.Proofs.YtcanljninhfmhaaGreat
