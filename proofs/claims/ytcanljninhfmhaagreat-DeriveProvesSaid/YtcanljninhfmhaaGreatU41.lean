/- A part of the proof: LxB. -/
import Derived.Test.YtcanljninhfmhaaGreatU39
set_option linter.all false
namespace Go.Proofs.YtcanljninhfmhaaGreat
open Go
set_option maxRecDepth 100000
set_option maxHeartbeats 4000000
theorem sLwDPr (raw ws : List UInt8) (add : UInt8) (hr : raw.length ≤ 9223372036854775807) (hl : ws.length ≤ 9223372036854775807) : zC 4 [u8v raw, u8v ws, .int .u8 (fun _ => (add.toNat : Int))] (.bool (fun _ => true)) := by
 refine sF Tryz.f4 ?_
 have ca := sAwake
 have csc : raw.length ≤ 400 → zC 14 [u8v raw] (sv (fdS raw).bounded) := fun h => pX raw (by omega)
 have ccm := fun h : ws.length ≤ 30 => sLwComb' raw ws h
 have bz := jK raw
 have hna := nx_u8 add
 have hadd := add.toNat_lt
 obtain ⟨q, hq⟩ : ∃ q : Rat, ((1 + (add.toNat : Int) : Int) : Rat) = q := ⟨_, rfl⟩
 have hq1 : 0 < q := by
  rw [← hq]
  exact Rat.intCast_pos.2 (by omega)
 have hqf : Fits 3 q := by
  rw [← hq]
  exact ⟨by rw [Rat.num_intCast]; exact Nat.lt_of_le_of_lt (by omega : (1 + (add.toNat : Int)).natAbs ≤ 256) (by decide), by rw [Rat.den_intCast]; decide⟩
 have cof := s32 (1 + (add.toNat : Int)) (by omega) (by omega)
 rw [hq] at cof
 have cnm := sFNum q
 have facts : ws.length ≤ 30 → ∃ (S G' L' : A) (l : List Mult) (sg : Int) (b : Bool), zC 23 [sv (fdS raw).bounded, u8v ws] (mlv l) ∧ zC 15 [sv (fdS raw).bounded, mlv l] (.tup [av S, .int .i64 (fun _ => 0)]) ∧
   zC 26 [av S, av (fA (F.num q))] (av G') ∧ zC 27 [av S, av (fA (F.num q))] (av L') ∧
   zC 19 [sv (fdS raw).bounded, av S, mlv l] (.bool (fun _ => true)) ∧ zC 19 [sv (fdS raw).bounded, av G', mlv l] (.bool (fun _ => true)) ∧ zC 19 [sv (fdS raw).bounded, av L', mlv l] (.bool (fun _ => false)) ∧
   zC 16 [mlv l] (mlv l) ∧ zC 21 [sv (fdS raw).bounded, mlv l] (.bool (fun _ => b)) ∧ zC 28 [rv S.c] (.int .i64 (fun _ => sg)) ∧ b = (decide (S.ts.length = 0) && decide (sg < 0)) := fun h => by
  have C := comb_all (raw := raw) h
  have hx := y7 raw 0
  have hok := kS raw 0
  generalize kX (fdS raw).bounded.all ws [] = l at *
  have cm := ccm h
  have s0 := comb_sum0 C
  have fl := Scp.sum_fl' C.ok
  have hcn := Scp.sum_can (fdS raw).bounded (mR l)
  have c1 := sDvSum (fdS raw).bounded (mR l) bz C.sz C.len
  rw [s0] at c1
  have nfl : (F.num q).fl 3 0 := wR hqf
  have c2 := sFAdd hcn (bQ q) fl nfl (by decide) (by decide) (by decide) (by decide)
  have c3 := iI hcn (bQ q) fl nfl (by decide) (by decide) (by decide) (by decide)
  have z0 := fA_sz fl (by decide)
  have z1 := fA_sz (fl.add nfl) (by decide)
  have z2 := fA_sz (fl.sub nfl) (by decide)
  have p0 := dZ (fdS raw).bounded (fA ((fdS raw).bounded.sum (mR l)).2) (mR l) bz (z0.mono (by decide)) C.sz C.len
  have p1 := dZ (fdS raw).bounded (fA (((fdS raw).bounded.sum (mR l)).2.add (F.num q))) (mR l) bz (z1.mono (by decide)) C.sz C.len
  have p2 := dZ (fdS raw).bounded (fA (((fdS raw).bounded.sum (mR l)).2.sub (F.num q))) (mR l) bz (z2.mono (by decide)) C.sz C.len
  have b0 := nK (bnd_q raw) hx hok C.rs C.av (c := 0) (by decide)
  have e0 : ((fdS raw).bounded.sum (mR l)).2.add (F.num 0) = ((fdS raw).bounded.sum (mR l)).2 := add_zero hcn
  rw [e0] at b0
  have b1 := nK (bnd_q raw) hx hok C.rs C.av (c := q) (Rat.le_of_lt hq1)
  have b2 := comb_less C.rs C.av hq1
  rw [b0] at p0
  rw [b1] at p1
  rw [b2] at p2
  have cr := bF (fdS raw).bounded (mR l) bz C.sz C.len
  have hb := (tV C.rs C.av).2
  have cs := s35 (zE ((fdS raw).bounded.sum (mR l)).2.c) (Nat.lt_of_le_of_lt (zY fl.c).n (by decide))
  rw [zW] at cs
  exact ⟨_, _, _, mR l, _, _, cm, c1, c2, c3, p0, p1, p2, sCopied (mR l) (by have := C.len; omega), cr, cs, by rw [hb]; show _ = (decide ((tR _).length = 0) && _); rw [xZ]⟩
 clear ccm bz hq1 hqf
 generalize (fdS raw).bounded = B at *
 obtain ⟨⟨⟨n, us, os⟩, ⟨lo, hi', rows⟩, ⟨ts, c⟩⟩, path, lems⟩ := B
 have cnm' : zC 24 [rv (zE q)] (av (fA (F.num q))) := cnm
 clear cnm hq
 generalize zE q = RQ at *
 generalize fA (F.num q) = NQ at *
 cbv
 refine cA ca ?_
 cbv
 refine bN rfl ?_
 cbv
 refine zQ (fun h4 => ?_) (fun h4 => ?_)
 ·cbv
  (refine rC ?_; cbv)
  exact yG rfl
 have h4' : raw.length ≤ 400 := by rw [zA] at h4; (try dsimp only [zG] at *); omega
 have csc' := csc h4'
 clear csc
 cbv
 refine zF (fun h5 => ?_) (fun h5 => ?_)
 ·cbv
  (refine rC ?_; cbv)
  exact yG rfl
 have h5' : ws.length ≤ 30 := by rw [zA] at h5; (try dsimp only [zG] at *); omega
 obtain ⟨S, G', L', l, sg, b, d0, d1, d2, d3, d4, d5, d6, d7, d8, d9, hb⟩ := facts h5'
 clear facts
 obtain ⟨Sts, Sc⟩ := S
 dsimp only at d9 hb
 cbv
 refine cA csc' ?_
 cbv
 refine cA d0 ?_
 cbv
 refine cA d1 ?_
 cbv
 refine xO rfl ?_
 cbv
 refine ⟨zH (by rw [hna]; (try dsimp only [zG] at *); omega) (by rw [hna]; (try dsimp only [zG] at *); omega), ?_⟩
 cbv
 refine yQ rfl (by exact ⟨zD (by show (1 : Int) + nx .i64 (add.toNat : Int) = _; rw [hna]), trivial⟩) cof rfl ?_
 cbv
 refine cA cnm' ?_
 cbv
 refine uW 8 (by cbv) (by cbv) ?_
 cbv
 refine dA d2 ?_
 cbv
 refine dA d3 ?_
 cbv
 refine zO 34 (by cbv) ?_
 cbv
 refine dA d4 ?_
 cbv
 refine rS rfl ?_
 cbv
 refine dA d7 ?_
 cbv
 refine dA d5 ?_
 cbv
 refine rS rfl ?_
 cbv
 refine dA d6 ?_
 cbv
 refine br_ff rfl ?_
 cbv
 refine dA d8 ?_
 cbv
 refine zQ (fun e1 => ?_) (fun e1 => ?_)
 ·have e1' : Sts.length = 0 := by rw [zA] at e1; (try dsimp only [zG] at *); omega
  rw [decide_eq_true e1', Bool.true_and] at hb
  cbv
  refine dA d9 ?_
  cbv
  (refine rC ?_; cbv)
  exact zV (by rw [hb]; simp)
 ·have e1' : ¬ Sts.length = 0 := by rw [zA] at e1; (try dsimp only [zG] at *); omega
  rw [decide_eq_false e1', Bool.false_and] at hb
  cbv
  (refine rC ?_; cbv)
  exact zV (by rw [hb]; simp)
end Go.Proofs.YtcanljninhfmhaaGreat
