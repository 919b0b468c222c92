/- A part of the proof: RtB. -/
import Derived.Test.YtcanljninhfmhaaGreatS39
import Derived.Test.YtcanljninhfmhaaGreatS35
set_option linter.all false
namespace Go.Proofs.YtcanljninhfmhaaGreat
open Go
set_option linter.unusedVariables false
set_option maxRecDepth 100000
set_option maxHeartbeats 4000000
theorem var_cn (v : Int) : Cn (F.var v).ts := Cn.nil.cons (by simp) (by show (1 : Rat) ≠ 0; decide)
theorem sub_cn {f g : F} (hf : Cn f.ts) (hg : Cn g.ts) : Cn (f.sub g).ts := hf.mrg hg
theorem scale_cn {f : F} {q : Rat} (hf : Cn f.ts) : Cn (f.scale q).ts := Cn.nil.mrg hf
theorem hfR21Un : Pg.funcs[106]? = some Tryz.f106 := by rw [Pg_eq]; rfl
theorem sR21Un (s : Scp) (r : Row) (hs : s.sz (2^20)) (hc : s.q.can) (hn1 : 1 ≤ s.q.g.n) (hn2 : s.q.g.n ≤ 256) (hul : s.q.g.us.length ≤ 1024) (hpl : ∀ a, a ∈ s.q.g.us → a.ts.length ≤ 2000) :
  SoundS 106 [sv s, rwv r] (.tup [fv ((s.fUn r).getD F.zero), .bool (fun _ => (s.fUn r).isSome)]) := by
 refine sound_fn hfR21Un rfl rfl rfl rfl rfl ?_
 have hno : ¬ (0 ≤ r.i ∧ r.i < s.q.g.us.length) → s.fUn r = none := fun h => if_neg h
 have hyes : ∀ p, 0 ≤ r.i → r.i < s.q.g.us.length → s.q.g.us[r.i.toNat]? = some p → s.fUn r = unF s r p.f (F.var (s.q.g.n + r.i)) (s.lem r.lo r.i false) (s.lem r.hi r.i true) := fun p h1 h2 h3 => by
  unfold Scp.fUn
  rw [if_pos ⟨h1, h2⟩, h3]
 obtain ⟨o, ho⟩ : ∃ o, o = s.fUn r := ⟨_, rfl⟩
 rw [← ho] at hno hyes ⊢
 obtain ⟨W, hW⟩ : ∃ W, W = fA (o.getD F.zero) := ⟨_, rfl⟩
 obtain ⟨b, hb⟩ : ∃ b, b = o.isSome := ⟨_, rfl⟩
 rw [show fv (o.getD F.zero) = av W by rw [hW], ← hb]
 have fin2 : ∀ f, o = some f → W = fA f ∧ b = true := fun f h => by rw [h] at hW hb; exact ⟨hW, hb⟩
 have fin1 : o = none → W = ⟨[], R0⟩ ∧ b = false := fun h => by
  rw [h] at hW hb
  exact ⟨hW.trans fA_zero, hb⟩
 clear hW hb ho
 obtain ⟨wt, w1, w2, w3⟩ := W
 have fin3 : o = none → wt = [] ∧ w1 = false ∧ w2 = [] ∧ w3 = [] ∧ b = false := fun h => by
  obtain ⟨h1, h2⟩ := fin1 h
  simp only [A.mk.injEq, R.mk.injEq] at h1
  exact ⟨h1.1, h1.2.1, h1.2.2.1, h1.2.2.2, h2⟩
 clear fin1
 by_cases hin : 0 ≤ r.i ∧ r.i < s.q.g.us.length
 rotate_left
 ·have hnn := hno hin
  have hin' : r.i < 0 ∨ (0 ≤ r.i ∧ (s.q.g.us.length : Int) ≤ r.i) := by omega
  obtain ⟨⟨⟨gn, us, os⟩, ⟨lo, hi, rows⟩, ⟨ts, c1, c2, c3⟩⟩, path, lems⟩ := s
  obtain ⟨k, i, rlo, rhi⟩ := r
  simp only at hin'
  clear hno hyes fin2 hin
  obtain ⟨g0, g1, g2, g3, g4⟩ := fin3 hnn
  subst g0 g1 g2 g3 g4
  cbv
  refine br_dec (fun e1 => ?_) (fun e1 => ?_)
  ·cbv
   (refine retC rfl ?_; cbv)
   exact ⟨⟨leS_nil rfl, leS_ff rfl, leS_nil rfl, leS_nil rfl, trivial⟩, leS_ff rfl, trivial⟩
  ·cbv
   refine cut_yes (by dsimp only at e1 ⊢; rw [enc_len]; (try dsimp only [ncast] at *); omega) ?_
   cbv
   (refine retC rfl ?_; cbv)
   exact ⟨⟨leS_nil rfl, leS_ff rfl, leS_nil rfl, leS_nil rfl, trivial⟩, leS_ff rfl, trivial⟩
 obtain ⟨hi0, hi1⟩ := hin
 obtain ⟨p, hp⟩ : ∃ p, s.q.g.us[r.i.toNat]? = some p := get_some (by omega)
 have ho := hyes p hi0 hi1 hp
 clear hno hyes
 have hpm := List.mem_of_getElem? hp
 have hps := hs.q.g.us.sz p hpm
 obtain ⟨hpA, hpc⟩ := hc.us p hpm
 have fP : p.f.fl (2^20) 2000 := hps.fl (by decide) (hpl p hpm)
 have cv := sRgVar (s.q.g.n + r.i)
 have cl := sR21Lem s r.lo r.i false (hs.lems.mono (by decide))
 have cu := sR21Lem s r.hi r.i true (hs.lems.mono (by decide))
 have fl := lem_sz hs.lems (by decide) r.lo r.i false
 have fu := lem_sz hs.lems (by decide) r.hi r.i true
 have cd1 := sR21Dec s 1 r.i (hs.path.mono (by decide))
 have cd2 := sR21Dec s 2 r.i (hs.path.mono (by decide))
 unfold unF onB offB at ho
 generalize s.lem r.lo r.i false = l at *
 generalize s.lem r.hi r.i true = u at *
 generalize s.dcd 1 r.i = dv1 at *
 generalize s.dcd 2 r.i = dv2 at *
 have fV := var_fl (s.q.g.n + r.i)
 have cV := var_cn (s.q.g.n + r.i)
 have co := s32 (-1) (by decide) (by decide)
 have csl := s35 (ratR (l.getD 0)) (by have := (ratR_sz fl).n; omega)
 have csu := s35 (ratR (u.getD 0)) (by have := (ratR_sz fu).n; omega)
 rw [q_ratR] at csl csu
 have d6 := sFSub cV hpc fV fP (by decide) (by decide) (by decide) (by decide)
 have d8 := sFSub hpc cV fP fV (by decide) (by decide) (by decide) (by decide)
 have d9 := sFScale (q := ((-1 : Int) : Rat)) fP (fits_neg1) (by decide) (by decide) (m := 1) (by decide)
 have d10 := sFScale (q := ((-1 : Int) : Rat)) fV (fits_neg1) (by decide) (by decide) (m := 1) (by decide)
 have nL := sRgNum (ratR (l.getD 0))
 have nU := sRgNum (ratR (u.getD 0))
 have d11 := sFSub hpc (Cn.nil : Cn (F.num (l.getD 0)).ts) fP (num_fl fl) (by decide) (by decide) (by decide) (by decide)
 have d12 := sFSub (Cn.nil : Cn (F.num (u.getD 0)).ts) hpc (num_fl fu) fP (by decide) (by decide) (by decide) (by decide)
 have d13a := sFScale ((fP.sub (num_fl fl))) fu (by decide) (by decide) (by decide)
 have d13d := s93 (ratR (u.getD 0)) (ratR (l.getD 0)) ((ratR_sz fu).mono (by decide)) ((ratR_sz fl).mono (by decide))
 rw [q_ratR, q_ratR] at d13d
 have d13b := sFScale fV (fits_sub fu fl) (by decide) (by decide) (by decide)
 have d13 := sFSub (scale_cn (sub_cn hpc (Cn.nil : Cn (F.num (l.getD 0)).ts))) (scale_cn (q := u.getD 0 - l.getD 0) cV) ((fP.sub (num_fl fl)).scale fu) (fV.scale (fits_sub fu fl)) (by decide) (by decide) (by decide) (by decide)
 rw [show (((-1 : Int) : Rat)) = (-1 : Rat) by rfl] at d9 d10 co
 have e7 : p.f.add F.zero = p.f := add_zero hpc
 rw [e7] at ho
 have cv' : fv (F.var (s.q.g.n + r.i)) = av (fA (F.var (s.q.g.n + r.i))) := rfl
 generalize F.var (s.q.g.n + r.i) = v at *
 rw [cv'] at cv
 clear cv'
 generalize l.isSome = low at *
 generalize u.isSome = top at *
 generalize l.getD 0 = lq at *
 generalize u.getD 0 = uq at *
 obtain ⟨V1, hV1⟩ : ∃ X, fA v = X := ⟨_, rfl⟩
 obtain ⟨L, hL⟩ : ∃ X, ratR lq = X := ⟨_, rfl⟩
 obtain ⟨U, hU⟩ : ∃ X, ratR uq = X := ⟨_, rfl⟩
 obtain ⟨M1, hM1⟩ : ∃ X, ratR (-1 : Rat) = X := ⟨_, rfl⟩
 obtain ⟨X6, hX6⟩ : ∃ X, fA (v.sub p.f) = X := ⟨_, rfl⟩
 obtain ⟨X8, hX8⟩ : ∃ X, fA (p.f.sub v) = X := ⟨_, rfl⟩
 obtain ⟨X9, hX9⟩ : ∃ X, fA (p.f.scale (-1)) = X := ⟨_, rfl⟩
 obtain ⟨X10, hX10⟩ : ∃ X, fA (v.scale (-1)) = X := ⟨_, rfl⟩
 obtain ⟨X11, hX11⟩ : ∃ X, fA (p.f.sub (F.num lq)) = X := ⟨_, rfl⟩
 obtain ⟨X12, hX12⟩ : ∃ X, fA ((F.num uq).sub p.f) = X := ⟨_, rfl⟩
 obtain ⟨Xa, hXa⟩ : ∃ X, fA ((p.f.sub (F.num lq)).scale uq) = X := ⟨_, rfl⟩
 obtain ⟨Xb, hXb⟩ : ∃ X, fA (v.scale (uq - lq)) = X := ⟨_, rfl⟩
 obtain ⟨X13, hX13⟩ : ∃ X, fA (((p.f.sub (F.num lq)).scale uq).sub (v.scale (uq - lq))) = X := ⟨_, rfl⟩
 obtain ⟨Dq, hDq⟩ : ∃ X, ratR (uq - lq) = X := ⟨_, rfl⟩
 have d6' : SoundS 27 [av V1, av p] (av X6) := by subst hV1 hL hU hM1 hX6 hX8 hX9 hX10 hX11 hX12 hXa hXb hX13 hDq; dsimp only [fv] at d6; rw [hpA] at d6; exact d6
 have d8' : SoundS 27 [av p, av V1] (av X8) := by subst hV1 hL hU hM1 hX6 hX8 hX9 hX10 hX11 hX12 hXa hXb hX13 hDq; dsimp only [fv] at d8; rw [hpA] at d8; exact d8
 have d9' : SoundS 47 [av p, rv M1] (av X9) := by subst hV1 hL hU hM1 hX6 hX8 hX9 hX10 hX11 hX12 hXa hXb hX13 hDq; dsimp only [fv] at d9; rw [hpA] at d9; exact d9
 have d10' : SoundS 47 [av V1, rv M1] (av X10) := by subst hV1 hL hU hM1 hX6 hX8 hX9 hX10 hX11 hX12 hXa hXb hX13 hDq; exact d10
 have d11' : SoundS 27 [av p, av ⟨[], L⟩] (av X11) := by subst hV1 hL hU hM1 hX6 hX8 hX9 hX10 hX11 hX12 hXa hXb hX13 hDq; dsimp only [fv] at d11; rw [hpA] at d11; exact d11
 have d12' : SoundS 27 [av ⟨[], U⟩, av p] (av X12) := by subst hV1 hL hU hM1 hX6 hX8 hX9 hX10 hX11 hX12 hXa hXb hX13 hDq; dsimp only [fv] at d12; rw [hpA] at d12; exact d12
 have d13a' : SoundS 47 [av X11, rv U] (av Xa) := by subst hV1 hL hU hM1 hX6 hX8 hX9 hX10 hX11 hX12 hXa hXb hX13 hDq; exact d13a
 have d13d' : SoundS 69 [rv U, rv L] (rv Dq) := by subst hV1 hL hU hM1 hX6 hX8 hX9 hX10 hX11 hX12 hXa hXb hX13 hDq; exact d13d
 have d13b' : SoundS 47 [av V1, rv Dq] (av Xb) := by subst hV1 hL hU hM1 hX6 hX8 hX9 hX10 hX11 hX12 hXa hXb hX13 hDq; exact d13b
 have d13' : SoundS 27 [av Xa, av Xb] (av X13) := by subst hV1 hL hU hM1 hX6 hX8 hX9 hX10 hX11 hX12 hXa hXb hX13 hDq; exact d13
 rw [hV1] at cv
 rw [hL] at cl csl nL
 rw [hU] at cu csu nU
 rw [hM1] at co
 clear d6 d8 d9 d10 d11 d12 d13a d13d d13b d13 hs hc hpl fP fV fl fu hps
 obtain ⟨⟨⟨gn, us, os⟩, ⟨lo, hi, rows⟩, ⟨ts, c1, c2, c3⟩⟩, path, lems⟩ := s
 obtain ⟨k, i, rlo, rhi⟩ := r
 simp only at hn1 hn2 hul hi0 hi1 hp ho
 obtain ⟨ip, hip⟩ : ∃ j : Nat, i = (j : Int) := ⟨i.toNat, by omega⟩
 subst hip
 rw [Int.toNat_natCast] at hp
 generalize sgnQ lq = sl at *
 generalize sgnQ uq = su at *
 cbv
 refine br_no (by dsimp only; omega) ?_
 cbv
 refine cut_no (by dsimp only; rw [enc_len]; omega) ?_
 cbv
 refine draw_ef 15 [(14, 7)] (by cbv) (by cbv) (by cbv) ?_
 cbv
 refine ⟨in64_of om om, ?_⟩
 cbv
 refine callS_d okA (cv) rfl ?_
 cbv
 refine idx_at hp ac_flat ac_len ?_
 cbv
 refine callS' rfl okA (cl) rfl ?_
 cbv
 refine callS' rfl okA (cu) rfl ?_
 cbv
 refine callS' rfl okA (co) rfl ?_
 cbv
 obtain ⟨on, hon⟩ : ∃ on : Bool, (decide (rhi = 0) && ((decide (rlo = 0) && dv1) || (low && decide (0 ≤ sl)))) = on := ⟨_, rfl⟩
 obtain ⟨off, hoff⟩ : ∃ off : Bool, (decide (rlo = 0) && ((decide (rhi = 0) && dv2) || (top && decide (su ≤ 0)))) = off := ⟨_, rfl⟩
 refine reg_meet (σ := Unit) (fun _ => ⟨[(2, .ptr 2 0), (3, .ptr 3 0), (4, .ptr 4 0), (7, .ptr 7 0), (8, .ptr 8 0), (9, .ptr 9 0), (10, .bool (fun _ => low)), (11, .ptr 11 0), (12, .bool (fun _ => top)), (13, .ptr 13 0), (14, .bool (fun _ => on))], [(2, .box [.int .i64 (fun _ => gn), alv us, alv os, rlv lo, rlv hi, alv rows, tsv ts, .bool (fun _ => c1), nat c2, nat c3, dlv path, llv lems]), (3, .box [.int .i64 (fun _ => k), .int .i64 (fun _ => (ip : Int)), .int .i64 (fun _ => rlo), .int .i64 (fun _ => rhi)]), (4, .box [.nil, .ff, .nil, .nil]), (7, .box [tsv V1.ts, .bool (fun _ => V1.c.neg), nat V1.c.num, nat V1.c.den]), (8, .box [tsv p.ts, .bool (fun _ => p.c.neg), nat p.c.num, nat p.c.den]), (9, .box [.bool (fun _ => L.neg), nat L.num, nat L.den]), (11, .box [.bool (fun _ => U.neg), nat U.num, nat U.den]), (13, .box [.bool (fun _ => M1.neg), nat M1.num, nat M1.den])]⟩) (fun _ => True) ?_ (fun _ _ => ?_)
 ·skip
  cbv
  refine br_dec (fun e1 => ?_) (fun e1 => ?_)
  ·(try dsimp only at e1)
   cbv
   refine br_dec (fun e2 => ?_) (fun e2 => ?_)
   ·(try dsimp only at e2)
    cbv
    refine callS' rfl okA (cd1) rfl ?_
    cbv
    refine br_bool (fun e3 => ?_) (fun e3 => ?_)
    ·cbv
     exact ⟨(), trivial, .le (by cbv; repeat' first | exact trivial | exact leS_refl _ | exact leS_bool (by rw [← hon]; simp [e1, e2, e3]) | exact leS_ff (by rw [← hon]; simp [e1, e2, e3]) | exact leS_tt (by rw [← hon]; simp [e1, e2, e3]) | apply And.intro) okZ rfl⟩
    ·cbv
     refine br_bool (fun e4 => ?_) (fun e4 => ?_)
     ·cbv
      refine callS' rfl okA (csl) rfl ?_
      cbv
      exact ⟨(), trivial, .le (by cbv; repeat' first | exact trivial | exact leS_refl _ | exact leS_bool (by rw [← hon]; simp [e1, e2, e3, e4]) | exact leS_ff (by rw [← hon]; simp [e1, e2, e3, e4]) | exact leS_tt (by rw [← hon]; simp [e1, e2, e3, e4]) | apply And.intro) okZ rfl⟩
     ·cbv
      exact ⟨(), trivial, .le (by cbv; repeat' first | exact trivial | exact leS_refl _ | exact leS_bool (by rw [← hon]; simp [e1, e2, e3, e4]) | exact leS_ff (by rw [← hon]; simp [e1, e2, e3, e4]) | exact leS_tt (by rw [← hon]; simp [e1, e2, e3, e4]) | apply And.intro) okZ rfl⟩
   ·(try dsimp only at e2)
    cbv
    refine br_bool (fun e4 => ?_) (fun e4 => ?_)
    ·cbv
     refine callS' rfl okA (csl) rfl ?_
     cbv
     exact ⟨(), trivial, .le (by cbv; repeat' first | exact trivial | exact leS_refl _ | exact leS_bool (by rw [← hon]; simp [e1, e2, e4]) | exact leS_ff (by rw [← hon]; simp [e1, e2, e4]) | exact leS_tt (by rw [← hon]; simp [e1, e2, e4]) | apply And.intro) okZ rfl⟩
    ·cbv
     exact ⟨(), trivial, .le (by cbv; repeat' first | exact trivial | exact leS_refl _ | exact leS_bool (by rw [← hon]; simp [e1, e2, e4]) | exact leS_ff (by rw [← hon]; simp [e1, e2, e4]) | exact leS_tt (by rw [← hon]; simp [e1, e2, e4]) | apply And.intro) okZ rfl⟩
  ·cbv
   exact ⟨(), trivial, .le (by cbv; repeat' first | exact trivial | exact leS_refl _ | exact leS_bool (by rw [← hon]; simp [e1]) | exact leS_ff (by rw [← hon]; simp [e1]) | exact leS_tt (by rw [← hon]; simp [e1]) | apply And.intro) okZ rfl⟩
 cbv
 refine reg_meet (σ := Unit) (fun _ => ⟨[(2, .ptr 2 0), (3, .ptr 3 0), (4, .ptr 4 0), (7, .ptr 7 0), (8, .ptr 8 0), (9, .ptr 9 0), (10, .bool (fun _ => low)), (11, .ptr 11 0), (12, .bool (fun _ => top)), (13, .ptr 13 0), (14, .bool (fun _ => on)), (15, .bool (fun _ => off))], [(2, .box [.int .i64 (fun _ => gn), alv us, alv os, rlv lo, rlv hi, alv rows, tsv ts, .bool (fun _ => c1), nat c2, nat c3, dlv path, llv lems]), (3, .box [.int .i64 (fun _ => k), .int .i64 (fun _ => (ip : Int)), .int .i64 (fun _ => rlo), .int .i64 (fun _ => rhi)]), (4, .box [.nil, .ff, .nil, .nil]), (7, .box [tsv V1.ts, .bool (fun _ => V1.c.neg), nat V1.c.num, nat V1.c.den]), (8, .box [tsv p.ts, .bool (fun _ => p.c.neg), nat p.c.num, nat p.c.den]), (9, .box [.bool (fun _ => L.neg), nat L.num, nat L.den]), (11, .box [.bool (fun _ => U.neg), nat U.num, nat U.den]), (13, .box [.bool (fun _ => M1.neg), nat M1.num, nat M1.den])]⟩) (fun _ => True) ?_ (fun _ _ => ?_)
 ·skip
  cbv
  refine br_dec (fun e1 => ?_) (fun e1 => ?_)
  ·(try dsimp only at e1)
   cbv
   refine br_dec (fun e2 => ?_) (fun e2 => ?_)
   ·(try dsimp only at e2)
    cbv
    refine callS' rfl okA (cd2) rfl ?_
    cbv
    refine br_bool (fun e3 => ?_) (fun e3 => ?_)
    ·cbv
     exact ⟨(), trivial, .le (by cbv; repeat' first | exact trivial | exact leS_refl _ | exact leS_bool (by rw [← hoff]; simp [e1, e2, e3]) | exact leS_ff (by rw [← hoff]; simp [e1, e2, e3]) | exact leS_tt (by rw [← hoff]; simp [e1, e2, e3]) | apply And.intro) okZ rfl⟩
    ·cbv
     refine br_bool (fun e4 => ?_) (fun e4 => ?_)
     ·cbv
      refine callS' rfl okA (csu) rfl ?_
      cbv
      exact ⟨(), trivial, .le (by cbv; repeat' first | exact trivial | exact leS_refl _ | exact leS_bool (by rw [← hoff]; simp [e1, e2, e3, e4]) | exact leS_ff (by rw [← hoff]; simp [e1, e2, e3, e4]) | exact leS_tt (by rw [← hoff]; simp [e1, e2, e3, e4]) | apply And.intro) okZ rfl⟩
     ·cbv
      exact ⟨(), trivial, .le (by cbv; repeat' first | exact trivial | exact leS_refl _ | exact leS_bool (by rw [← hoff]; simp [e1, e2, e3, e4]) | exact leS_ff (by rw [← hoff]; simp [e1, e2, e3, e4]) | exact leS_tt (by rw [← hoff]; simp [e1, e2, e3, e4]) | apply And.intro) okZ rfl⟩
   ·(try dsimp only at e2)
    cbv
    refine br_bool (fun e4 => ?_) (fun e4 => ?_)
    ·cbv
     refine callS' rfl okA (csu) rfl ?_
     cbv
     exact ⟨(), trivial, .le (by cbv; repeat' first | exact trivial | exact leS_refl _ | exact leS_bool (by rw [← hoff]; simp [e1, e2, e4]) | exact leS_ff (by rw [← hoff]; simp [e1, e2, e4]) | exact leS_tt (by rw [← hoff]; simp [e1, e2, e4]) | apply And.intro) okZ rfl⟩
    ·cbv
     exact ⟨(), trivial, .le (by cbv; repeat' first | exact trivial | exact leS_refl _ | exact leS_bool (by rw [← hoff]; simp [e1, e2, e4]) | exact leS_ff (by rw [← hoff]; simp [e1, e2, e4]) | exact leS_tt (by rw [← hoff]; simp [e1, e2, e4]) | apply And.intro) okZ rfl⟩
  ·cbv
   exact ⟨(), trivial, .le (by cbv; repeat' first | exact trivial | exact leS_refl _ | exact leS_bool (by rw [← hoff]; simp [e1]) | exact leS_ff (by rw [← hoff]; simp [e1]) | exact leS_tt (by rw [← hoff]; simp [e1]) | apply And.intro) okZ rfl⟩
 cbv
 have hk : k = 5 ∨ k = 6 ∨ k = 7 ∨ k = 8 ∨ k = 9 ∨ k = 10 ∨ k = 11 ∨ k = 12 ∨ k = 13 ∨ (k ≤ 4 ∨ 14 ≤ k) := by omega
 simp only [hon, hoff, Row.plain] at ho
 clear cd1 cd2 cl cu co cv hon hoff
 rcases hk with rfl | rfl | rfl | rfl | rfl | rfl | rfl | rfl | rfl | hk
 ·as_aux_lemma =>
   rw [if_pos rfl] at ho
   have T := fun (h : (decide (rlo = 0) && decide (rhi = 0)) = true) => fin2 (v) (by rw [ho]; exact if_pos h)
   have N := fun (h : ¬ ((decide (rlo = 0) && decide (rhi = 0)) = true)) => fin3 (by rw [ho]; exact if_neg h)
   rw [hV1] at T
   clear ho fin2 fin3
   refine cut_yes (by simp) ?_
   cbv
   refine draw_ef 10 [(9, 16)] (by cbv) (by cbv) (by cbv) ?_
   cbv
   refine br_dec (fun e1 => ?_) (fun e1 => ?_)
   ·cbv
    refine cut_bool (fun e9 => ?_) (fun e9 => ?_)
    ·cbv
     obtain ⟨g1, g2⟩ := T (by simp_all)
     cases g1
     subst g2
     (refine retC rfl ?_; cbv)
     exact ⟨⟨leS_refl _, leS_refl _, leS_refl _, leS_refl _, trivial⟩, leS_tt rfl, trivial⟩
    ·cbv
     obtain ⟨g0, g1, g2, g3, g4⟩ := N (by simp_all)
     subst g0 g1 g2 g3 g4
     (refine retC rfl ?_; cbv)
     exact ⟨⟨leS_nil rfl, leS_ff rfl, leS_nil rfl, leS_nil rfl, trivial⟩, leS_ff rfl, trivial⟩
   ·cbv
    obtain ⟨g0, g1, g2, g3, g4⟩ := N (by simp_all)
    subst g0 g1 g2 g3 g4
    (refine retC rfl ?_; cbv)
    exact ⟨⟨leS_nil rfl, leS_ff rfl, leS_nil rfl, leS_nil rfl, trivial⟩, leS_ff rfl, trivial⟩
 ·as_aux_lemma =>
   rw [if_neg (by decide), if_pos rfl] at ho
   have T := fun (h : (decide (rlo = 0) && decide (rhi = 0)) = true) => fin2 (v.sub p.f) (by rw [ho]; exact if_pos h)
   have N := fun (h : ¬ ((decide (rlo = 0) && decide (rhi = 0)) = true)) => fin3 (by rw [ho]; exact if_neg h)
   rw [hX6] at T
   clear ho fin2 fin3
   refine cut_no (by simp) ?_
   cbv
   refine cut_yes (by simp) ?_
   cbv
   refine draw_ef 12 [(11, 16)] (by cbv) (by cbv) (by cbv) ?_
   cbv
   refine callS_d okA (d6') rfl ?_
   cbv
   refine br_dec (fun e1 => ?_) (fun e1 => ?_)
   ·cbv
    refine cut_bool (fun e9 => ?_) (fun e9 => ?_)
    ·cbv
     obtain ⟨g1, g2⟩ := T (by simp_all)
     cases g1
     subst g2
     (refine retC rfl ?_; cbv)
     exact ⟨⟨leS_refl _, leS_refl _, leS_refl _, leS_refl _, trivial⟩, leS_tt rfl, trivial⟩
    ·cbv
     obtain ⟨g0, g1, g2, g3, g4⟩ := N (by simp_all)
     subst g0 g1 g2 g3 g4
     (refine retC rfl ?_; cbv)
     exact ⟨⟨leS_nil rfl, leS_ff rfl, leS_nil rfl, leS_nil rfl, trivial⟩, leS_ff rfl, trivial⟩
   ·cbv
    obtain ⟨g0, g1, g2, g3, g4⟩ := N (by simp_all)
    subst g0 g1 g2 g3 g4
    (refine retC rfl ?_; cbv)
    exact ⟨⟨leS_nil rfl, leS_ff rfl, leS_nil rfl, leS_nil rfl, trivial⟩, leS_ff rfl, trivial⟩
 ·as_aux_lemma =>
   rw [if_neg (by decide), if_neg (by decide), if_pos rfl] at ho
   have T := fun (h : on = true) => fin2 (p.f) (by rw [ho]; exact if_pos h)
   have N := fun (h : ¬ (on = true)) => fin3 (by rw [ho]; exact if_neg h)
   rw [hpA] at T
   clear ho fin2 fin3
   refine cut_no (by simp) ?_
   cbv
   refine cut_no (by simp) ?_
   cbv
   refine cut_yes (by simp) ?_
   cbv
   refine cut_bool (fun e9 => ?_) (fun e9 => ?_)
   ·cbv
    obtain ⟨g1, g2⟩ := T (by simp_all)
    cases g1
    subst g2
    (refine retC rfl ?_; cbv)
    exact ⟨⟨leS_refl _, leS_refl _, leS_refl _, leS_refl _, trivial⟩, leS_tt rfl, trivial⟩
   ·cbv
    obtain ⟨g0, g1, g2, g3, g4⟩ := N (by simp_all)
    subst g0 g1 g2 g3 g4
    (refine retC rfl ?_; cbv)
    exact ⟨⟨leS_nil rfl, leS_ff rfl, leS_nil rfl, leS_nil rfl, trivial⟩, leS_ff rfl, trivial⟩
 ·as_aux_lemma =>
   rw [if_neg (by decide), if_neg (by decide), if_neg (by decide), if_pos rfl] at ho
   have T := fun (h : on = true) => fin2 (p.f.sub v) (by rw [ho]; exact if_pos h)
   have N := fun (h : ¬ (on = true)) => fin3 (by rw [ho]; exact if_neg h)
   rw [hX8] at T
   clear ho fin2 fin3
   refine cut_no (by simp) ?_
   cbv
   refine cut_no (by simp) ?_
   cbv
   refine cut_no (by simp) ?_
   cbv
   refine cut_yes (by simp) ?_
   cbv
   refine callS' rfl okA (d8') rfl ?_
   cbv
   refine cut_bool (fun e9 => ?_) (fun e9 => ?_)
   ·cbv
    obtain ⟨g1, g2⟩ := T (by simp_all)
    cases g1
    subst g2
    (refine retC rfl ?_; cbv)
    exact ⟨⟨leS_refl _, leS_refl _, leS_refl _, leS_refl _, trivial⟩, leS_tt rfl, trivial⟩
   ·cbv
    obtain ⟨g0, g1, g2, g3, g4⟩ := N (by simp_all)
    subst g0 g1 g2 g3 g4
    (refine retC rfl ?_; cbv)
    exact ⟨⟨leS_nil rfl, leS_ff rfl, leS_nil rfl, leS_nil rfl, trivial⟩, leS_ff rfl, trivial⟩
 ·as_aux_lemma =>
   rw [if_neg (by decide), if_neg (by decide), if_neg (by decide), if_neg (by decide), if_pos rfl] at ho
   have T := fun (h : off = true) => fin2 (p.f.scale (-1)) (by rw [ho]; exact if_pos h)
   have N := fun (h : ¬ (off = true)) => fin3 (by rw [ho]; exact if_neg h)
   rw [hX9] at T
   clear ho fin2 fin3
   refine cut_no (by simp) ?_
   cbv
   refine cut_no (by simp) ?_
   cbv
   refine cut_no (by simp) ?_
   cbv
   refine cut_no (by simp) ?_
   cbv
   refine cut_yes (by simp) ?_
   cbv
   refine callS' rfl okA (d9') rfl ?_
   cbv
   refine cut_bool (fun e9 => ?_) (fun e9 => ?_)
   ·cbv
    obtain ⟨g1, g2⟩ := T (by simp_all)
    cases g1
    subst g2
    (refine retC rfl ?_; cbv)
    exact ⟨⟨leS_refl _, leS_refl _, leS_refl _, leS_refl _, trivial⟩, leS_tt rfl, trivial⟩
   ·cbv
    obtain ⟨g0, g1, g2, g3, g4⟩ := N (by simp_all)
    subst g0 g1 g2 g3 g4
    (refine retC rfl ?_; cbv)
    exact ⟨⟨leS_nil rfl, leS_ff rfl, leS_nil rfl, leS_nil rfl, trivial⟩, leS_ff rfl, trivial⟩
 ·as_aux_lemma =>
   rw [if_neg (by decide), if_neg (by decide), if_neg (by decide), if_neg (by decide), if_neg (by decide), if_pos rfl] at ho
   have T := fun (h : off = true) => fin2 (v.scale (-1)) (by rw [ho]; exact if_pos h)
   have N := fun (h : ¬ (off = true)) => fin3 (by rw [ho]; exact if_neg h)
   rw [hX10] at T
   clear ho fin2 fin3
   refine cut_no (by simp) ?_
   cbv
   refine cut_no (by simp) ?_
   cbv
   refine cut_no (by simp) ?_
   cbv
   refine cut_no (by simp) ?_
   cbv
   refine cut_no (by simp) ?_
   cbv
   refine cut_yes (by simp) ?_
   cbv
   refine callS' rfl okA (d10') rfl ?_
   cbv
   refine cut_bool (fun e9 => ?_) (fun e9 => ?_)
   ·cbv
    obtain ⟨g1, g2⟩ := T (by simp_all)
    cases g1
    subst g2
    (refine retC rfl ?_; cbv)
    exact ⟨⟨leS_refl _, leS_refl _, leS_refl _, leS_refl _, trivial⟩, leS_tt rfl, trivial⟩
   ·cbv
    obtain ⟨g0, g1, g2, g3, g4⟩ := N (by simp_all)
    subst g0 g1 g2 g3 g4
    (refine retC rfl ?_; cbv)
    exact ⟨⟨leS_nil rfl, leS_ff rfl, leS_nil rfl, leS_nil rfl, trivial⟩, leS_ff rfl, trivial⟩
 ·as_aux_lemma =>
   rw [if_neg (by decide), if_neg (by decide), if_neg (by decide), if_neg (by decide), if_neg (by decide), if_neg (by decide), if_pos rfl] at ho
   have T := fun (h : low = true ∧ rhi = 0) => fin2 (p.f.sub (F.num lq)) (by rw [ho]; exact if_pos h)
   have N := fun (h : ¬ (low = true ∧ rhi = 0)) => fin3 (by rw [ho]; exact if_neg h)
   rw [hX11] at T
   clear ho fin2 fin3
   refine cut_no (by simp) ?_
   cbv
   refine cut_no (by simp) ?_
   cbv
   refine cut_no (by simp) ?_
   cbv
   refine cut_no (by simp) ?_
   cbv
   refine cut_no (by simp) ?_
   cbv
   refine cut_no (by simp) ?_
   cbv
   refine cut_yes (by simp) ?_
   cbv
   refine draw_ef 11 [(10, 16)] (by cbv) (by cbv) (by cbv) ?_
   cbv
   refine callS_d okA (nL) rfl ?_
   cbv
   refine callS_d okA (d11') rfl ?_
   cbv
   refine br_bool (fun e1 => ?_) (fun e1 => ?_)
   ·cbv
    refine cut_bool (fun e9 => ?_) (fun e9 => ?_)
    ·cbv
     obtain ⟨g1, g2⟩ := T (by simp_all)
     cases g1
     subst g2
     (refine retC rfl ?_; cbv)
     exact ⟨⟨leS_refl _, leS_refl _, leS_refl _, leS_refl _, trivial⟩, leS_tt rfl, trivial⟩
    ·cbv
     obtain ⟨g0, g1, g2, g3, g4⟩ := N (by simp_all)
     subst g0 g1 g2 g3 g4
     (refine retC rfl ?_; cbv)
     exact ⟨⟨leS_nil rfl, leS_ff rfl, leS_nil rfl, leS_nil rfl, trivial⟩, leS_ff rfl, trivial⟩
   ·cbv
    obtain ⟨g0, g1, g2, g3, g4⟩ := N (by simp_all)
    subst g0 g1 g2 g3 g4
    (refine retC rfl ?_; cbv)
    exact ⟨⟨leS_nil rfl, leS_ff rfl, leS_nil rfl, leS_nil rfl, trivial⟩, leS_ff rfl, trivial⟩
 ·as_aux_lemma =>
   rw [if_neg (by decide), if_neg (by decide), if_neg (by decide), if_neg (by decide), if_neg (by decide), if_neg (by decide), if_neg (by decide), if_pos rfl] at ho
   have T := fun (h : top = true ∧ rlo = 0) => fin2 ((F.num uq).sub p.f) (by rw [ho]; exact if_pos h)
   have N := fun (h : ¬ (top = true ∧ rlo = 0)) => fin3 (by rw [ho]; exact if_neg h)
   rw [hX12] at T
   clear ho fin2 fin3
   refine cut_no (by simp) ?_
   cbv
   refine cut_no (by simp) ?_
   cbv
   refine cut_no (by simp) ?_
   cbv
   refine cut_no (by simp) ?_
   cbv
   refine cut_no (by simp) ?_
   cbv
   refine cut_no (by simp) ?_
   cbv
   refine cut_no (by simp) ?_
   cbv
   refine cut_yes (by simp) ?_
   cbv
   refine draw_ef 11 [(10, 16)] (by cbv) (by cbv) (by cbv) ?_
   cbv
   refine callS_d okA (nU) rfl ?_
   cbv
   refine callS_d okA (d12') rfl ?_
   cbv
   refine br_bool (fun e1 => ?_) (fun e1 => ?_)
   ·cbv
    refine cut_bool (fun e9 => ?_) (fun e9 => ?_)
    ·cbv
     obtain ⟨g1, g2⟩ := T (by simp_all)
     cases g1
     subst g2
     (refine retC rfl ?_; cbv)
     exact ⟨⟨leS_refl _, leS_refl _, leS_refl _, leS_refl _, trivial⟩, leS_tt rfl, trivial⟩
    ·cbv
     obtain ⟨g0, g1, g2, g3, g4⟩ := N (by simp_all)
     subst g0 g1 g2 g3 g4
     (refine retC rfl ?_; cbv)
     exact ⟨⟨leS_nil rfl, leS_ff rfl, leS_nil rfl, leS_nil rfl, trivial⟩, leS_ff rfl, trivial⟩
   ·cbv
    obtain ⟨g0, g1, g2, g3, g4⟩ := N (by simp_all)
    subst g0 g1 g2 g3 g4
    (refine retC rfl ?_; cbv)
    exact ⟨⟨leS_nil rfl, leS_ff rfl, leS_nil rfl, leS_nil rfl, trivial⟩, leS_ff rfl, trivial⟩
 ·as_aux_lemma =>
   rw [if_neg (by decide), if_neg (by decide), if_neg (by decide), if_neg (by decide), if_neg (by decide), if_neg (by decide), if_neg (by decide), if_neg (by decide), if_pos rfl] at ho
   have T := fun (h : low = true ∧ top = true ∧ sl < 0 ∧ 0 < su) => fin2 (((p.f.sub (F.num lq)).scale uq).sub (v.scale (uq - lq))) (by rw [ho]; exact if_pos h)
   have N := fun (h : ¬ (low = true ∧ top = true ∧ sl < 0 ∧ 0 < su)) => fin3 (by rw [ho]; exact if_neg h)
   rw [hX13] at T
   clear ho fin2 fin3
   refine cut_no (by simp) ?_
   cbv
   refine cut_no (by simp) ?_
   cbv
   refine cut_no (by simp) ?_
   cbv
   refine cut_no (by simp) ?_
   cbv
   refine cut_no (by simp) ?_
   cbv
   refine cut_no (by simp) ?_
   cbv
   refine cut_no (by simp) ?_
   cbv
   refine cut_no (by simp) ?_
   cbv
   refine cut_yes (by simp) ?_
   cbv
   refine draw_mk 7 (by cbv) (by cbv) ?_
   cbv
   refine callS_d okA (nL) rfl ?_
   cbv
   refine callS_d okA (d11') rfl ?_
   cbv
   refine callS_d okA (d13a') rfl ?_
   cbv
   refine draw_ef 22 [(21, 16)] (by cbv) (by cbv) (by cbv) ?_
   cbv
   refine callS_d okA (d13d') rfl ?_
   cbv
   refine callS_d okA (d13b') rfl ?_
   cbv
   refine callS_d okA (d13') rfl ?_
   cbv
   refine br_bool (fun e1 => ?_) (fun e1 => ?_)
   ·cbv
    refine br_bool (fun e2 => ?_) (fun e2 => ?_)
    ·cbv
     refine callS_d okA (csl) rfl ?_
     cbv
     refine br_dec (fun e3 => ?_) (fun e3 => ?_)
     ·cbv
      refine callS_d okA (csu) rfl ?_
      cbv
      refine cut_bool (fun e9 => ?_) (fun e9 => ?_)
      ·cbv
       obtain ⟨g1, g2⟩ := T (by simp_all)
       cases g1
       subst g2
       (refine retC rfl ?_; cbv)
       exact ⟨⟨leS_refl _, leS_refl _, leS_refl _, leS_refl _, trivial⟩, leS_tt rfl, trivial⟩
      ·cbv
       obtain ⟨g0, g1, g2, g3, g4⟩ := N (by simp_all)
       subst g0 g1 g2 g3 g4
       (refine retC rfl ?_; cbv)
       exact ⟨⟨leS_nil rfl, leS_ff rfl, leS_nil rfl, leS_nil rfl, trivial⟩, leS_ff rfl, trivial⟩
     ·cbv
      obtain ⟨g0, g1, g2, g3, g4⟩ := N (fun h => e3 h.2.2.1)
      subst g0 g1 g2 g3 g4
      (refine retC rfl ?_; cbv)
      exact ⟨⟨leS_nil rfl, leS_ff rfl, leS_nil rfl, leS_nil rfl, trivial⟩, leS_ff rfl, trivial⟩
    ·cbv
     obtain ⟨g0, g1, g2, g3, g4⟩ := N (by simp_all)
     subst g0 g1 g2 g3 g4
     (refine retC rfl ?_; cbv)
     exact ⟨⟨leS_nil rfl, leS_ff rfl, leS_nil rfl, leS_nil rfl, trivial⟩, leS_ff rfl, trivial⟩
   ·cbv
    obtain ⟨g0, g1, g2, g3, g4⟩ := N (by simp_all)
    subst g0 g1 g2 g3 g4
    (refine retC rfl ?_; cbv)
    exact ⟨⟨leS_nil rfl, leS_ff rfl, leS_nil rfl, leS_nil rfl, trivial⟩, leS_ff rfl, trivial⟩
 ·as_aux_lemma =>
   have N := fun (_ : True) => fin3 (by rw [ho, if_neg (by omega), if_neg (by omega), if_neg (by omega), if_neg (by omega), if_neg (by omega), if_neg (by omega), if_neg (by omega), if_neg (by omega), if_neg (by omega)])
   refine cut_no (by omega) ?_
   cbv
   refine cut_no (by omega) ?_
   cbv
   refine cut_no (by omega) ?_
   cbv
   refine cut_no (by omega) ?_
   cbv
   refine cut_no (by omega) ?_
   cbv
   refine cut_no (by omega) ?_
   cbv
   refine cut_no (by omega) ?_
   cbv
   refine cut_no (by omega) ?_
   cbv
   refine cut_no (by omega) ?_
   cbv
   obtain ⟨g0, g1, g2, g3, g4⟩ := N (trivial)
   subst g0 g1 g2 g3 g4
   (refine retC rfl ?_; cbv)
   exact ⟨⟨leS_nil rfl, leS_ff rfl, leS_nil rfl, leS_nil rfl, trivial⟩, leS_ff rfl, trivial⟩
end Go.Proofs.YtcanljninhfmhaaGreat
