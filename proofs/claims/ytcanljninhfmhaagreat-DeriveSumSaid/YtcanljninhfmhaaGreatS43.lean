/- A part of the proof: RtC, RuA, RuB, RuC, RuD. -/
import Derived.Test.YtcanljninhfmhaaGreatS42
import Derived.Test.YtcanljninhfmhaaGreatS36
import Derived.Test.YtcanljninhfmhaaGreatS39
set_option linter.all false
namespace Go.Proofs.YtcanljninhfmhaaGreat
open Go
set_option linter.unusedVariables false
set_option maxRecDepth 100000
set_option maxHeartbeats 4000000
theorem sVarSub (i : Int) (x : R) (hx : x.sz (2^26)) : SoundS 27 [av (fA (F.var i)), av ⟨[], x⟩] (av (fA ((F.var i).sub (F.num x.q)))) := by
 have h := sRgSub (F.var i).ts (ratR (F.var i).c) ⟨[], x⟩ (var_cn i) Cn.nil ⟨by show 1 < _; decide, fun t ht => ((var_fl i).t t ht).mono (by decide)⟩ ((ratR_sz (var_fl i).c).mono (by decide)) ⟨⟨by show 0 < _; decide, fun t ht => absurd ht (by simp)⟩, hx⟩ (by show 1 + 0 < _; decide)
 rw [q_ratR] at h
 exact h
theorem sNumSub (i : Int) (x : R) (hx : x.sz (2^26)) : SoundS 27 [av ⟨[], x⟩, av (fA (F.var i))] (av (fA ((F.num x.q).sub (F.var i)))) := by
 have h := sRgSub [] x (fA (F.var i)) Cn.nil (by rw [show (fA (F.var i)).ts = tR (F.var i).ts from rfl, tq_tR]; exact var_cn i) ⟨by show 0 < _; decide, fun t ht => absurd ht (by simp)⟩ (hx.mono (by decide)) ((fl_sz (var_fl i) (by decide)).mono (by decide)) (by rw [show (fA (F.var i)).ts = tR (F.var i).ts from rfl, tR_len]; show 0 + 1 < _; decide)
 rw [f_fA] at h
 exact h
theorem fUn_none {s : Scp} {r : Row} (h : 14 ≤ r.k) : s.fUn r = none := by
 unfold Scp.fUn
 split
 ·split
  ·unfold unF
   rw [if_neg (by omega), if_neg (by omega), if_neg (by omega), if_neg (by omega), if_neg (by omega), if_neg (by omega), if_neg (by omega), if_neg (by omega), if_neg (by omega)]
  ·rfl
 ·rfl
theorem hfR21Form : Pg.funcs[54]? = some Tryz.f54 := by rw [Pg_eq]; rfl
theorem sR21Form (s : Scp) (r : Row) (hs : s.sz (2^20)) : SoundS 54 [sv s, rwv r] (.tup [fv ((s.fm r).getD F.zero), .bool (fun _ => (s.fm r).isSome)]) := by
 refine sound_fn hfR21Form rfl rfl rfl rfl rfl ?_
 have cv := sR21V s.q (hs.q.mono (by decide))
 have cun := fun (h : s.q.valid = true) => sR21Un s r hs (Qry.can_of h) (Qry.vok_of h).n1 (Qry.vok_of h).n2 (Qry.vok_of h).ul (Qry.vok_of h).up
 have crw := fun (h : s.q.valid = true) => (Qry.can_of h).rows
 have hft : ∀ d, d ∈ s.path → SoundS 107 [qv s.q, dv d] (.bool (fun _ => d.fits s.q)) := fun d hd => sR21F0 s.q d ((hs.path.sz d hd).mono (by decide))
 have f2 : s.q.valid = false → s.fm r = none := fun h => if_pos (.inr (.inr h))
 have f0 : r.k < 1 → s.fm r = none := fun h => if_pos (.inl h)
 have f3 : s.q.valid = true → 1 ≤ r.k → r.k ≤ 4 → s.fm r = s.fIn r := fun h h1 h2 => by
  unfold Scp.fm
  rw [if_neg (by rw [h]; simp; omega), if_pos h2]
 have f4 : s.q.valid = true → 5 ≤ r.k → s.fm r = s.fUn r := fun h h1 => by
  by_cases h14 : 14 ≤ r.k
  ·rw [fUn_none h14]; exact if_pos (.inr (.inl h14))
  unfold Scp.fm
  rw [if_neg (by rw [h]; simp; omega), if_neg (by omega)]
 have fno : ¬ (r.plain = true ∧ 0 ≤ r.i) → s.fIn r = none := fun h => if_neg h
 have p1 : r.plain = true → 0 ≤ r.i → r.k = 1 → s.fIn r = s.q.r.lo[r.i.toNat]?.map fun x => (F.var r.i).sub (F.num x.q) := fun h1 h2 h3 => by unfold Scp.fIn; rw [if_pos ⟨h1, h2⟩, if_pos h3]
 have p2 : r.plain = true → 0 ≤ r.i → r.k = 2 → s.fIn r = s.q.r.hi[r.i.toNat]?.map fun x => (F.num x.q).sub (F.var r.i) := fun h1 h2 h3 => by unfold Scp.fIn; rw [if_pos ⟨h1, h2⟩, if_neg (by omega), if_pos h3]
 have p3 : r.plain = true → 0 ≤ r.i → r.k = 3 → s.fIn r = s.q.r.rows[r.i.toNat]?.map fun f => f.f.add F.zero := fun h1 h2 h3 => by unfold Scp.fIn; rw [if_pos ⟨h1, h2⟩, if_neg (by omega), if_neg (by omega), if_pos h3]
 have p4 : ∀ d, r.plain = true → 0 ≤ r.i → r.k = 4 → s.path[r.i.toNat]? = some d → s.fIn r = if d.fits s.q = true then (if d.k = 3 then some ((F.var d.i).sub (F.num d.x.q)) else if d.k = 4 then some (((F.var d.i).sub (F.num d.x.q)).scale (-1)) else none) else none := fun d h1 h2 h3 h4 => by unfold Scp.fIn; rw [if_pos ⟨h1, h2⟩, if_neg (by omega), if_neg (by omega), if_neg (by omega), if_pos h3, h4]
 have p4n : r.plain = true → 0 ≤ r.i → r.k = 4 → s.path[r.i.toNat]? = none → s.fIn r = none := fun h1 h2 h3 h4 => by unfold Scp.fIn; rw [if_pos ⟨h1, h2⟩, if_neg (by omega), if_neg (by omega), if_neg (by omega), if_pos h3, h4]
 have hlo := hs.q.r.lo.sz
 have hhi := hs.q.r.hi.sz
 have hpa := hs.path.sz
 obtain ⟨ft, hftd⟩ : ∃ ft : Dec → Bool, ∀ d, ft d = d.fits s.q := ⟨_, fun _ => rfl⟩
 simp only [← hftd] at hft p4
 clear hftd
 obtain ⟨o, ho⟩ : ∃ o, o = s.fm r := ⟨_, rfl⟩
 rw [← ho] at f0 f2 f3 f4 ⊢
 obtain ⟨W, hW⟩ : ∃ W, W = fA (o.getD F.zero) := ⟨_, rfl⟩
 obtain ⟨b, hb⟩ : ∃ b, b = o.isSome := ⟨_, rfl⟩
 rw [show fv (o.getD F.zero) = av W by rw [hW], ← hb]
 have fin2 : ∀ f, o = some f → W = fA f ∧ b = true := fun f h => by rw [h] at hW hb; exact ⟨hW, hb⟩
 have fin1 : o = none → W = ⟨[], R0⟩ ∧ b = false := fun h => by
  rw [h] at hW hb
  exact ⟨hW.trans fA_zero, hb⟩
 obtain ⟨wt, w1, w2, w3⟩ := W
 have fin3 : o = none → wt = [] ∧ w1 = false ∧ w2 = [] ∧ w3 = [] ∧ b = false := fun h => by
  obtain ⟨h1, h2⟩ := fin1 h
  simp only [A.mk.injEq, R.mk.injEq] at h1
  exact ⟨h1.1, h1.2.1, h1.2.2.1, h1.2.2.2, h2⟩
 clear fin1
 have g4 : s.q.valid = true → 5 ≤ r.k → SoundS 106 [sv s, rwv r] (.tup [av ⟨wt, w1, w2, w3⟩, .bool (fun _ => b)]) := fun h h1 => by
  rw [hW, hb, f4 h h1]
  exact cun h
 clear hW hb f4 cun ho
 generalize s.q.valid = vd at *
 generalize s.fIn r = oi at *
 obtain ⟨⟨⟨gn, us, os⟩, ⟨lo, hi, rows⟩, ⟨ts, c1, c2, c3⟩⟩, path, lems⟩ := s
 obtain ⟨k, i, rlo, rhi⟩ := r
 simp only [Row.plain] at f0 f2 f3 fno p1 p2 p3 p4 p4n hlo hhi hpa crw hft g4
 cbv
 refine callS' rfl okA (cv) rfl ?_
 cbv
 refine cut_bool (fun ev => ?_) (fun ev => ?_)
 rotate_left
 ·cbv
  obtain ⟨q0, q1, q2, q3, q4⟩ := fin3 (f2 ev)
  subst q0 q1 q2 q3 q4
  (refine retC rfl ?_; cbv)
  exact ⟨⟨leS_nil rfl, leS_ff rfl, leS_nil rfl, leS_nil rfl, trivial⟩, leS_ff rfl, trivial⟩
 cbv
 refine cut_dec (fun e5 => ?_) (fun e5 => ?_)
 ·have g := g4 ev e5
  cbv
  refine callS' rfl okA (g) rfl ?_
  cbv
  (refine retC rfl ?_; cbv)
  exact ⟨⟨leS_refl _, leS_refl _, leS_refl _, leS_refl _, trivial⟩, leS_refl _, trivial⟩
 dsimp only at e5
 have f5 : oi = none → o = none := fun h => by
  by_cases h1 : k < 1
  ·exact f0 h1
  ·rw [f3 ev (by omega) (by omega), h]
 have f6 : ∀ f, 1 ≤ k → oi = some f → o = some f := fun f h1 h => by rw [f3 ev h1 (by omega), h]
 clear g4 f2 cv f3
 have Z := fun (h : oi = none) => fin3 (f5 h)
 clear f5
 cbv
 refine br_dec (fun e1 => ?_) (fun e1 => ?_)
 rotate_left
 ·have hz : oi = none := fno (by dsimp only at e1; simp [e1])
  cbv
  obtain ⟨q0, q1, q2, q3, q4⟩ := Z hz
  subst q0 q1 q2 q3 q4
  (refine retC rfl ?_; cbv)
  exact ⟨⟨leS_nil rfl, leS_ff rfl, leS_nil rfl, leS_nil rfl, trivial⟩, leS_ff rfl, trivial⟩
 cbv
 refine br_dec (fun e2 => ?_) (fun e2 => ?_)
 rotate_left
 ·have hz : oi = none := fno (by dsimp only at e2; simp [e2])
  cbv
  obtain ⟨q0, q1, q2, q3, q4⟩ := Z hz
  subst q0 q1 q2 q3 q4
  (refine retC rfl ?_; cbv)
  exact ⟨⟨leS_nil rfl, leS_ff rfl, leS_nil rfl, leS_nil rfl, trivial⟩, leS_ff rfl, trivial⟩
 cbv
 refine cut_dec (fun e3 => ?_) (fun e3 => ?_)
 ·have hz : oi = none := fno (by dsimp only at e3; omega)
  cbv
  obtain ⟨q0, q1, q2, q3, q4⟩ := Z hz
  subst q0 q1 q2 q3 q4
  (refine retC rfl ?_; cbv)
  exact ⟨⟨leS_nil rfl, leS_ff rfl, leS_nil rfl, leS_nil rfl, trivial⟩, leS_ff rfl, trivial⟩
 cbv
 have hpl : (decide (rlo = 0) && decide (rhi = 0)) = true := by dsimp only at e1 e2; simp_all
 obtain ⟨ip, hip⟩ : ∃ j : Nat, i = (j : Int) := ⟨i.toNat, by dsimp only at e3; omega⟩
 subst hip
 simp only [Int.toNat_natCast] at p1 p2 p3 p4 p4n
 have hk : k = 1 ∨ k = 2 ∨ k = 3 ∨ k = 4 ∨ k < 1 := by omega
 rcases hk with rfl | rfl | rfl | rfl | hk
 ·refine cut_yes (by simp) ?_
  cbv
  refine cut_dec (fun e => ?_) (fun e => ?_)
  ·have hl := enc_lt e
   obtain ⟨x, hx⟩ := get_some hl
   have hxm := List.mem_of_getElem? hx
   have po := p1 hpl (by show (0 : Int) ≤ (ip : Int); omega) rfl
   rw [hx] at po
   have T := fin2 _ (f6 _ (by decide) po)
   have dv := sRgVar (ip : Int)
   have dn := sRgNum x
   have d := sVarSub (ip : Int) x ((hlo x hxm).mono (by decide))
   obtain ⟨V, hV⟩ : ∃ V, fA (F.var (ip : Int)) = V := ⟨_, rfl⟩
   obtain ⟨X, hX⟩ : ∃ V, fA ((F.var (ip : Int)).sub (F.num x.q)) = V := ⟨_, rfl⟩
   rw [hX] at T d
   rw [hV] at d
   have dv' : SoundS 95 [.int .i64 (fun _ => (ip : Int))] (av V) := by subst hV; exact dv
   clear dv hX hV
   cbv
   refine draw_of 11 (by cbv) ?_
   cbv
   refine callS_d okA (dv') rfl ?_
   cbv
   refine idx_at hx rc_flat rc_len ?_
   cbv
   refine callS_d okA (dn) rfl ?_
   cbv
   refine callS_d okA (d) rfl ?_
   cbv
   obtain ⟨g1, g2⟩ := T
   cases g1
   subst g2
   (refine retC rfl ?_; cbv)
   exact ⟨⟨leS_refl _, leS_refl _, leS_refl _, leS_refl _, trivial⟩, leS_tt rfl, trivial⟩
  ·have hz : oi = none := by
    have hl : ¬ ip < lo.length := fun h => e (by rw [enc_len]; show (ip : Int) < (lo.length : Int); omega)
    rw [p1 hpl (by show (0 : Int) ≤ (ip : Int); omega) rfl, List.getElem?_eq_none (by omega)]; rfl
   cbv
   obtain ⟨q0, q1, q2, q3, q4⟩ := Z hz
   subst q0 q1 q2 q3 q4
   (refine retC rfl ?_; cbv)
   exact ⟨⟨leS_nil rfl, leS_ff rfl, leS_nil rfl, leS_nil rfl, trivial⟩, leS_ff rfl, trivial⟩
 ·skip
  refine cut_no (by simp) ?_
  cbv
  refine cut_yes (by simp) ?_
  cbv
  refine cut_dec (fun e => ?_) (fun e => ?_)
  ·have hl := enc_lt e
   obtain ⟨x, hx⟩ := get_some hl
   have hxm := List.mem_of_getElem? hx
   have po := p2 hpl (by show (0 : Int) ≤ (ip : Int); omega) rfl
   rw [hx] at po
   have T := fin2 _ (f6 _ (by decide) po)
   have dv := sRgVar (ip : Int)
   have dn := sRgNum x
   have d := sNumSub (ip : Int) x ((hhi x hxm).mono (by decide))
   obtain ⟨V, hV⟩ : ∃ V, fA (F.var (ip : Int)) = V := ⟨_, rfl⟩
   obtain ⟨X, hX⟩ : ∃ V, fA ((F.num x.q).sub (F.var (ip : Int))) = V := ⟨_, rfl⟩
   rw [hX] at T d
   rw [hV] at d
   have dv' : SoundS 95 [.int .i64 (fun _ => (ip : Int))] (av V) := by subst hV; exact dv
   clear dv hX hV
   cbv
   refine draw_of 11 (by cbv) ?_
   cbv
   refine idx_at hx rc_flat rc_len ?_
   cbv
   refine callS_d okA (dn) rfl ?_
   cbv
   refine callS_d okA (dv') rfl ?_
   cbv
   refine callS_d okA (d) rfl ?_
   cbv
   obtain ⟨g1, g2⟩ := T
   cases g1
   subst g2
   (refine retC rfl ?_; cbv)
   exact ⟨⟨leS_refl _, leS_refl _, leS_refl _, leS_refl _, trivial⟩, leS_tt rfl, trivial⟩
  ·have hz : oi = none := by
    have hl : ¬ ip < hi.length := fun h => e (by rw [enc_len]; show (ip : Int) < (hi.length : Int); omega)
    rw [p2 hpl (by show (0 : Int) ≤ (ip : Int); omega) rfl, List.getElem?_eq_none (by omega)]; rfl
   cbv
   obtain ⟨q0, q1, q2, q3, q4⟩ := Z hz
   subst q0 q1 q2 q3 q4
   (refine retC rfl ?_; cbv)
   exact ⟨⟨leS_nil rfl, leS_ff rfl, leS_nil rfl, leS_nil rfl, trivial⟩, leS_ff rfl, trivial⟩
 ·skip
  refine cut_no (by simp) ?_
  cbv
  refine cut_no (by simp) ?_
  cbv
  refine cut_yes (by simp) ?_
  cbv
  refine cut_dec (fun e => ?_) (fun e => ?_)
  ·have hl := enc_lt e
   obtain ⟨x, hx⟩ := get_some hl
   obtain ⟨w1', w2'⟩ := crw ev x (List.mem_of_getElem? hx)
   have po := p3 hpl (by show (0 : Int) ≤ (ip : Int); omega) rfl
   rw [hx] at po
   have T := fin2 (x.f.add F.zero) (f6 _ (by decide) po)
   rw [add_zero w2', w1'] at T
   cbv
   refine idx_at hx ac_flat ac_len ?_
   cbv
   obtain ⟨g1, g2⟩ := T
   cases g1
   subst g2
   (refine retC rfl ?_; cbv)
   exact ⟨⟨leS_refl _, leS_refl _, leS_refl _, leS_refl _, trivial⟩, leS_tt rfl, trivial⟩
  ·have hz : oi = none := by
    have hl : ¬ ip < rows.length := fun h => e (by rw [enc_len]; show (ip : Int) < (rows.length : Int); omega)
    rw [p3 hpl (by show (0 : Int) ≤ (ip : Int); omega) rfl, List.getElem?_eq_none (by omega)]; rfl
   cbv
   obtain ⟨q0, q1, q2, q3, q4⟩ := Z hz
   subst q0 q1 q2 q3 q4
   (refine retC rfl ?_; cbv)
   exact ⟨⟨leS_nil rfl, leS_ff rfl, leS_nil rfl, leS_nil rfl, trivial⟩, leS_ff rfl, trivial⟩
 ·skip
  refine cut_no (by simp) ?_
  cbv
  refine cut_no (by simp) ?_
  cbv
  refine cut_no (by simp) ?_
  cbv
  refine cut_yes (by simp) ?_
  cbv
  refine draw_of 18 (by cbv) ?_
  cbv
  refine br_dec (fun e => ?_) (fun e => ?_)
  ·have hz : oi = none := p4n hpl (by show (0 : Int) ≤ (ip : Int); omega) rfl (List.getElem?_eq_none (by rw [enc_len] at e; (try dsimp only [ncast] at *); omega))
   cbv
   obtain ⟨q0, q1, q2, q3, q4⟩ := Z hz
   subst q0 q1 q2 q3 q4
   (refine retC rfl ?_; cbv)
   exact ⟨⟨leS_nil rfl, leS_ff rfl, leS_nil rfl, leS_nil rfl, trivial⟩, leS_ff rfl, trivial⟩
  have hl : ip < path.length := by rw [enc_len] at e; (try dsimp only [ncast] at *); omega
  obtain ⟨x, hx⟩ := get_some hl
  have hxm := List.mem_of_getElem? hx
  have po := p4 x hpl (by show (0 : Int) ≤ (ip : Int); omega) rfl hx
  have hsz := hpa x hxm
  have cf := hft x hxm
  have dv := sRgVar x.i
  have dn := sRgNum x.x
  have d := sVarSub x.i x.x (hsz.mono (by decide))
  have co := s32 (-1) (by decide) (by decide)
  have d2 := sFScale (q := ((-1 : Int) : Rat)) ((var_fl x.i).sub (num_fl (hsz.fits (by decide)))) fits_neg1 (by decide) (by decide) (m := 1) (by decide)
  rw [show (((-1 : Int) : Rat)) = (-1 : Rat) by rfl] at co d2
  obtain ⟨V, hV⟩ : ∃ V, fA (F.var x.i) = V := ⟨_, rfl⟩
  obtain ⟨X, hX⟩ : ∃ V, fA ((F.var x.i).sub (F.num x.x.q)) = V := ⟨_, rfl⟩
  obtain ⟨Y, hY⟩ : ∃ V, fA (((F.var x.i).sub (F.num x.x.q)).scale (-1)) = V := ⟨_, rfl⟩
  obtain ⟨M1, hM1⟩ : ∃ V, ratR (-1 : Rat) = V := ⟨_, rfl⟩
  have T3 := fun h => fin2 ((F.var x.i).sub (F.num x.x.q)) h
  have T4 := fun h => fin2 (((F.var x.i).sub (F.num x.x.q)).scale (-1)) h
  rw [hX] at T3 d
  rw [hV] at d
  rw [hY] at T4
  rw [hM1] at co
  have dv' : SoundS 95 [.int .i64 (fun _ => x.i)] (av V) := by subst hV; exact dv
  have d2' : SoundS 47 [av X, rv M1] (av Y) := by subst hX hY hM1; exact d2
  clear dv d2 hX hV hY hM1
  obtain ⟨fx, hfx⟩ : ∃ b, ft x = b := ⟨_, rfl⟩
  rw [hfx] at cf po
  cbv
  refine idx_at hx dc_flat dc_len ?_
  cbv
  refine callS_d okA (cf) rfl ?_
  cbv
  refine cut_bool (fun e2 => ?_) (fun e2 => ?_)
  rotate_left
  ·have hz : oi = none := by rw [po, e2]; rfl
   cbv
   obtain ⟨q0, q1, q2, q3, q4⟩ := Z hz
   subst q0 q1 q2 q3 q4
   (refine retC rfl ?_; cbv)
   exact ⟨⟨leS_nil rfl, leS_ff rfl, leS_nil rfl, leS_nil rfl, trivial⟩, leS_ff rfl, trivial⟩
  rw [if_pos e2] at po
  cbv
  refine idx_at hx dc_flat dc_len ?_
  cbv
  refine draw_mk 8 (by cbv) (by cbv) ?_
  cbv
  refine callS_d okA (dv') rfl ?_
  cbv
  refine callS_d okA (dn) rfl ?_
  cbv
  refine callS_d okA (d) rfl ?_
  cbv
  refine cut_dec (fun e3 => ?_) (fun e3 => ?_)
  ·rw [if_pos e3] at po
   have T := T3 (f6 _ (by decide) po)
   cbv
   obtain ⟨g1, g2⟩ := T
   cases g1
   subst g2
   (refine retC rfl ?_; cbv)
   exact ⟨⟨leS_refl _, leS_refl _, leS_refl _, leS_refl _, trivial⟩, leS_tt rfl, trivial⟩
  rw [if_neg e3] at po
  cbv
  refine cut_dec (fun e4 => ?_) (fun e4 => ?_)
  ·rw [if_pos e4] at po
   have T := T4 (f6 _ (by decide) po)
   cbv
   refine draw_of 3 (by cbv) ?_
   cbv
   refine callS_d okA (co) rfl ?_
   cbv
   refine callS_d okA (d2') rfl ?_
   cbv
   obtain ⟨g1, g2⟩ := T
   cases g1
   subst g2
   (refine retC rfl ?_; cbv)
   exact ⟨⟨leS_refl _, leS_refl _, leS_refl _, leS_refl _, trivial⟩, leS_tt rfl, trivial⟩
  rw [if_neg e4] at po
  cbv
  obtain ⟨q0, q1, q2, q3, q4⟩ := Z po
  subst q0 q1 q2 q3 q4
  (refine retC rfl ?_; cbv)
  exact ⟨⟨leS_nil rfl, leS_ff rfl, leS_nil rfl, leS_nil rfl, trivial⟩, leS_ff rfl, trivial⟩
 ·skip
  refine cut_no (by show ¬ k = 1; omega) ?_
  cbv
  refine cut_no (by show ¬ k = 2; omega) ?_
  cbv
  refine cut_no (by show ¬ k = 3; omega) ?_
  cbv
  refine cut_no (by show ¬ k = 4; omega) ?_
  cbv
  obtain ⟨q0, q1, q2, q3, q4⟩ := fin3 (f0 (by omega))
  subst q0 q1 q2 q3 q4
  (refine retC rfl ?_; cbv)
  exact ⟨⟨leS_nil rfl, leS_ff rfl, leS_nil rfl, leS_nil rfl, trivial⟩, leS_ff rfl, trivial⟩
end Go.Proofs.YtcanljninhfmhaaGreat

namespace Go.Proofs.YtcanljninhfmhaaGreat
open Go
set_option linter.unusedVariables false
set_option maxRecDepth 100000
set_option maxHeartbeats 4000000
theorem fIn_can {s : Scp} {r : Row} {f : F} (hc : s.q.can) (h : s.fIn r = some f) : Cn f.ts := by
 unfold Scp.fIn at h
 split at h
 ·split at h
  ·obtain ⟨x, _, rfl⟩ := Option.map_eq_some_iff.1 h
   exact sub_cn (var_cn _) Cn.nil
  ·split at h
   ·obtain ⟨x, _, rfl⟩ := Option.map_eq_some_iff.1 h
    exact sub_cn (Cn.nil : Cn (F.num _).ts) (var_cn _)
   ·split at h
    ·obtain ⟨x, hx, rfl⟩ := Option.map_eq_some_iff.1 h
     have := (hc.rows x (List.mem_of_getElem? hx)).2
     rw [add_zero this]
     exact this
    ·split at h
     ·split at h
      ·split at h
       ·split at h
        ·cases h; exact sub_cn (var_cn _) Cn.nil
        ·split at h
         ·cases h; exact scale_cn (sub_cn (var_cn _) Cn.nil)
         ·cases h
       ·cases h
      ·cases h
     ·cases h
 ·cases h
theorem fm_can {s : Scp} {r : Row} {f : F} (h : s.fm r = some f) : Cn f.ts := by
 unfold Scp.fm at h
 split at h
 ·cases h
 ·rename_i hv
  have hc : s.q.can := Qry.can_of (by cases hvv : s.q.valid with
   | true => rfl
   | false => exact absurd (.inr (.inr hvv)) hv)
  split at h
  ·exact fIn_can hc h
  ·unfold Scp.fUn at h
   split at h
   ·split at h
    ·rename_i p hp
     exact unF_cn (hc.us p (List.mem_of_getElem? hp)).2 (var_cn _) h
    ·cases h
   ·cases h
structure SumOk (s : Scp) (l : List Mult) : Prop where
 fm : ∀ m, m ∈ l → ∀ f, s.fm m.row = some f → f.fl (2^24) 5000
 c : Msz (2^20) l
 pre : ∀ i acc, sumL s F.zero (l.take i) = some acc → acc.fl (2^26) (2^30)
theorem sumL_snoc {s : Scp} {m : Mult} {f : F} (hf : s.fm m.row = some f) : ∀ {l : List Mult} {acc acc' : F}, sumL s acc l = some acc' → sumL s acc (l ++ [m]) = some (acc'.add (f.scale m.c.q))
 | [], acc, acc', h => by
  cases h
  show (match s.fm m.row with | none => none | some f => sumL s (acc.add (f.scale m.c.q)) []) = _
  rw [hf]; rfl
 | x :: r, acc, acc', h => by
  rw [List.cons_append]
  unfold sumL at h ⊢
  cases hx : s.fm x.row with
  | none => rw [hx] at h; cases h
  | some g =>
   rw [hx] at h
   exact sumL_snoc hf h
theorem takeS_snoc {α : Type} {l : List α} {i : Nat} {a : α} (h : l[i]? = some a) : l.take (i + 1) = l.take i ++ [a] := by rw [List.take_add_one, h]; rfl
theorem hfR22Sum : Pg.funcs[17]? = some Tryz.f17 := by rw [Pg_eq]; rfl
theorem sR22Sum (s : Scp) (l : List Mult) (hs : s.sz (2^20)) (hok : SumOk s l) : SoundS 17 [sv s, mlv l] (.tup [fv (s.sum l).2, .int .i64 (fun _ => (s.sum l).1)]) := by
 refine sound_fn hfR22Sum rfl rfl rfl rfl rfl ?_
 have hl := hok.c
 have cc := sRdCan l (hl.mono (by decide))
 have cf := fun r => sR21Form s r (hs.mono (by decide))
 have h0 : canM none l = false → s.sum l = (1, F.zero) := fun h => if_pos h
 have h1 : canM none l = true → sumL s F.zero l = none → s.sum l = (12, F.zero) := fun h g => by unfold Scp.sum; rw [if_neg (by rw [h]; decide), g]
 have h2 : ∀ f, canM none l = true → sumL s F.zero l = some f → s.sum l = (0, f) := fun f h g => by unfold Scp.sum; rw [if_neg (by rw [h]; decide), g]
 obtain ⟨W, hW⟩ : ∃ W, W = fA (s.sum l).2 := ⟨_, rfl⟩
 obtain ⟨e, he⟩ : ∃ e, e = (s.sum l).1 := ⟨_, rfl⟩
 rw [show fv (s.sum l).2 = av W by rw [hW], ← he]
 have g0 : canM none l = false → W = ⟨[], R0⟩ ∧ e = 1 := fun h => by rw [h0 h] at hW he; exact ⟨hW.trans fA_zero, he⟩
 have g1 : canM none l = true → sumL s F.zero l = none → W = ⟨[], R0⟩ ∧ e = 12 := fun h g => by rw [h1 h g] at hW he; exact ⟨hW.trans fA_zero, he⟩
 have g2 : ∀ f, canM none l = true → sumL s F.zero l = some f → W = fA f ∧ e = 0 := fun f h g => by rw [h2 f h g] at hW he; exact ⟨hW, he⟩
 clear h0 h1 h2 hW he
 have hll : l.length < 2^38 := hl.len
 have hsn : ∀ acc m r, sumL s acc (m :: r) = match s.fm m.row with
  | none => none
  | some f => sumL s (acc.add (f.scale m.c.q)) r := fun _ _ _ => rfl
 have hfl : ∀ m, m ∈ l → ∀ f, s.fm m.row = some f → f.fl (2^24) 5000 ∧ Cn f.ts := fun m hm f h => ⟨hok.fm m hm f h, fm_can h⟩
 have hpre := hok.pre
 have hsn' : ∀ i m f acc, l[i]? = some m → s.fm m.row = some f → sumL s F.zero (l.take i) = some acc → sumL s F.zero (l.take (i + 1)) = some (acc.add (f.scale m.c.q)) := fun i m f acc h1 h2 h3 => by rw [takeS_snoc h1]; exact sumL_snoc h2 h3
 obtain ⟨PR, hPR⟩ : ∃ PR : Nat → F → Prop, ∀ i acc, PR i acc = (sumL s F.zero (l.take i) = some acc) := ⟨_, fun _ _ => rfl⟩
 have hPR0 : PR 0 F.zero := by rw [hPR]; rfl
 simp only [← hPR] at hpre hsn'
 have hms := hl.sz
 obtain ⟨T, hT⟩ : ∃ T : F → List Mult → Option F, sumL s = T := ⟨_, rfl⟩
 have hTn : ∀ acc, T acc [] = some acc := fun acc => by rw [← hT]; rfl
 rw [hT] at hsn g1 g2
 generalize canM none l = cn at *
 clear hT hs hl hok hPR
 cbv
 refine callS' rfl okA (cc) rfl ?_
 cbv
 refine cut_bool (fun e1 => ?_) (fun e1 => ?_)
 rotate_left
 ·cbv
  obtain ⟨q1, q2⟩ := g0 e1
  subst q1 q2
  (refine retC rfl ?_; cbv)
  exact ⟨⟨leS_nil rfl, leS_ff rfl, leS_nil rfl, leS_nil rfl, trivial⟩, leS_refl _, trivial⟩
 have g1' := g1 e1
 have g2' := fun f => g2 f e1
 clear g0 g1 g2 cc
 cbv
 refine loop_n (σ := Nat × F) (fun st => ⟨[(1, mlv l), (2, .ptr 2 0), (4, .ptr 4 0), (6, .ptr 6 0), (7, .int .i64 (fun _ => (st.1 : Int)))], [(2, .box (sc s)), (4, .box [.nil, .ff, .nil, .nil]), (6, .box [tsv (fA st.2).ts, .bool (fun _ => (fA st.2).c.neg), nat (fA st.2).c.num, nat (fA st.2).c.den])]⟩)
  (fun st => st.1 ≤ l.length ∧ T F.zero l = T st.2 (l.drop st.1) ∧ PR st.1 st.2 ∧ Cn st.2.ts) (fun st => l.length - st.1)
  (0, F.zero) ⟨om, rfl, hPR0, Cn.nil⟩ (.le okZ ?_ rfl) ?_
 ·show leO _ [(2, .box (sc s)), (4, .box [.nil, .ff, .nil, .nil]), (6, .box [tsv (fA F.zero).ts, .bool (fun _ => (fA F.zero).c.neg), nat (fA F.zero).c.num, nat (fA F.zero).c.den])]
  rw [fA_zero]
  cbv
  exact ⟨⟨leS_refl _, leS_refl _, leS_refl _, leS_refl _, leS_refl _, leS_refl _, leS_refl _, leS_refl _, leS_refl _, leS_refl _, leS_refl _, leS_refl _, trivial⟩, ⟨leS_refl _, leS_refl _, leS_refl _, leS_refl _, trivial⟩, ⟨leS_nil rfl, leS_ff rfl, leS_nil rfl, leS_nil rfl, trivial⟩, trivial⟩
 intro st hst
 obtain ⟨h1, hv, ha, hcn⟩ := hst
 generalize st.1 = i at *
 generalize st.2 = acc at *
 obtain ⟨V, hV⟩ : ∃ V, fA acc = V := ⟨_, rfl⟩
 simp only [hV]
 cbv
 refine cut_dec (fun h5 => ?_) (fun h5 => ?_)
 ·have hlt := enc_lt h5
  obtain ⟨m, hm⟩ := get_some hlt
  have hmem := List.mem_of_getElem? hm
  rw [drop_of_get hm, hsn] at hv
  have cfm := cf m.row
  have hmc := hms m hmem
  have hxf : ∀ f, s.fm m.row = some f → f.fl (2^24) 5000 ∧ Cn f.ts := fun f h => hfl m hmem f h
  have hnx : ∀ f, s.fm m.row = some f → PR (i + 1) (acc.add (f.scale m.c.q)) := fun f h => hsn' i m f acc hm h ha
  have hap := hpre i acc ha
  generalize hx : s.fm m.row = o at *
  clear cf
  cases o with
  | none =>
   have hv' : T F.zero l = none := hv
   obtain ⟨q1, q2⟩ := g1' hv'
   have cfm' : SoundS 54 [sv s, rwv m.row] (.tup [av ⟨[], R0⟩, .bool (fun _ => false)]) := by
    have h : SoundS 54 [sv s, rwv m.row] (.tup [av (fA F.zero), .bool (fun _ => false)]) := cfm
    rw [fA_zero] at h
    exact h
   clear cfm hv hv' g1' g2'
   subst q1 q2
   cbv
   refine draw_ef 12 [(11, 8)] (by cbv) (by cbv) (by cbv) ?_
   cbv
   refine idx_at hm mc_flat mc_len ?_
   cbv
   refine callS_d okA (cfm') rfl ?_
   cbv
   refine cut_bool (fun e => absurd e (by decide)) (fun _ => ?_)
   cbv
   (refine retC rfl ?_; cbv)
   exact ⟨⟨leS_nil rfl, leS_ff rfl, leS_nil rfl, leS_nil rfl, trivial⟩, leS_refl _, trivial⟩
  | some f =>
   have hv' : T F.zero l = T (acc.add (f.scale m.c.q)) (l.drop (i + 1)) := hv
   obtain ⟨hf, hfc⟩ := hxf f rfl
   have b1 := hf.scale (hmc.fits (by decide))
   have cs := sRgScale (fA f) m.c ((hf.fit (by decide)).fA.mono (by decide)) (hmc.mono (by decide))
   rw [f_fA] at cs
   have ca := sFAdd hcn (scale_cn (q := m.c.q) hfc) hap b1 (by decide) (by decide) (by decide) (by decide)
   have hacc := hnx f rfl
   have hcn' : Cn (acc.add (f.scale m.c.q)).ts := hcn.mrg (scale_cn hfc)
   have cfm' : SoundS 54 [sv s, rwv m.row] (.tup [av (fA f), .bool (fun _ => true)]) := cfm
   clear cfm hv hxf b1 ha hap hnx hcn hfc
   dsimp only [fv] at cs ca
   rw [hV] at ca
   generalize hA' : acc.add (f.scale m.c.q) = acc' at *
   obtain ⟨V', hV'⟩ : ∃ V', fA acc' = V' := ⟨_, rfl⟩
   rw [hV'] at ca
   generalize fA (f.scale m.c.q) = X at *
   generalize fA f = Y at *
   cbv
   refine draw_ef 12 [(11, 8)] (by cbv) (by cbv) (by cbv) ?_
   cbv
   refine idx_at hm mc_flat mc_len ?_
   cbv
   refine callS_d okA (cfm') rfl ?_
   cbv
   refine cut_bool (fun _ => ?_) (fun e => absurd e (by decide))
   cbv
   refine draw_of 9 (by cbv) ?_
   cbv
   refine idx_at hm mc_flat mc_len ?_
   cbv
   refine callS_d okA (cs) rfl ?_
   cbv
   refine callS_d okA (ca) rfl ?_
   cbv
   refine ⟨in64_of om om, (i + 1, acc'), ⟨om, hv', hacc, hcn'⟩, om, .le okZ ?_ rfl⟩
   show leO _ [(2, .box (sc s)), (4, .box [.nil, .ff, .nil, .nil]), (6, .box [tsv (fA acc').ts, .bool (fun _ => (fA acc').c.neg), nat (fA acc').c.num, nat (fA acc').c.den])]
   rw [hV']
   cbv
   exact ⟨⟨leS_refl _, leS_refl _, leS_refl _, leS_refl _, leS_refl _, leS_refl _, leS_refl _, leS_refl _, leS_refl _, leS_refl _, leS_refl _, leS_refl _, trivial⟩, ⟨leS_refl _, leS_refl _, leS_refl _, leS_refl _, trivial⟩, ⟨leS_refl _, leS_refl _, leS_refl _, leS_refl _, trivial⟩, trivial⟩
 ·have hi : i = l.length := enc_ge h5 h1
  rw [hi, List.drop_length, hTn] at hv
  obtain ⟨q1, q2⟩ := g2' acc hv
  rw [hV] at q1
  clear g1' g2' hv
  subst q1 q2
  cbv
  (refine retC rfl ?_; cbv)
  exact ⟨⟨leS_refl _, leS_refl _, leS_refl _, leS_refl _, trivial⟩, leS_refl _, trivial⟩
end Go.Proofs.YtcanljninhfmhaaGreat

namespace Go.Proofs.YtcanljninhfmhaaGreat
open Go
set_option linter.unusedVariables false
set_option maxRecDepth 100000
set_option maxHeartbeats 4000000
theorem sumL_cn {s : Scp} : ∀ {l : List Mult} {acc f : F}, Cn acc.ts → sumL s acc l = some f → Cn f.ts
 | [], acc, f, h, e => by cases e; exact h
 | m :: r, acc, f, h, e => by
  unfold sumL at e
  cases hx : s.fm m.row with
  | none => rw [hx] at e; cases e
  | some g =>
   rw [hx] at e
   exact sumL_cn (h.mrg (scale_cn (fm_can hx))) e
theorem Scp.sum_can (s : Scp) (l : List Mult) : Cn (s.sum l).2.ts := by
 unfold Scp.sum
 split
 ·exact Cn.nil
 ·split
  ·exact Cn.nil
  ·rename_i h
   exact sumL_cn (acc := F.zero) Cn.nil h
theorem Scp.sum_fl' {s : Scp} {l : List Mult} (h : SumOk s l) : (s.sum l).2.fl (2^26) (2^30) := by
 unfold Scp.sum
 split
 ·exact zero_fl.mono (by decide) (by decide)
 ·split
  ·exact zero_fl.mono (by decide) (by decide)
  ·rename_i f hf
   exact h.pre l.length f (by rw [List.take_length]; exact hf)
def Scp.provesR (s : Scp) (f : A) (l : List Mult) : Bool := decide ((s.sum l).1 = 0) && (f.valid 4611686018427387904 && (decide ((f.f.sub (s.sum l).2).ts.length = 0) && decide (0 ≤ sgnQ (f.f.sub (s.sum l).2).c)))
theorem hfR22Prv : Pg.funcs[20]? = some Tryz.f20 := by rw [Pg_eq]; rfl
theorem sR22Prv (s : Scp) (f : A) (l : List Mult) (hs : s.sz (2^20)) (hf : f.sz (2^22)) (hft : f.ts.length ≤ 2^34) (hok : SumOk s l) : SoundS 20 [sv s, av f, mlv l] (.bool (fun _ => s.provesR f l)) := by
 refine sound_fn hfR22Prv rfl rfl rfl rfl rfl ?_
 have cs := sR22Sum s l hs hok
 have cv := sR7V f 4611686018427387904 (hf.mono (by decide))
 have fl := Scp.sum_fl' hok
 have fc := Scp.sum_can s l
 have hff : f.f.fl (2^22) (2^34) := hf.fl (by decide) hft
 have fr : Fits (2^34) (f.f.sub (s.sum l).2).c := ((hff.sub fl).mono (by decide) (Nat.le_refl _)).c
 have cb : f.valid 4611686018427387904 = true → SoundS 27 [av f, av (fA (s.sum l).2)] (av (fA (f.f.sub (s.sum l).2))) := fun h => by
  obtain ⟨h1, h2⟩ := valid_canon h
  have := sFSub h2 fc hff fl (by decide) (by decide) (by decide) (by decide)
  dsimp only [fv] at this
  rw [h1] at this
  exact this
 have cg := s35 (ratR (f.f.sub (s.sum l).2).c) (Nat.lt_of_le_of_lt (ratR_sz fr).n (by decide))
 rw [q_ratR] at cg
 have hr : s.provesR f l = (decide ((s.sum l).1 = 0) && (f.valid 4611686018427387904 && (decide ((tR (f.f.sub (s.sum l).2).ts).length = 0) && decide (0 ≤ sgnQ (f.f.sub (s.sum l).2).c)))) := by rw [tR_len]; rfl
 rw [hr]
 dsimp only [fv] at cs
 have e1 : fA (f.f.sub (s.sum l).2) = ⟨tR (f.f.sub (s.sum l).2).ts, ratR (f.f.sub (s.sum l).2).c⟩ := rfl
 rw [e1] at cb
 clear hr e1 fl fr hff hf hs hok fc
 generalize sgnQ (f.f.sub (s.sum l).2).c = sg at *
 generalize ratR (f.f.sub (s.sum l).2).c = C at *
 generalize tR (f.f.sub (s.sum l).2).ts = T at *
 generalize fA (s.sum l).2 = V at *
 generalize (s.sum l).1 = e at *
 generalize f.valid 4611686018427387904 = vd at *
 cbv
 refine callS' rfl okA (cs) rfl ?_
 cbv
 refine br_dec (fun h => ?_) (fun h => ?_)
 ·cbv
  refine callS' rfl okA (cv) rfl ?_
  cbv
  refine cut_bool (fun h2 => ?_) (fun h2 => ?_)
  ·have cb' := cb h2
   cbv
   refine callS' rfl okA (cb') rfl ?_
   cbv
   refine br_dec (fun h3 => ?_) (fun h3 => ?_)
   ·cbv
    refine callS' rfl okA (cg) rfl ?_
    cbv
    (refine retC rfl ?_; cbv)
    refine leS_bool ?_
    rw [decide_eq_true h, h2, decide_eq_true (p := T.length = 0) (by rw [enc_len] at h3; (try dsimp only [ncast] at *); omega)]
    simp
   ·cbv
    (refine retC rfl ?_; cbv)
    refine leS_ff ?_
    rw [decide_eq_false (p := T.length = 0) (by rw [enc_len] at h3; (try dsimp only [ncast] at *); omega)]
    simp
  ·cbv
   (refine retC rfl ?_; cbv)
   exact leS_ff (by rw [h2]; simp)
 ·cbv
  (refine retC rfl ?_; cbv)
  exact leS_ff (by rw [decide_eq_false h]; simp)
theorem hfR22Ref : Pg.funcs[22]? = some Tryz.f22 := by rw [Pg_eq]; rfl
theorem sR22Ref (s : Scp) (l : List Mult) (hs : s.sz (2^20)) (hok : SumOk s l) : SoundS 22 [sv s, mlv l] (.bool (fun _ => s.refutes l)) := by
 refine sound_fn hfR22Ref rfl rfl rfl rfl rfl ?_
 have cs := sR22Sum s l hs hok
 have fl := Scp.sum_fl' hok
 have cg := s35 (ratR (s.sum l).2.c) (Nat.lt_of_le_of_lt (ratR_sz fl.c).n (by decide))
 rw [q_ratR] at cg
 have hr : s.refutes l = (decide ((s.sum l).1 = 0) && (decide ((tR (s.sum l).2.ts).length = 0) && decide (sgnQ (s.sum l).2.c < 0))) := by rw [tR_len]; rfl
 rw [hr]
 dsimp only [fv] at cs
 have e1 : fA (s.sum l).2 = ⟨tR (s.sum l).2.ts, ratR (s.sum l).2.c⟩ := rfl
 rw [e1] at cs
 clear hr e1 fl hs hok
 generalize sgnQ (s.sum l).2.c = sg at *
 generalize ratR (s.sum l).2.c = C at *
 generalize tR (s.sum l).2.ts = T at *
 generalize (s.sum l).1 = e at *
 cbv
 refine callS' rfl okA (cs) rfl ?_
 cbv
 refine br_dec (fun h => ?_) (fun h => ?_)
 ·cbv
  refine br_dec (fun h3 => ?_) (fun h3 => ?_)
  ·cbv
   refine callS' rfl okA (cg) rfl ?_
   cbv
   (refine retC rfl ?_; cbv)
   refine leS_bool ?_
   rw [decide_eq_true h, decide_eq_true (p := T.length = 0) (by rw [enc_len] at h3; (try dsimp only [ncast] at *); omega)]
   simp
  ·cbv
   (refine retC rfl ?_; cbv)
   refine leS_ff ?_
   rw [decide_eq_false (p := T.length = 0) (by rw [enc_len] at h3; (try dsimp only [ncast] at *); omega)]
   simp
 ·cbv
  (refine retC rfl ?_; cbv)
  exact leS_ff (by rw [decide_eq_false h]; simp)
end Go.Proofs.YtcanljninhfmhaaGreat

namespace Go.Proofs.YtcanljninhfmhaaGreat
open Go
set_option linter.unusedVariables false
set_option maxRecDepth 100000
set_option maxHeartbeats 4000000
theorem proves_eqR {s : Scp} {g : F} {l : List Mult} (h : g.wf 2000) : s.provesR (fA g) l = s.proves (fA g) l := by
 unfold Scp.provesR Scp.proves
 rw [(h.mono (by decide)).valid, (h.mono (by decide)).valid]
end Go.Proofs.YtcanljninhfmhaaGreat

namespace Go.Proofs.YtcanljninhfmhaaGreat
open Go
set_option linter.unusedVariables false
set_option maxRecDepth 100000
set_option maxHeartbeats 4000000
end Go.Proofs.YtcanljninhfmhaaGreat
