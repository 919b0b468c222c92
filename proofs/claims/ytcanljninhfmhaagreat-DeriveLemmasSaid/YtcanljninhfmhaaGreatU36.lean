/- A part of the proof: RtC, RuA, RuB, RuC, RuD, RuE, RuF, RuG. -/
import Derived.Test.YtcanljninhfmhaaGreatU35
import Derived.Test.YtcanljninhfmhaaGreatU30
import Derived.Test.YtcanljninhfmhaaGreatU33
import Derived.Test.YtcanljninhfmhaaGreatU32
import Derived.Test.YtcanljninhfmhaaGreatU29
import Derived.Test.YtcanljninhfmhaaGreatU31
set_option linter.all false
namespace Go.Proofs.YtcanljninhfmhaaGreat
open Go
set_option maxRecDepth 100000
set_option maxHeartbeats 4000000
theorem sVarSub (i : Int) (x : R) (hx : x.sz (2^26)) : zC 27 [av (fA (F.var i)), av ⟨[], x⟩] (av (fA ((F.var i).sub (F.num x.q)))) := by
 have h := sRgSub (F.var i).ts (zE (F.var i).c) ⟨[], x⟩ (b9 i) Cn.nil ⟨by show 1 < _; decide, fun t ht => ((w5 i).t t ht).mono (by decide)⟩ ((zY (w5 i).c).mono (by decide)) ⟨⟨by show 0 < _; decide, fun t ht => absurd ht (by simp)⟩, hx⟩ (by show 1 + 0 < _; decide)
 rw [zW] at h
 exact h
theorem sNumSub (i : Int) (x : R) (hx : x.sz (2^26)) : zC 27 [av ⟨[], x⟩, av (fA (F.var i))] (av (fA ((F.num x.q).sub (F.var i)))) := by
 have h := sRgSub [] x (fA (F.var i)) Cn.nil (by rw [show (fA (F.var i)).ts = tR (F.var i).ts from rfl, tq_tR]; exact b9 i) ⟨by show 0 < _; decide, fun t ht => absurd ht (by simp)⟩ (hx.mono (by decide)) ((eJ (w5 i) (by decide)).mono (by decide)) (by rw [show (fA (F.var i)).ts = tR (F.var i).ts from rfl, xZ]; show 0 + 1 < _; decide)
 rw [wO] at h
 exact h
theorem fUn_none {s : Scp} {r : Row} (h : 14 ≤ r.k) : s.fUn r = none := by
 unfold Scp.fUn
 split
 ·split
  ·unfold unF
   rw [if_neg (by omega), if_neg (by omega), if_neg (by omega), if_neg (by omega), if_neg (by omega), if_neg (by omega), if_neg (by omega), if_neg (by omega), if_neg (by omega)]
  ·rfl
 ·rfl
theorem sR21Form (s : Scp) (r : Row) (hs : s.sz (2^20)) : zC 54 [sv s, rwv r] (.tup [fv ((s.fm r).getD F.zero), .bool (fun _ => (s.fm r).isSome)]) := by
 refine sF Tryz.f54 ?_
 have cv := sR21V s.q (hs.q.mono (by decide))
 have cun := fun (h : s.q.valid = true) => sR21Un s r hs (Qry.can_of h) (Qry.vok_of h).n1 (Qry.vok_of h).n2 (Qry.vok_of h).ul (Qry.vok_of h).up
 have crw := fun (h : s.q.valid = true) => (Qry.can_of h).rows
 have hft : ∀ d, d ∈ s.path → zC 107 [qv s.q, dv d] (.bool (fun _ => d.fits s.q)) := fun d hd => sR21F0 s.q d ((hs.path.sz d hd).mono (by decide))
 have f2 : s.q.valid = false → s.fm r = none := fun h => if_pos (.inr (.inr h))
 have f0 : r.k < 1 → s.fm r = none := fun h => if_pos (.inl h)
 have f3 : s.q.valid = true → 1 ≤ r.k → r.k ≤ 4 → s.fm r = s.fIn r := fun h h1 h2 => by
  unfold Scp.fm
  rw [if_neg (by rw [h]; simp; omega), if_pos h2]
 have f4 : s.q.valid = true → 5 ≤ r.k → s.fm r = s.fUn r := fun h h1 => by
  by_cases h14 : 14 ≤ r.k
  ·rw [fUn_none h14]; exact if_pos (.inr (.inl h14))
  unfold Scp.fm
  rw [if_neg (by rw [h]; simp; omega), if_neg (by omega)]
 have fno : ¬ (r.plain = true ∧ 0 ≤ r.i) → s.fIn r = none := fun h => if_neg h
 have p1 : r.plain = true → 0 ≤ r.i → r.k = 1 → s.fIn r = s.q.r.lo[r.i.toNat]?.map fun x => (F.var r.i).sub (F.num x.q) := fun h1 h2 h3 => by unfold Scp.fIn; rw [if_pos ⟨h1, h2⟩, if_pos h3]
 have p2 : r.plain = true → 0 ≤ r.i → r.k = 2 → s.fIn r = s.q.r.hi[r.i.toNat]?.map fun x => (F.num x.q).sub (F.var r.i) := fun h1 h2 h3 => by unfold Scp.fIn; rw [if_pos ⟨h1, h2⟩, if_neg (by omega), if_pos h3]
 have p3 : r.plain = true → 0 ≤ r.i → r.k = 3 → s.fIn r = s.q.r.rows[r.i.toNat]?.map fun f => f.f.add F.zero := fun h1 h2 h3 => by unfold Scp.fIn; rw [if_pos ⟨h1, h2⟩, if_neg (by omega), if_neg (by omega), if_pos h3]
 have p4 : ∀ d, r.plain = true → 0 ≤ r.i → r.k = 4 → s.path[r.i.toNat]? = some d → s.fIn r = if d.fits s.q = true then (if d.k = 3 then some ((F.var d.i).sub (F.num d.x.q)) else if d.k = 4 then some (((F.var d.i).sub (F.num d.x.q)).scale (-1)) else none) else none := fun d h1 h2 h3 h4 => by unfold Scp.fIn; rw [if_pos ⟨h1, h2⟩, if_neg (by omega), if_neg (by omega), if_neg (by omega), if_pos h3, h4]
 have p4n : r.plain = true → 0 ≤ r.i → r.k = 4 → s.path[r.i.toNat]? = none → s.fIn r = none := fun h1 h2 h3 h4 => by unfold Scp.fIn; rw [if_pos ⟨h1, h2⟩, if_neg (by omega), if_neg (by omega), if_neg (by omega), if_pos h3, h4]
 have hlo := hs.q.r.lo.sz
 have hhi := hs.q.r.hi.sz
 have hpa := hs.path.sz
 obtain ⟨ft, hftd⟩ : ∃ ft : Dec → Bool, ∀ d, ft d = d.fits s.q := ⟨_, fun _ => rfl⟩
 simp only [← hftd] at hft p4
 clear hftd
 obtain ⟨o, ho⟩ : ∃ o, o = s.fm r := ⟨_, rfl⟩
 rw [← ho] at f0 f2 f3 f4 ⊢
 obtain ⟨W, hW⟩ : ∃ W, W = fA (o.getD F.zero) := ⟨_, rfl⟩
 obtain ⟨b, hb⟩ : ∃ b, b = o.isSome := ⟨_, rfl⟩
 rw [show fv (o.getD F.zero) = av W by rw [hW], ← hb]
 have fin2 : ∀ f, o = some f → W = fA f ∧ b = true := fun f h => by rw [h] at hW hb; exact ⟨hW, hb⟩
 have fin1 : o = none → W = ⟨[], R0⟩ ∧ b = false := fun h => by
  rw [h] at hW hb
  exact ⟨hW.trans uA, hb⟩
 obtain ⟨wt, w1, w2, w3⟩ := W
 have fin3 : o = none → wt = [] ∧ w1 = false ∧ w2 = [] ∧ w3 = [] ∧ b = false := fun h => by
  obtain ⟨h1, h2⟩ := fin1 h
  simp only [A.mk.injEq, R.mk.injEq] at h1
  exact ⟨h1.1, h1.2.1, h1.2.2.1, h1.2.2.2, h2⟩
 clear fin1
 have g4 : s.q.valid = true → 5 ≤ r.k → zC 106 [sv s, rwv r] (.tup [av ⟨wt, w1, w2, w3⟩, .bool (fun _ => b)]) := fun h h1 => by
  rw [hW, hb, f4 h h1]
  exact cun h
 clear hW hb f4 cun ho
 generalize s.q.valid = vd at *
 generalize s.fIn r = oi at *
 obtain ⟨⟨⟨gn, us, os⟩, ⟨lo, hi, rows⟩, ⟨ts, c1, c2, c3⟩⟩, path, lems⟩ := s
 obtain ⟨k, i, rlo, rhi⟩ := r
 simp only [Row.plain] at f0 f2 f3 fno p1 p2 p3 p4 p4n hlo hhi hpa crw hft g4
 cbv
 refine cA cv ?_
 cbv
 refine zT (fun ev => ?_) (fun ev => ?_)
 rotate_left
 ·cbv
  obtain ⟨q0, q1, q2, q3, q4⟩ := fin3 (f2 ev)
  subst q0 q1 q2 q3 q4
  (refine rC ?_; cbv)
  exact okA
 cbv
 refine zF (fun e5 => ?_) (fun e5 => ?_)
 ·have g := g4 ev e5
  cbv
  refine cA g ?_
  cbv
  (refine rC ?_; cbv)
  exact okA
 dsimp only at e5
 have f5 : oi = none → o = none := fun h => by
  by_cases h1 : k < 1
  ·exact f0 h1
  ·rw [f3 ev (by omega) (by omega), h]
 have f6 : ∀ f, 1 ≤ k → oi = some f → o = some f := fun f h1 h => by rw [f3 ev h1 (by omega), h]
 clear g4 f2 cv f3
 have Z := fun (h : oi = none) => fin3 (f5 h)
 clear f5
 cbv
 refine zQ (fun e1 => ?_) (fun e1 => ?_)
 rotate_left
 ·have hz : oi = none := fno (by dsimp only at e1; simp [e1])
  cbv
  obtain ⟨q0, q1, q2, q3, q4⟩ := Z hz
  subst q0 q1 q2 q3 q4
  (refine rC ?_; cbv)
  exact okA
 cbv
 refine zQ (fun e2 => ?_) (fun e2 => ?_)
 rotate_left
 ·have hz : oi = none := fno (by dsimp only at e2; simp [e2])
  cbv
  obtain ⟨q0, q1, q2, q3, q4⟩ := Z hz
  subst q0 q1 q2 q3 q4
  (refine rC ?_; cbv)
  exact okA
 cbv
 refine zF (fun e3 => ?_) (fun e3 => ?_)
 ·have hz : oi = none := fno (by dsimp only at e3; omega)
  cbv
  obtain ⟨q0, q1, q2, q3, q4⟩ := Z hz
  subst q0 q1 q2 q3 q4
  (refine rC ?_; cbv)
  exact okA
 cbv
 have hpl : (decide (rlo = 0) && decide (rhi = 0)) = true := by dsimp only at e1 e2; simp_all
 obtain ⟨ip, hip⟩ : ∃ j : Nat, i = (j : Int) := ⟨i.toNat, by dsimp only at e3; omega⟩
 subst hip
 simp only [Int.toNat_natCast] at p1 p2 p3 p4 p4n
 have hk : k = 1 ∨ k = 2 ∨ k = 3 ∨ k = 4 ∨ k < 1 := by omega
 rcases hk with rfl | rfl | rfl | rfl | hk
 ·refine xO (by simp) ?_
  cbv
  refine zF (fun e => ?_) (fun e => ?_)
  ·have hl := gC e
   obtain ⟨x, hx⟩ := zX hl
   have hxm := List.mem_of_getElem? hx
   have po := p1 hpl (by show (0 : Int) ≤ (ip : Int); omega) rfl
   rw [hx] at po
   have T := fin2 _ (f6 _ (by decide) po)
   have dv := rY (ip : Int)
   have dn := rZ x
   have d := sVarSub (ip : Int) x ((hlo x hxm).mono (by decide))
   obtain ⟨V, hV⟩ : ∃ V, fA (F.var (ip : Int)) = V := ⟨_, rfl⟩
   obtain ⟨X, hX⟩ : ∃ V, fA ((F.var (ip : Int)).sub (F.num x.q)) = V := ⟨_, rfl⟩
   rw [hX] at T d
   rw [hV] at d
   have dv' : zC 95 [.int .i64 (fun _ => (ip : Int))] (av V) := by subst hV; exact dv
   clear dv hX hV
   cbv
   refine zO 11 (by cbv) ?_
   cbv
   refine dA dv' ?_
   cbv
   refine yV hx xW wQ ?_
   cbv
   refine dA dn ?_
   cbv
   refine dA d ?_
   cbv
   obtain ⟨g1, g2⟩ := T
   cases g1
   subst g2
   (refine rC ?_; cbv)
   exact okA
  ·have hz : oi = none := by
    have hl : ¬ ip < lo.length := fun h => e (by rw [zA]; show (ip : Int) < (lo.length : Int); omega)
    rw [p1 hpl (by show (0 : Int) ≤ (ip : Int); omega) rfl, List.getElem?_eq_none (by omega)]; rfl
   cbv
   obtain ⟨q0, q1, q2, q3, q4⟩ := Z hz
   subst q0 q1 q2 q3 q4
   (refine rC ?_; cbv)
   exact okA
 ·skip
  refine z6 (by simp) ?_
  cbv
  refine xO (by simp) ?_
  cbv
  refine zF (fun e => ?_) (fun e => ?_)
  ·have hl := gC e
   obtain ⟨x, hx⟩ := zX hl
   have hxm := List.mem_of_getElem? hx
   have po := p2 hpl (by show (0 : Int) ≤ (ip : Int); omega) rfl
   rw [hx] at po
   have T := fin2 _ (f6 _ (by decide) po)
   have dv := rY (ip : Int)
   have dn := rZ x
   have d := sNumSub (ip : Int) x ((hhi x hxm).mono (by decide))
   obtain ⟨V, hV⟩ : ∃ V, fA (F.var (ip : Int)) = V := ⟨_, rfl⟩
   obtain ⟨X, hX⟩ : ∃ V, fA ((F.num x.q).sub (F.var (ip : Int))) = V := ⟨_, rfl⟩
   rw [hX] at T d
   rw [hV] at d
   have dv' : zC 95 [.int .i64 (fun _ => (ip : Int))] (av V) := by subst hV; exact dv
   clear dv hX hV
   cbv
   refine zO 11 (by cbv) ?_
   cbv
   refine yV hx xW wQ ?_
   cbv
   refine dA dn ?_
   cbv
   refine dA dv' ?_
   cbv
   refine dA d ?_
   cbv
   obtain ⟨g1, g2⟩ := T
   cases g1
   subst g2
   (refine rC ?_; cbv)
   exact okA
  ·have hz : oi = none := by
    have hl : ¬ ip < hi.length := fun h => e (by rw [zA]; show (ip : Int) < (hi.length : Int); omega)
    rw [p2 hpl (by show (0 : Int) ≤ (ip : Int); omega) rfl, List.getElem?_eq_none (by omega)]; rfl
   cbv
   obtain ⟨q0, q1, q2, q3, q4⟩ := Z hz
   subst q0 q1 q2 q3 q4
   (refine rC ?_; cbv)
   exact okA
 ·skip
  refine z6 (by simp) ?_
  cbv
  refine z6 (by simp) ?_
  cbv
  refine xO (by simp) ?_
  cbv
  refine zF (fun e => ?_) (fun e => ?_)
  ·have hl := gC e
   obtain ⟨x, hx⟩ := zX hl
   obtain ⟨w1', w2'⟩ := crw ev x (List.mem_of_getElem? hx)
   have po := p3 hpl (by show (0 : Int) ≤ (ip : Int); omega) rfl
   rw [hx] at po
   have T := fin2 (x.f.add F.zero) (f6 _ (by decide) po)
   rw [add_zero w2', w1'] at T
   cbv
   refine yV hx uX jN ?_
   cbv
   obtain ⟨g1, g2⟩ := T
   cases g1
   subst g2
   (refine rC ?_; cbv)
   exact okA
  ·have hz : oi = none := by
    have hl : ¬ ip < rows.length := fun h => e (by rw [zA]; show (ip : Int) < (rows.length : Int); omega)
    rw [p3 hpl (by show (0 : Int) ≤ (ip : Int); omega) rfl, List.getElem?_eq_none (by omega)]; rfl
   cbv
   obtain ⟨q0, q1, q2, q3, q4⟩ := Z hz
   subst q0 q1 q2 q3 q4
   (refine rC ?_; cbv)
   exact okA
 ·skip
  refine z6 (by simp) ?_
  cbv
  refine z6 (by simp) ?_
  cbv
  refine z6 (by simp) ?_
  cbv
  refine xO (by simp) ?_
  cbv
  refine zO 18 (by cbv) ?_
  cbv
  refine zQ (fun e => ?_) (fun e => ?_)
  ·have hz : oi = none := p4n hpl (by show (0 : Int) ≤ (ip : Int); omega) rfl (List.getElem?_eq_none (by rw [zA] at e; (try dsimp only [zG] at *); omega))
   cbv
   obtain ⟨q0, q1, q2, q3, q4⟩ := Z hz
   subst q0 q1 q2 q3 q4
   (refine rC ?_; cbv)
   exact okA
  have hl : ip < path.length := by rw [zA] at e; (try dsimp only [zG] at *); omega
  obtain ⟨x, hx⟩ := zX hl
  have hxm := List.mem_of_getElem? hx
  have po := p4 x hpl (by show (0 : Int) ≤ (ip : Int); omega) rfl hx
  have hsz := hpa x hxm
  have cf := hft x hxm
  have dv := rY x.i
  have dn := rZ x.x
  have d := sVarSub x.i x.x (hsz.mono (by decide))
  have co := s32 (-1) (by decide) (by decide)
  have d2 := bE (q := ((-1 : Int) : Rat)) ((w5 x.i).sub (wR (hsz.fits (by decide)))) xU (by decide) (by decide) (m := 1) (by decide)
  rw [show (((-1 : Int) : Rat)) = (-1 : Rat) by rfl] at co d2
  obtain ⟨V, hV⟩ : ∃ V, fA (F.var x.i) = V := ⟨_, rfl⟩
  obtain ⟨X, hX⟩ : ∃ V, fA ((F.var x.i).sub (F.num x.x.q)) = V := ⟨_, rfl⟩
  obtain ⟨Y, hY⟩ : ∃ V, fA (((F.var x.i).sub (F.num x.x.q)).scale (-1)) = V := ⟨_, rfl⟩
  obtain ⟨M1, hM1⟩ : ∃ V, zE (-1 : Rat) = V := ⟨_, rfl⟩
  have T3 := fun h => fin2 ((F.var x.i).sub (F.num x.x.q)) h
  have T4 := fun h => fin2 (((F.var x.i).sub (F.num x.x.q)).scale (-1)) h
  rw [hX] at T3 d
  rw [hV] at d
  rw [hY] at T4
  rw [hM1] at co
  have dv' : zC 95 [.int .i64 (fun _ => x.i)] (av V) := by subst hV; exact dv
  have d2' : zC 47 [av X, rv M1] (av Y) := by subst hX hY hM1; exact d2
  clear dv d2 hX hV hY hM1
  obtain ⟨fx, hfx⟩ : ∃ b, ft x = b := ⟨_, rfl⟩
  rw [hfx] at cf po
  cbv
  refine yV hx dI sB ?_
  cbv
  refine dA cf ?_
  cbv
  refine zT (fun e2 => ?_) (fun e2 => ?_)
  rotate_left
  ·have hz : oi = none := by rw [po, e2]; rfl
   cbv
   obtain ⟨q0, q1, q2, q3, q4⟩ := Z hz
   subst q0 q1 q2 q3 q4
   (refine rC ?_; cbv)
   exact okA
  rw [if_pos e2] at po
  cbv
  refine yV hx dI sB ?_
  cbv
  refine uW 8 (by cbv) (by cbv) ?_
  cbv
  refine dA dv' ?_
  cbv
  refine dA dn ?_
  cbv
  refine dA d ?_
  cbv
  refine zF (fun e3 => ?_) (fun e3 => ?_)
  ·rw [if_pos e3] at po
   have T := T3 (f6 _ (by decide) po)
   cbv
   obtain ⟨g1, g2⟩ := T
   cases g1
   subst g2
   (refine rC ?_; cbv)
   exact okA
  rw [if_neg e3] at po
  cbv
  refine zF (fun e4 => ?_) (fun e4 => ?_)
  ·rw [if_pos e4] at po
   have T := T4 (f6 _ (by decide) po)
   cbv
   refine zO 3 (by cbv) ?_
   cbv
   refine dA co ?_
   cbv
   refine dA d2' ?_
   cbv
   obtain ⟨g1, g2⟩ := T
   cases g1
   subst g2
   (refine rC ?_; cbv)
   exact okA
  rw [if_neg e4] at po
  cbv
  obtain ⟨q0, q1, q2, q3, q4⟩ := Z po
  subst q0 q1 q2 q3 q4
  (refine rC ?_; cbv)
  exact okA
 ·skip
  refine z6 (by show ¬ k = 1; omega) ?_
  cbv
  refine z6 (by show ¬ k = 2; omega) ?_
  cbv
  refine z6 (by show ¬ k = 3; omega) ?_
  cbv
  refine z6 (by show ¬ k = 4; omega) ?_
  cbv
  obtain ⟨q0, q1, q2, q3, q4⟩ := fin3 (f0 (by omega))
  subst q0 q1 q2 q3 q4
  (refine rC ?_; cbv)
  exact okA
theorem fIn_can {s : Scp} {r : Row} {f : F} (hc : s.q.can) (h : s.fIn r = some f) : Cn f.ts := by
 unfold Scp.fIn at h
 split at h
 ·split at h
  ·obtain ⟨x, _, rfl⟩ := Option.map_eq_some_iff.1 h
   exact lY (b9 _) Cn.nil
  ·split at h
   ·obtain ⟨x, _, rfl⟩ := Option.map_eq_some_iff.1 h
    exact lY (Cn.nil : Cn (F.num _).ts) (b9 _)
   ·split at h
    ·obtain ⟨x, hx, rfl⟩ := Option.map_eq_some_iff.1 h
     have := (hc.rows x (List.mem_of_getElem? hx)).2
     rw [add_zero this]
     exact this
    ·split at h
     ·split at h
      ·split at h
       ·split at h
        ·cases h; exact lY (b9 _) Cn.nil
        ·split at h
         ·cases h; exact dX (lY (b9 _) Cn.nil)
         ·cases h
       ·cases h
      ·cases h
     ·cases h
 ·cases h
theorem fm_can {s : Scp} {r : Row} {f : F} (h : s.fm r = some f) : Cn f.ts := by
 unfold Scp.fm at h
 split at h
 ·cases h
 ·rename_i hv
  have hc : s.q.can := Qry.can_of (by cases hvv : s.q.valid with
   | true => rfl
   | false => exact absurd (.inr (.inr hvv)) hv)
  split at h
  ·exact fIn_can hc h
  ·unfold Scp.fUn at h
   split at h
   ·split at h
    ·rename_i p hp
     exact unF_cn (hc.us p (List.mem_of_getElem? hp)).2 (b9 _) h
    ·cases h
   ·cases h
structure SumOk (s : Scp) (l : List Mult) : Prop where
 fm : ∀ m, m ∈ l → ∀ f, s.fm m.row = some f → f.fl (2^24) 5000
 c : Msz (2^20) l
 pre : ∀ i acc, sumL s F.zero (l.take i) = some acc → acc.fl (2^26) (2^30)
theorem oZ {s : Scp} {m : Mult} {f : F} (hf : s.fm m.row = some f) : ∀ {l : List Mult} {acc acc' : F}, sumL s acc l = some acc' → sumL s acc (l ++ [m]) = some (acc'.add (f.scale m.c.q))
 | [], acc, acc', h => by
  cases h
  show (match s.fm m.row with | none => none | some f => sumL s (acc.add (f.scale m.c.q)) []) = _
  rw [hf]; rfl
 | x :: r, acc, acc', h => by
  rw [List.cons_append]
  unfold sumL at h ⊢
  cases hx : s.fm x.row with
  | none => rw [hx] at h; cases h
  | some g =>
   rw [hx] at h
   exact oZ hf h
theorem lW {α : Type} {l : List α} {i : Nat} {a : α} (h : l[i]? = some a) : l.take (i + 1) = l.take i ++ [a] := by rw [List.take_add_one, h]; rfl
theorem sR22Sum (s : Scp) (l : List Mult) (hs : s.sz (2^20)) (hok : SumOk s l) : zC 17 [sv s, mlv l] (.tup [fv (s.sum l).2, .int .i64 (fun _ => (s.sum l).1)]) := by
 refine sF Tryz.f17 ?_
 have hl := hok.c
 have cc := sRdCan l (hl.mono (by decide))
 have cf := fun r => sR21Form s r (hs.mono (by decide))
 have h0 : vH none l = false → s.sum l = (1, F.zero) := fun h => if_pos h
 have h1 : vH none l = true → sumL s F.zero l = none → s.sum l = (12, F.zero) := fun h g => by unfold Scp.sum; rw [if_neg (by rw [h]; decide), g]
 have h2 : ∀ f, vH none l = true → sumL s F.zero l = some f → s.sum l = (0, f) := fun f h g => by unfold Scp.sum; rw [if_neg (by rw [h]; decide), g]
 obtain ⟨W, hW⟩ : ∃ W, W = fA (s.sum l).2 := ⟨_, rfl⟩
 obtain ⟨e, he⟩ : ∃ e, e = (s.sum l).1 := ⟨_, rfl⟩
 rw [show fv (s.sum l).2 = av W by rw [hW], ← he]
 have g0 : vH none l = false → W = ⟨[], R0⟩ ∧ e = 1 := fun h => by rw [h0 h] at hW he; exact ⟨hW.trans uA, he⟩
 have g1 : vH none l = true → sumL s F.zero l = none → W = ⟨[], R0⟩ ∧ e = 12 := fun h g => by rw [h1 h g] at hW he; exact ⟨hW.trans uA, he⟩
 have g2 : ∀ f, vH none l = true → sumL s F.zero l = some f → W = fA f ∧ e = 0 := fun f h g => by rw [h2 f h g] at hW he; exact ⟨hW, he⟩
 clear h0 h1 h2 hW he
 have hll : l.length < 2^38 := hl.len
 have hsn : ∀ acc m r, sumL s acc (m :: r) = match s.fm m.row with
  | none => none
  | some f => sumL s (acc.add (f.scale m.c.q)) r := fun _ _ _ => rfl
 have hfl : ∀ m, m ∈ l → ∀ f, s.fm m.row = some f → f.fl (2^24) 5000 ∧ Cn f.ts := fun m hm f h => ⟨hok.fm m hm f h, fm_can h⟩
 have hpre := hok.pre
 have hsn' : ∀ i m f acc, l[i]? = some m → s.fm m.row = some f → sumL s F.zero (l.take i) = some acc → sumL s F.zero (l.take (i + 1)) = some (acc.add (f.scale m.c.q)) := fun i m f acc h1 h2 h3 => by rw [lW h1]; exact oZ h2 h3
 obtain ⟨PR, hPR⟩ : ∃ PR : Nat → F → Prop, ∀ i acc, PR i acc = (sumL s F.zero (l.take i) = some acc) := ⟨_, fun _ _ => rfl⟩
 have hPR0 : PR 0 F.zero := by rw [hPR]; rfl
 simp only [← hPR] at hpre hsn'
 have hms := hl.sz
 obtain ⟨T, hT⟩ : ∃ T : F → List Mult → Option F, sumL s = T := ⟨_, rfl⟩
 have hTn : ∀ acc, T acc [] = some acc := fun acc => by rw [← hT]; rfl
 rw [hT] at hsn g1 g2
 generalize vH none l = cn at *
 clear hT hs hl hok hPR
 cbv
 refine cA cc ?_
 cbv
 refine zT (fun e1 => ?_) (fun e1 => ?_)
 rotate_left
 ·cbv
  obtain ⟨q1, q2⟩ := g0 e1
  subst q1 q2
  (refine rC ?_; cbv)
  exact okA
 have g1' := g1 e1
 have g2' := fun f => g2 f e1
 clear g0 g1 g2 cc
 cbv
 refine z5 (σ := Nat × F) (fun st => ⟨[(1, mlv l), (2, .ptr 2 0), (4, .ptr 4 0), (6, .ptr 6 0), (7, .int .i64 (fun _ => (st.1 : Int)))], [(2, .box (sc s)), (4, .box [.nil, .ff, .nil, .nil]), (6, .box [tsv (fA st.2).ts, .bool (fun _ => (fA st.2).c.neg), nat (fA st.2).c.num, nat (fA st.2).c.den])]⟩)
  (fun st => st.1 ≤ l.length ∧ T F.zero l = T st.2 (l.drop st.1) ∧ PR st.1 st.2 ∧ Cn st.2.ts) (fun st => l.length - st.1)
  (0, F.zero) ⟨om, rfl, hPR0, Cn.nil⟩ (.le okZ ?_ rfl) ?_
 ·show leO _ [(2, .box (sc s)), (4, .box [.nil, .ff, .nil, .nil]), (6, .box [tsv (fA F.zero).ts, .bool (fun _ => (fA F.zero).c.neg), nat (fA F.zero).c.num, nat (fA F.zero).c.den])]
  rw [uA]
  cbv
  exact okA
 intro st hst
 obtain ⟨h1, hv, ha, hcn⟩ := hst
 generalize st.1 = i at *
 generalize st.2 = acc at *
 obtain ⟨V, hV⟩ : ∃ V, fA acc = V := ⟨_, rfl⟩
 simp only [hV]
 cbv
 refine zF (fun h5 => ?_) (fun h5 => ?_)
 ·have hlt := gC h5
  obtain ⟨m, hm⟩ := zX hlt
  have hmem := List.mem_of_getElem? hm
  rw [yB hm, hsn] at hv
  have cfm := cf m.row
  have hmc := hms m hmem
  have hxf : ∀ f, s.fm m.row = some f → f.fl (2^24) 5000 ∧ Cn f.ts := fun f h => hfl m hmem f h
  have hnx : ∀ f, s.fm m.row = some f → PR (i + 1) (acc.add (f.scale m.c.q)) := fun f h => hsn' i m f acc hm h ha
  have hap := hpre i acc ha
  generalize hx : s.fm m.row = o at *
  clear cf
  cases o with
  | none =>
   have hv' : T F.zero l = none := hv
   obtain ⟨q1, q2⟩ := g1' hv'
   have cfm' : zC 54 [sv s, rwv m.row] (.tup [av ⟨[], R0⟩, .bool (fun _ => false)]) := by
    have h : zC 54 [sv s, rwv m.row] (.tup [av (fA F.zero), .bool (fun _ => false)]) := cfm
    rw [uA] at h
    exact h
   clear cfm hv hv' g1' g2'
   subst q1 q2
   cbv
   refine vL 12 [(11, 8)] (by cbv) (by cbv) (by cbv) ?_
   cbv
   refine yV hm qG wM ?_
   cbv
   refine dA cfm' ?_
   cbv
   refine zT (fun e => absurd e (by decide)) (fun _ => ?_)
   cbv
   (refine rC ?_; cbv)
   exact okA
  | some f =>
   have hv' : T F.zero l = T (acc.add (f.scale m.c.q)) (l.drop (i + 1)) := hv
   obtain ⟨hf, hfc⟩ := hxf f rfl
   have b1 := hf.scale (hmc.fits (by decide))
   have cs := iE (fA f) m.c ((hf.fit (by decide)).fA.mono (by decide)) (hmc.mono (by decide))
   rw [wO] at cs
   have ca := sFAdd hcn (dX (q := m.c.q) hfc) hap b1 (by decide) (by decide) (by decide) (by decide)
   have hacc := hnx f rfl
   have hcn' : Cn (acc.add (f.scale m.c.q)).ts := hcn.mrg (dX hfc)
   have cfm' : zC 54 [sv s, rwv m.row] (.tup [av (fA f), .bool (fun _ => true)]) := cfm
   clear cfm hv hxf b1 ha hap hnx hcn hfc
   dsimp only [fv] at cs ca
   rw [hV] at ca
   generalize hA' : acc.add (f.scale m.c.q) = acc' at *
   obtain ⟨V', hV'⟩ : ∃ V', fA acc' = V' := ⟨_, rfl⟩
   rw [hV'] at ca
   generalize fA (f.scale m.c.q) = X at *
   generalize fA f = Y at *
   cbv
   refine vL 12 [(11, 8)] (by cbv) (by cbv) (by cbv) ?_
   cbv
   refine yV hm qG wM ?_
   cbv
   refine dA cfm' ?_
   cbv
   refine zT (fun _ => ?_) (fun e => absurd e (by decide))
   cbv
   refine zO 9 (by cbv) ?_
   cbv
   refine yV hm qG wM ?_
   cbv
   refine dA cs ?_
   cbv
   refine dA ca ?_
   cbv
   refine ⟨zH om om, (i + 1, acc'), ⟨om, hv', hacc, hcn'⟩, om, .le okZ ?_ rfl⟩
   show leO _ [(2, .box (sc s)), (4, .box [.nil, .ff, .nil, .nil]), (6, .box [tsv (fA acc').ts, .bool (fun _ => (fA acc').c.neg), nat (fA acc').c.num, nat (fA acc').c.den])]
   rw [hV']
   cbv
   exact okA
 ·have hi : i = l.length := aY h5 h1
  rw [hi, List.drop_length, hTn] at hv
  obtain ⟨q1, q2⟩ := g2' acc hv
  rw [hV] at q1
  clear g1' g2' hv
  subst q1 q2
  cbv
  (refine rC ?_; cbv)
  exact okA
theorem sumL_cn {s : Scp} : ∀ {l : List Mult} {acc f : F}, Cn acc.ts → sumL s acc l = some f → Cn f.ts
 | [], acc, f, h, e => by cases e; exact h
 | m :: r, acc, f, h, e => by
  unfold sumL at e
  cases hx : s.fm m.row with
  | none => rw [hx] at e; cases e
  | some g =>
   rw [hx] at e
   exact sumL_cn (h.mrg (dX (fm_can hx))) e
theorem Scp.sum_can (s : Scp) (l : List Mult) : Cn (s.sum l).2.ts := by
 unfold Scp.sum
 split
 ·exact Cn.nil
 ·split
  ·exact Cn.nil
  ·rename_i h
   exact sumL_cn (acc := F.zero) Cn.nil h
theorem Scp.sum_fl' {s : Scp} {l : List Mult} (h : SumOk s l) : (s.sum l).2.fl (2^26) (2^30) := by
 unfold Scp.sum
 split
 ·exact zero_fl.mono (by decide) (by decide)
 ·split
  ·exact zero_fl.mono (by decide) (by decide)
  ·rename_i f hf
   exact h.pre l.length f (by rw [List.take_length]; exact hf)


theorem iF (s : Scp) (unit : Int) (hs : Lsz (2^20) s.lems) : zC 111 [sv s, .int .i64 (fun _ => unit)] (.tup [.int .i64 (fun _ => ((s.best unit).1 : Int)), .int .i64 (fun _ => ((s.best unit).2 : Int))]) := by
 refine sF Tryz.f111 ?_
 have hll := hs.len
 obtain ⟨⟨⟨gn, us, os⟩, ⟨lo, hi, rows⟩, ⟨ts, c1, c2, c3⟩⟩, path, L⟩ := s
 dsimp only at hs hll
 have cc : ∀ m m', m ∈ L → m' ∈ L → zC 35 [rv m.v, rv m'.v] (.int .i64 (fun _ => x6 m.v.q m'.v.q)) := fun m m' h h' => s42 m.v m'.v ((hs.sz m h).mono (by decide)) ((hs.sz m' h').mono (by decide))
 have hst : ∀ n m r b, gE L unit n (m :: r) b = gE L unit (n + 1) r (if m.u = unit then (if m.up = true then (if b.2 = 0 ∨ x6 m.v.q (wE L b.2) < 0 then (b.1, n + 1) else b) else (if b.1 = 0 ∨ 0 < x6 m.v.q (wE L b.1) then (n + 1, b.2) else b)) else b) := fun _ _ _ _ => rfl
 have hva : ∀ k m, L[k - 1]? = some m → wE L k = m.v.q := fun k m h => by unfold wE; rw [h]; rfl
 have hni : ∀ n b, gE L unit n [] b = b := fun _ _ => rfl
 have hgoal : ((⟨⟨⟨gn, us, os⟩, ⟨lo, hi, rows⟩, ⟨ts, c1, c2, c3⟩⟩, path, L⟩ : Scp).best unit) = gE L unit 0 L (0, 0) := rfl
 rw [hgoal]
 obtain ⟨B, hB⟩ : ∃ B, gE L unit 0 L (0, 0) = B := ⟨_, rfl⟩
 rw [hB]
 obtain ⟨B1, B2⟩ := B
 dsimp only
 generalize gE L unit = BG at *
 clear hgoal
 cbv
 refine z5 (σ := Nat × Nat × Nat) (fun st => ⟨[(1, .int .i64 (fun _ => unit)), (2, .ptr 2 0), (6, .int .i64 (fun _ => (st.2.1 : Int))), (7, .int .i64 (fun _ => (st.2.2 : Int))), (8, .int .i64 (fun _ => ((st.1 + 1 : Nat) : Int)))], [(2, .box [.int .i64 (fun _ => gn), alv us, alv os, rlv lo, rlv hi, alv rows, tsv ts, .bool (fun _ => c1), nat c2, nat c3, dlv path, llv L])]⟩)
  (fun st => st.1 ≤ L.length ∧ BG st.1 (L.drop st.1) st.2 = (B1, B2) ∧ st.2.1 ≤ L.length ∧ st.2.2 ≤ L.length) (fun st => L.length - st.1)
  (0, 0, 0) ⟨by show 0 ≤ _; omega, hB, Nat.zero_le _, Nat.zero_le _⟩ (wkZ) ?_
 intro st hst'
 obtain ⟨i, b1, b2⟩ := st
 obtain ⟨h1, h2, h3, h4⟩ := hst'
 dsimp only at h1 h2 h3 h4
 clear hB
 cbv
 refine zF (fun h5 => ?_) (fun h5 => ?_)
 ·rw [zA] at h5
  have hlt : i < L.length := by (try dsimp only [zG] at *); omega
  obtain ⟨m, hm⟩ := zX hlt
  have hmem := List.mem_of_getElem? hm
  rw [yB hm, hst] at h2
  have idx : ∀ {K : List PV → Prop}, K (lc m) → IdxOk 6 (fun _ => enc lc L) (fun _ => ((i + 1 : Nat) : Int) - 1) K := fun hK => v8 hm (by omega) v7 uM hK
  have hin : ∀ k : Nat, k ≤ L.length → ¬ k = 0 → ∃ m', m' ∈ L ∧ wE L k = m'.v.q ∧ ∀ {K : List PV → Prop}, K (lc m') → IdxOk 6 (fun _ => enc lc L) (fun _ => (k : Int) - 1) K := fun k hk h0 => by
   obtain ⟨m', hm'⟩ := zX (l := L) (i := k - 1) (by omega)
   exact ⟨m', List.mem_of_getElem? hm', hva k m' hm', fun hK => v8 hm' (by omega) v7 uM hK⟩
  clear hst hva
  cbv
  refine ⟨zH om om, idx ?_⟩
  cbv
  refine zF (fun e1 => ?_) (fun e1 => ?_)
  ·rw [if_pos e1] at h2
   cbv
   refine zO 19 (by cbv) ?_
   cbv
   refine z4 (fun e2 => ?_) (fun e2 => ?_)
   ·rw [if_pos e2] at h2
    cbv
    refine zQ (fun e3 => ?_) (fun e3 => ?_)
    ·have e3' : b2 = 0 := by (try dsimp only [zG] at *); omega
     rw [if_pos (.inl e3')] at h2
     cbv
     refine zO 20 (by cbv) ?_
     cbv
     refine z4 (fun e4 => ?_) (fun e4 => by rw [e2] at e4; cases e4)
     cbv
     exact ⟨zH om om, (i + 1, b1, (i + 1)), ⟨om, h2, (by show b1 ≤ _; omega), (by show (i + 1) ≤ _; omega)⟩, om, wkZ⟩
    have e3' : ¬ b2 = 0 := by (try dsimp only [zG] at *); omega
    obtain ⟨m', hm', hv', idx'⟩ := hin b2 h4 e3'
    have cx := cc m m' hmem hm'
    rw [hv'] at h2
    generalize x6 m.v.q m'.v.q = x at *
    cbv
    refine ⟨zH om om, idx' ?_⟩
    cbv
    refine dA cx ?_
    cbv
    refine zF (fun e5 => ?_) (fun e5 => ?_)
    ·rw [if_pos (.inr e5)] at h2
     cbv
     refine zO 20 (by cbv) ?_
     cbv
     refine z4 (fun e4 => ?_) (fun e4 => by rw [e2] at e4; cases e4)
     cbv
     exact ⟨zH om om, (i + 1, b1, (i + 1)), ⟨om, h2, (by show b1 ≤ _; omega), (by show (i + 1) ≤ _; omega)⟩, om, wkZ⟩
    ·rw [if_neg (fun h => h.elim e3' e5)] at h2
     cbv
     refine zO 20 (by cbv) ?_
     cbv
     refine z4 (fun e4 => ?_) (fun e4 => by rw [e2] at e4; cases e4)
     cbv
     exact ⟨zH om om, (i + 1, b1, b2), ⟨om, h2, (by show b1 ≤ _; omega), (by show b2 ≤ _; omega)⟩, om, wkZ⟩
   ·rw [if_neg (by rw [e2]; decide)] at h2
    cbv
    refine zO 20 (by cbv) ?_
    cbv
    refine z4 (fun e4 => by rw [e2] at e4; cases e4) (fun e4 => ?_)
    cbv
    refine zQ (fun e3 => ?_) (fun e3 => ?_)
    ·have e3' : b1 = 0 := by (try dsimp only [zG] at *); omega
     rw [if_pos (.inl e3')] at h2
     cbv
     exact ⟨zH om om, (i + 1, (i + 1), b2), ⟨om, h2, (by show (i + 1) ≤ _; omega), (by show b2 ≤ _; omega)⟩, om, wkZ⟩
    have e3' : ¬ b1 = 0 := by (try dsimp only [zG] at *); omega
    obtain ⟨m', hm', hv', idx'⟩ := hin b1 h3 e3'
    have cx := cc m m' hmem hm'
    rw [hv'] at h2
    generalize x6 m.v.q m'.v.q = x at *
    cbv
    refine ⟨zH om om, idx' ?_⟩
    cbv
    refine dA cx ?_
    cbv
    refine zF (fun e5 => ?_) (fun e5 => ?_)
    ·rw [if_pos (.inr e5)] at h2
     cbv
     exact ⟨zH om om, (i + 1, (i + 1), b2), ⟨om, h2, (by show (i + 1) ≤ _; omega), (by show b2 ≤ _; omega)⟩, om, wkZ⟩
    ·rw [if_neg (fun h => h.elim e3' e5)] at h2
     cbv
     exact ⟨zH om om, (i + 1, b1, b2), ⟨om, h2, (by show b1 ≤ _; omega), (by show b2 ≤ _; omega)⟩, om, wkZ⟩
  ·rw [if_neg e1] at h2
   cbv
   exact ⟨zH om om, (i + 1, b1, b2), ⟨om, h2, (by show b1 ≤ _; omega), (by show b2 ≤ _; omega)⟩, om, wkZ⟩
 ·have hi : i = L.length := by rw [zA] at h5; (try dsimp only [zG] at *); omega
  rw [hi, List.drop_length, hni] at h2
  obtain ⟨q1, q2⟩ := Prod.mk.inj h2
  subst q1 q2
  cbv
  (refine rC ?_; cbv)
  exact okA
theorem sR22Mrg (a b : List (Row × Rat)) (c : R) (ha : ∀ t, t ∈ a → Fits (2^28) t.2) (hal : a.length ≤ 2^36) (hb : ∀ t, t ∈ b → Fits (2^20) t.2) (hbl : b.length ≤ 64) (hc : c.sz (2^20)) :
  zC 145 [mlv (mR a), mlv (mR b), rv c] (mlv (mR (vZ a b c.q))) := by
 refine sF Tryz.f145 ?_
 have hcf : Fits (2^20) c.q := hc.fits (by decide)
 have c1 : ∀ q, Fits (2^20) q → zC 46 [rv (zE q), rv c] (rv (zE (q * c.q))) := fun q hq => by
  have := s77 (zE q) c ((zY hq).mono (by decide)) (hc.mono (by decide))
  rw [zW] at this
  exact this
 have c2 : ∀ (l : List (Row × Rat)) (r : Row) (q : Rat), Mfit (2^30) l → Fits (2^21) q → zC 61 [mlv (mR l), rwv r, rv (zE q)] (mlv (mR (plMq l r q))) := fun l r q hl hq => by
  have := sPlM l r (zE q) hl ((zY hq).mono (by decide))
  rw [zW] at this
  exact this
 obtain ⟨A0, hA0⟩ : ∃ n : Nat, n = 2^28 := ⟨_, rfl⟩
 obtain ⟨L0, hL0⟩ : ∃ n : Nat, n = 2^36 := ⟨_, rfl⟩
 obtain ⟨D0, hD0⟩ : ∃ n : Nat, n = 2^21 + 1 := ⟨_, rfl⟩
 rw [← hA0] at ha
 rw [← hL0] at hal
 have hAD : ∀ i : Nat, i ≤ 64 → A0 + i * D0 ≤ 2^30 := fun i hi => by
  have : i * D0 ≤ 64 * D0 := Nat.mul_le_mul_right _ hi
  omega
 obtain ⟨G, hG⟩ : ∃ G : List (Row × Rat) → List (Row × Rat) → List (Row × Rat), ∀ x y, G x y = vZ x y c.q := ⟨_, fun _ _ => rfl⟩
 have hn : ∀ x, G x [] = x := fun x => by rw [hG]; rfl
 have hs : ∀ x t r, G x (t :: r) = G (plMq x t.1 (t.2 * c.q)) r := fun x t r => by rw [hG, hG]; rfl
 rw [← hG]
 obtain ⟨res, hres⟩ : ∃ r, G a b = r := ⟨_, rfl⟩
 rw [hres]
 clear hG
 have hbm : ∀ (i : Nat) t, b[i]? = some t → (mR b)[i]? = some ⟨t.1, zE t.2⟩ := fun i t h => by simp [mR, List.getElem?_map, h]
 have hbl' : (mR b).length = b.length := jF b
 cbv
 refine z5 (σ := Nat × List (Row × Rat)) (fun s => ⟨[(0, mlv (mR s.2)), (1, mlv (mR b)), (5, .ptr 5 0), (7, .int .i64 (fun _ => (s.1 : Int)))], [(5, .box [.bool (fun _ => c.neg), nat c.num, nat c.den])]⟩)
  (fun s => s.1 ≤ b.length ∧ G s.2 (b.drop s.1) = res ∧ (∀ t, t ∈ s.2 → Fits (A0 + s.1 * D0) t.2) ∧ s.2.length ≤ L0 + s.1) (fun s => b.length - s.1)
  (0, a) ⟨Nat.zero_le _, hres, by simpa using ha, by simpa using hal⟩ (wkZ) ?_
 intro st hst
 obtain ⟨i, acc⟩ := st
 obtain ⟨h1, h2, h3, h4⟩ := hst
 dsimp only at h1 h2 h3 h4
 clear hres
 cbv
 refine zF (fun h5 => ?_) (fun h5 => ?_)
 ·rw [zA, hbl'] at h5
  have hlt : i < b.length := by (try dsimp only [zG] at *); omega
  obtain ⟨t, ht⟩ := zX hlt
  have hm := hbm i t ht
  have hq := hb t (List.mem_of_getElem? ht)
  rw [yB ht, hs] at h2
  obtain ⟨r, q⟩ := t
  dsimp only at h2 hm hq
  have d1 := c1 q hq
  have d2 := c2 acc r (q * c.q) ⟨by omega, fun t ht => (h3 t ht).mono (hAD i (by omega))⟩ ((xI hq hcf).mono (by decide))
  have h3' := plMq_fit (r := r) ((xI hq hcf).mono (show _ ≤ 2^21 by decide)) h3
  have h4' := plMq_len acc r (q * c.q)
  generalize plMq acc r (q * c.q) = acc' at *
  generalize zE (q * c.q) = Y at *
  generalize zE q = X at *
  clear c1 c2 hs hn
  cbv
  refine zO 14 (by cbv) ?_
  cbv
  refine yV hm qG wM ?_
  cbv
  refine yV hm qG wM ?_
  cbv
  refine dA d1 ?_
  cbv
  refine dA d2 ?_
  cbv
  exact ⟨zH om om, (i + 1, acc'), ⟨om, h2, fun t ht => (h3' t ht).mono (by show _ ≤ A0 + (i + 1) * D0; rw [Nat.succ_mul]; omega), (by show acc'.length ≤ L0 + (i + 1); omega)⟩, om, wkZ⟩
 ·have hi : i = b.length := by rw [zA, hbl'] at h5; (try dsimp only [zG] at *); omega
  rw [hi, List.drop_length, hn] at h2
  subst h2
  cbv
  (refine rC ?_; cbv)
  exact lR
theorem sR22AL (s : Scp) (v : Int) (hv : -4611686018427387904 ≤ v) (hv2 : v < 4611686018427387904) (hn : 0 ≤ s.q.g.n) (hn2 : s.q.g.n ≤ 256) : zC 144 [sv s, .int .i64 (fun _ => v)] (mlv (mR (s.atLeastM v))) := by
 refine sF Tryz.f144 ?_
 have c1 := s32 1 (by decide) (by decide)
 rw [show (((1 : Int) : Rat)) = (1 : Rat) by rfl] at c1
 have h1 : v < s.q.g.n → mR (s.atLeastM v) = [⟨⟨1, v, 0, 0⟩, zE 1⟩] := fun h => by unfold Scp.atLeastM; rw [if_pos h]; rfl
 have h2 : ¬ v < s.q.g.n → mR (s.atLeastM v) = [⟨⟨5, v - s.q.g.n, 0, 0⟩, zE 1⟩] := fun h => by unfold Scp.atLeastM; rw [if_neg h]; rfl
 generalize mR (s.atLeastM v) = res at *
 generalize zE 1 = O1 at *
 cbv
 refine zF (fun e => ?_) (fun e => ?_)
 ·rw [h1 e]
  cbv
  refine cA c1 ?_
  cbv
  (refine rC ?_; cbv)
  exact zP rfl
 ·rw [h2 e]
  cbv
  refine zO 10 (by cbv) ?_
  cbv
  refine ⟨zH om om, ?_⟩
  cbv
  refine dA c1 ?_
  cbv
  (refine rC ?_; cbv)
  exact zP rfl
theorem q_div (x y : R) : mkRat (sgn (x.neg != y.neg) (val x.num * y.d)) (x.d * val y.num) = x.q / y.q := by
 rw [Rat.div_def, R.q, R.q, ← Rat.divInt_ofNat, ← Rat.divInt_ofNat, ← Rat.divInt_ofNat, Rat.inv_divInt, Rat.divInt_mul_divInt]
 unfold R.n sgn
 cases x.neg <;> cases y.neg <;> simp [Rat.divInt_neg', Int.neg_mul, Int.mul_neg]
theorem sgnQ_zero {q : Rat} : yA q = 0 ↔ q = 0 := by unfold yA; split <;> (try split) <;> constructor <;> grind
theorem s182 (x y : R) (hx : x.sz (2^31)) (hy : y.sz (2^31)) (h0 : y.q ≠ 0) : zC 185 [rv x, rv y] (.tup [rv (zE (x.q / y.q)), .int .i64 (fun _ => (0 : Int))]) := by
 refine sF Tryz.f185 ?_
 have h1 := hx.n
 have h2 := hx.d
 have h3 := hy.n
 have h4 := hy.d
 have h7 := bJ x.den
 have h8 := bJ y.den
 have hyn : val y.num ≠ 0 := fun h => h0 (by
  have : y.n = 0 := by unfold R.n; rw [h]; simp [sgn]
  rw [R.q, this]; simp)
 have csg := s35 y (by omega)
 have hsg : ¬ yA y.q = 0 := fun h => h0 (sgnQ_zero.1 h)
 have cux := s100 x.den (by omega)
 have cuy := s100 y.den (by omega)
 have cm := s99 (uT x.den) y.num (by omega) (by omega)
 have hml := kP (uT x.den) y.num
 rw [gG] at cm hml
 have cn := s99 x.num (uT y.den) (by omega) (by omega)
 have hnl := kP x.num (uT y.den)
 rw [gG] at cn hnl
 have cq := s102 (x.neg != y.neg) (zI (val x.num * y.d)) (zI (x.d * val y.num)) (by omega) (by omega) (by rw [zM]; exact Nat.mul_ne_zero x.d_ne hyn)
 rw [zM, zM, q_div] at cq
 have hb : (x.neg != y.neg) = !decide (x.neg = y.neg) := by cases x.neg <;> cases y.neg <;> rfl
 clear hml hnl hx hy h0
 generalize zE (x.q / y.q) = W at *
 generalize yA y.q = sg at *
 generalize zI (x.d * val y.num) = M at *
 generalize zI (val x.num * y.d) = P at *
 generalize uT x.den = ux at *
 generalize uT y.den = uy at *
 obtain ⟨a, b, c⟩ := x
 obtain ⟨a', b', c'⟩ := y
 simp only at *
 generalize (a != a') = nb at *
 cbv
 refine cA csg ?_
 cbv
 refine z6 hsg ?_
 cbv
 refine zO 18 (by cbv) ?_
 cbv
 refine dA cuy ?_
 cbv
 refine dA cn ?_
 cbv
 refine dA cux ?_
 cbv
 refine dA cm ?_
 cbv
 refine y6 (by exact ⟨wI hb, lR, lR, trivial⟩) cq rfl ?_
 cbv
 (refine rC ?_; cbv)
 exact okA
end Go.Proofs.YtcanljninhfmhaaGreat
