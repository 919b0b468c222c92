/- CONTRACTS: rows (of the program), part B: lemma, decided, on, off. * CONTRACTS: derive (of the program), part A: cmp.Compare, cmp.Or, compare, Canonical. -/
import Derived.Test.YtbehbhicjmjdhaaGreatQ29

namespace Go.Proofs.YtbehbhicjmjdhaaGreat
open Go
set_option linter.unusedVariables false
set_option maxRecDepth 100000
set_option maxHeartbeats 1000000

def Scp.lem (s : Scp) (n unit : Int) (up : Bool) : Option Rat :=
  if 1 ≤ n ∧ n ≤ s.lems.length then
    match s.lems[(n - 1).toNat]? with
    | some m => if m.u = unit ∧ m.up = up then some m.v.q else none
    | none => none
  else none
theorem lem_no {s : Scp} {n unit : Int} {up : Bool} (h : ¬ (1 ≤ n ∧ n ≤ s.lems.length)) : s.lem n unit up = none := if_neg h
theorem lem_at {s : Scp} {n unit : Int} {up : Bool} {m : Lem} (h : 1 ≤ n) (h2 : n ≤ s.lems.length) (hm : s.lems[(n - 1).toNat]? = some m) : s.lem n unit up = if m.u = unit ∧ m.up = up then some m.v.q else none := by
  unfold Scp.lem
  rw [if_pos ⟨h, h2⟩, hm]
theorem hfRwLem : Pg.funcs[130]? = some Tryz.f130 := by rw [Pg_eq]; rfl
theorem sRwLem (s : Scp) (n unit : Int) (up : Bool) (hs : Lsz (2^36) s.lems) : SoundS 130 [sv s, .int .i64 (fun _ => n), .int .i64 (fun _ => unit), .bool (fun _ => up)] (.tup [rv (ratR ((s.lem n unit up).getD 0)), .bool (fun _ => (s.lem n unit up).isSome)]) := by
  refine sound_fn hfRwLem rfl rfl rfl rfl rfl ?_
  have hno : ¬ (1 ≤ n ∧ n ≤ s.lems.length) → s.lem n unit up = none := fun h => lem_no h
  have hat : ∀ m, 1 ≤ n → n ≤ s.lems.length → s.lems[(n - 1).toNat]? = some m → s.lem n unit up = if m.u = unit ∧ m.up = up then some m.v.q else none := fun m h1 h2 h3 => lem_at h1 h2 h3
  have hsl := hs.len
  have hss := hs.sz
  generalize s.lem n unit up = o at *
  obtain ⟨⟨⟨gn, us, os⟩, ⟨lo, hi, rows⟩, ⟨ts, c1, c2, c3⟩⟩, path, lems⟩ := s
  simp only at hno hat hsl hss
  have fin : ∀ (W : R) (b : Bool), o = none → W = ratR (o.getD 0) ∧ b = o.isSome → W = R0 ∧ b = false := fun W b h1 h2 => by
    rw [h1] at h2
    exact ⟨by rw [h2.1]; exact ratR_zero, h2.2⟩
  obtain ⟨W, hW⟩ : ∃ W, W = ratR (o.getD 0) := ⟨_, rfl⟩
  obtain ⟨b, hb⟩ : ∃ b, b = o.isSome := ⟨_, rfl⟩
  rw [← hW, ← hb]
  have fin' : o = none → W = R0 ∧ b = false := fun h => fin W b h ⟨hW, hb⟩
  have fin2 : ∀ q, o = some q → W = ratR q ∧ b = true := fun q h => by rw [h] at hW hb; exact ⟨hW, hb⟩
  clear fin hW hb
  obtain ⟨W1, W2, W3⟩ := W
  have fin3 : o = none → W1 = false ∧ W2 = [] ∧ W3 = [] ∧ b = false := fun h => by
    obtain ⟨h1, h2⟩ := fin' h
    simp only [R.mk.injEq] at h1
    exact ⟨h1.1, h1.2.1, h1.2.2, h2⟩
  clear fin'
  cbv
  refine br_dec (fun e1 => ?_) (fun e1 => ?_)
  · cbv
    obtain ⟨g1, g2, g3, g4⟩ := fin3 (hno (by omega))
    subst g1 g2 g3 g4
    (refine retC rfl ?_; cbv)
    exact ⟨⟨leS_ff rfl, leS_nil rfl, leS_nil rfl, trivial⟩, leS_ff rfl, trivial⟩
  cbv
  refine br_dec (fun e2 => ?_) (fun e2 => ?_)
  · cbv
    obtain ⟨g1, g2, g3, g4⟩ := fin3 (hno (by rw [enc_len] at e2; (try dsimp only [ncast] at *); omega))
    subst g1 g2 g3 g4
    (refine retC rfl ?_; cbv)
    exact ⟨⟨leS_ff rfl, leS_nil rfl, leS_nil rfl, trivial⟩, leS_ff rfl, trivial⟩
  cbv
  rw [enc_len] at e2
  obtain ⟨m, hm⟩ : ∃ m, lems[(n - 1).toNat]? = some m := get_some (by (try dsimp only [ncast] at *); omega)
  have hat' := hat m (by omega) (by (try dsimp only [ncast] at *); omega) hm
  have hms := hss m (List.mem_of_getElem? hm)
  have cc := s161 m.v hms
  have idx : ∀ {K : List PV → Prop}, K (lc m) → IdxOk 6 (fun _ => enc lc lems) (fun _ => n - 1) K := fun hK => idx_enc (l := lems) (n - 1).toNat (by omega) (by (try dsimp only [ncast] at *); omega) lc_flat lc_len (fun m' hm' => by rw [hm] at hm'; cases hm'; exact hK)
  generalize hq : m.v.q = q at *
  obtain ⟨mu, mup, ⟨v1, v2, v3⟩, mpf⟩ := m
  simp only at hat'
  clear hat hno hq
  generalize hwq : ratR q = wq at *
  refine ⟨in64_of (by (try dsimp only [ncast] at *) <;> (try simp only [lm_length] at *) <;> omega) (by (try dsimp only [ncast] at *) <;> (try simp only [lm_length] at *) <;> omega), idx ?_⟩
  cbv
  refine br_dec (fun e3 => ?_) (fun e3 => ?_)
  · cbv
    refine ⟨in64_of (by (try dsimp only [ncast] at *) <;> (try simp only [lm_length] at *) <;> omega) (by (try dsimp only [ncast] at *) <;> (try simp only [lm_length] at *) <;> omega), idx ?_⟩
    cbv
    refine cut_dec (fun e4 => ?_) (fun e4 => ?_)
    · cbv
      obtain ⟨g1, g2⟩ := fin2 q (by rw [hat', if_pos ⟨e3, e4⟩])
      rw [hwq] at g1
      subst g1 g2
      refine ⟨in64_of (by (try dsimp only [ncast] at *) <;> (try simp only [lm_length] at *) <;> omega) (by (try dsimp only [ncast] at *) <;> (try simp only [lm_length] at *) <;> omega), idx ?_⟩
      cbv
      refine callS' rfl (by repeat' first | exact trivial | exact leS_refl _ | exact leS_tt rfl | exact leS_ff rfl | exact leS_nil rfl | apply And.intro) (cc) rfl ?_
      cbv
      (refine retC rfl ?_; cbv)
      exact ⟨⟨leS_refl _, leS_refl _, leS_refl _, trivial⟩, leS_tt rfl, trivial⟩
    · cbv
      obtain ⟨g1, g2, g3, g4⟩ := fin3 (by rw [hat', if_neg (fun h => e4 h.2)])
      subst g1 g2 g3 g4
      (refine retC rfl ?_; cbv)
      exact ⟨⟨leS_ff rfl, leS_nil rfl, leS_nil rfl, trivial⟩, leS_ff rfl, trivial⟩
  · cbv
    obtain ⟨g1, g2, g3, g4⟩ := fin3 (by rw [hat', if_neg (fun h => e3 h.1)])
    subst g1 g2 g3 g4
    (refine retC rfl ?_; cbv)
    exact ⟨⟨leS_ff rfl, leS_nil rfl, leS_nil rfl, trivial⟩, leS_ff rfl, trivial⟩
def Scp.dcd (s : Scp) (kind unit : Int) : Bool := s.path.any fun d => decide (d.k = kind) && (decide (d.i = unit) && d.fits s.q)
theorem hfRwDecC : Pg.funcs[140]? = some Tryz.f140 := by rw [Pg_eq]; rfl
theorem sRwDecC (s : Scp) (kind unit : Int) (d : Dec) (hd : d.x.sz (2^36)) : SoundS 140 [.agg (dc d), .dptr [.int .i64 (fun _ => kind)] 0, .dptr [.int .i64 (fun _ => unit)] 0, .dptr (sc s) 0] (.bool (fun _ => decide (d.k = kind) && (decide (d.i = unit) && d.fits s.q))) := by
  refine sound_fn hfRwDecC rfl rfl rfl rfl rfl ?_
  have cf := sRwFits0 s.q d hd
  generalize d.fits s.q = ft at *
  obtain ⟨⟨⟨gn, us, os⟩, ⟨lo, hi, rows⟩, ⟨ts, c1, c2, c3⟩⟩, path, lems⟩ := s
  obtain ⟨k, i, x1, x2, x3⟩ := d
  generalize hr : (decide (k = kind) && (decide (i = unit) && ft)) = r
  cbv
  refine br_dec (fun e1 => ?_) (fun e1 => ?_)
  · rw [decide_eq_true e1, Bool.true_and] at hr
    cbv
    refine br_dec (fun e2 => ?_) (fun e2 => ?_)
    · rw [decide_eq_true e2, Bool.true_and] at hr
      cbv
      refine callS' rfl (by repeat' first | exact trivial | exact leS_refl _ | exact leS_tt rfl | exact leS_ff rfl | exact leS_nil rfl | apply And.intro) (cf) rfl ?_
      cbv
      (refine retC rfl ?_; cbv)
      exact leS_bool hr
    · rw [decide_eq_false e2] at hr
      cbv
      (refine retC rfl ?_; cbv)
      exact leS_ff hr.symm
  · rw [decide_eq_false e1] at hr
    cbv
    (refine retC rfl ?_; cbv)
    exact leS_ff hr.symm
theorem hfRwDec : Pg.funcs[139]? = some Tryz.f139 := by rw [Pg_eq]; rfl
theorem sRwDec (s : Scp) (kind unit : Int) (hs : Dsz (2^36) s.path) : SoundS 139 [sv s, .int .i64 (fun _ => kind), .int .i64 (fun _ => unit)] (.bool (fun _ => s.dcd kind unit)) := by
  refine sound_fn hfRwDec rfl rfl rfl rfl rfl ?_
  have c1 := sHasD (fun d => decide (d.k = kind) && (decide (d.i = unit) && d.fits s.q)) s.path (Nat.lt_trans hs.len (by decide)) 140 [.dptr [.int .i64 (fun _ => kind)] 0, .dptr [.int .i64 (fun _ => unit)] 0, .dptr (sc s) 0] (fun d hd => sRwDecC s kind unit d (hs.sz d hd))
  have e : (s.path.any fun d => decide (d.k = kind) && (decide (d.i = unit) && d.fits s.q)) = s.dcd kind unit := rfl
  rw [e] at c1
  generalize s.dcd kind unit = r at *
  obtain ⟨⟨⟨gn, us, os⟩, ⟨lo, hi, rows⟩, ⟨ts, c1', c2, c3⟩⟩, path, lems⟩ := s
  cbv
  refine callW (.trans (.frz 3 rfl rfl (by repeat' first | exact trivial | apply And.intro) (by repeat' first | exact trivial | apply And.intro)) (.trans (.frz 4 rfl rfl (by repeat' first | exact trivial | apply And.intro) (by repeat' first | exact trivial | apply And.intro)) (.frz 5 rfl rfl (by repeat' first | exact trivial | apply And.intro) (by repeat' first | exact trivial | apply And.intro)))) rfl (by exact ⟨leS_refl _, ⟨rfl, leS_refl _, leS_refl _, leS_refl _, trivial⟩, trivial⟩) c1 rfl ?_
  cbv
  (refine retC rfl ?_; cbv)
  exact leS_refl _
/-- What a row of a unit uses. -/
abbrev usv (s : Scp) (r : Row) (v p : A) (l u : R) (low top : Bool) : PV := .agg [.int .i64 (fun _ => s.q.g.n), alv s.q.g.us, alv s.q.g.os, rlv s.q.r.lo, rlv s.q.r.hi, alv s.q.r.rows, tsv s.q.goal.ts, .bool (fun _ => s.q.goal.c.neg), nat s.q.goal.c.num, nat s.q.goal.c.den, dlv s.path, llv s.lems,
  .int .i64 (fun _ => r.k), .int .i64 (fun _ => r.i), .int .i64 (fun _ => r.lo), .int .i64 (fun _ => r.hi), tsv v.ts, .bool (fun _ => v.c.neg), nat v.c.num, nat v.c.den, tsv p.ts, .bool (fun _ => p.c.neg), nat p.c.num, nat p.c.den,
  .bool (fun _ => l.neg), nat l.num, nat l.den, .bool (fun _ => u.neg), nat u.num, nat u.den, .bool (fun _ => low), .bool (fun _ => top)]
def onB (s : Scp) (r : Row) (l : Rat) (low : Bool) : Bool := decide (r.hi = 0) && ((decide (r.lo = 0) && s.dcd 1 r.i) || (low && decide (0 ≤ sgnQ l)))
def offB (s : Scp) (r : Row) (u : Rat) (top : Bool) : Bool := decide (r.lo = 0) && ((decide (r.hi = 0) && s.dcd 2 r.i) || (top && decide (sgnQ u ≤ 0)))
theorem hfRwOn : Pg.funcs[131]? = some Tryz.f131 := by rw [Pg_eq]; rfl
theorem sRwOn (s : Scp) (r : Row) (v p : A) (l u : R) (low top : Bool) (hs : Dsz (2^36) s.path) (hx : l.num.length < 2^40) : SoundS 131 [usv s r v p l u low top] (.bool (fun _ => onB s r l.q low)) := by
  refine sound_fn hfRwOn rfl rfl rfl rfl rfl ?_
  have cd := sRwDec s 1 r.i hs
  have cs := s86 l hx
  generalize hres : onB s r l.q low = res
  have hr : res = (decide (r.hi = 0) && ((decide (r.lo = 0) && s.dcd 1 r.i) || (low && decide (0 ≤ sgnQ l.q)))) := hres.symm
  clear hres hs
  generalize s.dcd 1 r.i = dd at *
  generalize sgnQ l.q = sg at *
  obtain ⟨⟨⟨gn, us, os⟩, ⟨lo, hi, rows⟩, ⟨ts, c1, c2, c3⟩⟩, path, lems⟩ := s
  obtain ⟨k, i, rlo, rhi⟩ := r
  obtain ⟨vt, v1, v2, v3⟩ := v
  obtain ⟨pt, p1, p2, p3⟩ := p
  obtain ⟨l1, l2, l3⟩ := l
  obtain ⟨u1, u2, u3⟩ := u
  simp only at hr
  cbv
  refine br_dec (fun e1 => ?_) (fun e1 => ?_)
  · rw [decide_eq_true e1, Bool.true_and] at hr
    cbv
    refine br_dec (fun e2 => ?_) (fun e2 => ?_)
    · rw [decide_eq_true e2, Bool.true_and] at hr
      cbv
      refine callS' rfl (by repeat' first | exact trivial | exact leS_refl _ | exact leS_tt rfl | exact leS_ff rfl | exact leS_nil rfl | apply And.intro) (cd) rfl ?_
      cbv
      refine br_bool (fun e3 => ?_) (fun e3 => ?_)
      · rw [e3, Bool.true_or] at hr
        cbv
        (refine retC rfl ?_; cbv)
        exact leS_tt hr
      · rw [e3, Bool.false_or] at hr
        cbv
        refine br_bool (fun e4 => ?_) (fun e4 => ?_)
        · rw [e4, Bool.true_and] at hr
          cbv
          refine callS' rfl (by repeat' first | exact trivial | exact leS_refl _ | exact leS_tt rfl | exact leS_ff rfl | exact leS_nil rfl | apply And.intro) (cs) rfl ?_
          cbv
          (refine retC rfl ?_; cbv)
          exact leS_bool hr.symm
        · rw [e4, Bool.false_and] at hr
          cbv
          (refine retC rfl ?_; cbv)
          exact leS_ff hr
    · rw [decide_eq_false e2, Bool.false_and, Bool.false_or] at hr
      cbv
      refine br_bool (fun e4 => ?_) (fun e4 => ?_)
      · rw [e4, Bool.true_and] at hr
        cbv
        refine callS' rfl (by repeat' first | exact trivial | exact leS_refl _ | exact leS_tt rfl | exact leS_ff rfl | exact leS_nil rfl | apply And.intro) (cs) rfl ?_
        cbv
        (refine retC rfl ?_; cbv)
        exact leS_bool hr.symm
      · rw [e4, Bool.false_and] at hr
        cbv
        (refine retC rfl ?_; cbv)
        exact leS_ff hr
  · rw [decide_eq_false e1, Bool.false_and] at hr
    cbv
    (refine retC rfl ?_; cbv)
    exact leS_ff hr
theorem hfRwOff : Pg.funcs[132]? = some Tryz.f132 := by rw [Pg_eq]; rfl
theorem sRwOff (s : Scp) (r : Row) (v p : A) (l u : R) (low top : Bool) (hs : Dsz (2^36) s.path) (hx : u.num.length < 2^40) : SoundS 132 [usv s r v p l u low top] (.bool (fun _ => offB s r u.q top)) := by
  refine sound_fn hfRwOff rfl rfl rfl rfl rfl ?_
  have cd := sRwDec s 2 r.i hs
  have cs := s86 u hx
  generalize hres : offB s r u.q top = res
  have hr : res = (decide (r.lo = 0) && ((decide (r.hi = 0) && s.dcd 2 r.i) || (top && decide (sgnQ u.q ≤ 0)))) := hres.symm
  clear hres hs
  generalize s.dcd 2 r.i = dd at *
  generalize sgnQ u.q = sg at *
  obtain ⟨⟨⟨gn, us, os⟩, ⟨lo, hi, rows⟩, ⟨ts, c1, c2, c3⟩⟩, path, lems⟩ := s
  obtain ⟨k, i, rlo, rhi⟩ := r
  obtain ⟨vt, v1, v2, v3⟩ := v
  obtain ⟨pt, p1, p2, p3⟩ := p
  obtain ⟨l1, l2, l3⟩ := l
  obtain ⟨u1, u2, u3⟩ := u
  simp only at hr
  cbv
  refine br_dec (fun e1 => ?_) (fun e1 => ?_)
  · rw [decide_eq_true e1, Bool.true_and] at hr
    cbv
    refine br_dec (fun e2 => ?_) (fun e2 => ?_)
    · rw [decide_eq_true e2, Bool.true_and] at hr
      cbv
      refine callS' rfl (by repeat' first | exact trivial | exact leS_refl _ | exact leS_tt rfl | exact leS_ff rfl | exact leS_nil rfl | apply And.intro) (cd) rfl ?_
      cbv
      refine br_bool (fun e3 => ?_) (fun e3 => ?_)
      · rw [e3, Bool.true_or] at hr
        cbv
        (refine retC rfl ?_; cbv)
        exact leS_tt hr
      · rw [e3, Bool.false_or] at hr
        cbv
        refine br_bool (fun e4 => ?_) (fun e4 => ?_)
        · rw [e4, Bool.true_and] at hr
          cbv
          refine callS' rfl (by repeat' first | exact trivial | exact leS_refl _ | exact leS_tt rfl | exact leS_ff rfl | exact leS_nil rfl | apply And.intro) (cs) rfl ?_
          cbv
          (refine retC rfl ?_; cbv)
          exact leS_bool hr.symm
        · rw [e4, Bool.false_and] at hr
          cbv
          (refine retC rfl ?_; cbv)
          exact leS_ff hr
    · rw [decide_eq_false e2, Bool.false_and, Bool.false_or] at hr
      cbv
      refine br_bool (fun e4 => ?_) (fun e4 => ?_)
      · rw [e4, Bool.true_and] at hr
        cbv
        refine callS' rfl (by repeat' first | exact trivial | exact leS_refl _ | exact leS_tt rfl | exact leS_ff rfl | exact leS_nil rfl | apply And.intro) (cs) rfl ?_
        cbv
        (refine retC rfl ?_; cbv)
        exact leS_bool hr.symm
      · rw [e4, Bool.false_and] at hr
        cbv
        (refine retC rfl ?_; cbv)
        exact leS_ff hr
  · rw [decide_eq_false e1, Bool.false_and] at hr
    cbv
    (refine retC rfl ?_; cbv)
    exact leS_ff hr
end Go.Proofs.YtbehbhicjmjdhaaGreat

namespace Go.Proofs.YtbehbhicjmjdhaaGreat
open Go
set_option linter.unusedVariables false
set_option maxRecDepth 100000
set_option maxHeartbeats 1000000

def cI (x y : Int) : Int := if x < y then -1 else if y < x then 1 else 0
def orI (x y : Int) : Int := if x ≠ 0 then x else y
def cmpRow (a b : Row) : Int := orI (cI a.k b.k) (orI (cI a.i b.i) (orI (cI a.lo b.lo) (cI a.hi b.hi)))
theorem leS_nbff {b : Bool} (h : b = true) : LeS (.nbool (fun _ => b)) .ff := ⟨by simp [Le, h]⟩
theorem hfNaN : Pg.funcs[80]? = some Tryz.f80 := by rw [Pg_eq]; rfl
theorem sNaN (x : Int) : SoundS 80 [.int .i64 (fun _ => x)] .ff := by
  refine sound_fn hfNaN rfl rfl rfl rfl rfl ?_
  cbv
  (refine retC rfl ?_; cbv)
  exact leS_nbff (by simp)
theorem hfCmpI : Pg.funcs[49]? = some Tryz.f49 := by rw [Pg_eq]; rfl
theorem sCmpI (x y : Int) : SoundS 49 [.int .i64 (fun _ => x), .int .i64 (fun _ => y)] (.int .i64 (fun _ => cI x y)) := by
  refine sound_fn hfCmpI rfl rfl rfl rfl rfl ?_
  have cx := sNaN x
  have cy := sNaN y
  have h1 : x < y → cI x y = -1 := fun h => if_pos h
  have h2 : ¬ x < y → y < x → cI x y = 1 := fun h g => by unfold cI; rw [if_neg h, if_pos g]
  have h3 : ¬ x < y → ¬ y < x → cI x y = 0 := fun h g => by unfold cI; rw [if_neg h, if_neg g]
  generalize cI x y = c at *
  cbv
  refine callS' rfl (by repeat' first | exact trivial | exact leS_refl _ | exact leS_tt rfl | exact leS_ff rfl | exact leS_nil rfl | apply And.intro) (cx) rfl ?_
  cbv
  refine callS' rfl (by repeat' first | exact trivial | exact leS_refl _ | exact leS_tt rfl | exact leS_ff rfl | exact leS_nil rfl | apply And.intro) (cy) rfl ?_
  cbv
  refine cut_dec (fun h => ?_) (fun h => ?_)
  · cbv
    (refine retC rfl ?_; cbv)
    exact leS_int (h1 h).symm
  · cbv
    refine cut_dec (fun g => ?_) (fun g => ?_)
    · cbv
      (refine retC rfl ?_; cbv)
      exact leS_int (h2 h g).symm
    · cbv
      (refine retC rfl ?_; cbv)
      exact leS_int (h3 h g).symm
def oneI (x : Int) : List PV := [.int .i64 (fun _ => x)]
theorem oneI_flat (a : Int) : allL flat (oneI a) = true := rfl
theorem oneI_len (a : Int) : (oneI a).length = 1 := rfl
def orL : List Int → Int
  | [] => 0
  | x :: r => orI x (orL r)
theorem hfOr : Pg.funcs[48]? = some Tryz.f48 := by rw [Pg_eq]; rfl
theorem sOr (l : List Int) (hl : l.length < 2^40) : SoundS 48 [.sl (fun _ => enc oneI l)] (.int .i64 (fun _ => orL l)) := by
  refine sound_fn hfOr rfl rfl rfl rfl rfl ?_
  generalize hr : orL l = r
  cbv
  refine loop_n (σ := Nat) (fun i => ⟨[(3, .int .i64 (fun _ => 0)), (6, .sl (fun _ => enc oneI l)), (7, .int .i64 (fun _ => (l.length : Int))), (8, .int .i64 (fun _ => (i : Int)))], []⟩)
    (fun i => i ≤ l.length ∧ r = orL (l.drop i)) (fun i => l.length - i) 0 ⟨(by (try dsimp only [ncast] at *) <;> (try simp only [lm_length] at *) <;> omega), hr.symm⟩ (.le ?_ ?_ rfl) ?_
  · cbv
    exact ⟨leS_refl _, leS_refl _, leS_int (by (try dsimp only [ncast] at *); rw [enc_len]), leS_refl _, trivial⟩
  · cbv
  clear hr
  intro i hs
  obtain ⟨h1, h2⟩ := hs
  cbv
  refine cut_dec (fun h5 => ?_) (fun h5 => ?_)
  · cbv
    refine idx_enc (l := l) i (by (try dsimp only [ncast] at *) <;> (try simp only [lm_length] at *) <;> omega) (by (try dsimp only [ncast] at *) <;> (try simp only [lm_length] at *) <;> omega) oneI_flat oneI_len (fun t ht => ?_)
    rw [drop_of_get ht, show orL (t :: l.drop (i + 1)) = orI t (orL (l.drop (i + 1))) from rfl] at h2
    have h3 : t ≠ 0 → r = t := fun h => by rw [h2]; exact if_pos h
    have h4 : t = 0 → r = orL (l.drop (i + 1)) := fun h => by rw [h2]; exact if_neg (fun g => g h)
    clear h2
    cbv
    refine cut_dec (fun h6 => ?_) (fun h6 => ?_)
    · have h4' := h4 h6
      cbv
      refine ⟨in64_of (by (try dsimp only [ncast] at *) <;> (try simp only [lm_length] at *) <;> omega) (by (try dsimp only [ncast] at *) <;> (try simp only [lm_length] at *) <;> omega), i + 1, ⟨(by (try dsimp only [ncast] at *) <;> (try simp only [lm_length] at *) <;> omega), h4'⟩, (by (try dsimp only [ncast] at *) <;> (try simp only [lm_length] at *) <;> omega), .le ?_ ?_ rfl⟩
      · cbv
        exact ⟨leS_refl _, leS_refl _, leS_refl _, leS_int (by (try dsimp only [ncast] at *) <;> (try simp only [lm_length] at *) <;> omega), trivial⟩
      · cbv
    · have h3' := h3 h6
      cbv
      (refine retC rfl ?_; cbv)
      exact leS_int h3'.symm
  · have : i = l.length := (by (try dsimp only [ncast] at *) <;> (try simp only [lm_length] at *) <;> omega)
    rw [this, List.drop_length] at h2
    cbv
    (refine retC rfl ?_; cbv)
    exact leS_int h2.symm
theorem hfDvCmp : Pg.funcs[23]? = some Tryz.f23 := by rw [Pg_eq]; rfl
theorem sDvCmp (a b : Row) : SoundS 23 [rwv a, rwv b] (.int .i64 (fun _ => cmpRow a b)) := by
  refine sound_fn hfDvCmp rfl rfl rfl rfl rfl ?_
  have c1 := sCmpI a.k b.k
  have c2 := sCmpI a.i b.i
  have c3 := sCmpI a.lo b.lo
  have c4 := sCmpI a.hi b.hi
  have c5 := sOr [cI a.k b.k, cI a.i b.i, cI a.lo b.lo, cI a.hi b.hi] (by simp)
  have e : orL [cI a.k b.k, cI a.i b.i, cI a.lo b.lo, cI a.hi b.hi] = cmpRow a b := by
    unfold cmpRow orL orL orL orL orL
    have : ∀ x, orI x 0 = x := fun x => by unfold orI; split <;> omega
    rw [this]
  rw [e] at c5
  generalize cmpRow a b = r at *
  generalize cI a.k b.k = x1 at *
  generalize cI a.i b.i = x2 at *
  generalize cI a.lo b.lo = x3 at *
  generalize cI a.hi b.hi = x4 at *
  cbv
  refine draw_of 22 (by cbv) ?_
  cbv
  refine callS_d (by repeat' first | exact trivial | exact leS_refl _ | exact leS_tt rfl | exact leS_ff rfl | exact leS_nil rfl | apply And.intro) (c1) rfl ?_
  cbv
  refine callS_d (by repeat' first | exact trivial | exact leS_refl _ | exact leS_tt rfl | exact leS_ff rfl | exact leS_nil rfl | apply And.intro) (c2) rfl ?_
  cbv
  refine callS_d (by repeat' first | exact trivial | exact leS_refl _ | exact leS_tt rfl | exact leS_ff rfl | exact leS_nil rfl | apply And.intro) (c3) rfl ?_
  cbv
  refine callS_d (by repeat' first | exact trivial | exact leS_refl _ | exact leS_tt rfl | exact leS_ff rfl | exact leS_nil rfl | apply And.intro) (c4) rfl ?_
  cbv
  refine callS_d (by exact ⟨leS_sl rfl, trivial⟩) c5 rfl ?_
  cbv
  (refine retC rfl ?_; cbv)
  exact leS_refl _
theorem hfDvC2 : Pg.funcs[22]? = some Tryz.f22 := by rw [Pg_eq]; rfl
theorem sDvC2 (a b : Mult) : SoundS 22 [.agg (mc a), .agg (mc b)] (.int .i64 (fun _ => cmpRow a.row b.row)) := by
  refine sound_fn hfDvC2 rfl rfl rfl rfl rfl ?_
  have c1 := sDvCmp a.row b.row
  generalize cmpRow a.row b.row = r at *
  cbv
  refine callS' rfl (by repeat' first | exact trivial | exact leS_refl _ | exact leS_tt rfl | exact leS_ff rfl | exact leS_nil rfl | apply And.intro) (c1) rfl ?_
  cbv
  (refine retC rfl ?_; cbv)
  exact leS_refl _
theorem hfDvC1 : Pg.funcs[18]? = some Tryz.f18 := by rw [Pg_eq]; rfl
theorem sDvC1 (a : Mult) (ha : a.c.num.length < 2^40) : SoundS 18 [.agg (mc a)] (.bool (fun _ => decide (sgnQ a.c.q < 0))) := by
  refine sound_fn hfDvC1 rfl rfl rfl rfl rfl ?_
  have c1 := s86 a.c ha
  generalize sgnQ a.c.q = r at *
  cbv
  refine callS' rfl (by repeat' first | exact trivial | exact leS_refl _ | exact leS_tt rfl | exact leS_ff rfl | exact leS_nil rfl | apply And.intro) (c1) rfl ?_
  cbv
  (refine retC rfl ?_; cbv)
  exact leS_refl _

/-- Canonical derivations; the row ahead, if there is one. -/
def canM : Option Row → List Mult → Bool
  | _, [] => true
  | p, m :: r => decide (0 < sgnQ m.c.q) && (m.c.ok && ((match p with
    | none => true
    | some w => decide (cmpRow w m.row < 0)) && canM (some m.row) r))
theorem hfDvCan : Pg.funcs[10]? = some Tryz.f10 := by rw [Pg_eq]; rfl
theorem sDvCan (l : List Mult) (hl : Msz (2^36) l) : SoundS 10 [mlv l] (.bool (fun _ => canM none l)) := by
  refine sound_fn hfDvCan rfl rfl rfl rfl rfl ?_
  have hll := hl.len
  have hls := hl.sz
  generalize hr : canM none l = r
  cbv
  refine loop_n (σ := Nat × Option Row) (fun s => ⟨[(0, mlv l), (5, mlv l), (6, .int .i64 (fun _ => (l.length : Int))), (7, .int .i64 (fun _ => (s.1 : Int)))], []⟩)
    (fun s => s.1 ≤ l.length ∧ r = canM s.2 (l.drop s.1) ∧ (s.1 = 0 → s.2 = none) ∧ (s.1 ≠ 0 → ∃ u, l[s.1 - 1]? = some u ∧ s.2 = some u.row)) (fun s => l.length - s.1)
    (0, none) ⟨(by (try dsimp only [ncast] at *) <;> (try simp only [lm_length] at *) <;> omega), hr.symm, fun _ => rfl, fun h => absurd rfl h⟩ (.le ?_ ?_ rfl) ?_
  · cbv
    exact ⟨leS_refl _, leS_refl _, leS_int (by (try dsimp only [ncast] at *); rw [enc_len]), leS_refl _, trivial⟩
  · cbv
  clear hr
  intro s hs
  obtain ⟨h1, hv, h3, h4⟩ := hs
  generalize s.1 = i at *
  generalize s.2 = p at *
  cbv
  refine cut_dec (fun h5 => ?_) (fun h5 => ?_)
  · cbv
    refine idx_enc (l := l) i (by (try dsimp only [ncast] at *) <;> (try simp only [lm_length] at *) <;> omega) (by (try dsimp only [ncast] at *) <;> (try simp only [lm_length] at *) <;> omega) mc_flat mc_len (fun t ht => ?_)
    have htz := hls t (List.mem_of_getElem? ht)
    have cs := s86 t.c (by have := htz.n; omega)
    have cv := s103 t.c htz
    have hd : l.drop i = t :: l.drop (i + 1) := drop_of_get ht
    have hvn : (¬ 0 < sgnQ t.c.q → r = false) := fun h => by rw [hv, hd]; unfold canM; rw [decide_eq_false h]; rfl
    have hvo : t.c.ok = false → r = false := fun h => by rw [hv, hd]; unfold canM; rw [h]; simp
    have hv0 : 0 < sgnQ t.c.q → t.c.ok = true → p = none → r = canM (some t.row) (l.drop (i + 1)) := fun h g e => by
      rw [hv, hd, e]
      show (decide (0 < sgnQ t.c.q) && (t.c.ok && (true && canM (some t.row) (l.drop (i + 1))))) = _
      rw [decide_eq_true h, g]; simp
    have hv1 : ∀ w, 0 < sgnQ t.c.q → t.c.ok = true → p = some w → r = (decide (cmpRow w t.row < 0) && canM (some t.row) (l.drop (i + 1))) := fun w h g e => by
      rw [hv, hd, e]
      show (decide (0 < sgnQ t.c.q) && (t.c.ok && (decide (cmpRow w t.row < 0) && canM (some t.row) (l.drop (i + 1))))) = _
      rw [decide_eq_true h, g]; simp
    clear hv
    generalize sgnQ t.c.q = sg at *
    generalize t.c.ok = ok at *
    generalize hrest : canM (some t.row) (l.drop (i + 1)) = rest at *
    cbv
    refine draw_of 26 (by cbv) ?_
    cbv
    refine callS_d (by repeat' first | exact trivial | exact leS_refl _ | exact leS_tt rfl | exact leS_ff rfl | exact leS_nil rfl | apply And.intro) (cs) rfl ?_
    cbv
    refine br_dec (fun e1 => ?_) (fun e1 => ?_)
    · cbv
      (refine retC rfl ?_; cbv)
      exact leS_ff (hvn (by omega))
    cbv
    refine callS_d (by repeat' first | exact trivial | exact leS_refl _ | exact leS_tt rfl | exact leS_ff rfl | exact leS_nil rfl | apply And.intro) (cv) rfl ?_
    cbv
    refine br_bool (fun e2 => ?_) (fun e2 => ?_)
    rotate_left
    · cbv
      (refine retC rfl ?_; cbv)
      exact leS_ff (hvo e2)
    cbv
    refine br_dec (fun e3 => ?_) (fun e3 => ?_)
    · cbv
      obtain ⟨u, hu, hu2⟩ := h4 (by (try dsimp only [ncast] at *) <;> (try simp only [lm_length] at *) <;> omega)
      have cc := sDvCmp u.row t.row
      have hvv := hv1 u.row (by omega) e2 hu2
      generalize cmpRow u.row t.row = cr at *
      refine ⟨in64_of (by (try dsimp only [ncast] at *) <;> (try simp only [lm_length] at *) <;> omega) (by (try dsimp only [ncast] at *) <;> (try simp only [lm_length] at *) <;> omega), idx_enc (l := l) (i - 1) (by (try dsimp only [ncast] at *) <;> (try simp only [lm_length] at *) <;> omega) (by (try dsimp only [ncast] at *) <;> (try simp only [lm_length] at *) <;> omega) mc_flat mc_len (fun u' hu' => ?_)⟩
      obtain rfl : u' = u := by rw [hu] at hu'; exact (Option.some.inj hu').symm
      cbv
      refine callS_d (by repeat' first | exact trivial | exact leS_refl _ | exact leS_tt rfl | exact leS_ff rfl | exact leS_nil rfl | apply And.intro) (cc) rfl ?_
      cbv
      refine cut_dec (fun e4 => ?_) (fun e4 => ?_)
      · cbv
        (refine retC rfl ?_; cbv)
        exact leS_ff (by rw [hvv, decide_eq_false (by omega)]; rfl)
      · rw [decide_eq_true (show cr < 0 by omega), Bool.true_and] at hvv
        cbv
        exact ⟨in64_of (by (try dsimp only [ncast] at *) <;> (try simp only [lm_length] at *) <;> omega) (by (try dsimp only [ncast] at *) <;> (try simp only [lm_length] at *) <;> omega), (i + 1, some t.row), ⟨(by (try dsimp only [ncast] at *) <;> (try simp only [lm_length] at *) <;> omega), hvv.trans hrest.symm, fun h => absurd h (by simp), fun _ => ⟨_, ht, rfl⟩⟩, (by (try dsimp only [ncast] at *) <;> (try simp only [lm_length] at *) <;> omega), .le (by cbv; exact ⟨leS_refl _, leS_refl _, leS_refl _, leS_int (by (try dsimp only [ncast] at *) <;> (try simp only [lm_length] at *) <;> omega), trivial⟩) (by cbv) rfl⟩
    · cbv
      have hvv := hv0 (by omega) e2 (h3 (by (try dsimp only [ncast] at *) <;> (try simp only [lm_length] at *) <;> omega))
      exact ⟨in64_of (by (try dsimp only [ncast] at *) <;> (try simp only [lm_length] at *) <;> omega) (by (try dsimp only [ncast] at *) <;> (try simp only [lm_length] at *) <;> omega), (i + 1, some t.row), ⟨(by (try dsimp only [ncast] at *) <;> (try simp only [lm_length] at *) <;> omega), hvv.trans hrest.symm, fun h => absurd h (by simp), fun _ => ⟨_, ht, rfl⟩⟩, (by (try dsimp only [ncast] at *) <;> (try simp only [lm_length] at *) <;> omega), .le (by cbv; exact ⟨leS_refl _, leS_refl _, leS_refl _, leS_int (by (try dsimp only [ncast] at *) <;> (try simp only [lm_length] at *) <;> omega), trivial⟩) (by cbv) rfl⟩
  · have : i = l.length := (by (try dsimp only [ncast] at *) <;> (try simp only [lm_length] at *) <;> omega)
    rw [this, List.drop_length] at hv
    have hv' : r = true := hv
    cbv
    (refine retC rfl ?_; cbv)
    exact leS_tt hv'
end Go.Proofs.YtbehbhicjmjdhaaGreat
