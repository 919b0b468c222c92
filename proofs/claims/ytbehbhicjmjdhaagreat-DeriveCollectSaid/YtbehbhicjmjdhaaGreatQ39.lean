/- PLAIN: the examples of the document: what 'awake' computes. * PLAIN LAWS: the canonical form of a derivation: sorted, the groups added up; row by row into a canonical one: the same. No program in sight. -/
import Derived.Test.YtbehbhicjmjdhaaGreatQ38

namespace Go.Proofs.YtbehbhicjmjdhaaGreat
open Go
set_option linter.unusedVariables false
set_option maxRecDepth 100000
set_option maxHeartbeats 2000000

def exU : F := F.sub (F.var 0) (F.num 1)
def exS : Scp := ⟨⟨⟨1, [fA exU], [fA (F.var 1)]⟩, ⟨[R0], [ratR 3], []⟩, fA (F.var 1)⟩, [], []⟩
def exT : Scp := ⟨exS.q, [⟨3, 0, ratR 4⟩], []⟩
def exLo : List Mult := [⟨⟨1, 0, 0, 0⟩, ratR 1⟩]
def exHi : List Mult := [⟨⟨2, 0, 0, 0⟩, ratR 1⟩]
def exBoth : List Mult := [⟨⟨2, 0, 0, 0⟩, ratR 1⟩, ⟨⟨4, 0, 0, 0⟩, ratR 1⟩]
theorem exV : exS.q.valid = true := by decide +kernel
theorem exA : exS.lemB ⟨0, false, ratR (-1), exLo⟩ = true := by decide +kernel
theorem exB : exS.lemB ⟨0, false, R0, exLo⟩ = false := by decide +kernel
theorem exC : exS.lemB ⟨0, true, ratR 2, exHi⟩ = true := by decide +kernel
theorem exR : exT.refutes exBoth = true := by decide +kernel
theorem exN : exS.refutes exLo = false := by decide +kernel
theorem exK : canM none exBoth = true := by decide +kernel
theorem exSc : exT.scopeB = true := by decide +kernel

theorem one_sz : (ratR 1).sz (2^20) := by have := rat_int 1 (by decide) (by decide); exact this.mono (by decide)
theorem of_sz (z : Int) (h1 : -1000 ≤ z) (h2 : z ≤ 1000) : (ratR (z : Rat)).sz (2^20) := (rat_int z h1 h2).mono (by decide)
theorem R0_sz {k : Nat} : R0.sz k := ⟨Nat.zero_le _, Nat.zero_le _⟩
theorem exU_fl : exU.fl (2^20) 1 := ((var_fl 0).sub (num_fl fits_one)).mono (by decide) (by decide)
theorem fl_sz {f : F} {k n : Nat} (h : f.fl k n) (hn : n < 2^38) : (fA f).sz k := (h.fit hn).fA
theorem exV1_fl : (F.var 1).fl (2^20) 1 := (var_fl 1).mono (by decide) (by decide)
theorem exQ_sz : exS.q.sz (2^20) where
  g := ⟨⟨by show 1 < _; decide, fun a ha => by
      have : a = fA exU := by simpa [exS] using ha
      rw [this]; exact fl_sz exU_fl (by decide)⟩, ⟨by show 1 < _; decide, fun a ha => by
      have : a = fA (F.var 1) := by simpa [exS] using ha
      rw [this]; exact fl_sz exV1_fl (by decide)⟩⟩
  r := ⟨⟨by show 1 < _; decide, fun a ha => by
      have : a = R0 := by simpa [exS] using ha
      rw [this]; exact R0_sz⟩, ⟨by show 1 < _; decide, fun a ha => by
      have : a = ratR 3 := by simpa [exS] using ha
      rw [this]; exact of_sz 3 (by decide) (by decide)⟩, ⟨by show 0 < _; decide, fun a ha => absurd ha (by simp [exS])⟩⟩
  goal := fl_sz exV1_fl (by decide)
theorem exS_sz : exS.sz (2^20) := ⟨exQ_sz, ⟨by show 0 < _; decide, fun a ha => absurd ha (by simp [exS])⟩, ⟨by show 0 < _; decide, fun a ha => absurd ha (by simp [exS]), fun a ha => absurd ha (by simp [exS])⟩⟩
theorem exT_sz : exT.sz (2^20) := ⟨exQ_sz, ⟨by show 1 < _; decide, fun a ha => by
    have : a = ⟨3, 0, ratR 4⟩ := by simpa [exT] using ha
    rw [this]; exact of_sz 4 (by decide) (by decide)⟩, ⟨by show 0 < _; decide, fun a ha => absurd ha (by simp [exT]), fun a ha => absurd ha (by simp [exT])⟩⟩
theorem exLo_sz : Msz (2^20) exLo := ⟨by show 1 < _; decide, fun a ha => by
  have : a = ⟨⟨1, 0, 0, 0⟩, ratR 1⟩ := by simpa [exLo] using ha
  rw [this]; exact one_sz⟩
theorem exHi_sz : Msz (2^20) exHi := ⟨by show 1 < _; decide, fun a ha => by
  have : a = ⟨⟨2, 0, 0, 0⟩, ratR 1⟩ := by simpa [exHi] using ha
  rw [this]; exact one_sz⟩
theorem exBoth_sz : Msz (2^20) exBoth := ⟨by show 2 < _; decide, fun a ha => by
  have : a = ⟨⟨2, 0, 0, 0⟩, ratR 1⟩ ∨ a = ⟨⟨4, 0, 0, 0⟩, ratR 1⟩ := by simpa [exBoth] using ha
  rcases this with h | h <;> (rw [h]; exact one_sz)⟩

theorem hfExample : Pg.funcs[12]? = some Tryz.f12 := by rw [Pg_eq]; rfl
theorem sExample : SoundS 12 [] (sv exS) := by
  refine sound_fn hfExample rfl rfl rfl rfl rfl ?_
  have cv0 := sRgVar 0
  have cv1 := sRgVar 1
  have c1 := s32 1 (by decide) (by decide)
  have c3 := s32 3 (by decide) (by decide)
  have cn := sRgNum (ratR ((1 : Int) : Rat))
  have hcn : ∀ v : Int, Cn (F.var v).ts := fun v => ⟨List.pairwise_singleton _ _, fun t ht => by
    have : t = (v, 1) := by simpa [F.var] using ht
    rw [this]; show (1 : Rat) ≠ 0; decide⟩
  have cs := sRgSub (F.var 0).ts (ratR 0) ⟨[], ratR ((1 : Int) : Rat)⟩ (hcn 0) Cn.nil ⟨by decide, fun t ht => ((var_fl 0).t t ht).mono (by decide)⟩ (by rw [ratR_zero]; exact R0_sz) ⟨⟨by show 0 < _; decide, fun _ h => absurd h (by simp)⟩, (of_sz 1 (by decide) (by decide)).mono (by decide)⟩ (by show 1 + 0 < 2^37; decide)
  rw [q_ratR] at cs
  have e1 : (A.f ⟨[], ratR ((1 : Int) : Rat)⟩) = F.num 1 := by show (⟨[], (ratR ((1 : Int) : Rat)).q⟩ : F) = _; rw [q_ratR]; rfl
  rw [e1] at cs
  have e2 : F.sub ⟨(F.var 0).ts, 0⟩ (F.num 1) = exU := rfl
  rw [e2] at cs
  have cs' : SoundS 31 [av (fA (F.var 0)), av ⟨[], ratR ((1 : Int) : Rat)⟩] (av (fA exU)) := cs
  have es : sv exS = .agg [.int .i64 (fun _ => 1), alv [fA exU], alv [fA (F.var 1)], rlv [R0], rlv [ratR ((3 : Int) : Rat)], alv [], tsv (fA (F.var 1)).ts, .bool (fun _ => (fA (F.var 1)).c.neg), nat (fA (F.var 1)).c.num, nat (fA (F.var 1)).c.den, dlv [], llv []] := rfl
  rw [es]
  clear es e1 e2 cs hcn
  dsimp only [fv] at cv0 cv1
  generalize ratR ((3 : Int) : Rat) = T at *
  generalize ratR ((1 : Int) : Rat) = O at *
  generalize fA (F.var 0) = V0 at *
  generalize fA (F.var 1) = V1 at *
  generalize fA exU = U at *
  cbv
  refine callS' rfl (by repeat' first | exact trivial | exact leS_refl _ | exact leS_tt rfl | exact leS_ff rfl | exact leS_nil rfl | apply And.intro) (cv0) rfl ?_
  cbv
  refine callS' rfl (by repeat' first | exact trivial | exact leS_refl _ | exact leS_tt rfl | exact leS_ff rfl | exact leS_nil rfl | apply And.intro) (c1) rfl ?_
  cbv
  refine callS' rfl (by repeat' first | exact trivial | exact leS_refl _ | exact leS_tt rfl | exact leS_ff rfl | exact leS_nil rfl | apply And.intro) (cn) rfl ?_
  cbv
  refine callS' rfl (by exact ⟨⟨leS_refl _, leS_refl _, leS_refl _, leS_refl _, trivial⟩, ⟨leS_sl rfl, leS_refl _, leS_refl _, leS_refl _, trivial⟩, trivial⟩) cs' rfl ?_
  cbv
  refine draw_mk 6 (by cbv) (by cbv) ?_
  cbv
  refine callS_d (by repeat' first | exact trivial | exact leS_refl _ | exact leS_tt rfl | exact leS_ff rfl | exact leS_nil rfl | apply And.intro) (cv1) rfl ?_
  cbv
  refine draw_of 9 (by cbv) ?_
  cbv
  refine callS_d (by repeat' first | exact trivial | exact leS_refl _ | exact leS_tt rfl | exact leS_ff rfl | exact leS_nil rfl | apply And.intro) (c3) rfl ?_
  cbv
  refine callS_d (by repeat' first | exact trivial | exact leS_refl _ | exact leS_tt rfl | exact leS_ff rfl | exact leS_nil rfl | apply And.intro) (cv1) rfl ?_
  cbv
  (refine retC rfl ?_; cbv)
  exact ⟨leS_refl _, leS_sl rfl, leS_sl rfl, leS_sl rfl, leS_sl rfl, leS_nil rfl, leS_refl _, leS_refl _, leS_refl _, leS_refl _, leS_nil rfl, leS_nil rfl, trivial⟩
theorem br_tt {b : Bool} {A B : Unit → Prop} (h : b = true) (h1 : A ()) : Br (fun _ => b) A B := br_bool (fun _ => h1) (fun g => by rw [h] at g; cases g)
theorem br_ff {b : Bool} {A B : Unit → Prop} (h : b = false) (h1 : B ()) : Br (fun _ => b) A B := br_bool (fun g => by rw [h] at g; cases g) (fun _ => h1)
theorem cut_tt {b : Bool} {A B : (Exit → PS → Prop) → Prop} {Q : Exit → PS → Prop} (h : b = true) (h1 : A Q) : Cut (fun _ => b) A B Q := cut_bool (fun _ => h1) (fun g => by rw [h] at g; cases g)
theorem cut_ff {b : Bool} {A B : (Exit → PS → Prop) → Prop} {Q : Exit → PS → Prop} (h : b = false) (h1 : B Q) : Cut (fun _ => b) A B Q := cut_bool (fun g => by rw [h] at g; cases g) (fun _ => h1)
theorem hfAwake : Pg.funcs[4]? = some Tryz.f4 := by rw [Pg_eq]; rfl
theorem sAwake : SoundS 4 [] (.bool (fun _ => true)) := by
  refine sound_fn hfAwake rfl rfl rfl rfl rfl ?_
  have ce := sExample
  have c1 := s32 1 (by decide) (by decide)
  have cm1 := s32 (-1) (by decide) (by decide)
  have c2 := s32 2 (by decide) (by decide)
  have c4 := s32 4 (by decide) (by decide)
  have ca := sDvLemma exS ⟨0, false, ratR (-1), exLo⟩ exS_sz (of_sz (-1) (by decide) (by decide)) exLo_sz (by decide)
  have cb := sDvLemma exS ⟨0, false, R0, exLo⟩ exS_sz R0_sz exLo_sz (by decide)
  have cc := sDvLemma exS ⟨0, true, ratR 2, exHi⟩ exS_sz (of_sz 2 (by decide) (by decide)) exHi_sz (by decide)
  have cr := sDvRefutes exT exBoth exT_sz exBoth_sz (by decide)
  have cn := sDvRefutes exS exLo exS_sz exLo_sz (by decide)
  have ck := sDvCan exBoth (exBoth_sz.mono (by decide))
  have csc := sDvScope exT exT_sz (fun m hm => absurd hm (by simp [exT]))
  rw [exA] at ca
  rw [exB] at cb
  rw [exC] at cc
  rw [exR] at cr
  rw [exN] at cn
  rw [exK] at ck
  rw [exSc] at csc
  have eT : sv exT = .agg [.int .i64 (fun _ => exS.q.g.n), alv exS.q.g.us, alv exS.q.g.os, rlv exS.q.r.lo, rlv exS.q.r.hi, alv exS.q.r.rows, tsv exS.q.goal.ts, .bool (fun _ => exS.q.goal.c.neg), nat exS.q.goal.c.num, nat exS.q.goal.c.den, .sl (fun _ => [mapD [.int .i64 (fun _ => 3), .int .i64 (fun _ => 0), .bool (fun _ => (ratR ((4 : Int) : Rat)).neg), nat (ratR ((4 : Int) : Rat)).num, nat (ratR ((4 : Int) : Rat)).den]]), llv []] := rfl
  rw [eT] at cr csc
  clear eT
  have eLo : mlv exLo = .sl (fun _ => [mapD [.int .i64 (fun _ => 1), .int .i64 (fun _ => 0), .int .i64 (fun _ => 0), .int .i64 (fun _ => 0), .bool (fun _ => (ratR ((1 : Int) : Rat)).neg), nat (ratR ((1 : Int) : Rat)).num, nat (ratR ((1 : Int) : Rat)).den]]) := rfl
  have eHi : mlv exHi = .sl (fun _ => [mapD [.int .i64 (fun _ => 2), .int .i64 (fun _ => 0), .int .i64 (fun _ => 0), .int .i64 (fun _ => 0), .bool (fun _ => (ratR ((1 : Int) : Rat)).neg), nat (ratR ((1 : Int) : Rat)).num, nat (ratR ((1 : Int) : Rat)).den]]) := rfl
  have eBo : mlv exBoth = .sl (fun _ => [mapD [.int .i64 (fun _ => 2), .int .i64 (fun _ => 0), .int .i64 (fun _ => 0), .int .i64 (fun _ => 0), .bool (fun _ => (ratR ((1 : Int) : Rat)).neg), nat (ratR ((1 : Int) : Rat)).num, nat (ratR ((1 : Int) : Rat)).den], mapD [.int .i64 (fun _ => 4), .int .i64 (fun _ => 0), .int .i64 (fun _ => 0), .int .i64 (fun _ => 0), .bool (fun _ => (ratR ((1 : Int) : Rat)).neg), nat (ratR ((1 : Int) : Rat)).num, nat (ratR ((1 : Int) : Rat)).den]]) := rfl
  have fa : lv' ⟨0, false, ratR (-1), exLo⟩ = .agg [.int .i64 (fun _ => 0), .bool (fun _ => false), .bool (fun _ => (ratR ((-1 : Int) : Rat)).neg), nat (ratR ((-1 : Int) : Rat)).num, nat (ratR ((-1 : Int) : Rat)).den, mlv exLo] := rfl
  have fb : lv' ⟨0, false, R0, exLo⟩ = .agg [.int .i64 (fun _ => 0), .bool (fun _ => false), .bool (fun _ => false), nat [], nat [], mlv exLo] := rfl
  have fc : lv' ⟨0, true, ratR 2, exHi⟩ = .agg [.int .i64 (fun _ => 0), .bool (fun _ => true), .bool (fun _ => (ratR ((2 : Int) : Rat)).neg), nat (ratR ((2 : Int) : Rat)).num, nat (ratR ((2 : Int) : Rat)).den, mlv exHi] := rfl
  rw [fa, eLo] at ca
  rw [fb, eLo] at cb
  rw [fc, eHi] at cc
  rw [eBo] at cr ck
  rw [eLo] at cn
  have eT0 : exS.path = [] := rfl
  have eT1 : exS.lems = [] := rfl
  clear fa fb fc eLo eHi eBo
  generalize ratR ((1 : Int) : Rat) = O at *
  generalize ratR ((-1 : Int) : Rat) = N at *
  generalize ratR ((2 : Int) : Rat) = T at *
  generalize ratR ((4 : Int) : Rat) = Q at *
  generalize exS = S at *
  cbv
  refine callS' rfl (by repeat' first | exact trivial | exact leS_refl _ | exact leS_tt rfl | exact leS_ff rfl | exact leS_nil rfl | apply And.intro) (ce) rfl ?_
  cbv
  refine callP [0, 1] [1] rfl rfl (by repeat' first | exact trivial | exact leS_refl _ | exact leS_tt rfl | exact leS_ff rfl | exact leS_nil rfl | apply And.intro) (c1) rfl ?_
  cbv
  refine draw_of 10 (by cbv) ?_
  cbv
  refine draw_ofP 6 [1, 2, 3, 4] [1, 2] rfl (by cbv) ?_
  cbv
  refine callS_d (by repeat' first | exact trivial | exact leS_refl _ | exact leS_tt rfl | exact leS_ff rfl | exact leS_nil rfl | apply And.intro) (cm1) rfl ?_
  cbv
  refine callS_d (by repeat' first | exact trivial | exact leS_refl _ | exact leS_tt rfl | exact leS_ff rfl | exact leS_nil rfl | apply And.intro) (ca) rfl ?_
  cbv
  refine callP [1, 2, 3, 4, 5, 25, 27] [1, 2] rfl rfl (by repeat' first | exact trivial | exact leS_refl _ | exact leS_tt rfl | exact leS_ff rfl | exact leS_nil rfl | apply And.intro) (cb) rfl ?_
  cbv
  refine draw_ofP 6 [1, 2, 3, 4, 5, 6] [1, 2] rfl (by cbv) ?_
  cbv
  refine callS_d (by repeat' first | exact trivial | exact leS_refl _ | exact leS_tt rfl | exact leS_ff rfl | exact leS_nil rfl | apply And.intro) (c2) rfl ?_
  cbv
  refine callS_d (by repeat' first | exact trivial | exact leS_refl _ | exact leS_tt rfl | exact leS_ff rfl | exact leS_nil rfl | apply And.intro) (cc) rfl ?_
  cbv
  refine callP [1, 2, 3, 5, 6, 7, 8] [1, 2, 8] rfl rfl (by repeat' first | exact trivial | exact leS_refl _ | exact leS_tt rfl | exact leS_ff rfl | exact leS_nil rfl | apply And.intro) (c4) rfl ?_
  cbv
  refine br_tt rfl ?_
  cbv
  refine br_ff rfl ?_
  cbv
  refine br_tt rfl ?_
  cbv
  refine callP [1, 3, 8, 9, 54, 55, 56] [1, 8] rfl rfl (by exact ⟨⟨leS_refl _, leS_refl _, leS_refl _, leS_refl _, leS_refl _, leS_refl _, leS_refl _, leS_refl _, leS_refl _, leS_refl _, leS_sl rfl, leS_sl (by rw [eT1]), trivial⟩, leS_refl _, trivial⟩) cr rfl ?_
  cbv
  refine br_tt rfl ?_
  cbv
  refine callP [1, 3, 8, 9, 59, 60, 61] [8] rfl rfl (by repeat' first | exact trivial | exact leS_refl _ | exact leS_tt rfl | exact leS_ff rfl | exact leS_nil rfl | apply And.intro) (cn) rfl ?_
  cbv
  refine br_ff rfl ?_
  cbv
  refine callP [8, 9, 65, 66] [8] rfl rfl (by repeat' first | exact trivial | exact leS_refl _ | exact leS_tt rfl | exact leS_ff rfl | exact leS_nil rfl | apply And.intro) (ck) rfl ?_
  cbv
  refine br_tt rfl ?_
  cbv
  refine callP [69, 70] [] rfl rfl (by exact ⟨⟨leS_refl _, leS_refl _, leS_refl _, leS_refl _, leS_refl _, leS_refl _, leS_refl _, leS_refl _, leS_refl _, leS_refl _, leS_sl rfl, leS_sl (by rw [eT1]), trivial⟩, trivial⟩) csc rfl ?_
  cbv
  (refine retC rfl ?_; cbv)
  exact leS_refl _
end Go.Proofs.YtbehbhicjmjdhaaGreat

namespace Go.Proofs.YtbehbhicjmjdhaaGreat
open Go
set_option linter.unusedVariables false

theorem rl_iff (a b : Row) : rowLt a b = true ↔ (a.k < b.k ∨ (a.k = b.k ∧ (a.i < b.i ∨ (a.i = b.i ∧ (a.lo < b.lo ∨ (a.lo = b.lo ∧ a.hi < b.hi)))))) := by
  unfold rowLt
  split
  · split
    · split
      · simp only [decide_eq_true_eq]; omega
      · simp only [decide_eq_true_eq]; omega
    · simp only [decide_eq_true_eq]; omega
  · simp only [decide_eq_true_eq]; omega
theorem rl_irr {a : Row} (h : rowLt a a = true) : False := by rw [rl_iff] at h; omega
theorem rl_trans {a b c : Row} (h : rowLt a b = true) (g : rowLt b c = true) : rowLt a c = true := by rw [rl_iff] at *; omega
theorem rl_tri (a b : Row) : rowLt a b = true ∨ a = b ∨ rowLt b a = true := by
  rw [rl_iff, rl_iff]
  obtain ⟨a1, a2, a3, a4⟩ := a
  obtain ⟨b1, b2, b3, b4⟩ := b
  simp only [Row.mk.injEq]
  omega
theorem rl_le_lt {a b c : Row} (h : ¬ rowLt b a = true) (g : rowLt b c = true) : rowLt a c = true := by
  rcases rl_tri a b with e | e | e
  · exact rl_trans e g
  · rw [e]; exact g
  · exact absurd e h
theorem rl_lt_le {a b c : Row} (h : rowLt a b = true) (g : ¬ rowLt c b = true) : rowLt a c = true := by
  rcases rl_tri b c with e | e | e
  · exact rl_trans h e
  · rw [← e]; exact h
  · exact absurd e g
structure Rs (l : List (Row × Rat)) : Prop where
  s : l.Pairwise (fun a b => rowLt a.1 b.1 = true)
  p : ∀ t, t ∈ l → 0 < t.2
theorem Rs.nil : Rs [] := ⟨.nil, by simp⟩
theorem Rs.tail {t l} (h : Rs (t :: l)) : Rs l := ⟨(List.pairwise_cons.1 h.s).2, fun u hu => h.p u (List.mem_cons_of_mem _ hu)⟩
theorem Rs.lt {t l} (h : Rs (t :: l)) : ∀ u, u ∈ l → rowLt t.1 u.1 = true := (List.pairwise_cons.1 h.s).1
theorem Rs.hd {t l} (h : Rs (t :: l)) : 0 < t.2 := h.p t List.mem_cons_self
theorem Rs.cons {t l} (h : Rs l) (h1 : ∀ u, u ∈ l → rowLt t.1 u.1 = true) (h2 : 0 < t.2) : Rs (t :: l) :=
  ⟨List.pairwise_cons.2 ⟨h1, h.s⟩, fun u hu => by rcases List.mem_cons.1 hu with rfl | hu <;> first | exact h2 | exact h.p u hu⟩
def cor : List (Row × Rat) → Row → Rat
  | [], _ => 0
  | t :: r, w => (if t.1 = w then t.2 else 0) + cor r w
theorem cor_zero {l : List (Row × Rat)} {w : Row} (h : ∀ t, t ∈ l → t.1 ≠ w) : cor l w = 0 := by
  induction l with
  | nil => rfl
  | cons t r ih =>
    simp only [cor, if_neg (h t List.mem_cons_self), ih fun u hu => h u (List.mem_cons_of_mem _ hu)]
    grind
theorem cor_hd {t : Row × Rat} {l} (h : Rs (t :: l)) : cor (t :: l) t.1 = t.2 := by
  simp only [cor, if_true, cor_zero fun u hu e => rl_irr (e ▸ h.lt u hu)]
  grind
theorem Rs.ext : ∀ {l m : List (Row × Rat)}, Rs l → Rs m → (∀ w, cor l w = cor m w) → l = m
  | [], [], _, _, _ => rfl
  | [], b :: m, _, hm, h => by
    have := h b.1
    rw [cor_hd hm] at this
    have h2 := hm.hd
    simp only [cor] at this
    grind
  | a :: l, [], hl, _, h => by
    have := h a.1
    rw [cor_hd hl] at this
    have h2 := hl.hd
    simp only [cor] at this
    grind
  | a :: l, b :: m, hl, hm, h => by
    have h1 : a.1 = b.1 := by
      rcases rl_tri a.1 b.1 with c | c | c
      · have := h a.1
        rw [cor_hd hl, cor_zero (l := b :: m) (fun t ht e => by
          rcases List.mem_cons.1 ht with rfl | ht
          · rw [e] at c; exact rl_irr c
          · have g := rl_trans c (hm.lt t ht)
            rw [e] at g; exact rl_irr g)] at this
        have h2 := hl.hd
        grind
      · exact c
      · have := h b.1
        rw [cor_hd hm, cor_zero (l := a :: l) (fun t ht e => by
          rcases List.mem_cons.1 ht with rfl | ht
          · rw [e] at c; exact rl_irr c
          · have g := rl_trans c (hl.lt t ht)
            rw [e] at g; exact rl_irr g)] at this
        have h2 := hm.hd
        grind
    have h2 : a.2 = b.2 := by
      have := h a.1
      rw [cor_hd hl, h1, cor_hd hm] at this
      exact this
    have h3 : a = b := Prod.ext h1 h2
    subst h3
    congr 1
    refine Rs.ext hl.tail hm.tail fun w => ?_
    have := h w
    simp only [cor] at this
    grind

def corM : List Mult → Row → Rat
  | [], _ => 0
  | m :: r, w => (if m.row = w then m.c.q else 0) + corM r w
theorem corM_app (l m : List Mult) (w : Row) : corM (l ++ m) w = corM l w + corM m w := by
  induction l with
  | nil => simp only [List.nil_append, corM]; grind
  | cons a r ih => simp only [List.cons_append, corM, ih]; grind
theorem corM_rev (l : List Mult) (w : Row) : corM l.reverse w = corM l w := by
  induction l with
  | nil => rfl
  | cons a r ih => simp only [List.reverse_cons, corM_app, ih, corM]; grind

/-! ### Sorted, then grouped -/

theorem corM_insR (x : Mult) (w : Row) : ∀ l, corM (insR x l) w = (if x.row = w then x.c.q else 0) + corM l w
  | [] => rfl
  | y :: r => by
    unfold insR
    split
    · simp only [corM, corM_insR x w r]; grind
    · simp only [corM]
theorem corM_isr (l : List Mult) (w : Row) : corM (isr l) w = corM l w := by
  have : ∀ (l a : List Mult), corM (l.foldl (fun a x => insR x a) a) w = corM a w + corM l w := by
    intro l
    induction l with
    | nil => intro a; simp only [List.foldl_nil, corM]; grind
    | cons x r ih => intro a; rw [List.foldl_cons, ih, corM_insR]; simp only [corM]; grind
  unfold isr
  rw [this]
  simp only [corM]
  grind
theorem cmp_rl (a b : Row) : cmpRow a b < 0 ↔ rowLt a b = true := by rw [rowLt_cmp, decide_eq_true_eq]
theorem insR_mem' {x z : Mult} {l} (h : z ∈ insR x l) : z = x ∨ z ∈ l := insR_mem h
theorem insR_sorted {x : Mult} : ∀ {l : List Mult}, l.Pairwise (fun a b => ¬ rowLt a.row b.row = true) → (insR x l).Pairwise (fun a b => ¬ rowLt a.row b.row = true)
  | [], _ => List.pairwise_singleton _ _
  | y :: r, h => by
    obtain ⟨h1, h2⟩ := List.pairwise_cons.1 h
    unfold insR
    split
    · rename_i hc
      rw [cmp_rl] at hc
      refine List.pairwise_cons.2 ⟨fun z hz => ?_, insR_sorted h2⟩
      rcases insR_mem hz with rfl | hz
      · exact fun g => rl_irr (rl_trans hc g)
      · exact h1 z hz
    · rename_i hc
      rw [cmp_rl] at hc
      refine List.pairwise_cons.2 ⟨fun z hz => ?_, h⟩
      rcases List.mem_cons.1 hz with rfl | hz
      · exact hc
      · exact fun g => hc (rl_lt_le g (h1 z hz))
theorem isr_sorted (l : List Mult) : (isr l).reverse.Pairwise (fun a b => ¬ rowLt b.row a.row = true) := by
  rw [List.pairwise_reverse]
  have : ∀ (l a : List Mult), a.Pairwise (fun a b => ¬ rowLt a.row b.row = true) → (l.foldl (fun a x => insR x a) a).Pairwise (fun a b => ¬ rowLt a.row b.row = true) := by
    intro l
    induction l with
    | nil => intro a h; exact h
    | cons x r ih => intro a h; exact ih _ (insR_sorted h)
  exact this l [] .nil
theorem sgn_pos {q : Rat} : 0 < sgnQ q ↔ 0 < q := by unfold sgnQ; split <;> (try split) <;> grind
theorem sgn_neg {q : Rat} : sgnQ q < 0 ↔ q < 0 := by unfold sgnQ; split <;> (try split) <;> grind
theorem sgn_zero' {q : Rat} : sgnQ q = 0 ↔ q = 0 := by unfold sgnQ; split <;> (try split) <;> grind
theorem cor_gfin {r : Row} {q : Rat} (hq : 0 ≤ q) (rest : List (Row × Rat)) (w : Row) : cor (gfin r q rest) w = (if r = w then q else 0) + cor rest w := by
  unfold gfin
  split
  · rfl
  · rename_i h
    rw [sgn_pos] at h
    have : q = 0 := by grind
    rw [this]
    split <;> grind
theorem cor_grpG (w : Row) : ∀ {L : List Mult} {r : Row} {q : Rat}, 0 ≤ q → (∀ m, m ∈ L → 0 ≤ m.c.q) → cor (grpG r q L) w = (if r = w then q else 0) + corM L w
  | [], r, q, hq, _ => by
    show cor (gfin r q []) w = _
    rw [cor_gfin hq]
    rfl
  | m :: t, r, q, hq, hL => by
    have hm := hL m List.mem_cons_self
    have ht := fun u hu => hL u (List.mem_cons_of_mem _ hu)
    unfold grpG
    split
    · rename_i e
      rw [cor_grpG w (by grind) ht]
      simp only [corM, e]
      split <;> grind
    · rw [cor_gfin hq, cor_grpG w (by grind) ht]
      simp only [corM]
      grind
theorem rs_gfin {r : Row} {q : Rat} {rest : List (Row × Rat)} (h : Rs rest) (h1 : ∀ u, u ∈ rest → rowLt r u.1 = true) : Rs (gfin r q rest) := by
  unfold gfin
  split
  · rename_i hp; exact h.cons h1 (sgn_pos.1 hp)
  · exact h
theorem rs_grpG : ∀ {L : List Mult} {r : Row} {q : Rat}, L.Pairwise (fun a b => ¬ rowLt b.row a.row = true) → (∀ m, m ∈ L → ¬ rowLt m.row r = true) → Rs (grpG r q L) ∧ ∀ t, t ∈ grpG r q L → ¬ rowLt t.1 r = true
  | [], r, q, _, _ => by
    refine ⟨rs_gfin Rs.nil (by simp), fun t ht => ?_⟩
    have ht' : t ∈ gfin r q [] := ht
    unfold gfin at ht'
    split at ht'
    · have : t = (r, q) := by simpa using ht'
      rw [this]; exact fun h => rl_irr h
    · exact absurd ht' (by simp)
  | m :: t, r, q, hs, hr => by
    obtain ⟨h1, h2⟩ := List.pairwise_cons.1 hs
    have hm := hr m List.mem_cons_self
    unfold grpG
    split
    · exact rs_grpG h2 (fun u hu => hr u (List.mem_cons_of_mem _ hu))
    · rename_i e
      obtain ⟨g1, g2⟩ := rs_grpG (r := m.row) (q := 0 + m.c.q) h2 h1
      have hlt : rowLt r m.row = true := by
        rcases rl_tri r m.row with c | c | c
        · exact c
        · exact absurd c.symm e
        · exact absurd c hm
      have g3 : ∀ u, u ∈ grpG m.row (0 + m.c.q) t → rowLt r u.1 = true := fun u hu => rl_lt_le hlt (g2 u hu)
      refine ⟨rs_gfin g1 g3, fun u hu => ?_⟩
      unfold gfin at hu
      split at hu
      · rcases List.mem_cons.1 hu with rfl | hu
        · exact fun h => rl_irr h
        · exact fun h => rl_irr (rl_trans h (g3 u hu))
      · exact fun h => rl_irr (rl_trans h (g3 u hu))
theorem grp_rs {L : List Mult} (hs : L.Pairwise (fun a b => ¬ rowLt b.row a.row = true)) : Rs (grp L) := by
  cases L with
  | nil => exact Rs.nil
  | cons m t => exact (rs_grpG (r := m.row) (q := 0) hs (fun u hu => by
      rcases List.mem_cons.1 hu with rfl | hu
      · exact fun h => rl_irr h
      · exact (List.pairwise_cons.1 hs).1 u hu)).1
theorem cor_grp {L : List Mult} (hL : ∀ m, m ∈ L → 0 ≤ m.c.q) (w : Row) : cor (grp L) w = corM L w := by
  cases L with
  | nil => rfl
  | cons m t =>
    show cor (grpG m.row 0 (m :: t)) w = _
    rw [cor_grpG w (by grind) hL]
    split <;> grind

/-! ### Row by row -/

theorem cor_plM (r : Row) (q : Rat) (w : Row) : ∀ l, cor (plM r q l) w = (if r = w then q else 0) + cor l w
  | [] => by simp only [plM, cor]
  | t :: rest => by
    unfold plM
    split
    · simp only [cor, cor_plM r q w rest]; grind
    · split
      · rename_i e
        simp only [cor, e]
        split <;> grind
      · simp only [cor]
theorem plM_mem {r : Row} {q : Rat} : ∀ {l : List (Row × Rat)} {u}, u ∈ plM r q l → u.1 = r ∨ ∃ t, t ∈ l ∧ t.1 = u.1
  | [], u, h => by
    have : u = (r, q) := by simpa [plM] using h
    rw [this]; exact .inl rfl
  | t :: rest, u, h => by
    unfold plM at h
    split at h
    · rcases List.mem_cons.1 h with rfl | h
      · exact .inr ⟨u, List.mem_cons_self, rfl⟩
      · rcases plM_mem h with h | ⟨v, h1, h2⟩
        · exact .inl h
        · exact .inr ⟨v, List.mem_cons_of_mem _ h1, h2⟩
    · split at h
      · rcases List.mem_cons.1 h with rfl | h
        · exact .inl rfl
        · exact .inr ⟨u, List.mem_cons_of_mem _ h, rfl⟩
      · rcases List.mem_cons.1 h with rfl | h
        · exact .inl rfl
        · exact .inr ⟨u, h, rfl⟩
theorem rs_plM {r : Row} {q : Rat} (hq : 0 < q) : ∀ {l : List (Row × Rat)}, Rs l → Rs (plM r q l)
  | [], _ => Rs.nil.cons (by simp) hq
  | t :: rest, h => by
    unfold plM
    split
    · rename_i hlt
      refine (rs_plM hq h.tail).cons (fun u hu => ?_) h.hd
      rcases plM_mem hu with e | ⟨v, h1, h2⟩
      · rw [e]; exact hlt
      · rw [← h2]; exact h.lt v h1
    · rename_i hlt
      split
      · rename_i e
        have := h.hd
        exact h.tail.cons (fun u hu => by rw [← e]; exact h.lt u hu) (by show 0 < t.2 + q; grind)
      · rename_i e
        have hlt' : rowLt r t.1 = true := by
          rcases rl_tri r t.1 with c | c | c
          · exact c
          · exact absurd c.symm e
          · exact absurd c hlt
        refine h.cons (fun u hu => ?_) hq
        rcases List.mem_cons.1 hu with rfl | hu
        · exact hlt'
        · exact rl_trans hlt' (h.lt u hu)
theorem plMq_rs {l : List (Row × Rat)} {r : Row} {q : Rat} (h : Rs l) (hq : 0 ≤ q) : Rs (plMq l r q) := by
  unfold plMq
  split
  · exact h
  · rename_i e
    rw [sgn_zero'] at e
    exact rs_plM (by grind) h
theorem cor_plMq (l : List (Row × Rat)) (r : Row) (q : Rat) (w : Row) : cor (plMq l r q) w = (if r = w then q else 0) + cor l w := by
  unfold plMq
  split
  · rename_i e
    rw [sgn_zero'] at e
    rw [e]
    split <;> grind
  · exact cor_plM r q w l
theorem rfold_ok {l : List Mult} (hL : ∀ m, m ∈ l → 0 ≤ m.c.q) : Rs (rfold l) ∧ ∀ w, cor (rfold l) w = corM l w := by
  have : ∀ (l : List Mult) (a : List (Row × Rat)), (∀ m, m ∈ l → 0 ≤ m.c.q) → Rs a → Rs (l.foldl (fun a m => plMq a m.row m.c.q) a) ∧ ∀ w, cor (l.foldl (fun a m => plMq a m.row m.c.q) a) w = cor a w + corM l w := by
    intro l
    induction l with
    | nil => intro a _ h; exact ⟨h, fun w => by simp only [List.foldl_nil, corM]; grind⟩
    | cons m r ih =>
      intro a hL h
      obtain ⟨h1, h2⟩ := ih (plMq a m.row m.c.q) (fun u hu => hL u (List.mem_cons_of_mem _ hu)) (plMq_rs h (hL m List.mem_cons_self))
      refine ⟨h1, fun w => ?_⟩
      rw [List.foldl_cons, h2, cor_plMq]
      simp only [corM]
      grind
  obtain ⟨h1, h2⟩ := this l [] hL Rs.nil
  exact ⟨h1, fun w => by rw [show rfold l = l.foldl (fun a m => plMq a m.row m.c.q) [] from rfl, h2]; simp only [cor]; grind⟩

/-! ### The two ways agree -/

theorem collect_eq (l : List Mult) : collect l = rcol l := by
  unfold collect rcol
  split
  · rfl
  · rename_i h
    have hL : ∀ m, m ∈ l → 0 ≤ m.c.q := fun m hm => by
      have h1 : ¬ sgnQ m.c.q < 0 := fun g => h (List.any_eq_true.2 ⟨m, hm, by simpa using g⟩)
      rw [sgn_neg] at h1
      grind
    obtain ⟨h1, h2⟩ := rfold_ok hL
    congr 1
    refine Rs.ext (grp_rs (isr_sorted l)) h1 fun w => ?_
    rw [h2, cor_grp (fun m hm => hL m (isr_mem (by simpa using hm))), corM_rev, corM_isr]
theorem collect_rs (l : List Mult) : Rs (collect l).2 := by
  unfold collect
  split
  · exact Rs.nil
  · exact grp_rs (isr_sorted l)
theorem canM_rs : ∀ {l : List (Row × Rat)} {p : Option Row}, Rs l → (∀ w, p = some w → ∀ t, t ∈ l → rowLt w t.1 = true) → canM p (mR l) = true
  | [], p, _, _ => by cases p <;> rfl
  | t :: r, none, h, hp => by
    show (decide (0 < sgnQ (ratR t.2).q) && ((ratR t.2).ok && (true && canM (some t.1) (mR r)))) = true
    rw [q_ratR, ok_ratR, decide_eq_true (sgn_pos.2 h.hd), canM_rs h.tail (fun w e u hu => by cases e; exact h.lt u hu)]
    rfl
  | t :: r, some w, h, hp => by
    show (decide (0 < sgnQ (ratR t.2).q) && ((ratR t.2).ok && (decide (cmpRow w t.1 < 0) && canM (some t.1) (mR r)))) = true
    rw [q_ratR, ok_ratR, decide_eq_true (sgn_pos.2 h.hd), canM_rs h.tail (fun w e u hu => by cases e; exact h.lt u hu), decide_eq_true ((cmp_rl _ _).2 (hp w rfl t List.mem_cons_self))]
    rfl
theorem collect_can (l : List Mult) : canM none (mR (collect l).2) = true := canM_rs (collect_rs l) (fun w e => by cases e)
end Go.Proofs.YtbehbhicjmjdhaaGreat
