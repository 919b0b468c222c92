/- A part of the proof: LwB, PlD, LwC, BrA, BrB. -/
import Derived.Test.YtcanljninhfmhaaGreatS36
import Derived.Test.YtcanljninhfmhaaGreatS28
import Derived.Test.YtcanljninhfmhaaGreatRows
import Derived.Deep.Slices
import Derived.Deep.Strs
import Derived.Lib.SmallJoins
import Derived.KernelRfl
import Derived.ProofKit
import Derived.OpenShut
import Derived.ReadAgain
import Derived.ChangeStays
set_option linter.all false
namespace Go.Proofs.YtcanljninhfmhaaGreat
open Go
set_option linter.unusedVariables false
set_option maxRecDepth 100000
set_option maxHeartbeats 2000000
def exU : F := F.sub (F.var 0) (F.num 1)
def exS : Scp := ⟨⟨⟨1, [fA exU], [fA (F.var 1)]⟩, ⟨[R0], [ratR 3], []⟩, fA (F.var 1)⟩, [], []⟩
def exT : Scp := ⟨exS.q, [⟨3, 0, ratR 4⟩], []⟩
def exLo : List Mult := [⟨⟨1, 0, 0, 0⟩, ratR 1⟩]
def exHi : List Mult := [⟨⟨2, 0, 0, 0⟩, ratR 1⟩]
def exBoth : List Mult := [⟨⟨2, 0, 0, 0⟩, ratR 1⟩, ⟨⟨4, 0, 0, 0⟩, ratR 1⟩]
theorem exA : exS.lemB ⟨0, false, ratR (-1), exLo⟩ = true := by decide +kernel
theorem exB : exS.lemB ⟨0, false, R0, exLo⟩ = false := by decide +kernel
theorem exC : exS.lemB ⟨0, true, ratR 2, exHi⟩ = true := by decide +kernel
theorem exR : exT.refutes exBoth = true := by decide +kernel
theorem exN : exS.refutes exLo = false := by decide +kernel
theorem exK : canM none exBoth = true := by decide +kernel
theorem exSc : exT.scopeB = true := by decide +kernel
theorem one_sz : (ratR 1).sz (2^20) := by have := rat_int 1 (by decide) (by decide); exact this.mono (by decide)
theorem of_sz (z : Int) (h1 : -1000 ≤ z) (h2 : z ≤ 1000) : (ratR (z : Rat)).sz (2^20) := (rat_int z h1 h2).mono (by decide)
theorem R0_sz {k : Nat} : R0.sz k := ⟨Nat.zero_le _, Nat.zero_le _⟩
theorem exU_fl : exU.fl (2^20) 1 := ((var_fl 0).sub (num_fl fits_one)).mono (by decide) (by decide)
theorem fl_sz {f : F} {k n : Nat} (h : f.fl k n) (hn : n < 2^38) : (fA f).sz k := (h.fit hn).fA
theorem exV1_fl : (F.var 1).fl (2^20) 1 := (var_fl 1).mono (by decide) (by decide)
theorem exQ_sz : exS.q.sz (2^20) where
 g := ⟨⟨by show 1 < _; decide, fun a ha => by
   have : a = fA exU := by simpa [exS] using ha
   rw [this]; exact fl_sz exU_fl (by decide)⟩, ⟨by show 1 < _; decide, fun a ha => by
   have : a = fA (F.var 1) := by simpa [exS] using ha
   rw [this]; exact fl_sz exV1_fl (by decide)⟩⟩
 r := ⟨⟨by show 1 < _; decide, fun a ha => by
   have : a = R0 := by simpa [exS] using ha
   rw [this]; exact R0_sz⟩, ⟨by show 1 < _; decide, fun a ha => by
   have : a = ratR 3 := by simpa [exS] using ha
   rw [this]; exact of_sz 3 (by decide) (by decide)⟩, ⟨by show 0 < _; decide, fun a ha => absurd ha (by simp [exS])⟩⟩
 goal := fl_sz exV1_fl (by decide)
theorem exS_sz : exS.sz (2^20) := ⟨exQ_sz, ⟨by show 0 < _; decide, fun a ha => absurd ha (by simp [exS])⟩, ⟨by show 0 < _; decide, fun a ha => absurd ha (by simp [exS]), fun a ha => absurd ha (by simp [exS])⟩⟩
theorem exT_sz : exT.sz (2^20) := ⟨exQ_sz, ⟨by show 1 < _; decide, fun a ha => by
  have : a = ⟨3, 0, ratR 4⟩ := by simpa [exT] using ha
  rw [this]; exact of_sz 4 (by decide) (by decide)⟩, ⟨by show 0 < _; decide, fun a ha => absurd ha (by simp [exT]), fun a ha => absurd ha (by simp [exT])⟩⟩
theorem exLo_sz : Msz (2^20) exLo := ⟨by show 1 < _; decide, fun a ha => by
 have : a = ⟨⟨1, 0, 0, 0⟩, ratR 1⟩ := by simpa [exLo] using ha
 rw [this]; exact one_sz⟩
theorem exHi_sz : Msz (2^20) exHi := ⟨by show 1 < _; decide, fun a ha => by
 have : a = ⟨⟨2, 0, 0, 0⟩, ratR 1⟩ := by simpa [exHi] using ha
 rw [this]; exact one_sz⟩
theorem exBoth_sz : Msz (2^20) exBoth := ⟨by show 2 < _; decide, fun a ha => by
 have : a = ⟨⟨2, 0, 0, 0⟩, ratR 1⟩ ∨ a = ⟨⟨4, 0, 0, 0⟩, ratR 1⟩ := by simpa [exBoth] using ha
 rcases this with h | h <;> (rw [h]; exact one_sz)⟩
theorem hfExample : Pg.funcs[48]? = some Tryz.f48 := by rw [Pg_eq]; rfl
theorem sExample : SoundS 48 [] (sv exS) := by
 refine sound_fn hfExample rfl rfl rfl rfl rfl ?_
 have cv0 := sRgVar 0
 have cv1 := sRgVar 1
 have c1 := s32 1 (by decide) (by decide)
 have c3 := s32 3 (by decide) (by decide)
 have cn := sRgNum (ratR ((1 : Int) : Rat))
 have hcn : ∀ v : Int, Cn (F.var v).ts := fun v => ⟨List.pairwise_singleton _ _, fun t ht => by
  have : t = (v, 1) := by simpa [F.var] using ht
  rw [this]; show (1 : Rat) ≠ 0; decide⟩
 have cs := sRgSub (F.var 0).ts (ratR 0) ⟨[], ratR ((1 : Int) : Rat)⟩ (hcn 0) Cn.nil ⟨by decide, fun t ht => ((var_fl 0).t t ht).mono (by decide)⟩ (by rw [ratR_zero]; exact R0_sz) ⟨⟨by show 0 < _; decide, fun _ h => absurd h (by simp)⟩, (of_sz 1 (by decide) (by decide)).mono (by decide)⟩ (by show 1 + 0 < 2^37; decide)
 rw [q_ratR] at cs
 have e1 : (A.f ⟨[], ratR ((1 : Int) : Rat)⟩) = F.num 1 := by show (⟨[], (ratR ((1 : Int) : Rat)).q⟩ : F) = _; rw [q_ratR]; rfl
 rw [e1] at cs
 have e2 : F.sub ⟨(F.var 0).ts, 0⟩ (F.num 1) = exU := rfl
 rw [e2] at cs
 have cs' : SoundS 27 [av (fA (F.var 0)), av ⟨[], ratR ((1 : Int) : Rat)⟩] (av (fA exU)) := cs
 have es : sv exS = .agg [.int .i64 (fun _ => 1), alv [fA exU], alv [fA (F.var 1)], rlv [R0], rlv [ratR ((3 : Int) : Rat)], alv [], tsv (fA (F.var 1)).ts, .bool (fun _ => (fA (F.var 1)).c.neg), nat (fA (F.var 1)).c.num, nat (fA (F.var 1)).c.den, dlv [], llv []] := rfl
 rw [es]
 clear es e1 e2 cs hcn
 dsimp only [fv] at cv0 cv1
 generalize ratR ((3 : Int) : Rat) = T at *
 generalize ratR ((1 : Int) : Rat) = O at *
 generalize fA (F.var 0) = V0 at *
 generalize fA (F.var 1) = V1 at *
 generalize fA exU = U at *
 cbv
 refine callS' rfl okA (cv0) rfl ?_
 cbv
 refine callS' rfl okA (c1) rfl ?_
 cbv
 refine callS' rfl okA (cn) rfl ?_
 cbv
 refine callS' rfl (by exact ⟨⟨leS_refl _, leS_refl _, leS_refl _, leS_refl _, trivial⟩, ⟨leS_sl rfl, leS_refl _, leS_refl _, leS_refl _, trivial⟩, trivial⟩) cs' rfl ?_
 cbv
 refine draw_mk 6 (by cbv) (by cbv) ?_
 cbv
 refine callS_d okA (cv1) rfl ?_
 cbv
 refine draw_of 9 (by cbv) ?_
 cbv
 refine callS_d okA (c3) rfl ?_
 cbv
 refine callS_d okA (cv1) rfl ?_
 cbv
 (refine retC rfl ?_; cbv)
 exact ⟨leS_refl _, leS_sl rfl, leS_sl rfl, leS_sl rfl, leS_sl rfl, leS_nil rfl, leS_refl _, leS_refl _, leS_refl _, leS_refl _, leS_nil rfl, leS_nil rfl, trivial⟩
theorem br_tt {b : Bool} {A B : Unit → Prop} (h : b = true) (h1 : A ()) : Br (fun _ => b) A B := br_bool (fun _ => h1) (fun g => by rw [h] at g; cases g)
theorem br_ff {b : Bool} {A B : Unit → Prop} (h : b = false) (h1 : B ()) : Br (fun _ => b) A B := br_bool (fun g => by rw [h] at g; cases g) (fun _ => h1)
theorem cut_tt {b : Bool} {A B : (Exit → PS → Prop) → Prop} {Q : Exit → PS → Prop} (h : b = true) (h1 : A Q) : Cut (fun _ => b) A B Q := cut_bool (fun _ => h1) (fun g => by rw [h] at g; cases g)
theorem hfAwake : Pg.funcs[12]? = some Tryz.f12 := by rw [Pg_eq]; rfl
theorem sAwake : SoundS 12 [] (.bool (fun _ => true)) := by
 refine sound_fn hfAwake rfl rfl rfl rfl rfl ?_
 have ce := sExample
 have c1 := s32 1 (by decide) (by decide)
 have cm1 := s32 (-1) (by decide) (by decide)
 have c2 := s32 2 (by decide) (by decide)
 have c4 := s32 4 (by decide) (by decide)
 have ca := sDvLemma exS ⟨0, false, ratR (-1), exLo⟩ exS_sz (of_sz (-1) (by decide) (by decide)) exLo_sz (by decide)
 have cb := sDvLemma exS ⟨0, false, R0, exLo⟩ exS_sz R0_sz exLo_sz (by decide)
 have cc := sDvLemma exS ⟨0, true, ratR 2, exHi⟩ exS_sz (of_sz 2 (by decide) (by decide)) exHi_sz (by decide)
 have cr := sDvRefutes exT exBoth exT_sz exBoth_sz (by decide)
 have cn := sDvRefutes exS exLo exS_sz exLo_sz (by decide)
 have ck := sDvCan exBoth (exBoth_sz.mono (by decide))
 have csc := sDvScope exT exT_sz (fun m hm => absurd hm (by simp [exT]))
 rw [exA] at ca
 rw [exB] at cb
 rw [exC] at cc
 rw [exR] at cr
 rw [exN] at cn
 rw [exK] at ck
 rw [exSc] at csc
 have eT : sv exT = .agg [.int .i64 (fun _ => exS.q.g.n), alv exS.q.g.us, alv exS.q.g.os, rlv exS.q.r.lo, rlv exS.q.r.hi, alv exS.q.r.rows, tsv exS.q.goal.ts, .bool (fun _ => exS.q.goal.c.neg), nat exS.q.goal.c.num, nat exS.q.goal.c.den, .sl (fun _ => [mapD [.int .i64 (fun _ => 3), .int .i64 (fun _ => 0), .bool (fun _ => (ratR ((4 : Int) : Rat)).neg), nat (ratR ((4 : Int) : Rat)).num, nat (ratR ((4 : Int) : Rat)).den]]), llv []] := rfl
 rw [eT] at cr csc
 clear eT
 have eLo : mlv exLo = .sl (fun _ => [mapD [.int .i64 (fun _ => 1), .int .i64 (fun _ => 0), .int .i64 (fun _ => 0), .int .i64 (fun _ => 0), .bool (fun _ => (ratR ((1 : Int) : Rat)).neg), nat (ratR ((1 : Int) : Rat)).num, nat (ratR ((1 : Int) : Rat)).den]]) := rfl
 have eHi : mlv exHi = .sl (fun _ => [mapD [.int .i64 (fun _ => 2), .int .i64 (fun _ => 0), .int .i64 (fun _ => 0), .int .i64 (fun _ => 0), .bool (fun _ => (ratR ((1 : Int) : Rat)).neg), nat (ratR ((1 : Int) : Rat)).num, nat (ratR ((1 : Int) : Rat)).den]]) := rfl
 have eBo : mlv exBoth = .sl (fun _ => [mapD [.int .i64 (fun _ => 2), .int .i64 (fun _ => 0), .int .i64 (fun _ => 0), .int .i64 (fun _ => 0), .bool (fun _ => (ratR ((1 : Int) : Rat)).neg), nat (ratR ((1 : Int) : Rat)).num, nat (ratR ((1 : Int) : Rat)).den], mapD [.int .i64 (fun _ => 4), .int .i64 (fun _ => 0), .int .i64 (fun _ => 0), .int .i64 (fun _ => 0), .bool (fun _ => (ratR ((1 : Int) : Rat)).neg), nat (ratR ((1 : Int) : Rat)).num, nat (ratR ((1 : Int) : Rat)).den]]) := rfl
 have fa : lv' ⟨0, false, ratR (-1), exLo⟩ = .agg [.int .i64 (fun _ => 0), .bool (fun _ => false), .bool (fun _ => (ratR ((-1 : Int) : Rat)).neg), nat (ratR ((-1 : Int) : Rat)).num, nat (ratR ((-1 : Int) : Rat)).den, mlv exLo] := rfl
 have fb : lv' ⟨0, false, R0, exLo⟩ = .agg [.int .i64 (fun _ => 0), .bool (fun _ => false), .bool (fun _ => false), nat [], nat [], mlv exLo] := rfl
 have fc : lv' ⟨0, true, ratR 2, exHi⟩ = .agg [.int .i64 (fun _ => 0), .bool (fun _ => true), .bool (fun _ => (ratR ((2 : Int) : Rat)).neg), nat (ratR ((2 : Int) : Rat)).num, nat (ratR ((2 : Int) : Rat)).den, mlv exHi] := rfl
 rw [fa, eLo] at ca
 rw [fb, eLo] at cb
 rw [fc, eHi] at cc
 rw [eBo] at cr ck
 rw [eLo] at cn
 have eT0 : exS.path = [] := rfl
 have eT1 : exS.lems = [] := rfl
 clear fa fb fc eLo eHi eBo
 generalize ratR ((1 : Int) : Rat) = O at *
 generalize ratR ((-1 : Int) : Rat) = N at *
 generalize ratR ((2 : Int) : Rat) = T at *
 generalize ratR ((4 : Int) : Rat) = Q at *
 generalize exS = S at *
 cbv
 refine callS' rfl okA (ce) rfl ?_
 cbv
 refine callP [0, 1] [1] rfl rfl okA (c1) rfl ?_
 cbv
 refine draw_of 10 (by cbv) ?_
 cbv
 refine draw_ofP 6 [1, 2, 3, 4] [1, 2] rfl (by cbv) ?_
 cbv
 refine callS_d okA (cm1) rfl ?_
 cbv
 refine callS_d okA (ca) rfl ?_
 cbv
 refine callP [1, 2, 3, 4, 5, 25, 27] [1, 2] rfl rfl okA (cb) rfl ?_
 cbv
 refine draw_ofP 6 [1, 2, 3, 4, 5, 6] [1, 2] rfl (by cbv) ?_
 cbv
 refine callS_d okA (c2) rfl ?_
 cbv
 refine callS_d okA (cc) rfl ?_
 cbv
 refine callP [1, 2, 3, 5, 6, 7, 8] [1, 2, 8] rfl rfl okA (c4) rfl ?_
 cbv
 refine br_tt rfl ?_
 cbv
 refine br_ff rfl ?_
 cbv
 refine br_tt rfl ?_
 cbv
 refine callP [1, 3, 8, 9, 54, 55, 56] [1, 8] rfl rfl (by exact ⟨⟨leS_refl _, leS_refl _, leS_refl _, leS_refl _, leS_refl _, leS_refl _, leS_refl _, leS_refl _, leS_refl _, leS_refl _, leS_sl rfl, leS_sl (by rw [eT1]), trivial⟩, leS_refl _, trivial⟩) cr rfl ?_
 cbv
 refine br_tt rfl ?_
 cbv
 refine callP [1, 3, 8, 9, 59, 60, 61] [8] rfl rfl okA (cn) rfl ?_
 cbv
 refine br_ff rfl ?_
 cbv
 refine callP [8, 9, 65, 66] [8] rfl rfl okA (ck) rfl ?_
 cbv
 refine br_tt rfl ?_
 cbv
 refine callP [69, 70] [] rfl rfl (by exact ⟨⟨leS_refl _, leS_refl _, leS_refl _, leS_refl _, leS_refl _, leS_refl _, leS_refl _, leS_refl _, leS_refl _, leS_refl _, leS_sl rfl, leS_sl (by rw [eT1]), trivial⟩, trivial⟩) csc rfl ?_
 cbv
 (refine retC rfl ?_; cbv)
 exact leS_refl _
end Go.Proofs.YtcanljninhfmhaaGreat

namespace Go.Proofs.YtcanljninhfmhaaGreat
open Go
set_option linter.unusedVariables false
theorem rl_iff (a b : Row) : rowLt a b = true ↔ (a.k < b.k ∨ (a.k = b.k ∧ (a.i < b.i ∨ (a.i = b.i ∧ (a.lo < b.lo ∨ (a.lo = b.lo ∧ a.hi < b.hi)))))) := by
 unfold rowLt
 split
 ·split
  ·split
   ·simp only [decide_eq_true_eq]; omega
   ·simp only [decide_eq_true_eq]; omega
  ·simp only [decide_eq_true_eq]; omega
 ·simp only [decide_eq_true_eq]; omega
theorem rl_irr {a : Row} (h : rowLt a a = true) : False := by rw [rl_iff] at h; omega
theorem rl_trans {a b c : Row} (h : rowLt a b = true) (g : rowLt b c = true) : rowLt a c = true := by rw [rl_iff] at *; omega
theorem rl_tri (a b : Row) : rowLt a b = true ∨ a = b ∨ rowLt b a = true := by
 rw [rl_iff, rl_iff]
 obtain ⟨a1, a2, a3, a4⟩ := a
 obtain ⟨b1, b2, b3, b4⟩ := b
 simp only [Row.mk.injEq]
 omega
structure Rs (l : List (Row × Rat)) : Prop where
 s : l.Pairwise (fun a b => rowLt a.1 b.1 = true)
 p : ∀ t, t ∈ l → 0 < t.2
theorem Rs.nil : Rs [] := ⟨.nil, by simp⟩
theorem Rs.tail {t l} (h : Rs (t :: l)) : Rs l := ⟨(List.pairwise_cons.1 h.s).2, fun u hu => h.p u (List.mem_cons_of_mem _ hu)⟩
theorem Rs.lt {t l} (h : Rs (t :: l)) : ∀ u, u ∈ l → rowLt t.1 u.1 = true := (List.pairwise_cons.1 h.s).1
theorem Rs.hd {t l} (h : Rs (t :: l)) : 0 < t.2 := h.p t List.mem_cons_self
theorem Rs.cons {t l} (h : Rs l) (h1 : ∀ u, u ∈ l → rowLt t.1 u.1 = true) (h2 : 0 < t.2) : Rs (t :: l) :=
 ⟨List.pairwise_cons.2 ⟨h1, h.s⟩, fun u hu => by rcases List.mem_cons.1 hu with rfl | hu <;> first | exact h2 | exact h.p u hu⟩
def cor : List (Row × Rat) → Row → Rat
 | [], _ => 0
 | t :: r, w => (if t.1 = w then t.2 else 0) + cor r w
theorem cor_zero {l : List (Row × Rat)} {w : Row} (h : ∀ t, t ∈ l → t.1 ≠ w) : cor l w = 0 := by
 induction l with
 | nil => rfl
 | cons t r ih =>
  simp only [cor, if_neg (h t List.mem_cons_self), ih fun u hu => h u (List.mem_cons_of_mem _ hu)]
  grind
theorem cor_hd {t : Row × Rat} {l} (h : Rs (t :: l)) : cor (t :: l) t.1 = t.2 := by
 simp only [cor, if_true, cor_zero fun u hu e => rl_irr (e ▸ h.lt u hu)]
 grind
theorem Rs.ext : ∀ {l m : List (Row × Rat)}, Rs l → Rs m → (∀ w, cor l w = cor m w) → l = m
 | [], [], _, _, _ => rfl
 | [], b :: m, _, hm, h => by
  have := h b.1
  rw [cor_hd hm] at this
  have h2 := hm.hd
  simp only [cor] at this
  grind
 | a :: l, [], hl, _, h => by
  have := h a.1
  rw [cor_hd hl] at this
  have h2 := hl.hd
  simp only [cor] at this
  grind
 | a :: l, b :: m, hl, hm, h => by
  have h1 : a.1 = b.1 := by
   rcases rl_tri a.1 b.1 with c | c | c
   ·have := h a.1
    rw [cor_hd hl, cor_zero (l := b :: m) (fun t ht e => by
     rcases List.mem_cons.1 ht with rfl | ht
     ·rw [e] at c; exact rl_irr c
     ·have g := rl_trans c (hm.lt t ht)
      rw [e] at g; exact rl_irr g)] at this
    have h2 := hl.hd
    grind
   ·exact c
   ·have := h b.1
    rw [cor_hd hm, cor_zero (l := a :: l) (fun t ht e => by
     rcases List.mem_cons.1 ht with rfl | ht
     ·rw [e] at c; exact rl_irr c
     ·have g := rl_trans c (hl.lt t ht)
      rw [e] at g; exact rl_irr g)] at this
    have h2 := hm.hd
    grind
  have h2 : a.2 = b.2 := by
   have := h a.1
   rw [cor_hd hl, h1, cor_hd hm] at this
   exact this
  have h3 : a = b := Prod.ext h1 h2
  subst h3
  congr 1
  refine Rs.ext hl.tail hm.tail fun w => ?_
  have := h w
  simp only [cor] at this
  grind
end Go.Proofs.YtcanljninhfmhaaGreat

namespace Go.Proofs.YtcanljninhfmhaaGreat
open Go
set_option linter.unusedVariables false
set_option maxRecDepth 100000
set_option maxHeartbeats 2000000
theorem few_sz {l : List Mult} (h : fewB l = true) : Msz (2^20) l ∧ l.length ≤ 12 := by
 unfold fewB at h
 simp only [Bool.and_eq_true, decide_eq_true_eq, List.all_eq_true] at h
 obtain ⟨h1, h2⟩ := h
 exact ⟨⟨by omega, fun m hm => ⟨Nat.le_trans (h1 m hm).1 (by decide), Nat.le_trans (h1 m hm).2 (by decide)⟩⟩, h2⟩
end Go.Proofs.YtcanljninhfmhaaGreat

namespace Go.Proofs.YtcanljninhfmhaaGreat
open Go
set_option linter.unusedVariables false
set_option maxRecDepth 100000
abbrev InW (w : World) (b i : Nat) : Prop := b < w.heap.size
def Cs (w : World) : List Value → List D → Prop
 | [], [] => True
 | v :: vs, d :: ds => (RepD w (InW w) v d ∧ v.oneCell' = true) ∧ Cs w vs ds
 | _, _ => False
theorem Cs.app {w} : ∀ {a x b y}, Cs w a x → Cs w b y → Cs w (a ++ b) (x ++ y)
 | [], [], _, _, _, h => h
 | _ :: _, _ :: _, _, _, h, g => ⟨h.1, Cs.app h.2 g⟩
theorem Cs.len {w} : ∀ {a x}, Cs w a x → a.length = x.length
 | [], [], _ => rfl
 | _ :: _, _ :: _, h => by simp [Cs.len h.2]
theorem Cs.get {w} : ∀ {a x}, Cs w a x → ∀ j, j < x.length → RepD w (InW w) (a.getD j undef) (x.getD j .any) ∧ (a.getD j undef).oneCell' = true
 | [], [], _, j, hj => absurd hj (by simp)
 | _ :: _, _ :: _, h, 0, _ => h.1
 | _ :: _, _ :: _, h, j + 1, hj => by simpa using Cs.get h.2 j (by simpa using hj)
theorem mapD_app : ∀ (a b : List PV), mapD (a ++ b) = mapD a ++ mapD b
 | [], _ => rfl
 | _ :: a, b => by simp [mapD, mapD_app a b]
structure ElR (w : World) (t : TypeId) (k : Nat) {α : Type} (G : α → Prop) (p : α → List PV) : Prop where
 sz : Tryz.prog.cellsOf t = k
 rd : ∀ {H : Type} {enc : TypeId × Value → H} {sp : Nat → Bool} {n : Nat} {cs : List Value} {x : DataW H × List MemPlace}, DataW.trod enc Tryz.prog w 0 sp true n t cs = some x → ∃ a, G a ∧ Cs w cs (mapD (p a))
theorem ElR.map {w t k} {α β : Type} {G : α → Prop} {p : α → List PV} {G' : β → Prop} {p' : β → List PV} (h : ElR w t k G p) (f : α → β) (hp : ∀ a, G a → mapD (p' (f a)) = mapD (p a)) (hG : ∀ a, G a → G' (f a)) : ElR w t k G' p' :=
 ⟨h.sz, fun hx => by
  obtain ⟨a, h1, h2⟩ := h.rd hx
  exact ⟨f a, hG a h1, by rw [hp a h1]; exact h2⟩⟩
theorem elInt {w t} {k : IntKind} (ht : Tryz.prog.underlying t = some (.int k)) (hs : Tryz.prog.cellsOf t = 1) : ElR w t 1 (fun n => (Lit.int k n).wf = true) (fun n => [.int k (fun _ => n)]) :=
 ⟨hs, fun {H enc sp n cs x} hx => by
  cases n with
  | zero => simp [DataW.trod] at hx
  | succ n =>
   unfold DataW.trod at hx
   rw [ht] at hx
   split at hx <;> simp_all
   obtain ⟨⟨rfl, h2⟩, _⟩ := hx
   exact ⟨_, h2, ⟨.int _ _, rfl⟩, trivial⟩⟩
theorem elBool {w t} (ht : Tryz.prog.underlying t = some .bool) (hs : Tryz.prog.cellsOf t = 1) : ElR w t 1 (fun _ => True) (fun b => [.bool (fun _ => b)]) :=
 ⟨hs, fun {H enc sp n cs x} hx => by
  cases n with
  | zero => simp [DataW.trod] at hx
  | succ n =>
   unfold DataW.trod at hx
   rw [ht] at hx
   split at hx
   ·exact ⟨_, trivial, ⟨.bool _, rfl⟩, trivial⟩
   all_goals simp_all⟩
theorem add_at {b o n : Nat} : (⟨b, o, none⟩ : Addr).add n = ⟨b, o + n, none⟩ := by
 unfold Addr.add
 split
 ·rename_i h; rw [h]; rfl
 ·rfl
theorem elSlice {w t e k} {α : Type} {G : α → Prop} {p : α → List PV} (ht : Tryz.prog.underlying t = some (.slice e)) (hs : Tryz.prog.cellsOf t = 1) (hk : 0 < k) (he : ElR w e k G p) :
  ElR w t 1 (fun l : List α => (∀ a, a ∈ l → G a) ∧ l.length ≤ maxLen) (fun l => [.sl (fun _ => enc p l)]) :=
 ⟨hs, fun {H enc' sp n cs x} hx => by
  rcases Go.Deep.open_slice ht hx with ⟨rfl, _⟩ | ⟨a, len, cap, m, n', D, Pl, rfl, hb, hl, hm, hmm, _, hi⟩
  ·exact ⟨[], ⟨fun _ h => absurd h (by simp), Nat.zero_le _⟩, ⟨.sl0 _ _, rfl⟩, trivial⟩
  have hlm : len ≤ m := by rw [hmm]; split <;> omega
  rcases Nat.eq_zero_or_pos len with h0 | h0
  ·subst h0
   exact ⟨[], ⟨fun _ h => absurd h (by simp), Nat.zero_le _⟩, ⟨.sl0 _ _, rfl⟩, trivial⟩
  rw [he.sz] at hi
  have key : ∀ i, i < len → ∃ y : List Value × α, w.cells? 0 (a.add (i * k)) k = some y.1 ∧ G y.2 ∧ Cs w y.1 (mapD (p y.2)) := fun i hil => by
   obtain ⟨cs', h1, h2⟩ := hi i (by omega)
   obtain ⟨y, g1, g2⟩ := he.rd h2
   exact ⟨(cs', y), h1, g1, g2⟩
  haveI : Inhabited (List Value × α) := ⟨Classical.choose (key 0 h0)⟩
  obtain ⟨Y, hY⟩ := Go.Deep.choose_lt key
  have hcell : ∀ i j, i < len → j < k → w.cell? (a.add (i * k + j)) = some ((Y i).1.getD j undef) := fun i j hi' hj => by
   obtain ⟨h1, _, _⟩ := hY i hi'
   obtain ⟨_, h2, h3⟩ := World.cells?_some h1
   have := h3 j hj
   rw [Go.Deep.add_add] at this
   rw [this, List.getD_eq_getElem?_getD]
   have : j < (Y i).1.length := by omega
   simp [this]
  obtain ⟨b, o, sp'⟩ := a
  have hsp : sp' = none := by
   have := hcell 0 0 h0 hk
   unfold World.cell? at this
   split at this
   ·cases sp' with
    | none => rfl
    | some s => simp [Addr.add] at this
   ·cases this
  subst hsp
  have hS : b < w.heap.size := World.cells?_block (a := ⟨b, o, none⟩) (by
   have := (hY 0 h0).1
   rw [Nat.zero_mul] at this
   exact this) hk
  have hlen : ((List.range len).map fun i => (Y i).2).length = len := by simp
  have hel : ∀ i, i < len → (enc p ((List.range len).map fun i => (Y i).2)).getD i [] = mapD (p (Y i).2) := fun i hi' => by
   simp [Go.Proofs.YtcanljninhfmhaaGreat.enc, hi']
  refine ⟨(List.range len).map fun i => (Y i).2, ⟨fun z hz => ?_, by rw [hlen]; omega⟩, ⟨?_, rfl⟩, trivial⟩
  ·obtain ⟨i, hi', rfl⟩ := List.mem_map.1 hz
   exact (hY i (List.mem_range.1 hi')).2.1
  have hel2 : (enc p ((List.range len).map fun i => (Y i).2)).length = len := by rw [enc_len, hlen]
  have hk' : ∀ i, i < len → (mapD (p (Y i).2)).length = k := fun i hi' => by
   obtain ⟨h1, _, h3⟩ := hY i hi'
   obtain ⟨_, h2, _⟩ := World.cells?_some h1
   rw [← h3.len]
   exact h2
  have := RepD.sl (w := w) (S := InW w) (b := b) (o := o) (cap := cap) (s := k) (els := enc p ((List.range len).map fun i => (Y i).2)) (fun i j => (Y i).1.getD j undef)
   (fun h => by rw [h] at hel2; simp at hel2; omega) (by rw [hel2]; exact hl) (fun _ _ _ _ => hS)
   (fun e' he' => by
    obtain ⟨z, hz, rfl⟩ := List.mem_map.1 he'
    obtain ⟨i, hi', rfl⟩ := List.mem_map.1 hz
    exact hk' i (List.mem_range.1 hi'))
   (fun i j hi' hj => by
    rw [hel2] at hi'
    have := hcell i j hi' hj
    rw [add_at] at this
    rw [Nat.add_assoc]
    exact this)
   (fun i j hi' hj => by
    rw [hel2] at hi'
    exact ((hY i hi').2.2.get j (by rw [hk' i hi']; exact hj)).2)
   (fun i j hi' hj => by
    rw [hel2] at hi'
    rw [hel i hi']
    exact ((hY i hi').2.2.get j (by rw [hk' i hi']; exact hj)).1)
  rw [hel2] at this
  exact this⟩
theorem ElR.cut {w t k} {α : Type} {G : α → Prop} {p : α → List PV} (h : ElR w t k G p) {H : Type} {enc : TypeId × Value → H} {sp : Nat → Bool} {n o : Nat} {cs : List Value} {x : DataW H × List MemPlace}
  (hx : DataW.trod enc Tryz.prog w 0 sp true n t ((cs.drop o).take (Tryz.prog.cellsOf t)) = some x) : ∃ a, G a ∧ Cs w ((cs.drop o).take k) (mapD (p a)) := by
 rw [h.sz] at hx
 exact h.rd hx
theorem elS2 {w t k0 k1} {f0 f1 : Field} {α0 α1 : Type} {G0 : α0 → Prop} {p0 : α0 → List PV} {G1 : α1 → Prop} {p1 : α1 → List PV} (ht : Tryz.prog.underlying t = some (.struct #[f0, f1])) (hs : Tryz.prog.cellsOf t = k0 + k1)
  (o0 : f0.offset = 0) (o1 : f1.offset = k0) (h0 : ElR w f0.type k0 G0 p0) (h1 : ElR w f1.type k1 G1 p1) : ElR w t (k0 + k1) (fun a : α0 × α1 => G0 a.1 ∧ G1 a.2) (fun a => p0 a.1 ++ p1 a.2) :=
 ⟨hs, fun hx => by
  obtain ⟨y0, y1, n, _, hl, g0, g1⟩ := Go.ChangeShapes.trod_struct2 ht hx
  obtain ⟨a0, u0, v0⟩ := h0.cut g0
  obtain ⟨a1, u1, v1⟩ := h1.cut g1
  rw [o0, List.drop_zero] at v0
  rw [o1, List.take_of_length_le (by rw [List.length_drop, hl, hs]; omega)] at v1
  have := v0.app v1
  rw [List.take_append_drop] at this
  exact ⟨(a0, a1), ⟨u0, u1⟩, by rw [mapD_app]; exact this⟩⟩
theorem elS3 {w t k0 k1 k2} {f0 f1 f2 : Field} {α0 α1 α2 : Type} {G0 : α0 → Prop} {p0 : α0 → List PV} {G1 : α1 → Prop} {p1 : α1 → List PV} {G2 : α2 → Prop} {p2 : α2 → List PV} (ht : Tryz.prog.underlying t = some (.struct #[f0, f1, f2])) (hs : Tryz.prog.cellsOf t = k0 + (k1 + k2))
  (o0 : f0.offset = 0) (o1 : f1.offset = k0) (o2 : f2.offset = k0 + k1) (h0 : ElR w f0.type k0 G0 p0) (h1 : ElR w f1.type k1 G1 p1) (h2 : ElR w f2.type k2 G2 p2) :
  ElR w t (k0 + (k1 + k2)) (fun a : α0 × α1 × α2 => G0 a.1 ∧ G1 a.2.1 ∧ G2 a.2.2) (fun a => p0 a.1 ++ (p1 a.2.1 ++ p2 a.2.2)) :=
 ⟨hs, fun {H enc sp m cs x} hx => by
  obtain ⟨y0, y1, y2, n, _, hl, g0, g1, g2⟩ := Go.Deep.trod_struct3 ht hx
  obtain ⟨a0, u0, v0⟩ := h0.cut g0
  obtain ⟨a1, u1, v1⟩ := h1.cut g1
  obtain ⟨a2, u2, v2⟩ := h2.cut g2
  rw [o0, List.drop_zero] at v0
  rw [o1] at v1
  rw [o2, List.take_of_length_le (by rw [List.length_drop, hl, hs]; omega)] at v2
  rw [← List.drop_drop] at v2
  have e1 := v1.app v2
  rw [List.take_append_drop] at e1
  have := v0.app e1
  rw [List.take_append_drop] at this
  exact ⟨(a0, a1, a2), ⟨u0, u1, u2⟩, by rw [mapD_app, mapD_app]; exact this⟩⟩
theorem elS4 {w t k0 k1 k2 k3} {f0 f1 f2 f3 : Field} {α0 α1 α2 α3 : Type} {G0 : α0 → Prop} {p0 : α0 → List PV} {G1 : α1 → Prop} {p1 : α1 → List PV} {G2 : α2 → Prop} {p2 : α2 → List PV} {G3 : α3 → Prop} {p3 : α3 → List PV} (ht : Tryz.prog.underlying t = some (.struct #[f0, f1, f2, f3])) (hs : Tryz.prog.cellsOf t = k0 + (k1 + (k2 + k3)))
  (o0 : f0.offset = 0) (o1 : f1.offset = k0) (o2 : f2.offset = k0 + k1) (o3 : f3.offset = k0 + k1 + k2) (h0 : ElR w f0.type k0 G0 p0) (h1 : ElR w f1.type k1 G1 p1) (h2 : ElR w f2.type k2 G2 p2) (h3 : ElR w f3.type k3 G3 p3) :
  ElR w t (k0 + (k1 + (k2 + k3))) (fun a : α0 × α1 × α2 × α3 => G0 a.1 ∧ G1 a.2.1 ∧ G2 a.2.2.1 ∧ G3 a.2.2.2) (fun a => p0 a.1 ++ (p1 a.2.1 ++ (p2 a.2.2.1 ++ p3 a.2.2.2))) :=
 ⟨hs, fun {H enc sp m cs x} hx => by
  obtain ⟨y0, y1, y2, y3, n, _, hl, g0, g1, g2, g3⟩ := Go.Joins.trod_struct4 ht hx
  obtain ⟨a0, u0, v0⟩ := h0.cut g0
  obtain ⟨a1, u1, v1⟩ := h1.cut g1
  obtain ⟨a2, u2, v2⟩ := h2.cut g2
  obtain ⟨a3, u3, v3⟩ := h3.cut g3
  rw [o0, List.drop_zero] at v0
  rw [o1] at v1
  rw [o2, ← List.drop_drop] at v2
  rw [o3, List.take_of_length_le (by rw [List.length_drop, hl, hs]; omega), ← List.drop_drop, ← List.drop_drop] at v3
  have e2 := v2.app v3
  rw [List.take_append_drop] at e2
  have e1 := v1.app e2
  rw [List.take_append_drop] at e1
  have := v0.app e1
  rw [List.take_append_drop] at this
  exact ⟨(a0, a1, a2, a3), ⟨u0, u1, u2, u3⟩, by rw [mapD_app, mapD_app, mapD_app]; exact this⟩⟩
theorem rInt (w : World) : ElR w 3 1 (fun n => (Lit.int .i64 n).wf = true) (fun n => [.int .i64 (fun _ => n)]) := elInt Tryz.underlying3 (by kernel_rfl)
theorem rBool (w : World) : ElR w 4 1 (fun _ => True) (fun b => [.bool (fun _ => b)]) := elBool Tryz.underlying4 (by kernel_rfl)
theorem rU32 (w : World) : ElR w 152 1 (fun _ => True) (fun x : UInt32 => [.int .u32 (fun _ => (x.toNat : Int))]) :=
 (elInt (k := .u32) Tryz.underlying152 (by kernel_rfl)).map (fun n => UInt32.ofNat n.toNat) (fun n h => by
  have : 0 ≤ n ∧ n ≤ 4294967295 := by simpa [Lit.wf, IntKind.min, IntKind.max, IntKind.signed, IntKind.bits] using h
  have e : ((UInt32.ofNat n.toNat).toNat : Int) = n := by
   rw [UInt32.toNat_ofNat_of_lt' (by show n.toNat < 4294967296; omega)]
   omega
  show [D.int .u32 _] = [D.int .u32 _]
  rw [e]) (fun _ _ => trivial)
theorem rNat (w : World) : ElR w 34 1 (fun _ => True) (fun l => [nat l]) :=
 (elSlice (k := 1) Tryz.underlying34 (by kernel_rfl) (by decide) (rU32 w)).map (fun l => l) (fun l _ => rfl) (fun _ _ => trivial)
theorem rRat (w : World) : ElR w 36 3 (fun _ => True) (fun x : R => [.bool (fun _ => x.neg), nat x.num, nat x.den]) :=
 (elS3 (k0 := 1) (k1 := 1) (k2 := 1) Tryz.underlying36 (by kernel_rfl) rfl rfl rfl (rBool w) (rNat w) (rNat w)).map (fun a => ⟨a.1, a.2.1, a.2.2⟩) (fun _ _ => rfl) (fun _ _ => trivial)
theorem rRow (w : World) : ElR w 72 4 (fun _ => True) (fun r : Row => [.int .i64 (fun _ => r.k), .int .i64 (fun _ => r.i), .int .i64 (fun _ => r.lo), .int .i64 (fun _ => r.hi)]) :=
 (elS4 (k0 := 1) (k1 := 1) (k2 := 1) (k3 := 1) Tryz.underlying72 (by kernel_rfl) rfl rfl rfl rfl (rInt w) (rInt w) (rInt w) (rInt w)).map (fun a => ⟨a.1, a.2.1, a.2.2.1, a.2.2.2⟩) (fun _ _ => rfl) (fun _ _ => trivial)
theorem rMult (w : World) : ElR w 74 7 (fun _ => True) mc :=
 (elS2 (k0 := 4) (k1 := 3) Tryz.underlying74 (by kernel_rfl) rfl rfl (rRow w) (rRat w)).map (fun a => ⟨a.1, a.2⟩) (fun _ _ => rfl) (fun _ _ => trivial)
theorem rMults (w : World) : ElR w 23 1 (fun l => l.length ≤ maxLen) (fun l => [mlv l]) :=
 (elSlice (k := 7) Tryz.underlying23 (by kernel_rfl) (by decide) (rMult w)).map (fun l => l) (fun _ _ => rfl) (fun _ h => h.2)
end Go.Proofs.YtcanljninhfmhaaGreat

namespace Go.Proofs.YtcanljninhfmhaaGreat
open Go Go.ChangeShapes Go.WideShapes Go.ChangeAt Go.RowKit
set_option linter.unusedVariables false
set_option maxRecDepth 100000
theorem own : ownKnob Tryz.prog.godebug = none := by kernel_rfl
theorem kids : Kids Tryz.prog (· < Tryz.prog.types.size) := kids_rows (by kernel_rfl) (by kernel_rfl)
theorem full : ∀ t e, t < Tryz.prog.types.size → Tryz.prog.underlying t = some (.slice e) → 0 < Tryz.prog.cellsOf e := slices_full_of _ (by kernel_rfl)
theorem trodAll_again {H : Type} {enc : TypeId × Value → H} {W W' : World} {sp : Nat → Bool} : ∀ {ts : List TypeId} {vs : List Value} {ds : List (DataW H)} {ps : List MemPlace}, (∀ t ∈ ts, t < Tryz.prog.types.size) →
  DataW.TrodAll enc Tryz.prog W 0 (fun _ => true) true ts vs ds ps → (∀ p ∈ ps, W.sameAt W' p) → (∀ p ∈ ps, sp p.block = true) → DataW.TrodAll enc Tryz.prog W' 0 sp true ts vs ds ps
 | [], [], [], _, _, h, _, _ => h
 | _ :: _, _ :: _, _ :: _, _, hT, ⟨p, q, ⟨n, h1⟩, h2, e⟩, hs, hb => by
  subst e
  refine ⟨p, q, ⟨n, ?_⟩, trodAll_again (fun t ht => hT t (List.mem_cons_of_mem _ ht)) h2 (fun x hx => hs x (List.mem_append_right _ hx)) (fun x hx => hb x (List.mem_append_right _ hx)), rfl⟩
  exact DataW.trod_respare kids full n _ _ _ (hT _ List.mem_cons_self) (DataW.trod_carry n _ _ _ h1 (fun x hx => hs x (List.mem_append_left _ hx))) (fun x hx => hb x (List.mem_append_left _ hx))
theorem same_keeps {W W' : World} (hs : W.heap.size ≤ W'.heap.size) (ho : W'.os = W.os) (hu : W'.output = W.output) (hb : ∀ b, b < W.heap.size → W'.heap[b]? = W.heap[b]?) (may : MemPlace → Prop) : W.keptBut W' may := by
 refine ⟨ho, hu, fun i hi => ?_⟩
 rw [hb i hi]
 have : W.heap[i]? = some W.heap[i] := by simp [hi]
 rw [this]
 cases W.heap[i] with
 | cells c t fr => exact ⟨rfl, rfl, rfl, fun _ _ => rfl⟩
 | map es clock => exact .inr ⟨rfl, rfl⟩
 | _ => rfl
theorem law_post {s : ChangeSpec} {fn : Func} {H : Type} {enc : TypeId × Value → H} {W : World} {args : Array Value} {ds gs : List (DataW H)} {before : List MemPlace} {fresh handsOn again : Bool}
  (hv : s.vars = []) (hres : fn.resultTypes = #[4]) (hsp : s.fn H ds = { results := [.lit (.bool true)], args := ds }) (hp : ∀ t ∈ fn.params.toList, t < Tryz.prog.types.size)
  (hW : DataW.Whole enc Tryz.prog fn.params.toList s.vars false W args.toList ds gs before)
  {f : FuncId} {pvs : List PV} (hS : SoundS f pvs (.bool (fun _ => true))) (hn : args.size = pvs.length) (hrep : ∀ j, j < pvs.length → Rep W (InW W) (fun _ => none) (args.getD j undef) (pvs.getD j .any)) :
  Calls Tryz.prog f args W fun e W' => ∃ v, e = .returned v ∧ s.post enc Tryz.prog fn false fresh handsOn again W args v W' := by
 have hgo := hS.go W (InW W) (fun _ => none) args (fun b i h => h) noObjs hn hrep
 rw [Pg_eq] at hgo
 refine hgo.mono fun e W' ⟨v, S', β', he, hl, hr, _⟩ => ?_
 subst he
 have hvt : v = .bool true := by
  cases hr with
  | c hf h => cases h; rfl
 subst hvt
 refine ⟨_, rfl, ?_⟩
 have hsame : ∀ b, b < W.heap.size → W'.heap[b]? = W.heap[b]? := fun b hb => hl.same b hb (fun ⟨n, o, h, _⟩ => by simp at h)
 have hlt := hW.lt
 have hW0 := hW
 obtain ⟨p, q, hA, hV, rfl, hfz, hnd⟩ := hW
 rw [hv] at hV
 obtain ⟨rfl, rfl⟩ := trodVars_none hV
 rw [List.append_nil] at hlt hfz hW0
 have hat : ∀ x ∈ p, W.sameAt W' x := fun x hx => by
  have := hlt x hx
  cases x with
  | cell b o => show W'.cell? _ = W.cell? _; unfold World.cell?; rw [hsame b this]
  | map b => exact hsame b this
 have hargs : ∀ sp : Nat → Bool, (∀ x ∈ p, sp x.block = true) → DataW.TrodAll enc Tryz.prog W' 0 sp true fn.params.toList args.toList ds p := fun sp h => trodAll_again hp hA hat h
 have hold : ∀ x ∈ p, (fun b => decide (b < W.heap.size)) x.block = true := fun x hx => by simpa using hlt x hx
 have hrs : ∀ (b : Nat) (sp : Nat → Bool) (hd : Bool), DataW.TrodAll enc Tryz.prog W' b sp hd fn.resultTypes.toList ((Value.bool true).resultList fn.resultTypes.size) [.lit (.bool true)] [] := fun b sp hd => by
  rw [hres]
  exact ⟨[], [], shut_bool Tryz.underlying4 true, rfl, rfl⟩
 have hfz' : W'.noneFrozen p := fun b o h => by
  have g := hfz b o h
  have hb : b < W.heap.size := hlt _ h
  unfold World.frozen? at g ⊢
  rw [hsame b hb]
  exact g
 refine ⟨ds, [], p, [], p, [], hW0, ?_, ?_, ?_, ?_, fun _ => ⟨?_, ds.cons (.lit (.bool true)), [], p, ⟨p, [], ?_, ?_, by simp, hfz', fun h => by cases h⟩, fun x hx _ => hx⟩⟩
 ·rw [List.append_nil, hsp]; exact hrs _ _ _
 ·rw [List.append_nil, hsp]; exact hargs _ hold
 ·rw [List.append_nil, hsp, hv]; rfl
 ·exact same_keeps hl.size hl.os hl.output hsame _
 ·exact ok_one hres rfl (okWide_bool_mk Tryz.underlying4 _)
 ·exact trodAll_append (hargs _ (fun _ _ => rfl)) (hrs _ _ _)
 ·rw [hv]; rfl
end Go.Proofs.YtcanljninhfmhaaGreat
