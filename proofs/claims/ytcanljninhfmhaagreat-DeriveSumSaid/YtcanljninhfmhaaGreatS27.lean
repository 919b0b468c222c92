/- A part of the proof: AfA, LnA. -/
import Derived.Test.YtcanljninhfmhaaGreatS26
set_option linter.all false
namespace Go.Proofs.YtcanljninhfmhaaGreat
open Go
set_option linter.unusedVariables false
def enc {α : Type} (p : α → List PV) (l : List α) : List (List D) := l.map fun a => mapD (p a)
section
variable {α : Type} {p : α → List PV}
theorem enc_len (p : α → List PV) (l : List α) : (enc p l).length = l.length := by simp [enc]
theorem enc_wid {n : Nat} (hn : ∀ a, (p a).length = n) (l : List α) : Wid n (fun _ => enc p l) := ⟨fun e he => by
 simp only [enc, List.mem_map] at he; obtain ⟨x, _, rfl⟩ := he; rw [mapD_length, hn]⟩
theorem enc_app (p : α → List PV) (l m : List α) : enc p l ++ enc p m = enc p (l ++ m) := by simp [enc]
theorem idx_enc {n : Nat} {l : List α} {k : Int} {K : List PV → Prop} (j : Nat) (hk : k = (j : Int)) (hj : j < l.length) (hf : ∀ a, allL flat (p a) = true) (hn : ∀ a, (p a).length = n)
  (hK : ∀ a, l[j]? = some a → K (p a)) : IdxOk n (fun _ => enc p l) (fun _ => k) K :=
 idx_of j hk (p l[j]) (hf _) (hn _) (by simp [enc, hj]) (hK _ (by simp [hj]))
end
structure A where
 ts : List (Int × R)
 c : R
structure F where
 ts : List (Int × Rat)
 c : Rat
theorem F.ext' {f g : F} (h1 : f.ts = g.ts) (h2 : f.c = g.c) : f = g := by cases f; cases g; simp_all
def tq (l : List (Int × R)) : List (Int × Rat) := l.map fun t => (t.1, t.2.q)
def tR (l : List (Int × Rat)) : List (Int × R) := l.map fun t => (t.1, ratR t.2)
def A.f (a : A) : F := ⟨tq a.ts, a.c.q⟩
def fA (f : F) : A := ⟨tR f.ts, ratR f.c⟩
theorem tq_tR (l : List (Int × Rat)) : tq (tR l) = l := by simp [tq, tR, q_ratR, Function.comp_def]
theorem f_fA (f : F) : (fA f).f = f := by simp [A.f, fA, tq_tR, q_ratR]
def rc (x : R) : List PV := [.bool (fun _ => x.neg), nat x.num, nat x.den]
def tc (t : Int × R) : List PV := [.int .i64 (fun _ => t.1), .bool (fun _ => t.2.neg), nat t.2.num, nat t.2.den]
abbrev tsv (l : List (Int × R)) : PV := .sl (fun _ => enc tc l)
def ac (f : A) : List PV := [tsv f.ts, .bool (fun _ => f.c.neg), nat f.c.num, nat f.c.den]
abbrev av (f : A) : PV := .agg [tsv f.ts, .bool (fun _ => f.c.neg), nat f.c.num, nat f.c.den]
abbrev fv (f : F) : PV := av (fA f)
theorem rc_flat (a : R) : allL flat (rc a) = true := rfl
theorem rc_len (a : R) : (rc a).length = 3 := rfl
theorem tc_flat (a : Int × R) : allL flat (tc a) = true := rfl
theorem tc_len (a : Int × R) : (tc a).length = 4 := rfl
theorem ac_flat (a : A) : allL flat (ac a) = true := rfl
theorem ac_len (a : A) : (ac a).length = 4 := rfl
structure Tsz (k : Nat) (l : List (Int × R)) : Prop where
 len : l.length < 2^38
 sz : ∀ t, t ∈ l → t.2.sz k
structure A.sz (a : A) (k : Nat) : Prop where
 t : Tsz k a.ts
 c : a.c.sz k
theorem Tsz.mono {k m : Nat} {l} (h : Tsz k l) (hm : k ≤ m) : Tsz m l := ⟨h.len, fun t ht => (h.sz t ht).mono hm⟩
theorem A.sz.mono {k m : Nat} {a : A} (h : a.sz k) (hm : k ≤ m) : a.sz m := ⟨h.t.mono hm, h.c.mono hm⟩
structure Tfit (k : Nat) (l : List (Int × Rat)) : Prop where
 len : l.length < 2^38
 fit : ∀ t, t ∈ l → Fits k t.2
structure F.fit (f : F) (k : Nat) : Prop where
 t : Tfit k f.ts
 c : Fits k f.c
theorem Tfit.mono {k m : Nat} {l} (h : Tfit k l) (hm : k ≤ m) : Tfit m l := ⟨h.len, fun t ht => (h.fit t ht).mono hm⟩
theorem F.fit.mono {k m : Nat} {a : F} (h : a.fit k) (hm : k ≤ m) : a.fit m := ⟨h.t.mono hm, h.c.mono hm⟩
theorem Tfit.tR {k : Nat} {l} (h : Tfit k l) : Tsz k (tR l) := ⟨by simpa [Go.Proofs.YtcanljninhfmhaaGreat.tR] using h.len, fun t ht => by
 simp only [Go.Proofs.YtcanljninhfmhaaGreat.tR, List.mem_map] at ht
 obtain ⟨u, hu, rfl⟩ := ht
 exact ratR_sz (h.fit u hu)⟩
theorem F.fit.fA {k : Nat} {f : F} (h : f.fit k) : (fA f).sz k := ⟨h.t.tR, ratR_sz h.c⟩
theorem Tsz.fit {k : Nat} {l} (h : Tsz k l) (hk : 1 ≤ k) : Tfit k (tq l) := ⟨by simpa [tq] using h.len, fun t ht => by
 simp only [tq, List.mem_map] at ht
 obtain ⟨u, hu, rfl⟩ := ht
 exact (h.sz u hu).fits hk⟩
theorem A.sz.fit {k : Nat} {a : A} (h : a.sz k) (hk : 1 ≤ k) : a.f.fit k := ⟨h.t.fit hk, h.c.fits hk⟩
def vT (vars : Int) : Int → List (Int × R) → Bool
 | _, [] => true
 | p, t :: r => decide (0 ≤ t.1) && decide (t.1 < vars) && decide (p < t.1) && decide (t.2.q ≠ 0) && t.2.ok && vT vars t.1 r
def A.valid (vars : Int) (a : A) : Bool := vT vars (-1) a.ts && a.c.ok
structure Cn (l : List (Int × Rat)) : Prop where
 s : l.Pairwise (fun a b => a.1 < b.1)
 n : ∀ t, t ∈ l → t.2 ≠ 0
theorem Cn.nil : Cn [] := ⟨.nil, by simp⟩
theorem Cn.tail {t l} (h : Cn (t :: l)) : Cn l := ⟨(List.pairwise_cons.1 h.s).2, fun u hu => h.n u (List.mem_cons_of_mem _ hu)⟩
theorem Cn.lt {t l} (h : Cn (t :: l)) : ∀ u, u ∈ l → t.1 < u.1 := (List.pairwise_cons.1 h.s).1
theorem Cn.hd {t l} (h : Cn (t :: l)) : t.2 ≠ 0 := h.n t List.mem_cons_self
theorem Cn.cons {t l} (h : Cn l) (h1 : ∀ u, u ∈ l → t.1 < u.1) (h2 : t.2 ≠ 0) : Cn (t :: l) :=
 ⟨List.pairwise_cons.2 ⟨h1, h.s⟩, fun u hu => by rcases List.mem_cons.1 hu with rfl | hu <;> first | exact h2 | exact h.n u hu⟩
def co : List (Int × Rat) → Int → Rat
 | [], _ => 0
 | t :: r, v => (if t.1 = v then t.2 else 0) + co r v
theorem co_zero {l : List (Int × Rat)} {v : Int} (h : ∀ t, t ∈ l → t.1 ≠ v) : co l v = 0 := by
 induction l with
 | nil => rfl
 | cons t r ih =>
  simp only [co, if_neg (h t List.mem_cons_self), ih fun u hu => h u (List.mem_cons_of_mem _ hu)]
  grind
theorem co_cons_eq {t : Int × Rat} {l} (h : Cn (t :: l)) : co (t :: l) t.1 = t.2 := by
 simp only [co, if_true, co_zero fun u hu => (Int.ne_of_lt (h.lt u hu)).symm]
 grind
theorem Cn.ext : ∀ {l m : List (Int × Rat)}, Cn l → Cn m → (∀ v, co l v = co m v) → l = m
 | [], [], _, _, _ => rfl
 | [], b :: m, _, hm, h => by
  have := h b.1
  rw [co_cons_eq hm] at this
  exact absurd this.symm hm.hd
 | a :: l, [], hl, _, h => by
  have := h a.1
  rw [co_cons_eq hl] at this
  exact absurd this hl.hd
 | a :: l, b :: m, hl, hm, h => by
  have h1 : a.1 = b.1 := by
   rcases Int.lt_trichotomy a.1 b.1 with c | c | c
   ·have := h a.1
    rw [co_cons_eq hl, co_zero (l := b :: m) (fun t ht => by
     rcases List.mem_cons.1 ht with rfl | ht
     ·omega
     ·have := hm.lt t ht; omega)] at this
    exact absurd this hl.hd
   ·exact c
   ·have := h b.1
    rw [co_cons_eq hm, co_zero (l := a :: l) (fun t ht => by
     rcases List.mem_cons.1 ht with rfl | ht
     ·omega
     ·have := hl.lt t ht; omega)] at this
    exact absurd this.symm hm.hd
  have h2 : a.2 = b.2 := by
   have := h a.1
   rw [co_cons_eq hl, h1, co_cons_eq hm] at this
   exact this
  have h3 : a = b := Prod.ext h1 h2
  subst h3
  congr 1
  refine Cn.ext hl.tail hm.tail fun v => ?_
  have := h v
  simp only [co] at this
  grind
def pc (v : Int) (q : Rat) (r : List (Int × Rat)) : List (Int × Rat) := if q = 0 then r else (v, q) :: r
theorem co_pc (v : Int) (q : Rat) (r) (w : Int) : co (pc v q r) w = (if v = w then q else 0) + co r w := by
 unfold pc
 split
 ·rename_i h; rw [h]; split <;> grind
 ·rfl
theorem Cn.pc {v : Int} {q : Rat} {r} (h : Cn r) (h1 : ∀ u, u ∈ r → v < u.1) : Cn (pc v q r) := by
 unfold Go.Proofs.YtcanljninhfmhaaGreat.pc
 split
 ·exact h
 ·exact h.cons h1 (by assumption)
theorem pc_mem {v : Int} {q : Rat} {r u} (h : u ∈ pc v q r) : u = (v, q) ∨ u ∈ r := by
 unfold pc at h
 split at h
 ·exact .inr h
 ·exact List.mem_cons.1 h
def mrg (c : Rat) : List (Int × Rat) → List (Int × Rat) → List (Int × Rat)
 | [], [] => []
 | a :: aa, [] => pc a.1 a.2 (mrg c aa [])
 | [], b :: bb => pc b.1 (b.2 * c) (mrg c [] bb)
 | a :: aa, b :: bb => if a.1 < b.1 then pc a.1 a.2 (mrg c aa (b :: bb)) else if b.1 < a.1 then pc b.1 (b.2 * c) (mrg c (a :: aa) bb) else pc a.1 (a.2 + b.2 * c) (mrg c aa bb)
termination_by a b => a.length + b.length
theorem co_mrg (c : Rat) : ∀ (a b : List (Int × Rat)) (v : Int), co (mrg c a b) v = co a v + co b v * c
 | [], [], v => by rw [mrg]; simp only [co]; grind
 | a :: aa, [], v => by rw [mrg, co_pc, co_mrg c aa []]; simp only [co]; grind
 | [], b :: bb, v => by rw [mrg, co_pc, co_mrg c [] bb]; simp only [co]; split <;> grind
 | a :: aa, b :: bb, v => by
  rw [mrg]
  split
  ·rw [co_pc, co_mrg c aa (b :: bb)]; simp only [co]; grind
  ·split
   ·rw [co_pc, co_mrg c (a :: aa) bb]; simp only [co]; split <;> grind
   ·have : a.1 = b.1 := by omega
    rw [co_pc, co_mrg c aa bb]; simp only [co, this]; split <;> grind
termination_by a b => a.length + b.length
theorem mrg_mem {c : Rat} : ∀ {a b : List (Int × Rat)} {u}, u ∈ mrg c a b → (∃ t, t ∈ a ∧ t.1 = u.1) ∨ (∃ t, t ∈ b ∧ t.1 = u.1)
 | [], [], u, h => by rw [mrg] at h; exact absurd h (by simp)
 | a :: aa, [], u, h => by
  rw [mrg] at h
  rcases pc_mem h with rfl | h
  ·exact .inl ⟨a, List.mem_cons_self, rfl⟩
  ·rcases mrg_mem h with ⟨t, h1, h2⟩ | ⟨t, h1, h2⟩
   ·exact .inl ⟨t, List.mem_cons_of_mem _ h1, h2⟩
   ·exact .inr ⟨t, h1, h2⟩
 | [], b :: bb, u, h => by
  rw [mrg] at h
  rcases pc_mem h with rfl | h
  ·exact .inr ⟨b, List.mem_cons_self, rfl⟩
  ·rcases mrg_mem h with ⟨t, h1, h2⟩ | ⟨t, h1, h2⟩
   ·exact .inl ⟨t, h1, h2⟩
   ·exact .inr ⟨t, List.mem_cons_of_mem _ h1, h2⟩
 | a :: aa, b :: bb, u, h => by
  rw [mrg] at h
  split at h
  ·rcases pc_mem h with rfl | h
   ·exact .inl ⟨a, List.mem_cons_self, rfl⟩
   ·rcases mrg_mem h with ⟨t, h1, h2⟩ | ⟨t, h1, h2⟩
    ·exact .inl ⟨t, List.mem_cons_of_mem _ h1, h2⟩
    ·exact .inr ⟨t, h1, h2⟩
  ·split at h
   ·rcases pc_mem h with rfl | h
    ·exact .inr ⟨b, List.mem_cons_self, rfl⟩
    ·rcases mrg_mem h with ⟨t, h1, h2⟩ | ⟨t, h1, h2⟩
     ·exact .inl ⟨t, h1, h2⟩
     ·exact .inr ⟨t, List.mem_cons_of_mem _ h1, h2⟩
   ·rcases pc_mem h with rfl | h
    ·exact .inl ⟨a, List.mem_cons_self, rfl⟩
    ·rcases mrg_mem h with ⟨t, h1, h2⟩ | ⟨t, h1, h2⟩
     ·exact .inl ⟨t, List.mem_cons_of_mem _ h1, h2⟩
     ·exact .inr ⟨t, List.mem_cons_of_mem _ h1, h2⟩
termination_by a b => a.length + b.length
theorem Cn.mrg {c : Rat} : ∀ {a b : List (Int × Rat)}, Cn a → Cn b → Cn (mrg c a b)
 | [], [], _, _ => by rw [Go.Proofs.YtcanljninhfmhaaGreat.mrg]; exact Cn.nil
 | a :: aa, [], ha, hb => by
  rw [Go.Proofs.YtcanljninhfmhaaGreat.mrg]
  refine Cn.pc (Cn.mrg ha.tail hb) fun u hu => ?_
  rcases mrg_mem hu with ⟨t, h1, h2⟩ | ⟨t, h1, h2⟩
  ·rw [← h2]; exact ha.lt t h1
  ·exact absurd h1 (by simp)
 | [], b :: bb, ha, hb => by
  rw [Go.Proofs.YtcanljninhfmhaaGreat.mrg]
  refine Cn.pc (Cn.mrg ha hb.tail) fun u hu => ?_
  rcases mrg_mem hu with ⟨t, h1, h2⟩ | ⟨t, h1, h2⟩
  ·exact absurd h1 (by simp)
  ·rw [← h2]; exact hb.lt t h1
 | a :: aa, b :: bb, ha, hb => by
  rw [Go.Proofs.YtcanljninhfmhaaGreat.mrg]
  split
  ·rename_i hlt
   refine Cn.pc (Cn.mrg ha.tail hb) fun u hu => ?_
   rcases mrg_mem hu with ⟨t, h1, h2⟩ | ⟨t, h1, h2⟩
   ·rw [← h2]; exact ha.lt t h1
   ·rw [← h2]
    rcases List.mem_cons.1 h1 with rfl | h1
    ·exact hlt
    ·exact Int.lt_trans hlt (hb.lt t h1)
  ·split
   ·rename_i _ hlt
    refine Cn.pc (Cn.mrg ha hb.tail) fun u hu => ?_
    rcases mrg_mem hu with ⟨t, h1, h2⟩ | ⟨t, h1, h2⟩
    ·rw [← h2]
     rcases List.mem_cons.1 h1 with rfl | h1
     ·exact hlt
     ·exact Int.lt_trans hlt (ha.lt t h1)
    ·rw [← h2]; exact hb.lt t h1
   ·have : a.1 = b.1 := by omega
    refine Cn.pc (Cn.mrg ha.tail hb.tail) fun u hu => ?_
    rcases mrg_mem hu with ⟨t, h1, h2⟩ | ⟨t, h1, h2⟩
    ·rw [← h2]; exact ha.lt t h1
    ·rw [← h2, this]; exact hb.lt t h1
termination_by a b => a.length + b.length
theorem pc_len (v : Int) (q : Rat) (r) : (pc v q r).length ≤ r.length + 1 := by unfold pc; split <;> simp
theorem mrg_len (c : Rat) : ∀ (a b : List (Int × Rat)), (mrg c a b).length ≤ a.length + b.length
 | [], [] => by rw [mrg]; simp
 | a :: aa, [] => by rw [mrg]; have := pc_len a.1 a.2 (mrg c aa []); have := mrg_len c aa []; simp only [List.length_cons] at *; omega
 | [], b :: bb => by rw [mrg]; have := pc_len b.1 (b.2 * c) (mrg c [] bb); have := mrg_len c [] bb; simp only [List.length_cons] at *; omega
 | a :: aa, b :: bb => by
  rw [mrg]
  split
  ·have := pc_len a.1 a.2 (mrg c aa (b :: bb)); have := mrg_len c aa (b :: bb); simp only [List.length_cons] at *; omega
  ·split
   ·have := pc_len b.1 (b.2 * c) (mrg c (a :: aa) bb); have := mrg_len c (a :: aa) bb; simp only [List.length_cons] at *; omega
   ·have := pc_len a.1 (a.2 + b.2 * c) (mrg c aa bb); have := mrg_len c aa bb; simp only [List.length_cons] at *; omega
termination_by a b => a.length + b.length
def F.merge (f g : F) (c : Rat) : F := ⟨mrg c f.ts g.ts, f.c + g.c * c⟩
def F.add (f g : F) : F := f.merge g 1
def F.sub (f g : F) : F := f.merge g (-1)
def F.scale (f : F) (c : Rat) : F := F.merge ⟨[], 0⟩ f c
theorem mrg_fit {c : Rat} {k m : Nat} (hc : Fits m c) : ∀ {a b : List (Int × Rat)}, (∀ t, t ∈ a → Fits k t.2) → (∀ t, t ∈ b → Fits k t.2) → ∀ u, u ∈ mrg c a b → Fits (2 * k + m + 1) u.2
 | [], [], _, _, u, h => by rw [mrg] at h; exact absurd h (by simp)
 | a :: aa, [], ha, hb, u, h => by
  rw [mrg] at h
  rcases pc_mem h with rfl | h
  ·exact (ha a List.mem_cons_self).mono (by omega)
  ·exact mrg_fit hc (fun t ht => ha t (List.mem_cons_of_mem _ ht)) hb u h
 | [], b :: bb, ha, hb, u, h => by
  rw [mrg] at h
  rcases pc_mem h with rfl | h
  ·exact (fits_mul (hb b List.mem_cons_self) hc).mono (by omega)
  ·exact mrg_fit hc ha (fun t ht => hb t (List.mem_cons_of_mem _ ht)) u h
 | a :: aa, b :: bb, ha, hb, u, h => by
  rw [mrg] at h
  split at h
  ·rcases pc_mem h with rfl | h
   ·exact (ha a List.mem_cons_self).mono (by omega)
   ·exact mrg_fit hc (fun t ht => ha t (List.mem_cons_of_mem _ ht)) hb u h
  ·split at h
   ·rcases pc_mem h with rfl | h
    ·exact (fits_mul (hb b List.mem_cons_self) hc).mono (by omega)
    ·exact mrg_fit hc ha (fun t ht => hb t (List.mem_cons_of_mem _ ht)) u h
   ·rcases pc_mem h with rfl | h
    ·exact (fits_add (ha a List.mem_cons_self) (fits_mul (hb b List.mem_cons_self) hc)).mono (by omega)
    ·exact mrg_fit hc (fun t ht => ha t (List.mem_cons_of_mem _ ht)) (fun t ht => hb t (List.mem_cons_of_mem _ ht)) u h
termination_by a b => a.length + b.length
theorem okQ {p : Prop} (h : p := by (try simp only [enc_len, lm_length] at *) <;> (try dsimp only [ncast] at *) <;> omega) : p := h
end Go.Proofs.YtcanljninhfmhaaGreat

namespace Go.Proofs.YtcanljninhfmhaaGreat
open Go
set_option linter.unusedVariables false
set_option maxRecDepth 100000
theorem drop_of_get {α : Type} {l : List α} {i : Nat} {t : α} (h : l[i]? = some t) : l.drop i = t :: l.drop (i + 1) := by
 obtain ⟨h1, h2⟩ := List.getElem?_eq_some_iff.1 h
 rw [← h2, List.drop_eq_getElem_cons h1]
theorem vT_cons (vars p : Int) (t r) : vT vars p (t :: r) = (decide (0 ≤ t.1) && decide (t.1 < vars) && decide (p < t.1) && decide (t.2.q ≠ 0) && t.2.ok && vT vars t.1 r) := rfl
theorem sgnQ_ne {q : Rat} : sgnQ q ≠ 0 ↔ q ≠ 0 := by unfold sgnQ; split <;> (try split) <;> grind
theorem hfLnValid : Pg.funcs[56]? = some Tryz.f56 := by rw [Pg_eq]; rfl
theorem sLnValid (a : A) (vars : Int) (ha : a.sz (2^36)) : SoundS 56 [av a, .int .i64 (fun _ => vars)] (.bool (fun _ => a.valid vars)) := by
 refine sound_fn hfLnValid rfl rfl rfl rfl rfl ?_
 obtain ⟨ts, c⟩ := a
 have hl := ha.t.len
 have hts := ha.t.sz
 have cc := s103 c ha.c
 generalize hr : A.valid vars ⟨ts, c⟩ = r
 have hr0 : r = (vT vars (-1) ts && c.ok) := hr.symm
 simp only at hl hts cc
 generalize c.ok = co at *
 clear hr ha
 cbv
 refine loop_n (σ := Nat × Int) (fun s => ⟨[(1, .int .i64 (fun _ => vars)), (2, .ptr 2 0), (8, tsv ts), (9, .int .i64 (fun _ => (ts.length : Int))), (10, .int .i64 (fun _ => (s.1 : Int)))], [(2, .box [tsv ts, .bool (fun _ => c.neg), nat c.num, nat c.den])]⟩)
  (fun s => s.1 ≤ ts.length ∧ r = (vT vars s.2 (ts.drop s.1) && co) ∧ (s.1 = 0 → s.2 = -1) ∧ (s.1 ≠ 0 → ∃ u, ts[s.1 - 1]? = some u ∧ u.1 = s.2)) (fun s => ts.length - s.1)
  (0, -1) ⟨om, hr0, fun _ => rfl, fun h => absurd rfl h⟩ (.le ?_ ?_ rfl) ?_
 ·cbv
  exact ⟨leS_refl _, leS_refl _, leS_refl _, leS_int (by (try dsimp only [ncast] at *); rw [enc_len]), leS_refl _, trivial⟩
 ·cbv
  exact ⟨⟨leS_refl _, leS_refl _, leS_refl _, leS_refl _, trivial⟩, trivial⟩
 intro s hs
 obtain ⟨h1, hv, h3, h4⟩ := hs
 generalize s.1 = i at *
 generalize s.2 = p at *
 cbv
 refine cut_dec (fun h5 => ?_) (fun h5 => ?_)
 ·cbv
  refine idx_enc (l := ts) i om om tc_flat tc_len (fun t ht => ?_)
  rw [drop_of_get ht, vT_cons] at hv
  have htz := hts t (List.mem_of_getElem? ht)
  have cs := s86 t.2 (by have := htz.n; omega)
  have cv := s103 t.2 htz
  have hq : decide (t.2.q ≠ 0) = decide (sgnQ t.2.q ≠ 0) := by rw [decide_eq_decide]; exact sgnQ_ne.symm
  rw [hq] at hv
  generalize sgnQ t.2.q = sg at *
  generalize hok : t.2.ok = ok at *
  obtain ⟨v, x1, x2, x3⟩ := t
  simp only at hv
  generalize hrest : (vT vars v (ts.drop (i + 1)) && co) = rest
  have hv' : r = (decide (0 ≤ v) && decide (v < vars) && decide (p < v) && decide (sg ≠ 0) && ok && rest) := by rw [hv, ← hrest]; simp only [Bool.and_assoc]
  clear hv
  cbv
  refine draw_of 37 (by cbv) ?_
  cbv
  refine br_dec (fun e1 => ?_) (fun e1 => ?_)
  ·cbv
   (refine retC rfl ?_; cbv)
   exact leS_ff (by rw [hv', decide_eq_false (by omega)]; rfl)
  cbv
  refine br_dec (fun e2 => ?_) (fun e2 => ?_)
  ·cbv
   (refine retC rfl ?_; cbv)
   exact leS_ff (by rw [hv', decide_eq_false (p := v < vars) (by omega)]; simp)
  cbv
  have fin : (¬ (p < v) → r = false) := fun h => by rw [hv', decide_eq_false (p := p < v) h]; simp
  have hmain : (p < v) → r = (decide (sg ≠ 0) && ok && rest) := fun h => by
   rw [hv', decide_eq_true (p := p < v) h, decide_eq_true (p := 0 ≤ v) (by omega), decide_eq_true (p := v < vars) (by omega)]; simp only [Bool.true_and]
  clear hv'
  refine br_dec (fun e3 => ?_) (fun e3 => ?_)
  ·obtain ⟨u, hu, hu2⟩ := h4 om
   cbv
   refine ⟨in64_of om om, idx_enc (l := ts) (i - 1) om om tc_flat tc_len (fun u' hu' => ?_)⟩
   have : u' = u := by rw [hu] at hu'; exact (Option.some.inj hu').symm
   subst this
   obtain ⟨w, y1, y2, y3⟩ := u'
   simp only at hu2
   cbv
   refine br_dec (fun e4 => ?_) (fun e4 => ?_)
   ·cbv
    (refine retC rfl ?_; cbv)
    exact leS_ff (fin (by omega))
   have hm := hmain (by omega)
   cbv
   refine callS_d okA (cs) rfl ?_
   cbv
   refine br_dec (fun e5 => ?_) (fun e5 => ?_)
   ·cbv
    (refine retC rfl ?_; cbv)
    exact leS_ff (by rw [hm, decide_eq_false (by simpa using e5)]; rfl)
   rw [decide_eq_true e5, Bool.true_and] at hm
   cbv
   refine callS_d okA (cv) rfl ?_
   cbv
   refine cut_bool (fun e6 => ?_) (fun e6 => ?_)
   ·rw [e6, Bool.true_and] at hm
    cbv
    exact ⟨in64_of om om, (i + 1, v), ⟨om, by rw [hm, hrest], fun h => absurd h (by simp), fun _ => ⟨_, ht, rfl⟩⟩, om, .le (by cbv; exact ⟨leS_refl _, leS_refl _, leS_refl _, leS_refl _, leS_int om, trivial⟩) (by cbv; exact ⟨⟨leS_refl _, leS_refl _, leS_refl _, leS_refl _, trivial⟩, trivial⟩) rfl⟩
   ·cbv
    (refine retC rfl ?_; cbv)
    exact leS_ff (by rw [hm, e6]; rfl)
  ·have hp := h3 om
   have hm := hmain (by omega)
   cbv
   refine callS_d okA (cs) rfl ?_
   cbv
   refine br_dec (fun e5 => ?_) (fun e5 => ?_)
   ·cbv
    (refine retC rfl ?_; cbv)
    exact leS_ff (by rw [hm, decide_eq_false (by simpa using e5)]; rfl)
   rw [decide_eq_true e5, Bool.true_and] at hm
   cbv
   refine callS_d okA (cv) rfl ?_
   cbv
   refine cut_bool (fun e6 => ?_) (fun e6 => ?_)
   ·rw [e6, Bool.true_and] at hm
    cbv
    exact ⟨in64_of om om, (i + 1, v), ⟨om, by rw [hm, hrest], fun h => absurd h (by simp), fun _ => ⟨_, ht, rfl⟩⟩, om, .le (by cbv; exact ⟨leS_refl _, leS_refl _, leS_refl _, leS_refl _, leS_int om, trivial⟩) (by cbv; exact ⟨⟨leS_refl _, leS_refl _, leS_refl _, leS_refl _, trivial⟩, trivial⟩) rfl⟩
   ·cbv
    (refine retC rfl ?_; cbv)
    exact leS_ff (by rw [hm, e6]; rfl)
 ·have he : i = ts.length := om
  rw [he, List.drop_length] at hv
  have hv' : r = co := by rw [hv]; rfl
  cbv
  refine callS' rfl okA (cc) rfl ?_
  cbv
  (refine retC rfl ?_; cbv)
  exact leS_bool hv'.symm
end Go.Proofs.YtcanljninhfmhaaGreat
