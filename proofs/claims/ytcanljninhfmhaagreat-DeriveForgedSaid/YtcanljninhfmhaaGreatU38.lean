/- A part of the proof: SpN, SpO, SpP, SpQ, SpR, SpS, SpT, SpU. -/
import Derived.Test.YtcanljninhfmhaaGreatU33
set_option linter.all false
namespace Go.Proofs.YtcanljninhfmhaaGreat
open Go
def Scp.onU (s : Scp) (j : Int) : Bool := s.dcd 1 j || (decide (0 < (s.best j).1) && decide (0 ≤ yA (wE s.lems (s.best j).1)))
def Scp.offU (s : Scp) (j : Int) : Bool := s.dcd 2 j || (decide (0 < (s.best j).2) && decide (yA (wE s.lems (s.best j).2) ≤ 0))
def Scp.rowsOn (s : Scp) (j : Int) : List Row :=
 let b : Int := if s.dcd 1 j = true then 0 else ((s.best j).1 : Int)
 [⟨6, j, 0, 0⟩, ⟨7, j, b, 0⟩, ⟨8, j, b, 0⟩]
def Scp.rowsOff (s : Scp) (j : Int) : List Row :=
 let b : Int := if s.dcd 2 j = true then 0 else ((s.best j).2 : Int)
 [⟨5, j, 0, 0⟩, ⟨9, j, 0, b⟩, ⟨10, j, 0, b⟩]
def Scp.rowsOpen (s : Scp) (j : Int) : List Row :=
 [⟨5, j, 0, 0⟩, ⟨6, j, 0, 0⟩] ++ (if 0 < (s.best j).1 then [⟨11, j, ((s.best j).1 : Int), 0⟩] else []) ++ (if 0 < (s.best j).2 then [⟨12, j, 0, ((s.best j).2 : Int)⟩] else []) ++
  (if 0 < (s.best j).1 ∧ 0 < (s.best j).2 then [⟨13, j, ((s.best j).1 : Int), ((s.best j).2 : Int)⟩] else [])
def Scp.rowsU (s : Scp) (j : Int) : List Row :=
 (if s.onU j = true then s.rowsOn j else []) ++ (if s.offU j = true then s.rowsOff j else []) ++ (if s.onU j = true ∨ s.offU j = true then [] else s.rowsOpen j)
def Scp.all (s : Scp) : List Row :=
 if s.q.valid = false then [] else
 ((List.range s.q.g.n.toNat).flatMap fun i : Nat => [(⟨1, (i : Int), 0, 0⟩ : Row), ⟨2, (i : Int), 0, 0⟩]) ++ ((List.range s.q.r.rows.length).map fun i : Nat => (⟨3, (i : Int), 0, 0⟩ : Row)) ++
  (((List.range s.path.length).filter fun i : Nat => (s.fm ⟨4, (i : Int), 0, 0⟩).isSome).map fun i : Nat => (⟨4, (i : Int), 0, 0⟩ : Row)) ++ ((List.range s.q.g.us.length).flatMap fun j : Nat => s.rowsU (j : Int))
def kX : List Row → List UInt8 → List (Row × Rat) → List (Row × Rat)
 | r :: rs, w :: ws, l => kX rs ws (plMq l r (wU ((w % 8).toNat : Int) 4))
 | _, _, l => l
theorem divZ_nn (a : Nat) : 0 ≤ wU (a : Int) 4 := by
 unfold wU
 rw [show (4 : Int) = ((4 : Nat) : Int) from rfl, Rat.divInt_ofNat, Rat.mkRat_eq_div, Rat.div_def]
 refine Rat.mul_nonneg ?_ ?_
 ·exact Rat.intCast_nonneg.2 (by omega)
 ·exact Rat.le_of_lt (Rat.inv_pos.2 (by decide +kernel))
theorem comb_rs : ∀ {rs : List Row} {ws : List UInt8} {l : List (Row × Rat)}, Rs l → Rs (kX rs ws l)
 | [], _, _, h => by unfold kX; exact h
 | _ :: _, [], _, h => by unfold kX; exact h
 | r :: rs, w :: ws, l, h => by unfold kX; exact comb_rs (plMq_rs h (divZ_nn _))
theorem comb_av {s : Scp} : ∀ {rs : List Row} {ws : List UInt8} {l : List (Row × Rat)}, (∀ r, r ∈ rs → ∃ f, s.fm r = some f) → AV s l → AV s (kX rs ws l)
 | [], _, _, _, h => by unfold kX; exact h
 | _ :: _, [], _, _, h => by unfold kX; exact h
 | r :: rs, w :: ws, l, hr, h => by unfold kX; exact comb_av (fun u hu => hr u (List.mem_cons_of_mem _ hu)) (AV_plMq (hr r List.mem_cons_self) h)
theorem on_true {s : Scp} {j k : Int} {b : Int} (h : s.onU j = true) (hb : b = if s.dcd 1 j = true then 0 else ((s.best j).1 : Int)) : onB s ⟨k, j, b, 0⟩ ((s.lem b j false).getD 0) (s.lem b j false).isSome = true := by
 unfold onB
 by_cases hd : s.dcd 1 j = true
 ·rw [if_pos hd] at hb
  rw [hb]
  dsimp only
  rw [hd]
  simp
 ·rw [if_neg hd] at hb
  unfold Scp.onU at h
  have hd' : s.dcd 1 j = false := by simpa using hd
  rw [hd', Bool.false_or, Bool.and_eq_true, decide_eq_true_eq, decide_eq_true_eq] at h
  obtain ⟨h1, h2⟩ := h
  obtain ⟨m, c1, c2, c3⟩ := (lL s j).1 (by omega)
  rw [hb, cO (by omega) c1 c2 c3]
  simp [h2]
theorem off_true {s : Scp} {j k : Int} {b : Int} (h : s.offU j = true) (hb : b = if s.dcd 2 j = true then 0 else ((s.best j).2 : Int)) : aP s ⟨k, j, 0, b⟩ ((s.lem b j true).getD 0) (s.lem b j true).isSome = true := by
 unfold aP
 by_cases hd : s.dcd 2 j = true
 ·rw [if_pos hd] at hb
  rw [hb]
  dsimp only
  rw [hd]
  simp
 ·rw [if_neg hd] at hb
  unfold Scp.offU at h
  have hd' : s.dcd 2 j = false := by simpa using hd
  rw [hd', Bool.false_or, Bool.and_eq_true, decide_eq_true_eq, decide_eq_true_eq] at h
  obtain ⟨h1, h2⟩ := h
  obtain ⟨m, c1, c2, c3⟩ := (lL s j).2 (by omega)
  rw [hb, cO (by omega) c1 c2 c3]
  simp [h2]
theorem on_av {s : Scp} (hv : s.q.valid = true) {i : Nat} {p : F} (hp : s.q.g.us[i]? = some (fA p)) (h : s.onU i = true) : ∀ r, r ∈ s.rowsOn i → ∃ f, s.fm r = some f := fun r hr => by
 unfold Scp.rowsOn at hr
 obtain ⟨b, hb⟩ : ∃ b : Int, b = if s.dcd 1 i = true then 0 else ((s.best i).1 : Int) := ⟨_, rfl⟩
 rw [← hb] at hr
 have hon := fun k => on_true (k := k) h hb
 have : r = ⟨6, i, 0, 0⟩ ∨ r = ⟨7, i, b, 0⟩ ∨ r = ⟨8, i, b, 0⟩ := by simpa using hr
 rcases this with h | h | h <;> rw [h, kR hv (by decide) (by decide) hp]
 ·exact ⟨_, rfl⟩
 ·exact ⟨p.add F.zero, by
   show (if onB s ⟨7, i, b, 0⟩ _ _ = true then _ else none) = _
   rw [if_pos (hon 7)]⟩
 ·exact ⟨p.sub (F.var (s.q.g.n + i)), by
   show (if onB s ⟨8, i, b, 0⟩ _ _ = true then _ else none) = _
   rw [if_pos (hon 8)]⟩
theorem off_av {s : Scp} (hv : s.q.valid = true) {i : Nat} {p : F} (hp : s.q.g.us[i]? = some (fA p)) (h : s.offU i = true) : ∀ r, r ∈ s.rowsOff i → ∃ f, s.fm r = some f := fun r hr => by
 unfold Scp.rowsOff at hr
 obtain ⟨b, hb⟩ : ∃ b : Int, b = if s.dcd 2 i = true then 0 else ((s.best i).2 : Int) := ⟨_, rfl⟩
 rw [← hb] at hr
 have hoff := fun k => off_true (k := k) h hb
 have : r = ⟨5, i, 0, 0⟩ ∨ r = ⟨9, i, 0, b⟩ ∨ r = ⟨10, i, 0, b⟩ := by simpa using hr
 rcases this with h | h | h <;> rw [h, kR hv (by decide) (by decide) hp]
 ·exact ⟨_, rfl⟩
 ·exact ⟨p.scale (-1), by
   show (if aP s ⟨9, i, 0, b⟩ _ _ = true then _ else none) = _
   rw [if_pos (hoff 9)]⟩
 ·exact ⟨(F.var (s.q.g.n + i)).scale (-1), by
   show (if aP s ⟨10, i, 0, b⟩ _ _ = true then _ else none) = _
   rw [if_pos (hoff 10)]⟩
theorem open_av {s : Scp} (hv : s.q.valid = true) {i : Nat} {p : F} (hp : s.q.g.us[i]? = some (fA p)) (h1 : ¬ s.onU i = true) (h2 : ¬ s.offU i = true) : ∀ r, r ∈ s.rowsOpen i → ∃ f, s.fm r = some f := fun r hr => by
 obtain ⟨b1, b2⟩ := lL s i
 have lo : 0 < (s.best i).1 → s.lem ((s.best i).1 : Int) i false = some (wE s.lems (s.best i).1) ∧ yA (wE s.lems (s.best i).1) < 0 := fun h => by
  obtain ⟨m, c1, c2, c3⟩ := b1 (by omega)
  refine ⟨cO (by omega) c1 c2 c3, ?_⟩
  by_cases g : yA (wE s.lems (s.best i).1) < 0
  ·exact g
  ·exact absurd (by unfold Scp.onU; rw [decide_eq_true h, decide_eq_true (p := 0 ≤ yA (wE s.lems (s.best i).1)) (by omega)]; simp) h1
 have hi : 0 < (s.best i).2 → s.lem ((s.best i).2 : Int) i true = some (wE s.lems (s.best i).2) ∧ 0 < yA (wE s.lems (s.best i).2) := fun h => by
  obtain ⟨m, c1, c2, c3⟩ := b2 (by omega)
  refine ⟨cO (by omega) c1 c2 c3, ?_⟩
  by_cases g : 0 < yA (wE s.lems (s.best i).2)
  ·exact g
  ·exact absurd (by unfold Scp.offU; rw [decide_eq_true h, decide_eq_true (p := yA (wE s.lems (s.best i).2) ≤ 0) (by omega)]; simp) h2
 unfold Scp.rowsOpen at hr
 rcases List.mem_append.1 hr with hr | hr
 ·rcases List.mem_append.1 hr with hr | hr
  ·rcases List.mem_append.1 hr with hr | hr
   ·have : r = ⟨5, i, 0, 0⟩ ∨ r = ⟨6, i, 0, 0⟩ := by simpa using hr
    rcases this with h | h <;> rw [h, kR hv (by decide) (by decide) hp]
    ·exact ⟨_, rfl⟩
    ·exact ⟨_, rfl⟩
   ·split at hr
    ·rename_i h
     have : r = ⟨11, i, ((s.best i).1 : Int), 0⟩ := by simpa using hr
     rw [this, kR hv (by decide) (by decide) hp, (lo h).1]
     exact ⟨_, rfl⟩
    ·exact absurd hr (by simp)
  ·split at hr
   ·rename_i h
    have : r = ⟨12, i, 0, ((s.best i).2 : Int)⟩ := by simpa using hr
    rw [this, kR hv (by decide) (by decide) hp, (hi h).1]
    exact ⟨_, rfl⟩
   ·exact absurd hr (by simp)
 ·split at hr
  ·rename_i h
   have : r = ⟨13, i, ((s.best i).1 : Int), ((s.best i).2 : Int)⟩ := by simpa using hr
   rw [this, kR hv (by decide) (by decide) hp, (lo h.1).1, (hi h.2).1]
   refine ⟨((p.sub (F.num (wE s.lems (s.best i).1))).scale (wE s.lems (s.best i).2)).sub ((F.var (s.q.g.n + i)).scale (wE s.lems (s.best i).2 - wE s.lems (s.best i).1)), ?_⟩
   show (if _ ∧ _ ∧ _ ∧ _ then _ else none) = _
   rw [if_pos ⟨rfl, rfl, (lo h.1).2, (hi h.2).2⟩]
   rfl
  ·exact absurd hr (by simp)
theorem fm_poly {s : Scp} (hv : s.q.valid = true) {i : Nat} {x : A} (hx : s.q.r.rows[i]? = some x) : ∃ f, s.fm ⟨3, i, 0, 0⟩ = some f := by
 unfold Scp.fm
 rw [if_neg (by rw [hv]; simp), if_pos (by show (3 : Int) ≤ 4; decide)]
 unfold Scp.fIn
 rw [if_pos ⟨rfl, by show (0 : Int) ≤ i; omega⟩, if_neg (by show ¬ (3 : Int) = 1; decide), if_neg (by show ¬ (3 : Int) = 2; decide), if_pos rfl]
 have e : ((⟨3, i, 0, 0⟩ : Row).i).toNat = i := by show ((i : Int)).toNat = i; omega
 rw [e, hx]
 exact ⟨_, rfl⟩
theorem all_av {s : Scp} {x : FQry} (hq : s.q = x.q) (hs : x.small) (hx : x.ok) : ∀ r, r ∈ s.all → ∃ f, s.fm r = some f := fun r hr => by
 have hv : s.q.valid = true := by rw [hq]; exact hs.valid hx
 have hn : s.q.g.n = (x.g.n : Int) := by rw [hq]; rfl
 unfold Scp.all at hr
 rw [if_neg (by rw [hv]; decide)] at hr
 rcases List.mem_append.1 hr with hr | hr
 ·rcases List.mem_append.1 hr with hr | hr
  ·rcases List.mem_append.1 hr with hr | hr
   ·obtain ⟨i, hi, h⟩ := List.mem_flatMap.1 hr
    have hi' : i < x.g.n := by have := List.mem_range.1 hi; omega
    have : r = ⟨1, i, 0, 0⟩ ∨ r = ⟨2, i, 0, 0⟩ := by simpa using h
    rcases this with h | h
    ·obtain ⟨y, hy⟩ : ∃ y, s.q.r.lo[i]? = some y := zX (by
      rw [hq]
      show i < (x.r.bs.map _).length
      rw [List.length_map, hs.r.bs]; exact hi')
     rw [h]; exact ⟨_, fm_lo hv hy⟩
    ·obtain ⟨y, hy⟩ : ∃ y, s.q.r.hi[i]? = some y := zX (by
      rw [hq]
      show i < (x.r.bs.map _).length
      rw [List.length_map, hs.r.bs]; exact hi')
     rw [h]; exact ⟨_, fm_hi hv hy⟩
   ·obtain ⟨i, hi, rfl⟩ := List.mem_map.1 hr
    obtain ⟨y, hy⟩ : ∃ y, s.q.r.rows[i]? = some y := zX (List.mem_range.1 hi)
    exact fm_poly hv hy
  ·obtain ⟨i, hi, rfl⟩ := List.mem_map.1 hr
   have h := (List.mem_filter.1 hi).2
   exact Option.isSome_iff_exists.1 h
 ·obtain ⟨j, hj, h⟩ := List.mem_flatMap.1 hr
  have hj' : j < x.g.us.length := by
   have := List.mem_range.1 hj
   rw [hq] at this
   have e : x.q.g.us.length = x.g.us.length := by show (List.map fA _).length = _; rw [List.length_map]
   omega
  have hp : s.q.g.us[j]? = some (fA x.g.us[j]) := by
   rw [hq]
   show (x.g.us.map fA)[j]? = _
   rw [List.getElem?_map]
   simp [hj']
  unfold Scp.rowsU at h
  rcases List.mem_append.1 h with h | h
  ·rcases List.mem_append.1 h with h | h
   ·split at h
    ·rename_i ho; exact on_av hv hp ho r h
    ·exact absurd h (by simp)
   ·split at h
    ·rename_i ho; exact off_av hv hp ho r h
    ·exact absurd h (by simp)
  ·split at h
   ·exact absurd h (by simp)
   ·rename_i ho
    exact open_av hv hp (fun g => ho (.inl g)) (fun g => ho (.inr g)) r h
theorem comb_ok {s : Scp} {x : FQry} (hq : s.q = x.q) (hs : x.small) (hx : x.ok) (ws : List UInt8) : Rs (kX s.all ws []) ∧ AV s (kX s.all ws []) := ⟨comb_rs Rs.nil, comb_av (all_av hq hs hx) (fun t ht => absurd ht (by simp))⟩
theorem unF_wf {s : Scp} {r : Row} {p v f : F} {l u : Option Rat} {N : Int} (hp : p.wf N) (hv : v.wf N) (h : unF s r p v l u = some f) : f.wf N := by
 have two : ∀ {c : Prop} [Decidable c] {x : F}, (if c then some x else none) = some f → x = f := fun h => by
  split at h
  ·exact Option.some.inj h
  ·cases h
 have num := fun q => F.wf.num q N
 unfold unF at h
 by_cases h5 : r.k = 5
 ·rw [if_pos h5] at h; rw [← two h]; exact hv
 rw [if_neg h5] at h
 by_cases h6 : r.k = 6
 ·rw [if_pos h6] at h; rw [← two h]; exact hv.sub hp
 rw [if_neg h6] at h
 by_cases h7 : r.k = 7
 ·rw [if_pos h7] at h; rw [← two h]; exact hp.add (F.wf.zero0 N)
 rw [if_neg h7] at h
 by_cases h8 : r.k = 8
 ·rw [if_pos h8] at h; rw [← two h]; exact hp.sub hv
 rw [if_neg h8] at h
 by_cases h9 : r.k = 9
 ·rw [if_pos h9] at h; rw [← two h]; exact hp.scale
 rw [if_neg h9] at h
 by_cases h10 : r.k = 10
 ·rw [if_pos h10] at h; rw [← two h]; exact hv.scale
 rw [if_neg h10] at h
 by_cases h11 : r.k = 11
 ·rw [if_pos h11] at h; rw [← two h]; exact hp.sub (num _)
 rw [if_neg h11] at h
 by_cases h12 : r.k = 12
 ·rw [if_pos h12] at h; rw [← two h]; exact (num _).sub hp
 rw [if_neg h12] at h
 by_cases h13 : r.k = 13
 ·rw [if_pos h13] at h; rw [← two h]; exact (hp.sub (num _)).scale.sub hv.scale
 rw [if_neg h13] at h
 cases h
theorem sumL_wf {s : Scp} {N : Int} (hf : ∀ r g, s.fm r = some g → g.wf N) : ∀ {l : List (Row × Rat)} {acc f : F}, acc.wf N → sumL s acc (mR l) = some f → f.wf N
 | [], acc, f, ha, h => by cases h; exact ha
 | t :: r, acc, f, ha, h => by
  have e : mR (t :: r) = ⟨t.1, zE t.2⟩ :: mR r := rfl
  rw [e] at h
  unfold sumL at h
  dsimp only at h
  split at h
  ·cases h
  ·rename_i g hg
   exact sumL_wf hf (ha.add (hf _ _ hg).scale) h
theorem fIn_wf {s : Scp} {x : FQry} (hq : s.q = x.q) (hs : x.small) (hx : x.ok) {r : Row} {f : F} (h : s.fIn r = some f) : f.wf ((x.g.n + x.g.us.length : Nat) : Int) := by
 have hn : s.q.g.n = (x.g.n : Int) := by rw [hq]; rfl
 have num := fun q => F.wf.num q ((x.g.n + x.g.us.length : Nat) : Int)
 have hlo : s.q.r.lo.length = x.g.n := by rw [hq]; show (x.r.bs.map _).length = _; rw [List.length_map, hs.r.bs]
 have hhi : s.q.r.hi.length = x.g.n := by rw [hq]; show (x.r.bs.map _).length = _; rw [List.length_map, hs.r.bs]
 unfold Scp.fIn at h
 by_cases h0 : r.plain = true ∧ 0 ≤ r.i
 ·rw [if_pos h0] at h
  by_cases h1 : r.k = 1
  ·rw [if_pos h1] at h
   obtain ⟨y, hy, rfl⟩ := Option.map_eq_some_iff.1 h
   have := (List.getElem?_eq_some_iff.1 hy).1
   exact (F.wf.var h0.2 (by omega)).sub (num _)
  rw [if_neg h1] at h
  by_cases h2 : r.k = 2
  ·rw [if_pos h2] at h
   obtain ⟨y, hy, rfl⟩ := Option.map_eq_some_iff.1 h
   have := (List.getElem?_eq_some_iff.1 hy).1
   exact (num _).sub (F.wf.var h0.2 (by omega))
  rw [if_neg h2] at h
  by_cases h3 : r.k = 3
  ·rw [if_pos h3] at h
   obtain ⟨y, hy, rfl⟩ := Option.map_eq_some_iff.1 h
   have hm := List.mem_of_getElem? hy
   rw [hq] at hm
   obtain ⟨g, hg, rfl⟩ := List.mem_map.1 hm
   rw [wO]
   exact ((hx.rows g hg).mono (by omega)).add (F.wf.zero0 _)
  rw [if_neg h3] at h
  by_cases h4 : r.k = 4
  ·rw [if_pos h4] at h
   split at h
   ·rename_i d hd
    split at h
    ·rename_i hfit
     have hdi : d.k = 3 ∨ d.k = 4 → 0 ≤ d.i ∧ d.i < ((x.g.n + x.g.us.length : Nat) : Int) := fun hk => by
      unfold Dec.fits at hfit
      rw [if_neg (by omega), if_pos hk, Bool.and_eq_true, decide_eq_true_eq] at hfit
      omega
     split at h
     ·rename_i hk
      cases h
      obtain ⟨d1, d2⟩ := hdi (.inl hk)
      exact (F.wf.var d1 d2).sub (num _)
     ·split at h
      ·rename_i hk
       cases h
       obtain ⟨d1, d2⟩ := hdi (.inr hk)
       exact ((F.wf.var d1 d2).sub (num _)).scale
      ·cases h
    ·cases h
   ·cases h
  rw [if_neg h4] at h
  cases h
 ·rw [if_neg h0] at h; cases h
theorem fm_wf {s : Scp} {x : FQry} (hq : s.q = x.q) (hs : x.small) (hx : x.ok) (r : Row) (f : F) (h : s.fm r = some f) : f.wf ((x.g.n + x.g.us.length : Nat) : Int) := by
 have hn : s.q.g.n = (x.g.n : Int) := by rw [hq]; rfl
 unfold Scp.fm at h
 split at h
 ·cases h
 ·split at h
  ·exact fIn_wf hq hs hx h
  ·unfold Scp.fUn at h
   split at h
   ·rename_i hi
    split at h
    ·rename_i p hp
     have hl := (List.getElem?_eq_some_iff.1 hp).1
     rw [hq] at hp
     have hp' : (x.g.us.map fA)[r.i.toNat]? = some p := hp
     rw [List.getElem?_map] at hp'
     obtain ⟨g, hg, rfl⟩ := Option.map_eq_some_iff.1 hp'
     have hl2 := (List.getElem?_eq_some_iff.1 hg).1
     rw [wO] at h
     exact unF_wf ((hx.us _ g hg).mono (by omega)) (F.wf.var (by omega) (by omega)) h
    ·cases h
   ·cases h
theorem nK {s : Scp} {x : FQry} (hq : s.q = x.q) (hs : x.small) (hx : x.ok) {l : List (Row × Rat)} (hr : Rs l) (ha : AV s l) {c : Rat} (hc : 0 ≤ c) : s.proves (fA ((s.sum (mR l)).2.add (F.num c))) (mR l) = true := by
 obtain ⟨g, h1, h2, h3, h4⟩ := bA hr ha
 have hn := hs.g.n2
 have hu := hs.g.us
 have hw : g.wf ((x.g.n + x.g.us.length : Nat) : Int) := by
  obtain ⟨f, k1, _⟩ := sumL_ok (acc := F.zero) ha
  have hw := sumL_wf (fm_wf hq hs hx) (F.wf.zero0 _) k1
  have : s.sum (mR l) = (0, f) := by
   unfold Scp.sum
   rw [lK hr (fun w e => by cases e), k1]
   rfl
  rw [this] at h1
  cases h1
  exact hw
 rw [h1]
 refine sM hq hx hr ha (hw.add (F.wf.num c _)) (by omega) (fun w => ?_) ?_
 ·rw [co_add, bP, h2]; grind
 ·have e : (g.add (F.num c)).c = g.c + c * 1 := rfl
  rw [e, h3]; grind
theorem comb_less {s : Scp} {l : List (Row × Rat)} (hr : Rs l) (ha : AV s l) {c : Rat} (hc : 0 < c) : s.proves (fA ((s.sum (mR l)).2.sub (F.num c))) (mR l) = false := by
 obtain ⟨g, h1, h2, h3, h4⟩ := bA hr ha
 rw [h1]
 unfold Scp.proves
 rw [wO, h1]
 have e : ((g.sub (F.num c)).sub g).c = (g.c + c * -1) + g.c * -1 := rfl
 have hneg : yA ((g.sub (F.num c)).sub g).c < 0 := dB.2 (by rw [e]; grind)
 rw [decide_eq_false (p := (0 : Int) ≤ yA ((g.sub (F.num c)).sub g).c) (by omega)]
 simp
theorem tV {s : Scp} {l : List (Row × Rat)} (hr : Rs l) (ha : AV s l) : (s.sum (mR l)).1 = 0 ∧ s.refutes (mR l) = (decide ((s.sum (mR l)).2.ts.length = 0) && decide (yA (s.sum (mR l)).2.c < 0)) := by
 obtain ⟨g, h1, _⟩ := bA hr ha
 refine ⟨by rw [h1], ?_⟩
 unfold Scp.refutes
 rw [h1]
 simp
def evX (X : Int → Rat) : List (Int × Rat) → Rat
 | [] => 0
 | t :: r => t.2 * X t.1 + evX X r
def F.at (f : F) (X : Int → Rat) : Rat := f.c + evX X f.ts
theorem eM (X : Int → Rat) (v : Int) (q : Rat) (r) : evX X (pc v q r) = q * X v + evX X r := by
 unfold pc
 split
 ·rename_i h; rw [h]; grind
 ·rfl
theorem s4 (X : Int → Rat) (c : Rat) : ∀ (a b : List (Int × Rat)), evX X (mrg c a b) = evX X a + evX X b * c
 | [], [] => by rw [mrg]; simp only [evX]; grind
 | a :: aa, [] => by rw [mrg, eM, s4 X c aa []]; simp only [evX]; grind
 | [], b :: bb => by rw [mrg, eM, s4 X c [] bb]; simp only [evX]; grind
 | a :: aa, b :: bb => by
  rw [mrg]
  split
  ·rw [eM, s4 X c aa (b :: bb)]; simp only [evX]; grind
  ·split
   ·rw [eM, s4 X c (a :: aa) bb]; simp only [evX]; grind
   ·have : a.1 = b.1 := by omega
    rw [eM, s4 X c aa bb]; simp only [evX, this]; grind
termination_by a b => a.length + b.length
theorem oD (X : Int → Rat) (f g : F) (c : Rat) : (f.merge g c).at X = f.at X + g.at X * c := by
 show f.c + g.c * c + evX X (mrg c f.ts g.ts) = f.c + evX X f.ts + (g.c + evX X g.ts) * c
 rw [s4]; grind
theorem at_add (X : Int → Rat) (f g : F) : (f.add g).at X = f.at X + g.at X := by unfold F.add; rw [oD]; grind
theorem jM (X : Int → Rat) (f g : F) : (f.sub g).at X = f.at X - g.at X := by unfold F.sub; rw [oD]; grind
theorem s8 (X : Int → Rat) : F.zero.at X = 0 := by show (0 : Rat) + 0 = 0; grind
theorem fR (X : Int → Rat) (f : F) (c : Rat) : (f.scale c).at X = f.at X * c := by
 unfold F.scale; rw [oD]; show F.zero.at X + _ = _; rw [s8]; grind
theorem bU (X : Int → Rat) (v : Int) : (F.var v).at X = X v := by show (0 : Rat) + (1 * X v + 0) = X v; grind
theorem bV (X : Int → Rat) (q : Rat) : (F.num q).at X = q := by show q + 0 = q; grind
structure Pt (s : Scp) (X : Int → Rat) : Prop where
 lo : ∀ (i : Nat) x, s.q.r.lo[i]? = some x → x.q ≤ X i
 hi : ∀ (i : Nat) x, s.q.r.hi[i]? = some x → X i ≤ x.q
 rows : ∀ (i : Nat) f, s.q.r.rows[i]? = some f → 0 ≤ f.f.at X
 un : ∀ (i : Nat) p, s.q.g.us[i]? = some p → 0 ≤ X (s.q.g.n + i) ∧ p.f.at X ≤ X (s.q.g.n + i) ∧ (X (s.q.g.n + i) = 0 ∨ X (s.q.g.n + i) = p.f.at X)
 ab : ∀ d, d ∈ s.path → d.fits s.q = true → d.k = 3 → d.x.q ≤ X d.i
 be : ∀ d, d ∈ s.path → d.fits s.q = true → d.k = 4 → X d.i ≤ d.x.q
 on : ∀ d, d ∈ s.path → d.fits s.q = true → d.k = 1 → ∀ (i : Nat) p, d.i = i → s.q.g.us[i]? = some p → 0 ≤ p.f.at X
 off : ∀ d, d ∈ s.path → d.fits s.q = true → d.k = 2 → ∀ (i : Nat) p, d.i = i → s.q.g.us[i]? = some p → p.f.at X ≤ 0
def LemH (s : Scp) (X : Int → Rat) (m : Lem) : Prop := ∀ (i : Nat) p, m.u = i → s.q.g.us[i]? = some p → if m.up = true then p.f.at X ≤ m.v.q else m.v.q ≤ p.f.at X
def dN (s : Scp) (X : Int → Rat) : Prop := ∀ m, m ∈ s.lems → LemH s X m
theorem lem_mem {s : Scp} {n unit : Int} {up : Bool} {v : Rat} (h : s.lem n unit up = some v) : ∃ m, m ∈ s.lems ∧ m.u = unit ∧ m.up = up ∧ m.v.q = v := by
 unfold Scp.lem at h
 split at h
 ·split at h
  ·rename_i m hm
   split at h
   ·rename_i g
    exact ⟨m, List.mem_of_getElem? hm, g.1, g.2, Option.some.inj h⟩
   ·cases h
  ·cases h
 ·cases h
theorem lem_low {s : Scp} {X : Int → Rat} (hl : dN s X) {n : Int} {i : Nat} {v : Rat} {p : A} (hp : s.q.g.us[i]? = some p) (h : s.lem n i false = some v) : v ≤ p.f.at X := by
 obtain ⟨m, h1, h2, h3, h4⟩ := lem_mem h
 have := hl m h1 i p h2 hp
 rw [h3, h4] at this
 simpa using this
theorem lem_up {s : Scp} {X : Int → Rat} (hl : dN s X) {n : Int} {i : Nat} {v : Rat} {p : A} (hp : s.q.g.us[i]? = some p) (h : s.lem n i true = some v) : p.f.at X ≤ v := by
 obtain ⟨m, h1, h2, h3, h4⟩ := lem_mem h
 have := hl m h1 i p h2 hp
 rw [h3, h4] at this
 simpa using this
theorem dcd_mem {s : Scp} {k u : Int} (h : s.dcd k u = true) : ∃ d, d ∈ s.path ∧ d.k = k ∧ d.i = u ∧ d.fits s.q = true := by
 unfold Scp.dcd at h
 obtain ⟨d, h1, h2⟩ := List.any_eq_true.1 h
 simp only [Bool.and_eq_true, decide_eq_true_eq] at h2
 exact ⟨d, h1, h2.1, h2.2.1, h2.2.2⟩
theorem on_nn {s : Scp} {X : Int → Rat} (hP : Pt s X) (hl : dN s X) {r : Row} {i : Nat} {p : A} (hi : r.i = i) (hp : s.q.g.us[i]? = some p) (h : onB s r ((s.lem r.lo r.i false).getD 0) (s.lem r.lo r.i false).isSome = true) : 0 ≤ p.f.at X := by
 unfold onB at h
 simp only [Bool.and_eq_true, Bool.or_eq_true, decide_eq_true_eq] at h
 rcases h.2 with ⟨_, h2⟩ | ⟨h1, h2⟩
 ·obtain ⟨d, g1, g2, g3, g4⟩ := dcd_mem h2
  exact hP.on d g1 g4 g2 i p (by omega) hp
 ·obtain ⟨v, hv⟩ := Option.isSome_iff_exists.1 h1
  rw [hv] at h2
  rw [hi] at hv
  have := lem_low hl hp hv
  have h3 : ¬ v < 0 := fun g => by have := dB.2 g; simp only [Option.getD_some] at h2; omega
  grind
theorem off_np {s : Scp} {X : Int → Rat} (hP : Pt s X) (hl : dN s X) {r : Row} {i : Nat} {p : A} (hi : r.i = i) (hp : s.q.g.us[i]? = some p) (h : aP s r ((s.lem r.hi r.i true).getD 0) (s.lem r.hi r.i true).isSome = true) : p.f.at X ≤ 0 := by
 unfold aP at h
 simp only [Bool.and_eq_true, Bool.or_eq_true, decide_eq_true_eq] at h
 rcases h.2 with ⟨_, h2⟩ | ⟨h1, h2⟩
 ·obtain ⟨d, g1, g2, g3, g4⟩ := dcd_mem h2
  exact hP.off d g1 g4 g2 i p (by omega) hp
 ·obtain ⟨v, hv⟩ := Option.isSome_iff_exists.1 h1
  rw [hv] at h2
  rw [hi] at hv
  have := lem_up hl hp hv
  have h3 : ¬ 0 < v := fun g => by have := f9.2 g; simp only [Option.getD_some] at h2; omega
  grind
theorem tri_nn {p v l u : Rat} (h1 : l ≤ p) (h2 : p ≤ u) (h3 : l < 0) (h4 : 0 < u) (h5 : v = 0 ∨ v = p) (h6 : 0 ≤ v) (h7 : p ≤ v) : 0 ≤ (p - l) * u - v * (u - l) := by
 rcases h5 with rfl | rfl
 ·have := Rat.mul_nonneg (a := p - l) (b := u) (by grind) (by grind)
  grind
 ·have := Rat.mul_nonneg (a := - l) (b := u - v) (by grind) (by grind)
  grind
theorem un_sound {s : Scp} {X : Int → Rat} (hP : Pt s X) (hl : dN s X) {r : Row} {f : F} (h : s.fUn r = some f) : 0 ≤ f.at X := by
 have two : ∀ {c : Prop} [Decidable c] {x : F}, (if c then some x else none) = some f → c ∧ x = f := fun h => by
  split at h
  ·rename_i g; exact ⟨g, Option.some.inj h⟩
  ·cases h
 unfold Scp.fUn at h
 by_cases h0 : 0 ≤ r.i ∧ r.i < s.q.g.us.length
 rotate_left
 ·rw [if_neg h0] at h; cases h
 rw [if_pos h0] at h
 cases hp : s.q.g.us[r.i.toNat]? with
 | none => rw [hp] at h; cases h
 | some p =>
 rw [hp] at h
 dsimp only at h
 have hi : r.i = (r.i.toNat : Nat) := by omega
 obtain ⟨u1, u2, u3⟩ := hP.un _ p hp
 rw [← hi] at u1 u2 u3
 unfold unF at h
 by_cases h5 : r.k = 5
 ·rw [if_pos h5] at h; obtain ⟨_, rfl⟩ := two h; rw [bU]; exact u1
 rw [if_neg h5] at h
 by_cases h6 : r.k = 6
 ·rw [if_pos h6] at h; obtain ⟨_, rfl⟩ := two h; rw [jM, bU]; grind
 rw [if_neg h6] at h
 by_cases h7 : r.k = 7
 ·rw [if_pos h7] at h; obtain ⟨g, rfl⟩ := two h
  have := on_nn hP hl hi hp g
  rw [at_add, s8]; grind
 rw [if_neg h7] at h
 by_cases h8 : r.k = 8
 ·rw [if_pos h8] at h; obtain ⟨g, rfl⟩ := two h
  have := on_nn hP hl hi hp g
  rw [jM, bU]; grind
 rw [if_neg h8] at h
 by_cases h9 : r.k = 9
 ·rw [if_pos h9] at h; obtain ⟨g, rfl⟩ := two h
  have := off_np hP hl hi hp g
  rw [fR]; grind
 rw [if_neg h9] at h
 by_cases h10 : r.k = 10
 ·rw [if_pos h10] at h; obtain ⟨g, rfl⟩ := two h
  have := off_np hP hl hi hp g
  rw [fR, bU]; grind
 rw [if_neg h10] at h
 by_cases h11 : r.k = 11
 ·rw [if_pos h11] at h; obtain ⟨g, rfl⟩ := two h
  obtain ⟨v, hv⟩ := Option.isSome_iff_exists.1 g.1
  rw [hv]
  rw [hi] at hv
  have := lem_low hl hp hv
  rw [jM, bV, Option.getD_some]; grind
 rw [if_neg h11] at h
 by_cases h12 : r.k = 12
 ·rw [if_pos h12] at h; obtain ⟨g, rfl⟩ := two h
  obtain ⟨v, hv⟩ := Option.isSome_iff_exists.1 g.1
  rw [hv]
  rw [hi] at hv
  have := lem_up hl hp hv
  rw [jM, bV, Option.getD_some]; grind
 rw [if_neg h12] at h
 by_cases h13 : r.k = 13
 ·rw [if_pos h13] at h; obtain ⟨g, rfl⟩ := two h
  obtain ⟨g1, g2, g3, g4⟩ := g
  obtain ⟨l, hv⟩ := Option.isSome_iff_exists.1 g1
  obtain ⟨u, hw⟩ := Option.isSome_iff_exists.1 g2
  rw [hv, Option.getD_some] at g3 ⊢
  rw [hw, Option.getD_some] at g4 ⊢
  rw [hi] at hv hw
  have e1 := lem_low hl hp hv
  have e2 := lem_up hl hp hw
  have := tri_nn e1 e2 (dB.1 g3) (f9.1 g4) u3 u1 u2
  rw [jM, fR, fR, jM, bV, bU]; exact this
 rw [if_neg h13] at h
 cases h
theorem in_sound {s : Scp} {X : Int → Rat} (hP : Pt s X) {r : Row} {f : F} (h : s.fIn r = some f) : 0 ≤ f.at X := by
 unfold Scp.fIn at h
 by_cases h0 : r.plain = true ∧ 0 ≤ r.i
 rotate_left
 ·rw [if_neg h0] at h; cases h
 rw [if_pos h0] at h
 have hi : r.i = (r.i.toNat : Nat) := by omega
 by_cases h1 : r.k = 1
 ·rw [if_pos h1] at h
  obtain ⟨y, hy, rfl⟩ := Option.map_eq_some_iff.1 h
  have := hP.lo _ y hy
  rw [← hi] at this
  rw [jM, bU, bV]; grind
 rw [if_neg h1] at h
 by_cases h2 : r.k = 2
 ·rw [if_pos h2] at h
  obtain ⟨y, hy, rfl⟩ := Option.map_eq_some_iff.1 h
  have := hP.hi _ y hy
  rw [← hi] at this
  rw [jM, bU, bV]; grind
 rw [if_neg h2] at h
 by_cases h3 : r.k = 3
 ·rw [if_pos h3] at h
  obtain ⟨y, hy, rfl⟩ := Option.map_eq_some_iff.1 h
  have := hP.rows _ y hy
  rw [at_add, s8]; grind
 rw [if_neg h3] at h
 by_cases h4 : r.k = 4
 ·rw [if_pos h4] at h
  cases hd : s.path[r.i.toNat]? with
  | none => rw [hd] at h; cases h
  | some d =>
   rw [hd] at h
   dsimp only at h
   have hm := List.mem_of_getElem? hd
   by_cases hf : d.fits s.q = true
   ·rw [if_pos hf] at h
    by_cases k3 : d.k = 3
    ·rw [if_pos k3] at h
     obtain rfl := Option.some.inj h
     have := hP.ab d hm hf k3
     rw [jM, bU, bV]; grind
    ·rw [if_neg k3] at h
     by_cases k4 : d.k = 4
     ·rw [if_pos k4] at h
      obtain rfl := Option.some.inj h
      have := hP.be d hm hf k4
      rw [fR, jM, bU, bV]; grind
     ·rw [if_neg k4] at h; cases h
   ·rw [if_neg hf] at h; cases h
 rw [if_neg h4] at h
 cases h
theorem row_sound {s : Scp} {X : Int → Rat} (hP : Pt s X) (hl : dN s X) {r : Row} {f : F} (h : s.fm r = some f) : 0 ≤ f.at X := by
 unfold Scp.fm at h
 split at h
 ·cases h
 ·split at h
  ·exact in_sound hP h
  ·exact un_sound hP hl h
theorem lX {s : Scp} {X : Int → Rat} (hP : Pt s X) (hl : dN s X) : ∀ {l : List Mult} {acc f : F}, (∀ m, m ∈ l → 0 ≤ m.c.q) → 0 ≤ acc.at X → sumL s acc l = some f → 0 ≤ f.at X
 | [], acc, f, _, h0, h => by obtain rfl := Option.some.inj h; exact h0
 | m :: r, acc, f, hc, h0, h => by
  unfold sumL at h
  cases hm : s.fm m.row with
  | none => rw [hm] at h; cases h
  | some g =>
   rw [hm] at h
   refine lX hP hl (fun x hx => hc x (List.mem_cons_of_mem _ hx)) ?_ h
   have h1 := row_sound hP hl hm
   have h2 := hc m List.mem_cons_self
   have := Rat.mul_nonneg h1 h2
   rw [at_add, fR]; grind
theorem canM_nn : ∀ {l : List Mult} {p : Option Row}, vH p l = true → ∀ m, m ∈ l → 0 ≤ m.c.q
 | [], _, _, m, h => absurd h (by simp)
 | a :: r, p, hc, m, h => by
  unfold vH at hc
  simp only [Bool.and_eq_true, decide_eq_true_eq] at hc
  rcases List.mem_cons.1 h with rfl | h
  ·have := f9.1 hc.1; grind
  ·exact canM_nn hc.2.2.2 m h
theorem t8 {s : Scp} {X : Int → Rat} (hP : Pt s X) (hl : dN s X) {l : List Mult} (h : (s.sum l).1 = 0) : 0 ≤ (s.sum l).2.at X := by
 unfold Scp.sum at h ⊢
 by_cases hc : vH none l = false
 ·rw [if_pos hc]; rw [s8]; grind
 ·rw [if_neg hc]
  cases hs : sumL s F.zero l with
  | none => dsimp only; rw [s8]; grind
  | some f => exact lX hP hl (canM_nn (by simpa using hc)) (by rw [s8]; grind) hs
theorem at_nil {f : F} {X : Int → Rat} (h : f.ts.length = 0) : f.at X = f.c := by
 show f.c + evX X f.ts = f.c
 rw [List.length_eq_zero_iff.1 h]; show f.c + 0 = f.c; grind
theorem tA {s : Scp} {X : Int → Rat} (hP : Pt s X) (hl : dN s X) {f : A} {l : List Mult} (h : s.proves f l = true) : f.valid 9223372036854775807 = true ∧ 0 ≤ f.f.at X := by
 unfold Scp.proves at h
 simp only [Bool.and_eq_true, decide_eq_true_eq] at h
 obtain ⟨h1, h2, h3, h4⟩ := h
 refine ⟨h2, ?_⟩
 have e1 := t8 hP hl h1
 have e2 := jM X f.f (s.sum l).2
 rw [at_nil h3] at e2
 have e3 : ¬ (f.f.sub (s.sum l).2).c < 0 := fun g => by have := dB.2 g; omega
 grind
theorem oL {s : Scp} {X : Int → Rat} (hP : Pt s X) (hl : dN s X) (l : List Mult) : s.refutes l = false := by
 cases h : s.refutes l with
 | false => rfl
 | true =>
  unfold Scp.refutes at h
  simp only [Bool.and_eq_true, decide_eq_true_eq] at h
  obtain ⟨h1, h2, h3⟩ := h
  have e1 := t8 hP hl h1
  rw [at_nil h2] at e1
  have := dB.1 h3
  grind
theorem Pt.pre {s : Scp} {X : Int → Rat} (hP : Pt s X) (i : Nat) : Pt (s.pre i) X := ⟨hP.lo, hP.hi, hP.rows, hP.un, hP.ab, hP.be, hP.on, hP.off⟩
theorem lemB_sound {s : Scp} {X : Int → Rat} (hP : Pt s X) (hl : dN s X) {m : Lem} (h : s.lemB m = true) : LemH s X m := by
 unfold Scp.lemB at h
 simp only [Bool.and_eq_true, decide_eq_true_eq] at h
 intro i p hi hp
 have hp' : s.q.g.us[m.u.toNat]? = some p := by rw [hi]; exact hp
 have h4 := h.2.2.2
 rw [hp'] at h4
 have := (tA hP hl h4).2
 rw [wO] at this
 unfold Lem.form at this
 split
 ·rename_i hu
  rw [if_pos hu, fR, jM, bV] at this
  grind
 ·rename_i hu
  rw [if_neg hu, jM, bV] at this
  grind
theorem aT {s : Scp} {X : Int → Rat} (hP : Pt s X) : ∀ {l : List Lem} {i : Nat}, s.lems.drop i = l → uC s i l = true → (∀ m, m ∈ s.lems.take i → LemH s X m) → dN s X
 | [], i, hd, _, h => fun m hm => h m (by rw [List.take_of_length_le (List.drop_eq_nil_iff.1 hd)]; exact hm)
 | a :: r, i, hd, hf, h => by
  unfold uC at hf
  simp only [Bool.and_eq_true] at hf
  have ha : s.lems[i]? = some a := by rw [← List.head?_drop, hd]; rfl
  have h1 := lemB_sound (hP.pre i) h hf.1
  refine aT hP (i := i + 1) (by rw [← List.tail_drop, hd]; rfl) hf.2 (fun m hm => ?_)
  rw [List.take_add_one, ha] at hm
  rcases List.mem_append.1 hm with g | g
  ·exact h m g
  ·obtain rfl : m = a := by simpa using g
   exact h1
theorem scope_sound {s : Scp} {X : Int → Rat} (hP : Pt s X) (h : s.scopeB = true) : dN s X := by
 unfold Scp.scopeB at h
 simp only [Bool.and_eq_true] at h
 exact aT hP (i := 0) rfl h.2.2 (fun m hm => absurd hm (by simp))
end Go.Proofs.YtcanljninhfmhaaGreat
