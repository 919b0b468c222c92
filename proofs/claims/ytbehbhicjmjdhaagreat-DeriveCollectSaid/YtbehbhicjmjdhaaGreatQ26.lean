/- CONTRACTS: linear (of the program): Valid, put. -/
import Derived.Test.YtbehbhicjmjdhaaGreatQ25

namespace Go.Proofs.YtbehbhicjmjdhaaGreat
open Go
set_option linter.unusedVariables false
set_option maxRecDepth 100000

theorem drop_of_get {α : Type} {l : List α} {i : Nat} {t : α} (h : l[i]? = some t) : l.drop i = t :: l.drop (i + 1) := by
  obtain ⟨h1, h2⟩ := List.getElem?_eq_some_iff.1 h
  rw [← h2, List.drop_eq_getElem_cons h1]
theorem vT_cons (vars p : Int) (t r) : vT vars p (t :: r) = (decide (0 ≤ t.1) && decide (t.1 < vars) && decide (p < t.1) && decide (t.2.q ≠ 0) && t.2.ok && vT vars t.1 r) := rfl
theorem sgnQ_ne {q : Rat} : sgnQ q ≠ 0 ↔ q ≠ 0 := by unfold sgnQ; split <;> (try split) <;> grind
theorem hfLnValid : Pg.funcs[68]? = some Tryz.f68 := by rw [Pg_eq]; rfl
theorem sLnValid (a : A) (vars : Int) (ha : a.sz (2^36)) : SoundS 68 [av a, .int .i64 (fun _ => vars)] (.bool (fun _ => a.valid vars)) := by
  refine sound_fn hfLnValid rfl rfl rfl rfl rfl ?_
  obtain ⟨ts, c⟩ := a
  have hl := ha.t.len
  have hts := ha.t.sz
  have cc := s103 c ha.c
  generalize hr : A.valid vars ⟨ts, c⟩ = r
  have hr0 : r = (vT vars (-1) ts && c.ok) := hr.symm
  simp only at hl hts cc
  generalize c.ok = co at *
  clear hr ha
  cbv
  refine loop_n (σ := Nat × Int) (fun s => ⟨[(1, .int .i64 (fun _ => vars)), (2, .ptr 2 0), (8, tsv ts), (9, .int .i64 (fun _ => (ts.length : Int))), (10, .int .i64 (fun _ => (s.1 : Int)))], [(2, .box [tsv ts, .bool (fun _ => c.neg), nat c.num, nat c.den])]⟩)
    (fun s => s.1 ≤ ts.length ∧ r = (vT vars s.2 (ts.drop s.1) && co) ∧ (s.1 = 0 → s.2 = -1) ∧ (s.1 ≠ 0 → ∃ u, ts[s.1 - 1]? = some u ∧ u.1 = s.2)) (fun s => ts.length - s.1)
    (0, -1) ⟨(by (try dsimp only [ncast] at *) <;> (try simp only [lm_length] at *) <;> omega), hr0, fun _ => rfl, fun h => absurd rfl h⟩ (.le ?_ ?_ rfl) ?_
  · cbv
    exact ⟨leS_refl _, leS_refl _, leS_refl _, leS_int (by (try dsimp only [ncast] at *); rw [enc_len]), leS_refl _, trivial⟩
  · cbv
    exact ⟨⟨leS_refl _, leS_refl _, leS_refl _, leS_refl _, trivial⟩, trivial⟩
  intro s hs
  obtain ⟨h1, hv, h3, h4⟩ := hs
  generalize s.1 = i at *
  generalize s.2 = p at *
  cbv
  refine cut_dec (fun h5 => ?_) (fun h5 => ?_)
  · cbv
    refine idx_enc (l := ts) i (by (try dsimp only [ncast] at *) <;> (try simp only [lm_length] at *) <;> omega) (by (try dsimp only [ncast] at *) <;> (try simp only [lm_length] at *) <;> omega) tc_flat tc_len (fun t ht => ?_)
    rw [drop_of_get ht, vT_cons] at hv
    have htz := hts t (List.mem_of_getElem? ht)
    have cs := s86 t.2 (by have := htz.n; omega)
    have cv := s103 t.2 htz
    have hq : decide (t.2.q ≠ 0) = decide (sgnQ t.2.q ≠ 0) := by rw [decide_eq_decide]; exact sgnQ_ne.symm
    rw [hq] at hv
    generalize sgnQ t.2.q = sg at *
    generalize hok : t.2.ok = ok at *
    obtain ⟨v, x1, x2, x3⟩ := t
    simp only at hv
    generalize hrest : (vT vars v (ts.drop (i + 1)) && co) = rest
    have hv' : r = (decide (0 ≤ v) && decide (v < vars) && decide (p < v) && decide (sg ≠ 0) && ok && rest) := by rw [hv, ← hrest]; simp only [Bool.and_assoc]
    clear hv
    cbv
    refine draw_of 37 (by cbv) ?_
    cbv
    refine br_dec (fun e1 => ?_) (fun e1 => ?_)
    · cbv
      (refine retC rfl ?_; cbv)
      exact leS_ff (by rw [hv', decide_eq_false (by omega)]; rfl)
    cbv
    refine br_dec (fun e2 => ?_) (fun e2 => ?_)
    · cbv
      (refine retC rfl ?_; cbv)
      exact leS_ff (by rw [hv', decide_eq_false (p := v < vars) (by omega)]; simp)
    cbv
    have fin : (¬ (p < v) → r = false) := fun h => by rw [hv', decide_eq_false (p := p < v) h]; simp
    have hmain : (p < v) → r = (decide (sg ≠ 0) && ok && rest) := fun h => by
      rw [hv', decide_eq_true (p := p < v) h, decide_eq_true (p := 0 ≤ v) (by omega), decide_eq_true (p := v < vars) (by omega)]; simp only [Bool.true_and]
    clear hv'
    refine br_dec (fun e3 => ?_) (fun e3 => ?_)
    · obtain ⟨u, hu, hu2⟩ := h4 (by (try dsimp only [ncast] at *) <;> (try simp only [lm_length] at *) <;> omega)
      cbv
      refine ⟨in64_of (by (try dsimp only [ncast] at *) <;> (try simp only [lm_length] at *) <;> omega) (by (try dsimp only [ncast] at *) <;> (try simp only [lm_length] at *) <;> omega), idx_enc (l := ts) (i - 1) (by (try dsimp only [ncast] at *) <;> (try simp only [lm_length] at *) <;> omega) (by (try dsimp only [ncast] at *) <;> (try simp only [lm_length] at *) <;> omega) tc_flat tc_len (fun u' hu' => ?_)⟩
      have : u' = u := by rw [hu] at hu'; exact (Option.some.inj hu').symm
      subst this
      obtain ⟨w, y1, y2, y3⟩ := u'
      simp only at hu2
      cbv
      refine br_dec (fun e4 => ?_) (fun e4 => ?_)
      · cbv
        (refine retC rfl ?_; cbv)
        exact leS_ff (fin (by omega))
      have hm := hmain (by omega)
      cbv
      refine callS_d (by repeat' first | exact trivial | exact leS_refl _ | exact leS_tt rfl | exact leS_ff rfl | exact leS_nil rfl | apply And.intro) (cs) rfl ?_
      cbv
      refine br_dec (fun e5 => ?_) (fun e5 => ?_)
      · cbv
        (refine retC rfl ?_; cbv)
        exact leS_ff (by rw [hm, decide_eq_false (by simpa using e5)]; rfl)
      rw [decide_eq_true e5, Bool.true_and] at hm
      cbv
      refine callS_d (by repeat' first | exact trivial | exact leS_refl _ | exact leS_tt rfl | exact leS_ff rfl | exact leS_nil rfl | apply And.intro) (cv) rfl ?_
      cbv
      refine cut_bool (fun e6 => ?_) (fun e6 => ?_)
      · rw [e6, Bool.true_and] at hm
        cbv
        exact ⟨in64_of (by (try dsimp only [ncast] at *) <;> (try simp only [lm_length] at *) <;> omega) (by (try dsimp only [ncast] at *) <;> (try simp only [lm_length] at *) <;> omega), (i + 1, v), ⟨(by (try dsimp only [ncast] at *) <;> (try simp only [lm_length] at *) <;> omega), by rw [hm, hrest], fun h => absurd h (by simp), fun _ => ⟨_, ht, rfl⟩⟩, (by (try dsimp only [ncast] at *) <;> (try simp only [lm_length] at *) <;> omega), .le (by cbv; exact ⟨leS_refl _, leS_refl _, leS_refl _, leS_refl _, leS_int (by (try dsimp only [ncast] at *) <;> (try simp only [lm_length] at *) <;> omega), trivial⟩) (by cbv; exact ⟨⟨leS_refl _, leS_refl _, leS_refl _, leS_refl _, trivial⟩, trivial⟩) rfl⟩
      · cbv
        (refine retC rfl ?_; cbv)
        exact leS_ff (by rw [hm, e6]; rfl)
    · have hp := h3 (by (try dsimp only [ncast] at *) <;> (try simp only [lm_length] at *) <;> omega)
      have hm := hmain (by omega)
      cbv
      refine callS_d (by repeat' first | exact trivial | exact leS_refl _ | exact leS_tt rfl | exact leS_ff rfl | exact leS_nil rfl | apply And.intro) (cs) rfl ?_
      cbv
      refine br_dec (fun e5 => ?_) (fun e5 => ?_)
      · cbv
        (refine retC rfl ?_; cbv)
        exact leS_ff (by rw [hm, decide_eq_false (by simpa using e5)]; rfl)
      rw [decide_eq_true e5, Bool.true_and] at hm
      cbv
      refine callS_d (by repeat' first | exact trivial | exact leS_refl _ | exact leS_tt rfl | exact leS_ff rfl | exact leS_nil rfl | apply And.intro) (cv) rfl ?_
      cbv
      refine cut_bool (fun e6 => ?_) (fun e6 => ?_)
      · rw [e6, Bool.true_and] at hm
        cbv
        exact ⟨in64_of (by (try dsimp only [ncast] at *) <;> (try simp only [lm_length] at *) <;> omega) (by (try dsimp only [ncast] at *) <;> (try simp only [lm_length] at *) <;> omega), (i + 1, v), ⟨(by (try dsimp only [ncast] at *) <;> (try simp only [lm_length] at *) <;> omega), by rw [hm, hrest], fun h => absurd h (by simp), fun _ => ⟨_, ht, rfl⟩⟩, (by (try dsimp only [ncast] at *) <;> (try simp only [lm_length] at *) <;> omega), .le (by cbv; exact ⟨leS_refl _, leS_refl _, leS_refl _, leS_refl _, leS_int (by (try dsimp only [ncast] at *) <;> (try simp only [lm_length] at *) <;> omega), trivial⟩) (by cbv; exact ⟨⟨leS_refl _, leS_refl _, leS_refl _, leS_refl _, trivial⟩, trivial⟩) rfl⟩
      · cbv
        (refine retC rfl ?_; cbv)
        exact leS_ff (by rw [hm, e6]; rfl)
  · have he : i = ts.length := (by (try dsimp only [ncast] at *) <;> (try simp only [lm_length] at *) <;> omega)
    rw [he, List.drop_length] at hv
    have hv' : r = co := by rw [hv]; rfl
    cbv
    refine callS' rfl (by repeat' first | exact trivial | exact leS_refl _ | exact leS_tt rfl | exact leS_ff rfl | exact leS_nil rfl | apply And.intro) (cc) rfl ?_
    cbv
    (refine retC rfl ?_; cbv)
    exact leS_bool hv'.symm
end Go.Proofs.YtbehbhicjmjdhaaGreat
