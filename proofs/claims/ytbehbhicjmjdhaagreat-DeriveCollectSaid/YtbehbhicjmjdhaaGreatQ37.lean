/- CONTRACTS: the reference 22 (derivations): Less, Canonical, Plus, Collect, SameMults. -/
import Derived.Test.YtbehbhicjmjdhaaGreatQ36

namespace Go.Proofs.YtbehbhicjmjdhaaGreat
open Go
set_option linter.unusedVariables false
set_option maxRecDepth 100000
set_option maxHeartbeats 2000000

def rowLt (a b : Row) : Bool := if a.k = b.k then (if a.i = b.i then (if a.lo = b.lo then decide (a.hi < b.hi) else decide (a.lo < b.lo)) else decide (a.i < b.i)) else decide (a.k < b.k)
theorem rowLt_cmp (a b : Row) : rowLt a b = decide (cmpRow a b < 0) := by
  unfold rowLt cmpRow orI cI
  rw [Bool.eq_iff_iff]
  split <;> (try split) <;> (try split) <;> simp only [decide_eq_true_eq] <;> (repeat' split) <;> omega
theorem hfLess : Pg.funcs[30]? = some Tryz.f30 := by rw [Pg_eq]; rfl
theorem sLess (a b : Row) : SoundS 30 [rwv a, rwv b] (.bool (fun _ => rowLt a b)) := by
  refine sound_fn hfLess rfl rfl rfl rfl rfl ?_
  have h1 : ¬ a.k = b.k → rowLt a b = decide (a.k < b.k) := fun h => if_neg h
  have h2 : a.k = b.k → ¬ a.i = b.i → rowLt a b = decide (a.i < b.i) := fun h g => by unfold rowLt; rw [if_pos h, if_neg g]
  have h3 : a.k = b.k → a.i = b.i → ¬ a.lo = b.lo → rowLt a b = decide (a.lo < b.lo) := fun h g e => by unfold rowLt; rw [if_pos h, if_pos g, if_neg e]
  have h4 : a.k = b.k → a.i = b.i → a.lo = b.lo → rowLt a b = decide (a.hi < b.hi) := fun h g e => by unfold rowLt; rw [if_pos h, if_pos g, if_pos e]
  generalize rowLt a b = r at *
  cbv
  refine cut_dec (fun e1 => ?_) (fun e1 => ?_)
  · cbv
    refine cut_dec (fun e2 => ?_) (fun e2 => ?_)
    · cbv
      refine cut_dec (fun e3 => ?_) (fun e3 => ?_)
      · have h := h4 e1 e2 e3
        cbv
        (refine retC rfl ?_; cbv)
        exact leS_bool h.symm
      · have h := h3 e1 e2 e3
        cbv
        (refine retC rfl ?_; cbv)
        exact leS_bool h.symm
    · have h := h2 e1 e2
      cbv
      (refine retC rfl ?_; cbv)
      exact leS_bool h.symm
  · have h := h1 e1
    cbv
    (refine retC rfl ?_; cbv)
    exact leS_bool h.symm
theorem hfRdCan : Pg.funcs[11]? = some Tryz.f11 := by rw [Pg_eq]; rfl
theorem sRdCan (l : List Mult) (hl : Msz (2^32) l) : SoundS 11 [mlv l] (.bool (fun _ => canM none l)) := by
  refine sound_fn hfRdCan rfl rfl rfl rfl rfl ?_
  have hll := hl.len
  have hls := hl.sz
  generalize hr : canM none l = r
  cbv
  refine loop_n (σ := Nat × Option Row) (fun s => ⟨[(0, mlv l), (3, .int .i64 (fun _ => (s.1 : Int)))], []⟩)
    (fun s => s.1 ≤ l.length ∧ r = canM s.2 (l.drop s.1) ∧ (s.1 = 0 → s.2 = none) ∧ (s.1 ≠ 0 → ∃ u, l[s.1 - 1]? = some u ∧ s.2 = some u.row)) (fun s => l.length - s.1)
    (0, none) ⟨(by (try dsimp only [ncast] at *) <;> (try simp only [lm_length] at *) <;> omega), hr.symm, fun _ => rfl, fun h => absurd rfl h⟩ (.le ?_ ?_ rfl) ?_
  · cbv
    exact ⟨leS_refl _, leS_refl _, trivial⟩
  · cbv
  clear hr
  intro s hs
  obtain ⟨h1, hv, h3, h4⟩ := hs
  generalize s.1 = i at *
  generalize s.2 = p at *
  cbv
  refine cut_dec (fun h5 => ?_) (fun h5 => ?_)
  · have hlt : i < l.length := by rw [enc_len] at h5; (try dsimp only [ncast] at *); omega
    obtain ⟨t, ht⟩ := get_some hlt
    have idx : ∀ {K : List PV → Prop}, K (mc t) → IdxOk 7 (fun _ => enc mc l) (fun _ => (i : Int)) K := fun hK => idx_enc (l := l) i rfl hlt mc_flat mc_len (fun m' hm' => by rw [ht] at hm'; cases hm'; exact hK)
    have htz := hls t (List.mem_of_getElem? ht)
    have cs := s35 t.c (by have := htz.n; omega)
    have cv := s129 t.c htz
    have hd : l.drop i = t :: l.drop (i + 1) := drop_of_get ht
    have hvn : (¬ 0 < sgnQ t.c.q → r = false) := fun h => by rw [hv, hd]; unfold canM; rw [decide_eq_false h]; rfl
    have hvo : t.c.ok = false → r = false := fun h => by rw [hv, hd]; unfold canM; rw [h]; simp
    have hv0 : 0 < sgnQ t.c.q → t.c.ok = true → p = none → r = canM (some t.row) (l.drop (i + 1)) := fun h g e => by
      rw [hv, hd, e]
      show (decide (0 < sgnQ t.c.q) && (t.c.ok && (true && canM (some t.row) (l.drop (i + 1))))) = _
      rw [decide_eq_true h, g]; simp
    have hv1 : ∀ w, 0 < sgnQ t.c.q → t.c.ok = true → p = some w → r = (rowLt w t.row && canM (some t.row) (l.drop (i + 1))) := fun w h g e => by
      rw [hv, hd, e, rowLt_cmp]
      show (decide (0 < sgnQ t.c.q) && (t.c.ok && (decide (cmpRow w t.row < 0) && canM (some t.row) (l.drop (i + 1))))) = _
      rw [decide_eq_true h, g]; simp
    clear hv
    generalize sgnQ t.c.q = sg at *
    generalize t.c.ok = ok at *
    generalize hrest : canM (some t.row) (l.drop (i + 1)) = rest at *
    cbv
    refine draw_of 35 (by cbv) ?_
    cbv
    refine idx ?_
    cbv
    refine callS_d (by repeat' first | exact trivial | exact leS_refl _ | exact leS_tt rfl | exact leS_ff rfl | exact leS_nil rfl | apply And.intro) (cv) rfl ?_
    cbv
    refine br_bool (fun e2 => ?_) (fun e2 => ?_)
    rotate_left
    · cbv
      (refine retC rfl ?_; cbv)
      exact leS_ff (hvo e2)
    cbv
    refine idx ?_
    cbv
    refine callS_d (by repeat' first | exact trivial | exact leS_refl _ | exact leS_tt rfl | exact leS_ff rfl | exact leS_nil rfl | apply And.intro) (cs) rfl ?_
    cbv
    refine br_dec (fun e1 => ?_) (fun e1 => ?_)
    · cbv
      (refine retC rfl ?_; cbv)
      exact leS_ff (hvn (by omega))
    cbv
    refine br_dec (fun e3 => ?_) (fun e3 => ?_)
    · cbv
      obtain ⟨u, hu, hu2⟩ := h4 (by (try dsimp only [ncast] at *) <;> (try simp only [lm_length] at *) <;> omega)
      have cc := sLess u.row t.row
      have hvv := hv1 u.row (by omega) e2 hu2
      generalize rowLt u.row t.row = cr at *
      refine ⟨in64_of (by (try dsimp only [ncast] at *) <;> (try simp only [lm_length] at *) <;> omega) (by (try dsimp only [ncast] at *) <;> (try simp only [lm_length] at *) <;> omega), idx_enc (l := l) (i - 1) (by (try dsimp only [ncast] at *) <;> (try simp only [lm_length] at *) <;> omega) (by (try dsimp only [ncast] at *) <;> (try simp only [lm_length] at *) <;> omega) mc_flat mc_len (fun u' hu' => ?_)⟩
      obtain rfl : u' = u := by rw [hu] at hu'; exact (Option.some.inj hu').symm
      cbv
      refine idx ?_
      cbv
      refine callS_d (by repeat' first | exact trivial | exact leS_refl _ | exact leS_tt rfl | exact leS_ff rfl | exact leS_nil rfl | apply And.intro) (cc) rfl ?_
      cbv
      refine cut_bool (fun e4 => ?_) (fun e4 => ?_)
      · rw [e4, Bool.true_and] at hvv
        cbv
        exact ⟨in64_of (by (try dsimp only [ncast] at *) <;> (try simp only [lm_length] at *) <;> omega) (by (try dsimp only [ncast] at *) <;> (try simp only [lm_length] at *) <;> omega), (i + 1, some t.row), ⟨(by (try dsimp only [ncast] at *) <;> (try simp only [lm_length] at *) <;> omega), hvv.trans hrest.symm, fun h => absurd h (by simp), fun _ => ⟨_, ht, rfl⟩⟩, (by (try dsimp only [ncast] at *) <;> (try simp only [lm_length] at *) <;> omega), .le (by cbv; exact ⟨leS_refl _, leS_int (by (try dsimp only [ncast] at *) <;> (try simp only [lm_length] at *) <;> omega), trivial⟩) (by cbv) rfl⟩
      · cbv
        (refine retC rfl ?_; cbv)
        exact leS_ff (by rw [hvv, e4]; rfl)
    · cbv
      have hvv := hv0 (by omega) e2 (h3 (by (try dsimp only [ncast] at *) <;> (try simp only [lm_length] at *) <;> omega))
      exact ⟨in64_of (by (try dsimp only [ncast] at *) <;> (try simp only [lm_length] at *) <;> omega) (by (try dsimp only [ncast] at *) <;> (try simp only [lm_length] at *) <;> omega), (i + 1, some t.row), ⟨(by (try dsimp only [ncast] at *) <;> (try simp only [lm_length] at *) <;> omega), hvv.trans hrest.symm, fun h => absurd h (by simp), fun _ => ⟨_, ht, rfl⟩⟩, (by (try dsimp only [ncast] at *) <;> (try simp only [lm_length] at *) <;> omega), .le (by cbv; exact ⟨leS_refl _, leS_int (by (try dsimp only [ncast] at *) <;> (try simp only [lm_length] at *) <;> omega), trivial⟩) (by cbv) rfl⟩
  · have : i = l.length := by rw [enc_len] at h5; (try dsimp only [ncast] at *); omega
    rw [this, List.drop_length] at hv
    have hv' : r = true := hv
    cbv
    (refine retC rfl ?_; cbv)
    exact leS_tt hv'
def sameM : List Mult → List Mult → Bool
  | [], [] => true
  | a :: r, b :: q => decide (a.row = b.row) && (decide (a.c = b.c) && sameM r q)
  | _, _ => false
theorem sameM_refl : ∀ l, sameM l l = true
  | [] => rfl
  | a :: r => by unfold sameM; simp [sameM_refl r]
theorem sameM_len : ∀ {l m : List Mult}, l.length ≠ m.length → sameM l m = false
  | [], [], h => absurd rfl h
  | a :: r, b :: q, h => by unfold sameM; rw [sameM_len (fun e => h (by simp [e]))]; simp
  | [], b :: q, _ => rfl
  | a :: r, [], _ => rfl
theorem hfRdSame : Pg.funcs[9]? = some Tryz.f9 := by rw [Pg_eq]; rfl
theorem sRdSame (a b : List Mult) (ha : Msz (2^32) a) (hb : Msz (2^32) b) : SoundS 9 [mlv a, mlv b] (.bool (fun _ => sameM a b)) := by
  refine sound_fn hfRdSame rfl rfl rfl rfl rfl ?_
  have hal := ha.len
  have hbl := hb.len
  have has_ := ha.sz
  have hbs := hb.sz
  have hne := fun h => sameM_len (l := a) (m := b) h
  have hcons : ∀ x r y q, sameM (x :: r) (y :: q) = (decide (x.row = y.row) && (decide (x.c = y.c) && sameM r q)) := fun _ _ _ _ => rfl
  have hnil : sameM [] [] = true := rfl
  obtain ⟨S, hS⟩ : ∃ S, sameM = S := ⟨_, rfl⟩
  rw [hS] at hne hcons hnil ⊢
  clear hS ha hb
  generalize hr : S a b = r at *
  cbv
  refine cut_dec (fun e0 => ?_) (fun e0 => ?_)
  rotate_left
  · have hr' := hne (fun e => e0 (by rw [enc_len, enc_len, e]))
    cbv
    (refine retC rfl ?_; cbv)
    exact leS_ff hr'
  have hlen : a.length = b.length := by rw [enc_len, enc_len] at e0; (try dsimp only [ncast] at *); omega
  cbv
  refine loop_n (σ := Nat) (fun i => ⟨[(0, mlv a), (1, mlv b), (5, .int .i64 (fun _ => (i : Int)))], []⟩)
    (fun i => i ≤ a.length ∧ r = S (a.drop i) (b.drop i)) (fun i => a.length - i) 0 ⟨(by (try dsimp only [ncast] at *) <;> (try simp only [lm_length] at *) <;> omega), hr.symm⟩ (.le ?_ ?_ rfl) ?_
  · cbv
    exact ⟨leS_refl _, leS_refl _, leS_refl _, trivial⟩
  · cbv
  clear hr hne e0
  intro i hi
  obtain ⟨h1, h2⟩ := hi
  cbv
  refine cut_dec (fun h5 => ?_) (fun h5 => ?_)
  · have hlt : i < a.length := by rw [enc_len] at h5; (try dsimp only [ncast] at *); omega
    obtain ⟨x, hx⟩ := get_some hlt
    obtain ⟨y, hy⟩ := get_some (l := b) (i := i) (by omega)
    have idx : ∀ {K : List PV → Prop}, K (mc x) → IdxOk 7 (fun _ => enc mc a) (fun _ => (i : Int)) K := fun hK => idx_enc (l := a) i rfl hlt mc_flat mc_len (fun m' hm' => by rw [hx] at hm'; cases hm'; exact hK)
    have idy : ∀ {K : List PV → Prop}, K (mc y) → IdxOk 7 (fun _ => enc mc b) (fun _ => (i : Int)) K := fun hK => idx_enc (l := b) i rfl (by omega) mc_flat mc_len (fun m' hm' => by rw [hy] at hm'; cases hm'; exact hK)
    have cs := s69 x.c y.c (has_ x (List.mem_of_getElem? hx)) (hbs y (List.mem_of_getElem? hy))
    rw [drop_of_get hx, drop_of_get hy, hcons] at h2
    generalize hrest : S (a.drop (i + 1)) (b.drop (i + 1)) = rest at *
    generalize decide (x.c = y.c) = ec at *
    clear hcons
    cbv
    refine draw_of 25 (by cbv) ?_
    cbv
    refine idx ?_
    cbv
    refine idy ?_
    cbv
    refine neqs_row ?_
    cbv
    refine br_bool (fun e1 => ?_) (fun e1 => ?_)
    · have e1' : decide (x.row = y.row) = false := by simpa using e1
      rw [e1'] at h2
      cbv
      (refine retC rfl ?_; cbv)
      exact leS_ff h2
    have e1' : decide (x.row = y.row) = true := by simpa using e1
    rw [e1', Bool.true_and] at h2
    cbv
    refine idx ?_
    cbv
    refine idy ?_
    cbv
    refine callS_d (by repeat' first | exact trivial | exact leS_refl _ | exact leS_tt rfl | exact leS_ff rfl | exact leS_nil rfl | apply And.intro) (cs) rfl ?_
    cbv
    refine cut_bool (fun e2 => ?_) (fun e2 => ?_)
    · rw [e2, Bool.true_and] at h2
      cbv
      exact ⟨in64_of (by (try dsimp only [ncast] at *) <;> (try simp only [lm_length] at *) <;> omega) (by (try dsimp only [ncast] at *) <;> (try simp only [lm_length] at *) <;> omega), i + 1, ⟨(by (try dsimp only [ncast] at *) <;> (try simp only [lm_length] at *) <;> omega), h2.trans hrest.symm⟩, (by (try dsimp only [ncast] at *) <;> (try simp only [lm_length] at *) <;> omega), .le (by cbv; exact ⟨leS_refl _, leS_refl _, leS_int (by (try dsimp only [ncast] at *) <;> (try simp only [lm_length] at *) <;> omega), trivial⟩) (by cbv) rfl⟩
    · cbv
      (refine retC rfl ?_; cbv)
      exact leS_ff (by rw [h2, e2]; rfl)
  · have hi' : i = a.length := by rw [enc_len] at h5; (try dsimp only [ncast] at *); omega
    rw [hi', List.drop_length, hlen, List.drop_length, hnil] at h2
    cbv
    (refine retC rfl ?_; cbv)
    exact leS_tt h2

/-! ### Plus -/

def plM (r : Row) (q : Rat) : List (Row × Rat) → List (Row × Rat)
  | [] => [(r, q)]
  | t :: rest => if rowLt t.1 r = true then t :: plM r q rest else if t.1 = r then (r, t.2 + q) :: rest else (r, q) :: t :: rest
def plMq (l : List (Row × Rat)) (r : Row) (q : Rat) : List (Row × Rat) := if sgnQ q = 0 then l else plM r q l
theorem mR_get {l : List (Row × Rat)} {i : Nat} {t : Row × Rat} (h : l[i]? = some t) : (mR l)[i]? = some ⟨t.1, ratR t.2⟩ := by unfold mR; rw [List.getElem?_map, h]; rfl
theorem mR_take (l : List (Row × Rat)) (n : Nat) : (mR l).take n = mR (l.take n) := by simp [mR, List.map_take]
theorem mR_drop (l : List (Row × Rat)) (n : Nat) : (mR l).drop n = mR (l.drop n) := by simp [mR, List.map_drop]
structure Mfit (k : Nat) (l : List (Row × Rat)) : Prop where
  len : l.length < 2^37
  fit : ∀ t, t ∈ l → Fits k t.2
theorem wid_td {α : Type} {p : α → List PV} {n : Nat} (hn : ∀ a, (p a).length = n) (l : List α) (a b : Nat) : Wid n (fun _ => ((enc p l).take a).drop b) := ⟨fun e he => (enc_wid hn l).h e (List.mem_of_mem_take (List.mem_of_mem_drop he))⟩
theorem hfPlM : Pg.funcs[26]? = some Tryz.f26 := by rw [Pg_eq]; rfl
theorem sPlM (l : List (Row × Rat)) (r : Row) (c : R) (hl : Mfit (2^30) l) (hc : c.sz (2^30)) : SoundS 26 [mlv (mR l), rwv r, rv c] (mlv (mR (plMq l r c.q))) := by
  refine sound_fn hfPlM rfl rfl rfl rfl rfl ?_
  have cs := s35 c (by have := hc.n; omega)
  have cc := s47 c (hc.mono (by decide))
  have hadd : ∀ t, t ∈ l → SoundS 56 [rv (ratR t.2), rv c] (rv (ratR (t.2 + c.q))) := fun t ht => by
    have := s44 (ratR t.2) c ((ratR_sz (hl.fit t ht)).mono (by decide)) (hc.mono (by decide))
    rw [q_ratR] at this
    exact this
  have hll := hl.len
  have d0 : sgnQ c.q = 0 → plMq l r c.q = l := fun h => if_pos h
  have d1 : ¬ sgnQ c.q = 0 → plMq l r c.q = plM r c.q l := fun h => if_neg h
  have hless : ∀ t : Row × Rat, SoundS 30 [rwv t.1, rwv r] (.bool (fun _ => rowLt t.1 r)) := fun t => sLess t.1 r
  have hpn : plM r c.q [] = [(r, c.q)] := rfl
  have hpc : ∀ t rest, plM r c.q (t :: rest) = if rowLt t.1 r = true then t :: plM r c.q rest else if t.1 = r then (r, t.2 + c.q) :: rest else (r, c.q) :: t :: rest := fun _ _ => rfl
  obtain ⟨G, hG⟩ : ∃ G, plM r c.q = G := ⟨_, rfl⟩
  rw [hG] at d1 hpn hpc
  generalize plMq l r c.q = M at *
  generalize sgnQ c.q = sg at *
  generalize hcq : c.q = q at *
  clear hG hl hc hcq
  cbv
  refine callS' rfl (by repeat' first | exact trivial | exact leS_refl _ | exact leS_tt rfl | exact leS_ff rfl | exact leS_nil rfl | apply And.intro) (cs) rfl ?_
  cbv
  refine cut_dec (fun e0 => ?_) (fun e0 => ?_)
  · have hM := d0 e0
    cbv
    subst hM
    (refine retC rfl ?_; cbv)
    exact leS_refl _
  have hM := d1 e0
  clear d0 d1 cs
  cbv
  refine loop_n (σ := Nat) (fun i => ⟨[(0, mlv (mR l)), (4, .ptr 4 0), (5, .ptr 5 0), (7, .int .i64 (fun _ => (i : Int)))], [(4, .box (rwc r)), (5, .box [.bool (fun _ => c.neg), nat c.num, nat c.den])]⟩)
    (fun i => i ≤ l.length ∧ M = l.take i ++ G (l.drop i)) (fun i => l.length - i) 0 ⟨(by (try dsimp only [ncast] at *) <;> (try simp only [lm_length] at *) <;> omega), by rw [hM]; rfl⟩ (.le ?_ ?_ rfl) ?_
  · cbv
    exact ⟨leS_refl _, leS_refl _, leS_refl _, leS_refl _, trivial⟩
  · cbv
    exact ⟨⟨leS_refl _, leS_refl _, leS_refl _, leS_refl _, trivial⟩, ⟨leS_refl _, leS_refl _, leS_refl _, trivial⟩, trivial⟩
  clear hM
  intro i hi
  obtain ⟨h1, h2⟩ := hi
  have hml := mR_len l
  have wid := enc_wid mc_len (mR (l.take i))
  have wid2 := enc_wid mc_len (mR l)
  by_cases hlt : i < l.length
  · obtain ⟨t, ht⟩ := get_some hlt
    have hmem := List.mem_of_getElem? ht
    have hdr := drop_of_get ht
    rw [hdr, hpc] at h2
    have k1 : rowLt t.1 r = true → M = l.take (i + 1) ++ G (l.drop (i + 1)) := fun h => by
      rw [h2, if_pos h, List.take_add_one, ht]; simp
    have k2 : rowLt t.1 r = false → t.1 = r → M = l.take i ++ ([(r, t.2 + q)] ++ l.drop (i + 1)) := fun h g => by
      rw [h2, if_neg (by rw [h]; decide), if_pos g]; rfl
    have k3 : rowLt t.1 r = false → ¬ t.1 = r → M = l.take i ++ ([(r, q)] ++ l.drop i) := fun h g => by
      rw [h2, if_neg (by rw [h]; decide), if_neg g, hdr]; rfl
    clear h2
    have cl := hless t
    have ca := hadd t hmem
    obtain ⟨Y, hY⟩ : ∃ Y, ratR t.2 = Y := ⟨_, rfl⟩
    have hmt := mR_get ht
    rw [hY] at ca hmt
    have idx : ∀ {K : List PV → Prop}, K (mc ⟨t.1, Y⟩) → IdxOk 7 (fun _ => enc mc (mR l)) (fun _ => (i : Int)) K := fun hK => idx_enc (l := mR l) i rfl (by omega) mc_flat mc_len (fun m' hm' => by rw [hmt] at hm'; cases hm'; exact hK)
    generalize rowLt t.1 r = lt at *
    clear hless hadd hpc hpn
    cbv
    refine draw_of 13 (by cbv) ?_
    cbv
    refine br_yes (by rw [enc_len]; (try dsimp only [ncast] at *); omega) ?_
    cbv
    refine idx ?_
    cbv
    refine callS_d (by repeat' first | exact trivial | exact leS_refl _ | exact leS_tt rfl | exact leS_ff rfl | exact leS_nil rfl | apply And.intro) (cl) rfl ?_
    cbv
    refine cut_bool (fun e1 => ?_) (fun e1 => ?_)
    · have hk := k1 e1
      cbv
      exact ⟨in64_of (by (try dsimp only [ncast] at *) <;> (try simp only [lm_length] at *) <;> omega) (by (try dsimp only [ncast] at *) <;> (try simp only [lm_length] at *) <;> omega), i + 1, ⟨(by (try dsimp only [ncast] at *) <;> (try simp only [lm_length] at *) <;> omega), hk⟩, (by (try dsimp only [ncast] at *) <;> (try simp only [lm_length] at *) <;> omega), .le (by cbv; exact ⟨leS_refl _, leS_refl _, leS_refl _, leS_int (by (try dsimp only [ncast] at *) <;> (try simp only [lm_length] at *) <;> omega), trivial⟩) (by cbv; exact ⟨⟨leS_refl _, leS_refl _, leS_refl _, leS_refl _, trivial⟩, ⟨leS_refl _, leS_refl _, leS_refl _, trivial⟩, trivial⟩) rfl⟩
    have k2' := k2 e1
    have k3' := k3 e1
    clear k1 k2 k3 cl
    cbv
    refine ⟨slok_of (by (try dsimp only [ncast] at *) <;> (try simp only [lm_length] at *) <;> omega) (by (try dsimp only [ncast] at *) <;> (try simp only [lm_length] at *) <;> omega) (by rw [enc_len]; (try dsimp only [ncast] at *); omega), enc_wid mc_len _, ?_⟩
    refine app_nil tyMults rfl rfl (wid_td mc_len _ _ _) (room_of (by simp <;> omega) (by simp [enc_len, hml]; (try dsimp only [ncast] at *); omega)) rfl ?_
    cbv
    refine draw_of 13 (by cbv) ?_
    cbv
    refine br_yes (by rw [enc_len]; (try dsimp only [ncast] at *); omega) ?_
    cbv
    refine idx ?_
    cbv
    refine eqs_row ?_
    cbv
    refine cut_dec (fun e2 => ?_) (fun e2 => ?_)
    · have hk := k2' e2
      have hX : mR [(r, t.2 + q)] = [⟨r, ratR (t.2 + q)⟩] := rfl
      generalize ratR (t.2 + q) = X at *
      cbv
      refine draw_of 11 (by cbv) ?_
      cbv
      refine idx ?_
      cbv
      refine callS_d (by repeat' first | exact trivial | exact leS_refl _ | exact leS_tt rfl | exact leS_ff rfl | exact leS_nil rfl | apply And.intro) (ca) rfl ?_
      cbv
      refine app_own tyMults rfl rfl rfl (by simp) rfl ⟨by simp [mapDD, mapD]⟩ (room_of (by simp [mapDD] <;> omega) (by simp [mapDD, enc_len, hml]; (try dsimp only [ncast] at *); omega)) rfl ?_
      cbv
      refine ⟨in64_of (by (try dsimp only [ncast] at *) <;> (try simp only [lm_length] at *) <;> omega) (by (try dsimp only [ncast] at *) <;> (try simp only [lm_length] at *) <;> omega), ?_⟩
      cbv
      refine ⟨slok_of (by (try dsimp only [ncast] at *); omega) (by rw [enc_len]; (try dsimp only [ncast] at *); omega) (by rw [enc_len]; (try dsimp only [ncast] at *); omega), enc_wid mc_len _, ?_⟩
      refine app_own tyMults rfl rfl rfl (by simp) rfl (wid_td mc_len _ _ _) (room_of (by simp [mapDD] <;> omega) (by simp [mapDD, enc_len, hml]; (try dsimp only [ncast] at *); omega)) rfl ?_
      cbv
      refine retWC _ (.trans (.le (ps' := ⟨[(6, .osl 71 7 (fun _ => 0) (fun _ => M.length))], [(71, .arr 7 (fun _ => enc mc (mR M)))]⟩) ?_ ?_ rfl) (.frz 71 rfl rfl ?_ ?_)) rfl ?_
      · cbv; exact ⟨leS_osl rfl (by rw [hk]; simp [mapDD, enc_len, hml]; (try dsimp only [ncast] at *); omega), trivial⟩
      · cbv
        refine ⟨elsEq_of ?_, trivial⟩
        rw [hk, mR_app, mR_app, ← enc_app, ← enc_app, hX]
        simp [enc, mR, List.map_take, List.map_drop, List.take_of_length_le, mapDD]
        rfl
      · cbv; exact ⟨frok_of (by simp [enc_len, mR_len]), trivial⟩
      · exact trivial
      · cbv; exact leS_sl (List.take_of_length_le (by simp [enc_len, mR_len]))
    · have hk := k3' e2
      have hX : mR [(r, q)] = [⟨r, ratR q⟩] := rfl
      generalize ratR q = X at *
      cbv
      refine draw_of 6 (by cbv) ?_
      cbv
      refine callS_d (by repeat' first | exact trivial | exact leS_refl _ | exact leS_tt rfl | exact leS_ff rfl | exact leS_nil rfl | apply And.intro) (cc) rfl ?_
      cbv
      refine app_own tyMults rfl rfl rfl (by simp) rfl ⟨by simp [mapDD, mapD]⟩ (room_of (by simp [mapDD] <;> omega) (by simp [mapDD, enc_len, hml]; (try dsimp only [ncast] at *); omega)) rfl ?_
      cbv
      refine ⟨slok_of (by (try dsimp only [ncast] at *); omega) (by rw [enc_len]; (try dsimp only [ncast] at *); omega) (by rw [enc_len]; (try dsimp only [ncast] at *); omega), enc_wid mc_len _, ?_⟩
      refine app_own tyMults rfl rfl rfl (by simp) rfl (wid_td mc_len _ _ _) (room_of (by simp [mapDD] <;> omega) (by simp [mapDD, enc_len, hml]; (try dsimp only [ncast] at *); omega)) rfl ?_
      cbv
      refine retWC _ (.trans (.le (ps' := ⟨[(6, .osl 71 7 (fun _ => 0) (fun _ => M.length))], [(71, .arr 7 (fun _ => enc mc (mR M)))]⟩) ?_ ?_ rfl) (.frz 71 rfl rfl ?_ ?_)) rfl ?_
      · cbv; exact ⟨leS_osl rfl (by rw [hk]; simp [mapDD, enc_len, hml]; (try dsimp only [ncast] at *); omega), trivial⟩
      · cbv
        refine ⟨elsEq_of ?_, trivial⟩
        rw [hk, mR_app, mR_app, ← enc_app, ← enc_app, hX]
        simp [enc, mR, List.map_take, List.map_drop, List.take_of_length_le, mapDD]
        rfl
      · cbv; exact ⟨frok_of (by simp [enc_len, mR_len]), trivial⟩
      · exact trivial
      · cbv; exact leS_sl (List.take_of_length_le (by simp [enc_len, mR_len]))
  · have hi' : i = l.length := by omega
    have hk : M = l.take i ++ ([(r, q)] ++ l.drop i) := by rw [h2, hi', List.drop_length, hpn]; simp
    have hX : mR [(r, q)] = [⟨r, ratR q⟩] := rfl
    generalize ratR q = X at *
    clear h2 hpn hpc hless hadd
    cbv
    refine draw_of 13 (by cbv) ?_
    cbv
    refine br_no (by rw [enc_len]; (try dsimp only [ncast] at *); omega) ?_
    cbv
    refine ⟨slok_of (by (try dsimp only [ncast] at *) <;> (try simp only [lm_length] at *) <;> omega) (by (try dsimp only [ncast] at *) <;> (try simp only [lm_length] at *) <;> omega) (by rw [enc_len]; (try dsimp only [ncast] at *); omega), enc_wid mc_len _, ?_⟩
    refine app_nil tyMults rfl rfl (wid_td mc_len _ _ _) (room_of (by simp <;> omega) (by simp [enc_len, hml]; (try dsimp only [ncast] at *); omega)) rfl ?_
    cbv
    refine draw_of 13 (by cbv) ?_
    cbv
    refine br_no (by rw [enc_len]; (try dsimp only [ncast] at *); omega) ?_
    cbv
    refine draw_of 6 (by cbv) ?_
    cbv
    refine callS_d (by repeat' first | exact trivial | exact leS_refl _ | exact leS_tt rfl | exact leS_ff rfl | exact leS_nil rfl | apply And.intro) (cc) rfl ?_
    cbv
    refine app_own tyMults rfl rfl rfl (by simp) rfl ⟨by simp [mapDD, mapD]⟩ (room_of (by simp [mapDD] <;> omega) (by simp [mapDD, enc_len, hml]; (try dsimp only [ncast] at *); omega)) rfl ?_
    cbv
    refine ⟨slok_of (by (try dsimp only [ncast] at *); omega) (by rw [enc_len]; (try dsimp only [ncast] at *); omega) (by rw [enc_len]; (try dsimp only [ncast] at *); omega), enc_wid mc_len _, ?_⟩
    refine app_own tyMults rfl rfl rfl (by simp) rfl (wid_td mc_len _ _ _) (room_of (by simp [mapDD] <;> omega) (by simp [mapDD, enc_len, hml]; (try dsimp only [ncast] at *); omega)) rfl ?_
    cbv
    refine retWC _ (.trans (.le (ps' := ⟨[(6, .osl 71 7 (fun _ => 0) (fun _ => M.length))], [(71, .arr 7 (fun _ => enc mc (mR M)))]⟩) ?_ ?_ rfl) (.frz 71 rfl rfl ?_ ?_)) rfl ?_
    · cbv; exact ⟨leS_osl rfl (by rw [hk]; simp [mapDD, enc_len, hml]; (try dsimp only [ncast] at *); omega), trivial⟩
    · cbv
      refine ⟨elsEq_of ?_, trivial⟩
      rw [hk, mR_app, mR_app, ← enc_app, ← enc_app, hX]
      simp [enc, mR, List.map_take, List.map_drop, List.take_of_length_le, mapDD]
      rfl
    · cbv; exact ⟨frok_of (by simp [enc_len, mR_len]), trivial⟩
    · exact trivial
    · cbv; exact leS_sl (List.take_of_length_le (by simp [enc_len, mR_len]))
end Go.Proofs.YtbehbhicjmjdhaaGreat
