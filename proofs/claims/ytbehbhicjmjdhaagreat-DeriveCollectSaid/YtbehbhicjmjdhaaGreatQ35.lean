/- CONTRACTS: derive (of the program), part C: Scope. * CONTRACTS: slices.Clone, insertionSortCmpFunc, stableCmpFunc, SortStableFunc at derivations of at most 12 rows. -/
import Derived.Test.YtbehbhicjmjdhaaGreatQ34
import Derived.Test.YtbehbhicjmjdhaaGreatQ30

namespace Go.Proofs.YtbehbhicjmjdhaaGreat
open Go
set_option linter.unusedVariables false
set_option maxRecDepth 100000
set_option maxHeartbeats 2000000

theorem hfDvScC : Pg.funcs[42]? = some Tryz.f42 := by rw [Pg_eq]; rfl
theorem sDvScC (s : Scp) (d : Dec) (hq : s.q.sz (2^34)) (hd : d.x.sz (2^36)) : SoundS 42 [.agg (dc d), .dptr (sc s) 0] (.bool (fun _ => !(s.q.valid && d.fits s.q))) := by
  refine sound_fn hfDvScC rfl rfl rfl rfl rfl ?_
  have cf := sRwFits s.q d hq hd
  generalize (s.q.valid && d.fits s.q) = b at *
  cbv
  refine callS' rfl (by repeat' first | exact trivial | exact leS_refl _ | exact leS_tt rfl | exact leS_ff rfl | exact leS_nil rfl | apply And.intro) (cf) rfl ?_
  cbv
  (refine retC rfl ?_; cbv)
  exact leS_nbool rfl
def Scp.pre (s : Scp) (i : Nat) : Scp := ⟨s.q, s.path, s.lems.take i⟩
def lemsFrom (s : Scp) : Nat → List Lem → Bool
  | _, [] => true
  | i, m :: r => (s.pre i).lemB m && lemsFrom s (i + 1) r
def Scp.scopeB (s : Scp) : Bool := s.q.valid && ((s.path.all fun d => s.q.valid && d.fits s.q) && lemsFrom s 0 s.lems)
theorem Scp.pre_sz {s : Scp} {k : Nat} (h : s.sz k) (i : Nat) : (s.pre i).sz k :=
  ⟨h.q, h.path, ⟨by show (s.lems.take i).length < _; rw [List.length_take]; have := h.lems.len; omega, fun a ha => h.lems.sz a (List.mem_of_mem_take ha), fun a ha => h.lems.pf a (List.mem_of_mem_take ha)⟩⟩
theorem hfDvScope : Pg.funcs[16]? = some Tryz.f16 := by rw [Pg_eq]; rfl
theorem sDvScope (s : Scp) (hs : s.sz (2^20)) (hpf : ∀ m, m ∈ s.lems → m.pf.length ≤ 100) : SoundS 16 [sv s] (.bool (fun _ => s.scopeB)) := by
  refine sound_fn hfDvScope rfl rfl rfl rfl rfl ?_
  have crv := sRwValid s.q (hs.q.mono (by decide))
  have cha := sHasD (fun d => !(s.q.valid && d.fits s.q)) s.path (Nat.lt_trans hs.path.len (by decide)) 42 [.dptr (sc s) 0] (fun d hd => sDvScC s d (hs.q.mono (by decide)) ((hs.path.sz d hd).mono (by decide)))
  have hcl : ∀ i m, m ∈ s.lems → SoundS 14 [sv (s.pre i), lv' m] (.bool (fun _ => (s.pre i).lemB m)) := fun i m hm =>
    sDvLemma (s.pre i) m (Scp.pre_sz hs i) (hs.lems.sz m hm) (hs.lems.pf m hm) (hpf m hm)
  have hr : s.scopeB = (s.q.valid && (!(s.path.any fun d => !(s.q.valid && d.fits s.q)) && lemsFrom s 0 s.lems)) := by unfold Scp.scopeB; rw [all_any]
  have hll := hs.lems.len
  have hcons : ∀ i m r, lemsFrom s i (m :: r) = ((s.pre i).lemB m && lemsFrom s (i + 1) r) := fun _ _ _ => rfl
  obtain ⟨LF, hLF⟩ : ∃ LF, lemsFrom s = LF := ⟨_, rfl⟩
  have hnil : ∀ i, LF i [] = true := fun i => by rw [← hLF]; rfl
  rw [hLF] at hr hcons
  generalize s.scopeB = res at *
  generalize (s.path.any fun d => !(s.q.valid && d.fits s.q)) = bad at *
  generalize s.q.valid = vd at *
  have hlm : ∀ i m, SoundS 14 [sv (s.pre i), lv' m] (.bool (fun _ => (s.pre i).lemB m)) → SoundS 14 [sv ⟨s.q, s.path, s.lems.take i⟩, lv' m] (.bool (fun _ => (s.pre i).lemB m)) := fun _ _ h => h
  clear hs hpf hLF
  cbv
  refine callP [1, 6] [1] rfl rfl (by repeat' first | exact trivial | exact leS_refl _ | exact leS_tt rfl | exact leS_ff rfl | exact leS_nil rfl | apply And.intro) (crv) rfl ?_
  cbv
  refine br_bool (fun e1 => ?_) (fun e1 => ?_)
  rotate_left
  · cbv
    (refine retC rfl ?_; cbv)
    exact leS_ff (by rw [hr, e1]; rfl)
  rw [e1, Bool.true_and] at hr
  cbv
  refine callW (.trans (Wk.sel _ [1, 9, 11, 12] [1] rfl) (.frz 1 rfl rfl (by repeat' first | exact trivial | apply And.intro) (by repeat' first | exact trivial | apply And.intro))) rfl (by exact ⟨leS_refl _, ⟨rfl, leS_refl _, trivial⟩, trivial⟩) cha rfl ?_
  cbv
  refine cut_bool (fun e2 => ?_) (fun e2 => ?_)
  · cbv
    (refine retC rfl ?_; cbv)
    exact leS_ff (by rw [hr, e2]; rfl)
  rw [e2, Bool.not_false, Bool.true_and] at hr
  clear cha crv
  cbv
  refine loop_n (σ := Nat) (fun i => ⟨[(1, .dptr (sc s) 0), (16, llv s.lems), (17, .int .i64 (fun _ => (s.lems.length : Int))), (18, .int .i64 (fun _ => (i : Int)))], []⟩)
    (fun i => i ≤ s.lems.length ∧ res = LF i (s.lems.drop i)) (fun i => s.lems.length - i) 0 ⟨(by (try dsimp only [ncast] at *) <;> (try simp only [lm_length] at *) <;> omega), hr⟩ (.le ?_ ?_ rfl) ?_
  · cbv
    exact ⟨leS_refl _, leS_refl _, leS_int (by (try dsimp only [ncast] at *); rw [enc_len]), leS_refl _, trivial⟩
  · cbv
  clear hr
  intro i hi
  obtain ⟨h1, h2⟩ := hi
  cbv
  refine cut_dec (fun h5 => ?_) (fun h5 => ?_)
  · have hlt : i < s.lems.length := by (try dsimp only [ncast] at *); omega
    obtain ⟨m, hm⟩ := get_some hlt
    have hmem := List.mem_of_getElem? hm
    rw [drop_of_get hm, hcons] at h2
    have cl := hlm i m (hcl i m hmem)
    generalize (s.pre i).lemB m = b at *
    have idx : ∀ {K : List PV → Prop}, K (lc m) → IdxOk 6 (fun _ => enc lc s.lems) (fun _ => (i : Int)) K := fun hK => idx_enc (l := s.lems) i rfl hlt lc_flat lc_len (fun m' hm' => by rw [hm] at hm'; cases hm'; exact hK)
    clear hcl hlm hcons
    cbv
    refine idx ?_
    cbv
    refine draw_of 12 (by cbv) ?_
    cbv
    refine ⟨slok_of (by (try dsimp only [ncast] at *) <;> (try simp only [lm_length] at *) <;> omega) (by (try dsimp only [ncast] at *) <;> (try simp only [lm_length] at *) <;> omega) (by rw [enc_len]; (try dsimp only [ncast] at *); omega), enc_wid lc_len _, ?_⟩
    refine callS_d (by exact ⟨⟨leS_refl _, leS_refl _, leS_refl _, leS_refl _, leS_refl _, leS_refl _, leS_refl _, leS_refl _, leS_refl _, leS_refl _, leS_refl _, leS_sl (by simp [enc, List.map_take]), trivial⟩, ⟨leS_refl _, leS_refl _, leS_refl _, leS_refl _, leS_refl _, leS_refl _, trivial⟩, trivial⟩) cl rfl ?_
    cbv
    refine cut_bool (fun e3 => ?_) (fun e3 => ?_)
    · rw [e3, Bool.true_and] at h2
      cbv
      refine ⟨in64_of (by (try dsimp only [ncast] at *) <;> (try simp only [lm_length] at *) <;> omega) (by (try dsimp only [ncast] at *) <;> (try simp only [lm_length] at *) <;> omega), i + 1, ⟨(by (try dsimp only [ncast] at *) <;> (try simp only [lm_length] at *) <;> omega), h2⟩, (by (try dsimp only [ncast] at *) <;> (try simp only [lm_length] at *) <;> omega), .le ?_ ?_ rfl⟩
      · cbv
        exact ⟨leS_refl _, leS_refl _, leS_refl _, leS_int (by (try dsimp only [ncast] at *) <;> (try simp only [lm_length] at *) <;> omega), trivial⟩
      · cbv
    · cbv
      (refine retC rfl ?_; cbv)
      exact leS_ff (by rw [h2, e3]; rfl)
  · have hi' : i = s.lems.length := by (try dsimp only [ncast] at *); omega
    rw [hi', List.drop_length, hnil] at h2
    cbv
    (refine retC rfl ?_; cbv)
    exact leS_tt h2
end Go.Proofs.YtbehbhicjmjdhaaGreat

namespace Go.Proofs.YtbehbhicjmjdhaaGreat
open Go
set_option linter.unusedVariables false
set_option maxRecDepth 100000
set_option maxHeartbeats 2000000

theorem tyMults : ty 22 = .sli 7 88 [.int .i64 (fun _ => 0), .int .i64 (fun _ => 0), .int .i64 (fun _ => 0), .int .i64 (fun _ => 0), .ff, .nil, .nil] := by cbv
abbrev mao (n : Nat) (l : List Mult) : List (Nat × Obj') := [(n, .arr 7 (fun _ => enc mc l))]
theorem hfClM : Pg.funcs[20]? = some Tryz.f20 := by rw [Pg_eq]; rfl
theorem sClM (l : List Mult) (hl : l.length < 2^38) : Sound 20 [mlv l] [] [] (.osl 100 7 (fun _ => 0) (fun _ => l.length)) [] (mao 100 l) := by
  refine sound_fn hfClM rfl rfl rfl rfl rfl ?_
  cbv
  refine ⟨fun b hb => ?_⟩
  cbv
  refine cut_bool (fun h => ?_) (fun h => ?_)
  · have hb' := hb h
    have hl0 : l = [] := by
      have := congrArg List.length hb'
      rw [enc_len] at this
      exact List.eq_nil_of_length_eq_zero this
    cbv
    subst hl0
    refine retM1 (ps' := ⟨[(2, .osl 100 7 (fun _ => 0) (fun _ => 0))], [(100, .arr 7 (fun _ => []))]⟩) 100 (.trans (.le (ps' := ⟨[(2, .nil)], []⟩) ?_ trivial rfl) (.adoptT (ps := ⟨[(2, .nil)], []⟩) 100 7 2 rfl rfl)) rfl rfl rfl ?_
    · cbv; exact ⟨leS_refl _, trivial⟩
    · cbv; exact leS_osl rfl rfl
  · cbv
    refine app_nil tyMults rfl rfl (enc_wid mc_len _) (room_of (by simp only [enc_len]; omega) (by simp only [enc_len]; omega)) rfl ?_
    cbv
    refine retM1 (ps' := ⟨[(2, .osl 7 7 (fun _ => 0) (fun _ => l.length))], [(7, .arr 7 (fun _ => enc mc l))]⟩) 7 (.le ?_ ?_ rfl) rfl rfl rfl ?_
    · cbv; exact ⟨leS_osl rfl (by rw [enc_len]), trivial⟩
    · cbv; exact ⟨elsEq_of rfl, trivial⟩
    · cbv; exact leS_refl _

/-! ### Insertion sort -/

/-- A row put into the reversed rows that lie ahead of it. -/
def insR (x : Mult) : List Mult → List Mult
  | [] => [x]
  | y :: r => if cmpRow x.row y.row < 0 then y :: insR x r else x :: y :: r
def isr (l : List Mult) : List Mult := l.foldl (fun a x => insR x a) []
theorem insR_len (x : Mult) : ∀ l, (insR x l).length = l.length + 1
  | [] => rfl
  | y :: r => by unfold insR; split <;> simp [insR_len x r]
theorem isr_snoc (l : List Mult) (x : Mult) : isr (l ++ [x]) = insR x (isr l) := by unfold isr; rw [List.foldl_append]; rfl
theorem isr_len : ∀ l, (isr l).length = l.length := by
  have : ∀ (l a : List Mult), (l.foldl (fun a x => insR x a) a).length = a.length + l.length := by
    intro l
    induction l with
    | nil => intro a; simp
    | cons x r ih => intro a; rw [List.foldl_cons, ih, insR_len, List.length_cons]; omega
  intro l
  unfold isr
  rw [this]
  simp
theorem set_two {α : Type} (p b : List α) (x y : α) : ((p ++ y :: x :: b).set (p.length + 1) y).set p.length x = p ++ x :: y :: b := by
  rw [List.set_append_right _ _ (by omega), List.set_append_right _ _ (by omega)]
  simp [show p.length + 1 - p.length = 1 by omega]
theorem el_encE {α : Type} {p : α → List PV} {n : Nat} {els : List (List D)} {i : Nat} {K : List PV → Prop} (l : List α) (he : els = enc p l) (j : Nat) (hk : i = j) (hj : j < l.length) (hf : ∀ a, allL flat (p a) = true) (hn : ∀ a, (p a).length = n)
    (hK : ∀ a, l[j]? = some a → K (p a)) : ElOk n (fun _ => els) (fun _ => i) K := by
  subst he
  exact el_enc j hk hj hf hn hK
theorem hfIns : Pg.funcs[78]? = some Tryz.f78 := by rw [Pg_eq]; rfl
theorem sIns (l : List Mult) (hl : l.length ≤ 12) : Sound 78 [.osl 1000000 7 (fun _ => 0) (fun _ => l.length), .int .i64 (fun _ => 0), .int .i64 (fun _ => (l.length : Int)), .fn 22 []] (mao 1000000 l) [] (.tup []) (mao 1000000 (isr l).reverse) [] := by
  refine sound_fn hfIns rfl rfl rfl rfl rfl ?_
  obtain ⟨P, hP⟩ : ∃ P : Nat → List Mult, ∀ i, P i = isr (l.take i) := ⟨_, fun _ => rfl⟩
  have hPl : ∀ i, i ≤ l.length → (P i).length = i := fun i hi => by rw [hP, isr_len, List.length_take]; omega
  have hPs : ∀ i x, l[i]? = some x → P (i + 1) = insR x (P i) := fun i x hx => by
    rw [hP, hP, List.take_add_one, hx]
    exact isr_snoc _ _
  have hP1 : l ≠ [] → (P 1).reverse ++ l.drop 1 = l := fun h => by
    cases l with
    | nil => exact absurd rfl h
    | cons x r => rw [hP]; rfl
  have hPe : isr l = P l.length := by rw [hP, List.take_length]
  have hP0 : l = [] → P l.length = [] := fun h => by rw [h, hP]; rfl
  rw [hPe]
  have hins : ∀ x y r, insR x (y :: r) = if cmpRow x.row y.row < 0 then y :: insR x r else x :: y :: r := fun _ _ _ => rfl
  have hins0 : ∀ x, insR x [] = [x] := fun _ => rfl
  obtain ⟨I, hI⟩ : ∃ I, insR = I := ⟨_, rfl⟩
  rw [hI] at hPs hins hins0
  clear hP hI hPe
  have hcmp := sDvC2
  generalize hN : P l.length = R at *
  by_cases hle : l = []
  · have hR : R = [] := hP0 hle
    subst hle hR
    clear hPl hPs hP1 hP0 hN hins hins0
    cbv
    refine ⟨in64_of (by decide) (by decide), ?_⟩
    refine loop_n (σ := Unit) (fun _ => ⟨[(2, .int .i64 (fun _ => 0)), (8, .int .i64 (fun _ => 1))], [(1000000, .arr 7 (fun _ => []))]⟩) (fun _ => True) (fun _ => 0) () trivial (.le ?_ ?_ rfl) ?_
    · cbv; exact ⟨leS_int (by rfl), leS_int (by rfl), trivial⟩
    · cbv; exact ⟨elsEq_of rfl, trivial⟩
    intro _ _
    cbv
    refine cut_no (by decide) ?_
    cbv
    exact retK1 rfl trivial rfl rfl rfl rfl
  have hl1 : 1 ≤ l.length := by cases l with
    | nil => exact absurd rfl hle
    | cons x r => simp
  have hP1' := hP1 hle
  clear hP1 hP0
  cbv
  refine ⟨in64_of (by decide) (by decide), ?_⟩
  refine loop_n (σ := Nat) (fun i => ⟨[(0, .osl 1000000 7 (fun _ => 0) (fun _ => l.length)), (1, .int .i64 (fun _ => 0)), (2, .int .i64 (fun _ => (l.length : Int))), (3, .fn 22 []), (8, .int .i64 (fun _ => (i : Int)))], [(1000000, .arr 7 (fun _ => enc mc ((P i).reverse ++ l.drop i)))]⟩)
    (fun i => 1 ≤ i ∧ i ≤ l.length) (fun i => l.length - i) 1 ⟨(by (try dsimp only [ncast] at *) <;> (try simp only [lm_length] at *) <;> omega), hl1⟩ (.le ?_ ?_ rfl) ?_
  · cbv
    exact ⟨leS_refl _, leS_refl _, leS_refl _, leS_int (by rfl), trivial⟩
  · cbv
    exact ⟨elsEq_of (by rw [hP1']), trivial⟩
  clear hP1'
  intro i hi
  obtain ⟨hi1, hi2⟩ := hi
  cbv
  refine cut_dec (fun h5 => ?_) (fun h5 => ?_)
  · have hlt : i < l.length := by (try dsimp only [ncast] at *); omega
    obtain ⟨x, hx⟩ := get_some hlt
    have hdr := drop_of_get hx
    have hPi := hPs i x hx
    have hPil := hPl i hi2
    have hPil1 := hPl (i + 1) hlt
    generalize hrest : l.drop (i + 1) = rest at *
    have hrl : rest.length = l.length - (i + 1) := by rw [← hrest, List.length_drop]
    generalize hp0 : P i = p0 at *
    generalize hp1 : P (i + 1) = p1 at *
    clear hPs hPl
    cbv
    refine loop_n (σ := List Mult × List Mult) (fun s => ⟨[(0, .osl 1000000 7 (fun _ => 0) (fun _ => l.length)), (1, .int .i64 (fun _ => 0)), (2, .int .i64 (fun _ => (l.length : Int))), (3, .fn 22 []), (8, .int .i64 (fun _ => (i : Int))), (9, .int .i64 (fun _ => (s.1.length : Int)))], [(1000000, .arr 7 (fun _ => enc mc (s.1.reverse ++ x :: (s.2.reverse ++ rest))))]⟩)
      (fun s => s.1.length + s.2.length = i ∧ p1 = s.2 ++ I x s.1) (fun s => s.1.length) (p0, []) ⟨by simp [hPil], hPi⟩ (.le ?_ ?_ rfl) ?_
    · cbv
      exact ⟨leS_refl _, leS_refl _, leS_refl _, leS_refl _, leS_int (by (try dsimp only [ncast] at *); omega), trivial⟩
    · cbv
      exact ⟨elsEq_of (by rw [hdr]; simp), trivial⟩
    intro s hs
    obtain ⟨hL, hT⟩ := hs
    generalize s.1 = pr at *
    generalize s.2 = qr at *
    cases pr with
    | nil =>
      have hT' : p1 = qr ++ [x] := by rw [hT, hins0]
      cbv
      refine draw_of 17 (by cbv) ?_
      cbv
      refine br_no (by simp) ?_
      cbv
      refine ⟨in64_of (by (try dsimp only [ncast] at *) <;> (try simp only [lm_length] at *) <;> omega) (by (try dsimp only [ncast] at *) <;> (try simp only [lm_length] at *) <;> omega), i + 1, ⟨(by (try dsimp only [ncast] at *) <;> (try simp only [lm_length] at *) <;> omega), (by (try dsimp only [ncast] at *) <;> (try simp only [lm_length] at *) <;> omega)⟩, (by (try dsimp only [ncast] at *) <;> (try simp only [lm_length] at *) <;> omega), .le ?_ ?_ rfl⟩
      · cbv
        exact ⟨leS_refl _, leS_refl _, leS_refl _, leS_int (by (try dsimp only [ncast] at *) <;> (try simp only [lm_length] at *) <;> omega), trivial⟩
      · cbv
        exact ⟨elsEq_of (by rw [hp1, hrest, hT']; simp), trivial⟩
    | cons y pr =>
      rw [hins] at hT
      have hc := hcmp x y
      have hlen : (pr.reverse ++ y :: x :: (qr.reverse ++ rest)).length = l.length := by simp only [List.length_append, List.length_reverse, List.length_cons] at hL ⊢; omega
      have earr : (y :: pr).reverse ++ x :: (qr.reverse ++ rest) = pr.reverse ++ y :: x :: (qr.reverse ++ rest) := by simp
      have hgj : (pr.reverse ++ y :: x :: (qr.reverse ++ rest))[pr.length + 1]? = some x := by
        rw [List.getElem?_append_right (by simp)]
        simp [show pr.length + 1 - pr.length = 1 by omega]
      have hgj1 : (pr.reverse ++ y :: x :: (qr.reverse ++ rest))[pr.length]? = some y := by
        rw [List.getElem?_append_right (by simp)]
        simp
      have hset : ((pr.reverse ++ y :: x :: (qr.reverse ++ rest)).set (pr.length + 1) y).set pr.length x = pr.reverse ++ x :: ((qr ++ [y]).reverse ++ rest) := by
        have := set_two pr.reverse (qr.reverse ++ rest) x y
        rw [List.length_reverse] at this
        rw [this]
        simp
      rw [List.length_cons] at hL
      simp only [earr, List.length_cons]
      generalize hA : pr.reverse ++ y :: x :: (qr.reverse ++ rest) = arr at *
      generalize cmpRow x.row y.row = cr at *
      cbv
      refine draw_of 17 (by cbv) ?_
      cbv
      refine br_yes (by (try dsimp only [ncast] at *); omega) ?_
      cbv
      refine ⟨rng_of (by (try dsimp only [ncast] at *) <;> (try simp only [lm_length] at *) <;> omega) (by (try dsimp only [ncast] at *) <;> (try simp only [lm_length] at *) <;> omega), ?_⟩
      cbv
      refine el_enc (l := arr) (pr.length + 1) (by (try dsimp only [ncast] at *) <;> (try simp only [lm_length] at *) <;> omega) (by omega) mc_flat mc_len (fun t ht => ?_)
      obtain rfl : x = t := by rw [hgj] at ht; exact Option.some.inj ht
      cbv
      refine ⟨in64_of (by (try dsimp only [ncast] at *) <;> (try simp only [lm_length] at *) <;> omega) (by (try dsimp only [ncast] at *) <;> (try simp only [lm_length] at *) <;> omega), rng_of (by (try dsimp only [ncast] at *) <;> (try simp only [lm_length] at *) <;> omega) (by (try dsimp only [ncast] at *) <;> (try simp only [lm_length] at *) <;> omega), ?_⟩
      cbv
      refine el_enc (l := arr) pr.length (by (try dsimp only [ncast] at *) <;> (try simp only [lm_length] at *) <;> omega) (by omega) mc_flat mc_len (fun t' ht' => ?_)
      obtain rfl : y = t' := by rw [hgj1] at ht'; exact Option.some.inj ht'
      cbv
      refine callS_d (by repeat' first | exact trivial | exact leS_refl _ | exact leS_tt rfl | exact leS_ff rfl | exact leS_nil rfl | apply And.intro) (hc) rfl ?_
      cbv
      refine cut_dec (fun e1 => ?_) (fun e1 => ?_)
      · rw [if_pos e1] at hT
        cbv
        refine draw_st 17 15 (by cbv) (by cbv) ?_
        cbv
        refine ⟨in64_of (by (try dsimp only [ncast] at *) <;> (try simp only [lm_length] at *) <;> omega) (by (try dsimp only [ncast] at *) <;> (try simp only [lm_length] at *) <;> omega), in64_of (by (try dsimp only [ncast] at *) <;> (try simp only [lm_length] at *) <;> omega) (by (try dsimp only [ncast] at *) <;> (try simp only [lm_length] at *) <;> omega), rng_of (by (try dsimp only [ncast] at *) <;> (try simp only [lm_length] at *) <;> omega) (by (try dsimp only [ncast] at *) <;> (try simp only [lm_length] at *) <;> omega), ?_⟩
        cbv
        refine el_enc (l := arr) pr.length (by (try dsimp only [ncast] at *) <;> (try simp only [lm_length] at *) <;> omega) (by omega) mc_flat mc_len (fun t' ht' => ?_)
        obtain rfl : y = t' := by rw [hgj1] at ht'; exact Option.some.inj ht'
        cbv
        refine ⟨rng_of (by (try dsimp only [ncast] at *) <;> (try simp only [lm_length] at *) <;> omega) (by (try dsimp only [ncast] at *) <;> (try simp only [lm_length] at *) <;> omega), ?_⟩
        cbv
        refine el_enc (l := arr) (pr.length + 1) (by (try dsimp only [ncast] at *) <;> (try simp only [lm_length] at *) <;> omega) (by omega) mc_flat mc_len (fun t ht => ?_)
        obtain rfl : x = t := by rw [hgj] at ht; exact Option.some.inj ht
        cbv
        refine ⟨rng_of (by (try dsimp only [ncast] at *) <;> (try simp only [lm_length] at *) <;> omega) (by (try dsimp only [ncast] at *) <;> (try simp only [lm_length] at *) <;> omega), ?_⟩
        cbv
        refine el_enc (l := arr) (pr.length + 1) (by (try dsimp only [ncast] at *) <;> (try simp only [lm_length] at *) <;> omega) (by omega) mc_flat mc_len (fun t0 ht0 => ?_)
        cbv
        refine ⟨rng_of (by (try dsimp only [ncast] at *) <;> (try simp only [lm_length] at *) <;> omega) (by (try dsimp only [ncast] at *) <;> (try simp only [lm_length] at *) <;> omega), el_encE (p := mc) (arr.set (pr.length + 1) y) ?_ pr.length (by (try dsimp only [ncast] at *) <;> (try simp only [lm_length] at *) <;> omega) (by rw [List.length_set]; omega) mc_flat mc_len (fun t1 ht1 => ?_)⟩
        · show (enc mc arr).set (0 + ((pr.length + 1 : Nat) : Int).toNat) (mapD (mc y)) = _
          rw [enc_set]
          congr 2
          omega
        cbv
        refine ⟨in64_of (by (try dsimp only [ncast] at *) <;> (try simp only [lm_length] at *) <;> omega) (by (try dsimp only [ncast] at *) <;> (try simp only [lm_length] at *) <;> omega), (pr, qr ++ [y]), ⟨by simp; omega, by rw [hT]; simp⟩, by simp, .le ?_ ?_ rfl⟩
        · cbv
          exact ⟨leS_refl _, leS_refl _, leS_refl _, leS_refl _, leS_int (by (try dsimp only [ncast] at *) <;> (try simp only [lm_length] at *) <;> omega), trivial⟩
        · cbv
          refine ⟨elsEq_of ?_, trivial⟩
          show ((enc mc arr).set (0 + ((pr.length + 1 : Nat) : Int).toNat) (mapD (mc y))).set (0 + (((pr.length + 1 : Nat) : Int) - 1).toNat) (mapD (mc x)) = _
          rw [enc_set, enc_set, ← hset]
          congr 3 <;> omega
      · rw [if_neg e1] at hT
        cbv
        refine ⟨in64_of (by (try dsimp only [ncast] at *) <;> (try simp only [lm_length] at *) <;> omega) (by (try dsimp only [ncast] at *) <;> (try simp only [lm_length] at *) <;> omega), i + 1, ⟨(by (try dsimp only [ncast] at *) <;> (try simp only [lm_length] at *) <;> omega), (by (try dsimp only [ncast] at *) <;> (try simp only [lm_length] at *) <;> omega)⟩, (by (try dsimp only [ncast] at *) <;> (try simp only [lm_length] at *) <;> omega), .le ?_ ?_ rfl⟩
        · cbv
          exact ⟨leS_refl _, leS_refl _, leS_refl _, leS_int (by (try dsimp only [ncast] at *) <;> (try simp only [lm_length] at *) <;> omega), trivial⟩
        · cbv
          exact ⟨elsEq_of (by rw [hp1, hrest, hT, ← hA]; simp), trivial⟩
  · have hi' : i = l.length := by (try dsimp only [ncast] at *); omega
    subst hi'
    cbv
    refine retK1W (.le (ps' := ⟨[], [(1000000, .arr 7 (fun _ => enc mc R.reverse))]⟩) ?_ ?_ rfl) rfl trivial rfl rfl rfl rfl
    · trivial
    · cbv
      exact ⟨elsEq_of (by rw [hN]; simp), trivial⟩
theorem hfStb : Pg.funcs[47]? = some Tryz.f47 := by rw [Pg_eq]; rfl
theorem sStb (l : List Mult) (hl : l.length ≤ 12) : Sound 47 [.osl 1000000 7 (fun _ => 0) (fun _ => l.length), .int .i64 (fun _ => (l.length : Int)), .fn 22 []] (mao 1000000 l) [] (.tup []) (mao 1000000 (isr l).reverse) [] := by
  refine sound_fn hfStb rfl rfl rfl rfl rfl ?_
  have ci := sIns l hl
  have hel : (isr l).reverse.length = l.length := by rw [List.length_reverse, isr_len]
  generalize (isr l).reverse = R at *
  cbv
  refine loop_n (σ := Unit) (fun _ => ⟨[(0, .osl 1000000 7 (fun _ => 0) (fun _ => l.length)), (1, .int .i64 (fun _ => (l.length : Int))), (2, .fn 22 []), (6, .int .i64 (fun _ => 20)), (7, .int .i64 (fun _ => 0)), (8, .int .i64 (fun _ => 20))], mao 1000000 l⟩) (fun _ => True) (fun _ => 0) () trivial (.le ?_ ?_ rfl) ?_
  · cbv
    exact ⟨leS_refl _, leS_refl _, leS_refl _, leS_refl _, leS_refl _, trivial⟩
  · cbv
    exact ⟨elsEq_of rfl, trivial⟩
  intro _ _
  cbv
  refine cut_no (by (try dsimp only [ncast] at *); omega) ?_
  cbv
  refine callK (fun n => n) (Wk.sel _ [1, 6, 23, 24, 25, 26] [1000000] rfl) rfl (by exact ⟨leS_refl _, leS_refl _, leS_refl _, ⟨rfl, trivial⟩, trivial⟩) ci ⟨⟨rfl, rfl⟩, trivial⟩ rfl rfl rfl rfl rfl rfl rfl rfl ?_
  cbv
  refine loop_n (σ := Unit) (fun _ => ⟨[(1, .int .i64 (fun _ => (l.length : Int))), (6, .int .i64 (fun _ => 20))], mao 1000000 R⟩) (fun _ => True) (fun _ => 0) () trivial (.le ?_ ?_ rfl) ?_
  · cbv
    exact ⟨leS_refl _, leS_refl _, trivial⟩
  · cbv
    exact ⟨elsEq_of rfl, trivial⟩
  intro _ _
  cbv
  refine cut_no (by (try dsimp only [ncast] at *); omega) ?_
  cbv
  exact retK1 rfl trivial rfl rfl rfl rfl
theorem hfSort : Pg.funcs[21]? = some Tryz.f21 := by rw [Pg_eq]; rfl
theorem sSort (l : List Mult) (hl : l.length ≤ 12) : Sound 21 [.osl 1000000 7 (fun _ => 0) (fun _ => l.length), .fn 22 []] (mao 1000000 l) [] (.tup []) (mao 1000000 (isr l).reverse) [] := by
  refine sound_fn hfSort rfl rfl rfl rfl rfl ?_
  have ci := sStb l hl
  generalize (isr l).reverse = R at *
  cbv
  refine callK (fun n => n) (.refl _) rfl (by exact ⟨leS_refl _, leS_refl _, ⟨rfl, trivial⟩, trivial⟩) ci ⟨⟨rfl, rfl⟩, trivial⟩ rfl rfl rfl rfl rfl rfl rfl rfl ?_
  cbv
  exact retK1 rfl trivial rfl rfl rfl rfl
end Go.Proofs.YtbehbhicjmjdhaaGreat
