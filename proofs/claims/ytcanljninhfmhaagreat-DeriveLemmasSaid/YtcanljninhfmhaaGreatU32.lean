/- A part of the proof: SpE, SpF, SpG, SpH, SpI, SpJ. -/
import Derived.Test.YtcanljninhfmhaaGreatU31
import Derived.Test.YtcanljninhfmhaaGreatU30
set_option linter.all false
namespace Go.Proofs.YtcanljninhfmhaaGreat
open Go
def LB (K : Nat → Nat) (L : List Lem) : Prop := ∀ m, m ∈ L → ∃ i : Nat, m.u = i ∧ Fits (K i) m.v.q
theorem lem_lb {K : Nat → Nat} {s : Scp} (hK : ∀ i, 1 ≤ K i) (h : LB K s.lems) (k : Int) (i : Nat) (up : Bool) : Fits (K i) ((s.lem k i up).getD 0) := by
 unfold Scp.lem
 split
 ·split
  ·rename_i m hm
   split
   ·rename_i e
    obtain ⟨i', e', hf⟩ := h m (List.mem_of_getElem? hm)
    have : i' = i := by have := e.1; omega
    rw [this] at hf
    exact hf
   ·exact vR (hK i)
  ·exact vR (hK i)
 ·exact vR (hK i)
theorem val_lb {K : Nat → Nat} {s : Scp} (h : LB K s.lems) {i k : Nat} (hk : k = (s.best i).1 ∨ k = (s.best i).2) (h0 : k ≠ 0) : Fits (K i) (wE s.lems k) := by
 obtain ⟨m, hm, hu⟩ := cU hk h0
 obtain ⟨i', e', hf⟩ := h m (List.mem_of_getElem? hm)
 have : i' = i := by omega
 rw [this] at hf
 unfold wE
 rw [hm]
 exact hf
theorem fm_in {s : Scp} {x : FQry} (hq : s.q = x.q) (hx : x.small) {r : Row} (hr : r.k = 1 ∨ r.k = 2) {f : F} (h : s.fm r = some f) : f.fl 6 3000 := by
 unfold Scp.fm at h
 split at h
 ·cases h
 rw [if_pos (by omega)] at h
 unfold Scp.fIn at h
 split at h
 ·split at h
  ·cases hy : s.q.r.lo[r.i.toNat]? with
   | none => rw [hy] at h; cases h
   | some y =>
    rw [hy] at h
    cases h
    have hm := List.mem_of_getElem? hy
    rw [hq] at hm
    obtain ⟨b, hb, rfl⟩ := List.mem_map.1 hm
    dsimp only
    rw [zW]
    exact ((w5 r.i).sub (wR (hx.r.bf b hb).1)).mono (by omega) (by omega)
  ·split at h
   ·cases hy : s.q.r.hi[r.i.toNat]? with
    | none => rw [hy] at h; cases h
    | some y =>
     rw [hy] at h
     cases h
     have hm := List.mem_of_getElem? hy
     rw [hq] at hm
     obtain ⟨b, hb, rfl⟩ := List.mem_map.1 hm
     dsimp only
     rw [zW]
     exact ((wR (hx.r.bf b hb).2).sub (w5 r.i)).mono (by omega) (by omega)
   ·omega
 ·cases h
theorem unF_fl2 {s : Scp} {r : Row} {p v : F} {l u : Option Rat} {K : Nat} {f : F} (hk : 1 ≤ K) (hp : p.fl 43 7) (hv : v.fl 1 1) (hl : Fits K (l.getD 0)) (hu : Fits K (u.getD 0)) (h : unF s r p v l u = some f) : f.fl (4 * K + 60) 3000 := by
 unfold unF at h
 generalize l.getD 0 = lq at *
 generalize u.getD 0 = uq at *
 have two : ∀ {c : Prop} [Decidable c] {x : F}, (if c then some x else none) = some f → x = f := fun h => by
  split at h
  ·exact Option.some.inj h
  ·cases h
 split at h
 ·rw [← two h]; exact hv.mono (by omega) (by omega)
 split at h
 ·rw [← two h]; exact (hv.sub hp).mono (by omega) (by omega)
 split at h
 ·rw [← two h]; exact (hp.add zero_fl).mono (by omega) (by omega)
 split at h
 ·rw [← two h]; exact (hp.sub hv).mono (by omega) (by omega)
 split at h
 ·rw [← two h]; exact (hp.scale xU).mono (by omega) (by omega)
 split at h
 ·rw [← two h]; exact (hv.scale xU).mono (by omega) (by omega)
 split at h
 ·rw [← two h]; exact (hp.sub (wR hl)).mono (by omega) (by omega)
 split at h
 ·rw [← two h]; exact ((wR hu).sub hp).mono (by omega) (by omega)
 split at h
 ·rw [← two h]; exact (((hp.sub (wR hl)).scale hu).sub (hv.scale (u9 hu hl))).mono (by omega) (by omega)
 ·cases h
theorem fm_un {s : Scp} {x : FQry} {K : Nat → Nat} (hq : s.q = x.q) (hx : x.small) (hK : ∀ i, 1 ≤ K i) (hL : LB K s.lems) {r : Row} {i : Nat} (hr : 5 ≤ r.k) (hi : r.i = i) {f : F} (h : s.fm r = some f) : f.fl (4 * K i + 60) 3000 := by
 unfold Scp.fm at h
 split at h
 ·cases h
 rw [if_neg (by omega)] at h
 unfold Scp.fUn at h
 split at h
 ·cases hy : s.q.g.us[r.i.toNat]? with
  | none => rw [hy] at h; cases h
  | some p =>
   rw [hy] at h
   have hm := List.mem_of_getElem? hy
   rw [hq] at hm
   obtain ⟨b, hb, rfl⟩ := List.mem_map.1 hm
   rw [hi] at h
   dsimp only at h
   rw [wO] at h
   exact unF_fl2 (hK i) (hx.g.uf b hb) (w5 _) (lem_lb hK hL _ _ _) (lem_lb hK hL _ _ _) h
 ·cases h
def cst (K : Nat → Nat) (n v : Nat) : Nat := if v < n then 60 else 13 * K (v - n) + 230
theorem iT {s : Scp} {r : Row} {g : Nat} (hg : ∀ f, s.fm r = some f → f.fl g 3000) : Wt s [(r, 1)] (g + 6) := (Wt.cons fits_one hg .nil).to (by omega)
theorem least_wt {s : Scp} {x : FQry} {K : Nat → Nat} (hq : s.q = x.q) (hx : x.small) (hK : ∀ i, 1 ≤ K i) (hL : LB K s.lems) (v : Nat) : ∃ B, B + 48 * (s.atLeastM v).length ≤ cst K x.g.n v ∧ Wt s (s.atLeastM v) B := by
 have hn : s.q.g.n = (x.g.n : Int) := by rw [hq]; rfl
 unfold Scp.atLeastM cst
 rw [hn]
 by_cases h : v < x.g.n
 ·rw [if_pos (by omega), if_pos h]
  exact ⟨_, by simp, iT fun f hf => fm_in hq hx (.inl rfl) hf⟩
 ·rw [if_neg (by omega), if_neg h]
  exact ⟨_, by simp; omega, iT fun f hf => fm_un (i := v - x.g.n) hq hx hK hL (by show (5 : Int) ≤ 5; decide) (by show (v : Int) - x.g.n = _; omega) hf⟩
theorem up_wt {s : Scp} {x : FQry} {K : Nat → Nat} (hq : s.q = x.q) (hx : x.small) (hK : ∀ i, 1 ≤ K i) (hL : LB K s.lems) {i lo hi : Nat} {l u : Rat} (hl : Fits (K i) l) (hu : Fits (K i) u) :
  ∃ B, B + 48 * (upM i lo hi l u).length ≤ 13 * K i + 230 ∧ Wt s (upM i lo hi l u) B := by
 have hg : ∀ (k lo hi : Int), 5 ≤ k → ∀ f, s.fm ⟨k, i, lo, hi⟩ = some f → f.fl (4 * K i + 60) 3000 := fun k lo hi hk f hf => fm_un hq hx hK hL hk rfl hf
 have h1 := hK i
 have hs := fits_inv (u9 hu hl)
 have hd : Fits (2 * K i + 1) (1 / (u - l)) := by
  have e : 1 / (u - l) = (u - l)⁻¹ := by rw [Rat.div_def, Rat.one_mul]
  rw [e]
  exact hs.mono (by omega)
 unfold upM
 split
 ·exact ⟨_, by simp; omega, iT (hg _ _ _ (by decide))⟩
 ·split
  ·exact ⟨_, by simp; omega, Wt.cons fits_one (hg _ _ _ (by decide)) (iT (hg _ _ _ (by decide)))⟩
  ·exact ⟨_, by simp; omega, Wt.cons ((xI hd hu).mono (k := _) (m := 3 * K i + 2) (by omega)) (hg _ _ _ (by decide)) (Wt.cons hd (hg _ _ _ (by decide)) .nil)⟩
theorem most_wt {s : Scp} {x : FQry} {K : Nat → Nat} (hq : s.q = x.q) (hx : x.small) (hK : ∀ i, 1 ≤ K i) (hL : LB K s.lems) (v : Nat) {more : List (Row × Rat)} (h : s.atMostM v = some more) : ∃ B, B + 48 * more.length ≤ cst K x.g.n v ∧ Wt s more B := by
 have hn : s.q.g.n = (x.g.n : Int) := by rw [hq]; rfl
 unfold Scp.atMostM at h
 unfold cst
 rw [hn] at h
 by_cases hv : v < x.g.n
 ·rw [if_pos (by omega)] at h
  rw [if_pos hv]
  cases h
  exact ⟨_, by simp, iT fun f hf => fm_in hq hx (.inr rfl) hf⟩
 ·rw [if_neg (by omega)] at h
  rw [if_neg hv]
  have e : (v : Int) - x.g.n = ((v - x.g.n : Nat) : Int) := by omega
  rw [e] at h
  split at h
  ·cases h
  ·rename_i hb
   cases h
   exact up_wt hq hx hK hL (val_lb hL (.inl rfl) (fun g => hb (.inl g))) (val_lb hL (.inr rfl) (fun g => hb (.inr g)))
def rI (K : Nat → Nat) (n : Nat) : Nat → Nat
 | 0 => 0
 | v + 1 => rI K n v + cst K n v
theorem mY {K : Nat → Nat} {n a b : Nat} (h : a ≤ b) : rI K n a ≤ rI K n b := by
  induction b with
  | zero => have : a = 0 := by omega
            rw [this]; exact Nat.le_refl _
  | succ b ih =>
    by_cases e : a = b + 1
    · rw [e]; exact Nat.le_refl _
    · have := ih (by omega)
      show _ ≤ rI K n b + cst K n b
      omega
theorem m6 {s : Scp} {x : FQry} {K : Nat → Nat} (hq : s.q = x.q) (hx : x.small) (hK : ∀ i, 1 ≤ K i) (hL : LB K s.lems) {hi : Nat} : ∀ {ts : List (Int × Rat)} {l l' : List (Row × Rat)} {N lo : Nat},
  Cn ts → (∀ t, t ∈ ts → (lo : Int) ≤ t.1 ∧ t.1 < hi) → (∀ t, t ∈ ts → Fits 46 t.2) → lo ≤ hi → Wt s l N → s.aboveL ts l = some l' → ∃ M, M + rI K x.g.n lo ≤ N + rI K x.g.n hi ∧ Wt s l' M
 | [], l, l', N, lo, _, _, _, hlh, hw, h => by
  cases h
  exact ⟨N, by have := mY (K := K) (n := x.g.n) hlh; omega, hw⟩
 | t :: r, l, l', N, lo, hc, hv, hf, hlh, hw, h => by
  obtain ⟨h1, h2⟩ := hv t List.mem_cons_self
  obtain ⟨v, hv1⟩ : ∃ v : Nat, t.1 = v := ⟨t.1.toNat, by omega⟩
  unfold Scp.aboveL at h
  have hm : ∀ {more : List (Row × Rat)}, (if 0 < yA t.2 then some (s.atLeastM t.1) else s.atMostM t.1) = some more → ∃ B, B + 48 * more.length ≤ cst K x.g.n v ∧ Wt s more B := fun {more} g => by
   rw [hv1] at g
   split at g
   ·cases g; exact least_wt hq hx hK hL v
   ·exact most_wt hq hx hK hL v g
  split at h
  ·cases h
  ·rename_i more hmore
   obtain ⟨B, b1, b2⟩ := hm hmore
   obtain ⟨M1, m1, m2⟩ := Wt.merge (rD (hf t List.mem_cons_self)) b2 hw
   have hlo : ∀ u, u ∈ r → ((v + 1 : Nat) : Int) ≤ u.1 ∧ u.1 < hi := fun u hu => by
    have g1 := hc.lt u hu
    have g2 := (hv u (List.mem_cons_of_mem _ hu)).2
    omega
   obtain ⟨M, k1, k2⟩ := m6 hq hx hK hL (hi := hi) (lo := v + 1) hc.tail hlo (fun u hu => hf u (List.mem_cons_of_mem _ hu)) (by omega) m2 h
   refine ⟨M, ?_, k2⟩
   have c1 := mY (K := K) (n := x.g.n) (a := lo) (b := v) (by omega)
   have c2 : rI K x.g.n (v + 1) = rI K x.g.n v + cst K x.g.n v := rfl
   have c3 : (46 + 2) * more.length = 48 * more.length := rfl
   omega
theorem upM_len (j : Int) (lo hi : Nat) (l u : Rat) : (upM j lo hi l u).length ≤ 2 := by unfold upM; split <;> (try split) <;> simp
theorem most_len {s : Scp} {v : Int} {more} (h : s.atMostM v = some more) : more.length ≤ 2 := by
 unfold Scp.atMostM at h
 split at h
 ·cases h; simp
 ·split at h
  ·cases h
  ·cases h; exact upM_len _ _ _ _ _
theorem least_len (s : Scp) (v : Int) : (s.atLeastM v).length ≤ 2 := by unfold Scp.atLeastM; split <;> simp
theorem pK {s : Scp} : ∀ {ts : List (Int × Rat)} {l l' : List (Row × Rat)}, s.aboveL ts l = some l' → l'.length ≤ l.length + 2 * ts.length
 | [], l, l', h => by cases h; simp
 | t :: r, l, l', h => by
  unfold Scp.aboveL at h
  split at h
  ·cases h
  ·rename_i more hmore
   have h1 : more.length ≤ 2 := by
    split at hmore
    ·cases hmore; exact least_len _ _
    ·exact most_len hmore
   have h2 := merge_len (qT t.2) more l
   have h3 := pK h
   rw [List.length_cons]
   omega
theorem above_sz {s : Scp} {x : FQry} {K : Nat → Nat} (hq : s.q = x.q) (hx : x.small) (hK : ∀ i, 1 ≤ K i) (hL : LB K s.lems) {f : F} {hi : Nat} (hf : f.fl 46 7) (hw : f.wf hi) {v : Rat × List (Row × Rat)} (h : s.above f = some v) :
  Fits (49 + rI K x.g.n hi) v.1 ∧ (∀ t, t ∈ v.2 → Fits (rI K x.g.n hi) t.2) ∧ v.2.length ≤ 14 := by
 unfold Scp.above at h
 cases hl : s.aboveL f.ts [] with
 | none => rw [hl] at h; cases h
 | some l =>
  rw [hl] at h
  cases h
  obtain ⟨M, h1, h2⟩ := m6 hq hx hK hL (hi := hi) (lo := 0) hw.cn (fun t ht => by have := hw.v t ht; omega) hf.t (Nat.zero_le _) .nil hl
  have h3 : rI K x.g.n 0 = 0 := rfl
  have h4 := pK hl
  have h5 := hf.len
  refine ⟨((hf.sub h2.sum).c).mono (by omega), fun t ht => (h2.mem t ht).mono (by omega), ?_⟩
  show l.length ≤ 14
  simp only [List.length_nil] at h4
  omega
def KK : Nat → Nat
 | 0 => 230
 | 1 => 3450
 | 2 => 48530
 | _ => 679650
theorem oF (i : Nat) : 1 ≤ KK i := by unfold KK; split <;> decide
theorem KK_ok {n j : Nat} (h1 : 1 ≤ n) (h2 : n ≤ 3) (h3 : j ≤ 3) : 49 + rI KK n (n + j) ≤ KK j := by
 have : ∀ n : Fin 4, ∀ j : Fin 4, 1 ≤ n.val → 49 + rI KK n.val (n.val + j.val) ≤ KK j.val := by decide +kernel
 exact this ⟨n, by omega⟩ ⟨j, by omega⟩ h1
theorem KK_le (i : Nat) : KK i ≤ 679650 := by unfold KK; split <;> decide
structure Lok (L : List Lem) (j : Nat) : Prop where
 lb : LB KK L
 len : L.length ≤ 2 * j
 pf : ∀ m, m ∈ L → Msz 679650 m.pf ∧ m.pf.length ≤ 14
 v : ∀ m, m ∈ L → ∃ q, m.v = zE q
theorem msz_of {l : List (Row × Rat)} {k : Nat} (h : ∀ t, t ∈ l → Fits k t.2) (hl : l.length ≤ 14) : Msz k (mR l) := ⟨by rw [jF]; omega, fun m hm => by
 obtain ⟨t, ht, rfl⟩ := List.mem_map.1 hm
 exact zY (h t ht)⟩
theorem bnd_step {x : FQry} (hx : x.small) (hwf : ∀ (i : Nat) (f : F), x.g.us[i]? = some f → f.wf ((x.g.n + i : Nat) : Int)) {path : List Dec} {j : Nat} {f : F} (hfj : x.g.us[j]? = some f) {L : List Lem} (h : Lok L j) :
  Lok (L ++ eZ j ((⟨x.q, path, L⟩ : Scp).above f) ((⟨x.q, path, L⟩ : Scp).above (f.scale (-1)))) (j + 1) ∧ (∀ v, (⟨x.q, path, L⟩ : Scp).above (f.scale (-1)) = some v → Fits (2^20) v.1) := by
 obtain ⟨hlen, he⟩ := List.getElem?_eq_some_iff.1 hfj
 have hj : j ≤ 3 := by have := hx.g.us; omega
 have hf := hx.g.uf _ (List.mem_of_getElem? hfj)
 have hw := hwf j f hfj
 have ok := KK_ok hx.g.n1 hx.g.n2 hj
 have kl := KK_le j
 have key : ∀ {f : F} {v : Rat × List (Row × Rat)}, f.fl 46 7 → f.wf ((x.g.n + j : Nat) : Int) → (⟨x.q, path, L⟩ : Scp).above f = some v → Fits (KK j) v.1 ∧ Msz 679650 (mR v.2) ∧ (mR v.2).length ≤ 14 := fun hf hw hv => by
  obtain ⟨g1, g2, g3⟩ := above_sz (s := ⟨x.q, path, L⟩) rfl hx oF h.lb hf hw hv
  exact ⟨g1.mono ok, msz_of (fun t ht => (g2 t ht).mono (by omega)) g3, by rw [jF]; exact g3⟩
 have kx := fun v hv => key (v := v) (hf.mono (by decide) (by decide)) hw hv
 have ky := fun v hv => key (v := v) ((hf.scale xU).mono (by decide) (by decide)) hw.scale hv
 refine ⟨?_, fun v hv => (ky v hv).1.mono (Nat.le_trans kl (by decide))⟩
 generalize (⟨x.q, path, L⟩ : Scp).above f = X at *
 generalize (⟨x.q, path, L⟩ : Scp).above (f.scale (-1)) = Y at *
 have mem : ∀ m, m ∈ eZ j X Y → m.u = (j : Int) ∧ Fits (KK j) m.v.q ∧ Msz 679650 m.pf ∧ m.pf.length ≤ 14 ∧ ∃ q, m.v = zE q := fun m hm => by
  unfold eZ at hm
  rcases List.mem_append.1 hm with hm | hm
  ·cases X with
   | none => exact absurd hm (by simp)
   | some v =>
    have : m = ⟨j, false, zE v.1, mR v.2⟩ := by simpa using hm
    obtain ⟨g1, g2, g3⟩ := kx v rfl
    rw [this]
    exact ⟨rfl, by show Fits _ (zE v.1).q; rw [zW]; exact g1, g2, g3, _, rfl⟩
  ·cases Y with
   | none => exact absurd hm (by simp)
   | some v =>
    have : m = ⟨j, true, zE (-v.1), mR v.2⟩ := by simpa using hm
    obtain ⟨g1, g2, g3⟩ := ky v rfl
    rw [this]
    exact ⟨rfl, by show Fits _ (zE (-v.1)).q; rw [zW]; exact aX g1, g2, g3, _, rfl⟩
 refine ⟨fun m hm => ?_, ?_, fun m hm => ?_, fun m hm => ?_⟩
 ·rcases List.mem_append.1 hm with hm | hm
  ·exact h.lb m hm
  ·exact ⟨j, (mem m hm).1, (mem m hm).2.1⟩
 ·rw [List.length_append]
  have : (eZ j X Y).length ≤ 2 := by unfold eZ; cases X <;> cases Y <;> simp
  have := h.len
  omega
 ·rcases List.mem_append.1 hm with hm | hm
  ·exact h.pf m hm
  ·exact ⟨(mem m hm).2.2.1, (mem m hm).2.2.2.1⟩
 ·rcases List.mem_append.1 hm with hm | hm
  ·exact h.v m hm
  ·exact (mem m hm).2.2.2.2
theorem bndG_ok {x : FQry} (hx : x.small) (hwf : ∀ (i : Nat) (f : F), x.g.us[i]? = some f → f.wf ((x.g.n + i : Nat) : Int)) {path : List Dec} : ∀ {us : List A} {j : Nat} {L : List Lem}, us = (x.g.us.drop j).map fA → Lok L j → Lok (pH x.q path us j L) (j + us.length)
 | [], j, L, _, h => h
 | p :: r, j, L, hu, h => by
  have hlen : j < x.g.us.length := by
   have : (x.g.us.drop j).length ≠ 0 := by
    have : ((x.g.us.drop j).map fA).length ≠ 0 := by rw [← hu]; simp
    simpa using this
   rw [List.length_drop] at this
   omega
  have hd : x.g.us.drop j = x.g.us[j] :: x.g.us.drop (j + 1) := (List.drop_eq_getElem_cons hlen)
  rw [hd] at hu
  simp only [List.map_cons, List.cons.injEq] at hu
  obtain ⟨hp, hr⟩ := hu
  have e1 : p.f = x.g.us[j] := by rw [hp, wO]
  have hs := (bnd_step hx hwf (path := path) (j := j) (f := x.g.us[j]) (by simp [hlen]) h).1
  unfold pH
  rw [e1]
  have := bndG_ok hx hwf (path := path) (us := r) (j := j + 1) hr hs
  rw [List.length_cons, show j + (r.length + 1) = j + 1 + r.length by omega]
  exact this
theorem fdG_wf (raw : List UInt8) (a : Nat) (i : Nat) (f : F) (h : (fdG raw a).1.us[i]? = some f) : f.wf (((fdG raw a).1.n + i : Nat) : Int) := by
 have := fdL_wf (raw := raw) (d := 1) h
 rw [Nat.mul_one] at this
 exact this
theorem fQ (raw : List UInt8) : Lok (fdS raw).bounded.lems 4 := by
 have h := y7 raw 0
 have := bndG_ok h (fdG_wf raw 0) (path := (fdS raw).path) (us := (fdY raw 0).1.g.us.map fA) (j := 0) (L := []) (by simp) ⟨fun m hm => absurd hm (by simp), by simp, fun m hm => absurd hm (by simp), fun m hm => absurd hm (by simp)⟩
 have hl := h.g.us
 exact ⟨this.lb, by
  have := this.len
  rw [List.length_map] at this
  show (pH _ _ _ _ _).length ≤ _
  exact Nat.le_trans this (by omega), this.pf, this.v⟩
theorem jK (raw : List UInt8) : (fdS raw).bounded.sz (2^20) := by
 have h := fQ raw
 have g := fdS_sz raw
 refine ⟨g.q.mono (by decide), ⟨g.path.len, fun d hd => (g.path.sz d hd).mono (by decide)⟩, ⟨by have := h.len; omega, fun m hm => ?_, fun m hm => (h.pf m hm).1.mono (by decide)⟩⟩
 obtain ⟨q, hq⟩ := h.v m hm
 obtain ⟨i, _, hf⟩ := h.lb m hm
 rw [hq, zW] at hf
 rw [hq]
 exact zY (hf.mono (Nat.le_trans (KK_le i) (by decide)))
theorem vT_of {N : Int} : ∀ {ts : List (Int × Rat)} {p : Int}, Cn ts → (∀ t, t ∈ ts → p < t.1 ∧ 0 ≤ t.1 ∧ t.1 < N) → vT N p (tR ts) = true
 | [], _, _, _ => rfl
 | t :: r, p, hc, h => by
  obtain ⟨h1, h2, h3⟩ := h t List.mem_cons_self
  have ih := vT_of (N := N) (p := t.1) hc.tail (fun u hu => ⟨hc.lt u hu, (h u (List.mem_cons_of_mem _ hu)).2⟩)
  show (decide (0 ≤ t.1) && decide (t.1 < N) && decide (p < t.1) && decide ((zE t.2).q ≠ 0) && (zE t.2).ok && vT N t.1 (tR r)) = true
  rw [ih, zW, kM, decide_eq_true h1, decide_eq_true h2, decide_eq_true h3, decide_eq_true hc.hd]
  rfl
theorem F.wf.valid {f : F} {n : Int} (h : f.wf n) : (fA f).valid n = true := by
 have h1 := vT_of (N := n) (p := -1) h.cn (fun t ht => ⟨by have := (h.v t ht).1; omega, (h.v t ht).1, (h.v t ht).2⟩)
 show (vT n (-1) (tR f.ts) && (zE f.c).ok) = true
 rw [h1, kM]
 rfl
theorem vU_of : ∀ {l : List F} {k : Int}, (∀ (i : Nat) (f : F), l[i]? = some f → f.wf (k + i)) → vU k (l.map fA) = true
 | [], _, _ => rfl
 | f :: r, k, h => by
  have h0 := h 0 f rfl
  rw [show k + ((0 : Nat) : Int) = k by omega] at h0
  have ih := vU_of (l := r) (k := k + 1) (fun i g hg => by
   have := h (i + 1) g (by simpa using hg)
   rw [show k + ((i + 1 : Nat) : Int) = k + 1 + i by omega] at this
   exact this)
  show ((fA f).valid k && vU (k + 1) (r.map fA)) = true
  rw [h0.valid, ih]
  rfl
theorem all_of {l : List F} {n : Int} (h : ∀ f, f ∈ l → f.wf n) : (l.map fA).all (A.valid n) = true := by
 rw [List.all_eq_true]
 intro a ha
 obtain ⟨f, hf, rfl⟩ := List.mem_map.1 ha
 exact (h f hf).valid
theorem vB_of : ∀ {l : List (Rat × Rat)}, (∀ b, b ∈ l → b.1 ≤ b.2) → vB (l.map fun b => zE b.1) (l.map fun b => zE b.2) = true
 | [], _ => rfl
 | b :: r, h => by
  have ih := vB_of (l := r) (fun c hc => h c (List.mem_cons_of_mem _ hc))
  have hb := h b List.mem_cons_self
  show ((zE b.1).ok && (zE b.2).ok && decide (x6 (zE b.1).q (zE b.2).q ≤ 0) && vB _ _) = true
  rw [ih, kM, kM, zW, zW, decide_eq_true (by unfold x6; split <;> (try split) <;> grind)]
  rfl
theorem sP {α : Type} {l : List α} {a : α} (h : a ∈ l) : ∃ i : Nat, l[i]? = some a := List.mem_iff_getElem?.1 h
structure FQry.ok (x : FQry) : Prop where
 us : ∀ (i : Nat) (f : F), x.g.us[i]? = some f → f.wf ((x.g.n + i : Nat) : Int)
 os : ∀ f, f ∈ x.g.os → f.wf ((x.g.n + x.g.us.length : Nat) : Int)
 rows : ∀ f, f ∈ x.r.rows → f.wf (x.g.n : Int)
 goal : x.goal.wf ((x.g.n + x.g.us.length : Nat) : Int)
theorem kS (raw : List UInt8) (a : Nat) : (fdY raw a).1.ok where
 us := fdG_wf raw a
 os := fun f hf => by
  obtain ⟨i, hi⟩ := sP hf
  have := fdL_wf (raw := raw) (d := 0) hi
  rw [Nat.mul_zero, Nat.add_zero] at this
  have e : (fdY raw a).1.g.us.length = fdN raw 5 (na raw a) := jT raw 1 _ _ _
  rw [e]
  exact this
 rows := fun f hf => by
  obtain ⟨i, hi⟩ := sP hf
  have := fdL_wf (raw := raw) (d := 0) hi
  rw [Nat.mul_zero, Nat.add_zero] at this
  exact this
 goal := fdF_wf raw _ _
theorem FQry.small.valid {x : FQry} (h : x.small) (g : x.ok) : x.q.valid = true := by
 have h1 := h.g.n1
 have h2 := h.g.n2
 have h3 := h.g.us
 have h4 := h.g.o1
 have h5 := h.g.o2
 have h6 := h.r.bs
 have h7 := h.r.rows
 have hv : x.g.g.vars = ((x.g.n + x.g.us.length : Nat) : Int) := by
  show (x.g.n : Int) + ((x.g.us.map fA).length : Int) = _
  rw [List.length_map]; omega
 have hn : x.g.g.n = (x.g.n : Int) := rfl
 have hg : x.g.g.valid = true := by
  unfold Grp.valid
  rw [hv]
  have a1 : vU x.g.g.n x.g.g.us = true := vU_of (l := x.g.us) (k := (x.g.n : Int)) (fun i f hf => by
   have := g.us i f hf
   rw [show ((x.g.n + i : Nat) : Int) = (x.g.n : Int) + i by omega] at this
   exact this)
  have a2 : x.g.g.os.all (A.valid ((x.g.n + x.g.us.length : Nat) : Int)) = true := all_of g.os
  rw [a1, a2, decide_eq_true ⟨by rw [hn]; omega, by rw [hn]; omega, by show (x.g.us.map fA).length ≤ _; rw [List.length_map]; omega, by show 1 ≤ (x.g.os.map fA).length; rw [List.length_map]; omega, by show (x.g.os.map fA).length ≤ _; rw [List.length_map]; omega⟩]
  rfl
 have hr : x.r.g.valid (x.g.n : Int) = true := by
  unfold Reg.valid
  have a1 : vB x.r.g.lo x.r.g.hi = true := vB_of h.r.ord
  have a2 : x.r.g.rows.all (A.valid (x.g.n : Int)) = true := all_of g.rows
  rw [a1, a2, decide_eq_true ⟨by omega, by omega, by show ((x.r.bs.map _).length : Int) = _; rw [List.length_map]; omega, by show ((x.r.bs.map _).length : Int) = _; rw [List.length_map]; omega, by show (x.r.rows.map fA).length ≤ _; rw [List.length_map]; omega⟩]
  rfl
 have hgo : (fA x.goal).valid x.g.g.vars = true := by rw [hv]; exact g.goal.valid
 show (x.g.g.valid && x.r.g.valid x.g.g.n && (fA x.goal).valid x.g.g.vars) = true
 rw [hg, hn, hr, hgo]
 rfl
theorem fdS_valid (raw : List UInt8) : (fdS raw).q.valid = true := (y7 raw 0).valid (kS raw 0)
theorem fdS_fits (raw : List UInt8) (d : Dec) (hd : d ∈ (fdS raw).path) : d.fits (fdS raw).q = true := by
 have hu : (fdS raw).q.g.us.length = (fdY raw 0).1.g.us.length := by show (List.map fA _).length = _; rw [List.length_map]
 have hn : (fdS raw).q.g.n = ((fdY raw 0).1.g.n : Int) := rfl
 unfold Dec.fits
 rcases (tS raw).1.d d hd with ⟨h1, h2, h3, h4⟩ | ⟨h1, h2, h3, q, _, h4⟩
 ·rw [if_pos h1, decide_eq_true ⟨h2, by rw [hu]; exact h3⟩, decide_eq_true h4]
  rfl
 ·rw [if_neg (by omega), if_pos h1, decide_eq_true ⟨h2, by rw [hn]; exact h3⟩, h4, kM]
  rfl
def fmD (s : Scp) (r : Row) : F := (s.fm r).getD F.zero
def SC (s : Scp) (v : Int) : List (Row × Rat) → Rat
 | [] => 0
 | t :: r => t.2 * co (fmD s t.1).ts v + SC s v r
def SK (s : Scp) : List (Row × Rat) → Rat
 | [] => 0
 | t :: r => t.2 * (fmD s t.1).c + SK s r
def AV (s : Scp) (l : List (Row × Rat)) : Prop := ∀ t, t ∈ l → ∃ f, s.fm t.1 = some f
theorem SC_plM (s : Scp) (v : Int) (r : Row) (q : Rat) : ∀ l, SC s v (plM r q l) = q * co (fmD s r).ts v + SC s v l
 | [] => rfl
 | t :: l => by
  unfold plM
  split
  ·simp only [SC, SC_plM s v r q l]; grind
  ·split
   ·rename_i e
    simp only [SC, e]; grind
   ·simp only [SC]
theorem sgnQ0 {q : Rat} (h : yA q = 0) : q = 0 := o6.1 h
theorem SC_plMq (s : Scp) (v : Int) (r : Row) (q : Rat) (l) : SC s v (plMq l r q) = q * co (fmD s r).ts v + SC s v l := by
 unfold plMq
 split
 ·rename_i h; rw [sgnQ0 h]; grind
 ·exact SC_plM s v r q l
theorem AV_plM {s : Scp} {r : Row} {q : Rat} (hr : ∃ f, s.fm r = some f) : ∀ {l}, AV s l → AV s (plM r q l)
 | [], _ => fun t ht => by
  have : t = (r, q) := by simpa [plM] using ht
  rw [this]; exact hr
 | u :: l, h => by
  have hl : AV s l := fun t ht => h t (List.mem_cons_of_mem _ ht)
  unfold plM
  split
  ·intro t ht
   rcases List.mem_cons.1 ht with rfl | ht
   ·exact h _ List.mem_cons_self
   ·exact AV_plM hr hl t ht
  ·split
   ·intro t ht
    rcases List.mem_cons.1 ht with rfl | ht
    ·exact hr
    ·exact hl t ht
   ·intro t ht
    rcases List.mem_cons.1 ht with rfl | ht
    ·exact hr
    ·exact h t ht
theorem AV_plMq {s : Scp} {r : Row} {q : Rat} (hr : ∃ f, s.fm r = some f) {l} (h : AV s l) : AV s (plMq l r q) := by
 unfold plMq
 split
 ·exact h
 ·exact AV_plM hr h
theorem SC_merge (s : Scp) (v : Int) (c : Rat) : ∀ b a, SC s v (vZ a b c) = SC s v a + c * SC s v b
 | [], a => by show SC s v a = _; simp only [SC]; grind
 | t :: b, a => by
  show SC s v (vZ (plMq a t.1 (t.2 * c)) b c) = _
  rw [SC_merge s v c b, SC_plMq]
  simp only [SC]
  grind
theorem AV_merge {s : Scp} {c : Rat} : ∀ {b a}, AV s b → AV s a → AV s (vZ a b c)
 | [], a, _, h => h
 | t :: b, a, hb, h => AV_merge (b := b) (fun u hu => hb u (List.mem_cons_of_mem _ hu)) (AV_plMq (hb t List.mem_cons_self) h)
theorem Rs_merge {c : Rat} (hc : 0 ≤ c) : ∀ {b a}, (∀ t, t ∈ b → 0 ≤ t.2) → Rs a → Rs (vZ a b c)
 | [], a, _, h => h
 | t :: b, a, hb, h => Rs_merge hc (b := b) (fun u hu => hb u (List.mem_cons_of_mem _ hu)) (plMq_rs h (Rat.mul_nonneg (hb t List.mem_cons_self) hc))
theorem fN (f : F) (c : Rat) (v : Int) : co (f.scale c).ts v = co f.ts v * c := by
 show co (mrg c [] f.ts) v = _
 rw [jI]
 simp only [co]
 grind
theorem co_add (f g : F) (v : Int) : co (f.add g).ts v = co f.ts v + co g.ts v := by
 show co (mrg 1 f.ts g.ts) v = _
 rw [jI]
 grind
theorem dT (f g : F) (v : Int) : co (f.sub g).ts v = co f.ts v - co g.ts v := by
 show co (mrg (-1) f.ts g.ts) v = _
 rw [jI]
 grind
theorem sumL_ok {s : Scp} : ∀ {l : List (Row × Rat)} {acc : F}, AV s l → ∃ f, sumL s acc (mR l) = some f ∧ (∀ v, co f.ts v = co acc.ts v + SC s v l) ∧ f.c = acc.c + SK s l ∧ (Cn acc.ts → (∀ r g, s.fm r = some g → Cn g.ts) → Cn f.ts)
 | [], acc, _ => ⟨acc, rfl, fun v => by simp only [SC]; grind, by simp only [SK]; grind, fun h _ => h⟩
 | t :: l, acc, h => by
  obtain ⟨g, hg⟩ := h t List.mem_cons_self
  obtain ⟨f, h1, h2, h3, h4⟩ := sumL_ok (s := s) (l := l) (acc := acc.add (g.scale t.2)) (fun u hu => h u (List.mem_cons_of_mem _ hu))
  have hd : fmD s t.1 = g := by unfold fmD; rw [hg]; rfl
  refine ⟨f, ?_, fun v => ?_, ?_, fun hc hcn => h4 (hc.mrg (Cn.mrg Cn.nil (hcn _ _ hg))) hcn⟩
  ·have e : mR (t :: l) = ⟨t.1, zE t.2⟩ :: mR l := rfl
   rw [e]
   unfold sumL
   dsimp only
   rw [hg]
   dsimp only
   rw [zW]
   exact h1
  ·rw [h2, co_add, fN]
   simp only [SC, hd]
   grind
  ·have e : (acc.add (g.scale t.2)).c = acc.c + (0 + g.c * t.2) * 1 := rfl
   rw [h3, e]
   simp only [SK, hd]
   grind
theorem bA {s : Scp} {l : List (Row × Rat)} (hr : Rs l) (ha : AV s l) : ∃ f, s.sum (mR l) = (0, f) ∧ (∀ v, co f.ts v = SC s v l) ∧ f.c = SK s l ∧ ((∀ r g, s.fm r = some g → Cn g.ts) → Cn f.ts) := by
 obtain ⟨f, h1, h2, h3, h4⟩ := sumL_ok (acc := F.zero) ha
 refine ⟨f, ?_, fun v => ?_, ?_, fun h => h4 Cn.nil h⟩
 ·unfold Scp.sum
  rw [lK hr (fun w e => by cases e), h1]
  rfl
 ·rw [h2]
  have : co F.zero.ts v = 0 := rfl
  rw [this]
  grind
 ·rw [h3]
  have : F.zero.c = 0 := rfl
  rw [this]
  grind
theorem Cn.nil_of {l : List (Int × Rat)} (h : Cn l) (h0 : ∀ v, co l v = 0) : l = [] := Cn.ext h Cn.nil (fun v => by rw [h0 v]; rfl)
theorem bestG_up {L : List Lem} {unit : Int} : ∀ {r : List Lem} {n : Nat} {b : Nat × Nat}, r = L.drop n → (b.1 ≠ 0 → ∃ m, L[b.1 - 1]? = some m ∧ m.u = unit ∧ m.up = false) ∧ (b.2 ≠ 0 → ∃ m, L[b.2 - 1]? = some m ∧ m.u = unit ∧ m.up = true) →
  ((gE L unit n r b).1 ≠ 0 → ∃ m, L[(gE L unit n r b).1 - 1]? = some m ∧ m.u = unit ∧ m.up = false) ∧ ((gE L unit n r b).2 ≠ 0 → ∃ m, L[(gE L unit n r b).2 - 1]? = some m ∧ m.u = unit ∧ m.up = true)
 | [], n, b, _, hb => hb
 | m :: r, n, b, hr, hb => by
  have hm : L[n]? = some m := by
   have : (L.drop n)[0]? = some m := by rw [← hr]; rfl
   simpa using this
  have hr' : r = L.drop (n + 1) := by
   have : (L.drop n).drop 1 = L.drop (n + 1) := by rw [List.drop_drop]
   rw [← this, ← hr]; rfl
  unfold gE
  refine bestG_up hr' ?_
  split
  ·rename_i hu
   split
   ·rename_i hup
    split
    ·exact ⟨hb.1, fun _ => ⟨m, hm, hu, hup⟩⟩
    ·exact hb
   ·rename_i hup
    have hup' : m.up = false := by simpa using hup
    split
    ·exact ⟨fun _ => ⟨m, hm, hu, hup'⟩, hb.2⟩
    ·exact hb
  ·exact hb
theorem lL (s : Scp) (unit : Int) : ((s.best unit).1 ≠ 0 → ∃ m, s.lems[(s.best unit).1 - 1]? = some m ∧ m.u = unit ∧ m.up = false) ∧ ((s.best unit).2 ≠ 0 → ∃ m, s.lems[(s.best unit).2 - 1]? = some m ∧ m.u = unit ∧ m.up = true) :=
 bestG_up (by simp) ⟨fun h => absurd rfl h, fun h => absurd rfl h⟩
theorem cO {s : Scp} {k : Nat} {unit : Int} {up : Bool} {m : Lem} (h0 : k ≠ 0) (hm : s.lems[k - 1]? = some m) (hu : m.u = unit) (hp : m.up = up) : s.lem k unit up = some (wE s.lems k) := by
 have hl : k - 1 < s.lems.length := (List.getElem?_eq_some_iff.1 hm).1
 have e : ((k : Int) - 1).toNat = k - 1 := by omega
 rw [lem_at (m := m) (by omega) (by omega) (by rw [e]; exact hm), if_pos ⟨hu, hp⟩]
 unfold wE
 rw [hm]
 rfl
theorem lem_zero (s : Scp) (unit : Int) (up : Bool) : s.lem 0 unit up = none := lem_no (by omega)
theorem kR {s : Scp} (hv : s.q.valid = true) {k lo hi : Int} {i : Nat} {p : F} (hk : 5 ≤ k) (hk2 : k < 14) (hp : s.q.g.us[i]? = some (fA p)) :
  s.fm ⟨k, i, lo, hi⟩ = unF s ⟨k, i, lo, hi⟩ p (F.var (s.q.g.n + i)) (s.lem lo i false) (s.lem hi i true) := by
 have hl : i < s.q.g.us.length := (List.getElem?_eq_some_iff.1 hp).1
 unfold Scp.fm
 rw [if_neg (by rw [hv]; simp; omega), if_neg (by show ¬ k ≤ 4; omega)]
 unfold Scp.fUn
 rw [if_pos ⟨by show (0 : Int) ≤ i; omega, by show (i : Int) < _; omega⟩]
 have e : ((⟨k, i, lo, hi⟩ : Row).i).toNat = i := by show ((i : Int)).toNat = i; omega
 rw [e, hp]
 dsimp only
 rw [wO]
theorem fm_lo {s : Scp} (hv : s.q.valid = true) {i : Nat} {x : R} (hx : s.q.r.lo[i]? = some x) : s.fm ⟨1, i, 0, 0⟩ = some ((F.var i).sub (F.num x.q)) := by
 unfold Scp.fm
 rw [if_neg (by rw [hv]; simp), if_pos (by show (1 : Int) ≤ 4; decide)]
 unfold Scp.fIn
 rw [if_pos ⟨rfl, by show (0 : Int) ≤ i; omega⟩, if_pos rfl]
 have e : ((⟨1, i, 0, 0⟩ : Row).i).toNat = i := by show ((i : Int)).toNat = i; omega
 rw [e, hx]
 rfl
theorem fm_hi {s : Scp} (hv : s.q.valid = true) {i : Nat} {x : R} (hx : s.q.r.hi[i]? = some x) : s.fm ⟨2, i, 0, 0⟩ = some ((F.num x.q).sub (F.var i)) := by
 unfold Scp.fm
 rw [if_neg (by rw [hv]; simp), if_pos (by show (2 : Int) ≤ 4; decide)]
 unfold Scp.fIn
 rw [if_pos ⟨rfl, by show (0 : Int) ≤ i; omega⟩, if_neg (by show ¬ (2 : Int) = 1; decide), if_pos rfl]
 have e : ((⟨2, i, 0, 0⟩ : Row).i).toNat = i := by show ((i : Int)).toNat = i; omega
 rw [e, hx]
 rfl
def dlt (v w : Int) : Rat := if v = w then 1 else 0
theorem m0 (v w : Int) : co (F.var v).ts w = dlt v w := by
 show (if v = w then 1 else 0) + (0 : Rat) = _
 unfold dlt
 grind
theorem bP (q : Rat) (w : Int) : co (F.num q).ts w = 0 := rfl
theorem j9 {s : Scp} {r : Row} {f : F} (h : s.fm r = some f) : fmD s r = f := by unfold fmD; rw [h]; rfl
theorem up_sum {s : Scp} (hv : s.q.valid = true) {i : Nat} {p : F} (hp : s.q.g.us[i]? = some (fA p)) {lo hi : Nat} {l u : Rat} (hl : s.lem lo i false = some l) (hu : s.lem hi i true = some u) :
  AV s (upM i lo hi l u) ∧ (∀ t, t ∈ upM i lo hi l u → 0 ≤ t.2) ∧ ∀ w, SC s w (upM i lo hi l u) = - dlt (s.q.g.n + i) w := by
 have f12 : s.fm ⟨12, i, 0, hi⟩ = some ((F.num u).sub p) := by
  rw [kR hv (by decide) (by decide) hp, hu]
  rfl
 unfold upM
 split
 ·rename_i h
  have f10 : s.fm ⟨10, i, 0, hi⟩ = some ((F.var (s.q.g.n + i)).scale (-1)) := by
   rw [kR hv (by decide) (by decide) hp, hu]
   show (if aP s ⟨10, i, 0, hi⟩ u true = true then _ else none) = _
   rw [if_pos (by unfold aP; rw [decide_eq_true h]; simp)]
  refine ⟨fun t ht => ?_, fun t ht => ?_, fun w => ?_⟩
  ·have : t = (⟨10, i, 0, hi⟩, 1) := by simpa using ht
   rw [this]; exact ⟨_, f10⟩
  ·have : t = (⟨10, i, 0, hi⟩, 1) := by simpa using ht
   rw [this]; show (0 : Rat) ≤ 1; decide
  ·simp only [SC, j9 f10, fN, m0]
   grind
 ·rename_i h1
  split
  ·rename_i h
   have f8 : s.fm ⟨8, i, lo, 0⟩ = some (p.sub (F.var (s.q.g.n + i))) := by
    rw [kR hv (by decide) (by decide) hp, hl]
    show (if onB s ⟨8, i, lo, 0⟩ l true = true then _ else none) = _
    rw [if_pos (by unfold onB; rw [decide_eq_true h]; simp)]
   refine ⟨fun t ht => ?_, fun t ht => ?_, fun w => ?_⟩
   ·have : t = (⟨8, i, lo, 0⟩, 1) ∨ t = (⟨12, i, 0, hi⟩, 1) := by simpa using ht
    rcases this with h | h <;> rw [h]
    ·exact ⟨_, f8⟩
    ·exact ⟨_, f12⟩
   ·have : t = (⟨8, i, lo, 0⟩, 1) ∨ t = (⟨12, i, 0, hi⟩, 1) := by simpa using ht
    rcases this with h | h <;> (rw [h]; show (0 : Rat) ≤ 1; decide)
   ·simp only [SC, j9 f8, j9 f12, dT, m0, bP]
    grind
  ·rename_i h2
   have hu0 : 0 < u := by
    have : 0 < yA u := by omega
    exact f9.1 this
   have hl0 : l < 0 := by
    have : yA l < 0 := by omega
    exact dB.1 this
   have f13 : s.fm ⟨13, i, lo, hi⟩ = some (((p.sub (F.num l)).scale u).sub ((F.var (s.q.g.n + i)).scale (u - l))) := by
    rw [kR hv (by decide) (by decide) hp, hl, hu]
    show (if _ ∧ _ ∧ _ ∧ _ then _ else none) = _
    rw [if_pos ⟨rfl, rfl, by show yA l < 0; omega, by show 0 < yA u; omega⟩]
    rfl
   have hpos : 0 < u - l := by grind
   have hinv : 0 < 1 / (u - l) := by
    rw [Rat.div_def, Rat.one_mul]
    exact Rat.inv_pos.2 hpos
   have hne : u - l ≠ 0 := by grind
   have hone : 1 / (u - l) * (u - l) = 1 := by rw [Rat.div_def, Rat.one_mul]; exact Rat.inv_mul_cancel _ hne
   generalize 1 / (u - l) = d at *
   refine ⟨fun t ht => ?_, fun t ht => ?_, fun w => ?_⟩
   ·have : t = (⟨12, i, 0, hi⟩, d * u) ∨ t = (⟨13, i, lo, hi⟩, d) := by simpa using ht
    rcases this with h | h <;> rw [h]
    ·exact ⟨_, f12⟩
    ·exact ⟨_, f13⟩
   ·have : t = (⟨12, i, 0, hi⟩, d * u) ∨ t = (⟨13, i, lo, hi⟩, d) := by simpa using ht
    rcases this with h | h <;> rw [h]
    ·exact Rat.le_of_lt (Rat.mul_pos hinv hu0)
    ·exact Rat.le_of_lt hinv
   ·simp only [SC, j9 f12, j9 f13, dT, fN, m0, bP]
    have e : d * u * (0 - co p.ts w) + (d * ((co p.ts w - 0) * u - dlt (s.q.g.n + i) w * (u - l)) + 0) = - (dlt (s.q.g.n + i) w * (d * (u - l))) := by grind
    rw [e, hone]
    grind
theorem absQ_nn (q : Rat) : 0 ≤ qT q := by unfold qT; split <;> grind
theorem least_sum {s : Scp} {x : FQry} (hq : s.q = x.q) (hv : s.q.valid = true) (hx : x.small) {v : Nat} (h : v < x.g.n + x.g.us.length) :
  AV s (s.atLeastM v) ∧ (∀ t, t ∈ s.atLeastM v → 0 ≤ t.2) ∧ ∀ w, SC s w (s.atLeastM v) = dlt v w := by
 have hn : s.q.g.n = (x.g.n : Int) := by rw [hq]; rfl
 unfold Scp.atLeastM
 by_cases hlt : v < x.g.n
 ·rw [if_pos (by omega)]
  obtain ⟨y, hy⟩ : ∃ y, s.q.r.lo[v]? = some y := zX (by
   rw [hq]
   show v < (x.r.bs.map _).length
   rw [List.length_map, hx.r.bs]; exact hlt)
  have f1 := fm_lo hv hy
  refine ⟨fun t ht => ?_, fun t ht => ?_, fun w => ?_⟩
  ·rw [List.mem_singleton.1 ht]; exact ⟨_, f1⟩
  ·rw [List.mem_singleton.1 ht]; show (0 : Rat) ≤ 1; decide
  ·simp only [SC, j9 f1, dT, m0, bP]
   grind
 ·rw [if_neg (by omega)]
  have e : (v : Int) - s.q.g.n = ((v - x.g.n : Nat) : Int) := by omega
  have hp : s.q.g.us[v - x.g.n]? = some (fA x.g.us[v - x.g.n]) := by
   rw [hq]
   show (x.g.us.map fA)[v - x.g.n]? = _
   rw [List.getElem?_map]
   simp [show v - x.g.n < x.g.us.length by omega]
  have f5 : s.fm ⟨5, ((v - x.g.n : Nat) : Int), 0, 0⟩ = some (F.var (s.q.g.n + (v - x.g.n : Nat))) := by
   rw [kR hv (by decide) (by decide) hp]
   rfl
  rw [e]
  refine ⟨fun t ht => ?_, fun t ht => ?_, fun w => ?_⟩
  ·rw [List.mem_singleton.1 ht]; exact ⟨_, f5⟩
  ·rw [List.mem_singleton.1 ht]; show (0 : Rat) ≤ 1; decide
  ·simp only [SC, j9 f5, m0]
   rw [show s.q.g.n + ((v - x.g.n : Nat) : Int) = (v : Int) by omega]
   grind
theorem most_sum {s : Scp} {x : FQry} (hq : s.q = x.q) (hv : s.q.valid = true) (hx : x.small) {v : Nat} (h : v < x.g.n + x.g.us.length) {more : List (Row × Rat)} (hm : s.atMostM v = some more) :
  AV s more ∧ (∀ t, t ∈ more → 0 ≤ t.2) ∧ ∀ w, SC s w more = - dlt v w := by
 have hn : s.q.g.n = (x.g.n : Int) := by rw [hq]; rfl
 unfold Scp.atMostM at hm
 by_cases hlt : v < x.g.n
 ·rw [if_pos (by omega)] at hm
  cases hm
  obtain ⟨y, hy⟩ : ∃ y, s.q.r.hi[v]? = some y := zX (by
   rw [hq]
   show v < (x.r.bs.map _).length
   rw [List.length_map, hx.r.bs]; exact hlt)
  have f2 := fm_hi hv hy
  refine ⟨fun t ht => ?_, fun t ht => ?_, fun w => ?_⟩
  ·rw [List.mem_singleton.1 ht]; exact ⟨_, f2⟩
  ·rw [List.mem_singleton.1 ht]; show (0 : Rat) ≤ 1; decide
  ·simp only [SC, j9 f2, dT, m0, bP]
   grind
 ·rw [if_neg (by omega)] at hm
  have e : (v : Int) - s.q.g.n = ((v - x.g.n : Nat) : Int) := by omega
  have hp : s.q.g.us[v - x.g.n]? = some (fA x.g.us[v - x.g.n]) := by
   rw [hq]
   show (x.g.us.map fA)[v - x.g.n]? = _
   rw [List.getElem?_map]
   simp [show v - x.g.n < x.g.us.length by omega]
  rw [e] at hm
  split at hm
  ·cases hm
  ·rename_i hb
   cases hm
   obtain ⟨b1, b2⟩ := lL s ((v - x.g.n : Nat) : Int)
   have h1 : (s.best ((v - x.g.n : Nat) : Int)).1 ≠ 0 := fun g => hb (.inl g)
   have h2 : (s.best ((v - x.g.n : Nat) : Int)).2 ≠ 0 := fun g => hb (.inr g)
   obtain ⟨m1, c1, c2, c3⟩ := b1 h1
   obtain ⟨m2, d1, d2, d3⟩ := b2 h2
   have := up_sum hv hp (cO h1 c1 c2 c3) (cO h2 d1 d2 d3)
   rw [show s.q.g.n + ((v - x.g.n : Nat) : Int) = (v : Int) by omega] at this
   exact this
theorem fT {s : Scp} {x : FQry} (hq : s.q = x.q) (hv : s.q.valid = true) (hx : x.small) : ∀ {ts : List (Int × Rat)} {l l' : List (Row × Rat)}, (∀ t, t ∈ ts → 0 ≤ t.1 ∧ t.1 < ((x.g.n + x.g.us.length : Nat) : Int)) →
  s.aboveL ts l = some l' → AV s l → Rs l → AV s l' ∧ Rs l' ∧ ∀ w, SC s w l' = SC s w l + co ts w
 | [], l, l', _, h, ha, hr => by
  cases h
  exact ⟨ha, hr, fun w => by show _ = _ + (0 : Rat); grind⟩
 | t :: r, l, l', hb, h, ha, hr => by
  obtain ⟨h1, h2⟩ := hb t List.mem_cons_self
  obtain ⟨v, hv1⟩ : ∃ v : Nat, t.1 = v := ⟨t.1.toNat, by omega⟩
  have hvl : v < x.g.n + x.g.us.length := by omega
  unfold Scp.aboveL at h
  have hm : ∀ {more : List (Row × Rat)}, (if 0 < yA t.2 then some (s.atLeastM t.1) else s.atMostM t.1) = some more → AV s more ∧ (∀ t, t ∈ more → 0 ≤ t.2) ∧ ∀ w, qT t.2 * SC s w more = (if t.1 = w then t.2 else 0) := fun {more} g => by
   rw [hv1] at g ⊢
   split at g
   ·rename_i hs
    cases g
    obtain ⟨g1, g2, g3⟩ := least_sum hq hv hx hvl
    refine ⟨g1, g2, fun w => ?_⟩
    have hp := f9.1 hs
    rw [g3]
    unfold qT dlt
    rw [if_neg (by grind)]
    split <;> grind
   ·rename_i hs
    obtain ⟨g1, g2, g3⟩ := most_sum hq hv hx hvl g
    refine ⟨g1, g2, fun w => ?_⟩
    have hp : ¬ 0 < t.2 := fun g => hs (f9.2 g)
    rw [g3]
    unfold qT dlt
    split <;> split <;> grind
  split at h
  ·cases h
  ·rename_i more hmore
   obtain ⟨g1, g2, g3⟩ := hm hmore
   obtain ⟨k1, k2, k3⟩ := fT hq hv hx (fun u hu => hb u (List.mem_cons_of_mem _ hu)) h (AV_merge g1 ha) (Rs_merge (absQ_nn t.2) g2 hr)
   refine ⟨k1, k2, fun w => ?_⟩
   rw [k3, SC_merge, g3]
   show _ = SC s w l + ((if t.1 = w then t.2 else 0) + co r w)
   grind
end Go.Proofs.YtcanljninhfmhaaGreat
