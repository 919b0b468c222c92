/- A part of the proof: SpF, SpG, SpH, SpI, SpJ, SpK, SpL, RtA. -/
import Derived.Test.YtcanljninhfmhaaGreatS38
import Derived.Test.YtcanljninhfmhaaGreatS37
import Derived.Test.YtcanljninhfmhaaGreatS31
import Derived.Test.YtcanljninhfmhaaGreatS30
import Derived.Test.YtcanljninhfmhaaGreatS33
set_option linter.all false
namespace Go.Proofs.YtcanljninhfmhaaGreat
open Go
set_option linter.unusedVariables false
def csum (K : Nat → Nat) (n : Nat) : Nat → Nat
 | 0 => 0
 | v + 1 => csum K n v + cst K n v
theorem csum_mono {K : Nat → Nat} {n a b : Nat} (h : a ≤ b) : csum K n a ≤ csum K n b := by
  induction b with
  | zero => have : a = 0 := by omega
            rw [this]; exact Nat.le_refl _
  | succ b ih =>
    by_cases e : a = b + 1
    · rw [e]; exact Nat.le_refl _
    · have := ih (by omega)
      show _ ≤ csum K n b + cst K n b
      omega
theorem aboveL_wt {s : Scp} {x : FQry} {K : Nat → Nat} (hq : s.q = x.q) (hx : x.small) (hK : ∀ i, 1 ≤ K i) (hL : LB K s.lems) {hi : Nat} : ∀ {ts : List (Int × Rat)} {l l' : List (Row × Rat)} {N lo : Nat},
  Cn ts → (∀ t, t ∈ ts → (lo : Int) ≤ t.1 ∧ t.1 < hi) → (∀ t, t ∈ ts → Fits 46 t.2) → lo ≤ hi → Wt s l N → s.aboveL ts l = some l' → ∃ M, M + csum K x.g.n lo ≤ N + csum K x.g.n hi ∧ Wt s l' M
 | [], l, l', N, lo, _, _, _, hlh, hw, h => by
  cases h
  exact ⟨N, by have := csum_mono (K := K) (n := x.g.n) hlh; omega, hw⟩
 | t :: r, l, l', N, lo, hc, hv, hf, hlh, hw, h => by
  obtain ⟨h1, h2⟩ := hv t List.mem_cons_self
  obtain ⟨v, hv1⟩ : ∃ v : Nat, t.1 = v := ⟨t.1.toNat, by omega⟩
  unfold Scp.aboveL at h
  have hm : ∀ {more : List (Row × Rat)}, (if 0 < sgnQ t.2 then some (s.atLeastM t.1) else s.atMostM t.1) = some more → ∃ B, B + 48 * more.length ≤ cst K x.g.n v ∧ Wt s more B := fun {more} g => by
   rw [hv1] at g
   split at g
   ·cases g; exact least_wt hq hx hK hL v
   ·exact most_wt hq hx hK hL v g
  split at h
  ·cases h
  ·rename_i more hmore
   obtain ⟨B, b1, b2⟩ := hm hmore
   obtain ⟨M1, m1, m2⟩ := Wt.merge (absQ_fits (hf t List.mem_cons_self)) b2 hw
   have hlo : ∀ u, u ∈ r → ((v + 1 : Nat) : Int) ≤ u.1 ∧ u.1 < hi := fun u hu => by
    have g1 := hc.lt u hu
    have g2 := (hv u (List.mem_cons_of_mem _ hu)).2
    omega
   obtain ⟨M, k1, k2⟩ := aboveL_wt hq hx hK hL (hi := hi) (lo := v + 1) hc.tail hlo (fun u hu => hf u (List.mem_cons_of_mem _ hu)) (by omega) m2 h
   refine ⟨M, ?_, k2⟩
   have c1 := csum_mono (K := K) (n := x.g.n) (a := lo) (b := v) (by omega)
   have c2 : csum K x.g.n (v + 1) = csum K x.g.n v + cst K x.g.n v := rfl
   have c3 : (46 + 2) * more.length = 48 * more.length := rfl
   omega
theorem upM_len (j : Int) (lo hi : Nat) (l u : Rat) : (upM j lo hi l u).length ≤ 2 := by unfold upM; split <;> (try split) <;> simp
theorem most_len {s : Scp} {v : Int} {more} (h : s.atMostM v = some more) : more.length ≤ 2 := by
 unfold Scp.atMostM at h
 split at h
 ·cases h; simp
 ·split at h
  ·cases h
  ·cases h; exact upM_len _ _ _ _ _
theorem least_len (s : Scp) (v : Int) : (s.atLeastM v).length ≤ 2 := by unfold Scp.atLeastM; split <;> simp
theorem aboveL_len {s : Scp} : ∀ {ts : List (Int × Rat)} {l l' : List (Row × Rat)}, s.aboveL ts l = some l' → l'.length ≤ l.length + 2 * ts.length
 | [], l, l', h => by cases h; simp
 | t :: r, l, l', h => by
  unfold Scp.aboveL at h
  split at h
  ·cases h
  ·rename_i more hmore
   have h1 : more.length ≤ 2 := by
    split at hmore
    ·cases hmore; exact least_len _ _
    ·exact most_len hmore
   have h2 := merge_len (absQ t.2) more l
   have h3 := aboveL_len h
   rw [List.length_cons]
   omega
theorem above_sz {s : Scp} {x : FQry} {K : Nat → Nat} (hq : s.q = x.q) (hx : x.small) (hK : ∀ i, 1 ≤ K i) (hL : LB K s.lems) {f : F} {hi : Nat} (hf : f.fl 46 7) (hw : f.wf hi) {v : Rat × List (Row × Rat)} (h : s.above f = some v) :
  Fits (49 + csum K x.g.n hi) v.1 ∧ (∀ t, t ∈ v.2 → Fits (csum K x.g.n hi) t.2) ∧ v.2.length ≤ 14 := by
 unfold Scp.above at h
 cases hl : s.aboveL f.ts [] with
 | none => rw [hl] at h; cases h
 | some l =>
  rw [hl] at h
  cases h
  obtain ⟨M, h1, h2⟩ := aboveL_wt hq hx hK hL (hi := hi) (lo := 0) hw.cn (fun t ht => by have := hw.v t ht; omega) hf.t (Nat.zero_le _) .nil hl
  have h3 : csum K x.g.n 0 = 0 := rfl
  have h4 := aboveL_len hl
  have h5 := hf.len
  refine ⟨((hf.sub h2.sum).c).mono (by omega), fun t ht => (h2.mem t ht).mono (by omega), ?_⟩
  show l.length ≤ 14
  simp only [List.length_nil] at h4
  omega
def KK : Nat → Nat
 | 0 => 230
 | 1 => 3450
 | 2 => 48530
 | _ => 679650
theorem KK_pos (i : Nat) : 1 ≤ KK i := by unfold KK; split <;> decide
theorem KK_ok {n j : Nat} (h1 : 1 ≤ n) (h2 : n ≤ 3) (h3 : j ≤ 3) : 49 + csum KK n (n + j) ≤ KK j := by
 have : ∀ n : Fin 4, ∀ j : Fin 4, 1 ≤ n.val → 49 + csum KK n.val (n.val + j.val) ≤ KK j.val := by decide +kernel
 exact this ⟨n, by omega⟩ ⟨j, by omega⟩ h1
theorem KK_le (i : Nat) : KK i ≤ 679650 := by unfold KK; split <;> decide
structure Lok (L : List Lem) (j : Nat) : Prop where
 lb : LB KK L
 len : L.length ≤ 2 * j
 pf : ∀ m, m ∈ L → Msz 679650 m.pf ∧ m.pf.length ≤ 14
 v : ∀ m, m ∈ L → ∃ q, m.v = ratR q
theorem msz_of {l : List (Row × Rat)} {k : Nat} (h : ∀ t, t ∈ l → Fits k t.2) (hl : l.length ≤ 14) : Msz k (mR l) := ⟨by rw [mR_len]; omega, fun m hm => by
 obtain ⟨t, ht, rfl⟩ := List.mem_map.1 hm
 exact ratR_sz (h t ht)⟩
theorem bnd_step {x : FQry} (hx : x.small) (hwf : ∀ (i : Nat) (f : F), x.g.us[i]? = some f → f.wf ((x.g.n + i : Nat) : Int)) {path : List Dec} {j : Nat} {f : F} (hfj : x.g.us[j]? = some f) {L : List Lem} (h : Lok L j) :
  Lok (L ++ bndL j ((⟨x.q, path, L⟩ : Scp).above f) ((⟨x.q, path, L⟩ : Scp).above (f.scale (-1)))) (j + 1) ∧ (∀ v, (⟨x.q, path, L⟩ : Scp).above (f.scale (-1)) = some v → Fits (2^20) v.1) := by
 obtain ⟨hlen, he⟩ := List.getElem?_eq_some_iff.1 hfj
 have hj : j ≤ 3 := by have := hx.g.us; omega
 have hf := hx.g.uf _ (List.mem_of_getElem? hfj)
 have hw := hwf j f hfj
 have ok := KK_ok hx.g.n1 hx.g.n2 hj
 have kl := KK_le j
 have key : ∀ {f : F} {v : Rat × List (Row × Rat)}, f.fl 46 7 → f.wf ((x.g.n + j : Nat) : Int) → (⟨x.q, path, L⟩ : Scp).above f = some v → Fits (KK j) v.1 ∧ Msz 679650 (mR v.2) ∧ (mR v.2).length ≤ 14 := fun hf hw hv => by
  obtain ⟨g1, g2, g3⟩ := above_sz (s := ⟨x.q, path, L⟩) rfl hx KK_pos h.lb hf hw hv
  exact ⟨g1.mono ok, msz_of (fun t ht => (g2 t ht).mono (by omega)) g3, by rw [mR_len]; exact g3⟩
 have kx := fun v hv => key (v := v) (hf.mono (by decide) (by decide)) hw hv
 have ky := fun v hv => key (v := v) ((hf.scale fits_neg1).mono (by decide) (by decide)) hw.scale hv
 refine ⟨?_, fun v hv => (ky v hv).1.mono (Nat.le_trans kl (by decide))⟩
 generalize (⟨x.q, path, L⟩ : Scp).above f = X at *
 generalize (⟨x.q, path, L⟩ : Scp).above (f.scale (-1)) = Y at *
 have mem : ∀ m, m ∈ bndL j X Y → m.u = (j : Int) ∧ Fits (KK j) m.v.q ∧ Msz 679650 m.pf ∧ m.pf.length ≤ 14 ∧ ∃ q, m.v = ratR q := fun m hm => by
  unfold bndL at hm
  rcases List.mem_append.1 hm with hm | hm
  ·cases X with
   | none => exact absurd hm (by simp)
   | some v =>
    have : m = ⟨j, false, ratR v.1, mR v.2⟩ := by simpa using hm
    obtain ⟨g1, g2, g3⟩ := kx v rfl
    rw [this]
    exact ⟨rfl, by show Fits _ (ratR v.1).q; rw [q_ratR]; exact g1, g2, g3, _, rfl⟩
  ·cases Y with
   | none => exact absurd hm (by simp)
   | some v =>
    have : m = ⟨j, true, ratR (-v.1), mR v.2⟩ := by simpa using hm
    obtain ⟨g1, g2, g3⟩ := ky v rfl
    rw [this]
    exact ⟨rfl, by show Fits _ (ratR (-v.1)).q; rw [q_ratR]; exact fits_neg g1, g2, g3, _, rfl⟩
 refine ⟨fun m hm => ?_, ?_, fun m hm => ?_, fun m hm => ?_⟩
 ·rcases List.mem_append.1 hm with hm | hm
  ·exact h.lb m hm
  ·exact ⟨j, (mem m hm).1, (mem m hm).2.1⟩
 ·rw [List.length_append]
  have : (bndL j X Y).length ≤ 2 := by unfold bndL; cases X <;> cases Y <;> simp
  have := h.len
  omega
 ·rcases List.mem_append.1 hm with hm | hm
  ·exact h.pf m hm
  ·exact ⟨(mem m hm).2.2.1, (mem m hm).2.2.2.1⟩
 ·rcases List.mem_append.1 hm with hm | hm
  ·exact h.v m hm
  ·exact (mem m hm).2.2.2.2
theorem bndG_ok {x : FQry} (hx : x.small) (hwf : ∀ (i : Nat) (f : F), x.g.us[i]? = some f → f.wf ((x.g.n + i : Nat) : Int)) {path : List Dec} : ∀ {us : List A} {j : Nat} {L : List Lem}, us = (x.g.us.drop j).map fA → Lok L j → Lok (bndG x.q path us j L) (j + us.length)
 | [], j, L, _, h => h
 | p :: r, j, L, hu, h => by
  have hlen : j < x.g.us.length := by
   have : (x.g.us.drop j).length ≠ 0 := by
    have : ((x.g.us.drop j).map fA).length ≠ 0 := by rw [← hu]; simp
    simpa using this
   rw [List.length_drop] at this
   omega
  have hd : x.g.us.drop j = x.g.us[j] :: x.g.us.drop (j + 1) := (List.drop_eq_getElem_cons hlen)
  rw [hd] at hu
  simp only [List.map_cons, List.cons.injEq] at hu
  obtain ⟨hp, hr⟩ := hu
  have e1 : p.f = x.g.us[j] := by rw [hp, f_fA]
  have hs := (bnd_step hx hwf (path := path) (j := j) (f := x.g.us[j]) (by simp [hlen]) h).1
  unfold bndG
  rw [e1]
  have := bndG_ok hx hwf (path := path) (us := r) (j := j + 1) hr hs
  rw [List.length_cons, show j + (r.length + 1) = j + 1 + r.length by omega]
  exact this
theorem fdG_wf (raw : List UInt8) (a : Nat) (i : Nat) (f : F) (h : (fdG raw a).1.us[i]? = some f) : f.wf (((fdG raw a).1.n + i : Nat) : Int) := by
 have := fdL_wf (raw := raw) (d := 1) h
 rw [Nat.mul_one] at this
 exact this
theorem bounded_ok (raw : List UInt8) : Lok (fdS raw).bounded.lems 4 := by
 have h := fdY_small raw 0
 have := bndG_ok h (fdG_wf raw 0) (path := (fdS raw).path) (us := (fdY raw 0).1.g.us.map fA) (j := 0) (L := []) (by simp) ⟨fun m hm => absurd hm (by simp), by simp, fun m hm => absurd hm (by simp), fun m hm => absurd hm (by simp)⟩
 have hl := h.g.us
 exact ⟨this.lb, by
  have := this.len
  rw [List.length_map] at this
  show (bndG _ _ _ _ _).length ≤ _
  exact Nat.le_trans this (by omega), this.pf, this.v⟩
theorem bounded_sz (raw : List UInt8) : (fdS raw).bounded.sz (2^20) := by
 have h := bounded_ok raw
 have g := fdS_sz raw
 refine ⟨g.q.mono (by decide), ⟨g.path.len, fun d hd => (g.path.sz d hd).mono (by decide)⟩, ⟨by have := h.len; omega, fun m hm => ?_, fun m hm => (h.pf m hm).1.mono (by decide)⟩⟩
 obtain ⟨q, hq⟩ := h.v m hm
 obtain ⟨i, _, hf⟩ := h.lb m hm
 rw [hq, q_ratR] at hf
 rw [hq]
 exact ratR_sz (hf.mono (Nat.le_trans (KK_le i) (by decide)))
end Go.Proofs.YtcanljninhfmhaaGreat

namespace Go.Proofs.YtcanljninhfmhaaGreat
open Go
set_option linter.unusedVariables false
theorem vT_of {N : Int} : ∀ {ts : List (Int × Rat)} {p : Int}, Cn ts → (∀ t, t ∈ ts → p < t.1 ∧ 0 ≤ t.1 ∧ t.1 < N) → vT N p (tR ts) = true
 | [], _, _, _ => rfl
 | t :: r, p, hc, h => by
  obtain ⟨h1, h2, h3⟩ := h t List.mem_cons_self
  have ih := vT_of (N := N) (p := t.1) hc.tail (fun u hu => ⟨hc.lt u hu, (h u (List.mem_cons_of_mem _ hu)).2⟩)
  show (decide (0 ≤ t.1) && decide (t.1 < N) && decide (p < t.1) && decide ((ratR t.2).q ≠ 0) && (ratR t.2).ok && vT N t.1 (tR r)) = true
  rw [ih, q_ratR, ok_ratR, decide_eq_true h1, decide_eq_true h2, decide_eq_true h3, decide_eq_true hc.hd]
  rfl
theorem F.wf.valid {f : F} {n : Int} (h : f.wf n) : (fA f).valid n = true := by
 have h1 := vT_of (N := n) (p := -1) h.cn (fun t ht => ⟨by have := (h.v t ht).1; omega, (h.v t ht).1, (h.v t ht).2⟩)
 show (vT n (-1) (tR f.ts) && (ratR f.c).ok) = true
 rw [h1, ok_ratR]
 rfl
theorem vU_of : ∀ {l : List F} {k : Int}, (∀ (i : Nat) (f : F), l[i]? = some f → f.wf (k + i)) → vU k (l.map fA) = true
 | [], _, _ => rfl
 | f :: r, k, h => by
  have h0 := h 0 f rfl
  rw [show k + ((0 : Nat) : Int) = k by omega] at h0
  have ih := vU_of (l := r) (k := k + 1) (fun i g hg => by
   have := h (i + 1) g (by simpa using hg)
   rw [show k + ((i + 1 : Nat) : Int) = k + 1 + i by omega] at this
   exact this)
  show ((fA f).valid k && vU (k + 1) (r.map fA)) = true
  rw [h0.valid, ih]
  rfl
theorem all_of {l : List F} {n : Int} (h : ∀ f, f ∈ l → f.wf n) : (l.map fA).all (A.valid n) = true := by
 rw [List.all_eq_true]
 intro a ha
 obtain ⟨f, hf, rfl⟩ := List.mem_map.1 ha
 exact (h f hf).valid
theorem vB_of : ∀ {l : List (Rat × Rat)}, (∀ b, b ∈ l → b.1 ≤ b.2) → vB (l.map fun b => ratR b.1) (l.map fun b => ratR b.2) = true
 | [], _ => rfl
 | b :: r, h => by
  have ih := vB_of (l := r) (fun c hc => h c (List.mem_cons_of_mem _ hc))
  have hb := h b List.mem_cons_self
  show ((ratR b.1).ok && (ratR b.2).ok && decide (cmpQ (ratR b.1).q (ratR b.2).q ≤ 0) && vB _ _) = true
  rw [ih, ok_ratR, ok_ratR, q_ratR, q_ratR, decide_eq_true (by unfold cmpQ; split <;> (try split) <;> grind)]
  rfl
theorem mem_get {α : Type} {l : List α} {a : α} (h : a ∈ l) : ∃ i : Nat, l[i]? = some a := List.mem_iff_getElem?.1 h
structure FQry.ok (x : FQry) : Prop where
 us : ∀ (i : Nat) (f : F), x.g.us[i]? = some f → f.wf ((x.g.n + i : Nat) : Int)
 os : ∀ f, f ∈ x.g.os → f.wf ((x.g.n + x.g.us.length : Nat) : Int)
 rows : ∀ f, f ∈ x.r.rows → f.wf (x.g.n : Int)
 goal : x.goal.wf ((x.g.n + x.g.us.length : Nat) : Int)
theorem fdY_ok (raw : List UInt8) (a : Nat) : (fdY raw a).1.ok where
 us := fdG_wf raw a
 os := fun f hf => by
  obtain ⟨i, hi⟩ := mem_get hf
  have := fdL_wf (raw := raw) (d := 0) hi
  rw [Nat.mul_zero, Nat.add_zero] at this
  have e : (fdY raw a).1.g.us.length = fdN raw 5 (na raw a) := fdL_len raw 1 _ _ _
  rw [e]
  exact this
 rows := fun f hf => by
  obtain ⟨i, hi⟩ := mem_get hf
  have := fdL_wf (raw := raw) (d := 0) hi
  rw [Nat.mul_zero, Nat.add_zero] at this
  exact this
 goal := fdF_wf raw _ _
theorem FQry.small.valid {x : FQry} (h : x.small) (g : x.ok) : x.q.valid = true := by
 have h1 := h.g.n1
 have h2 := h.g.n2
 have h3 := h.g.us
 have h4 := h.g.o1
 have h5 := h.g.o2
 have h6 := h.r.bs
 have h7 := h.r.rows
 have hv : x.g.g.vars = ((x.g.n + x.g.us.length : Nat) : Int) := by
  show (x.g.n : Int) + ((x.g.us.map fA).length : Int) = _
  rw [List.length_map]; omega
 have hn : x.g.g.n = (x.g.n : Int) := rfl
 have hg : x.g.g.valid = true := by
  unfold Grp.valid
  rw [hv]
  have a1 : vU x.g.g.n x.g.g.us = true := vU_of (l := x.g.us) (k := (x.g.n : Int)) (fun i f hf => by
   have := g.us i f hf
   rw [show ((x.g.n + i : Nat) : Int) = (x.g.n : Int) + i by omega] at this
   exact this)
  have a2 : x.g.g.os.all (A.valid ((x.g.n + x.g.us.length : Nat) : Int)) = true := all_of g.os
  rw [a1, a2, decide_eq_true ⟨by rw [hn]; omega, by rw [hn]; omega, by show (x.g.us.map fA).length ≤ _; rw [List.length_map]; omega, by show 1 ≤ (x.g.os.map fA).length; rw [List.length_map]; omega, by show (x.g.os.map fA).length ≤ _; rw [List.length_map]; omega⟩]
  rfl
 have hr : x.r.g.valid (x.g.n : Int) = true := by
  unfold Reg.valid
  have a1 : vB x.r.g.lo x.r.g.hi = true := vB_of h.r.ord
  have a2 : x.r.g.rows.all (A.valid (x.g.n : Int)) = true := all_of g.rows
  rw [a1, a2, decide_eq_true ⟨by omega, by omega, by show ((x.r.bs.map _).length : Int) = _; rw [List.length_map]; omega, by show ((x.r.bs.map _).length : Int) = _; rw [List.length_map]; omega, by show (x.r.rows.map fA).length ≤ _; rw [List.length_map]; omega⟩]
  rfl
 have hgo : (fA x.goal).valid x.g.g.vars = true := by rw [hv]; exact g.goal.valid
 show (x.g.g.valid && x.r.g.valid x.g.g.n && (fA x.goal).valid x.g.g.vars) = true
 rw [hg, hn, hr, hgo]
 rfl
end Go.Proofs.YtcanljninhfmhaaGreat

namespace Go.Proofs.YtcanljninhfmhaaGreat
open Go
set_option linter.unusedVariables false
end Go.Proofs.YtcanljninhfmhaaGreat

namespace Go.Proofs.YtcanljninhfmhaaGreat
open Go
set_option linter.unusedVariables false
end Go.Proofs.YtcanljninhfmhaaGreat

namespace Go.Proofs.YtcanljninhfmhaaGreat
open Go
set_option linter.unusedVariables false
end Go.Proofs.YtcanljninhfmhaaGreat

namespace Go.Proofs.YtcanljninhfmhaaGreat
open Go
set_option linter.unusedVariables false
end Go.Proofs.YtcanljninhfmhaaGreat

namespace Go.Proofs.YtcanljninhfmhaaGreat
open Go
set_option linter.unusedVariables false
theorem cn_num (q : Rat) : Cn (F.num q).ts := Cn.nil
theorem cn_sub {f g : F} (hf : Cn f.ts) (hg : Cn g.ts) : Cn (f.sub g).ts := Cn.mrg hf hg
theorem cn_add {f g : F} (hf : Cn f.ts) (hg : Cn g.ts) : Cn (f.add g).ts := Cn.mrg hf hg
theorem cn_scale {f : F} {c : Rat} (hf : Cn f.ts) : Cn (f.scale c).ts := Cn.mrg Cn.nil hf
theorem unF_cn {s : Scp} {r : Row} {p v f : F} {l u : Option Rat} (hp : Cn p.ts) (hv : Cn v.ts) (h : unF s r p v l u = some f) : Cn f.ts := by
 have two : ∀ {c : Prop} [Decidable c] {x : F}, (if c then some x else none) = some f → x = f := fun h => by
  split at h
  ·exact Option.some.inj h
  ·cases h
 unfold unF at h
 by_cases h5 : r.k = 5
 ·rw [if_pos h5] at h; rw [← two h]; exact hv
 rw [if_neg h5] at h
 by_cases h6 : r.k = 6
 ·rw [if_pos h6] at h; rw [← two h]; exact cn_sub hv hp
 rw [if_neg h6] at h
 by_cases h7 : r.k = 7
 ·rw [if_pos h7] at h; rw [← two h]; exact cn_add hp Cn.nil
 rw [if_neg h7] at h
 by_cases h8 : r.k = 8
 ·rw [if_pos h8] at h; rw [← two h]; exact cn_sub hp hv
 rw [if_neg h8] at h
 by_cases h9 : r.k = 9
 ·rw [if_pos h9] at h; rw [← two h]; exact cn_scale hp
 rw [if_neg h9] at h
 by_cases h10 : r.k = 10
 ·rw [if_pos h10] at h; rw [← two h]; exact cn_scale hv
 rw [if_neg h10] at h
 by_cases h11 : r.k = 11
 ·rw [if_pos h11] at h; rw [← two h]; exact cn_sub hp (cn_num _)
 rw [if_neg h11] at h
 by_cases h12 : r.k = 12
 ·rw [if_pos h12] at h; rw [← two h]; exact cn_sub (cn_num _) hp
 rw [if_neg h12] at h
 by_cases h13 : r.k = 13
 ·rw [if_pos h13] at h; rw [← two h]; exact cn_sub (cn_scale (cn_sub hp (cn_num _))) (cn_scale hv)
 rw [if_neg h13] at h
 cases h
end Go.Proofs.YtcanljninhfmhaaGreat

namespace Go.Proofs.YtcanljninhfmhaaGreat
open Go
set_option linter.unusedVariables false
set_option maxRecDepth 100000
set_option maxHeartbeats 2000000
theorem hfR21Lem : Pg.funcs[159]? = some Tryz.f159 := by rw [Pg_eq]; rfl
theorem sR21Lem (s : Scp) (n unit : Int) (up : Bool) (hs : Lsz (2^32) s.lems) : SoundS 159 [sv s, .int .i64 (fun _ => n), .int .i64 (fun _ => unit), .bool (fun _ => up)] (.tup [rv (ratR ((s.lem n unit up).getD 0)), .bool (fun _ => (s.lem n unit up).isSome)]) := by
 refine sound_fn hfR21Lem rfl rfl rfl rfl rfl ?_
 have hno := fun h => lem_no (s := s) (n := n) (unit := unit) (up := up) h
 have hat := fun (m : Lem) h1 h2 h3 => lem_at (s := s) (n := n) (unit := unit) (up := up) (m := m) h1 h2 h3
 have hsl := hs.len
 have hss := hs.sz
 generalize s.lem n unit up = o at *
 obtain ⟨⟨⟨gn, us, os⟩, ⟨lo, hi, rows⟩, ⟨ts, c1, c2, c3⟩⟩, path, lems⟩ := s
 simp only at hno hat hsl hss
 have fin : ∀ (W : R) (b : Bool), o = none → W = ratR (o.getD 0) ∧ b = o.isSome → W = R0 ∧ b = false := fun W b h1 h2 => by
  rw [h1] at h2
  exact ⟨by rw [h2.1]; exact ratR_zero, h2.2⟩
 obtain ⟨W, hW⟩ : ∃ W, W = ratR (o.getD 0) := ⟨_, rfl⟩
 obtain ⟨b, hb⟩ : ∃ b, b = o.isSome := ⟨_, rfl⟩
 rw [← hW, ← hb]
 have fin' : o = none → W = R0 ∧ b = false := fun h => fin W b h ⟨hW, hb⟩
 have fin2 : ∀ q, o = some q → W = ratR q ∧ b = true := fun q h => by rw [h] at hW hb; exact ⟨hW, hb⟩
 clear fin hW hb
 obtain ⟨W1, W2, W3⟩ := W
 have fin3 : o = none → W1 = false ∧ W2 = [] ∧ W3 = [] ∧ b = false := fun h => by
  obtain ⟨h1, h2⟩ := fin' h
  simp only [R.mk.injEq] at h1
  exact ⟨h1.1, h1.2.1, h1.2.2, h2⟩
 clear fin'
 cbv
 refine br_dec (fun e1 => ?_) (fun e1 => ?_)
 ·cbv
  obtain ⟨g1, g2, g3, g4⟩ := fin3 (hno (by omega))
  subst g1 g2 g3 g4
  (refine retC rfl ?_; cbv)
  exact ⟨⟨leS_ff rfl, leS_nil rfl, leS_nil rfl, trivial⟩, leS_ff rfl, trivial⟩
 cbv
 refine br_dec (fun e2 => ?_) (fun e2 => ?_)
 ·cbv
  obtain ⟨g1, g2, g3, g4⟩ := fin3 (hno (by rw [enc_len] at e2; (try dsimp only [ncast] at *); omega))
  subst g1 g2 g3 g4
  (refine retC rfl ?_; cbv)
  exact ⟨⟨leS_ff rfl, leS_nil rfl, leS_nil rfl, trivial⟩, leS_ff rfl, trivial⟩
 cbv
 rw [enc_len] at e2
 obtain ⟨m, hm⟩ : ∃ m, lems[(n - 1).toNat]? = some m := get_some (by (try dsimp only [ncast] at *); omega)
 have hat' := hat m (by omega) (by (try dsimp only [ncast] at *); omega) hm
 have hms := hss m (List.mem_of_getElem? hm)
 have cc := s47 m.v hms
 have idx : ∀ {K : List PV → Prop}, K (lc m) → IdxOk 6 (fun _ => enc lc lems) (fun _ => n - 1) K := fun hK => idx_enc (l := lems) (n - 1).toNat (by omega) (by (try dsimp only [ncast] at *); omega) lc_flat lc_len (fun m' hm' => by rw [hm] at hm'; cases hm'; exact hK)
 generalize hq : m.v.q = q at *
 obtain ⟨mu, mup, ⟨v1, v2, v3⟩, mpf⟩ := m
 simp only at hat'
 clear hat hno hq
 generalize hwq : ratR q = wq at *
 refine ⟨in64_of om om, idx ?_⟩
 cbv
 refine br_dec (fun e3 => ?_) (fun e3 => ?_)
 ·cbv
  refine ⟨in64_of om om, idx ?_⟩
  cbv
  refine cut_dec (fun e4 => ?_) (fun e4 => ?_)
  ·cbv
   obtain ⟨g1, g2⟩ := fin2 q (by rw [hat', if_pos ⟨e3, e4⟩])
   rw [hwq] at g1
   subst g1 g2
   refine ⟨in64_of om om, idx ?_⟩
   cbv
   refine callS' rfl okA (cc) rfl ?_
   cbv
   (refine retC rfl ?_; cbv)
   exact ⟨⟨leS_refl _, leS_refl _, leS_refl _, trivial⟩, leS_tt rfl, trivial⟩
  ·cbv
   obtain ⟨g1, g2, g3, g4⟩ := fin3 (by rw [hat', if_neg (fun h => e4 h.2)])
   subst g1 g2 g3 g4
   (refine retC rfl ?_; cbv)
   exact ⟨⟨leS_ff rfl, leS_nil rfl, leS_nil rfl, trivial⟩, leS_ff rfl, trivial⟩
 ·cbv
  obtain ⟨g1, g2, g3, g4⟩ := fin3 (by rw [hat', if_neg (fun h => e3 h.1)])
  subst g1 g2 g3 g4
  (refine retC rfl ?_; cbv)
  exact ⟨⟨leS_ff rfl, leS_nil rfl, leS_nil rfl, trivial⟩, leS_ff rfl, trivial⟩
theorem hfR21Dec : Pg.funcs[102]? = some Tryz.f102 := by rw [Pg_eq]; rfl
theorem sR21Dec (s : Scp) (kind unit : Int) (hs : Dsz (2^32) s.path) : SoundS 102 [sv s, .int .i64 (fun _ => kind), .int .i64 (fun _ => unit)] (.bool (fun _ => s.dcd kind unit)) := by
 refine sound_fn hfR21Dec rfl rfl rfl rfl rfl ?_
 have cf : ∀ d, d ∈ s.path → SoundS 107 [qv s.q, dv d] (.bool (fun _ => d.fits s.q)) := fun d h => sR21F0 s.q d (hs.sz d h)
 have hpl := hs.len
 generalize hr : s.dcd kind unit = r
 have hr0 : r = (s.path.drop 0).any (fun d => decide (d.k = kind) && (decide (d.i = unit) && d.fits s.q)) := hr.symm
 obtain ⟨ft, hft⟩ : ∃ ft : Dec → Bool, ∀ d, ft d = d.fits s.q := ⟨_, fun _ => rfl⟩
 simp only [← hft] at cf hr0
 obtain ⟨P, hP⟩ : ∃ P : Dec → Bool, (fun d => decide (d.k = kind) && (decide (d.i = unit) && ft d)) = P := ⟨_, rfl⟩
 rw [hP] at hr0
 have hPd : ∀ d, P d = (decide (d.k = kind) && (decide (d.i = unit) && ft d)) := fun d => by rw [← hP]
 clear hP hft hr hs
 cbv
 refine loop_n (σ := Nat) (fun i => ⟨[(1, .int .i64 (fun _ => kind)), (2, .int .i64 (fun _ => unit)), (3, .ptr 3 0), (7, .int .i64 (fun _ => (i : Int)))], [(3, .box (sc s))]⟩) (fun i => i ≤ s.path.length ∧ r = (s.path.drop i).any P) (fun i => s.path.length - i) 0 ⟨by omega, hr0⟩ (.le okZ okZ rfl) ?_
 clear hr0
 intro i hi
 obtain ⟨h1, h2⟩ := hi
 cbv
 refine cut_dec (fun h5 => ?_) (fun h5 => ?_)
 ·have hlt := enc_lt h5
  obtain ⟨d, hd⟩ := get_some hlt
  have cv := cf d (List.mem_of_getElem? hd)
  rw [drop_of_get hd, List.any_cons, hPd] at h2
  generalize ft d = fd at *
  generalize hrest : (s.path.drop (i + 1)).any P = rest at *
  cbv
  refine draw_of 28 (by cbv) ?_
  cbv
  refine idx_at hd dc_flat dc_len ?_
  cbv
  refine br_dec (fun e1 => ?_) (fun e1 => ?_)
  rotate_left
  ·rw [decide_eq_false e1, Bool.false_and, Bool.false_or] at h2
   cbv
   exact ⟨in64_of om om, i + 1, ⟨om, by rw [h2, hrest]⟩, om, .le okZ okZ rfl⟩
  rw [decide_eq_true e1, Bool.true_and] at h2
  cbv
  refine idx_at hd dc_flat dc_len ?_
  cbv
  refine br_dec (fun e2 => ?_) (fun e2 => ?_)
  rotate_left
  ·rw [decide_eq_false e2, Bool.false_and, Bool.false_or] at h2
   cbv
   exact ⟨in64_of om om, i + 1, ⟨om, by rw [h2, hrest]⟩, om, .le okZ okZ rfl⟩
  rw [decide_eq_true e2, Bool.true_and] at h2
  cbv
  refine idx_at hd dc_flat dc_len ?_
  cbv
  refine callS_d okA (cv) rfl ?_
  cbv
  refine cut_bool (fun e3 => ?_) (fun e3 => ?_)
  ·rw [e3, Bool.true_or] at h2
   cbv
   (refine retC rfl ?_; cbv)
   exact leS_tt h2
  ·rw [e3, Bool.false_or] at h2
   cbv
   exact ⟨in64_of om om, i + 1, ⟨om, by rw [h2, hrest]⟩, om, .le okZ okZ rfl⟩
 ·have he := enc_ge h5 h1
  rw [he, List.drop_length] at h2
  have h2' : r = false := h2
  cbv
  (refine retC rfl ?_; cbv)
  exact leS_ff h2'
theorem sFAdd {f g : F} (hf : Cn f.ts) (hg : Cn g.ts) {k n k' n' : Nat} (h1 : f.fl k n) (h2 : g.fl k' n') (hk : k ≤ 2^26) (hk' : k' ≤ 2^26) (hn : n ≤ 2^35) (hn' : n' ≤ 2^35) : SoundS 26 [fv f, fv g] (fv (f.add g)) := by
 have h := sRgAdd f.ts (ratR f.c) (fA g) hf (by rw [show (fA g).ts = tR g.ts from rfl, tq_tR]; exact hg) ⟨by have := h1.len; omega, fun t ht => (h1.t t ht).mono (by omega)⟩ ((ratR_sz h1.c).mono (by omega)) ((fl_sz h2 (by omega)).mono (by omega)) (by have := h1.len; have := h2.len; rw [show (fA g).ts = tR g.ts from rfl, tR_len]; omega)
 rw [f_fA, q_ratR] at h
 exact h
theorem sFSub {f g : F} (hf : Cn f.ts) (hg : Cn g.ts) {k n k' n' : Nat} (h1 : f.fl k n) (h2 : g.fl k' n') (hk : k ≤ 2^26) (hk' : k' ≤ 2^26) (hn : n ≤ 2^35) (hn' : n' ≤ 2^35) : SoundS 27 [fv f, fv g] (fv (f.sub g)) := by
 have h := sRgSub f.ts (ratR f.c) (fA g) hf (by rw [show (fA g).ts = tR g.ts from rfl, tq_tR]; exact hg) ⟨by have := h1.len; omega, fun t ht => (h1.t t ht).mono (by omega)⟩ ((ratR_sz h1.c).mono (by omega)) ((fl_sz h2 (by omega)).mono (by omega)) (by have := h1.len; have := h2.len; rw [show (fA g).ts = tR g.ts from rfl, tR_len]; omega)
 rw [f_fA, q_ratR] at h
 exact h
theorem sFScale {f : F} {q : Rat} {k n m : Nat} (h1 : f.fl k n) (hq : Fits m q) (hk : k ≤ 2^31) (hn : n ≤ 2^35) (hm : m ≤ 2^31) : SoundS 47 [fv f, rv (ratR q)] (fv (f.scale q)) := by
 have h := sRgScale (fA f) (ratR q) ((fl_sz h1 (by omega)).mono (by omega)) ((ratR_sz hq).mono (by omega))
 rw [f_fA, q_ratR] at h
 exact h
theorem ok_eq {x : R} (h : x.ok = true) : ratR x.q = x := (of_decide_eq_true h).symm
theorem vT_canon {vars : Int} : ∀ {ts : List (Int × R)} {p : Int}, vT vars p ts = true → tR (tq ts) = ts ∧ Cn (tq ts) ∧ ∀ t, t ∈ tq ts → p < t.1
 | [], p, _ => ⟨rfl, Cn.nil, fun t h => absurd h (by simp [tq])⟩
 | t :: r, p, h => by
  rw [vT_cons] at h
  simp only [Bool.and_eq_true, decide_eq_true_eq] at h
  obtain ⟨⟨⟨⟨⟨h1, h2⟩, h3⟩, h4⟩, h5⟩, h6⟩ := h
  obtain ⟨g1, g2, g3⟩ := vT_canon h6
  refine ⟨?_, ?_, fun u hu => ?_⟩
  ·show (t.1, ratR t.2.q) :: tR (tq r) = t :: r
   rw [g1, ok_eq h5]
  ·exact Cn.cons (t := (t.1, t.2.q)) g2 g3 h4
  ·rcases List.mem_cons.1 hu with rfl | hu
   ·exact h3
   ·have := g3 u hu; omega
theorem valid_canon {a : A} {vars : Int} (h : a.valid vars = true) : fA a.f = a ∧ Cn a.f.ts := by
 unfold A.valid at h
 simp only [Bool.and_eq_true] at h
 obtain ⟨g1, g2, _⟩ := vT_canon h.1
 refine ⟨?_, g2⟩
 obtain ⟨ts, c⟩ := a
 show (⟨tR (tq ts), ratR c.q⟩ : A) = ⟨ts, c⟩
 rw [g1, ok_eq h.2]
theorem add_zero {f : F} (h : Cn f.ts) : f.add F.zero = f := by
 refine F.ext' ?_ ?_
 ·refine (Cn.mrg h Cn.nil).ext h (fun v => ?_)
  show co (mrg 1 f.ts []) v = _
  rw [co_mrg]; simp only [co]; grind
 ·show f.c + 0 * 1 = f.c
  grind
structure Qry.can (q : Qry) : Prop where
 us : ∀ a, a ∈ q.g.us → fA a.f = a ∧ Cn a.f.ts
 os : ∀ a, a ∈ q.g.os → fA a.f = a ∧ Cn a.f.ts
 rows : ∀ a, a ∈ q.r.rows → fA a.f = a ∧ Cn a.f.ts
 lo : ∀ x, x ∈ q.r.lo → ratR x.q = x
 hi : ∀ x, x ∈ q.r.hi → ratR x.q = x
theorem vB_ok : ∀ {lo hi : List R}, lo.length = hi.length → vB lo hi = true → (∀ x, x ∈ lo → ratR x.q = x) ∧ ∀ x, x ∈ hi → ratR x.q = x := fun he h => by
 rw [vB_split he] at h
 simp only [Bool.and_eq_true, List.all_eq_true] at h
 exact ⟨fun x hx => ok_eq (h.1 x hx), fun x hx => ok_eq (h.2.1 x hx)⟩
theorem Qry.can_of {q : Qry} (h : q.valid = true) : q.can := by
 unfold Qry.valid Grp.valid Reg.valid at h
 simp only [Bool.and_eq_true, decide_eq_true_eq, List.all_eq_true] at h
 obtain ⟨⟨⟨⟨h1, h2⟩, h3⟩, ⟨h4, h5⟩, h6⟩, h7⟩ := h
 obtain ⟨b1, b2⟩ := vB_ok (by omega) h5
 refine ⟨fun a ha => ?_, fun a ha => valid_canon (h3 a ha), fun a ha => valid_canon (h6 a ha), b1, b2⟩
 obtain ⟨j, _, hj⟩ := vU_mem h2 ha
 exact valid_canon hj
end Go.Proofs.YtcanljninhfmhaaGreat
