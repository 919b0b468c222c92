/- CONTRACTS: the reference 22 (derivations): Collect. * CONTRACTS: the package of the statements about derivations: few, copied, example, awake. -/
import Derived.Test.YtbehbhicjmjdhaaGreatQ37
import Derived.Test.YtbehbhicjmjdhaaGreatQ35
import Derived.Test.YtbehbhicjmjdhaaGreatQ32

namespace Go.Proofs.YtbehbhicjmjdhaaGreat
open Go
set_option linter.unusedVariables false
set_option maxRecDepth 100000
set_option maxHeartbeats 2000000

def rfold (l : List Mult) : List (Row × Rat) := l.foldl (fun a m => plMq a m.row m.c.q) []
def rcol (l : List Mult) : Int × List (Row × Rat) := if (l.any fun m => decide (sgnQ m.c.q < 0)) = true then (1, []) else (0, rfold l)
theorem rfold_snoc (l : List Mult) (m : Mult) : rfold (l ++ [m]) = plMq (rfold l) m.row m.c.q := by unfold rfold; rw [List.foldl_append]; rfl
theorem plM_len (r : Row) (q : Rat) : ∀ l, (plM r q l).length ≤ l.length + 1
  | [] => by simp [plM]
  | t :: rest => by
    have := plM_len r q rest
    unfold plM
    split
    · simp; omega
    · split <;> simp
theorem plM_fit {r : Row} {q : Rat} {k m : Nat} (hq : Fits m q) : ∀ {l : List (Row × Rat)}, (∀ t, t ∈ l → Fits k t.2) → ∀ t, t ∈ plM r q l → Fits (k + m + 1) t.2
  | [], _, t, h => by
    have : t = (r, q) := by simpa [plM] using h
    rw [this]; exact hq.mono (by omega)
  | a :: rest, hl, t, h => by
    unfold plM at h
    split at h
    · rcases List.mem_cons.1 h with rfl | h
      · exact (hl _ List.mem_cons_self).mono (by omega)
      · exact plM_fit hq (fun u hu => hl u (List.mem_cons_of_mem _ hu)) t h
    · split at h
      · rcases List.mem_cons.1 h with rfl | h
        · exact (fits_add (hl a List.mem_cons_self) hq).mono (by omega)
        · exact (hl t (List.mem_cons_of_mem _ h)).mono (by omega)
      · rcases List.mem_cons.1 h with rfl | h
        · exact hq.mono (by omega)
        · exact (hl t h).mono (by omega)
theorem plMq_fit {l : List (Row × Rat)} {r : Row} {q : Rat} {k m : Nat} (hq : Fits m q) (hl : ∀ t, t ∈ l → Fits k t.2) : ∀ t, t ∈ plMq l r q → Fits (k + m + 1) t.2 := fun t h => by
  unfold plMq at h
  split at h
  · exact (hl t h).mono (by omega)
  · exact plM_fit hq hl t h
theorem plMq_len (l : List (Row × Rat)) (r : Row) (q : Rat) : (plMq l r q).length ≤ l.length + 1 := by
  unfold plMq
  split
  · omega
  · exact plM_len r q l
theorem rfold_mfit {l : List Mult} (hs : Msz (2^20) l) : ∀ i, (∀ t, t ∈ rfold (l.take i) → Fits (1 + 2^21 * i) t.2) ∧ (rfold (l.take i)).length ≤ i
  | 0 => ⟨fun t h => absurd h (by simp [rfold]), by simp [rfold]⟩
  | i + 1 => by
    obtain ⟨h1, h2⟩ := rfold_mfit hs i
    cases hx : l[i]? with
    | none =>
      have : l.take (i + 1) = l.take i := by rw [List.take_add_one, hx]; simp
      rw [this]
      exact ⟨fun t h => (h1 t h).mono (by omega), by omega⟩
    | some m =>
      have : l.take (i + 1) = l.take i ++ [m] := by rw [List.take_add_one, hx]; rfl
      rw [this, rfold_snoc]
      exact ⟨fun t h => (plMq_fit ((hs.sz m (List.mem_of_getElem? hx)).fits (by decide)) h1 t h).mono (by omega), by have := plMq_len (rfold (l.take i)) m.row m.c.q; omega⟩
theorem hfRdCol : Pg.funcs[8]? = some Tryz.f8 := by rw [Pg_eq]; rfl
theorem sRdCol (l : List Mult) (hs : Msz (2^20) l) (hn : l.length ≤ 100) : SoundS 8 [mlv l] (.tup [mlv (mR (rcol l).2), .int .i64 (fun _ => (rcol l).1)]) := by
  refine sound_fn hfRdCol rfl rfl rfl rfl rfl ?_
  have hsz := hs.sz
  have hplus : ∀ i m, l[i]? = some m → SoundS 26 [mlv (mR (rfold (l.take i))), rwv m.row, rv m.c] (mlv (mR (rfold (l.take (i + 1))))) := fun i m hm => by
    obtain ⟨h1, h2⟩ := rfold_mfit hs i
    have hi := (List.getElem?_eq_some_iff.1 hm).1
    have := sPlM (rfold (l.take i)) m.row m.c ⟨by omega, fun t ht => (h1 t ht).mono (by omega)⟩ ((hsz m (List.mem_of_getElem? hm)).mono (by decide))
    rw [← rfold_snoc] at this
    have e : l.take (i + 1) = l.take i ++ [m] := by rw [List.take_add_one, hm]; rfl
    rw [e]
    exact this
  have hneg : ∀ m, m ∈ l → sgnQ m.c.q < 0 → rcol l = (1, []) := fun m hm h => if_pos (List.any_eq_true.2 ⟨m, hm, by simpa using h⟩)
  have hpos : (∀ m, m ∈ l → ¬ sgnQ m.c.q < 0) → rcol l = (0, rfold l) := fun h => if_neg (fun e => by
    obtain ⟨m, h1, h2⟩ := List.any_eq_true.1 e
    exact h m h1 (by simpa using h2))
  obtain ⟨P, hP⟩ : ∃ P : Nat → List (Row × Rat), ∀ i, P i = rfold (l.take i) := ⟨_, fun _ => rfl⟩
  have hplus' : ∀ i m, l[i]? = some m → SoundS 26 [mlv (mR (P i)), rwv m.row, rv m.c] (mlv (mR (P (i + 1)))) := fun i m hm => by rw [hP, hP]; exact hplus i m hm
  have hP0 : P 0 = [] := by rw [hP]; rfl
  have hPe : rfold l = P l.length := by rw [hP, List.take_length]
  rw [hPe] at hpos
  obtain ⟨M, hM⟩ : ∃ M, M = (rcol l).2 := ⟨_, rfl⟩
  obtain ⟨e, he⟩ : ∃ e, e = (rcol l).1 := ⟨_, rfl⟩
  rw [← hM, ← he]
  have e0 : ∀ m, m ∈ l → sgnQ m.c.q < 0 → M = [] ∧ e = 1 := fun m h g => by rw [hneg m h g] at hM he; exact ⟨hM, he⟩
  have e1 : (∀ m, m ∈ l → ¬ sgnQ m.c.q < 0) → M = P l.length ∧ e = 0 := fun h => by rw [hpos h] at hM he; exact ⟨hM, he⟩
  clear hneg hpos hM he hplus hP hPe hs
  cbv
  refine loop_n (σ := Nat) (fun i => ⟨[(0, mlv l), (4, mlv (mR (P i))), (5, .int .i64 (fun _ => (i : Int)))], []⟩)
    (fun i => i ≤ l.length ∧ ∀ (j : Nat) m, j < i → l[j]? = some m → ¬ sgnQ m.c.q < 0) (fun i => l.length - i) 0 ⟨by omega, fun j m h => absurd h (by omega)⟩ (.le ?_ ?_ rfl) ?_
  · cbv
    exact ⟨leS_refl _, leS_nil (by rw [hP0]; rfl), leS_refl _, trivial⟩
  · cbv
  clear hP0
  intro i hi
  obtain ⟨h1, h2⟩ := hi
  cbv
  refine cut_dec (fun h5 => ?_) (fun h5 => ?_)
  · have hlt : i < l.length := by rw [enc_len] at h5; (try dsimp only [ncast] at *); omega
    obtain ⟨m, hm⟩ := get_some hlt
    have hmem := List.mem_of_getElem? hm
    have idx : ∀ {K : List PV → Prop}, K (mc m) → IdxOk 7 (fun _ => enc mc l) (fun _ => (i : Int)) K := fun hK => idx_enc (l := l) i rfl hlt mc_flat mc_len (fun m' hm' => by rw [hm] at hm'; cases hm'; exact hK)
    have cs := s35 m.c (by have := (hsz m hmem).n; omega)
    have cp := hplus' i m hm
    have e0' := e0 m hmem
    have h2' : ¬ sgnQ m.c.q < 0 → ∀ (j : Nat) m, j < i + 1 → l[j]? = some m → ¬ sgnQ m.c.q < 0 := fun h j m' hj hm' => by
      rcases Nat.lt_or_ge j i with g | g
      · exact h2 j m' g hm'
      · have : j = i := by omega
        subst this
        rw [hm] at hm'
        cases hm'
        exact h
    generalize hsg : sgnQ m.c.q = sg at *
    generalize hp1 : P (i + 1) = p1 at *
    generalize P i = p0 at *
    cbv
    refine idx ?_
    cbv
    refine callS' rfl (by repeat' first | exact trivial | exact leS_refl _ | exact leS_tt rfl | exact leS_ff rfl | exact leS_nil rfl | apply And.intro) (cs) rfl ?_
    cbv
    refine cut_dec (fun e2 => ?_) (fun e2 => ?_)
    · obtain ⟨q1, q2⟩ := e0' e2
      cbv
      subst q1 q2
      (refine retC rfl ?_; cbv)
      exact ⟨leS_nil rfl, leS_refl _, trivial⟩
    · have h3 := h2' e2
      cbv
      refine draw_of 13 (by cbv) ?_
      cbv
      refine idx ?_
      cbv
      refine idx ?_
      cbv
      refine callS_d (by repeat' first | exact trivial | exact leS_refl _ | exact leS_tt rfl | exact leS_ff rfl | exact leS_nil rfl | apply And.intro) (cp) rfl ?_
      cbv
      exact ⟨in64_of (by (try dsimp only [ncast] at *) <;> (try simp only [lm_length] at *) <;> omega) (by (try dsimp only [ncast] at *) <;> (try simp only [lm_length] at *) <;> omega), i + 1, ⟨(by (try dsimp only [ncast] at *) <;> (try simp only [lm_length] at *) <;> omega), h3⟩, (by (try dsimp only [ncast] at *) <;> (try simp only [lm_length] at *) <;> omega), .le (by cbv; exact ⟨leS_refl _, leS_sl (by rw [hp1]), leS_int (by (try dsimp only [ncast] at *) <;> (try simp only [lm_length] at *) <;> omega), trivial⟩) (by cbv) rfl⟩
  · have hi' : i = l.length := by rw [enc_len] at h5; (try dsimp only [ncast] at *); omega
    obtain ⟨q1, q2⟩ := e1 (fun m hm => by
      obtain ⟨j, hj⟩ := List.getElem?_of_mem hm
      exact h2 j m (by rw [hi']; exact (List.getElem?_eq_some_iff.1 hj).1) hj)
    rw [hi']
    generalize P l.length = Q at *
    subst q1 q2
    cbv
    (refine retC rfl ?_; cbv)
    exact ⟨leS_refl _, leS_refl _, trivial⟩
end Go.Proofs.YtbehbhicjmjdhaaGreat

namespace Go.Proofs.YtbehbhicjmjdhaaGreat
open Go
set_option linter.unusedVariables false
set_option maxRecDepth 100000
set_option maxHeartbeats 2000000

theorem hfCopied : Pg.funcs[7]? = some Tryz.f7 := by rw [Pg_eq]; rfl
theorem sCopied (l : List Mult) (hl : l.length < 2^38) : SoundS 7 [mlv l] (mlv l) := by
  refine sound_fn hfCopied rfl rfl rfl rfl rfl ?_
  cbv
  refine app_nil tyMults rfl rfl (enc_wid mc_len _) (room_of (by simp only [enc_len]; omega) (by simp only [enc_len]; omega)) rfl ?_
  cbv
  refine retWC _ (.trans (.le (ps' := ⟨[(2, .osl 5 7 (fun _ => 0) (fun _ => l.length))], [(5, .arr 7 (fun _ => enc mc l))]⟩) ?_ ?_ rfl) (.frz 5 rfl rfl ?_ ?_)) rfl ?_
  · cbv; exact ⟨leS_osl rfl (by rw [enc_len]), trivial⟩
  · cbv; exact ⟨elsEq_of rfl, trivial⟩
  · cbv; exact ⟨frok_of (by simp [enc_len]), trivial⟩
  · exact trivial
  · cbv; exact leS_sl (List.take_of_length_le (by simp [enc_len]))
def fewB (l : List Mult) : Bool := (l.all fun m => decide (m.c.num.length ≤ 2) && decide (m.c.den.length ≤ 2)) && decide (l.length ≤ 12)
theorem hfFew : Pg.funcs[5]? = some Tryz.f5 := by rw [Pg_eq]; rfl
theorem sFew (l : List Mult) (hl : l.length ≤ 9223372036854775807) : SoundS 5 [mlv l] (.bool (fun _ => fewB l)) := by
  refine sound_fn hfFew rfl rfl rfl rfl rfl ?_
  generalize hr : fewB l = r
  have hr0 : r = ((l.all fun m => decide (m.c.num.length ≤ 2) && decide (m.c.den.length ≤ 2)) && decide (l.length ≤ 12)) := hr.symm
  obtain ⟨A, hA⟩ : ∃ A : List Mult → Bool, (fun l : List Mult => l.all fun m => decide (m.c.num.length ≤ 2) && decide (m.c.den.length ≤ 2)) = A := ⟨_, rfl⟩
  have hc : ∀ m t, A (m :: t) = ((decide (m.c.num.length ≤ 2) && decide (m.c.den.length ≤ 2)) && A t) := fun m t => by rw [← hA]; rfl
  have hn : A [] = true := by rw [← hA]; rfl
  have hr1 : r = (A l && decide (l.length ≤ 12)) := by rw [hr0, ← hA]
  clear hr hr0 hA
  cbv
  refine loop_n (σ := Nat) (fun i => ⟨[(0, mlv l), (3, .int .i64 (fun _ => (i : Int)))], []⟩)
    (fun i => i ≤ l.length ∧ r = (A (l.drop i) && decide (l.length ≤ 12))) (fun i => l.length - i) 0 ⟨by omega, hr1⟩ (.le ?_ ?_ rfl) ?_
  · cbv
    exact ⟨leS_refl _, leS_refl _, trivial⟩
  · cbv
  clear hr1
  intro i hi
  obtain ⟨h1, h2⟩ := hi
  cbv
  refine cut_dec (fun h5 => ?_) (fun h5 => ?_)
  · have hlt : i < l.length := by rw [enc_len] at h5; (try dsimp only [ncast] at *); omega
    obtain ⟨m, hm⟩ := get_some hlt
    have idx : ∀ {K : List PV → Prop}, K (mc m) → IdxOk 7 (fun _ => enc mc l) (fun _ => (i : Int)) K := fun hK => idx_enc (l := l) i rfl hlt mc_flat mc_len (fun m' hm' => by rw [hm] at hm'; cases hm'; exact hK)
    rw [drop_of_get hm, hc] at h2
    generalize hrest : A (l.drop (i + 1)) = rest at *
    clear hc
    cbv
    refine idx ?_
    cbv
    refine br_dec (fun e1 => ?_) (fun e1 => ?_)
    · rw [lm_length] at e1
      cbv
      (refine retC rfl ?_; cbv)
      exact leS_ff (by rw [h2, decide_eq_false (p := m.c.num.length ≤ 2) (by (try dsimp only [ncast] at *); omega)]; rfl)
    rw [lm_length] at e1
    rw [decide_eq_true (p := m.c.num.length ≤ 2) (by (try dsimp only [ncast] at *); omega)] at h2
    cbv
    refine idx ?_
    cbv
    refine cut_dec (fun e2 => ?_) (fun e2 => ?_)
    · rw [lm_length] at e2
      cbv
      (refine retC rfl ?_; cbv)
      exact leS_ff (by rw [h2, decide_eq_false (p := m.c.den.length ≤ 2) (by (try dsimp only [ncast] at *); omega)]; rfl)
    rw [lm_length] at e2
    rw [decide_eq_true (p := m.c.den.length ≤ 2) (by (try dsimp only [ncast] at *); omega), Bool.true_and, Bool.true_and] at h2
    cbv
    exact ⟨in64_of (by (try dsimp only [ncast] at *) <;> (try simp only [lm_length] at *) <;> omega) (by (try dsimp only [ncast] at *) <;> (try simp only [lm_length] at *) <;> omega), i + 1, ⟨(by (try dsimp only [ncast] at *) <;> (try simp only [lm_length] at *) <;> omega), by rw [h2, hrest]⟩, (by (try dsimp only [ncast] at *) <;> (try simp only [lm_length] at *) <;> omega), .le (by cbv; exact ⟨leS_refl _, leS_int (by (try dsimp only [ncast] at *) <;> (try simp only [lm_length] at *) <;> omega), trivial⟩) (by cbv) rfl⟩
  · have hi' : i = l.length := by rw [enc_len] at h5; (try dsimp only [ncast] at *); omega
    rw [hi', List.drop_length, hn, Bool.true_and] at h2
    cbv
    (refine retC rfl ?_; cbv)
    refine leS_bool ?_
    rw [h2, decide_eq_decide, enc_len]
    (try dsimp only [ncast] at *)
    omega
end Go.Proofs.YtbehbhicjmjdhaaGreat
