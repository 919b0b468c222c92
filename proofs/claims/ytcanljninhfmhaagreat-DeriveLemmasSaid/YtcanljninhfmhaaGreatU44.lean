/- A part of the proof: SpZ. -/
import Derived.Test.YtcanljninhfmhaaGreatU33
set_option linter.all false
namespace Go.Proofs.YtcanljninhfmhaaGreat
open Go
theorem iP {s : Scp} {x : FQry} (hq : s.q = x.q) (hx : x.ok) {l : List (Row × Rat)} {f : F} {N : Int} (hr : Rs l) (ha : AV s l) (hf : f.wf N) (hN : N ≤ 9223372036854775807) (hc : ∀ w, co f.ts w = SC s w l) : s.proves (fA f) (mR l) = decide (SK s l ≤ f.c) := by
 by_cases hk : SK s l ≤ f.c
 ·rw [sM hq hx hr ha hf hN hc hk, decide_eq_true hk]
 ·rw [decide_eq_false hk]
  obtain ⟨g, h1, h2, h3, h4⟩ := bA hr ha
  have hcc : (f.sub g).c = f.c + g.c * -1 := rfl
  unfold Scp.proves
  rw [wO, h1]
  have : decide (0 ≤ yA (f.sub g).c) = false := decide_eq_false (by
   have hn : (f.sub g).c < 0 := by rw [hcc, h3]; grind
   have := dB.2 hn
   omega)
  rw [this, Bool.and_false, Bool.and_false, Bool.and_false]
def rU (m : Lem) (d : Rat) : Lem := ⟨m.u, m.up, zE (m.v.q + d), m.pf⟩
def l7 (m : Lem) (d : Rat) : Bool := if m.up = true then decide (0 ≤ d) else decide (d ≤ 0)
theorem low_sh {x : FQry} (hs : x.small) (hx : x.ok) {path : List Dec} {L : List Lem} {j : Nat} {p : F} (hp : x.g.us[j]? = some p) {v : Rat × List (Row × Rat)} (h : (⟨x.q, path, L⟩ : Scp).above p = some v) (d : Rat) :
  (⟨x.q, path, L⟩ : Scp).lemB (rU ⟨j, false, zE v.1, mR v.2⟩ d) = decide (d ≤ 0) := by
 have hv := hs.valid hx
 have hjl := (List.getElem?_eq_some_iff.1 hp).1
 have hn2 := hs.g.n2
 have hu4 := hs.g.us
 unfold Scp.above at h
 obtain ⟨l, hl, rfl⟩ := Option.map_eq_some_iff.1 h
 have hwf := hx.us j p hp
 obtain ⟨g1, g2, g3⟩ := fT (s := ⟨x.q, path, L⟩) rfl hv hs (fun t ht => by have := hwf.v t ht; omega) hl (fun t ht => absurd ht (by simp)) Rs.nil
 obtain ⟨g, h1, h2, h3, h4⟩ := bA g2 g1
 have e0 : x.q.g.us[((j : Int)).toNat]? = some (fA p) := by
  show (x.g.us.map fA)[((j : Int)).toNat]? = _
  rw [show ((j : Int)).toNat = j by omega, List.getElem?_map, hp]
  rfl
 unfold Scp.lemB rU
 dsimp only
 rw [e0, hv, kM, decide_eq_true ⟨by omega, by show (j : Int) < ((x.g.us.map fA).length : Int); rw [List.length_map]; omega⟩]
 dsimp only
 rw [wO, zW]
 have ef : (⟨j, false, zE ((p.sub ((⟨x.q, path, L⟩ : Scp).sum (mR l)).2).c + d), mR l⟩ : Lem).form p = p.sub (F.num ((p.sub g).c + d)) := by
  unfold Lem.form
  rw [if_neg (by show ¬ (false = true); decide), h1, zW]
 rw [ef]
 rw [iP (N := ((x.g.n + j : Nat) : Int)) rfl hx g2 g1 (F.wf.sub hwf (F.wf.num _ _)) (by omega) (fun w => ?_)]
 ·rw [Bool.true_and, Bool.true_and, Bool.true_and]
  have e1 : (p.sub (F.num ((p.sub g).c + d))).c = p.c + ((p.c + g.c * -1) + d) * -1 := rfl
  rw [e1, h3]
  exact decide_eq_decide.2 (by constructor <;> intro h <;> grind)
 ·rw [dT, bP, g3]
  simp only [SC]
  grind
theorem up_sh {x : FQry} (hs : x.small) (hx : x.ok) {path : List Dec} {L M : List Lem} {j : Nat} {p : F} (hp : x.g.us[j]? = some p) {v : Rat × List (Row × Rat)} (h : (⟨x.q, path, L⟩ : Scp).above (p.scale (-1)) = some v) (d : Rat) :
  (⟨x.q, path, L ++ M⟩ : Scp).lemB (rU ⟨j, true, zE (-v.1), mR v.2⟩ d) = decide (0 ≤ d) := by
 have hv := hs.valid hx
 have hjl := (List.getElem?_eq_some_iff.1 hp).1
 have hn2 := hs.g.n2
 have hu4 := hs.g.us
 unfold Scp.above at h
 obtain ⟨l, hl, rfl⟩ := Option.map_eq_some_iff.1 h
 have hwf := hx.us j p hp
 obtain ⟨g1, g2, g3⟩ := fT (s := ⟨x.q, path, L⟩) rfl hv hs (fun t ht => by have := (hwf.scale (c := -1)).v t ht; omega) hl (fun t ht => absurd ht (by simp)) Rs.nil
 obtain ⟨g, h1, h2, h3, h4⟩ := bA g2 g1
 have e0 : x.q.g.us[((j : Int)).toNat]? = some (fA p) := by
  show (x.g.us.map fA)[((j : Int)).toNat]? = _
  rw [show ((j : Int)).toNat = j by omega, List.getElem?_map, hp]
  rfl
 unfold Scp.lemB rU
 dsimp only
 rw [e0, hv, kM, decide_eq_true ⟨by omega, by show (j : Int) < ((x.g.us.map fA).length : Int); rw [List.length_map]; omega⟩]
 dsimp only
 rw [wO, zW]
 have ef : (⟨j, true, zE (-((p.scale (-1)).sub ((⟨x.q, path, L⟩ : Scp).sum (mR l)).2).c + d), mR l⟩ : Lem).form p = (p.sub (F.num (-((p.scale (-1)).sub g).c + d))).scale (-1) := by
  unfold Lem.form
  rw [if_pos rfl, h1, zW]
 rw [ef]
 rw [iP (N := ((x.g.n + j : Nat) : Int)) rfl hx g2 (AV_ext g1) (F.wf.scale (F.wf.sub hwf (F.wf.num _ _))) (by omega) (fun w => ?_)]
 ·rw [Bool.true_and, Bool.true_and, Bool.true_and]
  have e1 : ((p.sub (F.num (-((p.scale (-1)).sub g).c + d))).scale (-1)).c = 0 + (p.c + (-((0 + p.c * -1) + g.c * -1) + d) * -1) * -1 := rfl
  rw [e1, SK_ext g1, h3]
  exact decide_eq_decide.2 (by constructor <;> intro h <;> grind)
 ·rw [SC_ext g1, fN, dT, bP, g3, fN]
  simp only [SC]
  grind
theorem oA {x : FQry} {path : List Dec} {P : List Lem → Lem → Prop} (hlow : ∀ (L : List Lem) (j : Nat) p v, x.g.us[j]? = some p → (⟨x.q, path, L⟩ : Scp).above p = some v → P L ⟨j, false, zE v.1, mR v.2⟩)
  (hup : ∀ (L M : List Lem) (j : Nat) p v, x.g.us[j]? = some p → (⟨x.q, path, L⟩ : Scp).above (p.scale (-1)) = some v → P (L ++ M) ⟨j, true, zE (-v.1), mR v.2⟩) :
  ∀ {us : List A} {j : Nat} {L : List Lem}, us = (x.g.us.drop j).map fA → (∀ i m, L[i]? = some m → P (L.take i) m) → ∀ i m, (pH x.q path us j L)[i]? = some m → P ((pH x.q path us j L).take i) m
 | [], j, L, _, h => h
 | p :: r, j, L, hu, h => by
  have hlen : j < x.g.us.length := by
   have : (x.g.us.drop j).length ≠ 0 := by
    have : ((x.g.us.drop j).map fA).length ≠ 0 := by rw [← hu]; simp
    simpa using this
   rw [List.length_drop] at this
   omega
  rw [List.drop_eq_getElem_cons hlen] at hu
  simp only [List.map_cons, List.cons.injEq] at hu
  obtain ⟨hp, hr⟩ := hu
  have hg : x.g.us[j]? = some x.g.us[j] := by simp [hlen]
  have e1 : p.f = x.g.us[j] := by rw [hp, wO]
  have add : ∀ {L : List Lem} {m : Lem}, (∀ i m, L[i]? = some m → P (L.take i) m) → P L m → ∀ i n, (L ++ [m])[i]? = some n → P ((L ++ [m]).take i) n := fun {L m} h hm i n hn => by
   by_cases hi : i < L.length
   ·rw [List.getElem?_append_left hi] at hn
    rw [List.take_append_of_le_length (by omega)]
    exact h i n hn
   ·rw [List.getElem?_append_right (by omega)] at hn
    have e : i = L.length := by
     have := (List.getElem?_eq_some_iff.1 hn).1
     simp at this
     omega
    subst e
    simp at hn
    rw [← hn, List.take_left]
    exact hm
  unfold pH
  rw [e1]
  refine oA hlow hup hr ?_
  unfold eZ
  cases hX : (⟨x.q, path, L⟩ : Scp).above x.g.us[j] with
  | none =>
   cases hY : (⟨x.q, path, L⟩ : Scp).above (x.g.us[j].scale (-1)) with
   | none => simpa using h
   | some w =>
    have := hup L [] j _ _ hg hY
    rw [List.append_nil] at this
    exact add h this
  | some v =>
   have h1 := add h (hlow L j _ _ hg hX)
   cases hY : (⟨x.q, path, L⟩ : Scp).above (x.g.us[j].scale (-1)) with
   | none => simpa using h1
   | some w =>
    have := add h1 (hup L _ j _ _ hg hY)
    rw [List.append_assoc] at this
    exact this
theorem oR (raw : List UInt8) (d : Rat) {i : Nat} {m : Lem} (h : (fdS raw).bounded.lems[i]? = some m) : (((fdS raw).bounded.pre i).lemB (rU m d)) = l7 m d :=
 oA (x := (fdY raw 0).1) (path := (fdS raw).path) (P := fun L m => (⟨(fdY raw 0).1.q, (fdS raw).path, L⟩ : Scp).lemB (rU m d) = l7 m d)
  (fun L j p v hp hv => low_sh (y7 raw 0) (kS raw 0) hp hv d) (fun L M j p v hp hv => up_sh (y7 raw 0) (kS raw 0) hp hv d)
  (us := (fdY raw 0).1.g.us.map fA) (j := 0) (L := []) (by simp) (fun i m h => by simp at h) i m h
theorem bounded_lem (raw : List UInt8) {i : Nat} {m : Lem} (h : (fdS raw).bounded.lems[i]? = some m) : (((fdS raw).bounded.pre i).lemB m) = true :=
 oA (x := (fdY raw 0).1) (path := (fdS raw).path) (P := fun L m => (⟨(fdY raw 0).1.q, (fdS raw).path, L⟩ : Scp).lemB m = true)
  (fun L j p v hp hv => low_ok (y7 raw 0) (kS raw 0) hp hv) (fun L M j p v hp hv => up_ok (y7 raw 0) (kS raw 0) hp hv)
  (us := (fdY raw 0).1.g.us.map fA) (j := 0) (L := []) (by simp) (fun i m h => by simp at h) i m h
end Go.Proofs.YtcanljninhfmhaaGreat
