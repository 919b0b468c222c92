/- A part of the proof: SpK, SpL, SpM, RtA, FdA. -/
import Derived.Test.YtcanljninhfmhaaGreatU32
import Derived.Test.YtcanljninhfmhaaGreatU26
import Derived.Test.YtcanljninhfmhaaGreatU25
import Derived.Test.YtcanljninhfmhaaGreatU27
import Derived.Test.YtcanljninhfmhaaGreatU30
import Derived.Test.YtcanljninhfmhaaGreatU31
set_option linter.all false
namespace Go.Proofs.YtcanljninhfmhaaGreat
open Go
set_option maxRecDepth 100000
set_option maxHeartbeats 2000000
theorem lem_ext {q : Qry} {path : List Dec} {L M : List Lem} {k u : Int} {up : Bool} {v : Rat} (h : (⟨q, path, L⟩ : Scp).lem k u up = some v) : (⟨q, path, L ++ M⟩ : Scp).lem k u up = some v := by
 unfold Scp.lem at h ⊢
 dsimp only at h ⊢
 split at h
 ·rename_i hk
  split at h
  ·rename_i m hm
   have hl := (List.getElem?_eq_some_iff.1 hm).1
   rw [if_pos ⟨hk.1, by rw [List.length_append]; omega⟩, List.getElem?_append_left hl, hm]
   exact h
  ·cases h
 ·cases h
theorem unF_ext {q : Qry} {path : List Dec} {L M : List Lem} {r : Row} {p v f : F} (h : unF ⟨q, path, L⟩ r p v ((⟨q, path, L⟩ : Scp).lem r.lo r.i false) ((⟨q, path, L⟩ : Scp).lem r.hi r.i true) = some f) :
  unF ⟨q, path, L ++ M⟩ r p v ((⟨q, path, L ++ M⟩ : Scp).lem r.lo r.i false) ((⟨q, path, L ++ M⟩ : Scp).lem r.hi r.i true) = some f := by
 have el := fun v (h : (⟨q, path, L⟩ : Scp).lem r.lo r.i false = some v) => lem_ext (M := M) h
 have eu := fun v (h : (⟨q, path, L⟩ : Scp).lem r.hi r.i true = some v) => lem_ext (M := M) h
 have zl : r.lo = 0 → (⟨q, path, L ++ M⟩ : Scp).lem r.lo r.i false = none := fun h => by rw [h]; exact lem_zero _ _ _
 have zu : r.hi = 0 → (⟨q, path, L ++ M⟩ : Scp).lem r.hi r.i true = none := fun h => by rw [h]; exact lem_zero _ _ _
 have hd : ∀ k i, (⟨q, path, L ++ M⟩ : Scp).dcd k i = (⟨q, path, L⟩ : Scp).dcd k i := fun _ _ => rfl
 have on : ∀ l, onB ⟨q, path, L⟩ r (l.getD 0) l.isSome = true → (∀ v, l = some v → (⟨q, path, L ++ M⟩ : Scp).lem r.lo r.i false = some v) → onB ⟨q, path, L ++ M⟩ r (((⟨q, path, L ++ M⟩ : Scp).lem r.lo r.i false).getD 0) ((⟨q, path, L ++ M⟩ : Scp).lem r.lo r.i false).isSome = true := fun l h g => by
  unfold onB at h ⊢
  rw [hd]
  cases l with
  | some v => rw [g v rfl]; exact h
  | none =>
   simp only [Bool.and_eq_true, Bool.or_eq_true, decide_eq_true_eq, Option.isSome_none, Bool.false_eq_true, false_and, or_false] at h
   obtain ⟨h1, h2, h3⟩ := h
   rw [h3, decide_eq_true h1, decide_eq_true h2]
   rfl
 have off : ∀ l, aP ⟨q, path, L⟩ r (l.getD 0) l.isSome = true → (∀ v, l = some v → (⟨q, path, L ++ M⟩ : Scp).lem r.hi r.i true = some v) → aP ⟨q, path, L ++ M⟩ r (((⟨q, path, L ++ M⟩ : Scp).lem r.hi r.i true).getD 0) ((⟨q, path, L ++ M⟩ : Scp).lem r.hi r.i true).isSome = true := fun l h g => by
  unfold aP at h ⊢
  rw [hd]
  cases l with
  | some v => rw [g v rfl]; exact h
  | none =>
   simp only [Bool.and_eq_true, Bool.or_eq_true, decide_eq_true_eq, Option.isSome_none, Bool.false_eq_true, false_and, or_false] at h
   obtain ⟨h1, h2, h3⟩ := h
   rw [h3, decide_eq_true h1, decide_eq_true h2]
   rfl
 have two : ∀ {c d : Prop} [Decidable c] [Decidable d] {x : F}, (if c then some x else none) = some f → (c → d) → (if d then some x else none) = some f := fun h g => by
  split at h
  ·rename_i hc; rw [if_pos (g hc)]; exact h
  ·cases h
 unfold unF at h ⊢
 by_cases h5 : r.k = 5
 ·rw [if_pos h5] at h ⊢
  exact h
 rw [if_neg h5] at h ⊢
 by_cases h6 : r.k = 6
 ·rw [if_pos h6] at h ⊢
  exact h
 rw [if_neg h6] at h ⊢
 by_cases h7 : r.k = 7
 ·rw [if_pos h7] at h ⊢
  exact two h (fun g => on _ g el)
 rw [if_neg h7] at h ⊢
 by_cases h8 : r.k = 8
 ·rw [if_pos h8] at h ⊢
  exact two h (fun g => on _ g el)
 rw [if_neg h8] at h ⊢
 by_cases h9 : r.k = 9
 ·rw [if_pos h9] at h ⊢
  exact two h (fun g => off _ g eu)
 rw [if_neg h9] at h ⊢
 by_cases h10 : r.k = 10
 ·rw [if_pos h10] at h ⊢
  exact two h (fun g => off _ g eu)
 rw [if_neg h10] at h ⊢
 by_cases h11 : r.k = 11
 ·rw [if_pos h11] at h ⊢
  cases hl : (⟨q, path, L⟩ : Scp).lem r.lo r.i false with
  | none => rw [hl] at h; simp at h
  | some v => rw [hl] at h; rw [el v hl]; exact h
 rw [if_neg h11] at h ⊢
 by_cases h12 : r.k = 12
 ·rw [if_pos h12] at h ⊢
  cases hl : (⟨q, path, L⟩ : Scp).lem r.hi r.i true with
  | none => rw [hl] at h; simp at h
  | some v => rw [hl] at h; rw [eu v hl]; exact h
 rw [if_neg h12] at h ⊢
 by_cases h13 : r.k = 13
 ·rw [if_pos h13] at h ⊢
  cases hl : (⟨q, path, L⟩ : Scp).lem r.lo r.i false with
  | none => rw [hl] at h; simp at h
  | some v =>
   cases hu : (⟨q, path, L⟩ : Scp).lem r.hi r.i true with
   | none => rw [hl, hu] at h; simp at h
   | some w => rw [hl, hu] at h; rw [el v hl, eu w hu]; exact h
 rw [if_neg h13] at h ⊢
 cases h
theorem fm_ext {q : Qry} {path : List Dec} {L M : List Lem} {r : Row} {f : F} (h : (⟨q, path, L⟩ : Scp).fm r = some f) : (⟨q, path, L ++ M⟩ : Scp).fm r = some f := by
 unfold Scp.fm at h ⊢
 split at h
 ·cases h
 ·rename_i hn
  rw [if_neg hn]
  split at h
  ·rename_i hk; rw [if_pos hk]; exact h
  ·rename_i hk
   rw [if_neg hk]
   unfold Scp.fUn at h ⊢
   split at h
   ·rename_i hi
    rw [if_pos hi]
    split at h
    ·rename_i p hp
     dsimp only at hp ⊢
     rw [hp]
     exact unF_ext h
    ·cases h
   ·cases h
theorem eV (v : Int) : Cn (F.var v).ts := Cn.nil.cons (by simp) (by show (1 : Rat) ≠ 0; decide)
theorem bQ (q : Rat) : Cn (F.num q).ts := Cn.nil
theorem fO {f g : F} (hf : Cn f.ts) (hg : Cn g.ts) : Cn (f.sub g).ts := Cn.mrg hf hg
theorem cn_add {f g : F} (hf : Cn f.ts) (hg : Cn g.ts) : Cn (f.add g).ts := Cn.mrg hf hg
theorem sC {f : F} {c : Rat} (hf : Cn f.ts) : Cn (f.scale c).ts := Cn.mrg Cn.nil hf
theorem unF_cn {s : Scp} {r : Row} {p v f : F} {l u : Option Rat} (hp : Cn p.ts) (hv : Cn v.ts) (h : unF s r p v l u = some f) : Cn f.ts := by
 have two : ∀ {c : Prop} [Decidable c] {x : F}, (if c then some x else none) = some f → x = f := fun h => by
  split at h
  ·exact Option.some.inj h
  ·cases h
 unfold unF at h
 by_cases h5 : r.k = 5
 ·rw [if_pos h5] at h; rw [← two h]; exact hv
 rw [if_neg h5] at h
 by_cases h6 : r.k = 6
 ·rw [if_pos h6] at h; rw [← two h]; exact fO hv hp
 rw [if_neg h6] at h
 by_cases h7 : r.k = 7
 ·rw [if_pos h7] at h; rw [← two h]; exact cn_add hp Cn.nil
 rw [if_neg h7] at h
 by_cases h8 : r.k = 8
 ·rw [if_pos h8] at h; rw [← two h]; exact fO hp hv
 rw [if_neg h8] at h
 by_cases h9 : r.k = 9
 ·rw [if_pos h9] at h; rw [← two h]; exact sC hp
 rw [if_neg h9] at h
 by_cases h10 : r.k = 10
 ·rw [if_pos h10] at h; rw [← two h]; exact sC hv
 rw [if_neg h10] at h
 by_cases h11 : r.k = 11
 ·rw [if_pos h11] at h; rw [← two h]; exact fO hp (bQ _)
 rw [if_neg h11] at h
 by_cases h12 : r.k = 12
 ·rw [if_pos h12] at h; rw [← two h]; exact fO (bQ _) hp
 rw [if_neg h12] at h
 by_cases h13 : r.k = 13
 ·rw [if_pos h13] at h; rw [← two h]; exact fO (sC (fO hp (bQ _))) (sC hv)
 rw [if_neg h13] at h
 cases h
theorem fIn_cn {s : Scp} {x : FQry} (hq : s.q = x.q) (hx : x.ok) {r : Row} {f : F} (h : s.fIn r = some f) : Cn f.ts := by
 unfold Scp.fIn at h
 by_cases h0 : r.plain = true ∧ 0 ≤ r.i
 ·rw [if_pos h0] at h
  by_cases h1 : r.k = 1
  ·rw [if_pos h1] at h
   obtain ⟨y, _, rfl⟩ := Option.map_eq_some_iff.1 h
   exact fO (eV _) (bQ _)
  rw [if_neg h1] at h
  by_cases h2 : r.k = 2
  ·rw [if_pos h2] at h
   obtain ⟨y, _, rfl⟩ := Option.map_eq_some_iff.1 h
   exact fO (bQ _) (eV _)
  rw [if_neg h2] at h
  by_cases h3 : r.k = 3
  ·rw [if_pos h3] at h
   obtain ⟨y, hy, rfl⟩ := Option.map_eq_some_iff.1 h
   have hm := List.mem_of_getElem? hy
   rw [hq] at hm
   obtain ⟨g, hg, rfl⟩ := List.mem_map.1 hm
   rw [wO]
   exact cn_add (hx.rows g hg).cn Cn.nil
  rw [if_neg h3] at h
  by_cases h4 : r.k = 4
  ·rw [if_pos h4] at h
   split at h
   ·rename_i d hd
    split at h
    ·split at h
     ·cases h; exact fO (eV _) (bQ _)
     ·split at h
      ·cases h; exact sC (fO (eV _) (bQ _))
      ·cases h
    ·cases h
   ·cases h
  rw [if_neg h4] at h
  cases h
 ·rw [if_neg h0] at h; cases h
theorem fm_cn {s : Scp} {x : FQry} (hq : s.q = x.q) (hx : x.ok) (r : Row) (f : F) (h : s.fm r = some f) : Cn f.ts := by
 unfold Scp.fm at h
 split at h
 ·cases h
 ·split at h
  ·exact fIn_cn hq hx h
  ·unfold Scp.fUn at h
   split at h
   ·split at h
    ·rename_i p hp
     rw [hq] at hp
     have hp' : (x.g.us.map fA)[r.i.toNat]? = some p := hp
     rw [List.getElem?_map] at hp'
     obtain ⟨g, hg, rfl⟩ := Option.map_eq_some_iff.1 hp'
     rw [wO] at h
     exact unF_cn (hx.us _ g hg).cn (eV _) h
    ·cases h
   ·cases h
theorem SC_ext {q : Qry} {path : List Dec} {L M : List Lem} {v : Int} : ∀ {l : List (Row × Rat)}, AV ⟨q, path, L⟩ l → SC ⟨q, path, L ++ M⟩ v l = SC ⟨q, path, L⟩ v l
 | [], _ => rfl
 | t :: r, h => by
  obtain ⟨f, hf⟩ := h t List.mem_cons_self
  simp only [SC, j9 hf, j9 (fm_ext (M := M) hf), SC_ext (M := M) (l := r) (fun u hu => h u (List.mem_cons_of_mem _ hu))]
theorem SK_ext {q : Qry} {path : List Dec} {L M : List Lem} : ∀ {l : List (Row × Rat)}, AV ⟨q, path, L⟩ l → SK ⟨q, path, L ++ M⟩ l = SK ⟨q, path, L⟩ l
 | [], _ => rfl
 | t :: r, h => by
  obtain ⟨f, hf⟩ := h t List.mem_cons_self
  simp only [SK, j9 hf, j9 (fm_ext (M := M) hf), SK_ext (M := M) (l := r) (fun u hu => h u (List.mem_cons_of_mem _ hu))]
theorem AV_ext {q : Qry} {path : List Dec} {L M : List Lem} {l : List (Row × Rat)} (h : AV ⟨q, path, L⟩ l) : AV ⟨q, path, L ++ M⟩ l := fun t ht => by
 obtain ⟨f, hf⟩ := h t ht
 exact ⟨f, fm_ext hf⟩
theorem F.wf.sub {f g : F} {n : Int} (hf : f.wf n) (hg : g.wf n) : (f.sub g).wf n := hf.merge hg
theorem sM {s : Scp} {x : FQry} (hq : s.q = x.q) (hx : x.ok) {l : List (Row × Rat)} {f : F} {N : Int} (hr : Rs l) (ha : AV s l) (hf : f.wf N) (hN : N ≤ 9223372036854775807) (hc : ∀ w, co f.ts w = SC s w l) (hk : SK s l ≤ f.c) : s.proves (fA f) (mR l) = true := by
 obtain ⟨g, h1, h2, h3, h4⟩ := bA hr ha
 have hg := h4 (fm_cn hq hx)
 have hts : (f.sub g).ts = [] := (fO hf.cn hg).nil_of (fun w => by rw [dT, h2, hc]; grind)
 have hcc : (f.sub g).c = f.c + g.c * -1 := rfl
 unfold Scp.proves
 rw [wO, h1, hts, (hf.mono hN).valid, decide_eq_true (p := (0 : Int) ≤ yA (f.sub g).c) (by
  have : ¬ (f.sub g).c < 0 := by rw [hcc, h3]; grind
  by_cases hs : yA (f.sub g).c < 0
  ·exact absurd (dB.1 hs) this
  ·omega)]
 rfl
theorem low_ok {x : FQry} (hs : x.small) (hx : x.ok) {path : List Dec} {L : List Lem} {j : Nat} {p : F} (hp : x.g.us[j]? = some p) {v : Rat × List (Row × Rat)} (h : (⟨x.q, path, L⟩ : Scp).above p = some v) :
  (⟨x.q, path, L⟩ : Scp).lemB ⟨j, false, zE v.1, mR v.2⟩ = true := by
 have hv := hs.valid hx
 have hjl := (List.getElem?_eq_some_iff.1 hp).1
 have hn2 := hs.g.n2
 have hu4 := hs.g.us
 unfold Scp.above at h
 obtain ⟨l, hl, rfl⟩ := Option.map_eq_some_iff.1 h
 have hwf := hx.us j p hp
 obtain ⟨g1, g2, g3⟩ := fT (s := ⟨x.q, path, L⟩) rfl hv hs (fun t ht => by have := hwf.v t ht; omega) hl (fun t ht => absurd ht (by simp)) Rs.nil
 obtain ⟨g, h1, h2, h3, h4⟩ := bA g2 g1
 have e0 : x.q.g.us[((j : Int)).toNat]? = some (fA p) := by
  show (x.g.us.map fA)[((j : Int)).toNat]? = _
  rw [show ((j : Int)).toNat = j by omega, List.getElem?_map, hp]
  rfl
 unfold Scp.lemB
 dsimp only
 rw [e0, hv, kM, decide_eq_true ⟨by omega, by show (j : Int) < ((x.g.us.map fA).length : Int); rw [List.length_map]; omega⟩]
 dsimp only
 rw [wO]
 have ef : (⟨j, false, zE (p.sub ((⟨x.q, path, L⟩ : Scp).sum (mR l)).2).c, mR l⟩ : Lem).form p = p.sub (F.num (p.sub g).c) := by
  unfold Lem.form
  rw [if_neg (by show ¬ (false = true); decide), h1, zW]
 rw [ef]
 rw [sM (N := ((x.g.n + j : Nat) : Int)) rfl hx g2 g1 (F.wf.sub hwf (F.wf.num _ _)) (by omega) (fun w => ?_) ?_]
 ·rfl
 ·have e1 : (p.sub (F.num (p.sub g).c)).c = p.c + (p.c + g.c * -1) * -1 := rfl
  rw [e1, h3]
  grind
 ·rw [dT, bP, g3]
  simp only [SC]
  grind
theorem up_ok {x : FQry} (hs : x.small) (hx : x.ok) {path : List Dec} {L M : List Lem} {j : Nat} {p : F} (hp : x.g.us[j]? = some p) {v : Rat × List (Row × Rat)} (h : (⟨x.q, path, L⟩ : Scp).above (p.scale (-1)) = some v) :
  (⟨x.q, path, L ++ M⟩ : Scp).lemB ⟨j, true, zE (-v.1), mR v.2⟩ = true := by
 have hv := hs.valid hx
 have hjl := (List.getElem?_eq_some_iff.1 hp).1
 have hn2 := hs.g.n2
 have hu4 := hs.g.us
 unfold Scp.above at h
 obtain ⟨l, hl, rfl⟩ := Option.map_eq_some_iff.1 h
 have hwf := hx.us j p hp
 obtain ⟨g1, g2, g3⟩ := fT (s := ⟨x.q, path, L⟩) rfl hv hs (fun t ht => by have := (hwf.scale (c := -1)).v t ht; omega) hl (fun t ht => absurd ht (by simp)) Rs.nil
 obtain ⟨g, h1, h2, h3, h4⟩ := bA g2 g1
 have e0 : x.q.g.us[((j : Int)).toNat]? = some (fA p) := by
  show (x.g.us.map fA)[((j : Int)).toNat]? = _
  rw [show ((j : Int)).toNat = j by omega, List.getElem?_map, hp]
  rfl
 unfold Scp.lemB
 dsimp only
 rw [e0, hv, kM, decide_eq_true ⟨by omega, by show (j : Int) < ((x.g.us.map fA).length : Int); rw [List.length_map]; omega⟩]
 dsimp only
 rw [wO]
 have ef : (⟨j, true, zE (-((p.scale (-1)).sub ((⟨x.q, path, L⟩ : Scp).sum (mR l)).2).c), mR l⟩ : Lem).form p = (p.sub (F.num (-((p.scale (-1)).sub g).c))).scale (-1) := by
  unfold Lem.form
  rw [if_pos rfl, h1, zW]
 rw [ef]
 rw [sM (N := ((x.g.n + j : Nat) : Int)) rfl hx g2 (AV_ext g1) (F.wf.scale (F.wf.sub hwf (F.wf.num _ _))) (by omega) (fun w => ?_) ?_]
 ·rfl
 ·have e1 : ((p.sub (F.num (-((p.scale (-1)).sub g).c))).scale (-1)).c = 0 + (p.c + (-((0 + p.c * -1) + g.c * -1)) * -1) * -1 := rfl
  rw [e1, SK_ext g1, h3]
  grind
 ·rw [SC_ext g1, fN, dT, bP, g3, fN]
  simp only [SC]
  grind
def Good (q : Qry) (path : List Dec) (L : List Lem) : Prop := ∀ i m, L[i]? = some m → (⟨q, path, L.take i⟩ : Scp).lemB m = true
theorem eG {q : Qry} {path : List Dec} {L : List Lem} {m : Lem} (h : Good q path L) (hm : (⟨q, path, L⟩ : Scp).lemB m = true) : Good q path (L ++ [m]) := fun i n hn => by
 by_cases hi : i < L.length
 ·rw [List.getElem?_append_left hi] at hn
  rw [List.take_append_of_le_length (by omega)]
  exact h i n hn
 ·rw [List.getElem?_append_right (by omega)] at hn
  have e : i = L.length := by
   have := (List.getElem?_eq_some_iff.1 hn).1
   simp at this
   omega
  subst e
  simp at hn
  rw [← hn, List.take_left]
  exact hm
theorem bndG_good {x : FQry} (hs : x.small) (hx : x.ok) {path : List Dec} : ∀ {us : List A} {j : Nat} {L : List Lem}, us = (x.g.us.drop j).map fA → Good x.q path L → Good x.q path (pH x.q path us j L)
 | [], j, L, _, h => h
 | p :: r, j, L, hu, h => by
  have hlen : j < x.g.us.length := by
   have : (x.g.us.drop j).length ≠ 0 := by
    have : ((x.g.us.drop j).map fA).length ≠ 0 := by rw [← hu]; simp
    simpa using this
   rw [List.length_drop] at this
   omega
  rw [List.drop_eq_getElem_cons hlen] at hu
  simp only [List.map_cons, List.cons.injEq] at hu
  obtain ⟨hp, hr⟩ := hu
  have hg : x.g.us[j]? = some x.g.us[j] := by simp [hlen]
  have e1 : p.f = x.g.us[j] := by rw [hp, wO]
  unfold pH
  rw [e1]
  refine bndG_good hs hx hr ?_
  unfold eZ
  cases hX : (⟨x.q, path, L⟩ : Scp).above x.g.us[j] with
  | none =>
   cases hY : (⟨x.q, path, L⟩ : Scp).above (x.g.us[j].scale (-1)) with
   | none => simpa using h
   | some w =>
    have := up_ok (M := []) hs hx hg hY
    rw [List.append_nil] at this
    exact eG h this
  | some v =>
   have h1 := eG h (low_ok hs hx hg hX)
   cases hY : (⟨x.q, path, L⟩ : Scp).above (x.g.us[j].scale (-1)) with
   | none => simpa using h1
   | some w =>
    have := eG h1 (up_ok hs hx hg hY)
    rw [List.append_assoc] at this
    exact this
theorem nG {s : Scp} : ∀ {l : List Lem} {i : Nat}, l = s.lems.drop i → Good s.q s.path s.lems → uC s i l = true
 | [], _, _, _ => rfl
 | m :: r, i, hl, h => by
  have hm : s.lems[i]? = some m := by
   have : (s.lems.drop i)[0]? = some m := by rw [← hl]; rfl
   simpa using this
  have hr : r = s.lems.drop (i + 1) := by
   have : (s.lems.drop i).drop 1 = s.lems.drop (i + 1) := by rw [List.drop_drop]
   rw [← this, ← hl]; rfl
  show ((s.pre i).lemB m && uC s (i + 1) r) = true
  rw [nG hr h]
  have := h i m hm
  rw [show s.pre i = ⟨s.q, s.path, s.lems.take i⟩ from rfl, this]
  rfl
theorem dV (raw : List UInt8) : (fdS raw).bounded.scopeB = true := by
 have hg : Good (fdS raw).bounded.q (fdS raw).bounded.path (fdS raw).bounded.lems :=
  bndG_good (y7 raw 0) (kS raw 0) (path := (fdS raw).path) (us := (fdY raw 0).1.g.us.map fA) (j := 0) (L := []) (by simp) (fun i m h => by simp at h)
 unfold Scp.scopeB
 rw [nG (by simp) hg]
 have hv : (fdS raw).bounded.q.valid = true := fdS_valid raw
 rw [hv]
 have : ((fdS raw).bounded.path.all fun d => true && d.fits (fdS raw).bounded.q) = true := by
  rw [List.all_eq_true]
  intro d hd
  rw [Bool.true_and]
  exact fdS_fits raw d hd
 rw [this]
 rfl
theorem sR21Lem (s : Scp) (n unit : Int) (up : Bool) (hs : Lsz (2^32) s.lems) : zC 159 [sv s, .int .i64 (fun _ => n), .int .i64 (fun _ => unit), .bool (fun _ => up)] (.tup [rv (zE ((s.lem n unit up).getD 0)), .bool (fun _ => (s.lem n unit up).isSome)]) := by
 refine sF Tryz.f159 ?_
 have hno := fun h => lem_no (s := s) (n := n) (unit := unit) (up := up) h
 have hat := fun (m : Lem) h1 h2 h3 => lem_at (s := s) (n := n) (unit := unit) (up := up) (m := m) h1 h2 h3
 have hsl := hs.len
 have hss := hs.sz
 generalize s.lem n unit up = o at *
 obtain ⟨⟨⟨gn, us, os⟩, ⟨lo, hi, rows⟩, ⟨ts, c1, c2, c3⟩⟩, path, lems⟩ := s
 simp only at hno hat hsl hss
 have fin : ∀ (W : R) (b : Bool), o = none → W = zE (o.getD 0) ∧ b = o.isSome → W = R0 ∧ b = false := fun W b h1 h2 => by
  rw [h1] at h2
  exact ⟨by rw [h2.1]; exact jB, h2.2⟩
 obtain ⟨W, hW⟩ : ∃ W, W = zE (o.getD 0) := ⟨_, rfl⟩
 obtain ⟨b, hb⟩ : ∃ b, b = o.isSome := ⟨_, rfl⟩
 rw [← hW, ← hb]
 have fin' : o = none → W = R0 ∧ b = false := fun h => fin W b h ⟨hW, hb⟩
 have fin2 : ∀ q, o = some q → W = zE q ∧ b = true := fun q h => by rw [h] at hW hb; exact ⟨hW, hb⟩
 clear fin hW hb
 obtain ⟨W1, W2, W3⟩ := W
 have fin3 : o = none → W1 = false ∧ W2 = [] ∧ W3 = [] ∧ b = false := fun h => by
  obtain ⟨h1, h2⟩ := fin' h
  simp only [R.mk.injEq] at h1
  exact ⟨h1.1, h1.2.1, h1.2.2, h2⟩
 clear fin'
 cbv
 refine zQ (fun e1 => ?_) (fun e1 => ?_)
 ·cbv
  obtain ⟨g1, g2, g3, g4⟩ := fin3 (hno (by omega))
  subst g1 g2 g3 g4
  (refine rC ?_; cbv)
  exact okA
 cbv
 refine zQ (fun e2 => ?_) (fun e2 => ?_)
 ·cbv
  obtain ⟨g1, g2, g3, g4⟩ := fin3 (hno (by rw [zA] at e2; (try dsimp only [zG] at *); omega))
  subst g1 g2 g3 g4
  (refine rC ?_; cbv)
  exact okA
 cbv
 rw [zA] at e2
 obtain ⟨m, hm⟩ : ∃ m, lems[(n - 1).toNat]? = some m := zX om
 have hat' := hat m (by omega) om hm
 have hms := hss m (List.mem_of_getElem? hm)
 have cc := s47 m.v hms
 have idx : ∀ {K : List PV → Prop}, K (lc m) → IdxOk 6 (fun _ => enc lc lems) (fun _ => n - 1) K := fun hK => yY (l := lems) (n - 1).toNat (by omega) om v7 uM (fun m' hm' => by rw [hm] at hm'; cases hm'; exact hK)
 generalize hq : m.v.q = q at *
 obtain ⟨mu, mup, ⟨v1, v2, v3⟩, mpf⟩ := m
 simp only at hat'
 clear hat hno hq
 generalize hwq : zE q = wq at *
 refine ⟨zH om om, idx ?_⟩
 cbv
 refine zQ (fun e3 => ?_) (fun e3 => ?_)
 ·cbv
  refine ⟨zH om om, idx ?_⟩
  cbv
  refine zF (fun e4 => ?_) (fun e4 => ?_)
  ·cbv
   obtain ⟨g1, g2⟩ := fin2 q (by rw [hat', if_pos ⟨e3, e4⟩])
   rw [hwq] at g1
   subst g1 g2
   refine ⟨zH om om, idx ?_⟩
   cbv
   refine cA cc ?_
   cbv
   (refine rC ?_; cbv)
   exact okA
  ·cbv
   obtain ⟨g1, g2, g3, g4⟩ := fin3 (by rw [hat', if_neg (fun h => e4 h.2)])
   subst g1 g2 g3 g4
   (refine rC ?_; cbv)
   exact okA
 ·cbv
  obtain ⟨g1, g2, g3, g4⟩ := fin3 (by rw [hat', if_neg (fun h => e3 h.1)])
  subst g1 g2 g3 g4
  (refine rC ?_; cbv)
  exact okA
theorem bD (s : Scp) (kind unit : Int) (hs : Dsz (2^32) s.path) : zC 102 [sv s, .int .i64 (fun _ => kind), .int .i64 (fun _ => unit)] (.bool (fun _ => s.dcd kind unit)) := by
 refine sF Tryz.f102 ?_
 have cf : ∀ d, d ∈ s.path → zC 107 [qv s.q, dv d] (.bool (fun _ => d.fits s.q)) := fun d h => sR21F0 s.q d (hs.sz d h)
 have hpl := hs.len
 generalize hr : s.dcd kind unit = r
 have hr0 : r = (s.path.drop 0).any (fun d => decide (d.k = kind) && (decide (d.i = unit) && d.fits s.q)) := hr.symm
 obtain ⟨ft, hft⟩ : ∃ ft : Dec → Bool, ∀ d, ft d = d.fits s.q := ⟨_, fun _ => rfl⟩
 simp only [← hft] at cf hr0
 obtain ⟨P, hP⟩ : ∃ P : Dec → Bool, (fun d => decide (d.k = kind) && (decide (d.i = unit) && ft d)) = P := ⟨_, rfl⟩
 rw [hP] at hr0
 have hPd : ∀ d, P d = (decide (d.k = kind) && (decide (d.i = unit) && ft d)) := fun d => by rw [← hP]
 clear hP hft hr hs
 cbv
 refine z5 (σ := Nat) (fun i => ⟨[(1, .int .i64 (fun _ => kind)), (2, .int .i64 (fun _ => unit)), (3, .ptr 3 0), (7, .int .i64 (fun _ => (i : Int)))], [(3, .box (sc s))]⟩) (fun i => i ≤ s.path.length ∧ r = (s.path.drop i).any P) (fun i => s.path.length - i) 0 ⟨by omega, hr0⟩ (wkZ) ?_
 clear hr0
 intro i hi
 obtain ⟨h1, h2⟩ := hi
 cbv
 refine zF (fun h5 => ?_) (fun h5 => ?_)
 ·have hlt := gC h5
  obtain ⟨d, hd⟩ := zX hlt
  have cv := cf d (List.mem_of_getElem? hd)
  rw [yB hd, List.any_cons, hPd] at h2
  generalize ft d = fd at *
  generalize hrest : (s.path.drop (i + 1)).any P = rest at *
  cbv
  refine zO 28 (by cbv) ?_
  cbv
  refine yV hd dI sB ?_
  cbv
  refine zQ (fun e1 => ?_) (fun e1 => ?_)
  rotate_left
  ·rw [decide_eq_false e1, Bool.false_and, Bool.false_or] at h2
   cbv
   exact ⟨zH om om, i + 1, ⟨om, by rw [h2, hrest]⟩, om, wkZ⟩
  rw [decide_eq_true e1, Bool.true_and] at h2
  cbv
  refine yV hd dI sB ?_
  cbv
  refine zQ (fun e2 => ?_) (fun e2 => ?_)
  rotate_left
  ·rw [decide_eq_false e2, Bool.false_and, Bool.false_or] at h2
   cbv
   exact ⟨zH om om, i + 1, ⟨om, by rw [h2, hrest]⟩, om, wkZ⟩
  rw [decide_eq_true e2, Bool.true_and] at h2
  cbv
  refine yV hd dI sB ?_
  cbv
  refine dA cv ?_
  cbv
  refine zT (fun e3 => ?_) (fun e3 => ?_)
  ·rw [e3, Bool.true_or] at h2
   cbv
   (refine rC ?_; cbv)
   exact yG h2
  ·rw [e3, Bool.false_or] at h2
   cbv
   exact ⟨zH om om, i + 1, ⟨om, by rw [h2, hrest]⟩, om, wkZ⟩
 ·have he := aY h5 h1
  rw [he, List.drop_length] at h2
  have h2' : r = false := h2
  cbv
  (refine rC ?_; cbv)
  exact zN h2'
theorem sFAdd {f g : F} (hf : Cn f.ts) (hg : Cn g.ts) {k n k' n' : Nat} (h1 : f.fl k n) (h2 : g.fl k' n') (hk : k ≤ 2^26) (hk' : k' ≤ 2^26) (hn : n ≤ 2^35) (hn' : n' ≤ 2^35) : zC 26 [fv f, fv g] (fv (f.add g)) := by
 have h := sRgAdd f.ts (zE f.c) (fA g) hf (by rw [show (fA g).ts = tR g.ts from rfl, tq_tR]; exact hg) ⟨by have := h1.len; omega, fun t ht => (h1.t t ht).mono (by omega)⟩ ((zY h1.c).mono (by omega)) ((eJ h2 (by omega)).mono (by omega)) (by have := h1.len; have := h2.len; rw [show (fA g).ts = tR g.ts from rfl, xZ]; omega)
 rw [wO, zW] at h
 exact h
theorem iI {f g : F} (hf : Cn f.ts) (hg : Cn g.ts) {k n k' n' : Nat} (h1 : f.fl k n) (h2 : g.fl k' n') (hk : k ≤ 2^26) (hk' : k' ≤ 2^26) (hn : n ≤ 2^35) (hn' : n' ≤ 2^35) : zC 27 [fv f, fv g] (fv (f.sub g)) := by
 have h := sRgSub f.ts (zE f.c) (fA g) hf (by rw [show (fA g).ts = tR g.ts from rfl, tq_tR]; exact hg) ⟨by have := h1.len; omega, fun t ht => (h1.t t ht).mono (by omega)⟩ ((zY h1.c).mono (by omega)) ((eJ h2 (by omega)).mono (by omega)) (by have := h1.len; have := h2.len; rw [show (fA g).ts = tR g.ts from rfl, xZ]; omega)
 rw [wO, zW] at h
 exact h
theorem bE {f : F} {q : Rat} {k n m : Nat} (h1 : f.fl k n) (hq : Fits m q) (hk : k ≤ 2^31) (hn : n ≤ 2^35) (hm : m ≤ 2^31) : zC 47 [fv f, rv (zE q)] (fv (f.scale q)) := by
 have h := iE (fA f) (zE q) ((eJ h1 (by omega)).mono (by omega)) ((zY hq).mono (by omega))
 rw [wO, zW] at h
 exact h
theorem sFNum (q : Rat) : zC 24 [rv (zE q)] (fv (F.num q)) := rZ (zE q)
theorem ok_eq {x : R} (h : x.ok = true) : zE x.q = x := (of_decide_eq_true h).symm
theorem vT_canon {vars : Int} : ∀ {ts : List (Int × R)} {p : Int}, vT vars p ts = true → tR (tq ts) = ts ∧ Cn (tq ts) ∧ ∀ t, t ∈ tq ts → p < t.1
 | [], p, _ => ⟨rfl, Cn.nil, fun t h => absurd h (by simp [tq])⟩
 | t :: r, p, h => by
  rw [nX] at h
  simp only [Bool.and_eq_true, decide_eq_true_eq] at h
  obtain ⟨⟨⟨⟨⟨h1, h2⟩, h3⟩, h4⟩, h5⟩, h6⟩ := h
  obtain ⟨g1, g2, g3⟩ := vT_canon h6
  refine ⟨?_, ?_, fun u hu => ?_⟩
  ·show (t.1, zE t.2.q) :: tR (tq r) = t :: r
   rw [g1, ok_eq h5]
  ·exact Cn.cons (t := (t.1, t.2.q)) g2 g3 h4
  ·rcases List.mem_cons.1 hu with rfl | hu
   ·exact h3
   ·have := g3 u hu; omega
theorem fX {a : A} {vars : Int} (h : a.valid vars = true) : fA a.f = a ∧ Cn a.f.ts := by
 unfold A.valid at h
 simp only [Bool.and_eq_true] at h
 obtain ⟨g1, g2, _⟩ := vT_canon h.1
 refine ⟨?_, g2⟩
 obtain ⟨ts, c⟩ := a
 show (⟨tR (tq ts), zE c.q⟩ : A) = ⟨ts, c⟩
 rw [g1, ok_eq h.2]
theorem add_zero {f : F} (h : Cn f.ts) : f.add F.zero = f := by
 refine F.ext' ?_ ?_
 ·refine (Cn.mrg h Cn.nil).ext h (fun v => ?_)
  show co (mrg 1 f.ts []) v = _
  rw [jI]; simp only [co]; grind
 ·show f.c + 0 * 1 = f.c
  grind
structure Qry.can (q : Qry) : Prop where
 us : ∀ a, a ∈ q.g.us → fA a.f = a ∧ Cn a.f.ts
 os : ∀ a, a ∈ q.g.os → fA a.f = a ∧ Cn a.f.ts
 rows : ∀ a, a ∈ q.r.rows → fA a.f = a ∧ Cn a.f.ts
 lo : ∀ x, x ∈ q.r.lo → zE x.q = x
 hi : ∀ x, x ∈ q.r.hi → zE x.q = x
theorem vB_ok : ∀ {lo hi : List R}, lo.length = hi.length → vB lo hi = true → (∀ x, x ∈ lo → zE x.q = x) ∧ ∀ x, x ∈ hi → zE x.q = x := fun he h => by
 rw [lQ he] at h
 simp only [Bool.and_eq_true, List.all_eq_true] at h
 exact ⟨fun x hx => ok_eq (h.1 x hx), fun x hx => ok_eq (h.2.1 x hx)⟩
theorem Qry.can_of {q : Qry} (h : q.valid = true) : q.can := by
 unfold Qry.valid Grp.valid Reg.valid at h
 simp only [Bool.and_eq_true, decide_eq_true_eq, List.all_eq_true] at h
 obtain ⟨⟨⟨⟨h1, h2⟩, h3⟩, ⟨h4, h5⟩, h6⟩, h7⟩ := h
 obtain ⟨b1, b2⟩ := vB_ok (by omega) h5
 refine ⟨fun a ha => ?_, fun a ha => fX (h3 a ha), fun a ha => fX (h6 a ha), b1, b2⟩
 obtain ⟨j, _, hj⟩ := vU_mem h2 ha
 exact fX hj
def u8c (b : UInt8) : List PV := [.int .u8 (fun _ => (b.toNat : Int))]
theorem lU (b : UInt8) : yR uG (u8c b) = true := rfl
theorem nY (b : UInt8) : (u8c b).length = 1 := rfl
abbrev u8v (raw : List UInt8) : PV := .sl (fun _ => enc u8c raw)
abbrev fdo (raw : List UInt8) (a : Nat) : List (Nat × Obj') := [(1000000, .box [u8v raw, .int .i64 (fun _ => (a : Int))])]
theorem gJ (raw : List UInt8) (a n : Nat) (hr : raw.length < 2^38) (hn : 0 < n) (hn2 : n < 2^60) (ha : a ≤ raw.length) :
  Sound 100 [.ptr 1000000 0, .int .i64 (fun _ => (n : Int))] (fdo raw a) [] (.int .i64 (fun _ => (fdN raw n a : Int))) (fdo raw (na raw a)) [] := by
 refine sF Tryz.f100 ?_
 have h0 : ¬ a < raw.length → fdN raw n a = 0 := fun h => by unfold fdN; rw [List.getElem?_eq_none (by omega)]
 have h1 : ∀ x, raw[a]? = some x → fdN raw n a = x.toNat % n := fun x h => by unfold fdN; rw [h]
 have n0 : ¬ a < raw.length → na raw a = a := fun h => if_neg h
 have n1 : a < raw.length → na raw a = a + 1 := fun h => if_pos h
 generalize fdN raw n a = r at *
 generalize na raw a = b at *
 cbv
 refine zO 10 (by cbv) ?_
 cbv
 refine zF (fun h => ?_) (fun h => ?_)
 ·have hlt : ¬ a < raw.length := by rw [zA] at h; (try dsimp only [zG] at *); omega
  have e1 := h0 hlt
  have e2 := n0 hlt
  cbv
  subst e1 e2
  exact retK1 rfl (lR) rfl rfl rfl rfl
 ·have hlt : a < raw.length := by rw [zA] at h; (try dsimp only [zG] at *); omega
  obtain ⟨x, hx⟩ := zX hlt
  have e1 := h1 x hx
  have e2 := n1 hlt
  cbv
  refine ⟨zH om om, ?_⟩
  cbv
  refine zO 15 (by cbv) ?_
  cbv
  refine ⟨zH om om, yY (l := raw) a om hlt lU nY (fun x' hx' => ?_)⟩
  obtain rfl : x' = x := by rw [hx] at hx'; exact (Option.some.inj hx').symm
  have hx8 := x'.toNat_lt
  cbv
  refine ⟨vI om, ?_⟩
  cbv
  refine retK1W (.le (ps' := ⟨[(4, .int .i64 (fun _ => (r : Int)))], [(1000000, .box [u8v raw, .int .i64 (fun _ => (b : Int))])]⟩) ?_ ?_ rfl) rfl (lR) rfl rfl rfl rfl
  ·cbv
   refine ⟨zD ?_, trivial⟩
   show irem (nx .i64 (x'.toNat : Int)) (n : Int) = _
   unfold irem nx
   rw [show IntKind.wrap .i64 (x'.toNat : Int) = (x'.toNat : Int) by simp [IntKind.wrap, IntKind.signed, IntKind.bits]; omega, e1]
   exact (Int.ofNat_tmod _ _).symm
  ·cbv
   exact ⟨⟨lR, zD om, trivial⟩, trivial⟩
theorem dnm_cases {k : Nat} (h : k < 4) : (k = 0 ∧ dnm k = 1) ∨ (k = 1 ∧ dnm k = 1) ∨ (k = 2 ∧ dnm k = 2) ∨ (k = 3 ∧ dnm k = 4) := by
 match k, h with
 | 0, _ => exact .inl ⟨rfl, rfl⟩
 | 1, _ => exact .inr (.inl ⟨rfl, rfl⟩)
 | 2, _ => exact .inr (.inr (.inl ⟨rfl, rfl⟩))
 | 3, _ => exact .inr (.inr (.inr ⟨rfl, rfl⟩))
theorem sFdNum (raw : List UInt8) (a : Nat) (hr : raw.length < 2^38) (ha : a ≤ raw.length) :
  Sound 101 [.ptr 1000000 0] (fdo raw a) [] (rv (zE (fdQ raw a).1)) (fdo raw (fdQ raw a).2) [] := by
 refine sF Tryz.f101 ?_
 have c9 := gJ raw a 9 hr (by decide) (by decide) ha
 have c4 := gJ raw (na raw a) 4 hr (by decide) (by decide) (kY ha)
 have h9 : fdN raw 9 a < 9 := uO (by decide)
 have h4 : fdN raw 4 (na raw a) < 4 := uO (by decide)
 have hd := dnm_cases h4
 have hp := dnm_pos (fdN raw 4 (na raw a))
 have cf := s43 ((fdN raw 9 a : Int) - 4) (dnm (fdN raw 4 (na raw a))) (by omega) (by omega) (by omega) (by omega) (by omega)
 have e1 : (fdQ raw a).1 = wU ((fdN raw 9 a : Int) - 4) (dnm (fdN raw 4 (na raw a))) := rfl
 have e2 : (fdQ raw a).2 = na raw (na raw a) := rfl
 rw [e1, e2]
 show wp _ _ (jC _ (rv (zE (wU ((fdN raw 9 a : Int) - 4) (dnm (fdN raw 4 (na raw a)))))) (fdo raw (na raw (na raw a))) [])
 generalize zE (wU ((fdN raw 9 a : Int) - 4) (dnm (fdN raw 4 (na raw a)))) = X at *
 generalize dnm (fdN raw 4 (na raw a)) = d at *
 generalize fdN raw 9 a = k9 at *
 generalize fdN raw 4 (na raw a) = k4 at *
 generalize na raw (na raw a) = b2 at *
 generalize na raw a = b1 at *
 clear e1 e2 hp
 cbv
 refine wB (fun _ => 1000000) (.refl _) rfl okA c9 ⟨⟨rfl, rfl⟩, trivial⟩ rfl rfl rfl rfl rfl rfl rfl rfl ?_
 cbv
 refine ⟨zH om om, ?_⟩
 cbv
 refine wB (fun _ => 1000000) (.refl _) rfl okA c4 ⟨⟨rfl, rfl⟩, trivial⟩ rfl rfl rfl rfl rfl rfl rfl rfl ?_
 rcases hd with ⟨q1, q2⟩ | ⟨q1, q2⟩ | ⟨q1, q2⟩ | ⟨q1, q2⟩
 ·subst q1 q2
  cbv
  refine j4 0 rfl (by decide) ?_
  cbv
  refine cA cf ?_
  cbv
  exact nA (.refl _) rfl rfl rfl rfl (by cbv; exact okA)
 ·subst q1 q2
  cbv
  refine j4 1 rfl (by decide) ?_
  cbv
  refine cA cf ?_
  cbv
  exact nA (.refl _) rfl rfl rfl rfl (by cbv; exact okA)
 ·subst q1 q2
  cbv
  refine j4 2 rfl (by decide) ?_
  cbv
  refine cA cf ?_
  cbv
  exact nA (.refl _) rfl rfl rfl rfl (by cbv; exact okA)
 ·subst q1 q2
  cbv
  refine j4 3 rfl (by decide) ?_
  cbv
  refine cA cf ?_
  cbv
  exact nA (.refl _) rfl rfl rfl rfl (by cbv; exact okA)
theorem fdFs_step0 {raw : List UInt8} {n v : Nat} {f : F} {a : Nat} (h : ¬ 0 < fdN raw 3 a) : pC raw (n + 1) v f a = pC raw n (v + 1) f (na raw a) := if_neg h
theorem fdFs_step1 {raw : List UInt8} {n v : Nat} {f : F} {a : Nat} (h : 0 < fdN raw 3 a) : pC raw (n + 1) v f a = pC raw n (v + 1) (f.add ((F.var v).scale (fdQ raw (na raw a)).1)) (fdQ raw (na raw a)).2 := if_pos h
theorem sFdForm (raw : List UInt8) (n a : Nat) (hr : raw.length < 2^38) (ha : a ≤ raw.length) (hn : n ≤ 100) :
  Sound 148 [.ptr 1000000 0, .int .i64 (fun _ => (n : Int))] (fdo raw a) [] (fv (fdF raw n a).1) (fdo raw (fdF raw n a).2) [] := by
 refine sF Tryz.f148 ?_
 have cq : ∀ b, b ≤ raw.length → Sound 101 [.ptr 1000000 0] (fdo raw b) [] (rv (zE (fdQ raw b).1)) (fdo raw (fdQ raw b).2) [] := fun b hb => sFdNum raw b hr hb
 have c3 : ∀ b, b ≤ raw.length → Sound 100 [.ptr 1000000 0, .int .i64 (fun _ => (3 : Int))] (fdo raw b) [] (.int .i64 (fun _ => (fdN raw 3 b : Int))) (fdo raw (na raw b)) [] := fun b hb => gJ raw b 3 hr (by decide) (by decide) hb
 have hna : ∀ b, b ≤ raw.length → na raw b ≤ raw.length := fun b hb => kY hb
 have hq2 : ∀ b, b ≤ raw.length → (fdQ raw b).2 ≤ raw.length := fun b hb => pB hb
 have hd : fdF raw n a = pC raw n 0 (F.num (fdQ raw a).1) (fdQ raw a).2 := rfl
 show wp _ _ (jC _ (av (fA (fdF raw n a).1)) (fdo raw (fdF raw n a).2) [])
 generalize fdF raw n a = R at *
 obtain ⟨W, hW⟩ : ∃ W, fA R.1 = W := ⟨_, rfl⟩
 rw [hW]
 obtain ⟨X0, hX0⟩ : ∃ X, zE (fdQ raw a).1 = X := ⟨_, rfl⟩
 have cq0 : Sound 101 [.ptr 1000000 0] (fdo raw a) [] (rv X0) (fdo raw (fdQ raw a).2) [] := by subst hX0; exact cq a ha
 cbv
 refine wB (fun _ => 1000000) (.refl _) rfl okA cq0 ⟨⟨rfl, rfl⟩, trivial⟩ rfl rfl rfl rfl rfl rfl rfl rfl ?_
 cbv
 refine z5 (σ := Nat × Nat × F) (fun s => ⟨[(0, .ptr 1000000 0), (1, .int .i64 (fun _ => (n : Int))), (4, .ptr 4 0), (5, .ptr 5 0), (6, .int .i64 (fun _ => (s.1 : Int)))],
   [(1000000, .box [u8v raw, .int .i64 (fun _ => (s.2.1 : Int))]), (4, .box [.nil, .ff, .nil, .nil]), (5, .box [.sl (fun _ => enc tc (fA s.2.2).ts), .bool (fun _ => (fA s.2.2).c.neg), .sl (fun _ => lm (fA s.2.2).c.num), .sl (fun _ => lm (fA s.2.2).c.den)])]⟩)
  (fun s => s.1 ≤ n ∧ s.2.1 ≤ raw.length ∧ R = pC raw (n - s.1) s.1 s.2.2 s.2.1 ∧ s.2.2.wf s.1 ∧ s.2.2.fl (1 + 6 * s.1) s.1) (fun s => n - s.1)
  (0, (fdQ raw a).2, F.num (fdQ raw a).1) ⟨by omega, hq2 a ha, hd, F.wf.num _ _, (wR (uN raw a)).mono (by omega) (by omega)⟩ (.le ?_ ?_ rfl) ?_
 ·cbv
  exact okA
 ·cbv
  subst hX0
  exact okA
 clear hd cq0 hX0
 intro s hs
 obtain ⟨v, b, f⟩ := s
 obtain ⟨g1, g2, g3, g4, g5⟩ := hs
 dsimp only at g1 g2 g3 g4 g5
 cbv
 refine zF (fun h => ?_) (fun h => ?_)
 ·have hv : v < n := om
  rw [show n - v = (n - (v + 1)) + 1 by omega] at g3
  have c3' := c3 b g2
  generalize hk3 : fdN raw 3 b = k3 at *
  cbv
  refine wB (fun _ => 1000000) (.refl _) rfl okA c3' ⟨⟨rfl, rfl⟩, trivial⟩ rfl rfl rfl rfl rfl rfl rfl rfl ?_
  cbv
  refine zF (fun h2 => ?_) (fun h2 => ?_)
  ·rw [fdFs_step1 (by rw [hk3]; (try dsimp only [zG] at *); omega)] at g3
   have hq := uN raw (na raw b)
   have hb' := hq2 (na raw b) (hna b g2)
   have cn := cq (na raw b) (hna b g2)
   have csc := bE (f := F.var v) (w5 v) hq (by decide) (by decide) (by decide)
   have w2 : ((F.var v).scale (fdQ raw (na raw b)).1).wf ((v + 1 : Nat) : Int) := (F.wf.var (by omega) (by omega)).scale
   have l2 : ((F.var v).scale (fdQ raw (na raw b)).1).fl (1 + 1 + 2) 1 := (w5 v).scale hq
   have cad := sFAdd g4.cn w2.cn g5 l2 (by omega) (by omega) (by omega) (by omega)
   have w3 := (g4.mono (by omega : (v : Int) ≤ ((v + 1 : Nat) : Int))).add w2
   have l3 := (g5.add l2).mono (k' := 1 + 6 * (v + 1)) (n' := v + 1) (by omega) (by omega)
   generalize (fdQ raw (na raw b)).2 = b' at *
   generalize (fdQ raw (na raw b)).1 = q at *
   generalize hS : (F.var v).scale q = S at *
   generalize hT : f.add S = T at *
   obtain ⟨V, hV⟩ : ∃ V, fA (F.var v) = V := ⟨_, rfl⟩
   obtain ⟨S', hS'⟩ : ∃ S', fA S = S' := ⟨_, rfl⟩
   obtain ⟨T', hT'⟩ : ∃ T', fA T = T' := ⟨_, rfl⟩
   obtain ⟨X, hX⟩ : ∃ X, zE q = X := ⟨_, rfl⟩
   obtain ⟨f', hf'⟩ : ∃ f', fA f = f' := ⟨_, rfl⟩
   have d1 : zC 95 [.int .i64 (fun _ => (v : Int))] (av V) := by subst hV; exact rY v
   have d2 : zC 47 [av V, rv X] (av S') := by subst hV hX hS'; exact csc
   have d3 : zC 26 [av f', av S'] (av T') := by subst hf' hS' hT'; exact cad
   have d4 : Sound 101 [.ptr 1000000 0] (fdo raw (na raw b)) [] (rv X) (fdo raw b') [] := by subst hX; exact cn
   rw [hf']
   clear hV hX hS' csc cad cn
   cbv
   refine vL 6 [(4, 1000000)] (by cbv) (by cbv) (by cbv) ?_
   cbv
   refine dA d1 ?_
   cbv
   refine eO (fun _ => 1000000) rfl okA d4 rfl rfl rfl rfl rfl rfl ?_
   cbv
   refine dA d2 ?_
   cbv
   refine cA d3 ?_
   cbv
   refine ⟨zH om om, (v + 1, b', T), ⟨om, hb', g3, w3, l3⟩, om, .le okZ ?_ rfl⟩
   subst hT'
   exact okZ
  ·rw [fdFs_step0 (by rw [hk3]; (try dsimp only [zG] at *); omega)] at g3
   have hb' := hna b g2
   generalize na raw b = b' at *
   cbv
   exact ⟨zH om om, (v + 1, b', f), ⟨om, hb', g3, g4.mono (by show (v : Int) ≤ ((v + 1 : Nat) : Int); omega), g5.mono (by show 1 + 6 * v ≤ 1 + 6 * (v + 1); omega) (by show v ≤ v + 1; omega)⟩, (by show n - (v + 1) < n - v; omega), wkZ⟩
 ·have hv : v = n := om
  have hR : R = (f, b) := by rw [g3, show n - v = 0 by omega]; rfl
  subst hR
  have hW' : fA f = W := hW
  cbv
  subst hW'
  exact nA (.refl _) rfl rfl rfl rfl (by cbv; exact okA)
end Go.Proofs.YtcanljninhfmhaaGreat
