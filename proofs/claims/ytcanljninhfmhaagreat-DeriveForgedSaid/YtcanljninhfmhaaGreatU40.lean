/- A part of the proof: SpX, EvA, EvB, EvC, EvD, EvE, LxP. -/
import Derived.Test.YtcanljninhfmhaaGreatU38
import Derived.Test.YtcanljninhfmhaaGreatU32
import Derived.Test.YtcanljninhfmhaaGreatU25
import Derived.Test.YtcanljninhfmhaaGreatU26
import Derived.Test.YtcanljninhfmhaaGreatU27
import Derived.Test.YtcanljninhfmhaaGreatU37
import Derived.Test.YtcanljninhfmhaaGreatU34
import Derived.Test.YtcanljninhfmhaaGreatU39
set_option linter.all false
namespace Go.Proofs.YtcanljninhfmhaaGreat
open Go
set_option maxRecDepth 100000
set_option maxHeartbeats 4000000
def xr (l : List Rat) : Int → Rat := fun v => (l[v.toNat]?).getD 0
def xY : List F → List Rat → List Rat
 | [], l => l
 | f :: r, l => xY r (l ++ [rF (f.at (xr l)) 0])
theorem dW : ∀ (us : List F) (l : List Rat), (xY us l).length = l.length + us.length
 | [], l => rfl
 | f :: r, l => by
  unfold xY
  rw [dW r]
  simp
  omega
theorem pP : ∀ (us : List F) (l : List Rat) (i : Nat), i < l.length → (xY us l)[i]? = l[i]?
 | [], l, i, _ => rfl
 | f :: r, l, i, h => by
  unfold xY
  rw [pP r _ i (by simp; omega), List.getElem?_append_left h]
theorem at_congr {f : F} {X Y : Int → Rat} (h : ∀ t, t ∈ f.ts → X t.1 = Y t.1) : f.at X = f.at Y := by
 unfold F.at
 congr 1
 generalize f.ts = l at *
 induction l with
 | nil => rfl
 | cons t r ih =>
  unfold evX
  rw [h t List.mem_cons_self, ih fun u hu => h u (List.mem_cons_of_mem _ hu)]
theorem lM {l : List Rat} {i : Nat} {q : Rat} (h : l[i]? = some q) : xr l i = q := by
 unfold xr
 rw [Int.toNat_natCast, h]; rfl
theorem xr_pre {us : List F} {l : List Rat} {f : F} (hw : f.wf (l.length : Int)) : f.at (xr (xY us l)) = f.at (xr l) := at_congr fun t ht => by
 have h := hw.v t ht
 unfold xr
 rw [pP us l _ (by omega)]
theorem oU : ∀ {us : List F} {l : List Rat} {i : Nat} {f : F}, (∀ (i : Nat) (f : F), us[i]? = some f → f.wf ((l.length + i : Nat) : Int)) → us[i]? = some f → (xY us l)[l.length + i]? = some (rF (f.at (xr (xY us l))) 0)
 | [], l, i, f, _, h => by simp at h
 | g :: r, l, 0, f, hw, h => by
  simp only [List.getElem?_cons_zero, Option.some.injEq] at h
  subst h
  have hw0 := hw 0 g rfl
  rw [xr_pre (us := g :: r) hw0]
  unfold xY
  rw [pP r _ _ (by simp)]
  simp
 | g :: r, l, i + 1, f, hw, h => by
  simp only [List.getElem?_cons_succ] at h
  unfold xY
  have := oU (us := r) (l := l ++ [rF (g.at (xr l)) 0]) (i := i) (f := f) (fun j f' hf => by
   have := hw (j + 1) f' (by simpa using hf)
   rw [List.length_append, List.length_singleton]
   rw [show l.length + 1 + j = l.length + (j + 1) by omega]
   exact this) h
  rw [List.length_append, List.length_singleton] at this
  rw [show l.length + (i + 1) = l.length + 1 + i by omega]
  exact this
def evS (f : F) (X : Int → Rat) (i : Nat) : Rat := f.c + evX X (f.ts.take i)
theorem evX_snoc (X : Int → Rat) (t : Int × Rat) : ∀ l, evX X (l ++ [t]) = evX X l + t.2 * X t.1
 | [] => by show t.2 * X t.1 + 0 = 0 + t.2 * X t.1; grind
 | u :: r => by
  rw [List.cons_append]
  unfold evX
  rw [evX_snoc X t r]
  grind
theorem evS_zero (f : F) (X : Int → Rat) : evS f X 0 = f.c := by unfold evS; rw [List.take_zero]; show f.c + 0 = f.c; grind
theorem evS_succ {f : F} {X : Int → Rat} {i : Nat} {t : Int × Rat} (h : f.ts[i]? = some t) : evS f X (i + 1) = evS f X i + t.2 * X t.1 := by
 unfold evS
 rw [show f.ts.take (i + 1) = f.ts.take i ++ [t] by rw [List.take_add_one, h]; rfl, evX_snoc]
 grind
theorem evS_all (f : F) (X : Int → Rat) : evS f X f.ts.length = f.at X := by unfold evS; rw [List.take_length]; rfl
def FX (m : Nat) (X : Int → Rat) (f : F) : Prop := ∀ t, t ∈ f.ts → Fits m (X t.1)
theorem eN {f : F} {X : Int → Rat} {k n m : Nat} (hf : f.fl k n) (hx : FX m X f) : ∀ i, Fits (k + (k + m + 1) * i) (evS f X i)
 | 0 => by rw [evS_zero]; exact hf.c.mono (by omega)
 | i + 1 => by
  have ih := eN hf hx i
  cases h : f.ts[i]? with
  | none =>
   have e : evS f X (i + 1) = evS f X i := by
    unfold evS
    rw [List.take_of_length_le (by have := List.getElem?_eq_none_iff.1 h; omega), List.take_of_length_le (List.getElem?_eq_none_iff.1 h)]
   rw [e]
   exact ih.mono (by rw [Nat.mul_succ]; omega)
  | some t =>
   rw [evS_succ h]
   have hm := List.mem_of_getElem? h
   exact (wX ih (xI (hf.t t hm) (hx t hm))).mono (by rw [Nat.mul_succ]; omega)
theorem s9 {f : F} {X : Int → Rat} {k n m : Nat} (hf : f.fl k n) (hx : FX m X f) : Fits (k + (k + m + 1) * n) (f.at X) := by
 rw [← evS_all]
 exact (eN hf hx _).mono (Nat.add_le_add_left (Nat.mul_le_mul_left _ hf.len) _)
theorem lN {l : List Rat} {m : Nat} {f : F} (hw : f.wf (l.length : Int)) (hl : ∀ q, q ∈ l → Fits m q) : FX m (xr l) f := fun t ht => by
 have h := hw.v t ht
 obtain ⟨q, hq⟩ := zX (l := l) (i := t.1.toNat) (by omega)
 have e : t.1 = ((t.1.toNat : Nat) : Int) := by omega
 rw [e, lM hq]
 exact hl q (List.mem_of_getElem? hq)
theorem fits_max {k m : Nat} {a b : Rat} (ha : Fits k a) (hb : Fits m b) : Fits (k + m) (rF a b) := by
 unfold rF
 split
 ·exact hb.mono (by omega)
 ·exact ha.mono (by omega)
theorem oW : ∀ {us : List F} {l : List Rat} {m : Nat}, 1 ≤ m → (∀ (i : Nat) (f : F), us[i]? = some f → f.wf ((l.length + i : Nat) : Int)) → (∀ f, f ∈ us → f.fl 43 7) → (∀ q, q ∈ l → Fits m q) → us.length ≤ 4 → ∀ q, q ∈ xY us l → Fits ((m + 60) * 8 ^ us.length) q
 | [], l, m, _, _, _, hl, _, q, hq => (hl q hq).mono (by simp)
 | f :: r, l, m, hm, hw, hf, hl, hu, q, hq => by
  unfold xY at hq
  have h0 := hw 0 f rfl
  have hv := s9 (hf f List.mem_cons_self) (lN (l := l) h0 hl)
  have hr : r.length + 1 ≤ 4 := by simpa using hu
  have := oW (us := r) (l := l ++ [rF (f.at (xr l)) 0]) (m := 8 * m + 420) (by omega) (fun j f' hf' => by
   have := hw (j + 1) f' (by simpa using hf')
   rw [List.length_append, List.length_singleton, show l.length + 1 + j = l.length + (j + 1) by omega]
   exact this) (fun g hg => hf g (List.mem_cons_of_mem _ hg)) (fun x hx => by
   rcases List.mem_append.1 hx with hx | hx
   ·exact (hl x hx).mono (by omega)
   ·rw [List.mem_singleton.1 hx]
    exact (fits_max hv (vR (k := 1) (by decide))).mono (by omega)) (by omega) q hq
  refine this.mono ?_
  rw [List.length_cons, Nat.pow_succ]
  have e : (m + 60) * (8 ^ r.length * 8) = ((m + 60) * 8) * 8 ^ r.length := by rw [Nat.mul_comm (8 ^ r.length) 8, ← Nat.mul_assoc]
  rw [e]
  exact Nat.mul_le_mul_right _ (by omega)
theorem sR7Ev (f : F) (l : List Rat) {k n m : Nat} (hf : f.fl k n) (hw : f.wf (l.length : Int)) (hl : ∀ q, q ∈ l → Fits m q) (hk : k ≤ 2^30) (hm : m ≤ 2^30) (hn : k + (k + m + 1) * n ≤ 2^30) (hn2 : n ≤ 2^30) (hll : l.length < 2^40) :
  zC 33 [av (fA f), rlv (l.map zE)] (.tup [rv (zE (f.at (xr l))), .int .i64 (fun _ => 0)]) := by
 refine sF Tryz.f33 ?_
 have fx := lN hw hl
 have hi : ∀ (i : Nat) t, f.ts[i]? = some t → ∃ j : Nat, t.1 = (j : Int) ∧ j < l.length ∧ (l.map zE)[j]? = some (zE (xr l t.1)) := fun i t h => by
  have hv := hw.v t (List.mem_of_getElem? h)
  obtain ⟨q, hq⟩ := zX (l := l) (i := t.1.toNat) (by omega)
  have e : t.1 = ((t.1.toNat : Nat) : Int) := by omega
  refine ⟨t.1.toNat, e, by omega, ?_⟩
  rw [List.getElem?_map, hq]
  rw [e, lM hq]
  rfl
 have cm : ∀ t, t ∈ f.ts → zC 46 [rv (zE t.2), rv (zE (xr l t.1))] (rv (zE (t.2 * xr l t.1))) := fun t ht => by
  have := s77 (zE t.2) (zE (xr l t.1)) ((zY (hf.t t ht)).mono (by omega)) ((zY (fx t ht)).mono (by omega))
  rw [zW, zW] at this
  exact this
 have ca : ∀ (i : Nat) t, f.ts[i]? = some t → zC 37 [rv (zE (evS f (xr l) i)), rv (zE (t.2 * xr l t.1))] (rv (zE (evS f (xr l) (i + 1)))) := fun i t h => by
  have hm' := List.mem_of_getElem? h
  have hlt := (List.getElem?_eq_some_iff.1 h).1
  have hle := hf.len
  have e : (k + m + 1) * i ≤ (k + m + 1) * n := Nat.mul_le_mul_left _ (by omega)
  have := s44 (zE (evS f (xr l) i)) (zE (t.2 * xr l t.1)) ((zY (eN hf fx i)).mono (by omega)) ((zY (xI (hf.t t hm') (fx t hm'))).mono (by
   have : (k + m + 1) * 1 ≤ (k + m + 1) * n := Nat.mul_le_mul_left _ (by omega)
   omega))
  rw [zW, zW, ← evS_succ h] at this
  exact this
 have hlen : f.ts.length ≤ 2^30 := Nat.le_trans hf.len hn2
 have e0 := evS_zero f (xr l)
 have e9 := evS_all f (xr l)
 obtain ⟨V, hV⟩ : ∃ V : Nat → R, ∀ i, zE (evS f (xr l) i) = V i := ⟨_, fun _ => rfl⟩
 have hav : av (fA f) = .agg [tsv (tR f.ts), .bool (fun _ => (V 0).neg), nat (V 0).num, nat (V 0).den] := by rw [← hV, e0]; rfl
 rw [← e9, hV, hav]
 simp only [hV] at ca
 have hT : ∀ (i : Nat) t, f.ts[i]? = some t → (tR f.ts)[i]? = some (t.1, zE t.2) := fun i t h => by simp [tR, List.getElem?_map, h]
 have hTl : (tR f.ts).length = f.ts.length := xZ _
 have hxl : (l.map zE).length = l.length := List.length_map ..
 have facts : ∀ i, i < f.ts.length → ∃ (z : Int) (v : Nat) (c x y : R), z = (v : Int) ∧ (tR f.ts)[i]? = some (z, c) ∧ (l.map zE)[v]? = some x ∧ v < (l.map zE).length ∧ zC 46 [rv c, rv x] (rv y) ∧ zC 37 [rv (V i), rv y] (rv (V (i + 1))) := fun i h => by
  obtain ⟨t, ht⟩ := zX h
  obtain ⟨j, h1, h2, h3⟩ := hi i t ht
  exact ⟨t.1, j, zE t.2, _, _, h1, hT i t ht, h3, by rw [hxl]; exact h2, cm t (List.mem_of_getElem? ht), ca i t ht⟩
 clear hi cm ca hT hav hV e0 e9 fx hl hw hf
 generalize f.ts.length = N at *
 generalize tR f.ts = T at *
 generalize l.map zE = X at *
 cbv
 refine z5 (σ := Nat) (fun i => ⟨[(1, rlv X), (2, .ptr 2 0), (4, .ptr 4 0), (6, .ptr 6 0), (7, .int .i64 (fun _ => (i : Int)))],
   [(2, .box [tsv T, .bool (fun _ => (V 0).neg), nat (V 0).num, nat (V 0).den]), (4, .box [.ff, .nil, .nil]), (6, .box [.bool (fun _ => (V i).neg), nat (V i).num, nat (V i).den])]⟩)
  (fun i => i ≤ N) (fun i => N - i) 0 (Nat.zero_le _) (wkZ) ?_
 intro i hi'
 cbv
 refine zF (fun h => ?_) (fun h => ?_)
 ·have hlt : i < N := by rw [zA, hTl] at h; (try dsimp only [zG] at *); omega
  obtain ⟨z, v, c, x, y, g0, g1, g2, g3, c1, c2⟩ := facts i hlt
  clear facts
  generalize hV1 : V (i + 1) = V1 at *
  generalize hVi : V i = Vi at *
  cbv
  refine yV g1 xM xL ?_
  cbv
  refine zZ om ?_
  cbv
  refine z6 (by rw [zA]; (try dsimp only [zG] at *); omega) ?_
  cbv
  refine zO 10 (by cbv) ?_
  cbv
  refine v8 g2 g0 xW wQ ?_
  cbv
  refine dA c1 ?_
  cbv
  refine dA c2 ?_
  cbv
  refine ⟨zH om om, i + 1, (by show i + 1 ≤ N; omega), (by show N - (i + 1) < N - i; omega), .le okZ (by cbv; rw [hV1]; repeat' first | exact trivial | exact lR | apply And.intro) rfl⟩
 ·have hN' : i = N := by rw [zA, hTl] at h; (try dsimp only [zG] at *); omega
  rw [hN']
  cbv
  (refine rC ?_; cbv)
  exact okA
theorem oV (f : F) : ∀ (us : List F) (l : List Rat), xY (us ++ [f]) l = xY us l ++ [rF (f.at (xr (xY us l))) 0]
 | [], l => rfl
 | g :: r, l => by
  rw [List.cons_append]
  unfold xY
  exact oV f r _
structure VSeq (x : FGrp) (l : List Rat) (V : Nat → List Rat) : Prop where
 v0 : V 0 = l
 v1 : ∀ (j : Nat) f, x.us[j]? = some f → V (j + 1) = V j ++ [rF (f.at (xr (V j))) 0]
 v9 : V x.us.length = xY x.us l
 len : ∀ j, j ≤ x.us.length → (V j).length = l.length + j
 fit : ∀ j q, q ∈ V j → Fits (2^24) q
theorem vseq {x : FGrp} (hx : x.small) (hw : ∀ (i : Nat) (f : F), x.us[i]? = some f → f.wf ((x.n + i : Nat) : Int)) {l : List Rat} (hl : l.length = x.n) {m : Nat} (hm : 1 ≤ m) (hm2 : m ≤ 2^10) (hf : ∀ q, q ∈ l → Fits m q) : ∃ V, VSeq x l V := by
 refine ⟨fun j => xY (x.us.take j) l, rfl, fun j f h => ?_, by show xY (x.us.take x.us.length) l = _; rw [List.take_length], fun j hj => ?_, fun j q hq => ?_⟩
 ·show xY (x.us.take (j + 1)) l = _
  rw [List.take_add_one, h]
  exact oV f _ _
 ·show (xY (x.us.take j) l).length = _
  rw [dW, List.length_take]
  omega
 ·have h4 := hx.us
  have hk : (x.us.take j).length ≤ 4 := by rw [List.length_take]; omega
  have := oW hm (us := x.us.take j) (l := l) (fun i f h => by
   rw [hl]
   exact hw i f (by rw [List.getElem?_take] at h; split at h; exact h; cases h)) (fun f h => hx.uf f (List.mem_of_mem_take h)) hf hk q hq
  refine this.mono ?_
  have e : (8:Nat) ^ (x.us.take j).length ≤ 8 ^ 4 := Nat.pow_le_pow_right (by decide) hk
  calc (m + 60) * 8 ^ (x.us.take j).length ≤ (2^10 + 60) * 8 ^ 4 := Nat.mul_le_mul (by omega) e
   _ ≤ 2^24 := by decide
theorem sR15Vals (x : FGrp) (l : List Rat) (hx : x.small) (hv : x.g.valid = true) (hz : x.g.sz (2^32)) (hw : ∀ (i : Nat) (f : F), x.us[i]? = some f → f.wf ((x.n + i : Nat) : Int)) (hl : l.length = x.n) {m : Nat} (hm : 1 ≤ m) (hm2 : m ≤ 2^10) (hf : ∀ q, q ∈ l → Fits m q) :
  zC 32 [gv x.g, rlv (l.map zE)] (.tup [rlv ((xY x.us l).map zE), .int .i64 (fun _ => 0)]) := by
 refine sF Tryz.f32 ?_
 have cv := sR15V x.g hz
 rw [hv] at cv
 have cc : ∀ q, q ∈ l → zC 40 [rv (zE q)] (rv (zE q)) := fun q hq => by
  have := s47 (zE q) ((zY (hf q hq)).mono (by omega))
  rw [zW] at this
  exact this
 have n2 := hx.n2
 have u4 := hx.us
 obtain ⟨V, Q⟩ := vseq hx hw hl hm hm2 hf
 have facts : ∀ j, j < x.us.length → ∃ (p : A) (y z : R), (x.us.map fA)[j]? = some p ∧ zC 33 [av p, rlv ((V j).map zE)] (.tup [rv y, .int .i64 (fun _ => 0)]) ∧ zC 74 [rv y, rv ⟨false, [], []⟩] (rv z) ∧ (V (j + 1)).map zE = (V j).map zE ++ [z] := fun j hj => by
  obtain ⟨f, hfj⟩ := zX hj
  have hvl := Q.len j (by omega)
  have hwf := hw j f hfj
  have hfl := hx.uf f (List.mem_of_getElem? hfj)
  rw [← hl, ← hvl] at hwf
  have ce := sR7Ev f (V j) hfl hwf (Q.fit j) (by decide) (by decide) (by decide) (by decide) (by omega)
  have cm := s70 (zE (f.at (xr (V j)))) ⟨false, [], []⟩ ((zY (s9 hfl (lN hwf (Q.fit j)))).mono (by decide)) ⟨by decide, by decide⟩
  rw [zW] at cm
  have e0 : (⟨false, [], []⟩ : R).q = 0 := rfl
  rw [e0] at cm
  exact ⟨fA f, _, _, by rw [List.getElem?_map, hfj]; rfl, ce, cm, by rw [Q.v1 j f hfj, List.map_append]; rfl⟩
 have v0 := Q.v0
 have v9 := Q.v9
 have vl := Q.len
 rw [← v9]
 have hU : x.g.us = x.us.map fA := rfl
 have hUl : (x.us.map fA).length = x.us.length := List.length_map ..
 have hn : x.g.n = (l.length : Int) := by rw [hl]; rfl
 clear Q hw hf v9 hz hx hv
 generalize x.g = g at *
 obtain ⟨gn, us, os⟩ := g
 dsimp only at hU hn
 subst hU hn
 have ccl : ∀ (i : Nat) q, l[i]? = some q → (l.map zE)[i]? = some (zE q) ∧ (l.map zE).take (i + 1) = (l.map zE).take i ++ [zE q] := fun i q h => by
  have : (l.map zE)[i]? = some (zE q) := by rw [List.getElem?_map, h]; rfl
  exact ⟨this, by rw [List.take_add_one, this]; rfl⟩
 have cx : ∀ i, i < l.length → ∃ r, zC 40 [rv r] (rv r) ∧ (l.map zE)[i]? = some r ∧ (l.map zE).take (i + 1) = (l.map zE).take i ++ [r] := fun i h => by
  obtain ⟨q, hq⟩ := zX h
  exact ⟨zE q, cc q (List.mem_of_getElem? hq), (ccl i q hq).1, (ccl i q hq).2⟩
 clear cc ccl
 have hXl : (l.map zE).length = l.length := List.length_map ..
 have hv0 : (V 0).map zE = (l.map zE).take l.length := by rw [v0, ← hXl, List.take_length]
 have vl' : ∀ j, j ≤ x.us.length → ((V j).map zE).length = l.length + j := fun j h => by rw [List.length_map]; exact vl j h
 obtain ⟨W, hW⟩ : ∃ W : Nat → List R, ∀ j, (V j).map zE = W j := ⟨_, fun _ => rfl⟩
 simp only [hW] at facts vl' hv0 ⊢
 clear hW vl v0
 generalize l.map zE = X at *
 generalize x.us.length = M at *
 generalize x.us.map fA = us at *
 generalize hln : l.length = n at *
 have hlx : X.length = n := hXl
 have htl : ∀ i, i ≤ n → (X.take i).length = i := fun i h => by rw [List.length_take]; omega
 cbv
 refine cA cv ?_
 cbv
 refine rS rfl ?_
 cbv
 refine zF (fun e => ?_) (fun e => (e (by rw [zA]; (try dsimp only [zG] at *); omega)).elim)
 cbv
 refine z5 (σ := Nat) (fun i => ⟨[(1, rlv X), (2, .ptr 2 0), (6, .osl 6 3 (fun _ => 0) (fun _ => (X.take i).length)), (7, .int .i64 (fun _ => (i : Int)))], [(2, .box [.int .i64 (fun _ => (n : Int)), alv us, alv os]), (6, .arr 3 (fun _ => enc rc (X.take i)))]⟩)
  (fun i => i ≤ n) (fun i => n - i) 0 (Nat.zero_le _)
  (.trans (wkZ (ps' := ⟨[(1, rlv X), (2, .ptr 2 0), (6, .nil), (7, .int .i64 (fun _ => ((0 : Nat) : Int)))], [(2, .box [.int .i64 (fun _ => (n : Int)), alv us, alv os])]⟩)) (.trans (.adoptT (ps := ⟨[(1, rlv X), (2, .ptr 2 0), (6, .nil), (7, .int .i64 (fun _ => ((0 : Nat) : Int)))], [(2, .box [.int .i64 (fun _ => (n : Int)), alv us, alv os])]⟩) 6 3 6 rfl rfl) (wkZ))) ?_
 intro i hi'
 have hti := htl i hi'
 cbv
 refine zF (fun h => ?_) (fun h => ?_)
 ·have hlt : i < n := by rw [zA] at h; (try dsimp only [zG] at *); omega
  obtain ⟨r, c1, g1, g2⟩ := cx i hlt
  clear cx facts vl'
  cbv
  refine yV g1 xW wQ ?_
  cbv
  refine cA c1 ?_
  cbv
  refine aO t7 ?_
  cbv
  exact ⟨zH om om, i + 1, (by show i + 1 ≤ n; omega), (by show n - (i + 1) < n - i; omega), wkY (by cbv; repeat' first | exact trivial | exact lR | exact zD om | exact z3 rfl (by first | rfl | (rw [g2]; done) | (simp [zR, zA, htl, hlx]; done) | (rw [g2]; simp [zR, zA]; done)) | exact zJ (by first | rfl | (rw [g2]; done) | (rw [g2]; rfl) | (rw [← z8]; rfl) | (rw [g2, ← z8]; rfl)) | apply And.intro)⟩
 have hin : i = n := by rw [zA] at h; (try dsimp only [zG] at *); omega
 rw [hin]
 clear hin hti hi' h cx
 cbv
 refine z5 (σ := Nat) (fun j => ⟨[(2, .ptr 2 0), (6, .osl 6 3 (fun _ => 0) (fun _ => (W j).length)), (8, .int .i64 (fun _ => (j : Int)))], [(2, .box [.int .i64 (fun _ => (n : Int)), alv us, alv os]), (6, .log 3 (fun _ => enc rc (W j)))]⟩)
  (fun j => j ≤ M) (fun j => M - j) 0 (Nat.zero_le _) (.trans (.lend 6 8 rfl rfl trivial) (wkY (by cbv; repeat' first | exact trivial | exact lR | exact zD om | exact z3 rfl (by first | rfl | (rw [hv0]; done) | (simp [zR, zA, htl, hlx]; done) | (rw [hv0]; simp [zR, zA]; done)) | exact zJ (by first | rfl | (rw [hv0]; done) | (rw [hv0]; rfl) | (rw [← z8]; rfl) | (rw [hv0, ← z8]; rfl)) | apply And.intro))) ?_
 intro j hj
 have lj := vl' j hj
 cbv
 refine zF (fun h => ?_) (fun h => ?_)
 ·have hlt : j < M := by rw [zA, hUl] at h; (try dsimp only [zG] at *); omega
  obtain ⟨p, y, z, g1, c1, c2, g2⟩ := facts j hlt
  have hT := tU rc (W j)
  have hfr := enc_in rc (W j)
  clear facts vl'
  generalize W j = Wj at *
  cbv
  refine yV g1 uX jN ?_
  cbv
  refine uP (.lend 6 48 rfl rfl ?_) rfl ?_ c1 rfl ?_
  ·cbv
   repeat' first | exact trivial | exact ⟨hfr⟩ | apply And.intro
  ·cbv
   exact ⟨okA, zP hT, trivial⟩
  cbv
  refine yQ rfl okA c2 rfl ?_
  cbv
  refine aL t7 ?_
  cbv
  exact ⟨zH om om, j + 1, (by show j + 1 ≤ M; omega), (by show M - (j + 1) < M - j; omega), wkY (by cbv; repeat' first | exact trivial | exact lR | exact zD om | exact z3 rfl (by first | rfl | (rw [g2]; done) | (simp [zR, zA, htl, hlx]; done) | (rw [g2]; simp [zR, zA]; done)) | exact zJ (by first | rfl | (rw [g2]; done) | (rw [g2]; rfl) | (rw [← z8]; rfl) | (rw [g2, ← z8]; rfl)) | apply And.intro)⟩
 have hjn : j = M := by rw [zA, hUl] at h; (try dsimp only [zG] at *); omega
 rw [hjn]
 clear hjn lj hj h facts vl'
 generalize W M = X' at *
 have hT := tU rc X'
 have hfr := enc_in rc X'
 cbv
 refine cE _ (.trans (.le (ps' := ⟨[(4, .osl 6 3 (fun _ => 0) (fun _ => X'.length)), (5, .int .i64 (fun _ => 0))], [(6, .log 3 (fun _ => enc rc X'))]⟩) ?_ ?_ rfl) (.frz 6 rfl rfl ?_ ?_)) rfl ?_
 ·cbv
  exact okA
 ·cbv
  exact ⟨zJ rfl, trivial⟩
 ·cbv
  repeat' first | exact trivial | exact ⟨hfr⟩ | apply And.intro
 ·cbv
  repeat' first | exact trivial | apply And.intro
 cbv
 exact ⟨zP hT, lR, trivial⟩
theorem rN {α β : Type} (g : α → β) {l : List α} {i : Nat} {a : α} (h : l[i]? = some a) : (l.take (i + 1)).map g = (l.take i).map g ++ [g a] := by rw [List.take_add_one, h]; simp
theorem sR15Forms (x : FGrp) (fs : List F) (l : List Rat) (hx : x.small) (hv : x.g.valid = true) (hz : x.g.sz (2^32)) (hw : ∀ (i : Nat) (f : F), x.us[i]? = some f → f.wf ((x.n + i : Nat) : Int)) (hl : l.length = x.n) {m : Nat} (hm : 1 ≤ m) (hm2 : m ≤ 2^10) (hf : ∀ q, q ∈ l → Fits m q)
  (h1 : fs.length ≤ 1000) (h2 : ∀ f, f ∈ fs → f.fl 43 7 ∧ f.wf ((x.n + x.us.length : Nat) : Int)) :
  zC 75 [gv x.g, alv (fs.map fA), rlv (l.map zE)] (.tup [rlv ((fs.map fun f => f.at (xr (xY x.us l))).map zE), .int .i64 (fun _ => 0)]) := by
 refine sF Tryz.f75 ?_
 have cv := sR15Vals x l hx hv hz hw hl hm hm2 hf
 obtain ⟨V, Q⟩ := vseq hx hw hl hm hm2 hf
 have vfit : ∀ q, q ∈ xY x.us l → Fits (2^24) q := fun q hq => Q.fit x.us.length q (by rw [Q.v9]; exact hq)
 have vlen : (xY x.us l).length = x.n + x.us.length := by rw [dW, hl]
 have n2 := hx.n2
 have u4 := hx.us
 clear Q
 generalize xY x.us l = VV at *
 have ce : ∀ i, i < fs.length → ∃ (p : A) (y : R), (fs.map fA)[i]? = some p ∧ zC 33 [av p, rlv (VV.map zE)] (.tup [rv y, .int .i64 (fun _ => 0)]) ∧ ((fs.take (i + 1)).map fun f => zE (f.at (xr VV))) = ((fs.take i).map fun f => zE (f.at (xr VV))) ++ [y] := fun i hi => by
  obtain ⟨f, hfi⟩ := zX hi
  obtain ⟨g1, g2⟩ := h2 f (List.mem_of_getElem? hfi)
  rw [← vlen] at g2
  have := sR7Ev f VV g1 g2 vfit (by decide) (by decide) (by decide) (by decide) (by omega)
  exact ⟨fA f, _, by rw [List.getElem?_map, hfi]; rfl, this, rN _ hfi⟩
 obtain ⟨W, hW⟩ : ∃ W : Nat → List R, ∀ i, ((fs.take i).map fun f => zE (f.at (xr VV))) = W i := ⟨_, fun _ => rfl⟩
 have w0 : W 0 = [] := by rw [← hW]; rfl
 have wl : ∀ i, i ≤ fs.length → (W i).length = i := fun i h => by rw [← hW, List.length_map, List.length_take]; omega
 have w9 : (fs.map fun f => f.at (xr VV)).map zE = W fs.length := by rw [← hW, List.take_length, List.map_map]; rfl
 simp only [hW] at ce
 rw [w9]
 have hFl : (fs.map fA).length = fs.length := List.length_map ..
 clear hW w9 h2 hf hw hx hv hz
 generalize fs.map fA = FS at *
 generalize fs.length = M at *
 generalize VV.map zE = X at *
 generalize l.map zE = LL at *
 generalize x.g = g at *
 obtain ⟨gn, us, os⟩ := g
 cbv
 refine cA cv ?_
 cbv
 refine xO rfl ?_
 cbv
 refine z5 (σ := Nat) (fun i => ⟨[(1, alv FS), (8, rlv X), (10, .osl 10 3 (fun _ => 0) (fun _ => (W i).length)), (11, .int .i64 (fun _ => (i : Int)))], [(10, .arr 3 (fun _ => enc rc (W i)))]⟩)
  (fun i => i ≤ M) (fun i => M - i) 0 (Nat.zero_le _)
  (.trans (wkZ (ps' := ⟨[(1, alv FS), (8, rlv X), (10, .nil), (11, .int .i64 (fun _ => ((0 : Nat) : Int)))], []⟩)) (.trans (.adoptT (ps := ⟨[(1, alv FS), (8, rlv X), (10, .nil), (11, .int .i64 (fun _ => ((0 : Nat) : Int)))], []⟩) 10 3 10 rfl rfl) (wkY (by cbv; repeat' first | exact trivial | exact lR | exact zD om | exact z3 rfl (by first | rfl | (rw [w0]; done) | (simp [zR, zA]; done) | (rw [w0]; simp [zR, zA]; done)) | exact zJ (by first | rfl | (rw [w0]; done) | (rw [w0]; rfl) | (rw [← z8]; rfl) | (rw [w0, ← z8]; rfl)) | apply And.intro)))) ?_
 intro i hi'
 have hwi := wl i hi'
 cbv
 refine zF (fun h => ?_) (fun h => ?_)
 ·have hlt : i < M := by rw [zA, hFl] at h; (try dsimp only [zG] at *); omega
  obtain ⟨p, y, g1, c1, g2⟩ := ce i hlt
  clear ce wl
  cbv
  refine yV g1 uX jN ?_
  cbv
  refine cA c1 ?_
  cbv
  refine aO t7 ?_
  cbv
  exact ⟨zH om om, i + 1, (by show i + 1 ≤ M; omega), (by show M - (i + 1) < M - i; omega), wkY (by cbv; repeat' first | exact trivial | exact lR | exact zD om | exact z3 rfl (by first | rfl | (rw [g2]; done) | (simp [zR, zA]; done) | (rw [g2]; simp [zR, zA]; done)) | exact zJ (by first | rfl | (rw [g2]; done) | (rw [g2]; rfl) | (rw [← z8]; rfl) | (rw [g2, ← z8]; rfl)) | apply And.intro)⟩
 have hin : i = M := by rw [zA, hFl] at h; (try dsimp only [zG] at *); omega
 rw [hin]
 clear hin hwi hi' h ce wl
 generalize W M = X' at *
 have hT := tU rc X'
 have hfr := enc_in rc X'
 cbv
 refine cE _ (.trans (.le (ps' := ⟨[(6, .osl 10 3 (fun _ => 0) (fun _ => X'.length)), (7, .int .i64 (fun _ => 0))], [(10, .arr 3 (fun _ => enc rc X'))]⟩) ?_ ?_ rfl) (.frz 10 rfl rfl ?_ ?_)) rfl ?_
 ·cbv
  exact okA
 ·cbv
  exact ⟨zJ rfl, trivial⟩
 ·cbv
  repeat' first | exact trivial | exact ⟨hfr⟩ | apply And.intro
 ·cbv
  repeat' first | exact trivial | apply And.intro
 cbv
 exact ⟨zP hT, lR, trivial⟩
theorem sR15Pre (x : FGrp) (l : List Rat) (hx : x.small) (hv : x.g.valid = true) (hz : x.g.sz (2^32)) (hw : ∀ (i : Nat) (f : F), x.us[i]? = some f → f.wf ((x.n + i : Nat) : Int)) (hl : l.length = x.n) {m : Nat} (hm : 1 ≤ m) (hm2 : m ≤ 2^10) (hf : ∀ q, q ∈ l → Fits m q) :
  zC 34 [gv x.g, rlv (l.map zE)] (.tup [rlv ((x.us.map fun f => f.at (xr (xY x.us l))).map zE), .int .i64 (fun _ => 0)]) := by
 refine sF Tryz.f34 ?_
 have cf := sR15Forms x x.us l hx hv hz hw hl hm hm2 hf (by have := hx.us; omega) (fun f h => by
  obtain ⟨i, hi⟩ := sP h
  have hlt := (List.getElem?_eq_some_iff.1 hi).1
  exact ⟨hx.uf f h, (hw i f hi).mono (by omega)⟩)
 have e : gv x.g = .agg [.int .i64 (fun _ => (x.n : Int)), alv (x.us.map fA), alv (x.os.map fA)] := rfl
 rw [e] at cf ⊢
 generalize (x.us.map fun f => f.at (xr (xY x.us l))).map zE = Y at *
 generalize x.us.map fA = us at *
 generalize x.os.map fA = os at *
 generalize l.map zE = LL at *
 generalize (x.n : Int) = n at *
 cbv
 refine cA cf ?_
 cbv
 (refine rC ?_; cbv)
 exact okA
theorem sR19Own (g : Reg) (hg : g.sz (2^31)) : zC 121 [rgv g] (.bool (fun _ => g.valid (g.lo.length : Int))) := by
 refine sF Tryz.f121 ?_
 have cv := sR19V g (g.lo.length : Int) hg
 generalize g.valid (g.lo.length : Int) = b at *
 obtain ⟨lo, hi, rows⟩ := g
 cbv
 refine yQ rfl (by exact ⟨okA, zD (by rw [zA]), trivial⟩) cv rfl ?_
 cbv
 (refine rC ?_; cbv)
 exact lR
def oO (raw : List UInt8) (i : Nat) : Nat := if i < raw.length then ((raw.getD i 0) % 9).toNat else 0
def kG (raw : List UInt8) : Nat → List (Rat × Rat) → List Rat
 | _, [] => []
 | i, b :: r => (b.1 + wU (oO raw i : Int) 8 * (b.2 - b.1)) :: kG raw (i + 1) r
theorem eE (raw : List UInt8) : ∀ (i : Nat) (l : List (Rat × Rat)), (kG raw i l).length = l.length
 | _, [] => rfl
 | i, b :: r => by unfold kG; rw [List.length_cons, List.length_cons, eE raw _ r]
theorem insV_get (raw : List UInt8) : ∀ {l : List (Rat × Rat)} {i j : Nat} {b : Rat × Rat}, l[j]? = some b → (kG raw i l)[j]? = some (b.1 + wU (oO raw (i + j) : Int) 8 * (b.2 - b.1))
 | [], _, _, _, h => by simp at h
 | a :: r, i, 0, b, h => by
  simp only [List.getElem?_cons_zero, Option.some.injEq] at h
  subst h
  unfold kG
  simp
 | a :: r, i, j + 1, b, h => by
  simp only [List.getElem?_cons_succ] at h
  unfold kG
  rw [List.getElem?_cons_succ, insV_get raw h, show i + 1 + j = i + (j + 1) by omega]
theorem remn (w : UInt8) : nx .i64 (irem (w.toNat : Int) 9) = (((w % 9).toNat : Nat) : Int) := by
 have h := w.toNat_lt
 unfold irem nx
 have e : Int.tmod (w.toNat : Int) 9 = ((w.toNat % 9 : Nat) : Int) := (Int.ofNat_tmod _ _).symm
 rw [e, UInt8.toNat_mod]
 show IntKind.wrap .i64 ((w.toNat % 9 : Nat) : Int) = ((w.toNat % 9 : Nat) : Int)
 have h8 : w.toNat % 9 < 9 := Nat.mod_lt _ (by decide)
 generalize w.toNat % 9 = k at *
 simp [IntKind.wrap, IntKind.signed, IntKind.bits]
 omega
theorem insK_lt (raw : List UInt8) (i : Nat) : oO raw i < 9 := by
 unfold oO
 split
 ·rw [UInt8.toNat_mod]; exact Nat.mod_lt _ (by decide)
 ·decide
theorem eD {k : Nat} (h : k < 9) : Fits 1 (wU (k : Int) 8) := by
 have : ∀ k : Fin 9, (wU (k.val : Int) 8).num.natAbs < B ∧ (wU (k.val : Int) 8).den < B := by decide +kernel
 obtain ⟨h1, h2⟩ := this ⟨k, h⟩
 exact ⟨by simpa using h1, by simpa using h2⟩
theorem insV_fits {raw : List UInt8} : ∀ {l : List (Rat × Rat)} {i : Nat}, (∀ b, b ∈ l → Fits 3 b.1 ∧ Fits 3 b.2) → ∀ q, q ∈ kG raw i l → Fits 20 q
 | [], _, _, q, hq => absurd hq (by simp [kG])
 | b :: r, i, h, q, hq => by
  unfold kG at hq
  rcases List.mem_cons.1 hq with rfl | hq
  ·obtain ⟨h1, h2⟩ := h b List.mem_cons_self
   exact (wX h1 (xI (eD (insK_lt raw i)) (u9 h2 h1))).mono (by omega)
  ·exact insV_fits (fun c hc => h c (List.mem_cons_of_mem _ hc)) q hq
theorem sR19Ins (x : FReg) (raw : List UInt8) {n : Nat} (hx : x.small n) (hn : n ≤ 1000) (hr : raw.length < 2^38) : zC 30 [rgv x.g, u8v raw] (rlv ((kG raw 0 x.bs).map zE)) := by
 refine sF Tryz.f30 ?_
 have hbl := hx.bs
 have facts : ∀ i, i < n → ∃ (K : Nat) (part lo hi d m y : R), (x.bs.map fun b => zE b.1)[i]? = some lo ∧ (x.bs.map fun b => zE b.2)[i]? = some hi ∧ zC 36 [.int .i64 (fun _ => (K : Int)), .int .i64 (fun _ => 8)] (.tup [rv part, .int .i64 (fun _ => 0)]) ∧
   zC 69 [rv hi, rv lo] (rv d) ∧ zC 46 [rv part, rv d] (rv m) ∧ zC 37 [rv lo, rv m] (rv y) ∧ (((kG raw 0 x.bs).take (i + 1)).map zE = ((kG raw 0 x.bs).take i).map zE ++ [y]) ∧
   (i < raw.length → ∃ w, raw[i]? = some w ∧ nx .i64 (irem (w.toNat : Int) 9) = (K : Int)) ∧ (¬ i < raw.length → K = 0) := fun i hi => by
  obtain ⟨b, hb⟩ := zX (l := x.bs) (i := i) (by omega)
  obtain ⟨f1, f2⟩ := hx.bf b (List.mem_of_getElem? hb)
  have hK := insK_lt raw i
  have c1 := s43 (oO raw i : Int) 8 (by omega) (by omega) (by decide) (by decide) (by decide)
  have c2 := s93 (zE b.2) (zE b.1) ((zY f2).mono (by decide)) ((zY f1).mono (by decide))
  rw [zW, zW] at c2
  have f3 := u9 f2 f1
  have c3 := s77 (zE (wU (oO raw i : Int) 8)) (zE (b.2 - b.1)) ((zY (eD hK)).mono (by decide)) ((zY f3).mono (by decide))
  rw [zW, zW] at c3
  have c4 := s44 (zE b.1) (zE (wU (oO raw i : Int) 8 * (b.2 - b.1))) ((zY f1).mono (by decide)) ((zY (xI (eD hK) f3)).mono (by decide))
  rw [zW, zW] at c4
  have g := insV_get raw (i := 0) hb
  rw [Nat.zero_add] at g
  refine ⟨oO raw i, _, _, _, _, _, _, by rw [List.getElem?_map, hb]; rfl, by rw [List.getElem?_map, hb]; rfl, c1, c2, c3, c4, rN _ g, fun h => ?_, fun h => ?_⟩
  ·obtain ⟨w, hw⟩ := zX h
   refine ⟨w, hw, ?_⟩
   rw [remn]
   unfold oO
   rw [if_pos h, List.getD_eq_getElem?_getD, hw]
   rfl
  ·unfold oO
   rw [if_neg h]
 have hIl : (kG raw 0 x.bs).length = n := by rw [eE, hbl]
 obtain ⟨W, hW⟩ : ∃ W : Nat → List R, ∀ i, ((kG raw 0 x.bs).take i).map zE = W i := ⟨_, fun _ => rfl⟩
 have w0 : W 0 = [] := by rw [← hW]; rfl
 have wl : ∀ i, i ≤ n → (W i).length = i := fun i h => by rw [← hW, List.length_map, List.length_take]; omega
 have w9 : (kG raw 0 x.bs).map zE = W n := by rw [← hW, ← hIl, List.take_length]
 simp only [hW] at facts
 rw [w9]
 have e : rgv x.g = .agg [rlv (x.bs.map fun b => zE b.1), rlv (x.bs.map fun b => zE b.2), alv (x.rows.map fA)] := rfl
 rw [e]
 have hLl : (x.bs.map fun b => zE b.1).length = n := by rw [List.length_map, hbl]
 clear hW w9 hx hIl e hbl
 generalize x.bs.map (fun b => zE b.1) = LO at *
 generalize x.bs.map (fun b => zE b.2) = HI at *
 generalize x.rows.map fA = RW at *
 cbv
 refine z5 (σ := Nat) (fun i => ⟨[(1, u8v raw), (2, .ptr 2 0), (5, .osl 5 3 (fun _ => 0) (fun _ => (W i).length)), (6, .int .i64 (fun _ => (i : Int)))], [(2, .box [rlv LO, rlv HI, alv RW]), (5, .arr 3 (fun _ => enc rc (W i)))]⟩)
  (fun i => i ≤ n) (fun i => n - i) 0 (Nat.zero_le _)
  (.trans (wkZ (ps' := ⟨[(1, u8v raw), (2, .ptr 2 0), (5, .nil), (6, .int .i64 (fun _ => ((0 : Nat) : Int)))], [(2, .box [rlv LO, rlv HI, alv RW])]⟩)) (.trans (.adoptT (ps := ⟨[(1, u8v raw), (2, .ptr 2 0), (5, .nil), (6, .int .i64 (fun _ => ((0 : Nat) : Int)))], [(2, .box [rlv LO, rlv HI, alv RW])]⟩) 5 3 5 rfl rfl) (wkY (by cbv; repeat' first | exact trivial | exact lR | exact zD om | exact z3 rfl (by first | rfl | (rw [w0]; done) | (simp [zR, zA]; done) | (rw [w0]; simp [zR, zA]; done)) | exact zJ (by first | rfl | (rw [w0]; done) | (rw [w0]; rfl) | (rw [← z8]; rfl) | (rw [w0, ← z8]; rfl)) | apply And.intro)))) ?_
 intro i hi'
 have hwi := wl i hi'
 cbv
 refine zF (fun h => ?_) (fun h => ?_)
 ·have hlt : i < n := by rw [zA, hLl] at h; (try dsimp only [zG] at *); omega
  obtain ⟨K, part, lo, hi, d, m, y, g1, g2, c1, c2, c3, c4, g3, k1, k2⟩ := facts i hlt
  clear facts wl
  generalize W i = Wi at *
  cbv
  refine j2 (σ := Unit) (fun _ => ⟨[(1, u8v raw), (2, .ptr 2 0), (5, .osl 5 3 (fun _ => 0) (fun _ => Wi.length)), (6, .int .i64 (fun _ => (i : Int))), (7, .int .i64 (fun _ => (K : Int)))], [(2, .box [rlv LO, rlv HI, alv RW]), (5, .arr 3 (fun _ => enc rc Wi))]⟩) (fun _ => True) (fun e => ?_) (fun e => ?_) (fun _ _ => ?_)
  ·obtain ⟨w, hw, hk⟩ := k1 (gC e)
   cbv
   refine yV hw lU nY ?_
   cbv
   refine ⟨vI om, ?_⟩
   cbv
   exact ⟨(), trivial, .le (by cbv; exact ⟨lR, lR, lR, lR, zD hk, trivial⟩) okZ rfl⟩
  ·have hk := k2 (fun h => e (by rw [zA]; (try dsimp only [zG] at *); omega))
   subst hk
   cbv
   exact ⟨(), trivial, .le (by cbv; exact ⟨lR, lR, lR, lR, zD rfl, trivial⟩) okZ rfl⟩
  ·clear k1 k2
   cbv
   refine cA c1 ?_
   cbv
   refine zO 21 (by cbv) ?_
   cbv
   refine yV g1 xW wQ ?_
   cbv
   refine yV g2 xW wQ ?_
   cbv
   refine yV g1 xW wQ ?_
   cbv
   refine dA c2 ?_
   cbv
   refine dA c3 ?_
   cbv
   refine dA c4 ?_
   cbv
   refine aO t7 ?_
   cbv
   exact ⟨zH om om, i + 1, (by show i + 1 ≤ n; omega), (by show n - (i + 1) < n - i; omega), wkY (by cbv; repeat' first | exact trivial | exact lR | exact zD om | exact z3 rfl (by first | rfl | (rw [g3]; done) | (simp [zR, zA]; done) | (rw [g3]; simp [zR, zA]; done)) | exact zJ (by first | rfl | (rw [g3]; done) | (rw [g3]; rfl) | (rw [← z8]; rfl) | (rw [g3, ← z8]; rfl)) | apply And.intro)⟩
 have hin : i = n := by rw [zA, hLl] at h; (try dsimp only [zG] at *); omega
 rw [hin]
 clear hin hwi hi' h facts wl
 generalize W n = X' at *
 have hT := tU rc X'
 have hfr := enc_in rc X'
 cbv
 refine cE _ (.trans (.le (ps' := ⟨[(4, .osl 5 3 (fun _ => 0) (fun _ => X'.length))], [(5, .arr 3 (fun _ => enc rc X'))]⟩) ?_ ?_ rfl) (.frz 5 rfl rfl ?_ ?_)) rfl ?_
 ·cbv
  exact okA
 ·cbv
  exact ⟨zJ rfl, trivial⟩
 ·cbv
  repeat' first | exact trivial | exact ⟨hfr⟩ | apply And.intro
 ·cbv
  repeat' first | exact trivial | apply And.intro
 cbv
 exact zP hT
def inB : List (Rat × Rat) → List Rat → Bool
 | b :: bs, q :: qs => (decide (0 ≤ x6 q b.1) && decide (x6 q b.2 ≤ 0)) && inB bs qs
 | _, _ => true
def iL (fs : List F) (X : Int → Rat) : Bool := fs.all fun f => decide (0 ≤ yA (f.at X))
theorem n9 : ∀ {bs : List (Rat × Rat)} {l : List Rat}, inB bs l = true → ∀ (i : Nat) b q, bs[i]? = some b → l[i]? = some q → 0 ≤ x6 q b.1 ∧ x6 q b.2 ≤ 0
 | [], _, _, i, b, q, h, _ => by simp at h
 | _ :: _, [], _, i, b, q, _, h => by simp at h
 | a :: bs, p :: l, h, 0, b, q, h1, h2 => by
  simp only [List.getElem?_cons_zero, Option.some.injEq] at h1 h2
  subst h1 h2
  unfold inB at h
  simp only [Bool.and_eq_true, decide_eq_true_eq] at h
  exact h.1
 | a :: bs, p :: l, h, i + 1, b, q, h1, h2 => by
  simp only [List.getElem?_cons_succ] at h1 h2
  unfold inB at h
  simp only [Bool.and_eq_true, decide_eq_true_eq] at h
  exact n9 h.2 i b q h1 h2
theorem inB_of : ∀ {bs : List (Rat × Rat)} {l : List Rat}, (∀ (i : Nat) b q, bs[i]? = some b → l[i]? = some q → 0 ≤ x6 q b.1 ∧ x6 q b.2 ≤ 0) → inB bs l = true
 | [], _, _ => by unfold inB; rfl
 | _ :: _, [], _ => by unfold inB; rfl
 | a :: bs, p :: l, h => by
  unfold inB
  simp only [Bool.and_eq_true, decide_eq_true_eq]
  exact ⟨h 0 a p rfl rfl, inB_of fun i b q h1 h2 => h (i + 1) b q (by simpa using h1) (by simpa using h2)⟩
def conB (x : FReg) (l : List Rat) : Bool := inB x.bs l && iL x.rows (xr l)
theorem sR19Con (x : FReg) (l : List Rat) {n : Nat} (hx : x.small n) (hv : x.g.valid (n : Int) = true) (hz : x.g.sz (2^31)) (hw : ∀ f, f ∈ x.rows → f.wf (n : Int)) (hl : l.length = n) (hn : n ≤ 3) {m : Nat} (hm2 : m ≤ 2^10) (hf : ∀ q, q ∈ l → Fits m q) :
  zC 71 [rgv x.g, rlv (l.map zE)] (.bool (fun _ => conB x l)) := by
 refine sF Tryz.f71 ?_
 have co := sR19Own x.g hz
 have hlo : x.g.lo.length = n := by show (List.map _ _).length = n; rw [List.length_map]; exact hx.bs
 rw [hlo, hv] at co
 have hbl := hx.bs
 generalize hres : conB x l = res
 have r0 : res = (inB x.bs l && iL x.rows (xr l)) := hres.symm
 have facts : ∀ i, i < n → ∃ (q lo hi : R) (z1 z2 : Int), (l.map zE)[i]? = some q ∧ (x.bs.map fun b => zE b.1)[i]? = some lo ∧ (x.bs.map fun b => zE b.2)[i]? = some hi ∧ zC 35 [rv q, rv lo] (.int .i64 (fun _ => z1)) ∧ zC 35 [rv q, rv hi] (.int .i64 (fun _ => z2)) ∧
   (¬ (0 ≤ z1 ∧ z2 ≤ 0) → res = false) ∧ ((0 ≤ z1 ∧ z2 ≤ 0) → ∀ b q, x.bs[i]? = some b → l[i]? = some q → 0 ≤ x6 q b.1 ∧ x6 q b.2 ≤ 0) := fun i hi => by
  obtain ⟨b, hb⟩ := zX (l := x.bs) (i := i) (by omega)
  obtain ⟨q, hq⟩ := zX (l := l) (i := i) (by omega)
  obtain ⟨f1, f2⟩ := hx.bf b (List.mem_of_getElem? hb)
  have f3 := hf q (List.mem_of_getElem? hq)
  have c1 := s42 (zE q) (zE b.1) ((zY f3).mono (by omega)) ((zY f1).mono (by decide))
  have c2 := s42 (zE q) (zE b.2) ((zY f3).mono (by omega)) ((zY f2).mono (by decide))
  rw [zW, zW] at c1 c2
  refine ⟨_, _, _, _, _, by rw [List.getElem?_map, hq]; rfl, by rw [List.getElem?_map, hb]; rfl, by rw [List.getElem?_map, hb]; rfl, c1, c2, fun h => ?_, fun h b' q' hb' hq' => ?_⟩
  ·cases hi' : inB x.bs l with
   | false => rw [r0, hi']; rfl
   | true => exact absurd (n9 hi' i b q hb hq) h
  ·rw [hb] at hb'
   rw [hq] at hq'
   cases hb'
   cases hq'
   exact h
 have n2 := hx.rows
 have rf : ∀ k, k < x.rows.length → ∃ (p : A) (y : R) (s : Int), (x.rows.map fA)[k]? = some p ∧ zC 33 [av p, rlv (l.map zE)] (.tup [rv y, .int .i64 (fun _ => 0)]) ∧ zC 28 [rv y] (.int .i64 (fun _ => s)) ∧ (s < 0 → res = false) ∧ (¬ s < 0 → ∀ f, x.rows[k]? = some f → 0 ≤ yA (f.at (xr l))) := fun k hk => by
  obtain ⟨f, hfk⟩ := zX hk
  have hmem := List.mem_of_getElem? hfk
  have hwf := hw f hmem
  rw [← hl] at hwf
  have hfl : f.fl 19 3 := (hx.rf f hmem).mono (by omega) hn
  have ce := sR7Ev f l hfl hwf hf (by decide) (by omega) (by omega) (by decide) (by omega)
  have cs := s35 (zE (f.at (xr l))) (by have := (zY (s9 hfl (lN hwf hf))).n; omega)
  rw [zW] at cs
  refine ⟨fA f, _, _, by rw [List.getElem?_map, hfk]; rfl, ce, cs, fun h => ?_, fun h f' hf' => ?_⟩
  ·rw [r0]
   have : iL x.rows (xr l) = false := by
    cases hr : iL x.rows (xr l) with
    | false => rfl
    | true =>
     unfold iL at hr
     have := of_decide_eq_true (List.all_eq_true.1 hr f hmem)
     omega
   rw [this, Bool.and_false]
  ·rw [hfk] at hf'
   cases hf'
   omega
 have rt : (∀ i, i < n → ∀ b q, x.bs[i]? = some b → l[i]? = some q → 0 ≤ x6 q b.1 ∧ x6 q b.2 ≤ 0) → (∀ k, k < x.rows.length → ∀ f, x.rows[k]? = some f → 0 ≤ yA (f.at (xr l))) → res = true := fun h1 h2 => by
  rw [r0, inB_of fun i b q hb hq => h1 i (by have := (List.getElem?_eq_some_iff.1 hb).1; omega) b q hb hq]
  unfold iL
  rw [Bool.true_and, List.all_eq_true]
  intro f hf'
  obtain ⟨k, hk⟩ := sP hf'
  exact decide_eq_true (h2 k (List.getElem?_eq_some_iff.1 hk).1 f hk)
 have e : rgv x.g = .agg [rlv (x.bs.map fun b => zE b.1), rlv (x.bs.map fun b => zE b.2), alv (x.rows.map fA)] := rfl
 rw [e] at co ⊢
 have hLl : (x.bs.map fun b => zE b.1).length = n := by rw [List.length_map, hbl]
 have hRl : (x.rows.map fA).length = x.rows.length := List.length_map ..
 have hXl : (l.map zE).length = n := by rw [List.length_map, hl]
 obtain ⟨P1, hP1⟩ : ∃ P : Nat → Prop, ∀ i, P i = ∀ b q, x.bs[i]? = some b → l[i]? = some q → 0 ≤ x6 q b.1 ∧ x6 q b.2 ≤ 0 := ⟨_, fun _ => rfl⟩
 obtain ⟨P2, hP2⟩ : ∃ P : Nat → Prop, ∀ k, P k = ∀ f, x.rows[k]? = some f → 0 ≤ yA (f.at (xr l)) := ⟨_, fun _ => rfl⟩
 simp only [← hP1] at facts rt
 simp only [← hP2] at rf rt
 clear hx hv hz hw hf e hP1 hP2 r0 hres hlo hbl
 generalize x.bs.map (fun b => zE b.1) = LO at *
 generalize x.bs.map (fun b => zE b.2) = HI at *
 generalize x.rows.map fA = RW at *
 generalize x.rows.length = M at *
 generalize l.map zE = X at *
 cbv
 refine cA co ?_
 cbv
 refine rS rfl ?_
 cbv
 refine zF (fun e => ?_) (fun e => (e (by rw [zA, zA]; (try dsimp only [zG] at *); omega)).elim)
 cbv
 refine z5 (σ := Nat) (fun i => ⟨[(1, rlv X), (2, .ptr 2 0), (5, .int .i64 (fun _ => (i : Int)))], [(2, .box [rlv LO, rlv HI, alv RW])]⟩)
  (fun i => i ≤ n ∧ ∀ j, j < i → P1 j) (fun i => n - i) 0 ⟨Nat.zero_le _, fun j h => absurd h (by omega)⟩ (wkZ) ?_
 intro i hi'
 obtain ⟨hi1, hi2⟩ := hi'
 cbv
 refine zF (fun h => ?_) (fun h => ?_)
 ·have hlt : i < n := by rw [zA, hXl] at h; (try dsimp only [zG] at *); omega
  obtain ⟨q, lo, hi, z1, z2, g1, g2, g3, c1, c2, k1, k2⟩ := facts i hlt
  clear facts rf rt
  cbv
  refine zO 24 (by cbv) ?_
  cbv
  refine yV g1 xW wQ ?_
  cbv
  refine yV g2 xW wQ ?_
  cbv
  refine dA c1 ?_
  cbv
  refine zQ (fun e1 => ?_) (fun e1 => ?_)
  ·have hr := k1 (fun h => by omega)
   cbv
   (refine rC ?_; cbv)
   exact zN hr
  cbv
  refine yV g1 xW wQ ?_
  cbv
  refine yV g3 xW wQ ?_
  cbv
  refine dA c2 ?_
  cbv
  refine zF (fun e2 => ?_) (fun e2 => ?_)
  ·have hr := k1 (fun h => by omega)
   cbv
   (refine rC ?_; cbv)
   exact zN hr
  have hp := k2 ⟨by omega, by omega⟩
  cbv
  exact ⟨zH om om, i + 1, ⟨(by show i + 1 ≤ n; omega), fun j hj => by
   by_cases e : j = i
   ·rw [e]; exact hp
   ·exact hi2 j (by have : j < i + 1 := hj; omega)⟩, (by show n - (i + 1) < n - i; omega), wkZ⟩
 have hin : i = n := by rw [zA, hXl] at h; (try dsimp only [zG] at *); omega
 rw [hin] at hi2
 clear hin hi1 h facts
 cbv
 refine z5 (σ := Nat) (fun k => ⟨[(1, rlv X), (2, .ptr 2 0), (6, .int .i64 (fun _ => (k : Int)))], [(2, .box [rlv LO, rlv HI, alv RW])]⟩)
  (fun k => k ≤ M ∧ ∀ j, j < k → P2 j) (fun k => M - k) 0 ⟨Nat.zero_le _, fun j h => absurd h (by omega)⟩ (wkZ) ?_
 intro k hk'
 obtain ⟨hk1, hk2⟩ := hk'
 cbv
 refine zF (fun h => ?_) (fun h => ?_)
 ·have hlt : k < M := by rw [zA, hRl] at h; (try dsimp only [zG] at *); omega
  obtain ⟨p, y, s, g1, c1, c2, k1, k2⟩ := rf k hlt
  clear rf rt
  cbv
  refine yV g1 uX jN ?_
  cbv
  refine cA c1 ?_
  cbv
  refine cA c2 ?_
  cbv
  refine zF (fun e1 => ?_) (fun e1 => ?_)
  ·have hr := k1 e1
   cbv
   (refine rC ?_; cbv)
   exact zN hr
  have hp := k2 e1
  cbv
  exact ⟨zH om om, k + 1, ⟨(by show k + 1 ≤ M; omega), fun j hj => by
   by_cases e : j = k
   ·rw [e]; exact hp
   ·exact hk2 j (by have : j < k + 1 := hj; omega)⟩, (by show M - (k + 1) < M - k; omega), wkZ⟩
 have hkn : k = M := by rw [zA, hRl] at h; (try dsimp only [zG] at *); omega
 rw [hkn] at hk2
 have hr := rt hi2 hk2
 cbv
 (refine rC ?_; cbv)
 exact yG hr
def preV (x : FQry) (l : List Rat) (i : Int) : Rat := ((x.g.us[i.toNat]?).map fun f => f.at (xr (xY x.g.us l))).getD 0
def dG (x : FQry) (d : Dec) (l : List Rat) : Bool :=
 d.fits x.q && (if d.k = 3 then decide (0 ≤ x6 (xr l d.i) d.x.q) else if d.k = 4 then decide (x6 (xr l d.i) d.x.q ≤ 0) else if d.k = 1 then decide (0 ≤ yA (preV x l d.i)) else decide (yA (preV x l d.i) ≤ 0))
structure InpOk (x : FQry) (l : List Rat) : Prop where
 len : l.length = x.g.n
 fit : ∀ q, q ∈ l → Fits 20 q
theorem fits34 {x : FQry} {d : Dec} (h : d.fits x.q = true) (hk : d.k = 3 ∨ d.k = 4) : 0 ≤ d.i ∧ d.i < (x.g.n : Int) := by
 unfold Dec.fits at h
 rw [if_neg (by omega), if_pos hk] at h
 simp only [Bool.and_eq_true, decide_eq_true_eq] at h
 exact h.1
theorem fits12 {x : FQry} {d : Dec} (h : d.fits x.q = true) (hk : ¬ (d.k = 3 ∨ d.k = 4)) : (d.k = 1 ∨ d.k = 2) ∧ 0 ≤ d.i ∧ d.i < (x.g.us.length : Int) := by
 unfold Dec.fits at h
 split at h
 ·rename_i h12
  simp only [Bool.and_eq_true, decide_eq_true_eq] at h
  have e : x.q.g.us.length = x.g.us.length := by show (List.map _ _).length = _; rw [List.length_map]
  exact ⟨h12, h.1.1, by rw [← e]; exact h.1.2⟩
 ·cases h
theorem sR21Hold (x : FQry) (d : Dec) (l : List Rat) (hx : x.small) (hok : x.ok) (hd : d.x.sz (2^20)) (hl : InpOk x l) : zC 72 [qv x.q, dv d, rlv (l.map zE)] (.bool (fun _ => dG x d l)) := by
 refine sF Tryz.f72 ?_
 have hv := hx.valid hok
 have hz := hx.sz
 have cf := sR21F x.q d (hz.mono (by decide)) (hd.mono (by decide))
 rw [hv, Bool.true_and] at cf
 have hgv : x.g.g.valid = true := by
  have := hv
  unfold Qry.valid at this
  simp only [Bool.and_eq_true] at this
  exact this.1.1
 have cp := sR15Pre x.g l hx.g hgv (hz.g.mono (by decide)) hok.us hl.len (m := 20) (by decide) (by decide) hl.fit
 have n2 := hx.g.n2
 have hll := hl.len
 generalize hres : dG x d l = res
 have r0 : res = (d.fits x.q && (if d.k = 3 then decide (0 ≤ x6 (xr l d.i) d.x.q) else if d.k = 4 then decide (x6 (xr l d.i) d.x.q ≤ 0) else if d.k = 1 then decide (0 ≤ yA (preV x l d.i)) else decide (yA (preV x l d.i) ≤ 0))) := hres.symm
 have f1 : d.fits x.q = false → res = false := fun h => by rw [r0, h]; rfl
 have c34 : d.fits x.q = true → (d.k = 3 ∨ d.k = 4) → ∃ (i : Nat) (q : R) (z : Int), d.i = (i : Int) ∧ (l.map zE)[i]? = some q ∧ zC 35 [rv q, rv d.x] (.int .i64 (fun _ => z)) ∧ (d.k = 3 → res = decide (0 ≤ z)) ∧ (d.k = 4 → res = decide (z ≤ 0)) := fun h hk => by
  obtain ⟨h1, h2⟩ := fits34 h hk
  obtain ⟨q, hq⟩ := zX (l := l) (i := d.i.toNat) (by omega)
  have hi : d.i = ((d.i.toNat : Nat) : Int) := by omega
  have c := s42 (zE q) d.x ((zY (hl.fit q (List.mem_of_getElem? hq))).mono (by decide)) (hd.mono (by decide))
  rw [zW] at c
  have hxr : xr l d.i = q := by rw [hi]; exact lM hq
  refine ⟨d.i.toNat, zE q, _, hi, by rw [List.getElem?_map, hq]; rfl, c, fun h3 => ?_, fun h4 => ?_⟩
  ·rw [r0, h, Bool.true_and, if_pos h3, hxr]
  ·rw [r0, h, Bool.true_and, if_neg (by omega), if_pos h4, hxr]
 have hpl : ((x.g.us.map fun f => f.at (xr (xY x.g.us l))).map zE).length = x.g.us.length := by rw [List.length_map, List.length_map]
 have c12 : d.fits x.q = true → ¬ (d.k = 3 ∨ d.k = 4) → ∃ (i : Nat) (p : R) (z : Int), d.i = (i : Int) ∧ ((x.g.us.map fun f => f.at (xr (xY x.g.us l))).map zE)[i]? = some p ∧ zC 28 [rv p] (.int .i64 (fun _ => z)) ∧ (d.k = 1 → res = decide (0 ≤ z)) ∧ (¬ d.k = 1 → res = decide (z ≤ 0)) := fun h hk => by
  obtain ⟨h0, h1, h2⟩ := fits12 h hk
  obtain ⟨f, hfi⟩ := zX (l := x.g.us) (i := d.i.toNat) (by omega)
  have hi : d.i = ((d.i.toNat : Nat) : Int) := by omega
  have hg : (x.g.us.map fun f => f.at (xr (xY x.g.us l)))[d.i.toNat]? = some (f.at (xr (xY x.g.us l))) := by rw [List.getElem?_map, hfi]; rfl
  have hwf := hok.us _ f hfi
  have hlt := (List.getElem?_eq_some_iff.1 hfi).1
  have hvl : (xY x.g.us l).length = x.g.n + x.g.us.length := by rw [dW, hll]
  obtain ⟨V, Q⟩ := vseq hx.g hok.us hll (m := 20) (by decide) (by decide) hl.fit
  have hft : Fits (2^28) (f.at (xr (xY x.g.us l))) := by
   have := s9 (hx.g.uf f (List.mem_of_getElem? hfi)) (lN (l := xY x.g.us l) (hwf.mono (by rw [hvl]; omega)) (fun q hq => Q.fit x.g.us.length q (by rw [Q.v9]; exact hq)))
   exact this.mono (by decide)
  have c := s35 (zE (f.at (xr (xY x.g.us l)))) (Nat.lt_of_le_of_lt (zY hft).n (by decide))
  rw [zW] at c
  have hp : preV x l d.i = f.at (xr (xY x.g.us l)) := by unfold preV; rw [hfi]; rfl
  refine ⟨d.i.toNat, _, _, hi, by rw [List.getElem?_map, hg]; rfl, c, fun h3 => ?_, fun h4 => ?_⟩
  ·rw [r0, h, Bool.true_and, if_neg (by omega), if_neg (by omega), if_pos h3, hp]
  ·rw [r0, h, Bool.true_and, if_neg (by omega), if_neg (by omega), if_neg h4, hp]
 have hXl : (l.map zE).length = x.g.n := by rw [List.length_map, hll]
 have hgn : x.q.g.n = (x.g.n : Int) := rfl
 have hgg : x.g.g = x.q.g := rfl
 rw [hgg] at cp
 clear r0 hres hl hx hok hz hv hgv hd hll hpl hgg
 generalize (x.g.us.map fun f => f.at (xr (xY x.g.us l))).map zE = PV' at *
 generalize l.map zE = X at *
 generalize d.fits x.q = fb at *
 generalize x.g.n = n at *
 generalize x.q = Q at *
 obtain ⟨⟨gn, us, os⟩, ⟨lo, hi, rows⟩, ⟨ts, c⟩⟩ := Q
 dsimp only at hgn
 subst hgn
 obtain ⟨dk, di, dx⟩ := d
 dsimp only at c34 c12
 cbv
 refine cA cf ?_
 cbv
 refine z4 (fun e1 => ?_) (fun e1 => ?_)
 rotate_left
 ·have hr := f1 e1
  cbv
  (refine rC ?_; cbv)
  exact zN hr
 cbv
 refine zF (fun e => ?_) (fun e => (e (by rw [zA, hXl])).elim)
 cbv
 refine zF (fun e3 => ?_) (fun e3 => ?_)
 ·obtain ⟨i, q, z, hi', g1, c1, k3, k4⟩ := c34 e1 (.inl om)
  have hr := k3 om
  clear c34 c12
  cbv
  refine zO 10 (by cbv) ?_
  cbv
  refine v8 g1 hi' xW wQ ?_
  cbv
  refine dA c1 ?_
  cbv
  (refine rC ?_; cbv)
  exact zV hr.symm
 cbv
 refine zF (fun e4 => ?_) (fun e4 => ?_)
 ·obtain ⟨i, q, z, hi', g1, c1, k3, k4⟩ := c34 e1 (.inr om)
  have hr := k4 om
  clear c34 c12
  cbv
  refine zO 10 (by cbv) ?_
  cbv
  refine v8 g1 hi' xW wQ ?_
  cbv
  refine dA c1 ?_
  cbv
  (refine rC ?_; cbv)
  exact zV hr.symm
 obtain ⟨i, p, z, hi', g1, c1, k1, k2⟩ := c12 e1 om
 clear c34 c12
 cbv
 refine cA cp ?_
 cbv
 refine zF (fun e5 => ?_) (fun e5 => ?_)
 ·have hr := k1 om
  cbv
  refine v8 g1 hi' xW wQ ?_
  cbv
  refine cA c1 ?_
  cbv
  (refine rC ?_; cbv)
  exact zV hr.symm
 ·have hr := k2 om
  cbv
  refine v8 g1 hi' xW wQ ?_
  cbv
  refine cA c1 ?_
  cbv
  (refine rC ?_; cbv)
  exact zV hr.symm
def oN (x : FQry) (path : List Dec) (l : List Rat) : Bool := conB x.r l && path.all fun d => dG x d l
theorem sR21Mem (x : FQry) (path : List Dec) (L : List Lem) (l : List Rat) (hx : x.small) (hok : x.ok) (hd : Dsz (2^20) path) (hl : InpOk x l) : zC 31 [sv ⟨x.q, path, L⟩, rlv (l.map zE)] (.bool (fun _ => oN x path l)) := by
 refine sF Tryz.f31 ?_
 have hv := hx.valid hok
 have hz := hx.sz
 have cv := sR21V x.q (hz.mono (by decide))
 rw [hv] at cv
 have hrv : x.r.g.valid (x.g.n : Int) = true := by
  have := hv
  unfold Qry.valid at this
  simp only [Bool.and_eq_true] at this
  exact this.1.2
 have cc := sR19Con x.r l hx.r hrv (hz.r.mono (by decide)) hok.rows hl.len hx.g.n2 (m := 20) (by decide) hl.fit
 have ch := fun (d : Dec) (h : d ∈ path) => sR21Hold x d l hx hok (hd.sz d h) hl
 have hpl := hd.len
 have hXl : (l.map zE).length = x.g.n := by rw [List.length_map, hl.len]
 generalize hres : oN x path l = res
 have r0 : res = (conB x.r l && path.all fun d => dG x d l) := hres.symm
 have r1 : conB x.r l = false → res = false := fun h => by rw [r0, h]; rfl
 have r2 : ∀ d, d ∈ path → dG x d l = false → res = false := fun d h h' => by
  rw [r0]
  have : (path.all fun d => dG x d l) = false := by
   cases ha : path.all fun d => dG x d l with
   | false => rfl
   | true => have := List.all_eq_true.1 ha d h; rw [h'] at this; cases this
  rw [this, Bool.and_false]
 have r3 : conB x.r l = true → (∀ (i : Nat) d, path[i]? = some d → dG x d l = true) → res = true := fun h h' => by
  rw [r0, h, Bool.true_and, List.all_eq_true]
  intro d hd'
  obtain ⟨i, hi⟩ := sP hd'
  exact h' i d hi
 have hgn : x.q.g.n = (x.g.n : Int) := rfl
 have hrg : x.r.g = x.q.r := rfl
 rw [hrg] at cc
 obtain ⟨H, hH⟩ : ∃ H : Dec → Bool, ∀ d, dG x d l = H d := ⟨_, fun _ => rfl⟩
 simp only [hH] at ch r2 r3
 clear r0 hres hl hx hok hz hv hrv hd hrg hH
 generalize conB x.r l = cb at *
 generalize l.map zE = X at *
 generalize x.g.n = n at *
 generalize x.q = Q at *
 obtain ⟨⟨gn, us, os⟩, ⟨lo, hi, rows⟩, ⟨ts, c⟩⟩ := Q
 dsimp only at hgn
 subst hgn
 cbv
 refine cA cv ?_
 cbv
 refine rS rfl ?_
 cbv
 refine x7 (by rw [zA, hXl]) ?_
 cbv
 refine cA cc ?_
 cbv
 refine zT (fun e1 => ?_) (fun e1 => ?_)
 rotate_left
 ·have hr := r1 e1
  cbv
  (refine rC ?_; cbv)
  exact zN hr
 have r3' := r3 e1
 clear r3 r1
 cbv
 refine z5 (σ := Nat) (fun i => ⟨[(1, rlv X), (2, .ptr 2 0), (5, .int .i64 (fun _ => (i : Int)))], [(2, .box [.int .i64 (fun _ => (n : Int)), alv us, alv os, rlv lo, rlv hi, alv rows, tsv ts, .bool (fun _ => c.neg), nat c.num, nat c.den, dlv path, llv L])]⟩)
  (fun i => i ≤ path.length ∧ ∀ (j : Nat) d, path[j]? = some d → j < i → H d = true) (fun i => path.length - i) 0 ⟨Nat.zero_le _, fun j d _ h => absurd h (by omega)⟩ (wkZ) ?_
 intro i hi'
 obtain ⟨hi1, hi2⟩ := hi'
 cbv
 refine zF (fun h => ?_) (fun h => ?_)
 ·have hlt : i < path.length := by rw [zA] at h; (try dsimp only [zG] at *); omega
  obtain ⟨d, hdi⟩ := zX hlt
  have c1 := ch d (List.mem_of_getElem? hdi)
  have k1 := r2 d (List.mem_of_getElem? hdi)
  have hsucc : H d = true → ∀ (j : Nat) d', path[j]? = some d' → j < i + 1 → H d' = true := fun hH' j d' hj hlt' => by
   by_cases e : j = i
   ·rw [e, hdi] at hj; cases hj; exact hH'
   ·exact hi2 j d' hj (by omega)
  clear ch r2 r3' hi2
  generalize H d = hb at *
  cbv
  refine zO 10 (by cbv) ?_
  cbv
  refine yV hdi dI sB ?_
  cbv
  refine dA c1 ?_
  cbv
  refine zT (fun e2 => ?_) (fun e2 => ?_)
  ·have hs := hsucc e2
   cbv
   exact ⟨zH om om, i + 1, ⟨(by show i + 1 ≤ path.length; omega), hs⟩, (by show path.length - (i + 1) < path.length - i; omega), wkZ⟩
  ·have hr := k1 e2
   cbv
   (refine rC ?_; cbv)
   exact zN hr
 have hr := r3' (fun j d hj => hi2 j d hj (by have := (List.getElem?_eq_some_iff.1 hj).1; rw [zA] at h; (try dsimp only [zG] at *); omega))
 cbv
 (refine rC ?_; cbv)
 exact yG hr
theorem cmpQ_ge {a b : Rat} (h : 0 ≤ x6 a b) : b ≤ a := by unfold x6 at h; split at h <;> (try split at h) <;> grind
theorem cmpQ_le' {a b : Rat} (h : x6 a b ≤ 0) : a ≤ b := by unfold x6 at h; split at h <;> (try split at h) <;> grind
theorem sgnQ_ge {a : Rat} (h : 0 ≤ yA a) : 0 ≤ a := by unfold yA at h; split at h <;> (try split at h) <;> grind
theorem sgnQ_le' {a : Rat} (h : yA a ≤ 0) : a ≤ 0 := by unfold yA at h; split at h <;> (try split at h) <;> grind
theorem mem_pt {x : FQry} {path : List Dec} {L : List Lem} {l : List Rat} (hx : x.small) (hok : x.ok) (hl : InpOk x l) (h : oN x path l = true) : Pt ⟨x.q, path, L⟩ (xr (xY x.g.us l)) := by
 unfold oN conB at h
 simp only [Bool.and_eq_true] at h
 obtain ⟨⟨h1, h2⟩, h3⟩ := h
 have hX : ∀ i : Nat, i < x.g.n → xr (xY x.g.us l) i = xr l i := fun i hi => by
  unfold xr
  rw [Int.toNat_natCast, pP _ _ _ (by rw [hl.len]; exact hi)]
 have hget : ∀ i : Nat, i < x.g.n → ∃ q, l[i]? = some q ∧ xr (xY x.g.us l) i = q := fun i hi => by
  obtain ⟨q, hq⟩ := zX (l := l) (i := i) (by rw [hl.len]; exact hi)
  exact ⟨q, hq, by rw [hX i hi]; exact lM hq⟩
 have hbl := hx.r.bs
 have hwu := hok.us
 have hun : ∀ (i : Nat) f, x.g.us[i]? = some f → xr (xY x.g.us l) ((x.g.n : Int) + i) = rF (f.at (xr (xY x.g.us l))) 0 := fun i f hf => by
  have := oU (us := x.g.us) (l := l) (fun i f h => by rw [hl.len]; exact hwu i f h) hf
  rw [hl.len] at this
  have e : (x.g.n : Int) + i = ((x.g.n + i : Nat) : Int) := by omega
  rw [e]
  exact lM this
 have hus : ∀ (i : Nat) p, x.q.g.us[i]? = some p → ∃ f, x.g.us[i]? = some f ∧ p = fA f := fun i p hp => by
  have hp' : (x.g.us.map fA)[i]? = some p := hp
  rw [List.getElem?_map] at hp'
  cases hf : x.g.us[i]? with
  | none => rw [hf] at hp'; cases hp'
  | some f => rw [hf] at hp'; cases hp'; exact ⟨f, rfl, rfl⟩
 have hhold : ∀ d, d ∈ path → dG x d l = true := fun d hd => List.all_eq_true.1 h3 d hd
 have hpre : ∀ (i : Nat) p, x.q.g.us[i]? = some p → preV x l i = p.f.at (xr (xY x.g.us l)) := fun i p hp => by
  obtain ⟨f, hf, rfl⟩ := hus i p hp
  unfold preV
  rw [Int.toNat_natCast, hf, wO]
  rfl
 refine ⟨fun i y hy => ?_, fun i y hy => ?_, fun i f hf => ?_, fun i p hp => ?_, fun d hd hf hk => ?_, fun d hd hf hk => ?_, fun d hd hf hk i p hi hp => ?_, fun d hd hf hk i p hi hp => ?_⟩
 ·have hy' : (x.r.bs.map fun b => zE b.1)[i]? = some y := hy
  rw [List.getElem?_map] at hy'
  cases hb : x.r.bs[i]? with
  | none => rw [hb] at hy'; cases hy'
  | some b =>
   rw [hb] at hy'
   cases hy'
   have hlt := (List.getElem?_eq_some_iff.1 hb).1
   obtain ⟨q, hq, hqx⟩ := hget i (by omega)
   rw [hqx, zW]
   exact cmpQ_ge (n9 h1 i b q hb hq).1
 ·have hy' : (x.r.bs.map fun b => zE b.2)[i]? = some y := hy
  rw [List.getElem?_map] at hy'
  cases hb : x.r.bs[i]? with
  | none => rw [hb] at hy'; cases hy'
  | some b =>
   rw [hb] at hy'
   cases hy'
   have hlt := (List.getElem?_eq_some_iff.1 hb).1
   obtain ⟨q, hq, hqx⟩ := hget i (by omega)
   rw [hqx, zW]
   exact cmpQ_le' (n9 h1 i b q hb hq).2
 ·have hf' : (x.r.rows.map fA)[i]? = some f := hf
  rw [List.getElem?_map] at hf'
  cases hb : x.r.rows[i]? with
  | none => rw [hb] at hf'; cases hf'
  | some b =>
   rw [hb] at hf'
   cases hf'
   rw [wO]
   have hmem := List.mem_of_getElem? hb
   have hw := hok.rows b hmem
   rw [← hl.len] at hw
   rw [xr_pre (us := x.g.us) hw]
   unfold iL at h2
   exact sgnQ_ge (of_decide_eq_true (List.all_eq_true.1 h2 b hmem))
 ·obtain ⟨f, hf, rfl⟩ := hus i p hp
  have e := hun i f hf
  have e' : x.q.g.n + (i : Int) = (x.g.n : Int) + i := rfl
  show 0 ≤ xr _ (x.q.g.n + (i : Int)) ∧ _ ≤ xr _ (x.q.g.n + (i : Int)) ∧ (xr _ (x.q.g.n + (i : Int)) = 0 ∨ xr _ (x.q.g.n + (i : Int)) = _)
  rw [e', e, wO]
  unfold rF
  split <;> grind
 ·have hh := hhold d hd
  unfold dG at hh
  rw [hf, Bool.true_and, if_pos hk] at hh
  obtain ⟨g1, g2⟩ := fits34 hf (.inl hk)
  have e : d.i = ((d.i.toNat : Nat) : Int) := by omega
  have := cmpQ_ge (of_decide_eq_true hh)
  rw [e] at this ⊢
  rw [hX _ (by omega)]
  exact this
 ·have hh := hhold d hd
  unfold dG at hh
  rw [hf, Bool.true_and, if_neg (by omega), if_pos hk] at hh
  obtain ⟨g1, g2⟩ := fits34 hf (.inr hk)
  have e : d.i = ((d.i.toNat : Nat) : Int) := by omega
  have := cmpQ_le' (of_decide_eq_true hh)
  rw [e] at this ⊢
  rw [hX _ (by omega)]
  exact this
 ·have hh := hhold d hd
  unfold dG at hh
  rw [hf, Bool.true_and, if_neg (by omega), if_neg (by omega), if_pos hk, hi, hpre i p hp] at hh
  exact sgnQ_ge (of_decide_eq_true hh)
 ·have hh := hhold d hd
  unfold dG at hh
  rw [hf, Bool.true_and, if_neg (by omega), if_neg (by omega), if_neg (by omega), hi, hpre i p hp] at hh
  exact sgnQ_le' (of_decide_eq_true hh)
theorem cn_short {N : Int} : ∀ {ts : List (Int × Rat)} {lo : Int}, Cn ts → (∀ t, t ∈ ts → lo ≤ t.1 ∧ t.1 < N) → (ts.length : Int) ≤ max 0 (N - lo)
 | [], lo, _, _ => by simp; omega
 | t :: r, lo, hc, h => by
  have h1 := h t List.mem_cons_self
  have := cn_short (ts := r) (lo := t.1 + 1) hc.tail (fun u hu => ⟨by have := hc.lt u hu; omega, (h u (List.mem_cons_of_mem _ hu)).2⟩)
  rw [List.length_cons]
  omega
theorem cmpQ_of_le {a b : Rat} (h : a ≤ b) : x6 a b ≤ 0 := by unfold x6; split <;> (try split) <;> grind
theorem cmpQ_of_ge {a b : Rat} (h : b ≤ a) : 0 ≤ x6 a b := by unfold x6; split <;> (try split) <;> grind
theorem sgnQ_of_ge {a : Rat} (h : 0 ≤ a) : 0 ≤ yA a := by unfold yA; split <;> (try split) <;> grind
theorem sumL_wf' {s : Scp} {N : Int} (hf : ∀ r g, s.fm r = some g → g.wf N) : ∀ {l : List Mult} {acc f : F}, acc.wf N → sumL s acc l = some f → f.wf N
 | [], acc, f, ha, h => by cases h; exact ha
 | m :: r, acc, f, ha, h => by
  unfold sumL at h
  cases hx : s.fm m.row with
  | none => rw [hx] at h; cases h
  | some g =>
   rw [hx] at h
   exact sumL_wf' hf (ha.add (hf _ _ hx).scale) h
theorem sum_wf {raw : List UInt8} (l : List Mult) : ((fdS raw).bounded.sum l).2.wf (((fdY raw 0).1.g.n + (fdY raw 0).1.g.us.length : Nat) : Int) := by
 have hx := y7 raw 0
 have hok := kS raw 0
 unfold Scp.sum
 split
 ·exact F.wf.zero0 _
 ·split
  ·exact F.wf.zero0 _
  ·rename_i f hf
   exact sumL_wf' (fun r g h => fm_wf (bnd_q raw) hx hok r g h) (F.wf.zero0 _) hf
theorem F.wf.short {f : F} {n : Nat} (h : f.wf (n : Int)) : f.ts.length ≤ n := by
 have := cn_short (lo := 0) h.cn h.v
 omega
theorem ins_ok (raw at' : List UInt8) : InpOk (fdY raw 0).1 (kG at' 0 (fdY raw 0).1.r.bs) := by
 have hx := y7 raw 0
 exact ⟨by rw [eE]; exact hx.r.bs, insV_fits hx.r.bf⟩
structure PtF (raw : List UInt8) (l : List Rat) (PRE : List R) (VV : List R) : Prop where
 lem : ∀ i, i < (fdS raw).bounded.lems.length → ∃ (m : Lem) (u : Nat) (p : R) (z : Int), (fdS raw).bounded.lems[i]? = some m ∧ m.u = (u : Int) ∧ PRE[u]? = some p ∧ zC 35 [rv p, rv m.v] (.int .i64 (fun _ => z)) ∧ (m.up = true → z ≤ 0) ∧ (m.up = false → 0 ≤ z)
 val : zC 32 [gv (fdS raw).bounded.q.g, rlv (l.map zE)] (.tup [rlv VV, .int .i64 (fun _ => 0)])
 pre : zC 34 [gv (fdS raw).bounded.q.g, rlv (l.map zE)] (.tup [rlv PRE, .int .i64 (fun _ => 0)])
theorem iR (raw : List UInt8) : (fdY raw 0).1.g.g.valid = true := by
 have := (y7 raw 0).valid (kS raw 0)
 unfold Qry.valid at this
 simp only [Bool.and_eq_true] at this
 exact this.1.1
theorem pt_facts {raw : List UInt8} {l : List Rat} (hl : InpOk (fdY raw 0).1 l) (hm : oN (fdY raw 0).1 (fdS raw).path l = true) :
  Pt (fdS raw).bounded (xr (xY (fdY raw 0).1.g.us l)) ∧ dN (fdS raw).bounded (xr (xY (fdY raw 0).1.g.us l)) ∧ PtF raw l (((fdY raw 0).1.g.us.map fun f => f.at (xr (xY (fdY raw 0).1.g.us l))).map zE) ((xY (fdY raw 0).1.g.us l).map zE) := by
 have hx := y7 raw 0
 have hok := kS raw 0
 have hz := hx.sz
 have hP : Pt (fdS raw).bounded (xr (xY (fdY raw 0).1.g.us l)) := mem_pt (L := (fdS raw).bounded.lems) hx hok hl hm
 have hS := dV raw
 have hL := scope_sound hP hS
 refine ⟨hP, hL, ⟨fun i hi => ?_, sR15Vals _ l hx.g (iR raw) (hz.g.mono (by decide)) hok.us hl.len (m := 20) (by decide) (by decide) hl.fit, sR15Pre _ l hx.g (iR raw) (hz.g.mono (by decide)) hok.us hl.len (m := 20) (by decide) (by decide) hl.fit⟩⟩
 obtain ⟨m, hmi⟩ := zX hi
 have hmem := List.mem_of_getElem? hmi
 have hlb : ∃ pre : Scp, pre.q = (fdS raw).bounded.q ∧ pre.lemB m = true := by
  unfold Scp.scopeB at hS
  simp only [Bool.and_eq_true] at hS
  have key : ∀ (k : Nat) (r : List Lem), r = (fdS raw).bounded.lems.drop k → uC (fdS raw).bounded k r = true → ∀ (j : Nat) (m : Lem), r[j]? = some m → ∃ pre : Scp, pre.q = (fdS raw).bounded.q ∧ pre.lemB m = true := by
   intro k r
   induction r generalizing k with
   | nil => intro _ _ j m h; simp at h
   | cons a r ih =>
    intro hr hf j m h
    unfold uC at hf
    simp only [Bool.and_eq_true] at hf
    cases j with
    | zero =>
     simp only [List.getElem?_cons_zero, Option.some.injEq] at h
     subst h
     exact ⟨(fdS raw).bounded.pre k, rfl, hf.1⟩
    | succ j =>
     simp only [List.getElem?_cons_succ] at h
     refine ih (k + 1) ?_ hf.2 j m h
     have : ((fdS raw).bounded.lems.drop k).drop 1 = (fdS raw).bounded.lems.drop (k + 1) := by rw [List.drop_drop]
     rw [← this, ← hr]; rfl
  exact key 0 _ (by simp) hS.2.2 i m hmi
 obtain ⟨pre, hpq, hlb⟩ := hlb
 unfold Scp.lemB at hlb
 simp only [Bool.and_eq_true, decide_eq_true_eq] at hlb
 obtain ⟨⟨u0, u1⟩, _⟩ := hlb
 rw [hpq] at u1
 have hul : (fdS raw).bounded.q.g.us.length = (fdY raw 0).1.g.us.length := by show (List.map _ _).length = _; rw [List.length_map]
 rw [hul] at u1
 obtain ⟨f, hf⟩ := zX (l := (fdY raw 0).1.g.us) (i := m.u.toNat) (by omega)
 have hu : m.u = ((m.u.toNat : Nat) : Int) := by omega
 have hgu : (fdS raw).bounded.q.g.us[m.u.toNat]? = some (fA f) := by
  show ((fdY raw 0).1.g.us.map fA)[m.u.toNat]? = _
  rw [List.getElem?_map, hf]; rfl
 have hlm := hL m hmem m.u.toNat (fA f) hu hgu
 rw [wO] at hlm
 obtain ⟨V, Q⟩ := vseq hx.g hok.us hl.len (m := 20) (by decide) (by decide) hl.fit
 have hvl : (xY (fdY raw 0).1.g.us l).length = (fdY raw 0).1.g.n + (fdY raw 0).1.g.us.length := by rw [dW, hl.len]
 have hlt := (List.getElem?_eq_some_iff.1 hf).1
 have hft : Fits (2^28) (f.at (xr (xY (fdY raw 0).1.g.us l))) := by
  have := s9 (hx.g.uf f (List.mem_of_getElem? hf)) (lN (l := xY (fdY raw 0).1.g.us l) ((hok.us _ f hf).mono (by rw [hvl]; omega)) (fun q hq => Q.fit (fdY raw 0).1.g.us.length q (by rw [Q.v9]; exact hq)))
  exact this.mono (by decide)
 have c := s42 (zE (f.at (xr (xY (fdY raw 0).1.g.us l)))) m.v ((zY hft).mono (by decide)) (((jK raw).lems.sz m hmem).mono (by decide))
 rw [zW] at c
 refine ⟨m, m.u.toNat, _, _, hmi, hu, by rw [List.getElem?_map, List.getElem?_map, hf]; rfl, c, fun h => ?_, fun h => ?_⟩
 ·rw [if_pos h] at hlm
  exact cmpQ_of_le hlm
 ·rw [if_neg (by rw [h]; decide)] at hlm
  exact cmpQ_of_ge hlm
theorem pt_eval {raw : List UInt8} {l : List Rat} (hl : InpOk (fdY raw 0).1 l) {f : F} (hw : f.wf (((fdY raw 0).1.g.n + (fdY raw 0).1.g.us.length : Nat) : Int)) {k n : Nat} (hf : f.fl k n) (hk : k ≤ 2^26) (h0 : 0 ≤ f.at (xr (xY (fdY raw 0).1.g.us l))) :
  ∃ (y : R) (z : Int), zC 33 [av (fA f), rlv ((xY (fdY raw 0).1.g.us l).map zE)] (.tup [rv y, .int .i64 (fun _ => 0)]) ∧ zC 28 [rv y] (.int .i64 (fun _ => z)) ∧ 0 ≤ z := by
 have hx := y7 raw 0
 have hok := kS raw 0
 obtain ⟨V, Q⟩ := vseq hx.g hok.us hl.len (m := 20) (by decide) (by decide) hl.fit
 have hvl : (xY (fdY raw 0).1.g.us l).length = (fdY raw 0).1.g.n + (fdY raw 0).1.g.us.length := by rw [dW, hl.len]
 have n2 := hx.g.n2
 have u4 := hx.g.us
 have hfit : ∀ q, q ∈ xY (fdY raw 0).1.g.us l → Fits (2^24) q := fun q hq => Q.fit (fdY raw 0).1.g.us.length q (by rw [Q.v9]; exact hq)
 have hsh := hw.short
 have hf7 : f.fl (2^26) 7 := ⟨fun t ht => (hf.t t ht).mono hk, hf.c.mono hk, by omega⟩
 rw [← hvl] at hw
 have c := sR7Ev f _ hf7 hw hfit (by decide) (by decide) (by decide) (by decide) (by omega)
 have ht := s9 hf7 (lN hw hfit)
 have cs := s35 (zE (f.at (xr (xY (fdY raw 0).1.g.us l)))) (Nat.lt_of_le_of_lt (zY ht).n (by decide))
 rw [zW] at cs
 exact ⟨_, _, c, cs, sgnQ_of_ge h0⟩
end Go.Proofs.YtcanljninhfmhaaGreat
