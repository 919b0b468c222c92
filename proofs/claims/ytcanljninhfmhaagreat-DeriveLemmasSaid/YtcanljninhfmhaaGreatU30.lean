/- A part of the proof: RdA, RdB, LwA, LwB, PlD, LwC. -/
import Derived.Test.YtcanljninhfmhaaGreatU29
import Derived.Test.YtcanljninhfmhaaGreatU27
set_option linter.all false
namespace Go.Proofs.YtcanljninhfmhaaGreat
open Go
set_option maxRecDepth 100000
set_option maxHeartbeats 2000000
def wN (a b : Row) : Bool := if a.k = b.k then (if a.i = b.i then (if a.lo = b.lo then decide (a.hi < b.hi) else decide (a.lo < b.lo)) else decide (a.i < b.i)) else decide (a.k < b.k)
theorem o9 (a b : Row) : wN a b = decide (jJ a b < 0) := by
 unfold wN jJ orI cI
 rw [Bool.eq_iff_iff]
 split <;> (try split) <;> (try split) <;> simp only [decide_eq_true_eq] <;> (repeat' split) <;> omega
theorem sLess (a b : Row) : zC 93 [rwv a, rwv b] (.bool (fun _ => wN a b)) := by
 refine sF Tryz.f93 ?_
 have h1 : ¬ a.k = b.k → wN a b = decide (a.k < b.k) := fun h => if_neg h
 have h2 : a.k = b.k → ¬ a.i = b.i → wN a b = decide (a.i < b.i) := fun h g => by unfold wN; rw [if_pos h, if_neg g]
 have h3 : a.k = b.k → a.i = b.i → ¬ a.lo = b.lo → wN a b = decide (a.lo < b.lo) := fun h g e => by unfold wN; rw [if_pos h, if_pos g, if_neg e]
 have h4 : a.k = b.k → a.i = b.i → a.lo = b.lo → wN a b = decide (a.hi < b.hi) := fun h g e => by unfold wN; rw [if_pos h, if_pos g, if_pos e]
 generalize wN a b = r at *
 cbv
 refine zF (fun e1 => ?_) (fun e1 => ?_)
 ·cbv
  refine zF (fun e2 => ?_) (fun e2 => ?_)
  ·cbv
   refine zF (fun e3 => ?_) (fun e3 => ?_)
   ·have h := h4 e1 e2 e3
    cbv
    (refine rC ?_; cbv)
    exact zV h.symm
   ·have h := h3 e1 e2 e3
    cbv
    (refine rC ?_; cbv)
    exact zV h.symm
  ·have h := h2 e1 e2
   cbv
   (refine rC ?_; cbv)
   exact zV h.symm
 ·have h := h1 e1
  cbv
  (refine rC ?_; cbv)
  exact zV h.symm
theorem sRdCan (l : List Mult) (hl : Msz (2^32) l) : zC 45 [mlv l] (.bool (fun _ => vH none l)) := by
 refine sF Tryz.f45 ?_
 have hll := hl.len
 have hls := hl.sz
 generalize hr : vH none l = r
 cbv
 refine z5 (σ := Nat × Option Row) (fun s => ⟨[(0, mlv l), (3, .int .i64 (fun _ => (s.1 : Int)))], []⟩)
  (fun s => s.1 ≤ l.length ∧ r = vH s.2 (l.drop s.1) ∧ (s.1 = 0 → s.2 = none) ∧ (s.1 ≠ 0 → ∃ u, l[s.1 - 1]? = some u ∧ s.2 = some u.row)) (fun s => l.length - s.1)
  (0, none) ⟨om, hr.symm, fun _ => rfl, fun h => absurd rfl h⟩ (.le ?_ ?_ rfl) ?_
 ·cbv
  exact okA
 ·cbv
 clear hr
 intro s hs
 obtain ⟨h1, hv, h3, h4⟩ := hs
 generalize s.1 = i at *
 generalize s.2 = p at *
 cbv
 refine zF (fun h5 => ?_) (fun h5 => ?_)
 ·have hlt : i < l.length := by rw [zA] at h5; (try dsimp only [zG] at *); omega
  obtain ⟨t, ht⟩ := zX hlt
  have idx : ∀ {K : List PV → Prop}, K (mc t) → IdxOk 7 (fun _ => enc mc l) (fun _ => (i : Int)) K := fun hK => yY (l := l) i rfl hlt qG wM (fun m' hm' => by rw [ht] at hm'; cases hm'; exact hK)
  have htz := hls t (List.mem_of_getElem? ht)
  have cs := s35 t.c (by have := htz.n; omega)
  have cv := s129 t.c htz
  have hd : l.drop i = t :: l.drop (i + 1) := yB ht
  have hvn : (¬ 0 < yA t.c.q → r = false) := fun h => by rw [hv, hd]; unfold vH; rw [decide_eq_false h]; rfl
  have hvo : t.c.ok = false → r = false := fun h => by rw [hv, hd]; unfold vH; rw [h]; simp
  have hv0 : 0 < yA t.c.q → t.c.ok = true → p = none → r = vH (some t.row) (l.drop (i + 1)) := fun h g e => by
   rw [hv, hd, e]
   show (decide (0 < yA t.c.q) && (t.c.ok && (true && vH (some t.row) (l.drop (i + 1))))) = _
   rw [decide_eq_true h, g]; simp
  have hv1 : ∀ w, 0 < yA t.c.q → t.c.ok = true → p = some w → r = (wN w t.row && vH (some t.row) (l.drop (i + 1))) := fun w h g e => by
   rw [hv, hd, e, o9]
   show (decide (0 < yA t.c.q) && (t.c.ok && (decide (jJ w t.row < 0) && vH (some t.row) (l.drop (i + 1))))) = _
   rw [decide_eq_true h, g]; simp
  clear hv
  generalize yA t.c.q = sg at *
  generalize t.c.ok = ok at *
  generalize hrest : vH (some t.row) (l.drop (i + 1)) = rest at *
  cbv
  refine zO 35 (by cbv) ?_
  cbv
  refine idx ?_
  cbv
  refine dA cv ?_
  cbv
  refine z4 (fun e2 => ?_) (fun e2 => ?_)
  rotate_left
  ·cbv
   (refine rC ?_; cbv)
   exact zN (hvo e2)
  cbv
  refine idx ?_
  cbv
  refine dA cs ?_
  cbv
  refine zQ (fun e1 => ?_) (fun e1 => ?_)
  ·cbv
   (refine rC ?_; cbv)
   exact zN (hvn (by omega))
  cbv
  refine zQ (fun e3 => ?_) (fun e3 => ?_)
  ·cbv
   obtain ⟨u, hu, hu2⟩ := h4 om
   have cc := sLess u.row t.row
   have hvv := hv1 u.row (by omega) e2 hu2
   generalize wN u.row t.row = cr at *
   refine ⟨zH om om, yY (l := l) (i - 1) om om qG wM (fun u' hu' => ?_)⟩
   obtain rfl : u' = u := by rw [hu] at hu'; exact (Option.some.inj hu').symm
   cbv
   refine idx ?_
   cbv
   refine dA cc ?_
   cbv
   refine zT (fun e4 => ?_) (fun e4 => ?_)
   ·rw [e4, Bool.true_and] at hvv
    cbv
    exact ⟨zH om om, (i + 1, some t.row), ⟨om, hvv.trans hrest.symm, fun h => absurd h (by simp), fun _ => ⟨_, ht, rfl⟩⟩, om, .le (by cbv; exact ⟨lR, zD om, trivial⟩) (by cbv) rfl⟩
   ·cbv
    (refine rC ?_; cbv)
    exact zN (by rw [hvv, e4]; rfl)
  ·cbv
   have hvv := hv0 (by omega) e2 (h3 om)
   exact ⟨zH om om, (i + 1, some t.row), ⟨om, hvv.trans hrest.symm, fun h => absurd h (by simp), fun _ => ⟨_, ht, rfl⟩⟩, om, .le (by cbv; exact ⟨lR, zD om, trivial⟩) (by cbv) rfl⟩
 ·have : i = l.length := by rw [zA] at h5; (try dsimp only [zG] at *); omega
  rw [this, List.drop_length] at hv
  have hv' : r = true := hv
  cbv
  (refine rC ?_; cbv)
  exact yG hv'
def plM (r : Row) (q : Rat) : List (Row × Rat) → List (Row × Rat)
 | [] => [(r, q)]
 | t :: rest => if wN t.1 r = true then t :: plM r q rest else if t.1 = r then (r, t.2 + q) :: rest else (r, q) :: t :: rest
def plMq (l : List (Row × Rat)) (r : Row) (q : Rat) : List (Row × Rat) := if yA q = 0 then l else plM r q l
theorem mR_get {l : List (Row × Rat)} {i : Nat} {t : Row × Rat} (h : l[i]? = some t) : (mR l)[i]? = some ⟨t.1, zE t.2⟩ := by unfold mR; rw [List.getElem?_map, h]; rfl
theorem mR_take (l : List (Row × Rat)) (n : Nat) : (mR l).take n = mR (l.take n) := by simp [mR, List.map_take]
structure Mfit (k : Nat) (l : List (Row × Rat)) : Prop where
 len : l.length < 2^37
 fit : ∀ t, t ∈ l → Fits k t.2
theorem lO {α : Type} {p : α → List PV} {n : Nat} (hn : ∀ a, (p a).length = n) (l : List α) (a b : Nat) : Wid n (fun _ => ((enc p l).take a).drop b) := ⟨fun e he => (wS hn l).h e (List.mem_of_mem_take (List.mem_of_mem_drop he))⟩
theorem sPlM (l : List (Row × Rat)) (r : Row) (c : R) (hl : Mfit (2^30) l) (hc : c.sz (2^30)) : zC 61 [mlv (mR l), rwv r, rv c] (mlv (mR (plMq l r c.q))) := by
 refine sF Tryz.f61 ?_
 have cs := s35 c (by have := hc.n; omega)
 have cc := s47 c (hc.mono (by decide))
 have hadd : ∀ t, t ∈ l → zC 37 [rv (zE t.2), rv c] (rv (zE (t.2 + c.q))) := fun t ht => by
  have := s44 (zE t.2) c ((zY (hl.fit t ht)).mono (by decide)) (hc.mono (by decide))
  rw [zW] at this
  exact this
 have hll := hl.len
 have d0 : yA c.q = 0 → plMq l r c.q = l := fun h => if_pos h
 have d1 : ¬ yA c.q = 0 → plMq l r c.q = plM r c.q l := fun h => if_neg h
 have hless : ∀ t : Row × Rat, zC 93 [rwv t.1, rwv r] (.bool (fun _ => wN t.1 r)) := fun t => sLess t.1 r
 have hpn : plM r c.q [] = [(r, c.q)] := rfl
 have hpc : ∀ t rest, plM r c.q (t :: rest) = if wN t.1 r = true then t :: plM r c.q rest else if t.1 = r then (r, t.2 + c.q) :: rest else (r, c.q) :: t :: rest := fun _ _ => rfl
 obtain ⟨G, hG⟩ : ∃ G, plM r c.q = G := ⟨_, rfl⟩
 rw [hG] at d1 hpn hpc
 generalize plMq l r c.q = M at *
 generalize yA c.q = sg at *
 generalize hcq : c.q = q at *
 clear hG hl hc hcq
 cbv
 refine cA cs ?_
 cbv
 refine zF (fun e0 => ?_) (fun e0 => ?_)
 ·have hM := d0 e0
  cbv
  subst hM
  (refine rC ?_; cbv)
  exact lR
 have hM := d1 e0
 clear d0 d1 cs
 cbv
 refine z5 (σ := Nat) (fun i => ⟨[(0, mlv (mR l)), (4, .ptr 4 0), (5, .ptr 5 0), (7, .int .i64 (fun _ => (i : Int)))], [(4, .box (rwc r)), (5, .box [.bool (fun _ => c.neg), nat c.num, nat c.den])]⟩)
  (fun i => i ≤ l.length ∧ M = l.take i ++ G (l.drop i)) (fun i => l.length - i) 0 ⟨om, by rw [hM]; rfl⟩ (.le ?_ ?_ rfl) ?_
 ·cbv
  exact okA
 ·cbv
  exact okA
 clear hM
 intro i hi
 obtain ⟨h1, h2⟩ := hi
 have hml := jF l
 have wid := wS wM (mR (l.take i))
 have wid2 := wS wM (mR l)
 by_cases hlt : i < l.length
 ·obtain ⟨t, ht⟩ := zX hlt
  have hmem := List.mem_of_getElem? ht
  have hdr := yB ht
  rw [hdr, hpc] at h2
  have k1 : wN t.1 r = true → M = l.take (i + 1) ++ G (l.drop (i + 1)) := fun h => by
   rw [h2, if_pos h, List.take_add_one, ht]; simp
  have k2 : wN t.1 r = false → t.1 = r → M = l.take i ++ ([(r, t.2 + q)] ++ l.drop (i + 1)) := fun h g => by
   rw [h2, if_neg (by rw [h]; decide), if_pos g]; rfl
  have k3 : wN t.1 r = false → ¬ t.1 = r → M = l.take i ++ ([(r, q)] ++ l.drop i) := fun h g => by
   rw [h2, if_neg (by rw [h]; decide), if_neg g, hdr]; rfl
  clear h2
  have cl := hless t
  have ca := hadd t hmem
  obtain ⟨Y, hY⟩ : ∃ Y, zE t.2 = Y := ⟨_, rfl⟩
  have hmt := mR_get ht
  rw [hY] at ca hmt
  have idx : ∀ {K : List PV → Prop}, K (mc ⟨t.1, Y⟩) → IdxOk 7 (fun _ => enc mc (mR l)) (fun _ => (i : Int)) K := fun hK => yY (l := mR l) i rfl (by omega) qG wM (fun m' hm' => by rw [hmt] at hm'; cases hm'; exact hK)
  generalize wN t.1 r = lt at *
  clear hless hadd hpc hpn
  cbv
  refine zO 13 (by cbv) ?_
  cbv
  refine x7 (by rw [zA]; (try dsimp only [zG] at *); omega) ?_
  cbv
  refine idx ?_
  cbv
  refine dA cl ?_
  cbv
  refine zT (fun e1 => ?_) (fun e1 => ?_)
  ·have hk := k1 e1
   cbv
   exact ⟨zH om om, i + 1, ⟨om, hk⟩, om, .le (by cbv; exact ⟨lR, lR, lR, zD om, trivial⟩) (by cbv; exact okA) rfl⟩
  have k2' := k2 e1
  have k3' := k3 e1
  clear k1 k2 k3 cl
  cbv
  refine ⟨wZ om om (by rw [zA]; (try dsimp only [zG] at *); omega), wS wM _, ?_⟩
  refine bW gH rfl rfl (lO wM _ _ _) (yF (by simp <;> omega) (by simp [zA, hml]; (try dsimp only [zG] at *); omega)) rfl ?_
  cbv
  refine zO 13 (by cbv) ?_
  cbv
  refine x7 (by rw [zA]; (try dsimp only [zG] at *); omega) ?_
  cbv
  refine idx ?_
  cbv
  refine eqs_row ?_
  cbv
  refine zF (fun e2 => ?_) (fun e2 => ?_)
  ·have hk := k2' e2
   have hX : mR [(r, t.2 + q)] = [⟨r, zE (t.2 + q)⟩] := rfl
   generalize zE (t.2 + q) = X at *
   cbv
   refine zO 11 (by cbv) ?_
   cbv
   refine idx ?_
   cbv
   refine dA ca ?_
   cbv
   refine wK gH rfl rfl rfl (by simp) rfl ⟨by simp [zR, xF]⟩ (yF (by simp [zR] <;> omega) (by simp [zR, zA, hml]; (try dsimp only [zG] at *); omega)) rfl ?_
   cbv
   refine ⟨zH om om, ?_⟩
   cbv
   refine ⟨wZ om (by rw [zA]; (try dsimp only [zG] at *); omega) (by rw [zA]; (try dsimp only [zG] at *); omega), wS wM _, ?_⟩
   refine wK gH rfl rfl rfl (by simp) rfl (lO wM _ _ _) (yF (by simp [zR] <;> omega) (by simp [zR, zA, hml]; (try dsimp only [zG] at *); omega)) rfl ?_
   cbv
   refine cE _ (.trans (.le (ps' := ⟨[(6, .osl 71 7 (fun _ => 0) (fun _ => M.length))], [(71, .arr 7 (fun _ => enc mc (mR M)))]⟩) ?_ ?_ rfl) (.frz 71 rfl rfl ?_ ?_)) rfl ?_
   ·cbv; exact ⟨z3 rfl (by rw [hk]; simp [zR, zA, hml]; (try dsimp only [zG] at *); omega), trivial⟩
   ·cbv
    refine ⟨zJ ?_, trivial⟩
    rw [hk, mO, mO, ← z8, ← z8, hX]
    simp [enc, mR, List.map_take, List.map_drop, List.take_of_length_le, zR]
    rfl
   ·cbv; exact ⟨yD (by simp [zA, jF]), trivial⟩
   ·exact trivial
   ·cbv; exact zP (List.take_of_length_le (by simp [zA, jF]))
  ·have hk := k3' e2
   have hX : mR [(r, q)] = [⟨r, zE q⟩] := rfl
   generalize zE q = X at *
   cbv
   refine zO 6 (by cbv) ?_
   cbv
   refine dA cc ?_
   cbv
   refine wK gH rfl rfl rfl (by simp) rfl ⟨by simp [zR, xF]⟩ (yF (by simp [zR] <;> omega) (by simp [zR, zA, hml]; (try dsimp only [zG] at *); omega)) rfl ?_
   cbv
   refine ⟨wZ om (by rw [zA]; (try dsimp only [zG] at *); omega) (by rw [zA]; (try dsimp only [zG] at *); omega), wS wM _, ?_⟩
   refine wK gH rfl rfl rfl (by simp) rfl (lO wM _ _ _) (yF (by simp [zR] <;> omega) (by simp [zR, zA, hml]; (try dsimp only [zG] at *); omega)) rfl ?_
   cbv
   refine cE _ (.trans (.le (ps' := ⟨[(6, .osl 71 7 (fun _ => 0) (fun _ => M.length))], [(71, .arr 7 (fun _ => enc mc (mR M)))]⟩) ?_ ?_ rfl) (.frz 71 rfl rfl ?_ ?_)) rfl ?_
   ·cbv; exact ⟨z3 rfl (by rw [hk]; simp [zR, zA, hml]; (try dsimp only [zG] at *); omega), trivial⟩
   ·cbv
    refine ⟨zJ ?_, trivial⟩
    rw [hk, mO, mO, ← z8, ← z8, hX]
    simp [enc, mR, List.map_take, List.map_drop, List.take_of_length_le, zR]
    rfl
   ·cbv; exact ⟨yD (by simp [zA, jF]), trivial⟩
   ·exact trivial
   ·cbv; exact zP (List.take_of_length_le (by simp [zA, jF]))
 ·have hi' : i = l.length := by omega
  have hk : M = l.take i ++ ([(r, q)] ++ l.drop i) := by rw [h2, hi', List.drop_length, hpn]; simp
  have hX : mR [(r, q)] = [⟨r, zE q⟩] := rfl
  generalize zE q = X at *
  clear h2 hpn hpc hless hadd
  cbv
  refine zO 13 (by cbv) ?_
  cbv
  refine zZ (by rw [zA]; (try dsimp only [zG] at *); omega) ?_
  cbv
  refine ⟨wZ om om (by rw [zA]; (try dsimp only [zG] at *); omega), wS wM _, ?_⟩
  refine bW gH rfl rfl (lO wM _ _ _) (yF (by simp <;> omega) (by simp [zA, hml]; (try dsimp only [zG] at *); omega)) rfl ?_
  cbv
  refine zO 13 (by cbv) ?_
  cbv
  refine zZ (by rw [zA]; (try dsimp only [zG] at *); omega) ?_
  cbv
  refine zO 6 (by cbv) ?_
  cbv
  refine dA cc ?_
  cbv
  refine wK gH rfl rfl rfl (by simp) rfl ⟨by simp [zR, xF]⟩ (yF (by simp [zR] <;> omega) (by simp [zR, zA, hml]; (try dsimp only [zG] at *); omega)) rfl ?_
  cbv
  refine ⟨wZ om (by rw [zA]; (try dsimp only [zG] at *); omega) (by rw [zA]; (try dsimp only [zG] at *); omega), wS wM _, ?_⟩
  refine wK gH rfl rfl rfl (by simp) rfl (lO wM _ _ _) (yF (by simp [zR] <;> omega) (by simp [zR, zA, hml]; (try dsimp only [zG] at *); omega)) rfl ?_
  cbv
  refine cE _ (.trans (.le (ps' := ⟨[(6, .osl 71 7 (fun _ => 0) (fun _ => M.length))], [(71, .arr 7 (fun _ => enc mc (mR M)))]⟩) ?_ ?_ rfl) (.frz 71 rfl rfl ?_ ?_)) rfl ?_
  ·cbv; exact ⟨z3 rfl (by rw [hk]; simp [zR, zA, hml]; (try dsimp only [zG] at *); omega), trivial⟩
  ·cbv
   refine ⟨zJ ?_, trivial⟩
   rw [hk, mO, mO, ← z8, ← z8, hX]
   simp [enc, mR, List.map_take, List.map_drop, List.take_of_length_le, zR]
   rfl
  ·cbv; exact ⟨yD (by simp [zA, jF]), trivial⟩
  ·exact trivial
  ·cbv; exact zP (List.take_of_length_le (by simp [zA, jF]))
theorem plM_len (r : Row) (q : Rat) : ∀ l, (plM r q l).length ≤ l.length + 1
 | [] => by simp [plM]
 | t :: rest => by
  have := plM_len r q rest
  unfold plM
  split
  ·simp; omega
  ·split <;> simp
theorem plM_fit {r : Row} {q : Rat} {k m : Nat} (hq : Fits m q) : ∀ {l : List (Row × Rat)}, (∀ t, t ∈ l → Fits k t.2) → ∀ t, t ∈ plM r q l → Fits (k + m + 1) t.2
 | [], _, t, h => by
  have : t = (r, q) := by simpa [plM] using h
  rw [this]; exact hq.mono (by omega)
 | a :: rest, hl, t, h => by
  unfold plM at h
  split at h
  ·rcases List.mem_cons.1 h with rfl | h
   ·exact (hl _ List.mem_cons_self).mono (by omega)
   ·exact plM_fit hq (fun u hu => hl u (List.mem_cons_of_mem _ hu)) t h
  ·split at h
   ·rcases List.mem_cons.1 h with rfl | h
    ·exact (wX (hl a List.mem_cons_self) hq).mono (by omega)
    ·exact (hl t (List.mem_cons_of_mem _ h)).mono (by omega)
   ·rcases List.mem_cons.1 h with rfl | h
    ·exact hq.mono (by omega)
    ·exact (hl t h).mono (by omega)
theorem plMq_fit {l : List (Row × Rat)} {r : Row} {q : Rat} {k m : Nat} (hq : Fits m q) (hl : ∀ t, t ∈ l → Fits k t.2) : ∀ t, t ∈ plMq l r q → Fits (k + m + 1) t.2 := fun t h => by
 unfold plMq at h
 split at h
 ·exact (hl t h).mono (by omega)
 ·exact plM_fit hq hl t h
theorem plMq_len (l : List (Row × Rat)) (r : Row) (q : Rat) : (plMq l r q).length ≤ l.length + 1 := by
 unfold plMq
 split
 ·omega
 ·exact plM_len r q l
theorem sCopied (l : List Mult) (hl : l.length < 2^38) : zC 16 [mlv l] (mlv l) := by
 refine sF Tryz.f16 ?_
 cbv
 refine bW gH rfl rfl (wS wM _) (yF (by simp only [zA]; omega) (by simp only [zA]; omega)) rfl ?_
 cbv
 refine cE _ (.trans (.le (ps' := ⟨[(2, .osl 5 7 (fun _ => 0) (fun _ => l.length))], [(5, .arr 7 (fun _ => enc mc l))]⟩) ?_ ?_ rfl) (.frz 5 rfl rfl ?_ ?_)) rfl ?_
 ·cbv; exact ⟨z3 rfl (by rw [zA]), trivial⟩
 ·cbv; exact ⟨zJ rfl, trivial⟩
 ·cbv; exact ⟨yD (by simp [zA]), trivial⟩
 ·exact trivial
 ·cbv; exact zP (List.take_of_length_le (by simp [zA]))
def nS (l : List Mult) : Bool := (l.all fun m => decide (m.c.num.length ≤ 2) && decide (m.c.den.length ≤ 2)) && decide (l.length ≤ 12)
theorem sFew (l : List Mult) (hl : l.length ≤ 9223372036854775807) : zC 13 [mlv l] (.bool (fun _ => nS l)) := by
 refine sF Tryz.f13 ?_
 generalize hr : nS l = r
 have hr0 : r = ((l.all fun m => decide (m.c.num.length ≤ 2) && decide (m.c.den.length ≤ 2)) && decide (l.length ≤ 12)) := hr.symm
 obtain ⟨A, hA⟩ : ∃ A : List Mult → Bool, (fun l : List Mult => l.all fun m => decide (m.c.num.length ≤ 2) && decide (m.c.den.length ≤ 2)) = A := ⟨_, rfl⟩
 have hc : ∀ m t, A (m :: t) = ((decide (m.c.num.length ≤ 2) && decide (m.c.den.length ≤ 2)) && A t) := fun m t => by rw [← hA]; rfl
 have hn : A [] = true := by rw [← hA]; rfl
 have hr1 : r = (A l && decide (l.length ≤ 12)) := by rw [hr0, ← hA]
 clear hr hr0 hA
 cbv
 refine z5 (σ := Nat) (fun i => ⟨[(0, mlv l), (3, .int .i64 (fun _ => (i : Int)))], []⟩)
  (fun i => i ≤ l.length ∧ r = (A (l.drop i) && decide (l.length ≤ 12))) (fun i => l.length - i) 0 ⟨by omega, hr1⟩ (.le ?_ ?_ rfl) ?_
 ·cbv
  exact okA
 ·cbv
 clear hr1
 intro i hi
 obtain ⟨h1, h2⟩ := hi
 cbv
 refine zF (fun h5 => ?_) (fun h5 => ?_)
 ·have hlt : i < l.length := by rw [zA] at h5; (try dsimp only [zG] at *); omega
  obtain ⟨m, hm⟩ := zX hlt
  have idx : ∀ {K : List PV → Prop}, K (mc m) → IdxOk 7 (fun _ => enc mc l) (fun _ => (i : Int)) K := fun hK => yY (l := l) i rfl hlt qG wM (fun m' hm' => by rw [hm] at hm'; cases hm'; exact hK)
  rw [yB hm, hc] at h2
  generalize hrest : A (l.drop (i + 1)) = rest at *
  clear hc
  cbv
  refine idx ?_
  cbv
  refine zQ (fun e1 => ?_) (fun e1 => ?_)
  ·rw [zK] at e1
   cbv
   (refine rC ?_; cbv)
   exact zN (by rw [h2, decide_eq_false (p := m.c.num.length ≤ 2) om]; rfl)
  rw [zK] at e1
  rw [decide_eq_true (p := m.c.num.length ≤ 2) om] at h2
  cbv
  refine idx ?_
  cbv
  refine zF (fun e2 => ?_) (fun e2 => ?_)
  ·rw [zK] at e2
   cbv
   (refine rC ?_; cbv)
   exact zN (by rw [h2, decide_eq_false (p := m.c.den.length ≤ 2) om]; rfl)
  rw [zK] at e2
  rw [decide_eq_true (p := m.c.den.length ≤ 2) om, Bool.true_and, Bool.true_and] at h2
  cbv
  exact ⟨zH om om, i + 1, ⟨om, by rw [h2, hrest]⟩, om, .le (by cbv; exact ⟨lR, zD om, trivial⟩) (by cbv) rfl⟩
 ·have hi' : i = l.length := by rw [zA] at h5; (try dsimp only [zG] at *); omega
  rw [hi', List.drop_length, hn, Bool.true_and] at h2
  cbv
  (refine rC ?_; cbv)
  refine zV ?_
  rw [h2, decide_eq_decide, zA]
  (try dsimp only [zG] at *)
  omega
def exU : F := F.sub (F.var 0) (F.num 1)
def exS : Scp := ⟨⟨⟨1, [fA exU], [fA (F.var 1)]⟩, ⟨[R0], [zE 3], []⟩, fA (F.var 1)⟩, [], []⟩
def exT : Scp := ⟨exS.q, [⟨3, 0, zE 4⟩], []⟩
def mW : List Mult := [⟨⟨1, 0, 0, 0⟩, zE 1⟩]
def exHi : List Mult := [⟨⟨2, 0, 0, 0⟩, zE 1⟩]
def pD : List Mult := [⟨⟨2, 0, 0, 0⟩, zE 1⟩, ⟨⟨4, 0, 0, 0⟩, zE 1⟩]
theorem exA : exS.lemB ⟨0, false, zE (-1), mW⟩ = true := by decide +kernel
theorem exB : exS.lemB ⟨0, false, R0, mW⟩ = false := by decide +kernel
theorem exC : exS.lemB ⟨0, true, zE 2, exHi⟩ = true := by decide +kernel
theorem exR : exT.refutes pD = true := by decide +kernel
theorem exN : exS.refutes mW = false := by decide +kernel
theorem exK : vH none pD = true := by decide +kernel
theorem exSc : exT.scopeB = true := by decide +kernel
theorem one_sz : (zE 1).sz (2^20) := by have := bG 1 (by decide) (by decide); exact this.mono (by decide)
theorem of_sz (z : Int) (h1 : -1000 ≤ z) (h2 : z ≤ 1000) : (zE (z : Rat)).sz (2^20) := (bG z h1 h2).mono (by decide)
theorem R0_sz {k : Nat} : R0.sz k := ⟨Nat.zero_le _, Nat.zero_le _⟩
theorem exU_fl : exU.fl (2^20) 1 := ((w5 0).sub (wR fits_one)).mono (by decide) (by decide)
theorem eJ {f : F} {k n : Nat} (h : f.fl k n) (hn : n < 2^38) : (fA f).sz k := (h.fit hn).fA
theorem exV1_fl : (F.var 1).fl (2^20) 1 := (w5 1).mono (by decide) (by decide)
theorem exQ_sz : exS.q.sz (2^20) where
 g := ⟨⟨by show 1 < _; decide, fun a ha => by
   have : a = fA exU := by simpa [exS] using ha
   rw [this]; exact eJ exU_fl (by decide)⟩, ⟨by show 1 < _; decide, fun a ha => by
   have : a = fA (F.var 1) := by simpa [exS] using ha
   rw [this]; exact eJ exV1_fl (by decide)⟩⟩
 r := ⟨⟨by show 1 < _; decide, fun a ha => by
   have : a = R0 := by simpa [exS] using ha
   rw [this]; exact R0_sz⟩, ⟨by show 1 < _; decide, fun a ha => by
   have : a = zE 3 := by simpa [exS] using ha
   rw [this]; exact of_sz 3 (by decide) (by decide)⟩, ⟨by show 0 < _; decide, fun a ha => absurd ha (by simp [exS])⟩⟩
 goal := eJ exV1_fl (by decide)
theorem exS_sz : exS.sz (2^20) := ⟨exQ_sz, ⟨by show 0 < _; decide, fun a ha => absurd ha (by simp [exS])⟩, ⟨by show 0 < _; decide, fun a ha => absurd ha (by simp [exS]), fun a ha => absurd ha (by simp [exS])⟩⟩
theorem exT_sz : exT.sz (2^20) := ⟨exQ_sz, ⟨by show 1 < _; decide, fun a ha => by
  have : a = ⟨3, 0, zE 4⟩ := by simpa [exT] using ha
  rw [this]; exact of_sz 4 (by decide) (by decide)⟩, ⟨by show 0 < _; decide, fun a ha => absurd ha (by simp [exT]), fun a ha => absurd ha (by simp [exT])⟩⟩
theorem exLo_sz : Msz (2^20) mW := ⟨by show 1 < _; decide, fun a ha => by
 have : a = ⟨⟨1, 0, 0, 0⟩, zE 1⟩ := by simpa [mW] using ha
 rw [this]; exact one_sz⟩
theorem exHi_sz : Msz (2^20) exHi := ⟨by show 1 < _; decide, fun a ha => by
 have : a = ⟨⟨2, 0, 0, 0⟩, zE 1⟩ := by simpa [exHi] using ha
 rw [this]; exact one_sz⟩
theorem exBoth_sz : Msz (2^20) pD := ⟨by show 2 < _; decide, fun a ha => by
 have : a = ⟨⟨2, 0, 0, 0⟩, zE 1⟩ ∨ a = ⟨⟨4, 0, 0, 0⟩, zE 1⟩ := by simpa [pD] using ha
 rcases this with h | h <;> (rw [h]; exact one_sz)⟩
theorem sExample : zC 48 [] (sv exS) := by
 refine sF Tryz.f48 ?_
 have cv0 := rY 0
 have cv1 := rY 1
 have c1 := s32 1 (by decide) (by decide)
 have c3 := s32 3 (by decide) (by decide)
 have cn := rZ (zE ((1 : Int) : Rat))
 have hcn : ∀ v : Int, Cn (F.var v).ts := fun v => ⟨List.pairwise_singleton _ _, fun t ht => by
  have : t = (v, 1) := by simpa [F.var] using ht
  rw [this]; show (1 : Rat) ≠ 0; decide⟩
 have cs := sRgSub (F.var 0).ts (zE 0) ⟨[], zE ((1 : Int) : Rat)⟩ (hcn 0) Cn.nil ⟨by decide, fun t ht => ((w5 0).t t ht).mono (by decide)⟩ (by rw [jB]; exact R0_sz) ⟨⟨by show 0 < _; decide, fun _ h => absurd h (by simp)⟩, (of_sz 1 (by decide) (by decide)).mono (by decide)⟩ (by show 1 + 0 < 2^37; decide)
 rw [zW] at cs
 have e1 : (A.f ⟨[], zE ((1 : Int) : Rat)⟩) = F.num 1 := by show (⟨[], (zE ((1 : Int) : Rat)).q⟩ : F) = _; rw [zW]; rfl
 rw [e1] at cs
 have e2 : F.sub ⟨(F.var 0).ts, 0⟩ (F.num 1) = exU := rfl
 rw [e2] at cs
 have cs' : zC 27 [av (fA (F.var 0)), av ⟨[], zE ((1 : Int) : Rat)⟩] (av (fA exU)) := cs
 have es : sv exS = .agg [.int .i64 (fun _ => 1), alv [fA exU], alv [fA (F.var 1)], rlv [R0], rlv [zE ((3 : Int) : Rat)], alv [], tsv (fA (F.var 1)).ts, .bool (fun _ => (fA (F.var 1)).c.neg), nat (fA (F.var 1)).c.num, nat (fA (F.var 1)).c.den, dlv [], llv []] := rfl
 rw [es]
 clear es e1 e2 cs hcn
 dsimp only [fv] at cv0 cv1
 generalize zE ((3 : Int) : Rat) = T at *
 generalize zE ((1 : Int) : Rat) = O at *
 generalize fA (F.var 0) = V0 at *
 generalize fA (F.var 1) = V1 at *
 generalize fA exU = U at *
 cbv
 refine cA cv0 ?_
 cbv
 refine cA c1 ?_
 cbv
 refine cA cn ?_
 cbv
 refine yQ rfl (by exact ⟨okA, ⟨zP rfl, lR, lR, lR, trivial⟩, trivial⟩) cs' rfl ?_
 cbv
 refine uW 6 (by cbv) (by cbv) ?_
 cbv
 refine dA cv1 ?_
 cbv
 refine zO 9 (by cbv) ?_
 cbv
 refine dA c3 ?_
 cbv
 refine dA cv1 ?_
 cbv
 (refine rC ?_; cbv)
 exact ⟨lR, zP rfl, zP rfl, zP rfl, zP rfl, y5 rfl, lR, lR, lR, lR, y5 rfl, y5 rfl, trivial⟩
theorem rS {b : Bool} {A B : Unit → Prop} (h : b = true) (h1 : A ()) : Br (fun _ => b) A B := z4 (fun _ => h1) (fun g => by rw [h] at g; cases g)
theorem br_ff {b : Bool} {A B : Unit → Prop} (h : b = false) (h1 : B ()) : Br (fun _ => b) A B := z4 (fun g => by rw [h] at g; cases g) (fun _ => h1)
theorem bN {b : Bool} {A B : (Exit → PS → Prop) → Prop} {Q : Exit → PS → Prop} (h : b = true) (h1 : A Q) : Cut (fun _ => b) A B Q := zT (fun _ => h1) (fun g => by rw [h] at g; cases g)
theorem cut_ff {b : Bool} {A B : (Exit → PS → Prop) → Prop} {Q : Exit → PS → Prop} (h : b = false) (h1 : B Q) : Cut (fun _ => b) A B Q := zT (fun g => by rw [h] at g; cases g) (fun _ => h1)
theorem sAwake : zC 12 [] (.bool (fun _ => true)) := by
 refine sF Tryz.f12 ?_
 have ce := sExample
 have c1 := s32 1 (by decide) (by decide)
 have cm1 := s32 (-1) (by decide) (by decide)
 have c2 := s32 2 (by decide) (by decide)
 have c4 := s32 4 (by decide) (by decide)
 have ca := cC exS ⟨0, false, zE (-1), mW⟩ exS_sz (of_sz (-1) (by decide) (by decide)) exLo_sz (by decide)
 have cb := cC exS ⟨0, false, R0, mW⟩ exS_sz R0_sz exLo_sz (by decide)
 have cc := cC exS ⟨0, true, zE 2, exHi⟩ exS_sz (of_sz 2 (by decide) (by decide)) exHi_sz (by decide)
 have cr := bF exT pD exT_sz exBoth_sz (by decide)
 have cn := bF exS mW exS_sz exLo_sz (by decide)
 have ck := sDvCan pD (exBoth_sz.mono (by decide))
 have csc := iJ exT exT_sz (fun m hm => absurd hm (by simp [exT]))
 rw [exA] at ca
 rw [exB] at cb
 rw [exC] at cc
 rw [exR] at cr
 rw [exN] at cn
 rw [exK] at ck
 rw [exSc] at csc
 have eT : sv exT = .agg [.int .i64 (fun _ => exS.q.g.n), alv exS.q.g.us, alv exS.q.g.os, rlv exS.q.r.lo, rlv exS.q.r.hi, alv exS.q.r.rows, tsv exS.q.goal.ts, .bool (fun _ => exS.q.goal.c.neg), nat exS.q.goal.c.num, nat exS.q.goal.c.den, .sl (fun _ => [xF [.int .i64 (fun _ => 3), .int .i64 (fun _ => 0), .bool (fun _ => (zE ((4 : Int) : Rat)).neg), nat (zE ((4 : Int) : Rat)).num, nat (zE ((4 : Int) : Rat)).den]]), llv []] := rfl
 rw [eT] at cr csc
 clear eT
 have eLo : mlv mW = .sl (fun _ => [xF [.int .i64 (fun _ => 1), .int .i64 (fun _ => 0), .int .i64 (fun _ => 0), .int .i64 (fun _ => 0), .bool (fun _ => (zE ((1 : Int) : Rat)).neg), nat (zE ((1 : Int) : Rat)).num, nat (zE ((1 : Int) : Rat)).den]]) := rfl
 have eHi : mlv exHi = .sl (fun _ => [xF [.int .i64 (fun _ => 2), .int .i64 (fun _ => 0), .int .i64 (fun _ => 0), .int .i64 (fun _ => 0), .bool (fun _ => (zE ((1 : Int) : Rat)).neg), nat (zE ((1 : Int) : Rat)).num, nat (zE ((1 : Int) : Rat)).den]]) := rfl
 have eBo : mlv pD = .sl (fun _ => [xF [.int .i64 (fun _ => 2), .int .i64 (fun _ => 0), .int .i64 (fun _ => 0), .int .i64 (fun _ => 0), .bool (fun _ => (zE ((1 : Int) : Rat)).neg), nat (zE ((1 : Int) : Rat)).num, nat (zE ((1 : Int) : Rat)).den], xF [.int .i64 (fun _ => 4), .int .i64 (fun _ => 0), .int .i64 (fun _ => 0), .int .i64 (fun _ => 0), .bool (fun _ => (zE ((1 : Int) : Rat)).neg), nat (zE ((1 : Int) : Rat)).num, nat (zE ((1 : Int) : Rat)).den]]) := rfl
 have fa : lv' ⟨0, false, zE (-1), mW⟩ = .agg [.int .i64 (fun _ => 0), .bool (fun _ => false), .bool (fun _ => (zE ((-1 : Int) : Rat)).neg), nat (zE ((-1 : Int) : Rat)).num, nat (zE ((-1 : Int) : Rat)).den, mlv mW] := rfl
 have fb : lv' ⟨0, false, R0, mW⟩ = .agg [.int .i64 (fun _ => 0), .bool (fun _ => false), .bool (fun _ => false), nat [], nat [], mlv mW] := rfl
 have fc : lv' ⟨0, true, zE 2, exHi⟩ = .agg [.int .i64 (fun _ => 0), .bool (fun _ => true), .bool (fun _ => (zE ((2 : Int) : Rat)).neg), nat (zE ((2 : Int) : Rat)).num, nat (zE ((2 : Int) : Rat)).den, mlv exHi] := rfl
 rw [fa, eLo] at ca
 rw [fb, eLo] at cb
 rw [fc, eHi] at cc
 rw [eBo] at cr ck
 rw [eLo] at cn
 have eT0 : exS.path = [] := rfl
 have eT1 : exS.lems = [] := rfl
 clear fa fb fc eLo eHi eBo
 generalize zE ((1 : Int) : Rat) = O at *
 generalize zE ((-1 : Int) : Rat) = N at *
 generalize zE ((2 : Int) : Rat) = T at *
 generalize zE ((4 : Int) : Rat) = Q at *
 generalize exS = S at *
 cbv
 refine cA ce ?_
 cbv
 refine kV [0, 1] [1] rfl rfl okA (c1) rfl ?_
 cbv
 refine zO 10 (by cbv) ?_
 cbv
 refine a9 6 [1, 2, 3, 4] [1, 2] rfl (by cbv) ?_
 cbv
 refine dA cm1 ?_
 cbv
 refine dA ca ?_
 cbv
 refine kV [1, 2, 3, 4, 5, 25, 27] [1, 2] rfl rfl okA (cb) rfl ?_
 cbv
 refine a9 6 [1, 2, 3, 4, 5, 6] [1, 2] rfl (by cbv) ?_
 cbv
 refine dA c2 ?_
 cbv
 refine dA cc ?_
 cbv
 refine kV [1, 2, 3, 5, 6, 7, 8] [1, 2, 8] rfl rfl okA (c4) rfl ?_
 cbv
 refine rS rfl ?_
 cbv
 refine br_ff rfl ?_
 cbv
 refine rS rfl ?_
 cbv
 refine kV [1, 3, 8, 9, 54, 55, 56] [1, 8] rfl rfl (by exact ⟨⟨lR, lR, lR, lR, lR, lR, lR, lR, lR, lR, zP rfl, zP (by rw [eT1]), trivial⟩, lR, trivial⟩) cr rfl ?_
 cbv
 refine rS rfl ?_
 cbv
 refine kV [1, 3, 8, 9, 59, 60, 61] [8] rfl rfl okA (cn) rfl ?_
 cbv
 refine br_ff rfl ?_
 cbv
 refine kV [8, 9, 65, 66] [8] rfl rfl okA (ck) rfl ?_
 cbv
 refine rS rfl ?_
 cbv
 refine kV [69, 70] [] rfl rfl (by exact ⟨⟨lR, lR, lR, lR, lR, lR, lR, lR, lR, lR, zP rfl, zP (by rw [eT1]), trivial⟩, trivial⟩) csc rfl ?_
 cbv
 (refine rC ?_; cbv)
 exact lR
theorem rl_iff (a b : Row) : wN a b = true ↔ (a.k < b.k ∨ (a.k = b.k ∧ (a.i < b.i ∨ (a.i = b.i ∧ (a.lo < b.lo ∨ (a.lo = b.lo ∧ a.hi < b.hi)))))) := by
 unfold wN
 split
 ·split
  ·split
   ·simp only [decide_eq_true_eq]; omega
   ·simp only [decide_eq_true_eq]; omega
  ·simp only [decide_eq_true_eq]; omega
 ·simp only [decide_eq_true_eq]; omega
theorem rl_trans {a b c : Row} (h : wN a b = true) (g : wN b c = true) : wN a c = true := by rw [rl_iff] at *; omega
theorem rl_tri (a b : Row) : wN a b = true ∨ a = b ∨ wN b a = true := by
 rw [rl_iff, rl_iff]
 obtain ⟨a1, a2, a3, a4⟩ := a
 obtain ⟨b1, b2, b3, b4⟩ := b
 simp only [Row.mk.injEq]
 omega
structure Rs (l : List (Row × Rat)) : Prop where
 s : l.Pairwise (fun a b => wN a.1 b.1 = true)
 p : ∀ t, t ∈ l → 0 < t.2
theorem Rs.nil : Rs [] := ⟨.nil, by simp⟩
theorem Rs.tail {t l} (h : Rs (t :: l)) : Rs l := ⟨(List.pairwise_cons.1 h.s).2, fun u hu => h.p u (List.mem_cons_of_mem _ hu)⟩
theorem Rs.lt {t l} (h : Rs (t :: l)) : ∀ u, u ∈ l → wN t.1 u.1 = true := (List.pairwise_cons.1 h.s).1
theorem Rs.hd {t l} (h : Rs (t :: l)) : 0 < t.2 := h.p t List.mem_cons_self
theorem Rs.cons {t l} (h : Rs l) (h1 : ∀ u, u ∈ l → wN t.1 u.1 = true) (h2 : 0 < t.2) : Rs (t :: l) :=
 ⟨List.pairwise_cons.2 ⟨h1, h.s⟩, fun u hu => by rcases List.mem_cons.1 hu with rfl | hu <;> first | exact h2 | exact h.p u hu⟩
def cor : List (Row × Rat) → Row → Rat
 | [], _ => 0
 | t :: r, w => (if t.1 = w then t.2 else 0) + cor r w
theorem cmp_rl (a b : Row) : jJ a b < 0 ↔ wN a b = true := by rw [o9, decide_eq_true_eq]
theorem f9 {q : Rat} : 0 < yA q ↔ 0 < q := by unfold yA; split <;> (try split) <;> grind
theorem dB {q : Rat} : yA q < 0 ↔ q < 0 := by unfold yA; split <;> (try split) <;> grind
theorem o6 {q : Rat} : yA q = 0 ↔ q = 0 := by unfold yA; split <;> (try split) <;> grind
theorem plM_mem {r : Row} {q : Rat} : ∀ {l : List (Row × Rat)} {u}, u ∈ plM r q l → u.1 = r ∨ ∃ t, t ∈ l ∧ t.1 = u.1
 | [], u, h => by
  have : u = (r, q) := by simpa [plM] using h
  rw [this]; exact .inl rfl
 | t :: rest, u, h => by
  unfold plM at h
  split at h
  ·rcases List.mem_cons.1 h with rfl | h
   ·exact .inr ⟨u, List.mem_cons_self, rfl⟩
   ·rcases plM_mem h with h | ⟨v, h1, h2⟩
    ·exact .inl h
    ·exact .inr ⟨v, List.mem_cons_of_mem _ h1, h2⟩
  ·split at h
   ·rcases List.mem_cons.1 h with rfl | h
    ·exact .inl rfl
    ·exact .inr ⟨u, List.mem_cons_of_mem _ h, rfl⟩
   ·rcases List.mem_cons.1 h with rfl | h
    ·exact .inl rfl
    ·exact .inr ⟨u, h, rfl⟩
theorem rs_plM {r : Row} {q : Rat} (hq : 0 < q) : ∀ {l : List (Row × Rat)}, Rs l → Rs (plM r q l)
 | [], _ => Rs.nil.cons (by simp) hq
 | t :: rest, h => by
  unfold plM
  split
  ·rename_i hlt
   refine (rs_plM hq h.tail).cons (fun u hu => ?_) h.hd
   rcases plM_mem hu with e | ⟨v, h1, h2⟩
   ·rw [e]; exact hlt
   ·rw [← h2]; exact h.lt v h1
  ·rename_i hlt
   split
   ·rename_i e
    have := h.hd
    exact h.tail.cons (fun u hu => by rw [← e]; exact h.lt u hu) (by show 0 < t.2 + q; grind)
   ·rename_i e
    have hlt' : wN r t.1 = true := by
     rcases rl_tri r t.1 with c | c | c
     ·exact c
     ·exact absurd c.symm e
     ·exact absurd c hlt
    refine h.cons (fun u hu => ?_) hq
    rcases List.mem_cons.1 hu with rfl | hu
    ·exact hlt'
    ·exact rl_trans hlt' (h.lt u hu)
theorem plMq_rs {l : List (Row × Rat)} {r : Row} {q : Rat} (h : Rs l) (hq : 0 ≤ q) : Rs (plMq l r q) := by
 unfold plMq
 split
 ·exact h
 ·rename_i e
  rw [o6] at e
  exact rs_plM (by grind) h
theorem lK : ∀ {l : List (Row × Rat)} {p : Option Row}, Rs l → (∀ w, p = some w → ∀ t, t ∈ l → wN w t.1 = true) → vH p (mR l) = true
 | [], p, _, _ => by cases p <;> rfl
 | t :: r, none, h, hp => by
  show (decide (0 < yA (zE t.2).q) && ((zE t.2).ok && (true && vH (some t.1) (mR r)))) = true
  rw [zW, kM, decide_eq_true (f9.2 h.hd), lK h.tail (fun w e u hu => by cases e; exact h.lt u hu)]
  rfl
 | t :: r, some w, h, hp => by
  show (decide (0 < yA (zE t.2).q) && ((zE t.2).ok && (decide (jJ w t.1 < 0) && vH (some t.1) (mR r)))) = true
  rw [zW, kM, decide_eq_true (f9.2 h.hd), lK h.tail (fun w e u hu => by cases e; exact h.lt u hu), decide_eq_true ((cmp_rl _ _).2 (hp w rfl t List.mem_cons_self))]
  rfl
theorem few_sz {l : List Mult} (h : nS l = true) : Msz (2^20) l ∧ l.length ≤ 12 := by
 unfold nS at h
 simp only [Bool.and_eq_true, decide_eq_true_eq, List.all_eq_true] at h
 obtain ⟨h1, h2⟩ := h
 exact ⟨⟨by omega, fun m hm => ⟨Nat.le_trans (h1 m hm).1 (by decide), Nat.le_trans (h1 m hm).2 (by decide)⟩⟩, h2⟩
end Go.Proofs.YtcanljninhfmhaaGreat
