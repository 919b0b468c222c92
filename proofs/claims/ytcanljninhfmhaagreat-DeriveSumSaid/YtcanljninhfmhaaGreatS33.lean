/- A part of the proof: RgB. -/
import Derived.Test.YtcanljninhfmhaaGreatS32
set_option linter.all false
namespace Go.Proofs.YtcanljninhfmhaaGreat
open Go
set_option linter.unusedVariables false
set_option maxRecDepth 100000
set_option maxHeartbeats 1000000
theorem plusL_true (v : Int) (q : Rat) : ∀ {l : List (Int × Rat)}, (∀ t, t ∈ l → t.1 ≠ v) → Cn l → plusL v q true l = l
 | [], _, _ => rfl
 | t :: r, h, hc => by
  have h1 := h t List.mem_cons_self
  have ih := plusL_true v q (fun u hu => h u (List.mem_cons_of_mem _ hu)) hc.tail
  rw [show plusL v q true (t :: r) = if t.1 = v then pc t.1 (t.2 + q) (plusL v q true r) else if true = false ∧ v < t.1 then pc v q (pc t.1 t.2 (plusL v q true r)) else pc t.1 t.2 (plusL v q true r) from rfl]
  rw [if_neg h1, if_neg (by simp), ih]
  unfold pc
  rw [if_neg hc.hd]
theorem plusL_cons (v : Int) (q : Rat) (t : Int × Rat) (r : List (Int × Rat)) : plusL v q false (t :: r) = if t.1 = v then pc t.1 (t.2 + q) (plusL v q true r) else if v < t.1 then pc v q (pc t.1 t.2 (plusL v q true r)) else pc t.1 t.2 (plusL v q false r) := by
 rw [show plusL v q false (t :: r) = if t.1 = v then pc t.1 (t.2 + q) (plusL v q true r) else if false = false ∧ v < t.1 then pc v q (pc t.1 t.2 (plusL v q true r)) else pc t.1 t.2 (plusL v q false r) from rfl]
 simp only [true_and]
theorem plusL_mem {v : Int} {q : Rat} : ∀ {d : Bool} {l : List (Int × Rat)} {u}, u ∈ plusL v q d l → u.1 = v ∨ ∃ t, t ∈ l ∧ t.1 = u.1
 | true, [], u, h => absurd h (by simp [plusL])
 | false, [], u, h => by
  rcases pc_mem (show u ∈ pc v q [] from h) with rfl | h
  ·exact .inl rfl
  ·exact absurd h (by simp)
 | d, t :: r, u, h => by
  unfold plusL at h
  split at h
  ·rcases pc_mem h with rfl | h
   ·exact .inr ⟨t, List.mem_cons_self, rfl⟩
   ·rcases plusL_mem h with h | ⟨w, h1, h2⟩
    ·exact .inl h
    ·exact .inr ⟨w, List.mem_cons_of_mem _ h1, h2⟩
  ·split at h
   ·rcases pc_mem h with rfl | h
    ·exact .inl rfl
    ·rcases pc_mem h with rfl | h
     ·exact .inr ⟨t, List.mem_cons_self, rfl⟩
     ·rcases plusL_mem h with h | ⟨w, h1, h2⟩
      ·exact .inl h
      ·exact .inr ⟨w, List.mem_cons_of_mem _ h1, h2⟩
   ·rcases pc_mem h with rfl | h
    ·exact .inr ⟨t, List.mem_cons_self, rfl⟩
    ·rcases plusL_mem h with h | ⟨w, h1, h2⟩
     ·exact .inl h
     ·exact .inr ⟨w, List.mem_cons_of_mem _ h1, h2⟩
theorem Cn.plus {v : Int} {q : Rat} : ∀ {l : List (Int × Rat)}, Cn l → Cn (plusL v q false l)
 | [], _ => Cn.pc Cn.nil (fun u hu => absurd hu (by simp))
 | t :: r, h => by
  rw [plusL_cons]
  split
  ·rename_i e
   rw [plusL_true v q (fun u hu => by have := h.lt u hu; omega) h.tail]
   exact Cn.pc h.tail h.lt
  ·split
   ·rename_i e1 e2
    rw [plusL_true v q (fun u hu => by have := h.lt u hu; omega) h.tail]
    refine Cn.pc (Cn.pc h.tail h.lt) fun u hu => ?_
    rcases pc_mem hu with rfl | hu
    ·exact e2
    ·exact Int.lt_trans e2 (h.lt u hu)
   ·rename_i e1 e2
    refine Cn.pc (Cn.plus h.tail) fun u hu => ?_
    rcases plusL_mem hu with e | ⟨w, g1, g2⟩
    ·rw [e]; omega
    ·rw [← g2]; exact h.lt w g1
theorem co_plus {v : Int} {q : Rat} (w : Int) : ∀ {l : List (Int × Rat)}, Cn l → co (plusL v q false l) w = co l w + if v = w then q else 0
 | [], _ => by show co (pc v q []) w = _; rw [co_pc]; simp only [co]; grind
 | t :: r, h => by
  rw [plusL_cons]
  split
  ·rename_i e
   rw [plusL_true v q (fun u hu => by have := h.lt u hu; omega) h.tail, co_pc]
   simp only [co, e]
   split <;> grind
  ·split
   ·rw [plusL_true v q (fun u hu => by have := h.lt u hu; omega) h.tail, co_pc, co_pc]
    simp only [co]
    grind
   ·rw [co_pc, co_plus w h.tail]
    simp only [co]
    grind
def plusAll (l g : List (Int × Rat)) : List (Int × Rat) := g.foldl (fun a t => plusL t.1 t.2 false a) l
theorem Cn.plusAll : ∀ {g l : List (Int × Rat)}, Cn l → Cn (plusAll l g)
 | [], l, h => h
 | t :: g, l, h => Cn.plusAll (g := g) h.plus
theorem co_plusAll (w : Int) : ∀ {g l : List (Int × Rat)}, Cn l → co (plusAll l g) w = co l w + co g w
 | [], l, h => by show co l w = _; simp only [co]; grind
 | t :: g, l, h => by
  show co (plusAll (plusL t.1 t.2 false l) g) w = _
  rw [co_plusAll w h.plus, co_plus w h]
  simp only [co]
  grind
theorem plusAll_mrg {l g : List (Int × Rat)} (hl : Cn l) (hg : Cn g) : plusAll l g = mrg 1 l g :=
 Cn.ext hl.plusAll (hl.mrg hg) fun v => by rw [co_plusAll v hl, co_mrg]; grind
theorem plusAll_snoc (l g : List (Int × Rat)) (t : Int × Rat) : plusAll l (g ++ [t]) = plusL t.1 t.2 false (plusAll l g) := by
 unfold plusAll
 rw [List.foldl_append]
 rfl
theorem Cn.co_mem {l : List (Int × Rat)} (h : Cn l) {t} (ht : t ∈ l) : co l t.1 = t.2 := by
 induction l with
 | nil => exact absurd ht (by simp)
 | cons a r ih =>
  rcases List.mem_cons.1 ht with rfl | ht
  ·exact co_cons_eq h
  ·have := h.lt t ht
   simp only [co, if_neg (show a.1 ≠ t.1 by omega), ih h.tail ht]
   grind
theorem co_fit {k : Nat} {l : List (Int × Rat)} (h : Cn l) (hf : ∀ t, t ∈ l → Fits k t.2) (hk : 1 ≤ k) (v : Int) : Fits k (co l v) := by
 by_cases hx : ∃ t, t ∈ l ∧ t.1 = v
 ·obtain ⟨t, h1, rfl⟩ := hx
  rw [h.co_mem h1]
  exact hf t h1
 ·rw [co_zero fun t ht e => hx ⟨t, ht, e⟩]
  exact fits_zero hk
theorem Cn.take {l : List (Int × Rat)} (h : Cn l) (n : Nat) : Cn (l.take n) := ⟨h.s.sublist (List.take_sublist n l), fun t ht => h.n t (List.mem_of_mem_take ht)⟩
theorem plusL_len (v : Int) (q : Rat) : ∀ (d : Bool) (l : List (Int × Rat)), (plusL v q d l).length ≤ l.length + (if d = true then 0 else 1)
 | true, [] => by simp [plusL]
 | false, [] => by have := pc_len v q []; simpa [plusL] using this
 | d, t :: r => by
  have h1 := plusL_len v q true r
  have h2 := plusL_len v q d r
  unfold plusL
  split
  ·have := pc_len t.1 (t.2 + q) (plusL v q true r)
   simp only [List.length_cons, if_true] at *
   omega
  ·split
   ·rename_i e
    have g1 := pc_len t.1 t.2 (plusL v q true r)
    have g2 := pc_len v q (pc t.1 t.2 (plusL v q true r))
    rw [e.1]
    simp only [List.length_cons, if_true] at *
    rw [if_neg (by decide)]
    omega
   ·have := pc_len t.1 t.2 (plusL v q d r)
    simp only [List.length_cons] at *
    omega
theorem plusAll_len : ∀ (g l : List (Int × Rat)), (plusAll l g).length ≤ l.length + g.length
 | [], l => by simp [plusAll]
 | t :: g, l => by
  have h1 := plusAll_len g (plusL t.1 t.2 false l)
  have h2 := plusL_len t.1 t.2 false l
  show (plusAll (plusL t.1 t.2 false l) g).length ≤ _
  simp only [List.length_cons] at *
  rw [if_neg (by decide)] at h2
  omega
theorem plusAll_fit {k m : Nat} {l g : List (Int × Rat)} (hl : Cn l) (hg : Cn g) (hfl : ∀ t, t ∈ l → Fits k t.2) (hfg : ∀ t, t ∈ g → Fits m t.2) (hk : 1 ≤ k) (hm : 1 ≤ m) : ∀ t, t ∈ plusAll l g → Fits (k + m + 1) t.2 := fun t ht => by
 rw [← hl.plusAll.co_mem ht, co_plusAll _ hl]
 exact fits_add (co_fit hl hfl hk _) (co_fit hg hfg hm _)
theorem hfRgNum : Pg.funcs[24]? = some Tryz.f24 := by rw [Pg_eq]; rfl
theorem sRgNum (x : R) : SoundS 24 [rv x] (av ⟨[], x⟩) := by
 refine sound_fn hfRgNum rfl rfl rfl rfl rfl ?_
 cbv
 (refine retC rfl ?_; cbv)
 exact ⟨leS_nil rfl, leS_refl _, leS_refl _, leS_refl _, trivial⟩
theorem hfRgVar : Pg.funcs[95]? = some Tryz.f95 := by rw [Pg_eq]; rfl
theorem sRgVar (v : Int) : SoundS 95 [.int .i64 (fun _ => v)] (fv (F.var v)) := by
 refine sound_fn hfRgVar rfl rfl rfl rfl rfl ?_
 have c1 := s32 1 (by decide) (by decide)
 have e : fv (F.var v) = .agg [.sl (fun _ => [mapD [.int .i64 (fun _ => v), .bool (fun _ => (ratR ((1 : Int) : Rat)).neg), nat (ratR ((1 : Int) : Rat)).num, nat (ratR ((1 : Int) : Rat)).den]]), .bool (fun _ => R0.neg), nat R0.num, nat R0.den] := by
  show av ⟨[(v, ratR 1)], ratR 0⟩ = _
  rw [ratR_zero]; rfl
 rw [e]
 clear e
 generalize ratR ((1 : Int) : Rat) = o at *
 cbv
 refine callS' rfl okA (c1) rfl ?_
 cbv
 (refine retC rfl ?_; cbv)
 exact ⟨leS_sl rfl, leS_ff rfl, leS_nil rfl, leS_nil rfl, trivial⟩
theorem tq_len (l : List (Int × R)) : (tq l).length = l.length := by simp [tq]
theorem mrg_nil_cons (c : Rat) (b : Int × Rat) (bb) : mrg c [] (b :: bb) = pc b.1 (b.2 * c) (mrg c [] bb) := by rw [mrg]
theorem hfRgScale : Pg.funcs[47]? = some Tryz.f47 := by rw [Pg_eq]; rfl
theorem sRgScale (f : A) (c : R) (hf : f.sz (2^31)) (hc : c.sz (2^31)) : SoundS 47 [av f, rv c] (fv (f.f.scale c.q)) := by
 refine sound_fn hfRgScale rfl rfl rfl rfl rfl ?_
 have ccf := hc.fits (by decide)
 have hst := hf.t.sz
 have hll := hf.t.len
 have cm := s77 f.c c hf.c hc
 have hmul : ∀ b : Int × R, b ∈ f.ts → SoundS 46 [rv b.2, rv c] (rv (ratR (b.2.q * c.q))) := fun b hb => s77 b.2 c (hst b hb) hc
 have hmsz : ∀ b : Int × R, b ∈ f.ts → Fits (2^36) (b.2.q * c.q) := fun b hb => (fits_mul ((hst b hb).fits (by decide)) ccf).mono (by decide)
 have e : fv (f.f.scale c.q) = .agg [tsv (tR (mrg c.q [] (tq f.ts))), .bool (fun _ => (ratR (f.c.q * c.q)).neg), nat (ratR (f.c.q * c.q)).num, nat (ratR (f.c.q * c.q)).den] := by
  show av ⟨tR (mrg c.q [] (tq f.ts)), ratR (0 + f.c.q * c.q)⟩ = _
  rw [Rat.zero_add]
 rw [e]
 clear e
 generalize hM : mrg c.q [] (tq f.ts) = M
 generalize ratR (f.c.q * c.q) = W at *
 generalize hcq : c.q = q at *
 clear hf hc hcq ccf
 cbv
 refine callS' rfl okA (cm) rfl ?_
 cbv
 refine loop_n (σ := List (Int × Rat) × Nat) (fun s => ⟨[(2, .ptr 2 0), (3, .ptr 3 0), (4, .ptr 4 0), (5, .ptr 5 0), (6, .int .i64 (fun _ => (s.2 : Int)))],
   [(2, .box [tsv f.ts, .bool (fun _ => f.c.neg), nat f.c.num, nat f.c.den]), (3, .box [.bool (fun _ => c.neg), nat c.num, nat c.den]), (4, .box [.nil, .ff, .nil, .nil]), (5, .box [.osl 200 4 (fun _ => 0) (fun _ => s.1.length), .bool (fun _ => W.neg), nat W.num, nat W.den]), (200, .arr 4 (fun _ => enc tc (tR s.1)))]⟩)
  (fun s => s.2 ≤ f.ts.length ∧ s.1.length ≤ s.2 ∧ M = s.1 ++ mrg q [] (tq (f.ts.drop s.2))) (fun s => f.ts.length - s.2)
  ([], 0) ⟨om, by simp, hM.symm⟩
  (.trans (.le (ps' := ⟨[(2, .ptr 2 0), (3, .ptr 3 0), (4, .ptr 4 0), (5, .ptr 5 0), (6, .int .i64 (fun _ => ((0 : Nat) : Int)))], [(2, .box [tsv f.ts, .bool (fun _ => f.c.neg), nat f.c.num, nat f.c.den]), (3, .box [.bool (fun _ => c.neg), nat c.num, nat c.den]), (4, .box [.nil, .ff, .nil, .nil]), (5, .box [.nil, .bool (fun _ => W.neg), nat W.num, nat W.den])]⟩) ?_ ?_ rfl)
   (.trans (.adoptB (ps := ⟨[(2, .ptr 2 0), (3, .ptr 3 0), (4, .ptr 4 0), (5, .ptr 5 0), (6, .int .i64 (fun _ => ((0 : Nat) : Int)))], [(2, .box [tsv f.ts, .bool (fun _ => f.c.neg), nat f.c.num, nat f.c.den]), (3, .box [.bool (fun _ => c.neg), nat c.num, nat c.den]), (4, .box [.nil, .ff, .nil, .nil]), (5, .box [.nil, .bool (fun _ => W.neg), nat W.num, nat W.den])]⟩) (cs := [.nil, .bool (fun _ => W.neg), nat W.num, nat W.den]) 200 4 5 0 rfl rfl rfl) (.le ?_ ?_ rfl))) ?_
 ·cbv
  exact ⟨leS_refl _, leS_refl _, leS_refl _, leS_refl _, leS_int rfl, trivial⟩
 ·cbv
  exact ⟨⟨leS_refl _, leS_refl _, leS_refl _, leS_refl _, trivial⟩, ⟨leS_refl _, leS_refl _, leS_refl _, trivial⟩, ⟨leS_refl _, leS_refl _, leS_refl _, leS_refl _, trivial⟩, ⟨leS_refl _, leS_refl _, leS_refl _, leS_refl _, trivial⟩, trivial⟩
 ·cbv
  exact ⟨leS_refl _, leS_refl _, leS_refl _, leS_refl _, leS_refl _, trivial⟩
 ·cbv
  exact ⟨⟨leS_refl _, leS_refl _, leS_refl _, leS_refl _, trivial⟩, ⟨leS_refl _, leS_refl _, leS_refl _, trivial⟩, ⟨leS_refl _, leS_refl _, leS_refl _, leS_refl _, trivial⟩, ⟨leS_osl rfl rfl, leS_refl _, leS_refl _, leS_refl _, trivial⟩, elsEq_of rfl, trivial⟩
 clear hM
 intro s hs
 obtain ⟨h1, hL, hI⟩ := hs
 generalize s.1 = out at *
 generalize s.2 = i at *
 cbv
 refine cut_dec (fun h5 => ?_) (fun h5 => ?_)
 ·rw [enc_len] at h5
  have hlt : i < f.ts.length := by (try dsimp only [ncast] at *); omega
  obtain ⟨t, ht⟩ := get_some hlt
  have hmem := List.mem_of_getElem? ht
  rw [drop_of_get ht, tq_cons, mrg_nil_cons] at hI
  have hI' : M = pcr out t.1 (t.2.q * q) ++ mrg q [] (tq (f.ts.drop (i + 1))) := by rw [hI, pcr_app]
  clear hI
  have ca := hmul t hmem
  have cz := sNz out t.1 (t.2.q * q) (hmsz t hmem) (by omega)
  have hpl := pcr_len out t.1 (t.2.q * q)
  generalize pcr out t.1 (t.2.q * q) = out' at *
  generalize ratR (t.2.q * q) = X at *
  have idx : ∀ {K : List PV → Prop}, K (tc t) → IdxOk 4 (fun _ => enc tc f.ts) (fun _ => (i : Int)) K := fun hK => idx_enc (l := f.ts) i rfl hlt tc_flat tc_len (fun m' hm' => by rw [ht] at hm'; cases hm'; exact hK)
  cbv
  refine draw_of 17 (by cbv) ?_
  cbv
  refine idx ?_
  cbv
  refine idx ?_
  cbv
  refine callS_d okA (ca) rfl ?_
  cbv
  refine callK (fun _ => 200) (Wk.sel _ [2, 3, 4, 5, 6, 20, 35] [2, 3, 4, 5, 200] rfl) rfl okA cz ⟨⟨rfl, rfl⟩, trivial⟩ rfl rfl rfl rfl rfl rfl rfl rfl ?_
  cbv
  refine ⟨in64_of om om, (out', i + 1), ⟨om, om, hI'⟩, om, .le ?_ ?_ rfl⟩
  ·cbv; exact ⟨leS_refl _, leS_refl _, leS_refl _, leS_refl _, leS_int om, trivial⟩
  ·cbv; exact ⟨⟨leS_refl _, leS_refl _, leS_refl _, leS_refl _, trivial⟩, ⟨leS_refl _, leS_refl _, leS_refl _, trivial⟩, ⟨leS_refl _, leS_refl _, leS_refl _, leS_refl _, trivial⟩, ⟨leS_refl _, leS_refl _, leS_refl _, leS_refl _, trivial⟩, elsEq_of rfl, trivial⟩
 ·have hi : i = f.ts.length := by rw [enc_len] at h5; (try dsimp only [ncast] at *); omega
  rw [hi, List.drop_length] at hI
  have hM' : M = out := by rw [hI, show tq [] = [] from rfl, mrg, List.append_nil]
  clear hI
  cbv
  subst hM'
  refine retWC _ (.trans (.le (ps' := ⟨[(4, .ptr 4 0)], [(4, .box [.osl 200 4 (fun _ => 0) (fun _ => M.length), .bool (fun _ => W.neg), nat W.num, nat W.den]), (200, .arr 4 (fun _ => enc tc (tR M)))]⟩) ?_ ?_ rfl) (.frz 200 rfl rfl ?_ ?_)) rfl ?_
  ·cbv; exact ⟨leS_refl _, trivial⟩
  ·cbv; exact ⟨⟨leS_refl _, leS_refl _, leS_refl _, leS_refl _, trivial⟩, elsEq_of rfl, trivial⟩
  ·exact ⟨trivial, trivial⟩
  ·cbv; exact ⟨⟨frok_of (by simp [enc_len, tR_len]), trivial⟩, trivial⟩
  ·cbv; exact ⟨leS_sl (List.take_of_length_le (by simp [enc_len, tR_len])), leS_refl _, leS_refl _, leS_refl _, trivial⟩
theorem hfRgAdd : Pg.funcs[26]? = some Tryz.f26 := by rw [Pg_eq]; rfl
theorem sRgAdd (l : List (Int × Rat)) (fc : R) (g : A) (hl : Cn l) (hg : Cn (tq g.ts)) (hfl : Tfit (2^28) l) (hfc : fc.sz (2^31)) (hgs : g.sz (2^28)) (hlen : l.length + g.ts.length < 2^37) :
  SoundS 26 [av ⟨tR l, fc⟩, av g] (fv (F.add ⟨l, fc.q⟩ g.f)) := by
 refine sound_fn hfRgAdd rfl rfl rfl rfl rfl ?_
 have ca := s44 fc g.c hfc (hgs.c.mono (by decide))
 have hgz := hgs.t.sz
 have e : fv (F.add ⟨l, fc.q⟩ g.f) = .agg [tsv (tR (plusAll l (tq g.ts))), .bool (fun _ => (ratR (fc.q + g.c.q)).neg), nat (ratR (fc.q + g.c.q)).num, nat (ratR (fc.q + g.c.q)).den] := by
  show av ⟨tR (mrg 1 l (tq g.ts)), ratR (fc.q + g.c.q * 1)⟩ = _
  rw [Rat.mul_one, plusAll_mrg hl hg]
 rw [e]
 clear e
 have hfit : ∀ i, Tfit (2^30) (plusAll l (tq (g.ts.take i))) := fun i => by
  have hg' : Cn (tq (g.ts.take i)) := by have := hg.take i; unfold tq at this ⊢; rw [List.map_take]; exact this
  refine ⟨?_, fun t ht => (plusAll_fit (m := 2^28) hl hg' hfl.fit (fun t ht => ?_) (by decide) (by decide) t ht).mono (by decide)⟩
  ·have := plusAll_len (tq (g.ts.take i)) l
   rw [tq_len, List.length_take] at this
   omega
  ·unfold tq at ht
   obtain ⟨u, hu, rfl⟩ := List.mem_map.1 ht
   exact ((hgz u (List.mem_of_mem_take hu)).fits (by decide) : Fits (2^28) _)
 have hlenP : ∀ i, (plusAll l (tq (g.ts.take i))).length < 2^38 := fun i => (hfit i).len
 have hplus : ∀ (i : Nat) (t : Int × R), g.ts[i]? = some t → SoundS 63 [av ⟨tR (plusAll l (tq (g.ts.take i))), ratR (fc.q + g.c.q)⟩, .int .i64 (fun _ => t.1), rv t.2] (av ⟨tR (plusAll l (tq (g.ts.take (i + 1)))), ratR (fc.q + g.c.q)⟩) := fun i t ht => by
  have := sPlus (plusAll l (tq (g.ts.take i))) (ratR (fc.q + g.c.q)) t.1 t.2 (hfit i) ((hgz t (List.mem_of_getElem? ht)).mono (by decide))
  have e : plusL t.1 t.2.q false (plusAll l (tq (g.ts.take i))) = plusAll l (tq (g.ts.take (i + 1))) := by
   have : tq (g.ts.take (i + 1)) = tq (g.ts.take i) ++ [(t.1, t.2.q)] := by
    unfold tq
    rw [List.take_add_one, ht, List.map_append]
    rfl
   rw [this, plusAll_snoc]
  rw [e] at this
  exact this
 generalize ratR (fc.q + g.c.q) = W at *
 obtain ⟨P, hP⟩ : ∃ P : Nat → List (Int × Rat), ∀ i, P i = plusAll l (tq (g.ts.take i)) := ⟨_, fun _ => rfl⟩
 have hplus' : ∀ (i : Nat) (t : Int × R), g.ts[i]? = some t → SoundS 63 [av ⟨tR (P i), W⟩, .int .i64 (fun _ => t.1), rv t.2] (av ⟨tR (P (i + 1)), W⟩) := fun i t ht => by rw [hP, hP]; exact hplus i t ht
 have hP0 : P 0 = l := hP 0
 have hPe : plusAll l (tq g.ts) = P g.ts.length := by rw [hP, List.take_length]
 rw [hPe]
 have hlP : (P g.ts.length).length < 2^38 := by rw [hP]; exact hlenP _
 have hgl := hgs.t.len
 clear hplus hPe hfit hP hlenP hgs hfc hfl hgz hg hl
 cbv
 refine draw_mk 9 (by cbv) (by cbv) ?_
 cbv
 refine callS_d okA (ca) rfl ?_
 cbv
 refine loop_n (σ := Nat) (fun i => ⟨[(3, .ptr 3 0), (4, .ptr 4 0), (5, .ptr 5 0), (6, .int .i64 (fun _ => (i : Int)))],
   [(3, .box [tsv g.ts, .bool (fun _ => g.c.neg), nat g.c.num, nat g.c.den]), (4, .box [.nil, .ff, .nil, .nil]), (5, .box [tsv (tR (P i)), .bool (fun _ => W.neg), nat W.num, nat W.den])]⟩)
  (fun i => i ≤ g.ts.length) (fun i => g.ts.length - i) 0 (by omega) (.le ?_ ?_ rfl) ?_
 ·cbv
  exact ⟨leS_refl _, leS_refl _, leS_refl _, leS_refl _, trivial⟩
 ·cbv
  exact ⟨⟨leS_refl _, leS_refl _, leS_refl _, leS_refl _, trivial⟩, ⟨leS_refl _, leS_refl _, leS_refl _, leS_refl _, trivial⟩, ⟨leS_sl (by rw [hP0]), leS_refl _, leS_refl _, leS_refl _, trivial⟩, trivial⟩
 clear hP0
 intro i h1
 cbv
 refine cut_dec (fun h5 => ?_) (fun h5 => ?_)
 ·rw [enc_len] at h5
  have hlt : i < g.ts.length := by (try dsimp only [ncast] at *); omega
  obtain ⟨t, ht⟩ := get_some hlt
  have cp := hplus' i t ht
  have idx : ∀ {K : List PV → Prop}, K (tc t) → IdxOk 4 (fun _ => enc tc g.ts) (fun _ => (i : Int)) K := fun hK => idx_enc (l := g.ts) i rfl hlt tc_flat tc_len (fun m' hm' => by rw [ht] at hm'; cases hm'; exact hK)
  generalize P i = p0 at *
  generalize hp1 : P (i + 1) = p1 at *
  cbv
  refine draw_of 14 (by cbv) ?_
  cbv
  refine idx ?_
  cbv
  refine idx ?_
  cbv
  refine callS_d okA (cp) rfl ?_
  cbv
  refine ⟨in64_of om om, i + 1, om, om, .le ?_ ?_ rfl⟩
  ·cbv; exact ⟨leS_refl _, leS_refl _, leS_refl _, leS_int om, trivial⟩
  ·cbv; exact ⟨⟨leS_refl _, leS_refl _, leS_refl _, leS_refl _, trivial⟩, ⟨leS_refl _, leS_refl _, leS_refl _, leS_refl _, trivial⟩, ⟨leS_sl (by rw [hp1]), leS_refl _, leS_refl _, leS_refl _, trivial⟩, trivial⟩
 ·have hi : i = g.ts.length := by rw [enc_len] at h5; (try dsimp only [ncast] at *); omega
  subst hi
  clear hplus'
  generalize P g.ts.length = M at *
  cbv
  refine draw_of 7 (by cbv) ?_
  cbv
  refine ⟨enc_wid tc_len _, room_of (by simp only [enc_len, tR_len]; (try dsimp only [ncast] at *); omega) (by simp only [enc_len, tR_len]; (try dsimp only [ncast] at *); omega), ?_⟩
  cbv
  (refine retC rfl ?_; cbv)
  exact ⟨leS_refl _, leS_refl _, leS_refl _, leS_refl _, trivial⟩
theorem Cn.scale {l : List (Int × Rat)} (h : Cn l) (c : Rat) : Cn (Go.Proofs.YtcanljninhfmhaaGreat.mrg c [] l) := Cn.mrg Cn.nil h
theorem sub_add {f g : F} (hf : Cn f.ts) (hg : Cn g.ts) : f.sub g = f.add (g.scale (-1)) := by
 refine F.ext' ?_ ?_
 ·refine Cn.ext (hf.mrg hg) (hf.mrg (hg.scale (-1))) fun v => ?_
  show co (mrg (-1) f.ts g.ts) v = co (mrg 1 f.ts (mrg (-1) [] g.ts)) v
  rw [co_mrg, co_mrg, co_mrg]
  simp only [co]
  grind
 ·show f.c + g.c * -1 = f.c + (0 + g.c * -1) * 1
  grind
theorem hfRgSub : Pg.funcs[27]? = some Tryz.f27 := by rw [Pg_eq]; rfl
theorem sRgSub (l : List (Int × Rat)) (fc : R) (g : A) (hl : Cn l) (hg : Cn (tq g.ts)) (hfl : Tfit (2^28) l) (hfc : fc.sz (2^31)) (hgs : g.sz (2^26)) (hlen : l.length + g.ts.length < 2^37) :
  SoundS 27 [av ⟨tR l, fc⟩, av g] (fv (F.sub ⟨l, fc.q⟩ g.f)) := by
 refine sound_fn hfRgSub rfl rfl rfl rfl rfl ?_
 have c1 := s32 (-1) (by decide) (by decide)
 have c2 := sRgScale g (ratR ((-1 : Int) : Rat)) (hgs.mono (by decide)) ((rat_int (-1) (by decide) (by decide)).mono (by decide))
 rw [q_ratR, show g.f.scale ((-1 : Int) : Rat) = g.f.scale (-1) from rfl] at c2
 have fs : (g.f.scale (-1)).fit (2^28) := (scale_fit (hgs.fit (by decide)) fits_neg1 (by decide)).mono (by decide)
 have ls := scale_len g.f (-1)
 have lg : g.f.ts.length = g.ts.length := tq_len _
 have e1 : tq (fA (g.f.scale (-1))).ts = (g.f.scale (-1)).ts := tq_tR _
 have c3 := sRgAdd l fc (fA (g.f.scale (-1))) hl (by rw [e1]; exact hg.scale (-1)) hfl hfc fs.fA (by show l.length + (tR (g.f.scale (-1)).ts).length < _; rw [tR_len]; omega)
 rw [f_fA, ← sub_add (f := ⟨l, fc.q⟩) hl hg] at c3
 dsimp only [fv] at c2 c3 ⊢
 generalize fA (F.sub ⟨l, fc.q⟩ g.f) = W at *
 generalize fA (g.f.scale (-1)) = V at *
 generalize ratR ((-1 : Int) : Rat) = o at *
 cbv
 refine draw_of 5 (by cbv) ?_
 cbv
 refine callS_d okA (c1) rfl ?_
 cbv
 refine callS_d okA (c2) rfl ?_
 cbv
 refine callS_d okA (c3) rfl ?_
 cbv
 (refine retC rfl ?_; cbv)
 exact ⟨leS_refl _, leS_refl _, leS_refl _, leS_refl _, trivial⟩
end Go.Proofs.YtcanljninhfmhaaGreat
