/- A part of the proof: RwC, RgA. -/
import Derived.Test.YtcanljninhfmhaaGreatS30
import Derived.Test.YtcanljninhfmhaaGreatS28
set_option linter.all false
namespace Go.Proofs.YtcanljninhfmhaaGreat
open Go
set_option linter.unusedVariables false
set_option maxRecDepth 100000
set_option maxHeartbeats 1000000
def F.zero : F := ⟨[], 0⟩
theorem fA_zero : fA F.zero = ⟨[], R0⟩ := by show (⟨[], ratR 0⟩ : A) = _; rw [ratR_zero]
theorem fits_one : Fits 1 1 := fits_int (z := 1) (by decide) (by decide)
theorem var_fit (v : Int) : (F.var v).fit 1 := ⟨⟨by show 1 < _; decide, fun t ht => by
 have : t = (v, 1) := by simpa [F.var] using ht
 rw [this]; exact fits_one⟩, fits_zero (by decide)⟩
theorem num_fit {k : Nat} {q : Rat} (h : Fits k q) : (F.num q).fit k := ⟨⟨by show 0 < _; decide, fun t ht => absurd ht (by simp [F.num])⟩, h⟩
theorem merge_fit {f g : F} {c : Rat} {k m : Nat} (hf : f.fit k) (hg : g.fit k) (hc : Fits m c) (hl : f.ts.length + g.ts.length < 2^38) : (f.merge g c).fit (2 * k + m + 1) :=
 ⟨⟨Nat.lt_of_le_of_lt (mrg_len _ _ _) hl, mrg_fit hc hf.t.fit hg.t.fit⟩, (fits_add hf.c (fits_mul hg.c hc)).mono (by omega)⟩
theorem fits_neg1 : Fits 1 (-1) := fits_neg fits_one
theorem sub_fit {f g : F} {k : Nat} (hf : f.fit k) (hg : g.fit k) (hl : f.ts.length + g.ts.length < 2^38) : (f.sub g).fit (2 * k + 2) := (merge_fit hf hg fits_neg1 hl).mono (by omega)
theorem scale_fit {f : F} {c : Rat} {k m : Nat} (hf : f.fit k) (hc : Fits m c) (hk : 1 ≤ k) : (f.scale c).fit (2 * k + m + 1) := merge_fit ⟨⟨by show 0 < _; decide, fun t ht => absurd ht (by simp)⟩, fits_zero hk⟩ hf hc (by show 0 + _ < _; have := hf.t.len; omega)
theorem sub_len (f g : F) : (f.sub g).ts.length ≤ f.ts.length + g.ts.length := mrg_len _ _ _
theorem scale_len (f : F) (c : Rat) : (f.scale c).ts.length ≤ f.ts.length := Nat.le_trans (mrg_len _ _ _) (by simp)
def Scp.fIn (s : Scp) (r : Row) : Option F :=
 if r.plain = true ∧ 0 ≤ r.i then
  if r.k = 1 then s.q.r.lo[r.i.toNat]?.map fun x => (F.var r.i).sub (F.num x.q)
  else if r.k = 2 then s.q.r.hi[r.i.toNat]?.map fun x => (F.num x.q).sub (F.var r.i)
  else if r.k = 3 then s.q.r.rows[r.i.toNat]?.map fun f => f.f.add F.zero
  else if r.k = 4 then match s.path[r.i.toNat]? with
   | some d => if d.fits s.q = true then (if d.k = 3 then some ((F.var d.i).sub (F.num d.x.q)) else if d.k = 4 then some (((F.var d.i).sub (F.num d.x.q)).scale (-1)) else none) else none
   | none => none
  else none
 else none
theorem hfRwIn : Pg.funcs[103]? = some Tryz.f103 := by rw [Pg_eq]; rfl
theorem sRwIn (s : Scp) (r : Row) (hs : s.sz (2^28)) : SoundS 103 [sv s, rwv r] (.tup [fv ((s.fIn r).getD F.zero), .bool (fun _ => (s.fIn r).isSome)]) := by
 refine sound_fn hfRwIn rfl rfl rfl rfl rfl ?_
 have cpl := sRwPlain r
 have hlo := hs.q.r.lo.sz
 have hhi := hs.q.r.hi.sz
 have hrw := hs.q.r.rows.sz
 have hpa := hs.path.sz
 have hrl := hs.q.r.rows.len
 have hft : ∀ d, d ∈ s.path → SoundS 118 [qv s.q, dv d] (.bool (fun _ => d.fits s.q)) := fun d hd => sRwFits0 s.q d ((hpa d hd).mono (by decide))
 have hno : ¬ (r.plain = true ∧ 0 ≤ r.i) → s.fIn r = none := fun h => if_neg h
 have hyes : r.plain = true → 0 ≤ r.i → s.fIn r = if r.k = 1 then s.q.r.lo[r.i.toNat]?.map fun x => (F.var r.i).sub (F.num x.q)
  else if r.k = 2 then s.q.r.hi[r.i.toNat]?.map fun x => (F.num x.q).sub (F.var r.i)
  else if r.k = 3 then s.q.r.rows[r.i.toNat]?.map fun f => f.f.add F.zero
  else if r.k = 4 then match s.path[r.i.toNat]? with
   | some d => if d.fits s.q = true then (if d.k = 3 then some ((F.var d.i).sub (F.num d.x.q)) else if d.k = 4 then some (((F.var d.i).sub (F.num d.x.q)).scale (-1)) else none) else none
   | none => none
  else none := fun h1 h2 => if_pos ⟨h1, h2⟩
 obtain ⟨o, ho⟩ : ∃ o, o = s.fIn r := ⟨_, rfl⟩
 rw [← ho] at hno hyes ⊢
 obtain ⟨W, hW⟩ : ∃ W, W = fA (o.getD F.zero) := ⟨_, rfl⟩
 obtain ⟨b, hb⟩ : ∃ b, b = o.isSome := ⟨_, rfl⟩
 rw [show fv (o.getD F.zero) = av W by rw [hW], ← hb]
 have fin2 : ∀ f, o = some f → W = fA f ∧ b = true := fun f h => by rw [h] at hW hb; exact ⟨hW, hb⟩
 have fin1 : o = none → W = ⟨[], R0⟩ ∧ b = false := fun h => by
  rw [h] at hW hb
  exact ⟨hW.trans fA_zero, hb⟩
 clear hW hb ho hs
 obtain ⟨wt, w1, w2, w3⟩ := W
 have fin3 : o = none → wt = [] ∧ w1 = false ∧ w2 = [] ∧ w3 = [] ∧ b = false := fun h => by
  obtain ⟨h1, h2⟩ := fin1 h
  simp only [A.mk.injEq, R.mk.injEq] at h1
  exact ⟨h1.1, h1.2.1, h1.2.2.1, h1.2.2.2, h2⟩
 clear fin1
 generalize r.plain = pl at *
 obtain ⟨⟨⟨gn, us, os⟩, ⟨lo, hi, rows⟩, ⟨ts, c1, c2, c3⟩⟩, path, lems⟩ := s
 obtain ⟨k, i, rlo, rhi⟩ := r
 simp only at hlo hhi hrw hpa hft hno hyes hrl
 cbv
 refine draw_mk 7 (by cbv) (by cbv) ?_
 cbv
 refine callS' rfl okA (cpl) rfl ?_
 cbv
 refine br_bool (fun e1 => ?_) (fun e1 => ?_)
 rotate_left
 ·subst e1
  cbv
  obtain ⟨g0, g1, g2, g3, g4⟩ := fin3 (hno (fun h => absurd h.1 (by decide)))
  subst g0 g1 g2 g3 g4
  (refine retC rfl ?_; cbv)
  exact ⟨⟨leS_nil rfl, leS_ff rfl, leS_nil rfl, leS_nil rfl, trivial⟩, leS_ff rfl, trivial⟩
 subst e1
 cbv
 refine cut_dec (fun e2 => ?_) (fun e2 => ?_)
 ·cbv
  obtain ⟨g0, g1, g2, g3, g4⟩ := fin3 (hno (fun h => absurd h.2 (by dsimp only at e2; omega)))
  subst g0 g1 g2 g3 g4
  (refine retC rfl ?_; cbv)
  exact ⟨⟨leS_nil rfl, leS_ff rfl, leS_nil rfl, leS_nil rfl, trivial⟩, leS_ff rfl, trivial⟩
 cbv
 have hi0 : 0 ≤ i := by (try dsimp only [ncast] at *); omega
 have hit : ((i.toNat : Nat) : Int) = i := by omega
 have ho := hyes rfl hi0
 clear hno hyes e2
 have hk : k = 1 ∨ k = 2 ∨ k = 3 ∨ k = 4 ∨ (k ≤ 0 ∨ 5 ≤ k) := by omega
 rcases hk with rfl | rfl | rfl | rfl | hk
 ·refine br_yes (by simp) ?_
  cbv
  refine cut_dec (fun e3 => ?_) (fun e3 => ?_)
  ·cbv
   rw [enc_len] at e3
   obtain ⟨x, hx⟩ : ∃ x, lo[i.toNat]? = some x := get_some (by (try dsimp only [ncast] at *); omega)
   have hxs := hlo x (List.mem_of_getElem? hx)
   have cv := sRwVar i
   have cn := sRwNum x (hxs.mono (by decide))
   have fx : Fits (2^28) x.q := hxs.fits (by decide)
   have cs := sLnSub (fA (F.var i)) (fA (F.num x.q)) ((var_fit i).fA.mono (by decide)) ((num_fit fx).fA.mono (by decide))
   rw [f_fA, f_fA] at cs
   have ho2 := fin2 ((F.var i).sub (F.num x.q)) (by rw [ho, if_pos rfl, hx]; rfl)
   dsimp only [fv] at cs cv cn
   generalize (F.var i).sub (F.num x.q) = V at *
   generalize fA V = U at *
   generalize fA (F.var i) = V1 at *
   generalize fA (F.num x.q) = V2 at *
   obtain ⟨v1t, v11, v12, v13⟩ := V1
   obtain ⟨v2t, v21, v22, v23⟩ := V2
   obtain ⟨ho3, hb⟩ := ho2
   subst ho3 hb
   obtain ⟨x1, x2, x3⟩ := x
   refine draw_of 9 (by cbv) ?_
   cbv
   refine callS_d okA (cv) rfl ?_
   cbv
   refine idx_enc (l := lo) i.toNat om om rc_flat rc_len (fun x' hx' => ?_)
   obtain rfl : x' = ⟨x1, x2, x3⟩ := by rw [hx] at hx'; exact (Option.some.inj hx').symm
   cbv
   refine callS_d okA (cn) rfl ?_
   cbv
   refine callS_d okA (cs) rfl ?_
   cbv
   (refine retC rfl ?_; cbv)
   exact ⟨⟨leS_refl _, leS_refl _, leS_refl _, leS_refl _, trivial⟩, leS_tt rfl, trivial⟩
  ·cbv
   refine br_no (by simp) ?_
   cbv
   refine br_no (by simp) ?_
   cbv
   refine draw_of 21 (by cbv) ?_
   cbv
   refine br_no (by simp) ?_
   cbv
   obtain ⟨g0, g1, g2, g3, g4⟩ := fin3 (by rw [ho, if_pos rfl, List.getElem?_eq_none (by rw [enc_len] at e3; (try dsimp only [ncast] at *); omega)]; rfl)
   subst g0 g1 g2 g3 g4
   (refine retC rfl ?_; cbv)
   exact ⟨⟨leS_nil rfl, leS_ff rfl, leS_nil rfl, leS_nil rfl, trivial⟩, leS_ff rfl, trivial⟩
 ·refine br_no (by simp) ?_
  cbv
  refine br_yes (by simp) ?_
  cbv
  refine cut_dec (fun e3 => ?_) (fun e3 => ?_)
  ·cbv
   rw [enc_len] at e3
   obtain ⟨x, hx⟩ : ∃ x, hi[i.toNat]? = some x := get_some (by (try dsimp only [ncast] at *); omega)
   have hxs := hhi x (List.mem_of_getElem? hx)
   have cv := sRwVar i
   have cn := sRwNum x (hxs.mono (by decide))
   have fx : Fits (2^28) x.q := hxs.fits (by decide)
   have cs := sLnSub (fA (F.num x.q)) (fA (F.var i)) ((num_fit fx).fA.mono (by decide)) ((var_fit i).fA.mono (by decide))
   rw [f_fA, f_fA] at cs
   have ho2 := fin2 ((F.num x.q).sub (F.var i)) (by rw [ho, if_neg (by decide), if_pos rfl, hx]; rfl)
   dsimp only [fv] at cs cv cn
   generalize (F.num x.q).sub (F.var i) = V at *
   generalize fA V = U at *
   generalize fA (F.var i) = V1 at *
   generalize fA (F.num x.q) = V2 at *
   obtain ⟨v1t, v11, v12, v13⟩ := V1
   obtain ⟨v2t, v21, v22, v23⟩ := V2
   obtain ⟨ho3, hb⟩ := ho2
   subst ho3 hb
   obtain ⟨x1, x2, x3⟩ := x
   refine idx_enc (l := hi) i.toNat om om rc_flat rc_len (fun x' hx' => ?_)
   obtain rfl : x' = ⟨x1, x2, x3⟩ := by rw [hx] at hx'; exact (Option.some.inj hx').symm
   cbv
   refine callS' rfl okA (cn) rfl ?_
   cbv
   refine callS' rfl okA (cv) rfl ?_
   cbv
   refine callS' rfl okA (cs) rfl ?_
   cbv
   (refine retC rfl ?_; cbv)
   exact ⟨⟨leS_refl _, leS_refl _, leS_refl _, leS_refl _, trivial⟩, leS_tt rfl, trivial⟩
  ·cbv
   refine br_no (by simp) ?_
   cbv
   refine draw_of 21 (by cbv) ?_
   cbv
   refine br_no (by simp) ?_
   cbv
   obtain ⟨g0, g1, g2, g3, g4⟩ := fin3 (by rw [ho, if_neg (by decide), if_pos rfl, List.getElem?_eq_none (by rw [enc_len] at e3; (try dsimp only [ncast] at *); omega)]; rfl)
   subst g0 g1 g2 g3 g4
   (refine retC rfl ?_; cbv)
   exact ⟨⟨leS_nil rfl, leS_ff rfl, leS_nil rfl, leS_nil rfl, trivial⟩, leS_ff rfl, trivial⟩
 ·refine br_no (by simp) ?_
  cbv
  refine br_no (by simp) ?_
  cbv
  refine br_yes (by simp) ?_
  cbv
  refine cut_dec (fun e3 => ?_) (fun e3 => ?_)
  ·cbv
   rw [enc_len] at e3
   obtain ⟨x, hx⟩ : ∃ x, rows[i.toNat]? = some x := get_some (by (try dsimp only [ncast] at *); omega)
   have hxs := hrw x (List.mem_of_getElem? hx)
   have cs := sLnAdd x ⟨[], R0⟩ (hxs.mono (by decide)) ⟨⟨by decide, fun _ h => absurd h (by simp)⟩, ⟨by decide, by decide⟩⟩
   have e0 : A.f ⟨[], R0⟩ = F.zero := by rw [← fA_zero, f_fA]
   rw [e0] at cs
   have ho2 := fin2 (x.f.add F.zero) (by rw [ho, if_neg (by decide), if_neg (by decide), if_pos rfl, hx]; rfl)
   dsimp only [fv] at cs
   generalize x.f.add F.zero = V at *
   generalize fA V = U at *
   obtain ⟨ho3, hb⟩ := ho2
   subst ho3 hb
   obtain ⟨xt, x1, x2, x3⟩ := x
   refine idx_enc (l := rows) i.toNat om om ac_flat ac_len (fun x' hx' => ?_)
   obtain rfl : x' = ⟨xt, x1, x2, x3⟩ := by rw [hx] at hx'; exact (Option.some.inj hx').symm
   cbv
   refine callS' rfl (by exact ⟨⟨leS_refl _, leS_refl _, leS_refl _, leS_refl _, trivial⟩, ⟨leS_nil rfl, leS_ff rfl, leS_nil rfl, leS_nil rfl, trivial⟩, trivial⟩) cs rfl ?_
   cbv
   (refine retC rfl ?_; cbv)
   exact ⟨⟨leS_refl _, leS_refl _, leS_refl _, leS_refl _, trivial⟩, leS_tt rfl, trivial⟩
  ·cbv
   refine draw_of 21 (by cbv) ?_
   cbv
   refine br_no (by simp) ?_
   cbv
   obtain ⟨g0, g1, g2, g3, g4⟩ := fin3 (by rw [ho, if_neg (by decide), if_neg (by decide), if_pos rfl, List.getElem?_eq_none (by rw [enc_len] at e3; (try dsimp only [ncast] at *); omega)]; rfl)
   subst g0 g1 g2 g3 g4
   (refine retC rfl ?_; cbv)
   exact ⟨⟨leS_nil rfl, leS_ff rfl, leS_nil rfl, leS_nil rfl, trivial⟩, leS_ff rfl, trivial⟩
 ·refine br_no (by simp) ?_
  cbv
  refine br_no (by simp) ?_
  cbv
  refine br_no (by simp) ?_
  cbv
  refine draw_of 21 (by cbv) ?_
  cbv
  refine br_yes (by simp) ?_
  cbv
  refine br_dec (fun e3 => ?_) (fun e3 => ?_)
  ·cbv
   rw [enc_len] at e3
   obtain ⟨d, hd⟩ : ∃ d, path[i.toNat]? = some d := get_some (by (try dsimp only [ncast] at *); omega)
   have hds := hpa d (List.mem_of_getElem? hd)
   have cf := hft d (List.mem_of_getElem? hd)
   have idx : ∀ {K : List PV → Prop}, K (dc d) → IdxOk 5 (fun _ => enc dc path) (fun _ => i) K := fun hK => idx_enc (l := path) i.toNat hit.symm (by (try dsimp only [ncast] at *); omega) dc_flat dc_len (fun m' hm' => by rw [hd] at hm'; cases hm'; exact hK)
   have cv := sRwVar d.i
   have cn := sRwNum d.x (hds.mono (by decide))
   have fx : Fits (2^28) d.x.q := hds.fits (by decide)
   have cs := sLnSub (fA (F.var d.i)) (fA (F.num d.x.q)) ((var_fit d.i).fA.mono (by decide)) ((num_fit fx).fA.mono (by decide))
   rw [f_fA, f_fA] at cs
   have cm := sRwMinus (fA ((F.var d.i).sub (F.num d.x.q))) ((sub_fit ((var_fit d.i).mono (m := 2^28) (by decide)) (num_fit fx) (by show 1 + 0 < 2^38; decide)).fA.mono (by decide))
   rw [f_fA] at cm
   have ho' : o = if d.fits ⟨⟨gn, us, os⟩, ⟨lo, hi, rows⟩, ⟨ts, c1, c2, c3⟩⟩ = true then (if d.k = 3 then some ((F.var d.i).sub (F.num d.x.q)) else if d.k = 4 then some (((F.var d.i).sub (F.num d.x.q)).scale (-1)) else none) else none := by rw [ho, if_neg (by decide), if_neg (by decide), if_neg (by decide), if_pos rfl, hd]
   clear ho
   generalize d.fits ⟨⟨gn, us, os⟩, ⟨lo, hi, rows⟩, ⟨ts, c1, c2, c3⟩⟩ = ft at *
   dsimp only [fv] at cs cv cn cm
   generalize hV : (F.var d.i).sub (F.num d.x.q) = V at *
   generalize V.scale (-1) = V' at *
   have fA1 := fin2 V
   have fA2 := fin2 V'
   generalize fA V = U at *
   generalize fA V' = U' at *
   generalize fA (F.var d.i) = V1 at *
   generalize fA (F.num d.x.q) = V2 at *
   obtain ⟨ut, u1, u2, u3⟩ := U
   obtain ⟨ut', u1', u2', u3'⟩ := U'
   obtain ⟨v1t, v11, v12, v13⟩ := V1
   obtain ⟨v2t, v21, v22, v23⟩ := V2
   obtain ⟨dk, di, d1, d2, d3⟩ := d
   simp only at ho'
   refine idx ?_
   cbv
   refine callS_d okA (cf) rfl ?_
   cbv
   refine cut_bool (fun e4 => ?_) (fun e4 => ?_)
   ·subst e4
    cbv
    refine idx ?_
    cbv
    refine draw_mk 8 (by cbv) (by cbv) ?_
    cbv
    refine callS_d okA (cv) rfl ?_
    cbv
    refine callS_d okA (cn) rfl ?_
    cbv
    refine callS_d okA (cs) rfl ?_
    cbv
    refine cut_dec (fun e5 => ?_) (fun e5 => ?_)
    ·cbv
     obtain ⟨g1, g2⟩ := fA1 (by rw [ho', if_pos rfl, if_pos e5])
     cases g1
     subst g2
     (refine retC rfl ?_; cbv)
     exact ⟨⟨leS_refl _, leS_refl _, leS_refl _, leS_refl _, trivial⟩, leS_tt rfl, trivial⟩
    ·cbv
     refine cut_dec (fun e6 => ?_) (fun e6 => ?_)
     ·cbv
      obtain ⟨g1, g2⟩ := fA2 (by rw [ho', if_pos rfl, if_neg e5, if_pos e6])
      cases g1
      subst g2
      refine callS' rfl okA (cm) rfl ?_
      cbv
      (refine retC rfl ?_; cbv)
      exact ⟨⟨leS_refl _, leS_refl _, leS_refl _, leS_refl _, trivial⟩, leS_tt rfl, trivial⟩
     ·cbv
      obtain ⟨g0, g1, g2, g3, g4⟩ := fin3 (by rw [ho', if_pos rfl, if_neg e5, if_neg e6])
      subst g0 g1 g2 g3 g4
      (refine retC rfl ?_; cbv)
      exact ⟨⟨leS_nil rfl, leS_ff rfl, leS_nil rfl, leS_nil rfl, trivial⟩, leS_ff rfl, trivial⟩
   ·subst e4
    cbv
    obtain ⟨g0, g1, g2, g3, g4⟩ := fin3 (by rw [ho', if_neg (by decide)])
    subst g0 g1 g2 g3 g4
    (refine retC rfl ?_; cbv)
    exact ⟨⟨leS_nil rfl, leS_ff rfl, leS_nil rfl, leS_nil rfl, trivial⟩, leS_ff rfl, trivial⟩
  ·cbv
   obtain ⟨g0, g1, g2, g3, g4⟩ := fin3 (by rw [ho, if_neg (by decide), if_neg (by decide), if_neg (by decide), if_pos rfl, List.getElem?_eq_none (by rw [enc_len] at e3; (try dsimp only [ncast] at *); omega)])
   subst g0 g1 g2 g3 g4
   (refine retC rfl ?_; cbv)
   exact ⟨⟨leS_nil rfl, leS_ff rfl, leS_nil rfl, leS_nil rfl, trivial⟩, leS_ff rfl, trivial⟩
 ·refine br_no (by dsimp only; omega) ?_
  cbv
  refine br_no (by dsimp only; omega) ?_
  cbv
  refine br_no (by dsimp only; omega) ?_
  cbv
  refine draw_of 21 (by cbv) ?_
  cbv
  refine br_no (by dsimp only; omega) ?_
  cbv
  obtain ⟨g0, g1, g2, g3, g4⟩ := fin3 (by rw [ho, if_neg (by omega), if_neg (by omega), if_neg (by omega), if_neg (by omega)])
  subst g0 g1 g2 g3 g4
  (refine retC rfl ?_; cbv)
  exact ⟨⟨leS_nil rfl, leS_ff rfl, leS_nil rfl, leS_nil rfl, trivial⟩, leS_ff rfl, trivial⟩
end Go.Proofs.YtcanljninhfmhaaGreat

namespace Go.Proofs.YtcanljninhfmhaaGreat
open Go
set_option linter.unusedVariables false
set_option maxRecDepth 100000
set_option maxHeartbeats 1000000
abbrev tvq (v : Int) (x : R) : PV := .agg [.int .i64 (fun _ => v), .bool (fun _ => x.neg), nat x.num, nat x.den]
theorem hfNz : Pg.funcs[94]? = some Tryz.f94 := by rw [Pg_eq]; rfl
theorem sNz (l : List (Int × Rat)) (v : Int) (q : Rat) (hq : Fits (2^36) q) (hl : l.length < 2^39) :
  Sound 94 [.osl 100 4 (fun _ => 0) (fun _ => l.length), tvq v (ratR q)] [] [(100, .arr 4 (fun _ => enc tc (tR l)))]
   (.osl 100 4 (fun _ => 0) (fun _ => (pcr l v q).length)) [] [(100, .arr 4 (fun _ => enc tc (tR (pcr l v q))))] := by
 refine sound_fn hfNz rfl rfl rfl rfl rfl ?_
 have cs := s35 (ratR q) (by have := (ratR_sz hq).n; omega)
 rw [q_ratR] at cs
 have h1 : sgnQ q ≠ 0 → pcr l v q = l ++ [(v, q)] := fun h => if_neg (sgnQ_ne.1 h)
 have h2 : sgnQ q = 0 → pcr l v q = l := fun h => if_pos (by have := fun g => sgnQ_ne.2 g h; simpa using this)
 have hR : tR [(v, q)] = [(v, ratR q)] := rfl
 generalize pcr l v q = P at *
 generalize sgnQ q = sg at *
 generalize ratR q = W at *
 clear hq
 cbv
 refine callS' rfl okA (cs) rfl ?_
 cbv
 refine cut_dec (fun h => ?_) (fun h => ?_)
 ·have hP := h2 h
  cbv
  subst hP
  exact retM1 100 (.refl _) rfl rfl rfl (by cbv; exact leS_refl _)
 ·have hP := h1 h
  cbv
  subst hP
  refine app_own tyTerms rfl rfl rfl (by simp only [enc_len, tR_len]) rfl ⟨by simp [mapDD, mapD]⟩ (room_of (by simp only [enc_len, tR_len, mapDD, List.length_cons, List.length_nil]; omega) (by simp only [enc_len, tR_len, mapDD, List.length_cons, List.length_nil]; omega)) rfl ?_
  cbv
  refine retM1 (ps' := ⟨[(4, .osl 13 4 (fun _ => 0) (fun _ => (l ++ [(v, q)]).length))], [(13, .arr 4 (fun _ => enc tc (tR (l ++ [(v, q)]))))]⟩) 13 (.le ?_ ?_ rfl) rfl rfl rfl ?_
  ·cbv
   exact ⟨leS_osl rfl (by simp [enc_len, tR_len, mapDD]), trivial⟩
  ·cbv
   exact ⟨elsEq_of (by rw [tR_app, hR, ← enc_app]; rfl), trivial⟩
  ·cbv
   exact leS_refl _
def plusL (v : Int) (q : Rat) : Bool → List (Int × Rat) → List (Int × Rat)
 | d, [] => if d = true then [] else pc v q []
 | d, t :: r => if t.1 = v then pc t.1 (t.2 + q) (plusL v q true r) else if d = false ∧ v < t.1 then pc v q (pc t.1 t.2 (plusL v q true r)) else pc t.1 t.2 (plusL v q d r)
theorem hfPlus : Pg.funcs[63]? = some Tryz.f63 := by rw [Pg_eq]; rfl
theorem sPlus (l : List (Int × Rat)) (fc : R) (v : Int) (c : R) (hl : Tfit (2^30) l) (hc : c.sz (2^30)) :
  SoundS 63 [av ⟨tR l, fc⟩, .int .i64 (fun _ => v), rv c] (av ⟨tR (plusL v c.q false l), fc⟩) := by
 refine sound_fn hfPlus rfl rfl rfl rfl rfl ?_
 have cfc := hc.fits (by decide)
 have cc := s47 c (hc.mono (by decide))
 have hll := hl.len
 have hadd : ∀ t, t ∈ l → SoundS 37 [rv (ratR t.2), rv c] (rv (ratR (t.2 + c.q))) := fun t ht => by
  have := s44 (ratR t.2) c ((ratR_sz (hl.fit t ht)).mono (by decide)) (hc.mono (by decide))
  rw [q_ratR] at this
  exact this
 have hasz : ∀ t, t ∈ l → Fits (2^36) (t.2 + c.q) := fun t ht => (fits_add (hl.fit t ht) cfc).mono (by decide)
 have htsz : ∀ t, t ∈ l → Fits (2^36) t.2 := fun t ht => (hl.fit t ht).mono (by decide)
 have hqsz : Fits (2^36) c.q := cfc.mono (by decide)
 generalize hM : plusL v c.q false l = M
 generalize hcq : c.q = q at *
 clear hl hc hcq cfc
 cbv
 refine loop_n (σ := List (Int × Rat) × Nat × Bool) (fun s => ⟨[(1, .int .i64 (fun _ => v)), (3, .ptr 3 0), (5, .ptr 5 0), (6, .ptr 6 0), (7, .osl 200 4 (fun _ => 0) (fun _ => s.1.length)), (8, .bool (fun _ => s.2.2)), (9, .int .i64 (fun _ => (s.2.1 : Int)))],
   [(3, .box [tsv (tR l), .bool (fun _ => fc.neg), nat fc.num, nat fc.den]), (5, .box [.bool (fun _ => c.neg), nat c.num, nat c.den]), (6, .box [.nil, .ff, .nil, .nil]), (200, .arr 4 (fun _ => enc tc (tR s.1)))]⟩)
  (fun s => s.2.1 ≤ l.length ∧ s.1.length ≤ 2 * s.2.1 ∧ M = s.1 ++ plusL v q s.2.2 (l.drop s.2.1)) (fun s => l.length - s.2.1)
  ([], 0, false) ⟨om, by simp, hM.symm⟩
  (.trans (.le (ps' := ⟨[(1, .int .i64 (fun _ => v)), (3, .ptr 3 0), (5, .ptr 5 0), (6, .ptr 6 0), (7, .nil), (8, .bool (fun _ => false)), (9, .int .i64 (fun _ => ((0 : Nat) : Int)))], [(3, .box [tsv (tR l), .bool (fun _ => fc.neg), nat fc.num, nat fc.den]), (5, .box [.bool (fun _ => c.neg), nat c.num, nat c.den]), (6, .box [.nil, .ff, .nil, .nil])]⟩) ?_ ?_ rfl)
   (.trans (.adoptT (ps := ⟨[(1, .int .i64 (fun _ => v)), (3, .ptr 3 0), (5, .ptr 5 0), (6, .ptr 6 0), (7, .nil), (8, .bool (fun _ => false)), (9, .int .i64 (fun _ => ((0 : Nat) : Int)))], [(3, .box [tsv (tR l), .bool (fun _ => fc.neg), nat fc.num, nat fc.den]), (5, .box [.bool (fun _ => c.neg), nat c.num, nat c.den]), (6, .box [.nil, .ff, .nil, .nil])]⟩) 200 4 7 rfl rfl) (.le ?_ ?_ rfl))) ?_
 ·cbv
  exact ⟨leS_refl _, leS_refl _, leS_refl _, leS_refl _, leS_refl _, leS_ff rfl, leS_int rfl, trivial⟩
 ·cbv
  exact ⟨⟨leS_refl _, leS_refl _, leS_refl _, leS_refl _, trivial⟩, ⟨leS_refl _, leS_refl _, leS_refl _, trivial⟩, ⟨leS_refl _, leS_refl _, leS_refl _, leS_refl _, trivial⟩, trivial⟩
 ·cbv
  exact ⟨leS_refl _, leS_refl _, leS_refl _, leS_refl _, leS_osl rfl rfl, leS_refl _, leS_refl _, trivial⟩
 ·cbv
  exact ⟨⟨leS_refl _, leS_refl _, leS_refl _, leS_refl _, trivial⟩, ⟨leS_refl _, leS_refl _, leS_refl _, trivial⟩, ⟨leS_refl _, leS_refl _, leS_refl _, leS_refl _, trivial⟩, elsEq_of rfl, trivial⟩
 intro s hs
 obtain ⟨h1, hL, hI⟩ := hs
 generalize s.1 = out at *
 generalize s.2.1 = i at *
 generalize s.2.2 = d at *
 clear hM
 cbv
 refine cut_dec (fun h5 => ?_) (fun h5 => ?_)
 ·cbv
  refine idx_enc (l := tR l) i om (by simp only [enc_len, tR_len] at h5 ⊢; (try dsimp only [ncast] at *); omega) tc_flat tc_len (fun t' ht' => ?_)
  obtain ⟨t, ht, rfl⟩ : ∃ t, l[i]? = some t ∧ t' = (t.1, ratR t.2) := by
   unfold tR at ht'
   rw [List.getElem?_map] at ht'
   cases hx : l[i]? with
   | none => rw [hx] at ht'; cases ht'
   | some t => rw [hx] at ht'; exact ⟨t, rfl, (Option.some.inj ht').symm⟩
  have hmem := List.mem_of_getElem? ht
  have hlt : i < l.length := (List.getElem?_eq_some_iff.1 ht).1
  rw [drop_of_get ht, show plusL v q d (t :: l.drop (i + 1)) = if t.1 = v then pc t.1 (t.2 + q) (plusL v q true (l.drop (i + 1))) else if d = false ∧ v < t.1 then pc v q (pc t.1 t.2 (plusL v q true (l.drop (i + 1)))) else pc t.1 t.2 (plusL v q d (l.drop (i + 1))) from rfl] at hI
  have f1 : t.1 = v → M = pcr out t.1 (t.2 + q) ++ plusL v q true (l.drop (i + 1)) := fun e => by rw [hI, if_pos e, pcr_app]
  have f2 : ¬ t.1 = v → d = false → v < t.1 → M = pcr (pcr out v q) t.1 t.2 ++ plusL v q true (l.drop (i + 1)) := fun e e2 e3 => by rw [hI, if_neg e, if_pos ⟨e2, e3⟩, pcr_app, pcr_app]
  have f3 : ¬ t.1 = v → ¬ (d = false ∧ v < t.1) → M = pcr out t.1 t.2 ++ plusL v q d (l.drop (i + 1)) := fun e e2 => by rw [hI, if_neg e, if_neg e2, pcr_app]
  clear hI
  obtain ⟨Y, hY⟩ : ∃ Y, ratR t.2 = Y := ⟨_, rfl⟩
  rw [hY]
  cbv
  refine cut_dec (fun e1 => ?_) (fun e1 => ?_)
  ·have hI' : M = pcr out t.1 (t.2 + q) ++ plusL v q true (l.drop (i + 1)) := f1 e1
   have ca := hadd t hmem
   have cz := sNz out t.1 (t.2 + q) (hasz t hmem) (by omega)
   have hpl := pcr_len out t.1 (t.2 + q)
   generalize pcr out t.1 (t.2 + q) = out' at *
   generalize ratR (t.2 + q) = X at *
   rw [hY] at ca
   cbv
   refine callS' rfl okA (ca) rfl ?_
   cbv
   refine callK (fun _ => 200) (Wk.sel _ [1, 3, 5, 6, 8, 9, 46, 47] [3, 5, 6, 200] rfl) rfl okA cz ⟨⟨rfl, rfl⟩, trivial⟩ rfl rfl rfl rfl rfl rfl rfl rfl ?_
   cbv
   refine ⟨in64_of om om, (out', i + 1, true), ⟨om, om, hI'⟩, om, .le ?_ ?_ rfl⟩
   ·cbv; exact ⟨leS_refl _, leS_refl _, leS_refl _, leS_refl _, leS_refl _, leS_tt rfl, leS_int om, trivial⟩
   ·cbv; exact ⟨⟨leS_refl _, leS_refl _, leS_refl _, leS_refl _, trivial⟩, ⟨leS_refl _, leS_refl _, leS_refl _, trivial⟩, ⟨leS_refl _, leS_refl _, leS_refl _, leS_refl _, trivial⟩, elsEq_of rfl, trivial⟩
  ·cbv
   refine br_bool (fun e2 => ?_) (fun e2 => ?_)
   ·have hI' : M = pcr out t.1 t.2 ++ plusL v q d (l.drop (i + 1)) := f3 e1 (fun h => absurd (e2.symm.trans h.1) (by decide))
    have cz := sNz out t.1 t.2 (htsz t hmem) (by omega)
    have hpl := pcr_len out t.1 t.2
    generalize pcr out t.1 t.2 = out' at *
    rw [hY] at cz
    cbv
    refine callK (fun _ => 200) (Wk.sel _ [1, 3, 5, 6, 8, 9, 46, 47] [3, 5, 6, 200] rfl) rfl okA cz ⟨⟨rfl, rfl⟩, trivial⟩ rfl rfl rfl rfl rfl rfl rfl rfl ?_
    cbv
    refine ⟨in64_of om om, (out', i + 1, d), ⟨om, om, hI'⟩, om, .le ?_ ?_ rfl⟩
    ·cbv; exact ⟨leS_refl _, leS_refl _, leS_refl _, leS_refl _, leS_refl _, leS_refl _, leS_int om, trivial⟩
    ·cbv; exact ⟨⟨leS_refl _, leS_refl _, leS_refl _, leS_refl _, trivial⟩, ⟨leS_refl _, leS_refl _, leS_refl _, trivial⟩, ⟨leS_refl _, leS_refl _, leS_refl _, leS_refl _, trivial⟩, elsEq_of rfl, trivial⟩
   ·cbv
    refine cut_dec (fun e3 => ?_) (fun e3 => ?_)
    ·have hI' : M = pcr (pcr out v q) t.1 t.2 ++ plusL v q true (l.drop (i + 1)) := f2 e1 e2 e3
     have cz1 := sNz out v q hqsz (by omega)
     have hpl1 := pcr_len out v q
     have cz2 := sNz (pcr out v q) t.1 t.2 (htsz t hmem) (by omega)
     have hpl2 := pcr_len (pcr out v q) t.1 t.2
     generalize pcr (pcr out v q) t.1 t.2 = out2 at *
     generalize pcr out v q = out1 at *
     rw [hY] at cz2
     generalize ratR q = X at *
     cbv
     refine callS' rfl okA (cc) rfl ?_
     cbv
     refine callK (fun _ => 200) (Wk.sel _ [1, 3, 5, 6, 9, 10, 40, 44] [3, 5, 6, 10, 200] rfl) rfl okA cz1 ⟨⟨rfl, rfl⟩, trivial⟩ rfl rfl rfl rfl rfl rfl rfl rfl ?_
     cbv
     refine callK (fun _ => 200) (Wk.sel _ [1, 3, 5, 6, 8, 9, 46, 47] [3, 5, 6, 200] rfl) rfl okA cz2 ⟨⟨rfl, rfl⟩, trivial⟩ rfl rfl rfl rfl rfl rfl rfl rfl ?_
     cbv
     refine ⟨in64_of om om, (out2, i + 1, true), ⟨om, om, hI'⟩, om, .le ?_ ?_ rfl⟩
     ·cbv; exact ⟨leS_refl _, leS_refl _, leS_refl _, leS_refl _, leS_refl _, leS_tt rfl, leS_int om, trivial⟩
     ·cbv; exact ⟨⟨leS_refl _, leS_refl _, leS_refl _, leS_refl _, trivial⟩, ⟨leS_refl _, leS_refl _, leS_refl _, trivial⟩, ⟨leS_refl _, leS_refl _, leS_refl _, leS_refl _, trivial⟩, elsEq_of rfl, trivial⟩
    ·have hI' : M = pcr out t.1 t.2 ++ plusL v q d (l.drop (i + 1)) := f3 e1 (fun h => e3 h.2)
     have cz := sNz out t.1 t.2 (htsz t hmem) (by omega)
     have hpl := pcr_len out t.1 t.2
     generalize pcr out t.1 t.2 = out' at *
     rw [hY] at cz
     cbv
     refine callK (fun _ => 200) (Wk.sel _ [1, 3, 5, 6, 8, 9, 46, 47] [3, 5, 6, 200] rfl) rfl okA cz ⟨⟨rfl, rfl⟩, trivial⟩ rfl rfl rfl rfl rfl rfl rfl rfl ?_
     cbv
     refine ⟨in64_of om om, (out', i + 1, d), ⟨om, om, hI'⟩, om, .le ?_ ?_ rfl⟩
     ·cbv; exact ⟨leS_refl _, leS_refl _, leS_refl _, leS_refl _, leS_refl _, leS_refl _, leS_int om, trivial⟩
     ·cbv; exact ⟨⟨leS_refl _, leS_refl _, leS_refl _, leS_refl _, trivial⟩, ⟨leS_refl _, leS_refl _, leS_refl _, trivial⟩, ⟨leS_refl _, leS_refl _, leS_refl _, leS_refl _, trivial⟩, elsEq_of rfl, trivial⟩
 ·have hi : i = l.length := by simp only [enc_len, tR_len] at h5; (try dsimp only [ncast] at *); omega
  rw [hi, List.drop_length] at hI
  cbv
  refine cut_bool (fun e1 => ?_) (fun e1 => ?_)
  ·have hM' : M = out := by rw [hI, e1]; exact List.append_nil _
   cbv
   subst hM'
   refine retWC _ (.trans (.le (ps' := ⟨[(6, .ptr 6 0)], [(6, .box [.osl 200 4 (fun _ => 0) (fun _ => M.length), .bool (fun _ => fc.neg), nat fc.num, nat fc.den]), (200, .arr 4 (fun _ => enc tc (tR M)))]⟩) ?_ ?_ rfl) (.frz 200 rfl rfl ?_ ?_)) rfl ?_
   ·cbv; exact ⟨leS_refl _, trivial⟩
   ·cbv; exact ⟨⟨leS_refl _, leS_refl _, leS_refl _, leS_refl _, trivial⟩, elsEq_of rfl, trivial⟩
   ·exact ⟨trivial, trivial⟩
   ·cbv; exact ⟨⟨frok_of (by simp [enc_len, tR_len]), trivial⟩, trivial⟩
   ·cbv; exact ⟨leS_sl (List.take_of_length_le (by simp [enc_len, tR_len])), leS_refl _, leS_refl _, leS_refl _, trivial⟩
  ·have hM' : M = pcr out v q := by
    rw [hI, e1]
    show out ++ pc v q [] = _
    rw [← pcr_app, List.append_nil]
   have cz1 := sNz out v q hqsz (by omega)
   rw [← hM'] at cz1
   generalize ratR q = X at *
   cbv
   refine callS' rfl okA (cc) rfl ?_
   cbv
   refine callK (fun _ => 200) (Wk.sel _ [3, 6, 51, 55] [3, 6, 200] rfl) rfl okA cz1 ⟨⟨rfl, rfl⟩, trivial⟩ rfl rfl rfl rfl rfl rfl rfl rfl ?_
   cbv
   refine retWC _ (.trans (.le (ps' := ⟨[(6, .ptr 6 0)], [(6, .box [.osl 200 4 (fun _ => 0) (fun _ => M.length), .bool (fun _ => fc.neg), nat fc.num, nat fc.den]), (200, .arr 4 (fun _ => enc tc (tR M)))]⟩) ?_ ?_ rfl) (.frz 200 rfl rfl ?_ ?_)) rfl ?_
   ·cbv; exact ⟨leS_refl _, trivial⟩
   ·cbv; exact ⟨⟨leS_refl _, leS_refl _, leS_refl _, leS_refl _, trivial⟩, elsEq_of rfl, trivial⟩
   ·exact ⟨trivial, trivial⟩
   ·cbv; exact ⟨⟨frok_of (by simp [enc_len, tR_len]), trivial⟩, trivial⟩
   ·cbv; exact ⟨leS_sl (List.take_of_length_le (by simp [enc_len, tR_len])), leS_refl _, leS_refl _, leS_refl _, trivial⟩
end Go.Proofs.YtcanljninhfmhaaGreat
