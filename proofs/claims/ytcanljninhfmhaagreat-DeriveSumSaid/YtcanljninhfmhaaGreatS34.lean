/- A part of the proof: RwD. -/
import Derived.Test.YtcanljninhfmhaaGreatS32
set_option linter.all false
namespace Go.Proofs.YtcanljninhfmhaaGreat
open Go
set_option linter.unusedVariables false
set_option maxRecDepth 100000
set_option maxHeartbeats 2000000
def unF (s : Scp) (r : Row) (p v : F) (l u : Option Rat) : Option F :=
 if r.k = 5 then (if r.plain = true then some v else none)
 else if r.k = 6 then (if r.plain = true then some (v.sub p) else none)
 else if r.k = 7 then (if onB s r (l.getD 0) l.isSome = true then some (p.add F.zero) else none)
 else if r.k = 8 then (if onB s r (l.getD 0) l.isSome = true then some (p.sub v) else none)
 else if r.k = 9 then (if offB s r (u.getD 0) u.isSome = true then some (p.scale (-1)) else none)
 else if r.k = 10 then (if offB s r (u.getD 0) u.isSome = true then some (v.scale (-1)) else none)
 else if r.k = 11 then (if l.isSome = true ∧ r.hi = 0 then some (p.sub (F.num (l.getD 0))) else none)
 else if r.k = 12 then (if u.isSome = true ∧ r.lo = 0 then some ((F.num (u.getD 0)).sub p) else none)
 else if r.k = 13 then (if l.isSome = true ∧ u.isSome = true ∧ sgnQ (l.getD 0) < 0 ∧ 0 < sgnQ (u.getD 0) then some (((p.sub (F.num (l.getD 0))).scale (u.getD 0)).sub (v.scale (u.getD 0 - l.getD 0))) else none)
 else none
def Scp.fUn (s : Scp) (r : Row) : Option F :=
 if 0 ≤ r.i ∧ r.i < s.q.g.us.length then
  match s.q.g.us[r.i.toNat]? with
  | some p => unF s r p.f (F.var (s.q.g.n + r.i)) (s.lem r.lo r.i false) (s.lem r.hi r.i true)
  | none => none
 else none
theorem lem_sz {s : Scp} {k : Nat} (hs : Lsz k s.lems) (hk : 1 ≤ k) (n unit : Int) (up : Bool) : Fits k ((s.lem n unit up).getD 0) := by
 unfold Scp.lem
 split
 ·split
  ·rename_i m hm
   split
   ·exact (hs.sz m (List.mem_of_getElem? hm)).fits hk
   ·exact fits_zero hk
  ·exact fits_zero hk
 ·exact fits_zero hk
theorem hfRwUn : Pg.funcs[104]? = some Tryz.f104 := by rw [Pg_eq]; rfl
theorem sRwUn (s : Scp) (r : Row) (hs : s.sz (2^28)) (hn1 : 1 ≤ s.q.g.n) (hn2 : s.q.g.n ≤ 256) (hul : s.q.g.us.length ≤ 1024) (hpl : ∀ a, a ∈ s.q.g.us → a.ts.length ≤ 2000) :
  SoundS 104 [sv s, rwv r] (.tup [fv ((s.fUn r).getD F.zero), .bool (fun _ => (s.fUn r).isSome)]) := by
 refine sound_fn hfRwUn rfl rfl rfl rfl rfl ?_
 have hno : ¬ (0 ≤ r.i ∧ r.i < s.q.g.us.length) → s.fUn r = none := fun h => if_neg h
 have hyes : ∀ p, 0 ≤ r.i → r.i < s.q.g.us.length → s.q.g.us[r.i.toNat]? = some p → s.fUn r = unF s r p.f (F.var (s.q.g.n + r.i)) (s.lem r.lo r.i false) (s.lem r.hi r.i true) := fun p h1 h2 h3 => by
  unfold Scp.fUn
  rw [if_pos ⟨h1, h2⟩, h3]
 obtain ⟨o, ho⟩ : ∃ o, o = s.fUn r := ⟨_, rfl⟩
 rw [← ho] at hno hyes ⊢
 obtain ⟨W, hW⟩ : ∃ W, W = fA (o.getD F.zero) := ⟨_, rfl⟩
 obtain ⟨b, hb⟩ : ∃ b, b = o.isSome := ⟨_, rfl⟩
 rw [show fv (o.getD F.zero) = av W by rw [hW], ← hb]
 have fin2 : ∀ f, o = some f → W = fA f ∧ b = true := fun f h => by rw [h] at hW hb; exact ⟨hW, hb⟩
 have fin1 : o = none → W = ⟨[], R0⟩ ∧ b = false := fun h => by
  rw [h] at hW hb
  exact ⟨hW.trans fA_zero, hb⟩
 clear hW hb ho
 obtain ⟨wt, w1, w2, w3⟩ := W
 have fin3 : o = none → wt = [] ∧ w1 = false ∧ w2 = [] ∧ w3 = [] ∧ b = false := fun h => by
  obtain ⟨h1, h2⟩ := fin1 h
  simp only [A.mk.injEq, R.mk.injEq] at h1
  exact ⟨h1.1, h1.2.1, h1.2.2.1, h1.2.2.2, h2⟩
 clear fin1
 by_cases hin : 0 ≤ r.i ∧ r.i < s.q.g.us.length
 rotate_left
 ·have hnn := hno hin
  have hin' : r.i < 0 ∨ (0 ≤ r.i ∧ (s.q.g.us.length : Int) ≤ r.i) := by omega
  obtain ⟨⟨⟨gn, us, os⟩, ⟨lo, hi, rows⟩, ⟨ts, c1, c2, c3⟩⟩, path, lems⟩ := s
  obtain ⟨k, i, rlo, rhi⟩ := r
  simp only at hin'
  clear hno hyes fin2 hin
  obtain ⟨g0, g1, g2, g3, g4⟩ := fin3 hnn
  subst g0 g1 g2 g3 g4
  cbv
  refine br_dec (fun e1 => ?_) (fun e1 => ?_)
  ·cbv
   (refine retC rfl ?_; cbv)
   exact ⟨⟨leS_nil rfl, leS_ff rfl, leS_nil rfl, leS_nil rfl, trivial⟩, leS_ff rfl, trivial⟩
  ·cbv
   refine cut_yes (by dsimp only at e1 ⊢; rw [enc_len]; (try dsimp only [ncast] at *); omega) ?_
   cbv
   (refine retC rfl ?_; cbv)
   exact ⟨⟨leS_nil rfl, leS_ff rfl, leS_nil rfl, leS_nil rfl, trivial⟩, leS_ff rfl, trivial⟩
 obtain ⟨hi0, hi1⟩ := hin
 obtain ⟨p, hp⟩ : ∃ p, s.q.g.us[r.i.toNat]? = some p := get_some (by omega)
 have ho := hyes p hi0 hi1 hp
 clear hno hyes
 have hps := hs.q.g.us.sz p (List.mem_of_getElem? hp)
 have hpn := hpl p (List.mem_of_getElem? hp)
 have cv := sRwVar (s.q.g.n + r.i)
 have cl := sRwLem s r.lo r.i false (hs.lems.mono (by decide))
 have cu := sRwLem s r.hi r.i true (hs.lems.mono (by decide))
 have fl := lem_sz hs.lems (by decide) r.lo r.i false
 have fu := lem_sz hs.lems (by decide) r.hi r.i true
 have hsp : Dsz (2^36) s.path := hs.path.mono (by decide)
 generalize s.lem r.lo r.i false = l at *
 generalize s.lem r.hi r.i true = u at *
 have fV : (F.var (s.q.g.n + r.i)).fit (2^28) := (var_fit _).mono (by decide)
 have con := sRwOn s r (fA (F.var (s.q.g.n + r.i))) p (ratR (l.getD 0)) (ratR (u.getD 0)) l.isSome u.isSome hsp (Nat.lt_of_le_of_lt (ratR_sz fl).n (by decide))
 have coff := sRwOff s r (fA (F.var (s.q.g.n + r.i))) p (ratR (l.getD 0)) (ratR (u.getD 0)) l.isSome u.isSome hsp (Nat.lt_of_le_of_lt (ratR_sz fu).n (by decide))
 rw [q_ratR] at con coff
 have cpl := sRwPlain r
 have fp : p.f.fit (2^28) := hps.fit (by decide)
 have lp : p.f.ts.length ≤ 2000 := by show (tq p.ts).length ≤ 2000; unfold tq; rw [List.length_map]; exact hpn
 unfold unF at ho
 generalize onB s r (l.getD 0) l.isSome = on at *
 generalize offB s r (u.getD 0) u.isSome = off at *
 generalize r.plain = pl at *
 have fA0 : fv (F.var (s.q.g.n + r.i)) = av (fA (F.var (s.q.g.n + r.i))) := rfl
 rw [fA0] at cv
 have fv1 : (fA (F.var (s.q.g.n + r.i))).f = F.var (s.q.g.n + r.i) := f_fA _
 have sV : (fA (F.var (s.q.g.n + r.i))).sz (2^28) := fV.fA
 have lv1 : (F.var (s.q.g.n + r.i)).ts.length = 1 := rfl
 generalize hVV : F.var (s.q.g.n + r.i) = V at *
 obtain ⟨V1, hV1⟩ : ∃ V1, fA V = V1 := ⟨_, rfl⟩
 rw [hV1] at cv con coff fv1 sV
 have idx : ∀ {K : List PV → Prop}, K (ac p) → IdxOk 4 (fun _ => enc ac s.q.g.us) (fun _ => r.i) K := fun hK => idx_enc (l := s.q.g.us) r.i.toNat (by omega) (by omega) ac_flat ac_len (fun m' hm' => by rw [hp] at hm'; cases hm'; exact hK)
 obtain ⟨⟨⟨gn, us, os⟩, ⟨lo, hi, rows⟩, ⟨ts, c1, c2, c3⟩⟩, path, lems⟩ := s
 obtain ⟨k, i, rlo, rhi⟩ := r
 simp only at hn1 hn2 hul hi0 hi1 idx ho
 have hk : k = 5 ∨ k = 6 ∨ k = 7 ∨ k = 8 ∨ k = 9 ∨ k = 10 ∨ k = 11 ∨ k = 12 ∨ k = 13 ∨ (k ≤ 4 ∨ 14 ≤ k) := by omega
 clear hs hpl hVV fA0 hp
 have hst : ∀ (Q : Prop), Q → Q := fun _ h => h
 generalize hlq : l.getD 0 = lq at *
 generalize huq : u.getD 0 = uq at *
 generalize hlb : l.isSome = lb at *
 generalize hub : u.isSome = ub at *
 generalize hLR : ratR lq = L at *
 generalize hUR : ratR uq = U at *
 cbv
 refine br_no (by dsimp only; omega) ?_
 cbv
 refine cut_no (by dsimp only; rw [enc_len]; omega) ?_
 cbv
 refine draw_mkP 16 [2, 3, 4, 6] [2, 3, 4, 6] rfl (by cbv) (by cbv) ?_
 cbv
 refine ⟨in64_of (by (try dsimp only [ncast] at *); omega) (by (try dsimp only [ncast] at *); omega), ?_⟩
 cbv
 refine callS_d okA (cv) rfl ?_
 cbv
 refine idx ?_
 cbv
 refine callP [2, 3, 4, 7, 40, 42, 44] [2, 3, 4, 7] rfl rfl okA (cl) rfl ?_
 cbv
 refine callP [2, 3, 4, 7, 51, 53, 55] [2, 3, 4, 7] rfl rfl okA (cu) rfl ?_
 cbv
 clear cl cu cv idx
 rcases hk with rfl | rfl | rfl | rfl | rfl | rfl | rfl | rfl | rfl | hk
 ·as_aux_lemma =>
   rw [if_pos rfl] at ho
   have ho2 := fun h : pl = true => fin2 V (by rw [ho, if_pos h])
   have ho3 : pl = false → o = none := fun h => by rw [ho, h]; rfl
   clear ho fin2
   refine br_yes (by simp) ?_
   cbv
   refine callS' rfl okA (cpl) rfl ?_
   cbv
   refine cut_bool (fun e => ?_) (fun e => ?_)
   ·cbv
    obtain ⟨g1, g2⟩ := ho2 e
    cases g1.trans hV1
    subst g2
    (refine retC rfl ?_; cbv)
    exact ⟨⟨leS_refl _, leS_refl _, leS_refl _, leS_refl _, trivial⟩, leS_tt rfl, trivial⟩
   ·cbv
    refine br_no (by simp) ?_
    cbv
    refine br_no (by simp) ?_
    cbv
    refine br_no (by simp) ?_
    cbv
    refine br_no (by simp) ?_
    cbv
    refine br_no (by simp) ?_
    cbv
    refine br_no (by simp) ?_
    cbv
    refine br_no (by simp) ?_
    cbv
    refine br_no (by simp) ?_
    cbv
    obtain ⟨g0, g1, g2, g3, g4⟩ := fin3 (ho3 e)
    subst g0 g1 g2 g3 g4
    (refine retC rfl ?_; cbv)
    exact ⟨⟨leS_nil rfl, leS_ff rfl, leS_nil rfl, leS_nil rfl, trivial⟩, leS_ff rfl, trivial⟩
 ·as_aux_lemma =>
   rw [if_neg (by decide), if_pos rfl] at ho
   have cs := sLnSub V1 p (sV.mono (by decide)) (hps.mono (by decide))
   rw [fv1] at cs
   dsimp only [fv] at cs
   have ho2 := fun h : pl = true => fin2 (V.sub p.f) (by rw [ho, if_pos h])
   have ho3 : pl = false → o = none := fun h => by rw [ho, h]; rfl
   clear ho fin2
   generalize fA (V.sub p.f) = X at *
   refine br_no (by simp) ?_
   cbv
   refine br_yes (by simp) ?_
   cbv
   refine callS' rfl okA (cpl) rfl ?_
   cbv
   refine cut_bool (fun e => ?_) (fun e => ?_)
   ·cbv
    obtain ⟨g1, g2⟩ := ho2 e
    cases g1
    subst g2
    refine callS' rfl okA (cs) rfl ?_
    cbv
    (refine retC rfl ?_; cbv)
    exact ⟨⟨leS_refl _, leS_refl _, leS_refl _, leS_refl _, trivial⟩, leS_tt rfl, trivial⟩
   ·cbv
    refine br_no (by simp) ?_
    cbv
    refine br_no (by simp) ?_
    cbv
    refine br_no (by simp) ?_
    cbv
    refine br_no (by simp) ?_
    cbv
    refine br_no (by simp) ?_
    cbv
    refine br_no (by simp) ?_
    cbv
    refine br_no (by simp) ?_
    cbv
    obtain ⟨g0, g1, g2, g3, g4⟩ := fin3 (ho3 e)
    subst g0 g1 g2 g3 g4
    (refine retC rfl ?_; cbv)
    exact ⟨⟨leS_nil rfl, leS_ff rfl, leS_nil rfl, leS_nil rfl, trivial⟩, leS_ff rfl, trivial⟩
 ·as_aux_lemma =>
   rw [if_neg (by decide), if_neg (by decide), if_pos rfl] at ho
   have cs := sLnAdd p ⟨[], R0⟩ (hps.mono (by decide)) ⟨⟨by decide, fun _ h => absurd h (by simp)⟩, ⟨by decide, by decide⟩⟩
   rw [show A.f ⟨[], R0⟩ = F.zero by rw [← fA_zero, f_fA]] at cs
   dsimp only [fv] at cs
   have ho2 := fun h : on = true => fin2 (p.f.add F.zero) (by rw [ho, if_pos h])
   have ho3 : on = false → o = none := fun h => by rw [ho, h]; rfl
   clear ho fin2
   generalize fA (p.f.add F.zero) = X at *
   refine br_no (by simp) ?_
   cbv
   refine br_no (by simp) ?_
   cbv
   refine br_yes (by simp) ?_
   cbv
   refine callS' rfl okA (con) rfl ?_
   cbv
   refine cut_bool (fun e => ?_) (fun e => ?_)
   ·cbv
    obtain ⟨g1, g2⟩ := ho2 e
    cases g1
    subst g2
    refine callS' rfl (by exact ⟨⟨leS_refl _, leS_refl _, leS_refl _, leS_refl _, trivial⟩, ⟨leS_nil rfl, leS_ff rfl, leS_nil rfl, leS_nil rfl, trivial⟩, trivial⟩) cs rfl ?_
    cbv
    (refine retC rfl ?_; cbv)
    exact ⟨⟨leS_refl _, leS_refl _, leS_refl _, leS_refl _, trivial⟩, leS_tt rfl, trivial⟩
   ·cbv
    refine br_no (by simp) ?_
    cbv
    refine br_no (by simp) ?_
    cbv
    refine br_no (by simp) ?_
    cbv
    refine br_no (by simp) ?_
    cbv
    refine br_no (by simp) ?_
    cbv
    refine br_no (by simp) ?_
    cbv
    obtain ⟨g0, g1, g2, g3, g4⟩ := fin3 (ho3 e)
    subst g0 g1 g2 g3 g4
    (refine retC rfl ?_; cbv)
    exact ⟨⟨leS_nil rfl, leS_ff rfl, leS_nil rfl, leS_nil rfl, trivial⟩, leS_ff rfl, trivial⟩
 ·as_aux_lemma =>
   rw [if_neg (by decide), if_neg (by decide), if_neg (by decide), if_pos rfl] at ho
   have cs := sLnSub p V1 (hps.mono (by decide)) (sV.mono (by decide))
   rw [fv1] at cs
   dsimp only [fv] at cs
   have ho2 := fun h : on = true => fin2 (p.f.sub V) (by rw [ho, if_pos h])
   have ho3 : on = false → o = none := fun h => by rw [ho, h]; rfl
   clear ho fin2
   generalize fA (p.f.sub V) = X at *
   refine br_no (by simp) ?_
   cbv
   refine br_no (by simp) ?_
   cbv
   refine br_no (by simp) ?_
   cbv
   refine br_yes (by simp) ?_
   cbv
   refine callS' rfl okA (con) rfl ?_
   cbv
   refine cut_bool (fun e => ?_) (fun e => ?_)
   ·cbv
    obtain ⟨g1, g2⟩ := ho2 e
    cases g1
    subst g2
    refine callS' rfl okA (cs) rfl ?_
    cbv
    (refine retC rfl ?_; cbv)
    exact ⟨⟨leS_refl _, leS_refl _, leS_refl _, leS_refl _, trivial⟩, leS_tt rfl, trivial⟩
   ·cbv
    refine br_no (by simp) ?_
    cbv
    refine br_no (by simp) ?_
    cbv
    refine br_no (by simp) ?_
    cbv
    refine br_no (by simp) ?_
    cbv
    refine br_no (by simp) ?_
    cbv
    obtain ⟨g0, g1, g2, g3, g4⟩ := fin3 (ho3 e)
    subst g0 g1 g2 g3 g4
    (refine retC rfl ?_; cbv)
    exact ⟨⟨leS_nil rfl, leS_ff rfl, leS_nil rfl, leS_nil rfl, trivial⟩, leS_ff rfl, trivial⟩
 ·as_aux_lemma =>
   rw [if_neg (by decide), if_neg (by decide), if_neg (by decide), if_neg (by decide), if_pos rfl] at ho
   have cs := sRwMinus p (hps.mono (by decide))
   dsimp only [fv] at cs
   have ho2 := fun h : off = true => fin2 (p.f.scale (-1)) (by rw [ho, if_pos h])
   have ho3 : off = false → o = none := fun h => by rw [ho, h]; rfl
   clear ho fin2
   generalize fA (p.f.scale (-1)) = X at *
   refine br_no (by simp) ?_
   cbv
   refine br_no (by simp) ?_
   cbv
   refine br_no (by simp) ?_
   cbv
   refine br_no (by simp) ?_
   cbv
   refine br_yes (by simp) ?_
   cbv
   refine callS' rfl okA (coff) rfl ?_
   cbv
   refine cut_bool (fun e => ?_) (fun e => ?_)
   ·cbv
    obtain ⟨g1, g2⟩ := ho2 e
    cases g1
    subst g2
    refine callS' rfl okA (cs) rfl ?_
    cbv
    (refine retC rfl ?_; cbv)
    exact ⟨⟨leS_refl _, leS_refl _, leS_refl _, leS_refl _, trivial⟩, leS_tt rfl, trivial⟩
   ·cbv
    refine br_no (by simp) ?_
    cbv
    refine br_no (by simp) ?_
    cbv
    refine br_no (by simp) ?_
    cbv
    refine br_no (by simp) ?_
    cbv
    obtain ⟨g0, g1, g2, g3, g4⟩ := fin3 (ho3 e)
    subst g0 g1 g2 g3 g4
    (refine retC rfl ?_; cbv)
    exact ⟨⟨leS_nil rfl, leS_ff rfl, leS_nil rfl, leS_nil rfl, trivial⟩, leS_ff rfl, trivial⟩
 ·as_aux_lemma =>
   rw [if_neg (by decide), if_neg (by decide), if_neg (by decide), if_neg (by decide), if_neg (by decide), if_pos rfl] at ho
   have cs := sRwMinus V1 (sV.mono (by decide))
   rw [fv1] at cs
   dsimp only [fv] at cs
   have ho2 := fun h : off = true => fin2 (V.scale (-1)) (by rw [ho, if_pos h])
   have ho3 : off = false → o = none := fun h => by rw [ho, h]; rfl
   clear ho fin2
   generalize fA (V.scale (-1)) = X at *
   refine br_no (by simp) ?_
   cbv
   refine br_no (by simp) ?_
   cbv
   refine br_no (by simp) ?_
   cbv
   refine br_no (by simp) ?_
   cbv
   refine br_no (by simp) ?_
   cbv
   refine br_yes (by simp) ?_
   cbv
   refine callS' rfl okA (coff) rfl ?_
   cbv
   refine cut_bool (fun e => ?_) (fun e => ?_)
   ·cbv
    obtain ⟨g1, g2⟩ := ho2 e
    cases g1
    subst g2
    refine callS' rfl okA (cs) rfl ?_
    cbv
    (refine retC rfl ?_; cbv)
    exact ⟨⟨leS_refl _, leS_refl _, leS_refl _, leS_refl _, trivial⟩, leS_tt rfl, trivial⟩
   ·cbv
    refine br_no (by simp) ?_
    cbv
    refine br_no (by simp) ?_
    cbv
    refine br_no (by simp) ?_
    cbv
    obtain ⟨g0, g1, g2, g3, g4⟩ := fin3 (ho3 e)
    subst g0 g1 g2 g3 g4
    (refine retC rfl ?_; cbv)
    exact ⟨⟨leS_nil rfl, leS_ff rfl, leS_nil rfl, leS_nil rfl, trivial⟩, leS_ff rfl, trivial⟩
 ·as_aux_lemma =>
   rw [if_neg (by decide), if_neg (by decide), if_neg (by decide), if_neg (by decide), if_neg (by decide), if_neg (by decide), if_pos rfl] at ho
   have cn := sRwNum L (by rw [← hLR]; exact (ratR_sz fl).mono (by decide))
   have e0 : L.q = lq := by rw [← hLR, q_ratR]
   rw [e0] at cn
   have cs := sLnSub p (fA (F.num lq)) (hps.mono (by decide)) ((num_fit fl).fA.mono (by decide))
   rw [f_fA] at cs
   have ho2 := fun (h : lb = true) (h2 : rhi = 0) => fin2 (p.f.sub (F.num lq)) (by rw [ho, if_pos ⟨h, h2⟩])
   have ho3 : lb = false → o = none := fun h => by rw [ho, if_neg (fun g => absurd (g.1.symm.trans h) (by decide))]
   have ho4 : ¬ rhi = 0 → o = none := fun h => by rw [ho, if_neg (fun g => h g.2)]
   clear ho fin2
   dsimp only [fv] at cs cn
   generalize fA (p.f.sub (F.num lq)) = X at *
   generalize fA (F.num lq) = Y at *
   refine br_no (by simp) ?_
   cbv
   refine br_no (by simp) ?_
   cbv
   refine br_no (by simp) ?_
   cbv
   refine br_no (by simp) ?_
   cbv
   refine br_no (by simp) ?_
   cbv
   refine br_no (by simp) ?_
   cbv
   refine br_yes (by simp) ?_
   cbv
   refine br_bool (fun e => ?_) (fun e => ?_)
   ·rw [e]
    cbv
    refine cut_dec (fun e2 => ?_) (fun e2 => ?_)
    ·cbv
     obtain ⟨g1, g2⟩ := ho2 e e2
     cases g1
     subst g2
     refine draw_of 6 (by cbv) ?_
     cbv
     refine callS_d okA (cn) rfl ?_
     cbv
     refine callS_d okA (cs) rfl ?_
     cbv
     (refine retC rfl ?_; cbv)
     exact ⟨⟨leS_refl _, leS_refl _, leS_refl _, leS_refl _, trivial⟩, leS_tt rfl, trivial⟩
    ·cbv
     refine br_no (by simp) ?_
     cbv
     refine br_no (by simp) ?_
     cbv
     obtain ⟨g0, g1, g2, g3, g4⟩ := fin3 (ho4 e2)
     subst g0 g1 g2 g3 g4
     (refine retC rfl ?_; cbv)
     exact ⟨⟨leS_nil rfl, leS_ff rfl, leS_nil rfl, leS_nil rfl, trivial⟩, leS_ff rfl, trivial⟩
   ·rw [e]
    cbv
    refine br_no (by simp) ?_
    cbv
    refine br_no (by simp) ?_
    cbv
    obtain ⟨g0, g1, g2, g3, g4⟩ := fin3 (ho3 e)
    subst g0 g1 g2 g3 g4
    (refine retC rfl ?_; cbv)
    exact ⟨⟨leS_nil rfl, leS_ff rfl, leS_nil rfl, leS_nil rfl, trivial⟩, leS_ff rfl, trivial⟩
 ·as_aux_lemma =>
   rw [if_neg (by decide), if_neg (by decide), if_neg (by decide), if_neg (by decide), if_neg (by decide), if_neg (by decide), if_neg (by decide), if_pos rfl] at ho
   have cn := sRwNum U (by rw [← hUR]; exact (ratR_sz fu).mono (by decide))
   have e0 : U.q = uq := by rw [← hUR, q_ratR]
   rw [e0] at cn
   have cs := sLnSub (fA (F.num uq)) p ((num_fit fu).fA.mono (by decide)) (hps.mono (by decide))
   rw [f_fA] at cs
   have ho2 := fun (h : ub = true) (h2 : rlo = 0) => fin2 ((F.num uq).sub p.f) (by rw [ho, if_pos ⟨h, h2⟩])
   have ho3 : ub = false → o = none := fun h => by rw [ho, if_neg (fun g => absurd (g.1.symm.trans h) (by decide))]
   have ho4 : ¬ rlo = 0 → o = none := fun h => by rw [ho, if_neg (fun g => h g.2)]
   clear ho fin2
   dsimp only [fv] at cs cn
   generalize fA ((F.num uq).sub p.f) = X at *
   generalize fA (F.num uq) = Y at *
   refine br_no (by simp) ?_
   cbv
   refine br_no (by simp) ?_
   cbv
   refine br_no (by simp) ?_
   cbv
   refine br_no (by simp) ?_
   cbv
   refine br_no (by simp) ?_
   cbv
   refine br_no (by simp) ?_
   cbv
   refine br_no (by simp) ?_
   cbv
   refine br_yes (by simp) ?_
   cbv
   refine br_bool (fun e => ?_) (fun e => ?_)
   ·rw [e]
    cbv
    refine cut_dec (fun e2 => ?_) (fun e2 => ?_)
    ·cbv
     obtain ⟨g1, g2⟩ := ho2 e e2
     cases g1
     subst g2
     refine draw_of 6 (by cbv) ?_
     cbv
     refine callS_d okA (cn) rfl ?_
     cbv
     refine callS_d okA (cs) rfl ?_
     cbv
     (refine retC rfl ?_; cbv)
     exact ⟨⟨leS_refl _, leS_refl _, leS_refl _, leS_refl _, trivial⟩, leS_tt rfl, trivial⟩
    ·cbv
     refine br_no (by simp) ?_
     cbv
     obtain ⟨g0, g1, g2, g3, g4⟩ := fin3 (ho4 e2)
     subst g0 g1 g2 g3 g4
     (refine retC rfl ?_; cbv)
     exact ⟨⟨leS_nil rfl, leS_ff rfl, leS_nil rfl, leS_nil rfl, trivial⟩, leS_ff rfl, trivial⟩
   ·rw [e]
    cbv
    refine br_no (by simp) ?_
    cbv
    obtain ⟨g0, g1, g2, g3, g4⟩ := fin3 (ho3 e)
    subst g0 g1 g2 g3 g4
    (refine retC rfl ?_; cbv)
    exact ⟨⟨leS_nil rfl, leS_ff rfl, leS_nil rfl, leS_nil rfl, trivial⟩, leS_ff rfl, trivial⟩
 ·as_aux_lemma =>
   rw [if_neg (by decide), if_neg (by decide), if_neg (by decide), if_neg (by decide), if_neg (by decide), if_neg (by decide), if_neg (by decide), if_neg (by decide), if_pos rfl] at ho
   have cn := sRwNum L (by rw [← hLR]; exact (ratR_sz fl).mono (by decide))
   have e0 : L.q = lq := by rw [← hLR, q_ratR]
   have e0' : U.q = uq := by rw [← hUR, q_ratR]
   have sL : L.sz (2^28) := by rw [← hLR]; exact ratR_sz fl
   have sU : U.sz (2^28) := by rw [← hUR]; exact ratR_sz fu
   have csl := s86 L (by have := sL.n; omega)
   have csu := s86 U (by have := sU.n; omega)
   have cd := s176 U L (sU.mono (by decide)) (sL.mono (by decide))
   rw [e0] at cn csl cd
   rw [e0'] at csu cd
   have cs := sLnSub p (fA (F.num lq)) (hps.mono (by decide)) ((num_fit fl).fA.mono (by decide))
   rw [f_fA] at cs
   have f1 : (p.f.sub (F.num lq)).fit (2^29 + 2) := (sub_fit fp (num_fit fl) (by show p.f.ts.length + 0 < 2^38; omega)).mono (by decide)
   have l1' := sub_len p.f (F.num lq)
   have cc := sLnScale (fA (p.f.sub (F.num lq))) U (f1.fA.mono (by decide)) (sU.mono (by decide))
   rw [f_fA, e0'] at cc
   have f2 : ((p.f.sub (F.num lq)).scale uq).fit (2^31) := (scale_fit f1 fu (by decide)).mono (by decide)
   have l2' := scale_len (p.f.sub (F.num lq)) uq
   have f3 := fits_sub fu fl
   have c4 := sLnScale V1 (ratR (uq - lq)) (sV.mono (by decide)) ((ratR_sz f3).mono (by decide))
   rw [fv1, q_ratR] at c4
   have f5 : (V.scale (uq - lq)).fit (2^31) := (scale_fit (by rw [← fv1]; exact sV.fit (by decide)) f3 (by decide)).mono (by decide)
   have c5 := sLnSub (fA ((p.f.sub (F.num lq)).scale uq)) (fA (V.scale (uq - lq))) (f2.fA.mono (by decide)) (f5.fA.mono (by decide))
   rw [f_fA, f_fA] at c5
   have ho2 := fun (h : lb = true) (h2 : ub = true) (h3 : sgnQ lq < 0) (h4 : 0 < sgnQ uq) => fin2 (((p.f.sub (F.num lq)).scale uq).sub (V.scale (uq - lq))) (by rw [ho, if_pos ⟨h, h2, h3, h4⟩])
   have ho3 : lb = false → o = none := fun h => by rw [ho, if_neg (fun g => absurd (g.1.symm.trans h) (by decide))]
   have ho4 : ub = false → o = none := fun h => by rw [ho, if_neg (fun g => absurd (g.2.1.symm.trans h) (by decide))]
   have ho5 : ¬ sgnQ lq < 0 → o = none := fun h => by rw [ho, if_neg (fun g => h g.2.2.1)]
   have ho6 : ¬ 0 < sgnQ uq → o = none := fun h => by rw [ho, if_neg (fun g => h g.2.2.2)]
   clear ho fin2 f1 f2 f3 f5 l1' l2' e0 e0' sL sU hLR hUR
   dsimp only [fv] at cs cn cc c4 c5
   generalize sgnQ lq = sl at *
   generalize sgnQ uq = su at *
   generalize fA (((p.f.sub (F.num lq)).scale uq).sub (V.scale (uq - lq))) = X at *
   generalize fA ((p.f.sub (F.num lq)).scale uq) = Y at *
   generalize fA (V.scale (uq - lq)) = Z at *
   generalize fA (p.f.sub (F.num lq)) = T at *
   generalize fA (F.num lq) = M at *
   generalize ratR (uq - lq) = D at *
   refine br_no (by simp) ?_
   cbv
   refine br_no (by simp) ?_
   cbv
   refine br_no (by simp) ?_
   cbv
   refine br_no (by simp) ?_
   cbv
   refine br_no (by simp) ?_
   cbv
   refine br_no (by simp) ?_
   cbv
   refine br_no (by simp) ?_
   cbv
   refine br_no (by simp) ?_
   cbv
   refine br_yes (by simp) ?_
   cbv
   refine br_bool (fun e => ?_) (fun e => ?_)
   ·rw [e]
    cbv
    refine br_bool (fun e1 => ?_) (fun e1 => ?_)
    ·rw [e1]
     cbv
     refine callS' rfl okA (csl) rfl ?_
     cbv
     refine br_dec (fun e2 => ?_) (fun e2 => ?_)
     ·cbv
      refine callS' rfl okA (csu) rfl ?_
      cbv
      refine cut_dec (fun e3 => ?_) (fun e3 => ?_)
      ·cbv
       obtain ⟨g1, g2⟩ := ho2 e e1 e2 e3
       cases g1
       subst g2
       refine draw_mk 10 (by cbv) (by cbv) ?_
       cbv
       refine callS_d okA (cn) rfl ?_
       cbv
       refine callS_d okA (cs) rfl ?_
       cbv
       refine callS_d okA (cc) rfl ?_
       cbv
       refine draw_of 10 (by cbv) ?_
       cbv
       refine callS_d okA (cd) rfl ?_
       cbv
       refine callS_d okA (c4) rfl ?_
       cbv
       refine callS_d okA (c5) rfl ?_
       cbv
       (refine retC rfl ?_; cbv)
       exact ⟨⟨leS_refl _, leS_refl _, leS_refl _, leS_refl _, trivial⟩, leS_tt rfl, trivial⟩
      ·cbv
       obtain ⟨g0, g1, g2, g3, g4⟩ := fin3 (ho6 e3)
       subst g0 g1 g2 g3 g4
       (refine retC rfl ?_; cbv)
       exact ⟨⟨leS_nil rfl, leS_ff rfl, leS_nil rfl, leS_nil rfl, trivial⟩, leS_ff rfl, trivial⟩
     ·cbv
      obtain ⟨g0, g1, g2, g3, g4⟩ := fin3 (ho5 e2)
      subst g0 g1 g2 g3 g4
      (refine retC rfl ?_; cbv)
      exact ⟨⟨leS_nil rfl, leS_ff rfl, leS_nil rfl, leS_nil rfl, trivial⟩, leS_ff rfl, trivial⟩
    ·rw [e1]
     cbv
     obtain ⟨g0, g1, g2, g3, g4⟩ := fin3 (ho4 e1)
     subst g0 g1 g2 g3 g4
     (refine retC rfl ?_; cbv)
     exact ⟨⟨leS_nil rfl, leS_ff rfl, leS_nil rfl, leS_nil rfl, trivial⟩, leS_ff rfl, trivial⟩
   ·rw [e]
    cbv
    obtain ⟨g0, g1, g2, g3, g4⟩ := fin3 (ho3 e)
    subst g0 g1 g2 g3 g4
    (refine retC rfl ?_; cbv)
    exact ⟨⟨leS_nil rfl, leS_ff rfl, leS_nil rfl, leS_nil rfl, trivial⟩, leS_ff rfl, trivial⟩
 ·as_aux_lemma =>
   rw [if_neg (by omega), if_neg (by omega), if_neg (by omega), if_neg (by omega), if_neg (by omega), if_neg (by omega), if_neg (by omega), if_neg (by omega), if_neg (by omega)] at ho
   refine br_no (by dsimp only; omega) ?_
   cbv
   refine br_no (by dsimp only; omega) ?_
   cbv
   refine br_no (by dsimp only; omega) ?_
   cbv
   refine br_no (by dsimp only; omega) ?_
   cbv
   refine br_no (by dsimp only; omega) ?_
   cbv
   refine br_no (by dsimp only; omega) ?_
   cbv
   refine br_no (by dsimp only; omega) ?_
   cbv
   refine br_no (by dsimp only; omega) ?_
   cbv
   refine br_no (by dsimp only; omega) ?_
   cbv
   obtain ⟨g0, g1, g2, g3, g4⟩ := fin3 (ho)
   subst g0 g1 g2 g3 g4
   (refine retC rfl ?_; cbv)
   exact ⟨⟨leS_nil rfl, leS_ff rfl, leS_nil rfl, leS_nil rfl, trivial⟩, leS_ff rfl, trivial⟩
end Go.Proofs.YtcanljninhfmhaaGreat
