/- A part of the proof: HfA, VaA, RwA. -/
import Derived.Test.YtcanljninhfmhaaGreatS28
set_option linter.all false
namespace Go.Proofs.YtcanljninhfmhaaGreat
open Go
set_option linter.unusedVariables false
set_option maxRecDepth 100000
set_option maxHeartbeats 1000000
theorem hfIdxA : Pg.funcs[190]? = some Tryz.f190 := by rw [Pg_eq]; rfl
theorem sIdxA (P : A → Bool) (l : List A) (hl : l.length < 2^40) (g : FuncId) (caps : List PV) (hg : ∀ a, a ∈ l → SoundS g (.agg (ac a) :: caps) (.bool (fun _ => P a))) :
  SoundS 190 [.sl (fun _ => enc ac l), .fn g caps] (.int .i64 (fun _ => idxF P l)) := by
 refine sound_fn hfIdxA rfl rfl rfl rfl rfl ?_
 generalize hr : idxF P l = r
 cbv
 refine loop_n (σ := Nat) (fun i => ⟨[(0, .sl (fun _ => enc ac l)), (1, .fn g caps), (7, .int .i64 (fun _ => (l.length : Int))), (8, .int .i64 (fun _ => (i : Int)))], []⟩)
  (fun i => i ≤ l.length ∧ r = (if idxF P (l.drop i) < 0 then -1 else idxF P (l.drop i) + i)) (fun i => l.length - i) 0 ⟨om, ?_⟩ (.le ?_ ?_ rfl) ?_
 ·rw [List.drop_zero, hr]
  have := idxF_ge P l
  rw [hr] at this
  split <;> omega
 ·cbv
  exact ⟨leS_refl _, (by cases caps <;> first | trivial | exact ⟨les_refl.les1_refl _, les1L_refl _⟩), leS_int (by (try dsimp only [ncast] at *); rw [enc_len]), leS_refl _, trivial⟩
 ·cbv
 intro i hs
 obtain ⟨h1, h2⟩ := hs
 cbv
 refine cut_dec (fun h5 => ?_) (fun h5 => ?_)
 ·cbv
  refine idx_enc (l := l) i om om ac_flat ac_len (fun t ht => ?_)
  have hc := hg t (List.mem_of_getElem? ht)
  rw [drop_of_get ht, show idxF P (t :: l.drop (i + 1)) = if P t then 0 else if idxF P (l.drop (i + 1)) < 0 then -1 else idxF P (l.drop (i + 1)) + 1 from rfl] at h2
  have hge := idxF_ge P (l.drop (i + 1))
  generalize P t = p at *
  generalize hk : idxF P (l.drop (i + 1)) = k at *
  cbv
  refine callS' rfl (by exact ⟨les_refl _, lesL_refl caps⟩) hc rfl ?_
  cbv
  refine cut_bool (fun h6 => ?_) (fun h6 => ?_)
  ·subst h6
   cbv
   (refine retC rfl ?_; cbv)
   exact leS_int (by (try dsimp only [ncast] at *); simp at h2; omega)
  ·subst h6
   cbv
   refine ⟨in64_of om om, i + 1, ⟨om, ?_⟩, om, .le ?_ ?_ rfl⟩
   ·(try dsimp only [ncast] at *)
    simp only [Bool.false_eq_true, if_false] at h2
    rw [hk, h2]
    split <;> split <;> omega
   ·cbv
    exact ⟨leS_refl _, (by cases caps <;> first | trivial | exact ⟨les_refl.les1_refl _, les1L_refl _⟩), leS_refl _, leS_int om, trivial⟩
   ·cbv
 ·have : i = l.length := om
  rw [this, List.drop_length] at h2
  cbv
  (refine retC rfl ?_; cbv)
  exact leS_int (by rw [h2]; simp [idxF])
theorem hfHasA : Pg.funcs[164]? = some Tryz.f164 := by rw [Pg_eq]; rfl
theorem sHasA (P : A → Bool) (l : List A) (hl : l.length < 2^40) (g : FuncId) (caps : List PV) (hg : ∀ a, a ∈ l → SoundS g (.agg (ac a) :: caps) (.bool (fun _ => P a))) :
  SoundS 164 [.sl (fun _ => enc ac l), .fn g caps] (.bool (fun _ => l.any P)) := by
 refine sound_fn hfHasA rfl rfl rfl rfl rfl ?_
 have hc := sIdxA P l hl g caps hg
 rw [← idxF_any]
 generalize idxF P l = k at *
 cbv
 refine callS' rfl (by exact ⟨leS_refl _, ⟨nqb_self g, les1L_refl caps⟩, trivial⟩) hc rfl ?_
 cbv
 (refine retC rfl ?_; cbv)
 exact leS_refl _
theorem hfIdxD : Pg.funcs[117]? = some Tryz.f117 := by rw [Pg_eq]; rfl
theorem sIdxD (P : Dec → Bool) (l : List Dec) (hl : l.length < 2^40) (g : FuncId) (caps : List PV) (hg : ∀ a, a ∈ l → SoundS g (.agg (dc a) :: caps) (.bool (fun _ => P a))) :
  SoundS 117 [.sl (fun _ => enc dc l), .fn g caps] (.int .i64 (fun _ => idxF P l)) := by
 refine sound_fn hfIdxD rfl rfl rfl rfl rfl ?_
 generalize hr : idxF P l = r
 cbv
 refine loop_n (σ := Nat) (fun i => ⟨[(0, .sl (fun _ => enc dc l)), (1, .fn g caps), (7, .int .i64 (fun _ => (l.length : Int))), (8, .int .i64 (fun _ => (i : Int)))], []⟩)
  (fun i => i ≤ l.length ∧ r = (if idxF P (l.drop i) < 0 then -1 else idxF P (l.drop i) + i)) (fun i => l.length - i) 0 ⟨om, ?_⟩ (.le ?_ ?_ rfl) ?_
 ·rw [List.drop_zero, hr]
  have := idxF_ge P l
  rw [hr] at this
  split <;> omega
 ·cbv
  exact ⟨leS_refl _, (by cases caps <;> first | trivial | exact ⟨les_refl.les1_refl _, les1L_refl _⟩), leS_int (by (try dsimp only [ncast] at *); rw [enc_len]), leS_refl _, trivial⟩
 ·cbv
 intro i hs
 obtain ⟨h1, h2⟩ := hs
 cbv
 refine cut_dec (fun h5 => ?_) (fun h5 => ?_)
 ·cbv
  refine idx_enc (l := l) i om om dc_flat dc_len (fun t ht => ?_)
  have hc := hg t (List.mem_of_getElem? ht)
  rw [drop_of_get ht, show idxF P (t :: l.drop (i + 1)) = if P t then 0 else if idxF P (l.drop (i + 1)) < 0 then -1 else idxF P (l.drop (i + 1)) + 1 from rfl] at h2
  have hge := idxF_ge P (l.drop (i + 1))
  generalize P t = p at *
  generalize hk : idxF P (l.drop (i + 1)) = k at *
  cbv
  refine callS' rfl (by exact ⟨les_refl _, lesL_refl caps⟩) hc rfl ?_
  cbv
  refine cut_bool (fun h6 => ?_) (fun h6 => ?_)
  ·subst h6
   cbv
   (refine retC rfl ?_; cbv)
   exact leS_int (by (try dsimp only [ncast] at *); simp at h2; omega)
  ·subst h6
   cbv
   refine ⟨in64_of om om, i + 1, ⟨om, ?_⟩, om, .le ?_ ?_ rfl⟩
   ·(try dsimp only [ncast] at *)
    simp only [Bool.false_eq_true, if_false] at h2
    rw [hk, h2]
    split <;> split <;> omega
   ·cbv
    exact ⟨leS_refl _, (by cases caps <;> first | trivial | exact ⟨les_refl.les1_refl _, les1L_refl _⟩), leS_refl _, leS_int om, trivial⟩
   ·cbv
 ·have : i = l.length := om
  rw [this, List.drop_length] at h2
  cbv
  (refine retC rfl ?_; cbv)
  exact leS_int (by rw [h2]; simp [idxF])
theorem hfHasD : Pg.funcs[66]? = some Tryz.f66 := by rw [Pg_eq]; rfl
theorem sHasD (P : Dec → Bool) (l : List Dec) (hl : l.length < 2^40) (g : FuncId) (caps : List PV) (hg : ∀ a, a ∈ l → SoundS g (.agg (dc a) :: caps) (.bool (fun _ => P a))) :
  SoundS 66 [.sl (fun _ => enc dc l), .fn g caps] (.bool (fun _ => l.any P)) := by
 refine sound_fn hfHasD rfl rfl rfl rfl rfl ?_
 have hc := sIdxD P l hl g caps hg
 rw [← idxF_any]
 generalize idxF P l = k at *
 cbv
 refine callS' rfl (by exact ⟨leS_refl _, ⟨nqb_self g, les1L_refl caps⟩, trivial⟩) hc rfl ?_
 cbv
 (refine retC rfl ?_; cbv)
 exact leS_refl _
end Go.Proofs.YtcanljninhfmhaaGreat

namespace Go.Proofs.YtcanljninhfmhaaGreat
open Go
set_option linter.unusedVariables false
set_option maxRecDepth 100000
set_option maxHeartbeats 1000000
theorem hfGrC : Pg.funcs[188]? = some Tryz.f188 := by rw [Pg_eq]; rfl
theorem sGrC (a : A) (vars : Int) (ha : a.sz (2^36)) : SoundS 188 [.agg (ac a), .dptr [.int .i64 (fun _ => vars)] 0] (.bool (fun _ => !a.valid vars)) := by
 refine sound_fn hfGrC rfl rfl rfl rfl rfl ?_
 have c1 := sLnValid a vars ha
 generalize a.valid vars = r at *
 obtain ⟨ts, c1', c2, c3⟩ := a
 cbv
 refine callS' rfl okA (c1) rfl ?_
 cbv
 (refine retC rfl ?_; cbv)
 exact leS_nbool rfl
theorem all_any {α : Type} (p : α → Bool) (l : List α) : l.all p = !(l.any fun a => !(p a)) := by
 induction l with
 | nil => rfl
 | cons a r ih => simp only [List.all_cons, List.any_cons, ih, Bool.not_or, Bool.not_not]
theorem hfGrV : Pg.funcs[162]? = some Tryz.f162 := by rw [Pg_eq]; rfl
theorem sGrV (l : List A) (vars : Int) (hl : Asz (2^36) l) : SoundS 162 [alv l, .int .i64 (fun _ => vars)] (.bool (fun _ => l.all (A.valid vars))) := by
 refine sound_fn hfGrV rfl rfl rfl rfl rfl ?_
 have c1 := sHasA (fun a => !(a.valid vars)) l (Nat.lt_trans hl.len (by decide)) 188 [.dptr [.int .i64 (fun _ => vars)] 0] (fun a ha => sGrC a vars (hl.sz a ha))
 rw [all_any]
 generalize (l.any fun a => !(a.valid vars)) = r at *
 cbv
 refine callW (.frz 3 rfl rfl (by repeat' first | exact trivial | apply And.intro) (by repeat' first | exact trivial | apply And.intro)) rfl (by exact ⟨leS_refl _, ⟨rfl, leS_refl _, trivial⟩, trivial⟩) c1 rfl ?_
 cbv
 (refine retC rfl ?_; cbv)
 exact leS_nbool rfl
theorem vU_cons (k : Int) (f : A) (r : List A) : vU k (f :: r) = (f.valid k && vU (k + 1) r) := rfl
theorem hfGrValid : Pg.funcs[115]? = some Tryz.f115 := by rw [Pg_eq]; rfl
theorem sGrValid (g : Grp) (hg : g.sz (2^36)) : SoundS 115 [gv g] (.bool (fun _ => g.valid)) := by
 refine sound_fn hfGrValid rfl rfl rfl rfl rfl ?_
 obtain ⟨n, us, os⟩ := g
 have hu := hg.us.sz
 have hul := hg.us.len
 have hol := hg.os.len
 have hos := fun vars => sGrV os vars hg.os
 clear hg
 simp only at hu hul hol hos
 generalize hr : Grp.valid ⟨n, us, os⟩ = r
 have hr0 : r = (decide (1 ≤ n ∧ n ≤ 256 ∧ us.length ≤ 1024 ∧ 1 ≤ os.length ∧ os.length ≤ 256) && vU n us && os.all (A.valid (n + us.length))) := hr.symm
 clear hr
 have hno : ¬ (1 ≤ n ∧ n ≤ 256 ∧ us.length ≤ 1024 ∧ 1 ≤ os.length ∧ os.length ≤ 256) → r = false := fun h => by rw [hr0, decide_eq_false h]; rfl
 cbv
 refine br_dec (fun e1 => ?_) (fun e1 => ?_)
 ·cbv
  (refine retC rfl ?_; cbv)
  exact leS_ff (hno om)
 cbv
 refine br_dec (fun e2 => ?_) (fun e2 => ?_)
 ·cbv
  (refine retC rfl ?_; cbv)
  exact leS_ff (hno om)
 cbv
 refine br_dec (fun e3 => ?_) (fun e3 => ?_)
 ·cbv
  (refine retC rfl ?_; cbv)
  exact leS_ff (hno (by simp only [enc_len] at e3; (try dsimp only [ncast] at *); omega))
 cbv
 refine br_dec (fun e4 => ?_) (fun e4 => ?_)
 ·cbv
  (refine retC rfl ?_; cbv)
  exact leS_ff (hno (by simp only [enc_len] at e4; (try dsimp only [ncast] at *); omega))
 cbv
 refine cut_dec (fun e5 => ?_) (fun e5 => ?_)
 ·cbv
  (refine retC rfl ?_; cbv)
  exact leS_ff (hno (by simp only [enc_len] at e5; (try dsimp only [ncast] at *); omega))
 rw [enc_len] at e3 e4 e5
 (try dsimp only [ncast] at *)
 rw [decide_eq_true (by omega), Bool.true_and] at hr0
 clear hno
 cbv
 refine loop_n (σ := Nat) (fun i => ⟨[(1, .ptr 1 0), (32, alv us), (33, .int .i64 (fun _ => (us.length : Int))), (34, .int .i64 (fun _ => (i : Int)))], [(1, .box [.int .i64 (fun _ => n), alv us, alv os])]⟩)
  (fun i => i ≤ us.length ∧ r = (vU (n + i) (us.drop i) && os.all (A.valid (n + us.length)))) (fun i => us.length - i) 0 ⟨om, ?_⟩ (.le ?_ ?_ rfl) ?_
 ·rw [hr0, List.drop_zero, show n + ((0 : Nat) : Int) = n by simp]
 ·cbv
  exact ⟨leS_refl _, leS_refl _, leS_int (by (try dsimp only [ncast] at *); rw [enc_len]), leS_refl _, trivial⟩
 ·cbv
  exact ⟨⟨leS_refl _, leS_refl _, leS_refl _, trivial⟩, trivial⟩
 clear hr0
 intro i hs
 obtain ⟨h1, h2⟩ := hs
 cbv
 refine cut_dec (fun h5 => ?_) (fun h5 => ?_)
 ·cbv
  refine idx_enc (l := us) i om om ac_flat ac_len (fun t ht => ?_)
  have cv := sLnValid t (n + i) (hu t (List.mem_of_getElem? ht))
  rw [drop_of_get ht, vU_cons] at h2
  have e : n + (i : Int) + 1 = n + ((i + 1 : Nat) : Int) := by omega
  rw [e] at h2
  generalize hv : t.valid (n + i) = v at *
  obtain ⟨t1, t2, t3, t4⟩ := t
  cbv
  refine ⟨in64_of om om, ?_⟩
  cbv
  refine callS' rfl okA (cv) rfl ?_
  cbv
  refine cut_bool (fun h6 => ?_) (fun h6 => ?_)
  ·subst h6
   rw [Bool.true_and] at h2
   cbv
   refine ⟨in64_of om om, i + 1, ⟨om, h2⟩, om, .le ?_ ?_ rfl⟩
   ·cbv
    exact ⟨leS_refl _, leS_refl _, leS_refl _, leS_int om, trivial⟩
   ·cbv
    exact ⟨⟨leS_refl _, leS_refl _, leS_refl _, trivial⟩, trivial⟩
  ·subst h6
   cbv
   (refine retC rfl ?_; cbv)
   exact leS_ff (by rw [h2]; rfl)
 ·have hi : i = us.length := om
  rw [hi, List.drop_length] at h2
  have h2' : r = os.all (A.valid (n + us.length)) := h2
  have cv := hos (n + us.length)
  rw [← h2'] at cv
  clear h2 h2' hos
  cbv
  refine ⟨in64_of (by rw [enc_len]; (try dsimp only [ncast] at *); omega) (by rw [enc_len]; (try dsimp only [ncast] at *); omega), ?_⟩
  cbv
  refine callS' rfl (by exact ⟨leS_refl _, leS_int (by rw [enc_len]), trivial⟩) cv rfl ?_
  cbv
  (refine retC rfl ?_; cbv)
  exact leS_refl _
theorem hfRgC : Pg.funcs[165]? = some Tryz.f165 := by rw [Pg_eq]; rfl
theorem sRgC (a : A) (vars : Int) (ha : a.sz (2^36)) : SoundS 165 [.agg (ac a), .dptr [.int .i64 (fun _ => vars)] 0] (.bool (fun _ => !a.valid vars)) := by
 refine sound_fn hfRgC rfl rfl rfl rfl rfl ?_
 have c1 := sLnValid a vars ha
 generalize a.valid vars = r at *
 obtain ⟨ts, c1', c2, c3⟩ := a
 cbv
 refine callS' rfl okA (c1) rfl ?_
 cbv
 (refine retC rfl ?_; cbv)
 exact leS_nbool rfl
theorem vB_cons (l : R) (ls) (h : R) (hs) : vB (l :: ls) (h :: hs) = (l.ok && h.ok && decide (cmpQ l.q h.q ≤ 0) && vB ls hs) := rfl
theorem get_some {α : Type} {l : List α} {i : Nat} (h : i < l.length) : ∃ a, l[i]? = some a := ⟨l[i], by simp [h]⟩
theorem hfRgValid : Pg.funcs[116]? = some Tryz.f116 := by rw [Pg_eq]; rfl
theorem sRgValid (g : Reg) (n : Int) (hg : g.sz (2^34)) : SoundS 116 [rgv g, .int .i64 (fun _ => n)] (.bool (fun _ => g.valid n)) := by
 refine sound_fn hfRgValid rfl rfl rfl rfl rfl ?_
 obtain ⟨lo, hi, rows⟩ := g
 have hlo := hg.lo.sz
 have hhi := hg.hi.sz
 have hlol := hg.lo.len
 have hhil := hg.hi.len
 have hrl := hg.rows.len
 have hrs := hg.rows.sz
 simp only at hlo hhi hlol hhil hrl hrs
 have cr := sHasA (fun a => !(a.valid n)) rows (Nat.lt_trans hrl (by decide)) 165 [.dptr [.int .i64 (fun _ => n)] 0] (fun a ha => sRgC a n ((hrs a ha).mono (by decide)))
 generalize hr : Reg.valid n ⟨lo, hi, rows⟩ = r
 have hr0 : r = (decide (1 ≤ n ∧ n ≤ 256 ∧ (lo.length : Int) = n ∧ (hi.length : Int) = n ∧ rows.length ≤ 256) && vB lo hi && rows.all (A.valid n)) := hr.symm
 rw [all_any] at hr0
 generalize (rows.any fun a => !(a.valid n)) = bad at *
 clear hr hrs hg
 have hno : ¬ (1 ≤ n ∧ n ≤ 256 ∧ (lo.length : Int) = n ∧ (hi.length : Int) = n ∧ rows.length ≤ 256) → r = false := fun h => by rw [hr0, decide_eq_false h]; rfl
 cbv
 refine br_dec (fun e1 => ?_) (fun e1 => ?_)
 ·cbv
  (refine retC rfl ?_; cbv)
  exact leS_ff (hno om)
 cbv
 refine br_dec (fun e2 => ?_) (fun e2 => ?_)
 ·cbv
  (refine retC rfl ?_; cbv)
  exact leS_ff (hno om)
 cbv
 refine br_dec (fun e3 => ?_) (fun e3 => ?_)
 ·cbv
  refine br_dec (fun e4 => ?_) (fun e4 => ?_)
  ·cbv
   refine cut_dec (fun e5 => ?_) (fun e5 => ?_)
   ·cbv
    (refine retC rfl ?_; cbv)
    exact leS_ff (hno (by simp only [enc_len] at e5; (try dsimp only [ncast] at *); omega))
   rw [enc_len] at e3 e4 e5
   (try dsimp only [ncast] at *)
   rw [decide_eq_true (by omega), Bool.true_and] at hr0
   clear hno
   cbv
   refine loop_n (σ := Nat) (fun i => ⟨[(2, .ptr 2 0), (3, .ptr 3 0), (34, rlv lo), (35, .int .i64 (fun _ => (lo.length : Int))), (36, .int .i64 (fun _ => (i : Int)))], [(2, .box [rlv lo, rlv hi, alv rows]), (3, .box [.int .i64 (fun _ => n)])]⟩)
    (fun i => i ≤ lo.length ∧ r = (vB (lo.drop i) (hi.drop i) && !bad)) (fun i => lo.length - i) 0 ⟨om, hr0⟩ (.le ?_ ?_ rfl) ?_
   ·cbv
    exact ⟨leS_refl _, leS_refl _, leS_refl _, leS_int (by (try dsimp only [ncast] at *); rw [enc_len]), leS_refl _, trivial⟩
   ·cbv
    exact ⟨⟨leS_refl _, leS_refl _, leS_refl _, trivial⟩, ⟨leS_refl _, trivial⟩, trivial⟩
   clear hr0
   intro i hs
   obtain ⟨h1, h2⟩ := hs
   cbv
   refine cut_dec (fun h5 => ?_) (fun h5 => ?_)
   ·cbv
    refine idx_enc (l := lo) i om om rc_flat rc_len (fun l hl => ?_)
    obtain ⟨h, hh⟩ : ∃ h, hi[i]? = some h := get_some (by (try dsimp only [ncast] at *); omega)
    rw [drop_of_get hl, drop_of_get hh, vB_cons] at h2
    have hls := hlo l (List.mem_of_getElem? hl)
    have hhs := hhi h (List.mem_of_getElem? hh)
    have cl := s103 l (hls.mono (by decide))
    have ch := s103 h (hhs.mono (by decide))
    have cc := s165 l h hls hhs
    generalize cmpQ l.q h.q = cq at *
    generalize l.ok = o1 at *
    generalize h.ok = o2 at *
    obtain ⟨l1, l2, l3⟩ := l
    cbv
    refine draw_of 22 (by cbv) ?_
    cbv
    refine callS_d okA (cl) rfl ?_
    cbv
    refine br_bool (fun e6 => ?_) (fun e6 => ?_)
    ·subst e6
     cbv
     refine idx_enc (l := hi) i om om rc_flat rc_len (fun h' hh' => ?_)
     obtain rfl : h' = h := by rw [hh] at hh'; exact (Option.some.inj hh').symm
     obtain ⟨k1, k2, k3⟩ := h'
     cbv
     refine callS_d okA (ch) rfl ?_
     cbv
     refine br_bool (fun e7 => ?_) (fun e7 => ?_)
     ·subst e7
      cbv
      refine idx_enc (l := hi) i om om rc_flat rc_len (fun h'' hh'' => ?_)
      obtain rfl : h'' = ⟨k1, k2, k3⟩ := by rw [hh] at hh''; exact (Option.some.inj hh'').symm
      cbv
      refine callS_d okA (cc) rfl ?_
      cbv
      refine cut_dec (fun e8 => ?_) (fun e8 => ?_)
      ·cbv
       (refine retC rfl ?_; cbv)
       exact leS_ff (by rw [h2, decide_eq_false (by omega)]; rfl)
      ·rw [decide_eq_true (by omega)] at h2
       cbv
       refine ⟨in64_of om om, i + 1, ⟨om, h2⟩, om, .le ?_ ?_ rfl⟩
       ·cbv
        exact ⟨leS_refl _, leS_refl _, leS_refl _, leS_refl _, leS_int om, trivial⟩
       ·cbv
        exact ⟨⟨leS_refl _, leS_refl _, leS_refl _, trivial⟩, ⟨leS_refl _, trivial⟩, trivial⟩
     ·subst e7
      cbv
      (refine retC rfl ?_; cbv)
      exact leS_ff (by rw [h2]; simp)
    ·subst e6
     cbv
     (refine retC rfl ?_; cbv)
     exact leS_ff (by rw [h2]; rfl)
   ·have hi' : i = lo.length := om
    rw [hi', List.drop_length] at h2
    have h2' : r = !bad := by rw [h2]; cases hi.drop lo.length <;> rfl
    clear h2
    cbv
    refine callW (.frz 3 rfl rfl (by repeat' first | exact trivial | apply And.intro) (by repeat' first | exact trivial | apply And.intro)) rfl (by exact ⟨leS_refl _, ⟨rfl, leS_refl _, trivial⟩, trivial⟩) cr rfl ?_
    cbv
    (refine retC rfl ?_; cbv)
    exact leS_nbool h2'
  ·cbv
   (refine retC rfl ?_; cbv)
   exact leS_ff (hno (by simp only [enc_len] at e4; (try dsimp only [ncast] at *); omega))
 ·cbv
  (refine retC rfl ?_; cbv)
  exact leS_ff (hno (by simp only [enc_len] at e3; (try dsimp only [ncast] at *); omega))
theorem hfRwValid : Pg.funcs[65]? = some Tryz.f65 := by rw [Pg_eq]; rfl
theorem sRwValid (q : Qry) (hq : q.sz (2^34)) : SoundS 65 [qv q] (.bool (fun _ => q.valid)) := by
 refine sound_fn hfRwValid rfl rfl rfl rfl rfl ?_
 have cg := sGrValid q.g (hq.g.mono (by decide))
 have crg := sRgValid q.r q.g.n hq.r
 have cl := sLnValid q.goal q.g.vars (hq.goal.mono (by decide))
 have hul := hq.g.us.len
 have hr : q.valid = (q.g.valid && q.r.valid q.g.n && q.goal.valid q.g.vars) := rfl
 have hn : q.g.valid = true → 1 ≤ q.g.n ∧ q.g.n ≤ 256 := fun h => by
  unfold Grp.valid at h
  simp only [Bool.and_eq_true, decide_eq_true_eq] at h
  omega
 rw [hr]
 clear hr hq
 obtain ⟨⟨n, us, os⟩, ⟨lo, hi, rows⟩, ⟨ts, c1, c2, c3⟩⟩ := q
 simp only at hn hul cg crg cl ⊢
 have hv : Grp.vars ⟨n, us, os⟩ = n + us.length := rfl
 rw [hv] at cl ⊢
 generalize Grp.valid ⟨n, us, os⟩ = b1 at *
 generalize Reg.valid n ⟨lo, hi, rows⟩ = b2 at *
 generalize hb3 : A.valid (n + us.length) ⟨ts, c1, c2, c3⟩ = b3 at *
 cbv
 refine callS' rfl okA (cg) rfl ?_
 cbv
 refine br_bool (fun e6 => ?_) (fun e6 => ?_)
 ·subst e6
  have hn' := hn rfl
  cbv
  refine callS' rfl okA (crg) rfl ?_
  cbv
  refine br_bool (fun e7 => ?_) (fun e7 => ?_)
  ·subst e7
   cbv
   refine ⟨in64_of (by rw [enc_len]; (try dsimp only [ncast] at *); omega) (by rw [enc_len]; (try dsimp only [ncast] at *); omega), ?_⟩
   refine callS' rfl (by exact ⟨⟨leS_refl _, leS_refl _, leS_refl _, leS_refl _, trivial⟩, leS_int (by rw [enc_len]), trivial⟩) cl rfl ?_
   cbv
   (refine retC rfl ?_; cbv)
   exact leS_bool (by rfl)
  ·subst e7
   cbv
   (refine retC rfl ?_; cbv)
   exact leS_ff rfl
 ·subst e6
  cbv
  (refine retC rfl ?_; cbv)
  exact leS_ff rfl
end Go.Proofs.YtcanljninhfmhaaGreat

namespace Go.Proofs.YtcanljninhfmhaaGreat
open Go
set_option linter.unusedVariables false
set_option maxRecDepth 100000
set_option maxHeartbeats 1000000
abbrev R0 : R := ⟨false, [], []⟩
theorem hfRwZero : Pg.funcs[166]? = some Tryz.f166 := by rw [Pg_eq]; rfl
theorem sRwZero (x : R) : SoundS 166 [rv x] (.bool (fun _ => decide (x = R0))) := by
  refine sound_fn hfRwZero rfl rfl rfl rfl rfl ?_
  obtain ⟨a, b, c⟩ := x
  have h0 : ∀ l : List UInt32, ((lm l).length : Int) = 0 ↔ l = [] := fun l => by rw [lm_length]; constructor
                                                                                 · intro h; exact List.eq_nil_of_length_eq_zero (by omega)
                                                                                 · intro h; rw [h]; rfl
  generalize hr : decide ((⟨a, b, c⟩ : R) = R0) = r
  have hr0 : r = (!a && (decide (((lm b).length : Int) = 0) && decide (((lm c).length : Int) = 0))) := by
    rw [← hr, Bool.eq_iff_iff]
    simp only [decide_eq_true_eq, R.mk.injEq, Bool.and_eq_true, Bool.not_eq_true', h0]
  clear hr
  cbv
  refine br_bool (fun e => ?_) (fun e => ?_)
  · subst e
    cbv
    (refine retC rfl ?_; cbv)
    exact leS_ff (by rw [hr0]; rfl)
  · subst e
    cbv
    refine br_dec (fun e => ?_) (fun e => ?_)
    · rw [decide_eq_true e] at hr0
      cbv
      (refine retC rfl ?_; cbv)
      exact leS_bool (by rw [hr0]; rfl)
    · rw [decide_eq_false e] at hr0
      cbv
      (refine retC rfl ?_; cbv)
      exact leS_ff (by rw [hr0]; rfl)
theorem hfRwFits0 : Pg.funcs[118]? = some Tryz.f118 := by rw [Pg_eq]; rfl
theorem sRwFits0 (q : Qry) (d : Dec) (hd : d.x.sz (2^36)) : SoundS 118 [qv q, dv d] (.bool (fun _ => d.fits q)) := by
 refine sound_fn hfRwFits0 rfl rfl rfl rfl rfl ?_
 have cz := sRwZero d.x
 have cv := s103 d.x hd
 have hr : d.fits q = if d.k = 1 ∨ d.k = 2 then decide (0 ≤ d.i ∧ d.i < q.g.us.length) && decide (d.x = R0) else if d.k = 3 ∨ d.k = 4 then decide (0 ≤ d.i ∧ d.i < q.g.n) && d.x.ok else false := rfl
 generalize d.fits q = r at *
 generalize decide (d.x = R0) = z at *
 generalize d.x.ok = ok at *
 obtain ⟨⟨n, us, os⟩, ⟨lo, hi, rows⟩, ⟨ts, c1, c2, c3⟩⟩ := q
 obtain ⟨k, i, x1, x2, x3⟩ := d
 simp only at hr
 have u1 : ∀ (hk : k = 1 ∨ k = 2), (0 ≤ i → i < us.length → r = z) ∧ (¬ (0 ≤ i ∧ i < us.length) → r = false) := fun hk => by
  rw [if_pos hk] at hr
  exact ⟨fun h1 h2 => by rw [hr, decide_eq_true ⟨h1, h2⟩, Bool.true_and], fun h => by rw [hr, decide_eq_false h]; rfl⟩
 have u2 : ∀ (hk : k = 3 ∨ k = 4), (0 ≤ i → i < n → r = ok) ∧ (¬ (0 ≤ i ∧ i < n) → r = false) := fun hk => by
  rw [if_neg (by omega), if_pos hk] at hr
  exact ⟨fun h1 h2 => by rw [hr, decide_eq_true ⟨h1, h2⟩, Bool.true_and], fun h => by rw [hr, decide_eq_false h]; rfl⟩
 have u3 : ¬ (k = 1 ∨ k = 2 ∨ k = 3 ∨ k = 4) → r = false := fun hk => by
  rw [if_neg (by omega), if_neg (by omega)] at hr; exact hr
 clear hr
 cbv
 have hk : k = 1 ∨ k = 2 ∨ k = 3 ∨ k = 4 ∨ (k ≤ 0 ∨ 5 ≤ k) := by omega
 rcases hk with rfl | rfl | rfl | rfl | hk
 ·obtain ⟨v1, v2⟩ := u1 (.inl rfl)
  clear u1 u2 u3
  refine cut_yes rfl ?_
  cbv
  refine cut_yes rfl ?_
  cbv
  refine br_dec (fun e1 => ?_) (fun e1 => ?_)
  ·cbv
   refine br_dec (fun e2 => ?_) (fun e2 => ?_)
   ·cbv
    refine callS' rfl okA (cz) rfl ?_
    cbv
    (refine retC rfl ?_; cbv)
    exact leS_bool (by rw [v1 om (by rw [enc_len] at e2; (try dsimp only [ncast] at *); omega)])
   ·cbv
    (refine retC rfl ?_; cbv)
    exact leS_ff (v2 (fun h => by rw [enc_len] at e2; (try dsimp only [ncast] at *); omega))
  ·cbv
   (refine retC rfl ?_; cbv)
   exact leS_ff (v2 (fun h => by (try dsimp only [ncast] at *); omega))
 ·obtain ⟨v1, v2⟩ := u1 (.inr rfl)
  clear u1 u2 u3
  refine cut_no (by simp) ?_
  cbv
  refine cut_yes rfl ?_
  cbv
  refine br_dec (fun e1 => ?_) (fun e1 => ?_)
  ·cbv
   refine br_dec (fun e2 => ?_) (fun e2 => ?_)
   ·cbv
    refine callS' rfl okA (cz) rfl ?_
    cbv
    (refine retC rfl ?_; cbv)
    exact leS_bool (by rw [v1 om (by rw [enc_len] at e2; (try dsimp only [ncast] at *); omega)])
   ·cbv
    (refine retC rfl ?_; cbv)
    exact leS_ff (v2 (fun h => by rw [enc_len] at e2; (try dsimp only [ncast] at *); omega))
  ·cbv
   (refine retC rfl ?_; cbv)
   exact leS_ff (v2 (fun h => by (try dsimp only [ncast] at *); omega))
 ·obtain ⟨v1, v2⟩ := u2 (.inl rfl)
  clear u1 u2 u3
  refine cut_no (by simp) ?_
  cbv
  refine cut_no (by simp) ?_
  cbv
  refine cut_yes rfl ?_
  cbv
  refine cut_yes rfl ?_
  cbv
  refine br_dec (fun e1 => ?_) (fun e1 => ?_)
  ·cbv
   refine br_dec (fun e2 => ?_) (fun e2 => ?_)
   ·cbv
    refine callS' rfl okA (cv) rfl ?_
    cbv
    (refine retC rfl ?_; cbv)
    exact leS_bool (by rw [v1 om (by (try dsimp only [ncast] at *); omega)])
   ·cbv
    (refine retC rfl ?_; cbv)
    exact leS_ff (v2 (fun h => by (try dsimp only [ncast] at *); omega))
  ·cbv
   (refine retC rfl ?_; cbv)
   exact leS_ff (v2 (fun h => by (try dsimp only [ncast] at *); omega))
 ·obtain ⟨v1, v2⟩ := u2 (.inr rfl)
  clear u1 u2 u3
  refine cut_no (by simp) ?_
  cbv
  refine cut_no (by simp) ?_
  cbv
  refine cut_no (by simp) ?_
  cbv
  refine cut_yes rfl ?_
  cbv
  refine br_dec (fun e1 => ?_) (fun e1 => ?_)
  ·cbv
   refine br_dec (fun e2 => ?_) (fun e2 => ?_)
   ·cbv
    refine callS' rfl okA (cv) rfl ?_
    cbv
    (refine retC rfl ?_; cbv)
    exact leS_bool (by rw [v1 om (by (try dsimp only [ncast] at *); omega)])
   ·cbv
    (refine retC rfl ?_; cbv)
    exact leS_ff (v2 (fun h => by (try dsimp only [ncast] at *); omega))
  ·cbv
   (refine retC rfl ?_; cbv)
   exact leS_ff (v2 (fun h => by (try dsimp only [ncast] at *); omega))
 ·have hr := u3 (by omega)
  clear u1 u2 u3
  refine cut_no (by dsimp only; omega) ?_
  cbv
  refine cut_no (by dsimp only; omega) ?_
  cbv
  refine cut_no (by dsimp only; omega) ?_
  cbv
  refine cut_no (by dsimp only; omega) ?_
  cbv
  (refine retC rfl ?_; cbv)
  exact leS_ff hr
theorem hfRwFits : Pg.funcs[68]? = some Tryz.f68 := by rw [Pg_eq]; rfl
theorem sRwFits (q : Qry) (d : Dec) (hq : q.sz (2^34)) (hd : d.x.sz (2^36)) : SoundS 68 [qv q, dv d] (.bool (fun _ => q.valid && d.fits q)) := by
 refine sound_fn hfRwFits rfl rfl rfl rfl rfl ?_
 have c1 := sRwValid q hq
 have c2 := sRwFits0 q d hd
 generalize q.valid = b1 at *
 generalize d.fits q = b2 at *
 obtain ⟨⟨n, us, os⟩, ⟨lo, hi, rows⟩, ⟨ts, c1', c2', c3⟩⟩ := q
 obtain ⟨k, i, x1, x2, x3⟩ := d
 cbv
 refine callS' rfl okA (c1) rfl ?_
 cbv
 refine br_bool (fun e => ?_) (fun e => ?_)
 ·subst e
  cbv
  refine callS' rfl okA (c2) rfl ?_
  cbv
  (refine retC rfl ?_; cbv)
  exact leS_bool rfl
 ·subst e
  cbv
  (refine retC rfl ?_; cbv)
  exact leS_ff rfl
theorem hfRwPlain : Pg.funcs[149]? = some Tryz.f149 := by rw [Pg_eq]; rfl
def Row.plain (r : Row) : Bool := decide (r.lo = 0) && decide (r.hi = 0)
theorem sRwPlain (r : Row) : SoundS 149 [rwv r] (.bool (fun _ => r.plain)) := by
 refine sound_fn hfRwPlain rfl rfl rfl rfl rfl ?_
 have hr : r.plain = (decide (r.lo = 0) && decide (r.hi = 0)) := rfl
 generalize r.plain = p at *
 obtain ⟨k, i, lo, hi⟩ := r
 cbv
 refine br_dec (fun e => ?_) (fun e => ?_)
 ·simp only at hr
  rw [decide_eq_true e, Bool.true_and] at hr
  cbv
  (refine retC rfl ?_; cbv)
  exact leS_bool hr.symm
 ·simp only at hr
  rw [decide_eq_false e] at hr
  cbv
  (refine retC rfl ?_; cbv)
  exact leS_ff hr
def F.var (v : Int) : F := ⟨[(v, 1)], 0⟩
def F.num (q : Rat) : F := ⟨[], q⟩
theorem hfRwVar : Pg.funcs[150]? = some Tryz.f150 := by rw [Pg_eq]; rfl
theorem sRwVar (v : Int) : SoundS 150 [.int .i64 (fun _ => v)] (fv (F.var v)) := by
 refine sound_fn hfRwVar rfl rfl rfl rfl rfl ?_
 have c1 := s104 1 (by decide) (by decide)
 have e : fv (F.var v) = .agg [.sl (fun _ => [mapD [.int .i64 (fun _ => v), .bool (fun _ => (ratR ((1 : Int) : Rat)).neg), nat (ratR ((1 : Int) : Rat)).num, nat (ratR ((1 : Int) : Rat)).den]]), .bool (fun _ => R0.neg), nat R0.num, nat R0.den] := by
  show av ⟨[(v, ratR 1)], ratR 0⟩ = _
  rw [ratR_zero]; rfl
 rw [e]
 clear e
 generalize ratR ((1 : Int) : Rat) = o at *
 obtain ⟨o1, o2, o3⟩ := o
 cbv
 refine callS' rfl okA (c1) rfl ?_
 cbv
 (refine retC rfl ?_; cbv)
 exact ⟨leS_sl rfl, leS_ff rfl, leS_nil rfl, leS_nil rfl, trivial⟩
theorem hfRwNum : Pg.funcs[151]? = some Tryz.f151 := by rw [Pg_eq]; rfl
theorem sRwNum (x : R) (hx : x.sz (2^36)) : SoundS 151 [rv x] (fv (F.num x.q)) := by
 refine sound_fn hfRwNum rfl rfl rfl rfl rfl ?_
 have c1 := s161 x hx
 show wp _ _ (postOf _ (.agg [tsv [], .bool (fun _ => (ratR x.q).neg), nat (ratR x.q).num, nat (ratR x.q).den]) [] [])
 generalize ratR x.q = w at *
 obtain ⟨w1, w2, w3⟩ := w
 obtain ⟨x1, x2, x3⟩ := x
 cbv
 refine callS' rfl okA (c1) rfl ?_
 cbv
 (refine retC rfl ?_; cbv)
 exact ⟨leS_nil rfl, leS_refl _, leS_refl _, leS_refl _, trivial⟩
theorem hfRwMinus : Pg.funcs[152]? = some Tryz.f152 := by rw [Pg_eq]; rfl
theorem sRwMinus (f : A) (hf : f.sz (2^33)) : SoundS 152 [av f] (fv (f.f.scale (-1))) := by
 refine sound_fn hfRwMinus rfl rfl rfl rfl rfl ?_
 have c1 := s104 (-1) (by decide) (by decide)
 have c2 := sLnScale f (ratR ((-1 : Int) : Rat)) hf ((rat_int (-1) (by decide) (by decide)).mono (by decide))
 rw [q_ratR] at c2
 have e : f.f.scale ((-1 : Int) : Rat) = f.f.scale (-1) := rfl
 rw [e] at c2
 generalize fA (f.f.scale (-1)) = W at *
 generalize ratR ((-1 : Int) : Rat) = o at *
 obtain ⟨ft, f1, f2, f3⟩ := f
 obtain ⟨wt, w1, w2, w3⟩ := W
 cbv
 refine draw_of 3 (by cbv) ?_
 cbv
 refine callS_d okA (c1) rfl ?_
 cbv
 refine callS_d okA (c2) rfl ?_
 cbv
 (refine retC rfl ?_; cbv)
 exact ⟨leS_refl _, leS_refl _, leS_refl _, leS_refl _, trivial⟩
end Go.Proofs.YtcanljninhfmhaaGreat
