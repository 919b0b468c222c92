/- A part of the proof: RwB, UtA, RvA. -/
import Derived.Test.YtcanljninhfmhaaGreatS29
import Derived.Test.YtcanljninhfmhaaGreatS28
import Derived.Test.YtcanljninhfmhaaGreatS26
set_option linter.all false
namespace Go.Proofs.YtcanljninhfmhaaGreat
open Go
set_option linter.unusedVariables false
set_option maxRecDepth 100000
set_option maxHeartbeats 1000000
def Scp.lem (s : Scp) (n unit : Int) (up : Bool) : Option Rat :=
 if 1 ≤ n ∧ n ≤ s.lems.length then
  match s.lems[(n - 1).toNat]? with
  | some m => if m.u = unit ∧ m.up = up then some m.v.q else none
  | none => none
 else none
theorem lem_no {s : Scp} {n unit : Int} {up : Bool} (h : ¬ (1 ≤ n ∧ n ≤ s.lems.length)) : s.lem n unit up = none := if_neg h
theorem lem_at {s : Scp} {n unit : Int} {up : Bool} {m : Lem} (h : 1 ≤ n) (h2 : n ≤ s.lems.length) (hm : s.lems[(n - 1).toNat]? = some m) : s.lem n unit up = if m.u = unit ∧ m.up = up then some m.v.q else none := by
 unfold Scp.lem
 rw [if_pos ⟨h, h2⟩, hm]
theorem hfRwLem : Pg.funcs[153]? = some Tryz.f153 := by rw [Pg_eq]; rfl
theorem sRwLem (s : Scp) (n unit : Int) (up : Bool) (hs : Lsz (2^36) s.lems) : SoundS 153 [sv s, .int .i64 (fun _ => n), .int .i64 (fun _ => unit), .bool (fun _ => up)] (.tup [rv (ratR ((s.lem n unit up).getD 0)), .bool (fun _ => (s.lem n unit up).isSome)]) := by
 refine sound_fn hfRwLem rfl rfl rfl rfl rfl ?_
 have hno : ¬ (1 ≤ n ∧ n ≤ s.lems.length) → s.lem n unit up = none := fun h => lem_no h
 have hat : ∀ m, 1 ≤ n → n ≤ s.lems.length → s.lems[(n - 1).toNat]? = some m → s.lem n unit up = if m.u = unit ∧ m.up = up then some m.v.q else none := fun m h1 h2 h3 => lem_at h1 h2 h3
 have hsl := hs.len
 have hss := hs.sz
 generalize s.lem n unit up = o at *
 obtain ⟨⟨⟨gn, us, os⟩, ⟨lo, hi, rows⟩, ⟨ts, c1, c2, c3⟩⟩, path, lems⟩ := s
 simp only at hno hat hsl hss
 have fin : ∀ (W : R) (b : Bool), o = none → W = ratR (o.getD 0) ∧ b = o.isSome → W = R0 ∧ b = false := fun W b h1 h2 => by
  rw [h1] at h2
  exact ⟨by rw [h2.1]; exact ratR_zero, h2.2⟩
 obtain ⟨W, hW⟩ : ∃ W, W = ratR (o.getD 0) := ⟨_, rfl⟩
 obtain ⟨b, hb⟩ : ∃ b, b = o.isSome := ⟨_, rfl⟩
 rw [← hW, ← hb]
 have fin' : o = none → W = R0 ∧ b = false := fun h => fin W b h ⟨hW, hb⟩
 have fin2 : ∀ q, o = some q → W = ratR q ∧ b = true := fun q h => by rw [h] at hW hb; exact ⟨hW, hb⟩
 clear fin hW hb
 obtain ⟨W1, W2, W3⟩ := W
 have fin3 : o = none → W1 = false ∧ W2 = [] ∧ W3 = [] ∧ b = false := fun h => by
  obtain ⟨h1, h2⟩ := fin' h
  simp only [R.mk.injEq] at h1
  exact ⟨h1.1, h1.2.1, h1.2.2, h2⟩
 clear fin'
 cbv
 refine br_dec (fun e1 => ?_) (fun e1 => ?_)
 ·cbv
  obtain ⟨g1, g2, g3, g4⟩ := fin3 (hno (by omega))
  subst g1 g2 g3 g4
  (refine retC rfl ?_; cbv)
  exact ⟨⟨leS_ff rfl, leS_nil rfl, leS_nil rfl, trivial⟩, leS_ff rfl, trivial⟩
 cbv
 refine br_dec (fun e2 => ?_) (fun e2 => ?_)
 ·cbv
  obtain ⟨g1, g2, g3, g4⟩ := fin3 (hno (by rw [enc_len] at e2; (try dsimp only [ncast] at *); omega))
  subst g1 g2 g3 g4
  (refine retC rfl ?_; cbv)
  exact ⟨⟨leS_ff rfl, leS_nil rfl, leS_nil rfl, trivial⟩, leS_ff rfl, trivial⟩
 cbv
 rw [enc_len] at e2
 obtain ⟨m, hm⟩ : ∃ m, lems[(n - 1).toNat]? = some m := get_some (by (try dsimp only [ncast] at *); omega)
 have hat' := hat m (by omega) (by (try dsimp only [ncast] at *); omega) hm
 have hms := hss m (List.mem_of_getElem? hm)
 have cc := s161 m.v hms
 have idx : ∀ {K : List PV → Prop}, K (lc m) → IdxOk 6 (fun _ => enc lc lems) (fun _ => n - 1) K := fun hK => idx_enc (l := lems) (n - 1).toNat (by omega) (by (try dsimp only [ncast] at *); omega) lc_flat lc_len (fun m' hm' => by rw [hm] at hm'; cases hm'; exact hK)
 generalize hq : m.v.q = q at *
 obtain ⟨mu, mup, ⟨v1, v2, v3⟩, mpf⟩ := m
 simp only at hat'
 clear hat hno hq
 generalize hwq : ratR q = wq at *
 refine ⟨in64_of om om, idx ?_⟩
 cbv
 refine br_dec (fun e3 => ?_) (fun e3 => ?_)
 ·cbv
  refine ⟨in64_of om om, idx ?_⟩
  cbv
  refine cut_dec (fun e4 => ?_) (fun e4 => ?_)
  ·cbv
   obtain ⟨g1, g2⟩ := fin2 q (by rw [hat', if_pos ⟨e3, e4⟩])
   rw [hwq] at g1
   subst g1 g2
   refine ⟨in64_of om om, idx ?_⟩
   cbv
   refine callS' rfl okA (cc) rfl ?_
   cbv
   (refine retC rfl ?_; cbv)
   exact ⟨⟨leS_refl _, leS_refl _, leS_refl _, trivial⟩, leS_tt rfl, trivial⟩
  ·cbv
   obtain ⟨g1, g2, g3, g4⟩ := fin3 (by rw [hat', if_neg (fun h => e4 h.2)])
   subst g1 g2 g3 g4
   (refine retC rfl ?_; cbv)
   exact ⟨⟨leS_ff rfl, leS_nil rfl, leS_nil rfl, trivial⟩, leS_ff rfl, trivial⟩
 ·cbv
  obtain ⟨g1, g2, g3, g4⟩ := fin3 (by rw [hat', if_neg (fun h => e3 h.1)])
  subst g1 g2 g3 g4
  (refine retC rfl ?_; cbv)
  exact ⟨⟨leS_ff rfl, leS_nil rfl, leS_nil rfl, trivial⟩, leS_ff rfl, trivial⟩
def Scp.dcd (s : Scp) (kind unit : Int) : Bool := s.path.any fun d => decide (d.k = kind) && (decide (d.i = unit) && d.fits s.q)
theorem hfRwDecC : Pg.funcs[200]? = some Tryz.f200 := by rw [Pg_eq]; rfl
theorem sRwDecC (s : Scp) (kind unit : Int) (d : Dec) (hd : d.x.sz (2^36)) : SoundS 200 [.agg (dc d), .dptr [.int .i64 (fun _ => kind)] 0, .dptr [.int .i64 (fun _ => unit)] 0, .dptr (sc s) 0] (.bool (fun _ => decide (d.k = kind) && (decide (d.i = unit) && d.fits s.q))) := by
 refine sound_fn hfRwDecC rfl rfl rfl rfl rfl ?_
 have cf := sRwFits0 s.q d hd
 generalize d.fits s.q = ft at *
 obtain ⟨⟨⟨gn, us, os⟩, ⟨lo, hi, rows⟩, ⟨ts, c1, c2, c3⟩⟩, path, lems⟩ := s
 obtain ⟨k, i, x1, x2, x3⟩ := d
 generalize hr : (decide (k = kind) && (decide (i = unit) && ft)) = r
 cbv
 refine br_dec (fun e1 => ?_) (fun e1 => ?_)
 ·rw [decide_eq_true e1, Bool.true_and] at hr
  cbv
  refine br_dec (fun e2 => ?_) (fun e2 => ?_)
  ·rw [decide_eq_true e2, Bool.true_and] at hr
   cbv
   refine callS' rfl okA (cf) rfl ?_
   cbv
   (refine retC rfl ?_; cbv)
   exact leS_bool hr
  ·rw [decide_eq_false e2] at hr
   cbv
   (refine retC rfl ?_; cbv)
   exact leS_ff hr.symm
 ·rw [decide_eq_false e1] at hr
  cbv
  (refine retC rfl ?_; cbv)
  exact leS_ff hr.symm
theorem hfRwDec : Pg.funcs[186]? = some Tryz.f186 := by rw [Pg_eq]; rfl
theorem sRwDec (s : Scp) (kind unit : Int) (hs : Dsz (2^36) s.path) : SoundS 186 [sv s, .int .i64 (fun _ => kind), .int .i64 (fun _ => unit)] (.bool (fun _ => s.dcd kind unit)) := by
 refine sound_fn hfRwDec rfl rfl rfl rfl rfl ?_
 have c1 := sHasD (fun d => decide (d.k = kind) && (decide (d.i = unit) && d.fits s.q)) s.path (Nat.lt_trans hs.len (by decide)) 200 [.dptr [.int .i64 (fun _ => kind)] 0, .dptr [.int .i64 (fun _ => unit)] 0, .dptr (sc s) 0] (fun d hd => sRwDecC s kind unit d (hs.sz d hd))
 have e : (s.path.any fun d => decide (d.k = kind) && (decide (d.i = unit) && d.fits s.q)) = s.dcd kind unit := rfl
 rw [e] at c1
 generalize s.dcd kind unit = r at *
 obtain ⟨⟨⟨gn, us, os⟩, ⟨lo, hi, rows⟩, ⟨ts, c1', c2, c3⟩⟩, path, lems⟩ := s
 cbv
 refine callW (.trans (.frz 3 rfl rfl (by repeat' first | exact trivial | apply And.intro) (by repeat' first | exact trivial | apply And.intro)) (.trans (.frz 4 rfl rfl (by repeat' first | exact trivial | apply And.intro) (by repeat' first | exact trivial | apply And.intro)) (.frz 5 rfl rfl (by repeat' first | exact trivial | apply And.intro) (by repeat' first | exact trivial | apply And.intro)))) rfl (by exact ⟨leS_refl _, ⟨rfl, leS_refl _, leS_refl _, leS_refl _, trivial⟩, trivial⟩) c1 rfl ?_
 cbv
 (refine retC rfl ?_; cbv)
 exact leS_refl _
abbrev usv (s : Scp) (r : Row) (v p : A) (l u : R) (low top : Bool) : PV := .agg [.int .i64 (fun _ => s.q.g.n), alv s.q.g.us, alv s.q.g.os, rlv s.q.r.lo, rlv s.q.r.hi, alv s.q.r.rows, tsv s.q.goal.ts, .bool (fun _ => s.q.goal.c.neg), nat s.q.goal.c.num, nat s.q.goal.c.den, dlv s.path, llv s.lems,
 .int .i64 (fun _ => r.k), .int .i64 (fun _ => r.i), .int .i64 (fun _ => r.lo), .int .i64 (fun _ => r.hi), tsv v.ts, .bool (fun _ => v.c.neg), nat v.c.num, nat v.c.den, tsv p.ts, .bool (fun _ => p.c.neg), nat p.c.num, nat p.c.den,
 .bool (fun _ => l.neg), nat l.num, nat l.den, .bool (fun _ => u.neg), nat u.num, nat u.den, .bool (fun _ => low), .bool (fun _ => top)]
def onB (s : Scp) (r : Row) (l : Rat) (low : Bool) : Bool := decide (r.hi = 0) && ((decide (r.lo = 0) && s.dcd 1 r.i) || (low && decide (0 ≤ sgnQ l)))
def offB (s : Scp) (r : Row) (u : Rat) (top : Bool) : Bool := decide (r.lo = 0) && ((decide (r.hi = 0) && s.dcd 2 r.i) || (top && decide (sgnQ u ≤ 0)))
theorem hfRwOn : Pg.funcs[154]? = some Tryz.f154 := by rw [Pg_eq]; rfl
theorem sRwOn (s : Scp) (r : Row) (v p : A) (l u : R) (low top : Bool) (hs : Dsz (2^36) s.path) (hx : l.num.length < 2^40) : SoundS 154 [usv s r v p l u low top] (.bool (fun _ => onB s r l.q low)) := by
 refine sound_fn hfRwOn rfl rfl rfl rfl rfl ?_
 have cd := sRwDec s 1 r.i hs
 have cs := s86 l hx
 generalize hres : onB s r l.q low = res
 have hr : res = (decide (r.hi = 0) && ((decide (r.lo = 0) && s.dcd 1 r.i) || (low && decide (0 ≤ sgnQ l.q)))) := hres.symm
 clear hres hs
 generalize s.dcd 1 r.i = dd at *
 generalize sgnQ l.q = sg at *
 obtain ⟨⟨⟨gn, us, os⟩, ⟨lo, hi, rows⟩, ⟨ts, c1, c2, c3⟩⟩, path, lems⟩ := s
 obtain ⟨k, i, rlo, rhi⟩ := r
 obtain ⟨vt, v1, v2, v3⟩ := v
 obtain ⟨pt, p1, p2, p3⟩ := p
 obtain ⟨l1, l2, l3⟩ := l
 obtain ⟨u1, u2, u3⟩ := u
 simp only at hr
 cbv
 refine reg_go ?_
 cbv
 refine br_dec (fun e1 => ?_) (fun e1 => ?_)
 ·rw [decide_eq_true e1, Bool.true_and] at hr
  cbv
  refine br_dec (fun e2 => ?_) (fun e2 => ?_)
  ·rw [decide_eq_true e2, Bool.true_and] at hr
   cbv
   refine callS' rfl okA (cd) rfl ?_
   cbv
   refine br_bool (fun e3 => ?_) (fun e3 => ?_)
   ·rw [e3, Bool.true_or] at hr
    cbv
    (refine retC rfl ?_; cbv)
    exact leS_tt hr
   ·rw [e3, Bool.false_or] at hr
    cbv
    refine br_bool (fun e4 => ?_) (fun e4 => ?_)
    ·rw [e4, Bool.true_and] at hr
     cbv
     refine callS' rfl okA (cs) rfl ?_
     cbv
     (refine retC rfl ?_; cbv)
     exact leS_bool hr.symm
    ·rw [e4, Bool.false_and] at hr
     cbv
     (refine retC rfl ?_; cbv)
     exact leS_ff hr
  ·rw [decide_eq_false e2, Bool.false_and, Bool.false_or] at hr
   cbv
   refine br_bool (fun e4 => ?_) (fun e4 => ?_)
   ·rw [e4, Bool.true_and] at hr
    cbv
    refine callS' rfl okA (cs) rfl ?_
    cbv
    (refine retC rfl ?_; cbv)
    exact leS_bool hr.symm
   ·rw [e4, Bool.false_and] at hr
    cbv
    (refine retC rfl ?_; cbv)
    exact leS_ff hr
 ·rw [decide_eq_false e1, Bool.false_and] at hr
  cbv
  (refine retC rfl ?_; cbv)
  exact leS_ff hr
theorem hfRwOff : Pg.funcs[155]? = some Tryz.f155 := by rw [Pg_eq]; rfl
theorem sRwOff (s : Scp) (r : Row) (v p : A) (l u : R) (low top : Bool) (hs : Dsz (2^36) s.path) (hx : u.num.length < 2^40) : SoundS 155 [usv s r v p l u low top] (.bool (fun _ => offB s r u.q top)) := by
 refine sound_fn hfRwOff rfl rfl rfl rfl rfl ?_
 have cd := sRwDec s 2 r.i hs
 have cs := s86 u hx
 generalize hres : offB s r u.q top = res
 have hr : res = (decide (r.lo = 0) && ((decide (r.hi = 0) && s.dcd 2 r.i) || (top && decide (sgnQ u.q ≤ 0)))) := hres.symm
 clear hres hs
 generalize s.dcd 2 r.i = dd at *
 generalize sgnQ u.q = sg at *
 obtain ⟨⟨⟨gn, us, os⟩, ⟨lo, hi, rows⟩, ⟨ts, c1, c2, c3⟩⟩, path, lems⟩ := s
 obtain ⟨k, i, rlo, rhi⟩ := r
 obtain ⟨vt, v1, v2, v3⟩ := v
 obtain ⟨pt, p1, p2, p3⟩ := p
 obtain ⟨l1, l2, l3⟩ := l
 obtain ⟨u1, u2, u3⟩ := u
 simp only at hr
 cbv
 refine reg_go ?_
 cbv
 refine br_dec (fun e1 => ?_) (fun e1 => ?_)
 ·rw [decide_eq_true e1, Bool.true_and] at hr
  cbv
  refine br_dec (fun e2 => ?_) (fun e2 => ?_)
  ·rw [decide_eq_true e2, Bool.true_and] at hr
   cbv
   refine callS' rfl okA (cd) rfl ?_
   cbv
   refine br_bool (fun e3 => ?_) (fun e3 => ?_)
   ·rw [e3, Bool.true_or] at hr
    cbv
    (refine retC rfl ?_; cbv)
    exact leS_tt hr
   ·rw [e3, Bool.false_or] at hr
    cbv
    refine br_bool (fun e4 => ?_) (fun e4 => ?_)
    ·rw [e4, Bool.true_and] at hr
     cbv
     refine callS' rfl okA (cs) rfl ?_
     cbv
     (refine retC rfl ?_; cbv)
     exact leS_bool hr.symm
    ·rw [e4, Bool.false_and] at hr
     cbv
     (refine retC rfl ?_; cbv)
     exact leS_ff hr
  ·rw [decide_eq_false e2, Bool.false_and, Bool.false_or] at hr
   cbv
   refine br_bool (fun e4 => ?_) (fun e4 => ?_)
   ·rw [e4, Bool.true_and] at hr
    cbv
    refine callS' rfl okA (cs) rfl ?_
    cbv
    (refine retC rfl ?_; cbv)
    exact leS_bool hr.symm
   ·rw [e4, Bool.false_and] at hr
    cbv
    (refine retC rfl ?_; cbv)
    exact leS_ff hr
 ·rw [decide_eq_false e1, Bool.false_and] at hr
  cbv
  (refine retC rfl ?_; cbv)
  exact leS_ff hr
end Go.Proofs.YtcanljninhfmhaaGreat

namespace Go.Proofs.YtcanljninhfmhaaGreat
open Go
set_option linter.unusedVariables false
theorem idx_at {α : Type} {p : α → List PV} {n : Nat} {l : List α} {i : Nat} {a : α} {K : List PV → Prop} (h : l[i]? = some a) (hf : ∀ a, allL flat (p a) = true) (hn : ∀ a, (p a).length = n) (hK : K (p a)) : IdxOk n (fun _ => enc p l) (fun _ => (i : Int)) K :=
 idx_enc (l := l) i rfl (List.getElem?_eq_some_iff.1 h).1 hf hn (fun a' ha' => by rw [h] at ha'; cases ha'; exact hK)
theorem idx_at' {α : Type} {p : α → List PV} {n : Nat} {l : List α} {i : Nat} {k : Int} {a : α} {K : List PV → Prop} (h : l[i]? = some a) (hk : k = (i : Int)) (hf : ∀ a, allL flat (p a) = true) (hn : ∀ a, (p a).length = n) (hK : K (p a)) : IdxOk n (fun _ => enc p l) (fun _ => k) K :=
 idx_enc (l := l) i hk (List.getElem?_eq_some_iff.1 h).1 hf hn (fun a' ha' => by rw [h] at ha'; cases ha'; exact hK)
theorem enc_lt {α : Type} {p : α → List PV} {l : List α} {i : Nat} (h : (i : Int) < ((enc p l).length : Int)) : i < l.length := by rw [enc_len] at h; omega
theorem enc_ge {α : Type} {p : α → List PV} {l : List α} {i : Nat} (h : ¬ (i : Int) < ((enc p l).length : Int)) (h2 : i ≤ l.length) : i = l.length := by rw [enc_len] at h; omega
theorem retKC {rs : List ResultVar} {r : PV} {ps ps' : PS} {n : Nat} {o : Obj'} (hw : Wk ps ps') (h3 : lv r = true) (h4 : getO ps'.objs n = some o) (h5 : closedO o = true) (h6 : Nat.ble 1000000 n = true) (h : match resV ps' rs with
  | some l => les (oneV l) (ren id r)
  | none => False) : RetOk rs r [(n, o)] [] ps := by
 cases h1 : resV ps' rs with
 | none => rw [h1] at h; exact h.elim
 | some l => rw [h1] at h; exact ⟨ps', l, id, hw, h1, les_le h, h3, ⟨⟨h4, h5⟩, trivial⟩, rfl, ⟨rfl, Nat.le_of_ble_eq_true h6⟩, trivial⟩
end Go.Proofs.YtcanljninhfmhaaGreat

namespace Go.Proofs.YtcanljninhfmhaaGreat
open Go
set_option linter.unusedVariables false
set_option maxRecDepth 100000
set_option maxHeartbeats 2000000
theorem hfR7V : Pg.funcs[59]? = some Tryz.f59 := by rw [Pg_eq]; rfl
theorem sR7V (a : A) (vars : Int) (ha : a.sz (2^32)) : SoundS 59 [av a, .int .i64 (fun _ => vars)] (.bool (fun _ => a.valid vars)) := by
 refine sound_fn hfR7V rfl rfl rfl rfl rfl ?_
 obtain ⟨ts, c⟩ := a
 have hl := ha.t.len
 have hts := ha.t.sz
 have cc := s129 c ha.c
 generalize hr : A.valid vars ⟨ts, c⟩ = r
 have hr0 : r = (vT vars (-1) ts && c.ok) := hr.symm
 simp only at hl hts cc
 generalize c.ok = co at *
 clear hr ha
 cbv
 refine loop_n (σ := Nat × Int) (fun s => ⟨[(1, .int .i64 (fun _ => vars)), (2, .ptr 2 0), (5, .int .i64 (fun _ => (s.1 : Int)))], [(2, .box [tsv ts, .bool (fun _ => c.neg), nat c.num, nat c.den])]⟩)
  (fun s => s.1 ≤ ts.length ∧ r = (vT vars s.2 (ts.drop s.1) && co) ∧ (s.1 = 0 → s.2 = -1) ∧ (s.1 ≠ 0 → ∃ u, ts[s.1 - 1]? = some u ∧ u.1 = s.2)) (fun s => ts.length - s.1)
  (0, -1) ⟨om, hr0, fun _ => rfl, fun h => absurd rfl h⟩ (.le okZ okZ rfl) ?_
 intro s hs
 obtain ⟨h1, hv, h3, h4⟩ := hs
 generalize s.1 = i at *
 generalize s.2 = p at *
 cbv
 refine cut_dec (fun h5 => ?_) (fun h5 => ?_)
 ·obtain ⟨t, ht⟩ := get_some (enc_lt h5)
  rw [drop_of_get ht, vT_cons] at hv
  have htz := hts t (List.mem_of_getElem? ht)
  have cs := s35 t.2 (by have := htz.n; omega)
  have cv := s129 t.2 htz
  have hq : decide (t.2.q ≠ 0) = decide (sgnQ t.2.q ≠ 0) := by rw [decide_eq_decide]; exact sgnQ_ne.symm
  rw [hq] at hv
  generalize sgnQ t.2.q = sg at *
  generalize hok : t.2.ok = ok at *
  generalize hrest : (vT vars t.1 (ts.drop (i + 1)) && co) = rest
  have hv' : r = (decide (0 ≤ t.1) && decide (t.1 < vars) && decide (p < t.1) && decide (sg ≠ 0) && ok && rest) := by rw [hv, ← hrest]; simp only [Bool.and_assoc]
  have hi0 : i < 2^38 := by have := (List.getElem?_eq_some_iff.1 ht).1; omega
  clear hv
  cbv
  refine idx_at ht tc_flat tc_len ?_
  cbv
  refine draw_of 37 (by cbv) ?_
  cbv
  refine br_dec (fun e1 => ?_) (fun e1 => ?_)
  ·cbv
   (refine retC rfl ?_; cbv)
   exact leS_ff (by rw [hv', decide_eq_false (by omega)]; rfl)
  cbv
  refine br_dec (fun e2 => ?_) (fun e2 => ?_)
  ·cbv
   (refine retC rfl ?_; cbv)
   exact leS_ff (by rw [hv', decide_eq_false (p := t.1 < vars) (by omega)]; simp)
  cbv
  have fin : (¬ (p < t.1) → r = false) := fun h => by rw [hv', decide_eq_false (p := p < t.1) h]; simp
  have hmain : (p < t.1) → r = (decide (sg ≠ 0) && ok && rest) := fun h => by
   rw [hv', decide_eq_true (p := p < t.1) h, decide_eq_true (p := 0 ≤ t.1) (by omega), decide_eq_true (p := t.1 < vars) (by omega)]; simp only [Bool.true_and]
  clear hv'
  have tail : r = (decide (sg ≠ 0) && ok && rest) → True := fun _ => trivial
  refine br_dec (fun e3 => ?_) (fun e3 => ?_)
  ·obtain ⟨u, hu, hu2⟩ := h4 om
   cbv
   refine ⟨in64_of om om, idx_at' hu om tc_flat tc_len ?_⟩
   cbv
   refine br_dec (fun e4 => ?_) (fun e4 => ?_)
   ·cbv
    (refine retC rfl ?_; cbv)
    exact leS_ff (fin (by omega))
   have hm := hmain (by omega)
   cbv
   refine callS_d okA (cs) rfl ?_
   cbv
   refine br_dec (fun e5 => ?_) (fun e5 => ?_)
   ·cbv
    (refine retC rfl ?_; cbv)
    exact leS_ff (by rw [hm, decide_eq_false (by simpa using e5)]; rfl)
   rw [decide_eq_true e5, Bool.true_and] at hm
   cbv
   refine callS_d okA (cv) rfl ?_
   cbv
   refine cut_bool (fun e6 => ?_) (fun e6 => ?_)
   ·rw [e6, Bool.true_and] at hm
    cbv
    exact ⟨in64_of om om, (i + 1, t.1), ⟨by have := (List.getElem?_eq_some_iff.1 ht).1; omega, by rw [hm, hrest], fun h => absurd h (by simp), fun _ => ⟨_, ht, rfl⟩⟩, by have := (List.getElem?_eq_some_iff.1 ht).1; omega, .le okZ okZ rfl⟩
   ·cbv
    (refine retC rfl ?_; cbv)
    exact leS_ff (by rw [hm, e6]; rfl)
  ·have hp := h3 om
   have hm := hmain (by omega)
   cbv
   refine callS_d okA (cs) rfl ?_
   cbv
   refine br_dec (fun e5 => ?_) (fun e5 => ?_)
   ·cbv
    (refine retC rfl ?_; cbv)
    exact leS_ff (by rw [hm, decide_eq_false (by simpa using e5)]; rfl)
   rw [decide_eq_true e5, Bool.true_and] at hm
   cbv
   refine callS_d okA (cv) rfl ?_
   cbv
   refine cut_bool (fun e6 => ?_) (fun e6 => ?_)
   ·rw [e6, Bool.true_and] at hm
    cbv
    exact ⟨in64_of om om, (i + 1, t.1), ⟨by have := (List.getElem?_eq_some_iff.1 ht).1; omega, by rw [hm, hrest], fun h => absurd h (by simp), fun _ => ⟨_, ht, rfl⟩⟩, by have := (List.getElem?_eq_some_iff.1 ht).1; omega, .le okZ okZ rfl⟩
   ·cbv
    (refine retC rfl ?_; cbv)
    exact leS_ff (by rw [hm, e6]; rfl)
 ·have he := enc_ge h5 h1
  rw [he, List.drop_length] at hv
  have hv' : r = co := by rw [hv]; rfl
  cbv
  refine callS' rfl okA (cc) rfl ?_
  cbv
  (refine retC rfl ?_; cbv)
  exact leS_bool hv'.symm
theorem hfR7A : Pg.funcs[122]? = some Tryz.f122 := by rw [Pg_eq]; rfl
theorem sR7A (l : List A) (vars : Int) (hl : Asz (2^32) l) : SoundS 122 [alv l, .int .i64 (fun _ => vars)] (.bool (fun _ => l.all (A.valid vars))) := by
 refine sound_fn hfR7A rfl rfl rfl rfl rfl ?_
 have hll := hl.len
 have hls := hl.sz
 have hc : ∀ a, a ∈ l → SoundS 59 [av a, .int .i64 (fun _ => vars)] (.bool (fun _ => a.valid vars)) := fun a h => sR7V a vars (hls a h)
 obtain ⟨P, hP⟩ : ∃ P, A.valid vars = P := ⟨_, rfl⟩
 rw [hP] at hc ⊢
 generalize hr : l.all P = r
 have hr0 : r = (l.drop 0).all P := hr.symm
 clear hr hls hl
 cbv
 refine loop_n (σ := Nat) (fun i => ⟨[(0, alv l), (1, .int .i64 (fun _ => vars)), (5, .int .i64 (fun _ => (i : Int)))], []⟩) (fun i => i ≤ l.length ∧ r = (l.drop i).all P) (fun i => l.length - i) 0 ⟨by omega, hr0⟩ (.le okZ okZ rfl) ?_
 intro i hi
 obtain ⟨h1, h2⟩ := hi
 cbv
 refine cut_dec (fun h5 => ?_) (fun h5 => ?_)
 ·have hlt := enc_lt h5
  obtain ⟨a, ha⟩ := get_some hlt
  have ca := hc a (List.mem_of_getElem? ha)
  rw [drop_of_get ha, List.all_cons] at h2
  generalize P a = pa at *
  generalize hrest : (l.drop (i + 1)).all P = rest at *
  cbv
  refine idx_at ha ac_flat ac_len ?_
  cbv
  refine callS' rfl okA (ca) rfl ?_
  cbv
  refine cut_bool (fun e => ?_) (fun e => ?_)
  ·cbv
   exact ⟨in64_of om om, i + 1, ⟨om, by rw [h2, e, hrest]; rfl⟩, om, .le okZ okZ rfl⟩
  ·cbv
   (refine retC rfl ?_; cbv)
   exact leS_ff (by rw [h2, e]; rfl)
 ·have he := enc_ge h5 h1
  rw [he, List.drop_length] at h2
  have h2' : r = true := h2
  cbv
  (refine retC rfl ?_; cbv)
  exact leS_tt h2'
theorem hfR3A : Pg.funcs[167]? = some Tryz.f167 := by rw [Pg_eq]; rfl
theorem sR3A (l : List R) (hl : Rsz (2^32) l) : SoundS 167 [rlv l] (.bool (fun _ => l.all R.ok)) := by
 refine sound_fn hfR3A rfl rfl rfl rfl rfl ?_
 have hll := hl.len
 have hls := hl.sz
 have hc : ∀ a, a ∈ l → SoundS 92 [rv a] (.bool (fun _ => a.ok)) := fun a h => s129 a (hls a h)
 obtain ⟨P, hP⟩ : ∃ P, R.ok = P := ⟨_, rfl⟩
 rw [hP] at hc ⊢
 generalize hr : l.all P = r
 have hr0 : r = (l.drop 0).all P := hr.symm
 clear hr hls hl
 cbv
 refine loop_n (σ := Nat) (fun i => ⟨[(0, rlv l), (3, .int .i64 (fun _ => (i : Int)))], []⟩) (fun i => i ≤ l.length ∧ r = (l.drop i).all P) (fun i => l.length - i) 0 ⟨by omega, hr0⟩ (.le okZ okZ rfl) ?_
 intro i hi
 obtain ⟨h1, h2⟩ := hi
 cbv
 refine cut_dec (fun h5 => ?_) (fun h5 => ?_)
 ·have hlt := enc_lt h5
  obtain ⟨a, ha⟩ := get_some hlt
  have ca := hc a (List.mem_of_getElem? ha)
  rw [drop_of_get ha, List.all_cons] at h2
  generalize P a = pa at *
  generalize hrest : (l.drop (i + 1)).all P = rest at *
  cbv
  refine idx_at ha rc_flat rc_len ?_
  cbv
  refine callS' rfl okA (ca) rfl ?_
  cbv
  refine cut_bool (fun e => ?_) (fun e => ?_)
  ·cbv
   exact ⟨in64_of om om, i + 1, ⟨om, by rw [h2, e, hrest]; rfl⟩, om, .le okZ okZ rfl⟩
  ·cbv
   (refine retC rfl ?_; cbv)
   exact leS_ff (by rw [h2, e]; rfl)
 ·have he := enc_ge h5 h1
  rw [he, List.drop_length] at h2
  have h2' : r = true := h2
  cbv
  (refine retC rfl ?_; cbv)
  exact leS_tt h2'
end Go.Proofs.YtcanljninhfmhaaGreat
