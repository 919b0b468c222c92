/- A part of the proof: DvC, SoA, RoE, CoA, RdA, RdB, LwA. -/
import Derived.Test.YtcanljninhfmhaaGreatS35
import Derived.Test.YtcanljninhfmhaaGreatS31
import Derived.Test.YtcanljninhfmhaaGreatS28
import Derived.Laws.StructEq
import Derived.ChangeKeysEq
import Derived.Test.YtcanljninhfmhaaGreatS33
set_option linter.all false
namespace Go.Proofs.YtcanljninhfmhaaGreat
open Go
set_option linter.unusedVariables false
set_option maxRecDepth 100000
set_option maxHeartbeats 2000000
theorem hfDvScC : Pg.funcs[67]? = some Tryz.f67 := by rw [Pg_eq]; rfl
theorem sDvScC (s : Scp) (d : Dec) (hq : s.q.sz (2^34)) (hd : d.x.sz (2^36)) : SoundS 67 [.agg (dc d), .dptr (sc s) 0] (.bool (fun _ => !(s.q.valid && d.fits s.q))) := by
 refine sound_fn hfDvScC rfl rfl rfl rfl rfl ?_
 have cf := sRwFits s.q d hq hd
 generalize (s.q.valid && d.fits s.q) = b at *
 cbv
 refine callS' rfl okA (cf) rfl ?_
 cbv
 (refine retC rfl ?_; cbv)
 exact leS_nbool rfl
def Scp.pre (s : Scp) (i : Nat) : Scp := ⟨s.q, s.path, s.lems.take i⟩
def lemsFrom (s : Scp) : Nat → List Lem → Bool
 | _, [] => true
 | i, m :: r => (s.pre i).lemB m && lemsFrom s (i + 1) r
def Scp.scopeB (s : Scp) : Bool := s.q.valid && ((s.path.all fun d => s.q.valid && d.fits s.q) && lemsFrom s 0 s.lems)
theorem Scp.pre_sz {s : Scp} {k : Nat} (h : s.sz k) (i : Nat) : (s.pre i).sz k :=
 ⟨h.q, h.path, ⟨by show (s.lems.take i).length < _; rw [List.length_take]; have := h.lems.len; omega, fun a ha => h.lems.sz a (List.mem_of_mem_take ha), fun a ha => h.lems.pf a (List.mem_of_mem_take ha)⟩⟩
theorem hfDvScope : Pg.funcs[29]? = some Tryz.f29 := by rw [Pg_eq]; rfl
theorem sDvScope (s : Scp) (hs : s.sz (2^20)) (hpf : ∀ m, m ∈ s.lems → m.pf.length ≤ 100) : SoundS 29 [sv s] (.bool (fun _ => s.scopeB)) := by
 refine sound_fn hfDvScope rfl rfl rfl rfl rfl ?_
 have crv := sRwValid s.q (hs.q.mono (by decide))
 have cha := sHasD (fun d => !(s.q.valid && d.fits s.q)) s.path (Nat.lt_trans hs.path.len (by decide)) 67 [.dptr (sc s) 0] (fun d hd => sDvScC s d (hs.q.mono (by decide)) ((hs.path.sz d hd).mono (by decide)))
 have hcl : ∀ i m, m ∈ s.lems → SoundS 38 [sv (s.pre i), lv' m] (.bool (fun _ => (s.pre i).lemB m)) := fun i m hm =>
  sDvLemma (s.pre i) m (Scp.pre_sz hs i) (hs.lems.sz m hm) (hs.lems.pf m hm) (hpf m hm)
 have hr : s.scopeB = (s.q.valid && (!(s.path.any fun d => !(s.q.valid && d.fits s.q)) && lemsFrom s 0 s.lems)) := by unfold Scp.scopeB; rw [all_any]
 have hll := hs.lems.len
 have hcons : ∀ i m r, lemsFrom s i (m :: r) = ((s.pre i).lemB m && lemsFrom s (i + 1) r) := fun _ _ _ => rfl
 obtain ⟨LF, hLF⟩ : ∃ LF, lemsFrom s = LF := ⟨_, rfl⟩
 have hnil : ∀ i, LF i [] = true := fun i => by rw [← hLF]; rfl
 rw [hLF] at hr hcons
 generalize s.scopeB = res at *
 generalize (s.path.any fun d => !(s.q.valid && d.fits s.q)) = bad at *
 generalize s.q.valid = vd at *
 have hlm : ∀ i m, SoundS 38 [sv (s.pre i), lv' m] (.bool (fun _ => (s.pre i).lemB m)) → SoundS 38 [sv ⟨s.q, s.path, s.lems.take i⟩, lv' m] (.bool (fun _ => (s.pre i).lemB m)) := fun _ _ h => h
 clear hs hpf hLF
 cbv
 refine callP [1, 6] [1] rfl rfl okA (crv) rfl ?_
 cbv
 refine br_bool (fun e1 => ?_) (fun e1 => ?_)
 rotate_left
 ·cbv
  (refine retC rfl ?_; cbv)
  exact leS_ff (by rw [hr, e1]; rfl)
 rw [e1, Bool.true_and] at hr
 cbv
 refine callW (.trans (Wk.sel _ [1, 9, 11, 12] [1] rfl) (.frz 1 rfl rfl (by repeat' first | exact trivial | apply And.intro) (by repeat' first | exact trivial | apply And.intro))) rfl (by exact ⟨leS_refl _, ⟨rfl, leS_refl _, trivial⟩, trivial⟩) cha rfl ?_
 cbv
 refine cut_bool (fun e2 => ?_) (fun e2 => ?_)
 ·cbv
  (refine retC rfl ?_; cbv)
  exact leS_ff (by rw [hr, e2]; rfl)
 rw [e2, Bool.not_false, Bool.true_and] at hr
 clear cha crv
 cbv
 refine loop_n (σ := Nat) (fun i => ⟨[(1, .dptr (sc s) 0), (16, llv s.lems), (17, .int .i64 (fun _ => (s.lems.length : Int))), (18, .int .i64 (fun _ => (i : Int)))], []⟩)
  (fun i => i ≤ s.lems.length ∧ res = LF i (s.lems.drop i)) (fun i => s.lems.length - i) 0 ⟨om, hr⟩ (.le ?_ ?_ rfl) ?_
 ·cbv
  exact ⟨leS_refl _, leS_refl _, leS_int (by (try dsimp only [ncast] at *); rw [enc_len]), leS_refl _, trivial⟩
 ·cbv
 clear hr
 intro i hi
 obtain ⟨h1, h2⟩ := hi
 cbv
 refine cut_dec (fun h5 => ?_) (fun h5 => ?_)
 ·have hlt : i < s.lems.length := by (try dsimp only [ncast] at *); omega
  obtain ⟨m, hm⟩ := get_some hlt
  have hmem := List.mem_of_getElem? hm
  rw [drop_of_get hm, hcons] at h2
  have cl := hlm i m (hcl i m hmem)
  generalize (s.pre i).lemB m = b at *
  have idx : ∀ {K : List PV → Prop}, K (lc m) → IdxOk 6 (fun _ => enc lc s.lems) (fun _ => (i : Int)) K := fun hK => idx_enc (l := s.lems) i rfl hlt lc_flat lc_len (fun m' hm' => by rw [hm] at hm'; cases hm'; exact hK)
  clear hcl hlm hcons
  cbv
  refine idx ?_
  cbv
  refine draw_of 12 (by cbv) ?_
  cbv
  refine ⟨slok_of om om (by rw [enc_len]; (try dsimp only [ncast] at *); omega), enc_wid lc_len _, ?_⟩
  refine callS_d (by exact ⟨⟨leS_refl _, leS_refl _, leS_refl _, leS_refl _, leS_refl _, leS_refl _, leS_refl _, leS_refl _, leS_refl _, leS_refl _, leS_refl _, leS_sl (by simp [enc, List.map_take]), trivial⟩, ⟨leS_refl _, leS_refl _, leS_refl _, leS_refl _, leS_refl _, leS_refl _, trivial⟩, trivial⟩) cl rfl ?_
  cbv
  refine cut_bool (fun e3 => ?_) (fun e3 => ?_)
  ·rw [e3, Bool.true_and] at h2
   cbv
   refine ⟨in64_of om om, i + 1, ⟨om, h2⟩, om, .le ?_ ?_ rfl⟩
   ·cbv
    exact ⟨leS_refl _, leS_refl _, leS_refl _, leS_int om, trivial⟩
   ·cbv
  ·cbv
   (refine retC rfl ?_; cbv)
   exact leS_ff (by rw [h2, e3]; rfl)
 ·have hi' : i = s.lems.length := by (try dsimp only [ncast] at *); omega
  rw [hi', List.drop_length, hnil] at h2
  cbv
  (refine retC rfl ?_; cbv)
  exact leS_tt h2
end Go.Proofs.YtcanljninhfmhaaGreat

namespace Go.Proofs.YtcanljninhfmhaaGreat
open Go
set_option linter.unusedVariables false
set_option maxRecDepth 100000
set_option maxHeartbeats 2000000
theorem tyMults : ty 23 = .sli 7 88 [.int .i64 (fun _ => 0), .int .i64 (fun _ => 0), .int .i64 (fun _ => 0), .int .i64 (fun _ => 0), .ff, .nil, .nil] := by cbv
end Go.Proofs.YtcanljninhfmhaaGreat

namespace Go.Proofs.YtcanljninhfmhaaGreat
open Go
set_option linter.unusedVariables false
abbrev fld (s : String) (o b : Nat) : Field := { name := s, type := 3, offset := o, embedded := false, tag := "", pkgPath := "", byteOffset := b }
theorem row_und : Pg.underlying 72 = some (.struct (Pg.fieldsOf 72)) := by rw [Pg_eq]; kernel_rfl
theorem row_flds : (Pg.fieldsOf 72).toList = [fld "Kind" 0 0, fld "Index" 1 8, fld "Lo" 2 16, fld "Hi" 3 24] := by rw [Pg_eq]; kernel_rfl
theorem row_held : Pg.stoodInHeld 72 = false := by rw [Pg_eq]; kernel_rfl
theorem row_guard : Pg.eqGuardType Pg.depth 72 = false := by rw [Pg_eq]; kernel_rfl
theorem int_plain : Pg.plainKey 3 = true := by rw [Pg_eq]; kernel_rfl
theorem int_und : Pg.underlying 3 = some (.int .i64) := by rw [Pg_eq]; kernel_rfl
abbrev rowA (a : Row) : Array Value := #[.int .i64 a.k, .int .i64 a.i, .int .i64 a.lo, .int .i64 a.hi]
theorem row_equal (a b : Row) (w : World) : (Op.equalIn 10000 72 (.agg (rowA a)) (.agg (rowA b))).run Pg w = .ok (decide (a = b)) w := by
 rw [show (10000 : Nat) = 9999 + 1 from rfl, run_equalIn_agg w 9999 _ _ _ row_und row_held, row_flds]
 have p0 : ∀ (c : Row), (part 3 (rowA c) 0).run Pg w = .ok (.int .i64 c.k) w := fun c => run_part_plain _ int_plain rfl
 have p1 : ∀ (c : Row), (part 3 (rowA c) 1).run Pg w = .ok (.int .i64 c.i) w := fun c => run_part_plain _ int_plain rfl
 have p2 : ∀ (c : Row), (part 3 (rowA c) 2).run Pg w = .ok (.int .i64 c.lo) w := fun c => run_part_plain _ int_plain rfl
 have p3 : ∀ (c : Row), (part 3 (rowA c) 3).run Pg w = .ok (.int .i64 c.hi) w := fun c => run_part_plain _ int_plain rfl
 have q : ∀ (x y : Int), (Op.equalIn 9999 3 (.int .i64 x) (.int .i64 y)).run Pg w = .ok (x == y) w := fun x y => run_equalIn_int w 9998 _ .i64 .i64 x y int_und
 have e : decide (a = b) = ((a.k == b.k) && ((a.i == b.i) && ((a.lo == b.lo) && (a.hi == b.hi)))) := by
  obtain ⟨a1, a2, a3, a4⟩ := a
  obtain ⟨b1, b2, b3, b4⟩ := b
  rw [Bool.eq_iff_iff]
  simp
 rw [e]
 simp only [Op.eqFields, Sem.run_bind, Sem.run_ite, p0, p1, p2, p3, q, Result.andThen_ok, Sem.run_pure]
 generalize (a.k == b.k) = x0
 generalize (a.i == b.i) = x1
 generalize (a.lo == b.lo) = x2
 generalize (a.hi == b.hi) = x3
 cases x0 <;> cases x1 <;> cases x2 <;> cases x3 <;> rfl
theorem eqs_row {x y : Operand} {a b : Row} {K : PV → Prop} (hK : K (.bool (fun _ => decide (a = b)))) : EqS .eql 72 x y [fun _ => a.k, fun _ => a.i, fun _ => a.lo, fun _ => a.hi] [fun _ => b.k, fun _ => b.i, fun _ => b.lo, fun _ => b.hi] K := by
 refine ⟨⟨decide (a = b), fun w => ?_, hK⟩⟩
 show (do eqGuard .eql 72 x y (.agg (rowA a)) (.agg (rowA b)); binOp .eql 72 (.agg (rowA a)) (.agg (rowA b)) : Sem Value).run Pg w = _
 simp only [Sem.run_bind, run_eqGuard_agg w .eql _ x y _ _ row_guard, Result.andThen_ok, run_eql_struct, row_equal]
end Go.Proofs.YtcanljninhfmhaaGreat

namespace Go.Proofs.YtcanljninhfmhaaGreat
open Go
set_option linter.unusedVariables false
set_option maxRecDepth 100000
set_option maxHeartbeats 2000000
def mR (l : List (Row × Rat)) : List Mult := l.map fun t => ⟨t.1, ratR t.2⟩
theorem mR_len (l : List (Row × Rat)) : (mR l).length = l.length := by simp [mR]
theorem mR_app (l m : List (Row × Rat)) : mR (l ++ m) = mR l ++ mR m := by simp [mR]
end Go.Proofs.YtcanljninhfmhaaGreat

namespace Go.Proofs.YtcanljninhfmhaaGreat
open Go
set_option linter.unusedVariables false
set_option maxRecDepth 100000
set_option maxHeartbeats 2000000
def rowLt (a b : Row) : Bool := if a.k = b.k then (if a.i = b.i then (if a.lo = b.lo then decide (a.hi < b.hi) else decide (a.lo < b.lo)) else decide (a.i < b.i)) else decide (a.k < b.k)
theorem rowLt_cmp (a b : Row) : rowLt a b = decide (cmpRow a b < 0) := by
 unfold rowLt cmpRow orI cI
 rw [Bool.eq_iff_iff]
 split <;> (try split) <;> (try split) <;> simp only [decide_eq_true_eq] <;> (repeat' split) <;> omega
theorem hfLess : Pg.funcs[93]? = some Tryz.f93 := by rw [Pg_eq]; rfl
theorem sLess (a b : Row) : SoundS 93 [rwv a, rwv b] (.bool (fun _ => rowLt a b)) := by
 refine sound_fn hfLess rfl rfl rfl rfl rfl ?_
 have h1 : ¬ a.k = b.k → rowLt a b = decide (a.k < b.k) := fun h => if_neg h
 have h2 : a.k = b.k → ¬ a.i = b.i → rowLt a b = decide (a.i < b.i) := fun h g => by unfold rowLt; rw [if_pos h, if_neg g]
 have h3 : a.k = b.k → a.i = b.i → ¬ a.lo = b.lo → rowLt a b = decide (a.lo < b.lo) := fun h g e => by unfold rowLt; rw [if_pos h, if_pos g, if_neg e]
 have h4 : a.k = b.k → a.i = b.i → a.lo = b.lo → rowLt a b = decide (a.hi < b.hi) := fun h g e => by unfold rowLt; rw [if_pos h, if_pos g, if_pos e]
 generalize rowLt a b = r at *
 cbv
 refine cut_dec (fun e1 => ?_) (fun e1 => ?_)
 ·cbv
  refine cut_dec (fun e2 => ?_) (fun e2 => ?_)
  ·cbv
   refine cut_dec (fun e3 => ?_) (fun e3 => ?_)
   ·have h := h4 e1 e2 e3
    cbv
    (refine retC rfl ?_; cbv)
    exact leS_bool h.symm
   ·have h := h3 e1 e2 e3
    cbv
    (refine retC rfl ?_; cbv)
    exact leS_bool h.symm
  ·have h := h2 e1 e2
   cbv
   (refine retC rfl ?_; cbv)
   exact leS_bool h.symm
 ·have h := h1 e1
  cbv
  (refine retC rfl ?_; cbv)
  exact leS_bool h.symm
theorem hfRdCan : Pg.funcs[45]? = some Tryz.f45 := by rw [Pg_eq]; rfl
theorem sRdCan (l : List Mult) (hl : Msz (2^32) l) : SoundS 45 [mlv l] (.bool (fun _ => canM none l)) := by
 refine sound_fn hfRdCan rfl rfl rfl rfl rfl ?_
 have hll := hl.len
 have hls := hl.sz
 generalize hr : canM none l = r
 cbv
 refine loop_n (σ := Nat × Option Row) (fun s => ⟨[(0, mlv l), (3, .int .i64 (fun _ => (s.1 : Int)))], []⟩)
  (fun s => s.1 ≤ l.length ∧ r = canM s.2 (l.drop s.1) ∧ (s.1 = 0 → s.2 = none) ∧ (s.1 ≠ 0 → ∃ u, l[s.1 - 1]? = some u ∧ s.2 = some u.row)) (fun s => l.length - s.1)
  (0, none) ⟨om, hr.symm, fun _ => rfl, fun h => absurd rfl h⟩ (.le ?_ ?_ rfl) ?_
 ·cbv
  exact ⟨leS_refl _, leS_refl _, trivial⟩
 ·cbv
 clear hr
 intro s hs
 obtain ⟨h1, hv, h3, h4⟩ := hs
 generalize s.1 = i at *
 generalize s.2 = p at *
 cbv
 refine cut_dec (fun h5 => ?_) (fun h5 => ?_)
 ·have hlt : i < l.length := by rw [enc_len] at h5; (try dsimp only [ncast] at *); omega
  obtain ⟨t, ht⟩ := get_some hlt
  have idx : ∀ {K : List PV → Prop}, K (mc t) → IdxOk 7 (fun _ => enc mc l) (fun _ => (i : Int)) K := fun hK => idx_enc (l := l) i rfl hlt mc_flat mc_len (fun m' hm' => by rw [ht] at hm'; cases hm'; exact hK)
  have htz := hls t (List.mem_of_getElem? ht)
  have cs := s35 t.c (by have := htz.n; omega)
  have cv := s129 t.c htz
  have hd : l.drop i = t :: l.drop (i + 1) := drop_of_get ht
  have hvn : (¬ 0 < sgnQ t.c.q → r = false) := fun h => by rw [hv, hd]; unfold canM; rw [decide_eq_false h]; rfl
  have hvo : t.c.ok = false → r = false := fun h => by rw [hv, hd]; unfold canM; rw [h]; simp
  have hv0 : 0 < sgnQ t.c.q → t.c.ok = true → p = none → r = canM (some t.row) (l.drop (i + 1)) := fun h g e => by
   rw [hv, hd, e]
   show (decide (0 < sgnQ t.c.q) && (t.c.ok && (true && canM (some t.row) (l.drop (i + 1))))) = _
   rw [decide_eq_true h, g]; simp
  have hv1 : ∀ w, 0 < sgnQ t.c.q → t.c.ok = true → p = some w → r = (rowLt w t.row && canM (some t.row) (l.drop (i + 1))) := fun w h g e => by
   rw [hv, hd, e, rowLt_cmp]
   show (decide (0 < sgnQ t.c.q) && (t.c.ok && (decide (cmpRow w t.row < 0) && canM (some t.row) (l.drop (i + 1))))) = _
   rw [decide_eq_true h, g]; simp
  clear hv
  generalize sgnQ t.c.q = sg at *
  generalize t.c.ok = ok at *
  generalize hrest : canM (some t.row) (l.drop (i + 1)) = rest at *
  cbv
  refine draw_of 35 (by cbv) ?_
  cbv
  refine idx ?_
  cbv
  refine callS_d okA (cv) rfl ?_
  cbv
  refine br_bool (fun e2 => ?_) (fun e2 => ?_)
  rotate_left
  ·cbv
   (refine retC rfl ?_; cbv)
   exact leS_ff (hvo e2)
  cbv
  refine idx ?_
  cbv
  refine callS_d okA (cs) rfl ?_
  cbv
  refine br_dec (fun e1 => ?_) (fun e1 => ?_)
  ·cbv
   (refine retC rfl ?_; cbv)
   exact leS_ff (hvn (by omega))
  cbv
  refine br_dec (fun e3 => ?_) (fun e3 => ?_)
  ·cbv
   obtain ⟨u, hu, hu2⟩ := h4 om
   have cc := sLess u.row t.row
   have hvv := hv1 u.row (by omega) e2 hu2
   generalize rowLt u.row t.row = cr at *
   refine ⟨in64_of om om, idx_enc (l := l) (i - 1) om om mc_flat mc_len (fun u' hu' => ?_)⟩
   obtain rfl : u' = u := by rw [hu] at hu'; exact (Option.some.inj hu').symm
   cbv
   refine idx ?_
   cbv
   refine callS_d okA (cc) rfl ?_
   cbv
   refine cut_bool (fun e4 => ?_) (fun e4 => ?_)
   ·rw [e4, Bool.true_and] at hvv
    cbv
    exact ⟨in64_of om om, (i + 1, some t.row), ⟨om, hvv.trans hrest.symm, fun h => absurd h (by simp), fun _ => ⟨_, ht, rfl⟩⟩, om, .le (by cbv; exact ⟨leS_refl _, leS_int om, trivial⟩) (by cbv) rfl⟩
   ·cbv
    (refine retC rfl ?_; cbv)
    exact leS_ff (by rw [hvv, e4]; rfl)
  ·cbv
   have hvv := hv0 (by omega) e2 (h3 om)
   exact ⟨in64_of om om, (i + 1, some t.row), ⟨om, hvv.trans hrest.symm, fun h => absurd h (by simp), fun _ => ⟨_, ht, rfl⟩⟩, om, .le (by cbv; exact ⟨leS_refl _, leS_int om, trivial⟩) (by cbv) rfl⟩
 ·have : i = l.length := by rw [enc_len] at h5; (try dsimp only [ncast] at *); omega
  rw [this, List.drop_length] at hv
  have hv' : r = true := hv
  cbv
  (refine retC rfl ?_; cbv)
  exact leS_tt hv'
def plM (r : Row) (q : Rat) : List (Row × Rat) → List (Row × Rat)
 | [] => [(r, q)]
 | t :: rest => if rowLt t.1 r = true then t :: plM r q rest else if t.1 = r then (r, t.2 + q) :: rest else (r, q) :: t :: rest
def plMq (l : List (Row × Rat)) (r : Row) (q : Rat) : List (Row × Rat) := if sgnQ q = 0 then l else plM r q l
theorem mR_get {l : List (Row × Rat)} {i : Nat} {t : Row × Rat} (h : l[i]? = some t) : (mR l)[i]? = some ⟨t.1, ratR t.2⟩ := by unfold mR; rw [List.getElem?_map, h]; rfl
theorem mR_take (l : List (Row × Rat)) (n : Nat) : (mR l).take n = mR (l.take n) := by simp [mR, List.map_take]
structure Mfit (k : Nat) (l : List (Row × Rat)) : Prop where
 len : l.length < 2^37
 fit : ∀ t, t ∈ l → Fits k t.2
theorem wid_td {α : Type} {p : α → List PV} {n : Nat} (hn : ∀ a, (p a).length = n) (l : List α) (a b : Nat) : Wid n (fun _ => ((enc p l).take a).drop b) := ⟨fun e he => (enc_wid hn l).h e (List.mem_of_mem_take (List.mem_of_mem_drop he))⟩
theorem hfPlM : Pg.funcs[61]? = some Tryz.f61 := by rw [Pg_eq]; rfl
theorem sPlM (l : List (Row × Rat)) (r : Row) (c : R) (hl : Mfit (2^30) l) (hc : c.sz (2^30)) : SoundS 61 [mlv (mR l), rwv r, rv c] (mlv (mR (plMq l r c.q))) := by
 refine sound_fn hfPlM rfl rfl rfl rfl rfl ?_
 have cs := s35 c (by have := hc.n; omega)
 have cc := s47 c (hc.mono (by decide))
 have hadd : ∀ t, t ∈ l → SoundS 37 [rv (ratR t.2), rv c] (rv (ratR (t.2 + c.q))) := fun t ht => by
  have := s44 (ratR t.2) c ((ratR_sz (hl.fit t ht)).mono (by decide)) (hc.mono (by decide))
  rw [q_ratR] at this
  exact this
 have hll := hl.len
 have d0 : sgnQ c.q = 0 → plMq l r c.q = l := fun h => if_pos h
 have d1 : ¬ sgnQ c.q = 0 → plMq l r c.q = plM r c.q l := fun h => if_neg h
 have hless : ∀ t : Row × Rat, SoundS 93 [rwv t.1, rwv r] (.bool (fun _ => rowLt t.1 r)) := fun t => sLess t.1 r
 have hpn : plM r c.q [] = [(r, c.q)] := rfl
 have hpc : ∀ t rest, plM r c.q (t :: rest) = if rowLt t.1 r = true then t :: plM r c.q rest else if t.1 = r then (r, t.2 + c.q) :: rest else (r, c.q) :: t :: rest := fun _ _ => rfl
 obtain ⟨G, hG⟩ : ∃ G, plM r c.q = G := ⟨_, rfl⟩
 rw [hG] at d1 hpn hpc
 generalize plMq l r c.q = M at *
 generalize sgnQ c.q = sg at *
 generalize hcq : c.q = q at *
 clear hG hl hc hcq
 cbv
 refine callS' rfl okA (cs) rfl ?_
 cbv
 refine cut_dec (fun e0 => ?_) (fun e0 => ?_)
 ·have hM := d0 e0
  cbv
  subst hM
  (refine retC rfl ?_; cbv)
  exact leS_refl _
 have hM := d1 e0
 clear d0 d1 cs
 cbv
 refine loop_n (σ := Nat) (fun i => ⟨[(0, mlv (mR l)), (4, .ptr 4 0), (5, .ptr 5 0), (7, .int .i64 (fun _ => (i : Int)))], [(4, .box (rwc r)), (5, .box [.bool (fun _ => c.neg), nat c.num, nat c.den])]⟩)
  (fun i => i ≤ l.length ∧ M = l.take i ++ G (l.drop i)) (fun i => l.length - i) 0 ⟨om, by rw [hM]; rfl⟩ (.le ?_ ?_ rfl) ?_
 ·cbv
  exact ⟨leS_refl _, leS_refl _, leS_refl _, leS_refl _, trivial⟩
 ·cbv
  exact ⟨⟨leS_refl _, leS_refl _, leS_refl _, leS_refl _, trivial⟩, ⟨leS_refl _, leS_refl _, leS_refl _, trivial⟩, trivial⟩
 clear hM
 intro i hi
 obtain ⟨h1, h2⟩ := hi
 have hml := mR_len l
 have wid := enc_wid mc_len (mR (l.take i))
 have wid2 := enc_wid mc_len (mR l)
 by_cases hlt : i < l.length
 ·obtain ⟨t, ht⟩ := get_some hlt
  have hmem := List.mem_of_getElem? ht
  have hdr := drop_of_get ht
  rw [hdr, hpc] at h2
  have k1 : rowLt t.1 r = true → M = l.take (i + 1) ++ G (l.drop (i + 1)) := fun h => by
   rw [h2, if_pos h, List.take_add_one, ht]; simp
  have k2 : rowLt t.1 r = false → t.1 = r → M = l.take i ++ ([(r, t.2 + q)] ++ l.drop (i + 1)) := fun h g => by
   rw [h2, if_neg (by rw [h]; decide), if_pos g]; rfl
  have k3 : rowLt t.1 r = false → ¬ t.1 = r → M = l.take i ++ ([(r, q)] ++ l.drop i) := fun h g => by
   rw [h2, if_neg (by rw [h]; decide), if_neg g, hdr]; rfl
  clear h2
  have cl := hless t
  have ca := hadd t hmem
  obtain ⟨Y, hY⟩ : ∃ Y, ratR t.2 = Y := ⟨_, rfl⟩
  have hmt := mR_get ht
  rw [hY] at ca hmt
  have idx : ∀ {K : List PV → Prop}, K (mc ⟨t.1, Y⟩) → IdxOk 7 (fun _ => enc mc (mR l)) (fun _ => (i : Int)) K := fun hK => idx_enc (l := mR l) i rfl (by omega) mc_flat mc_len (fun m' hm' => by rw [hmt] at hm'; cases hm'; exact hK)
  generalize rowLt t.1 r = lt at *
  clear hless hadd hpc hpn
  cbv
  refine draw_of 13 (by cbv) ?_
  cbv
  refine br_yes (by rw [enc_len]; (try dsimp only [ncast] at *); omega) ?_
  cbv
  refine idx ?_
  cbv
  refine callS_d okA (cl) rfl ?_
  cbv
  refine cut_bool (fun e1 => ?_) (fun e1 => ?_)
  ·have hk := k1 e1
   cbv
   exact ⟨in64_of om om, i + 1, ⟨om, hk⟩, om, .le (by cbv; exact ⟨leS_refl _, leS_refl _, leS_refl _, leS_int om, trivial⟩) (by cbv; exact ⟨⟨leS_refl _, leS_refl _, leS_refl _, leS_refl _, trivial⟩, ⟨leS_refl _, leS_refl _, leS_refl _, trivial⟩, trivial⟩) rfl⟩
  have k2' := k2 e1
  have k3' := k3 e1
  clear k1 k2 k3 cl
  cbv
  refine ⟨slok_of om om (by rw [enc_len]; (try dsimp only [ncast] at *); omega), enc_wid mc_len _, ?_⟩
  refine app_nil tyMults rfl rfl (wid_td mc_len _ _ _) (room_of (by simp <;> omega) (by simp [enc_len, hml]; (try dsimp only [ncast] at *); omega)) rfl ?_
  cbv
  refine draw_of 13 (by cbv) ?_
  cbv
  refine br_yes (by rw [enc_len]; (try dsimp only [ncast] at *); omega) ?_
  cbv
  refine idx ?_
  cbv
  refine eqs_row ?_
  cbv
  refine cut_dec (fun e2 => ?_) (fun e2 => ?_)
  ·have hk := k2' e2
   have hX : mR [(r, t.2 + q)] = [⟨r, ratR (t.2 + q)⟩] := rfl
   generalize ratR (t.2 + q) = X at *
   cbv
   refine draw_of 11 (by cbv) ?_
   cbv
   refine idx ?_
   cbv
   refine callS_d okA (ca) rfl ?_
   cbv
   refine app_own tyMults rfl rfl rfl (by simp) rfl ⟨by simp [mapDD, mapD]⟩ (room_of (by simp [mapDD] <;> omega) (by simp [mapDD, enc_len, hml]; (try dsimp only [ncast] at *); omega)) rfl ?_
   cbv
   refine ⟨in64_of om om, ?_⟩
   cbv
   refine ⟨slok_of (by (try dsimp only [ncast] at *); omega) (by rw [enc_len]; (try dsimp only [ncast] at *); omega) (by rw [enc_len]; (try dsimp only [ncast] at *); omega), enc_wid mc_len _, ?_⟩
   refine app_own tyMults rfl rfl rfl (by simp) rfl (wid_td mc_len _ _ _) (room_of (by simp [mapDD] <;> omega) (by simp [mapDD, enc_len, hml]; (try dsimp only [ncast] at *); omega)) rfl ?_
   cbv
   refine retWC _ (.trans (.le (ps' := ⟨[(6, .osl 71 7 (fun _ => 0) (fun _ => M.length))], [(71, .arr 7 (fun _ => enc mc (mR M)))]⟩) ?_ ?_ rfl) (.frz 71 rfl rfl ?_ ?_)) rfl ?_
   ·cbv; exact ⟨leS_osl rfl (by rw [hk]; simp [mapDD, enc_len, hml]; (try dsimp only [ncast] at *); omega), trivial⟩
   ·cbv
    refine ⟨elsEq_of ?_, trivial⟩
    rw [hk, mR_app, mR_app, ← enc_app, ← enc_app, hX]
    simp [enc, mR, List.map_take, List.map_drop, List.take_of_length_le, mapDD]
    rfl
   ·cbv; exact ⟨frok_of (by simp [enc_len, mR_len]), trivial⟩
   ·exact trivial
   ·cbv; exact leS_sl (List.take_of_length_le (by simp [enc_len, mR_len]))
  ·have hk := k3' e2
   have hX : mR [(r, q)] = [⟨r, ratR q⟩] := rfl
   generalize ratR q = X at *
   cbv
   refine draw_of 6 (by cbv) ?_
   cbv
   refine callS_d okA (cc) rfl ?_
   cbv
   refine app_own tyMults rfl rfl rfl (by simp) rfl ⟨by simp [mapDD, mapD]⟩ (room_of (by simp [mapDD] <;> omega) (by simp [mapDD, enc_len, hml]; (try dsimp only [ncast] at *); omega)) rfl ?_
   cbv
   refine ⟨slok_of (by (try dsimp only [ncast] at *); omega) (by rw [enc_len]; (try dsimp only [ncast] at *); omega) (by rw [enc_len]; (try dsimp only [ncast] at *); omega), enc_wid mc_len _, ?_⟩
   refine app_own tyMults rfl rfl rfl (by simp) rfl (wid_td mc_len _ _ _) (room_of (by simp [mapDD] <;> omega) (by simp [mapDD, enc_len, hml]; (try dsimp only [ncast] at *); omega)) rfl ?_
   cbv
   refine retWC _ (.trans (.le (ps' := ⟨[(6, .osl 71 7 (fun _ => 0) (fun _ => M.length))], [(71, .arr 7 (fun _ => enc mc (mR M)))]⟩) ?_ ?_ rfl) (.frz 71 rfl rfl ?_ ?_)) rfl ?_
   ·cbv; exact ⟨leS_osl rfl (by rw [hk]; simp [mapDD, enc_len, hml]; (try dsimp only [ncast] at *); omega), trivial⟩
   ·cbv
    refine ⟨elsEq_of ?_, trivial⟩
    rw [hk, mR_app, mR_app, ← enc_app, ← enc_app, hX]
    simp [enc, mR, List.map_take, List.map_drop, List.take_of_length_le, mapDD]
    rfl
   ·cbv; exact ⟨frok_of (by simp [enc_len, mR_len]), trivial⟩
   ·exact trivial
   ·cbv; exact leS_sl (List.take_of_length_le (by simp [enc_len, mR_len]))
 ·have hi' : i = l.length := by omega
  have hk : M = l.take i ++ ([(r, q)] ++ l.drop i) := by rw [h2, hi', List.drop_length, hpn]; simp
  have hX : mR [(r, q)] = [⟨r, ratR q⟩] := rfl
  generalize ratR q = X at *
  clear h2 hpn hpc hless hadd
  cbv
  refine draw_of 13 (by cbv) ?_
  cbv
  refine br_no (by rw [enc_len]; (try dsimp only [ncast] at *); omega) ?_
  cbv
  refine ⟨slok_of om om (by rw [enc_len]; (try dsimp only [ncast] at *); omega), enc_wid mc_len _, ?_⟩
  refine app_nil tyMults rfl rfl (wid_td mc_len _ _ _) (room_of (by simp <;> omega) (by simp [enc_len, hml]; (try dsimp only [ncast] at *); omega)) rfl ?_
  cbv
  refine draw_of 13 (by cbv) ?_
  cbv
  refine br_no (by rw [enc_len]; (try dsimp only [ncast] at *); omega) ?_
  cbv
  refine draw_of 6 (by cbv) ?_
  cbv
  refine callS_d okA (cc) rfl ?_
  cbv
  refine app_own tyMults rfl rfl rfl (by simp) rfl ⟨by simp [mapDD, mapD]⟩ (room_of (by simp [mapDD] <;> omega) (by simp [mapDD, enc_len, hml]; (try dsimp only [ncast] at *); omega)) rfl ?_
  cbv
  refine ⟨slok_of (by (try dsimp only [ncast] at *); omega) (by rw [enc_len]; (try dsimp only [ncast] at *); omega) (by rw [enc_len]; (try dsimp only [ncast] at *); omega), enc_wid mc_len _, ?_⟩
  refine app_own tyMults rfl rfl rfl (by simp) rfl (wid_td mc_len _ _ _) (room_of (by simp [mapDD] <;> omega) (by simp [mapDD, enc_len, hml]; (try dsimp only [ncast] at *); omega)) rfl ?_
  cbv
  refine retWC _ (.trans (.le (ps' := ⟨[(6, .osl 71 7 (fun _ => 0) (fun _ => M.length))], [(71, .arr 7 (fun _ => enc mc (mR M)))]⟩) ?_ ?_ rfl) (.frz 71 rfl rfl ?_ ?_)) rfl ?_
  ·cbv; exact ⟨leS_osl rfl (by rw [hk]; simp [mapDD, enc_len, hml]; (try dsimp only [ncast] at *); omega), trivial⟩
  ·cbv
   refine ⟨elsEq_of ?_, trivial⟩
   rw [hk, mR_app, mR_app, ← enc_app, ← enc_app, hX]
   simp [enc, mR, List.map_take, List.map_drop, List.take_of_length_le, mapDD]
   rfl
  ·cbv; exact ⟨frok_of (by simp [enc_len, mR_len]), trivial⟩
  ·exact trivial
  ·cbv; exact leS_sl (List.take_of_length_le (by simp [enc_len, mR_len]))
end Go.Proofs.YtcanljninhfmhaaGreat

namespace Go.Proofs.YtcanljninhfmhaaGreat
open Go
set_option linter.unusedVariables false
set_option maxRecDepth 100000
set_option maxHeartbeats 2000000
theorem plM_len (r : Row) (q : Rat) : ∀ l, (plM r q l).length ≤ l.length + 1
 | [] => by simp [plM]
 | t :: rest => by
  have := plM_len r q rest
  unfold plM
  split
  ·simp; omega
  ·split <;> simp
theorem plM_fit {r : Row} {q : Rat} {k m : Nat} (hq : Fits m q) : ∀ {l : List (Row × Rat)}, (∀ t, t ∈ l → Fits k t.2) → ∀ t, t ∈ plM r q l → Fits (k + m + 1) t.2
 | [], _, t, h => by
  have : t = (r, q) := by simpa [plM] using h
  rw [this]; exact hq.mono (by omega)
 | a :: rest, hl, t, h => by
  unfold plM at h
  split at h
  ·rcases List.mem_cons.1 h with rfl | h
   ·exact (hl _ List.mem_cons_self).mono (by omega)
   ·exact plM_fit hq (fun u hu => hl u (List.mem_cons_of_mem _ hu)) t h
  ·split at h
   ·rcases List.mem_cons.1 h with rfl | h
    ·exact (fits_add (hl a List.mem_cons_self) hq).mono (by omega)
    ·exact (hl t (List.mem_cons_of_mem _ h)).mono (by omega)
   ·rcases List.mem_cons.1 h with rfl | h
    ·exact hq.mono (by omega)
    ·exact (hl t h).mono (by omega)
theorem plMq_fit {l : List (Row × Rat)} {r : Row} {q : Rat} {k m : Nat} (hq : Fits m q) (hl : ∀ t, t ∈ l → Fits k t.2) : ∀ t, t ∈ plMq l r q → Fits (k + m + 1) t.2 := fun t h => by
 unfold plMq at h
 split at h
 ·exact (hl t h).mono (by omega)
 ·exact plM_fit hq hl t h
theorem plMq_len (l : List (Row × Rat)) (r : Row) (q : Rat) : (plMq l r q).length ≤ l.length + 1 := by
 unfold plMq
 split
 ·omega
 ·exact plM_len r q l
end Go.Proofs.YtcanljninhfmhaaGreat

namespace Go.Proofs.YtcanljninhfmhaaGreat
open Go
set_option linter.unusedVariables false
set_option maxRecDepth 100000
set_option maxHeartbeats 2000000
theorem hfCopied : Pg.funcs[16]? = some Tryz.f16 := by rw [Pg_eq]; rfl
theorem sCopied (l : List Mult) (hl : l.length < 2^38) : SoundS 16 [mlv l] (mlv l) := by
 refine sound_fn hfCopied rfl rfl rfl rfl rfl ?_
 cbv
 refine app_nil tyMults rfl rfl (enc_wid mc_len _) (room_of (by simp only [enc_len]; omega) (by simp only [enc_len]; omega)) rfl ?_
 cbv
 refine retWC _ (.trans (.le (ps' := ⟨[(2, .osl 5 7 (fun _ => 0) (fun _ => l.length))], [(5, .arr 7 (fun _ => enc mc l))]⟩) ?_ ?_ rfl) (.frz 5 rfl rfl ?_ ?_)) rfl ?_
 ·cbv; exact ⟨leS_osl rfl (by rw [enc_len]), trivial⟩
 ·cbv; exact ⟨elsEq_of rfl, trivial⟩
 ·cbv; exact ⟨frok_of (by simp [enc_len]), trivial⟩
 ·exact trivial
 ·cbv; exact leS_sl (List.take_of_length_le (by simp [enc_len]))
def fewB (l : List Mult) : Bool := (l.all fun m => decide (m.c.num.length ≤ 2) && decide (m.c.den.length ≤ 2)) && decide (l.length ≤ 12)
theorem hfFew : Pg.funcs[13]? = some Tryz.f13 := by rw [Pg_eq]; rfl
theorem sFew (l : List Mult) (hl : l.length ≤ 9223372036854775807) : SoundS 13 [mlv l] (.bool (fun _ => fewB l)) := by
 refine sound_fn hfFew rfl rfl rfl rfl rfl ?_
 generalize hr : fewB l = r
 have hr0 : r = ((l.all fun m => decide (m.c.num.length ≤ 2) && decide (m.c.den.length ≤ 2)) && decide (l.length ≤ 12)) := hr.symm
 obtain ⟨A, hA⟩ : ∃ A : List Mult → Bool, (fun l : List Mult => l.all fun m => decide (m.c.num.length ≤ 2) && decide (m.c.den.length ≤ 2)) = A := ⟨_, rfl⟩
 have hc : ∀ m t, A (m :: t) = ((decide (m.c.num.length ≤ 2) && decide (m.c.den.length ≤ 2)) && A t) := fun m t => by rw [← hA]; rfl
 have hn : A [] = true := by rw [← hA]; rfl
 have hr1 : r = (A l && decide (l.length ≤ 12)) := by rw [hr0, ← hA]
 clear hr hr0 hA
 cbv
 refine loop_n (σ := Nat) (fun i => ⟨[(0, mlv l), (3, .int .i64 (fun _ => (i : Int)))], []⟩)
  (fun i => i ≤ l.length ∧ r = (A (l.drop i) && decide (l.length ≤ 12))) (fun i => l.length - i) 0 ⟨by omega, hr1⟩ (.le ?_ ?_ rfl) ?_
 ·cbv
  exact ⟨leS_refl _, leS_refl _, trivial⟩
 ·cbv
 clear hr1
 intro i hi
 obtain ⟨h1, h2⟩ := hi
 cbv
 refine cut_dec (fun h5 => ?_) (fun h5 => ?_)
 ·have hlt : i < l.length := by rw [enc_len] at h5; (try dsimp only [ncast] at *); omega
  obtain ⟨m, hm⟩ := get_some hlt
  have idx : ∀ {K : List PV → Prop}, K (mc m) → IdxOk 7 (fun _ => enc mc l) (fun _ => (i : Int)) K := fun hK => idx_enc (l := l) i rfl hlt mc_flat mc_len (fun m' hm' => by rw [hm] at hm'; cases hm'; exact hK)
  rw [drop_of_get hm, hc] at h2
  generalize hrest : A (l.drop (i + 1)) = rest at *
  clear hc
  cbv
  refine idx ?_
  cbv
  refine br_dec (fun e1 => ?_) (fun e1 => ?_)
  ·rw [lm_length] at e1
   cbv
   (refine retC rfl ?_; cbv)
   exact leS_ff (by rw [h2, decide_eq_false (p := m.c.num.length ≤ 2) (by (try dsimp only [ncast] at *); omega)]; rfl)
  rw [lm_length] at e1
  rw [decide_eq_true (p := m.c.num.length ≤ 2) (by (try dsimp only [ncast] at *); omega)] at h2
  cbv
  refine idx ?_
  cbv
  refine cut_dec (fun e2 => ?_) (fun e2 => ?_)
  ·rw [lm_length] at e2
   cbv
   (refine retC rfl ?_; cbv)
   exact leS_ff (by rw [h2, decide_eq_false (p := m.c.den.length ≤ 2) (by (try dsimp only [ncast] at *); omega)]; rfl)
  rw [lm_length] at e2
  rw [decide_eq_true (p := m.c.den.length ≤ 2) (by (try dsimp only [ncast] at *); omega), Bool.true_and, Bool.true_and] at h2
  cbv
  exact ⟨in64_of om om, i + 1, ⟨om, by rw [h2, hrest]⟩, om, .le (by cbv; exact ⟨leS_refl _, leS_int om, trivial⟩) (by cbv) rfl⟩
 ·have hi' : i = l.length := by rw [enc_len] at h5; (try dsimp only [ncast] at *); omega
  rw [hi', List.drop_length, hn, Bool.true_and] at h2
  cbv
  (refine retC rfl ?_; cbv)
  refine leS_bool ?_
  rw [h2, decide_eq_decide, enc_len]
  (try dsimp only [ncast] at *)
  omega
end Go.Proofs.YtcanljninhfmhaaGreat
