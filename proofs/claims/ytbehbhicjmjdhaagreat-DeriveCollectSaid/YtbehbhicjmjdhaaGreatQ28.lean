/- PLAIN LAWS: the data of the layers graph, region, rows, derive, as they come in; their cells; sizes; validity. No program in sight. * CONTRACTS: slices.IndexFunc, ContainsFunc; graph.Valid, region.Valid, rows.Valid, fits, Fits. -/
import Derived.Test.YtbehbhicjmjdhaaGreatQ27

namespace Go.Proofs.YtbehbhicjmjdhaaGreat
open Go
set_option linter.unusedVariables false

structure Row where
  k : Int
  i : Int
  lo : Int
  hi : Int
deriving DecidableEq
structure Mult where
  row : Row
  c : R
deriving DecidableEq
structure Dec where
  k : Int
  i : Int
  x : R
structure Lem where
  u : Int
  up : Bool
  v : R
  pf : List Mult
structure Grp where
  n : Int
  us : List A
  os : List A
structure Reg where
  lo : List R
  hi : List R
  rows : List A
structure Qry where
  g : Grp
  r : Reg
  goal : A
structure Scp where
  q : Qry
  path : List Dec
  lems : List Lem

abbrev rlv (l : List R) : PV := .sl (fun _ => enc rc l)
abbrev alv (l : List A) : PV := .sl (fun _ => enc ac l)
abbrev rwc (r : Row) : List PV := [.int .i64 (fun _ => r.k), .int .i64 (fun _ => r.i), .int .i64 (fun _ => r.lo), .int .i64 (fun _ => r.hi)]
abbrev rwv (r : Row) : PV := .agg [.int .i64 (fun _ => r.k), .int .i64 (fun _ => r.i), .int .i64 (fun _ => r.lo), .int .i64 (fun _ => r.hi)]
def mc (m : Mult) : List PV := [.int .i64 (fun _ => m.row.k), .int .i64 (fun _ => m.row.i), .int .i64 (fun _ => m.row.lo), .int .i64 (fun _ => m.row.hi), .bool (fun _ => m.c.neg), nat m.c.num, nat m.c.den]
abbrev mv (m : Mult) : PV := .agg [.int .i64 (fun _ => m.row.k), .int .i64 (fun _ => m.row.i), .int .i64 (fun _ => m.row.lo), .int .i64 (fun _ => m.row.hi), .bool (fun _ => m.c.neg), nat m.c.num, nat m.c.den]
abbrev mlv (l : List Mult) : PV := .sl (fun _ => enc mc l)
def dc (d : Dec) : List PV := [.int .i64 (fun _ => d.k), .int .i64 (fun _ => d.i), .bool (fun _ => d.x.neg), nat d.x.num, nat d.x.den]
abbrev dv (d : Dec) : PV := .agg [.int .i64 (fun _ => d.k), .int .i64 (fun _ => d.i), .bool (fun _ => d.x.neg), nat d.x.num, nat d.x.den]
abbrev dlv (l : List Dec) : PV := .sl (fun _ => enc dc l)
def lc (l : Lem) : List PV := [.int .i64 (fun _ => l.u), .bool (fun _ => l.up), .bool (fun _ => l.v.neg), nat l.v.num, nat l.v.den, mlv l.pf]
abbrev lv' (l : Lem) : PV := .agg [.int .i64 (fun _ => l.u), .bool (fun _ => l.up), .bool (fun _ => l.v.neg), nat l.v.num, nat l.v.den, mlv l.pf]
abbrev llv (l : List Lem) : PV := .sl (fun _ => enc lc l)
abbrev gv (g : Grp) : PV := .agg [.int .i64 (fun _ => g.n), alv g.us, alv g.os]
abbrev rgv (r : Reg) : PV := .agg [rlv r.lo, rlv r.hi, alv r.rows]
abbrev qv (q : Qry) : PV := .agg [.int .i64 (fun _ => q.g.n), alv q.g.us, alv q.g.os, rlv q.r.lo, rlv q.r.hi, alv q.r.rows, tsv q.goal.ts, .bool (fun _ => q.goal.c.neg), nat q.goal.c.num, nat q.goal.c.den]
def qc (q : Qry) : List PV := [.int .i64 (fun _ => q.g.n), alv q.g.us, alv q.g.os, rlv q.r.lo, rlv q.r.hi, alv q.r.rows, tsv q.goal.ts, .bool (fun _ => q.goal.c.neg), nat q.goal.c.num, nat q.goal.c.den]
abbrev sv (s : Scp) : PV := .agg [.int .i64 (fun _ => s.q.g.n), alv s.q.g.us, alv s.q.g.os, rlv s.q.r.lo, rlv s.q.r.hi, alv s.q.r.rows, tsv s.q.goal.ts, .bool (fun _ => s.q.goal.c.neg), nat s.q.goal.c.num, nat s.q.goal.c.den, dlv s.path, llv s.lems]
def sc (s : Scp) : List PV := [.int .i64 (fun _ => s.q.g.n), alv s.q.g.us, alv s.q.g.os, rlv s.q.r.lo, rlv s.q.r.hi, alv s.q.r.rows, tsv s.q.goal.ts, .bool (fun _ => s.q.goal.c.neg), nat s.q.goal.c.num, nat s.q.goal.c.den, dlv s.path, llv s.lems]
theorem mc_flat (a : Mult) : allL flat (mc a) = true := rfl
theorem mc_len (a : Mult) : (mc a).length = 7 := rfl
theorem dc_flat (a : Dec) : allL flat (dc a) = true := rfl
theorem dc_len (a : Dec) : (dc a).length = 5 := rfl
theorem lc_flat (a : Lem) : allL flat (lc a) = true := rfl
theorem lc_len (a : Lem) : (lc a).length = 6 := rfl

/-! ### Sizes -/

structure Asz (k : Nat) (l : List A) : Prop where
  len : l.length < 2^38
  sz : ∀ a, a ∈ l → a.sz k
structure Rsz (k : Nat) (l : List R) : Prop where
  len : l.length < 2^38
  sz : ∀ a, a ∈ l → a.sz k
structure Msz (k : Nat) (l : List Mult) : Prop where
  len : l.length < 2^38
  sz : ∀ a, a ∈ l → a.c.sz k
structure Dsz (k : Nat) (l : List Dec) : Prop where
  len : l.length < 2^38
  sz : ∀ a, a ∈ l → a.x.sz k
structure Lsz (k : Nat) (l : List Lem) : Prop where
  len : l.length < 2^38
  sz : ∀ a, a ∈ l → a.v.sz k
  pf : ∀ a, a ∈ l → Msz k a.pf
structure Grp.sz (g : Grp) (k : Nat) : Prop where
  us : Asz k g.us
  os : Asz k g.os
structure Reg.sz (r : Reg) (k : Nat) : Prop where
  lo : Rsz k r.lo
  hi : Rsz k r.hi
  rows : Asz k r.rows
structure Qry.sz (q : Qry) (k : Nat) : Prop where
  g : q.g.sz k
  r : q.r.sz k
  goal : q.goal.sz k
structure Scp.sz (s : Scp) (k : Nat) : Prop where
  q : s.q.sz k
  path : Dsz k s.path
  lems : Lsz k s.lems
theorem Asz.mono {k m : Nat} {l} (h : Asz k l) (hm : k ≤ m) : Asz m l := ⟨h.len, fun a ha => (h.sz a ha).mono hm⟩
theorem Rsz.mono {k m : Nat} {l} (h : Rsz k l) (hm : k ≤ m) : Rsz m l := ⟨h.len, fun a ha => (h.sz a ha).mono hm⟩
theorem Msz.mono {k m : Nat} {l} (h : Msz k l) (hm : k ≤ m) : Msz m l := ⟨h.len, fun a ha => (h.sz a ha).mono hm⟩
theorem Dsz.mono {k m : Nat} {l} (h : Dsz k l) (hm : k ≤ m) : Dsz m l := ⟨h.len, fun a ha => (h.sz a ha).mono hm⟩
theorem Lsz.mono {k m : Nat} {l} (h : Lsz k l) (hm : k ≤ m) : Lsz m l := ⟨h.len, fun a ha => (h.sz a ha).mono hm, fun a ha => (h.pf a ha).mono hm⟩
theorem Grp.sz.mono {k m : Nat} {g : Grp} (h : g.sz k) (hm : k ≤ m) : g.sz m := ⟨h.us.mono hm, h.os.mono hm⟩
theorem Reg.sz.mono {k m : Nat} {g : Reg} (h : g.sz k) (hm : k ≤ m) : g.sz m := ⟨h.lo.mono hm, h.hi.mono hm, h.rows.mono hm⟩
theorem Qry.sz.mono {k m : Nat} {g : Qry} (h : g.sz k) (hm : k ≤ m) : g.sz m := ⟨h.g.mono hm, h.r.mono hm, h.goal.mono hm⟩
theorem Scp.sz.mono {k m : Nat} {g : Scp} (h : g.sz k) (hm : k ≤ m) : g.sz m := ⟨h.q.mono hm, h.path.mono hm, h.lems.mono hm⟩

/-! ### Validity -/

def vU : Int → List A → Bool
  | _, [] => true
  | k, f :: r => f.valid k && vU (k + 1) r
def Grp.vars (g : Grp) : Int := g.n + g.us.length
def Grp.valid (g : Grp) : Bool := decide (1 ≤ g.n ∧ g.n ≤ 256 ∧ g.us.length ≤ 1024 ∧ 1 ≤ g.os.length ∧ g.os.length ≤ 256) && vU g.n g.us && g.os.all (A.valid g.vars)
def vB : List R → List R → Bool
  | l :: ls, h :: hs => l.ok && h.ok && decide (cmpQ l.q h.q ≤ 0) && vB ls hs
  | _, _ => true
def Reg.valid (n : Int) (r : Reg) : Bool := decide (1 ≤ n ∧ n ≤ 256 ∧ (r.lo.length : Int) = n ∧ (r.hi.length : Int) = n ∧ r.rows.length ≤ 256) && vB r.lo r.hi && r.rows.all (A.valid n)
def Qry.valid (q : Qry) : Bool := q.g.valid && q.r.valid q.g.n && q.goal.valid q.g.vars
def Dec.fits (q : Qry) (d : Dec) : Bool :=
  if d.k = 1 ∨ d.k = 2 then decide (0 ≤ d.i ∧ d.i < q.g.us.length) && decide (d.x = ⟨false, [], []⟩)
  else if d.k = 3 ∨ d.k = 4 then decide (0 ≤ d.i ∧ d.i < q.g.n) && d.x.ok
  else false

/-! ### The first that meets a condition -/

def idxF {α : Type} (P : α → Bool) : List α → Int
  | [] => -1
  | a :: r => if P a then 0 else if idxF P r < 0 then -1 else idxF P r + 1
theorem idxF_ge {α : Type} (P : α → Bool) : ∀ l : List α, -1 ≤ idxF P l
  | [] => by simp [idxF]
  | a :: r => by have := idxF_ge P r; simp only [idxF]; split <;> (try split) <;> omega
theorem idxF_iff {α : Type} (P : α → Bool) : ∀ l : List α, 0 ≤ idxF P l ↔ l.any P = true
  | [] => by simp [idxF]
  | a :: r => by
    have ih := idxF_iff P r
    rw [List.any_cons, Bool.or_eq_true, ← ih]
    rw [show idxF P (a :: r) = if P a then 0 else if idxF P r < 0 then -1 else idxF P r + 1 from rfl]
    by_cases h : P a = true
    · simp [h]
    · rw [if_neg h]
      have : (P a = true ∨ 0 ≤ idxF P r) ↔ 0 ≤ idxF P r := ⟨fun g => g.resolve_left h, .inr⟩
      rw [this]
      split <;> omega
theorem idxF_any {α : Type} (P : α → Bool) (l : List α) : decide (0 ≤ idxF P l) = l.any P := by
  rw [Bool.eq_iff_iff, decide_eq_true_eq, idxF_iff]
theorem les_refl : ∀ a : PV, les a a
  | .agg cs => allLe_refl1 cs
  | .tup cs => allLe_refl1 cs
  | .fn f cs => ⟨nqb_self f, allLe_refl1 cs⟩
  | .int k n => leS_refl _
  | .tt => leS_refl _
  | .ff => leS_refl _
  | .bool b => leS_refl _
  | .nbool b => leS_refl _
  | .str s => leS_refl _
  | .nil => leS_refl _
  | .sl els => leS_refl _
  | .ptr n o => leS_refl _
  | .aptr n s i o => leS_refl _
  | .dptr cs o => leS_refl _
  | .osl n s o l => leS_refl _
  | .nilf => leS_refl _
  | .any => leS_refl _
where
  les1_refl : ∀ a : PV, les1 a a
    | .agg cs => allLeS_refl cs
    | .tup cs => allLeS_refl cs
    | .fn f cs => leS_refl _
    | .int k n => leS_refl _
    | .tt => leS_refl _
    | .ff => leS_refl _
    | .bool b => leS_refl _
    | .nbool b => leS_refl _
    | .str s => leS_refl _
    | .nil => leS_refl _
    | .sl els => leS_refl _
    | .ptr n o => leS_refl _
    | .aptr n s i o => leS_refl _
    | .dptr cs o => leS_refl _
    | .osl n s o l => leS_refl _
    | .nilf => leS_refl _
    | .any => leS_refl _
  allLeS_refl : ∀ l : List PV, allLe LeS l l
    | [] => trivial
    | a :: r => ⟨leS_refl a, allLeS_refl r⟩
  allLe_refl1 : ∀ l : List PV, allLe les1 l l
    | [] => trivial
    | a :: r => ⟨les1_refl a, allLe_refl1 r⟩
theorem lesL_refl : ∀ l : List PV, allLe les l l
  | [] => trivial
  | a :: r => ⟨les_refl a, lesL_refl r⟩
theorem les1L_refl (l : List PV) : allLe les1 l l := les_refl.allLe_refl1 l

/-! ### To keep of a state what is named -/

def selT (T : List (Nat × PV)) : List Nat → List (Nat × PV)
  | [] => []
  | t :: r => (t, lookT T t) :: selT T r
def selO (O : List (Nat × Obj')) : List Nat → List (Nat × Obj')
  | [] => []
  | n :: r => (match getO O n with
    | some o => (n, o) :: selO O r
    | none => selO O r)
def ndN : List Nat → Bool
  | [] => true
  | n :: r => !(nmHas n r) && ndN r
theorem objLe_refl : ∀ o : Obj', ObjLe o o
  | .box cs => lesL_refl cs
  | .arr s e => ⟨nqb_self s, ⟨rfl⟩⟩
theorem leT_sel (T : List (Nat × PV)) : ∀ L, leT T (selT T L)
  | [] => trivial
  | t :: r => ⟨les_refl _, leT_sel T r⟩
theorem leO_sel (O : List (Nat × Obj')) : ∀ M, leO O (selO O M)
  | [] => trivial
  | n :: r => by
    unfold selO
    cases h : getO O n with
    | none => exact leO_sel O r
    | some o =>
      refine ⟨?_, leO_sel O r⟩
      rw [h]
      exact objLe_refl o
theorem hasN_sel (O : List (Nat × Obj')) (m : Nat) : ∀ M, nmHas m M = false → hasN m (selO O M) = false
  | [], _ => rfl
  | n :: r, h => by
    simp only [nmHas, Bool.or_eq_false_iff] at h
    unfold selO
    cases getO O n with
    | none => exact hasN_sel O m r h.2
    | some o =>
      simp only [hasN, Bool.or_eq_false_iff]
      refine ⟨?_, hasN_sel O m r h.2⟩
      have := h.1
      cases hx : nqb n m with
      | false => rfl
      | true => rw [nqb_eq hx, nqb_self] at this; cases this
theorem ndO_sel (O : List (Nat × Obj')) : ∀ M, ndN M = true → ndO (selO O M) = true
  | [], _ => rfl
  | n :: r, h => by
    simp only [ndN, Bool.and_eq_true, Bool.not_eq_true'] at h
    unfold selO
    cases getO O n with
    | none => exact ndO_sel O r h.2
    | some o =>
      simp only [ndO, Bool.and_eq_true, Bool.not_eq_true']
      exact ⟨hasN_sel O n r h.1, ndO_sel O r h.2⟩
theorem Wk.sel (ps : PS) (L M : List Nat) (h : ndN M = true) : Wk ps ⟨selT ps.tmps L, selO ps.objs M⟩ := .le (leT_sel _ _) (leO_sel _ _) (ndO_sel _ _ h)
/-- A plain call behind which only what is named goes on. -/
theorem callP {g as_ dst ps K f caps args' r} (L M : List Nat) (hM : ndN M = true) (h1 : ev (lookT (selT ps.tmps L)) g = .fn f caps) (h2 : allLe les (evs (ev (lookT (selT ps.tmps L))) as_ ++ caps) args') (h3 : SoundS f args' r) (h5 : nmIn [] r = true)
    (h4 : K (put ⟨selT ps.tmps L, selO ps.objs M⟩ dst r)) : CallOk g as_ dst ps K := callW (Wk.sel ps L M hM) h1 h2 h3 h5 h4
theorem draw_ofP {ops : List Oper} {ps : PS} {K : PS → Prop} (k : Nat) (L M : List Nat) (hM : ndN M = true) (hd : drawOk ops k = true) (h : sopsWp ops (ops.take k) ⟨selT ps.tmps L, selO ps.objs M⟩ (fun ps'' => opsWp ops (ops.drop k) ps'' K)) : DrawK ops ps K :=
  ⟨.inl ⟨k, _, Wk.sel ps L M hM, hd, h⟩⟩
theorem draw_mkP {ops : List Oper} {ps : PS} {K : PS → Prop} (k : Nat) (L M : List Nat) (hM : ndN M = true) (hd : drawOk ops k = true) (hm : (ndO (makersOf (ops.take k)) && mkIn ⟨selT ps.tmps L, selO ps.objs M⟩ (makersOf (ops.take k))) = true)
    (h : msopsWp ops (ops.take k) ⟨selT ps.tmps L, selO ps.objs M⟩ (fun ps'' => mkFin ps''.tmps (makersOf (ops.take k)) = true ∧ opsWp ops (ops.drop k) ⟨ps''.tmps, ps''.objs ++ makersOf (ops.take k)⟩ K)) : DrawK ops ps K :=
  ⟨.inr (.inl ⟨k, _, Wk.sel ps L M hM, hd, hm, h⟩)⟩
end Go.Proofs.YtbehbhicjmjdhaaGreat

namespace Go.Proofs.YtbehbhicjmjdhaaGreat
open Go
set_option linter.unusedVariables false
set_option maxRecDepth 100000
set_option maxHeartbeats 1000000

theorem hfIdxA : Pg.funcs[125]? = some Tryz.f125 := by rw [Pg_eq]; rfl
theorem sIdxA (P : A → Bool) (l : List A) (hl : l.length < 2^40) (g : FuncId) (caps : List PV) (hg : ∀ a, a ∈ l → SoundS g (.agg (ac a) :: caps) (.bool (fun _ => P a))) :
    SoundS 125 [.sl (fun _ => enc ac l), .fn g caps] (.int .i64 (fun _ => idxF P l)) := by
  refine sound_fn hfIdxA rfl rfl rfl rfl rfl ?_
  generalize hr : idxF P l = r
  cbv
  refine loop_n (σ := Nat) (fun i => ⟨[(0, .sl (fun _ => enc ac l)), (1, .fn g caps), (7, .int .i64 (fun _ => (l.length : Int))), (8, .int .i64 (fun _ => (i : Int)))], []⟩)
    (fun i => i ≤ l.length ∧ r = (if idxF P (l.drop i) < 0 then -1 else idxF P (l.drop i) + i)) (fun i => l.length - i) 0 ⟨(by (try dsimp only [ncast] at *) <;> (try simp only [lm_length] at *) <;> omega), ?_⟩ (.le ?_ ?_ rfl) ?_
  · rw [List.drop_zero, hr]
    have := idxF_ge P l
    rw [hr] at this
    split <;> omega
  · cbv
    exact ⟨leS_refl _, (by cases caps <;> first | trivial | exact ⟨les_refl.les1_refl _, les1L_refl _⟩), leS_int (by (try dsimp only [ncast] at *); rw [enc_len]), leS_refl _, trivial⟩
  · cbv
  intro i hs
  obtain ⟨h1, h2⟩ := hs
  cbv
  refine cut_dec (fun h5 => ?_) (fun h5 => ?_)
  · cbv
    refine idx_enc (l := l) i (by (try dsimp only [ncast] at *) <;> (try simp only [lm_length] at *) <;> omega) (by (try dsimp only [ncast] at *) <;> (try simp only [lm_length] at *) <;> omega) ac_flat ac_len (fun t ht => ?_)
    have hc := hg t (List.mem_of_getElem? ht)
    rw [drop_of_get ht, show idxF P (t :: l.drop (i + 1)) = if P t then 0 else if idxF P (l.drop (i + 1)) < 0 then -1 else idxF P (l.drop (i + 1)) + 1 from rfl] at h2
    have hge := idxF_ge P (l.drop (i + 1))
    generalize P t = p at *
    generalize hk : idxF P (l.drop (i + 1)) = k at *
    cbv
    refine callS' rfl (by exact ⟨les_refl _, lesL_refl caps⟩) hc rfl ?_
    cbv
    refine cut_bool (fun h6 => ?_) (fun h6 => ?_)
    · subst h6
      cbv
      (refine retC rfl ?_; cbv)
      exact leS_int (by (try dsimp only [ncast] at *); simp at h2; omega)
    · subst h6
      cbv
      refine ⟨in64_of (by (try dsimp only [ncast] at *) <;> (try simp only [lm_length] at *) <;> omega) (by (try dsimp only [ncast] at *) <;> (try simp only [lm_length] at *) <;> omega), i + 1, ⟨(by (try dsimp only [ncast] at *) <;> (try simp only [lm_length] at *) <;> omega), ?_⟩, (by (try dsimp only [ncast] at *) <;> (try simp only [lm_length] at *) <;> omega), .le ?_ ?_ rfl⟩
      · (try dsimp only [ncast] at *)
        simp only [Bool.false_eq_true, if_false] at h2
        rw [hk, h2]
        split <;> split <;> omega
      · cbv
        exact ⟨leS_refl _, (by cases caps <;> first | trivial | exact ⟨les_refl.les1_refl _, les1L_refl _⟩), leS_refl _, leS_int (by (try dsimp only [ncast] at *) <;> (try simp only [lm_length] at *) <;> omega), trivial⟩
      · cbv
  · have : i = l.length := (by (try dsimp only [ncast] at *) <;> (try simp only [lm_length] at *) <;> omega)
    rw [this, List.drop_length] at h2
    cbv
    (refine retC rfl ?_; cbv)
    exact leS_int (by rw [h2]; simp [idxF])
theorem hfHasA : Pg.funcs[100]? = some Tryz.f100 := by rw [Pg_eq]; rfl
theorem sHasA (P : A → Bool) (l : List A) (hl : l.length < 2^40) (g : FuncId) (caps : List PV) (hg : ∀ a, a ∈ l → SoundS g (.agg (ac a) :: caps) (.bool (fun _ => P a))) :
    SoundS 100 [.sl (fun _ => enc ac l), .fn g caps] (.bool (fun _ => l.any P)) := by
  refine sound_fn hfHasA rfl rfl rfl rfl rfl ?_
  have hc := sIdxA P l hl g caps hg
  rw [← idxF_any]
  generalize idxF P l = k at *
  cbv
  refine callS' rfl (by exact ⟨leS_refl _, ⟨nqb_self g, les1L_refl caps⟩, trivial⟩) hc rfl ?_
  cbv
  (refine retC rfl ?_; cbv)
  exact leS_refl _
theorem hfIdxM : Pg.funcs[44]? = some Tryz.f44 := by rw [Pg_eq]; rfl
theorem sIdxM (P : Mult → Bool) (l : List Mult) (hl : l.length < 2^40) (g : FuncId) (caps : List PV) (hg : ∀ a, a ∈ l → SoundS g (.agg (mc a) :: caps) (.bool (fun _ => P a))) :
    SoundS 44 [.sl (fun _ => enc mc l), .fn g caps] (.int .i64 (fun _ => idxF P l)) := by
  refine sound_fn hfIdxM rfl rfl rfl rfl rfl ?_
  generalize hr : idxF P l = r
  cbv
  refine loop_n (σ := Nat) (fun i => ⟨[(0, .sl (fun _ => enc mc l)), (1, .fn g caps), (7, .int .i64 (fun _ => (l.length : Int))), (8, .int .i64 (fun _ => (i : Int)))], []⟩)
    (fun i => i ≤ l.length ∧ r = (if idxF P (l.drop i) < 0 then -1 else idxF P (l.drop i) + i)) (fun i => l.length - i) 0 ⟨(by (try dsimp only [ncast] at *) <;> (try simp only [lm_length] at *) <;> omega), ?_⟩ (.le ?_ ?_ rfl) ?_
  · rw [List.drop_zero, hr]
    have := idxF_ge P l
    rw [hr] at this
    split <;> omega
  · cbv
    exact ⟨leS_refl _, (by cases caps <;> first | trivial | exact ⟨les_refl.les1_refl _, les1L_refl _⟩), leS_int (by (try dsimp only [ncast] at *); rw [enc_len]), leS_refl _, trivial⟩
  · cbv
  intro i hs
  obtain ⟨h1, h2⟩ := hs
  cbv
  refine cut_dec (fun h5 => ?_) (fun h5 => ?_)
  · cbv
    refine idx_enc (l := l) i (by (try dsimp only [ncast] at *) <;> (try simp only [lm_length] at *) <;> omega) (by (try dsimp only [ncast] at *) <;> (try simp only [lm_length] at *) <;> omega) mc_flat mc_len (fun t ht => ?_)
    have hc := hg t (List.mem_of_getElem? ht)
    rw [drop_of_get ht, show idxF P (t :: l.drop (i + 1)) = if P t then 0 else if idxF P (l.drop (i + 1)) < 0 then -1 else idxF P (l.drop (i + 1)) + 1 from rfl] at h2
    have hge := idxF_ge P (l.drop (i + 1))
    generalize P t = p at *
    generalize hk : idxF P (l.drop (i + 1)) = k at *
    cbv
    refine callS' rfl (by exact ⟨les_refl _, lesL_refl caps⟩) hc rfl ?_
    cbv
    refine cut_bool (fun h6 => ?_) (fun h6 => ?_)
    · subst h6
      cbv
      (refine retC rfl ?_; cbv)
      exact leS_int (by (try dsimp only [ncast] at *); simp at h2; omega)
    · subst h6
      cbv
      refine ⟨in64_of (by (try dsimp only [ncast] at *) <;> (try simp only [lm_length] at *) <;> omega) (by (try dsimp only [ncast] at *) <;> (try simp only [lm_length] at *) <;> omega), i + 1, ⟨(by (try dsimp only [ncast] at *) <;> (try simp only [lm_length] at *) <;> omega), ?_⟩, (by (try dsimp only [ncast] at *) <;> (try simp only [lm_length] at *) <;> omega), .le ?_ ?_ rfl⟩
      · (try dsimp only [ncast] at *)
        simp only [Bool.false_eq_true, if_false] at h2
        rw [hk, h2]
        split <;> split <;> omega
      · cbv
        exact ⟨leS_refl _, (by cases caps <;> first | trivial | exact ⟨les_refl.les1_refl _, les1L_refl _⟩), leS_refl _, leS_int (by (try dsimp only [ncast] at *) <;> (try simp only [lm_length] at *) <;> omega), trivial⟩
      · cbv
  · have : i = l.length := (by (try dsimp only [ncast] at *) <;> (try simp only [lm_length] at *) <;> omega)
    rw [this, List.drop_length] at h2
    cbv
    (refine retC rfl ?_; cbv)
    exact leS_int (by rw [h2]; simp [idxF])
theorem hfHasM : Pg.funcs[17]? = some Tryz.f17 := by rw [Pg_eq]; rfl
theorem sHasM (P : Mult → Bool) (l : List Mult) (hl : l.length < 2^40) (g : FuncId) (caps : List PV) (hg : ∀ a, a ∈ l → SoundS g (.agg (mc a) :: caps) (.bool (fun _ => P a))) :
    SoundS 17 [.sl (fun _ => enc mc l), .fn g caps] (.bool (fun _ => l.any P)) := by
  refine sound_fn hfHasM rfl rfl rfl rfl rfl ?_
  have hc := sIdxM P l hl g caps hg
  rw [← idxF_any]
  generalize idxF P l = k at *
  cbv
  refine callS' rfl (by exact ⟨leS_refl _, ⟨nqb_self g, les1L_refl caps⟩, trivial⟩) hc rfl ?_
  cbv
  (refine retC rfl ?_; cbv)
  exact leS_refl _
theorem hfIdxD : Pg.funcs[74]? = some Tryz.f74 := by rw [Pg_eq]; rfl
theorem sIdxD (P : Dec → Bool) (l : List Dec) (hl : l.length < 2^40) (g : FuncId) (caps : List PV) (hg : ∀ a, a ∈ l → SoundS g (.agg (dc a) :: caps) (.bool (fun _ => P a))) :
    SoundS 74 [.sl (fun _ => enc dc l), .fn g caps] (.int .i64 (fun _ => idxF P l)) := by
  refine sound_fn hfIdxD rfl rfl rfl rfl rfl ?_
  generalize hr : idxF P l = r
  cbv
  refine loop_n (σ := Nat) (fun i => ⟨[(0, .sl (fun _ => enc dc l)), (1, .fn g caps), (7, .int .i64 (fun _ => (l.length : Int))), (8, .int .i64 (fun _ => (i : Int)))], []⟩)
    (fun i => i ≤ l.length ∧ r = (if idxF P (l.drop i) < 0 then -1 else idxF P (l.drop i) + i)) (fun i => l.length - i) 0 ⟨(by (try dsimp only [ncast] at *) <;> (try simp only [lm_length] at *) <;> omega), ?_⟩ (.le ?_ ?_ rfl) ?_
  · rw [List.drop_zero, hr]
    have := idxF_ge P l
    rw [hr] at this
    split <;> omega
  · cbv
    exact ⟨leS_refl _, (by cases caps <;> first | trivial | exact ⟨les_refl.les1_refl _, les1L_refl _⟩), leS_int (by (try dsimp only [ncast] at *); rw [enc_len]), leS_refl _, trivial⟩
  · cbv
  intro i hs
  obtain ⟨h1, h2⟩ := hs
  cbv
  refine cut_dec (fun h5 => ?_) (fun h5 => ?_)
  · cbv
    refine idx_enc (l := l) i (by (try dsimp only [ncast] at *) <;> (try simp only [lm_length] at *) <;> omega) (by (try dsimp only [ncast] at *) <;> (try simp only [lm_length] at *) <;> omega) dc_flat dc_len (fun t ht => ?_)
    have hc := hg t (List.mem_of_getElem? ht)
    rw [drop_of_get ht, show idxF P (t :: l.drop (i + 1)) = if P t then 0 else if idxF P (l.drop (i + 1)) < 0 then -1 else idxF P (l.drop (i + 1)) + 1 from rfl] at h2
    have hge := idxF_ge P (l.drop (i + 1))
    generalize P t = p at *
    generalize hk : idxF P (l.drop (i + 1)) = k at *
    cbv
    refine callS' rfl (by exact ⟨les_refl _, lesL_refl caps⟩) hc rfl ?_
    cbv
    refine cut_bool (fun h6 => ?_) (fun h6 => ?_)
    · subst h6
      cbv
      (refine retC rfl ?_; cbv)
      exact leS_int (by (try dsimp only [ncast] at *); simp at h2; omega)
    · subst h6
      cbv
      refine ⟨in64_of (by (try dsimp only [ncast] at *) <;> (try simp only [lm_length] at *) <;> omega) (by (try dsimp only [ncast] at *) <;> (try simp only [lm_length] at *) <;> omega), i + 1, ⟨(by (try dsimp only [ncast] at *) <;> (try simp only [lm_length] at *) <;> omega), ?_⟩, (by (try dsimp only [ncast] at *) <;> (try simp only [lm_length] at *) <;> omega), .le ?_ ?_ rfl⟩
      · (try dsimp only [ncast] at *)
        simp only [Bool.false_eq_true, if_false] at h2
        rw [hk, h2]
        split <;> split <;> omega
      · cbv
        exact ⟨leS_refl _, (by cases caps <;> first | trivial | exact ⟨les_refl.les1_refl _, les1L_refl _⟩), leS_refl _, leS_int (by (try dsimp only [ncast] at *) <;> (try simp only [lm_length] at *) <;> omega), trivial⟩
      · cbv
  · have : i = l.length := (by (try dsimp only [ncast] at *) <;> (try simp only [lm_length] at *) <;> omega)
    rw [this, List.drop_length] at h2
    cbv
    (refine retC rfl ?_; cbv)
    exact leS_int (by rw [h2]; simp [idxF])
theorem hfHasD : Pg.funcs[41]? = some Tryz.f41 := by rw [Pg_eq]; rfl
theorem sHasD (P : Dec → Bool) (l : List Dec) (hl : l.length < 2^40) (g : FuncId) (caps : List PV) (hg : ∀ a, a ∈ l → SoundS g (.agg (dc a) :: caps) (.bool (fun _ => P a))) :
    SoundS 41 [.sl (fun _ => enc dc l), .fn g caps] (.bool (fun _ => l.any P)) := by
  refine sound_fn hfHasD rfl rfl rfl rfl rfl ?_
  have hc := sIdxD P l hl g caps hg
  rw [← idxF_any]
  generalize idxF P l = k at *
  cbv
  refine callS' rfl (by exact ⟨leS_refl _, ⟨nqb_self g, les1L_refl caps⟩, trivial⟩) hc rfl ?_
  cbv
  (refine retC rfl ?_; cbv)
  exact leS_refl _
end Go.Proofs.YtbehbhicjmjdhaaGreat
