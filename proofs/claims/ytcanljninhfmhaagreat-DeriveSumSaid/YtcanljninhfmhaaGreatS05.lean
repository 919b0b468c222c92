/- A part of the proof: PmD, PmE, PmF. -/
import Derived.Test.YtcanljninhfmhaaGreatS04
set_option linter.all false
namespace Go.Proofs.YtcanljninhfmhaaGreat
open Go
set_option linter.unusedVariables false
theorem nbeq {m n : Nat} (h : m ≠ n) : nqb m n = false := by
 cases hb : nqb m n with
 | false => rfl
 | true => exact absurd (nqb_eq hb) h
theorem ty_of {t : Nat} {x : Ty} (h : ty t = x) (hx : x ≠ .no) : tyOf Pg t = x := by
 rcases ty_ok t with h1 | h1
 ·exact absurd (h1 ▸ h).symm hx
 ·exact h1.trans h
theorem tySt_cases (P : Program) (i : TypeInfo) (fs : Array Field) : tySt P i fs = .no ∨ ∃ zs : Array Value, i.zero = some (.agg zs) ∧ (∀ f, f ∈ fs.toList → 0 < P.cellsOf f.type) ∧ zs.size = i.size ∧
  tySt P i fs = .st i.size (fs.toList.map fun f => (f.offset, P.cellsOf f.type, isAggT P f.type)) (zs.toList.map ofVal) := by
 unfold tySt
 split
 ·rename_i zs hz
  split
  ·rename_i h; exact .inr ⟨zs, hz, h.1, h.2, rfl⟩
  ·exact .inl rfl
 ·exact .inl rfl
theorem tySl_cases (P : Program) (i : TypeInfo) (e : TypeId) : tySl P i e = .no ∨ (i.size = 1 ∧ i.zero = some (.slice none 0 0) ∧ ∃ j zv, P.info? e = some j ∧ j.zero = some zv ∧ zv.cells.size = j.size ∧ 0 < j.size ∧ 0 < j.bytes ∧
  tySl P i e = .sli j.size j.bytes (zv.cells.toList.map ofVal)) := by
 unfold tySl
 split
 ·exact .inl rfl
 ·rename_i hs
  split
  ·rename_i j hz0 hj
   split
   ·rename_i zv hz
    split
    ·rename_i h; exact .inr ⟨by omega, hz0, j, zv, hj, hz, h.1, h.2.1, h.2.2, rfl⟩
    ·exact .inl rfl
   ·exact .inl rfl
  ·exact .inl rfl
theorem tyAr_cases (P : Program) (i : TypeInfo) (len : Nat) (e : TypeId) : tyAr P i len e = .no ∨ ∃ zs : Array Value, i.zero = some (.agg zs) ∧ zs.size = i.size ∧ i.size = len * P.cellsOf e ∧ 1 < len ∧ 0 < P.cellsOf e ∧ (P.underlying e).isSome = true ∧
  tyAr P i len e = .arr len (P.cellsOf e) (isAggT P e) (zs.toList.map ofVal) := by
 unfold tyAr
 split
 ·rename_i zs hz
  split
  ·rename_i h; exact .inr ⟨zs, hz, h.1, h.2.1, h.2.2.1, h.2.2.2.1, h.2.2.2.2, rfl⟩
  ·exact .inl rfl
 ·exact .inl rfl
theorem tySc_cases (i : TypeInfo) (d : TypeDesc) : tySc i d = .no ∨ ∃ zv, i.zero = some zv ∧ i.size = 1 ∧ zv.cells = #[zv] ∧ tySc i d = .sc (ofVal zv) ∧ (∀ k x, ofVal zv = .int k x → d = .int k) ∧ (ofVal zv = .ff → d = .bool) ∧
  (match d with | .struct _ => False | .array _ _ => False | _ => True) := by
 unfold tySc
 split
 ·rename_i zv hz
  split
  ·rename_i h
   split
   ·rename_i k k' n
    split
    ·rename_i hk; subst hk; exact .inr ⟨_, hz, h, rfl, rfl, fun k x hx => by simp [ofVal] at hx; rw [hx.1], fun hx => by simp [ofVal] at hx, trivial⟩
    ·exact .inl rfl
   ·exact .inr ⟨_, hz, h, rfl, rfl, fun k x hx => by simp [ofVal] at hx, fun _ => rfl, trivial⟩
   ·exact .inr ⟨_, hz, h, rfl, rfl, fun k x hx => by simp [ofVal] at hx, fun hx => by simp [ofVal] at hx, trivial⟩
   ·exact .inr ⟨_, hz, h, rfl, rfl, fun k x hx => by simp [ofVal] at hx, fun hx => by simp [ofVal] at hx, trivial⟩
   ·exact .inl rfl
  ·exact .inl rfl
 ·exact .inl rfl
theorem ty_sli {t n b : Nat} {z : List PV} (h : ty t = .sli n b z) :
  ∃ i e j zv, Pg.info? t = some i ∧ i.size = 1 ∧ i.zero = some (.slice none 0 0) ∧ Pg.underlying t = some (.slice e) ∧ Pg.info? e = some j ∧ j.zero = some zv ∧ j.size = n ∧ j.bytes = b ∧ zv.cells.size = n ∧ 0 < n ∧ z = zv.cells.toList.map ofVal ∧ 0 < b := by
 have h1 := ty_of h (by simp)
 unfold tyOf at h1
 split at h1
 ·rename_i i fs hi hu; rcases tySt_cases Pg i fs with e | ⟨zs, _, _, _, e⟩ <;> rw [e] at h1 <;> cases h1
 ·rename_i i e hi hu
  rcases tySl_cases Pg i e with e' | ⟨hi1, hi2, j, zv, hj, hz, hs, hp, hbp, e'⟩ <;> rw [e'] at h1 <;> cases h1
  exact ⟨i, e, j, zv, hi, hi1, hi2, hu, hj, hz, rfl, rfl, hs, hp, rfl, hbp⟩
 ·rename_i i len e hi hu; rcases tyAr_cases Pg i len e with e | ⟨zs, _, _, _, _, _, _, e⟩ <;> rw [e] at h1 <;> cases h1
 ·rename_i i d _ _ _ hi hu; rcases tySc_cases i d with e | ⟨zs, _, _, _, e, _⟩ <;> rw [e] at h1 <;> cases h1
 ·cases h1
theorem ty_st {t n : Nat} {fs : List (Nat × Nat × Bool)} {z : List PV} (h : ty t = .st n fs z) :
  ∃ i fields zs, Pg.info? t = some i ∧ Pg.underlying t = some (.struct fields) ∧ i.zero = some (.agg zs) ∧ i.size = n ∧ zs.size = n ∧
   fs = fields.toList.map (fun f => (f.offset, Pg.cellsOf f.type, isAggT Pg f.type)) ∧ z = zs.toList.map ofVal ∧ ∀ f, f ∈ fields.toList → 0 < Pg.cellsOf f.type := by
 have h1 := ty_of h (by simp)
 unfold tyOf at h1
 split at h1
 ·rename_i i fs hi hu
  rcases tySt_cases Pg i fs with e | ⟨zs, hz, hf, hs, e⟩ <;> rw [e] at h1 <;> cases h1
  exact ⟨i, fs, zs, hi, hu, hz, rfl, hs, rfl, rfl, hf⟩
 ·rename_i i e hi hu; rcases tySl_cases Pg i e with e' | ⟨_, _, j, zv, hj, hz, hs, hp, _, e'⟩ <;> rw [e'] at h1 <;> cases h1
 ·rename_i i len e hi hu; rcases tyAr_cases Pg i len e with e | ⟨zs, _, _, _, _, _, _, e⟩ <;> rw [e] at h1 <;> cases h1
 ·rename_i i d _ _ _ hi hu; rcases tySc_cases i d with e | ⟨zs, _, _, _, e, _⟩ <;> rw [e] at h1 <;> cases h1
 ·cases h1
theorem ty_arr {t len n : Nat} {ag : Bool} {z : List PV} (h : ty t = .arr len n ag z) :
  ∃ i e zs, Pg.info? t = some i ∧ Pg.underlying t = some (.array len e) ∧ i.zero = some (.agg zs) ∧ i.size = len * n ∧ zs.size = len * n ∧ Pg.cellsOf e = n ∧ isAggT Pg e = ag ∧ 1 < len ∧ 0 < n ∧ (Pg.underlying e).isSome = true ∧ z = zs.toList.map ofVal := by
 have h1 := ty_of h (by simp)
 unfold tyOf at h1
 split at h1
 ·rename_i i fs hi hu; rcases tySt_cases Pg i fs with e | ⟨zs, _, _, _, e⟩ <;> rw [e] at h1 <;> cases h1
 ·rename_i i e hi hu; rcases tySl_cases Pg i e with e' | ⟨_, _, j, zv, hj, hz, hs, hp, _, e'⟩ <;> rw [e'] at h1 <;> cases h1
 ·rename_i i len e hi hu
  rcases tyAr_cases Pg i len e with e' | ⟨zs, hz, h2, h3, h4, h5, h6, e'⟩ <;> rw [e'] at h1 <;> cases h1
  exact ⟨i, e, zs, hi, hu, hz, h3, h2.trans h3, rfl, rfl, h4, h5, h6, rfl⟩
 ·rename_i i d _ _ _ hi hu; rcases tySc_cases i d with e | ⟨zs, _, _, _, e, _⟩ <;> rw [e] at h1 <;> cases h1
 ·cases h1
theorem ty_sc {t : Nat} {z : PV} (h : ty t = .sc z) :
  ∃ i d zv, Pg.info? t = some i ∧ Pg.underlying t = some d ∧ i.size = 1 ∧ i.zero = some zv ∧ isAggT Pg t = false ∧ zv.cells = #[zv] ∧ z = ofVal zv ∧ (∀ k x, z = .int k x → d = .int k) ∧ (z = .ff → d = .bool) := by
 have h1 := ty_of h (by simp)
 unfold tyOf at h1
 split at h1
 ·rename_i i fs hi hu; rcases tySt_cases Pg i fs with e | ⟨zs, _, _, _, e⟩ <;> rw [e] at h1 <;> cases h1
 ·rename_i i e hi hu; rcases tySl_cases Pg i e with e' | ⟨_, _, j, zv, hj, hz, hs, hp, _, e'⟩ <;> rw [e'] at h1 <;> cases h1
 ·rename_i i len e hi hu; rcases tyAr_cases Pg i len e with e | ⟨zs, _, _, _, _, _, _, e⟩ <;> rw [e] at h1 <;> cases h1
 ·rename_i i d _ _ _ hi hu
  rcases tySc_cases i d with e | ⟨zv, hz, hs, hc, e, hk, hb, hd⟩ <;> rw [e] at h1 <;> cases h1
  exact ⟨i, d, zv, hi, hu, hs, hz, by unfold isAggT; rw [hu]; cases d <;> first | rfl | exact hd.elim, hc, rfl, hk, hb⟩
 ·cases h1
section inv
variable {w : World} {S : Nat → Nat → Prop} {β : Nat → Option Nat} {v : Value}
theorem rep_int {k n} (h : Rep w S β v (.int k n)) : v = .int k (n ()) := by
 cases h with | c hf h => cases h; rfl
theorem rep_tt (h : Rep w S β v .tt) : v = .bool true := by cases h with | c hf h => cases h; rfl
theorem rep_ff (h : Rep w S β v .ff) : v = .bool false := by cases h with | c hf h => cases h; rfl
theorem rep_bool {b} (h : Rep w S β v (.bool b)) : v = .bool (b ()) := by
 cases h with | c hf h => generalize hd : toD (.bool b) = d at h; cases h <;> simp [toD] at hd; subst hd; rfl
theorem rep_nbool {b} (h : Rep w S β v (.nbool b)) : v = .bool (!(b ())) := by
 cases h with | c hf h => generalize hd : toD (.nbool b) = d at h; cases h <;> simp [toD] at hd; simp [hd]
theorem rep_str {b} (h : Rep w S β v (.str b)) : v = .string (b ()) := by
 cases h with | c hf h => generalize hd : toD (.str b) = d at h; cases h <;> simp [toD] at hd; subst hd; rfl
theorem rep_nil (h : Rep w S β v .nil) : ∃ a, v = .slice a 0 0 := by
 cases h with | c hf h => cases hf | nil a => exact ⟨a, rfl⟩
theorem rep_agg {cs} (h : Rep w S β v (.agg cs)) : ∃ vs : Array Value, v = .agg vs ∧ vs.size = cs.length ∧ ∀ j, j < cs.length → Rep w S β (vs.getD j undef) (cs.getD j .any) := by
 cases h with | c hf h => cases hf | agg hl h => exact ⟨_, rfl, hl, h⟩
theorem rep_tup {cs} (h : Rep w S β v (.tup cs)) : ∃ vs : Array Value, v = .tuple vs ∧ vs.size = cs.length ∧ ∀ j, j < cs.length → Rep w S β (vs.getD j undef) (cs.getD j .any) := by
 cases h with | c hf h => cases hf | tup hl h => exact ⟨_, rfl, hl, h⟩
theorem rep_fn {f cs} (h : Rep w S β v (.fn f cs)) : ∃ vs : Array Value, v = .func (.func f) #[] vs ∧ vs.size = cs.length ∧ ∀ j, j < cs.length → Rep w S β (vs.getD j undef) (cs.getD j .any) := by
 cases h with | c hf h => cases hf | fn hl h => exact ⟨_, rfl, hl, h⟩
theorem rep_ptr {n o} (h : Rep w S β v (.ptr n o)) : ∃ b, β n = some b ∧ v = .pointer (some ⟨b, o, none⟩) := by
 cases h with | c hf h => cases hf | ptr hβ => exact ⟨_, hβ, rfl⟩
theorem rep_aptr {n s i o} (h : Rep w S β v (.aptr n s i o)) : ∃ b, β n = some b ∧ v = .pointer (some ⟨b, i () * s + o, none⟩) := by
 cases h with | c hf h => cases hf | aptr hβ => exact ⟨_, hβ, rfl⟩
theorem rep_dptr {cs o} (h : Rep w S β v (.dptr cs o)) : ∃ (b o' : Nat) (vals : Nat → Value), (∀ j, j < cs.length → S b (o' + j)) ∧ v = .pointer (some ⟨b, o' + o, none⟩) ∧ allL flat cs = true ∧
  (∀ j, j < cs.length → w.cell? ⟨b, o' + j, none⟩ = some (vals j)) ∧ ∀ j, j < cs.length → RepD w S (vals j) (toD (cs.getD j .any)) := by
 cases h with | c hf h => cases hf | dptr vals hS hf hc hr => exact ⟨_, _, vals, hS, rfl, hf, hc, hr⟩
theorem rep_osl {n s o len} (h : Rep w S β v (.osl n s o len)) : (β n = none ∧ o () = 0 ∧ len () = 0 ∧ ∃ a, v = .slice a 0 0) ∨
  ∃ b cap vs T, β n = some b ∧ len () ≤ cap ∧ w.heap[b]? = some (.cells vs T (0, 0)) ∧ (o () + cap) * s ≤ vs.size ∧ v = .slice (some ⟨b, o () * s, none⟩) (len ()) cap := by
 cases h with
 | c hf h => cases hf
 | osl hβ hlc hb hsz => exact .inr ⟨_, _, _, _, hβ, hlc, hb, hsz, rfl⟩
 | osl0 hβ ho hl => exact .inl ⟨hβ, ho, hl, _, rfl⟩
theorem repD_sl {els} (h : RepD w S v (.sl els)) : (els = [] ∧ ∃ a cap, v = .slice a 0 cap) ∨
  ∃ (b o cap s : Nat) (vals : Nat → Nat → Value), els ≠ [] ∧ els.length ≤ cap ∧ (∀ i j, i < els.length → j < s → S b (o + i * s + j)) ∧ (∀ e, e ∈ els → e.length = s) ∧
   (∀ i j, i < els.length → j < s → w.cell? ⟨b, o + i * s + j, none⟩ = some (vals i j)) ∧
   (∀ i j, i < els.length → j < s → RepD w S (vals i j) ((els.getD i []).getD j .any)) ∧ (∀ i j, i < els.length → j < s → (vals i j).oneCell' = true) ∧ v = .slice (some ⟨b, o, none⟩) els.length cap := by
 cases h with
 | sl0 a cap => exact .inl ⟨rfl, a, cap, rfl⟩
 | sl vals hne hcap hS hs hc h1 hr => exact .inr ⟨_, _, _, _, vals, hne, hcap, hS, hs, hc, hr, h1, rfl⟩
theorem rep_sl {els} (h : Rep w S β v (.sl els)) : RepD w S v (.sl (els ())) := by
 cases h with | c hf h => exact h
theorem rep_flat {pv} (h : Rep w S β v pv) (hf : flat pv = true) : RepD w S v (toD pv) := by
 cases h with
 | c hf h => exact h
 | _ => simp [flat] at hf
theorem rep_stor {pv} (h : Rep w S β v pv) (hf : stor pv = true) : RepD w S v (toD pv) := by
 cases pv with
 | nil => obtain ⟨a, rfl⟩ := rep_nil h; exact .sl0 _ _
 | _ => exact rep_flat h (by simpa [stor] using hf)
theorem rep_ofVal (v : Value) : Rep w S β v (ofVal v) := by
 unfold ofVal
 split
 ·exact .c rfl (.int _ _)
 ·exact .c rfl (.bool true)
 ·exact .c rfl (.bool false)
 ·exact .c rfl (.str _)
 ·exact .nil _
 ·exact .nilf
 ·exact .c rfl (.any _)
theorem rep_any (v : Value) : Rep w S β v .any := .c rfl (.any v)
end inv
structure Cx where
 n : Nat
 b0 : Nat → Option Nat
instance : Coe Cx Nat := ⟨Cx.n⟩
structure Sim (w0 : World) (S0 : Nat → Nat → Prop) (K0 : Nat → Prop) (N : Cx) (τ : Nat → PV) (objs : List (Nat × Obj')) (a : Act) (w : World) (S : Nat → Nat → Prop) (β : Nat → Option Nat) : Prop where
 dfr : a.defers = []
 sz : a.tmps.size = N
 ld : Leads w0 S0 K0 w S
 tmp : ∀ t, Rep w S β (a.tmps.getD t undef) (τ t)
 obj : ObjsAt w S β objs
 own : ∀ n o b, (n, o) ∈ objs → β n = some b → w0.heap.size ≤ b ∨ K0 b
 keep : ∀ n o, (n, o) ∈ objs → 1000000 ≤ n → β n = N.b0 n
def upd (τ : Nat → PV) (d : Option Nat) (x : PV) : Nat → PV :=
 match d with
 | none => τ
 | some d => fun t => if t = d then x else τ t
theorem look_put (l : List (Nat × PV)) (d : Nat) (x : PV) (t : Nat) : lookT (putT l d x) t = if t = d then x else lookT l t := by
 induction l with
 | nil =>
  by_cases h : t = d
  ·subst h; simp [putT, lookT]
  ·have : nqb d t = false := nbeq fun e => h e.symm
   simp [putT, lookT, this, h]
 | cons p r ih =>
  obtain ⟨u, v⟩ := p
  by_cases hu : u = d
  ·subst hu
   by_cases h : t = u
   ·subst h; simp [putT, lookT]
   ·have : nqb u t = false := nbeq fun e => h e.symm
    simp [putT, lookT, this, h]
  ·have h1 : nqb u d = false := nbeq hu
   by_cases h : u = t
   ·subst h; simp [putT, lookT, h1, hu]
   ·have h2 : nqb u t = false := nbeq h
    simp [putT, lookT, h1, h2, ih]
theorem look_puts (ps : PS) (d : Option Nat) (x : PV) : lookT (put ps d x).tmps = upd (lookT ps.tmps) d x := by
 cases d with
 | none => rfl
 | some d => funext t; simp [put, upd, look_put]
theorem objs_put (ps : PS) (d : Option Nat) (x : PV) : (put ps d x).objs = ps.objs := by cases d <;> rfl
section sim
variable {w0 : World} {S0 : Nat → Nat → Prop} {K0 : Nat → Prop} {N : Cx} {τ : Nat → PV} {objs : List (Nat × Obj')} {a : Act} {w : World} {S : Nat → Nat → Prop} {β : Nat → Option Nat}
theorem Sim.put (h : Sim w0 S0 K0 N τ objs a w S β) (d : Option Nat) (hd : ∀ t, d = some t → t < N) {v : Value} {x : PV} (hv : Rep w S β v x) :
  Sim w0 S0 K0 N (upd τ d x) objs (a.put d v) w S β := by
 cases d with
 | none => exact h
 | some d =>
  have hN := hd d rfl
  refine ⟨h.dfr, by simpa [Act.put] using h.sz, h.ld, fun t => ?_, h.obj, h.own, h.keep⟩
  simp only [upd]
  by_cases ht : t = d
  ·subst ht
   have : t < a.tmps.size := by rw [h.sz]; exact hN
   simpa [Act.put, this] using hv
  ·rw [if_neg ht]
   have := h.tmp t
   simpa [Act.put, Array.getElem?_setIfInBounds_ne (Ne.symm ht)] using this
theorem Sim.eval (h : Sim w0 S0 K0 N τ objs a w S β) (x : Operand) : Rep w S β (a.eval x) (ev τ x) := by
 cases x with
 | tmp t => exact h.tmp t
 | const v => exact rep_ofVal v
 | global g => exact rep_any _
 | func f => exact .fn rfl (fun j hj => by simp at hj)
theorem getO_mem {l : List (Nat × Obj')} {n : Nat} {o : Obj'} (h : getO l n = some o) : (n, o) ∈ l := by
 induction l with
 | nil => simp [getO] at h
 | cons p r ih =>
  obtain ⟨u, v⟩ := p
  simp only [getO] at h
  cases hu : nqb u n with
  | true => simp only [hu, cond_true, Option.some.injEq] at h; have := nqb_eq hu; subst this h; exact List.mem_cons_self
  | false => simp only [hu, cond_false] at h; exact List.mem_cons_of_mem _ (ih h)
end sim
end Go.Proofs.YtcanljninhfmhaaGreat

namespace Go.Proofs.YtcanljninhfmhaaGreat
open Go
set_option linter.unusedVariables false
set_option linter.unusedSimpArgs false
theorem wp_val {o : Oper} {a : Act} {w w' : World} {v : Value} {Km : Act → World → Prop} {Q : Exit → Act → World → Prop}
  (h : (execOp a.eval o).run Pg w = .ok (.value v) w') (hk : Km (a.put o.dst v) w') : o.wp Pg a w Km Q := by
 unfold Oper.wp
 rw [h]
 exact hk
theorem wp_skip' {o : Oper} {a : Act} {w w' : World} {Km : Act → World → Prop} {Q : Exit → Act → World → Prop}
  (h : (execOp a.eval o).run Pg w = .ok .skip w') (hk : Km (a.put o.dst undef) w') : o.wp Pg a w Km Q := by
 unfold Oper.wp
 rw [h]
 exact hk
theorem run_info {t : TypeId} {i : TypeInfo} (h : Pg.info? t = some i) (w : World) : (typeInfo t).run Pg w = .ok i w := by
 simp [typeInfo, h]
theorem run_size {t : TypeId} {i : TypeInfo} (h : Pg.info? t = some i) (w : World) : (sizeOf t).run Pg w = .ok i.size w := by
 simp [sizeOf, run_info h]
theorem run_zero {t : TypeId} {i : TypeInfo} {z : Value} (h : Pg.info? t = some i) (hz : i.zero = some z) (w : World) : (zeroValue t).run Pg w = .ok z w := by
 simp [zeroValue, run_info h, hz]
theorem info_of_cells {t : TypeId} (h : 0 < Pg.cellsOf t) : ∃ i, Pg.info? t = some i ∧ i.size = Pg.cellsOf t := by
 unfold Program.cellsOf at *
 cases hi : Pg.info? t with
 | none => simp [hi] at h
 | some i => exact ⟨i, rfl, by simp⟩
theorem run_isAgg {t : TypeId} {d : TypeDesc} (h : Pg.underlying t = some d) (w : World) : (isAgg t).run Pg w = .ok (isAggT Pg t) w := by
 unfold isAgg isAggT
 simp only [Sem.run_bind, run_underlying h, Result.andThen_ok, h]
 cases d <;> rfl
theorem addr_add (b o n : Nat) : (⟨b, o, none⟩ : Addr).add n = ⟨b, o + n, none⟩ := by
 unfold Addr.add
 split
 ·rename_i h; subst h; rfl
 ·rfl
theorem ty_load {t : Nat} (h : (ty t).isNo = false) : ∃ i d, Pg.info? t = some i ∧ Pg.underlying t = some d ∧ i.size = (ty t).cells ∧ isAggT Pg t = (ty t).isA := by
 cases ht : ty t with
 | no => simp [ht, Ty.isNo] at h
 | sc z => obtain ⟨i, d, zv, h1, h2, h3, _, h5, _⟩ := ty_sc ht; exact ⟨i, d, h1, h2, h3, h5⟩
 | st n fs z => obtain ⟨i, fields, zs, h1, h2, _, h4, _⟩ := ty_st ht; exact ⟨i, _, h1, h2, h4, by simp [isAggT, h2, Ty.isA]⟩
 | arr len n ag z => obtain ⟨i, e, zs, h1, h2, _, h4, _⟩ := ty_arr ht; exact ⟨i, _, h1, h2, h4, by simp [isAggT, h2, Ty.isA]⟩
 | sli n b z => obtain ⟨i, e, j, zv, h1, h2, _, h3, _⟩ := ty_sli ht; exact ⟨i, _, h1, h3, h2, by simp [isAggT, h3, Ty.isA]⟩
theorem cells_one {t : Nat} (h : (ty t).isNo = false) (ha : (ty t).isA = false) : (ty t).cells = 1 := by
 cases ht : ty t <;> simp [ht, Ty.isNo, Ty.isA, Ty.cells] at *
theorem run_loadAt {t : Nat} (hno : (ty t).isNo = false) {w : World} {b o : Nat} (vals : Nat → Value) (hc : ∀ j, j < (ty t).cells → w.cell? ⟨b, o + j, none⟩ = some (vals j)) :
  (Instr.loadAt t (.pointer (some ⟨b, o, none⟩))).run Pg w = .ok (if (ty t).isA then .agg ((List.range (ty t).cells).map vals).toArray else vals 0) w := by
 obtain ⟨i, d, hi, hu, hs, ha⟩ := ty_load hno
 have hl := run_loadCells (P := Pg) w ⟨b, o, none⟩ (ty t).cells vals (fun j hj => by rw [addr_add]; exact hc j hj)
 cases hA : (ty t).isA with
 | true =>
  simp [Instr.loadAt, Instr.sureAddr, loadVar, run_isAgg hu, ha, hA, run_size hi, hs, hl]
 | false =>
  have h1 := cells_one hno hA
  have hc0 := hc 0 (by omega)
  simp only [Nat.add_zero] at hc0
  simp [Instr.loadAt, Instr.sureAddr, loadVar, run_isAgg hu, ha, hA, hc0]
section
variable {w : World} {S : Nat → Nat → Prop} {β : Nat → Option Nat}
theorem getD_drop_take (cs : List PV) (off n j : Nat) (hj : j < n) (hn : off + n ≤ cs.length) : ((cs.drop off).take n).getD j .any = cs.getD (off + j) .any := by
 simp only [List.getD_eq_getElem?_getD]
 rw [List.getElem?_take_of_lt hj, List.getElem?_drop]
theorem rdK_sound {t : Nat} {cs : List PV} {off : Nat} {K : PV → Prop} (h : rdK (ty t) cs off K) {b o : Nat} (vals : Nat → Value)
  (hc : ∀ j, j < cs.length → w.cell? ⟨b, o + j, none⟩ = some (vals j)) (hr : ∀ j, j < cs.length → Rep w S β (vals j) (cs.getD j .any)) :
  ∃ pv val, K pv ∧ (Instr.loadAt t (.pointer (some ⟨b, o + off, none⟩))).run Pg w = .ok val w ∧ Rep w S β val pv := by
 unfold rdK at h
 cases hno : (ty t).isNo with
 | true => simp [hno] at h
 | false =>
  simp only [hno, cond_false] at h
  cases hle : nle (off + (ty t).cells) cs.length with
  | false => simp [hle] at h
  | true =>
   simp only [hle, cond_true] at h
   have hle := nle_le hle
   refine ⟨_, _, h, run_loadAt hno (fun j => vals (off + j)) (fun j hj => by rw [Nat.add_assoc]; exact hc _ (by omega)), ?_⟩
   cases hA : (ty t).isA with
   | true =>
    simp only [cond_true, if_true]
    refine .agg (by simp; omega) fun j hj => ?_
    have hj' : j < (ty t).cells := by simp at hj; omega
    rw [getD_drop_take _ _ _ _ hj' hle]
    simpa [hj'] using hr (off + j) (by omega)
   | false =>
    have h1 := cells_one hno hA
    simpa using hr off (by omega)
theorem rep_of_flats {cs : List PV} {vals : Nat → Value} (hf : allL flat cs = true) (hr : ∀ j, j < cs.length → RepD w S (vals j) (toD (cs.getD j .any))) (j : Nat) (hj : j < cs.length) :
  Rep w S β (vals j) (cs.getD j .any) := .c (allL_getD rfl hf j) (hr j hj)
theorem mapD_getD : ∀ (c : List PV) (j : Nat), (mapD c).getD j .any = toD (c.getD j .any)
 | [], j => by simp [mapD, toD]
 | x :: c, 0 => by simp [mapD]
 | x :: c, j + 1 => by simpa [mapD] using mapD_getD c j
theorem mapD_length : ∀ (c : List PV), (mapD c).length = c.length
 | [] => rfl
 | x :: c => by simp [mapD, mapD_length c]
end
end Go.Proofs.YtcanljninhfmhaaGreat

namespace Go.Proofs.YtcanljninhfmhaaGreat
open Go
set_option linter.unusedVariables false
set_option linter.unusedSimpArgs false
section
variable {w : World} {S : Nat → Nat → Prop} {β : Nat → Option Nat} {K : PV → Prop}
theorem brV_sound {v : Value} {x : PV} {A B : Unit → Prop} (hr : Rep w S β v x) (h : brV x A B) : ∃ b, v = .bool b ∧ (b = true → A ()) ∧ (b = false → B ()) := by
 unfold brV at h
 split at h
 ·exact ⟨true, rep_tt hr, fun _ => h, fun e => by cases e⟩
 ·exact ⟨false, rep_ff hr, fun e => (by cases e), fun _ => h⟩
 ·exact ⟨_, rep_bool hr, fun e => h.t e, fun e => h.f e⟩
 ·exact ⟨_, rep_nbool hr, fun e => h.f (by simpa using e), fun e => h.t (by simpa using e)⟩
 ·exact h.elim
theorem bbeq (a b : Bool) : (a == b) = decide (a = b) := by cases a <;> cases b <;> rfl
theorem ibeq (a b : Int) : (a == b) = decide (a = b) := by rw [Bool.eq_iff_iff]; simp
theorem in64 {z : Unit → Int} (h : InI64 z) : IntKind.i64.wrap (z ()) = z () := IntWalk.i64_in _ ⟨h.lo, h.hi⟩
theorem rep_i (k : IntKind) (n : Unit → Int) : Rep w S β (.int k (n ())) (.int k n) := .c rfl (.int _ _)
theorem rep_b (b : Unit → Bool) : Rep w S β (.bool (b ())) (.bool b) := .c rfl (.bool _)
theorem rep_nb (b : Unit → Bool) : Rep w S β (.bool (!(b ()))) (.nbool b) := .c rfl (.bool _)
theorem arK_sound {k : IntKind} {z : Unit → Int} (h : arK k z K) : ∃ pv, K pv ∧ Rep w S β (.int k (k.wrap (z ()))) pv := by
 unfold arK at h
 split at h
 ·exact ⟨_, h.2, by rw [in64 h.1]; exact rep_i _ _⟩
 ·exact ⟨_, h, by have := rep_i (w := w) (S := S) (β := β) k (fun _ => nx k (z ())); unfold nx at this ⊢; exact this⟩
theorem run_eqGuard_plain (op : BinOp) (t : TypeId) (x y : Operand) (v u : Value) (h : ∀ cs, v ≠ .agg cs) (hn : v ≠ .nilIface) : (eqGuard op t x y v u).run Pg w = .ok () w := by
 unfold eqGuard
 cases op <;> first
  | rfl
  | (cases v <;> first
   | (exact absurd rfl (h _))
   | (exact absurd rfl hn)
   | (cases u <;> rfl))
theorem intK_sound {op : BinOp} {t : TypeId} {x y : Operand} {k k' : IntKind} {a b : Unit → Int} (h : intK op k a k' b K) :
  ∃ pv val, K pv ∧ (binOp op t (.int k (a ())) (.int k' (b ()))).run Pg w = .ok val w ∧ Rep w S β val pv := by
 unfold intK at h
 split at h
 ·refine ⟨_, _, h.2, ?_, rep_i k (fun _ => ishl k (a ()) (b ()))⟩
  have h0 : ¬ b () < 0 := by have := h.1.h; omega
  simp [binOp, Op.shift, h0, ishl]
 ·refine ⟨_, _, h.2, ?_, rep_i k (fun _ => ishr k (a ()) (b ()))⟩
  have h0 : ¬ b () < 0 := by have := h.1.h; omega
  simp [binOp, Op.shift, h0, ishr]
 ·rename_i op h1 h2
  cases hk : sameK k k' with
  | false => simp [hk] at h
  | true =>
   have hk' : k = k' := by simpa [sameK] using hk
   subst hk'
   simp only [hk, cond_true] at h
   split at h
   ·obtain ⟨pv, hp, hr⟩ := arK_sound (w := w) (S := S) (β := β) h; exact ⟨pv, _, hp, by simp [binOp, Op.intArith], hr⟩
   ·obtain ⟨pv, hp, hr⟩ := arK_sound (w := w) (S := S) (β := β) h; exact ⟨pv, _, hp, by simp [binOp, Op.intArith], hr⟩
   ·obtain ⟨pv, hp, hr⟩ := arK_sound (w := w) (S := S) (β := β) h; exact ⟨pv, _, hp, by simp [binOp, Op.intArith], hr⟩
   ·refine ⟨_, _, h.2, ?_, rep_i k (fun _ => nx k (iquo (a ()) (b ())))⟩
    have h0 := h.1.h
    simp [binOp, Op.intDiv, h0, nx, iquo]
   ·refine ⟨_, _, h.2, ?_, rep_i k (fun _ => irem (a ()) (b ()))⟩
    have h0 := h.1.h
    simp [binOp, Op.intDiv, h0, irem]
   ·exact ⟨_, _, h, by simp [binOp, Op.intBits, iand], rep_i k (fun _ => iand k (a ()) (b ()))⟩
   ·exact ⟨_, _, h, by simp [binOp, Op.intBits, ior], rep_i k (fun _ => ior k (a ()) (b ()))⟩
   ·exact ⟨_, _, h, by simp [binOp, Op.intCmp, ibeq], rep_b (fun _ => decide (a () = b ()))⟩
   ·exact ⟨_, _, h, by simp [binOp, Op.intCmp, bne, ibeq], rep_nb (fun _ => decide (a () = b ()))⟩
   ·exact ⟨_, _, h, by simp [binOp, Op.intCmp], rep_b (fun _ => decide (a () < b ()))⟩
   ·exact ⟨_, _, h, by simp [binOp, Op.intCmp], rep_b (fun _ => decide (a () ≤ b ()))⟩
   ·exact ⟨_, _, h, by simp [binOp, Op.intCmp], rep_b (fun _ => decide (b () < a ()))⟩
   ·exact ⟨_, _, h, by simp [binOp, Op.intCmp], rep_b (fun _ => decide (b () ≤ a ()))⟩
   ·exact h.elim
theorem ints_sound : ∀ {cs : List PV} {l : List (Unit → Int)}, intsOf cs = some l → ∀ {vs : List Value}, vs.length = cs.length → (∀ j, j < cs.length → Rep w S β (vs.getD j undef) (cs.getD j .any)) → vs = (force l).map (Value.int .i64) := by
 intro cs
 induction cs with
 | nil => intro l h vs hl _; simp [intsOf] at h; subst h; cases vs with
  | nil => rfl
  | cons v vs => simp at hl
 | cons c cs ih =>
  intro l h vs hl hr
  unfold intsOf at h
  split at h
  ·simp at *
  ·rename_i n r heq
   cases heq
   split at h
   ·rename_i l' hl'
    simp only [Option.some.injEq] at h
    subst h
    cases vs with
    | nil => simp at hl
    | cons v vs =>
     have h0 := rep_int (by simpa using hr 0 (by simp))
     have := ih hl' (vs := vs) (by simpa using hl) (fun j hj => by simpa using hr (j + 1) (by simp; omega))
     simp [force, h0, this]
   ·simp at h
  ·simp at h
theorem bval_sound {v : Value} {x : PV} {b : Unit → Bool} (h : bval x = some b) (hr : Rep w S β v x) : v = .bool (b ()) := by
 unfold bval at h
 split at h
 ·cases h; exact rep_tt hr
 ·cases h; exact rep_ff hr
 ·cases h; exact rep_bool hr
 ·cases h
theorem nilCmp_sound {t n b : Nat} {z : List PV} {x : Operand} {els : Unit → List (List D)} {v : Value} (hty : ty t = .sli n b z) (hx : Rep w S β v (.sl els)) (h : NilCmp els K) :
  ∃ pv val, K pv ∧ ((do eqGuard .eql t x (.const (.slice none 0 0)) v (.slice none 0 0); binOp .eql t v (.slice none 0 0) : Sem Value)).run Pg w = .ok val w ∧ Rep w S β val pv := by
 obtain ⟨inf, el, j, zv, h1, h2, h3, h4, _⟩ := ty_sli hty
 have hsl := rep_sl hx
 obtain ⟨ax, cap, hx'⟩ : ∃ ax cap, v = .slice ax (els ()).length cap := by
  rcases repD_sl hsl with ⟨e0, aa, cap, hv⟩ | ⟨bb, oo, cap, s, vals, _, _, _, _, _, _, _, hv⟩
  ·exact ⟨aa, cap, by rw [hv, e0]; rfl⟩
  ·exact ⟨_, cap, hv⟩
 have hcap0 : ax = none → els () = [] := by
  intro e
  subst e
  rcases repD_sl hsl with ⟨e0, aa, cap, hv⟩ | ⟨bb, oo, cap, s, vals, _, _, _, _, _, _, _, hv⟩
  ·exact e0
  ·rw [hx'] at hv; cases hv
 subst hx'
 refine ⟨_, _, h.h ax.isNone (fun e => hcap0 (by simpa using e)), ?_, rep_b (fun _ => ax.isNone)⟩
 rw [Sem.run_bind, run_eqGuard_plain _ _ _ _ _ _ (by intro cs e; cases e) (by intro e; cases e), Result.andThen_ok]
 simp only [binOp]
 simp [Op.equal, Op.maxDepth, Lib.run_equalIn_slice_nil w 9999 t el ax (els ()).length cap 0 0 h4]
theorem binK_sound {op : BinOp} {t : TypeId} {ox oy : Operand} {x y : PV} {v u : Value} (hoy : ∀ c, oy = .const c → u = c) (hx : Rep w S β v x) (hy : Rep w S β u y) (h : binK op t ox oy x y K) :
  ∃ pv val, K pv ∧ ((do eqGuard op t ox oy v u; binOp op t v u : Sem Value)).run Pg w = .ok val w ∧ Rep w S β val pv := by
 unfold binK at h
 split at h
 ·rename_i k a k' b
  have e1 := rep_int hx; have e2 := rep_int hy
  subst e1 e2
  obtain ⟨pv, val, h1, h2, h3⟩ := intK_sound (w := w) (S := S) (β := β) (t := t) (x := ox) (y := oy) h
  exact ⟨pv, val, h1, by simp [run_eqGuard_plain, h2], h3⟩
 ·rename_i l m
  split at h
  ·rename_i a b ha hb
   obtain ⟨vs, rfl, hl1, hr1⟩ := rep_agg hx
   obtain ⟨us, rfl, hl2, hr2⟩ := rep_agg hy
   have e1 : vs = ((force a).map (Value.int .i64)).toArray := by
    have := ints_sound ha (vs := vs.toList) (by simpa using hl1) (fun j hj => by simpa using hr1 j hj)
    rw [← this]
   have e2 : us = ((force b).map (Value.int .i64)).toArray := by
    have := ints_sound hb (vs := us.toList) (by simpa using hl2) (fun j hj => by simpa using hr2 j hj)
    rw [← this]
   obtain ⟨r, h1, h2⟩ := h.h
   refine ⟨_, _, h2, ?_, rep_b (fun _ => r)⟩
   rw [e1, e2]
   exact h1 w
  ·exact h.elim
 ·split at h
  ·rename_i hty
   have hu : Pg.underlying t = some .bool := by
    obtain ⟨i, d, zv, h1, h2, h3, h4, h5, h6, h7, h8, h9⟩ := ty_sc hty
    rw [h2, h9 rfl]
   split at h
   ·rename_i a b ha hb
    have e1 := bval_sound ha hx; have e2 := bval_sound hb hy
    subst e1 e2
    refine ⟨_, _, h, ?_, rep_b (fun _ => decide (a () = b ()))⟩
    simp [run_eqGuard_plain, binOp, Op.equal, Op.maxDepth, run_equalIn_bool' w 9999 t _ _ hu, bbeq]
   ·rename_i a b ha hb
    have e1 := bval_sound ha hx; have e2 := bval_sound hb hy
    subst e1 e2
    refine ⟨_, _, h, ?_, rep_nb (fun _ => decide (a () = b ()))⟩
    simp [run_eqGuard_plain, binOp, Op.equal, Op.maxDepth, run_equalIn_bool' w 9999 t _ _ hu, bbeq]
   ·exact h.elim
  ·exact h.elim
theorem field_of {t n : Nat} {fs : List (Nat × Nat × Bool)} {z : List PV} (ht : ty t = .st n fs z) {i off sz : Nat} {ag : Bool} (hi : fs[i]? = some (off, sz, ag)) :
  ∃ (fields : Array Field) (f : Field), Pg.underlying t = some (.struct fields) ∧ fields[i]? = some f ∧ f.offset = off ∧ Pg.cellsOf f.type = sz ∧ isAggT Pg f.type = ag ∧ 0 < sz := by
 obtain ⟨inf, fields, zs, h1, h2, _, _, _, hfs, _, hpos⟩ := ty_st ht
 rw [hfs] at hi
 rw [List.getElem?_map] at hi
 cases hf : fields.toList[i]? with
 | none => simp [hf] at hi
 | some f =>
  simp only [hf, Option.map_some, Option.some.injEq, Prod.mk.injEq] at hi
  obtain ⟨h3, h4, h5⟩ := hi
  refine ⟨fields, f, h2, by simpa using hf, h3, h4, h5, ?_⟩
  rw [← h4]
  exact hpos f (List.mem_of_getElem? hf)
theorem run_fieldAt {t n : Nat} {fs : List (Nat × Nat × Bool)} {z : List PV} (ht : ty t = .st n fs z) {i off sz : Nat} {ag : Bool} (hi : fs[i]? = some (off, sz, ag)) (b o : Nat) :
  (Instr.fieldAt t (.pointer (some ⟨b, o, none⟩)) i).run Pg w = .ok (.pointer (some ⟨b, o + off, none⟩)) w := by
 obtain ⟨fields, f, hu, hf, hoff, hsz, _, hp⟩ := field_of ht hi
 obtain ⟨inf, h1, h2⟩ := info_of_cells (t := f.type) (by omega)
 have h3 : inf.size ≠ 0 := by omega
 simp [Instr.fieldAt, run_underlying hu, hf, Instr.sureAddr, fieldPlace, run_size h1, h3, addr_add, hoff]
theorem run_indexAt_slice {t e : Nat} {j : TypeInfo} (hu : Pg.underlying t = some (.slice e)) (hj : Pg.info? e = some j) (b o len cap : Nat) (k : IntKind) (i : Int) (h0 : 0 ≤ i) (h1 : i < (len : Int)) :
  (Instr.indexAt t (.slice (some ⟨b, o, none⟩) len cap) (.int k i)).run Pg w = .ok (.pointer (some ⟨b, o + i.toNat * j.size, none⟩)) w := by
 simp [Instr.indexAt, asIntOf, run_underlying hu, h0, h1, run_size hj, addr_add]
theorem run_indexAt_array {t e len : Nat} {j : TypeInfo} (hu : Pg.underlying t = some (.array len e)) (hj : Pg.info? e = some j) (b o : Nat) (k : IntKind) (i : Int) (h0 : 0 ≤ i) (h1 : i < (len : Int)) :
  (Instr.indexAt t (.pointer (some ⟨b, o, none⟩)) (.int k i)).run Pg w = .ok (.pointer (some ⟨b, o + i.toNat * j.size, none⟩)) w := by
 simp [Instr.indexAt, asIntOf, run_underlying hu, h0, h1, run_size hj, addr_add, Instr.sureAddr]
theorem run_sliceAt_any {t e : Nat} (hu : Pg.underlying t = some (.slice e)) (x : Value) (lo hi : Option Value) : (Instr.sliceAt t x lo hi none).run Pg w = (Instr.slice t x lo hi none).run Pg w := by
 simp [Instr.sliceAt, run_underlying hu]
end
end Go.Proofs.YtcanljninhfmhaaGreat
