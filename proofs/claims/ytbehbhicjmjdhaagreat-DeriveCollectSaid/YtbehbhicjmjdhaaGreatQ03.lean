/- THE PURE MACHINE, part B: what a value and a state stand for in memory; what is said of a call. * THE PURE MACHINE, part C: 'wp'. Every word of the code, by what it asks and by the state that it leaves. -/
import Derived.Test.YtbehbhicjmjdhaaGreatQ02

namespace Go.Proofs.YtbehbhicjmjdhaaGreat
open Go
set_option linter.unusedVariables false

/-- A value that nobody will write to any more: S names the blocks that stay as they are. -/
inductive RepD (w : World) (S : Nat → Prop) : Value → D → Prop
  | int (k n) : RepD w S (.int k n) (.int k n)
  | bool (b) : RepD w S (.bool b) (.bool b)
  | str (s) : RepD w S (.string s) (.str s)
  | sl0 (a cap) : RepD w S (.slice a 0 cap) (.sl [])
  | sl {b o cap s : Nat} {els : List (List D)} (vals : Nat → Nat → Value) (hne : els ≠ []) (hcap : els.length ≤ cap) (hS : S b)
      (hs : ∀ e, e ∈ els → e.length = s)
      (hc : ∀ i j, i < els.length → j < s → w.cell? ⟨b, o + i * s + j, none⟩ = some (vals i j))
      (h1 : ∀ i j, i < els.length → j < s → (vals i j).oneCell' = true)
      (hr : ∀ i j, i < els.length → j < s → RepD w S (vals i j) ((els.getD i []).getD j .any)) :
      RepD w S (.slice (some ⟨b, o, none⟩) els.length cap) (.sl els)
  | any (v) : RepD w S v .any

/-- A value in the state of a call; β: the block of each of the call's own objects. -/
inductive Rep (w : World) (S : Nat → Prop) (β : Nat → Option Nat) : Value → PV → Prop
  | c {v pv} (hf : flat pv = true) (h : RepD w S v (toD pv)) : Rep w S β v pv
  | nil (a) : Rep w S β (.slice a 0 0) .nil
  | agg {vs : Array Value} {cs} (hl : vs.size = cs.length) (h : ∀ j, j < cs.length → Rep w S β (vs.getD j undef) (cs.getD j .any)) : Rep w S β (.agg vs) (.agg cs)
  | tup {vs : Array Value} {cs} (hl : vs.size = cs.length) (h : ∀ j, j < cs.length → Rep w S β (vs.getD j undef) (cs.getD j .any)) : Rep w S β (.tuple vs) (.tup cs)
  | fn {f} {vs : Array Value} {cs} (hl : vs.size = cs.length) (h : ∀ j, j < cs.length → Rep w S β (vs.getD j undef) (cs.getD j .any)) : Rep w S β (.func (.func f) #[] vs) (.fn f cs)
  | ptr {n off b} (hβ : β n = some b) : Rep w S β (.pointer (some ⟨b, off, none⟩)) (.ptr n off)
  | aptr {n s i off b} (hβ : β n = some b) : Rep w S β (.pointer (some ⟨b, i () * s + off, none⟩)) (.aptr n s i off)
  | dptr {b o cs off} (vals : Nat → Value) (hS : S b) (hf : allL flat cs = true) (hc : ∀ j, j < cs.length → w.cell? ⟨b, o + j, none⟩ = some (vals j))
      (hr : ∀ j, j < cs.length → RepD w S (vals j) (toD (cs.getD j .any))) : Rep w S β (.pointer (some ⟨b, o + off, none⟩)) (.dptr cs off)
  | osl {n s cap b : Nat} {o len : Unit → Nat} {vs : Array Value} {T : TypeId} (hβ : β n = some b) (hlc : len () ≤ cap) (hb : w.heap[b]? = some (.cells vs T (0, 0))) (hsz : (o () + cap) * s ≤ vs.size) :
      Rep w S β (.slice (some ⟨b, o () * s, none⟩) (len ()) cap) (.osl n s o len)
  | nilf : Rep w S β .nilFunc .nilf
  | osl0 {a n s} {o len : Unit → Nat} (hβ : β n = none) (ho : o () = 0) (hl : len () = 0) : Rep w S β (.slice a 0 0) (.osl n s o len)

/-- How the world may go on: stable blocks are as they were, and every block of cells keeps its size. -/
structure Evo (S : Nat → Prop) (w w' : World) : Prop where
  same : ∀ b, S b → w'.heap[b]? = w.heap[b]?
  shape : ∀ (b : Nat) (vs : Array Value) (T : TypeId), w.heap[b]? = some (.cells vs T (0, 0)) → ∃ vs' : Array Value, w'.heap[b]? = some (.cells vs' T (0, 0)) ∧ vs'.size = vs.size

theorem cell_of_block {w w' : World} {b : Nat} (h : w'.heap[b]? = w.heap[b]?) (o : Nat) : w'.cell? ⟨b, o, none⟩ = w.cell? ⟨b, o, none⟩ := by
  simp only [World.cell?, h]

theorem RepD.evo {w w' : World} {S S' : Nat → Prop} {v d} (h : RepD w S v d) (hs : ∀ b, S b → w'.heap[b]? = w.heap[b]?) (hS : ∀ b, S b → S' b) : RepD w' S' v d := by
  induction h with
  | int k n => exact .int k n
  | bool b => exact .bool b
  | str s => exact .str s
  | sl0 a cap => exact .sl0 a cap
  | any v => exact .any v
  | sl vals hne hcap hSb hsz hc h1 hr ih => exact .sl vals hne hcap (hS _ hSb) hsz (fun i j hi hj => (cell_of_block (hs _ hSb) _).trans (hc i j hi hj)) h1 ih

theorem Rep.evo {w w' : World} {S S' : Nat → Prop} {β v pv} (h : Rep w S β v pv) (he : Evo S w w') (hS : ∀ b, S b → S' b) : Rep w' S' β v pv := by
  induction h with
  | c hf h => exact .c hf (h.evo he.same hS)
  | nil a => exact .nil a
  | agg hl _ ih => exact .agg hl ih
  | tup hl _ ih => exact .tup hl ih
  | fn hl _ ih => exact .fn hl ih
  | ptr hβ => exact .ptr hβ
  | aptr hβ => exact .aptr hβ
  | dptr vals hSb hf hc hr => exact .dptr vals (hS _ hSb) hf (fun j hj => (cell_of_block (he.same _ hSb) _).trans (hc j hj)) (fun j hj => (hr j hj).evo he.same hS)
  | osl hβ hlc hb hsz =>
    obtain ⟨vs', h1, h2⟩ := he.shape _ _ _ hb
    exact .osl hβ hlc h1 (by rw [h2]; exact hsz)
  | nilf => exact .nilf
  | osl0 hβ ho hl => exact .osl0 hβ ho hl

def updB (β : Nat → Option Nat) (d : Nat) (x : Option Nat) : Nat → Option Nat := fun n => if n = d then x else β n

theorem updB_ne {β : Nat → Option Nat} {d n : Nat} {x : Option Nat} (h : n ≠ d) : updB β d x n = β n := by simp [updB, h]
theorem updB_eq {β : Nat → Option Nat} {d : Nat} {x : Option Nat} : updB β d x d = x := by simp [updB]

theorem allL_getD {f : PV → Bool} (hf : f .any = true) : ∀ {cs : List PV}, allL f cs = true → ∀ j, f (cs.getD j .any) = true
  | [], _, j => by simp [hf]
  | c :: cs, h, 0 => by simp only [allL, Bool.and_eq_true] at h; simpa using h.1
  | c :: cs, h, j + 1 => by simp only [allL, Bool.and_eq_true] at h; simpa using allL_getD hf h.2 j

theorem beq_not {m n : Nat} (h : (!(nqb m n)) = true) : m ≠ n := by
  intro e; subst e; simp at h

theorem Rep.upd0 {w : World} {S : Nat → Prop} {β v pv} {d : Nat} {x : Option Nat} (h : Rep w S β v pv) (hf : rf0 d pv = true) : Rep w S (updB β d x) v pv := by
  cases h with
  | c hc h => exact .c hc h
  | nil a => exact .nil a
  | agg hl h => simp [rf0] at hf
  | tup hl h => simp [rf0] at hf
  | fn hl h => simp [rf0] at hf
  | ptr hβ => exact .ptr (by rw [updB_ne (beq_not (by simpa only [rf0] using hf))]; exact hβ)
  | aptr hβ => exact .aptr (by rw [updB_ne (beq_not (by simpa only [rf0] using hf))]; exact hβ)
  | dptr vals hSb hf' hc hr => exact .dptr vals hSb hf' hc hr
  | osl hβ hlc hb hsz => exact .osl (by rw [updB_ne (beq_not (by simpa only [rf0] using hf))]; exact hβ) hlc hb hsz
  | nilf => exact .nilf
  | osl0 hβ ho hl => exact .osl0 (by rw [updB_ne (beq_not (by simpa only [rf0] using hf))]; exact hβ) ho hl

theorem Rep.upd1 {w : World} {S : Nat → Prop} {β v pv} {d : Nat} {x : Option Nat} (h : Rep w S β v pv) (hf : rf1 d pv = true) : Rep w S (updB β d x) v pv := by
  cases h with
  | agg hl h => exact .agg hl fun j hj => (h j hj).upd0 (allL_getD (by rfl) (by simpa only [rf1] using hf) j)
  | tup hl h => exact .tup hl fun j hj => (h j hj).upd0 (allL_getD (by rfl) (by simpa only [rf1] using hf) j)
  | fn hl h => exact .fn hl fun j hj => (h j hj).upd0 (allL_getD (by rfl) (by simpa only [rf1] using hf) j)
  | c hc h => exact .c hc h
  | nil a => exact .nil a
  | ptr hβ => exact (Rep.ptr hβ).upd0 hf
  | aptr hβ => exact (Rep.aptr hβ).upd0 hf
  | dptr vals hSb hf' hc hr => exact .dptr vals hSb hf' hc hr
  | osl hβ hlc hb hsz => exact (Rep.osl hβ hlc hb hsz).upd0 hf
  | nilf => exact .nilf
  | osl0 hβ ho hl => exact (Rep.osl0 hβ ho hl).upd0 hf

theorem Rep.upd {w : World} {S : Nat → Prop} {β v pv} {d : Nat} {x : Option Nat} (h : Rep w S β v pv) (hf : refFree d pv = true) : Rep w S (updB β d x) v pv := by
  cases h with
  | agg hl h => exact .agg hl fun j hj => (h j hj).upd1 (allL_getD (by rfl) (by simpa only [refFree] using hf) j)
  | tup hl h => exact .tup hl fun j hj => (h j hj).upd1 (allL_getD (by rfl) (by simpa only [refFree] using hf) j)
  | fn hl h => exact .fn hl fun j hj => (h j hj).upd1 (allL_getD (by rfl) (by simpa only [refFree] using hf) j)
  | c hc h => exact .c hc h
  | nil a => exact .nil a
  | ptr hβ => exact (Rep.ptr hβ).upd0 hf
  | aptr hβ => exact (Rep.aptr hβ).upd0 hf
  | dptr vals hSb hf' hc hr => exact .dptr vals hSb hf' hc hr
  | osl hβ hlc hb hsz => exact (Rep.osl hβ hlc hb hsz).upd0 hf
  | nilf => exact .nilf
  | osl0 hβ ho hl => exact (Rep.osl0 hβ ho hl).upd0 hf

theorem nmHas_mem {n : Nat} : ∀ {l : List Nat}, nmHas n l = true → n ∈ l
  | [], h => by simp [nmHas] at h
  | m :: r, h => by
    simp only [nmHas, Bool.or_eq_true] at h
    rcases h with h | h
    · rw [nqb_eq h]; exact List.mem_cons_self
    · exact List.mem_cons_of_mem _ (nmHas_mem h)

section
variable {w : World} {S : Nat → Prop} {β β' : Nat → Option Nat} {l : List Nat}
theorem Rep.nm0 {v pv} (hl : ∀ n, n ∈ l → β' n = β n) (h : Rep w S β v pv) (hf : nm0 l pv = true) : Rep w S β' v pv := by
  cases h with
  | c hc h => exact .c hc h
  | nil a => exact .nil a
  | agg _ h => simp [Go.Proofs.YtbehbhicjmjdhaaGreat.nm0] at hf
  | tup _ h => simp [Go.Proofs.YtbehbhicjmjdhaaGreat.nm0] at hf
  | fn _ h => simp [Go.Proofs.YtbehbhicjmjdhaaGreat.nm0] at hf
  | ptr hβ => exact .ptr (by rw [hl _ (nmHas_mem (by simpa only [Go.Proofs.YtbehbhicjmjdhaaGreat.nm0] using hf))]; exact hβ)
  | aptr hβ => exact .aptr (by rw [hl _ (nmHas_mem (by simpa only [Go.Proofs.YtbehbhicjmjdhaaGreat.nm0] using hf))]; exact hβ)
  | dptr vals hSb hf' hc hr => exact .dptr vals hSb hf' hc hr
  | osl hβ hlc hb hsz => exact .osl (by rw [hl _ (nmHas_mem (by simpa only [Go.Proofs.YtbehbhicjmjdhaaGreat.nm0] using hf))]; exact hβ) hlc hb hsz
  | nilf => exact .nilf
  | osl0 hβ ho h => exact .osl0 (by rw [hl _ (nmHas_mem (by simpa only [Go.Proofs.YtbehbhicjmjdhaaGreat.nm0] using hf))]; exact hβ) ho h
theorem Rep.nm1 {v pv} (hl : ∀ n, n ∈ l → β' n = β n) (h : Rep w S β v pv) (hf : nm1 l pv = true) : Rep w S β' v pv := by
  cases h with
  | agg hs h => exact .agg hs fun j hj => (h j hj).nm0 hl (allL_getD (by rfl) (by simpa only [Go.Proofs.YtbehbhicjmjdhaaGreat.nm1] using hf) j)
  | tup hs h => exact .tup hs fun j hj => (h j hj).nm0 hl (allL_getD (by rfl) (by simpa only [Go.Proofs.YtbehbhicjmjdhaaGreat.nm1] using hf) j)
  | fn hs h => exact .fn hs fun j hj => (h j hj).nm0 hl (allL_getD (by rfl) (by simpa only [Go.Proofs.YtbehbhicjmjdhaaGreat.nm1] using hf) j)
  | c hc h => exact .c hc h
  | nil a => exact .nil a
  | ptr hβ => exact (Rep.ptr hβ).nm0 hl hf
  | aptr hβ => exact (Rep.aptr hβ).nm0 hl hf
  | dptr vals hSb hf' hc hr => exact .dptr vals hSb hf' hc hr
  | osl hβ hlc hb hsz => exact (Rep.osl hβ hlc hb hsz).nm0 hl hf
  | nilf => exact .nilf
  | osl0 hβ ho h => exact (Rep.osl0 hβ ho h).nm0 hl hf
theorem Rep.nmIn {v pv} (hl : ∀ n, n ∈ l → β' n = β n) (h : Rep w S β v pv) (hf : nmIn l pv = true) : Rep w S β' v pv := by
  cases h with
  | agg hs h => exact .agg hs fun j hj => (h j hj).nm1 hl (allL_getD (by rfl) (by simpa only [Go.Proofs.YtbehbhicjmjdhaaGreat.nmIn] using hf) j)
  | tup hs h => exact .tup hs fun j hj => (h j hj).nm1 hl (allL_getD (by rfl) (by simpa only [Go.Proofs.YtbehbhicjmjdhaaGreat.nmIn] using hf) j)
  | fn hs h => exact .fn hs fun j hj => (h j hj).nm1 hl (allL_getD (by rfl) (by simpa only [Go.Proofs.YtbehbhicjmjdhaaGreat.nmIn] using hf) j)
  | c hc h => exact .c hc h
  | nil a => exact .nil a
  | ptr hβ => exact (Rep.ptr hβ).nm0 hl hf
  | aptr hβ => exact (Rep.aptr hβ).nm0 hl hf
  | dptr vals hSb hf' hc hr => exact .dptr vals hSb hf' hc hr
  | osl hβ hlc hb hsz => exact (Rep.osl hβ hlc hb hsz).nm0 hl hf
  | nilf => exact .nilf
  | osl0 hβ ho h => exact (Rep.osl0 hβ ho h).nm0 hl hf
end

def ObjAt (w : World) (S : Nat → Prop) (β : Nat → Option Nat) (n : Nat) : Obj' → Prop
  | .box cs => ∃ (b : Nat) (vs : Array Value) (T : TypeId), β n = some b ∧ w.heap[b]? = some (.cells vs T (0, 0)) ∧ vs.size = cs.length ∧ ∀ j, j < cs.length → Rep w S β (vs.getD j undef) (cs.getD j .any)
  | .arr s els => (β n = none ∧ els () = []) ∨ ∃ (b : Nat) (vs : Array Value) (T : TypeId), β n = some b ∧ w.heap[b]? = some (.cells vs T (0, 0)) ∧ (els ()).length * s ≤ vs.size ∧ (∀ e, e ∈ els () → e.length = s) ∧
      ∀ i j, i < (els ()).length → j < s → RepD w S (vs.getD (i * s + j) undef) (((els ()).getD i []).getD j .any) ∧ (vs.getD (i * s + j) undef).oneCell' = true

/-- The objects lie where β says, each in a block of its own, none of them stable. -/
structure ObjsAt (w : World) (S : Nat → Prop) (β : Nat → Option Nat) (objs : List (Nat × Obj')) : Prop where
  nd : (objs.map Prod.fst).Nodup
  at_ : ∀ n o, (n, o) ∈ objs → ObjAt w S β n o
  un : ∀ n o b, (n, o) ∈ objs → β n = some b → ¬ S b ∧ b < w.heap.size
  inj : ∀ n o m o' b, (n, o) ∈ objs → (m, o') ∈ objs → β n = some b → β m = some b → n = m

/-- From w0 on: only the blocks that K0 names, and new ones, have been written. -/
structure Leads (w0 : World) (S0 K0 : Nat → Prop) (w : World) (S : Nat → Prop) : Prop where
  size : w0.heap.size ≤ w.heap.size
  os : w.os = w0.os
  tape : w.tape = w0.tape
  output : w.output = w0.output
  same : ∀ b, b < w0.heap.size → ¬ K0 b → w.heap[b]? = w0.heap[b]?
  shape : ∀ (b : Nat) (vs : Array Value) (T : TypeId), w0.heap[b]? = some (.cells vs T (0, 0)) → ∃ vs' : Array Value, w.heap[b]? = some (.cells vs' T (0, 0)) ∧ vs'.size = vs.size
  bnd : ∀ b, S b → b < w.heap.size
  sub : ∀ b, b < w0.heap.size → S0 b → S b
  old : ∀ b, b < w0.heap.size → ¬ K0 b → S b → S0 b

/-- Which blocks the objects of a list lie in. -/
def Blk (β : Nat → Option Nat) (objs : List (Nat × Obj')) (b : Nat) : Prop := ∃ n o, (n, o) ∈ objs ∧ β n = some b

/-- THE CONTRACT: called with these arguments, and these objects of the caller's ('kept': written at most in place; 'eaten': given away), the function returns r; 'kept'' and 'made' are the objects behind the call. -/
structure Sound (f : FuncId) (args : List PV) (kept eaten : List (Nat × Obj')) (r : PV) (kept' made : List (Nat × Obj')) : Prop where
  isf : ∀ (vals : Array Value) (w : World), (callFunc f vals).run Pg w = .ok (.enter f vals) w
  go : ∀ (w : World) (S : Nat → Prop) (β : Nat → Option Nat) (vals : Array Value), (∀ b, S b → b < w.heap.size) → ObjsAt w S β (kept ++ eaten) →
    vals.size = args.length → (∀ j, j < args.length → Rep w S β (vals.getD j undef) (args.getD j .any)) →
    Calls Pg f vals w fun e w' => ∃ v S' β', e = .returned v ∧ Leads w S (Blk β (kept ++ eaten)) w' S' ∧ Rep w' S' β' v r ∧ ObjsAt w' S' β' (kept' ++ made) ∧
      (kept'.map Prod.fst = kept.map Prod.fst) ∧ (∀ n o, (n, o) ∈ kept → β' n = β n) ∧
      (∀ n o b, (n, o) ∈ made → β' n = some b → w.heap.size ≤ b ∨ Blk β eaten b)

/-- The plain contract: nothing of the caller's is written. -/
abbrev SoundS (f : FuncId) (args : List PV) (r : PV) : Prop := Sound f args [] [] r [] []

/- Weaker knowledge of a value. -/
mutual
def Le : PV → PV → Prop
  | _, .any => True
  | .nil, .sl els => els () = []
  | .sl els, .sl els' => els () = els' ()
  | .tt, .bool b => b () = true
  | .ff, .bool b => b () = false
  | .bool a, .bool b => a () = b ()
  | .bool a, .tt => a () = true
  | .bool a, .ff => a () = false
  | .nbool a, .tt => a () = false
  | .nbool a, .ff => a () = true
  | .nbool a, .nbool b => a () = b ()
  | .nbool a, .bool b => b () = !(a ())
  | .agg a, .agg b => LeL a b
  | .tup a, .tup b => LeL a b
  | .fn f a, .fn g b => f = g ∧ LeL a b
  | .int k n, .int k' n' => k = k' ∧ n () = n' ()
  | .osl n s o l, .osl n' s' o' l' => (n = n' ∧ s = s') ∧ (o () = o' () ∧ l () = l' ())
  | .aptr n s i o, .aptr n' s' i' o' => (n = n' ∧ s = s') ∧ (i () = i' () ∧ o = o')
  | a, b => a = b
def LeL : List PV → List PV → Prop
  | [], [] => True
  | a :: r, b :: q => Le a b ∧ LeL r q
  | _, _ => False
end

theorem fU {α : Type} {f g : Unit → α} (h : f () = g ()) : f = g := funext fun _ => h

theorem LeL_length : ∀ {a b : List PV}, LeL a b → a.length = b.length
  | [], [], _ => rfl
  | x :: a, y :: b, h => by simp [LeL] at h; simp [LeL_length h.2]
  | [], y :: b, h => by simp [LeL] at h
  | x :: a, [], h => by simp [LeL] at h

theorem LeL_getD : ∀ {a b : List PV}, LeL a b → ∀ j, j < b.length → Le (a.getD j .any) (b.getD j .any)
  | [], [], _, j, hj => by simp at hj
  | x :: a, y :: b, h, 0, _ => by simp [LeL] at h; simpa using h.1
  | x :: a, y :: b, h, j + 1, hj => by simp [LeL] at h; simpa using LeL_getD h.2 j (by simpa using hj)
  | [], y :: b, h, _, _ => by simp [LeL] at h
  | x :: a, [], h, _, _ => by simp [LeL] at h

mutual
theorem Le.refl : ∀ a : PV, Le a a
  | .int k n => by simp [Le]
  | .tt => by simp [Le]
  | .ff => by simp [Le]
  | .bool b => by simp [Le]
  | .nbool b => by simp [Le]
  | .str s => by simp [Le]
  | .nil => by simp [Le]
  | .sl els => by simp [Le]
  | .agg cs => by simp [Le]; exact LeL.refl cs
  | .tup cs => by simp [Le]; exact LeL.refl cs
  | .ptr n o => by simp [Le]
  | .aptr n s i o => by simp [Le]
  | .dptr cs o => by simp [Le]
  | .osl n s o l => by simp [Le]
  | .fn f cs => by simp [Le]; exact LeL.refl cs
  | .nilf => by simp [Le]
  | .any => by simp [Le]
theorem LeL.refl : ∀ a : List PV, LeL a a
  | [] => by simp [LeL]
  | x :: a => by simp only [LeL]; exact ⟨Le.refl x, LeL.refl a⟩
end

theorem Le_flat {a b : PV} (ha : flat a = true) (h : Le a b) : flat b = true ∧ (toD b = toD a ∨ toD b = .any) := by
  cases b with
  | any => exact ⟨rfl, .inr rfl⟩
  | _ => cases a <;> simp [flat] at ha <;> simp only [Le] at h <;> first
    | (cases h; done)
    | (refine ⟨rfl, .inl ?_⟩; simp_all [toD]; done)
    | (subst h; exact ⟨rfl, .inl rfl⟩)

theorem Rep.le {w : World} {S : Nat → Prop} {β v a} (h : Rep w S β v a) : ∀ b, Le a b → Rep w S β v b := by
  induction h with
  | c hf h =>
    intro b hab
    obtain ⟨h1, h2 | h2⟩ := Le_flat hf hab
    · exact .c h1 (h2 ▸ h)
    · exact .c h1 (h2 ▸ .any _)
  | nil x =>
    intro b hab
    cases b with
    | any => exact .c rfl (.any _)
    | nil => exact .nil x
    | sl els => simp only [Le] at hab; exact .c rfl (by simp only [toD, hab]; exact .sl0 _ _)
    | _ => simp [Le] at hab
  | agg hl h ih =>
    intro b hab
    cases b with
    | any => exact .c rfl (.any _)
    | agg bs => simp only [Le] at hab; exact .agg (hl.trans (LeL_length hab)) fun j hj => ih j (by rw [LeL_length hab]; exact hj) _ (LeL_getD hab j hj)
    | _ => simp [Le] at hab
  | tup hl h ih =>
    intro b hab
    cases b with
    | any => exact .c rfl (.any _)
    | tup bs => simp only [Le] at hab; exact .tup (hl.trans (LeL_length hab)) fun j hj => ih j (by rw [LeL_length hab]; exact hj) _ (LeL_getD hab j hj)
    | _ => simp [Le] at hab
  | fn hl h ih =>
    intro b hab
    cases b with
    | any => exact .c rfl (.any _)
    | fn g bs =>
      simp only [Le] at hab
      obtain ⟨rfl, hab⟩ := hab
      exact .fn (hl.trans (LeL_length hab)) fun j hj => ih j (by rw [LeL_length hab]; exact hj) _ (LeL_getD hab j hj)
    | _ => simp [Le] at hab
  | ptr hβ => intro b hab; cases b <;> simp only [Le] at hab <;> first | (exact .c rfl (.any _)) | (cases hab; exact .ptr hβ) | cases hab
  | aptr hβ =>
    intro b hab
    cases b <;> simp only [Le] at hab <;> first
      | (exact .c rfl (.any _))
      | (obtain ⟨⟨rfl, rfl⟩, h1, rfl⟩ := hab; cases fU h1; exact .aptr hβ)
      | cases hab
  | dptr vals hSb hf hc hr => intro b hab; cases b <;> simp only [Le] at hab <;> first | (exact .c rfl (.any _)) | (cases hab; exact .dptr vals hSb hf hc hr) | cases hab
  | osl hβ hlc hb hsz =>
    intro b hab
    cases b <;> simp only [Le] at hab <;> first
      | (exact .c rfl (.any _))
      | (obtain ⟨⟨rfl, rfl⟩, h1, h2⟩ := hab; cases fU h1; cases fU h2; exact .osl hβ hlc hb hsz)
      | cases hab
  | nilf => intro b hab; cases b <;> simp only [Le] at hab <;> first | (exact .c rfl (.any _)) | (exact .nilf) | cases hab
  | osl0 hβ ho hl =>
    intro b hab
    cases b <;> simp only [Le] at hab <;> first
      | (exact .c rfl (.any _))
      | (obtain ⟨⟨rfl, rfl⟩, h1, h2⟩ := hab; cases fU h1; cases fU h2; exact .osl0 hβ ho hl)
      | cases hab

end Go.Proofs.YtbehbhicjmjdhaaGreat

namespace Go.Proofs.YtbehbhicjmjdhaaGreat
open Go
set_option linter.unusedVariables false

/-- A call that changes nothing of the caller's. -/
structure CallS (f : FuncId) (args : List PV) (K : PV → Prop) : Prop where
  h : ∃ args' r, LeL args args' ∧ SoundS f args' r ∧ nmIn [] r = true ∧ K r

/-- Two structs of integers compared: by the machine's own reckoning. -/
structure EqS (op : BinOp) (t : TypeId) (x y : Operand) (a b : List (Unit → Int)) (K : PV → Prop) : Prop where
  h : ∃ r : Bool, (∀ w : World, (do eqGuard op t x y (.agg ((force a).map (Value.int .i64)).toArray) (.agg ((force b).map (Value.int .i64)).toArray); binOp op t (.agg ((force a).map (Value.int .i64)).toArray) (.agg ((force b).map (Value.int .i64)).toArray) : Sem Value).run Pg w = .ok (.bool r) w) ∧ K (.bool (fun _ => r))
/-- A slice compared with nil: of an empty one it is not known. -/
structure NilCmp (els : Unit → List (List D)) (K : PV → Prop) : Prop where
  h : ∀ b : Bool, (b = true → els () = []) → K (.bool (fun _ => b))
def binK (op : BinOp) (t : TypeId) (ox oy : Operand) (x y : PV) (K : PV → Prop) : Prop :=
  match x, y with
  | .int k a, .int k' b => intK op k a k' b K
  | .agg l, .agg m => match intsOf l, intsOf m with
    | some a, some b => EqS op t ox oy a b K
    | _, _ => False
  | x, y => match ty t with
    | .sc .ff => match op, bval x, bval y with
      | .eql, some a, some b => K (.bool (fun _ => decide (a () = b ())))
      | .neq, some a, some b => K (.nbool (fun _ => decide (a () = b ())))
      | _, _, _ => False
    | _ => False

/-- A place in an array: one by one. -/
structure AtOk (k : Unit → Int) (len : Nat) (K : Nat → Prop) : Prop where
  h : ∃ j : Nat, k () = (j : Int) ∧ j < len ∧ K j

/-- An operation that reads memory at most, or calls a function that changes nothing that was there. -/
def sop (objs : List (Nat × Obj')) (op : Op) (e : Operand → PV) (K : PV → Prop) : Prop :=
  match op with
  | .move x => K (e x)
  | .assign x => K (e x)
  | .pick c a b => brV (e c) (fun _ => K (e a)) (fun _ => K (e b))
  | .build t parts => match ty t with
    | .st _ fs z => match fillP fs (evParts e parts.toList) z with
      | some cs => K (.agg cs)
      | none => False
    | .arr _ n _ z => match fillA n (evParts e parts.toList) z with
      | some cs => K (.agg cs)
      | none => False
    | _ => False
  | .buildSlice t len parts => match ty t with
    | .sli n _ z => match fillE n (evParts e parts.toList) (repE z len) with
      | some els => (match nle (len * n) 1000 && cokLL els with | true => K (slOf els) | false => False)
      | none => False
    | _ => False
  | .load t a => match e a with
    | .dptr cs off => rdK (ty t) cs off K
    | .ptr n off => match getO objs n with
      | some (.box cs) => rdK (ty t) cs off K
      | _ => False
    | .aptr n s i off => match getO objs n with
      | some (.arr s' els) => (match nqb s s' with | true => ElOk s els i (fun c => rdK (ty t) c off K) | false => False)
      | _ => False
    | _ => False
  | .binOp op t x y _ => binK op t x y (e x) (e y) K
  | .unOp op _ x => match op, e x with
    | .not, .tt => K .ff
    | .not, .ff => K .tt
    | .not, .bool b => K (.nbool b)
    | .not, .nbool b => K (.bool b)
    | .neg, .int k n => arK k (fun _ => 0 - n ()) K
    | _, _ => False
  | .convert src dst x => (match (ty src).isNo with
    | true => False
    | false => (match ty dst, e x with
      | .sc (.int k _), .int _ n => K (.int k (fun _ => nx k (n ())))
      | _, _ => False))
  | .fieldAddr t x i => match ty t with
    | .st _ fs _ => match fs[i]? with
      | some (off, _, _) => match e x with
        | .ptr n o => K (.ptr n (o + off))
        | .aptr n s j o => K (.aptr n s j (o + off))
        | .dptr cs o => K (.dptr cs (o + off))
        | _ => False
      | none => False
    | _ => False
  | .indexAddr t x i => match ty t, e x, e i with
    | .sli n _ _, .sl els, .int _ k => IdxOk n els k (fun c => K (.dptr c 0))
    | .sli n _ _, .osl m s o len, .int _ k => (match nqb n s with | true => Rng k len ∧ K (.aptr m s (fun _ => o () + (k ()).toNat) 0) | false => False)
    | .arr len n _ _, .ptr m o, .int _ k => AtOk k len (fun j => K (.ptr m (o + j * n)))
    | _, _, _ => False
  | .index t x i => match ty t, e x, e i with
    | .arr len 1 false _, .agg cs, .int _ k => (match nqb len cs.length with | true => AtOk k len (fun j => K (cs.getD j .any)) | false => False)
    | _, _, _ => False
  | .extract x i => match e x with
    | .tup vs => (match nlt i vs.length with | true => K (vs.getD i .any) | false => False)
    | _ => False
  | .slice t x lo hi none => match ty t, e x with
    | .sli n _ _, .sl els => match optI e (fun _ => 0) lo, optI e (fun _ => ((els ()).length : Nat)) hi with
      | some l, some h => SlOk l h (fun _ => (els ()).length) ∧ Wid n els ∧ K (.sl (fun _ => ((els ()).take (h ()).toNat).drop (l ()).toNat))
      | _, _ => False
    | .sli n _ _, .osl m s o len => match optI e (fun _ => 0) lo, optI e (fun _ => (len () : Nat)) hi with
      | some l, some h => (match nqb n s with | true => SlOk l h len ∧ SlNe l h ∧ K (.osl m s (fun _ => o () + (l ()).toNat) (fun _ => (h ()).toNat - (l ()).toNat)) | false => False)
      | _, _ => False
    | .sli _ _ _, .nil => match optI e (fun _ => 0) lo, optI e (fun _ => 0) hi with
      | some l, some h => SlOk l h (fun _ => 0) ∧ K .nil
      | _, _ => False
    | _, _ => False
  | .nilCheck x => match e x with
    | .ptr n o => K (.ptr n o)
    | .aptr n s i o => K (.aptr n s i o)
    | .dptr c o => K (.dptr c o)
    | _ => False
  | .makeFunc (.func f) first caps => match first.toList with
    | [] => K (.fn f (evs e caps.toList))
    | _ => False
  | .call c => match c.callee with
    | .builtin .len => match c.args.toList, c.argTypes.toList with
      | [x], [t] => lenK (ty t) (e x) K
      | _, _ => False
    | .builtin .max => match c.args.toList with
      | [x, y] => match e x, e y with
        | .int .i64 a, .int .i64 b => K (.int .i64 (fun _ => imax (a ()) (b ())))
        | _, _ => False
      | _ => False
    | .value f => match e f with
      | .fn g caps => CallS g (evs e c.args.toList ++ caps) K
      | _ => False
    | _ => False
  | _ => False


def isSli : Ty → Bool
  | .sli _ _ _ => true
  | _ => false
/- Appending to nothing: a row of its own that nobody writes to. -/
def appN (n b : Nat) (x : PV) (K : PV → Prop) : Prop :=
  match x with
  | .sl xs => Wid n xs ∧ Room (fun _ => ((xs ()).length : Nat)) b ∧ K (.sl xs)
  | .nil => K .nil
  | _ => False
def isApp (op : Op) : Bool :=
  match op with
  | .call c => (match c.callee with
    | .builtin .append => true
    | _ => false)
  | _ => false
def app2 (op : Op) (e : Operand → PV) (K : PV → Prop) : Prop :=
  match op with
  | .call c => (match c.args.toList, c.argTypes.toList with
    | [b, x], [t, tx] => (match isSli (ty tx) with
      | true => (match ty t, e b with
        | .sli n bb _, .nil => appN n bb (e x) K
        | _, _ => False)
      | false => False)
    | _, _ => False)
  | _ => False
def sop2 (objs : List (Nat × Obj')) (op : Op) (e : Operand → PV) (K : PV → Prop) : Prop :=
  match isApp op with
  | true => app2 op e K
  | false => sop objs op e K

/- A guard that was not reached itself holds no truth value: what it guards is not reached either. -/
def gdV (want : Bool) (v : PV) (A B : Unit → Prop) : Prop :=
  match v with
  | .tup [] => B ()
  | v => (match want with | true => brV v A B | false => brV v B A)
def guardK (all : List Oper) (o : Oper) (τ : Nat → PV) (A B : Unit → Prop) : Prop :=
  match o.guard with
  | none => A ()
  | some (j, want) => match all[j]? with
    | some oj => match oj.dst with
      | some d => gdV want (τ d) A B
      | none => False
    | none => False

/- A truth value that guards what follows: known from here on. -/
def isG (all : List Oper) (o : Oper) : Bool :=
  match o.dst with
  | none => false
  | some d => all.any fun o' => match o'.guard with
    | none => false
    | some (j, _) => match all[j]? with
      | some oj => match oj.dst with
        | some d' => nqb d d'
        | none => false
      | none => false
def normG (all : List Oper) (o : Oper) (ps : PS) (K : PS → Prop) : Prop :=
  (match isG all o with
    | true => (match o.dst with
    | some d => match lookT ps.tmps d with
      | .bool b => Br b (fun _ => K ⟨putT ps.tmps d .tt, ps.objs⟩) (fun _ => K ⟨putT ps.tmps d .ff, ps.objs⟩)
      | .nbool b => Br b (fun _ => K ⟨putT ps.tmps d .ff, ps.objs⟩) (fun _ => K ⟨putT ps.tmps d .tt, ps.objs⟩)
      | _ => K ps
    | none => K ps)
    | false => K ps)

def sopsWp (all : List Oper) : List Oper → PS → (PS → Prop) → Prop
  | [], ps, K => K ps
  | o :: r, ps, K => guardK all o (lookT ps.tmps) (fun _ => sop2 ps.objs o.op (ev (lookT ps.tmps)) (fun v => normG all o (put ps o.dst v) (fun ps' => sopsWp all r ps' K))) (fun _ => sopsWp all r (put ps o.dst (.tup [])) K)

/- Steps without code: to know less, to let an object be written no more, to take a nil slice for an empty row of the call's own. -/
structure LeS (a b : PV) : Prop where
  h : Le a b
structure ElsEq (e e' : Unit → List (List D)) : Prop where
  h : e () = e' ()
def allLe (f : PV → PV → Prop) : List PV → List PV → Prop
  | [], [] => True
  | a :: r, b :: q => f a b ∧ allLe f r q
  | _, _ => False
def les1 : PV → PV → Prop
  | .agg a, .agg b => allLe LeS a b
  | .tup a, .tup b => allLe LeS a b
  | a, b => LeS a b
def les : PV → PV → Prop
  | .agg a, .agg b => allLe les1 a b
  | .tup a, .tup b => allLe les1 a b
  | .fn f a, .fn g b => nqb f g = true ∧ allLe les1 a b
  | a, b => LeS a b
def ObjLe : Obj' → Obj' → Prop
  | .box a, .box b => allLe les a b
  | .arr s e, .arr s' e' => nqb s s' = true ∧ ElsEq e e'
  | _, _ => False
def leT (src : List (Nat × PV)) : List (Nat × PV) → Prop
  | [] => True
  | (t, v) :: r => les (lookT src t) v ∧ leT src r
def leO (src : List (Nat × Obj')) : List (Nat × Obj') → Prop
  | [] => True
  | (n, o) :: r => (match getO src n with
    | some o' => ObjLe o' o
    | none => False) ∧ leO src r
def hasN (n : Nat) : List (Nat × Obj') → Bool
  | [] => false
  | (m, _) :: r => nqb m n || hasN n r
def ndO : List (Nat × Obj') → Bool
  | [] => true
  | (n, _) :: r => !(hasN n r) && ndO r
def closedO : Obj' → Bool
  | .box cs => allL stor cs
  | .arr _ _ => true
/- What is frozen of a row must lie within it. -/
structure FrOk (i len : Unit → Nat) (els : Unit → List (List D)) : Prop where
  h : i () + len () ≤ (els ()).length
def fo0 (n : Nat) (o : Obj') : PV → Prop
  | .osl m s i len => (match nqb m n with
    | true => (match o with
      | .arr _ els => FrOk i len els
      | _ => True)
    | false => True)
  | _ => True
def allP (f : PV → Prop) : List PV → Prop
  | [] => True
  | v :: r => f v ∧ allP f r
def fo1 (n : Nat) (o : Obj') : PV → Prop
  | .agg cs => allP (fo0 n o) cs
  | .tup cs => allP (fo0 n o) cs
  | .fn _ cs => allP (fo0 n o) cs
  | v => fo0 n o v
def fo (n : Nat) (o : Obj') : PV → Prop
  | .agg cs => allP (fo1 n o) cs
  | .tup cs => allP (fo1 n o) cs
  | .fn _ cs => allP (fo1 n o) cs
  | v => fo0 n o v
def foT (n : Nat) (o : Obj') : List (Nat × PV) → Prop
  | [] => True
  | (_, v) :: r => fo n o v ∧ foT n o r
def foO (n : Nat) (o : Obj') : List (Nat × Obj') → Prop
  | [] => True
  | (_, .box cs) :: r => allP (fo n o) cs ∧ foO n o r
  | (_, .arr _ _) :: r => foO n o r
def frzPS (n : Nat) (o : Obj') (ps : PS) : PS := ⟨mapT (frz n o) ps.tmps, mapO (frz n o) (delO ps.objs n)⟩

inductive Wk : PS → PS → Prop
  | refl (ps) : Wk ps ps
  | le {ps ps'} (ht : leT ps.tmps ps'.tmps) (ho : leO ps.objs ps'.objs) (hn : ndO ps'.objs = true) : Wk ps ps'
  | frz {ps} (n : Nat) {o} (ho : getO ps.objs n = some o) (hc : closedO o = true) (hT : foT n o ps.tmps) (hO : foO n o ps.objs) : Wk ps (frzPS n o ps)
  | adoptT {ps} (n s t : Nat) (hf : freeOf n ps = true) (ht : lookT ps.tmps t = .nil) : Wk ps ⟨putT ps.tmps t (.osl n s (fun _ => 0) (fun _ => 0)), ps.objs ++ [(n, .arr s (fun _ => []))]⟩
  | adoptB {ps} (n s m j : Nat) {cs} (hf : freeOf n ps = true) (ho : getO ps.objs m = some (.box cs)) (hj : cs[j]? = some .nil) :
      Wk ps ⟨ps.tmps, setO ps.objs m (.box (cs.set j (.osl n s (fun _ => 0) (fun _ => 0)))) ++ [(n, .arr s (fun _ => []))]⟩
  | trans {a b c} (h : Wk a b) (k : Wk b c) : Wk a c

/- Names as the contract has them, names as the caller has them. -/
def rn0 (h : Nat → Nat) : PV → PV
  | .ptr m off => .ptr (h m) off
  | .aptr m s i off => .aptr (h m) s i off
  | .osl m s i len => .osl (h m) s i len
  | v => v
def rn1 (h : Nat → Nat) : PV → PV
  | .agg cs => .agg (mapC (rn0 h) cs)
  | .tup cs => .tup (mapC (rn0 h) cs)
  | .fn f cs => .fn f (mapC (rn0 h) cs)
  | v => rn0 h v
def ren (h : Nat → Nat) : PV → PV
  | .agg cs => .agg (mapC (rn1 h) cs)
  | .tup cs => .tup (mapC (rn1 h) cs)
  | .fn f cs => .fn f (mapC (rn1 h) cs)
  | v => rn0 h v
def renL (h : Nat → Nat) : List PV → List PV := mapC (ren h)
def lv0 : PV → Bool
  | .agg _ => false
  | .tup _ => false
  | .fn _ _ => false
  | _ => true
def lv1 : PV → Bool
  | .agg cs => allL lv0 cs
  | .tup cs => allL lv0 cs
  | .fn _ cs => allL lv0 cs
  | _ => true
/-- Compound values at most two levels deep. -/
def lv : PV → Bool
  | .agg cs => allL lv1 cs
  | .tup cs => allL lv1 cs
  | .fn _ cs => allL lv1 cs
  | _ => true
def scrs : List Nat → PV → PV
  | [], v => v
  | n :: r, v => scrs r (scr n v)
def dels : List Nat → List (Nat × Obj') → List (Nat × Obj')
  | [], l => l
  | n :: r, l => dels r (delO l n)
def hasObjs (h : Nat → Nat) (l : List (Nat × Obj')) : List (Nat × Obj') → Prop
  | [] => True
  | (n, o) :: r => (getO l (h n) = some o ∧ closedO o = true) ∧ hasObjs h l r
def setsO (h : Nat → Nat) (l : List (Nat × Obj')) : List (Nat × Obj') → List (Nat × Obj')
  | [] => l
  | (n, o) :: r => setsO h (setO l (h n) o) r
def namesH (h : Nat → Nat) : List (Nat × Obj') → List (Nat × Obj')
  | [] => []
  | (n, o) :: r => (h n, o) :: namesH h r
def ownMid (h : Nat → Nat) (eaten : List (Nat × Obj')) (ps : PS) : PS :=
  ⟨mapT (scrs ((namesH h eaten).map Prod.fst)) ps.tmps, mapO (scrs ((namesH h eaten).map Prod.fst)) (dels ((namesH h eaten).map Prod.fst) ps.objs)⟩
def freeAll (h : Nat → Nat) (ps : PS) : List (Nat × Obj') → Bool
  | [] => true
  | (n, _) :: r => freeOf (h n) ps && freeAll h ps r
def closedOs : List (Nat × Obj') → Bool
  | [] => true
  | (_, o) :: r => closedO o && closedOs r
def ownNext (h : Nat → Nat) (eaten kept' made : List (Nat × Obj')) (ps : PS) : PS :=
  ⟨(ownMid h eaten ps).tmps, setsO h (ownMid h eaten ps).objs kept' ++ namesH h made⟩

def nmsO : List (Nat × Obj') → List Nat
  | [] => []
  | (n, _) :: r => n :: nmsO r
structure CallOk (g : Operand) (as_ : List Operand) (dst : Option Nat) (ps : PS) (K : PS → Prop) : Prop where
  h : ∃ ps', Wk ps ps' ∧ ∃ f caps, ev (lookT ps'.tmps) g = .fn f caps ∧
    ((∃ args' r, LeL (evs (ev (lookT ps'.tmps)) as_ ++ caps) args' ∧ SoundS f args' r ∧ nmIn [] r = true ∧ K (put ps' dst r)) ∨
     (∃ (hn : Nat → Nat) (cargs : List PV) (kept eaten : List (Nat × Obj')) (r : PV) (kept' made : List (Nat × Obj')),
        LeL (evs (ev (lookT ps'.tmps)) as_ ++ caps) (renL hn cargs) ∧ Sound f cargs kept eaten r kept' made ∧
        hasObjs hn ps'.objs (kept ++ eaten) ∧ ndO (namesH hn (kept ++ eaten)) = true ∧ ndO (kept ++ eaten) = true ∧
        closedOs (kept' ++ made) = true ∧ ndO (namesH hn made) = true ∧ freeAll hn (ownMid hn eaten ps') made = true ∧
        allL lv cargs = true ∧ lv r = true ∧ nmIn (nmsO (kept' ++ made)) r = true ∧
        K (put (ownNext hn eaten kept' made ps') dst (ren hn r))))

structure AppOk (t : TypeId) (base x : Operand) (dst : Option Nat) (ps : PS) (K : PS → Prop) : Prop where
  h : ∃ ps' d n b z xs, Wk ps ps' ∧ dst = some d ∧ ty t = .sli n b z ∧
    (ev (lookT ps'.tmps) x = .sl xs ∨ (ev (lookT ps'.tmps) x = .nil ∧ xs () = [])) ∧ Wid n xs ∧
    ((ev (lookT ps'.tmps) base = .nil ∧ Room (fun _ => ((xs ()).length : Nat)) b ∧ freeOf d ps' = true ∧ K ⟨putT ps'.tmps d (.osl d n (fun _ => 0) (fun _ => (xs ()).length)), ps'.objs ++ [(d, .arr n xs)]⟩) ∨
     (∃ m o len els, ev (lookT ps'.tmps) base = .osl m n o len ∧ getO ps'.objs m = some (.arr n els) ∧ o () = 0 ∧ len () = (els ()).length ∧ Room (fun _ => (((els ()).length + (xs ()).length : Nat) : Int)) b ∧
       freeOf d ⟨mapT (scr m) ps'.tmps, mapO (scr m) (delO ps'.objs m)⟩ = true ∧
       K ⟨putT (mapT (scr m) ps'.tmps) d (.osl d n (fun _ => 0) (fun _ => (els ()).length + (xs ()).length)), mapO (scr m) (delO ps'.objs m) ++ [(d, .arr n (fun _ => els () ++ xs ()))]⟩))

def newBox (d : Nat) (cs : List PV) (ps : PS) (K : PS → Prop) : Prop :=
  (match freeOf d ps with | true => K ⟨putT ps.tmps d (.ptr d 0), ps.objs ++ [(d, .box cs)]⟩ | false => False)

def opWp (o : Oper) (ps : PS) (K : PS → Prop) : Prop :=
  match o.op with
  | .alloc t => match o.dst with
    | some d => (match (ty t).isNo with | true => False | false => newBox d (ty t).zero ps K)
    | none => False
  | .box t x => match o.dst with
    | some d => (match partOk (ev (lookT ps.tmps) x) with | true => newBox d (cellsV (ev (lookT ps.tmps) x)) ps K | false => False)
    | none => False
  | .store t a v => match ev (lookT ps.tmps) a with
    | .ptr n off => match getO ps.objs n with
      | some (.box cs) => (match nqb (cellsV (ev (lookT ps.tmps) v)).length (ty t).cells && nle (off + (ty t).cells) cs.length && nlt 0 (ty t).cells && allL cokC (cellsV (ev (lookT ps.tmps) v)) with | true => K (put ⟨ps.tmps, setO ps.objs n (.box (setAt cs off (cellsV (ev (lookT ps.tmps) v))))⟩ o.dst .any) | false => False)
      | _ => False
    | .aptr n s i off => match getO ps.objs n with
      | some (.arr s' els) => (match nqb s s' && nqb (cellsV (ev (lookT ps.tmps) v)).length (ty t).cells && nle (off + (ty t).cells) s && nlt 0 (ty t).cells && allL cokD (cellsV (ev (lookT ps.tmps) v)) with | true => ElOk s els i (fun c => K (put ⟨ps.tmps, setO ps.objs n (.arr s (fun _ => (els ()).set (i ()) (mapD (setAt c off (cellsV (ev (lookT ps.tmps) v))))))⟩ o.dst .any)) | false => False)
      | _ => False
    | _ => False
  | .makeSlice t l c => match ty t, o.dst, ev (lookT ps.tmps) l, ev (lookT ps.tmps) c with
    | .sli n b z, some d, .int .i64 x, .int .i64 y => Room y b ∧ MkOk x y ∧ ((match freeOf d ps && allL cokD z with | true => K ⟨putT ps.tmps d (.osl d n (fun _ => 0) (fun _ => (x ()).toNat)), ps.objs ++ [(d, .arr n (fun _ => List.replicate (x ()).toNat (mapD z)))]⟩ | false => False))
    | _, _, _, _ => False
  | .call c => match c.callee with
    | .value g => CallOk g c.args.toList o.dst ps K
    | .builtin .append => match c.args.toList, c.argTypes.toList with
      | [b, x], [t, tx] => (match isSli (ty tx) with | true => AppOk t b x o.dst ps K | false => False)
      | _, _ => False
    | .builtin _ => sop ps.objs o.op (ev (lookT ps.tmps)) (fun v => K (put ps o.dst v))
    | _ => False
  | .binOp .eql t x (.const (.slice none 0 0)) _ => match ty t, ev (lookT ps.tmps) x with
    | .sli _ _ _, .sl els => NilCmp els (fun v => K (put ps o.dst v))
    | _, _ => False
  | op => sop ps.objs op (ev (lookT ps.tmps)) (fun v => K (put ps o.dst v))

def opsWp (all : List Oper) : List Oper → PS → (PS → Prop) → Prop
  | [], ps, K => K ps
  | o :: r, ps, K => guardK all o (lookT ps.tmps) (fun _ => opWp o ps (fun ps' => normG all o ps' (fun ps'' => opsWp all r ps'' K))) (fun _ => opsWp all r (put ps o.dst (.tup [])) K)

/-- The order of a region that draws: the first k operations in whatever order, the rest behind them, in the order of the text. -/
def dstsOk : List Oper → Bool
  | [] => true
  | o :: r => (match o.dst with
    | none => true
    | some d => r.all fun x => !(x.dst == some d)) && dstsOk r
def looks (ops : List Oper) (o : Oper) : List Nat :=
  (o.op.operands.toList.filterMap fun | .tmp t => some t | _ => none) ++
  (match o.guard with
   | some (g, _) => ((ops[g]?).bind (·.dst)).toList
   | none => [])
def ancRow (acc : List Nat) (o : Oper) : Nat := o.after.toList.foldl (fun s e => if Region.binds .any e then s ||| (2 ^ e.on ||| acc.getD e.on 0) else s) 0
def ancGo : List Oper → List Nat → List Nat
  | [], acc => acc
  | o :: r, acc => ancGo r (acc ++ [ancRow acc o])
def anc (ops : List Oper) : List Nat := ancGo ops []
def drawOk (ops : List Oper) (k : Nat) : Bool :=
  let an := anc ops
  dstsOk (ops.take k) &&
  (List.range k).all (fun i => match ops[i]? with
    | some o => (looks ops o).all fun t => (List.range k).all fun j => match ops[j]? with
      | some oj => !(oj.dst == some t) || ((decide (j < i) && (an.getD i 0).testBit j) || (decide (i < j) && (an.getD j 0).testBit i))
      | none => true
    | none => false) &&
  (List.range ops.length).all (fun i => match ops[i]? with
    | some o => o.after.toList.all fun e => !(Region.binds .any e) || decide (e.on < i)
    | none => false) &&
  (List.range ops.length).all (fun i => decide (i < k) || (List.range i).all fun j => (an.getD i 0).testBit j)


/-! Operations in a drawn part that make an object: a new variable. Nobody in the drawn part looks into it. -/
def mkrOf (o : Oper) : Option (Nat × Obj') :=
  match o.guard with
  | some _ => none
  | none => match o.op with
    | .alloc t => (match (ty t).isNo with
      | true => none
      | false => match o.dst with
        | some d => some (d, .box (ty t).zero)
        | none => none)
    | _ => none
def makersOf : List Oper → List (Nat × Obj')
  | [] => []
  | o :: r => match mkrOf o with
    | some x => x :: makersOf r
    | none => makersOf r
def msopsWp (all : List Oper) : List Oper → PS → (PS → Prop) → Prop
  | [], ps, K => K ps
  | o :: r, ps, K => match mkrOf o with
    | some (d, _) => msopsWp all r (put ps (some d) (.ptr d 0)) K
    | none => guardK all o (lookT ps.tmps) (fun _ => sop2 ps.objs o.op (ev (lookT ps.tmps)) (fun v => normG all o (put ps o.dst v) (fun ps' => msopsWp all r ps' K))) (fun _ => msopsWp all r (put ps o.dst (.tup [])) K)
/- The name n stands in the temporary n alone. -/
def mfT (n : Nat) : List (Nat × PV) → Bool
  | [] => true
  | (t, v) :: r => (match t == n with
    | true => true
    | false => refFree n v) && mfT n r
def mkIn (ps : PS) : List (Nat × Obj') → Bool
  | [] => true
  | (n, _) :: r => freeOf n ps && mkIn ps r
def mkFin (T : List (Nat × PV)) : List (Nat × Obj') → Bool
  | [] => true
  | (n, _) :: r => mfT n T && mkFin T r

/-! One store in a drawn part: whoever reads memory there is bound to come ahead of it, or behind it. -/
def blind (o : Oper) : Bool :=
  match o.op with
  | .load _ _ => false
  | _ => true
def strOk (ops : List Oper) (k i0 : Nat) : Bool :=
  nlt i0 k && (match ops[i0]? with
    | some o => (match o.guard, o.dst, o.op with
      | none, none, .store _ _ _ => true
      | _, _, _ => false)
    | none => false) &&
  (List.range k).all (fun i => nqb i i0 || (match ops[i]? with
    | some o => blind o || (nlt i i0 && ((anc ops).getD i0 0).testBit i) || (nlt i0 i && ((anc ops).getD i 0).testBit i0)
    | none => false))
def strWp (ops : List Oper) (k i0 : Nat) (ps : PS) (K : PS → Prop) : Prop :=
  sopsWp ops (ops.take i0) ps (fun p1 => match ops[i0]? with
    | some o => opWp o p1 (fun p2 => sopsWp ops ((ops.take k).drop (i0 + 1)) p2 (fun p3 => opsWp ops (ops.drop k) p3 K))
    | none => False)

structure DrawK (ops : List Oper) (ps : PS) (K : PS → Prop) : Prop where
  h : (∃ k ps', Wk ps ps' ∧ drawOk ops k = true ∧ sopsWp ops (ops.take k) ps' (fun ps'' => opsWp ops (ops.drop k) ps'' K)) ∨
    (∃ k ps', Wk ps ps' ∧ drawOk ops k = true ∧ (ndO (makersOf (ops.take k)) && mkIn ps' (makersOf (ops.take k))) = true ∧
      msopsWp ops (ops.take k) ps' (fun ps'' => mkFin ps''.tmps (makersOf (ops.take k)) = true ∧ opsWp ops (ops.drop k) ⟨ps''.tmps, ps''.objs ++ makersOf (ops.take k)⟩ K)) ∨
    (∃ k i0 ps', Wk ps ps' ∧ drawOk ops k = true ∧ strOk ops k i0 = true ∧ strWp ops k i0 ps' K)

def meetQ {σ : Type} (inv : σ → PS) (good : σ → Prop) (Q : Exit → PS → Prop) : Exit → PS → Prop
  | .normal, ps' => ∃ s, good s ∧ Wk ps' (inv s)
  | e, ps' => Q e ps'
/-- Where the code parts: each arm goes on to the end; or both meet in one kind of state. -/
structure Cut (b : Unit → Bool) (A B : (Exit → PS → Prop) → Prop) (Q : Exit → PS → Prop) : Prop where
  h : ((b () = true → A Q) ∧ (b () = false → B Q)) ∨
    ∃ (σ : Type) (inv : σ → PS) (good : σ → Prop), (b () = true → A (meetQ inv good Q)) ∧ (b () = false → B (meetQ inv good Q)) ∧ ∀ s, good s → Q .normal (inv s)

structure LoopOk (B : PS → (Exit → PS → Prop) → Prop) (ps : PS) (Q : Exit → PS → Prop) : Prop where
  h : ∃ (σ : Type) (inv : σ → PS) (good : σ → Prop) (mu : σ → Nat) (s0 : σ), good s0 ∧ Wk ps (inv s0) ∧
    ∀ s, good s → B (inv s) (fun e ps' => match e with
      | .normal => ∃ s', good s' ∧ mu s' < mu s ∧ Wk ps' (inv s')
      | e => Q e ps')

def wp : Code → PS → (Exit → PS → Prop) → Prop
  | .skip, ps, Q => Q .normal ps
  | .region _ ops false, ps, Q => opsWp ops.toList ops.toList ps (Q .normal)
  | .region _ ops true, ps, Q => DrawK ops.toList ps (Q .normal)
  | .seq a b, ps, Q => wp a ps fun e ps' => match e with
      | .normal => wp b ps' Q
      | e => Q e ps'
  | .cond c a b, ps, Q => match ev (lookT ps.tmps) c with
      | .tt => wp a ps Q
      | .ff => wp b ps Q
      | .bool x => Cut x (fun Q => wp a ps Q) (fun Q => wp b ps Q) Q
      | .nbool x => Cut x (fun Q => wp b ps Q) (fun Q => wp a ps Q) Q
      | _ => False
  | .block id b, ps, Q => wp b ps fun e ps' => match e with
      | .exit i => (match nqb i id with | true => Q .normal ps' | false => Q (.exit i) ps')
      | e => Q e ps'
  | .exit id, ps, Q => Q (.exit id) ps
  | .ret, ps, Q => Q .ret ps
  | .loop b, ps, Q => LoopOk (fun ps Q => wp b ps Q) ps Q
  | _, _, _ => False

def rdV (t : Ty) (cs : List PV) (off : Nat) : Option PV :=
  (match t.isNo with | true => none | false => (match nle (off + t.cells) cs.length with | true => some ((match t.isA with | true => .agg ((cs.drop off).take t.cells) | false => cs.getD off .any)) | false => none))
def resV (ps : PS) : List ResultVar → Option (List PV)
  | [] => some []
  | .tmp t :: r => match resV ps r with
    | some l => some (lookT ps.tmps t :: l)
    | none => none
  | .cell a t :: r => match lookT ps.tmps a with
    | .ptr n off => match getO ps.objs n with
      | some (.box cs) => match rdV (ty t) cs off, resV ps r with
        | some v, some l => some (v :: l)
        | _, _ => none
      | _ => none
    | _ => none
def oneV : List PV → PV
  | [v] => v
  | l => .tup l

def keptId (h : Nat → Nat) : List (Nat × Obj') → Prop
  | [] => True
  | (n, _) :: r => (h n = n ∧ 1000000 ≤ n) ∧ keptId h r
/-- The end of a call: what the results read as is no more than what was promised. -/
structure RetOk (rs : List ResultVar) (r : PV) (kept' made : List (Nat × Obj')) (ps : PS) : Prop where
  h : ∃ ps' l hn, Wk ps ps' ∧ resV ps' rs = some l ∧ Le (oneV l) (ren hn r) ∧ lv r = true ∧ hasObjs hn ps'.objs (kept' ++ made) ∧ ndO (namesH hn (kept' ++ made)) = true ∧ keptId hn kept'
def postOf (rs : List ResultVar) (r : PV) (kept' made : List (Nat × Obj')) : Exit → PS → Prop
  | .normal, ps => RetOk rs r kept' made ps
  | .ret, ps => RetOk rs r kept' made ps
  | _, _ => False

end Go.Proofs.YtbehbhicjmjdhaaGreat
