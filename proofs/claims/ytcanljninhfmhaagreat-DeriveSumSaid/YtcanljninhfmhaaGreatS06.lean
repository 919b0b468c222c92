/- A part of the proof: PmG, PmH. -/
import Derived.Test.YtcanljninhfmhaaGreatS05
set_option linter.all false
namespace Go.Proofs.YtcanljninhfmhaaGreat
open Go
set_option linter.unusedVariables false
set_option linter.unusedSimpArgs false
section
variable {w : World} {S : Nat → Nat → Prop} {β : Nat → Option Nat} {K : PV → Prop}
theorem cells_rep {v : Value} {x : PV} (h : Rep w S β v x) (hp : partOk x = true) : v.cells.size = (cellsV x).length ∧ ∀ j, j < (cellsV x).length → Rep w S β (v.cells.getD j undef) ((cellsV x).getD j .any) := by
 have one : (∀ cs, v ≠ .agg cs) → cellsV x = [x] → v.cells.size = (cellsV x).length ∧ ∀ j, j < (cellsV x).length → Rep w S β (v.cells.getD j undef) ((cellsV x).getD j .any) := by
  intro hv hx
  have hc : v.cells = #[v] := by unfold Value.cells; split <;> first | (exact absurd rfl (hv _)) | rfl
  rw [hc, hx]
  refine ⟨rfl, fun j hj => ?_⟩
  have : j = 0 := by simp at hj; omega
  subst this
  simpa using h
 cases x with
 | agg cs =>
  obtain ⟨vs, rfl, h1, h2⟩ := rep_agg h
  exact ⟨h1, h2⟩
 | int k n => exact one (by rw [rep_int h]; intro cs e; cases e) rfl
 | tt => exact one (by rw [rep_tt h]; intro cs e; cases e) rfl
 | ff => exact one (by rw [rep_ff h]; intro cs e; cases e) rfl
 | bool b => exact one (by rw [rep_bool h]; intro cs e; cases e) rfl
 | nbool b => exact one (by rw [rep_nbool h]; intro cs e; cases e) rfl
 | str s => exact one (by rw [rep_str h]; intro cs e; cases e) rfl
 | nil => obtain ⟨a, rfl⟩ := rep_nil h; exact one (by intro cs e; cases e) rfl
 | sl els => rcases repD_sl (rep_sl h) with ⟨_, a, cap, rfl⟩ | ⟨b, o, cap, s, vals, _, _, _, _, _, _, _, rfl⟩ <;> exact one (by intro cs e; cases e) rfl
 | tup vs => simp [partOk, cokC] at hp
 | ptr n o => obtain ⟨b, _, rfl⟩ := rep_ptr h; exact one (by intro cs e; cases e) rfl
 | aptr n s i o => obtain ⟨b, _, rfl⟩ := rep_aptr h; exact one (by intro cs e; cases e) rfl
 | dptr cs o => obtain ⟨b, o', vals, _, rfl, _⟩ := rep_dptr h; exact one (by intro cs e; cases e) rfl
 | osl n s o l => rcases rep_osl h with ⟨_, _, _, a, rfl⟩ | ⟨b, cap, vs, T, _, _, _, _, rfl⟩ <;> exact one (by intro cs e; cases e) rfl
 | fn f cs => obtain ⟨vs, rfl, _⟩ := rep_fn h; exact one (by intro cs e; cases e) rfl
 | nilf => cases h with | c hf h => cases hf | nilf => exact one (by intro cs e; cases e) rfl
 | any => simp [partOk, cokC] at hp
theorem oneCell_of {v : Value} {x : PV} (h : Rep w S β v x) (hp : cokC x = true) : v.oneCell' = true := by
 cases x with
 | agg cs => simp [cokC] at hp
 | int k n => rw [rep_int h]; rfl
 | tt => rw [rep_tt h]; rfl
 | ff => rw [rep_ff h]; rfl
 | bool b => rw [rep_bool h]; rfl
 | nbool b => rw [rep_nbool h]; rfl
 | str s => rw [rep_str h]; rfl
 | nil => obtain ⟨a, rfl⟩ := rep_nil h; rfl
 | sl els => rcases repD_sl (rep_sl h) with ⟨_, a, cap, rfl⟩ | ⟨b, o, cap, s, vals, _, _, _, _, _, _, _, rfl⟩ <;> rfl
 | tup vs => simp [cokC] at hp
 | ptr n o => obtain ⟨b, _, rfl⟩ := rep_ptr h; rfl
 | aptr n s i o => obtain ⟨b, _, rfl⟩ := rep_aptr h; rfl
 | dptr cs o => obtain ⟨b, o', vals, _, rfl, _⟩ := rep_dptr h; rfl
 | osl n s o l => rcases rep_osl h with ⟨_, _, _, a, rfl⟩ | ⟨b, cap, vs, T, _, _, _, _, rfl⟩ <;> rfl
 | fn f cs => obtain ⟨vs, rfl, _⟩ := rep_fn h; rfl
 | nilf => cases h with | c hf h => cases hf | nilf => rfl
 | any => simp [cokC] at hp
theorem cokD_C {x : PV} (h : cokD x = true) : cokC x = true := by cases x <;> simp_all [cokD, cokC, flat]
theorem cokD_stor {x : PV} (h : cokD x = true) : stor x = true := by cases x <;> simp_all [cokD, stor, flat]
theorem setAt_length : ∀ (cs : List PV) (n : Nat) (vs : List PV), n + vs.length ≤ cs.length → (setAt cs n vs).length = cs.length
 | c :: cs, 0, v :: vs, h => by simp only [setAt, List.length_cons] at *; rw [setAt_length cs 0 vs (by omega)]
 | cs, 0, [], _ => by cases cs <;> simp [setAt]
 | [], n, v :: vs, h => by simp at h
 | [], n + 1, [], h => by simp at h
 | c :: cs, n + 1, vs, h => by simp only [setAt, List.length_cons] at *; rw [setAt_length cs n vs (by omega)]
theorem setAt_getD : ∀ (cs : List PV) (n : Nat) (vs : List PV), n + vs.length ≤ cs.length → ∀ j, (setAt cs n vs).getD j .any = if n ≤ j ∧ j < n + vs.length then vs.getD (j - n) .any else cs.getD j .any
 | c :: cs, 0, v :: vs, h, 0 => by simp [setAt]
 | c :: cs, 0, v :: vs, h, j + 1 => by
  have := setAt_getD cs 0 vs (by simp only [List.length_cons] at h; omega) j
  simp [setAt] at this ⊢
  exact this
 | cs, 0, [], _, j => by cases cs <;> simp [setAt]
 | [], n, v :: vs, h, j => by simp at h
 | [], n + 1, [], h, j => by simp at h
 | c :: cs, n + 1, vs, h, 0 => by simp [setAt]
 | c :: cs, n + 1, vs, h, j + 1 => by
  have := setAt_getD cs n vs (by simp only [List.length_cons] at h; omega) j
  simp only [setAt, List.getD_cons_succ, this]
  by_cases h1 : n ≤ j ∧ j < n + vs.length
  ·rw [if_pos h1, if_pos (by omega)]; congr 1; omega
  ·rw [if_neg h1, if_neg (by omega)]
def RepL (w : World) (S : Nat → Nat → Prop) (β : Nat → Option Nat) (vs : Array Value) (cs : List PV) : Prop :=
 vs.size = cs.length ∧ ∀ j, j < cs.length → Rep w S β (vs.getD j undef) (cs.getD j .any)
theorem foldl_set (vs : List Value) : ∀ (k off : Nat) (cells : Array Value), off + k + vs.length ≤ cells.size →
  ((vs.zipIdx k).foldl (fun (cs : Array Value) (p : Value × Nat) => cs.setIfInBounds (off + p.2) p.1) cells).size = cells.size ∧
  ∀ j, ((vs.zipIdx k).foldl (fun (cs : Array Value) (p : Value × Nat) => cs.setIfInBounds (off + p.2) p.1) cells).getD j undef = if off + k ≤ j ∧ j < off + k + vs.length then vs.getD (j - (off + k)) undef else cells.getD j undef := by
 induction vs with
 | nil => intro k off cells h; refine ⟨rfl, fun j => ?_⟩; simp; omega
 | cons v vs ih =>
  intro k off cells h
  simp only [List.zipIdx_cons, List.foldl_cons, List.length_cons] at *
  obtain ⟨h1, h2⟩ := ih (k + 1) off (cells.setIfInBounds (off + k) v) (by simp; omega)
  refine ⟨by rw [h1]; simp, fun j => ?_⟩
  rw [h2 j]
  by_cases hj : j = off + k
  ·subst hj
   rw [if_neg (by omega), if_pos (by omega)]
   have : off + k < cells.size := by omega
   simp [this]
  ·by_cases hr : off + (k + 1) ≤ j ∧ j < off + (k + 1) + vs.length
   ·rw [if_pos hr, if_pos (by omega)]
    have : j - (off + k) = (j - (off + (k + 1))) + 1 := by omega
    rw [this, List.getD_cons_succ]
   ·rw [if_neg hr, if_neg (by omega)]
    simp [Array.getElem?_setIfInBounds_ne (Ne.symm hj)]
theorem set_rep {cells : Array Value} {z : List PV} (hz : RepL w S β cells z) {v : Value} {x : PV} (hv : Rep w S β v x) (hp : partOk x = true) {off : Nat} (hle : off + (cellsV x).length ≤ z.length) :
  RepL w S β (v.cells.zipIdx.foldl (fun (cs : Array Value) (p : Value × Nat) => cs.setIfInBounds (off + p.2) p.1) cells) (setAt z off (cellsV x)) := by
 obtain ⟨h1, h2⟩ := cells_rep hv hp
 have hl : v.cells.toList.length = (cellsV x).length := by simpa using h1
 obtain ⟨h3, h4⟩ := foldl_set v.cells.toList 0 off cells (by rw [hl, hz.1]; omega)
 have he : v.cells.zipIdx.foldl (fun (cs : Array Value) (p : Value × Nat) => cs.setIfInBounds (off + p.2) p.1) cells = (v.cells.toList.zipIdx 0).foldl (fun (cs : Array Value) (p : Value × Nat) => cs.setIfInBounds (off + p.2) p.1) cells := by
  rw [← Array.foldl_toList, Array.toList_zipIdx]
 rw [he]
 refine ⟨by rw [h3, hz.1, setAt_length _ _ _ hle], fun j hj => ?_⟩
 rw [setAt_length _ _ _ hle] at hj
 rw [h4 j, setAt_getD _ _ _ hle j, hl]
 by_cases hr : off + 0 ≤ j ∧ j < off + 0 + (cellsV x).length
 ·rw [if_pos hr, if_pos (by omega)]
  have := h2 (j - off) (by omega)
  simpa using this
 ·rw [if_neg hr, if_neg (by omega)]
  exact hz.2 j hj
theorem ofVals_rep (zs : Array Value) : RepL w S β zs (zs.toList.map ofVal) := by
 refine ⟨by simp, fun j hj => ?_⟩
 have hj' : j < zs.size := by simpa using hj
 have : (zs.toList.map ofVal).getD j .any = ofVal (zs.getD j undef) := by simp [hj']
 rw [this]
 exact rep_ofVal _
inductive PartsRep (w : World) (S : Nat → Nat → Prop) (β : Nat → Option Nat) : List (Nat × Value) → List (Nat × PV) → Prop
 | nil : PartsRep w S β [] []
 | cons {i v x r q} (hv : Rep w S β v x) (h : PartsRep w S β r q) : PartsRep w S β ((i, v) :: r) ((i, x) :: q)
theorem parts_eval {ρ : Operand → Value} {e : Operand → PV} (he : ∀ x, Rep w S β (ρ x) (e x)) : ∀ (l : List (Nat × Operand)), PartsRep w S β (l.map fun (p : Nat × Operand) => (p.1, ρ p.2)) (evParts e l)
 | [] => .nil
 | (i, o) :: r => .cons (he o) (parts_eval he r)
theorem fillP_sound {fs : List (Nat × Nat × Bool)} {place : Nat → Option (Nat × Nat)} (hpl : ∀ i off sz ag, fs[i]? = some (off, sz, ag) → place i = some (off, sz)) {vps : List (Nat × Value)} {ps : List (Nat × PV)} (h : PartsRep w S β vps ps) :
  ∀ {cells : Array Value} {z cs : List PV}, RepL w S β cells z → fillP fs ps z = some cs → ∃ cells', Instr.fill place cells vps = some cells' ∧ RepL w S β cells' cs := by
 induction h with
 | nil => intro cells z cs hz hf; simp only [fillP, Option.some.injEq] at hf; subst hf; exact ⟨cells, rfl, hz⟩
 | @cons i v x r q hv h ih =>
  intro cells z cs hz hf
  unfold fillP at hf
  split at hf
  ·rename_i off sz ag hi
   cases hc : (nqb (cellsV x).length sz && nle (off + sz) z.length && partOk x) with
   | false => simp [hc] at hf
   | true =>
    simp only [hc, cond_true] at hf
    simp only [Bool.and_eq_true] at hc
    obtain ⟨⟨hl, hle⟩, hp⟩ := hc
    have hl := nqb_eq hl
    have hle := nle_le hle
    obtain ⟨c1, c2⟩ := cells_rep hv hp
    obtain ⟨cells', h1, h2⟩ := ih (set_rep hz hv hp (by omega)) hf
    refine ⟨cells', ?_, h2⟩
    unfold Instr.fill
    rw [hpl _ _ _ _ hi]
    have hn : ¬ (v.cells.size ≠ sz ∨ off + v.cells.size > cells.size) := by rw [c1, hz.1]; omega
    simp only [ne_eq, Bool.or_eq_true, decide_eq_true_eq, hn, if_false]
    simpa using h1
  ·cases hf
theorem fillA_sound {n : Nat} {vps : List (Nat × Value)} {ps : List (Nat × PV)} (h : PartsRep w S β vps ps) :
  ∀ {cells : Array Value} {z cs : List PV}, RepL w S β cells z → fillA n ps z = some cs → ∃ cells', Instr.fill (fun i => some (i * n, n)) cells vps = some cells' ∧ RepL w S β cells' cs := by
 induction h with
 | nil => intro cells z cs hz hf; simp only [fillA, Option.some.injEq] at hf; subst hf; exact ⟨cells, rfl, hz⟩
 | @cons i v x r q hv h ih =>
  intro cells z cs hz hf
  unfold fillA at hf
  cases hc : (nqb (cellsV x).length n && nle (i * n + n) z.length && partOk x) with
  | false => simp [hc] at hf
  | true =>
   simp only [hc, cond_true] at hf
   simp only [Bool.and_eq_true] at hc
   obtain ⟨⟨hl, hle⟩, hp⟩ := hc
   have hl := nqb_eq hl
   have hle := nle_le hle
   obtain ⟨c1, c2⟩ := cells_rep hv hp
   obtain ⟨cells', h1, h2⟩ := ih (set_rep hz hv hp (by omega)) hf
   refine ⟨cells', ?_, h2⟩
   unfold Instr.fill
   have hn : ¬ (v.cells.size ≠ n ∨ i * n + v.cells.size > cells.size) := by rw [c1, hz.1]; omega
   simp only [ne_eq, Bool.or_eq_true, decide_eq_true_eq, hn, if_false]
   simpa using h1
theorem mapM_places (P : Program) (fields : List Field) (hf : ∀ f, f ∈ fields → ∃ i, P.info? f.type = some i) (w : World) :
  (fields.mapM fun f => do pure (f.offset, ← sizeOf f.type) : Sem (List (Nat × Nat))).run P w = .ok (fields.map fun f => (f.offset, P.cellsOf f.type)) w := by
 induction fields with
 | nil => rfl
 | cons f r ih =>
  obtain ⟨i, hi⟩ := hf f (by simp)
  have := ih fun g hg => hf g (by simp [hg])
  have e : ((do pure (f.offset, ← sizeOf f.type) : Sem (Nat × Nat)).run P w) = .ok (f.offset, P.cellsOf f.type) w := by
   simp [sizeOf, typeInfo, hi, Program.cellsOf]
  rw [List.mapM_cons, Sem.run_bind, e, Result.andThen_ok, Sem.run_bind, this]
  simp
theorem run_build_st {t n : Nat} {fs : List (Nat × Nat × Bool)} {z : List PV} (ht : ty t = .st n fs z) {ρ : Operand → Value} {e : Operand → PV} (he : ∀ x, Rep w S β (ρ x) (e x)) {parts : Array (Nat × Operand)} {cs : List PV}
  (hf : fillP fs (evParts e parts.toList) z = some cs) : ∃ vs, (Instr.build t (parts.map fun (i, x) => (i, ρ x))).run Pg w = .ok (.agg vs) w ∧ RepL w S β vs cs := by
 obtain ⟨i, fields, zs, h1, h2, h3, h4, h5, h6, h7, h8⟩ := ty_st ht
 subst h7
 have hp := parts_eval (w := w) (S := S) (β := β) he parts.toList
 obtain ⟨cells', g1, g2⟩ := fillP_sound (place := fun k => (fields.map fun f => (f.offset, Pg.cellsOf f.type))[k]?) (by
  intro k off sz ag hk
  obtain ⟨fields', f, u1, u2, u3, u4, _⟩ := field_of ht hk
  rw [h2] at u1
  cases u1
  simp [u2, u3, u4]) hp (ofVals_rep zs) hf
 refine ⟨cells', ?_, g2⟩
 have hm : (fields.mapM fun f => do pure (f.offset, ← sizeOf f.type) : Sem (Array (Nat × Nat))).run Pg w = .ok (fields.map fun f => (f.offset, Pg.cellsOf f.type)) w := by
  have := mapM_places Pg fields.toList (fun f hf => by obtain ⟨i, hi, _⟩ := info_of_cells (h8 f hf); exact ⟨i, hi⟩) w
  rw [Array.mapM_eq_mapM_toList, Sem.run_map, this]
  exact congrArg (fun l => Result.ok l w) (Array.ext' (by simp))
 have h9 : ((parts.map fun (i, x) => (i, ρ x)).toList) = parts.toList.map fun (p : Nat × Operand) => (p.1, ρ p.2) := by simp
 simp only [Instr.build, Sem.run_bind, run_zero h1 h3, Result.andThen_ok, run_underlying h2, hm, Value.cells, h9, g1, Sem.run_pure]
theorem run_build_arr {t len n : Nat} {ag : Bool} {z : List PV} (ht : ty t = .arr len n ag z) {ρ : Operand → Value} {e : Operand → PV} (he : ∀ x, Rep w S β (ρ x) (e x)) {parts : Array (Nat × Operand)} {cs : List PV}
  (hf : fillA n (evParts e parts.toList) z = some cs) : ∃ vs, (Instr.build t (parts.map fun (i, x) => (i, ρ x))).run Pg w = .ok (.agg vs) w ∧ RepL w S β vs cs := by
 obtain ⟨i, el, zs, h1, h2, h3, h4, h5, h6, h7, h8, h8', h8'', h9⟩ := ty_arr ht
 subst h9
 have hp := parts_eval (w := w) (S := S) (β := β) he parts.toList
 obtain ⟨cells', g1, g2⟩ := fillA_sound hp (ofVals_rep zs) hf
 refine ⟨cells', ?_, g2⟩
 obtain ⟨j, hj1, hj2⟩ := info_of_cells (t := el) (by omega)
 have h9 : ((parts.map fun (i, x) => (i, ρ x)).toList) = parts.toList.map fun (p : Nat × Operand) => (p.1, ρ p.2) := by simp
 have hs : j.size = n := hj2.trans h6
 simp only [Instr.build, Sem.run_bind, run_zero h1 h3, Result.andThen_ok, run_underlying h2, Value.cells, h9, run_size hj1, hs, g1, Sem.run_pure]
def flatE : List (List PV) → List PV
 | [] => []
 | e :: r => e ++ flatE r
theorem flatE_length (n : Nat) : ∀ (z : List (List PV)), (∀ e, e ∈ z → e.length = n) → (flatE z).length = z.length * n
 | [], _ => by simp [flatE]
 | e :: r, h => by
  have := flatE_length n r fun e he => h e (by simp [he])
  simp [flatE, this, h e (by simp), Nat.add_mul, Nat.add_comm]
theorem setAt_append_left : ∀ (a b vs : List PV) , vs.length = a.length → setAt (a ++ b) 0 vs = vs ++ b
 | [], b, [], _ => by cases b <;> simp [setAt]
 | c :: a, b, v :: vs, h => by simp only [List.cons_append, setAt]; rw [setAt_append_left a b vs (by simpa using h)]
 | [], _, _ :: _, h => by simp at h
 | _ :: _, _, [], h => by simp at h
theorem setAt_append_right : ∀ (a b vs : List PV) (k : Nat), setAt (a ++ b) (a.length + k) vs = a ++ setAt b k vs
 | [], b, vs, k => by simp
 | c :: a, b, vs, k => by
  have : (c :: a).length + k = (a.length + k) + 1 := by simp; omega
  rw [this]
  simp only [List.cons_append, setAt]
  rw [setAt_append_right a b vs k]
theorem flatE_set (n : Nat) : ∀ (z : List (List PV)) (i : Nat) (e : List PV), (∀ x, x ∈ z → x.length = n) → e.length = n → i < z.length → flatE (z.set i e) = setAt (flatE z) (i * n) e
 | [], i, e, _, _, hi => by simp at hi
 | x :: z, 0, e, h, he, _ => by
  simp only [List.set_cons_zero, flatE, Nat.zero_mul]
  rw [setAt_append_left x (flatE z) e (by rw [he, h x (by simp)])]
 | x :: z, i + 1, e, h, he, hi => by
  simp only [List.set_cons_succ, flatE]
  rw [flatE_set n z i e (fun y hy => h y (by simp [hy])) he (by simpa using hi)]
  have : (i + 1) * n = x.length + i * n := by rw [h x (by simp), Nat.add_mul]; omega
  rw [this, setAt_append_right]
theorem fillE_sound {n : Nat} {vps : List (Nat × Value)} {ps : List (Nat × PV)} (h : PartsRep w S β vps ps) :
  ∀ {cells : Array Value} {z els : List (List PV)}, (∀ e, e ∈ z → e.length = n) → RepL w S β cells (flatE z) → fillE n ps z = some els →
   ∃ cells', Instr.fill (fun i => some (i * n, n)) cells vps = some cells' ∧ RepL w S β cells' (flatE els) ∧ (∀ e, e ∈ els → e.length = n) ∧ els.length = z.length := by
 induction h with
 | nil => intro cells z els hn hz hf; simp only [fillE, Option.some.injEq] at hf; subst hf; exact ⟨cells, rfl, hz, hn, rfl⟩
 | @cons i v x r q hv h ih =>
  intro cells z els hn hz hf
  unfold fillE at hf
  cases hc : (nqb (cellsV x).length n && nlt i z.length && partOk x) with
  | false => simp [hc] at hf
  | true =>
   simp only [hc, cond_true] at hf
   simp only [Bool.and_eq_true] at hc
   obtain ⟨⟨hl, hlt⟩, hp⟩ := hc
   have hl := nqb_eq hl
   have hlt : i < z.length := by simp [nlt] at hlt; omega
   have hle : i * n + n ≤ (flatE z).length := by
    rw [flatE_length n z hn]
    calc i * n + n = (i + 1) * n := by rw [Nat.add_mul]; omega
     _ ≤ z.length * n := Nat.mul_le_mul_right _ hlt
   obtain ⟨c1, c2⟩ := cells_rep hv hp
   have hs := set_rep hz hv hp (off := i * n) (by omega)
   rw [← flatE_set n z i (cellsV x) hn hl hlt] at hs
   obtain ⟨cells', h1, h2, h3, h4⟩ := ih (z := z.set i (cellsV x)) (fun e he => by
    rcases List.mem_or_eq_of_mem_set he with he | rfl
    ·exact hn e he
    ·exact hl) hs hf
   refine ⟨cells', ?_, h2, h3, by simpa using h4⟩
   unfold Instr.fill
   have hn' : ¬ (v.cells.size ≠ n ∨ i * n + v.cells.size > cells.size) := by rw [c1, hz.1]; omega
   simp only [ne_eq, Bool.or_eq_true, decide_eq_true_eq, hn', if_false]
   simpa using h1
theorem repE_length (z : List PV) : ∀ n, (repE z n).length = n
 | 0 => rfl
 | n + 1 => by simp [repE, repE_length z n]
theorem repE_mem (z : List PV) : ∀ n e, e ∈ repE z n → e = z
 | 0, e, h => by simp [repE] at h
 | n + 1, e, h => by
  simp only [repE, List.mem_cons] at h
  rcases h with h | h
  ·exact h
  ·exact repE_mem z n e h
theorem flatE_repE_getD (z : List PV) (m : Nat) (hm : z.length = m) (hp : 0 < m) : ∀ n j, j < n * m → (flatE (repE z n)).getD j .any = z.getD (j % m) .any
 | 0, j, h => by simp at h
 | n + 1, j, h => by
  simp only [repE, flatE]
  by_cases hj : j < m
  ·rw [List.getD_eq_getElem?_getD, List.getElem?_append_left (by omega), ← List.getD_eq_getElem?_getD, Nat.mod_eq_of_lt hj]
  ·rw [List.getD_eq_getElem?_getD, List.getElem?_append_right (by omega), ← List.getD_eq_getElem?_getD, hm]
   rw [flatE_repE_getD z m hm hp n (j - m) (by rw [Nat.add_mul] at h; omega)]
   congr 1
   rw [Nat.mod_eq_sub_mod (by omega : j ≥ m)]
end
end Go.Proofs.YtcanljninhfmhaaGreat

namespace Go.Proofs.YtcanljninhfmhaaGreat
open Go
set_option linter.unusedVariables false
set_option linter.unusedSimpArgs false
def nobody : Nat → Prop := fun _ => False
section
variable {w0 : World} {S0 : Nat → Nat → Prop} {K0 : Nat → Prop} {N : Cx} {τ : Nat → PV} {objs : List (Nat × Obj')} {a : Act} {w w' : World} {S S' : Nat → Nat → Prop} {β : Nat → Option Nat}
theorem Leads.evo (l : Leads w S nobody w' S') (hb : ∀ b i, S b i → b < w.heap.size) : Evo S w w' where
 same b i hS := cell_of_block (l.same b (hb b i hS) id) i
 shape b vs T h := l.shape b vs T h
theorem Leads.subs {K : Nat → Prop} (l : Leads w S K w' S') (hb : ∀ b i, S b i → b < w.heap.size) : ∀ b i, S b i → S' b i := fun b i hS => l.sub b i (hb b i hS) hS
theorem Leads.trans (h : Leads w0 S0 K0 w S) (l : Leads w S nobody w' S') : Leads w0 S0 K0 w' S' where
 size := Nat.le_trans h.size l.size
 os := l.os.trans h.os
 tape := l.tape.trans h.tape
 output := l.output.trans h.output
 same b hb hk := (l.same b (Nat.lt_of_lt_of_le hb h.size) id).trans (h.same b hb hk)
 shape b vs T hb := by
  obtain ⟨vs', h1, h2⟩ := h.shape b vs T hb
  obtain ⟨vs'', h3, h4⟩ := l.shape b vs' T h1
  exact ⟨vs'', h3, h4.trans h2⟩
 bnd := l.bnd
 sub b i hb hS := l.sub b i (Nat.lt_of_lt_of_le hb h.size) (h.sub b i hb hS)
 old b i hb hk hS := h.old b i hb hk (l.old b i (Nat.lt_of_lt_of_le hb h.size) id hS)
theorem RowAt.go {n s : Nat} {els : Unit → List (List D)} (h : RowAt w S β n s els) (l : Leads w S nobody w' S') (hb : ∀ b i, S b i → b < w.heap.size) (hl : ∀ b, β n = some b → b < w.heap.size) : RowAt w' S' β n s els := by
 have he := l.evo hb
 have hs := l.subs hb
 rcases h with h | ⟨b, vs, T, h1, h2, h3, h4, h5⟩
 ·exact .inl h
 ·exact .inr ⟨b, vs, T, h1, (l.same b (hl b h1) id).trans h2, h3, h4, fun i j hi hj => ⟨(h5 i j hi hj).1.evo he.same hs, (h5 i j hi hj).2⟩⟩
theorem ObjAt.go {n : Nat} {o : Obj'} (h : ObjAt w S β n o) (l : Leads w S nobody w' S') (hb : ∀ b i, S b i → b < w.heap.size) (hl : ∀ b, β n = some b → b < w.heap.size) : ObjAt w' S' β n o := by
 have he := l.evo hb
 have hs := l.subs hb
 cases o with
 | box cs =>
  obtain ⟨b, vs, T, h1, h2, h3, h4⟩ := h
  exact ⟨b, vs, T, h1, (l.same b (hl b h1) id).trans h2, h3, fun j hj => (h4 j hj).evo he hs⟩
 | arr s els => exact RowAt.go h l hb hl
 | log s els => exact RowAt.go h l hb hl
 | lent s els => exact ⟨RowAt.go h.1 l hb hl, fun b hβ i hi => hs _ _ (h.2 b hβ i hi)⟩
theorem ObjsAt.go (h : ObjsAt w S β objs) (l : Leads w S nobody w' S') (hb : ∀ b i, S b i → b < w.heap.size) : ObjsAt w' S' β objs where
 nd := h.nd
 at_ n o hm := (h.at_ n o hm).go l hb fun b hβ => (h.un n o b hm hβ).2
 un n o b hm hβ := by
  obtain ⟨h1, h2⟩ := h.un n o b hm hβ
  exact ⟨fun i hS => h1 i (l.old b i h2 id hS), Nat.lt_of_lt_of_le h2 l.size⟩
 inj := h.inj
theorem Sim.go (h : Sim w0 S0 K0 N τ objs a w S β) (l : Leads w S nobody w' S') : Sim w0 S0 K0 N τ objs a w' S' β where
 dfr := h.dfr
 sz := h.sz
 ld := h.ld.trans l
 tmp t := (h.tmp t).evo (l.evo h.ld.bnd) (l.subs h.ld.bnd)
 obj := h.obj.go l h.ld.bnd
 own := h.own
 keep := h.keep
theorem alloc_leads (hb : ∀ b i, S b i → b < w.heap.size) (o : Obj) : Leads w S nobody (w.alloc o) (fun b i => S b i ∨ b = w.heap.size) where
 size := by simp
 os := rfl
 tape := rfl
 output := rfl
 same b h _ := heap_alloc_old w o h
 shape b vs T h := by
  have hlt : b < w.heap.size := by
   rcases Nat.lt_or_ge b w.heap.size with h' | h'
   ·exact h'
   ·simp [Array.getElem?_eq_none h'] at h
  exact ⟨vs, by rw [heap_alloc_old w o hlt]; exact h, rfl⟩
 bnd b i h := by
  simp only [World.size_alloc]
  rcases h with h | h
  ·have := hb b i h; omega
  ·omega
 sub b i h h' := .inl h'
 old b i h _ h' := h'.resolve_right (by omega)
theorem alloc_leads0 (hb : ∀ b i, S b i → b < w.heap.size) (o : Obj) : Leads w S nobody (w.alloc o) S where
 size := by simp
 os := rfl
 tape := rfl
 output := rfl
 same b h _ := heap_alloc_old w o h
 shape b vs T h := by
  have hlt : b < w.heap.size := by
   rcases Nat.lt_or_ge b w.heap.size with h' | h'
   ·exact h'
   ·simp [Array.getElem?_eq_none h'] at h
  exact ⟨vs, by rw [heap_alloc_old w o hlt]; exact h, rfl⟩
 bnd b i h := by simp only [World.size_alloc]; have := hb b i h; omega
 sub b i h h' := h'
 old b i h _ h' := h'
theorem Leads.refl (hb : ∀ b i, S b i → b < w.heap.size) : Leads w S nobody w S := ⟨Nat.le_refl _, rfl, rfl, rfl, fun _ _ _ => rfl, fun b vs T h => ⟨vs, h, rfl⟩, hb, fun _ _ _ h => h, fun _ _ _ _ h => h⟩
theorem drew_leads (hb : ∀ b i, S b i → b < w.heap.size) : Leads w S nobody w.drew S := ⟨Nat.le_refl _, rfl, rfl, rfl, fun _ _ _ => rfl, fun b vs T h => ⟨vs, h, rfl⟩, hb, fun _ _ _ h => h, fun _ _ _ _ h => h⟩
theorem flatE_getD (n : Nat) : ∀ (z : List (List PV)), (∀ e, e ∈ z → e.length = n) → ∀ i j, i < z.length → j < n → (flatE z).getD (i * n + j) .any = (z.getD i []).getD j .any
 | [], _, i, j, hi, _ => by simp at hi
 | x :: z, h, 0, j, _, hj => by
  have hx := h x (by simp)
  simp only [flatE, Nat.zero_mul, Nat.zero_add, List.getD_cons_zero]
  rw [List.getD_eq_getElem?_getD, List.getElem?_append_left (by omega), ← List.getD_eq_getElem?_getD]
 | x :: z, h, i + 1, j, hi, hj => by
  have hx := h x (by simp)
  simp only [flatE, List.getD_cons_succ]
  have e : (i + 1) * n + j = x.length + (i * n + j) := by rw [Nat.add_mul, hx]; omega
  rw [e, List.getD_eq_getElem?_getD, List.getElem?_append_right (by omega), ← List.getD_eq_getElem?_getD]
  rw [show x.length + (i * n + j) - x.length = i * n + j by omega]
  exact flatE_getD n z (fun e he => h e (by simp [he])) i j (by simpa using hi) hj
theorem mapDD_length : ∀ (z : List (List PV)), (mapDD z).length = z.length
 | [] => rfl
 | x :: z => by simp [mapDD, mapDD_length z]
theorem mapDD_getD : ∀ (z : List (List PV)) (i : Nat), i < z.length → (mapDD z).getD i [] = mapD (z.getD i [])
 | [], i, h => by simp at h
 | x :: z, 0, _ => by simp [mapDD]
 | x :: z, i + 1, h => by simpa [mapDD] using mapDD_getD z i (by simpa using h)
theorem mapDD_mem : ∀ (z : List (List PV)) (n : Nat), (∀ e, e ∈ z → e.length = n) → ∀ e, e ∈ mapDD z → e.length = n
 | [], n, _, e, h => by simp [mapDD] at h
 | x :: z, n, hn, e, h => by
  simp only [mapDD, List.mem_cons] at h
  rcases h with rfl | h
  ·rw [mapD_length]; exact hn x (by simp)
  ·exact mapDD_mem z n (fun e he => hn e (by simp [he])) e h
theorem allL_mem {f : PV → Bool} : ∀ {cs : List PV}, allL f cs = true → ∀ j, j < cs.length → f (cs.getD j .any) = true
 | [], _, j, h => by simp at h
 | c :: cs, h, 0, _ => by simp only [allL, Bool.and_eq_true] at h; simpa using h.1
 | c :: cs, h, j + 1, hj => by simp only [allL, Bool.and_eq_true] at h; simpa using allL_mem h.2 j (by simpa using hj)
theorem cokLL_getD : ∀ (z : List (List PV)), cokLL z = true → ∀ i j, i < z.length → j < (z.getD i []).length → cokD ((z.getD i []).getD j .any) = true
 | [], _, i, j, hi, _ => by simp at hi
 | x :: z, h, 0, j, _, hj => by
  simp only [cokLL, Bool.and_eq_true] at h
  simp only [List.getD_cons_zero] at hj ⊢
  exact allL_mem h.1 j hj
 | x :: z, h, i + 1, j, hi, hj => by
  simp only [cokLL, Bool.and_eq_true] at h
  simp only [List.getD_cons_succ] at hj ⊢
  exact cokLL_getD z h.2 i j (by simpa using hi) hj
theorem row_repD {b n : Nat} {vs : Array Value} {T : TypeId} {els : List (List PV)} (hb : w.heap[b]? = some (.cells vs T (0, 0))) (hS : ∀ i, S b i) (hr : RepL w S β vs (flatE els)) (hn : ∀ e, e ∈ els → e.length = n) (hok : cokLL els = true) (cap : Nat) (hcap : els.length ≤ cap) :
  RepD w S (.slice (some ⟨b, 0, none⟩) els.length cap) (.sl (mapDD els)) := by
 by_cases he : els = []
 ·subst he; exact .sl0 _ _
 ·have hne : mapDD els ≠ [] := by cases els with
   | nil => exact absurd rfl he
   | cons x z => simp [mapDD]
  have hlen : els.length = (mapDD els).length := (mapDD_length els).symm
  rw [hlen]
  have key : ∀ i j, i < els.length → j < n → Rep w S β (vs.getD (i * n + j) undef) ((els.getD i []).getD j .any) ∧ i * n + j < vs.size ∧ cokD ((els.getD i []).getD j .any) = true := by
   intro i j hi hj
   have h1 : i * n + j < (flatE els).length := by
    rw [flatE_length n els hn]
    calc i * n + j < i * n + n := by omega
     _ = (i + 1) * n := by rw [Nat.add_mul]; omega
     _ ≤ els.length * n := Nat.mul_le_mul_right _ hi
   have h2 := hr.2 (i * n + j) h1
   rw [flatE_getD n els hn i j hi hj] at h2
   refine ⟨h2, by rw [hr.1]; exact h1, cokLL_getD els hok i j hi ?_⟩
   have : els.getD i [] ∈ els := by
    rw [List.getD_eq_getElem?_getD, List.getElem?_eq_getElem hi]
    exact List.getElem_mem hi
   rw [hn _ this]
   exact hj
  refine .sl (s := n) (fun i j => vs.getD (i * n + j) undef) hne (by rw [← hlen]; exact hcap) (fun i j _ _ => hS _) (mapDD_mem els n hn) (fun i j hi hj => ?_) (fun i j hi hj => ?_) (fun i j hi hj => ?_)
  ·rw [← hlen] at hi
   have := (key i j hi hj).2.1
   simp only [World.cell?, hb, Nat.zero_add]
   simp [this]
  ·rw [← hlen] at hi
   exact oneCell_of (key i j hi hj).1 (cokD_C (key i j hi hj).2.2)
  ·rw [← hlen] at hi
   rw [mapDD_getD els i hi, mapD_getD]
   exact rep_stor (key i j hi hj).1 (cokD_stor (key i j hi hj).2.2)
theorem RepL.go {vs : Array Value} {cs : List PV} (h : RepL w S β vs cs) (l : Leads w S nobody w' S') (hb : ∀ b i, S b i → b < w.heap.size) : RepL w' S' β vs cs :=
 ⟨h.1, fun j hj => (h.2 j hj).evo (l.evo hb) (l.subs hb)⟩
theorem run_buildSlice {t n by' : Nat} {z : List PV} (ht : ty t = .sli n by' z) (hb : ∀ b i, S b i → b < w.heap.size) {ρ : Operand → Value} {e : Operand → PV} (he : ∀ x, Rep w S β (ρ x) (e x)) {len : Nat} {parts : Array (Nat × Operand)} {els : List (List PV)}
  (hf : fillE n (evParts e parts.toList) (repE z len) = some els) (hle : len * n ≤ 1000) (hok : cokLL els = true) :
  ∃ w' S' val, (Instr.buildSlice t len (parts.map fun (i, x) => (i, ρ x))).run Pg w = .ok val w' ∧ Leads w S nobody w' S' ∧ Rep w' S' β val (slOf els) := by
 obtain ⟨i, el, j, zv, h1, h2, h3, h4, h5, h6, h7, h8, h9, h10, h11, h12⟩ := ty_sli ht
 subst h11
 have hzl : (zv.cells.toList.map ofVal).length = n := by simp [h9]
 have hp := parts_eval (w := w) (S := S) (β := β) he parts.toList
 have h9' : ((parts.map fun (i, x) => (i, ρ x)).toList) = parts.toList.map fun (p : Nat × Operand) => (p.1, ρ p.2) := by simp
 have hz0 : RepL w S β ((Array.range (len * n)).map (zv.cells[· % zv.cells.size]!)) (flatE (repE (zv.cells.toList.map ofVal) len)) := by
  have hfl : (flatE (repE (zv.cells.toList.map ofVal) len)).length = len * n := by
   rw [flatE_length n _ (fun e he => by rw [repE_mem _ _ _ he]; exact hzl), repE_length]
  refine ⟨by rw [hfl]; simp, fun j hj => ?_⟩
  rw [hfl] at hj
  rw [flatE_repE_getD _ n hzl h10 len j hj]
  have hm : j % n < n := Nat.mod_lt _ h10
  have e1 : (((Array.range (len * n)).map (zv.cells[· % zv.cells.size]!)).getD j undef) = zv.cells.getD (j % n) undef := by
   have : j % n < zv.cells.size := by omega
   simp [hj, h9, getElem!_def, Array.getElem?_eq_getElem this]
  rw [e1]
  exact (ofVals_rep zv.cells).2 (j % n) (by rw [hzl]; exact hm)
 obtain ⟨cells', g1, g2, g3, g4⟩ := fillE_sound hp (fun e he => by rw [repE_mem _ _ _ he]; exact hzl) hz0 hf
 rw [repE_length] at g4
 have hbig : ¬ (len * n > 2 ^ 24) := by omega
 have hrun : (Instr.buildSlice t len (parts.map fun (i, x) => (i, ρ x))).run Pg w = .ok (.slice (some ⟨w.heap.size, 0, none⟩) len len) (w.alloc (.cells cells' el)) := by
  have h9'' : (Array.map (fun (x : Nat × Operand) => (x.fst, ρ x.snd)) parts).toList = parts.toList.map fun (p : Nat × Operand) => (p.1, ρ p.2) := by simp
  by_cases hz : len * n = 0
  ·have g1' : Instr.fill (fun i => some (i * n, n)) ((Array.range (len * n)).map fun x => (#[] : Array Value)[x % (#[] : Array Value).size]!) (parts.toList.map fun (p : Nat × Operand) => (p.1, ρ p.2)) = some cells' := by
    rw [← g1, hz]
    have this : ∀ f : Nat → Value, Array.map f (Array.range 0) = #[] := fun f => Array.eq_empty_of_size_eq_zero (by simp)
    rw [this, this]
   unfold Instr.buildSlice
   simp only [Sem.run_bind, run_underlying h4, Result.andThen_ok, run_size h5, h7, hbig, if_false, hz, if_true, Sem.run_pure, gt_iff_lt, Nat.not_lt_zero]
   simp only [hz] at g1'
   simp only [h9'', g1', newRow, Sem.run_bind, run_newObj, Sem.run_pure, Result.andThen_ok]
   rfl
  ·unfold Instr.buildSlice
   simp only [Sem.run_bind, run_underlying h4, Result.andThen_ok, run_size h5, h7, hbig, if_false, hz, run_zero h5 h6, Sem.run_pure]
   simp only [h9'', g1, newRow, Sem.run_bind, run_newObj, Sem.run_pure, Result.andThen_ok]
   rfl
 have hl := alloc_leads (w := w) hb (.cells cells' el)
 refine ⟨_, _, _, hrun, hl, ?_⟩
 cases hel : els with
 | nil =>
  have : len = 0 := by rw [← g4, hel]; rfl
  subst this
  exact .nil _
 | cons x r =>
  refine .c rfl ?_
  have := row_repD (w := w.alloc (.cells cells' el)) (S := fun b i => S b i ∨ b = w.heap.size) (β := β) (els := els) (heap_alloc_new w _) (fun _ => .inr rfl) (g2.go hl hb) g3 hok len (by omega)
  rw [g4, hel] at this
  exact this
end
end Go.Proofs.YtcanljninhfmhaaGreat
