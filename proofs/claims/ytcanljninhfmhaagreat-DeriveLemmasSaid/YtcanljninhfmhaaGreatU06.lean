/- A part of the proof: PmG, PmH, PmI. -/
import Derived.Test.YtcanljninhfmhaaGreatU05
set_option linter.all false
namespace Go.Proofs.YtcanljninhfmhaaGreat
open Go
section
variable {w : World} {S : Nat → Nat → Prop} {β : Nat → Option Nat} {K : PV → Prop}
theorem kE {v : Value} {x : PV} (h : Rep w S β v x) (hp : qK x = true) : v.cells.size = (yJ x).length ∧ ∀ j, j < (yJ x).length → Rep w S β (v.cells.getD j undef) ((yJ x).getD j .any) := by
 have one : (∀ cs, v ≠ .agg cs) → yJ x = [x] → v.cells.size = (yJ x).length ∧ ∀ j, j < (yJ x).length → Rep w S β (v.cells.getD j undef) ((yJ x).getD j .any) := by
  intro hv hx
  have hc : v.cells = #[v] := by unfold Value.cells; split <;> first | (exact absurd rfl (hv _)) | rfl
  rw [hc, hx]
  refine ⟨rfl, fun j hj => ?_⟩
  have : j = 0 := by simp at hj; omega
  subst this
  simpa using h
 cases x with
 | agg cs =>
  obtain ⟨vs, rfl, h1, h2⟩ := vW h
  exact ⟨h1, h2⟩
 | int k n => exact one (by rw [w8 h]; intro cs e; cases e) rfl
 | tt => exact one (by rw [mG h]; intro cs e; cases e) rfl
 | ff => exact one (by rw [mH h]; intro cs e; cases e) rfl
 | bool b => exact one (by rw [g8 h]; intro cs e; cases e) rfl
 | nbool b => exact one (by rw [gR h]; intro cs e; cases e) rfl
 | str s => exact one (by rw [rep_str h]; intro cs e; cases e) rfl
 | nil => obtain ⟨a, rfl⟩ := uI h; exact one (by intro cs e; cases e) rfl
 | sl els => rcases dE (aK h) with ⟨_, a, cap, rfl⟩ | ⟨b, o, cap, s, vals, _, _, _, _, _, _, _, rfl⟩ <;> exact one (by intro cs e; cases e) rfl
 | tup vs => simp [qK, b6] at hp
 | ptr n o => obtain ⟨b, _, rfl⟩ := kI h; exact one (by intro cs e; cases e) rfl
 | aptr n s i o => obtain ⟨b, _, rfl⟩ := jW h; exact one (by intro cs e; cases e) rfl
 | dptr cs o => obtain ⟨b, o', vals, _, rfl, _⟩ := g7 h; exact one (by intro cs e; cases e) rfl
 | osl n s o l => rcases gK h with ⟨_, _, _, a, rfl⟩ | ⟨b, cap, vs, T, _, _, _, _, rfl⟩ <;> exact one (by intro cs e; cases e) rfl
 | fn f cs => obtain ⟨vs, rfl, _⟩ := kJ h; exact one (by intro cs e; cases e) rfl
 | nilf => cases h with | c hf h => cases hf | nilf => exact one (by intro cs e; cases e) rfl
 | any => simp [qK, b6] at hp
theorem bK {v : Value} {x : PV} (h : Rep w S β v x) (hp : b6 x = true) : v.oneCell' = true := by
 cases x with
 | agg cs => simp [b6] at hp
 | int k n => rw [w8 h]; rfl
 | tt => rw [mG h]; rfl
 | ff => rw [mH h]; rfl
 | bool b => rw [g8 h]; rfl
 | nbool b => rw [gR h]; rfl
 | str s => rw [rep_str h]; rfl
 | nil => obtain ⟨a, rfl⟩ := uI h; rfl
 | sl els => rcases dE (aK h) with ⟨_, a, cap, rfl⟩ | ⟨b, o, cap, s, vals, _, _, _, _, _, _, _, rfl⟩ <;> rfl
 | tup vs => simp [b6] at hp
 | ptr n o => obtain ⟨b, _, rfl⟩ := kI h; rfl
 | aptr n s i o => obtain ⟨b, _, rfl⟩ := jW h; rfl
 | dptr cs o => obtain ⟨b, o', vals, _, rfl, _⟩ := g7 h; rfl
 | osl n s o l => rcases gK h with ⟨_, _, _, a, rfl⟩ | ⟨b, cap, vs, T, _, _, _, _, rfl⟩ <;> rfl
 | fn f cs => obtain ⟨vs, rfl, _⟩ := kJ h; rfl
 | nilf => cases h with | c hf h => cases hf | nilf => rfl
 | any => simp [b6] at hp
theorem cokD_C {x : PV} (h : tX x = true) : b6 x = true := by cases x <;> simp_all [tX, b6, uG]
theorem mZ {x : PV} (h : tX x = true) : lZ x = true := by cases x <;> simp_all [tX, lZ, uG]
theorem vV : ∀ (cs : List PV) (n : Nat) (vs : List PV), n + vs.length ≤ cs.length → (w4 cs n vs).length = cs.length
 | c :: cs, 0, v :: vs, h => by simp only [w4, List.length_cons] at *; rw [vV cs 0 vs (by omega)]
 | cs, 0, [], _ => by cases cs <;> simp [w4]
 | [], n, v :: vs, h => by simp at h
 | [], n + 1, [], h => by simp at h
 | c :: cs, n + 1, vs, h => by simp only [w4, List.length_cons] at *; rw [vV cs n vs (by omega)]
theorem gX : ∀ (cs : List PV) (n : Nat) (vs : List PV), n + vs.length ≤ cs.length → ∀ j, (w4 cs n vs).getD j .any = if n ≤ j ∧ j < n + vs.length then vs.getD (j - n) .any else cs.getD j .any
 | c :: cs, 0, v :: vs, h, 0 => by simp [w4]
 | c :: cs, 0, v :: vs, h, j + 1 => by
  have := gX cs 0 vs (by simp only [List.length_cons] at h; omega) j
  simp [w4] at this ⊢
  exact this
 | cs, 0, [], _, j => by cases cs <;> simp [w4]
 | [], n, v :: vs, h, j => by simp at h
 | [], n + 1, [], h, j => by simp at h
 | c :: cs, n + 1, vs, h, 0 => by simp [w4]
 | c :: cs, n + 1, vs, h, j + 1 => by
  have := gX cs n vs (by simp only [List.length_cons] at h; omega) j
  simp only [w4, List.getD_cons_succ, this]
  by_cases h1 : n ≤ j ∧ j < n + vs.length
  ·rw [if_pos h1, if_pos (by omega)]; congr 1; omega
  ·rw [if_neg h1, if_neg (by omega)]
def RepL (w : World) (S : Nat → Nat → Prop) (β : Nat → Option Nat) (vs : Array Value) (cs : List PV) : Prop :=
 vs.size = cs.length ∧ ∀ j, j < cs.length → Rep w S β (vs.getD j undef) (cs.getD j .any)
theorem foldl_set (vs : List Value) : ∀ (k off : Nat) (cells : Array Value), off + k + vs.length ≤ cells.size →
  ((vs.zipIdx k).foldl (fun (cs : Array Value) (p : Value × Nat) => cs.setIfInBounds (off + p.2) p.1) cells).size = cells.size ∧
  ∀ j, ((vs.zipIdx k).foldl (fun (cs : Array Value) (p : Value × Nat) => cs.setIfInBounds (off + p.2) p.1) cells).getD j undef = if off + k ≤ j ∧ j < off + k + vs.length then vs.getD (j - (off + k)) undef else cells.getD j undef := by
 induction vs with
 | nil => intro k off cells h; refine ⟨rfl, fun j => ?_⟩; simp; omega
 | cons v vs ih =>
  intro k off cells h
  simp only [List.zipIdx_cons, List.foldl_cons, List.length_cons] at *
  obtain ⟨h1, h2⟩ := ih (k + 1) off (cells.setIfInBounds (off + k) v) (by simp; omega)
  refine ⟨by rw [h1]; simp, fun j => ?_⟩
  rw [h2 j]
  by_cases hj : j = off + k
  ·subst hj
   rw [if_neg (by omega), if_pos (by omega)]
   have : off + k < cells.size := by omega
   simp [this]
  ·by_cases hr : off + (k + 1) ≤ j ∧ j < off + (k + 1) + vs.length
   ·rw [if_pos hr, if_pos (by omega)]
    have : j - (off + k) = (j - (off + (k + 1))) + 1 := by omega
    rw [this, List.getD_cons_succ]
   ·rw [if_neg hr, if_neg (by omega)]
    simp [Array.getElem?_setIfInBounds_ne (Ne.symm hj)]
theorem set_rep {cells : Array Value} {z : List PV} (hz : RepL w S β cells z) {v : Value} {x : PV} (hv : Rep w S β v x) (hp : qK x = true) {off : Nat} (hle : off + (yJ x).length ≤ z.length) :
  RepL w S β (v.cells.zipIdx.foldl (fun (cs : Array Value) (p : Value × Nat) => cs.setIfInBounds (off + p.2) p.1) cells) (w4 z off (yJ x)) := by
 obtain ⟨h1, h2⟩ := kE hv hp
 have hl : v.cells.toList.length = (yJ x).length := by simpa using h1
 obtain ⟨h3, h4⟩ := foldl_set v.cells.toList 0 off cells (by rw [hl, hz.1]; omega)
 have he : v.cells.zipIdx.foldl (fun (cs : Array Value) (p : Value × Nat) => cs.setIfInBounds (off + p.2) p.1) cells = (v.cells.toList.zipIdx 0).foldl (fun (cs : Array Value) (p : Value × Nat) => cs.setIfInBounds (off + p.2) p.1) cells := by
  rw [← Array.foldl_toList, Array.toList_zipIdx]
 rw [he]
 refine ⟨by rw [h3, hz.1, vV _ _ _ hle], fun j hj => ?_⟩
 rw [vV _ _ _ hle] at hj
 rw [h4 j, gX _ _ _ hle j, hl]
 by_cases hr : off + 0 ≤ j ∧ j < off + 0 + (yJ x).length
 ·rw [if_pos hr, if_pos (by omega)]
  have := h2 (j - off) (by omega)
  simpa using this
 ·rw [if_neg hr, if_neg (by omega)]
  exact hz.2 j hj
theorem uK (zs : Array Value) : RepL w S β zs (zs.toList.map wD) := by
 refine ⟨by simp, fun j hj => ?_⟩
 have hj' : j < zs.size := by simpa using hj
 have : (zs.toList.map wD).getD j .any = wD (zs.getD j undef) := by simp [hj']
 rw [this]
 exact rep_ofVal _
inductive PartsRep (w : World) (S : Nat → Nat → Prop) (β : Nat → Option Nat) : List (Nat × Value) → List (Nat × PV) → Prop
 | nil : PartsRep w S β [] []
 | cons {i v x r q} (hv : Rep w S β v x) (h : PartsRep w S β r q) : PartsRep w S β ((i, v) :: r) ((i, x) :: q)
theorem bH {ρ : Operand → Value} {e : Operand → PV} (he : ∀ x, Rep w S β (ρ x) (e x)) : ∀ (l : List (Nat × Operand)), PartsRep w S β (l.map fun (p : Nat × Operand) => (p.1, ρ p.2)) (kT e l)
 | [] => .nil
 | (i, o) :: r => .cons (he o) (bH he r)
theorem fillP_sound {fs : List (Nat × Nat × Bool)} {place : Nat → Option (Nat × Nat)} (hpl : ∀ i off sz ag, fs[i]? = some (off, sz, ag) → place i = some (off, sz)) {vps : List (Nat × Value)} {ps : List (Nat × PV)} (h : PartsRep w S β vps ps) :
  ∀ {cells : Array Value} {z cs : List PV}, RepL w S β cells z → fillP fs ps z = some cs → ∃ cells', Instr.fill place cells vps = some cells' ∧ RepL w S β cells' cs := by
 induction h with
 | nil => intro cells z cs hz hf; simp only [fillP, Option.some.injEq] at hf; subst hf; exact ⟨cells, rfl, hz⟩
 | @cons i v x r q hv h ih =>
  intro cells z cs hz hf
  unfold fillP at hf
  split at hf
  ·rename_i off sz ag hi
   cases hc : (nqb (yJ x).length sz && nle (off + sz) z.length && qK x) with
   | false => simp [hc] at hf
   | true =>
    simp only [hc, cond_true] at hf
    simp only [Bool.and_eq_true] at hc
    obtain ⟨⟨hl, hle⟩, hp⟩ := hc
    have hl := yM hl
    have hle := r8 hle
    obtain ⟨c1, c2⟩ := kE hv hp
    obtain ⟨cells', h1, h2⟩ := ih (set_rep hz hv hp (by omega)) hf
    refine ⟨cells', ?_, h2⟩
    unfold Instr.fill
    rw [hpl _ _ _ _ hi]
    have hn : ¬ (v.cells.size ≠ sz ∨ off + v.cells.size > cells.size) := by rw [c1, hz.1]; omega
    simp only [ne_eq, Bool.or_eq_true, decide_eq_true_eq, hn, if_false]
    simpa using h1
  ·cases hf
theorem fillA_sound {n : Nat} {vps : List (Nat × Value)} {ps : List (Nat × PV)} (h : PartsRep w S β vps ps) :
  ∀ {cells : Array Value} {z cs : List PV}, RepL w S β cells z → fillA n ps z = some cs → ∃ cells', Instr.fill (fun i => some (i * n, n)) cells vps = some cells' ∧ RepL w S β cells' cs := by
 induction h with
 | nil => intro cells z cs hz hf; simp only [fillA, Option.some.injEq] at hf; subst hf; exact ⟨cells, rfl, hz⟩
 | @cons i v x r q hv h ih =>
  intro cells z cs hz hf
  unfold fillA at hf
  cases hc : (nqb (yJ x).length n && nle (i * n + n) z.length && qK x) with
  | false => simp [hc] at hf
  | true =>
   simp only [hc, cond_true] at hf
   simp only [Bool.and_eq_true] at hc
   obtain ⟨⟨hl, hle⟩, hp⟩ := hc
   have hl := yM hl
   have hle := r8 hle
   obtain ⟨c1, c2⟩ := kE hv hp
   obtain ⟨cells', h1, h2⟩ := ih (set_rep hz hv hp (by omega)) hf
   refine ⟨cells', ?_, h2⟩
   unfold Instr.fill
   have hn : ¬ (v.cells.size ≠ n ∨ i * n + v.cells.size > cells.size) := by rw [c1, hz.1]; omega
   simp only [ne_eq, Bool.or_eq_true, decide_eq_true_eq, hn, if_false]
   simpa using h1
theorem mapM_places (P : Program) (fields : List Field) (hf : ∀ f, f ∈ fields → ∃ i, P.info? f.type = some i) (w : World) :
  (fields.mapM fun f => do pure (f.offset, ← sizeOf f.type) : Sem (List (Nat × Nat))).run P w = .ok (fields.map fun f => (f.offset, P.cellsOf f.type)) w := by
 induction fields with
 | nil => rfl
 | cons f r ih =>
  obtain ⟨i, hi⟩ := hf f (by simp)
  have := ih fun g hg => hf g (by simp [hg])
  have e : ((do pure (f.offset, ← sizeOf f.type) : Sem (Nat × Nat)).run P w) = .ok (f.offset, P.cellsOf f.type) w := by
   simp [sizeOf, typeInfo, hi, Program.cellsOf]
  rw [List.mapM_cons, Sem.run_bind, e, Result.andThen_ok, Sem.run_bind, this]
  simp
theorem run_build_st {t n : Nat} {fs : List (Nat × Nat × Bool)} {z : List PV} (ht : ty t = .st n fs z) {ρ : Operand → Value} {e : Operand → PV} (he : ∀ x, Rep w S β (ρ x) (e x)) {parts : Array (Nat × Operand)} {cs : List PV}
  (hf : fillP fs (kT e parts.toList) z = some cs) : ∃ vs, (Instr.build t (parts.map fun (i, x) => (i, ρ x))).run Pg w = .ok (.agg vs) w ∧ RepL w S β vs cs := by
 obtain ⟨i, fields, zs, h1, h2, h3, h4, h5, h6, h7, h8⟩ := lV ht
 subst h7
 have hp := bH (w := w) (S := S) (β := β) he parts.toList
 obtain ⟨cells', g1, g2⟩ := fillP_sound (place := fun k => (fields.map fun f => (f.offset, Pg.cellsOf f.type))[k]?) (by
  intro k off sz ag hk
  obtain ⟨fields', f, u1, u2, u3, u4, _⟩ := field_of ht hk
  rw [h2] at u1
  cases u1
  simp [u2, u3, u4]) hp (uK zs) hf
 refine ⟨cells', ?_, g2⟩
 have hm : (fields.mapM fun f => do pure (f.offset, ← sizeOf f.type) : Sem (Array (Nat × Nat))).run Pg w = .ok (fields.map fun f => (f.offset, Pg.cellsOf f.type)) w := by
  have := mapM_places Pg fields.toList (fun f hf => by obtain ⟨i, hi, _⟩ := uE (h8 f hf); exact ⟨i, hi⟩) w
  rw [Array.mapM_eq_mapM_toList, Sem.run_map, this]
  exact congrArg (fun l => Result.ok l w) (Array.ext' (by simp))
 have h9 : ((parts.map fun (i, x) => (i, ρ x)).toList) = parts.toList.map fun (p : Nat × Operand) => (p.1, ρ p.2) := by simp
 simp only [Instr.build, Sem.run_bind, aH h1 h3, Result.andThen_ok, run_underlying h2, hm, Value.cells, h9, g1, Sem.run_pure]
theorem oH {t len n : Nat} {ag : Bool} {z : List PV} (ht : ty t = .arr len n ag z) {ρ : Operand → Value} {e : Operand → PV} (he : ∀ x, Rep w S β (ρ x) (e x)) {parts : Array (Nat × Operand)} {cs : List PV}
  (hf : fillA n (kT e parts.toList) z = some cs) : ∃ vs, (Instr.build t (parts.map fun (i, x) => (i, ρ x))).run Pg w = .ok (.agg vs) w ∧ RepL w S β vs cs := by
 obtain ⟨i, el, zs, h1, h2, h3, h4, h5, h6, h7, h8, h8', h8'', h9⟩ := rT ht
 subst h9
 have hp := bH (w := w) (S := S) (β := β) he parts.toList
 obtain ⟨cells', g1, g2⟩ := fillA_sound hp (uK zs) hf
 refine ⟨cells', ?_, g2⟩
 obtain ⟨j, hj1, hj2⟩ := uE (t := el) (by omega)
 have h9 : ((parts.map fun (i, x) => (i, ρ x)).toList) = parts.toList.map fun (p : Nat × Operand) => (p.1, ρ p.2) := by simp
 have hs : j.size = n := hj2.trans h6
 simp only [Instr.build, Sem.run_bind, aH h1 h3, Result.andThen_ok, run_underlying h2, Value.cells, h9, w7 hj1, hs, g1, Sem.run_pure]
def u7 : List (List PV) → List PV
 | [] => []
 | e :: r => e ++ u7 r
theorem gP (n : Nat) : ∀ (z : List (List PV)), (∀ e, e ∈ z → e.length = n) → (u7 z).length = z.length * n
 | [], _ => by simp [u7]
 | e :: r, h => by
  have := gP n r fun e he => h e (by simp [he])
  simp [u7, this, h e (by simp), Nat.add_mul, Nat.add_comm]
theorem dC : ∀ (a b vs : List PV) , vs.length = a.length → w4 (a ++ b) 0 vs = vs ++ b
 | [], b, [], _ => by cases b <;> simp [w4]
 | c :: a, b, v :: vs, h => by simp only [List.cons_append, w4]; rw [dC a b vs (by simpa using h)]
 | [], _, _ :: _, h => by simp at h
 | _ :: _, _, [], h => by simp at h
theorem gY : ∀ (a b vs : List PV) (k : Nat), w4 (a ++ b) (a.length + k) vs = a ++ w4 b k vs
 | [], b, vs, k => by simp
 | c :: a, b, vs, k => by
  have : (c :: a).length + k = (a.length + k) + 1 := by simp; omega
  rw [this]
  simp only [List.cons_append, w4]
  rw [gY a b vs k]
theorem flatE_set (n : Nat) : ∀ (z : List (List PV)) (i : Nat) (e : List PV), (∀ x, x ∈ z → x.length = n) → e.length = n → i < z.length → u7 (z.set i e) = w4 (u7 z) (i * n) e
 | [], i, e, _, _, hi => by simp at hi
 | x :: z, 0, e, h, he, _ => by
  simp only [List.set_cons_zero, u7, Nat.zero_mul]
  rw [dC x (u7 z) e (by rw [he, h x (by simp)])]
 | x :: z, i + 1, e, h, he, hi => by
  simp only [List.set_cons_succ, u7]
  rw [flatE_set n z i e (fun y hy => h y (by simp [hy])) he (by simpa using hi)]
  have : (i + 1) * n = x.length + i * n := by rw [h x (by simp), Nat.add_mul]; omega
  rw [this, gY]
theorem fillE_sound {n : Nat} {vps : List (Nat × Value)} {ps : List (Nat × PV)} (h : PartsRep w S β vps ps) :
  ∀ {cells : Array Value} {z els : List (List PV)}, (∀ e, e ∈ z → e.length = n) → RepL w S β cells (u7 z) → fillE n ps z = some els →
   ∃ cells', Instr.fill (fun i => some (i * n, n)) cells vps = some cells' ∧ RepL w S β cells' (u7 els) ∧ (∀ e, e ∈ els → e.length = n) ∧ els.length = z.length := by
 induction h with
 | nil => intro cells z els hn hz hf; simp only [fillE, Option.some.injEq] at hf; subst hf; exact ⟨cells, rfl, hz, hn, rfl⟩
 | @cons i v x r q hv h ih =>
  intro cells z els hn hz hf
  unfold fillE at hf
  cases hc : (nqb (yJ x).length n && nlt i z.length && qK x) with
  | false => simp [hc] at hf
  | true =>
   simp only [hc, cond_true] at hf
   simp only [Bool.and_eq_true] at hc
   obtain ⟨⟨hl, hlt⟩, hp⟩ := hc
   have hl := yM hl
   have hlt : i < z.length := by simp [nlt] at hlt; omega
   have hle : i * n + n ≤ (u7 z).length := by
    rw [gP n z hn]
    calc i * n + n = (i + 1) * n := by rw [Nat.add_mul]; omega
     _ ≤ z.length * n := Nat.mul_le_mul_right _ hlt
   obtain ⟨c1, c2⟩ := kE hv hp
   have hs := set_rep hz hv hp (off := i * n) (by omega)
   rw [← flatE_set n z i (yJ x) hn hl hlt] at hs
   obtain ⟨cells', h1, h2, h3, h4⟩ := ih (z := z.set i (yJ x)) (fun e he => by
    rcases List.mem_or_eq_of_mem_set he with he | rfl
    ·exact hn e he
    ·exact hl) hs hf
   refine ⟨cells', ?_, h2, h3, by simpa using h4⟩
   unfold Instr.fill
   have hn' : ¬ (v.cells.size ≠ n ∨ i * n + v.cells.size > cells.size) := by rw [c1, hz.1]; omega
   simp only [ne_eq, Bool.or_eq_true, decide_eq_true_eq, hn', if_false]
   simpa using h1
theorem aM (z : List PV) : ∀ n, (nQ z n).length = n
 | 0 => rfl
 | n + 1 => by simp [nQ, aM z n]
theorem iN (z : List PV) : ∀ n e, e ∈ nQ z n → e = z
 | 0, e, h => by simp [nQ] at h
 | n + 1, e, h => by
  simp only [nQ, List.mem_cons] at h
  rcases h with h | h
  ·exact h
  ·exact iN z n e h
theorem bY (z : List PV) (m : Nat) (hm : z.length = m) (hp : 0 < m) : ∀ n j, j < n * m → (u7 (nQ z n)).getD j .any = z.getD (j % m) .any
 | 0, j, h => by simp at h
 | n + 1, j, h => by
  simp only [nQ, u7]
  by_cases hj : j < m
  ·rw [List.getD_eq_getElem?_getD, List.getElem?_append_left (by omega), ← List.getD_eq_getElem?_getD, Nat.mod_eq_of_lt hj]
  ·rw [List.getD_eq_getElem?_getD, List.getElem?_append_right (by omega), ← List.getD_eq_getElem?_getD, hm]
   rw [bY z m hm hp n (j - m) (by rw [Nat.add_mul] at h; omega)]
   congr 1
   rw [Nat.mod_eq_sub_mod (by omega : j ≥ m)]
end
def vO : Nat → Prop := fun _ => False
section
variable {w0 : World} {S0 : Nat → Nat → Prop} {K0 : Nat → Prop} {N : Cx} {τ : Nat → PV} {objs : List (Nat × Obj')} {a : Act} {w w' : World} {S S' : Nat → Nat → Prop} {β : Nat → Option Nat}
theorem Leads.evo (l : Leads w S vO w' S') (hb : ∀ b i, S b i → b < w.heap.size) : Evo S w w' where
 same b i hS := dU (l.same b (hb b i hS) id) i
 shape b vs T h := l.shape b vs T h
theorem Leads.subs {K : Nat → Prop} (l : Leads w S K w' S') (hb : ∀ b i, S b i → b < w.heap.size) : ∀ b i, S b i → S' b i := fun b i hS => l.sub b i (hb b i hS) hS
theorem Leads.trans (h : Leads w0 S0 K0 w S) (l : Leads w S vO w' S') : Leads w0 S0 K0 w' S' where
 size := Nat.le_trans h.size l.size
 os := l.os.trans h.os
 tape := l.tape.trans h.tape
 output := l.output.trans h.output
 same b hb hk := (l.same b (Nat.lt_of_lt_of_le hb h.size) id).trans (h.same b hb hk)
 shape b vs T hb := by
  obtain ⟨vs', h1, h2⟩ := h.shape b vs T hb
  obtain ⟨vs'', h3, h4⟩ := l.shape b vs' T h1
  exact ⟨vs'', h3, h4.trans h2⟩
 bnd := l.bnd
 sub b i hb hS := l.sub b i (Nat.lt_of_lt_of_le hb h.size) (h.sub b i hb hS)
 old b i hb hk hS := h.old b i hb hk (l.old b i (Nat.lt_of_lt_of_le hb h.size) id hS)
theorem RowAt.go {n s : Nat} {els : Unit → List (List D)} (h : RowAt w S β n s els) (l : Leads w S vO w' S') (hb : ∀ b i, S b i → b < w.heap.size) (hl : ∀ b, β n = some b → b < w.heap.size) : RowAt w' S' β n s els := by
 have he := l.evo hb
 have hs := l.subs hb
 rcases h with h | ⟨b, vs, T, h1, h2, h3, h4, h5⟩
 ·exact .inl h
 ·exact .inr ⟨b, vs, T, h1, (l.same b (hl b h1) id).trans h2, h3, h4, fun i j hi hj => ⟨(h5 i j hi hj).1.evo he.same hs, (h5 i j hi hj).2⟩⟩
theorem ObjAt.go {n : Nat} {o : Obj'} (h : ObjAt w S β n o) (l : Leads w S vO w' S') (hb : ∀ b i, S b i → b < w.heap.size) (hl : ∀ b, β n = some b → b < w.heap.size) : ObjAt w' S' β n o := by
 have he := l.evo hb
 have hs := l.subs hb
 cases o with
 | box cs =>
  obtain ⟨b, vs, T, h1, h2, h3, h4⟩ := h
  exact ⟨b, vs, T, h1, (l.same b (hl b h1) id).trans h2, h3, fun j hj => (h4 j hj).evo he hs⟩
 | arr s els => exact RowAt.go h l hb hl
 | log s els => exact RowAt.go h l hb hl
 | lent s els => exact ⟨RowAt.go h.1 l hb hl, fun b hβ i hi => hs _ _ (h.2 b hβ i hi)⟩
theorem ObjsAt.go (h : ObjsAt w S β objs) (l : Leads w S vO w' S') (hb : ∀ b i, S b i → b < w.heap.size) : ObjsAt w' S' β objs where
 nd := h.nd
 at_ n o hm := (h.at_ n o hm).go l hb fun b hβ => (h.un n o b hm hβ).2
 un n o b hm hβ := by
  obtain ⟨h1, h2⟩ := h.un n o b hm hβ
  exact ⟨fun i hS => h1 i (l.old b i h2 id hS), Nat.lt_of_lt_of_le h2 l.size⟩
 inj := h.inj
theorem Sim.go (h : Sim w0 S0 K0 N τ objs a w S β) (l : Leads w S vO w' S') : Sim w0 S0 K0 N τ objs a w' S' β where
 dfr := h.dfr
 sz := h.sz
 ld := h.ld.trans l
 tmp t := (h.tmp t).evo (l.evo h.ld.bnd) (l.subs h.ld.bnd)
 obj := h.obj.go l h.ld.bnd
 own := h.own
 keep := h.keep
theorem nN (hb : ∀ b i, S b i → b < w.heap.size) (o : Obj) : Leads w S vO (w.alloc o) (fun b i => S b i ∨ b = w.heap.size) where
 size := by simp
 os := rfl
 tape := rfl
 output := rfl
 same b h _ := heap_alloc_old w o h
 shape b vs T h := by
  have hlt : b < w.heap.size := by
   rcases Nat.lt_or_ge b w.heap.size with h' | h'
   ·exact h'
   ·simp [Array.getElem?_eq_none h'] at h
  exact ⟨vs, by rw [heap_alloc_old w o hlt]; exact h, rfl⟩
 bnd b i h := by
  simp only [World.size_alloc]
  rcases h with h | h
  ·have := hb b i h; omega
  ·omega
 sub b i h h' := .inl h'
 old b i h _ h' := h'.resolve_right (by omega)
theorem gQ (hb : ∀ b i, S b i → b < w.heap.size) (o : Obj) : Leads w S vO (w.alloc o) S where
 size := by simp
 os := rfl
 tape := rfl
 output := rfl
 same b h _ := heap_alloc_old w o h
 shape b vs T h := by
  have hlt : b < w.heap.size := by
   rcases Nat.lt_or_ge b w.heap.size with h' | h'
   ·exact h'
   ·simp [Array.getElem?_eq_none h'] at h
  exact ⟨vs, by rw [heap_alloc_old w o hlt]; exact h, rfl⟩
 bnd b i h := by simp only [World.size_alloc]; have := hb b i h; omega
 sub b i h h' := h'
 old b i h _ h' := h'
theorem Leads.refl (hb : ∀ b i, S b i → b < w.heap.size) : Leads w S vO w S := ⟨Nat.le_refl _, rfl, rfl, rfl, fun _ _ _ => rfl, fun b vs T h => ⟨vs, h, rfl⟩, hb, fun _ _ _ h => h, fun _ _ _ _ h => h⟩
theorem qQ (hb : ∀ b i, S b i → b < w.heap.size) : Leads w S vO w.drew S := ⟨Nat.le_refl _, rfl, rfl, rfl, fun _ _ _ => rfl, fun b vs T h => ⟨vs, h, rfl⟩, hb, fun _ _ _ h => h, fun _ _ _ _ h => h⟩
theorem eI (n : Nat) : ∀ (z : List (List PV)), (∀ e, e ∈ z → e.length = n) → ∀ i j, i < z.length → j < n → (u7 z).getD (i * n + j) .any = (z.getD i []).getD j .any
 | [], _, i, j, hi, _ => by simp at hi
 | x :: z, h, 0, j, _, hj => by
  have hx := h x (by simp)
  simp only [u7, Nat.zero_mul, Nat.zero_add, List.getD_cons_zero]
  rw [List.getD_eq_getElem?_getD, List.getElem?_append_left (by omega), ← List.getD_eq_getElem?_getD]
 | x :: z, h, i + 1, j, hi, hj => by
  have hx := h x (by simp)
  simp only [u7, List.getD_cons_succ]
  have e : (i + 1) * n + j = x.length + (i * n + j) := by rw [Nat.add_mul, hx]; omega
  rw [e, List.getD_eq_getElem?_getD, List.getElem?_append_right (by omega), ← List.getD_eq_getElem?_getD]
  rw [show x.length + (i * n + j) - x.length = i * n + j by omega]
  exact eI n z (fun e he => h e (by simp [he])) i j (by simpa using hi) hj
theorem tG : ∀ (z : List (List PV)), (zR z).length = z.length
 | [] => rfl
 | x :: z => by simp [zR, tG z]
theorem i4 : ∀ (z : List (List PV)) (i : Nat), i < z.length → (zR z).getD i [] = xF (z.getD i [])
 | [], i, h => by simp at h
 | x :: z, 0, _ => by simp [zR]
 | x :: z, i + 1, h => by simpa [zR] using i4 z i (by simpa using h)
theorem mapDD_mem : ∀ (z : List (List PV)) (n : Nat), (∀ e, e ∈ z → e.length = n) → ∀ e, e ∈ zR z → e.length = n
 | [], n, _, e, h => by simp [zR] at h
 | x :: z, n, hn, e, h => by
  simp only [zR, List.mem_cons] at h
  rcases h with rfl | h
  ·rw [vS]; exact hn x (by simp)
  ·exact mapDD_mem z n (fun e he => hn e (by simp [he])) e h
theorem xV {f : PV → Bool} : ∀ {cs : List PV}, yR f cs = true → ∀ j, j < cs.length → f (cs.getD j .any) = true
 | [], _, j, h => by simp at h
 | c :: cs, h, 0, _ => by simp only [yR, Bool.and_eq_true] at h; simpa using h.1
 | c :: cs, h, j + 1, hj => by simp only [yR, Bool.and_eq_true] at h; simpa using xV h.2 j (by simpa using hj)
theorem eU : ∀ (z : List (List PV)), tW z = true → ∀ i j, i < z.length → j < (z.getD i []).length → tX ((z.getD i []).getD j .any) = true
 | [], _, i, j, hi, _ => by simp at hi
 | x :: z, h, 0, j, _, hj => by
  simp only [tW, Bool.and_eq_true] at h
  simp only [List.getD_cons_zero] at hj ⊢
  exact xV h.1 j hj
 | x :: z, h, i + 1, j, hi, hj => by
  simp only [tW, Bool.and_eq_true] at h
  simp only [List.getD_cons_succ] at hj ⊢
  exact eU z h.2 i j (by simpa using hi) hj
theorem row_repD {b n : Nat} {vs : Array Value} {T : TypeId} {els : List (List PV)} (hb : w.heap[b]? = some (.cells vs T (0, 0))) (hS : ∀ i, S b i) (hr : RepL w S β vs (u7 els)) (hn : ∀ e, e ∈ els → e.length = n) (hok : tW els = true) (cap : Nat) (hcap : els.length ≤ cap) :
  RepD w S (.slice (some ⟨b, 0, none⟩) els.length cap) (.sl (zR els)) := by
 by_cases he : els = []
 ·subst he; exact .sl0 _ _
 ·have hne : zR els ≠ [] := by cases els with
   | nil => exact absurd rfl he
   | cons x z => simp [zR]
  have hlen : els.length = (zR els).length := (tG els).symm
  rw [hlen]
  have key : ∀ i j, i < els.length → j < n → Rep w S β (vs.getD (i * n + j) undef) ((els.getD i []).getD j .any) ∧ i * n + j < vs.size ∧ tX ((els.getD i []).getD j .any) = true := by
   intro i j hi hj
   have h1 : i * n + j < (u7 els).length := by
    rw [gP n els hn]
    calc i * n + j < i * n + n := by omega
     _ = (i + 1) * n := by rw [Nat.add_mul]; omega
     _ ≤ els.length * n := Nat.mul_le_mul_right _ hi
   have h2 := hr.2 (i * n + j) h1
   rw [eI n els hn i j hi hj] at h2
   refine ⟨h2, by rw [hr.1]; exact h1, eU els hok i j hi ?_⟩
   have : els.getD i [] ∈ els := by
    rw [List.getD_eq_getElem?_getD, List.getElem?_eq_getElem hi]
    exact List.getElem_mem hi
   rw [hn _ this]
   exact hj
  refine .sl (s := n) (fun i j => vs.getD (i * n + j) undef) hne (by rw [← hlen]; exact hcap) (fun i j _ _ => hS _) (mapDD_mem els n hn) (fun i j hi hj => ?_) (fun i j hi hj => ?_) (fun i j hi hj => ?_)
  ·rw [← hlen] at hi
   have := (key i j hi hj).2.1
   simp only [World.cell?, hb, Nat.zero_add]
   simp [this]
  ·rw [← hlen] at hi
   exact bK (key i j hi hj).1 (cokD_C (key i j hi hj).2.2)
  ·rw [← hlen] at hi
   rw [i4 els i hi, qZ]
   exact p5 (key i j hi hj).1 (mZ (key i j hi hj).2.2)
theorem RepL.go {vs : Array Value} {cs : List PV} (h : RepL w S β vs cs) (l : Leads w S vO w' S') (hb : ∀ b i, S b i → b < w.heap.size) : RepL w' S' β vs cs :=
 ⟨h.1, fun j hj => (h.2 j hj).evo (l.evo hb) (l.subs hb)⟩
theorem iK {t n by' : Nat} {z : List PV} (ht : ty t = .sli n by' z) (hb : ∀ b i, S b i → b < w.heap.size) {ρ : Operand → Value} {e : Operand → PV} (he : ∀ x, Rep w S β (ρ x) (e x)) {len : Nat} {parts : Array (Nat × Operand)} {els : List (List PV)}
  (hf : fillE n (kT e parts.toList) (nQ z len) = some els) (hle : len * n ≤ 1000) (hok : tW els = true) :
  ∃ w' S' val, (Instr.buildSlice t len (parts.map fun (i, x) => (i, ρ x))).run Pg w = .ok val w' ∧ Leads w S vO w' S' ∧ Rep w' S' β val (slOf els) := by
 obtain ⟨i, el, j, zv, h1, h2, h3, h4, h5, h6, h7, h8, h9, h10, h11, h12⟩ := qI ht
 subst h11
 have hzl : (zv.cells.toList.map wD).length = n := by simp [h9]
 have hp := bH (w := w) (S := S) (β := β) he parts.toList
 have h9' : ((parts.map fun (i, x) => (i, ρ x)).toList) = parts.toList.map fun (p : Nat × Operand) => (p.1, ρ p.2) := by simp
 have hz0 : RepL w S β ((Array.range (len * n)).map (zv.cells[· % zv.cells.size]!)) (u7 (nQ (zv.cells.toList.map wD) len)) := by
  have hfl : (u7 (nQ (zv.cells.toList.map wD) len)).length = len * n := by
   rw [gP n _ (fun e he => by rw [iN _ _ _ he]; exact hzl), aM]
  refine ⟨by rw [hfl]; simp, fun j hj => ?_⟩
  rw [hfl] at hj
  rw [bY _ n hzl h10 len j hj]
  have hm : j % n < n := Nat.mod_lt _ h10
  have e1 : (((Array.range (len * n)).map (zv.cells[· % zv.cells.size]!)).getD j undef) = zv.cells.getD (j % n) undef := by
   have : j % n < zv.cells.size := by omega
   simp [hj, h9, getElem!_def, Array.getElem?_eq_getElem this]
  rw [e1]
  exact (uK zv.cells).2 (j % n) (by rw [hzl]; exact hm)
 obtain ⟨cells', g1, g2, g3, g4⟩ := fillE_sound hp (fun e he => by rw [iN _ _ _ he]; exact hzl) hz0 hf
 rw [aM] at g4
 have hbig : ¬ (len * n > 2 ^ 24) := by omega
 have hrun : (Instr.buildSlice t len (parts.map fun (i, x) => (i, ρ x))).run Pg w = .ok (.slice (some ⟨w.heap.size, 0, none⟩) len len) (w.alloc (.cells cells' el)) := by
  have h9'' : (Array.map (fun (x : Nat × Operand) => (x.fst, ρ x.snd)) parts).toList = parts.toList.map fun (p : Nat × Operand) => (p.1, ρ p.2) := by simp
  by_cases hz : len * n = 0
  ·have g1' : Instr.fill (fun i => some (i * n, n)) ((Array.range (len * n)).map fun x => (#[] : Array Value)[x % (#[] : Array Value).size]!) (parts.toList.map fun (p : Nat × Operand) => (p.1, ρ p.2)) = some cells' := by
    rw [← g1, hz]
    have this : ∀ f : Nat → Value, Array.map f (Array.range 0) = #[] := fun f => Array.eq_empty_of_size_eq_zero (by simp)
    rw [this, this]
   unfold Instr.buildSlice
   simp only [Sem.run_bind, run_underlying h4, Result.andThen_ok, w7 h5, h7, hbig, if_false, hz, if_true, Sem.run_pure, gt_iff_lt, Nat.not_lt_zero]
   simp only [hz] at g1'
   simp only [h9'', g1', newRow, Sem.run_bind, run_newObj, Sem.run_pure, Result.andThen_ok]
   rfl
  ·unfold Instr.buildSlice
   simp only [Sem.run_bind, run_underlying h4, Result.andThen_ok, w7 h5, h7, hbig, if_false, hz, aH h5 h6, Sem.run_pure]
   simp only [h9'', g1, newRow, Sem.run_bind, run_newObj, Sem.run_pure, Result.andThen_ok]
   rfl
 have hl := nN (w := w) hb (.cells cells' el)
 refine ⟨_, _, _, hrun, hl, ?_⟩
 cases hel : els with
 | nil =>
  have : len = 0 := by rw [← g4, hel]; rfl
  subst this
  exact .nil _
 | cons x r =>
  refine .c rfl ?_
  have := row_repD (w := w.alloc (.cells cells' el)) (S := fun b i => S b i ∨ b = w.heap.size) (β := β) (els := els) (heap_alloc_new w _) (fun _ => .inr rfl) (g2.go hl hb) g3 hok len (by omega)
  rw [g4, hel] at this
  exact this
end
section
variable {w : World} {S : Nat → Nat → Prop} {β : Nat → Option Nat}
theorem jD {ρ : Operand → Value} {e : Operand → PV} (he : ∀ x, Rep w S β (ρ x) (e x)) {d l : Unit → Int} {o : Option Operand} (h : r7 e d o = some l) :
  (o = none ∧ l = d) ∨ ∃ x k, o = some x ∧ ρ x = .int k (l ()) := by
 unfold r7 at h
 split at h
 ·cases h; exact .inl ⟨rfl, rfl⟩
 ·rename_i x
  split at h
  ·rename_i k n hx
   cases h
   refine .inr ⟨x, k, rfl, ?_⟩
   have := he x
   rw [hx] at this
   exact w8 this
  ·cases h
theorem dO {t el : Nat} {j : TypeInfo} (hu : Pg.underlying t = some (.slice el)) (hj : Pg.info? el = some j) {ρ : Operand → Value} {a : Option Addr} {len cap : Nat} (hlc : len ≤ cap) {lo hi : Option Operand} {l h : Int}
  (h0 : 0 ≤ l) (h1 : l ≤ h) (h2 : h ≤ (len : Int)) (hl : (lo = none ∧ l = 0) ∨ ∃ x k, lo = some x ∧ ρ x = .int k l) (hh : (hi = none ∧ h = len) ∨ ∃ x k, hi = some x ∧ ρ x = .int k h) :
  (Instr.sliceAt t (.slice a len cap) (lo.map ρ) (hi.map ρ) ((none : Option Operand).map ρ)).run Pg w = .ok (.slice (if cap = l.toNat then a else a.map (·.add (l.toNat * j.size))) (h.toNat - l.toNat) (cap - l.toNat)) w := by
 have he : (h.toNat : Int) = h := Int.toNat_of_nonneg (by omega)
 have hc : h ≤ (cap : Int) := by omega
 have h0' : 0 ≤ h := by omega
 have e1 : Pg.elem t = el := by simp [Program.elem, hu]
 simp only [Option.map_none, nP hu]
 rcases hl with ⟨rfl, rfl⟩ | ⟨x, k, rfl, hx⟩ <;> rcases hh with ⟨rfl, rfl⟩ | ⟨y, k', rfl, hy⟩
 ·simp [Instr.slice, run_underlying hu, Instr.sliceBounds, w7 hj]
 ·simp [Instr.slice, run_underlying hu, Instr.sliceBounds, run_sliceBound, w7 hj, hy, h0', hc]
 ·simp [Instr.slice, run_underlying hu, Instr.sliceBounds, run_sliceBound, w7 hj, hx, h0, h1]
 ·simp [Instr.slice, run_underlying hu, Instr.sliceBounds, run_sliceBound, w7 hj, hx, hy, h0, h0', hc, he, h1]
theorem drop_getD (els : List (List D)) (l h i : Nat) (hi : i < h - l) (hh : h ≤ els.length) : ((els.take h).drop l).getD i [] = els.getD (l + i) [] := by
 simp only [List.getD_eq_getElem?_getD]
 rw [List.getElem?_drop, List.getElem?_take_of_lt (by omega)]
theorem slice_repD {els : List (List D)} {v : Value} (hr : RepD w S v (.sl els)) {n : Nat} (hw : ∀ e, e ∈ els → e.length = n) {l h : Nat} (h1 : l ≤ h) (h2 : h ≤ els.length) :
  ∃ a cap, v = .slice a els.length cap ∧ els.length ≤ cap ∧ RepD w S (.slice (if cap = l then a else a.map (·.add (l * n))) (h - l) (cap - l)) (.sl ((els.take h).drop l)) := by
 rcases dE hr with ⟨rfl, a, cap, rfl⟩ | ⟨b, o, cap, s, vals, hne, hcap, hS, hs, hc, hrr, hone, rfl⟩
 ·have e1 : h = 0 := by simpa using h2
  have e2 : l = 0 := by omega
  subst e1 e2
  exact ⟨a, cap, rfl, Nat.zero_le _, by simpa using RepD.sl0 _ _⟩
 ·refine ⟨_, cap, rfl, hcap, ?_⟩
  by_cases hlt : l < h
  ·have hsn : s = n := by
    cases els with
    | nil => exact absurd rfl hne
    | cons x r => rw [← hs x (by simp), hw x (by simp)]
   subst hsn
   have hcl : ¬ cap = l := by omega
   simp only [hcl, if_false, Option.map_some, j5]
   have hlen : ((els.take h).drop l).length = h - l := by simp; omega
   have key := RepD.sl (w := w) (S := S) (b := b) (o := o + l * s) (cap := cap - l) (s := s) (els := (els.take h).drop l) (fun i j => vals (l + i) j)
    (by intro e; rw [e] at hlen; simp at hlen; omega) (by rw [hlen]; omega) (fun i j hi hj => by
     rw [hlen] at hi
     have := hS (l + i) j (by omega) hj
     rw [Nat.add_mul] at this
     rw [show o + l * s + i * s + j = o + (l * s + i * s) + j by omega]
     exact this)
    (fun e he => hs e (List.mem_of_mem_take (List.mem_of_mem_drop he)))
    (fun i j hi hj => by
     rw [hlen] at hi
     have := hc (l + i) j (by omega) hj
     rw [← this, Nat.add_mul]; congr 2; omega)
    (fun i j hi hj => by rw [hlen] at hi; exact hone (l + i) j (by omega) hj)
    (fun i j hi hj => by
     rw [hlen] at hi
     rw [drop_getD els l h i hi h2]
     exact hrr (l + i) j (by omega) hj)
   rw [hlen] at key
   exact key
  ·have e : l = h := by omega
   subst e
   have : (els.take l).drop l = [] := by simp
   rw [this, Nat.sub_self]
   exact .sl0 _ _
theorem idx_rep {els : List (List D)} {v : Value} (hr : RepD w S v (.sl els)) {k : Nat} {n : Nat} {c : List PV} (hn : 0 < n) (hf : yR uG c = true) (hcl : c.length = n) (hk : els[k]? = some (xF c)) :
  ∃ b o cap, v = .slice (some ⟨b, o, none⟩) els.length cap ∧ k < els.length ∧ Rep w S β (.pointer (some ⟨b, o + k * n, none⟩)) (.dptr c 0) := by
 have hlt : k < els.length := by
  rcases Nat.lt_or_ge k els.length with h | h
  ·exact h
  ·rw [List.getElem?_eq_none h] at hk; cases hk
 rcases dE hr with ⟨rfl, a, cap, rfl⟩ | ⟨b, o, cap, s, vals, hne, hcap, hS, hs, hc, hrr, hone, rfl⟩
 ·simp at hlt
 ·have hg : els.getD k [] = xF c := by rw [List.getD_eq_getElem?_getD, hk]; rfl
  have hsn : s = n := by
   have hm : xF c ∈ els := List.mem_of_getElem? hk
   rw [← hs _ hm, vS, hcl]
  subst hsn
  refine ⟨b, o, cap, rfl, hlt, .dptr (o := o + k * s) (off := 0) (fun j => vals k j) (fun j hj => hS k j hlt (by omega)) hf (fun j hj => ?_) (fun j hj => ?_)⟩
  ·exact hc k j hlt (by omega)
  ·have := hrr k j hlt (by omega)
   rw [hg, qZ] at this
   exact this
end
section
variable {w0 : World} {S0 : Nat → Nat → Prop} {K0 : Nat → Prop} {N : Cx} {τ : Nat → PV} {objs : List (Nat × Obj')} {a : Act} {w : World} {S : Nat → Nat → Prop} {β : Nat → Option Nat}
theorem obj_box (h : Sim w0 S0 K0 N τ objs a w S β) {n : Nat} {cs : List PV} (ho : yH objs n = some (.box cs)) :
  ∃ (b : Nat) (vs : Array Value) (T : TypeId), β n = some b ∧ w.heap[b]? = some (.cells vs T (0, 0)) ∧ vs.size = cs.length ∧ ∀ j, j < cs.length → Rep w S β (vs.getD j undef) (cs.getD j .any) :=
 h.obj.at_ n _ (xG ho)
theorem bR {b : Nat} {vs : Array Value} {T : TypeId} {fz : Nat × Nat} (hb : w.heap[b]? = some (.cells vs T fz)) (j : Nat) (hj : j < vs.size) : w.cell? ⟨b, j, none⟩ = some (vs.getD j undef) := by
 simp only [World.cell?, hb]
 simp [hj]
theorem ty_und {t : Nat} (h : (ty t).isNo = false) : ∃ d, Pg.underlying t = some d := by
 obtain ⟨i, d, _, h2, _⟩ := ty_load h
 exact ⟨d, h2⟩
theorem lF {ρ : Operand → Value} {e : Operand → PV} (he : ∀ x, Rep w S β (ρ x) (e x)) : ∀ (l : List Operand), RepL w S β (l.map ρ).toArray (evs e l)
 | [] => ⟨rfl, fun j hj => by simp [evs] at hj⟩
 | o :: r => by
  obtain ⟨h1, h2⟩ := lF he r
  refine ⟨by simpa [evs] using h1, fun j hj => ?_⟩
  cases j with
  | zero => simpa [evs] using he o
  | succ j => simpa [evs] using h2 j (by simpa [evs] using hj)
theorem RepL.append {vs us : Array Value} {cs ds : List PV} (h : RepL w S β vs cs) (k : RepL w S β us ds) : RepL w S β (vs ++ us) (cs ++ ds) := by
 refine ⟨by simp [h.1, k.1], fun j hj => ?_⟩
 by_cases hlt : j < cs.length
 ·have := h.2 j hlt
  rw [List.getD_eq_getElem?_getD, List.getElem?_append_left hlt, ← List.getD_eq_getElem?_getD]
  have hv : j < vs.size := by rw [h.1]; exact hlt
  simpa [Array.getElem?_append_left hv] using this
 ·have h2 := k.2 (j - cs.length) (by simp at hj; omega)
  rw [List.getD_eq_getElem?_getD, List.getElem?_append_right (by omega), ← List.getD_eq_getElem?_getD]
  have hv : vs.size ≤ j := by rw [h.1]; omega
  rw [← h.1] at h2 ⊢
  simpa [Array.getElem?_append_right hv] using h2
theorem RepL.le {vs : Array Value} {cs ds : List PV} (h : RepL w S β vs cs) (k : LeL cs ds) : RepL w S β vs ds :=
 ⟨h.1.trans (wY k), fun j hj => (h.2 j (by rw [wY k]; exact hj)).le _ (cW k j hj)⟩
theorem noObjs : ObjsAt w S β ([] ++ []) := ⟨by exact List.nodup_nil, fun n o h => by simp at h, fun n o b h => by simp at h, fun n o m o' b h => by simp at h⟩
theorem aJ {o : Oper} {c : Call} {f : Operand} (hop : o.op = .call c) (hc : c.callee = .value f) {ρ : Operand → Value} {g : FuncId} {vs : Array Value} (hf : ρ f = .func (.func g) #[] vs) (isf : ∀ (vals : Array Value) (w : World), (callFunc g vals).run Pg w = .ok (.enter g vals) w) :
  (execOp ρ o).run Pg w = .ok (.enter g ((c.args.toList.map ρ).toArray ++ vs)) w := by
 have : c.args.map ρ = (c.args.toList.map ρ).toArray := Array.ext' (by simp)
 simp only [execOp, hop, resolve, hc, hf, Deferred.ofValue, Sem.run_bind, Sem.run_pure, Result.andThen_ok, invoke, isf, this]
 simp
theorem nM {o : Oper} {c : Call} {f : Operand} (hop : o.op = .call c) (hcl : c.callee = .value f) {K : PV → Prop} {Km : Act → World → Prop} {Q : Exit → Act → World → Prop} (h : Sim w0 S0 K0 N τ objs a w S β) {g : FuncId} {caps : List PV} (hf : ev τ f = .fn g caps)
  (hs : ∃ args' r, LeL (evs (ev τ) c.args.toList ++ caps) args' ∧ zC g args' r ∧ nmIn [] r = true ∧ K r)
  (hk : ∀ pv w' S' v, K pv → Leads w S vO w' S' → Rep w' S' β v pv → Km (a.put o.dst v) w') : o.wp Pg a w Km Q := by
 obtain ⟨args', r, hle, hso, hnm, hK⟩ := hs
 have hfr := h.eval f
 rw [hf] at hfr
 obtain ⟨vs, hv, hl, hr⟩ := kJ hfr
 have hargs := ((lF (fun x => h.eval x) c.args.toList).append ⟨hl, hr⟩).le hle
 unfold Oper.wp
 rw [aJ hop hcl hv hso.isf, Oper.upon_enter]
 refine (hso.go w S β _ h.ld.bnd noObjs hargs.1 hargs.2).mono ?_
 rintro e w' ⟨v, S', β', rfl, hld, hrep, _⟩
 have hld' : Leads w S vO w' S' := ⟨hld.size, hld.os, hld.tape, hld.output, fun b hb _ => hld.same b hb (by rintro ⟨n, o, hm, _⟩; simp at hm), hld.shape, hld.bnd, hld.sub, fun b i hb _ => hld.old b i hb (by rintro ⟨n, o, hm, _⟩; simp at hm)⟩
 exact hk r w' S' v hK hld' (hrep.nmIn (by simp) hnm)
end
end Go.Proofs.YtcanljninhfmhaaGreat
