/- THE PURE MACHINE, part F: each operation that only reads. * THE PURE MACHINE, part G: values put together; the operations that read memory at most, all in one. -/
import Derived.Test.YtbehbhicjmjdhaaGreatQ04

namespace Go.Proofs.YtbehbhicjmjdhaaGreat
open Go
set_option linter.unusedVariables false
set_option linter.unusedSimpArgs false

section
variable {w : World} {S : Nat → Prop} {β : Nat → Option Nat} {K : PV → Prop}

theorem brV_sound {v : Value} {x : PV} {A B : Unit → Prop} (hr : Rep w S β v x) (h : brV x A B) : ∃ b, v = .bool b ∧ (b = true → A ()) ∧ (b = false → B ()) := by
  unfold brV at h
  split at h
  · exact ⟨true, rep_tt hr, fun _ => h, fun e => by cases e⟩
  · exact ⟨false, rep_ff hr, fun e => (by cases e), fun _ => h⟩
  · exact ⟨_, rep_bool hr, fun e => h.t e, fun e => h.f e⟩
  · exact ⟨_, rep_nbool hr, fun e => h.f (by simpa using e), fun e => h.t (by simpa using e)⟩
  · exact h.elim

theorem bbeq (a b : Bool) : (a == b) = decide (a = b) := by cases a <;> cases b <;> rfl
theorem ibeq (a b : Int) : (a == b) = decide (a = b) := by rw [Bool.eq_iff_iff]; simp

theorem in64 {z : Unit → Int} (h : InI64 z) : IntKind.i64.wrap (z ()) = z () := IntWalk.i64_in _ ⟨h.lo, h.hi⟩

theorem rep_i (k : IntKind) (n : Unit → Int) : Rep w S β (.int k (n ())) (.int k n) := .c rfl (.int _ _)
theorem rep_b (b : Unit → Bool) : Rep w S β (.bool (b ())) (.bool b) := .c rfl (.bool _)
theorem rep_nb (b : Unit → Bool) : Rep w S β (.bool (!(b ()))) (.nbool b) := .c rfl (.bool _)

theorem arK_sound {k : IntKind} {z : Unit → Int} (h : arK k z K) : ∃ pv, K pv ∧ Rep w S β (.int k (k.wrap (z ()))) pv := by
  unfold arK at h
  split at h
  · exact ⟨_, h.2, by rw [in64 h.1]; exact rep_i _ _⟩
  · exact ⟨_, h, by have := rep_i (w := w) (S := S) (β := β) k (fun _ => nx k (z ())); unfold nx at this ⊢; exact this⟩

theorem run_eqGuard_plain (op : BinOp) (t : TypeId) (x y : Operand) (v u : Value) (h : ∀ cs, v ≠ .agg cs) (hn : v ≠ .nilIface) : (eqGuard op t x y v u).run Pg w = .ok () w := by
  unfold eqGuard
  cases op <;> first
    | rfl
    | (cases v <;> first
      | (exact absurd rfl (h _))
      | (exact absurd rfl hn)
      | (cases u <;> rfl))

theorem intK_sound {op : BinOp} {t : TypeId} {x y : Operand} {k k' : IntKind} {a b : Unit → Int} (h : intK op k a k' b K) :
    ∃ pv val, K pv ∧ (binOp op t (.int k (a ())) (.int k' (b ()))).run Pg w = .ok val w ∧ Rep w S β val pv := by
  unfold intK at h
  split at h
  · refine ⟨_, _, h.2, ?_, rep_i k (fun _ => ishl k (a ()) (b ()))⟩
    have h0 : ¬ b () < 0 := by have := h.1.h; omega
    simp [binOp, Op.shift, h0, ishl]
  · refine ⟨_, _, h.2, ?_, rep_i k (fun _ => ishr k (a ()) (b ()))⟩
    have h0 : ¬ b () < 0 := by have := h.1.h; omega
    simp [binOp, Op.shift, h0, ishr]
  · rename_i op h1 h2
    cases hk : sameK k k' with
    | false => simp [hk] at h
    | true =>
      have hk' : k = k' := by simpa [sameK] using hk
      subst hk'
      simp only [hk, cond_true] at h
      split at h
      · obtain ⟨pv, hp, hr⟩ := arK_sound (w := w) (S := S) (β := β) h; exact ⟨pv, _, hp, by simp [binOp, Op.intArith], hr⟩
      · obtain ⟨pv, hp, hr⟩ := arK_sound (w := w) (S := S) (β := β) h; exact ⟨pv, _, hp, by simp [binOp, Op.intArith], hr⟩
      · obtain ⟨pv, hp, hr⟩ := arK_sound (w := w) (S := S) (β := β) h; exact ⟨pv, _, hp, by simp [binOp, Op.intArith], hr⟩
      · refine ⟨_, _, h.2, ?_, rep_i k (fun _ => nx k (iquo (a ()) (b ())))⟩
        have h0 := h.1.h
        simp [binOp, Op.intDiv, h0, nx, iquo]
      · refine ⟨_, _, h.2, ?_, rep_i k (fun _ => irem (a ()) (b ()))⟩
        have h0 := h.1.h
        simp [binOp, Op.intDiv, h0, irem]
      · exact ⟨_, _, h, by simp [binOp, Op.intBits, iand], rep_i k (fun _ => iand k (a ()) (b ()))⟩
      · exact ⟨_, _, h, by simp [binOp, Op.intBits, ior], rep_i k (fun _ => ior k (a ()) (b ()))⟩
      · exact ⟨_, _, h, by simp [binOp, Op.intCmp, ibeq], rep_b (fun _ => decide (a () = b ()))⟩
      · exact ⟨_, _, h, by simp [binOp, Op.intCmp, bne, ibeq], rep_nb (fun _ => decide (a () = b ()))⟩
      · exact ⟨_, _, h, by simp [binOp, Op.intCmp], rep_b (fun _ => decide (a () < b ()))⟩
      · exact ⟨_, _, h, by simp [binOp, Op.intCmp], rep_b (fun _ => decide (a () ≤ b ()))⟩
      · exact ⟨_, _, h, by simp [binOp, Op.intCmp], rep_b (fun _ => decide (b () < a ()))⟩
      · exact ⟨_, _, h, by simp [binOp, Op.intCmp], rep_b (fun _ => decide (b () ≤ a ()))⟩
      · exact h.elim

theorem ints_sound : ∀ {cs : List PV} {l : List (Unit → Int)}, intsOf cs = some l → ∀ {vs : List Value}, vs.length = cs.length → (∀ j, j < cs.length → Rep w S β (vs.getD j undef) (cs.getD j .any)) → vs = (force l).map (Value.int .i64) := by
  intro cs
  induction cs with
  | nil => intro l h vs hl _; simp [intsOf] at h; subst h; cases vs with
    | nil => rfl
    | cons v vs => simp at hl
  | cons c cs ih =>
    intro l h vs hl hr
    unfold intsOf at h
    split at h
    · simp at *
    · rename_i n r heq
      cases heq
      split at h
      · rename_i l' hl'
        simp only [Option.some.injEq] at h
        subst h
        cases vs with
        | nil => simp at hl
        | cons v vs =>
          have h0 := rep_int (by simpa using hr 0 (by simp))
          have := ih hl' (vs := vs) (by simpa using hl) (fun j hj => by simpa using hr (j + 1) (by simp; omega))
          simp [force, h0, this]
      · simp at h
    · simp at h

theorem bval_sound {v : Value} {x : PV} {b : Unit → Bool} (h : bval x = some b) (hr : Rep w S β v x) : v = .bool (b ()) := by
  unfold bval at h
  split at h
  · cases h; exact rep_tt hr
  · cases h; exact rep_ff hr
  · cases h; exact rep_bool hr
  · cases h

theorem nilCmp_sound {t n b : Nat} {z : List PV} {x : Operand} {els : Unit → List (List D)} {v : Value} (hty : ty t = .sli n b z) (hx : Rep w S β v (.sl els)) (h : NilCmp els K) :
    ∃ pv val, K pv ∧ ((do eqGuard .eql t x (.const (.slice none 0 0)) v (.slice none 0 0); binOp .eql t v (.slice none 0 0) : Sem Value)).run Pg w = .ok val w ∧ Rep w S β val pv := by
  obtain ⟨inf, el, j, zv, h1, h2, h3, h4, _⟩ := ty_sli hty
  have hsl := rep_sl hx
  obtain ⟨ax, cap, hx'⟩ : ∃ ax cap, v = .slice ax (els ()).length cap := by
    rcases repD_sl hsl with ⟨e0, aa, cap, hv⟩ | ⟨bb, oo, cap, s, vals, _, _, _, _, _, _, _, hv⟩
    · exact ⟨aa, cap, by rw [hv, e0]; rfl⟩
    · exact ⟨_, cap, hv⟩
  have hcap0 : ax = none → els () = [] := by
    intro e
    subst e
    rcases repD_sl hsl with ⟨e0, aa, cap, hv⟩ | ⟨bb, oo, cap, s, vals, _, _, _, _, _, _, _, hv⟩
    · exact e0
    · rw [hx'] at hv; cases hv
  subst hx'
  refine ⟨_, _, h.h ax.isNone (fun e => hcap0 (by simpa using e)), ?_, rep_b (fun _ => ax.isNone)⟩
  rw [Sem.run_bind, run_eqGuard_plain _ _ _ _ _ _ (by intro cs e; cases e) (by intro e; cases e), Result.andThen_ok]
  simp only [binOp]
  simp [Op.equal, Op.maxDepth, Lib.run_equalIn_slice_nil w 9999 t el ax (els ()).length cap 0 0 h4]

theorem binK_sound {op : BinOp} {t : TypeId} {ox oy : Operand} {x y : PV} {v u : Value} (hoy : ∀ c, oy = .const c → u = c) (hx : Rep w S β v x) (hy : Rep w S β u y) (h : binK op t ox oy x y K) :
    ∃ pv val, K pv ∧ ((do eqGuard op t ox oy v u; binOp op t v u : Sem Value)).run Pg w = .ok val w ∧ Rep w S β val pv := by
  unfold binK at h
  split at h
  · rename_i k a k' b
    have e1 := rep_int hx; have e2 := rep_int hy
    subst e1 e2
    obtain ⟨pv, val, h1, h2, h3⟩ := intK_sound (w := w) (S := S) (β := β) (t := t) (x := ox) (y := oy) h
    exact ⟨pv, val, h1, by simp [run_eqGuard_plain, h2], h3⟩
  · rename_i l m
    split at h
    · rename_i a b ha hb
      obtain ⟨vs, rfl, hl1, hr1⟩ := rep_agg hx
      obtain ⟨us, rfl, hl2, hr2⟩ := rep_agg hy
      have e1 : vs = ((force a).map (Value.int .i64)).toArray := by
        have := ints_sound ha (vs := vs.toList) (by simpa using hl1) (fun j hj => by simpa using hr1 j hj)
        rw [← this]
      have e2 : us = ((force b).map (Value.int .i64)).toArray := by
        have := ints_sound hb (vs := us.toList) (by simpa using hl2) (fun j hj => by simpa using hr2 j hj)
        rw [← this]
      obtain ⟨r, h1, h2⟩ := h.h
      refine ⟨_, _, h2, ?_, rep_b (fun _ => r)⟩
      rw [e1, e2]
      exact h1 w
    · exact h.elim
  · split at h
    · rename_i hty
      have hu : Pg.underlying t = some .bool := by
        obtain ⟨i, d, zv, h1, h2, h3, h4, h5, h6, h7, h8, h9⟩ := ty_sc hty
        rw [h2, h9 rfl]
      split at h
      · rename_i a b ha hb
        have e1 := bval_sound ha hx; have e2 := bval_sound hb hy
        subst e1 e2
        refine ⟨_, _, h, ?_, rep_b (fun _ => decide (a () = b ()))⟩
        simp [run_eqGuard_plain, binOp, Op.equal, Op.maxDepth, run_equalIn_bool' w 9999 t _ _ hu, bbeq]
      · rename_i a b ha hb
        have e1 := bval_sound ha hx; have e2 := bval_sound hb hy
        subst e1 e2
        refine ⟨_, _, h, ?_, rep_nb (fun _ => decide (a () = b ()))⟩
        simp [run_eqGuard_plain, binOp, Op.equal, Op.maxDepth, run_equalIn_bool' w 9999 t _ _ hu, bbeq]
      · exact h.elim
    · exact h.elim

/-! ### Addresses -/

theorem field_of {t n : Nat} {fs : List (Nat × Nat × Bool)} {z : List PV} (ht : ty t = .st n fs z) {i off sz : Nat} {ag : Bool} (hi : fs[i]? = some (off, sz, ag)) :
    ∃ (fields : Array Field) (f : Field), Pg.underlying t = some (.struct fields) ∧ fields[i]? = some f ∧ f.offset = off ∧ Pg.cellsOf f.type = sz ∧ isAggT Pg f.type = ag ∧ 0 < sz := by
  obtain ⟨inf, fields, zs, h1, h2, _, _, _, hfs, _, hpos⟩ := ty_st ht
  rw [hfs] at hi
  rw [List.getElem?_map] at hi
  cases hf : fields.toList[i]? with
  | none => simp [hf] at hi
  | some f =>
    simp only [hf, Option.map_some, Option.some.injEq, Prod.mk.injEq] at hi
    obtain ⟨h3, h4, h5⟩ := hi
    refine ⟨fields, f, h2, by simpa using hf, h3, h4, h5, ?_⟩
    rw [← h4]
    exact hpos f (List.mem_of_getElem? hf)

theorem run_fieldAt {t n : Nat} {fs : List (Nat × Nat × Bool)} {z : List PV} (ht : ty t = .st n fs z) {i off sz : Nat} {ag : Bool} (hi : fs[i]? = some (off, sz, ag)) (b o : Nat) :
    (Instr.fieldAt t (.pointer (some ⟨b, o, none⟩)) i).run Pg w = .ok (.pointer (some ⟨b, o + off, none⟩)) w := by
  obtain ⟨fields, f, hu, hf, hoff, hsz, _, hp⟩ := field_of ht hi
  obtain ⟨inf, h1, h2⟩ := info_of_cells (t := f.type) (by omega)
  have h3 : inf.size ≠ 0 := by omega
  simp [Instr.fieldAt, run_underlying hu, hf, Instr.sureAddr, fieldPlace, run_size h1, h3, addr_add, hoff]

theorem run_indexAt_slice {t e : Nat} {j : TypeInfo} (hu : Pg.underlying t = some (.slice e)) (hj : Pg.info? e = some j) (b o len cap : Nat) (k : IntKind) (i : Int) (h0 : 0 ≤ i) (h1 : i < (len : Int)) :
    (Instr.indexAt t (.slice (some ⟨b, o, none⟩) len cap) (.int k i)).run Pg w = .ok (.pointer (some ⟨b, o + i.toNat * j.size, none⟩)) w := by
  simp [Instr.indexAt, asIntOf, run_underlying hu, h0, h1, run_size hj, addr_add]

theorem run_indexAt_array {t e len : Nat} {j : TypeInfo} (hu : Pg.underlying t = some (.array len e)) (hj : Pg.info? e = some j) (b o : Nat) (k : IntKind) (i : Int) (h0 : 0 ≤ i) (h1 : i < (len : Int)) :
    (Instr.indexAt t (.pointer (some ⟨b, o, none⟩)) (.int k i)).run Pg w = .ok (.pointer (some ⟨b, o + i.toNat * j.size, none⟩)) w := by
  simp [Instr.indexAt, asIntOf, run_underlying hu, h0, h1, run_size hj, addr_add, Instr.sureAddr]

theorem run_sliceAt_any {t e : Nat} (hu : Pg.underlying t = some (.slice e)) (x : Value) (lo hi : Option Value) : (Instr.sliceAt t x lo hi none).run Pg w = (Instr.slice t x lo hi none).run Pg w := by
  simp [Instr.sliceAt, run_underlying hu]

end
end Go.Proofs.YtbehbhicjmjdhaaGreat

namespace Go.Proofs.YtbehbhicjmjdhaaGreat
open Go
set_option linter.unusedVariables false
set_option linter.unusedSimpArgs false

section
variable {w : World} {S : Nat → Prop} {β : Nat → Option Nat} {K : PV → Prop}

/-! ### Cells -/

theorem cells_rep {v : Value} {x : PV} (h : Rep w S β v x) (hp : partOk x = true) : v.cells.size = (cellsV x).length ∧ ∀ j, j < (cellsV x).length → Rep w S β (v.cells.getD j undef) ((cellsV x).getD j .any) := by
  have one : (∀ cs, v ≠ .agg cs) → cellsV x = [x] → v.cells.size = (cellsV x).length ∧ ∀ j, j < (cellsV x).length → Rep w S β (v.cells.getD j undef) ((cellsV x).getD j .any) := by
    intro hv hx
    have hc : v.cells = #[v] := by unfold Value.cells; split <;> first | (exact absurd rfl (hv _)) | rfl
    rw [hc, hx]
    refine ⟨rfl, fun j hj => ?_⟩
    have : j = 0 := by simp at hj; omega
    subst this
    simpa using h
  cases x with
  | agg cs =>
    obtain ⟨vs, rfl, h1, h2⟩ := rep_agg h
    exact ⟨h1, h2⟩
  | int k n => exact one (by rw [rep_int h]; intro cs e; cases e) rfl
  | tt => exact one (by rw [rep_tt h]; intro cs e; cases e) rfl
  | ff => exact one (by rw [rep_ff h]; intro cs e; cases e) rfl
  | bool b => exact one (by rw [rep_bool h]; intro cs e; cases e) rfl
  | nbool b => exact one (by rw [rep_nbool h]; intro cs e; cases e) rfl
  | str s => exact one (by rw [rep_str h]; intro cs e; cases e) rfl
  | nil => obtain ⟨a, rfl⟩ := rep_nil h; exact one (by intro cs e; cases e) rfl
  | sl els => rcases repD_sl (rep_sl h) with ⟨_, a, cap, rfl⟩ | ⟨b, o, cap, s, vals, _, _, _, _, _, _, _, rfl⟩ <;> exact one (by intro cs e; cases e) rfl
  | tup vs => simp [partOk, cokC] at hp
  | ptr n o => obtain ⟨b, _, rfl⟩ := rep_ptr h; exact one (by intro cs e; cases e) rfl
  | aptr n s i o => obtain ⟨b, _, rfl⟩ := rep_aptr h; exact one (by intro cs e; cases e) rfl
  | dptr cs o => obtain ⟨b, o', vals, _, rfl, _⟩ := rep_dptr h; exact one (by intro cs e; cases e) rfl
  | osl n s o l => rcases rep_osl h with ⟨_, _, _, a, rfl⟩ | ⟨b, cap, vs, T, _, _, _, _, rfl⟩ <;> exact one (by intro cs e; cases e) rfl
  | fn f cs => obtain ⟨vs, rfl, _⟩ := rep_fn h; exact one (by intro cs e; cases e) rfl
  | nilf => cases h with | c hf h => cases hf | nilf => exact one (by intro cs e; cases e) rfl
  | any => simp [partOk, cokC] at hp

theorem oneCell_of {v : Value} {x : PV} (h : Rep w S β v x) (hp : cokC x = true) : v.oneCell' = true := by
  cases x with
  | agg cs => simp [cokC] at hp
  | int k n => rw [rep_int h]; rfl
  | tt => rw [rep_tt h]; rfl
  | ff => rw [rep_ff h]; rfl
  | bool b => rw [rep_bool h]; rfl
  | nbool b => rw [rep_nbool h]; rfl
  | str s => rw [rep_str h]; rfl
  | nil => obtain ⟨a, rfl⟩ := rep_nil h; rfl
  | sl els => rcases repD_sl (rep_sl h) with ⟨_, a, cap, rfl⟩ | ⟨b, o, cap, s, vals, _, _, _, _, _, _, _, rfl⟩ <;> rfl
  | tup vs => simp [cokC] at hp
  | ptr n o => obtain ⟨b, _, rfl⟩ := rep_ptr h; rfl
  | aptr n s i o => obtain ⟨b, _, rfl⟩ := rep_aptr h; rfl
  | dptr cs o => obtain ⟨b, o', vals, _, rfl, _⟩ := rep_dptr h; rfl
  | osl n s o l => rcases rep_osl h with ⟨_, _, _, a, rfl⟩ | ⟨b, cap, vs, T, _, _, _, _, rfl⟩ <;> rfl
  | fn f cs => obtain ⟨vs, rfl, _⟩ := rep_fn h; rfl
  | nilf => cases h with | c hf h => cases hf | nilf => rfl
  | any => simp [cokC] at hp

theorem cokD_C {x : PV} (h : cokD x = true) : cokC x = true := by cases x <;> simp_all [cokD, cokC, flat]
theorem cokD_stor {x : PV} (h : cokD x = true) : stor x = true := by cases x <;> simp_all [cokD, stor, flat]

theorem setAt_length : ∀ (cs : List PV) (n : Nat) (vs : List PV), n + vs.length ≤ cs.length → (setAt cs n vs).length = cs.length
  | c :: cs, 0, v :: vs, h => by simp only [setAt, List.length_cons] at *; rw [setAt_length cs 0 vs (by omega)]
  | cs, 0, [], _ => by cases cs <;> simp [setAt]
  | [], n, v :: vs, h => by simp at h
  | [], n + 1, [], h => by simp at h
  | c :: cs, n + 1, vs, h => by simp only [setAt, List.length_cons] at *; rw [setAt_length cs n vs (by omega)]

theorem setAt_getD : ∀ (cs : List PV) (n : Nat) (vs : List PV), n + vs.length ≤ cs.length → ∀ j, (setAt cs n vs).getD j .any = if n ≤ j ∧ j < n + vs.length then vs.getD (j - n) .any else cs.getD j .any
  | c :: cs, 0, v :: vs, h, 0 => by simp [setAt]
  | c :: cs, 0, v :: vs, h, j + 1 => by
    have := setAt_getD cs 0 vs (by simp only [List.length_cons] at h; omega) j
    simp [setAt] at this ⊢
    exact this
  | cs, 0, [], _, j => by cases cs <;> simp [setAt]
  | [], n, v :: vs, h, j => by simp at h
  | [], n + 1, [], h, j => by simp at h
  | c :: cs, n + 1, vs, h, 0 => by simp [setAt]
  | c :: cs, n + 1, vs, h, j + 1 => by
    have := setAt_getD cs n vs (by simp only [List.length_cons] at h; omega) j
    simp only [setAt, List.getD_cons_succ, this]
    by_cases h1 : n ≤ j ∧ j < n + vs.length
    · rw [if_pos h1, if_pos (by omega)]; congr 1; omega
    · rw [if_neg h1, if_neg (by omega)]

/-- A row of values, cell by cell. -/
def RepL (w : World) (S : Nat → Prop) (β : Nat → Option Nat) (vs : Array Value) (cs : List PV) : Prop :=
  vs.size = cs.length ∧ ∀ j, j < cs.length → Rep w S β (vs.getD j undef) (cs.getD j .any)

theorem foldl_set (vs : List Value) : ∀ (k off : Nat) (cells : Array Value), off + k + vs.length ≤ cells.size →
    ((vs.zipIdx k).foldl (fun (cs : Array Value) (p : Value × Nat) => cs.setIfInBounds (off + p.2) p.1) cells).size = cells.size ∧
    ∀ j, ((vs.zipIdx k).foldl (fun (cs : Array Value) (p : Value × Nat) => cs.setIfInBounds (off + p.2) p.1) cells).getD j undef = if off + k ≤ j ∧ j < off + k + vs.length then vs.getD (j - (off + k)) undef else cells.getD j undef := by
  induction vs with
  | nil => intro k off cells h; refine ⟨rfl, fun j => ?_⟩; simp; omega
  | cons v vs ih =>
    intro k off cells h
    simp only [List.zipIdx_cons, List.foldl_cons, List.length_cons] at *
    obtain ⟨h1, h2⟩ := ih (k + 1) off (cells.setIfInBounds (off + k) v) (by simp; omega)
    refine ⟨by rw [h1]; simp, fun j => ?_⟩
    rw [h2 j]
    by_cases hj : j = off + k
    · subst hj
      rw [if_neg (by omega), if_pos (by omega)]
      have : off + k < cells.size := by omega
      simp [this]
    · by_cases hr : off + (k + 1) ≤ j ∧ j < off + (k + 1) + vs.length
      · rw [if_pos hr, if_pos (by omega)]
        have : j - (off + k) = (j - (off + (k + 1))) + 1 := by omega
        rw [this, List.getD_cons_succ]
      · rw [if_neg hr, if_neg (by omega)]
        simp [Array.getElem?_setIfInBounds_ne (Ne.symm hj)]

theorem set_rep {cells : Array Value} {z : List PV} (hz : RepL w S β cells z) {v : Value} {x : PV} (hv : Rep w S β v x) (hp : partOk x = true) {off : Nat} (hle : off + (cellsV x).length ≤ z.length) :
    RepL w S β (v.cells.zipIdx.foldl (fun (cs : Array Value) (p : Value × Nat) => cs.setIfInBounds (off + p.2) p.1) cells) (setAt z off (cellsV x)) := by
  obtain ⟨h1, h2⟩ := cells_rep hv hp
  have hl : v.cells.toList.length = (cellsV x).length := by simpa using h1
  obtain ⟨h3, h4⟩ := foldl_set v.cells.toList 0 off cells (by rw [hl, hz.1]; omega)
  have he : v.cells.zipIdx.foldl (fun (cs : Array Value) (p : Value × Nat) => cs.setIfInBounds (off + p.2) p.1) cells = (v.cells.toList.zipIdx 0).foldl (fun (cs : Array Value) (p : Value × Nat) => cs.setIfInBounds (off + p.2) p.1) cells := by
    rw [← Array.foldl_toList, Array.toList_zipIdx]
  rw [he]
  refine ⟨by rw [h3, hz.1, setAt_length _ _ _ hle], fun j hj => ?_⟩
  rw [setAt_length _ _ _ hle] at hj
  rw [h4 j, setAt_getD _ _ _ hle j, hl]
  by_cases hr : off + 0 ≤ j ∧ j < off + 0 + (cellsV x).length
  · rw [if_pos hr, if_pos (by omega)]
    have := h2 (j - off) (by omega)
    simpa using this
  · rw [if_neg hr, if_neg (by omega)]
    exact hz.2 j hj

/-! ### Structs, arrays, rows of values -/

theorem ofVals_rep (zs : Array Value) : RepL w S β zs (zs.toList.map ofVal) := by
  refine ⟨by simp, fun j hj => ?_⟩
  have hj' : j < zs.size := by simpa using hj
  have : (zs.toList.map ofVal).getD j .any = ofVal (zs.getD j undef) := by simp [hj']
  rw [this]
  exact rep_ofVal _

/-- The parts, by what they are worth. -/
inductive PartsRep (w : World) (S : Nat → Prop) (β : Nat → Option Nat) : List (Nat × Value) → List (Nat × PV) → Prop
  | nil : PartsRep w S β [] []
  | cons {i v x r q} (hv : Rep w S β v x) (h : PartsRep w S β r q) : PartsRep w S β ((i, v) :: r) ((i, x) :: q)

theorem parts_eval {ρ : Operand → Value} {e : Operand → PV} (he : ∀ x, Rep w S β (ρ x) (e x)) : ∀ (l : List (Nat × Operand)), PartsRep w S β (l.map fun (p : Nat × Operand) => (p.1, ρ p.2)) (evParts e l)
  | [] => .nil
  | (i, o) :: r => .cons (he o) (parts_eval he r)

theorem fillP_sound {fs : List (Nat × Nat × Bool)} {place : Nat → Option (Nat × Nat)} (hpl : ∀ i off sz ag, fs[i]? = some (off, sz, ag) → place i = some (off, sz)) {vps : List (Nat × Value)} {ps : List (Nat × PV)} (h : PartsRep w S β vps ps) :
    ∀ {cells : Array Value} {z cs : List PV}, RepL w S β cells z → fillP fs ps z = some cs → ∃ cells', Instr.fill place cells vps = some cells' ∧ RepL w S β cells' cs := by
  induction h with
  | nil => intro cells z cs hz hf; simp only [fillP, Option.some.injEq] at hf; subst hf; exact ⟨cells, rfl, hz⟩
  | @cons i v x r q hv h ih =>
    intro cells z cs hz hf
    unfold fillP at hf
    split at hf
    · rename_i off sz ag hi
      cases hc : (nqb (cellsV x).length sz && nle (off + sz) z.length && partOk x) with
      | false => simp [hc] at hf
      | true =>
        simp only [hc, cond_true] at hf
        simp only [Bool.and_eq_true] at hc
        obtain ⟨⟨hl, hle⟩, hp⟩ := hc
        have hl := nqb_eq hl
        have hle := nle_le hle
        obtain ⟨c1, c2⟩ := cells_rep hv hp
        obtain ⟨cells', h1, h2⟩ := ih (set_rep hz hv hp (by omega)) hf
        refine ⟨cells', ?_, h2⟩
        unfold Instr.fill
        rw [hpl _ _ _ _ hi]
        have hn : ¬ (v.cells.size ≠ sz ∨ off + v.cells.size > cells.size) := by rw [c1, hz.1]; omega
        simp only [ne_eq, Bool.or_eq_true, decide_eq_true_eq, hn, if_false]
        simpa using h1
    · cases hf

theorem fillA_sound {n : Nat} {vps : List (Nat × Value)} {ps : List (Nat × PV)} (h : PartsRep w S β vps ps) :
    ∀ {cells : Array Value} {z cs : List PV}, RepL w S β cells z → fillA n ps z = some cs → ∃ cells', Instr.fill (fun i => some (i * n, n)) cells vps = some cells' ∧ RepL w S β cells' cs := by
  induction h with
  | nil => intro cells z cs hz hf; simp only [fillA, Option.some.injEq] at hf; subst hf; exact ⟨cells, rfl, hz⟩
  | @cons i v x r q hv h ih =>
    intro cells z cs hz hf
    unfold fillA at hf
    cases hc : (nqb (cellsV x).length n && nle (i * n + n) z.length && partOk x) with
    | false => simp [hc] at hf
    | true =>
      simp only [hc, cond_true] at hf
      simp only [Bool.and_eq_true] at hc
      obtain ⟨⟨hl, hle⟩, hp⟩ := hc
      have hl := nqb_eq hl
      have hle := nle_le hle
      obtain ⟨c1, c2⟩ := cells_rep hv hp
      obtain ⟨cells', h1, h2⟩ := ih (set_rep hz hv hp (by omega)) hf
      refine ⟨cells', ?_, h2⟩
      unfold Instr.fill
      have hn : ¬ (v.cells.size ≠ n ∨ i * n + v.cells.size > cells.size) := by rw [c1, hz.1]; omega
      simp only [ne_eq, Bool.or_eq_true, decide_eq_true_eq, hn, if_false]
      simpa using h1

theorem mapM_places (P : Program) (fields : List Field) (hf : ∀ f, f ∈ fields → ∃ i, P.info? f.type = some i) (w : World) :
    (fields.mapM fun f => do pure (f.offset, ← sizeOf f.type) : Sem (List (Nat × Nat))).run P w = .ok (fields.map fun f => (f.offset, P.cellsOf f.type)) w := by
  induction fields with
  | nil => rfl
  | cons f r ih =>
    obtain ⟨i, hi⟩ := hf f (by simp)
    have := ih fun g hg => hf g (by simp [hg])
    have e : ((do pure (f.offset, ← sizeOf f.type) : Sem (Nat × Nat)).run P w) = .ok (f.offset, P.cellsOf f.type) w := by
      simp [sizeOf, typeInfo, hi, Program.cellsOf]
    rw [List.mapM_cons, Sem.run_bind, e, Result.andThen_ok, Sem.run_bind, this]
    simp

theorem run_build_st {t n : Nat} {fs : List (Nat × Nat × Bool)} {z : List PV} (ht : ty t = .st n fs z) {ρ : Operand → Value} {e : Operand → PV} (he : ∀ x, Rep w S β (ρ x) (e x)) {parts : Array (Nat × Operand)} {cs : List PV}
    (hf : fillP fs (evParts e parts.toList) z = some cs) : ∃ vs, (Instr.build t (parts.map fun (i, x) => (i, ρ x))).run Pg w = .ok (.agg vs) w ∧ RepL w S β vs cs := by
  obtain ⟨i, fields, zs, h1, h2, h3, h4, h5, h6, h7, h8⟩ := ty_st ht
  subst h7
  have hp := parts_eval (w := w) (S := S) (β := β) he parts.toList
  obtain ⟨cells', g1, g2⟩ := fillP_sound (place := fun k => (fields.map fun f => (f.offset, Pg.cellsOf f.type))[k]?) (by
    intro k off sz ag hk
    obtain ⟨fields', f, u1, u2, u3, u4, _⟩ := field_of ht hk
    rw [h2] at u1
    cases u1
    simp [u2, u3, u4]) hp (ofVals_rep zs) hf
  refine ⟨cells', ?_, g2⟩
  have hm : (fields.mapM fun f => do pure (f.offset, ← sizeOf f.type) : Sem (Array (Nat × Nat))).run Pg w = .ok (fields.map fun f => (f.offset, Pg.cellsOf f.type)) w := by
    have := mapM_places Pg fields.toList (fun f hf => by obtain ⟨i, hi, _⟩ := info_of_cells (h8 f hf); exact ⟨i, hi⟩) w
    rw [Array.mapM_eq_mapM_toList, Sem.run_map, this]
    exact congrArg (fun l => Result.ok l w) (Array.ext' (by simp))
  have h9 : ((parts.map fun (i, x) => (i, ρ x)).toList) = parts.toList.map fun (p : Nat × Operand) => (p.1, ρ p.2) := by simp
  simp only [Instr.build, Sem.run_bind, run_zero h1 h3, Result.andThen_ok, run_underlying h2, hm, Value.cells, h9, g1, Sem.run_pure]

theorem run_build_arr {t len n : Nat} {ag : Bool} {z : List PV} (ht : ty t = .arr len n ag z) {ρ : Operand → Value} {e : Operand → PV} (he : ∀ x, Rep w S β (ρ x) (e x)) {parts : Array (Nat × Operand)} {cs : List PV}
    (hf : fillA n (evParts e parts.toList) z = some cs) : ∃ vs, (Instr.build t (parts.map fun (i, x) => (i, ρ x))).run Pg w = .ok (.agg vs) w ∧ RepL w S β vs cs := by
  obtain ⟨i, el, zs, h1, h2, h3, h4, h5, h6, h7, h8, h8', h8'', h9⟩ := ty_arr ht
  subst h9
  have hp := parts_eval (w := w) (S := S) (β := β) he parts.toList
  obtain ⟨cells', g1, g2⟩ := fillA_sound hp (ofVals_rep zs) hf
  refine ⟨cells', ?_, g2⟩
  obtain ⟨j, hj1, hj2⟩ := info_of_cells (t := el) (by omega)
  have h9 : ((parts.map fun (i, x) => (i, ρ x)).toList) = parts.toList.map fun (p : Nat × Operand) => (p.1, ρ p.2) := by simp
  have hs : j.size = n := hj2.trans h6
  simp only [Instr.build, Sem.run_bind, run_zero h1 h3, Result.andThen_ok, run_underlying h2, Value.cells, h9, run_size hj1, hs, g1, Sem.run_pure]

/-! ### A literal slice -/

/-- Elements, flattened. -/
def flatE : List (List PV) → List PV
  | [] => []
  | e :: r => e ++ flatE r

theorem flatE_length (n : Nat) : ∀ (z : List (List PV)), (∀ e, e ∈ z → e.length = n) → (flatE z).length = z.length * n
  | [], _ => by simp [flatE]
  | e :: r, h => by
    have := flatE_length n r fun e he => h e (by simp [he])
    simp [flatE, this, h e (by simp), Nat.add_mul, Nat.add_comm]

theorem setAt_append_left : ∀ (a b vs : List PV) , vs.length = a.length → setAt (a ++ b) 0 vs = vs ++ b
  | [], b, [], _ => by cases b <;> simp [setAt]
  | c :: a, b, v :: vs, h => by simp only [List.cons_append, setAt]; rw [setAt_append_left a b vs (by simpa using h)]
  | [], _, _ :: _, h => by simp at h
  | _ :: _, _, [], h => by simp at h

theorem setAt_append_right : ∀ (a b vs : List PV) (k : Nat), setAt (a ++ b) (a.length + k) vs = a ++ setAt b k vs
  | [], b, vs, k => by simp
  | c :: a, b, vs, k => by
    have : (c :: a).length + k = (a.length + k) + 1 := by simp; omega
    rw [this]
    simp only [List.cons_append, setAt]
    rw [setAt_append_right a b vs k]

theorem flatE_set (n : Nat) : ∀ (z : List (List PV)) (i : Nat) (e : List PV), (∀ x, x ∈ z → x.length = n) → e.length = n → i < z.length → flatE (z.set i e) = setAt (flatE z) (i * n) e
  | [], i, e, _, _, hi => by simp at hi
  | x :: z, 0, e, h, he, _ => by
    simp only [List.set_cons_zero, flatE, Nat.zero_mul]
    rw [setAt_append_left x (flatE z) e (by rw [he, h x (by simp)])]
  | x :: z, i + 1, e, h, he, hi => by
    simp only [List.set_cons_succ, flatE]
    rw [flatE_set n z i e (fun y hy => h y (by simp [hy])) he (by simpa using hi)]
    have : (i + 1) * n = x.length + i * n := by rw [h x (by simp), Nat.add_mul]; omega
    rw [this, setAt_append_right]

theorem fillE_sound {n : Nat} {vps : List (Nat × Value)} {ps : List (Nat × PV)} (h : PartsRep w S β vps ps) :
    ∀ {cells : Array Value} {z els : List (List PV)}, (∀ e, e ∈ z → e.length = n) → RepL w S β cells (flatE z) → fillE n ps z = some els →
      ∃ cells', Instr.fill (fun i => some (i * n, n)) cells vps = some cells' ∧ RepL w S β cells' (flatE els) ∧ (∀ e, e ∈ els → e.length = n) ∧ els.length = z.length := by
  induction h with
  | nil => intro cells z els hn hz hf; simp only [fillE, Option.some.injEq] at hf; subst hf; exact ⟨cells, rfl, hz, hn, rfl⟩
  | @cons i v x r q hv h ih =>
    intro cells z els hn hz hf
    unfold fillE at hf
    cases hc : (nqb (cellsV x).length n && nlt i z.length && partOk x) with
    | false => simp [hc] at hf
    | true =>
      simp only [hc, cond_true] at hf
      simp only [Bool.and_eq_true] at hc
      obtain ⟨⟨hl, hlt⟩, hp⟩ := hc
      have hl := nqb_eq hl
      have hlt : i < z.length := by simp [nlt] at hlt; omega
      have hle : i * n + n ≤ (flatE z).length := by
        rw [flatE_length n z hn]
        calc i * n + n = (i + 1) * n := by rw [Nat.add_mul]; omega
          _ ≤ z.length * n := Nat.mul_le_mul_right _ hlt
      obtain ⟨c1, c2⟩ := cells_rep hv hp
      have hs := set_rep hz hv hp (off := i * n) (by omega)
      rw [← flatE_set n z i (cellsV x) hn hl hlt] at hs
      obtain ⟨cells', h1, h2, h3, h4⟩ := ih (z := z.set i (cellsV x)) (fun e he => by
        rcases List.mem_or_eq_of_mem_set he with he | rfl
        · exact hn e he
        · exact hl) hs hf
      refine ⟨cells', ?_, h2, h3, by simpa using h4⟩
      unfold Instr.fill
      have hn' : ¬ (v.cells.size ≠ n ∨ i * n + v.cells.size > cells.size) := by rw [c1, hz.1]; omega
      simp only [ne_eq, Bool.or_eq_true, decide_eq_true_eq, hn', if_false]
      simpa using h1

theorem repE_length (z : List PV) : ∀ n, (repE z n).length = n
  | 0 => rfl
  | n + 1 => by simp [repE, repE_length z n]
theorem repE_mem (z : List PV) : ∀ n e, e ∈ repE z n → e = z
  | 0, e, h => by simp [repE] at h
  | n + 1, e, h => by
    simp only [repE, List.mem_cons] at h
    rcases h with h | h
    · exact h
    · exact repE_mem z n e h

theorem flatE_repE_getD (z : List PV) (m : Nat) (hm : z.length = m) (hp : 0 < m) : ∀ n j, j < n * m → (flatE (repE z n)).getD j .any = z.getD (j % m) .any
  | 0, j, h => by simp at h
  | n + 1, j, h => by
    simp only [repE, flatE]
    by_cases hj : j < m
    · rw [List.getD_eq_getElem?_getD, List.getElem?_append_left (by omega), ← List.getD_eq_getElem?_getD, Nat.mod_eq_of_lt hj]
    · rw [List.getD_eq_getElem?_getD, List.getElem?_append_right (by omega), ← List.getD_eq_getElem?_getD, hm]
      rw [flatE_repE_getD z m hm hp n (j - m) (by rw [Nat.add_mul] at h; omega)]
      congr 1
      rw [Nat.mod_eq_sub_mod (by omega : j ≥ m)]

end
end Go.Proofs.YtbehbhicjmjdhaaGreat
