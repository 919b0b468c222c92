/- THE PURE MACHINE, part H: a world that goes on; a literal slice; a plain call; all operations of the plain kind. * THE PURE MACHINE, part I: every operation of the plain kind ('sop') in the machine. -/
import Derived.Test.YtbehbhicjmjdhaaGreatQ05

namespace Go.Proofs.YtbehbhicjmjdhaaGreat
open Go
set_option linter.unusedVariables false
set_option linter.unusedSimpArgs false

def nobody : Nat → Prop := fun _ => False

section
variable {w0 : World} {S0 K0 : Nat → Prop} {N : Cx} {τ : Nat → PV} {objs : List (Nat × Obj')} {a : Act} {w w' : World} {S S' : Nat → Prop} {β : Nat → Option Nat}

theorem Leads.evo (l : Leads w S nobody w' S') (hb : ∀ b, S b → b < w.heap.size) : Evo S w w' where
  same b hS := l.same b (hb b hS) id
  shape b vs T h := l.shape b vs T h

theorem Leads.subs {K : Nat → Prop} (l : Leads w S K w' S') (hb : ∀ b, S b → b < w.heap.size) : ∀ b, S b → S' b := fun b hS => l.sub b (hb b hS) hS

theorem Leads.trans (h : Leads w0 S0 K0 w S) (l : Leads w S nobody w' S') : Leads w0 S0 K0 w' S' where
  size := Nat.le_trans h.size l.size
  os := l.os.trans h.os
  tape := l.tape.trans h.tape
  output := l.output.trans h.output
  same b hb hk := (l.same b (Nat.lt_of_lt_of_le hb h.size) id).trans (h.same b hb hk)
  shape b vs T hb := by
    obtain ⟨vs', h1, h2⟩ := h.shape b vs T hb
    obtain ⟨vs'', h3, h4⟩ := l.shape b vs' T h1
    exact ⟨vs'', h3, h4.trans h2⟩
  bnd := l.bnd
  sub b hb hS := l.sub b (Nat.lt_of_lt_of_le hb h.size) (h.sub b hb hS)
  old b hb hk hS := h.old b hb hk (l.old b (Nat.lt_of_lt_of_le hb h.size) id hS)

theorem ObjAt.go {n : Nat} {o : Obj'} (h : ObjAt w S β n o) (l : Leads w S nobody w' S') (hb : ∀ b, S b → b < w.heap.size) (hl : ∀ b, β n = some b → b < w.heap.size) : ObjAt w' S' β n o := by
  have he := l.evo hb
  have hs := l.subs hb
  cases o with
  | box cs =>
    obtain ⟨b, vs, T, h1, h2, h3, h4⟩ := h
    exact ⟨b, vs, T, h1, (l.same b (hl b h1) id).trans h2, h3, fun j hj => (h4 j hj).evo he hs⟩
  | arr s els =>
    rcases h with h | ⟨b, vs, T, h1, h2, h3, h4, h5⟩
    · exact .inl h
    · exact .inr ⟨b, vs, T, h1, (l.same b (hl b h1) id).trans h2, h3, h4, fun i j hi hj => ⟨(h5 i j hi hj).1.evo he.same hs, (h5 i j hi hj).2⟩⟩

theorem ObjsAt.go (h : ObjsAt w S β objs) (l : Leads w S nobody w' S') (hb : ∀ b, S b → b < w.heap.size) : ObjsAt w' S' β objs where
  nd := h.nd
  at_ n o hm := (h.at_ n o hm).go l hb fun b hβ => (h.un n o b hm hβ).2
  un n o b hm hβ := by
    obtain ⟨h1, h2⟩ := h.un n o b hm hβ
    exact ⟨fun hS => h1 (l.old b h2 id hS), Nat.lt_of_lt_of_le h2 l.size⟩
  inj := h.inj

theorem Sim.go (h : Sim w0 S0 K0 N τ objs a w S β) (l : Leads w S nobody w' S') : Sim w0 S0 K0 N τ objs a w' S' β where
  dfr := h.dfr
  sz := h.sz
  ld := h.ld.trans l
  tmp t := (h.tmp t).evo (l.evo h.ld.bnd) (l.subs h.ld.bnd)
  obj := h.obj.go l h.ld.bnd
  own := h.own
  keep := h.keep

theorem alloc_leads (hb : ∀ b, S b → b < w.heap.size) (o : Obj) : Leads w S nobody (w.alloc o) (fun b => S b ∨ b = w.heap.size) where
  size := by simp
  os := rfl
  tape := rfl
  output := rfl
  same b h _ := heap_alloc_old w o h
  shape b vs T h := by
    have hlt : b < w.heap.size := by
      rcases Nat.lt_or_ge b w.heap.size with h' | h'
      · exact h'
      · simp [Array.getElem?_eq_none h'] at h
    exact ⟨vs, by rw [heap_alloc_old w o hlt]; exact h, rfl⟩
  bnd b h := by
    simp only [World.size_alloc]
    rcases h with h | h
    · have := hb b h; omega
    · omega
  sub b h h' := .inl h'
  old b h _ h' := h'.resolve_right (by omega)

theorem alloc_leads0 (hb : ∀ b, S b → b < w.heap.size) (o : Obj) : Leads w S nobody (w.alloc o) S where
  size := by simp
  os := rfl
  tape := rfl
  output := rfl
  same b h _ := heap_alloc_old w o h
  shape b vs T h := by
    have hlt : b < w.heap.size := by
      rcases Nat.lt_or_ge b w.heap.size with h' | h'
      · exact h'
      · simp [Array.getElem?_eq_none h'] at h
    exact ⟨vs, by rw [heap_alloc_old w o hlt]; exact h, rfl⟩
  bnd b h := by simp only [World.size_alloc]; have := hb b h; omega
  sub b h h' := h'
  old b h _ h' := h'

theorem Leads.refl (hb : ∀ b, S b → b < w.heap.size) : Leads w S nobody w S := ⟨Nat.le_refl _, rfl, rfl, rfl, fun _ _ _ => rfl, fun b vs T h => ⟨vs, h, rfl⟩, hb, fun _ _ h => h, fun _ _ _ h => h⟩

theorem drew_leads (hb : ∀ b, S b → b < w.heap.size) : Leads w S nobody w.drew S := ⟨Nat.le_refl _, rfl, rfl, rfl, fun _ _ _ => rfl, fun b vs T h => ⟨vs, h, rfl⟩, hb, fun _ _ h => h, fun _ _ _ h => h⟩

/-! ### A literal slice -/

theorem flatE_getD (n : Nat) : ∀ (z : List (List PV)), (∀ e, e ∈ z → e.length = n) → ∀ i j, i < z.length → j < n → (flatE z).getD (i * n + j) .any = (z.getD i []).getD j .any
  | [], _, i, j, hi, _ => by simp at hi
  | x :: z, h, 0, j, _, hj => by
    have hx := h x (by simp)
    simp only [flatE, Nat.zero_mul, Nat.zero_add, List.getD_cons_zero]
    rw [List.getD_eq_getElem?_getD, List.getElem?_append_left (by omega), ← List.getD_eq_getElem?_getD]
  | x :: z, h, i + 1, j, hi, hj => by
    have hx := h x (by simp)
    simp only [flatE, List.getD_cons_succ]
    have e : (i + 1) * n + j = x.length + (i * n + j) := by rw [Nat.add_mul, hx]; omega
    rw [e, List.getD_eq_getElem?_getD, List.getElem?_append_right (by omega), ← List.getD_eq_getElem?_getD]
    rw [show x.length + (i * n + j) - x.length = i * n + j by omega]
    exact flatE_getD n z (fun e he => h e (by simp [he])) i j (by simpa using hi) hj

theorem mapDD_length : ∀ (z : List (List PV)), (mapDD z).length = z.length
  | [] => rfl
  | x :: z => by simp [mapDD, mapDD_length z]
theorem mapDD_getD : ∀ (z : List (List PV)) (i : Nat), i < z.length → (mapDD z).getD i [] = mapD (z.getD i [])
  | [], i, h => by simp at h
  | x :: z, 0, _ => by simp [mapDD]
  | x :: z, i + 1, h => by simpa [mapDD] using mapDD_getD z i (by simpa using h)
theorem mapDD_mem : ∀ (z : List (List PV)) (n : Nat), (∀ e, e ∈ z → e.length = n) → ∀ e, e ∈ mapDD z → e.length = n
  | [], n, _, e, h => by simp [mapDD] at h
  | x :: z, n, hn, e, h => by
    simp only [mapDD, List.mem_cons] at h
    rcases h with rfl | h
    · rw [mapD_length]; exact hn x (by simp)
    · exact mapDD_mem z n (fun e he => hn e (by simp [he])) e h
theorem allL_mem {f : PV → Bool} : ∀ {cs : List PV}, allL f cs = true → ∀ j, j < cs.length → f (cs.getD j .any) = true
  | [], _, j, h => by simp at h
  | c :: cs, h, 0, _ => by simp only [allL, Bool.and_eq_true] at h; simpa using h.1
  | c :: cs, h, j + 1, hj => by simp only [allL, Bool.and_eq_true] at h; simpa using allL_mem h.2 j (by simpa using hj)
theorem cokLL_getD : ∀ (z : List (List PV)), cokLL z = true → ∀ i j, i < z.length → j < (z.getD i []).length → cokD ((z.getD i []).getD j .any) = true
  | [], _, i, j, hi, _ => by simp at hi
  | x :: z, h, 0, j, _, hj => by
    simp only [cokLL, Bool.and_eq_true] at h
    simp only [List.getD_cons_zero] at hj ⊢
    exact allL_mem h.1 j hj
  | x :: z, h, i + 1, j, hi, hj => by
    simp only [cokLL, Bool.and_eq_true] at h
    simp only [List.getD_cons_succ] at hj ⊢
    exact cokLL_getD z h.2 i j (by simpa using hi) hj

/-- A row that has just been laid, read as data. -/
theorem row_repD {b n : Nat} {vs : Array Value} {T : TypeId} {els : List (List PV)} (hb : w.heap[b]? = some (.cells vs T (0, 0))) (hS : S b) (hr : RepL w S β vs (flatE els)) (hn : ∀ e, e ∈ els → e.length = n) (hok : cokLL els = true) (cap : Nat) (hcap : els.length ≤ cap) :
    RepD w S (.slice (some ⟨b, 0, none⟩) els.length cap) (.sl (mapDD els)) := by
  by_cases he : els = []
  · subst he; exact .sl0 _ _
  · have hne : mapDD els ≠ [] := by cases els with
      | nil => exact absurd rfl he
      | cons x z => simp [mapDD]
    have hlen : els.length = (mapDD els).length := (mapDD_length els).symm
    rw [hlen]
    have key : ∀ i j, i < els.length → j < n → Rep w S β (vs.getD (i * n + j) undef) ((els.getD i []).getD j .any) ∧ i * n + j < vs.size ∧ cokD ((els.getD i []).getD j .any) = true := by
      intro i j hi hj
      have h1 : i * n + j < (flatE els).length := by
        rw [flatE_length n els hn]
        calc i * n + j < i * n + n := by omega
          _ = (i + 1) * n := by rw [Nat.add_mul]; omega
          _ ≤ els.length * n := Nat.mul_le_mul_right _ hi
      have h2 := hr.2 (i * n + j) h1
      rw [flatE_getD n els hn i j hi hj] at h2
      refine ⟨h2, by rw [hr.1]; exact h1, cokLL_getD els hok i j hi ?_⟩
      have : els.getD i [] ∈ els := by
        rw [List.getD_eq_getElem?_getD, List.getElem?_eq_getElem hi]
        exact List.getElem_mem hi
      rw [hn _ this]
      exact hj
    refine .sl (s := n) (fun i j => vs.getD (i * n + j) undef) hne (by rw [← hlen]; exact hcap) hS (mapDD_mem els n hn) (fun i j hi hj => ?_) (fun i j hi hj => ?_) (fun i j hi hj => ?_)
    · rw [← hlen] at hi
      have := (key i j hi hj).2.1
      simp only [World.cell?, hb, Nat.zero_add]
      simp [this]
    · rw [← hlen] at hi
      exact oneCell_of (key i j hi hj).1 (cokD_C (key i j hi hj).2.2)
    · rw [← hlen] at hi
      rw [mapDD_getD els i hi, mapD_getD]
      exact rep_stor (key i j hi hj).1 (cokD_stor (key i j hi hj).2.2)

theorem RepL.go {vs : Array Value} {cs : List PV} (h : RepL w S β vs cs) (l : Leads w S nobody w' S') (hb : ∀ b, S b → b < w.heap.size) : RepL w' S' β vs cs :=
  ⟨h.1, fun j hj => (h.2 j hj).evo (l.evo hb) (l.subs hb)⟩

theorem run_buildSlice {t n by' : Nat} {z : List PV} (ht : ty t = .sli n by' z) (hb : ∀ b, S b → b < w.heap.size) {ρ : Operand → Value} {e : Operand → PV} (he : ∀ x, Rep w S β (ρ x) (e x)) {len : Nat} {parts : Array (Nat × Operand)} {els : List (List PV)}
    (hf : fillE n (evParts e parts.toList) (repE z len) = some els) (hle : len * n ≤ 1000) (hok : cokLL els = true) :
    ∃ w' S' val, (Instr.buildSlice t len (parts.map fun (i, x) => (i, ρ x))).run Pg w = .ok val w' ∧ Leads w S nobody w' S' ∧ Rep w' S' β val (slOf els) := by
  obtain ⟨i, el, j, zv, h1, h2, h3, h4, h5, h6, h7, h8, h9, h10, h11, h12⟩ := ty_sli ht
  subst h11
  have hzl : (zv.cells.toList.map ofVal).length = n := by simp [h9]
  have hp := parts_eval (w := w) (S := S) (β := β) he parts.toList
  have h9' : ((parts.map fun (i, x) => (i, ρ x)).toList) = parts.toList.map fun (p : Nat × Operand) => (p.1, ρ p.2) := by simp
  have hz0 : RepL w S β ((Array.range (len * n)).map (zv.cells[· % zv.cells.size]!)) (flatE (repE (zv.cells.toList.map ofVal) len)) := by
    have hfl : (flatE (repE (zv.cells.toList.map ofVal) len)).length = len * n := by
      rw [flatE_length n _ (fun e he => by rw [repE_mem _ _ _ he]; exact hzl), repE_length]
    refine ⟨by rw [hfl]; simp, fun j hj => ?_⟩
    rw [hfl] at hj
    rw [flatE_repE_getD _ n hzl h10 len j hj]
    have hm : j % n < n := Nat.mod_lt _ h10
    have e1 : (((Array.range (len * n)).map (zv.cells[· % zv.cells.size]!)).getD j undef) = zv.cells.getD (j % n) undef := by
      have : j % n < zv.cells.size := by omega
      simp [hj, h9, getElem!_def, Array.getElem?_eq_getElem this]
    rw [e1]
    exact (ofVals_rep zv.cells).2 (j % n) (by rw [hzl]; exact hm)
  obtain ⟨cells', g1, g2, g3, g4⟩ := fillE_sound hp (fun e he => by rw [repE_mem _ _ _ he]; exact hzl) hz0 hf
  rw [repE_length] at g4
  have hbig : ¬ (len * n > 2 ^ 24) := by omega
  have hrun : (Instr.buildSlice t len (parts.map fun (i, x) => (i, ρ x))).run Pg w = .ok (.slice (some ⟨w.heap.size, 0, none⟩) len len) (w.alloc (.cells cells' el)) := by
    have h9'' : (Array.map (fun (x : Nat × Operand) => (x.fst, ρ x.snd)) parts).toList = parts.toList.map fun (p : Nat × Operand) => (p.1, ρ p.2) := by simp
    by_cases hz : len * n = 0
    · have g1' : Instr.fill (fun i => some (i * n, n)) ((Array.range (len * n)).map fun x => (#[] : Array Value)[x % (#[] : Array Value).size]!) (parts.toList.map fun (p : Nat × Operand) => (p.1, ρ p.2)) = some cells' := by
        rw [← g1, hz]
        have this : ∀ f : Nat → Value, Array.map f (Array.range 0) = #[] := fun f => Array.eq_empty_of_size_eq_zero (by simp)
        rw [this, this]
      unfold Instr.buildSlice
      simp only [Sem.run_bind, run_underlying h4, Result.andThen_ok, run_size h5, h7, hbig, if_false, hz, if_true, Sem.run_pure, gt_iff_lt, Nat.not_lt_zero]
      simp only [hz] at g1'
      simp only [h9'', g1', newRow, Sem.run_bind, run_newObj, Sem.run_pure, Result.andThen_ok]
      rfl
    · unfold Instr.buildSlice
      simp only [Sem.run_bind, run_underlying h4, Result.andThen_ok, run_size h5, h7, hbig, if_false, hz, run_zero h5 h6, Sem.run_pure]
      simp only [h9'', g1, newRow, Sem.run_bind, run_newObj, Sem.run_pure, Result.andThen_ok]
      rfl
  have hl := alloc_leads (w := w) hb (.cells cells' el)
  refine ⟨_, _, _, hrun, hl, ?_⟩
  cases hel : els with
  | nil =>
    have : len = 0 := by rw [← g4, hel]; rfl
    subst this
    exact .nil _
  | cons x r =>
    refine .c rfl ?_
    have := row_repD (w := w.alloc (.cells cells' el)) (S := fun b => S b ∨ b = w.heap.size) (β := β) (els := els) (heap_alloc_new w _) (.inr rfl) (g2.go hl hb) g3 hok len (by omega)
    rw [g4, hel] at this
    exact this

end
end Go.Proofs.YtbehbhicjmjdhaaGreat

namespace Go.Proofs.YtbehbhicjmjdhaaGreat
open Go
set_option linter.unusedVariables false
set_option linter.unusedSimpArgs false

section
variable {w : World} {S : Nat → Prop} {β : Nat → Option Nat}

theorem optI_sound {ρ : Operand → Value} {e : Operand → PV} (he : ∀ x, Rep w S β (ρ x) (e x)) {d l : Unit → Int} {o : Option Operand} (h : optI e d o = some l) :
    (o = none ∧ l = d) ∨ ∃ x k, o = some x ∧ ρ x = .int k (l ()) := by
  unfold optI at h
  split at h
  · cases h; exact .inl ⟨rfl, rfl⟩
  · rename_i x
    split at h
    · rename_i k n hx
      cases h
      refine .inr ⟨x, k, rfl, ?_⟩
      have := he x
      rw [hx] at this
      exact rep_int this
    · cases h

theorem run_slice_gen {t el : Nat} {j : TypeInfo} (hu : Pg.underlying t = some (.slice el)) (hj : Pg.info? el = some j) {ρ : Operand → Value} {a : Option Addr} {len cap : Nat} (hlc : len ≤ cap) {lo hi : Option Operand} {l h : Int}
    (h0 : 0 ≤ l) (h1 : l ≤ h) (h2 : h ≤ (len : Int)) (hl : (lo = none ∧ l = 0) ∨ ∃ x k, lo = some x ∧ ρ x = .int k l) (hh : (hi = none ∧ h = len) ∨ ∃ x k, hi = some x ∧ ρ x = .int k h) :
    (Instr.sliceAt t (.slice a len cap) (lo.map ρ) (hi.map ρ) ((none : Option Operand).map ρ)).run Pg w = .ok (.slice (if cap = l.toNat then a else a.map (·.add (l.toNat * j.size))) (h.toNat - l.toNat) (cap - l.toNat)) w := by
  have he : (h.toNat : Int) = h := Int.toNat_of_nonneg (by omega)
  have hc : h ≤ (cap : Int) := by omega
  have h0' : 0 ≤ h := by omega
  have e1 : Pg.elem t = el := by simp [Program.elem, hu]
  simp only [Option.map_none, run_sliceAt_any hu]
  rcases hl with ⟨rfl, rfl⟩ | ⟨x, k, rfl, hx⟩ <;> rcases hh with ⟨rfl, rfl⟩ | ⟨y, k', rfl, hy⟩
  · simp [Instr.slice, run_underlying hu, Instr.sliceBounds, run_size hj]
  · simp [Instr.slice, run_underlying hu, Instr.sliceBounds, run_sliceBound, run_size hj, hy, h0', hc]
  · simp [Instr.slice, run_underlying hu, Instr.sliceBounds, run_sliceBound, run_size hj, hx, h0, h1]
  · simp [Instr.slice, run_underlying hu, Instr.sliceBounds, run_sliceBound, run_size hj, hx, hy, h0, h0', hc, he, h1]

theorem drop_getD (els : List (List D)) (l h i : Nat) (hi : i < h - l) (hh : h ≤ els.length) : ((els.take h).drop l).getD i [] = els.getD (l + i) [] := by
  simp only [List.getD_eq_getElem?_getD]
  rw [List.getElem?_drop, List.getElem?_take_of_lt (by omega)]

theorem slice_repD {els : List (List D)} {v : Value} (hr : RepD w S v (.sl els)) {n : Nat} (hw : ∀ e, e ∈ els → e.length = n) {l h : Nat} (h1 : l ≤ h) (h2 : h ≤ els.length) :
    ∃ a cap, v = .slice a els.length cap ∧ els.length ≤ cap ∧ RepD w S (.slice (if cap = l then a else a.map (·.add (l * n))) (h - l) (cap - l)) (.sl ((els.take h).drop l)) := by
  rcases repD_sl hr with ⟨rfl, a, cap, rfl⟩ | ⟨b, o, cap, s, vals, hne, hcap, hS, hs, hc, hrr, hone, rfl⟩
  · have e1 : h = 0 := by simpa using h2
    have e2 : l = 0 := by omega
    subst e1 e2
    exact ⟨a, cap, rfl, Nat.zero_le _, by simpa using RepD.sl0 _ _⟩
  · refine ⟨_, cap, rfl, hcap, ?_⟩
    by_cases hlt : l < h
    · have hsn : s = n := by
        cases els with
        | nil => exact absurd rfl hne
        | cons x r => rw [← hs x (by simp), hw x (by simp)]
      subst hsn
      have hcl : ¬ cap = l := by omega
      simp only [hcl, if_false, Option.map_some, addr_add]
      have hlen : ((els.take h).drop l).length = h - l := by simp; omega
      have key := RepD.sl (w := w) (S := S) (b := b) (o := o + l * s) (cap := cap - l) (s := s) (els := (els.take h).drop l) (fun i j => vals (l + i) j)
        (by intro e; rw [e] at hlen; simp at hlen; omega) (by rw [hlen]; omega) hS
        (fun e he => hs e (List.mem_of_mem_take (List.mem_of_mem_drop he)))
        (fun i j hi hj => by
          rw [hlen] at hi
          have := hc (l + i) j (by omega) hj
          rw [← this, Nat.add_mul]; congr 2; omega)
        (fun i j hi hj => by rw [hlen] at hi; exact hone (l + i) j (by omega) hj)
        (fun i j hi hj => by
          rw [hlen] at hi
          rw [drop_getD els l h i hi h2]
          exact hrr (l + i) j (by omega) hj)
      rw [hlen] at key
      exact key
    · have e : l = h := by omega
      subst e
      have : (els.take l).drop l = [] := by simp
      rw [this, Nat.sub_self]
      exact .sl0 _ _

theorem idx_rep {els : List (List D)} {v : Value} (hr : RepD w S v (.sl els)) {k : Nat} {n : Nat} {c : List PV} (hn : 0 < n) (hf : allL flat c = true) (hcl : c.length = n) (hk : els[k]? = some (mapD c)) :
    ∃ b o cap, v = .slice (some ⟨b, o, none⟩) els.length cap ∧ k < els.length ∧ Rep w S β (.pointer (some ⟨b, o + k * n, none⟩)) (.dptr c 0) := by
  have hlt : k < els.length := by
    rcases Nat.lt_or_ge k els.length with h | h
    · exact h
    · rw [List.getElem?_eq_none h] at hk; cases hk
  rcases repD_sl hr with ⟨rfl, a, cap, rfl⟩ | ⟨b, o, cap, s, vals, hne, hcap, hS, hs, hc, hrr, hone, rfl⟩
  · simp at hlt
  · have hg : els.getD k [] = mapD c := by rw [List.getD_eq_getElem?_getD, hk]; rfl
    have hsn : s = n := by
      have hm : mapD c ∈ els := List.mem_of_getElem? hk
      rw [← hs _ hm, mapD_length, hcl]
    subst hsn
    refine ⟨b, o, cap, rfl, hlt, .dptr (o := o + k * s) (off := 0) (fun j => vals k j) hS hf (fun j hj => ?_) (fun j hj => ?_)⟩
    · exact hc k j hlt (by omega)
    · have := hrr k j hlt (by omega)
      rw [hg, mapD_getD] at this
      exact this

end

section
variable {w0 : World} {S0 K0 : Nat → Prop} {N : Cx} {τ : Nat → PV} {objs : List (Nat × Obj')} {a : Act} {w : World} {S : Nat → Prop} {β : Nat → Option Nat}

theorem obj_box (h : Sim w0 S0 K0 N τ objs a w S β) {n : Nat} {cs : List PV} (ho : getO objs n = some (.box cs)) :
    ∃ (b : Nat) (vs : Array Value) (T : TypeId), β n = some b ∧ w.heap[b]? = some (.cells vs T (0, 0)) ∧ vs.size = cs.length ∧ ∀ j, j < cs.length → Rep w S β (vs.getD j undef) (cs.getD j .any) :=
  h.obj.at_ n _ (getO_mem ho)

theorem cell_at {b : Nat} {vs : Array Value} {T : TypeId} {fz : Nat × Nat} (hb : w.heap[b]? = some (.cells vs T fz)) (j : Nat) (hj : j < vs.size) : w.cell? ⟨b, j, none⟩ = some (vs.getD j undef) := by
  simp only [World.cell?, hb]
  simp [hj]

theorem ty_und {t : Nat} (h : (ty t).isNo = false) : ∃ d, Pg.underlying t = some d := by
  obtain ⟨i, d, _, h2, _⟩ := ty_load h
  exact ⟨d, h2⟩

theorem evs_rep {ρ : Operand → Value} {e : Operand → PV} (he : ∀ x, Rep w S β (ρ x) (e x)) : ∀ (l : List Operand), RepL w S β (l.map ρ).toArray (evs e l)
  | [] => ⟨rfl, fun j hj => by simp [evs] at hj⟩
  | o :: r => by
    obtain ⟨h1, h2⟩ := evs_rep he r
    refine ⟨by simpa [evs] using h1, fun j hj => ?_⟩
    cases j with
    | zero => simpa [evs] using he o
    | succ j => simpa [evs] using h2 j (by simpa [evs] using hj)

theorem RepL.append {vs us : Array Value} {cs ds : List PV} (h : RepL w S β vs cs) (k : RepL w S β us ds) : RepL w S β (vs ++ us) (cs ++ ds) := by
  refine ⟨by simp [h.1, k.1], fun j hj => ?_⟩
  by_cases hlt : j < cs.length
  · have := h.2 j hlt
    rw [List.getD_eq_getElem?_getD, List.getElem?_append_left hlt, ← List.getD_eq_getElem?_getD]
    have hv : j < vs.size := by rw [h.1]; exact hlt
    simpa [Array.getElem?_append_left hv] using this
  · have h2 := k.2 (j - cs.length) (by simp at hj; omega)
    rw [List.getD_eq_getElem?_getD, List.getElem?_append_right (by omega), ← List.getD_eq_getElem?_getD]
    have hv : vs.size ≤ j := by rw [h.1]; omega
    rw [← h.1] at h2 ⊢
    simpa [Array.getElem?_append_right hv] using h2

theorem RepL.le {vs : Array Value} {cs ds : List PV} (h : RepL w S β vs cs) (k : LeL cs ds) : RepL w S β vs ds :=
  ⟨h.1.trans (LeL_length k), fun j hj => (h.2 j (by rw [LeL_length k]; exact hj)).le _ (LeL_getD k j hj)⟩

theorem noObjs : ObjsAt w S β ([] ++ []) := ⟨by exact List.nodup_nil, fun n o h => by simp at h, fun n o b h => by simp at h, fun n o m o' b h => by simp at h⟩

theorem run_call_value {o : Oper} {c : Call} {f : Operand} (hop : o.op = .call c) (hc : c.callee = .value f) {ρ : Operand → Value} {g : FuncId} {vs : Array Value} (hf : ρ f = .func (.func g) #[] vs) (isf : ∀ (vals : Array Value) (w : World), (callFunc g vals).run Pg w = .ok (.enter g vals) w) :
    (execOp ρ o).run Pg w = .ok (.enter g ((c.args.toList.map ρ).toArray ++ vs)) w := by
  have : c.args.map ρ = (c.args.toList.map ρ).toArray := Array.ext' (by simp)
  simp only [execOp, hop, resolve, hc, hf, Deferred.ofValue, Sem.run_bind, Sem.run_pure, Result.andThen_ok, invoke, isf, this]
  simp

/-- A call that changes nothing that was there. -/
theorem callS_sound {o : Oper} {c : Call} {f : Operand} (hop : o.op = .call c) (hcl : c.callee = .value f) {K : PV → Prop} {Km : Act → World → Prop} {Q : Exit → Act → World → Prop} (h : Sim w0 S0 K0 N τ objs a w S β) {g : FuncId} {caps : List PV} (hf : ev τ f = .fn g caps)
    (hs : ∃ args' r, LeL (evs (ev τ) c.args.toList ++ caps) args' ∧ SoundS g args' r ∧ nmIn [] r = true ∧ K r)
    (hk : ∀ pv w' S' v, K pv → Leads w S nobody w' S' → Rep w' S' β v pv → Km (a.put o.dst v) w') : o.wp Pg a w Km Q := by
  obtain ⟨args', r, hle, hso, hnm, hK⟩ := hs
  have hfr := h.eval f
  rw [hf] at hfr
  obtain ⟨vs, hv, hl, hr⟩ := rep_fn hfr
  have hargs := ((evs_rep (fun x => h.eval x) c.args.toList).append ⟨hl, hr⟩).le hle
  unfold Oper.wp
  rw [run_call_value hop hcl hv hso.isf, Oper.upon_enter]
  refine (hso.go w S β _ h.ld.bnd noObjs hargs.1 hargs.2).mono ?_
  rintro e w' ⟨v, S', β', rfl, hld, hrep, _⟩
  have hld' : Leads w S nobody w' S' := ⟨hld.size, hld.os, hld.tape, hld.output, fun b hb _ => hld.same b hb (by rintro ⟨n, o, hm, _⟩; simp at hm), hld.shape, hld.bnd, hld.sub, fun b hb _ => hld.old b hb (by rintro ⟨n, o, hm, _⟩; simp at hm)⟩
  exact hk r w' S' v hK hld' (hrep.nmIn (by simp) hnm)

theorem sop_sound {o : Oper} {K : PV → Prop} {Km : Act → World → Prop} {Q : Exit → Act → World → Prop} (h : Sim w0 S0 K0 N τ objs a w S β) (hs : sop objs o.op (ev τ) K)
    (hk : ∀ pv w' S' v, K pv → Leads w S nobody w' S' → Rep w' S' β v pv → Km (a.put o.dst v) w') : o.wp Pg a w Km Q := by
  have he : ∀ x, Rep w S β (a.eval x) (ev τ x) := fun x => h.eval x
  have hrefl : Leads w S nobody w S := Leads.refl h.ld.bnd
  have fin : ∀ pv v, (execOp a.eval o).run Pg w = .ok (.value v) w → K pv → Rep w S β v pv → o.wp Pg a w Km Q := fun pv v h1 h2 h3 => wp_val h1 (hk pv w S v h2 hrefl h3)
  unfold sop at hs
  split at hs
  · rename_i x hop; exact fin _ _ (by simp [execOp, hop]) hs (he x)
  · rename_i x hop; exact fin _ _ (by simp [execOp, hop]) hs (he x)
  · rename_i c x y hop
    obtain ⟨b, hb, ht, hf⟩ := brV_sound (he c) hs
    cases b with
    | true => exact fin _ _ (by simp [execOp, hop, hb, asBool]) (ht rfl) (he x)
    | false => exact fin _ _ (by simp [execOp, hop, hb, asBool]) (hf rfl) (he y)
  · rename_i t parts hop
    split at hs
    · rename_i n fs z ht
      split at hs
      · rename_i cs hf
        obtain ⟨vs, h1, h2⟩ := run_build_st ht he hf
        exact fin _ _ (by simp [execOp, hop, h1]) hs (.agg h2.1 h2.2)
      · exact hs.elim
    · rename_i len n ag z ht
      split at hs
      · rename_i cs hf
        obtain ⟨vs, h1, h2⟩ := run_build_arr ht he hf
        exact fin _ _ (by simp [execOp, hop, h1]) hs (.agg h2.1 h2.2)
      · exact hs.elim
    · exact hs.elim
  · rename_i t len parts hop
    split at hs
    · rename_i n b z ht
      split at hs
      · rename_i els hf
        cases hc : (nle (len * n) 1000 && cokLL els) with
        | false => simp [hc] at hs
        | true =>
          simp only [hc, cond_true] at hs
          simp only [Bool.and_eq_true] at hc
          obtain ⟨w', S', v, h1, h2, h3⟩ := run_buildSlice ht h.ld.bnd he hf (nle_le hc.1) hc.2
          exact wp_val (by simp [execOp, hop, h1]) (hk _ _ _ _ hs h2 h3)
      · exact hs.elim
    · exact hs.elim
  · rename_i t x hop
    split at hs
    · rename_i cs off hx
      have hr := he x
      rw [hx] at hr
      obtain ⟨b, o', vals, hS, hv, hf, hc, hrr⟩ := rep_dptr hr
      obtain ⟨pv, val, h1, h2, h3⟩ := rdK_sound (w := w) (S := S) (β := β) hs vals hc (rep_of_flats hf hrr)
      exact fin pv val (by simp [execOp, hop, hv, h2]) h1 h3
    · rename_i n off hx
      split at hs
      · rename_i cs ho
        have hr := he x
        rw [hx] at hr
        obtain ⟨b, hβ, hv⟩ := rep_ptr hr
        obtain ⟨b', vs, T, hβ', hb, hsz, hrr⟩ := obj_box h ho
        rw [hβ] at hβ'
        cases hβ'
        obtain ⟨pv, val, h1, h2, h3⟩ := rdK_sound (w := w) (S := S) (β := β) (b := b) (o := 0) hs (fun j => vs.getD j undef) (fun j hj => by rw [Nat.zero_add]; exact cell_at hb j (by omega)) hrr
        exact fin pv val (by rw [Nat.zero_add] at h2; simp [execOp, hop, hv, h2]) h1 h3
      · exact hs.elim
    · rename_i n s i off hx
      split at hs
      · rename_i s' els ho
        cases hss : nqb s s' with
        | false => simp [hss] at hs
        | true =>
          simp only [hss, cond_true] at hs
          have := nqb_eq hss
          subst this
          obtain ⟨c, hcf, hcl, hck, hK⟩ := hs.h
          have hr := he x
          rw [hx] at hr
          obtain ⟨b, hβ, hv⟩ := rep_aptr hr
          have hlt : i () < (els ()).length := by
            rcases Nat.lt_or_ge (i ()) (els ()).length with h' | h'
            · exact h'
            · rw [List.getElem?_eq_none h'] at hck; cases hck
          rcases h.obj.at_ n _ (getO_mem ho) with ⟨hn, he0⟩ | ⟨b', vs, T, hβ', hb, hsz, hwid, hrr⟩
          · rw [he0] at hlt; simp at hlt
          · rw [hβ] at hβ'
            cases hβ'
            have hg : (els ()).getD (i ()) [] = mapD c := by rw [List.getD_eq_getElem?_getD, hck]; rfl
            obtain ⟨pv, val, h1, h2, h3⟩ := rdK_sound (w := w) (S := S) (β := β) (b := b) (o := i () * s) hK (fun j => vs.getD (i () * s + j) undef)
              (fun j hj => cell_at hb _ (by
                have : i () * s + s ≤ (els ()).length * s := by
                  calc i () * s + s = (i () + 1) * s := by rw [Nat.add_mul]; omega
                    _ ≤ _ := Nat.mul_le_mul_right _ hlt
                omega))
              (fun j hj => by
                have := (hrr (i ()) j hlt (by omega)).1
                rw [hg, mapD_getD] at this
                exact .c (allL_getD rfl hcf j) this)
            exact fin pv val (by simp [execOp, hop, hv, h2]) h1 h3
      · exact hs.elim
    · exact hs.elim
  · rename_i bop t x y yt hop
    obtain ⟨pv, val, h1, h2, h3⟩ := binK_sound (ox := x) (oy := y) (fun c e => by rw [e]; rfl) (he x) (he y) hs
    exact fin pv val (by simp only [execOp, hop, Sem.run_bind] at h2 ⊢; simp [h2]) h1 h3
  · rename_i op t x hop
    have hr := he x
    split at hs
    · rename_i hx; rw [hx] at hr; exact fin _ (.bool false) (by simp [execOp, hop, Op.unary, rep_tt hr]) hs (.c rfl (.bool false))
    · rename_i hx; rw [hx] at hr; exact fin _ (.bool true) (by simp [execOp, hop, Op.unary, rep_ff hr]) hs (.c rfl (.bool true))
    · rename_i b hx; rw [hx] at hr; exact fin _ (.bool (!(b ()))) (by simp [execOp, hop, Op.unary, rep_bool hr]) hs (rep_nb _)
    · rename_i b hx; rw [hx] at hr; exact fin _ (.bool (b ())) (by simp [execOp, hop, Op.unary, rep_nbool hr]) hs (rep_b _)
    · rename_i k n hx
      rw [hx] at hr
      obtain ⟨pv, h1, h2⟩ := arK_sound (w := w) (S := S) (β := β) hs
      exact fin pv _ (by simp [execOp, hop, Op.unary, rep_int hr, Op.intArith]) h1 h2
    · exact hs.elim
  · rename_i src dst x hop
    cases hno : (ty src).isNo with
    | true => simp [hno] at hs
    | false =>
      simp only [hno, cond_false] at hs
      split at hs
      · rename_i k z k' n ht hx
        have hr := he x
        rw [hx] at hr
        obtain ⟨d, hd⟩ := ty_und hno
        obtain ⟨i, d', zv, _, h2, _, _, _, _, _, h8, _⟩ := ty_sc ht
        have h8 := h8 k z rfl
        subst h8
        refine fin _ _ ?_ hs (rep_i k (fun _ => nx k (n ())))
        cases d <;> simp [execOp, hop, convert, run_underlying hd, run_underlying h2, rep_int hr, Conv.intToInt, nx]
      · exact hs.elim
  · rename_i t x i hop
    split at hs
    · rename_i n fs z ht
      split at hs
      · rename_i off sz ag hi
        have hr := he x
        split at hs
        · rename_i m o' hx
          rw [hx] at hr
          obtain ⟨b, hβ, hv⟩ := rep_ptr hr
          exact fin _ _ (by simp [execOp, hop, hv, run_fieldAt ht hi]) hs (.ptr hβ)
        · rename_i m s j o' hx
          rw [hx] at hr
          obtain ⟨b, hβ, hv⟩ := rep_aptr hr
          exact fin _ (.pointer (some ⟨b, j () * s + (o' + off), none⟩)) (by simp [execOp, hop, hv, run_fieldAt ht hi, Nat.add_assoc]) hs (.aptr hβ)
        · rename_i cs o' hx
          rw [hx] at hr
          obtain ⟨b, oo, vals, hS, hv, hf, hc, hrr⟩ := rep_dptr hr
          exact fin _ (.pointer (some ⟨b, oo + (o' + off), none⟩)) (by simp [execOp, hop, hv, run_fieldAt ht hi, Nat.add_assoc]) hs (.dptr vals hS hf hc hrr)
        · exact hs.elim
      · exact hs.elim
    · exact hs.elim
  · rename_i t x i hop
    split at hs
    · rename_i n b z els k kv ht hx hi
      obtain ⟨inf, el, j, zv, h1, h2, h3, h4, h5, h6, h7, h8, h9, h10, h11, h12⟩ := ty_sli ht
      have hr := he x; have hri := he i
      rw [hx] at hr; rw [hi] at hri
      obtain ⟨hk0, c, hcf, hcl, hck, hK⟩ := hs.h
      obtain ⟨bb, oo, cap, hv, hlt, hrep⟩ := idx_rep (β := β) (rep_sl hr) h10 hcf hcl hck
      refine fin _ _ ?_ hK hrep
      have := run_indexAt_slice (w := w) h4 h5 bb oo (els ()).length cap k (kv ()) hk0 (by omega)
      rw [h7] at this
      simp [execOp, hop, hv, rep_int hri, this]
    · rename_i n b z m s o' len k kv ht hx hi
      obtain ⟨inf, el, j, zv, h1, h2, h3, h4, h5, h6, h7, h8, h9, h10, h11, h12⟩ := ty_sli ht
      have hr := he x; have hri := he i
      rw [hx] at hr; rw [hi] at hri
      cases hss : nqb n s with
      | false => simp [hss] at hs
      | true =>
        simp only [hss, cond_true] at hs
        have := nqb_eq hss
        subst this
        obtain ⟨hrg, hK⟩ := hs
        rcases rep_osl hr with ⟨_, _, hl0, _⟩ | ⟨bb, cap, vs, T, hβ, hlc, hb, hsz, hv⟩
        · have := hrg.lo; have := hrg.hi; omega
        · refine fin _ _ ?_ hK (.aptr hβ)
          have := run_indexAt_slice (w := w) h4 h5 bb (o' () * n) (len ()) cap k (kv ()) hrg.lo hrg.hi
          rw [h7] at this
          simp [execOp, hop, hv, rep_int hri, this, Nat.add_mul]
    · rename_i len n ag z m o' k kv ht hx hi
      obtain ⟨inf, el, zs, h1, h2, h3, h4, h5, h6, h7, h8, h8', h8'', h9⟩ := ty_arr ht
      have hr := he x; have hri := he i
      rw [hx] at hr; rw [hi] at hri
      obtain ⟨jj, hj1, hj2, hK⟩ := hs.h
      obtain ⟨b, hβ, hv⟩ := rep_ptr hr
      obtain ⟨j, hj, hjs⟩ := info_of_cells (t := el) (by omega)
      refine fin _ _ ?_ hK (.ptr hβ)
      have := run_indexAt_array (w := w) h2 hj b o' k (kv ()) (by omega) (by omega)
      rw [hjs, h6, hj1] at this
      simp [execOp, hop, hv, rep_int hri, hj1, this]
    · exact hs.elim
  · rename_i t x i hop
    split at hs
    · rename_i len z cs k kv ht hx hi
      obtain ⟨inf, el, zs, h1, h2, h3, h4, h5, h6, h7, h8, h8', h8'', h9⟩ := ty_arr ht
      have hr := he x; have hri := he i
      rw [hx] at hr; rw [hi] at hri
      cases hll : nqb len cs.length with
      | false => simp [hll] at hs
      | true =>
        simp only [hll, cond_true] at hs
        have hll := nqb_eq hll
        obtain ⟨jj, hj1, hj2, hK⟩ := hs.h
        obtain ⟨vs, hv, hl, hrr⟩ := rep_agg hr
        obtain ⟨j, hj, hjs⟩ := info_of_cells (t := el) (by omega)
        have hs1 : j.size = 1 := by omega
        obtain ⟨d, hd⟩ := Option.isSome_iff_exists.1 h8''
        have hlt : jj < vs.size := by omega
        refine fin _ (vs.getD jj undef) ?_ hK (hrr jj (by omega))
        have hd' := run_isAgg hd w
        rw [h7] at hd'
        simp [execOp, hop, hv, rep_int hri, hj1, Instr.index, asIntOf, run_underlying h2, hj2, run_size hj, hs1, part, hd', hlt]
    · exact hs.elim
  · rename_i x i hop
    have hr := he x
    split at hs
    · rename_i vs hx
      rw [hx] at hr
      cases hlt : nlt i vs.length with
      | false => simp [hlt] at hs
      | true =>
        simp only [hlt, cond_true] at hs
        have hlt : i < vs.length := by simp [nlt] at hlt; omega
        obtain ⟨us, hv, hl, hrr⟩ := rep_tup hr
        have hlu : i < us.size := by omega
        exact fin _ (us.getD i undef) (by simp [execOp, hop, hv, Instr.extract, hlu]) hs (hrr i hlt)
    · exact hs.elim
  · rename_i t x lo hi hop
    have hr := he x
    split at hs
    · rename_i n b z els ht hx
      obtain ⟨inf, el, j, zv, h1, h2, h3, h4, h5, h6, h7, h8, h9, h10, h11, h12⟩ := ty_sli ht
      rw [hx] at hr
      split at hs
      · rename_i l hh hl hhh
        obtain ⟨hok, hw, hK⟩ := hs
        have hl' := optI_sound he hl; have hh' := optI_sound he hhh
        have := hok.lo; have := hok.mid; have := hok.hi
        obtain ⟨aa, cap, hv, hcap, hrep⟩ := slice_repD (rep_sl hr) hw.h (l := (l ()).toNat) (h := (hh ()).toNat) (by omega) (by omega)
        refine fin _ _ ?_ hK (.c rfl hrep)
        have := run_slice_gen (w := w) (ρ := a.eval) (a := aa) h4 h5 hcap hok.lo hok.mid hok.hi (hl'.imp (fun h => ⟨h.1, by rw [h.2]⟩) id) (hh'.imp (fun h => ⟨h.1, by rw [h.2]⟩) id)
        rw [h7] at this
        simp only [execOp, hop, hv, Sem.run_bind, this, Result.andThen_ok, Sem.run_pure]
      · exact hs.elim
    · rename_i n b z m s o' len ht hx
      obtain ⟨inf, el, j, zv, h1, h2, h3, h4, h5, h6, h7, h8, h9, h10, h11, h12⟩ := ty_sli ht
      rw [hx] at hr
      split at hs
      · rename_i l hh hl hhh
        cases hss : nqb n s with
        | false => simp [hss] at hs
        | true =>
          simp only [hss, cond_true] at hs
          have := nqb_eq hss
          subst this
          obtain ⟨hok, hne, hK⟩ := hs
          have hl' := optI_sound he hl; have hh' := optI_sound he hhh
          have := hok.lo; have := hok.mid; have := hok.hi; have := hne.lt
          rcases rep_osl hr with ⟨_, _, hl0, _⟩ | ⟨bb, cap, vs, T, hβ, hlc, hb, hsz, hv⟩
          · omega
          · refine fin _ _ ?_ hK (.osl (cap := cap - (l ()).toNat) hβ (by omega) hb ?_)
            · have := run_slice_gen (w := w) (ρ := a.eval) (a := some ⟨bb, o' () * n, none⟩) h4 h5 hlc hok.lo hok.mid hok.hi (hl'.imp (fun h => ⟨h.1, by rw [h.2]⟩) id) (hh'.imp (fun h => ⟨h.1, by rw [h.2]⟩) id)
              rw [h7, if_neg (by omega)] at this
              simp only [Option.map_some, addr_add, ← Nat.add_mul] at this
              simp only [execOp, hop, hv, Sem.run_bind, this, Result.andThen_ok, Sem.run_pure]
            · have : o' () + (l ()).toNat + (cap - (l ()).toNat) = o' () + cap := by omega
              rw [this]; exact hsz
      · exact hs.elim
    · rename_i n b z ht hx
      obtain ⟨inf, el, j, zv, h1, h2, h3, h4, h5, h6, h7, h8, h9, h10, h11, h12⟩ := ty_sli ht
      rw [hx] at hr
      obtain ⟨aa, hv⟩ := rep_nil hr
      split at hs
      · rename_i l hh hl hhh
        obtain ⟨hok, hK⟩ := hs
        have hl' := optI_sound he hl; have hh' := optI_sound he hhh
        have := hok.lo; have := hok.mid; have := hok.hi
        refine fin _ _ ?_ hK (.nil aa)
        have := run_slice_gen (w := w) (ρ := a.eval) (a := aa) h4 h5 (Nat.le_refl 0) hok.lo hok.mid hok.hi (hl'.imp (fun h => ⟨h.1, by rw [h.2]⟩) id) (hh'.imp (fun h => ⟨h.1, by rw [h.2]; rfl⟩) id)
        have e1 : (l ()).toNat = 0 := by omega
        have e2 : (hh ()).toNat = 0 := by omega
        rw [e1, e2, if_pos rfl] at this
        simp only [execOp, hop, hv, Sem.run_bind, this, Result.andThen_ok, Sem.run_pure]
      · exact hs.elim
    · exact hs.elim
  · rename_i x hop
    have hr := he x
    split at hs
    · rename_i n o' hx; rw [hx] at hr; obtain ⟨b, hβ, hv⟩ := rep_ptr hr; exact fin _ _ (by simp [execOp, hop, hv]) hs (.ptr hβ)
    · rename_i n s i o' hx; rw [hx] at hr; obtain ⟨b, hβ, hv⟩ := rep_aptr hr; exact fin _ _ (by simp [execOp, hop, hv]) hs (.aptr hβ)
    · rename_i c o' hx; rw [hx] at hr; obtain ⟨b, oo, vals, hS, hv, hf, hc, hrr⟩ := rep_dptr hr; exact fin _ _ (by simp [execOp, hop, hv]) hs (.dptr vals hS hf hc hrr)
    · exact hs.elim
  · rename_i f first caps hop
    split at hs
    · rename_i hfe
      have hf0 : first = #[] := by simpa using hfe
      have hc := evs_rep he caps.toList
      refine fin _ (.func (.func f) #[] (caps.toList.map a.eval).toArray) ?_ hs (.fn hc.1 hc.2)
      have : caps.map a.eval = (caps.toList.map a.eval).toArray := Array.ext' (by simp)
      simp [execOp, hop, Instr.makeFunc, hf0, ← this]
    · exact hs.elim
  · rename_i c hop
    split at hs
    · rename_i hcl
      split at hs
      · rename_i x t hx ht
        have hr := he x
        have ha : c.args = #[x] := by rw [← Array.toArray_toList (xs := c.args), hx]
        have hta : c.argTypes = #[t] := by rw [← Array.toArray_toList (xs := c.argTypes), ht]
        unfold lenK at hs
        split at hs
        · rename_i n b z hty
          obtain ⟨inf, el, j, zv, h1, h2, h3, h4, _⟩ := ty_sli hty
          split at hs
          · rename_i els hxe
            rw [hxe] at hr
            have := rep_sl hr
            obtain ⟨aa, cap, hv, _⟩ : ∃ aa cap, a.eval x = .slice aa (els ()).length cap ∧ True := by
              rcases repD_sl this with ⟨e0, aa, cap, hv⟩ | ⟨bb, oo, cap, s, vals, _, _, _, _, _, _, _, hv⟩
              · exact ⟨aa, cap, by rw [hv, e0]; rfl, trivial⟩
              · exact ⟨_, cap, hv, trivial⟩
            exact fin _ (.int .i64 ((els ()).length : Nat)) (by simp [execOp, hop, resolve, hcl, invoke, Go.builtin, ha, hta, hv, Builtin.len_, run_underlying h4, goInt]) hs (rep_i .i64 (fun _ => (((els ()).length : Nat) : Int)))
          · rename_i m s o' l hxe
            rw [hxe] at hr
            obtain ⟨aa, cap, hv⟩ : ∃ aa cap, a.eval x = .slice aa (l ()) cap := by
              rcases rep_osl hr with ⟨_, _, hl0, aa, hv⟩ | ⟨bb, cap, vs, T, hβ, hlc, hb, hsz, hv⟩
              · exact ⟨aa, 0, by rw [hv, hl0]⟩
              · exact ⟨_, cap, hv⟩
            exact fin _ (.int .i64 (l () : Nat)) (by simp [execOp, hop, resolve, hcl, invoke, Go.builtin, ha, hta, hv, Builtin.len_, run_underlying h4, goInt]) hs (rep_i .i64 (fun _ => ((l () : Nat) : Int)))
          · rename_i hxe
            rw [hxe] at hr
            obtain ⟨aa, hv⟩ := rep_nil hr
            exact fin _ (.int .i64 0) (by simp [execOp, hop, resolve, hcl, invoke, Go.builtin, ha, hta, hv, Builtin.len_, run_underlying h4, goInt]) hs (rep_i .i64 (fun _ => 0))
          · exact hs.elim
        · exact hs.elim
      · exact hs.elim
    · rename_i hcl
      split at hs
      · rename_i x y hx
        have ha : c.args = #[x, y] := by rw [← Array.toArray_toList (xs := c.args), hx]
        split at hs
        · rename_i k b hxe hye
          have hr := he x; have hr2 := he y
          rw [hxe] at hr; rw [hye] at hr2
          refine fin _ (.int .i64 (imax (k ()) (b ()))) ?_ hs (rep_i .i64 (fun _ => imax (k ()) (b ())))
          simp [execOp, hop, resolve, hcl, invoke, Go.builtin, ha, rep_int hr, rep_int hr2, Builtin.max_, Builtin.max2, imax]
        · exact hs.elim
      · exact hs.elim
    · rename_i f hcl
      split at hs
      · rename_i g caps hf
        exact callS_sound hop hcl h hf hs.h hk
      · exact hs.elim
    · exact hs.elim
  · exact hs.elim

end
end Go.Proofs.YtbehbhicjmjdhaaGreat
