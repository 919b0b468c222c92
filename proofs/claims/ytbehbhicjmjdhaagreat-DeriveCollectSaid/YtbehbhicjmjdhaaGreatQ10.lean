/- THE PURE MACHINE, part P: a region that draws its order: every order ends as the order of the text does. * THE PURE MACHINE, part Q: the whole of the code; a contract from a function's body. -/
import Derived.Test.YtbehbhicjmjdhaaGreatQ09
import Derived.Deep.LoopGhost

namespace Go.Proofs.YtbehbhicjmjdhaaGreat
open Go
set_option linter.unusedVariables false
set_option linter.unusedSimpArgs false

/-- What is listed is closed under what binds. -/
def Edges (L : Nat → Prop) (o : Oper) : Prop := ∀ e, e ∈ o.after.toList → Region.binds .any e = true → L e.on

theorem ancRow_bit {acc : List Nat} {o : Oper} {j : Nat} (h : (ancRow acc o).testBit j = true) : ∃ e, e ∈ o.after.toList ∧ Region.binds .any e = true ∧ (e.on = j ∨ (acc.getD e.on 0).testBit j = true) := by
  unfold ancRow at h
  have gen : ∀ (l : List Edge) (s : Nat), (l.foldl (fun s e => if Region.binds .any e then s ||| (2 ^ e.on ||| acc.getD e.on 0) else s) s).testBit j = true → s.testBit j = true ∨ ∃ e, e ∈ l ∧ Region.binds .any e = true ∧ (e.on = j ∨ (acc.getD e.on 0).testBit j = true) := by
    intro l
    induction l with
    | nil => intro s h; exact .inl h
    | cons e l ih =>
      intro s h
      simp only [List.foldl_cons] at h
      rcases ih _ h with h1 | ⟨e', h1, h2⟩
      · by_cases hb : Region.binds .any e = true
        · rw [if_pos hb, Nat.testBit_or, Nat.testBit_or] at h1
          simp only [Bool.or_eq_true] at h1
          rcases h1 with h1 | h1 | h1
          · exact .inl h1
          · exact .inr ⟨e, List.mem_cons_self, hb, .inl (by simpa [Nat.testBit_two_pow] using h1)⟩
          · exact .inr ⟨e, List.mem_cons_self, hb, .inr h1⟩
        · rw [if_neg hb] at h1
          exact .inl h1
      · exact .inr ⟨e', List.mem_cons_of_mem _ h1, h2⟩
  rcases gen _ _ h with h1 | h1
  · simp at h1
  · exact h1

theorem anc_go {L : Nat → Prop} {ops : List Oper} (hL : ∀ i o, ops[i]? = some o → L i → Edges L o) : ∀ (r done : List Oper) (acc : List Nat), ops = done ++ r → acc.length = done.length →
    (∀ i o j, i < acc.length → ops[i]? = some o → Edges L o → (acc.getD i 0).testBit j = true → L j) →
    ∀ i o j, ops[i]? = some o → Edges L o → ((ancGo r acc).getD i 0).testBit j = true → L j
  | [], done, acc, he, hl, h, i, o, j, hi, hE, hb => by
    refine h i o j ?_ hi hE hb
    rw [hl]
    simp only [List.append_nil] at he
    subst he
    exact (List.getElem?_eq_some_iff.1 hi).1
  | x :: r, done, acc, he, hl, h, i, o, j, hi, hE, hb => by
    refine anc_go hL r (done ++ [x]) (acc ++ [ancRow acc x]) (by simp [he]) (by simp [hl]) ?_ i o j hi hE hb
    intro i o j hlt hi hE hb
    by_cases h1 : i < acc.length
    · have : (acc ++ [ancRow acc x]).getD i 0 = acc.getD i 0 := by simp only [List.getD_eq_getElem?_getD]; rw [List.getElem?_append_left h1]
      rw [this] at hb
      exact h i o j h1 hi hE hb
    · have h2 : i = acc.length := by simp at hlt; omega
      subst h2
      have : (acc ++ [ancRow acc x]).getD acc.length 0 = ancRow acc x := by simp
      rw [this] at hb
      have hx : ops[acc.length]? = some x := by rw [he, hl]; simp
      rw [hx] at hi
      cases hi
      obtain ⟨e, h3, h4, h5⟩ := ancRow_bit hb
      have hLe := hE e h3 h4
      rcases h5 with h5 | h5
      · exact h5 ▸ hLe
      · by_cases h6 : e.on < acc.length
        · have hlo : e.on < ops.length := by rw [he]; simp; omega
          have ho : ops[e.on]? = some ops[e.on] := List.getElem?_eq_getElem hlo
          exact h e.on _ j h6 ho (hL e.on _ ho hLe) h5
        · have : acc.getD e.on 0 = 0 := by simp only [List.getD_eq_getElem?_getD]; rw [List.getElem?_eq_none (by omega)]; rfl
          rw [this] at h5
          simp at h5

theorem anc_listed {L : Nat → Prop} {ops : List Oper} (hL : ∀ i o, ops[i]? = some o → L i → Edges L o) {i j : Nat} {o : Oper} (hi : ops[i]? = some o) (hE : Edges L o) (hb : ((anc ops).getD i 0).testBit j = true) : L j :=
  anc_go hL ops [] [] rfl rfl (fun i o j h => by simp at h) i o j hi hE hb

/-! ### How many are not yet listed -/

def unl (L : Array Bool) : Nat → Nat
  | 0 => 0
  | n + 1 => unl L n + (if L.getD n true = true then 0 else 1)

theorem unl_set_ge {L : Array Bool} {i : Nat} : ∀ {n : Nat}, n ≤ i → unl (L.setIfInBounds i true) n = unl L n
  | 0, _ => rfl
  | n + 1, h => by
    simp only [unl]
    rw [unl_set_ge (by omega), getD_set_ne true (by omega)]
theorem unl_set {L : Array Bool} {i : Nat} (hi : L.getD i true = false) : ∀ {n : Nat}, i < n → unl (L.setIfInBounds i true) n + 1 = unl L n
  | 0, h => by omega
  | n + 1, h => by
    simp only [unl]
    by_cases e : i = n
    · subst e
      have hs : i < L.size := by
        rcases Nat.lt_or_ge i L.size with h' | h'
        · exact h'
        · simp [Array.getElem?_eq_none h'] at hi
      rw [unl_set_ge (Nat.le_refl _), hi]
      have : (L.setIfInBounds i true).getD i true = true := by simp [hs]
      rw [this]
      simp
    · have := unl_set hi (n := n) (by omega)
      rw [getD_set_ne true e]
      omega
theorem unl_zero {L : Array Bool} : ∀ {n : Nat}, unl L n = 0 → ∀ i, i < n → L.getD i true = true
  | 0, _, i, h => by omega
  | n + 1, h0, i, h => by
    simp only [unl] at h0
    by_cases e : i = n
    · subst e
      by_cases ht : L.getD i true = true
      · exact ht
      · rw [if_neg ht] at h0; omega
    · exact unl_zero (n := n) (by omega) i (by omega)

theorem getD_both {L : Array Bool} {i : Nat} (hi : i < L.size) (d e : Bool) : L.getD i d = L.getD i e := by simp [hi]

section
variable {w0 : World} {S0 K0 : Nat → Prop} {N : Cx}

structure DrawOk (ops : List Oper) (k : Nat) : Prop where
  dst : dstsOk (ops.take k) = true
  look : ∀ i o t j oj, i < k → j < k → ops[i]? = some o → ops[j]? = some oj → t ∈ looks ops o → oj.dst = some t → (j < i ∧ ((anc ops).getD i 0).testBit j = true) ∨ (i < j ∧ ((anc ops).getD j 0).testBit i = true)
  full : ∀ i, i < k → ∃ o, ops[i]? = some o
  back : ∀ i o, ops[i]? = some o → ∀ e, e ∈ o.after.toList → Region.binds .any e = true → e.on < i
  rest : ∀ i j, i < ops.length → k ≤ i → j < i → ((anc ops).getD i 0).testBit j = true

theorem drawOk_spec {ops : List Oper} {k : Nat} (h : drawOk ops k = true) : DrawOk ops k := by
  simp only [drawOk, Bool.and_eq_true, List.all_eq_true, List.mem_range] at h
  obtain ⟨⟨⟨h1, h2⟩, h3⟩, h4⟩ := h
  refine ⟨h1, ?_, ?_, ?_, ?_⟩
  · intro i o t j oj hi hj ho hoj ht hd
    have := h2 i hi
    simp only [ho, List.all_eq_true, List.mem_range] at this
    have := this t ht j hj
    simp only [hoj, hd, BEq.rfl, Bool.not_true, Bool.false_or, Bool.or_eq_true, Bool.and_eq_true, decide_eq_true_eq] at this
    exact this
  · intro i hi
    have := h2 i hi
    cases ho : ops[i]? with
    | none => simp [ho] at this
    | some o => exact ⟨o, rfl⟩
  · intro i o ho e he hb
    have hlt := (List.getElem?_eq_some_iff.1 ho).1
    have := h3 i hlt
    simp only [ho, List.all_eq_true] at this
    have := this e he
    simp only [hb, Bool.not_true, Bool.false_or, decide_eq_true_eq] at this
    exact this
  · intro i j hi hk hj
    have := h4 i hi
    simp only [Bool.or_eq_true, decide_eq_true_eq, List.all_eq_true, List.mem_range] at this
    rcases this with h5 | h5
    · omega
    · exact h5 j hj

/-- The temporaries when the operations of L have run. -/
structure At (ops : List Oper) (k : Nat) (pvs : List PV) (τ0 : Nat → PV) (L : Nat → Prop) (τ : Nat → PV) : Prop where
  hit : ∀ j o t pv, j < k → L j → ops[j]? = some o → pvs[j]? = some pv → o.dst = some t → τ t = pv
  miss : ∀ t, (∀ j o, j < k → L j → ops[j]? = some o → o.dst ≠ some t) → τ t = τ0 t

theorem At.step {ops : List Oper} {k : Nat} {pvs : List PV} {τ0 : Nat → PV} {L L' : Nat → Prop} {τ : Nat → PV} (D : DrawOk ops k) (h : At ops k pvs τ0 L τ) {i : Nat} {o : Oper} {pv : PV} (hi : i < k) (ho : ops[i]? = some o) (hp : pvs[i]? = some pv)
    (hL' : ∀ j, L' j ↔ L j ∨ j = i) : At ops k pvs τ0 L' (upd τ o.dst pv) := by
  have hne : ∀ j oj t, j < k → ops[j]? = some oj → oj.dst = some t → o.dst = some t → j = i := fun j oj t hj hoj hd hd' =>
    dstsOk_ne D.dst (by rw [List.getElem?_take_of_lt hj]; exact hoj) (by rw [List.getElem?_take_of_lt hi]; exact ho) hd hd'
  refine ⟨fun j oj t pv' hj hLj hoj hpj hd => ?_, fun t ht => ?_⟩
  · by_cases hji : j = i
    · subst hji
      rw [ho] at hoj
      cases hoj
      rw [hp] at hpj
      cases hpj
      simp [upd, hd]
    · have hLj' := ((hL' j).1 hLj).resolve_right hji
      rw [← h.hit j oj t pv' hj hLj' hoj hpj hd]
      cases hd' : o.dst with
      | none => rfl
      | some d =>
        have : t ≠ d := fun e => hji (hne j oj t hj hoj hd (by rw [hd', e]))
        simp [upd, this]
  · have h1 : τ t = τ0 t := h.miss t fun j oj hj hLj hoj => ht j oj hj ((hL' j).2 (.inl hLj)) hoj
    rw [← h1]
    cases hd' : o.dst with
    | none => rfl
    | some d =>
      have : t ≠ d := fun e => ht i o hi ((hL' i).2 (.inr rfl)) ho (by rw [hd', e])
      simp [upd, this]

theorem At.text {ops : List Oper} {k : Nat} {pvs : List PV} {τ0 : Nat → PV} (D : DrawOk ops k) (hl : pvs.length = (ops.take k).length) (i : Nat) (hi : i ≤ k) : At ops k pvs τ0 (fun j => j < i) (upds ((ops.take k).take i) (pvs.take i) τ0) := by
  have htt : (ops.take k).take i = ops.take i := by rw [List.take_take, Nat.min_eq_left hi]
  have hdo : dstsOk (ops.take i) = true := by rw [← htt]; exact dstsOk_take i D.dst
  refine ⟨fun j o t pv hj hLj ho hp hd => ?_, fun t ht => ?_⟩
  · rw [htt]
    exact upds_hit hdo (by rw [List.getElem?_take_of_lt hLj]; exact ho) (by rw [List.getElem?_take_of_lt hLj]; exact hp) hd
  · rw [htt]
    refine upds_miss fun j o ho => ?_
    have hlt : j < i := by
      have := (List.getElem?_eq_some_iff.1 ho).1
      simp at this
      omega
    rw [List.getElem?_take_of_lt hlt] at ho
    exact ht j o (by omega) hlt ho

theorem At.same {ops : List Oper} {k : Nat} {pvs : List PV} {τ0 : Nat → PV} {L L' : Nat → Prop} {τ τ' : Nat → PV} (D : DrawOk ops k) (hlen : k ≤ pvs.length) (h : At ops k pvs τ0 L τ) (h' : At ops k pvs τ0 L' τ') {t : Nat} (ht : ∀ j o, j < k → ops[j]? = some o → o.dst = some t → (L j ∧ L' j) ∨ (¬ L j ∧ ¬ L' j)) : τ t = τ' t := by
  by_cases hx : ∃ j o, j < k ∧ ops[j]? = some o ∧ o.dst = some t
  · obtain ⟨j, o, hj, ho, hd⟩ := hx
    rcases ht j o hj ho hd with ⟨h1, h2⟩ | ⟨h1, h2⟩
    · have hp : pvs[j]? = some pvs[j] := List.getElem?_eq_getElem (by omega)
      rw [h.hit j o t _ hj h1 ho hp hd, h'.hit j o t _ hj h2 ho hp hd]
    · have key : ∀ j' o', j' < k → ops[j']? = some o' → o'.dst = some t → j' = j := fun j' o' hj' ho' hd' =>
        dstsOk_ne D.dst (by rw [List.getElem?_take_of_lt hj']; exact ho') (by rw [List.getElem?_take_of_lt hj]; exact ho) hd' hd
      rw [h.miss t fun j' o' hj' hL ho' hd' => h1 (key j' o' hj' ho' hd' ▸ hL), h'.miss t fun j' o' hj' hL ho' hd' => h2 (key j' o' hj' ho' hd' ▸ hL)]
  · rw [h.miss t fun j o hj _ ho hd => hx ⟨j, o, hj, ho, hd⟩, h'.miss t fun j o hj _ ho hd => hx ⟨j, o, hj, ho, hd⟩]

section
variable {a : Act} {w : World} {S : Nat → Prop} {β : Nat → Option Nat}
/-- A new object, in a block that was not there. -/
theorem Sim.newObjG {τ : Nat → PV} {objs : List (Nat × Obj')} {w' : World} (h : Sim w0 S0 K0 N τ objs a w S β) {n b : Nat} {o : Obj'} (hn : n < 1000000) (hT : ∀ t, refFree n (τ t) = true) (hO : ∀ {m x}, (m, x) ∈ objs → m ≠ n ∧ boxFree n x) (l : Leads w S nobody w' S) (hb : w.heap.size ≤ b) (hb' : b < w'.heap.size)
    (hat : ObjAt w' S (updB β n (some b)) n o) : Sim w0 S0 K0 N τ (objs ++ [(n, o)]) a w' S (updB β n (some b)) := by
  have hmem : ∀ {m x}, (m, x) ∈ objs ++ [(n, o)] → ((m, x) ∈ objs ∧ m ≠ n) ∨ (m = n ∧ x = o) := by
    intro m x hm
    simp only [List.mem_append, List.mem_singleton] at hm
    rcases hm with hm | hm
    · exact .inl ⟨hm, (hO hm).1⟩
    · cases hm; exact .inr ⟨rfl, rfl⟩
  have hg := h.go l
  refine ⟨h.dfr, h.sz, hg.ld, fun t => (hg.tmp t).upd (hT t), ⟨?_, ?_, ?_, ?_⟩, ?_, ?_⟩
  · rw [List.map_append, List.nodup_append]
    refine ⟨h.obj.nd, by simp, ?_⟩
    intro x hx y hy e
    simp at hy
    subst hy e
    obtain ⟨⟨m, o⟩, h1, rfl⟩ := List.mem_map.1 hx
    exact (hO h1).1 rfl
  · intro m x hm
    rcases hmem hm with ⟨h1, h2⟩ | ⟨rfl, rfl⟩
    · exact (hg.obj.at_ m x h1).upd h2 (hO h1).2
    · exact hat
  · intro m x c hm hβ
    rcases hmem hm with ⟨h1, h2⟩ | ⟨rfl, rfl⟩
    · rw [updB_ne h2] at hβ; exact hg.obj.un m x c h1 hβ
    · rw [updB_eq] at hβ
      cases hβ
      exact ⟨fun hS => by have := h.ld.bnd b hS; omega, hb'⟩
  · intro m x m' x' c hm hm' hβ hβ'
    rcases hmem hm with ⟨h1, h2⟩ | ⟨rfl, rfl⟩
    · rcases hmem hm' with ⟨h3, h4⟩ | ⟨rfl, rfl⟩
      · rw [updB_ne h2] at hβ; rw [updB_ne h4] at hβ'; exact hg.obj.inj _ _ _ _ c h1 h3 hβ hβ'
      · rw [updB_ne h2] at hβ
        rw [updB_eq] at hβ'
        cases hβ'
        have := (h.obj.un m x b h1 hβ).2
        omega
    · rcases hmem hm' with ⟨h3, h4⟩ | ⟨rfl, rfl⟩
      · rw [updB_ne h4] at hβ'
        rw [updB_eq] at hβ
        cases hβ
        have := (h.obj.un m' x' b h3 hβ').2
        omega
      · rfl
  · intro m x c hm hβ
    rcases hmem hm with ⟨h1, h2⟩ | ⟨rfl, rfl⟩
    · rw [updB_ne h2] at hβ; exact h.own m x c h1 hβ
    · rw [updB_eq] at hβ
      cases hβ
      have := h.ld.size
      exact .inl (by omega)
  · intro m x hm hb2
    rcases hmem hm with ⟨h1, h2⟩ | ⟨rfl, rfl⟩
    · rw [updB_ne h2]; exact h.keep m x h1 hb2
    · omega


theorem zero_free {d : Nat} {t : TypeId} (hno : (ty t).isNo = false) : refFreeL d (ty t).zero = true := by
  cases hty : ty t with
  | no => simp [hty, Ty.isNo] at hno
  | sc z => obtain ⟨_, _, zv', _, _, _, _, _, _, h7, _⟩ := ty_sc hty; rw [h7]; simp only [Ty.zero, refFreeL, allL, Bool.and_true]; unfold ofVal; split <;> rfl
  | st n fs z =>
    obtain ⟨_, _, zs, _, _, _, _, _, _, h7, _⟩ := ty_st hty
    rw [h7]
    simp only [Ty.zero]
    generalize zs.toList = l
    induction l with
    | nil => rfl
    | cons x l ih => simp only [List.map_cons, refFreeL, allL, Bool.and_eq_true]; exact ⟨by unfold ofVal; split <;> rfl, ih⟩
  | arr len n ag z =>
    obtain ⟨_, _, zs, _, _, _, _, _, _, _, _, _, _, h7⟩ := ty_arr hty
    rw [h7]
    simp only [Ty.zero]
    generalize zs.toList = l
    induction l with
    | nil => rfl
    | cons x l ih => simp only [List.map_cons, refFreeL, allL, Bool.and_eq_true]; exact ⟨by unfold ofVal; split <;> rfl, ih⟩
  | sli n b z => rfl

theorem mk_wp {o : Oper} {d : Nat} {x : Obj'} {τ : Nat → PV} {objs : List (Nat × Obj')} {Km : Act → World → Prop} {Q : Exit → Act → World → Prop} (hm : mkrOf o = some (d, x)) (hd : dstOk N o = true) (h : Sim w0 S0 K0 N τ objs a w S β)
    (hn : d < 1000000) (hT : ∀ t, refFree d (τ t) = true) (hO : ∀ {m y}, (m, y) ∈ objs → m ≠ d ∧ boxFree d y)
    (hk : ∀ a' w' β', Sim w0 S0 K0 N (upd τ o.dst (.ptr d 0)) (objs ++ [(d, x)]) a' w' S β' → Km a' w') : o.wp Pg a w Km Q := by
  obtain ⟨hg, hod, t, hop, hno, rfl⟩ := mkrOf_spec hm
  obtain ⟨i, zv, h1, h2, h3⟩ := ty_zero (w := w) (S := S) (β := β) hno
  have hz : refFreeL d (ty t).zero = true := zero_free hno
  have l := alloc_leads0 (w := w) h.ld.bnd (.cells zv.cells t)
  have hnw := h.newObjG (w' := w.alloc (.cells zv.cells t)) (b := w.heap.size) (o := .box (ty t).zero) hn hT hO l (Nat.le_refl _) (by simp) ⟨w.heap.size, zv.cells, t, updB_eq, heap_alloc_new w _, h3.1, fun j hj =>
    ((h3.2 j hj).evo (l.evo h.ld.bnd) (l.subs h.ld.bnd)).upd (allL_getD rfl hz j)⟩
  refine wp_val (v := .pointer (some ⟨w.heap.size, 0, none⟩)) (w' := w.alloc (.cells zv.cells t)) ?_ ?_
  · simp [execOp, hop, Instr.alloc, run_zero h1 h2, newVar, newRow]
  · exact hk _ _ _ (hnw.put o.dst (dstOk_lt hd) (.ptr updB_eq))
theorem Sim.perm {τ : Nat → PV} {objs objs' : List (Nat × Obj')} (h : Sim w0 S0 K0 N τ objs a w S β) (hm : ∀ x, x ∈ objs' ↔ x ∈ objs) (hnd : (objs'.map Prod.fst).Nodup) : Sim w0 S0 K0 N τ objs' a w S β :=
  ⟨h.dfr, h.sz, h.ld, h.tmp, ⟨hnd, fun n o hx => h.obj.at_ n o ((hm _).1 hx), fun n o b hx => h.obj.un n o b ((hm _).1 hx), fun n o m o' b hx hy => h.obj.inj n o m o' b ((hm _).1 hx) ((hm _).1 hy)⟩,
    fun n o b hx => h.own n o b ((hm _).1 hx), fun n o hx => h.keep n o ((hm _).1 hx)⟩
theorem getO_of_mem : ∀ {l : List (Nat × Obj')} {n : Nat} {o : Obj'}, (l.map Prod.fst).Nodup → (n, o) ∈ l → getO l n = some o
  | [], n, o, _, h => by simp at h
  | (u, v) :: r, n, o, hnd, h => by
    simp only [List.map_cons, List.nodup_cons] at hnd
    simp only [List.mem_cons] at h
    unfold getO
    rcases h with h | h
    · cases h; simp
    · have : u ≠ n := fun e => hnd.1 (by rw [e]; exact List.mem_map.2 ⟨_, h, rfl⟩)
      rw [nbeq this]
      exact getO_of_mem hnd.2 h
end

theorem sop2_sound {o : Oper} {τ : Nat → PV} {objs : List (Nat × Obj')} {a : Act} {w : World} {S : Nat → Prop} {β : Nat → Option Nat} {K : PV → Prop} {Km : Act → World → Prop} {Q : Exit → Act → World → Prop} (h : Sim w0 S0 K0 N τ objs a w S β) (hs : sop2 objs o.op (ev τ) K)
    (hk : ∀ pv w' S' v, K pv → Leads w S nobody w' S' → Rep w' S' β v pv → Km (a.put o.dst v) w') : o.wp Pg a w Km Q := by
  unfold sop2 at hs
  cases hi : isApp o.op with
  | false => rw [hi] at hs; exact sop_sound h hs hk
  | true =>
    rw [hi] at hs
    obtain ⟨c', hc1, hc2⟩ := isApp_ex hi
    obtain ⟨c, b, x, t, tx, n, bb, z, hop, h1, h2, h3, h4, h5, h6⟩ := app2_ex hs
    rw [hc1] at hop
    cases hop
    exact appnil_sound hc1 hc2 h1 h2 h3 h h4 h5 h6 hk

theorem wpOp_of {ops : List Oper} {Q : Exit → Act → World → Prop} {i : Nat} {o : Oper} {a : Act} {w : World} {Km : Act → World → Prop} (ho : ops[i]? = some o)
    (h : (Region.wanted o (yielded ops.toArray a.tmps) = true ∧ o.wp Pg a w Km Q) ∨ (Region.wanted o (yielded ops.toArray a.tmps) = false ∧ Km (a.put o.dst undef) w)) : wpOp Pg ops.toArray Q i Km a w := by
  unfold wpOp
  have : ops.toArray[i]? = some o := by simpa using ho
  rw [this]
  rcases h with ⟨hw, h⟩ | ⟨hw, h⟩
  · simp only [hw, if_true]; exact .inl h
  · simp only [hw]; exact h

/-- The listed ones, as a predicate. -/
def Lst (L : Array Bool) (j : Nat) : Prop := L.getD j false = true

theorem Lst_set {L : Array Bool} {i : Nat} (hi : i < L.size) (j : Nat) : Lst (L.setIfInBounds i true) j ↔ Lst L j ∨ j = i := by
  unfold Lst
  by_cases e : j = i
  · subst e; simp [hi]
  · rw [getD_set_ne false (Ne.symm e)]; simp [e]

theorem draw2 {ops : List Oper} {k : Nat} (D : DrawOk ops k) {Q : Exit → Act → World → Prop} {K : PS → Prop} (hdst : ∀ o, o ∈ ops → dstOk N o = true) (hk : ∀ ps' a' w' S' β', K ps' → Sim w0 S0 K0 N (lookT ps'.tmps) ps'.objs a' w' S' β' → Q .normal a' w') :
    ∀ (fuel m : Nat) (L : Array Bool) {ps : PS} {a : Act} {w : World} {S : Nat → Prop} {β : Nat → Option Nat}, k ≤ m → m ≤ ops.length → L.size = ops.length → (∀ j, j < ops.length → (Lst L j ↔ j < m)) → ops.length ≤ m + fuel →
    Sim w0 S0 K0 N (lookT ps.tmps) ps.objs a w S β → opsWp ops (ops.drop m) ps K → wpAny Pg .any ops.toArray Q fuel L a w := by
  intro fuel
  induction fuel with
  | zero =>
    intro m L ps a w S β hkm hm hsz hL hf h hs
    have hme : m = ops.length := by omega
    have hr : Region.ready .any ops.toArray L = [] := by
      rw [List.eq_nil_iff_forall_not_mem]
      intro i hi
      obtain ⟨h1, o, h2, _⟩ := mem_ready.1 hi
      have hlt : i < ops.length := by simpa using (Array.getElem?_eq_some_iff.1 h2).1
      have := (hL i hlt).2 (by omega)
      unfold Lst at this
      rw [getD_both (by omega) true false, this] at h1
      cases h1
    refine ⟨hr, ?_⟩
    rw [hme, List.drop_length] at hs
    exact hk _ _ _ _ _ hs h
  | succ fuel ih =>
    intro m L ps a w S β hkm hm hsz hL hf h hs
    have closed : ∀ i o, ops[i]? = some o → Lst L i → Edges (Lst L) o := by
      intro i o ho hi e he hb
      have hlt := (List.getElem?_eq_some_iff.1 ho).1
      have h1 := D.back i o ho e he hb
      have h2 := (hL i hlt).1 hi
      exact (hL e.on (by omega)).2 (by omega)
    refine ⟨fun hr => ?_, fun i hi => ?_⟩
    · by_cases hme : m = ops.length
      · rw [hme, List.drop_length] at hs
        exact hk _ _ _ _ _ hs h
      · exfalso
        have hlt : m < ops.length := by omega
        have hin : m ∈ Region.ready .any ops.toArray L := by
          refine mem_ready.2 ⟨?_, ops[m], by simp [hlt], fun e he hb => ?_⟩
          · rw [getD_both (by omega) true false]
            cases hx : L.getD m false with
            | false => rfl
            | true => have := (hL m hlt).1 hx; omega
          · have h1 := D.back m _ (List.getElem?_eq_getElem hlt) e (by simpa using he) hb
            exact (hL e.on (by omega)).2 h1
        rw [hr] at hin
        cases hin
    · obtain ⟨h1, o, h2, h3⟩ := mem_ready.1 hi
      have ho : ops[i]? = some o := by simpa using h2
      have hlt : i < ops.length := (List.getElem?_eq_some_iff.1 ho).1
      have him : m ≤ i := by
        rcases Nat.lt_or_ge i m with h' | h'
        · have := (hL i hlt).2 h'
          unfold Lst at this
          rw [getD_both (by omega) true false, this] at h1
          cases h1
        · exact h'
      have hie : i = m := by
        rcases Nat.lt_or_ge m i with h' | h'
        · have hb := D.rest i m hlt (by omega) h'
          have := anc_listed closed ho (fun e he hb => h3 e (by simpa using he) hb) hb
          have := (hL m (by omega)).1 this
          omega
        · omega
      subst hie
      have hdrop : ops.drop i = o :: ops.drop (i + 1) := by
        rw [List.drop_eq_getElem_cons hlt]
        congr 1
        have := List.getElem?_eq_getElem hlt
        rw [this] at ho
        exact Option.some.inj ho
      rw [hdrop] at hs
      simp only [opsWp] at hs
      have hL2 : ∀ j, j < ops.length → (Lst (L.setIfInBounds i true) j ↔ j < i + 1) := by
        intro j hj
        rw [Lst_set (by omega), hL j hj]
        omega
      have hdo := dstOk_lt (hdst o (List.mem_of_getElem? ho))
      refine wpOp_of ho ?_
      rcases guardK_sound h.tmp hs with ⟨hw, hA⟩ | ⟨hw, hB⟩
      · exact .inl ⟨hw, opWp_sound h hA hdo fun ps' a' w' S' β' hK hsim => by
          obtain ⟨ps'', hK', hsim'⟩ := normG_sound hsim hK
          exact ih (i + 1) _ (by omega) (by omega) (by simpa using hsz) hL2 (by omega) hsim' hK'⟩
      · exact .inr ⟨hw, ih (i + 1) _ (by omega) (by omega) (by simpa using hsz) hL2 (by omega) (sim_putPS h o.dst hdo (rep_und _ _ _)) hB⟩

theorem draw1 {ops : List Oper} {k : Nat} (D : DrawOk ops k) {Q : Exit → Act → World → Prop} {K : PS → Prop} (hdst : ∀ o, o ∈ ops → dstOk N o = true) (hk : ∀ ps' a' w' S' β', K ps' → Sim w0 S0 K0 N (lookT ps'.tmps) ps'.objs a' w' S' β' → Q .normal a' w')
    {ps ps2 : PS} {pvs : List PV} {ms : List (Nat × Obj')} (hkl : k ≤ ops.length) (hlen : pvs.length = (ops.take k).length) (hK : opsWp ops (ops.drop k) ⟨ps2.tmps, ps.objs ++ ms⟩ K) (hms : ∀ x, x ∈ ms ↔ ∃ i o, i < k ∧ ops[i]? = some o ∧ mkrOf o = some x) (hndm : ((ps.objs ++ ms).map Prod.fst).Nodup)
    (hfr : ∀ n x, (n, x) ∈ ms → n < 1000000 ∧ (∀ t, refFree n (lookT ps.tmps t) = true) ∧ (∀ m o, (m, o) ∈ ps.objs → m ≠ n ∧ boxFree n o) ∧ (∀ t, t ≠ n → refFree n (lookT ps2.tmps t) = true)) (ht2 : lookT ps2.tmps = upds (ops.take k) pvs (lookT ps.tmps))
    (hst : ∀ i o pv, (ops.take k)[i]? = some o → pvs[i]? = some pv → step1m ps.objs ops o (upds ((ops.take k).take i) (pvs.take i) (lookT ps.tmps)) pv) :
    ∀ (fuel : Nat) (L : Array Bool) {a : Act} {w : World} {S : Nat → Prop} {β : Nat → Option Nat} {τ : Nat → PV} {objs' : List (Nat × Obj')}, L.size = ops.length → (∀ j, j < ops.length → k ≤ j → ¬ Lst L j) → (∀ i o, ops[i]? = some o → Lst L i → Edges (Lst L) o) → unl L ops.length ≤ fuel →
    Sim w0 S0 K0 N τ objs' a w S β → (∀ x, x ∈ objs' ↔ x ∈ ps.objs ∨ ∃ i o, i < k ∧ Lst L i ∧ ops[i]? = some o ∧ mkrOf o = some x) → At ops k pvs (lookT ps.tmps) (Lst L) τ → wpAny Pg .any ops.toArray Q fuel L a w := by
  have hpl : k ≤ pvs.length := by rw [hlen]; simp; omega
  intro fuel
  induction fuel with
  | zero =>
    intro L a w S β τ objs' hsz hge hcl hun h hin hat
    have hall := unl_zero (Nat.le_zero.1 hun)
    have hkn : ops.length ≤ k := by
      rcases Nat.lt_or_ge k ops.length with h' | h'
      · have h1 := hall k h'
        rw [getD_both (by omega) true false] at h1
        exact absurd h1 (hge k h' (Nat.le_refl _))
      · exact h'
    have hk' : k = ops.length := by omega
    refine draw2 D hdst hk 0 k L (ps := ⟨ps2.tmps, ps.objs ++ ms⟩) (S := S) (β := β) (Nat.le_refl _) hkl hsz (fun j hj => ⟨fun _ => by omega, fun _ => ?_⟩) (by omega) ?_ hK
    · have h1 := hall j hj
      rw [getD_both (by omega) true false] at h1
      exact h1
    · have : τ = lookT ps2.tmps := by
        funext t
        rw [ht2]
        have htx := At.text (τ0 := lookT ps.tmps) D hlen k (Nat.le_refl _)
        have e1 : (ops.take k).take k = ops.take k := by rw [List.take_take, Nat.min_self]
        have e2 : pvs.take k = pvs := List.take_of_length_le (by rw [hlen]; simp; omega)
        rw [e1, e2] at htx
        exact hat.same D hpl htx fun j o hj ho hd => .inl ⟨by have h1 := hall j (by omega); rw [getD_both (by omega) true false] at h1; exact h1, hj⟩
      show Sim w0 S0 K0 N (lookT ps2.tmps) (ps.objs ++ ms) a w S β
      rw [← this]
      refine h.perm (fun x => ?_) hndm
      rw [List.mem_append, hms x, hin x]
      refine or_congr Iff.rfl ⟨fun ⟨i, o, q1, q2, q3⟩ => ⟨i, o, q1, by have h1 := hall i (by omega); rw [getD_both (by omega) true false] at h1; exact h1, q2, q3⟩, fun ⟨i, o, q1, _, q2, q3⟩ => ⟨i, o, q1, q2, q3⟩⟩
  | succ fuel ih =>
    intro L a w S β τ objs' hsz hge hcl hun h hin hat
    by_cases hfull : ∀ j, j < k → Lst L j
    · refine draw2 D hdst hk (fuel + 1) k L (ps := ⟨ps2.tmps, ps.objs ++ ms⟩) (S := S) (β := β) (Nat.le_refl _) hkl hsz (fun j hj => ⟨fun hl => ?_, fun hj' => hfull j hj'⟩) ?_ ?_ hK
      · rcases Nat.lt_or_ge j k with h' | h'
        · exact h'
        · exact absurd hl (hge j hj h')
      · have cnt : ∀ n, k ≤ n → n ≤ ops.length → n ≤ k + unl L n := by
          intro n
          induction n with
          | zero => intro _ _; omega
          | succ n ihn =>
            intro hkn hn
            simp only [unl]
            by_cases hk0 : k = n + 1
            · omega
            · have := ihn (by omega) (by omega)
              have hnl := hge n (by omega) (by omega)
              have : L.getD n true ≠ true := by
                rw [getD_both (by omega) true false]; exact hnl
              rw [if_neg this]
              omega
        have := cnt ops.length hkl (Nat.le_refl _)
        omega
      · have : τ = lookT ps2.tmps := by
          funext t
          rw [ht2]
          have htx := At.text (τ0 := lookT ps.tmps) D hlen k (Nat.le_refl _)
          have e1 : (ops.take k).take k = ops.take k := by rw [List.take_take, Nat.min_self]
          have e2 : pvs.take k = pvs := List.take_of_length_le (by rw [hlen]; simp; omega)
          rw [e1, e2] at htx
          exact hat.same D hpl htx fun j o hj ho hd => .inl ⟨hfull j hj, hj⟩
        show Sim w0 S0 K0 N (lookT ps2.tmps) (ps.objs ++ ms) a w S β
        rw [← this]
        refine h.perm (fun x => ?_) hndm
        rw [List.mem_append, hms x, hin x]
        exact or_congr Iff.rfl ⟨fun ⟨i, o, q1, q2, q3⟩ => ⟨i, o, q1, hfull i q1, q2, q3⟩, fun ⟨i, o, q1, _, q2, q3⟩ => ⟨i, o, q1, q2, q3⟩⟩
    · have hun0 : ∃ j, j < k ∧ ¬ Lst L j ∧ ∀ i, i < j → Lst L i := by
        have : ∀ n, n ≤ k → (∀ i, i < n → Lst L i) ∨ ∃ j, j < k ∧ ¬ Lst L j ∧ ∀ i, i < j → Lst L i := by
          intro n
          induction n with
          | zero => intro _; exact .inl fun i h => by omega
          | succ n ihn =>
            intro hn
            rcases ihn (by omega) with h1 | h1
            · by_cases hx : Lst L n
              · refine .inl fun i hi => ?_
                by_cases e : i = n
                · exact e ▸ hx
                · exact h1 i (by omega)
              · exact .inr ⟨n, by omega, hx, h1⟩
            · exact .inr h1
        rcases this k (Nat.le_refl _) with h1 | h1
        · exact absurd h1 hfull
        · exact h1
      obtain ⟨j0, hj0, hnj0, hbelow⟩ := hun0
      refine ⟨fun hr => ?_, fun i hi => ?_⟩
      · exfalso
        have hlt : j0 < ops.length := by omega
        have hin : j0 ∈ Region.ready .any ops.toArray L := by
          refine mem_ready.2 ⟨?_, ops[j0], by simp [hlt], fun e he hb => ?_⟩
          · rw [getD_both (by omega) true false]
            cases hx : L.getD j0 false with
            | false => rfl
            | true => exact absurd hx hnj0
          · exact hbelow e.on (D.back j0 _ (List.getElem?_eq_getElem hlt) e (by simpa using he) hb)
        rw [hr] at hin
        cases hin
      · obtain ⟨h1, o, h2, h3⟩ := mem_ready.1 hi
        have ho : ops[i]? = some o := by simpa using h2
        have hlt : i < ops.length := (List.getElem?_eq_some_iff.1 ho).1
        have hE : Edges (Lst L) o := fun e he hb => h3 e (by simpa using he) hb
        have hik : i < k := by
          rcases Nat.lt_or_ge i k with h' | h'
          · exact h'
          · exact absurd (anc_listed hcl ho hE (D.rest i j0 hlt h' (by omega))) hnj0
        have hp : pvs[i]? = some pvs[i] := List.getElem?_eq_getElem (by omega)
        have hs0 := hst i o pvs[i] (by rw [List.getElem?_take_of_lt hik]; exact ho) hp
        have hdo := dstOk_lt (hdst o (List.mem_of_getElem? ho))
        have hsize : i < L.size := by omega
        have hnl : ¬ Lst L i := fun hl => by rw [getD_both (by omega) true false] at h1; unfold Lst at hl; rw [h1] at hl; exact absurd hl (by decide)
        have hnext0 : ∀ {a' : Act} {w' : World} {S' : Nat → Prop} {β' : Nat → Option Nat} {objs2 : List (Nat × Obj')}, Sim w0 S0 K0 N (upd τ o.dst pvs[i]) objs2 a' w' S' β' → (∀ x, x ∈ objs2 ↔ x ∈ objs' ∨ mkrOf o = some x) → wpAny Pg .any ops.toArray Q fuel (L.setIfInBounds i true) a' w' := by
          intro a' w' S' β' objs2 hsim hin2
          refine ih (L.setIfInBounds i true) (by simpa using hsz) (fun j hj hkj hl => ?_) (fun j oj hoj hl => ?_) ?_ hsim (fun x => ?_) (hat.step D hik ho hp fun j => Lst_set hsize j)
          · rcases (Lst_set hsize j).1 hl with hl | hl
            · exact hge j hj hkj hl
            · omega
          · intro e he hb
            rw [Lst_set hsize]
            rcases (Lst_set hsize j).1 hl with hl | hl
            · exact .inl (hcl j oj hoj hl e he hb)
            · subst hl
              rw [ho] at hoj
              cases hoj
              exact .inl (hE e he hb)
          · have := unl_set h1 hlt
            omega
          · rw [hin2 x, hin x]
            constructor
            · rintro ((q | ⟨j, oj, q1, q2, q3, q4⟩) | q)
              · exact .inl q
              · exact .inr ⟨j, oj, q1, (Lst_set hsize j).2 (.inl q2), q3, q4⟩
              · exact .inr ⟨i, o, hik, (Lst_set hsize i).2 (.inr rfl), ho, q⟩
            · rintro (q | ⟨j, oj, q1, q2, q3, q4⟩)
              · exact .inl (.inl q)
              · rcases (Lst_set hsize j).1 q2 with q2 | q2
                · exact .inl (.inr ⟨j, oj, q1, q2, q3, q4⟩)
                · subst q2
                  rw [ho] at q3
                  cases q3
                  exact .inr q4
        cases hmk : mkrOf o with
        | some dx =>
          obtain ⟨d, x⟩ := dx
          obtain ⟨hgn, hod, t0, hop0, hno0, hx0⟩ := mkrOf_spec hmk
          unfold step1m at hs0
          rw [hmk] at hs0
          have hinms : (d, x) ∈ ms := (hms _).2 ⟨i, o, hik, ho, hmk⟩
          obtain ⟨f1, f2, f3, f4⟩ := hfr d x hinms
          have htx : At ops k pvs (lookT ps.tmps) (fun j => j < k) (lookT ps2.tmps) := by
            have htx := At.text (τ0 := lookT ps.tmps) D hlen k (Nat.le_refl _)
            have e1 : (ops.take k).take k = ops.take k := by rw [List.take_take, Nat.min_self]
            have e2 : pvs.take k = pvs := List.take_of_length_le (by rw [hlen]; simp; omega)
            rw [e1, e2, ← ht2] at htx
            exact htx
          have uniq : ∀ j oj, j < k → ops[j]? = some oj → oj.dst = some d → j = i := fun j oj hj hoj hd' =>
            dstsOk_ne D.dst (by rw [List.getElem?_take_of_lt hj]; exact hoj) (by rw [List.getElem?_take_of_lt hik]; exact ho) hd' hod
          refine wpOp_of ho (.inl ⟨by simp [Region.wanted, hgn], mk_wp hmk (hdst o (List.mem_of_getElem? ho)) h f1 (fun t => ?_) (fun {m y} hmy => ?_) fun a' w' β' hsim => ?_⟩)
          · by_cases hw : ∃ j oj, j < k ∧ Lst L j ∧ ops[j]? = some oj ∧ oj.dst = some t
            · obtain ⟨j, oj, q1, q2, q3, q4⟩ := hw
              have hpj : pvs[j]? = some pvs[j] := List.getElem?_eq_getElem (by omega)
              rw [hat.hit j oj t _ q1 q2 q3 hpj q4, ← htx.hit j oj t _ q1 q1 q3 hpj q4]
              refine f4 t fun e => ?_
              subst e
              exact hnl (uniq j oj q1 q3 q4 ▸ q2)
            · rw [hat.miss t fun j oj q1 q2 q3 q4 => hw ⟨j, oj, q1, q2, q3, q4⟩]
              exact f2 t
          · rcases (hin _).1 hmy with q | ⟨j, oj, q1, q2, q3, q4⟩
            · exact f3 m y q
            · obtain ⟨_, hodj, t1, _, hno1, hy1⟩ := mkrOf_spec q4
              refine ⟨fun e => ?_, ?_⟩
              · subst e
                exact hnl (uniq j oj q1 q3 hodj ▸ q2)
              · rw [hy1]; exact zero_free hno1
          · rw [← hs0] at hsim
            refine hnext0 hsim fun y => ?_
            rw [List.mem_append, List.mem_singleton, hmk, Option.some.injEq]
            exact or_congr Iff.rfl eq_comm
        | none =>
        have hs1 : step1 ps.objs ops o (upds ((ops.take k).take i) (pvs.take i) (lookT ps.tmps)) pvs[i] := by unfold step1m at hs0; rw [hmk] at hs0; exact hs0
        have hgo : ∀ n o, getO ps.objs n = some o → getO objs' n = some o := fun n o hg => getO_of_mem h.obj.nd ((hin _).2 (.inl (getO_mem hg)))
        have hs2 : step1 ps.objs ops o τ pvs[i] := step1_congr (fun t ht => At.same D hpl (At.text D hlen i (by omega)) hat fun j oj hj hoj hd => by
          rcases D.look i o t j oj hik hj ho hoj ht hd with ⟨q1, q2⟩ | ⟨q1, q2⟩
          · exact .inl ⟨q1, anc_listed hcl ho hE q2⟩
          · refine .inr ⟨by omega, fun hl => ?_⟩
            have := anc_listed hcl hoj (hcl j oj hoj hl) q2
            rw [getD_both (by omega) true false] at h1
            exact absurd this (by unfold Lst; rw [h1]; decide)) hs1
        have hnext : ∀ {a' : Act} {w' : World} {S' : Nat → Prop}, Sim w0 S0 K0 N (upd τ o.dst pvs[i]) objs' a' w' S' β → wpAny Pg .any ops.toArray Q fuel (L.setIfInBounds i true) a' w' := fun hsim =>
          hnext0 hsim fun x => ⟨.inl, fun q => q.resolve_right (by rw [hmk]; simp)⟩
        refine wpOp_of ho ?_
        rcases guardK_sound h.tmp hs2 with ⟨hw, hA⟩ | ⟨hw, hB⟩
        · refine .inl ⟨hw, sop2_sound h (sop2_objs hgo hA) fun pv w' S' v hpv l hr => ?_⟩
          exact hnext ((h.go l).put o.dst hdo (hr.le _ hpv))
        · refine .inr ⟨hw, hnext (h.put o.dst hdo ?_)⟩
          rw [hB]
          exact rep_und _ _ _

/-! ### One store in the drawn part -/

theorem store_ex {o : Oper} {ts : TypeId} {ad v : Operand} {T : List (Nat × PV)} {objs : List (Nat × Obj')} {K : PS → Prop} (hop : o.op = .store ts ad v) (hd : o.dst = none) (h : opWp o ⟨T, objs⟩ K) :
    ∃ objs2, K ⟨T, objs2⟩ ∧ ∀ T', (∀ x, x ∈ o.op.operands.toList → ev (lookT T') x = ev (lookT T) x) → opWp o ⟨T', objs⟩ (fun p => p = ⟨T', objs2⟩) := by
  have hev : ∀ {T'}, (∀ x, x ∈ o.op.operands.toList → ev (lookT T') x = ev (lookT T) x) → ev (lookT T') ad = ev (lookT T) ad ∧ ev (lookT T') v = ev (lookT T) v := fun hx =>
    ⟨hx ad (by simp [hop, Op.operands]), hx v (by simp [hop, Op.operands])⟩
  unfold opWp at h
  simp only [hop, hd, put] at h
  generalize hea : ev (lookT T) ad = ea at *
  generalize hvv : ev (lookT T) v = vv at *
  cases ea with
  | ptr n off =>
    simp only at h
    cases hg : getO objs n with
    | none => simp only [hg] at h
    | some x =>
      cases x with
      | arr s els => simp only [hg] at h
      | box cs =>
        simp only [hg] at h
        split at h
        · rename_i hc
          refine ⟨_, h, fun T' hx => ?_⟩
          obtain ⟨e1, e2⟩ := hev hx
          unfold opWp
          simp only [hop, hd, put, e1, e2, hg, hc]
        · exact h.elim
  | aptr n s i off =>
    simp only at h
    cases hg : getO objs n with
    | none => simp only [hg] at h
    | some x =>
      cases x with
      | box cs => simp only [hg] at h
      | arr s' els =>
        simp only [hg] at h
        split at h
        · rename_i hc
          obtain ⟨c, g1, g2, g3, g4⟩ := h.h
          refine ⟨_, g4, fun T' hx => ?_⟩
          obtain ⟨e1, e2⟩ := hev hx
          unfold opWp
          simp only [hop, hd, put, e1, e2, hg, hc]
          exact ⟨⟨c, g1, g2, g3, rfl⟩⟩
        · exact h.elim
  | _ => simp only at h

theorem step1_blind {objs objs' : List (Nat × Obj')} {all : List Oper} {o : Oper} {τ : Nat → PV} {pv : PV} (hb : blind o = true) (h : step1 objs all o τ pv) : step1 objs' all o τ pv :=
  guardK_mono (fun h => sop2_blind hb h) id h
theorem upds_app : ∀ {l1 l2 : List Oper} {v1 v2 : List PV} {τ : Nat → PV}, v1.length = l1.length → upds (l1 ++ l2) (v1 ++ v2) τ = upds l2 v2 (upds l1 v1 τ)
  | [], l2, [], v2, τ, _ => rfl
  | o :: r, l2, v :: vs, v2, τ, h => by
    simp only [List.cons_append, upds]
    exact upds_app (by simpa using h)
  | [], l2, v :: vs, v2, τ, h => by simp at h
  | o :: r, l2, [], v2, τ, h => by simp at h

theorem draw1s {ops : List Oper} {k : Nat} (D : DrawOk ops k) {Q : Exit → Act → World → Prop} {K : PS → Prop} (hdst : ∀ o, o ∈ ops → dstOk N o = true) (hk : ∀ ps' a' w' S' β', K ps' → Sim w0 S0 K0 N (lookT ps'.tmps) ps'.objs a' w' S' β' → Q .normal a' w')
    {T0 : List (Nat × PV)} {objs1 objs2 : List (Nat × Obj')} {ps2 : PS} {pvs : List PV} {i0 : Nat} {os : Oper} (hi0 : i0 < k) (hos : ops[i0]? = some os) (hg : os.guard = none) (hnd : os.dst = none) (hkl : k ≤ ops.length) (hlen : pvs.length = (ops.take k).length)
    (hK : opsWp ops (ops.drop k) ⟨ps2.tmps, objs2⟩ K) (ht2 : lookT ps2.tmps = upds (ops.take k) pvs (lookT T0))
    (hst : ∀ i o pv, i < k → i ≠ i0 → ops[i]? = some o → pvs[i]? = some pv → (step1 objs1 ops o (upds ((ops.take k).take i) (pvs.take i) (lookT T0)) pv ∨ ((anc ops).getD i 0).testBit i0 = true) ∧
      (step1 objs2 ops o (upds ((ops.take k).take i) (pvs.take i) (lookT T0)) pv ∨ ((anc ops).getD i0 0).testBit i = true))
    (hsto : ∀ T, (∀ t, t ∈ looks ops os → lookT T t = upds ((ops.take k).take i0) (pvs.take i0) (lookT T0) t) → opWp os ⟨T, objs1⟩ (fun p => p = ⟨T, objs2⟩)) :
    ∀ (fuel : Nat) (L : Array Bool) {a : Act} {w : World} {S : Nat → Prop} {β : Nat → Option Nat} {T : List (Nat × PV)} {objs' : List (Nat × Obj')}, L.size = ops.length → (∀ j, j < ops.length → k ≤ j → ¬ Lst L j) → (∀ i o, ops[i]? = some o → Lst L i → Edges (Lst L) o) → unl L ops.length ≤ fuel →
    Sim w0 S0 K0 N (lookT T) objs' a w S β → (Lst L i0 → objs' = objs2) → (¬ Lst L i0 → objs' = objs1) → At ops k pvs (lookT T0) (Lst L) (lookT T) → wpAny Pg .any ops.toArray Q fuel L a w := by
  have hpl : k ≤ pvs.length := by rw [hlen]; simp; omega
  have hend : ∀ {T : List (Nat × PV)} {L : Array Bool}, (∀ j, j < k → Lst L j) → At ops k pvs (lookT T0) (Lst L) (lookT T) → lookT T = lookT ps2.tmps := by
    intro T L hfull hat
    funext t
    rw [ht2]
    have htx := At.text (τ0 := lookT T0) D hlen k (Nat.le_refl _)
    have e1 : (ops.take k).take k = ops.take k := by rw [List.take_take, Nat.min_self]
    have e2 : pvs.take k = pvs := List.take_of_length_le (by rw [hlen]; simp; omega)
    rw [e1, e2] at htx
    exact hat.same D hpl htx fun j o hj ho hd => .inl ⟨hfull j hj, hj⟩
  intro fuel
  induction fuel with
  | zero =>
    intro L a w S β T objs' hsz hge hcl hun h hob1 hob2 hat
    have hall := unl_zero (Nat.le_zero.1 hun)
    have hall' : ∀ j, j < ops.length → Lst L j := fun j hj => by
      have h1 := hall j hj
      rw [getD_both (by omega) true false] at h1
      exact h1
    have hkn : ops.length ≤ k := by
      rcases Nat.lt_or_ge k ops.length with h' | h'
      · exact absurd (hall' k h') (hge k h' (Nat.le_refl _))
      · exact h'
    have hk' : k = ops.length := by omega
    refine draw2 D hdst hk 0 k L (ps := ⟨ps2.tmps, objs2⟩) (S := S) (β := β) (Nat.le_refl _) hkl hsz (fun j hj => ⟨fun _ => by omega, fun _ => hall' j hj⟩) (by omega) ?_ hK
    show Sim w0 S0 K0 N (lookT ps2.tmps) objs2 a w S β
    rw [← hend (fun j hj => hall' j (by omega)) hat, ← hob1 (hall' i0 (by omega))]
    exact h
  | succ fuel ih =>
    intro L a w S β T objs' hsz hge hcl hun h hob1 hob2 hat
    by_cases hfull : ∀ j, j < k → Lst L j
    · refine draw2 D hdst hk (fuel + 1) k L (ps := ⟨ps2.tmps, objs2⟩) (S := S) (β := β) (Nat.le_refl _) hkl hsz (fun j hj => ⟨fun hl => ?_, fun hj' => hfull j hj'⟩) ?_ ?_ hK
      · rcases Nat.lt_or_ge j k with h' | h'
        · exact h'
        · exact absurd hl (hge j hj h')
      · have cnt : ∀ n, k ≤ n → n ≤ ops.length → n ≤ k + unl L n := by
          intro n
          induction n with
          | zero => intro _ _; omega
          | succ n ihn =>
            intro hkn hn
            simp only [unl]
            by_cases hk0 : k = n + 1
            · omega
            · have := ihn (by omega) (by omega)
              have hnl := hge n (by omega) (by omega)
              have : L.getD n true ≠ true := by
                rw [getD_both (by omega) true false]; exact hnl
              rw [if_neg this]
              omega
        have := cnt ops.length hkl (Nat.le_refl _)
        omega
      · show Sim w0 S0 K0 N (lookT ps2.tmps) objs2 a w S β
        rw [← hend hfull hat, ← hob1 (hfull i0 hi0)]
        exact h
    · have hun0 : ∃ j, j < k ∧ ¬ Lst L j ∧ ∀ i, i < j → Lst L i := by
        have : ∀ n, n ≤ k → (∀ i, i < n → Lst L i) ∨ ∃ j, j < k ∧ ¬ Lst L j ∧ ∀ i, i < j → Lst L i := by
          intro n
          induction n with
          | zero => intro _; exact .inl fun i h => by omega
          | succ n ihn =>
            intro hn
            rcases ihn (by omega) with h1 | h1
            · by_cases hx : Lst L n
              · refine .inl fun i hi => ?_
                by_cases e : i = n
                · exact e ▸ hx
                · exact h1 i (by omega)
              · exact .inr ⟨n, by omega, hx, h1⟩
            · exact .inr h1
        rcases this k (Nat.le_refl _) with h1 | h1
        · exact absurd h1 hfull
        · exact h1
      obtain ⟨j0, hj0, hnj0, hbelow⟩ := hun0
      refine ⟨fun hr => ?_, fun i hi => ?_⟩
      · exfalso
        have hlt : j0 < ops.length := by omega
        have hin : j0 ∈ Region.ready .any ops.toArray L := by
          refine mem_ready.2 ⟨?_, ops[j0], by simp [hlt], fun e he hb => ?_⟩
          · rw [getD_both (by omega) true false]
            cases hx : L.getD j0 false with
            | false => rfl
            | true => exact absurd hx hnj0
          · exact hbelow e.on (D.back j0 _ (List.getElem?_eq_getElem hlt) e (by simpa using he) hb)
        rw [hr] at hin
        cases hin
      · obtain ⟨h1, o, h2, h3⟩ := mem_ready.1 hi
        have ho : ops[i]? = some o := by simpa using h2
        have hlt : i < ops.length := (List.getElem?_eq_some_iff.1 ho).1
        have hE : Edges (Lst L) o := fun e he hb => h3 e (by simpa using he) hb
        have hik : i < k := by
          rcases Nat.lt_or_ge i k with h' | h'
          · exact h'
          · exact absurd (anc_listed hcl ho hE (D.rest i j0 hlt h' (by omega))) hnj0
        have hp : pvs[i]? = some pvs[i] := List.getElem?_eq_getElem (by omega)
        have hdo := dstOk_lt (hdst o (List.mem_of_getElem? ho))
        have hsize : i < L.size := by omega
        have hnl : ¬ Lst L i := fun hl => by rw [getD_both (by omega) true false] at h1; unfold Lst at hl; rw [h1] at hl; exact absurd hl (by decide)
        have hagree : ∀ t, t ∈ looks ops o → upds ((ops.take k).take i) (pvs.take i) (lookT T0) t = lookT T t := fun t ht => At.same D hpl (At.text D hlen i (by omega)) hat fun j oj hj hoj hd => by
          rcases D.look i o t j oj hik hj ho hoj ht hd with ⟨q1, q2⟩ | ⟨q1, q2⟩
          · exact .inl ⟨q1, anc_listed hcl ho hE q2⟩
          · refine .inr ⟨by omega, fun hl => ?_⟩
            have := anc_listed hcl hoj (hcl j oj hoj hl) q2
            rw [getD_both (by omega) true false] at h1
            exact absurd this (by unfold Lst; rw [h1]; decide)
        have hnext : ∀ {a' : Act} {w' : World} {S' : Nat → Prop} {β' : Nat → Option Nat} {T' : List (Nat × PV)} {objs3 : List (Nat × Obj')}, lookT T' = upd (lookT T) o.dst pvs[i] → Sim w0 S0 K0 N (lookT T') objs3 a' w' S' β' → (Lst (L.setIfInBounds i true) i0 → objs3 = objs2) → (¬ Lst (L.setIfInBounds i true) i0 → objs3 = objs1) → wpAny Pg .any ops.toArray Q fuel (L.setIfInBounds i true) a' w' := by
          intro a' w' S' β' T' objs3 hT hsim g1 g2
          refine ih (L.setIfInBounds i true) (by simpa using hsz) (fun j hj hkj hl => ?_) (fun j oj hoj hl => ?_) ?_ hsim g1 g2 (by rw [hT]; exact hat.step D hik ho hp fun j => Lst_set hsize j)
          · rcases (Lst_set hsize j).1 hl with hl | hl
            · exact hge j hj hkj hl
            · omega
          · intro e he hb
            rw [Lst_set hsize]
            rcases (Lst_set hsize j).1 hl with hl | hl
            · exact .inl (hcl j oj hoj hl e he hb)
            · subst hl
              rw [ho] at hoj
              cases hoj
              exact .inl (hE e he hb)
          · have := unl_set h1 hlt
            omega
        by_cases hie : i = i0
        · subst hie
          rw [ho] at hos
          cases hos
          have hob : objs' = objs1 := hob2 hnl
          subst hob
          have hs0 := hsto T fun t ht => (hagree t ht).symm
          refine wpOp_of ho (.inl ⟨by simp [Region.wanted, hg], opWp_sound (ps := ⟨T, objs'⟩) h hs0 hdo fun ps' a' w' S' β' hK hsim => ?_⟩)
          subst hK
          exact hnext (by rw [hnd]; rfl) hsim (fun _ => rfl) (fun hn => absurd ((Lst_set hsize i).2 (.inr rfl)) hn)
        · obtain ⟨hA1, hA2⟩ := hst i o _ hik hie ho hp
          have hsame : (Lst (L.setIfInBounds i true) i0 ↔ Lst L i0) := by rw [Lst_set hsize]; exact ⟨fun q => q.resolve_right fun e => hie e.symm, .inl⟩
          have hs1 : step1 objs' ops o (upds ((ops.take k).take i) (pvs.take i) (lookT T0)) pvs[i] := by
            by_cases hl0 : Lst L i0
            · rw [hob1 hl0]
              rcases hA2 with q | q
              · exact q
              · exact absurd (anc_listed hcl hos (hcl i0 os hos hl0) q) hnl
            · rw [hob2 hl0]
              rcases hA1 with q | q
              · exact q
              · exact absurd (anc_listed hcl ho hE q) hl0
          have hs2 : step1 objs' ops o (lookT T) pvs[i] := step1_congr hagree hs1
          refine wpOp_of ho ?_
          rcases guardK_sound h.tmp hs2 with ⟨hw, hA⟩ | ⟨hw, hB⟩
          · refine .inl ⟨hw, sop2_sound h hA fun pv w' S' v hpv l hr => ?_⟩
            refine hnext (S' := S') (β' := β) (T' := (put ⟨T, []⟩ o.dst pvs[i]).tmps) (look_puts _ _ _) ?_ (fun q => hob1 (hsame.1 q)) (fun q => hob2 fun q' => q (hsame.2 q'))
            rw [look_puts]
            exact (h.go l).put o.dst hdo (hr.le _ hpv)
          · refine .inr ⟨hw, hnext (S' := S) (β' := β) (T' := (put ⟨T, []⟩ o.dst pvs[i]).tmps) (look_puts _ _ _) ?_ (fun q => hob1 (hsame.1 q)) (fun q => hob2 fun q' => q (hsame.2 q'))⟩
            rw [look_puts]
            refine h.put o.dst hdo ?_
            rw [hB]
            exact rep_und _ _ _

theorem makersOf_mem' : ∀ {l : List Oper} {x : Nat × Obj'}, x ∈ makersOf l ↔ ∃ (i : Nat) (o : Oper), l[i]? = some o ∧ mkrOf o = some x
  | [], x => by simp [makersOf]
  | o :: r, x => by
    have ih := @makersOf_mem' r x
    unfold makersOf
    constructor
    · intro h
      split at h
      · rename_i y hy
        rcases List.mem_cons.1 h with h | h
        · exact ⟨0, o, rfl, by rw [h]; exact hy⟩
        · obtain ⟨i, o', q1, q2⟩ := ih.1 h
          exact ⟨i + 1, o', by simpa using q1, q2⟩
      · obtain ⟨i, o', q1, q2⟩ := ih.1 h
        exact ⟨i + 1, o', by simpa using q1, q2⟩
    · rintro ⟨i, o', q1, q2⟩
      cases i with
      | zero =>
        simp only [List.getElem?_cons_zero, Option.some.injEq] at q1
        subst q1
        rw [q2]
        exact List.mem_cons_self
      | succ i =>
        have := ih.2 ⟨i, o', by simpa using q1, q2⟩
        split
        · exact List.mem_cons_of_mem _ this
        · exact this
theorem makersOf_mem {ops : List Oper} {k : Nat} {x : Nat × Obj'} : x ∈ makersOf (ops.take k) ↔ ∃ i o, i < k ∧ ops[i]? = some o ∧ mkrOf o = some x := by
  rw [makersOf_mem']
  constructor
  · rintro ⟨i, o, q1, q2⟩
    have hlt : i < k := by have := (List.getElem?_eq_some_iff.1 q1).1; simp at this; omega
    exact ⟨i, o, hlt, by rwa [List.getElem?_take_of_lt hlt] at q1, q2⟩
  · rintro ⟨i, o, q0, q1, q2⟩
    exact ⟨i, o, by rw [List.getElem?_take_of_lt q0]; exact q1, q2⟩
theorem mkIn_mem {ps : PS} : ∀ {l : List (Nat × Obj')} {n : Nat} {o : Obj'}, mkIn ps l = true → (n, o) ∈ l → freeOf n ps = true
  | [], n, o, _, h => by simp at h
  | (m, x) :: r, n, o, hm, h => by
    simp only [mkIn, Bool.and_eq_true] at hm
    rcases List.mem_cons.1 h with h | h
    · cases h; exact hm.1
    · exact mkIn_mem hm.2 h
theorem mkFin_mem {T : List (Nat × PV)} : ∀ {l : List (Nat × Obj')} {n : Nat} {o : Obj'}, mkFin T l = true → (n, o) ∈ l → mfT n T = true
  | [], n, o, _, h => by simp at h
  | (m, x) :: r, n, o, hm, h => by
    simp only [mkFin, Bool.and_eq_true] at hm
    rcases List.mem_cons.1 h with h | h
    · cases h; exact hm.1
    · exact mkFin_mem hm.2 h
theorem mfT_look {n t : Nat} (ht : t ≠ n) : ∀ {T : List (Nat × PV)}, mfT n T = true → refFree n (lookT T t) = true
  | [], _ => rfl
  | (u, v) :: r, h => by
    simp only [mfT, Bool.and_eq_true] at h
    unfold lookT
    cases hu : nqb u t with
    | true =>
      have := nqb_eq hu
      subst this
      have hne : (u == n) = false := by simpa using ht
      rw [hne] at h
      exact h.1
    | false => exact mfT_look ht h.2
theorem draw_sound {ops : List Oper} {ps : PS} {K : PS → Prop} (hs : DrawK ops ps K) {Q : Exit → Act → World → Prop} (hdst : ∀ o, o ∈ ops → dstOk N o = true) (hk : ∀ ps' a' w' S' β', K ps' → Sim w0 S0 K0 N (lookT ps'.tmps) ps'.objs a' w' S' β' → Q .normal a' w')
    {a : Act} {w : World} {S : Nat → Prop} {β : Nat → Option Nat} (h : Sim w0 S0 K0 N (lookT ps.tmps) ps.objs a w S β) : wpAny Pg .any ops.toArray Q ops.length (Array.replicate ops.length false) a w.drew := by
  have hnone : ∀ j, ¬ Lst (Array.replicate ops.length false) j := by
    intro j hj
    unfold Lst at hj
    rcases Nat.lt_or_ge j ops.length with h' | h'
    · simp [h'] at hj
    · simp [Array.getElem?_eq_none, h'] at hj
  have hunl : ∀ n, unl (Array.replicate ops.length false) n ≤ n := by
    intro n
    induction n with
    | zero => exact Nat.le_refl _
    | succ n ih => simp only [unl]; split <;> omega
  rcases hs.h with ⟨k, ps', hw, hd, hs⟩ | ⟨k, ps', hw, hd, hm, hs⟩ | ⟨k, i0, ps', hw, hd, hm, hs⟩
  · obtain ⟨S1, β1, h1⟩ := hw.sound h
    have D := drawOk_spec hd
    have hkl : k ≤ ops.length := by
      rcases Nat.lt_or_ge ops.length k with h' | h'
      · obtain ⟨o, ho⟩ := D.full ops.length h'
        simp at ho
      · exact h'
    obtain ⟨pvs, ps2, g1, g2, g3, g4, g5⟩ := sops_run _ hs
    have hno : ∀ i o, i < k → ops[i]? = some o → mkrOf o = none := by
      intro i o hi ho
      have hlt : i < pvs.length := by rw [g1]; simp; have := (List.getElem?_eq_some_iff.1 ho).1; omega
      exact (step1_m (g5 i o pvs[i] (by rw [List.getElem?_take_of_lt hi]; exact ho) (List.getElem?_eq_getElem hlt))).1
    refine draw1 (ms := []) D hdst hk hkl g1 (by rw [List.append_nil, ← g3]; exact g2) (fun x => ⟨fun q => by simp at q, fun ⟨i, o, q1, q2, q3⟩ => by rw [hno i o q1 q2] at q3; cases q3⟩) (by rw [List.append_nil]; exact h1.obj.nd) (fun n x q => by simp at q) g4
      (fun i o pv q1 q2 => (step1_m (g5 i o pv q1 q2)).2) ops.length _ (by simp) (fun j _ _ => hnone j) (fun i o _ hl => absurd hl (hnone i)) (hunl _) (h1.go (drew_leads h1.ld.bnd)) (fun x => ⟨.inl, fun q => q.resolve_right fun ⟨i, _, _, q2, _⟩ => hnone i q2⟩)
      ⟨fun j o t pv _ hl => absurd hl (hnone j), fun t _ => rfl⟩
  · obtain ⟨S1, β1, h1⟩ := hw.sound h
    have D := drawOk_spec hd
    have hkl : k ≤ ops.length := by
      rcases Nat.lt_or_ge ops.length k with h' | h'
      · obtain ⟨o, ho⟩ := D.full ops.length h'
        simp at ho
      · exact h'
    obtain ⟨pvs, ps2, g1, ⟨g2a, g2⟩, g3, g4, g5⟩ := msops_run _ hs
    simp only [Bool.and_eq_true] at hm
    have hms := fun x => makersOf_mem (k := k) (ops := ops) (x := x)
    refine draw1 (ms := makersOf (ops.take k)) D hdst hk hkl g1 (by rw [← g3]; exact g2) hms ?_ ?_ g4
      g5 ops.length _ (by simp) (fun j _ _ => hnone j) (fun i o _ hl => absurd hl (hnone i)) (hunl _) (h1.go (drew_leads h1.ld.bnd)) (fun x => ⟨.inl, fun q => q.resolve_right fun ⟨i, _, _, q2, _⟩ => hnone i q2⟩)
      ⟨fun j o t pv _ hl => absurd hl (hnone j), fun t _ => rfl⟩
    · rw [List.map_append, List.nodup_append]
      refine ⟨h1.obj.nd, ndO_nodup hm.1, ?_⟩
      intro x hx y hy e
      subst e
      obtain ⟨⟨m, o⟩, q1, rfl⟩ := List.mem_map.1 hx
      obtain ⟨⟨m', o'⟩, q2, e2⟩ := List.mem_map.1 hy
      have := mkIn_mem hm.2 q2
      simp only [freeOf, Bool.and_eq_true] at this
      exact (refFreeO_mem this.2 q1).1 e2.symm
    · intro n x hx
      have q1 := mkIn_mem hm.2 hx
      simp only [freeOf, Bool.and_eq_true] at q1
      exact ⟨refFreeO_small q1.2, refFreeT_look q1.1, fun m o q => refFreeO_mem q1.2 q, fun t ht => mfT_look ht (mkFin_mem g2a hx)⟩

  · obtain ⟨S1, β1, h1⟩ := hw.sound h
    have D := drawOk_spec hd
    have hkl : k ≤ ops.length := by
      rcases Nat.lt_or_ge ops.length k with h' | h'
      · obtain ⟨o, ho⟩ := D.full ops.length h'
        simp at ho
      · exact h'
    simp only [strOk, Bool.and_eq_true, List.all_eq_true, List.mem_range] at hm
    obtain ⟨⟨hm1, hm2⟩, hm3⟩ := hm
    have hi0 := nlt_lt hm1
    cases hos : ops[i0]? with
    | none => rw [hos] at hm2; cases hm2
    | some os =>
      rw [hos] at hm2
      simp only at hm2
      obtain ⟨hg, hnd, ts, ad, v, hop⟩ : os.guard = none ∧ os.dst = none ∧ ∃ ts ad v, os.op = .store ts ad v := by
        split at hm2
        · rename_i q1 q2 q3; exact ⟨q1, q2, _, _, _, q3⟩
        · cases hm2
      unfold strWp at hs
      obtain ⟨pvs1, p1, g1, g2, g3, g4, g5⟩ := sops_run _ hs
      rw [hos] at g2
      simp only at g2
      obtain ⟨objs2, q1, q2⟩ := store_ex (T := p1.tmps) (objs := p1.objs) hop hnd g2
      obtain ⟨pvs2, p3, e1, e2, e3, e4, e5⟩ := sops_run _ q1
      have hlt0 : i0 < ops.length := by omega
      have l1 : (ops.take i0).length = i0 := by simp; omega
      have hsplit : ops.take k = ops.take i0 ++ os :: (ops.take k).drop (i0 + 1) := by
        have a1 : (ops.take k)[i0]? = some os := by rw [List.getElem?_take_of_lt hi0]; exact hos
        obtain ⟨a2, a3⟩ := List.getElem?_eq_some_iff.1 a1
        have a4 := List.take_append_drop i0 (ops.take k)
        rw [List.take_take, Nat.min_eq_left (by omega), List.drop_eq_getElem_cons a2, a3] at a4
        exact a4.symm
      have hpl : (pvs1 ++ PV.any :: pvs2).length = (ops.take k).length := by
        have := congrArg List.length hsplit
        rw [this]
        simp only [List.length_append, List.length_cons, g1, e1]
      have hτ0 : upds ((ops.take k).take i0) ((pvs1 ++ PV.any :: pvs2).take i0) (lookT ps'.tmps) = lookT p1.tmps := by
        rw [g4, List.take_take, Nat.min_eq_left (by omega)]
        congr 1
        rw [List.take_append_of_le_length (by omega), List.take_of_length_le (by omega)]
      have hp3 : p3 = ⟨p3.tmps, objs2⟩ := by cases p3; cases e3; rfl
      refine draw1s (T0 := ps'.tmps) (objs1 := ps'.objs) (objs2 := objs2) (ps2 := p3) (pvs := pvs1 ++ PV.any :: pvs2) (os := os) D hdst hk hi0 hos hg hnd hkl hpl (by rw [← hp3]; exact e2) ?_ ?_ ?_
        ops.length _ (by simp) (fun j _ _ => hnone j) (fun i o _ hl => absurd hl (hnone i)) (hunl _) (h1.go (drew_leads h1.ld.bnd)) (fun q => absurd q (hnone i0)) (fun _ => rfl)
        ⟨fun j o t pv _ hl => absurd hl (hnone j), fun t _ => rfl⟩
      · rw [hsplit, upds_app (by omega)]
        show _ = upds _ pvs2 (upd (upds (ops.take i0) pvs1 (lookT ps'.tmps)) os.dst .any)
        rw [hnd, ← g4, e4]
        rfl
      · intro i o pv hik hne ho hp
        have hb := hm3 i hik
        rw [ho] at hb
        have hne' : nqb i i0 = false := by
          cases hx : nqb i i0 with
          | false => rfl
          | true => exact absurd (nqb_eq hx) hne
        rw [hne', Bool.false_or] at hb
        simp only [Bool.or_eq_true, Bool.and_eq_true] at hb
        rcases Nat.lt_or_gt_of_ne hne with hlt | hlt
        · have hs1 : step1 ps'.objs ops o (upds ((ops.take k).take i) ((pvs1 ++ PV.any :: pvs2).take i) (lookT ps'.tmps)) pv := by
            have a1 : (ops.take i0)[i]? = some o := by rw [List.getElem?_take_of_lt hlt]; exact ho
            have a2 : pvs1[i]? = some pv := by rw [List.getElem?_append_left (by omega)] at hp; exact hp
            have := g5 i o pv a1 a2
            rw [List.take_take, Nat.min_eq_left (by omega)] at this ⊢
            rw [List.take_append_of_le_length (by omega)]
            exact this
          refine ⟨.inl hs1, ?_⟩
          rcases hb with (hb | hb) | hb
          · exact .inl (step1_blind hb hs1)
          · exact .inr hb.2
          · have := nlt_lt hb.1; omega
        · have hs2 : step1 objs2 ops o (upds ((ops.take k).take i) ((pvs1 ++ PV.any :: pvs2).take i) (lookT ps'.tmps)) pv := by
            obtain ⟨m, rfl⟩ : ∃ m, i = i0 + 1 + m := ⟨i - (i0 + 1), by omega⟩
            have a1 : ((ops.take k).drop (i0 + 1))[m]? = some o := by rw [List.getElem?_drop, List.getElem?_take_of_lt hik]; exact ho
            have a2 : pvs2[m]? = some pv := by
              rw [List.getElem?_append_right (by omega)] at hp
              have : i0 + 1 + m - pvs1.length = m + 1 := by omega
              rw [this, List.getElem?_cons_succ] at hp
              exact hp
            have := e5 m o pv a1 a2
            have b1 : (ops.take k).take (i0 + 1 + m) = ops.take i0 ++ os :: ((ops.take k).drop (i0 + 1)).take m := by
              have hx := congrArg (List.take (i0 + 1 + m)) hsplit
              rw [hx, List.take_append]
              have c1 : (ops.take i0).take (i0 + 1 + m) = ops.take i0 := List.take_of_length_le (by omega)
              have c2 : i0 + 1 + m - (ops.take i0).length = m + 1 := by omega
              rw [c1, c2, List.take_succ_cons]
            have b2 : (pvs1 ++ PV.any :: pvs2).take (i0 + 1 + m) = pvs1 ++ PV.any :: pvs2.take m := by
              rw [List.take_append]
              have c1 : pvs1.take (i0 + 1 + m) = pvs1 := List.take_of_length_le (by omega)
              have c2 : i0 + 1 + m - pvs1.length = m + 1 := by omega
              rw [c1, c2, List.take_succ_cons]
            rw [b1, b2, upds_app (by omega)]
            show step1 _ _ _ (upds _ _ (upd (upds (ops.take i0) pvs1 (lookT ps'.tmps)) os.dst .any)) _
            rw [hnd, ← g4]
            exact this
          refine ⟨?_, .inl hs2⟩
          rcases hb with (hb | hb) | hb
          · exact .inl (step1_blind hb hs2)
          · have := nlt_lt hb.1; omega
          · exact .inr hb.2
      · intro T hT
        have := q2 T fun x hx => ?_
        · rw [g3] at this; exact this
        · cases x with
          | tmp t =>
            show lookT T t = lookT p1.tmps t
            rw [hT t ?_, hτ0]
            unfold looks
            rw [hg]
            refine List.mem_append_left _ ?_
            rw [List.mem_filterMap]
            exact ⟨_, hx, rfl⟩
          | _ => rfl

end
end Go.Proofs.YtbehbhicjmjdhaaGreat

namespace Go.Proofs.YtbehbhicjmjdhaaGreat
open Go
set_option linter.unusedVariables false
set_option linter.unusedSimpArgs false

def codeOk (N : Nat) : Code → Bool
  | .region _ ops _ => ops.toList.all (dstOk N)
  | .seq a b => codeOk N a && codeOk N b
  | .cond _ a b => codeOk N a && codeOk N b
  | .block _ b => codeOk N b
  | .loop b => codeOk N b
  | _ => true

theorem follows_mixed : Pg.follows .mixedOrders = true := by rw [Pg_eq]; rfl

section
variable {w0 : World} {S0 K0 : Nat → Prop} {N : Cx}

/-- The kind of state in which two arms meet, in the machine. -/
def Meet (w0 : World) (S0 K0 : Nat → Prop) (N : Cx) {σ : Type} (inv : σ → PS) (good : σ → Prop) (Q : Exit → PS → Prop) : Exit → Act → World → Prop := fun e a w => match e with
  | .normal => ∃ s S β, good s ∧ Sim w0 S0 K0 N (lookT (inv s).tmps) (inv s).objs a w S β
  | e => ∃ ps S β, Q e ps ∧ Sim w0 S0 K0 N (lookT ps.tmps) ps.objs a w S β
theorem meetS {σ : Type} {inv : σ → PS} {good : σ → Prop} {Q : Exit → PS → Prop} : ∀ e ps' a' w' S' β', meetQ inv good Q e ps' → Sim w0 S0 K0 N (lookT ps'.tmps) ps'.objs a' w' S' β' → Meet w0 S0 K0 N inv good Q e a' w' := by
  intro e ps' a' w' S' β' hq hs
  cases e with
  | normal =>
    obtain ⟨s, hg, hw⟩ := hq
    obtain ⟨S2, β2, h2⟩ := hw.sound hs
    exact ⟨s, S2, β2, hg, h2⟩
  | exit i => exact ⟨ps', S', β', hq, hs⟩
  | goto l => exact ⟨ps', S', β', hq, hs⟩
  | ret => exact ⟨ps', S', β', hq, hs⟩
  | panic ch => exact ⟨ps', S', β', hq, hs⟩
  | outgrown => exact ⟨ps', S', β', hq, hs⟩
theorem meet {σ : Type} {inv : σ → PS} {good : σ → Prop} {Q : Exit → PS → Prop} {QM : Exit → Act → World → Prop} (hk : ∀ e ps' a' w' S' β', Q e ps' → Sim w0 S0 K0 N (lookT ps'.tmps) ps'.objs a' w' S' β' → QM e a' w')
    (hJ : ∀ s, good s → Q .normal (inv s)) : ∀ e a w, Meet w0 S0 K0 N inv good Q e a w → QM e a w := by
  intro e a w h
  cases e with
  | normal => obtain ⟨s, S, β, hg, hs⟩ := h; exact hk _ _ _ _ _ _ (hJ s hg) hs
  | exit i => obtain ⟨ps, S, β, hq, hs⟩ := h; exact hk _ _ _ _ _ _ hq hs
  | goto l => obtain ⟨ps, S, β, hq, hs⟩ := h; exact hk _ _ _ _ _ _ hq hs
  | ret => obtain ⟨ps, S, β, hq, hs⟩ := h; exact hk _ _ _ _ _ _ hq hs
  | panic ch => obtain ⟨ps, S, β, hq, hs⟩ := h; exact hk _ _ _ _ _ _ hq hs
  | outgrown => obtain ⟨ps, S, β, hq, hs⟩ := h; exact hk _ _ _ _ _ _ hq hs

theorem wp_sound : ∀ (c : Code), codeOk N c = true → ∀ {ps : PS} {Q : Exit → PS → Prop} {a : Act} {w : World} {S : Nat → Prop} {β : Nat → Option Nat} {QM : Exit → Act → World → Prop},
    Sim w0 S0 K0 N (lookT ps.tmps) ps.objs a w S β → wp c ps Q → (∀ e ps' a' w' S' β', Q e ps' → Sim w0 S0 K0 N (lookT ps'.tmps) ps'.objs a' w' S' β' → QM e a' w') → c.wp Pg QM a w := by
  intro c
  induction c with
  | skip => intro _ ps Q a w S β QM h hs hk; exact wp_skip (hk _ _ _ _ _ _ hs h)
  | region id ops draw =>
    intro hc ps Q a w S β QM h hs hk
    simp only [codeOk, List.all_eq_true] at hc
    cases draw with
    | false =>
      simp only [wp] at hs
      refine wp_region_list ?_
      have := opsWp_sound (Q := QM) (K := Q .normal) (fun ps' a' w' S' β' hq hsim => hk _ _ _ _ _ _ hq hsim) ops.toList hc h hs
      simpa using this
    | true =>
      simp only [wp] at hs
      refine wp_region_any follows_mixed ?_
      have := draw_sound hs (Q := QM) hc (fun ps' a' w' S' β' hq hsim => hk _ _ _ _ _ _ hq hsim) h
      simpa using this
  | seq x y ihx ihy =>
    intro hc ps Q a w S β QM h hs hk
    simp only [codeOk, Bool.and_eq_true] at hc
    simp only [wp] at hs
    refine Go.wp_seq (ihx hc.1 h hs ?_)
    intro e ps' a' w' S' β' hq hsim
    cases e with
    | normal => exact ihy hc.2 hsim hq hk
    | exit i => exact hk _ _ _ _ _ _ hq hsim
    | goto l => exact hk _ _ _ _ _ _ hq hsim
    | ret => exact hk _ _ _ _ _ _ hq hsim
    | panic ch => exact hk _ _ _ _ _ _ hq hsim
    | outgrown => exact hk _ _ _ _ _ _ hq hsim
  | cond x y z ihy ihz =>
    intro hc ps Q a w S β QM h hs hk
    simp only [codeOk, Bool.and_eq_true] at hc
    have hr := h.eval x
    simp only [wp] at hs
    split at hs
    · rename_i hx; rw [hx] at hr; exact wp_cond_true (rep_tt hr) (ihy hc.1 h hs hk)
    · rename_i hx; rw [hx] at hr; exact wp_cond_false (rep_ff hr) (ihz hc.2 h hs hk)
    · rename_i b hx
      rw [hx] at hr
      rcases hs.h with hs | ⟨σ, inv, good, hA, hB, hJ⟩
      · exact wp_cond_split (rep_bool hr) (fun e => ihy hc.1 h (hs.1 e) hk) (fun e => ihz hc.2 h (hs.2 e) hk)
      · exact wp_cond_split (rep_bool hr) (fun e => Code.wp_mono (meet hk hJ) (ihy hc.1 h (hA e) meetS)) (fun e => Code.wp_mono (meet hk hJ) (ihz hc.2 h (hB e) meetS))
    · rename_i b hx
      rw [hx] at hr
      rcases hs.h with hs | ⟨σ, inv, good, hA, hB, hJ⟩
      · exact wp_cond_split (rep_nbool hr) (fun e => ihy hc.1 h (hs.2 (by simpa using e)) hk) (fun e => ihz hc.2 h (hs.1 (by simpa using e)) hk)
      · exact wp_cond_split (rep_nbool hr) (fun e => Code.wp_mono (meet hk hJ) (ihy hc.1 h (hB (by simpa using e)) meetS)) (fun e => Code.wp_mono (meet hk hJ) (ihz hc.2 h (hA (by simpa using e)) meetS))
    · exact hs.elim
  | block id b ih =>
    intro hc ps Q a w S β QM h hs hk
    simp only [codeOk] at hc
    simp only [wp] at hs
    refine Go.wp_block (ih hc h hs ?_)
    intro e ps' a' w' S' β' hq hsim
    cases e with
    | exit i =>
      simp only [Exit.inBlock]
      cases hb : nqb i id with
      | true =>
        have := nqb_eq hb
        subst this
        simp only [hb, cond_true] at hq
        rw [if_pos rfl]
        exact hk _ _ _ _ _ _ hq hsim
      | false =>
        have hne : i ≠ id := fun e => by subst e; simp at hb
        simp only [hb, cond_false] at hq
        rw [if_neg hne]
        exact hk _ _ _ _ _ _ hq hsim
    | normal => exact hk _ _ _ _ _ _ hq hsim
    | goto l => exact hk _ _ _ _ _ _ hq hsim
    | ret => exact hk _ _ _ _ _ _ hq hsim
    | panic ch => exact hk _ _ _ _ _ _ hq hsim
    | outgrown => exact hk _ _ _ _ _ _ hq hsim
  | exit id => intro _ ps Q a w S β QM h hs hk; exact wp_exit (hk _ _ _ _ _ _ hs h)
  | ret => intro _ ps Q a w S β QM h hs hk; exact wp_ret (hk _ _ _ _ _ _ hs h)
  | loop b ih =>
    intro hc ps Q a w S β QM h hs hk
    simp only [codeOk] at hc
    simp only [wp] at hs
    obtain ⟨σ, inv, good, mu, s0, hg, hw, hround⟩ := hs.h
    obtain ⟨S1, β1, h1⟩ := hw.sound h
    refine wp_loop_ghost (fun n a w => ∃ s S β, good s ∧ mu s = n ∧ Sim w0 S0 K0 N (lookT (inv s).tmps) (inv s).objs a w S β) (mu s0) ⟨s0, S1, β1, hg, rfl, h1⟩ ?_
    rintro n a' w' ⟨s, S2, β2, hgs, rfl, hsim⟩
    refine ih hc hsim (hround s hgs) ?_
    intro e ps' a2 w2 S3 β3 hq hsim2
    cases e with
    | normal =>
      obtain ⟨s', hg', hmu, hwk⟩ := hq
      obtain ⟨S4, β4, h4⟩ := hwk.sound hsim2
      exact ⟨mu s', hmu, s', S4, β4, hg', rfl, h4⟩
    | exit i => exact hk _ _ _ _ _ _ hq hsim2
    | goto l => exact hk _ _ _ _ _ _ hq hsim2
    | ret => exact hk _ _ _ _ _ _ hq hsim2
    | panic ch => exact hk _ _ _ _ _ _ hq hsim2
    | outgrown => exact hk _ _ _ _ _ _ hq hsim2
  | _ => intro _ ps Q a w S β QM h hs hk; simp only [wp] at hs

/-! ### The results -/

theorem rdV_sound {w : World} {S : Nat → Prop} {β : Nat → Option Nat} {t : Nat} {cs : List PV} {off : Nat} {pv : PV} (h : rdV (ty t) cs off = some pv) {b o : Nat} (vals : Nat → Value)
    (hc : ∀ j, j < cs.length → w.cell? ⟨b, o + j, none⟩ = some (vals j)) (hr : ∀ j, j < cs.length → Rep w S β (vals j) (cs.getD j .any)) :
    ∃ val, (loadVar t ⟨b, o + off, none⟩).run Pg w = .ok val w ∧ Rep w S β val pv := by
  have hk : rdK (ty t) cs off (fun v => v = pv) := by
    unfold rdV at h
    unfold rdK
    cases hno : (ty t).isNo with
    | true => simp [hno] at h
    | false =>
      simp only [hno, cond_false] at h ⊢
      cases hle : nle (off + (ty t).cells) cs.length with
      | false => simp [hle] at h
      | true => simp only [hle, cond_true, Option.some.injEq] at h ⊢; exact h
  obtain ⟨pv', val, h1, h2, h3⟩ := rdK_sound hk vals hc hr
  subst h1
  exact ⟨val, by simpa [Instr.loadAt, Instr.sureAddr] using h2, h3⟩

def resOne (tmps : Array Value) : ResultVar → Sem Value
  | .tmp t => pure (tmps.getD t undef)
  | .cell a t => do loadVar t (← asAddr (tmps.getD a undef))
theorem results_eq (fn : Func) (tmps : Array Value) : results fn tmps = (do let vs ← fn.results.mapM (resOne tmps); pure (if h : vs.size = 1 then vs[0] else .tuple vs)) := by
  unfold results
  congr 2

theorem resV_sound {ps : PS} {a : Act} {w : World} {S : Nat → Prop} {β : Nat → Option Nat} (h : Sim w0 S0 K0 N (lookT ps.tmps) ps.objs a w S β) : ∀ (rs : List ResultVar) {l : List PV}, resV ps rs = some l →
    ∃ vs : List Value, (rs.mapM (resOne a.tmps) : Sem (List Value)).run Pg w = .ok vs w ∧ RepL w S β vs.toArray l
  | [], l, he => by simp only [resV, Option.some.injEq] at he; subst he; exact ⟨[], rfl, rfl, fun j hj => by simp at hj⟩
  | .tmp t :: r, l, he => by
    simp only [resV] at he
    split at he
    · rename_i l' hl'
      simp only [Option.some.injEq] at he
      subst he
      obtain ⟨vs, h1, h2⟩ := resV_sound h r hl'
      refine ⟨a.tmps.getD t undef :: vs, by rw [List.mapM_cons, Sem.run_bind]; simp only [resOne, Sem.run_pure, Result.andThen_ok, Sem.run_bind, h1], by simpa using h2.1, fun j hj => ?_⟩
      cases j with
      | zero => simpa using h.tmp t
      | succ j => simpa using h2.2 j (by simpa using hj)
    · cases he
  | .cell x t :: r, l, he => by
    simp only [resV] at he
    split at he
    · rename_i n off hx
      split at he
      · rename_i cs ho
        split at he
        · rename_i v l' hv hl'
          simp only [Option.some.injEq] at he
          subst he
          obtain ⟨vs, h1, h2⟩ := resV_sound h r hl'
          have hr := h.tmp x
          rw [hx] at hr
          obtain ⟨b, hβ, hv'⟩ := rep_ptr hr
          obtain ⟨b', us, T, hβ', hb, hsz, hrr⟩ := obj_box h ho
          rw [hβ] at hβ'
          cases hβ'
          obtain ⟨val, h3, h4⟩ := rdV_sound (w := w) (S := S) (β := β) (b := b) (o := 0) hv (fun j => us.getD j undef) (fun j hj => by rw [Nat.zero_add]; exact cell_at hb j (by omega)) hrr
          rw [Nat.zero_add] at h3
          refine ⟨val :: vs, ?_, by simpa using h2.1, fun j hj => ?_⟩
          · rw [List.mapM_cons]
            have e : (resOne a.tmps (.cell x t)).run Pg w = .ok val w := by simp only [resOne, Sem.run_bind, hv', asAddr, Sem.run_pure, Result.andThen_ok, h3]
            simp only [Sem.run_bind, e, Sem.run_pure, Result.andThen_ok, h1]
          · cases j with
            | zero => simpa using h4
            | succ j => simpa using h2.2 j (by simpa using hj)
        · cases he
      · cases he
    · cases he

theorem results_sound {fn : Func} {ps : PS} {a : Act} {w : World} {S : Nat → Prop} {β : Nat → Option Nat} (h : Sim w0 S0 K0 N (lookT ps.tmps) ps.objs a w S β) {l : List PV} (hl : resV ps fn.results.toList = some l) :
    ∃ v, (results fn a.tmps).run Pg w = .ok v w ∧ Rep w S β v (oneV l) := by
  obtain ⟨vs, h1, h2⟩ := resV_sound h _ hl
  refine ⟨if h : vs.toArray.size = 1 then vs.toArray[0] else .tuple vs.toArray, ?_, ?_⟩
  · rw [results_eq, Array.mapM_eq_mapM_toList, Sem.run_bind, Sem.run_map, h1]
    rfl
  · by_cases h3 : vs.toArray.size = 1
    · rw [dif_pos h3]
      have h4 : l.length = 1 := by rw [← h2.1]; exact h3
      match l, h4 with
      | [x], _ =>
        have := h2.2 0 (by simp)
        simp only [oneV]
        simpa [h3] using this
    · rw [dif_neg h3]
      have h4 : l.length ≠ 1 := by rw [← h2.1]; exact h3
      have : oneV l = .tup l := by
        match l with
        | [] => rfl
        | [x] => simp at h4
        | x :: y :: r => rfl
      rw [this]
      exact .tup h2.1 h2.2

theorem keptId_mem {h : Nat → Nat} : ∀ {l : List (Nat × Obj')}, keptId h l → ∀ {n o}, (n, o) ∈ l → h n = n ∧ 1000000 ≤ n
  | (m, x) :: r, H, n, o, hm => by
    simp only [List.mem_cons] at hm
    rcases hm with hm | hm
    · cases hm; exact H.1
    · exact keptId_mem H.2 hm

theorem nodup_of_map {h : Nat → Nat} : ∀ {l : List Nat}, (l.map h).Nodup → l.Nodup
  | [], _ => List.nodup_nil
  | x :: r, hnd => by
    simp only [List.map_cons, List.nodup_cons] at hnd ⊢
    exact ⟨fun hx => hnd.1 (List.mem_map.2 ⟨x, hx, rfl⟩), nodup_of_map hnd.2⟩

def argT : Nat → List PV → List (Nat × PV)
  | _, [] => []
  | k, v :: r => (k, v) :: argT (k + 1) r

theorem look_argT : ∀ (l : List PV) (k t : Nat), lookT (argT k l) t = if k ≤ t ∧ t < k + l.length then l.getD (t - k) .any else .any
  | [], k, t => by simp [argT, lookT]
  | v :: r, k, t => by
    simp only [argT, lookT]
    by_cases h : k = t
    · subst h; simp
    · rw [nbeq h]; simp only []; rw [look_argT r (k + 1) t]
      by_cases h2 : k + 1 ≤ t ∧ t < k + 1 + r.length
      · rw [if_pos h2, if_pos (by simp only [List.length_cons]; omega)]
        have : t - k = (t - (k + 1)) + 1 := by omega
        rw [this, List.getD_cons_succ]
      · rw [if_neg h2, if_neg (by simp only [List.length_cons]; omega)]

/-- A CONTRACT FROM THE BODY. -/
theorem sound_of {f : FuncId} {fn : Func} {c : Code} (hf : Pg.funcs[f]? = some fn) (hb : fn.body = some c) (hname : (fn.name == "runtime.NumGoroutine") = false) (hN : codeOk fn.ntmps c = true) {args : List PV} (hargs : nle args.length fn.ntmps = true)
    {kept eaten : List (Nat × Obj')} {r : PV} {kept' made : List (Nat × Obj')} (hnk : kept'.map Prod.fst = kept.map Prod.fst) (hwp : wp c ⟨argT 0 args, kept ++ eaten⟩ (postOf fn.results.toList r kept' made)) : Sound f args kept eaten r kept' made where
  isf vals w := by
    have hn : ¬ fn.name = "runtime.NumGoroutine" := by simpa using hname
    simp [callFunc, hf, hn, hb]
  go w S β vals hbnd hobj hsz hrep := by
    have hal := nle_le hargs
    refine calls_of_wp hf hb ?_
    have hsim : Sim w S (Blk β (kept ++ eaten)) ⟨fn.ntmps, β⟩ (lookT (argT 0 args)) (kept ++ eaten) { tmps := vals ++ Array.replicate (fn.ntmps - vals.size) undef, defers := [] } w S β := by
      refine ⟨rfl, by simp [hsz]; omega, ⟨Nat.le_refl _, rfl, rfl, rfl, fun _ _ _ => rfl, fun b vs T h => ⟨vs, h, rfl⟩, hbnd, fun _ _ h => h, fun _ _ _ h => h⟩, fun t => ?_, hobj, fun n o b hm hβ => .inr ⟨n, o, hm, hβ⟩, fun _ _ _ _ => rfl⟩
      rw [look_argT]
      by_cases h : t < args.length
      · rw [if_pos (by omega)]
        have h1 := hrep t h
        have hlt : t < vals.size := by omega
        simpa [Array.getElem?_append_left hlt] using h1
      · rw [if_neg (by omega)]
        exact rep_any _
    refine wp_sound c hN hsim hwp ?_
    have fin : ∀ ps' a' w' S' β', RetOk fn.results.toList r kept' made ps' → Sim w S (Blk β (kept ++ eaten)) ⟨fn.ntmps, β⟩ (lookT ps'.tmps) ps'.objs a' w' S' β' →
        a'.defers = [] ∧ ∃ v, (results fn a'.tmps).run Pg w' = .ok v w' ∧ (∃ v' S' β', Ending.returned v = .returned v' ∧ Leads w S (Blk β (kept ++ eaten)) w' S' ∧ Rep w' S' β' v' r ∧ ObjsAt w' S' β' (kept' ++ made) ∧
      (kept'.map Prod.fst = kept.map Prod.fst) ∧ (∀ n o, (n, o) ∈ kept → β' n = β n) ∧
      (∀ n o b, (n, o) ∈ made → β' n = some b → w.heap.size ≤ b ∨ Blk β eaten b)) := by
      intro ps1 a' w' S1 β1 hr h1
      obtain ⟨ps', l, hn, hw, hl, hle, hlv, hobjs, hnd, hkid⟩ := hr.h
      obtain ⟨S2, β2, h2⟩ := hw.sound h1
      obtain ⟨v, h3, h4⟩ := results_sound h2 hl
      have hmem : ∀ {n o}, (n, o) ∈ kept' ++ made → (hn n, o) ∈ ps'.objs ∧ closedO o = true := fun hm => hasObjs_mem hobjs hm
      have hndn := ndO_nodup hnd
      refine ⟨h2.dfr, v, h3, v, S2, fun n => β2 (hn n), rfl, h2.ld, ren_in (h4.le _ hle) hlv, ⟨?_, fun n o hm => closed_at (hmem hm).2 (h2.obj.at_ _ _ (hmem hm).1) rfl, fun n o b hm hβ => h2.obj.un _ _ b (hmem hm).1 hβ,
        fun n o m o' b hm hm' hβ hβ' => nodup_inj hndn hm hm' (h2.obj.inj _ _ _ _ b (hmem hm).1 (hmem hm').1 hβ hβ')⟩, hnk, fun n o hm => ?_, fun n o b hm hβ => ?_⟩
      · rw [namesH_fst] at hndn
        exact nodup_of_map hndn
      · obtain ⟨o', hm'⟩ := fst_mem hnk.symm hm
        obtain ⟨e1, e2⟩ := keptId_mem hkid hm'
        have := h2.keep n o' (by have := (hmem (List.mem_append_left made hm')).1; rwa [e1] at this) e2
        show β2 (hn n) = β n
        rw [e1]
        exact this
      · have hin := (hmem (List.mem_append_right kept' hm)).1
        rcases h2.own _ _ b hin hβ with h5 | ⟨m, x, h6, h7⟩
        · exact .inl h5
        · rcases List.mem_append.1 h6 with h6 | h6
          · exfalso
            obtain ⟨x', hm'⟩ := fst_mem hnk.symm h6
            obtain ⟨e1, e2⟩ := keptId_mem hkid hm'
            have hin' := (hmem (List.mem_append_left made hm')).1
            have hk := h2.keep m x' (by rwa [e1] at hin') e2
            have heq := h2.obj.inj _ _ _ _ b hin hin' hβ (by rw [e1, hk]; exact h7)
            have hnm : n = m := nodup_inj hndn (List.mem_append_right kept' hm) (List.mem_append_left made hm') heq
            subst hnm
            rw [namesH_append, List.map_append, List.nodup_append] at hndn
            exact hndn.2.2 (hn n) (List.mem_map.2 ⟨_, mem_namesH.2 ⟨n, hm', rfl⟩, rfl⟩) (hn n) (List.mem_map.2 ⟨_, mem_namesH.2 ⟨n, hm, rfl⟩, rfl⟩) rfl
          · exact .inr ⟨m, x, h6, h7⟩
    intro e ps' a' w' S' β' hq hs'
    cases e with
    | normal => exact fin _ _ _ _ _ hq hs'
    | ret => exact fin _ _ _ _ _ hq hs'
    | exit i => exact hq.elim
    | goto l => exact hq.elim
    | panic ch => exact hq.elim
    | outgrown => exact hq.elim

end
end Go.Proofs.YtbehbhicjmjdhaaGreat
