/- THE PURE MACHINE, part L: append. * THE PURE MACHINE, part M: a call that is given objects of the caller's. -/
import Derived.Test.YtbehbhicjmjdhaaGreatQ07

namespace Go.Proofs.YtbehbhicjmjdhaaGreat
open Go
set_option linter.unusedVariables false
set_option linter.unusedSimpArgs false

section
variable {w0 : World} {S0 K0 : Nat → Prop} {N : Cx} {τ : Nat → PV} {objs : List (Nat × Obj')} {a : Act} {w w' : World} {S S' : Nat → Prop} {β : Nat → Option Nat}

/-! ### An object is gone -/

theorem sc0_rep {n : Nat} {v pv} (h : Rep w S β v pv) : Rep w S β v (sc0 n pv) := by
  cases pv with
  | agg cs => exact rep_any _
  | tup cs => exact rep_any _
  | fn f cs => exact rep_any _
  | ptr m off => simp only [sc0]; cases nqb m n <;> first | exact h | exact rep_any _
  | aptr m s i off => simp only [sc0]; cases nqb m n <;> first | exact h | exact rep_any _
  | osl m s i len => simp only [sc0]; cases nqb m n <;> first | exact h | exact rep_any _
  | _ => exact h
theorem sc1_rep {n : Nat} {v pv} (h : Rep w S β v pv) : Rep w S β v (sc1 n pv) := by
  cases pv with
  | agg cs =>
    obtain ⟨vs, rfl, h1, h2⟩ := rep_agg h
    exact .agg (by rw [mapC_length]; exact h1) fun j hj => by rw [mapC_length] at hj; rw [mapC_getD _ rfl]; exact sc0_rep (h2 j hj)
  | tup cs =>
    obtain ⟨vs, rfl, h1, h2⟩ := rep_tup h
    exact .tup (by rw [mapC_length]; exact h1) fun j hj => by rw [mapC_length] at hj; rw [mapC_getD _ rfl]; exact sc0_rep (h2 j hj)
  | fn f cs =>
    obtain ⟨vs, rfl, h1, h2⟩ := rep_fn h
    exact .fn (by rw [mapC_length]; exact h1) fun j hj => by rw [mapC_length] at hj; rw [mapC_getD _ rfl]; exact sc0_rep (h2 j hj)
  | _ => exact sc0_rep (n := n) h
theorem scr_rep {n : Nat} {v pv} (h : Rep w S β v pv) : Rep w S β v (scr n pv) := by
  cases pv with
  | agg cs =>
    obtain ⟨vs, rfl, h1, h2⟩ := rep_agg h
    exact .agg (by rw [mapC_length]; exact h1) fun j hj => by rw [mapC_length] at hj; rw [mapC_getD _ rfl]; exact sc1_rep (h2 j hj)
  | tup cs =>
    obtain ⟨vs, rfl, h1, h2⟩ := rep_tup h
    exact .tup (by rw [mapC_length]; exact h1) fun j hj => by rw [mapC_length] at hj; rw [mapC_getD _ rfl]; exact sc1_rep (h2 j hj)
  | fn f cs =>
    obtain ⟨vs, rfl, h1, h2⟩ := rep_fn h
    exact .fn (by rw [mapC_length]; exact h1) fun j hj => by rw [mapC_length] at hj; rw [mapC_getD _ rfl]; exact sc1_rep (h2 j hj)
  | _ => exact sc0_rep (n := n) h

theorem scr_any (n : Nat) : scr n .any = .any := rfl

/-- A sublist of the objects, their cells known less well: the state still stands. -/
theorem Sim.drop {ps : PS} (h : Sim w0 S0 K0 N (lookT ps.tmps) ps.objs a w S β) (n : Nat) :
    Sim w0 S0 K0 N (lookT (mapT (scr n) ps.tmps)) (mapO (scr n) (delO ps.objs n)) a w S β := by
  refine ⟨h.dfr, h.sz, h.ld, fun t => by rw [look_mapT _ (scr_any n)]; exact scr_rep (h.tmp t), ⟨?_, ?_, ?_, ?_⟩, ?_, ?_⟩
  · rw [names_mapO]; exact (delO_sub _ _).nodup h.obj.nd
  · intro m o' hm
    obtain ⟨o'', h1, h2⟩ := mem_mapO _ hm
    obtain ⟨h3, h4⟩ := mem_delO h1
    have hat := h.obj.at_ m o'' h3
    cases o'' with
    | box cs =>
      subst h2
      obtain ⟨b, vs, T, e1, e2, e3, e4⟩ := hat
      exact ⟨b, vs, T, e1, e2, by rw [mapC_length]; exact e3, fun j hj => by rw [mapC_length] at hj; rw [mapC_getD _ (scr_any n)]; exact scr_rep (e4 j hj)⟩
    | arr s els => subst h2; exact hat
  · intro m o' b hm hβ
    obtain ⟨o'', h1, h2⟩ := mem_mapO _ hm
    exact h.obj.un m o'' b (mem_delO h1).1 hβ
  · intro m o' m' o'' b hm hm' hβ hβ'
    obtain ⟨x, h1, _⟩ := mem_mapO _ hm
    obtain ⟨y, h2, _⟩ := mem_mapO _ hm'
    exact h.obj.inj _ _ _ _ b (mem_delO h1).1 (mem_delO h2).1 hβ hβ'
  · intro m o' b hm hβ
    obtain ⟨x, h1, _⟩ := mem_mapO _ hm
    exact h.own m x b (mem_delO h1).1 hβ
  · intro m o' hm hb
    obtain ⟨x, h1, _⟩ := mem_mapO _ hm
    exact h.keep m x (mem_delO h1).1 hb

theorem drop_free {ps : PS} (h : Sim w0 S0 K0 N (lookT ps.tmps) ps.objs a w S β) {n : Nat} {o : Obj'} {b : Nat} (hm : (n, o) ∈ ps.objs) (hβ : β n = some b) :
    ∀ m x, (m, x) ∈ mapO (scr n) (delO ps.objs n) → β m ≠ some b := by
  intro m x hx e
  obtain ⟨y, h1, _⟩ := mem_mapO _ hx
  obtain ⟨h2, h3⟩ := mem_delO h1
  exact h3 (h.obj.inj _ _ _ _ b h2 hm e hβ)

/-- A block that no object lies in is written. -/
theorem Sim.wild (h : Sim w0 S0 K0 N τ objs a w S β) {b : Nat} {vs vs' : Array Value} {T : TypeId} (hnS : ¬ S b) (hfree : ∀ m x, (m, x) ∈ objs → β m ≠ some b) (hown : w0.heap.size ≤ b ∨ K0 b)
    (hw : w.heap[b]? = some (.cells vs T (0, 0))) (hsz : vs'.size = vs.size) : Sim w0 S0 K0 N τ objs a (w.setRow b vs') S β := by
  have he := evo_setRow (w := w) (vs' := vs') hnS hw hsz
  refine ⟨h.dfr, h.sz, ?_, fun t => (h.tmp t).evo he (fun _ h => h), ⟨h.obj.nd, fun m x hx => (h.obj.at_ m x hx).evo he fun c hc => setRow_other w b c vs' ?_, fun m x c hx hc => by simpa using h.obj.un m x c hx hc, h.obj.inj⟩, h.own, h.keep⟩
  · refine ⟨by simpa using h.ld.size, h.ld.os, h.ld.tape, h.ld.output, fun c hc hk => ?_, fun c us U hc => ?_, fun c hS => by simpa using h.ld.bnd c hS, h.ld.sub, h.ld.old⟩
    · rw [setRow_other w b c vs' ?_]
      · exact h.ld.same c hc hk
      · rintro rfl
        rcases hown with h' | h'
        · omega
        · exact hk h'
    · obtain ⟨us', e1, e2⟩ := h.ld.shape c us U hc
      obtain ⟨us'', e3, e4⟩ := he.shape c us' U e1
      exact ⟨us'', e3, e4.trans e2⟩
  · rintro rfl
    exact hfree m x hx hc

/-- A name for a block that no object lies in. -/
theorem Sim.addObj {ps : PS} (h : Sim w0 S0 K0 N (lookT ps.tmps) ps.objs a w S β) {n b : Nat} {o : Obj'} (hf : freeOf n ps = true) (hnS : ¬ S b) (hb' : b < w.heap.size) (hfree : ∀ m x, (m, x) ∈ ps.objs → β m ≠ some b) (hown : w0.heap.size ≤ b ∨ K0 b)
    (hat : ObjAt w S (updB β n (some b)) n o) : Sim w0 S0 K0 N (lookT ps.tmps) (ps.objs ++ [(n, o)]) a w S (updB β n (some b)) := by
  simp only [freeOf, Bool.and_eq_true] at hf
  have hmem : ∀ {m x}, (m, x) ∈ ps.objs ++ [(n, o)] → ((m, x) ∈ ps.objs ∧ m ≠ n) ∨ (m = n ∧ x = o) := by
    intro m x hm
    simp only [List.mem_append, List.mem_singleton] at hm
    rcases hm with hm | hm
    · exact .inl ⟨hm, (refFreeO_mem hf.2 hm).1⟩
    · cases hm; exact .inr ⟨rfl, rfl⟩
  refine ⟨h.dfr, h.sz, h.ld, fun t => (h.tmp t).upd (refFreeT_look hf.1 t), ⟨?_, ?_, ?_, ?_⟩, ?_, ?_⟩
  · rw [List.map_append, List.nodup_append]
    refine ⟨h.obj.nd, by simp, ?_⟩
    intro x hx y hy e
    simp at hy
    subst hy e
    obtain ⟨⟨m, o⟩, h1, rfl⟩ := List.mem_map.1 hx
    exact (refFreeO_mem hf.2 h1).1 rfl
  · intro m x hm
    rcases hmem hm with ⟨h1, h2⟩ | ⟨rfl, rfl⟩
    · exact (h.obj.at_ m x h1).upd h2 (refFreeO_mem hf.2 h1).2
    · exact hat
  · intro m x c hm hβ
    rcases hmem hm with ⟨h1, h2⟩ | ⟨rfl, rfl⟩
    · rw [updB_ne h2] at hβ; exact h.obj.un m x c h1 hβ
    · rw [updB_eq] at hβ
      cases hβ
      exact ⟨hnS, hb'⟩
  · intro m x m' x' c hm hm' hβ hβ'
    rcases hmem hm with ⟨h1, h2⟩ | ⟨rfl, rfl⟩
    · rcases hmem hm' with ⟨h3, h4⟩ | ⟨rfl, rfl⟩
      · rw [updB_ne h2] at hβ; rw [updB_ne h4] at hβ'; exact h.obj.inj _ _ _ _ c h1 h3 hβ hβ'
      · rw [updB_ne h2] at hβ
        rw [updB_eq] at hβ'
        cases hβ'
        exact absurd hβ (hfree m x h1)
    · rcases hmem hm' with ⟨h3, h4⟩ | ⟨rfl, rfl⟩
      · rw [updB_ne h4] at hβ'
        rw [updB_eq] at hβ
        cases hβ
        exact absurd hβ' (hfree m' x' h3)
      · rfl
  · intro m x c hm hβ
    rcases hmem hm with ⟨h1, h2⟩ | ⟨rfl, rfl⟩
    · rw [updB_ne h2] at hβ; exact h.own m x c h1 hβ
    · rw [updB_eq] at hβ
      cases hβ
      exact hown
  · intro m x hm hb2
    rcases hmem hm with ⟨h1, h2⟩ | ⟨rfl, rfl⟩
    · rw [updB_ne h2]; exact h.keep m x h1 hb2
    · have := refFreeO_small hf.2; omega

/-! ### Rows of cells -/

structure Cells (w : World) (S : Nat → Prop) (n : Nat) (l : List Value) (els : List (List D)) : Prop where
  len : l.length = els.length * n
  wid : ∀ e, e ∈ els → e.length = n
  at_ : ∀ i j, i < els.length → j < n → RepD w S (l.getD (i * n + j) undef) ((els.getD i []).getD j .any) ∧ (l.getD (i * n + j) undef).oneCell' = true

theorem Cells.evo {n : Nat} {l els} (h : Cells w S n l els) (hs : ∀ b, S b → w'.heap[b]? = w.heap[b]?) (hS : ∀ b, S b → S' b) : Cells w' S' n l els :=
  ⟨h.len, h.wid, fun i j hi hj => ⟨(h.at_ i j hi hj).1.evo hs hS, (h.at_ i j hi hj).2⟩⟩

theorem mul_lt {i j n m : Nat} (hi : i < m) (hj : j < n) : i * n + j < m * n := by
  calc i * n + j < i * n + n := by omega
    _ = (i + 1) * n := by rw [Nat.add_mul]; omega
    _ ≤ _ := Nat.mul_le_mul_right _ hi

theorem Cells.append {n : Nat} {l k : List Value} {els xs : List (List D)} (h : Cells w S n l els) (g : Cells w S n k xs) : Cells w S n (l ++ k) (els ++ xs) := by
  refine ⟨by rw [List.length_append, List.length_append, h.len, g.len, Nat.add_mul], fun e he => ?_, fun i j hi hj => ?_⟩
  · rcases List.mem_append.1 he with he | he
    · exact h.wid e he
    · exact g.wid e he
  · by_cases hlt : i < els.length
    · have h1 := h.at_ i j hlt hj
      have h2 := mul_lt hlt hj
      rw [← h.len] at h2
      have e1 : (l ++ k).getD (i * n + j) undef = l.getD (i * n + j) undef := by
        simp only [List.getD_eq_getElem?_getD]; rw [List.getElem?_append_left h2]
      have e2 : (els ++ xs).getD i [] = els.getD i [] := by
        simp only [List.getD_eq_getElem?_getD]; rw [List.getElem?_append_left hlt]
      rw [e1, e2]
      exact h1
    · have hi' : i - els.length < xs.length := by simp at hi; omega
      have h1 := g.at_ (i - els.length) j hi' hj
      have hm : i * n + j = l.length + ((i - els.length) * n + j) := by
        rw [h.len, ← Nat.add_assoc, ← Nat.add_mul]; congr 2; omega
      have e1 : (l ++ k).getD (i * n + j) undef = k.getD ((i - els.length) * n + j) undef := by
        rw [hm]
        simp only [List.getD_eq_getElem?_getD]; rw [List.getElem?_append_right (by omega)]; congr 2; omega
      have e2 : (els ++ xs).getD i [] = xs.getD (i - els.length) [] := by
        simp only [List.getD_eq_getElem?_getD]; rw [List.getElem?_append_right (by omega)]
      rw [e1, e2]
      exact h1

theorem Cells.obj {n : Nat} {l : List Value} {els : Unit → List (List D)} (h : Cells w S n l (els ())) {b d : Nat} {vs : Array Value} {T : TypeId} (hβ : β d = some b) (hb : w.heap[b]? = some (.cells vs T (0, 0))) (hle : l.length ≤ vs.size)
    (hv : ∀ k, k < l.length → vs.getD k undef = l.getD k undef) : ObjAt w S β d (.arr n els) :=
  .inr ⟨b, vs, T, hβ, hb, by rw [← h.len]; exact hle, h.wid, fun i j hi hj => by
    have := mul_lt hi hj
    rw [← h.len] at this
    rw [hv _ this]
    exact h.at_ i j hi hj⟩

theorem cells_of_obj {n b d : Nat} {els : Unit → List (List D)} (h : ObjAt w S β d (.arr n els)) (hβ : β d = some b) : ∃ vs T, w.heap[b]? = some (.cells vs T (0, 0)) ∧ (els ()).length * n ≤ vs.size ∧ Cells w S n (vs.toList.take ((els ()).length * n)) (els ()) := by
  rcases h with ⟨hn, _⟩ | ⟨b', vs, T, hβ', hb, hsz, hwid, hr⟩
  · rw [hβ] at hn; cases hn
  · rw [hβ] at hβ'
    cases hβ'
    refine ⟨vs, T, hb, hsz, ⟨by simp; omega, hwid, fun i j hi hj => ?_⟩⟩
    have hlt := mul_lt hi hj
    have : (vs.toList.take ((els ()).length * n)).getD (i * n + j) undef = vs.getD (i * n + j) undef := by
      simp only [List.getD_eq_getElem?_getD]
      rw [List.getElem?_take_of_lt hlt]
      simp
    rw [this]
    exact hr i j hi hj

/-- What is appended. -/
theorem src_of {xs : List (List D)} {v : Value} (h : RepD w S v (.sl xs)) {n : Nat} (hn : ∀ e, e ∈ xs → e.length = n) {tx e' : TypeId} (hk : Pg.underlying tx = some (.slice e')) : ∃ news, Src Pg n tx v xs.length news w ∧ Cells w S n news xs := by
  rcases repD_sl h with ⟨rfl, a, cap, rfl⟩ | ⟨b, o, cap, s, vals, hne, hcap, hS, hs, hc, hrr, hone, rfl⟩
  · refine ⟨[], ?_, ⟨by simp, fun e he => by simp at he, fun i j hi => by simp at hi⟩⟩
    cases a with
    | none => exact Src.ofNil w hk cap
    | some ad => exact Src.ofSlice w hk ad 0 cap [] (by simp) (fun j u hj => by simp at hj) (fun u hu => by cases hu)
  · have hsn : s = n := by
      cases xs with
      | nil => exact absurd rfl hne
      | cons x r => rw [← hs x (by simp), hn x (by simp)]
    subst hsn
    by_cases hs0 : s = 0
    · subst hs0
      refine ⟨[], Src.ofSlice w hk _ _ cap [] (by simp) (fun j u hj => by simp at hj) (fun u hu => by cases hu), ⟨by simp, hs, fun i j hi hj => by omega⟩⟩
    have hsp : 0 < s := by omega
    have hg : ∀ k, k < xs.length * s → k / s < xs.length ∧ k % s < s := fun k hk => ⟨(Nat.div_lt_iff_lt_mul hsp).2 hk, Nat.mod_lt _ hsp⟩
    have hgd : ∀ k, k < xs.length * s → ((List.range (xs.length * s)).map fun k => vals (k / s) (k % s))[k]? = some (vals (k / s) (k % s)) := by
      intro k hk
      rw [List.getElem?_map, List.getElem?_range hk]
      rfl
    refine ⟨(List.range (xs.length * s)).map fun k => vals (k / s) (k % s), Src.ofSlice w hk _ _ cap _ (by simp) (fun k u hu => ?_) (fun u hu => ?_), ⟨by simp, hs, fun i j hi hj => ?_⟩⟩
    · have hk : k < xs.length * s := by
        rcases Nat.lt_or_ge k (xs.length * s) with h' | h'
        · exact h'
        · rw [List.getElem?_eq_none (by simpa using h')] at hu; cases hu
      rw [hgd k hk] at hu
      cases hu
      rw [addr_add]
      have := hc (k / s) (k % s) (hg k hk).1 (hg k hk).2
      rw [← this]
      congr 2
      have := Nat.div_add_mod k s
      rw [Nat.mul_comm] at this
      omega
    · obtain ⟨k, hk, rfl⟩ := List.mem_map.1 hu
      exact hone _ _ (hg k (List.mem_range.1 hk)).1 (hg k (List.mem_range.1 hk)).2
    · have hlt := mul_lt hi hj
      have : ((List.range (xs.length * s)).map fun k => vals (k / s) (k % s)).getD (i * s + j) undef = vals i j := by
        rw [List.getD_eq_getElem?_getD, hgd _ hlt]
        have e1 : (i * s + j) / s = i := by rw [Nat.add_comm, Nat.add_mul_div_right _ _ hsp, Nat.div_eq_of_lt hj]; omega
        have e2 : (i * s + j) % s = j := by rw [Nat.add_comm, Nat.add_mul_mod_self_right, Nat.mod_eq_of_lt hj]
        rw [e1, e2]
        rfl
      rw [this]
      exact ⟨hrr i j hi hj, hone i j hi hj⟩

theorem run_append_room_row (t tx tr e : TypeId) (i : TypeInfo) (ht : Pg.underlying t = some (.slice e)) (hi : Pg.info? e = some i) (b off sLen sCap : Nat) (x : Value) (n : Nat) (news : List Value) (hs : Src Pg i.size tx x n news w)
    (hroom : sLen + n ≤ sCap) {cur : Array Value} {T : TypeId} (hb : w.heap[b]? = some (.cells cur T (0, 0))) (hfit : off + sLen * i.size + news.length ≤ cur.size) :
    (Builtin.append_ #[t, tx] tr #[.slice (some ⟨b, off, none⟩) sLen sCap, x]).run Pg w = .ok (.slice (some ⟨b, off, none⟩) (sLen + n) sCap) (w.setRow b (wr cur (off + sLen * i.size) news)) := by
  have hst := run_storeCells_at (P := Pg) b (off + sLen * i.size) T news 0 cur w hb (by simpa using hfit) hs.one
  simp only [Nat.add_zero] at hst
  have hst' : (storeCells ⟨b, off + sLen * i.size, none⟩ news).run Pg w = .ok () (w.setRow b (wr cur (off + sLen * i.size) news)) := hst
  rcases hs.kind with ⟨e', hk⟩ | hk <;> simp [Builtin.append_, run_underlying ht, run_underlying hk, sizeOf, typeInfo, hi, hs.len, hroom, hs.cells, Addr.add_lit, hst']

theorem run_append_none (t tx tr e : TypeId) (i : TypeInfo) (ht : Pg.underlying t = some (.slice e)) (hi : Pg.info? e = some i) (base : Option Addr) (x : Value) (news : List Value) (hs : Src Pg i.size tx x 0 news w) :
    (Builtin.append_ #[t, tx] tr #[.slice base 0 0, x]).run Pg w = .ok (.slice base 0 0) w := by
  have hl : news = [] := List.eq_nil_of_length_eq_zero (by simpa using hs.newsLen)
  subst hl
  cases base <;> rcases hs.kind with ⟨e', hk⟩ | hk <;> simp [Builtin.append_, run_underlying ht, run_underlying hk, sizeOf, typeInfo, hi, hs.len, hs.cells, storeCells]

theorem zeroCells_size (z : Array Value) (n : Nat) : (Builtin.zeroCells z n).size = n * z.size := by simp [Builtin.zeroCells]

theorem getD_app_left {l : List Value} {z : Array Value} {k : Nat} (hk : k < l.length) : (l.toArray ++ z).getD k undef = l.getD k undef := by
  simp [Array.getD_eq_getD_getElem?, Array.getElem?_append, hk]

/-- append onto the call's own row, or onto nil. -/
theorem app_sound {ps : PS} {o : Oper} {c : Call} {t tx : TypeId} {base x : Operand} {d : Nat} (hop : o.op = .call c) (hcl : c.callee = .builtin .append) (hargs : c.args = #[base, x]) (htys : c.argTypes = #[t, tx]) (htx : isSli (ty tx) = true) (hod : o.dst = some d) (hd : d < N)
    {K : PS → Prop} {Km : Act → World → Prop} {Q : Exit → Act → World → Prop} (h : Sim w0 S0 K0 N (lookT ps.tmps) ps.objs a w S β) {n b : Nat} {z : List PV} {xs : Unit → List (List D)} (hty : ty t = .sli n b z)
    (hx : ev (lookT ps.tmps) x = .sl xs ∨ (ev (lookT ps.tmps) x = .nil ∧ xs () = [])) (hwid : Wid n xs)
    (hs : (ev (lookT ps.tmps) base = .nil ∧ Room (fun _ => ((xs ()).length : Nat)) b ∧ freeOf d ps = true ∧ K ⟨putT ps.tmps d (.osl d n (fun _ => 0) (fun _ => (xs ()).length)), ps.objs ++ [(d, .arr n xs)]⟩) ∨
     (∃ m o len els, ev (lookT ps.tmps) base = .osl m n o len ∧ getO ps.objs m = some (.arr n els) ∧ o () = 0 ∧ len () = (els ()).length ∧ Room (fun _ => (((els ()).length + (xs ()).length : Nat) : Int)) b ∧
       freeOf d ⟨mapT (scr m) ps.tmps, mapO (scr m) (delO ps.objs m)⟩ = true ∧
       K ⟨putT (mapT (scr m) ps.tmps) d (.osl d n (fun _ => 0) (fun _ => (els ()).length + (xs ()).length)), mapO (scr m) (delO ps.objs m) ++ [(d, .arr n (fun _ => els () ++ xs ()))]⟩))
    (hk : ∀ ps' a' w' S' β', K ps' → Sim w0 S0 K0 N (lookT ps'.tmps) ps'.objs a' w' S' β' → Km a' w') : o.wp Pg a w Km Q := by
  obtain ⟨inf, el, j, zv, h1, h2, h3, h4, h5, h6, h7, h8, h9, h10, h11, h12⟩ := ty_sli hty
  obtain ⟨e', hk'⟩ : ∃ e', Pg.underlying tx = some (.slice e') := by
    cases htx' : ty tx with
    | sli n' b' z' => obtain ⟨_, e', _, _, _, _, _, g4, _⟩ := ty_sli htx'; exact ⟨e', g4⟩
    | _ => rw [htx'] at htx; cases htx
  have hrx := h.eval x; have hrb := h.eval base
  have hxd : RepD w S (a.eval x) (.sl (xs ())) := by
    rcases hx with hx | ⟨hx, hx0⟩
    · rw [hx] at hrx; exact rep_sl hrx
    · rw [hx] at hrx
      obtain ⟨aa, hv⟩ := rep_nil hrx
      rw [hv, hx0]
      exact .sl0 _ _
  obtain ⟨news, hsrc, hcells⟩ := src_of hxd hwid.h hk'
  rw [← h7] at hsrc
  have hgo : ∀ v w', (Builtin.append_ #[t, tx] o.type #[a.eval base, a.eval x]).run Pg w = .ok v w' → Km (a.put (some d) v) w' → o.wp Pg a w Km Q := by
    intro v w' hr hkm
    refine wp_val (v := v) (w' := w') ?_ (by rw [hod]; exact hkm)
    simp [execOp, hop, resolve, hcl, invoke, Go.builtin, hargs, htys, hr]
  -- a new row
  have grow : ∀ {qs : PS} {β1 : Nat → Option Nat} (hq : Sim w0 S0 K0 N (lookT qs.tmps) qs.objs a w S β1) (hf : freeOf d qs = true) (av : Option Addr) (sLen sCap : Nat) (olds : List Value) (els : Unit → List (List D)) (hba : a.eval base = .slice av sLen sCap)
      (hold : (Builtin.firstCells j.size sLen (.slice av sLen sCap)).run Pg w.drew = .ok olds.toArray w.drew) (hce : Cells w S n olds (els ())) (hsl : sLen = (els ()).length) (hg : sCap < sLen + (xs ()).length)
      (hroom : ((sLen + (xs ()).length : Nat) : Int) * (b : Int) ≤ 70368744177664)
      (hK : K ⟨putT qs.tmps d (.osl d n (fun _ => 0) (fun _ => (els ()).length + (xs ()).length)), qs.objs ++ [(d, .arr n (fun _ => els () ++ xs ()))]⟩), o.wp Pg a w Km Q := by
    intro qs β1 hq hf av sLen sCap olds els hba hold hce hsl hg hroom hK
    have hb1 : sLen + (xs ()).length ≤ (sLen + (xs ()).length) * b := Nat.le_mul_of_pos_right _ h12
    have hroom' : (sLen + (xs ()).length) * b ≤ 70368744177664 := by
      have : (((sLen + (xs ()).length) * b : Nat) : Int) ≤ 70368744177664 := by rw [Int.natCast_mul]; exact hroom
      omega
    have hfit : Builtin.nextslicecap (sLen + (xs ()).length) sCap * j.bytes ≤ 281474976710656 := by
      have := nextslicecap_le hg
      rw [h8]
      calc _ ≤ (2 * (sLen + (xs ()).length)) * b := Nat.mul_le_mul_right _ this
        _ = 2 * ((sLen + (xs ()).length) * b) := by rw [Nat.mul_assoc]
        _ ≤ _ := by omega
    have hrun := run_append_grow_src (P := Pg) w t tx o.type el j zv h4 h5 h6 av sLen sCap olds hold (a.eval x) (xs ()).length news hsrc hg (by omega) hfit
    rw [← hba] at hrun
    refine hgo _ _ hrun ?_
    generalize hcap : grownCap w (sLen + (xs ()).length) sCap el = cap
    have hge : sLen + (xs ()).length ≤ cap := by rw [← hcap]; exact grownCap_ge w _ _ _
    have hld1 := drew_leads (w := w) (S := S) h.ld.bnd
    have hbd : ∀ c, S c → c < w.drew.heap.size := h.ld.bnd
    have hld2 := alloc_leads0 (w := w.drew) (S := S) hbd (.cells ((olds ++ news).toArray ++ Builtin.zeroCells zv.cells (cap - (sLen + (xs ()).length))) el)
    have hld := hld1.trans hld2
    have hcc := (hce.append hcells)
    have hcl' : (olds ++ news).length = (sLen + (xs ()).length) * n := by rw [hcc.len, List.length_append, hsl]
    have hsz : ((olds ++ news).toArray ++ Builtin.zeroCells zv.cells (cap - (sLen + (xs ()).length))).size = cap * n := by
      rw [Array.size_append, zeroCells_size, h9, List.size_toArray, hcl', ← Nat.add_mul]
      congr 1
      omega
    have hblk : (w.drew.alloc (.cells ((olds ++ news).toArray ++ Builtin.zeroCells zv.cells (cap - (sLen + (xs ()).length))) el)).heap[w.heap.size]? = some (.cells ((olds ++ news).toArray ++ Builtin.zeroCells zv.cells (cap - (sLen + (xs ()).length))) el (0, 0)) := heap_alloc_new w.drew _
    have hn := hq.newObj (b := w.heap.size) (o := .arr n (fun _ => els () ++ xs ())) hf hld (Nat.le_refl _) (by simp)
      (Cells.obj (l := olds ++ news) (hcc.evo (hld.evo h.ld.bnd).same (hld.subs h.ld.bnd)) updB_eq hblk (by rw [hsz, hcl']; exact Nat.mul_le_mul_right _ hge) (fun k hk => getD_app_left hk))
    refine hk _ _ _ _ _ hK (hn.putT' d hd ?_)
    have := Rep.osl (w := w.drew.alloc (.cells ((olds ++ news).toArray ++ Builtin.zeroCells zv.cells (cap - (sLen + (xs ()).length))) el)) (S := S) (β := updB β1 d (some w.heap.size)) (n := d) (s := n) (cap := cap) (b := w.heap.size) (o := fun _ => 0) (len := fun _ => (els ()).length + (xs ()).length)
      updB_eq (by rw [← hsl]; exact hge) hblk (by rw [hsz, Nat.zero_add]; exact Nat.le_refl _)
    rw [Nat.zero_mul] at this
    have e : Value.slice (some ⟨w.heap.size, 0, none⟩) (sLen + (xs ()).length) cap = Value.slice (some ⟨w.heap.size, 0, none⟩) ((els ()).length + (xs ()).length) cap := by rw [hsl]
    rw [e]
    exact this
  -- onto an empty one
  have onNil : ∀ {qs : PS} {β1 : Nat → Option Nat} (hq : Sim w0 S0 K0 N (lookT qs.tmps) qs.objs a w S β1) (hf : freeOf d qs = true) (av : Option Addr) (hba : a.eval base = .slice av 0 0) (els : Unit → List (List D)) (he0 : els () = [])
      (hroom : (((xs ()).length : Nat) : Int) * (b : Int) ≤ 70368744177664)
      (hK : K ⟨putT qs.tmps d (.osl d n (fun _ => 0) (fun _ => (els ()).length + (xs ()).length)), qs.objs ++ [(d, .arr n (fun _ => els () ++ xs ()))]⟩), o.wp Pg a w Km Q := by
    intro qs β1 hq hf av hba els he0 hroom hK
    by_cases hx0 : (xs ()).length = 0
    · have hsrc' := hsrc
      rw [hx0] at hsrc'
      have hrun := run_append_none (w := w) t tx o.type el j h4 h5 av (a.eval x) news hsrc'
      rw [← hba] at hrun
      refine hgo _ _ hrun ?_
      have hxe : xs () = [] := List.eq_nil_of_length_eq_zero hx0
      have hn := hq.newNil (n := d) (s := n) (els := fun _ => els () ++ xs ()) hf (by rw [he0, hxe]; rfl)
      refine hk _ _ _ _ _ hK (hn.putT' d hd ?_)
      rw [hba]
      exact .osl0 updB_eq rfl (by show (els ()).length + (xs ()).length = 0; rw [he0, hx0]; rfl)
    · refine grow hq hf av 0 0 [] els hba ?_ ⟨by rw [he0]; simp, fun e he => (by rw [he0] at he; cases he), fun i j hi => (by rw [he0] at hi; simp at hi)⟩ (by rw [he0]; rfl) (by omega) (by rw [Nat.zero_add]; exact hroom) hK
      cases av with
      | none => exact run_firstCells_none w.drew j.size 0 0 0
      | some ad => exact run_firstCells_some w.drew j.size 0 ad 0 0 [] (by simp) (fun j u hj => by simp at hj)
  rcases hs with ⟨hb, hR, hf, hK⟩ | ⟨m, oo, len, els, hb, ho, ho0, hlen, hR, hf, hK⟩
  · rw [hb] at hrb
    obtain ⟨av, hv⟩ := rep_nil hrb
    have hK' : K ⟨putT ps.tmps d (.osl d n (fun _ => 0) (fun _ => ((fun _ => []) () : List (List D)).length + (xs ()).length)), ps.objs ++ [(d, .arr n (fun _ => ((fun _ => []) () : List (List D)) ++ xs ()))]⟩ := by
      have e1 : (fun _ : Unit => ([] : List (List D)).length + (xs ()).length) = fun _ => (xs ()).length := by funext _; simp
      have e2 : (fun _ : Unit => ([] : List (List D)) ++ xs ()) = xs := by funext _; rfl
      show K ⟨putT ps.tmps d (.osl d n (fun _ => 0) (fun _ : Unit => ([] : List (List D)).length + (xs ()).length)), ps.objs ++ [(d, .arr n (fun _ : Unit => ([] : List (List D)) ++ xs ()))]⟩
      rw [e1, e2]
      exact hK
    exact onNil h hf av hv (fun _ => []) rfl hR.hi hK'
  · rw [hb] at hrb
    have hmem := getO_mem ho
    have hdrop := h.drop m
    have hq : Sim w0 S0 K0 N (lookT (PS.mk (mapT (scr m) ps.tmps) (mapO (scr m) (delO ps.objs m))).tmps) (PS.mk (mapT (scr m) ps.tmps) (mapO (scr m) (delO ps.objs m))).objs a w S β := hdrop
    rcases rep_osl hrb with ⟨hn, _, hl0, av, hv⟩ | ⟨bb, cap, vs, T, hβ, hlc, hw, hsz, hv⟩
    · have he0 : els () = [] := List.eq_nil_of_length_eq_zero (by omega)
      exact onNil hq hf av hv els he0 (by have := hR.hi; rw [he0] at this; simpa using this) hK
    · obtain ⟨vs', T', hw', hlen', hce⟩ := cells_of_obj (h.obj.at_ m _ hmem) hβ
      rw [hw] at hw'
      cases hw'
      rw [ho0, Nat.zero_mul] at hv
      rw [ho0, Nat.zero_add] at hsz
      obtain ⟨hnS, hlt⟩ := h.obj.un m _ bb hmem hβ
      by_cases hroom : len () + (xs ()).length ≤ cap
      · have hnl : news.length = (xs ()).length * n := hcells.len
        have hfit : 0 + len () * j.size + news.length ≤ vs.size := by
          rw [h7, hnl, Nat.zero_add, ← Nat.add_mul]
          exact Nat.le_trans (Nat.mul_le_mul_right _ hroom) hsz
        have hrun := run_append_room_row (w := w) t tx o.type el j h4 h5 bb 0 (len ()) cap (a.eval x) (xs ()).length news hsrc hroom hw hfit
        rw [← hv] at hrun
        refine hgo _ _ hrun ?_
        have hfree := drop_free h hmem hβ
        have hwsz := wr_size hfit
        have hwild := Sim.wild hq (vs' := wr vs (0 + len () * j.size) news) hnS hfree (h.own m _ bb hmem hβ) hw hwsz
        have he := evo_setRow (w := w) (S := S) (vs' := wr vs (0 + len () * j.size) news) hnS hw hwsz
        have hcc := hce.append hcells
        have hcl' : (vs.toList.take ((els ()).length * n) ++ news).length = ((els ()).length + (xs ()).length) * n := by rw [hcc.len, List.length_append]
        have hblk : (w.setRow bb (wr vs (0 + len () * j.size) news)).heap[bb]? = some (.cells (wr vs (0 + len () * j.size) news) T (0, 0)) := setRow_heap w bb vs _ T _ hw
        have hadd := Sim.addObj (ps := PS.mk (mapT (scr m) ps.tmps) (mapO (scr m) (delO ps.objs m))) hwild (o := .arr n (fun _ => els () ++ xs ())) hf hnS (by simpa using hlt) hfree (h.own m _ bb hmem hβ)
          (Cells.obj (l := vs.toList.take ((els ()).length * n) ++ news) (hcc.evo he.same (fun _ h => h)) updB_eq hblk (by rw [hwsz, hcl', ← hlen]; exact Nat.le_trans (Nat.mul_le_mul_right _ hroom) hsz) (fun k hk => by
            rw [wr_getD hfit]
            have htl : (vs.toList.take ((els ()).length * n)).length = (els ()).length * n := by simp; omega
            rw [h7, Nat.zero_add, hlen]
            rw [hcl', Nat.add_mul] at hk
            by_cases hkl : k < (els ()).length * n
            · rw [if_neg (by omega), List.getD_eq_getElem?_getD, List.getElem?_append_left (by rw [htl]; exact hkl), List.getElem?_take_of_lt hkl]
              simp
            · rw [if_pos (by omega)]
              simp only [List.getD_eq_getElem?_getD]
              rw [List.getElem?_append_right (by rw [htl]; omega), htl]))
        refine hk _ _ _ _ _ hK (hadd.putT' d hd ?_)
        have := Rep.osl (w := w.setRow bb (wr vs (0 + len () * j.size) news)) (S := S) (β := updB β d (some bb)) (n := d) (s := n) (cap := cap) (b := bb) (o := fun _ => 0) (len := fun _ => (els ()).length + (xs ()).length)
          updB_eq (by rw [← hlen]; exact hroom) hblk (by rw [hwsz, Nat.zero_add]; exact hsz)
        rw [Nat.zero_mul] at this
        have e : Value.slice (some ⟨bb, 0, none⟩) (len () + (xs ()).length) cap = Value.slice (some ⟨bb, 0, none⟩) ((els ()).length + (xs ()).length) cap := by rw [hlen]
        rw [e]
        exact this
      · refine grow hq hf (some ⟨bb, 0, none⟩) (len ()) cap (vs.toList.take ((els ()).length * n)) els hv ?_ hce hlen (by omega) (by rw [hlen]; exact hR.hi) hK
        refine run_firstCells_some w.drew j.size (len ()) ⟨bb, 0, none⟩ (len ()) cap _ (by rw [h7, hlen]; exact hce.len) (fun k u hu => ?_)
        have hkl : k < (els ()).length * n := by
          rcases Nat.lt_or_ge k ((els ()).length * n) with h' | h'
          · exact h'
          · rw [List.getElem?_eq_none (by simp; omega)] at hu; cases hu
        rw [List.getElem?_take_of_lt hkl] at hu
        rw [addr_add, Nat.zero_add]
        have hc := cell_at hw k (by omega)
        have : vs.getD k undef = u := by
          have : vs[k]? = some u := by simpa using hu
          simp [this]
        rw [this] at hc
        exact hc

/-- append onto nil: a row of its own that nobody writes to. -/
theorem appnil_sound {o : Oper} {c : Call} {t tx : TypeId} {base x : Operand} (hop : o.op = .call c) (hcl : c.callee = .builtin .append) (hargs : c.args = #[base, x]) (htys : c.argTypes = #[t, tx]) (htx : isSli (ty tx) = true)
    {K : PV → Prop} {Km : Act → World → Prop} {Q : Exit → Act → World → Prop} (h : Sim w0 S0 K0 N τ objs a w S β) {n b : Nat} {z : List PV} (hty : ty t = .sli n b z) (hbn : ev τ base = .nil) (hs : appN n b (ev τ x) K)
    (hk : ∀ pv w' S' v, K pv → Leads w S nobody w' S' → Rep w' S' β v pv → Km (a.put o.dst v) w') : o.wp Pg a w Km Q := by
  obtain ⟨inf, el, j, zv, h1, h2, h3, h4, h5, h6, h7, h8, h9, h10, h11, h12⟩ := ty_sli hty
  obtain ⟨e', hk'⟩ : ∃ e', Pg.underlying tx = some (.slice e') := by
    cases htx' : ty tx with
    | sli n' b' z' => obtain ⟨_, e', _, _, _, _, _, g4, _⟩ := ty_sli htx'; exact ⟨e', g4⟩
    | _ => rw [htx'] at htx; cases htx
  have hrx := h.eval x; have hrb := h.eval base
  rw [hbn] at hrb
  obtain ⟨av, hba⟩ := rep_nil hrb
  have hgo : ∀ v w', (Builtin.append_ #[t, tx] o.type #[a.eval base, a.eval x]).run Pg w = .ok v w' → Km (a.put o.dst v) w' → o.wp Pg a w Km Q := by
    intro v w' hr hkm
    refine wp_val (v := v) (w' := w') ?_ hkm
    simp [execOp, hop, resolve, hcl, invoke, Go.builtin, hargs, htys, hr]
  obtain ⟨xs, hwid, hR, hxd, hK, hK0⟩ : ∃ xs : Unit → List (List D), Wid n xs ∧ Room (fun _ => ((xs ()).length : Nat)) b ∧ RepD w S (a.eval x) (.sl (xs ())) ∧ (xs () ≠ [] → K (.sl xs)) ∧ (xs () = [] → ∃ pv, K pv ∧ ∀ w' S' aa, Rep w' S' β (.slice aa 0 0) pv) := by
    unfold appN at hs
    split at hs
    · rename_i xs hx
      rw [hx] at hrx
      exact ⟨xs, hs.1, hs.2.1, rep_sl hrx, fun _ => hs.2.2, fun e => ⟨_, hs.2.2, fun w' S' aa => .c rfl (by show RepD _ _ _ (.sl (xs ())); rw [e]; exact .sl0 _ _)⟩⟩
    · rename_i hx
      rw [hx] at hrx
      obtain ⟨aa, hv⟩ := rep_nil hrx
      exact ⟨fun _ => [], ⟨fun e he => absurd he (by simp)⟩, ⟨by simp, by simp⟩, by rw [hv]; exact .sl0 _ _, fun e => absurd rfl e, fun _ => ⟨_, hs, fun w' S' aa => .nil aa⟩⟩
    · exact hs.elim
  obtain ⟨news, hsrc, hcells⟩ := src_of hxd hwid.h hk'
  rw [← h7] at hsrc
  by_cases hx0 : (xs ()).length = 0
  · have hsrc' := hsrc
    rw [hx0] at hsrc'
    have hrun := run_append_none (w := w) t tx o.type el j h4 h5 av (a.eval x) news hsrc'
    rw [← hba] at hrun
    obtain ⟨pv, q1, q2⟩ := hK0 (List.eq_nil_of_length_eq_zero hx0)
    refine hgo _ _ hrun ?_
    refine hk _ _ _ _ q1 (Leads.refl h.ld.bnd) ?_
    rw [hba]
    exact q2 _ _ _
  · have hne : xs () ≠ [] := fun e => hx0 (by rw [e]; rfl)
    have hold : (Builtin.firstCells j.size 0 (.slice av 0 0)).run Pg w.drew = .ok ([] : List Value).toArray w.drew := by
      cases av with
      | none => exact run_firstCells_none w.drew j.size 0 0 0
      | some ad => exact run_firstCells_some w.drew j.size 0 ad 0 0 [] (by simp) (fun j u hj => by simp at hj)
    have hb1 : (xs ()).length ≤ (xs ()).length * b := Nat.le_mul_of_pos_right _ h12
    have hroom' : (xs ()).length * b ≤ 70368744177664 := by
      have := hR.hi
      have : (((xs ()).length * b : Nat) : Int) ≤ 70368744177664 := by rw [Int.natCast_mul]; exact this
      omega
    have hfit : Builtin.nextslicecap (0 + (xs ()).length) 0 * j.bytes ≤ 281474976710656 := by
      have := nextslicecap_le (show 0 < 0 + (xs ()).length by omega)
      rw [h8]
      calc _ ≤ (2 * (0 + (xs ()).length)) * b := Nat.mul_le_mul_right _ this
        _ = 2 * ((xs ()).length * b) := by rw [Nat.zero_add, Nat.mul_assoc]
        _ ≤ _ := by omega
    have hrun := run_append_grow_src (P := Pg) w t tx o.type el j zv h4 h5 h6 av 0 0 [] hold (a.eval x) (xs ()).length news hsrc (by omega) (by omega) hfit
    rw [← hba] at hrun
    refine hgo _ _ hrun ?_
    generalize hcap : grownCap w (0 + (xs ()).length) 0 el = cap
    have hge : 0 + (xs ()).length ≤ cap := by rw [← hcap]; exact grownCap_ge w _ _ _
    have hld1 := drew_leads (w := w) (S := S) h.ld.bnd
    have hbd : ∀ c, S c → c < w.drew.heap.size := h.ld.bnd
    have hld2 := alloc_leads (w := w.drew) (S := S) hbd (.cells (([] ++ news).toArray ++ Builtin.zeroCells zv.cells (cap - (0 + (xs ()).length))) el)
    have hld := hld1.trans hld2
    have hsz : (([] ++ news).toArray ++ Builtin.zeroCells zv.cells (cap - (0 + (xs ()).length))).size = cap * n := by
      rw [Array.size_append, zeroCells_size, h9, List.size_toArray, List.nil_append, hcells.len, ← Nat.add_mul]
      congr 1
      omega
    have hblk : (w.drew.alloc (.cells (([] ++ news).toArray ++ Builtin.zeroCells zv.cells (cap - (0 + (xs ()).length))) el)).heap[w.heap.size]? = some (.cells (([] ++ news).toArray ++ Builtin.zeroCells zv.cells (cap - (0 + (xs ()).length))) el (0, 0)) := heap_alloc_new w.drew _
    have hce := hcells.evo (hld.evo h.ld.bnd).same (hld.subs h.ld.bnd)
    refine hk _ _ _ _ (hK hne) hld (.c rfl ?_)
    show RepD _ _ _ (.sl (xs ()))
    refine (congrArg (fun m => RepD (w.drew.alloc (.cells (([] ++ news).toArray ++ Builtin.zeroCells zv.cells (cap - (0 + (xs ()).length))) el)) _ (.slice (some ⟨w.heap.size, 0, none⟩) m cap) (.sl (xs ()))) (Nat.zero_add (xs ()).length)).mpr ?_
    have hin : ∀ i q, i < (xs ()).length → q < n → i * n + q < news.length := fun i q hi hq => by rw [hcells.len]; exact mul_lt hi hq
    have hval : ∀ k, k < news.length → (([] ++ news).toArray ++ Builtin.zeroCells zv.cells (cap - (0 + (xs ()).length))).getD k undef = news.getD k undef := fun k hk => getD_app_left hk
    refine RepD.sl (s := n) (fun i q => news.getD (i * n + q) undef) hne (by omega) (Or.inr rfl) hcells.wid (fun i q hi hq => ?_) (fun i q hi hq => (hce.at_ i q hi hq).2) (fun i q hi hq => (hce.at_ i q hi hq).1)
    have hlt := hin i q hi hq
    have hlt2 : i * n + q < (([] ++ news).toArray ++ Builtin.zeroCells zv.cells (cap - (0 + (xs ()).length))).size := by
      rw [Array.size_append, List.size_toArray, List.nil_append]; omega
    have hca := cell_at hblk _ hlt2
    rw [hval _ hlt] at hca
    rw [show 0 + i * n + q = i * n + q by omega]
    exact hca

end
end Go.Proofs.YtbehbhicjmjdhaaGreat

namespace Go.Proofs.YtbehbhicjmjdhaaGreat
open Go
set_option linter.unusedVariables false
set_option linter.unusedSimpArgs false

section
variable {w0 : World} {S0 K0 : Nat → Prop} {N : Cx} {τ : Nat → PV} {objs : List (Nat × Obj')} {a : Act} {w w' : World} {S S' : Nat → Prop} {β β' βf : Nat → Option Nat} {h : Nat → Nat}

/-! ### Names -/

theorem ren0_in {v pv} (r : Rep w S β v (rn0 h pv)) (hl : lv0 pv = true) : Rep w S (fun n => β (h n)) v pv := by
  cases pv with
  | agg cs => simp [lv0] at hl
  | tup cs => simp [lv0] at hl
  | fn f cs => simp [lv0] at hl
  | ptr m off => obtain ⟨b, hβ, rfl⟩ := rep_ptr r; exact .ptr hβ
  | aptr m s i off => obtain ⟨b, hβ, rfl⟩ := rep_aptr r; exact .aptr hβ
  | osl m s i len =>
    rcases rep_osl r with ⟨hn, ho, hl, aa, rfl⟩ | ⟨b, cap, vs, T, hβ, hlc, hw, hsz, rfl⟩
    · exact .osl0 hn ho hl
    · exact .osl hβ hlc hw hsz
  | nil => obtain ⟨aa, rfl⟩ := rep_nil r; exact .nil aa
  | dptr cs o => obtain ⟨b, o', vals, hS, rfl, hf, hc, hr⟩ := rep_dptr r; exact .dptr vals hS hf hc hr
  | nilf => cases r with | c hf h => cases hf | nilf => exact .nilf
  | _ => exact .c rfl (rep_flat r rfl)

theorem ren1_in {v pv} (r : Rep w S β v (rn1 h pv)) (hl : lv1 pv = true) : Rep w S (fun n => β (h n)) v pv := by
  cases pv with
  | agg cs =>
    obtain ⟨vs, rfl, h1, h2⟩ := rep_agg r
    rw [mapC_length] at h1
    exact .agg h1 fun j hj => ren0_in (by have := h2 j (by rw [mapC_length]; exact hj); rwa [mapC_getD _ rfl] at this) (allL_mem (by simpa only [lv1] using hl) j hj)
  | tup cs =>
    obtain ⟨vs, rfl, h1, h2⟩ := rep_tup r
    rw [mapC_length] at h1
    exact .tup h1 fun j hj => ren0_in (by have := h2 j (by rw [mapC_length]; exact hj); rwa [mapC_getD _ rfl] at this) (allL_mem (by simpa only [lv1] using hl) j hj)
  | fn f cs =>
    obtain ⟨vs, rfl, h1, h2⟩ := rep_fn r
    rw [mapC_length] at h1
    exact .fn h1 fun j hj => ren0_in (by have := h2 j (by rw [mapC_length]; exact hj); rwa [mapC_getD _ rfl] at this) (allL_mem (by simpa only [lv1] using hl) j hj)
  | _ => exact ren0_in r rfl

theorem ren_in {v pv} (r : Rep w S β v (ren h pv)) (hl : lv pv = true) : Rep w S (fun n => β (h n)) v pv := by
  cases pv with
  | agg cs =>
    obtain ⟨vs, rfl, h1, h2⟩ := rep_agg r
    rw [mapC_length] at h1
    exact .agg h1 fun j hj => ren1_in (by have := h2 j (by rw [mapC_length]; exact hj); rwa [mapC_getD _ rfl] at this) (allL_mem (by simpa only [lv] using hl) j hj)
  | tup cs =>
    obtain ⟨vs, rfl, h1, h2⟩ := rep_tup r
    rw [mapC_length] at h1
    exact .tup h1 fun j hj => ren1_in (by have := h2 j (by rw [mapC_length]; exact hj); rwa [mapC_getD _ rfl] at this) (allL_mem (by simpa only [lv] using hl) j hj)
  | fn f cs =>
    obtain ⟨vs, rfl, h1, h2⟩ := rep_fn r
    rw [mapC_length] at h1
    exact .fn h1 fun j hj => ren1_in (by have := h2 j (by rw [mapC_length]; exact hj); rwa [mapC_getD _ rfl] at this) (allL_mem (by simpa only [lv] using hl) j hj)
  | _ => exact ren0_in r rfl

theorem ren0_out {l : List Nat} (hl' : ∀ n, n ∈ l → βf (h n) = β' n) {v pv} (r : Rep w S β' v pv) (hn : nm0 l pv = true) : Rep w S βf v (rn0 h pv) := by
  cases pv with
  | agg cs => simp [nm0] at hn
  | tup cs => simp [nm0] at hn
  | fn f cs => simp [nm0] at hn
  | ptr m off => obtain ⟨b, hβ, rfl⟩ := rep_ptr r; exact .ptr (by rw [hl' _ (nmHas_mem (by simpa only [nm0] using hn))]; exact hβ)
  | aptr m s i off => obtain ⟨b, hβ, rfl⟩ := rep_aptr r; exact .aptr (by rw [hl' _ (nmHas_mem (by simpa only [nm0] using hn))]; exact hβ)
  | osl m s i len =>
    have e := hl' _ (nmHas_mem (by simpa only [nm0] using hn))
    rcases rep_osl r with ⟨hn, ho, hl, aa, rfl⟩ | ⟨b, cap, vs, T, hβ, hlc, hw, hsz, rfl⟩
    · exact .osl0 (by rw [e]; exact hn) ho hl
    · exact .osl (by rw [e]; exact hβ) hlc hw hsz
  | nil => obtain ⟨aa, rfl⟩ := rep_nil r; exact .nil aa
  | dptr cs o => obtain ⟨b, o', vals, hS, rfl, hf, hc, hr⟩ := rep_dptr r; exact .dptr vals hS hf hc hr
  | nilf => cases r with | c hf h => cases hf | nilf => exact .nilf
  | _ => exact .c rfl (rep_flat r rfl)

theorem ren1_out {l : List Nat} (hl' : ∀ n, n ∈ l → βf (h n) = β' n) {v pv} (r : Rep w S β' v pv) (hn : nm1 l pv = true) : Rep w S βf v (rn1 h pv) := by
  cases pv with
  | agg cs =>
    obtain ⟨vs, rfl, h1, h2⟩ := rep_agg r
    exact .agg (by rw [mapC_length]; exact h1) fun j hj => by rw [mapC_length] at hj; rw [mapC_getD _ rfl]; exact ren0_out hl' (h2 j hj) (allL_mem (by simpa only [nm1] using hn) j hj)
  | tup cs =>
    obtain ⟨vs, rfl, h1, h2⟩ := rep_tup r
    exact .tup (by rw [mapC_length]; exact h1) fun j hj => by rw [mapC_length] at hj; rw [mapC_getD _ rfl]; exact ren0_out hl' (h2 j hj) (allL_mem (by simpa only [nm1] using hn) j hj)
  | fn f cs =>
    obtain ⟨vs, rfl, h1, h2⟩ := rep_fn r
    exact .fn (by rw [mapC_length]; exact h1) fun j hj => by rw [mapC_length] at hj; rw [mapC_getD _ rfl]; exact ren0_out hl' (h2 j hj) (allL_mem (by simpa only [nm1] using hn) j hj)
  | _ => exact ren0_out hl' r hn

theorem ren_out {l : List Nat} (hl' : ∀ n, n ∈ l → βf (h n) = β' n) {v pv} (r : Rep w S β' v pv) (hn : nmIn l pv = true) : Rep w S βf v (ren h pv) := by
  cases pv with
  | agg cs =>
    obtain ⟨vs, rfl, h1, h2⟩ := rep_agg r
    exact .agg (by rw [mapC_length]; exact h1) fun j hj => by rw [mapC_length] at hj; rw [mapC_getD _ rfl]; exact ren1_out hl' (h2 j hj) (allL_mem (by simpa only [nmIn] using hn) j hj)
  | tup cs =>
    obtain ⟨vs, rfl, h1, h2⟩ := rep_tup r
    exact .tup (by rw [mapC_length]; exact h1) fun j hj => by rw [mapC_length] at hj; rw [mapC_getD _ rfl]; exact ren1_out hl' (h2 j hj) (allL_mem (by simpa only [nmIn] using hn) j hj)
  | fn f cs =>
    obtain ⟨vs, rfl, h1, h2⟩ := rep_fn r
    exact .fn (by rw [mapC_length]; exact h1) fun j hj => by rw [mapC_length] at hj; rw [mapC_getD _ rfl]; exact ren1_out hl' (h2 j hj) (allL_mem (by simpa only [nmIn] using hn) j hj)
  | _ => exact ren0_out hl' r hn

/-! ### Closed objects -/

theorem closed_at {n m : Nat} {o : Obj'} (hc : closedO o = true) (hat : ObjAt w S β' n o) (he : β m = β' n) : ObjAt w S β m o := by
  cases o with
  | box cs =>
    obtain ⟨b, vs, T, e1, e2, e3, e4⟩ := hat
    refine ⟨b, vs, T, by rw [he]; exact e1, e2, e3, fun j hj => ?_⟩
    have hs := allL_mem (by simpa only [closedO] using hc) j hj
    have hr := e4 j hj
    generalize hx : cs.getD j .any = x at hs hr ⊢
    cases x with
    | nil => obtain ⟨aa, hv⟩ := rep_nil hr; rw [hv]; exact .nil aa
    | _ => first | (simp [stor, flat] at hs; done) | exact .c rfl (rep_flat hr rfl)
  | arr s els =>
    rcases hat with ⟨e0, e⟩ | ⟨b, vs, T, e1, rest⟩
    · exact .inl ⟨by rw [he]; exact e0, e⟩
    · exact .inr ⟨b, vs, T, by rw [he]; exact e1, rest⟩

theorem stor_free (n : Nat) : ∀ {cs : List PV}, allL stor cs = true → refFreeL n cs = true
  | [], _ => rfl
  | c :: cs, h => by
    simp only [allL, Bool.and_eq_true] at h
    simp only [refFreeL, allL, Bool.and_eq_true]
    exact ⟨by cases c <;> simp_all [stor, flat, refFree, rf0], stor_free n h.2⟩

theorem closed_boxFree {n : Nat} {o : Obj'} (hc : closedO o = true) : boxFree n o := by
  cases o with
  | box cs => exact stor_free n hc
  | arr s els => trivial

theorem refFreeO_of {n : Nat} (hn : n < 1000000) : ∀ {l : List (Nat × Obj')}, (∀ m o, (m, o) ∈ l → m ≠ n ∧ boxFree n o) → refFreeO n l = true
  | [], _ => by simp [refFreeO, nlt]; omega
  | (m, .box cs) :: r, h => by
    have h1 := h m _ List.mem_cons_self
    simp only [refFreeO, Bool.and_eq_true]
    exact ⟨⟨by rw [nbeq h1.1]; rfl, h1.2⟩, refFreeO_of hn fun m o hm => h m o (List.mem_cons_of_mem _ hm)⟩
  | (m, .arr s els) :: r, h => by
    have h1 := h m _ List.mem_cons_self
    simp only [refFreeO, Bool.and_eq_true]
    exact ⟨by rw [nbeq h1.1]; rfl, refFreeO_of hn fun m o hm => h m o (List.mem_cons_of_mem _ hm)⟩

/-! ### Several objects are gone -/

theorem scrs_rep : ∀ (l : List Nat) {v pv}, Rep w S β v pv → Rep w S β v (scrs l pv)
  | [], v, pv, h => h
  | n :: r, v, pv, h => scrs_rep r (scr_rep h)
theorem scrs_any : ∀ (l : List Nat), scrs l .any = .any
  | [] => rfl
  | n :: r => scrs_any r
theorem mem_dels : ∀ {l : List Nat} {objs : List (Nat × Obj')} {m : Nat} {o : Obj'}, (m, o) ∈ dels l objs → (m, o) ∈ objs ∧ m ∉ l
  | [], objs, m, o, h => ⟨h, by simp⟩
  | n :: r, objs, m, o, h => by
    obtain ⟨h1, h2⟩ := mem_dels (l := r) h
    obtain ⟨h3, h4⟩ := mem_delO h1
    exact ⟨h3, by simp [h2, h4]⟩
theorem dels_sub : ∀ (l : List Nat) (objs : List (Nat × Obj')), ((dels l objs).map Prod.fst).Sublist (objs.map Prod.fst)
  | [], objs => List.Sublist.refl _
  | n :: r, objs => (dels_sub r _).trans (delO_sub _ _)

theorem mem_delO' : ∀ {l : List (Nat × Obj')} {n m : Nat} {o : Obj'}, (m, o) ∈ l → m ≠ n → (m, o) ∈ delO l n
  | (u, x) :: r, n, m, o, h, hne => by
    simp only [delO]
    simp only [List.mem_cons] at h
    cases hu : nqb u n with
    | true =>
      have := nqb_eq hu
      subst this
      simp only [cond_true]
      rcases h with h | h
      · cases h; exact absurd rfl hne
      · exact mem_delO' h hne
    | false =>
      simp only [cond_false, List.mem_cons]
      rcases h with h | h
      · exact .inl h
      · exact .inr (mem_delO' h hne)
theorem mem_dels' : ∀ {l : List Nat} {objs : List (Nat × Obj')} {m : Nat} {o : Obj'}, (m, o) ∈ objs → m ∉ l → (m, o) ∈ dels l objs
  | [], objs, m, o, h, _ => h
  | n :: r, objs, m, o, h, hn => by
    simp only [List.mem_cons, not_or] at hn
    exact mem_dels' (l := r) (mem_delO' h hn.1) hn.2
theorem mem_mapO' (f : PV → PV) : ∀ {l : List (Nat × Obj')} {n : Nat} {o : Obj'}, (n, o) ∈ l → ∃ o', (n, o') ∈ mapO f l
  | (m, .box cs) :: r, n, o, h => by
    simp only [List.mem_cons] at h
    rcases h with h | h
    · cases h; exact ⟨_, List.mem_cons_self⟩
    · obtain ⟨o', h'⟩ := mem_mapO' f h; exact ⟨o', List.mem_cons_of_mem _ h'⟩
  | (m, .arr s els) :: r, n, o, h => by
    simp only [List.mem_cons] at h
    rcases h with h | h
    · cases h; exact ⟨_, List.mem_cons_self⟩
    · obtain ⟨o', h'⟩ := mem_mapO' f h; exact ⟨o', List.mem_cons_of_mem _ h'⟩

/-! ### Objects of a list, under their other names -/

theorem mem_namesH : ∀ {l : List (Nat × Obj')} {m : Nat} {o : Obj'}, (m, o) ∈ namesH h l ↔ ∃ n, (n, o) ∈ l ∧ m = h n
  | [], m, o => by simp [namesH]
  | (n, x) :: r, m, o => by
    simp only [namesH, List.mem_cons, mem_namesH (l := r)]
    constructor
    · rintro (e | ⟨k, hk, e⟩)
      · cases e; exact ⟨n, .inl rfl, rfl⟩
      · exact ⟨k, .inr hk, e⟩
    · rintro ⟨k, hk | hk, e⟩
      · cases hk; exact .inl (by rw [e])
      · exact .inr ⟨k, hk, e⟩
theorem namesH_append : ∀ (l k : List (Nat × Obj')), namesH h (l ++ k) = namesH h l ++ namesH h k
  | [], k => rfl
  | (n, x) :: r, k => by simp [namesH, namesH_append r k]
theorem namesH_fst : ∀ (l : List (Nat × Obj')), (namesH h l).map Prod.fst = (l.map Prod.fst).map h
  | [] => rfl
  | (n, x) :: r => by simp [namesH, namesH_fst r]
theorem hasObjs_mem : ∀ {l objs : List (Nat × Obj')}, hasObjs h objs l → ∀ {n o}, (n, o) ∈ l → (h n, o) ∈ objs ∧ closedO o = true
  | (m, x) :: r, objs, H, n, o, hm => by
    simp only [List.mem_cons] at hm
    rcases hm with hm | hm
    · cases hm; exact ⟨getO_mem H.1.1, H.1.2⟩
    · exact hasObjs_mem H.2 hm
theorem closedOs_mem : ∀ {l : List (Nat × Obj')}, closedOs l = true → ∀ {n o}, (n, o) ∈ l → closedO o = true
  | (m, x) :: r, H, n, o, hm => by
    simp only [closedOs, Bool.and_eq_true] at H
    simp only [List.mem_cons] at hm
    rcases hm with hm | hm
    · cases hm; exact H.1
    · exact closedOs_mem H.2 hm
theorem freeAll_mem {ps : PS} : ∀ {l : List (Nat × Obj')}, freeAll h ps l = true → ∀ {n o}, (n, o) ∈ l → freeOf (h n) ps = true
  | (m, x) :: r, H, n, o, hm => by
    simp only [freeAll, Bool.and_eq_true] at H
    simp only [List.mem_cons] at hm
    rcases hm with hm | hm
    · cases hm; exact H.1
    · exact freeAll_mem H.2 hm
theorem nmsO_mem : ∀ {l : List (Nat × Obj')} {n : Nat}, n ∈ nmsO l → ∃ o, (n, o) ∈ l
  | (m, x) :: r, n, hm => by
    simp only [nmsO, List.mem_cons] at hm
    rcases hm with hm | hm
    · subst hm; exact ⟨x, List.mem_cons_self⟩
    · obtain ⟨o, ho⟩ := nmsO_mem hm; exact ⟨o, List.mem_cons_of_mem _ ho⟩

theorem inj_map : ∀ {l : List Nat}, (l.map h).Nodup → ∀ {n m}, n ∈ l → m ∈ l → h n = h m → n = m
  | x :: r, hnd, n, m, hn, hm, e => by
    simp only [List.map_cons, List.nodup_cons] at hnd
    simp only [List.mem_cons] at hn hm
    rcases hn with rfl | hn
    · rcases hm with rfl | hm
      · rfl
      · exact absurd (List.mem_map.2 ⟨m, hm, e.symm⟩) hnd.1
    · rcases hm with rfl | hm
      · exact absurd (List.mem_map.2 ⟨n, hn, e⟩) hnd.1
      · exact inj_map hnd.2 hn hm e
theorem nodup_inj {l : List (Nat × Obj')} (hnd : ((namesH h l).map Prod.fst).Nodup) {n m : Nat} {o o' : Obj'} (hn : (n, o) ∈ l) (hm : (m, o') ∈ l) (e : h n = h m) : n = m := by
  rw [namesH_fst] at hnd
  have h1 : n ∈ l.map Prod.fst := List.mem_map.2 ⟨_, hn, rfl⟩
  have h2 : m ∈ l.map Prod.fst := List.mem_map.2 ⟨_, hm, rfl⟩
  exact inj_map hnd h1 h2 e

/-! ### The made objects are taken over -/

theorem add_made {a : Act} : ∀ {made : List (Nat × Obj')} {T : List (Nat × PV)} {O : List (Nat × Obj')} {β : Nat → Option Nat}, Sim w0 S0 K0 N (lookT T) O a w' S' β →
    (∀ n o, (n, o) ∈ made → ObjAt w' S' β' n o ∧ closedO o = true ∧ freeOf (h n) ⟨T, O⟩ = true) →
    (∀ n o b, (n, o) ∈ made → β' n = some b → ¬ S' b ∧ b < w'.heap.size ∧ (∀ m x, (m, x) ∈ O → β m ≠ some b) ∧ (w0.heap.size ≤ b ∨ K0 b)) →
    ((namesH h made).map Prod.fst).Nodup → (∀ n o m o' b, (n, o) ∈ made → (m, o') ∈ made → β' n = some b → β' m = some b → n = m) →
    ∃ βf, Sim w0 S0 K0 N (lookT T) (O ++ namesH h made) a w' S' βf ∧ (∀ m, m ∉ (namesH h made).map Prod.fst → βf m = β m) ∧ ∀ n o, (n, o) ∈ made → βf (h n) = β' n
  | [], T, O, β, hs, _, _, _, _ => ⟨β, by simpa [namesH] using hs, fun _ _ => rfl, fun n o hm => by cases hm⟩
  | (n, o) :: r, T, O, β, hs, hA, hB, hnd, hinj => by
    obtain ⟨hat, hcl, hfr⟩ := hA n o List.mem_cons_self
    simp only [namesH, List.map_cons, List.nodup_cons] at hnd
    have hnr : ∀ m x, (m, x) ∈ r → h m ≠ h n := fun m x hm e => hnd.1 (List.mem_map.2 ⟨(h m, x), mem_namesH.2 ⟨m, hm, rfl⟩, e⟩)
    have step : Sim w0 S0 K0 N (lookT T) (O ++ [(h n, o)]) a w' S' (updB β (h n) (β' n)) := by
      cases hb : β' n with
      | some b =>
        obtain ⟨h1, h2, h3, h4⟩ := hB n o b List.mem_cons_self hb
        exact Sim.addObj (ps := ⟨T, O⟩) hs hfr h1 h2 h3 h4 (closed_at hcl hat (by rw [updB_eq, hb]))
      | none =>
        cases o with
        | box cs => obtain ⟨b, vs, U, e1, _⟩ := hat; rw [hb] at e1; cases e1
        | arr s els =>
          rcases hat with ⟨_, e⟩ | ⟨b, vs, U, e1, _⟩
          · exact Sim.newNil (ps := ⟨T, O⟩) hs hfr e
          · rw [hb] at e1; cases e1
    have hfr' := hfr
    simp only [freeOf, Bool.and_eq_true] at hfr'
    obtain ⟨βf, g1, g2, g3⟩ := add_made (made := r) step
      (fun m x hm => by
        obtain ⟨q1, q2, q3⟩ := hA m x (List.mem_cons_of_mem _ hm)
        refine ⟨q1, q2, ?_⟩
        simp only [freeOf, Bool.and_eq_true] at q3 ⊢
        refine ⟨q3.1, refFreeO_of (refFreeO_small q3.2) fun k y hk => ?_⟩
        simp only [List.mem_append, List.mem_singleton] at hk
        rcases hk with hk | hk
        · exact refFreeO_mem q3.2 hk
        · cases hk; exact ⟨fun e => hnr m x hm e.symm, closed_boxFree hcl⟩)
      (fun m x b hm hb => by
        obtain ⟨q1, q2, q3, q4⟩ := hB m x b (List.mem_cons_of_mem _ hm) hb
        refine ⟨q1, q2, fun k y hk e => ?_, q4⟩
        simp only [List.mem_append, List.mem_singleton] at hk
        rcases hk with hk | hk
        · have hne : k ≠ h n := (refFreeO_mem hfr'.2 hk).1
          rw [updB_ne hne] at e
          exact q3 k y hk e
        · cases hk
          rw [updB_eq] at e
          have := hinj _ _ _ _ b (List.mem_cons_of_mem _ hm) List.mem_cons_self hb e
          subst this
          exact hnr m x hm rfl)
      hnd.2 (fun m x k y b hm hk => hinj m x k y b (List.mem_cons_of_mem _ hm) (List.mem_cons_of_mem _ hk))
    refine ⟨βf, ?_, fun m hm => ?_, fun m x hm => ?_⟩
    · simpa [namesH, List.append_assoc] using g1
    · simp only [namesH, List.map_cons, List.mem_cons, not_or] at hm
      rw [g2 m hm.2, updB_ne hm.1]
    · simp only [List.mem_cons] at hm
      rcases hm with hm | hm
      · cases hm
        rw [g2 (h n) hnd.1, updB_eq]
      · exact g3 m x hm

theorem mem_setsO : ∀ {k l : List (Nat × Obj')} {m : Nat} {o : Obj'}, (l.map Prod.fst).Nodup → (∀ n x, (n, x) ∈ k → h n ∈ l.map Prod.fst) → ((namesH h k).map Prod.fst).Nodup → (m, o) ∈ setsO h l k →
    (∃ n, (n, o) ∈ k ∧ m = h n) ∨ ((m, o) ∈ l ∧ m ∉ (namesH h k).map Prod.fst)
  | [], l, m, o, hnd, hin, hk, hm => .inr ⟨hm, by simp [namesH]⟩
  | (n, x) :: r, l, m, o, hnd, hin, hk, hm => by
    have hn := hin n x List.mem_cons_self
    simp only [namesH, List.map_cons, List.nodup_cons] at hk
    simp only [setsO] at hm
    have hnm : (setO l (h n) x).map Prod.fst = l.map Prod.fst := names_setO hn
    rcases mem_setsO (k := r) (by rw [hnm]; exact hnd) (fun k y hk => by rw [hnm]; exact hin k y (List.mem_cons_of_mem _ hk)) hk.2 hm with ⟨k, h1, h2⟩ | ⟨h1, h2⟩
    · exact .inl ⟨k, List.mem_cons_of_mem _ h1, h2⟩
    · rcases mem_setO hnd hn h1 with ⟨rfl, rfl⟩ | ⟨h3, h4⟩
      · exact .inl ⟨n, List.mem_cons_self, rfl⟩
      · exact .inr ⟨h4, by simp only [namesH, List.map_cons, List.mem_cons, not_or]; exact ⟨h3, h2⟩⟩
theorem names_setsO : ∀ {k l : List (Nat × Obj')}, (∀ n x, (n, x) ∈ k → h n ∈ l.map Prod.fst) → (setsO h l k).map Prod.fst = l.map Prod.fst
  | [], l, _ => rfl
  | (n, x) :: r, l, hin => by
    have hn := hin n x List.mem_cons_self
    have hnm : (setO l (h n) x).map Prod.fst = l.map Prod.fst := names_setO hn
    simp only [setsO]
    rw [names_setsO (k := r) (fun k y hk => by rw [hnm]; exact hin k y (List.mem_cons_of_mem _ hk)), hnm]

theorem fst_mem {l k : List (Nat × Obj')} (e : l.map Prod.fst = k.map Prod.fst) {n : Nat} {o : Obj'} (hm : (n, o) ∈ l) : ∃ o', (n, o') ∈ k := by
  have h1 : n ∈ k.map Prod.fst := by rw [← e]; exact List.mem_map.2 ⟨_, hm, rfl⟩
  obtain ⟨⟨m, o'⟩, h2, h3⟩ := List.mem_map.1 h1
  simp only at h3
  subst h3
  exact ⟨o', h2⟩

/-- A call that is given objects. -/
theorem callO_sound {ps : PS} {o : Oper} {c : Call} {f : Operand} (hop : o.op = .call c) (hcl : c.callee = .value f) (hd : ∀ t, o.dst = some t → t < N) {K : PS → Prop} {Km : Act → World → Prop} {Q : Exit → Act → World → Prop} (hs : Sim w0 S0 K0 N (lookT ps.tmps) ps.objs a w S β)
    {g : FuncId} {caps : List PV} (hf : ev (lookT ps.tmps) f = .fn g caps) {cargs : List PV} {kept eaten : List (Nat × Obj')} {r : PV} {kept' made : List (Nat × Obj')}
    (hle : LeL (evs (ev (lookT ps.tmps)) c.args.toList ++ caps) (renL h cargs)) (hso : Sound g cargs kept eaten r kept' made)
    (hobj : hasObjs h ps.objs (kept ++ eaten)) (hnd1 : ndO (namesH h (kept ++ eaten)) = true) (hnd2 : ndO (kept ++ eaten) = true) (hclo : closedOs (kept' ++ made) = true) (hnd3 : ndO (namesH h made) = true) (hfree : freeAll h (ownMid h eaten ps) made = true)
    (hlv : allL lv cargs = true) (hlr : lv r = true) (hnm : nmIn (nmsO (kept' ++ made)) r = true)
    (hK : K (put (ownNext h eaten kept' made ps) o.dst (ren h r)))
    (hk : ∀ ps' a' w' S' β', K ps' → Sim w0 S0 K0 N (lookT ps'.tmps) ps'.objs a' w' S' β' → Km a' w') : o.wp Pg a w Km Q := by
  have hfr := hs.eval f
  rw [hf] at hfr
  obtain ⟨vs, hv, hl, hr⟩ := rep_fn hfr
  have hargs := ((evs_rep (fun x => hs.eval x) c.args.toList).append ⟨hl, hr⟩).le hle
  have hnodup1 := ndO_nodup hnd1
  have hmemo : ∀ {n x}, (n, x) ∈ kept ++ eaten → (h n, x) ∈ ps.objs ∧ closedO x = true := fun hm => hasObjs_mem hobj hm
  have hblk : ∀ b, Blk (fun n => β (h n)) (kept ++ eaten) b → ¬ S b ∧ b < w.heap.size ∧ (w0.heap.size ≤ b ∨ K0 b) := by
    rintro b ⟨n, x, hm, hβ⟩
    obtain ⟨h1, h2⟩ := hmemo hm
    exact ⟨(hs.obj.un _ _ b h1 hβ).1, (hs.obj.un _ _ b h1 hβ).2, hs.own _ _ b h1 hβ⟩
  have hobjs : ObjsAt w S (fun n => β (h n)) (kept ++ eaten) := ⟨ndO_nodup hnd2, fun n x hm => closed_at (hmemo hm).2 (hs.obj.at_ _ _ (hmemo hm).1) rfl, fun n x b hm hβ => hs.obj.un _ _ b (hmemo hm).1 hβ,
    fun n x m y b hm hm' hβ hβ' => nodup_inj hnodup1 hm hm' (hs.obj.inj _ _ _ _ b (hmemo hm).1 (hmemo hm').1 hβ hβ')⟩
  have hlen : (renL h cargs).length = cargs.length := mapC_length _ _
  unfold Oper.wp
  rw [run_call_value hop hcl hv hso.isf, Oper.upon_enter]
  refine (hso.go w S (fun n => β (h n)) _ hs.ld.bnd hobjs (by rw [hargs.1, hlen]) (fun j hj => ren_in (by
    have := hargs.2 j (by rw [hlen]; exact hj)
    rwa [renL, mapC_getD _ rfl] at this) (allL_mem hlv j hj))).mono ?_
  rintro e w' ⟨v, S', β', rfl, l, hrep, ho', hnk, hβk, hmd⟩
  show Km (a.put o.dst v) w'
  have hevo : Evo S w w' := ⟨fun b hS => l.same b (hs.ld.bnd b hS) fun hb => (hblk b hb).1 hS, l.shape⟩
  have hsub : ∀ b, S b → S' b := l.subs hs.ld.bnd
  have hld : Leads w0 S0 K0 w' S' := by
    refine ⟨Nat.le_trans hs.ld.size l.size, l.os.trans hs.ld.os, l.tape.trans hs.ld.tape, l.output.trans hs.ld.output, fun b hb hk => ?_, fun b us U hb => ?_, l.bnd, fun b hb hS => hsub b (hs.ld.sub b hb hS), fun b hb hk hS => ?_⟩
    · have hb' := Nat.lt_of_lt_of_le hb hs.ld.size
      rw [l.same b hb' fun hx => by rcases (hblk b hx).2.2 with h' | h'; omega; exact hk h']
      exact hs.ld.same b hb hk
    · obtain ⟨us', e1, e2⟩ := hs.ld.shape b us U hb
      obtain ⟨us'', e3, e4⟩ := l.shape b us' U e1
      exact ⟨us'', e3, e4.trans e2⟩
    · have hb' := Nat.lt_of_lt_of_le hb hs.ld.size
      exact hs.ld.old b hb hk (l.old b hb' (fun hx => by rcases (hblk b hx).2.2 with h' | h'; omega; exact hk h') hS)
  -- what is left of the caller's state
  have hmid : ∀ {m x}, (m, x) ∈ (ownMid h eaten ps).objs → (∃ x', (m, x') ∈ ps.objs ∧ x = (match x' with | .box cs => .box (mapC (scrs ((namesH h eaten).map Prod.fst)) cs) | .arr s els => .arr s els)) ∧ m ∉ (namesH h eaten).map Prod.fst := by
    intro m x hm
    obtain ⟨x', h1, h2⟩ := mem_mapO _ hm
    obtain ⟨h3, h4⟩ := mem_dels h1
    exact ⟨⟨x', h3, h2⟩, h4⟩
  have hkin : ∀ n x, (n, x) ∈ kept → h n ∈ ((ownMid h eaten ps).objs).map Prod.fst := by
    intro n x hm
    have h1 := (hmemo (List.mem_append_left eaten hm)).1
    have h2 : h n ∉ (namesH h eaten).map Prod.fst := by
      intro hx
      obtain ⟨⟨m, y⟩, h3, h4⟩ := List.mem_map.1 hx
      obtain ⟨k, h5, h6⟩ := mem_namesH.1 h3
      simp only at h4
      rw [namesH_append, List.map_append, List.nodup_append] at hnodup1
      exact hnodup1.2.2 (h n) (List.mem_map.2 ⟨_, mem_namesH.2 ⟨n, hm, rfl⟩, rfl⟩) m (List.mem_map.2 ⟨_, h3, rfl⟩) h4.symm
    obtain ⟨x', h3⟩ := mem_mapO' (scrs ((namesH h eaten).map Prod.fst)) (mem_dels' h1 h2)
    exact List.mem_map.2 ⟨_, h3, rfl⟩
  have hkin' : ∀ n x, (n, x) ∈ kept' → h n ∈ ((ownMid h eaten ps).objs).map Prod.fst := by
    intro n x hm
    obtain ⟨x', h1⟩ := fst_mem hnk hm
    exact hkin n x' h1
  have hmnd : ((ownMid h eaten ps).objs.map Prod.fst).Nodup := by
    simp only [ownMid, names_mapO]
    exact (dels_sub _ _).nodup hs.obj.nd
  have hknd : ((namesH h kept').map Prod.fst).Nodup := by
    rw [namesH_fst, hnk, ← namesH_fst]
    rw [namesH_append, List.map_append, List.nodup_append] at hnodup1
    exact hnodup1.1
  have hset : ∀ {m x}, (m, x) ∈ setsO h (ownMid h eaten ps).objs kept' → (∃ n, (n, x) ∈ kept' ∧ m = h n) ∨ ((m, x) ∈ (ownMid h eaten ps).objs ∧ m ∉ (namesH h kept').map Prod.fst) :=
    fun hm => mem_setsO hmnd hkin' hknd hm
  have hβk' : ∀ n x, (n, x) ∈ kept' → β' n = β (h n) := by
    intro n x hm
    obtain ⟨x', h1⟩ := fst_mem hnk hm
    exact hβk n x' h1
  have hin0 : ∀ {m x}, (m, x) ∈ setsO h (ownMid h eaten ps).objs kept' → ∃ x', (m, x') ∈ ps.objs := by
    intro m x hm
    rcases hset hm with ⟨n, h1, rfl⟩ | ⟨h1, _⟩
    · obtain ⟨x', h2⟩ := fst_mem hnk h1
      exact ⟨x', (hmemo (List.mem_append_left eaten h2)).1⟩
    · obtain ⟨⟨x', h2, _⟩, _⟩ := hmid h1
      exact ⟨x', h2⟩
  have hnblk : ∀ {m x b}, (m, x) ∈ (ownMid h eaten ps).objs → m ∉ (namesH h kept').map Prod.fst → β m = some b → ¬ Blk (fun n => β (h n)) (kept ++ eaten) b := by
    rintro m x b hm hnk' hβ ⟨n, y, hy, hβn⟩
    obtain ⟨⟨x', h2, _⟩, h3⟩ := hmid hm
    have heq := hs.obj.inj _ _ _ _ b h2 (hmemo hy).1 hβ hβn
    subst heq
    rcases List.mem_append.1 hy with hy | hy
    · rw [namesH_fst, hnk, ← namesH_fst] at hnk'
      exact hnk' (List.mem_map.2 ⟨_, mem_namesH.2 ⟨n, hy, rfl⟩, rfl⟩)
    · exact h3 (List.mem_map.2 ⟨_, mem_namesH.2 ⟨n, hy, rfl⟩, rfl⟩)
  have hsim : Sim w0 S0 K0 N (lookT (ownMid h eaten ps).tmps) (setsO h (ownMid h eaten ps).objs kept') a w' S' β := by
    refine ⟨hs.dfr, hs.sz, hld, fun t => ?_, ⟨by rw [names_setsO hkin']; exact hmnd, ?_, ?_, ?_⟩, ?_, ?_⟩
    · simp only [ownMid]
      rw [look_mapT _ (scrs_any _)]
      exact scrs_rep _ ((hs.tmp t).evo hevo hsub)
    · intro m x hm
      rcases hset hm with ⟨n, h1, rfl⟩ | ⟨h1, h2⟩
      · exact closed_at (closedOs_mem hclo (List.mem_append_left made h1)) (ho'.at_ n x (List.mem_append_left made h1)) (hβk' n x h1).symm
      · obtain ⟨⟨x', h3, h4⟩, h5⟩ := hmid h1
        have hat := hs.obj.at_ m x' h3
        cases x' with
        | box cs =>
          subst h4
          obtain ⟨b, us, T, e1, e2, e3, e4⟩ := hat
          refine ⟨b, us, T, e1, ?_, by rw [mapC_length]; exact e3, fun j hj => ?_⟩
          · rw [l.same b (hs.obj.un _ _ b h3 e1).2 (hnblk h1 h2 e1)]; exact e2
          · rw [mapC_length] at hj
            rw [mapC_getD _ (scrs_any _)]
            exact scrs_rep _ ((e4 j hj).evo hevo hsub)
        | arr s els =>
          subst h4
          rcases hat with e0 | ⟨b, us, T, e1, e2, e3, e4, e5⟩
          · exact .inl e0
          · refine .inr ⟨b, us, T, e1, ?_, e3, e4, fun i j hi hj => ⟨(e5 i j hi hj).1.evo hevo.same hsub, (e5 i j hi hj).2⟩⟩
            rw [l.same b (hs.obj.un _ _ b h3 e1).2 (hnblk h1 h2 e1)]; exact e2
    · intro m x b hm hβ
      rcases hset hm with ⟨n, h1, rfl⟩ | ⟨h1, h2⟩
      · exact ho'.un n x b (List.mem_append_left made h1) (by rw [hβk' n x h1]; exact hβ)
      · obtain ⟨⟨x', h3, h4⟩, h5⟩ := hmid h1
        obtain ⟨q1, q2⟩ := hs.obj.un m x' b h3 hβ
        exact ⟨fun hS => q1 (l.old b q2 (hnblk h1 h2 hβ) hS), Nat.lt_of_lt_of_le q2 l.size⟩
    · intro m x m' x' b hm hm' hβ hβ'
      obtain ⟨y, h1⟩ := hin0 hm
      obtain ⟨y', h2⟩ := hin0 hm'
      exact hs.obj.inj _ _ _ _ b h1 h2 hβ hβ'
    · intro m x b hm hβ
      obtain ⟨y, h1⟩ := hin0 hm
      exact hs.own m y b h1 hβ
    · intro m x hm hb
      obtain ⟨y, h1⟩ := hin0 hm
      exact hs.keep m y h1 hb
  obtain ⟨βf, g1, g2, g3⟩ := add_made (h := h) (made := made) (β' := β') hsim
    (fun n x hm => by
      refine ⟨ho'.at_ n x (List.mem_append_right kept' hm), closedOs_mem hclo (List.mem_append_right kept' hm), ?_⟩
      have hfr := freeAll_mem hfree hm
      simp only [freeOf, Bool.and_eq_true] at hfr ⊢
      refine ⟨hfr.1, refFreeO_of (refFreeO_small hfr.2) fun k y hk => ?_⟩
      have hne : ∀ {k y}, (k, y) ∈ (ownMid h eaten ps).objs → k ≠ h n := fun hk => (refFreeO_mem hfr.2 hk).1
      rcases hset hk with ⟨m, h1, rfl⟩ | ⟨h1, h2⟩
      · obtain ⟨⟨q, y'⟩, q1, q2⟩ := List.mem_map.1 (hkin' m y h1)
        simp only at q2
        subst q2
        exact ⟨hne q1, closed_boxFree (closedOs_mem hclo (List.mem_append_left made h1))⟩
      · exact refFreeO_mem hfr.2 h1)
    (fun n x b hm hb => by
      obtain ⟨q1, q2⟩ := ho'.un n x b (List.mem_append_right kept' hm) hb
      refine ⟨q1, q2, fun k y hk e => ?_, ?_⟩
      · rcases hmd n x b hm hb with h1 | ⟨m, z, h1, h2⟩
        · obtain ⟨y', h2⟩ := hin0 hk
          have := (hs.obj.un k y' b h2 e).2
          omega
        · rcases hset hk with ⟨m', h3, rfl⟩ | ⟨h3, h4⟩
          · have heq := ho'.inj _ _ _ _ b (List.mem_append_left made h3) (List.mem_append_right kept' hm) (by rw [hβk' m' y h3]; exact e) hb
            subst heq
            have hfr := freeAll_mem hfree hm
            simp only [freeOf, Bool.and_eq_true] at hfr
            obtain ⟨⟨q, y'⟩, q3, q4⟩ := List.mem_map.1 (hkin' m' y h3)
            simp only at q4
            exact (refFreeO_mem hfr.2 q3).1 q4
          · exact hnblk h3 h4 e ⟨m, z, List.mem_append_right kept h1, h2⟩
      · rcases hmd n x b hm hb with h1 | ⟨m, z, h1, h2⟩
        · exact .inl (Nat.le_trans hs.ld.size h1)
        · exact (hblk b ⟨m, z, List.mem_append_right kept h1, h2⟩).2.2)
    (ndO_nodup hnd3) (fun n x m y b hm hm' hb hb' => ho'.inj _ _ _ _ b (List.mem_append_right kept' hm) (List.mem_append_right kept' hm') hb hb')
  have hfin : Rep w' S' βf v (ren h r) := ren_out (l := nmsO (kept' ++ made)) (fun n hn => by
    obtain ⟨x, hm⟩ := nmsO_mem hn
    rcases List.mem_append.1 hm with hm | hm
    · rw [g2 (h n) ?_, hβk' n x hm]
      intro hx
      obtain ⟨⟨q, y⟩, q1, q2⟩ := List.mem_map.1 hx
      obtain ⟨m, q3, q4⟩ := mem_namesH.1 q1
      simp only at q2
      have hfr := freeAll_mem hfree q3
      simp only [freeOf, Bool.and_eq_true] at hfr
      obtain ⟨⟨q', y'⟩, q5, q6⟩ := List.mem_map.1 (hkin' n x hm)
      simp only at q6
      exact (refFreeO_mem hfr.2 q5).1 (by rw [q6, ← q2, q4])
    · exact g3 n x hm) hrep hnm
  exact hk _ _ _ _ _ hK (sim_putPS (ps := ownNext h eaten kept' made ps) g1 o.dst hd hfin)

end
end Go.Proofs.YtbehbhicjmjdhaaGreat
