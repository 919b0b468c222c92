/- THE PURE MACHINE, part J: the steps without code. * THE PURE MACHINE, part K: the operations that write: new objects, stores, make, append. -/
import Derived.Test.YtbehbhicjmjdhaaGreatQ06

namespace Go.Proofs.YtbehbhicjmjdhaaGreat
open Go
set_option linter.unusedVariables false
set_option linter.unusedSimpArgs false

section
variable {w0 : World} {S0 K0 : Nat → Prop} {N : Cx} {τ : Nat → PV} {objs : List (Nat × Obj')} {a : Act} {w : World} {S S' : Nat → Prop} {β : Nat → Option Nat}

theorem Evo.refl : Evo S w w := ⟨fun _ _ => rfl, fun b vs T h => ⟨vs, h, rfl⟩⟩
theorem Rep.mono {v pv} (h : Rep w S β v pv) (hS : ∀ b, S b → S' b) : Rep w S' β v pv := h.evo Evo.refl hS

theorem look_mapT (f : PV → PV) (hf : f .any = .any) : ∀ (l : List (Nat × PV)) (t : Nat), lookT (mapT f l) t = f (lookT l t)
  | [], t => by simp [mapT, lookT, hf]
  | (u, v) :: r, t => by
    simp only [mapT, lookT]
    cases nqb u t with
    | true => rfl
    | false => exact look_mapT f hf r t

theorem mapC_length (f : PV → PV) : ∀ (l : List PV), (mapC f l).length = l.length
  | [] => rfl
  | v :: r => by simp [mapC, mapC_length f r]
theorem mapC_getD (f : PV → PV) (hf : f .any = .any) : ∀ (l : List PV) (j : Nat), (mapC f l).getD j .any = f (l.getD j .any)
  | [], j => by simp [mapC, hf]
  | v :: r, 0 => by simp [mapC]
  | v :: r, j + 1 => by simpa [mapC] using mapC_getD f hf r j

theorem allP_getD {f : PV → Prop} (hf : f .any) : ∀ {cs : List PV}, allP f cs → ∀ j, f (cs.getD j .any)
  | [], _, j => by simpa using hf
  | c :: cs, h, 0 => by simpa using h.1
  | c :: cs, h, j + 1 => by simpa using allP_getD hf h.2 j

/-! ### An object is written no more -/

/-- What freezing needs of the object, said of its block. -/
structure FrzAt (w : World) (S S' : Nat → Prop) (β : Nat → Option Nat) (n : Nat) (o : Obj') : Prop where
  sub : ∀ b, S b → S' b
  new : ∀ b, β n = some b → S' b
  at_ : ObjAt w S β n o
  cl : closedO o = true

theorem frz0 {n : Nat} {o : Obj'} (F : FrzAt w S S' β n o) {v pv} (h : Rep w S β v pv) (hf : fo0 n o pv) : Rep w S' β v (fz0 n o pv) := by
  have hm := h.mono F.sub
  cases pv with
  | agg cs => exact rep_any _
  | tup cs => exact rep_any _
  | fn f cs => exact rep_any _
  | ptr m off =>
    simp only [fz0]
    cases hb : nqb m n with
    | false => exact hm
    | true =>
      have := nqb_eq hb
      subst this
      simp only [cond_true]
      cases o with
      | arr s els => exact rep_any _
      | box cs =>
        obtain ⟨b, hβ, rfl⟩ := rep_ptr h
        obtain ⟨b', vs, T, hβ', hw, hsz, hr⟩ := F.at_
        rw [hβ] at hβ'
        cases hβ'
        have hcl := F.cl
        simp only [closedO] at hcl
        have hfl : allL flat (mapC denil cs) = true := by
          have : ∀ (l : List PV), allL stor l = true → allL flat (mapC denil l) = true := by
            intro l
            induction l with
            | nil => intro _; rfl
            | cons c l ih =>
              intro h
              simp only [allL, Bool.and_eq_true, mapC] at h ⊢
              exact ⟨by cases c <;> simp_all [stor, denil, flat], ih h.2⟩
          exact this cs hcl
        show Rep w S' β _ (.dptr (mapC denil cs) off)
        suffices key : Rep w S' β (.pointer (some ⟨b, 0 + off, none⟩)) (.dptr (mapC denil cs) off) by rw [Nat.zero_add] at key; exact key
        refine Rep.dptr (o := 0) (fun j => vs.getD j undef) (F.new b hβ) hfl (fun j hj => ?_) (fun j hj => ?_)
        · rw [mapC_length] at hj
          rw [Nat.zero_add]
          exact cell_at hw j (by omega)
        · rw [mapC_length] at hj
          rw [mapC_getD _ rfl]
          have h1 := rep_stor ((hr j hj).mono F.sub) (allL_getD rfl hcl j)
          have h2 : ∀ x : PV, toD (denil x) = toD x := by intro x; cases x <;> rfl
          rw [h2]
          exact h1
  | aptr m s i off =>
    simp only [fz0]
    cases hb : nqb m n with
    | false => exact hm
    | true => exact rep_any _
  | osl m s i len =>
    simp only [fz0]
    cases hb : nqb m n with
    | false => exact hm
    | true =>
      have := nqb_eq hb
      subst this
      simp only [cond_true]
      cases o with
      | box cs => exact rep_any _
      | arr s' els =>
        simp only [fo0, hb, cond_true] at hf
        have hf := hf.h
        show Rep w S' β v ((match nqb s s' with | true => PV.sl (fun _ => ((els ()).drop (i ())).take (len ())) | false => .any))
        cases hss : nqb s s' with
        | false => exact rep_any _
        | true =>
          have := nqb_eq hss
          subst this
          simp only [cond_true]
          refine .c rfl ?_
          simp only [toD]
          rcases rep_osl h with ⟨hn, ho, hl, aa, rfl⟩ | ⟨b, cap, vs, T, hβ, hlc, hw, hsz, rfl⟩
          · rw [hl]; simpa using RepD.sl0 _ _
          · rcases F.at_ with ⟨hn, _⟩ | ⟨b', vs', T', hβ', hw', hsz', hwid, hr⟩
            · rw [hβ] at hn; cases hn
            · rw [hβ] at hβ'
              cases hβ'
              rw [hw] at hw'
              cases hw'
              have hlen : (((els ()).drop (i ())).take (len ())).length = len () := by simp; omega
              by_cases h0 : len () = 0
              · rw [h0]; simpa using RepD.sl0 _ _
              · have hg : ∀ k, k < len () → (((els ()).drop (i ())).take (len ())).getD k [] = (els ()).getD (i () + k) [] := by
                  intro k hk
                  simp only [List.getD_eq_getElem?_getD]
                  rw [List.getElem?_take_of_lt hk, List.getElem?_drop]
                have key := RepD.sl (w := w) (S := S') (b := b) (o := i () * s) (cap := cap) (s := s) (els := ((els ()).drop (i ())).take (len ())) (fun k j => vs.getD ((i () + k) * s + j) undef)
                  (by intro e; rw [e] at hlen; simp at hlen; omega) (by rw [hlen]; exact hlc) (F.new b hβ)
                  (fun e he => hwid e (List.mem_of_mem_drop (List.mem_of_mem_take he)))
                  (fun k j hk hj => by
                    rw [hlen] at hk
                    have hlt : (i () + k) * s + j < vs.size := by
                      have : (i () + k) * s + s ≤ (els ()).length * s := by
                        calc (i () + k) * s + s = (i () + k + 1) * s := by rw [Nat.add_mul (i () + k)]; omega
                          _ ≤ _ := Nat.mul_le_mul_right _ (by omega)
                      omega
                    rw [← cell_at hw _ hlt, Nat.add_mul])
                  (fun k j hk hj => by rw [hlen] at hk; exact (hr (i () + k) j (by omega) hj).2)
                  (fun k j hk hj => by
                    rw [hlen] at hk
                    rw [hg k hk]
                    exact ((hr (i () + k) j (by omega) hj).1).evo (fun _ _ => rfl) F.sub)
                rw [hlen] at key
                exact key
  | int k x => exact hm
  | tt => exact hm
  | ff => exact hm
  | bool b => exact hm
  | nbool b => exact hm
  | str x => exact hm
  | nil => exact hm
  | sl e => exact hm
  | dptr cs o => exact hm
  | nilf => exact hm
  | any => exact hm

theorem frz1 {n : Nat} {o : Obj'} (F : FrzAt w S S' β n o) {v pv} (h : Rep w S β v pv) (hf : fo1 n o pv) : Rep w S' β v (fz1 n o pv) := by
  cases pv with
  | agg cs =>
    obtain ⟨vs, rfl, h1, h2⟩ := rep_agg h
    exact .agg (by rw [mapC_length]; exact h1) fun j hj => by rw [mapC_length] at hj; rw [mapC_getD _ rfl]; exact frz0 F (h2 j hj) (allP_getD trivial hf j)
  | tup cs =>
    obtain ⟨vs, rfl, h1, h2⟩ := rep_tup h
    exact .tup (by rw [mapC_length]; exact h1) fun j hj => by rw [mapC_length] at hj; rw [mapC_getD _ rfl]; exact frz0 F (h2 j hj) (allP_getD trivial hf j)
  | fn f cs =>
    obtain ⟨vs, rfl, h1, h2⟩ := rep_fn h
    exact .fn (by rw [mapC_length]; exact h1) fun j hj => by rw [mapC_length] at hj; rw [mapC_getD _ rfl]; exact frz0 F (h2 j hj) (allP_getD trivial hf j)
  | _ => exact frz0 F h hf

theorem frz2 {n : Nat} {o : Obj'} (F : FrzAt w S S' β n o) {v pv} (h : Rep w S β v pv) (hf : fo n o pv) : Rep w S' β v (frz n o pv) := by
  cases pv with
  | agg cs =>
    obtain ⟨vs, rfl, h1, h2⟩ := rep_agg h
    exact .agg (by rw [mapC_length]; exact h1) fun j hj => by rw [mapC_length] at hj; rw [mapC_getD _ rfl]; exact frz1 F (h2 j hj) (allP_getD trivial hf j)
  | tup cs =>
    obtain ⟨vs, rfl, h1, h2⟩ := rep_tup h
    exact .tup (by rw [mapC_length]; exact h1) fun j hj => by rw [mapC_length] at hj; rw [mapC_getD _ rfl]; exact frz1 F (h2 j hj) (allP_getD trivial hf j)
  | fn f cs =>
    obtain ⟨vs, rfl, h1, h2⟩ := rep_fn h
    exact .fn (by rw [mapC_length]; exact h1) fun j hj => by rw [mapC_length] at hj; rw [mapC_getD _ rfl]; exact frz1 F (h2 j hj) (allP_getD trivial hf j)
  | _ => exact frz0 F h hf

theorem mem_mapO (f : PV → PV) : ∀ {l : List (Nat × Obj')} {n : Nat} {o : Obj'}, (n, o) ∈ mapO f l → ∃ o', (n, o') ∈ l ∧ o = (match o' with | .box cs => .box (mapC f cs) | .arr s els => .arr s els)
  | (m, .box cs) :: r, n, o, h => by
    simp only [mapO, List.mem_cons] at h
    rcases h with h | h
    · cases h; exact ⟨_, List.mem_cons_self, rfl⟩
    · obtain ⟨o', h1, h2⟩ := mem_mapO f h; exact ⟨o', List.mem_cons_of_mem _ h1, h2⟩
  | (m, .arr s els) :: r, n, o, h => by
    simp only [mapO, List.mem_cons] at h
    rcases h with h | h
    · cases h; exact ⟨_, List.mem_cons_self, rfl⟩
    · obtain ⟨o', h1, h2⟩ := mem_mapO f h; exact ⟨o', List.mem_cons_of_mem _ h1, h2⟩
theorem names_mapO (f : PV → PV) : ∀ (l : List (Nat × Obj')), (mapO f l).map Prod.fst = l.map Prod.fst
  | [] => rfl
  | (m, .box cs) :: r => by simp [mapO, names_mapO f r]
  | (m, .arr s els) :: r => by simp [mapO, names_mapO f r]
theorem mem_delO : ∀ {l : List (Nat × Obj')} {n m : Nat} {o : Obj'}, (m, o) ∈ delO l n → (m, o) ∈ l ∧ m ≠ n
  | (u, x) :: r, n, m, o, h => by
    simp only [delO] at h
    cases hu : nqb u n with
    | true =>
      simp only [hu, cond_true] at h
      obtain ⟨h1, h2⟩ := mem_delO h
      exact ⟨List.mem_cons_of_mem _ h1, h2⟩
    | false =>
      simp only [hu, cond_false, List.mem_cons] at h
      rcases h with h | h
      · cases h
        exact ⟨List.mem_cons_self, fun e => by subst e; simp at hu⟩
      · obtain ⟨h1, h2⟩ := mem_delO h
        exact ⟨List.mem_cons_of_mem _ h1, h2⟩
theorem delO_sub : ∀ (l : List (Nat × Obj')) (n : Nat), ((delO l n).map Prod.fst).Sublist (l.map Prod.fst)
  | [], n => by simp [delO]
  | (u, x) :: r, n => by
    simp only [delO]
    cases nqb u n with
    | true => exact (delO_sub r n).trans (List.sublist_cons_self _ _)
    | false => exact (delO_sub r n).cons_cons _

theorem foT_look {n : Nat} {o : Obj'} : ∀ {l : List (Nat × PV)}, foT n o l → ∀ t, fo n o (lookT l t)
  | [], _, t => trivial
  | (u, v) :: r, h, t => by
    simp only [lookT]
    cases nqb u t with
    | true => exact h.1
    | false => exact foT_look h.2 t
theorem foO_mem {n : Nat} {o : Obj'} : ∀ {l : List (Nat × Obj')}, foO n o l → ∀ {m cs}, (m, Obj'.box cs) ∈ l → allP (fo n o) cs
  | (u, .box cs') :: r, h, m, cs, hm => by
    simp only [List.mem_cons] at hm
    rcases hm with hm | hm
    · cases hm; exact h.1
    · exact foO_mem h.2 hm
  | (u, .arr s els) :: r, h, m, cs, hm => by
    simp only [List.mem_cons] at hm
    rcases hm with hm | hm
    · cases hm
    · exact foO_mem (l := r) h hm

theorem Sim.frz {ps : PS} (h : Sim w0 S0 K0 N (lookT ps.tmps) ps.objs a w S β) {n : Nat} {o : Obj'} (ho : getO ps.objs n = some o) (hc : closedO o = true) (hT : foT n o ps.tmps) (hO : foO n o ps.objs) :
    ∃ S' β', Sim w0 S0 K0 N (lookT (frzPS n o ps).tmps) (frzPS n o ps).objs a w S' β' := by
  have hmem := getO_mem ho
  have F : FrzAt w S (fun b => S b ∨ β n = some b) β n o := ⟨fun b => .inl, fun b => .inr, h.obj.at_ n o hmem, hc⟩
  refine ⟨fun b => S b ∨ β n = some b, β, ⟨h.dfr, h.sz, ?_, ?_, ?_, ?_, ?_⟩⟩
  · refine ⟨h.ld.size, h.ld.os, h.ld.tape, h.ld.output, h.ld.same, h.ld.shape, ?_, ?_, ?_⟩
    · rintro b (hS | hβ)
      · exact h.ld.bnd b hS
      · exact (h.obj.un n o b hmem hβ).2
    · exact fun b hb hS => .inl (h.ld.sub b hb hS)
    · rintro b hb hk (hS | hβ)
      · exact h.ld.old b hb hk hS
      · rcases h.own n o b hmem hβ with h' | h'
        · omega
        · exact absurd h' hk
  · intro t
    simp only [frzPS]
    rw [look_mapT _ rfl]
    exact frz2 F (h.tmp t) (foT_look hT t)
  · refine ⟨?_, ?_, ?_, ?_⟩
    · simp only [frzPS, names_mapO]
      exact (delO_sub _ _).nodup h.obj.nd
    · intro m o' hm
      obtain ⟨o'', h1, h2⟩ := mem_mapO _ hm
      obtain ⟨h3, h4⟩ := mem_delO h1
      have hat := h.obj.at_ m o'' h3
      cases o'' with
      | box cs =>
        subst h2
        obtain ⟨b, vs, T, e1, e2, e3, e4⟩ := hat
        exact ⟨b, vs, T, e1, e2, by rw [mapC_length]; exact e3, fun j hj => by rw [mapC_length] at hj; rw [mapC_getD _ rfl]; exact frz2 F (e4 j hj) (allP_getD trivial (foO_mem hO h3) j)⟩
      | arr s els =>
        subst h2
        rcases hat with e | ⟨b, vs, T, e1, e2, e3, e4, e5⟩
        · exact .inl e
        · exact .inr ⟨b, vs, T, e1, e2, e3, e4, fun i j hi hj => ⟨(e5 i j hi hj).1.evo (fun _ _ => rfl) F.sub, (e5 i j hi hj).2⟩⟩
    · intro m o' b hm hβ
      obtain ⟨o'', h1, h2⟩ := mem_mapO _ hm
      obtain ⟨h3, h4⟩ := mem_delO h1
      obtain ⟨h5, h6⟩ := h.obj.un m o'' b h3 hβ
      refine ⟨?_, h6⟩
      rintro (hS | hn)
      · exact h5 hS
      · exact h4 (h.obj.inj _ _ _ _ b h3 hmem hβ hn)
    · intro m o' m' o'' b hm hm' hβ hβ'
      obtain ⟨x, h1, _⟩ := mem_mapO _ hm
      obtain ⟨y, h2, _⟩ := mem_mapO _ hm'
      exact h.obj.inj _ _ _ _ b (mem_delO h1).1 (mem_delO h2).1 hβ hβ'
  · intro m o' b hm hβ
    obtain ⟨x, h1, _⟩ := mem_mapO _ hm
    exact h.own m x b (mem_delO h1).1 hβ
  · intro m o' hm hb
    obtain ⟨x, h1, _⟩ := mem_mapO _ hm
    exact h.keep m x (mem_delO h1).1 hb

/-! ### To know less -/

theorem allLe_le {f : PV → PV → Prop} (hf : ∀ a b, f a b → Le a b) : ∀ {a b : List PV}, allLe f a b → LeL a b
  | [], [], _ => by simp [LeL]
  | x :: a, y :: b, h => by simp only [LeL]; exact ⟨hf _ _ h.1, allLe_le hf h.2⟩
  | [], y :: b, h => h.elim
  | x :: a, [], h => h.elim
theorem les1_le {a b : PV} (h : les1 a b) : Le a b := by
  unfold les1 at h
  split at h
  · simp only [Le]; exact allLe_le (fun _ _ h => h.h) h
  · simp only [Le]; exact allLe_le (fun _ _ h => h.h) h
  · exact h.h
theorem les_le {a b : PV} (h : les a b) : Le a b := by
  unfold les at h
  split at h
  · simp only [Le]; exact allLe_le (fun _ _ h => les1_le h) h
  · simp only [Le]; exact allLe_le (fun _ _ h => les1_le h) h
  · simp only [Le]; exact ⟨nqb_eq h.1, allLe_le (fun _ _ h => les1_le h) h.2⟩
  · exact h.h
theorem lesL_le {a b : List PV} (h : allLe les a b) : LeL a b := allLe_le (fun _ _ h => les_le h) h

theorem leT_look {src : List (Nat × PV)} : ∀ {l : List (Nat × PV)}, leT src l → ∀ t, Le (lookT src t) (lookT l t)
  | [], _, t => by simp [lookT, Le]
  | (u, v) :: r, h, t => by
    simp only [lookT]
    cases hu : nqb u t with
    | true => have := nqb_eq hu; subst this; exact les_le h.1
    | false => exact leT_look h.2 t

theorem leO_mem {src : List (Nat × Obj')} : ∀ {l : List (Nat × Obj')}, leO src l → ∀ {n o}, (n, o) ∈ l → ∃ o', (n, o') ∈ src ∧ ObjLe o' o
  | (u, x) :: r, h, n, o, hm => by
    simp only [List.mem_cons] at hm
    rcases hm with hm | hm
    · cases hm
      have h1 := h.1
      split at h1
      · rename_i o' ho; exact ⟨o', getO_mem ho, h1⟩
      · exact h1.elim
    · exact leO_mem h.2 hm

theorem hasN_mem {n : Nat} : ∀ {l : List (Nat × Obj')}, hasN n l = false → n ∉ l.map Prod.fst
  | [], _ => by simp
  | (m, o) :: r, h => by
    simp only [hasN, Bool.or_eq_false_iff] at h
    simp only [List.map_cons, List.mem_cons, not_or]
    exact ⟨fun e => by subst e; simp at h, hasN_mem h.2⟩
theorem ndO_nodup : ∀ {l : List (Nat × Obj')}, ndO l = true → (l.map Prod.fst).Nodup
  | [], _ => List.nodup_nil
  | (n, o) :: r, h => by
    simp only [ndO, Bool.and_eq_true, Bool.not_eq_true'] at h
    simp only [List.map_cons, List.nodup_cons]
    exact ⟨hasN_mem h.1, ndO_nodup h.2⟩

theorem ObjAt.le {n : Nat} {o o' : Obj'} (h : ObjAt w S β n o') (hl : ObjLe o' o) : ObjAt w S β n o := by
  cases o' with
  | box cs =>
    cases o with
    | arr s e => exact hl.elim
    | box ds =>
      obtain ⟨b, vs, T, e1, e2, e3, e4⟩ := h
      have hl := lesL_le hl
      exact ⟨b, vs, T, e1, e2, e3.trans (LeL_length hl), fun j hj => (e4 j (by rw [LeL_length hl]; exact hj)).le _ (LeL_getD hl j hj)⟩
  | arr s e =>
    cases o with
    | box ds => exact hl.elim
    | arr s' e' =>
      obtain ⟨hs, he⟩ := hl
      have := nqb_eq hs
      subst this
      cases fU he.h
      exact h

theorem Sim.le {ps ps' : PS} (h : Sim w0 S0 K0 N (lookT ps.tmps) ps.objs a w S β) (ht : leT ps.tmps ps'.tmps) (ho : leO ps.objs ps'.objs) (hn : ndO ps'.objs = true) : Sim w0 S0 K0 N (lookT ps'.tmps) ps'.objs a w S β where
  dfr := h.dfr
  sz := h.sz
  ld := h.ld
  tmp t := (h.tmp t).le _ (leT_look ht t)
  obj := ⟨ndO_nodup hn, fun n o hm => by obtain ⟨o', h1, h2⟩ := leO_mem ho hm; exact (h.obj.at_ n o' h1).le h2,
    fun n o b hm hβ => by obtain ⟨o', h1, h2⟩ := leO_mem ho hm; exact h.obj.un n o' b h1 hβ,
    fun n o m o' b hm hm' hβ hβ' => by
      obtain ⟨x, h1, _⟩ := leO_mem ho hm
      obtain ⟨y, h2, _⟩ := leO_mem ho hm'
      exact h.obj.inj _ _ _ _ b h1 h2 hβ hβ'⟩
  own n o b hm hβ := by obtain ⟨o', h1, _⟩ := leO_mem ho hm; exact h.own n o' b h1 hβ
  keep n o hm hb := by obtain ⟨o', h1, _⟩ := leO_mem ho hm; exact h.keep n o' h1 hb

/-! ### A nil slice taken for an empty row -/

theorem refFreeT_look {n : Nat} : ∀ {l : List (Nat × PV)}, refFreeT n l = true → ∀ t, refFree n (lookT l t) = true
  | [], _, t => rfl
  | (u, v) :: r, h, t => by
    simp only [refFreeT, Bool.and_eq_true] at h
    simp only [lookT]
    cases nqb u t with
    | true => exact h.1
    | false => exact refFreeT_look h.2 t
theorem refFreeO_small {n : Nat} {l : List (Nat × Obj')} (h : refFreeO n l = true) : n < 1000000 := by
  induction l with
  | nil => exact nlt_lt (by rw [refFreeO] at h; exact h)
  | cons a r ih =>
    obtain ⟨u, o⟩ := a
    cases o with
    | box cs => simp only [refFreeO, Bool.and_eq_true] at h; exact ih h.2
    | arr s els => simp only [refFreeO, Bool.and_eq_true] at h; exact ih h.2
def boxFree (n : Nat) : Obj' → Prop
  | .box cs => refFreeL n cs = true
  | .arr _ _ => True
theorem refFreeO_mem {n : Nat} {l : List (Nat × Obj')} (h : refFreeO n l = true) : ∀ {m o}, (m, o) ∈ l → m ≠ n ∧ boxFree n o := by
  induction l with
  | nil => intro m o hm; exact absurd hm (by simp)
  | cons a r ih =>
    obtain ⟨u, o'⟩ := a
    cases o' with
    | box cs =>
      intro m o hm
      simp only [refFreeO, Bool.and_eq_true] at h
      simp only [List.mem_cons] at hm
      rcases hm with hm | hm
      · cases hm; exact ⟨beq_not h.1.1, h.1.2⟩
      · exact ih h.2 hm
    | arr s els =>
      intro m o hm
      simp only [refFreeO, Bool.and_eq_true] at h
      simp only [List.mem_cons] at hm
      rcases hm with hm | hm
      · cases hm; exact ⟨beq_not h.1, trivial⟩
      · exact ih h.2 hm

theorem ObjAt.upd {n : Nat} {x : Option Nat} {m : Nat} {o : Obj'} (h : ObjAt w S β m o) (hm : m ≠ n) (hf : boxFree n o) : ObjAt w S (updB β n x) m o := by
  cases o with
  | box cs =>
    obtain ⟨b, vs, T, e1, e2, e3, e4⟩ := h
    exact ⟨b, vs, T, by rw [updB_ne hm]; exact e1, e2, e3, fun j hj => (e4 j hj).upd (allL_getD rfl hf j)⟩
  | arr s els =>
    rcases h with ⟨e0, e⟩ | ⟨b, vs, T, e1, rest⟩
    · exact .inl ⟨by rw [updB_ne hm]; exact e0, e⟩
    · exact .inr ⟨b, vs, T, by rw [updB_ne hm]; exact e1, rest⟩

/-- A new name, of an empty row. -/
theorem Sim.fresh {ps : PS} (h : Sim w0 S0 K0 N (lookT ps.tmps) ps.objs a w S β) {n s : Nat} (hf : freeOf n ps = true) :
    Sim w0 S0 K0 N (lookT ps.tmps) (ps.objs ++ [(n, .arr s (fun _ => []))]) a w S (updB β n none) := by
  simp only [freeOf, Bool.and_eq_true] at hf
  have hmem : ∀ {m o}, (m, o) ∈ ps.objs ++ [(n, Obj'.arr s (fun _ => []))] → ((m, o) ∈ ps.objs ∧ m ≠ n) ∨ (m = n ∧ o = .arr s (fun _ => [])) := by
    intro m o hm
    simp only [List.mem_append, List.mem_singleton] at hm
    rcases hm with hm | hm
    · exact .inl ⟨hm, (refFreeO_mem hf.2 hm).1⟩
    · cases hm; exact .inr ⟨rfl, rfl⟩
  refine ⟨h.dfr, h.sz, h.ld, fun t => (h.tmp t).upd (refFreeT_look hf.1 t), ⟨?_, ?_, ?_, ?_⟩, ?_, ?_⟩
  · rw [List.map_append, List.nodup_append]
    refine ⟨h.obj.nd, by simp, ?_⟩
    intro x hx y hy e
    simp at hy
    subst hy e
    obtain ⟨⟨m, o⟩, h1, rfl⟩ := List.mem_map.1 hx
    exact (refFreeO_mem hf.2 h1).1 rfl
  · intro m o hm
    rcases hmem hm with ⟨h1, h2⟩ | ⟨rfl, rfl⟩
    · exact (h.obj.at_ m o h1).upd h2 (refFreeO_mem hf.2 h1).2
    · exact .inl ⟨updB_eq, rfl⟩
  · intro m o b hm hβ
    rcases hmem hm with ⟨h1, h2⟩ | ⟨rfl, rfl⟩
    · rw [updB_ne h2] at hβ; exact h.obj.un m o b h1 hβ
    · rw [updB_eq] at hβ; cases hβ
  · intro m o m' o' b hm hm' hβ hβ'
    rcases hmem hm with ⟨h1, h2⟩ | ⟨rfl, rfl⟩
    · rcases hmem hm' with ⟨h3, h4⟩ | ⟨rfl, rfl⟩
      · rw [updB_ne h2] at hβ; rw [updB_ne h4] at hβ'; exact h.obj.inj _ _ _ _ b h1 h3 hβ hβ'
      · rw [updB_eq] at hβ'; cases hβ'
    · rw [updB_eq] at hβ; cases hβ
  · intro m o b hm hβ
    rcases hmem hm with ⟨h1, h2⟩ | ⟨rfl, rfl⟩
    · rw [updB_ne h2] at hβ; exact h.own m o b h1 hβ
    · rw [updB_eq] at hβ; cases hβ
  · intro m o hm hb
    rcases hmem hm with ⟨h1, h2⟩ | ⟨rfl, rfl⟩
    · rw [updB_ne h2]; exact h.keep m o h1 hb
    · have := refFreeO_small hf.2; omega

theorem Sim.setT {ps : PS} (h : Sim w0 S0 K0 N (lookT ps.tmps) objs a w S β) {t : Nat} {x : PV} (hx : Rep w S β (a.tmps.getD t undef) x) : Sim w0 S0 K0 N (lookT (putT ps.tmps t x)) objs a w S β :=
  ⟨h.dfr, h.sz, h.ld, fun u => by
    rw [look_put]
    by_cases e : u = t
    · subst e; simpa using hx
    · simpa [e] using h.tmp u, h.obj, h.own, h.keep⟩

theorem mem_setO : ∀ {l : List (Nat × Obj')} {n : Nat} {x : Obj'} {m : Nat} {o : Obj'}, (l.map Prod.fst).Nodup → n ∈ l.map Prod.fst → (m, o) ∈ setO l n x → (m = n ∧ o = x) ∨ (m ≠ n ∧ (m, o) ∈ l)
  | (u, v) :: r, n, x, m, o, hnd, hn, hm => by
    simp only [List.map_cons, List.nodup_cons] at hnd
    simp only [setO] at hm
    cases hu : nqb u n with
    | true =>
      have := nqb_eq hu
      subst this
      simp only [hu, cond_true, List.mem_cons] at hm
      rcases hm with hm | hm
      · cases hm; exact .inl ⟨rfl, rfl⟩
      · refine .inr ⟨fun e => ?_, List.mem_cons_of_mem _ hm⟩
        subst e
        exact hnd.1 (List.mem_map.2 ⟨_, hm, rfl⟩)
    | false =>
      have hne : u ≠ n := fun e => by subst e; simp at hu
      simp only [hu, cond_false, List.mem_cons] at hm
      rcases hm with hm | hm
      · cases hm; exact .inr ⟨hne, List.mem_cons_self⟩
      · have hn' : n ∈ r.map Prod.fst := by
          simp only [List.map_cons, List.mem_cons] at hn
          rcases hn with hn | hn
          · exact absurd hn.symm hne
          · exact hn
        rcases mem_setO hnd.2 hn' hm with h | ⟨h1, h2⟩
        · exact .inl h
        · exact .inr ⟨h1, List.mem_cons_of_mem _ h2⟩
  | [], n, x, m, o, hnd, hn, hm => by simp at hn
theorem names_setO : ∀ {l : List (Nat × Obj')} {n : Nat} {x : Obj'}, n ∈ l.map Prod.fst → (setO l n x).map Prod.fst = l.map Prod.fst
  | (u, v) :: r, n, x, hn => by
    simp only [setO]
    cases hu : nqb u n with
    | true => have := nqb_eq hu; subst this; rfl
    | false =>
      have hne : u ≠ n := fun e => by subst e; simp at hu
      have hn' : n ∈ r.map Prod.fst := by
        simp only [List.map_cons, List.mem_cons] at hn
        rcases hn with hn | hn
        · exact absurd hn.symm hne
        · exact hn
      simp only [cond_false, List.map_cons, names_setO hn']
  | [], n, x, hn => by simp at hn

/-- An object is replaced by another that lies in the same place. -/
theorem Sim.setO (h : Sim w0 S0 K0 N τ objs a w S β) {n : Nat} {x : Obj'} (hn : n ∈ objs.map Prod.fst) (hx : ObjAt w S β n x) : Sim w0 S0 K0 N τ (Go.Proofs.YtbehbhicjmjdhaaGreat.setO objs n x) a w S β := by
  obtain ⟨⟨n', o0⟩, hm0, rfl⟩ := List.mem_map.1 hn
  have key : ∀ {m o}, (m, o) ∈ Go.Proofs.YtbehbhicjmjdhaaGreat.setO objs n' x → ∃ o', (m, o') ∈ objs := by
    intro m o hm
    rcases mem_setO h.obj.nd hn hm with ⟨rfl, rfl⟩ | ⟨_, h2⟩
    · exact ⟨o0, hm0⟩
    · exact ⟨o, h2⟩
  refine ⟨h.dfr, h.sz, h.ld, h.tmp, ⟨by rw [names_setO hn]; exact h.obj.nd, ?_, ?_, ?_⟩, ?_, ?_⟩
  · intro m o hm
    rcases mem_setO h.obj.nd hn hm with ⟨rfl, rfl⟩ | ⟨_, h2⟩
    · exact hx
    · exact h.obj.at_ m o h2
  · intro m o b hm hβ
    obtain ⟨o', h1⟩ := key hm
    exact h.obj.un m o' b h1 hβ
  · intro m o m' o' b hm hm' hβ hβ'
    obtain ⟨x1, h1⟩ := key hm
    obtain ⟨x2, h2⟩ := key hm'
    exact h.obj.inj _ _ _ _ b h1 h2 hβ hβ'
  · intro m o b hm hβ
    obtain ⟨o', h1⟩ := key hm
    exact h.own m o' b h1 hβ
  · intro m o hm hb
    obtain ⟨o', h1⟩ := key hm
    exact h.keep m o' h1 hb

theorem set_getD_pv (cs : List PV) (j k : Nat) (x : PV) (hk : k < cs.length) : (cs.set j x).getD k .any = if j = k then x else cs.getD k .any := by
  simp only [List.getD_eq_getElem?_getD, List.getElem?_set]
  by_cases h : j = k
  · subst h; simp [hk]
  · simp [h]

theorem Wk.sound {ps ps' : PS} (k : Wk ps ps') : ∀ {S β}, Sim w0 S0 K0 N (lookT ps.tmps) ps.objs a w S β → ∃ S' β', Sim w0 S0 K0 N (lookT ps'.tmps) ps'.objs a w S' β' := by
  induction k with
  | refl ps => intro S β h; exact ⟨S, β, h⟩
  | le ht ho hn => intro S β h; exact ⟨S, β, h.le ht ho hn⟩
  | frz n ho hc hT hO => intro S β h; exact h.frz ho hc hT hO
  | adoptT n s t hf ht =>
    intro S β h
    refine ⟨S, updB β n none, (h.fresh hf).setT ?_⟩
    have := h.tmp t
    rw [ht] at this
    obtain ⟨aa, hv⟩ := rep_nil this
    rw [hv]
    exact .osl0 updB_eq rfl rfl
  | @adoptB ps n s m j cs hf ho hj =>
    intro S β h
    have hmem := getO_mem ho
    have hf' := hf
    simp only [freeOf, Bool.and_eq_true] at hf'
    have hmn := (refFreeO_mem hf'.2 hmem).1
    have h1 := h.fresh (s := s) hf
    obtain ⟨b, vs, T, e1, e2, e3, e4⟩ := h.obj.at_ m _ hmem
    have hin : m ∈ (ps.objs ++ [(n, Obj'.arr s (fun _ => []))]).map Prod.fst := by
      rw [List.map_append]
      exact List.mem_append_left _ (List.mem_map.2 ⟨_, hmem, rfl⟩)
    have hjl : j < cs.length := by
      rcases Nat.lt_or_ge j cs.length with h' | h'
      · exact h'
      · rw [List.getElem?_eq_none h'] at hj; cases hj
    have h2 := h1.setO (n := m) (x := .box (cs.set j (.osl n s (fun _ => 0) (fun _ => 0)))) hin ⟨b, vs, T, by rw [updB_ne hmn]; exact e1, e2, by simpa using e3, fun k hk => by
      simp only [List.length_set] at hk
      rw [set_getD_pv _ _ _ _ hk]
      by_cases hjk : j = k
      · subst hjk
        rw [if_pos rfl]
        have := e4 j hk
        have hg : cs.getD j .any = .nil := by rw [List.getD_eq_getElem?_getD, hj]; rfl
        rw [hg] at this
        obtain ⟨aa, hv⟩ := rep_nil this
        rw [hv]
        exact .osl0 updB_eq rfl rfl
      · rw [if_neg hjk]
        exact (e4 k hk).upd (allL_getD rfl (refFreeO_mem hf'.2 hmem).2 k)⟩
    refine ⟨S, updB β n none, ?_⟩
    have : Go.Proofs.YtbehbhicjmjdhaaGreat.setO (ps.objs ++ [(n, Obj'.arr s (fun _ => []))]) m (.box (cs.set j (.osl n s (fun _ => 0) (fun _ => 0)))) = Go.Proofs.YtbehbhicjmjdhaaGreat.setO ps.objs m (.box (cs.set j (.osl n s (fun _ => 0) (fun _ => 0)))) ++ [(n, Obj'.arr s (fun _ => []))] := by
      have gen : ∀ (l : List (Nat × Obj')) (k : List (Nat × Obj')) (x : Obj'), m ∈ l.map Prod.fst → Go.Proofs.YtbehbhicjmjdhaaGreat.setO (l ++ k) m x = Go.Proofs.YtbehbhicjmjdhaaGreat.setO l m x ++ k := by
        intro l k x hm
        induction l with
        | nil => simp at hm
        | cons p r ih =>
          obtain ⟨u, v⟩ := p
          simp only [List.cons_append, Go.Proofs.YtbehbhicjmjdhaaGreat.setO]
          cases hu : nqb u m with
          | true => rfl
          | false =>
            have hne : u ≠ m := fun e => by subst e; simp at hu
            simp only [List.map_cons, List.mem_cons] at hm
            simp only [cond_false, List.cons_append]
            rw [ih (hm.resolve_left fun e => hne e.symm)]
      exact gen _ _ _ (List.mem_map.2 ⟨_, hmem, rfl⟩)
    rw [this] at h2
    exact h2
  | trans _ _ ih1 ih2 => intro S β h; obtain ⟨S', β', h'⟩ := ih1 h; exact ih2 h'

end
end Go.Proofs.YtbehbhicjmjdhaaGreat

namespace Go.Proofs.YtbehbhicjmjdhaaGreat
open Go
set_option linter.unusedVariables false
set_option linter.unusedSimpArgs false

section
variable {w0 : World} {S0 K0 : Nat → Prop} {N : Cx} {τ : Nat → PV} {objs : List (Nat × Obj')} {a : Act} {w w' : World} {S S' : Nat → Prop} {β : Nat → Option Nat}

theorem sim_putPS {ps : PS} (h : Sim w0 S0 K0 N (lookT ps.tmps) ps.objs a w S β) (d : Option Nat) (hd : ∀ t, d = some t → t < N) {v : Value} {x : PV} (hv : Rep w S β v x) :
    Sim w0 S0 K0 N (lookT (put ps d x).tmps) (put ps d x).objs (a.put d v) w S β := by
  rw [look_puts, objs_put]
  exact h.put d hd hv

theorem Sim.putT' {ps : PS} (h : Sim w0 S0 K0 N (lookT ps.tmps) objs a w S β) (d : Nat) (hd : d < N) {v : Value} {x : PV} (hv : Rep w S β v x) :
    Sim w0 S0 K0 N (lookT (putT ps.tmps d x)) objs (a.put (some d) v) w S β := by
  have := h.put (some d) (fun t e => by cases e; exact hd) hv
  have e : upd (lookT ps.tmps) (some d) x = lookT (putT ps.tmps d x) := by funext t; simp [upd, look_put]
  rwa [e] at this

/-- A new object, in a block that was not there. -/
theorem Sim.newObj {ps : PS} (h : Sim w0 S0 K0 N (lookT ps.tmps) ps.objs a w S β) {n b : Nat} {o : Obj'} (hf : freeOf n ps = true) (l : Leads w S nobody w' S) (hb : w.heap.size ≤ b) (hb' : b < w'.heap.size)
    (hat : ObjAt w' S (updB β n (some b)) n o) : Sim w0 S0 K0 N (lookT ps.tmps) (ps.objs ++ [(n, o)]) a w' S (updB β n (some b)) := by
  simp only [freeOf, Bool.and_eq_true] at hf
  have hmem : ∀ {m x}, (m, x) ∈ ps.objs ++ [(n, o)] → ((m, x) ∈ ps.objs ∧ m ≠ n) ∨ (m = n ∧ x = o) := by
    intro m x hm
    simp only [List.mem_append, List.mem_singleton] at hm
    rcases hm with hm | hm
    · exact .inl ⟨hm, (refFreeO_mem hf.2 hm).1⟩
    · cases hm; exact .inr ⟨rfl, rfl⟩
  have hg := h.go l
  refine ⟨h.dfr, h.sz, hg.ld, fun t => (hg.tmp t).upd (refFreeT_look hf.1 t), ⟨?_, ?_, ?_, ?_⟩, ?_, ?_⟩
  · rw [List.map_append, List.nodup_append]
    refine ⟨h.obj.nd, by simp, ?_⟩
    intro x hx y hy e
    simp at hy
    subst hy e
    obtain ⟨⟨m, o⟩, h1, rfl⟩ := List.mem_map.1 hx
    exact (refFreeO_mem hf.2 h1).1 rfl
  · intro m x hm
    rcases hmem hm with ⟨h1, h2⟩ | ⟨rfl, rfl⟩
    · exact (hg.obj.at_ m x h1).upd h2 (refFreeO_mem hf.2 h1).2
    · exact hat
  · intro m x c hm hβ
    rcases hmem hm with ⟨h1, h2⟩ | ⟨rfl, rfl⟩
    · rw [updB_ne h2] at hβ; exact hg.obj.un m x c h1 hβ
    · rw [updB_eq] at hβ
      cases hβ
      exact ⟨fun hS => by have := h.ld.bnd b hS; omega, hb'⟩
  · intro m x m' x' c hm hm' hβ hβ'
    rcases hmem hm with ⟨h1, h2⟩ | ⟨rfl, rfl⟩
    · rcases hmem hm' with ⟨h3, h4⟩ | ⟨rfl, rfl⟩
      · rw [updB_ne h2] at hβ; rw [updB_ne h4] at hβ'; exact hg.obj.inj _ _ _ _ c h1 h3 hβ hβ'
      · rw [updB_ne h2] at hβ
        rw [updB_eq] at hβ'
        cases hβ'
        have := (h.obj.un m x b h1 hβ).2
        omega
    · rcases hmem hm' with ⟨h3, h4⟩ | ⟨rfl, rfl⟩
      · rw [updB_ne h4] at hβ'
        rw [updB_eq] at hβ
        cases hβ
        have := (h.obj.un m' x' b h3 hβ').2
        omega
      · rfl
  · intro m x c hm hβ
    rcases hmem hm with ⟨h1, h2⟩ | ⟨rfl, rfl⟩
    · rw [updB_ne h2] at hβ; exact h.own m x c h1 hβ
    · rw [updB_eq] at hβ
      cases hβ
      have := h.ld.size
      exact .inl (by omega)
  · intro m x hm hb2
    rcases hmem hm with ⟨h1, h2⟩ | ⟨rfl, rfl⟩
    · rw [updB_ne h2]; exact h.keep m x h1 hb2
    · have := refFreeO_small hf.2; omega

/-- A nil-addressed object (of an empty row) of a new name. -/
theorem Sim.newNil {ps : PS} (h : Sim w0 S0 K0 N (lookT ps.tmps) ps.objs a w S β) {n s : Nat} {els : Unit → List (List D)} (hf : freeOf n ps = true) (he : els () = []) :
    Sim w0 S0 K0 N (lookT ps.tmps) (ps.objs ++ [(n, .arr s els)]) a w S (updB β n none) := by
  have : els = fun _ => [] := fU he
  rw [this]
  exact h.fresh hf

/-! ### Zero values -/

theorem ty_zero {t : Nat} (h : (ty t).isNo = false) : ∃ i zv, Pg.info? t = some i ∧ i.zero = some zv ∧ RepL w S β zv.cells (ty t).zero := by
  cases ht : ty t with
  | no => simp [ht, Ty.isNo] at h
  | sc z =>
    obtain ⟨i, d, zv, h1, h2, h3, h4, h5, h6, h7, _⟩ := ty_sc ht
    refine ⟨i, zv, h1, h4, ?_⟩
    rw [h6, h7]
    exact ofVals_rep #[zv]
  | st n fs z =>
    obtain ⟨i, fields, zs, h1, h2, h3, h4, h5, h6, h7, _⟩ := ty_st ht
    refine ⟨i, _, h1, h3, ?_⟩
    rw [h7]
    exact ofVals_rep zs
  | arr len n ag z =>
    obtain ⟨i, e, zs, h1, h2, h3, h4, h5, h6, h7, h8, h8', h8'', h9⟩ := ty_arr ht
    refine ⟨i, _, h1, h3, ?_⟩
    rw [h9]
    exact ofVals_rep zs
  | sli n b z =>
    obtain ⟨i, e, j, zv, h1, h2, h3, _⟩ := ty_sli ht
    exact ⟨i, _, h1, h3, ofVals_rep #[.slice none 0 0]⟩

theorem newBox_sound {o : Oper} {d : Nat} (hod : o.dst = some d) (hd : d < N) {cs : List PV} {ps : PS} {K : PS → Prop} {Km : Act → World → Prop} {Q : Exit → Act → World → Prop} (h : Sim w0 S0 K0 N (lookT ps.tmps) ps.objs a w S β) (hs : newBox d cs ps K)
    {cells : Array Value} {T : TypeId} (hr : RepL w S β cells cs) (hrun : (execOp a.eval o).run Pg w = .ok (.value (.pointer (some ⟨w.heap.size, 0, none⟩))) (w.alloc (.cells cells T)))
    (hk : ∀ ps' a' w' S' β', K ps' → Sim w0 S0 K0 N (lookT ps'.tmps) ps'.objs a' w' S' β' → Km a' w') (hcs : refFreeL d cs = true) : o.wp Pg a w Km Q := by
  unfold newBox at hs
  cases hf : freeOf d ps with
  | false => simp [hf] at hs
  | true =>
    simp only [hf, cond_true] at hs
    have l := alloc_leads0 (w := w) h.ld.bnd (.cells cells T)
    have hn := h.newObj (w' := w.alloc (.cells cells T)) (b := w.heap.size) (o := .box cs) hf l (Nat.le_refl _) (by simp) ⟨w.heap.size, cells, T, updB_eq, heap_alloc_new w _, hr.1, fun j hj =>
      ((hr.2 j hj).evo (l.evo h.ld.bnd) (l.subs h.ld.bnd)).upd (allL_getD rfl hcs j)⟩
    refine wp_val hrun ?_
    rw [hod]
    exact hk _ _ _ _ _ hs (hn.putT' d hd (.ptr updB_eq))

/-! ### Writing into a row -/

def wr (cur : Array Value) (pos : Nat) (news : List Value) : Array Value := (cur.toList.take pos ++ news ++ cur.toList.drop (pos + news.length)).toArray

theorem wr_size {cur : Array Value} {pos : Nat} {news : List Value} (h : pos + news.length ≤ cur.size) : (wr cur pos news).size = cur.size := by
  simp [wr]
  omega
theorem wr_getD {cur : Array Value} {pos : Nat} {news : List Value} (h : pos + news.length ≤ cur.size) (j : Nat) : (wr cur pos news).getD j undef = if pos ≤ j ∧ j < pos + news.length then news.getD (j - pos) undef else cur.getD j undef := by
  have hl : (cur.toList.take pos).length = pos := by simp; omega
  simp only [wr, Array.getD_eq_getD_getElem?, List.getElem?_toArray, List.getD_eq_getElem?_getD]
  congr 1
  by_cases h1 : j < pos
  · rw [if_neg (by omega), List.append_assoc, List.getElem?_append_left (by omega), List.getElem?_take_of_lt h1]
    simp
  · by_cases h2 : j < pos + news.length
    · rw [if_pos (by omega), List.append_assoc, List.getElem?_append_right (by omega), hl, List.getElem?_append_left (by omega)]
    · rw [if_neg (by omega), List.getElem?_append_right (by simp; omega), List.getElem?_drop]
      have : pos + news.length + (j - (List.take pos cur.toList ++ news).length) = j := by simp; omega
      rw [this]
      simp

theorem evo_setRow {b : Nat} {vs vs' : Array Value} {T : TypeId} (hS : ¬ S b) (hw : w.heap[b]? = some (.cells vs T (0, 0))) (hsz : vs'.size = vs.size) : Evo S w (w.setRow b vs') where
  same c hc := setRow_other w b c vs' (fun e => hS (e ▸ hc))
  shape c us U hc := by
    by_cases e : c = b
    · subst e
      rw [hw] at hc
      cases hc
      exact ⟨vs', setRow_heap w c vs vs' T (0, 0) hw, hsz⟩
    · exact ⟨us, by rw [setRow_other w b c vs' e]; exact hc, rfl⟩

theorem ObjAt.evo {n : Nat} {o : Obj'} (h : ObjAt w S β n o) (he : Evo S w w') (hb : ∀ b, β n = some b → w'.heap[b]? = w.heap[b]?) : ObjAt w' S β n o := by
  cases o with
  | box cs =>
    obtain ⟨b, vs, T, h1, h2, h3, h4⟩ := h
    exact ⟨b, vs, T, h1, (hb b h1).trans h2, h3, fun j hj => (h4 j hj).evo he (fun _ h => h)⟩
  | arr s els =>
    rcases h with h | ⟨b, vs, T, h1, h2, h3, h4, h5⟩
    · exact .inl h
    · exact .inr ⟨b, vs, T, h1, (hb b h1).trans h2, h3, h4, fun i j hi hj => ⟨(h5 i j hi hj).1.evo he.same (fun _ h => h), (h5 i j hi hj).2⟩⟩

theorem Sim.write (h : Sim w0 S0 K0 N τ objs a w S β) {n b : Nat} {o0 o : Obj'} {vs vs' : Array Value} {T : TypeId} (hm : (n, o0) ∈ objs) (hβ : β n = some b) (hw : w.heap[b]? = some (.cells vs T (0, 0))) (hsz : vs'.size = vs.size)
    (hat : ObjAt (w.setRow b vs') S β n o) : Sim w0 S0 K0 N τ (Go.Proofs.YtbehbhicjmjdhaaGreat.setO objs n o) a (w.setRow b vs') S β := by
  obtain ⟨hnS, hlt⟩ := h.obj.un n o0 b hm hβ
  have he := evo_setRow (w := w) (vs' := vs') hnS hw hsz
  have hn : n ∈ objs.map Prod.fst := List.mem_map.2 ⟨_, hm, rfl⟩
  have key : ∀ {m x}, (m, x) ∈ Go.Proofs.YtbehbhicjmjdhaaGreat.setO objs n o → ∃ x', (m, x') ∈ objs := by
    intro m x hx
    rcases mem_setO h.obj.nd hn hx with ⟨rfl, rfl⟩ | ⟨_, h2⟩
    · exact ⟨o0, hm⟩
    · exact ⟨x, h2⟩
  refine ⟨h.dfr, h.sz, ?_, fun t => (h.tmp t).evo he (fun _ h => h), ⟨by rw [names_setO hn]; exact h.obj.nd, ?_, ?_, ?_⟩, ?_, ?_⟩
  · refine ⟨by simpa using h.ld.size, h.ld.os, h.ld.tape, h.ld.output, fun c hc hk => ?_, fun c us U hc => ?_, fun c hS => by simpa using h.ld.bnd c hS, h.ld.sub, h.ld.old⟩
    · rw [setRow_other w b c vs' ?_]
      · exact h.ld.same c hc hk
      · rintro rfl
        rcases h.own n o0 c hm hβ with h' | h'
        · omega
        · exact hk h'
    · obtain ⟨us', e1, e2⟩ := h.ld.shape c us U hc
      obtain ⟨us'', e3, e4⟩ := he.shape c us' U e1
      exact ⟨us'', e3, e4.trans e2⟩
  · intro m x hx
    rcases mem_setO h.obj.nd hn hx with ⟨rfl, rfl⟩ | ⟨h1, h2⟩
    · exact hat
    · refine (h.obj.at_ m x h2).evo he fun c hc => setRow_other w b c vs' ?_
      rintro rfl
      exact h1 (h.obj.inj _ _ _ _ c h2 hm hc hβ)
  · intro m x c hx hc
    obtain ⟨x', h1⟩ := key hx
    simpa using h.obj.un m x' c h1 hc
  · intro m x m' x' c hx hx' hc hc'
    obtain ⟨y, h1⟩ := key hx
    obtain ⟨y', h2⟩ := key hx'
    exact h.obj.inj _ _ _ _ c h1 h2 hc hc'
  · intro m x c hx hc
    obtain ⟨y, h1⟩ := key hx
    exact h.own m y c h1 hc
  · intro m x hx hb2
    obtain ⟨y, h1⟩ := key hx
    exact h.keep m y h1 hb2

theorem run_storeAt {t : Nat} (hno : (ty t).isNo = false) {b o : Nat} {v : Value} {cur : Array Value} {T : TypeId} (hb : w.heap[b]? = some (.cells cur T (0, 0))) (hsz : v.cells.size = (ty t).cells) (hfit : o + v.cells.size ≤ cur.size)
    (h1 : ∀ u ∈ v.cells.toList, u.oneCell' = true) : (Instr.storeAt t (.pointer (some ⟨b, o, none⟩)) v).run Pg w = .ok () (w.setRow b (wr cur o v.cells.toList)) := by
  obtain ⟨i, d, hi, hu, hs, ha⟩ := ty_load hno
  have hst := run_storeCells_at (P := Pg) b o T v.cells.toList 0 cur w hb (by simpa using hfit) h1
  simp only [Nat.add_zero] at hst
  have e : v.cells.size = i.size := by rw [hsz, hs]
  simp only [Instr.storeAt, Instr.sureAddr, storeVar, Sem.run_bind, Sem.run_pure, Result.andThen_ok, run_size hi, e, ne_eq, not_true_eq_false, if_false, hst]
  rfl

theorem cells_one' {x : PV} {v : Value} (h : Rep w S β v x) (hp : allL cokC (cellsV x) = true) : partOk x = true := by
  cases x with
  | agg cs => rfl
  | _ => simpa [cellsV, allL, partOk] using hp

theorem allD_C : ∀ {l : List PV}, allL cokD l = true → allL cokC l = true
  | [], _ => rfl
  | c :: l, h => by simp only [allL, Bool.and_eq_true] at h ⊢; exact ⟨cokD_C h.1, allD_C h.2⟩

theorem one_cells {x : PV} {v : Value} (h : Rep w S β v x) (hp : allL cokC (cellsV x) = true) : ∀ u ∈ v.cells.toList, u.oneCell' = true := by
  obtain ⟨h1, h2⟩ := cells_rep h (cells_one' h hp)
  intro u hu
  obtain ⟨j, hj, rfl⟩ := List.getElem_of_mem hu
  have hj' : j < (cellsV x).length := by rw [← h1]; simpa using hj
  have hv : j < v.cells.size := by simpa using hj
  have := oneCell_of (h2 j hj') (allL_mem hp j hj')
  simpa [hv] using this

theorem cells_toList_getD (v : Value) (j : Nat) : v.cells.toList.getD j undef = v.cells.getD j undef := by
  simp

theorem store_box {ps : PS} {o : Oper} {t : TypeId} {ad vl : Operand} (hop : o.op = .store t ad vl) (hd : ∀ t, o.dst = some t → t < N) {K : PS → Prop} {Km : Act → World → Prop} {Q : Exit → Act → World → Prop} (h : Sim w0 S0 K0 N (lookT ps.tmps) ps.objs a w S β)
    {n off : Nat} {cs : List PV} (ha : ev (lookT ps.tmps) ad = .ptr n off) (ho : getO ps.objs n = some (.box cs)) (hl : (cellsV (ev (lookT ps.tmps) vl)).length = (ty t).cells) (hle : off + (ty t).cells ≤ cs.length) (h0 : 0 < (ty t).cells) (hok : allL cokC (cellsV (ev (lookT ps.tmps) vl)) = true)
    (hs : K (put ⟨ps.tmps, setO ps.objs n (.box (setAt cs off (cellsV (ev (lookT ps.tmps) vl))))⟩ o.dst .any))
    (hk : ∀ ps' a' w' S' β', K ps' → Sim w0 S0 K0 N (lookT ps'.tmps) ps'.objs a' w' S' β' → Km a' w') : o.wp Pg a w Km Q := by
  have hmem := getO_mem ho
  have hra := h.eval ad
  have hrv := h.eval vl
  rw [ha] at hra
  obtain ⟨b, hβ, hv⟩ := rep_ptr hra
  obtain ⟨b', vs, T, hβ', hb, hsz, hrr⟩ := obj_box h ho
  rw [hβ] at hβ'
  cases hβ'
  have hno : (ty t).isNo = false := by cases hty : ty t <;> simp [hty, Ty.cells, Ty.isNo] at h0 ⊢
  have hp := cells_one' hrv hok
  obtain ⟨c1, c2⟩ := cells_rep hrv hp
  have hfit : off + (a.eval vl).cells.toList.length ≤ vs.size := by simp; omega
  have hrun := run_storeAt (w := w) (b := b) (o := off) hno hb (by rw [c1, hl]) (by rw [c1]; omega) (one_cells hrv hok)
  have hw := wr_size hfit
  have hnS := (h.obj.un n _ b hmem hβ).1
  have he := evo_setRow (w := w) hnS hb hw
  have hsim := h.write (o := .box (setAt cs off (cellsV (ev (lookT ps.tmps) vl)))) hmem hβ hb hw ⟨b, _, T, hβ, setRow_heap w b vs _ T _ hb, by rw [hw, hsz, setAt_length _ _ _ (by omega)], fun j hj => by
    rw [setAt_length _ _ _ (by omega)] at hj
    rw [wr_getD hfit, setAt_getD _ _ _ (by omega)]
    have e : (a.eval vl).cells.toList.length = (cellsV (ev (lookT ps.tmps) vl)).length := by simpa using c1
    rw [e]
    by_cases hr : off ≤ j ∧ j < off + (cellsV (ev (lookT ps.tmps) vl)).length
    · rw [if_pos hr, if_pos hr, cells_toList_getD]
      exact (c2 (j - off) (by omega)).evo he (fun _ h => h)
    · rw [if_neg hr, if_neg hr]
      exact (hrr j hj).evo he (fun _ h => h)⟩
  refine wp_skip' (w' := w.setRow b (wr vs off (a.eval vl).cells.toList)) (by simp only [execOp, hop, hv, Sem.run_bind, hrun, Result.andThen_ok, Sem.run_pure]) ?_
  exact hk _ _ _ _ _ hs (sim_putPS (ps := ⟨ps.tmps, _⟩) hsim o.dst hd (rep_any _))

theorem getD_set_ll (l : List (List D)) (i k : Nat) (x : List D) (hi : i < l.length) : (l.set i x).getD k [] = if i = k then x else l.getD k [] := by
  simp only [List.getD_eq_getElem?_getD, List.getElem?_set]
  by_cases h : i = k
  · subst h; simp [hi]
  · simp [h]

theorem store_arr {ps : PS} {o : Oper} {t : TypeId} {ad vl : Operand} (hop : o.op = .store t ad vl) (hd : ∀ t, o.dst = some t → t < N) {K : PS → Prop} {Km : Act → World → Prop} {Q : Exit → Act → World → Prop} (h : Sim w0 S0 K0 N (lookT ps.tmps) ps.objs a w S β)
    {n s off : Nat} {i : Unit → Nat} {els : Unit → List (List D)} (ha : ev (lookT ps.tmps) ad = .aptr n s i off) (ho : getO ps.objs n = some (.arr s els)) (hl : (cellsV (ev (lookT ps.tmps) vl)).length = (ty t).cells) (hle : off + (ty t).cells ≤ s) (h0 : 0 < (ty t).cells) (hok : allL cokD (cellsV (ev (lookT ps.tmps) vl)) = true)
    (hs : ElOk s els i (fun c => K (put ⟨ps.tmps, setO ps.objs n (.arr s (fun _ => (els ()).set (i ()) (mapD (setAt c off (cellsV (ev (lookT ps.tmps) vl))))))⟩ o.dst .any)))
    (hk : ∀ ps' a' w' S' β', K ps' → Sim w0 S0 K0 N (lookT ps'.tmps) ps'.objs a' w' S' β' → Km a' w') : o.wp Pg a w Km Q := by
  have hmem := getO_mem ho
  have hra := h.eval ad
  have hrv := h.eval vl
  rw [ha] at hra
  obtain ⟨c, hcf, hcl, hck, hK⟩ := hs.h
  have hlt : i () < (els ()).length := by
    rcases Nat.lt_or_ge (i ()) (els ()).length with h' | h'
    · exact h'
    · rw [List.getElem?_eq_none h'] at hck; cases hck
  obtain ⟨b, hβ, hv⟩ := rep_aptr hra
  rcases h.obj.at_ n _ hmem with ⟨hn, he0⟩ | ⟨b', vs, T, hβ', hb, hsz, hwid, hrr⟩
  · rw [he0] at hlt; simp at hlt
  rw [hβ] at hβ'
  cases hβ'
  have hno : (ty t).isNo = false := by cases hty : ty t <;> simp [hty, Ty.cells, Ty.isNo] at h0 ⊢
  have hokC := allD_C hok
  have hp := cells_one' hrv hokC
  obtain ⟨c1, c2⟩ := cells_rep hrv hp
  have hin : i () * s + s ≤ (els ()).length * s := by
    calc i () * s + s = (i () + 1) * s := by rw [Nat.add_mul]; omega
      _ ≤ _ := Nat.mul_le_mul_right _ hlt
  have hfit : i () * s + off + (a.eval vl).cells.toList.length ≤ vs.size := by simp; omega
  have hrun := run_storeAt (w := w) (b := b) (o := i () * s + off) hno hb (by rw [c1, hl]) (by rw [c1]; omega) (one_cells hrv hokC)
  have hw := wr_size hfit
  have hnS := (h.obj.un n _ b hmem hβ).1
  have he := evo_setRow (w := w) hnS hb hw
  have hg : (els ()).getD (i ()) [] = mapD c := by rw [List.getD_eq_getElem?_getD, hck]; rfl
  have hsim := h.write (o := .arr s (fun _ => (els ()).set (i ()) (mapD (setAt c off (cellsV (ev (lookT ps.tmps) vl)))))) hmem hβ hb hw (.inr ⟨b, _, T, hβ, setRow_heap w b vs _ T _ hb, by rw [hw]; simpa using hsz, fun e hm => by
    rcases List.mem_or_eq_of_mem_set hm with hm | rfl
    · exact hwid e hm
    · rw [mapD_length, setAt_length _ _ _ (by omega), hcl], fun k j hkl hj => by
    simp only [List.length_set] at hkl
    rw [wr_getD hfit, getD_set_ll _ _ _ _ hlt]
    have e : (a.eval vl).cells.toList.length = (cellsV (ev (lookT ps.tmps) vl)).length := by simpa using c1
    rw [e]
    by_cases hki : i () = k
    · subst hki
      rw [if_pos rfl, mapD_getD, setAt_getD _ _ _ (by omega)]
      by_cases hr : off ≤ j ∧ j < off + (cellsV (ev (lookT ps.tmps) vl)).length
      · rw [if_pos (by omega), if_pos hr, cells_toList_getD]
        have e2 : i () * s + j - (i () * s + off) = j - off := by omega
        rw [e2]
        have hj2 : j - off < (cellsV (ev (lookT ps.tmps) vl)).length := by omega
        exact ⟨(rep_stor (c2 (j - off) hj2) (cokD_stor (allL_mem hok _ hj2))).evo he.same (fun _ h => h), oneCell_of (c2 (j - off) hj2) (cokD_C (allL_mem hok _ hj2))⟩
      · rw [if_neg (by omega), if_neg hr]
        have := hrr (i ()) j hlt hj
        rw [hg, mapD_getD] at this
        exact ⟨this.1.evo he.same (fun _ h => h), this.2⟩
    · rw [if_neg hki]
      have hout : ¬ (i () * s + off ≤ k * s + j ∧ k * s + j < i () * s + off + (cellsV (ev (lookT ps.tmps) vl)).length) := by
        rcases Nat.lt_or_gt_of_ne hki with hlt' | hgt
        · have : (i () + 1) * s ≤ k * s := Nat.mul_le_mul_right _ hlt'
          rw [Nat.add_mul] at this
          omega
        · have : (k + 1) * s ≤ i () * s := Nat.mul_le_mul_right _ hgt
          rw [Nat.add_mul] at this
          omega
      rw [if_neg hout]
      have := hrr k j hkl hj
      exact ⟨this.1.evo he.same (fun _ h => h), this.2⟩⟩)
  refine wp_skip' (w' := w.setRow b (wr vs (i () * s + off) (a.eval vl).cells.toList)) (by simp only [execOp, hop, hv, Sem.run_bind, hrun, Result.andThen_ok, Sem.run_pure]) ?_
  exact hk _ _ _ _ _ hK (sim_putPS (ps := ⟨ps.tmps, _⟩) hsim o.dst hd (rep_any _))

/-! ### make -/

theorem madeCells_getD (z : Array Value) (n j : Nat) (hj : j < n) (hz : 0 < z.size) : (madeCells z n).getD j undef = z.getD (j % z.size) undef := by
  have : j % z.size < z.size := Nat.mod_lt _ hz
  simp [madeCells, hj, getElem!_def, Array.getElem?_eq_getElem this]

theorem make_sound {ps : PS} {o : Oper} {t : TypeId} {l c : Operand} {d : Nat} (hop : o.op = .makeSlice t l c) (hod : o.dst = some d) (hd : d < N) {K : PS → Prop} {Km : Act → World → Prop} {Q : Exit → Act → World → Prop} (h : Sim w0 S0 K0 N (lookT ps.tmps) ps.objs a w S β)
    {n b : Nat} {z : List PV} (ht : ty t = .sli n b z) {x y : Unit → Int} (hl : ev (lookT ps.tmps) l = .int .i64 x) (hc : ev (lookT ps.tmps) c = .int .i64 y) (hR : Room y b) (hM : MkOk x y) (hf : freeOf d ps = true) (hz : allL cokD z = true)
    (hs : K ⟨putT ps.tmps d (.osl d n (fun _ => 0) (fun _ => (x ()).toNat)), ps.objs ++ [(d, .arr n (fun _ => List.replicate (x ()).toNat (mapD z)))]⟩)
    (hk : ∀ ps' a' w' S' β', K ps' → Sim w0 S0 K0 N (lookT ps'.tmps) ps'.objs a' w' S' β' → Km a' w') : o.wp Pg a w Km Q := by
  obtain ⟨inf, el, j, zv, h1, h2, h3, h4, h5, h6, h7, h8, h9, h10, h11, h12⟩ := ty_sli ht
  have hrl := h.eval l; have hrc := h.eval c
  rw [hl] at hrl; rw [hc] at hrc
  have hlv := rep_int hrl; have hcv := rep_int hrc
  have hx0 := hM.lo; have hxy := hM.hi; have hy0 := hR.lo; have hyb := hR.hi
  have hyle : y () ≤ y () * (b : Int) := by
    have : y () * 1 ≤ y () * (b : Int) := Int.mul_le_mul_of_nonneg_left (by omega) hy0
    omega
  have hbytes : (j.bytes : Int) * y () ≤ 281474976710656 := by rw [h8, Int.mul_comm]; omega
  have hrun := run_make (P := Pg) w t el j zv h4 h5 h6 .i64 .i64 (x ()) (y ()) hx0 hxy hbytes (by omega)
  have hsz : (madeCells zv.cells ((y ()).toNat * j.size)).size = (y ()).toNat * n := by rw [size_madeCells, h7]
  have ld := alloc_leads0 (w := w) h.ld.bnd (.cells (madeCells zv.cells ((y ()).toNat * j.size)) el)
  have hzl : z.length = n := by rw [h11]; simp [h9]
  have hz' := ofVals_rep (w := w) (S := S) (β := β) zv.cells
  rw [← h11] at hz'
  have hxn : (x ()).toNat ≤ (y ()).toNat := by omega
  have hn := h.newObj (w' := w.alloc (.cells (madeCells zv.cells ((y ()).toNat * j.size)) el)) (b := w.heap.size) (o := .arr n (fun _ => List.replicate (x ()).toNat (mapD z))) hf ld (Nat.le_refl _) (by simp)
    (.inr ⟨w.heap.size, _, el, updB_eq, heap_alloc_new w _, by rw [hsz]; simpa using Nat.mul_le_mul_right n hxn, fun e he => by
      rw [List.eq_of_mem_replicate he, mapD_length, hzl], fun i k hi hk' => by
      simp only [List.length_replicate] at hi
      have hlt : i * n + k < (y ()).toNat * n := by
        calc i * n + k < i * n + n := by omega
          _ = (i + 1) * n := by rw [Nat.add_mul]; omega
          _ ≤ _ := Nat.mul_le_mul_right _ (by omega)
      have hmod : (i * n + k) % zv.cells.size = k := by rw [h9, Nat.add_comm, Nat.add_mul_mod_self_right, Nat.mod_eq_of_lt hk']
      have hg : (madeCells zv.cells ((y ()).toNat * j.size)).getD (i * n + k) undef = zv.cells.getD k undef := by
        rw [madeCells_getD _ _ _ (by rw [h7]; exact hlt) (by omega), hmod]
      have hrep : (List.replicate (x ()).toNat (mapD z)).getD i [] = mapD z := by
        simp [hi]
      rw [hrep, mapD_getD]
      have hr := hz'.2 k (by omega)
      have hck := allL_mem hz k (by omega)
      refine ⟨?_, ?_⟩
      · rw [hg]; exact (rep_stor hr (cokD_stor hck)).evo (ld.evo h.ld.bnd).same (ld.subs h.ld.bnd)
      · rw [hg]; exact oneCell_of hr (cokD_C hck)⟩)
  refine wp_val (w' := w.alloc (.cells (madeCells zv.cells ((y ()).toNat * j.size)) el)) (v := .slice (some ⟨w.heap.size, 0, none⟩) (x ()).toNat (y ()).toNat) ?_ ?_
  · simp only [execOp, hop, hlv, hcv, Sem.run_bind, hrun, Result.andThen_ok, Sem.run_pure]
  · rw [hod]
    have hv : Rep (w.alloc (.cells (madeCells zv.cells ((y ()).toNat * j.size)) el)) S (updB β d (some w.heap.size)) (.slice (some ⟨w.heap.size, 0, none⟩) (x ()).toNat (y ()).toNat) (.osl d n (fun _ => 0) (fun _ => (x ()).toNat)) := by
      have := Rep.osl (w := w.alloc (.cells (madeCells zv.cells ((y ()).toNat * j.size)) el)) (S := S) (β := updB β d (some w.heap.size)) (n := d) (s := n) (cap := (y ()).toNat) (b := w.heap.size) (o := fun _ => 0) (len := fun _ => (x ()).toNat) updB_eq hxn (heap_alloc_new w _) (by rw [hsz, Nat.zero_add]; exact Nat.le_refl _)
      rwa [Nat.zero_mul] at this
    exact hk _ _ _ _ _ hs (hn.putT' d hd hv)

end
end Go.Proofs.YtbehbhicjmjdhaaGreat
