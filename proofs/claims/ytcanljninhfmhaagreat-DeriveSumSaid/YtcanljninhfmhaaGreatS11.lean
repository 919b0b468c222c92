/- A part of the proof: PmM. -/
import Derived.Test.YtcanljninhfmhaaGreatS10
set_option linter.all false
namespace Go.Proofs.YtcanljninhfmhaaGreat
open Go
set_option linter.unusedVariables false
set_option linter.unusedSimpArgs false
section
variable {w0 : World} {S0 : Nat → Nat → Prop} {K0 : Nat → Prop} {N : Cx} {τ : Nat → PV} {objs : List (Nat × Obj')} {a : Act} {w w' : World} {S S' : Nat → Nat → Prop} {β β' βf : Nat → Option Nat} {h : Nat → Nat}
theorem ren0_in {v pv} (r : Rep w S β v (rn0 h pv)) (hl : lv0 pv = true) : Rep w S (fun n => β (h n)) v pv := by
 cases pv with
 | agg cs => simp [lv0] at hl
 | tup cs => simp [lv0] at hl
 | fn f cs => simp [lv0] at hl
 | ptr m off => obtain ⟨b, hβ, rfl⟩ := rep_ptr r; exact .ptr hβ
 | aptr m s i off => obtain ⟨b, hβ, rfl⟩ := rep_aptr r; exact .aptr hβ
 | osl m s i len =>
  rcases rep_osl r with ⟨hn, ho, hl, aa, rfl⟩ | ⟨b, cap, vs, T, hβ, hlc, hw, hsz, rfl⟩
  ·exact .osl0 hn ho hl
  ·exact .osl hβ hlc hw hsz
 | nil => obtain ⟨aa, rfl⟩ := rep_nil r; exact .nil aa
 | dptr cs o => obtain ⟨b, o', vals, hS, rfl, hf, hc, hr⟩ := rep_dptr r; exact .dptr vals hS hf hc hr
 | nilf => cases r with | c hf h => cases hf | nilf => exact .nilf
 | _ => exact .c rfl (rep_flat r rfl)
theorem ren1_in {v pv} (r : Rep w S β v (rn1 h pv)) (hl : lv1 pv = true) : Rep w S (fun n => β (h n)) v pv := by
 cases pv with
 | agg cs =>
  obtain ⟨vs, rfl, h1, h2⟩ := rep_agg r
  rw [mapC_length] at h1
  exact .agg h1 fun j hj => ren0_in (by have := h2 j (by rw [mapC_length]; exact hj); rwa [mapC_getD _ rfl] at this) (allL_mem (by simpa only [lv1] using hl) j hj)
 | tup cs =>
  obtain ⟨vs, rfl, h1, h2⟩ := rep_tup r
  rw [mapC_length] at h1
  exact .tup h1 fun j hj => ren0_in (by have := h2 j (by rw [mapC_length]; exact hj); rwa [mapC_getD _ rfl] at this) (allL_mem (by simpa only [lv1] using hl) j hj)
 | fn f cs =>
  obtain ⟨vs, rfl, h1, h2⟩ := rep_fn r
  rw [mapC_length] at h1
  exact .fn h1 fun j hj => ren0_in (by have := h2 j (by rw [mapC_length]; exact hj); rwa [mapC_getD _ rfl] at this) (allL_mem (by simpa only [lv1] using hl) j hj)
 | _ => exact ren0_in r rfl
theorem ren_in {v pv} (r : Rep w S β v (ren h pv)) (hl : lv pv = true) : Rep w S (fun n => β (h n)) v pv := by
 cases pv with
 | agg cs =>
  obtain ⟨vs, rfl, h1, h2⟩ := rep_agg r
  rw [mapC_length] at h1
  exact .agg h1 fun j hj => ren1_in (by have := h2 j (by rw [mapC_length]; exact hj); rwa [mapC_getD _ rfl] at this) (allL_mem (by simpa only [lv] using hl) j hj)
 | tup cs =>
  obtain ⟨vs, rfl, h1, h2⟩ := rep_tup r
  rw [mapC_length] at h1
  exact .tup h1 fun j hj => ren1_in (by have := h2 j (by rw [mapC_length]; exact hj); rwa [mapC_getD _ rfl] at this) (allL_mem (by simpa only [lv] using hl) j hj)
 | fn f cs =>
  obtain ⟨vs, rfl, h1, h2⟩ := rep_fn r
  rw [mapC_length] at h1
  exact .fn h1 fun j hj => ren1_in (by have := h2 j (by rw [mapC_length]; exact hj); rwa [mapC_getD _ rfl] at this) (allL_mem (by simpa only [lv] using hl) j hj)
 | _ => exact ren0_in r rfl
theorem ren0_out {l : List Nat} (hl' : ∀ n, n ∈ l → βf (h n) = β' n) {v pv} (r : Rep w S β' v pv) (hn : nm0 l pv = true) : Rep w S βf v (rn0 h pv) := by
 cases pv with
 | agg cs => simp [nm0] at hn
 | tup cs => simp [nm0] at hn
 | fn f cs => simp [nm0] at hn
 | ptr m off => obtain ⟨b, hβ, rfl⟩ := rep_ptr r; exact .ptr (by rw [hl' _ (nmHas_mem (by simpa only [nm0] using hn))]; exact hβ)
 | aptr m s i off => obtain ⟨b, hβ, rfl⟩ := rep_aptr r; exact .aptr (by rw [hl' _ (nmHas_mem (by simpa only [nm0] using hn))]; exact hβ)
 | osl m s i len =>
  have e := hl' _ (nmHas_mem (by simpa only [nm0] using hn))
  rcases rep_osl r with ⟨hn, ho, hl, aa, rfl⟩ | ⟨b, cap, vs, T, hβ, hlc, hw, hsz, rfl⟩
  ·exact .osl0 (by rw [e]; exact hn) ho hl
  ·exact .osl (by rw [e]; exact hβ) hlc hw hsz
 | nil => obtain ⟨aa, rfl⟩ := rep_nil r; exact .nil aa
 | dptr cs o => obtain ⟨b, o', vals, hS, rfl, hf, hc, hr⟩ := rep_dptr r; exact .dptr vals hS hf hc hr
 | nilf => cases r with | c hf h => cases hf | nilf => exact .nilf
 | _ => exact .c rfl (rep_flat r rfl)
theorem ren1_out {l : List Nat} (hl' : ∀ n, n ∈ l → βf (h n) = β' n) {v pv} (r : Rep w S β' v pv) (hn : nm1 l pv = true) : Rep w S βf v (rn1 h pv) := by
 cases pv with
 | agg cs =>
  obtain ⟨vs, rfl, h1, h2⟩ := rep_agg r
  exact .agg (by rw [mapC_length]; exact h1) fun j hj => by rw [mapC_length] at hj; rw [mapC_getD _ rfl]; exact ren0_out hl' (h2 j hj) (allL_mem (by simpa only [nm1] using hn) j hj)
 | tup cs =>
  obtain ⟨vs, rfl, h1, h2⟩ := rep_tup r
  exact .tup (by rw [mapC_length]; exact h1) fun j hj => by rw [mapC_length] at hj; rw [mapC_getD _ rfl]; exact ren0_out hl' (h2 j hj) (allL_mem (by simpa only [nm1] using hn) j hj)
 | fn f cs =>
  obtain ⟨vs, rfl, h1, h2⟩ := rep_fn r
  exact .fn (by rw [mapC_length]; exact h1) fun j hj => by rw [mapC_length] at hj; rw [mapC_getD _ rfl]; exact ren0_out hl' (h2 j hj) (allL_mem (by simpa only [nm1] using hn) j hj)
 | _ => exact ren0_out hl' r hn
theorem ren_out {l : List Nat} (hl' : ∀ n, n ∈ l → βf (h n) = β' n) {v pv} (r : Rep w S β' v pv) (hn : nmIn l pv = true) : Rep w S βf v (ren h pv) := by
 cases pv with
 | agg cs =>
  obtain ⟨vs, rfl, h1, h2⟩ := rep_agg r
  exact .agg (by rw [mapC_length]; exact h1) fun j hj => by rw [mapC_length] at hj; rw [mapC_getD _ rfl]; exact ren1_out hl' (h2 j hj) (allL_mem (by simpa only [nmIn] using hn) j hj)
 | tup cs =>
  obtain ⟨vs, rfl, h1, h2⟩ := rep_tup r
  exact .tup (by rw [mapC_length]; exact h1) fun j hj => by rw [mapC_length] at hj; rw [mapC_getD _ rfl]; exact ren1_out hl' (h2 j hj) (allL_mem (by simpa only [nmIn] using hn) j hj)
 | fn f cs =>
  obtain ⟨vs, rfl, h1, h2⟩ := rep_fn r
  exact .fn (by rw [mapC_length]; exact h1) fun j hj => by rw [mapC_length] at hj; rw [mapC_getD _ rfl]; exact ren1_out hl' (h2 j hj) (allL_mem (by simpa only [nmIn] using hn) j hj)
 | _ => exact ren0_out hl' r hn
theorem closed_at {n m : Nat} {o : Obj'} (hc : closedO o = true) (hat : ObjAt w S β' n o) (he : β m = β' n) : ObjAt w S β m o := by
 cases o with
 | box cs =>
  obtain ⟨b, vs, T, e1, e2, e3, e4⟩ := hat
  refine ⟨b, vs, T, by rw [he]; exact e1, e2, e3, fun j hj => ?_⟩
  have hs := allL_mem (by simpa only [closedO] using hc) j hj
  have hr := e4 j hj
  generalize hx : cs.getD j .any = x at hs hr ⊢
  cases x with
  | nil => obtain ⟨aa, hv⟩ := rep_nil hr; rw [hv]; exact .nil aa
  | _ => first | (simp [stor, flat] at hs; done) | exact .c rfl (rep_flat hr rfl)
 | arr s els =>
  rcases hat with ⟨e0, e⟩ | ⟨b, vs, T, e1, rest⟩
  ·exact .inl ⟨by rw [he]; exact e0, e⟩
  ·exact .inr ⟨b, vs, T, by rw [he]; exact e1, rest⟩
 | log s els => cases hc
 | lent s els => cases hc
theorem closed_pub {o : Obj'} (hc : closedO o = true) {i : Nat} : ¬ pubIn o i := by
 cases o with
 | box cs => exact id
 | arr s els => exact id
 | log s els => cases hc
 | lent s els => cases hc
theorem stor_free (n : Nat) : ∀ {cs : List PV}, allL stor cs = true → refFreeL n cs = true
 | [], _ => rfl
 | c :: cs, h => by
  simp only [allL, Bool.and_eq_true] at h
  simp only [refFreeL, allL, Bool.and_eq_true]
  exact ⟨by cases c <;> simp_all [stor, flat, refFree, rf0], stor_free n h.2⟩
theorem closed_boxFree {n : Nat} {o : Obj'} (hc : closedO o = true) : boxFree n o := by
 cases o with
 | box cs => exact stor_free n hc
 | arr s els => trivial
 | log s els => trivial
 | lent s els => trivial
theorem refFreeO_of {n : Nat} (hn : n < 1000000) : ∀ {l : List (Nat × Obj')}, (∀ m o, (m, o) ∈ l → m ≠ n ∧ boxFree n o) → refFreeO n l = true
 | [], _ => by simp [refFreeO, nlt]; omega
 | (m, .box cs) :: r, h => by
  have h1 := h m _ List.mem_cons_self
  simp only [refFreeO, Bool.and_eq_true]
  exact ⟨⟨by rw [nbeq h1.1]; rfl, h1.2⟩, refFreeO_of hn fun m o hm => h m o (List.mem_cons_of_mem _ hm)⟩
 | (m, .arr s els) :: r, h => by
  have h1 := h m _ List.mem_cons_self
  simp only [refFreeO, Bool.and_eq_true]
  exact ⟨by rw [nbeq h1.1]; rfl, refFreeO_of hn fun m o hm => h m o (List.mem_cons_of_mem _ hm)⟩
 | (m, .log s els) :: r, h => by
  have h1 := h m _ List.mem_cons_self
  simp only [refFreeO, Bool.and_eq_true]
  exact ⟨by rw [nbeq h1.1]; rfl, refFreeO_of hn fun m o hm => h m o (List.mem_cons_of_mem _ hm)⟩
 | (m, .lent s els) :: r, h => by
  have h1 := h m _ List.mem_cons_self
  simp only [refFreeO, Bool.and_eq_true]
  exact ⟨by rw [nbeq h1.1]; rfl, refFreeO_of hn fun m o hm => h m o (List.mem_cons_of_mem _ hm)⟩
theorem scrs_rep : ∀ (l : List Nat) {v pv}, Rep w S β v pv → Rep w S β v (scrs l pv)
 | [], v, pv, h => h
 | n :: r, v, pv, h => scrs_rep r (scr_rep h)
theorem scrs_any : ∀ (l : List Nat), scrs l .any = .any
 | [] => rfl
 | n :: r => scrs_any r
theorem mem_dels : ∀ {l : List Nat} {objs : List (Nat × Obj')} {m : Nat} {o : Obj'}, (m, o) ∈ dels l objs → (m, o) ∈ objs ∧ m ∉ l
 | [], objs, m, o, h => ⟨h, by simp⟩
 | n :: r, objs, m, o, h => by
  obtain ⟨h1, h2⟩ := mem_dels (l := r) h
  obtain ⟨h3, h4⟩ := mem_delO h1
  exact ⟨h3, by simp [h2, h4]⟩
theorem dels_sub : ∀ (l : List Nat) (objs : List (Nat × Obj')), ((dels l objs).map Prod.fst).Sublist (objs.map Prod.fst)
 | [], objs => List.Sublist.refl _
 | n :: r, objs => (dels_sub r _).trans (delO_sub _ _)
theorem mem_delO' : ∀ {l : List (Nat × Obj')} {n m : Nat} {o : Obj'}, (m, o) ∈ l → m ≠ n → (m, o) ∈ delO l n
 | (u, x) :: r, n, m, o, h, hne => by
  simp only [delO]
  simp only [List.mem_cons] at h
  cases hu : nqb u n with
  | true =>
   have := nqb_eq hu
   subst this
   simp only [cond_true]
   rcases h with h | h
   ·cases h; exact absurd rfl hne
   ·exact mem_delO' h hne
  | false =>
   simp only [cond_false, List.mem_cons]
   rcases h with h | h
   ·exact .inl h
   ·exact .inr (mem_delO' h hne)
theorem mem_dels' : ∀ {l : List Nat} {objs : List (Nat × Obj')} {m : Nat} {o : Obj'}, (m, o) ∈ objs → m ∉ l → (m, o) ∈ dels l objs
 | [], objs, m, o, h, _ => h
 | n :: r, objs, m, o, h, hn => by
  simp only [List.mem_cons, not_or] at hn
  exact mem_dels' (l := r) (mem_delO' h hn.1) hn.2
theorem mem_mapO' (f : PV → PV) : ∀ {l : List (Nat × Obj')} {n : Nat} {o : Obj'}, (n, o) ∈ l → ∃ o', (n, o') ∈ mapO f l
 | (m, .box cs) :: r, n, o, h => by
  simp only [List.mem_cons] at h
  rcases h with h | h
  ·cases h; exact ⟨_, List.mem_cons_self⟩
  ·obtain ⟨o', h'⟩ := mem_mapO' f h; exact ⟨o', List.mem_cons_of_mem _ h'⟩
 | (m, .arr s els) :: r, n, o, h => by
  simp only [List.mem_cons] at h
  rcases h with h | h
  ·cases h; exact ⟨_, List.mem_cons_self⟩
  ·obtain ⟨o', h'⟩ := mem_mapO' f h; exact ⟨o', List.mem_cons_of_mem _ h'⟩
 | (m, .log s els) :: r, n, o, h => by
  simp only [List.mem_cons] at h
  rcases h with h | h
  ·cases h; exact ⟨_, List.mem_cons_self⟩
  ·obtain ⟨o', h'⟩ := mem_mapO' f h; exact ⟨o', List.mem_cons_of_mem _ h'⟩
 | (m, .lent s els) :: r, n, o, h => by
  simp only [List.mem_cons] at h
  rcases h with h | h
  ·cases h; exact ⟨_, List.mem_cons_self⟩
  ·obtain ⟨o', h'⟩ := mem_mapO' f h; exact ⟨o', List.mem_cons_of_mem _ h'⟩
theorem mem_namesH : ∀ {l : List (Nat × Obj')} {m : Nat} {o : Obj'}, (m, o) ∈ namesH h l ↔ ∃ n, (n, o) ∈ l ∧ m = h n
 | [], m, o => by simp [namesH]
 | (n, x) :: r, m, o => by
  simp only [namesH, List.mem_cons, mem_namesH (l := r)]
  constructor
  ·rintro (e | ⟨k, hk, e⟩)
   ·cases e; exact ⟨n, .inl rfl, rfl⟩
   ·exact ⟨k, .inr hk, e⟩
  ·rintro ⟨k, hk | hk, e⟩
   ·cases hk; exact .inl (by rw [e])
   ·exact .inr ⟨k, hk, e⟩
theorem namesH_append : ∀ (l k : List (Nat × Obj')), namesH h (l ++ k) = namesH h l ++ namesH h k
 | [], k => rfl
 | (n, x) :: r, k => by simp [namesH, namesH_append r k]
theorem namesH_fst : ∀ (l : List (Nat × Obj')), (namesH h l).map Prod.fst = (l.map Prod.fst).map h
 | [] => rfl
 | (n, x) :: r => by simp [namesH, namesH_fst r]
theorem hasObjs_mem : ∀ {l objs : List (Nat × Obj')}, hasObjs h objs l → ∀ {n o}, (n, o) ∈ l → (h n, o) ∈ objs ∧ closedO o = true
 | (m, x) :: r, objs, H, n, o, hm => by
  simp only [List.mem_cons] at hm
  rcases hm with hm | hm
  ·cases hm; exact ⟨getO_mem H.1.1, H.1.2⟩
  ·exact hasObjs_mem H.2 hm
theorem closedOs_mem : ∀ {l : List (Nat × Obj')}, closedOs l = true → ∀ {n o}, (n, o) ∈ l → closedO o = true
 | (m, x) :: r, H, n, o, hm => by
  simp only [closedOs, Bool.and_eq_true] at H
  simp only [List.mem_cons] at hm
  rcases hm with hm | hm
  ·cases hm; exact H.1
  ·exact closedOs_mem H.2 hm
theorem freeAll_mem {ps : PS} : ∀ {l : List (Nat × Obj')}, freeAll h ps l = true → ∀ {n o}, (n, o) ∈ l → freeOf (h n) ps = true
 | (m, x) :: r, H, n, o, hm => by
  simp only [freeAll, Bool.and_eq_true] at H
  simp only [List.mem_cons] at hm
  rcases hm with hm | hm
  ·cases hm; exact H.1
  ·exact freeAll_mem H.2 hm
theorem nmsO_mem : ∀ {l : List (Nat × Obj')} {n : Nat}, n ∈ nmsO l → ∃ o, (n, o) ∈ l
 | (m, x) :: r, n, hm => by
  simp only [nmsO, List.mem_cons] at hm
  rcases hm with hm | hm
  ·subst hm; exact ⟨x, List.mem_cons_self⟩
  ·obtain ⟨o, ho⟩ := nmsO_mem hm; exact ⟨o, List.mem_cons_of_mem _ ho⟩
theorem inj_map : ∀ {l : List Nat}, (l.map h).Nodup → ∀ {n m}, n ∈ l → m ∈ l → h n = h m → n = m
 | x :: r, hnd, n, m, hn, hm, e => by
  simp only [List.map_cons, List.nodup_cons] at hnd
  simp only [List.mem_cons] at hn hm
  rcases hn with rfl | hn
  ·rcases hm with rfl | hm
   ·rfl
   ·exact absurd (List.mem_map.2 ⟨m, hm, e.symm⟩) hnd.1
  ·rcases hm with rfl | hm
   ·exact absurd (List.mem_map.2 ⟨n, hn, e⟩) hnd.1
   ·exact inj_map hnd.2 hn hm e
theorem nodup_inj {l : List (Nat × Obj')} (hnd : ((namesH h l).map Prod.fst).Nodup) {n m : Nat} {o o' : Obj'} (hn : (n, o) ∈ l) (hm : (m, o') ∈ l) (e : h n = h m) : n = m := by
 rw [namesH_fst] at hnd
 have h1 : n ∈ l.map Prod.fst := List.mem_map.2 ⟨_, hn, rfl⟩
 have h2 : m ∈ l.map Prod.fst := List.mem_map.2 ⟨_, hm, rfl⟩
 exact inj_map hnd h1 h2 e
theorem add_made {a : Act} : ∀ {made : List (Nat × Obj')} {T : List (Nat × PV)} {O : List (Nat × Obj')} {β : Nat → Option Nat}, Sim w0 S0 K0 N (lookT T) O a w' S' β →
  (∀ n o, (n, o) ∈ made → ObjAt w' S' β' n o ∧ closedO o = true ∧ freeOf (h n) ⟨T, O⟩ = true) →
  (∀ n o b, (n, o) ∈ made → β' n = some b → (∀ i, ¬ S' b i) ∧ b < w'.heap.size ∧ (∀ m x, (m, x) ∈ O → β m ≠ some b) ∧ (w0.heap.size ≤ b ∨ K0 b)) →
  ((namesH h made).map Prod.fst).Nodup → (∀ n o m o' b, (n, o) ∈ made → (m, o') ∈ made → β' n = some b → β' m = some b → n = m) →
  ∃ βf, Sim w0 S0 K0 N (lookT T) (O ++ namesH h made) a w' S' βf ∧ (∀ m, m ∉ (namesH h made).map Prod.fst → βf m = β m) ∧ ∀ n o, (n, o) ∈ made → βf (h n) = β' n
 | [], T, O, β, hs, _, _, _, _ => ⟨β, by simpa [namesH] using hs, fun _ _ => rfl, fun n o hm => by cases hm⟩
 | (n, o) :: r, T, O, β, hs, hA, hB, hnd, hinj => by
  obtain ⟨hat, hcl, hfr⟩ := hA n o List.mem_cons_self
  simp only [namesH, List.map_cons, List.nodup_cons] at hnd
  have hnr : ∀ m x, (m, x) ∈ r → h m ≠ h n := fun m x hm e => hnd.1 (List.mem_map.2 ⟨(h m, x), mem_namesH.2 ⟨m, hm, rfl⟩, e⟩)
  have step : Sim w0 S0 K0 N (lookT T) (O ++ [(h n, o)]) a w' S' (updB β (h n) (β' n)) := by
   cases hb : β' n with
   | some b =>
    obtain ⟨h1, h2, h3, h4⟩ := hB n o b List.mem_cons_self hb
    exact Sim.addObj (ps := ⟨T, O⟩) hs hfr (fun i hS => absurd hS (h1 i)) h2 h3 h4 (closed_at hcl hat (by rw [updB_eq, hb]))
   | none =>
    cases o with
    | box cs => obtain ⟨b, vs, U, e1, _⟩ := hat; rw [hb] at e1; cases e1
    | arr s els =>
     rcases hat with ⟨_, e⟩ | ⟨b, vs, U, e1, _⟩
     ·exact Sim.newNil (lg := false) (ps := ⟨T, O⟩) hs hfr e
     ·rw [hb] at e1; cases e1
    | log s els => cases hcl
    | lent s els => cases hcl
  have hfr' := hfr
  simp only [freeOf, Bool.and_eq_true] at hfr'
  obtain ⟨βf, g1, g2, g3⟩ := add_made (made := r) step
   (fun m x hm => by
    obtain ⟨q1, q2, q3⟩ := hA m x (List.mem_cons_of_mem _ hm)
    refine ⟨q1, q2, ?_⟩
    simp only [freeOf, Bool.and_eq_true] at q3 ⊢
    refine ⟨q3.1, refFreeO_of (refFreeO_small q3.2) fun k y hk => ?_⟩
    simp only [List.mem_append, List.mem_singleton] at hk
    rcases hk with hk | hk
    ·exact refFreeO_mem q3.2 hk
    ·cases hk; exact ⟨fun e => hnr m x hm e.symm, closed_boxFree hcl⟩)
   (fun m x b hm hb => by
    obtain ⟨q1, q2, q3, q4⟩ := hB m x b (List.mem_cons_of_mem _ hm) hb
    refine ⟨q1, q2, fun k y hk e => ?_, q4⟩
    simp only [List.mem_append, List.mem_singleton] at hk
    rcases hk with hk | hk
    ·have hne : k ≠ h n := (refFreeO_mem hfr'.2 hk).1
     rw [updB_ne hne] at e
     exact q3 k y hk e
    ·cases hk
     rw [updB_eq] at e
     have := hinj _ _ _ _ b (List.mem_cons_of_mem _ hm) List.mem_cons_self hb e
     subst this
     exact hnr m x hm rfl)
   hnd.2 (fun m x k y b hm hk => hinj m x k y b (List.mem_cons_of_mem _ hm) (List.mem_cons_of_mem _ hk))
  refine ⟨βf, ?_, fun m hm => ?_, fun m x hm => ?_⟩
  ·simpa [namesH, List.append_assoc] using g1
  ·simp only [namesH, List.map_cons, List.mem_cons, not_or] at hm
   rw [g2 m hm.2, updB_ne hm.1]
  ·simp only [List.mem_cons] at hm
   rcases hm with hm | hm
   ·cases hm
    rw [g2 (h n) hnd.1, updB_eq]
   ·exact g3 m x hm
theorem mem_setsO : ∀ {k l : List (Nat × Obj')} {m : Nat} {o : Obj'}, (l.map Prod.fst).Nodup → (∀ n x, (n, x) ∈ k → h n ∈ l.map Prod.fst) → ((namesH h k).map Prod.fst).Nodup → (m, o) ∈ setsO h l k →
  (∃ n, (n, o) ∈ k ∧ m = h n) ∨ ((m, o) ∈ l ∧ m ∉ (namesH h k).map Prod.fst)
 | [], l, m, o, hnd, hin, hk, hm => .inr ⟨hm, by simp [namesH]⟩
 | (n, x) :: r, l, m, o, hnd, hin, hk, hm => by
  have hn := hin n x List.mem_cons_self
  simp only [namesH, List.map_cons, List.nodup_cons] at hk
  simp only [setsO] at hm
  have hnm : (setO l (h n) x).map Prod.fst = l.map Prod.fst := names_setO hn
  rcases mem_setsO (k := r) (by rw [hnm]; exact hnd) (fun k y hk => by rw [hnm]; exact hin k y (List.mem_cons_of_mem _ hk)) hk.2 hm with ⟨k, h1, h2⟩ | ⟨h1, h2⟩
  ·exact .inl ⟨k, List.mem_cons_of_mem _ h1, h2⟩
  ·rcases mem_setO hnd hn h1 with ⟨rfl, rfl⟩ | ⟨h3, h4⟩
   ·exact .inl ⟨n, List.mem_cons_self, rfl⟩
   ·exact .inr ⟨h4, by simp only [namesH, List.map_cons, List.mem_cons, not_or]; exact ⟨h3, h2⟩⟩
theorem names_setsO : ∀ {k l : List (Nat × Obj')}, (∀ n x, (n, x) ∈ k → h n ∈ l.map Prod.fst) → (setsO h l k).map Prod.fst = l.map Prod.fst
 | [], l, _ => rfl
 | (n, x) :: r, l, hin => by
  have hn := hin n x List.mem_cons_self
  have hnm : (setO l (h n) x).map Prod.fst = l.map Prod.fst := names_setO hn
  simp only [setsO]
  rw [names_setsO (k := r) (fun k y hk => by rw [hnm]; exact hin k y (List.mem_cons_of_mem _ hk)), hnm]
theorem fst_mem {l k : List (Nat × Obj')} (e : l.map Prod.fst = k.map Prod.fst) {n : Nat} {o : Obj'} (hm : (n, o) ∈ l) : ∃ o', (n, o') ∈ k := by
 have h1 : n ∈ k.map Prod.fst := by rw [← e]; exact List.mem_map.2 ⟨_, hm, rfl⟩
 obtain ⟨⟨m, o'⟩, h2, h3⟩ := List.mem_map.1 h1
 simp only at h3
 subst h3
 exact ⟨o', h2⟩
theorem callO_sound {ps : PS} {o : Oper} {c : Call} {f : Operand} (hop : o.op = .call c) (hcl : c.callee = .value f) (hd : ∀ t, o.dst = some t → t < N) {K : PS → Prop} {Km : Act → World → Prop} {Q : Exit → Act → World → Prop} (hs : Sim w0 S0 K0 N (lookT ps.tmps) ps.objs a w S β)
  {g : FuncId} {caps : List PV} (hf : ev (lookT ps.tmps) f = .fn g caps) {cargs : List PV} {kept eaten : List (Nat × Obj')} {r : PV} {kept' made : List (Nat × Obj')}
  (hle : LeL (evs (ev (lookT ps.tmps)) c.args.toList ++ caps) (renL h cargs)) (hso : Sound g cargs kept eaten r kept' made)
  (hobj : hasObjs h ps.objs (kept ++ eaten)) (hnd1 : ndO (namesH h (kept ++ eaten)) = true) (hnd2 : ndO (kept ++ eaten) = true) (hclo : closedOs (kept' ++ made) = true) (hnd3 : ndO (namesH h made) = true) (hfree : freeAll h (ownMid h eaten ps) made = true)
  (hlv : allL lv cargs = true) (hlr : lv r = true) (hnm : nmIn (nmsO (kept' ++ made)) r = true)
  (hK : K (put (ownNext h eaten kept' made ps) o.dst (ren h r)))
  (hk : ∀ ps' a' w' S' β', K ps' → Sim w0 S0 K0 N (lookT ps'.tmps) ps'.objs a' w' S' β' → Km a' w') : o.wp Pg a w Km Q := by
 have hfr := hs.eval f
 rw [hf] at hfr
 obtain ⟨vs, hv, hl, hr⟩ := rep_fn hfr
 have hargs := ((evs_rep (fun x => hs.eval x) c.args.toList).append ⟨hl, hr⟩).le hle
 have hnodup1 := ndO_nodup hnd1
 have hmemo : ∀ {n x}, (n, x) ∈ kept ++ eaten → (h n, x) ∈ ps.objs ∧ closedO x = true := fun hm => hasObjs_mem hobj hm
 have hblk : ∀ b, Blk (fun n => β (h n)) (kept ++ eaten) b → (∀ i, ¬ S b i) ∧ b < w.heap.size ∧ (w0.heap.size ≤ b ∨ K0 b) := by
  rintro b ⟨n, x, hm, hβ⟩
  obtain ⟨h1, h2⟩ := hmemo hm
  exact ⟨fun i hS => closed_pub h2 ((hs.obj.un _ _ b h1 hβ).1 i hS), (hs.obj.un _ _ b h1 hβ).2, hs.own _ _ b h1 hβ⟩
 have hobjs : ObjsAt w S (fun n => β (h n)) (kept ++ eaten) := ⟨ndO_nodup hnd2, fun n x hm => closed_at (hmemo hm).2 (hs.obj.at_ _ _ (hmemo hm).1) rfl, fun n x b hm hβ => hs.obj.un _ _ b (hmemo hm).1 hβ,
  fun n x m y b hm hm' hβ hβ' => nodup_inj hnodup1 hm hm' (hs.obj.inj _ _ _ _ b (hmemo hm).1 (hmemo hm').1 hβ hβ')⟩
 have hlen : (renL h cargs).length = cargs.length := mapC_length _ _
 unfold Oper.wp
 rw [run_call_value hop hcl hv hso.isf, Oper.upon_enter]
 refine (hso.go w S (fun n => β (h n)) _ hs.ld.bnd hobjs (by rw [hargs.1, hlen]) (fun j hj => ren_in (by
  have := hargs.2 j (by rw [hlen]; exact hj)
  rwa [renL, mapC_getD _ rfl] at this) (allL_mem hlv j hj))).mono ?_
 rintro e w' ⟨v, S', β', rfl, l, hrep, ho', hnk, hβk, hmd⟩
 show Km (a.put o.dst v) w'
 have hevo : Evo S w w' := ⟨fun b i hS => cell_of_block (l.same b (hs.ld.bnd b i hS) fun hb => (hblk b hb).1 i hS) i, l.shape⟩
 have hsub : ∀ b i, S b i → S' b i := l.subs hs.ld.bnd
 have hld : Leads w0 S0 K0 w' S' := by
  refine ⟨Nat.le_trans hs.ld.size l.size, l.os.trans hs.ld.os, l.tape.trans hs.ld.tape, l.output.trans hs.ld.output, fun b hb hk => ?_, fun b us U hb => ?_, l.bnd, fun b i hb hS => hsub b i (hs.ld.sub b i hb hS), fun b i hb hk hS => ?_⟩
  ·have hb' := Nat.lt_of_lt_of_le hb hs.ld.size
   rw [l.same b hb' fun hx => by rcases (hblk b hx).2.2 with h' | h'; omega; exact hk h']
   exact hs.ld.same b hb hk
  ·obtain ⟨us', e1, e2⟩ := hs.ld.shape b us U hb
   obtain ⟨us'', e3, e4⟩ := l.shape b us' U e1
   exact ⟨us'', e3, e4.trans e2⟩
  ·have hb' := Nat.lt_of_lt_of_le hb hs.ld.size
   exact hs.ld.old b i hb hk (l.old b i hb' (fun hx => by rcases (hblk b hx).2.2 with h' | h'; omega; exact hk h') hS)
 
 have hmid : ∀ {m x}, (m, x) ∈ (ownMid h eaten ps).objs → (∃ x', (m, x') ∈ ps.objs ∧ x = (match x' with | .box cs =>   .box (mapC (scrs ((namesH h eaten).map Prod.fst)) cs) | .arr s els => .arr s els | .log s els => .log s els | .lent s els => .lent s els)) ∧ m ∉ (namesH h eaten).map Prod.fst := by
  intro m x hm
  obtain ⟨x', h1, h2⟩ := mem_mapO _ hm
  obtain ⟨h3, h4⟩ := mem_dels h1
  exact ⟨⟨x', h3, h2⟩, h4⟩
 have hkin : ∀ n x, (n, x) ∈ kept → h n ∈ ((ownMid h eaten ps).objs).map Prod.fst := by
  intro n x hm
  have h1 := (hmemo (List.mem_append_left eaten hm)).1
  have h2 : h n ∉ (namesH h eaten).map Prod.fst := by
   intro hx
   obtain ⟨⟨m, y⟩, h3, h4⟩ := List.mem_map.1 hx
   obtain ⟨k, h5, h6⟩ := mem_namesH.1 h3
   simp only at h4
   rw [namesH_append, List.map_append, List.nodup_append] at hnodup1
   exact hnodup1.2.2 (h n) (List.mem_map.2 ⟨_, mem_namesH.2 ⟨n, hm, rfl⟩, rfl⟩) m (List.mem_map.2 ⟨_, h3, rfl⟩) h4.symm
  obtain ⟨x', h3⟩ := mem_mapO' (scrs ((namesH h eaten).map Prod.fst)) (mem_dels' h1 h2)
  exact List.mem_map.2 ⟨_, h3, rfl⟩
 have hkin' : ∀ n x, (n, x) ∈ kept' → h n ∈ ((ownMid h eaten ps).objs).map Prod.fst := by
  intro n x hm
  obtain ⟨x', h1⟩ := fst_mem hnk hm
  exact hkin n x' h1
 have hmnd : ((ownMid h eaten ps).objs.map Prod.fst).Nodup := by
  simp only [ownMid, names_mapO]
  exact (dels_sub _ _).nodup hs.obj.nd
 have hknd : ((namesH h kept').map Prod.fst).Nodup := by
  rw [namesH_fst, hnk, ← namesH_fst]
  rw [namesH_append, List.map_append, List.nodup_append] at hnodup1
  exact hnodup1.1
 have hset : ∀ {m x}, (m, x) ∈ setsO h (ownMid h eaten ps).objs kept' → (∃ n, (n, x) ∈ kept' ∧ m = h n) ∨ ((m, x) ∈ (ownMid h eaten ps).objs ∧ m ∉ (namesH h kept').map Prod.fst) :=
  fun hm => mem_setsO hmnd hkin' hknd hm
 have hβk' : ∀ n x, (n, x) ∈ kept' → β' n = β (h n) := by
  intro n x hm
  obtain ⟨x', h1⟩ := fst_mem hnk hm
  exact hβk n x' h1
 have hin0 : ∀ {m x}, (m, x) ∈ setsO h (ownMid h eaten ps).objs kept' → ∃ x', (m, x') ∈ ps.objs := by
  intro m x hm
  rcases hset hm with ⟨n, h1, rfl⟩ | ⟨h1, _⟩
  ·obtain ⟨x', h2⟩ := fst_mem hnk h1
   exact ⟨x', (hmemo (List.mem_append_left eaten h2)).1⟩
  ·obtain ⟨⟨x', h2, _⟩, _⟩ := hmid h1
   exact ⟨x', h2⟩
 have hnblk : ∀ {m x b}, (m, x) ∈ (ownMid h eaten ps).objs → m ∉ (namesH h kept').map Prod.fst → β m = some b → ¬ Blk (fun n => β (h n)) (kept ++ eaten) b := by
  rintro m x b hm hnk' hβ ⟨n, y, hy, hβn⟩
  obtain ⟨⟨x', h2, _⟩, h3⟩ := hmid hm
  have heq := hs.obj.inj _ _ _ _ b h2 (hmemo hy).1 hβ hβn
  subst heq
  rcases List.mem_append.1 hy with hy | hy
  ·rw [namesH_fst, hnk, ← namesH_fst] at hnk'
   exact hnk' (List.mem_map.2 ⟨_, mem_namesH.2 ⟨n, hy, rfl⟩, rfl⟩)
  ·exact h3 (List.mem_map.2 ⟨_, mem_namesH.2 ⟨n, hy, rfl⟩, rfl⟩)
 have hsim : Sim w0 S0 K0 N (lookT (ownMid h eaten ps).tmps) (setsO h (ownMid h eaten ps).objs kept') a w' S' β := by
  refine ⟨hs.dfr, hs.sz, hld, fun t => ?_, ⟨by rw [names_setsO hkin']; exact hmnd, ?_, ?_, ?_⟩, ?_, ?_⟩
  ·simp only [ownMid]
   rw [look_mapT _ (scrs_any _)]
   exact scrs_rep _ ((hs.tmp t).evo hevo hsub)
  ·intro m x hm
   rcases hset hm with ⟨n, h1, rfl⟩ | ⟨h1, h2⟩
   ·exact closed_at (closedOs_mem hclo (List.mem_append_left made h1)) (ho'.at_ n x (List.mem_append_left made h1)) (hβk' n x h1).symm
   ·obtain ⟨⟨x', h3, h4⟩, h5⟩ := hmid h1
    have hat := hs.obj.at_ m x' h3
    cases x' with
    | box cs =>
     subst h4
     obtain ⟨b, us, T, e1, e2, e3, e4⟩ := hat
     refine ⟨b, us, T, e1, ?_, by rw [mapC_length]; exact e3, fun j hj => ?_⟩
     ·rw [l.same b (hs.obj.un _ _ b h3 e1).2 (hnblk h1 h2 e1)]; exact e2
     ·rw [mapC_length] at hj
      rw [mapC_getD _ (scrs_any _)]
      exact scrs_rep _ ((e4 j hj).evo hevo hsub)
    | arr s els =>
     subst h4
     rcases hat with e0 | ⟨b, us, T, e1, e2, e3, e4, e5⟩
     ·exact .inl e0
     ·refine .inr ⟨b, us, T, e1, ?_, e3, e4, fun i j hi hj => ⟨(e5 i j hi hj).1.evo hevo.same hsub, (e5 i j hi hj).2⟩⟩
      rw [l.same b (hs.obj.un _ _ b h3 e1).2 (hnblk h1 h2 e1)]; exact e2
    | log s els =>
     subst h4
     rcases hat with e0 | ⟨b, us, T, e1, e2, e3, e4, e5⟩
     ·exact .inl e0
     ·refine .inr ⟨b, us, T, e1, ?_, e3, e4, fun i j hi hj => ⟨(e5 i j hi hj).1.evo hevo.same hsub, (e5 i j hi hj).2⟩⟩
      rw [l.same b (hs.obj.un _ _ b h3 e1).2 (hnblk h1 h2 e1)]; exact e2
    | lent s els =>
     subst h4
     obtain ⟨hat, hst⟩ := hat
     refine ⟨?_, fun b hb i hi => hsub _ _ (hst b hb i hi)⟩
     rcases hat with e0 | ⟨b, us, T, e1, e2, e3, e4, e5⟩
     ·exact .inl e0
     ·refine .inr ⟨b, us, T, e1, ?_, e3, e4, fun i j hi hj => ⟨(e5 i j hi hj).1.evo hevo.same hsub, (e5 i j hi hj).2⟩⟩
      rw [l.same b (hs.obj.un _ _ b h3 e1).2 (hnblk h1 h2 e1)]; exact e2
  ·intro m x b hm hβ
   rcases hset hm with ⟨n, h1, rfl⟩ | ⟨h1, h2⟩
   ·exact ho'.un n x b (List.mem_append_left made h1) (by rw [hβk' n x h1]; exact hβ)
   ·obtain ⟨⟨x', h3, h4⟩, h5⟩ := hmid h1
    obtain ⟨q1, q2⟩ := hs.obj.un m x' b h3 hβ
    refine ⟨fun i hS => ?_, Nat.lt_of_lt_of_le q2 l.size⟩
    have := q1 i (l.old b i q2 (hnblk h1 h2 hβ) hS)
    subst h4
    cases x' <;> exact this
  ·intro m x m' x' b hm hm' hβ hβ'
   obtain ⟨y, h1⟩ := hin0 hm
   obtain ⟨y', h2⟩ := hin0 hm'
   exact hs.obj.inj _ _ _ _ b h1 h2 hβ hβ'
  ·intro m x b hm hβ
   obtain ⟨y, h1⟩ := hin0 hm
   exact hs.own m y b h1 hβ
  ·intro m x hm hb
   obtain ⟨y, h1⟩ := hin0 hm
   exact hs.keep m y h1 hb
 obtain ⟨βf, g1, g2, g3⟩ := add_made (h := h) (made := made) (β' := β') hsim
  (fun n x hm => by
   refine ⟨ho'.at_ n x (List.mem_append_right kept' hm), closedOs_mem hclo (List.mem_append_right kept' hm), ?_⟩
   have hfr := freeAll_mem hfree hm
   simp only [freeOf, Bool.and_eq_true] at hfr ⊢
   refine ⟨hfr.1, refFreeO_of (refFreeO_small hfr.2) fun k y hk => ?_⟩
   have hne : ∀ {k y}, (k, y) ∈ (ownMid h eaten ps).objs → k ≠ h n := fun hk => (refFreeO_mem hfr.2 hk).1
   rcases hset hk with ⟨m, h1, rfl⟩ | ⟨h1, h2⟩
   ·obtain ⟨⟨q, y'⟩, q1, q2⟩ := List.mem_map.1 (hkin' m y h1)
    simp only at q2
    subst q2
    exact ⟨hne q1, closed_boxFree (closedOs_mem hclo (List.mem_append_left made h1))⟩
   ·exact refFreeO_mem hfr.2 h1)
  (fun n x b hm hb => by
   obtain ⟨q1, q2⟩ := ho'.un n x b (List.mem_append_right kept' hm) hb
   refine ⟨fun i hS => closed_pub (closedOs_mem hclo (List.mem_append_right kept' hm)) (q1 i hS), q2, fun k y hk e => ?_, ?_⟩
   ·rcases hmd n x b hm hb with h1 | ⟨m, z, h1, h2⟩
    ·obtain ⟨y', h2⟩ := hin0 hk
     have := (hs.obj.un k y' b h2 e).2
     omega
    ·rcases hset hk with ⟨m', h3, rfl⟩ | ⟨h3, h4⟩
     ·have heq := ho'.inj _ _ _ _ b (List.mem_append_left made h3) (List.mem_append_right kept' hm) (by rw [hβk' m' y h3]; exact e) hb
      subst heq
      have hfr := freeAll_mem hfree hm
      simp only [freeOf, Bool.and_eq_true] at hfr
      obtain ⟨⟨q, y'⟩, q3, q4⟩ := List.mem_map.1 (hkin' m' y h3)
      simp only at q4
      exact (refFreeO_mem hfr.2 q3).1 q4
     ·exact hnblk h3 h4 e ⟨m, z, List.mem_append_right kept h1, h2⟩
   ·rcases hmd n x b hm hb with h1 | ⟨m, z, h1, h2⟩
    ·exact .inl (Nat.le_trans hs.ld.size h1)
    ·exact (hblk b ⟨m, z, List.mem_append_right kept h1, h2⟩).2.2)
  (ndO_nodup hnd3) (fun n x m y b hm hm' hb hb' => ho'.inj _ _ _ _ b (List.mem_append_right kept' hm) (List.mem_append_right kept' hm') hb hb')
 have hfin : Rep w' S' βf v (ren h r) := ren_out (l := nmsO (kept' ++ made)) (fun n hn => by
  obtain ⟨x, hm⟩ := nmsO_mem hn
  rcases List.mem_append.1 hm with hm | hm
  ·rw [g2 (h n) ?_, hβk' n x hm]
   intro hx
   obtain ⟨⟨q, y⟩, q1, q2⟩ := List.mem_map.1 hx
   obtain ⟨m, q3, q4⟩ := mem_namesH.1 q1
   simp only at q2
   have hfr := freeAll_mem hfree q3
   simp only [freeOf, Bool.and_eq_true] at hfr
   obtain ⟨⟨q', y'⟩, q5, q6⟩ := List.mem_map.1 (hkin' n x hm)
   simp only at q6
   exact (refFreeO_mem hfr.2 q5).1 (by rw [q6, ← q2, q4])
  ·exact g3 n x hm) hrep hnm
 exact hk _ _ _ _ _ hK (sim_putPS (ps := ownNext h eaten kept' made ps) g1 o.dst hd hfin)
end
end Go.Proofs.YtcanljninhfmhaaGreat
