/- A part of the proof: PmM, PmN. -/
import Derived.Test.YtcanljninhfmhaaGreatU09
set_option linter.all false
namespace Go.Proofs.YtcanljninhfmhaaGreat
open Go
section
variable {w0 : World} {S0 : Nat → Nat → Prop} {K0 : Nat → Prop} {N : Cx} {τ : Nat → PV} {objs : List (Nat × Obj')} {a : Act} {w w' : World} {S S' : Nat → Nat → Prop} {β β' βf : Nat → Option Nat} {h : Nat → Nat}
theorem p8 {v pv} (r : Rep w S β v (rn0 h pv)) (hl : lv0 pv = true) : Rep w S (fun n => β (h n)) v pv := by
 cases pv with
 | agg cs => simp [lv0] at hl
 | tup cs => simp [lv0] at hl
 | fn f cs => simp [lv0] at hl
 | ptr m off => obtain ⟨b, hβ, rfl⟩ := kI r; exact .ptr hβ
 | aptr m s i off => obtain ⟨b, hβ, rfl⟩ := jW r; exact .aptr hβ
 | osl m s i len =>
  rcases gK r with ⟨hn, ho, hl, aa, rfl⟩ | ⟨b, cap, vs, T, hβ, hlc, hw, hsz, rfl⟩
  ·exact .osl0 hn ho hl
  ·exact .osl hβ hlc hw hsz
 | nil => obtain ⟨aa, rfl⟩ := uI r; exact .nil aa
 | dptr cs o => obtain ⟨b, o', vals, hS, rfl, hf, hc, hr⟩ := g7 r; exact .dptr vals hS hf hc hr
 | nilf => cases r with | c hf h => cases hf | nilf => exact .nilf
 | _ => exact .c rfl (p6 r rfl)
theorem ren1_in {v pv} (r : Rep w S β v (rn1 h pv)) (hl : lv1 pv = true) : Rep w S (fun n => β (h n)) v pv := by
 cases pv with
 | agg cs =>
  obtain ⟨vs, rfl, h1, h2⟩ := vW r
  rw [zL] at h1
  exact .agg h1 fun j hj => p8 (by have := h2 j (by rw [zL]; exact hj); rwa [yC _ rfl] at this) (xV (by simpa only [lv1] using hl) j hj)
 | tup cs =>
  obtain ⟨vs, rfl, h1, h2⟩ := kH r
  rw [zL] at h1
  exact .tup h1 fun j hj => p8 (by have := h2 j (by rw [zL]; exact hj); rwa [yC _ rfl] at this) (xV (by simpa only [lv1] using hl) j hj)
 | fn f cs =>
  obtain ⟨vs, rfl, h1, h2⟩ := kJ r
  rw [zL] at h1
  exact .fn h1 fun j hj => p8 (by have := h2 j (by rw [zL]; exact hj); rwa [yC _ rfl] at this) (xV (by simpa only [lv1] using hl) j hj)
 | _ => exact p8 r rfl
theorem ren_in {v pv} (r : Rep w S β v (ren h pv)) (hl : lv pv = true) : Rep w S (fun n => β (h n)) v pv := by
 cases pv with
 | agg cs =>
  obtain ⟨vs, rfl, h1, h2⟩ := vW r
  rw [zL] at h1
  exact .agg h1 fun j hj => ren1_in (by have := h2 j (by rw [zL]; exact hj); rwa [yC _ rfl] at this) (xV (by simpa only [lv] using hl) j hj)
 | tup cs =>
  obtain ⟨vs, rfl, h1, h2⟩ := kH r
  rw [zL] at h1
  exact .tup h1 fun j hj => ren1_in (by have := h2 j (by rw [zL]; exact hj); rwa [yC _ rfl] at this) (xV (by simpa only [lv] using hl) j hj)
 | fn f cs =>
  obtain ⟨vs, rfl, h1, h2⟩ := kJ r
  rw [zL] at h1
  exact .fn h1 fun j hj => ren1_in (by have := h2 j (by rw [zL]; exact hj); rwa [yC _ rfl] at this) (xV (by simpa only [lv] using hl) j hj)
 | _ => exact p8 r rfl
theorem aN {l : List Nat} (hl' : ∀ n, n ∈ l → βf (h n) = β' n) {v pv} (r : Rep w S β' v pv) (hn : nm0 l pv = true) : Rep w S βf v (rn0 h pv) := by
 cases pv with
 | agg cs => simp [nm0] at hn
 | tup cs => simp [nm0] at hn
 | fn f cs => simp [nm0] at hn
 | ptr m off => obtain ⟨b, hβ, rfl⟩ := kI r; exact .ptr (by rw [hl' _ (wH (by simpa only [nm0] using hn))]; exact hβ)
 | aptr m s i off => obtain ⟨b, hβ, rfl⟩ := jW r; exact .aptr (by rw [hl' _ (wH (by simpa only [nm0] using hn))]; exact hβ)
 | osl m s i len =>
  have e := hl' _ (wH (by simpa only [nm0] using hn))
  rcases gK r with ⟨hn, ho, hl, aa, rfl⟩ | ⟨b, cap, vs, T, hβ, hlc, hw, hsz, rfl⟩
  ·exact .osl0 (by rw [e]; exact hn) ho hl
  ·exact .osl (by rw [e]; exact hβ) hlc hw hsz
 | nil => obtain ⟨aa, rfl⟩ := uI r; exact .nil aa
 | dptr cs o => obtain ⟨b, o', vals, hS, rfl, hf, hc, hr⟩ := g7 r; exact .dptr vals hS hf hc hr
 | nilf => cases r with | c hf h => cases hf | nilf => exact .nilf
 | _ => exact .c rfl (p6 r rfl)
theorem iO {l : List Nat} (hl' : ∀ n, n ∈ l → βf (h n) = β' n) {v pv} (r : Rep w S β' v pv) (hn : nm1 l pv = true) : Rep w S βf v (rn1 h pv) := by
 cases pv with
 | agg cs =>
  obtain ⟨vs, rfl, h1, h2⟩ := vW r
  exact .agg (by rw [zL]; exact h1) fun j hj => by rw [zL] at hj; rw [yC _ rfl]; exact aN hl' (h2 j hj) (xV (by simpa only [nm1] using hn) j hj)
 | tup cs =>
  obtain ⟨vs, rfl, h1, h2⟩ := kH r
  exact .tup (by rw [zL]; exact h1) fun j hj => by rw [zL] at hj; rw [yC _ rfl]; exact aN hl' (h2 j hj) (xV (by simpa only [nm1] using hn) j hj)
 | fn f cs =>
  obtain ⟨vs, rfl, h1, h2⟩ := kJ r
  exact .fn (by rw [zL]; exact h1) fun j hj => by rw [zL] at hj; rw [yC _ rfl]; exact aN hl' (h2 j hj) (xV (by simpa only [nm1] using hn) j hj)
 | _ => exact aN hl' r hn
theorem ren_out {l : List Nat} (hl' : ∀ n, n ∈ l → βf (h n) = β' n) {v pv} (r : Rep w S β' v pv) (hn : nmIn l pv = true) : Rep w S βf v (ren h pv) := by
 cases pv with
 | agg cs =>
  obtain ⟨vs, rfl, h1, h2⟩ := vW r
  exact .agg (by rw [zL]; exact h1) fun j hj => by rw [zL] at hj; rw [yC _ rfl]; exact iO hl' (h2 j hj) (xV (by simpa only [nmIn] using hn) j hj)
 | tup cs =>
  obtain ⟨vs, rfl, h1, h2⟩ := kH r
  exact .tup (by rw [zL]; exact h1) fun j hj => by rw [zL] at hj; rw [yC _ rfl]; exact iO hl' (h2 j hj) (xV (by simpa only [nmIn] using hn) j hj)
 | fn f cs =>
  obtain ⟨vs, rfl, h1, h2⟩ := kJ r
  exact .fn (by rw [zL]; exact h1) fun j hj => by rw [zL] at hj; rw [yC _ rfl]; exact iO hl' (h2 j hj) (xV (by simpa only [nmIn] using hn) j hj)
 | _ => exact aN hl' r hn
theorem s6 {n m : Nat} {o : Obj'} (hc : wJ o = true) (hat : ObjAt w S β' n o) (he : β m = β' n) : ObjAt w S β m o := by
 cases o with
 | box cs =>
  obtain ⟨b, vs, T, e1, e2, e3, e4⟩ := hat
  refine ⟨b, vs, T, by rw [he]; exact e1, e2, e3, fun j hj => ?_⟩
  have hs := xV (by simpa only [wJ] using hc) j hj
  have hr := e4 j hj
  generalize hx : cs.getD j .any = x at hs hr ⊢
  cases x with
  | nil => obtain ⟨aa, hv⟩ := uI hr; rw [hv]; exact .nil aa
  | _ => first | (simp [lZ, uG] at hs; done) | exact .c rfl (p6 hr rfl)
 | arr s els =>
  rcases hat with ⟨e0, e⟩ | ⟨b, vs, T, e1, rest⟩
  ·exact .inl ⟨by rw [he]; exact e0, e⟩
  ·exact .inr ⟨b, vs, T, by rw [he]; exact e1, rest⟩
 | log s els => cases hc
 | lent s els => cases hc
theorem eW {o : Obj'} (hc : wJ o = true) {i : Nat} : ¬ gD o i := by
 cases o with
 | box cs => exact id
 | arr s els => exact id
 | log s els => cases hc
 | lent s els => cases hc
theorem t9 (n : Nat) : ∀ {cs : List PV}, yR lZ cs = true → xS n cs = true
 | [], _ => rfl
 | c :: cs, h => by
  simp only [yR, Bool.and_eq_true] at h
  simp only [xS, yR, Bool.and_eq_true]
  exact ⟨by cases c <;> simp_all [lZ, uG, wP, rf0], t9 n h.2⟩
theorem sD {n : Nat} {o : Obj'} (hc : wJ o = true) : jU n o := by
 cases o with
 | box cs => exact t9 n hc
 | arr s els => trivial
 | log s els => trivial
 | lent s els => trivial
theorem uJ {n : Nat} (hn : n < 1000000) : ∀ {l : List (Nat × Obj')}, (∀ m o, (m, o) ∈ l → m ≠ n ∧ jU n o) → xE n l = true
 | [], _ => by simp [xE, nlt]; omega
 | (m, .box cs) :: r, h => by
  have h1 := h m _ List.mem_cons_self
  simp only [xE, Bool.and_eq_true]
  exact ⟨⟨by rw [oM h1.1]; rfl, h1.2⟩, uJ hn fun m o hm => h m o (List.mem_cons_of_mem _ hm)⟩
 | (m, .arr s els) :: r, h => by
  have h1 := h m _ List.mem_cons_self
  simp only [xE, Bool.and_eq_true]
  exact ⟨by rw [oM h1.1]; rfl, uJ hn fun m o hm => h m o (List.mem_cons_of_mem _ hm)⟩
 | (m, .log s els) :: r, h => by
  have h1 := h m _ List.mem_cons_self
  simp only [xE, Bool.and_eq_true]
  exact ⟨by rw [oM h1.1]; rfl, uJ hn fun m o hm => h m o (List.mem_cons_of_mem _ hm)⟩
 | (m, .lent s els) :: r, h => by
  have h1 := h m _ List.mem_cons_self
  simp only [xE, Bool.and_eq_true]
  exact ⟨by rw [oM h1.1]; rfl, uJ hn fun m o hm => h m o (List.mem_cons_of_mem _ hm)⟩
theorem l9 : ∀ (l : List Nat) {v pv}, Rep w S β v pv → Rep w S β v (scrs l pv)
 | [], v, pv, h => h
 | n :: r, v, pv, h => l9 r (scr_rep h)
theorem iA : ∀ (l : List Nat), scrs l .any = .any
 | [] => rfl
 | n :: r => iA r
theorem iZ : ∀ {l : List Nat} {objs : List (Nat × Obj')} {m : Nat} {o : Obj'}, (m, o) ∈ b5 l objs → (m, o) ∈ objs ∧ m ∉ l
 | [], objs, m, o, h => ⟨h, by simp⟩
 | n :: r, objs, m, o, h => by
  obtain ⟨h1, h2⟩ := iZ (l := r) h
  obtain ⟨h3, h4⟩ := x9 h1
  exact ⟨h3, by simp [h2, h4]⟩
theorem eS : ∀ (l : List Nat) (objs : List (Nat × Obj')), ((b5 l objs).map Prod.fst).Sublist (objs.map Prod.fst)
 | [], objs => List.Sublist.refl _
 | n :: r, objs => (eS r _).trans (sA _ _)
theorem sQ : ∀ {l : List (Nat × Obj')} {n m : Nat} {o : Obj'}, (m, o) ∈ l → m ≠ n → (m, o) ∈ wG l n
 | (u, x) :: r, n, m, o, h, hne => by
  simp only [wG]
  simp only [List.mem_cons] at h
  cases hu : nqb u n with
  | true =>
   have := yM hu
   subst this
   simp only [cond_true]
   rcases h with h | h
   ·cases h; exact absurd rfl hne
   ·exact sQ h hne
  | false =>
   simp only [cond_false, List.mem_cons]
   rcases h with h | h
   ·exact .inl h
   ·exact .inr (sQ h hne)
theorem mem_dels' : ∀ {l : List Nat} {objs : List (Nat × Obj')} {m : Nat} {o : Obj'}, (m, o) ∈ objs → m ∉ l → (m, o) ∈ b5 l objs
 | [], objs, m, o, h, _ => h
 | n :: r, objs, m, o, h, hn => by
  simp only [List.mem_cons, not_or] at hn
  exact mem_dels' (l := r) (sQ h hn.1) hn.2
theorem cL (f : PV → PV) : ∀ {l : List (Nat × Obj')} {n : Nat} {o : Obj'}, (n, o) ∈ l → ∃ o', (n, o') ∈ xH f l
 | (m, .box cs) :: r, n, o, h => by
  simp only [List.mem_cons] at h
  rcases h with h | h
  ·cases h; exact ⟨_, List.mem_cons_self⟩
  ·obtain ⟨o', h'⟩ := cL f h; exact ⟨o', List.mem_cons_of_mem _ h'⟩
 | (m, .arr s els) :: r, n, o, h => by
  simp only [List.mem_cons] at h
  rcases h with h | h
  ·cases h; exact ⟨_, List.mem_cons_self⟩
  ·obtain ⟨o', h'⟩ := cL f h; exact ⟨o', List.mem_cons_of_mem _ h'⟩
 | (m, .log s els) :: r, n, o, h => by
  simp only [List.mem_cons] at h
  rcases h with h | h
  ·cases h; exact ⟨_, List.mem_cons_self⟩
  ·obtain ⟨o', h'⟩ := cL f h; exact ⟨o', List.mem_cons_of_mem _ h'⟩
 | (m, .lent s els) :: r, n, o, h => by
  simp only [List.mem_cons] at h
  rcases h with h | h
  ·cases h; exact ⟨_, List.mem_cons_self⟩
  ·obtain ⟨o', h'⟩ := cL f h; exact ⟨o', List.mem_cons_of_mem _ h'⟩
theorem v4 : ∀ {l : List (Nat × Obj')} {m : Nat} {o : Obj'}, (m, o) ∈ yX h l ↔ ∃ n, (n, o) ∈ l ∧ m = h n
 | [], m, o => by simp [yX]
 | (n, x) :: r, m, o => by
  simp only [yX, List.mem_cons, v4 (l := r)]
  constructor
  ·rintro (e | ⟨k, hk, e⟩)
   ·cases e; exact ⟨n, .inl rfl, rfl⟩
   ·exact ⟨k, .inr hk, e⟩
  ·rintro ⟨k, hk | hk, e⟩
   ·cases hk; exact .inl (by rw [e])
   ·exact .inr ⟨k, hk, e⟩
theorem jR : ∀ (l k : List (Nat × Obj')), yX h (l ++ k) = yX h l ++ yX h k
 | [], k => rfl
 | (n, x) :: r, k => by simp [yX, jR r k]
theorem qM : ∀ (l : List (Nat × Obj')), (yX h l).map Prod.fst = (l.map Prod.fst).map h
 | [] => rfl
 | (n, x) :: r => by simp [yX, qM r]
theorem aV : ∀ {l objs : List (Nat × Obj')}, sY h objs l → ∀ {n o}, (n, o) ∈ l → (h n, o) ∈ objs ∧ wJ o = true
 | (m, x) :: r, objs, H, n, o, hm => by
  simp only [List.mem_cons] at hm
  rcases hm with hm | hm
  ·cases hm; exact ⟨xG H.1.1, H.1.2⟩
  ·exact aV H.2 hm
theorem kU : ∀ {l : List (Nat × Obj')}, cT l = true → ∀ {n o}, (n, o) ∈ l → wJ o = true
 | (m, x) :: r, H, n, o, hm => by
  simp only [cT, Bool.and_eq_true] at H
  simp only [List.mem_cons] at hm
  rcases hm with hm | hm
  ·cases hm; exact H.1
  ·exact kU H.2 hm
theorem dH {ps : PS} : ∀ {l : List (Nat × Obj')}, sZ h ps l = true → ∀ {n o}, (n, o) ∈ l → yO (h n) ps = true
 | (m, x) :: r, H, n, o, hm => by
  simp only [sZ, Bool.and_eq_true] at H
  simp only [List.mem_cons] at hm
  rcases hm with hm | hm
  ·cases hm; exact H.1
  ·exact dH H.2 hm
theorem nmsO_mem : ∀ {l : List (Nat × Obj')} {n : Nat}, n ∈ nmsO l → ∃ o, (n, o) ∈ l
 | (m, x) :: r, n, hm => by
  simp only [nmsO, List.mem_cons] at hm
  rcases hm with hm | hm
  ·subst hm; exact ⟨x, List.mem_cons_self⟩
  ·obtain ⟨o, ho⟩ := nmsO_mem hm; exact ⟨o, List.mem_cons_of_mem _ ho⟩
theorem inj_map : ∀ {l : List Nat}, (l.map h).Nodup → ∀ {n m}, n ∈ l → m ∈ l → h n = h m → n = m
 | x :: r, hnd, n, m, hn, hm, e => by
  simp only [List.map_cons, List.nodup_cons] at hnd
  simp only [List.mem_cons] at hn hm
  rcases hn with rfl | hn
  ·rcases hm with rfl | hm
   ·rfl
   ·exact absurd (List.mem_map.2 ⟨m, hm, e.symm⟩) hnd.1
  ·rcases hm with rfl | hm
   ·exact absurd (List.mem_map.2 ⟨n, hn, e⟩) hnd.1
   ·exact inj_map hnd.2 hn hm e
theorem mL {l : List (Nat × Obj')} (hnd : ((yX h l).map Prod.fst).Nodup) {n m : Nat} {o o' : Obj'} (hn : (n, o) ∈ l) (hm : (m, o') ∈ l) (e : h n = h m) : n = m := by
 rw [qM] at hnd
 have h1 : n ∈ l.map Prod.fst := List.mem_map.2 ⟨_, hn, rfl⟩
 have h2 : m ∈ l.map Prod.fst := List.mem_map.2 ⟨_, hm, rfl⟩
 exact inj_map hnd h1 h2 e
theorem add_made {a : Act} : ∀ {made : List (Nat × Obj')} {T : List (Nat × PV)} {O : List (Nat × Obj')} {β : Nat → Option Nat}, Sim w0 S0 K0 N (zB T) O a w' S' β →
  (∀ n o, (n, o) ∈ made → ObjAt w' S' β' n o ∧ wJ o = true ∧ yO (h n) ⟨T, O⟩ = true) →
  (∀ n o b, (n, o) ∈ made → β' n = some b → (∀ i, ¬ S' b i) ∧ b < w'.heap.size ∧ (∀ m x, (m, x) ∈ O → β m ≠ some b) ∧ (w0.heap.size ≤ b ∨ K0 b)) →
  ((yX h made).map Prod.fst).Nodup → (∀ n o m o' b, (n, o) ∈ made → (m, o') ∈ made → β' n = some b → β' m = some b → n = m) →
  ∃ βf, Sim w0 S0 K0 N (zB T) (O ++ yX h made) a w' S' βf ∧ (∀ m, m ∉ (yX h made).map Prod.fst → βf m = β m) ∧ ∀ n o, (n, o) ∈ made → βf (h n) = β' n
 | [], T, O, β, hs, _, _, _, _ => ⟨β, by simpa [yX] using hs, fun _ _ => rfl, fun n o hm => by cases hm⟩
 | (n, o) :: r, T, O, β, hs, hA, hB, hnd, hinj => by
  obtain ⟨hat, hcl, hfr⟩ := hA n o List.mem_cons_self
  simp only [yX, List.map_cons, List.nodup_cons] at hnd
  have hnr : ∀ m x, (m, x) ∈ r → h m ≠ h n := fun m x hm e => hnd.1 (List.mem_map.2 ⟨(h m, x), v4.2 ⟨m, hm, rfl⟩, e⟩)
  have step : Sim w0 S0 K0 N (zB T) (O ++ [(h n, o)]) a w' S' (j6 β (h n) (β' n)) := by
   cases hb : β' n with
   | some b =>
    obtain ⟨h1, h2, h3, h4⟩ := hB n o b List.mem_cons_self hb
    exact Sim.addObj (ps := ⟨T, O⟩) hs hfr (fun i hS => absurd hS (h1 i)) h2 h3 h4 (s6 hcl hat (by rw [yW, hb]))
   | none =>
    cases o with
    | box cs => obtain ⟨b, vs, U, e1, _⟩ := hat; rw [hb] at e1; cases e1
    | arr s els =>
     rcases hat with ⟨_, e⟩ | ⟨b, vs, U, e1, _⟩
     ·exact Sim.newNil (lg := false) (ps := ⟨T, O⟩) hs hfr e
     ·rw [hb] at e1; cases e1
    | log s els => cases hcl
    | lent s els => cases hcl
  have hfr' := hfr
  simp only [yO, Bool.and_eq_true] at hfr'
  obtain ⟨βf, g1, g2, g3⟩ := add_made (made := r) step
   (fun m x hm => by
    obtain ⟨q1, q2, q3⟩ := hA m x (List.mem_cons_of_mem _ hm)
    refine ⟨q1, q2, ?_⟩
    simp only [yO, Bool.and_eq_true] at q3 ⊢
    refine ⟨q3.1, uJ (wV q3.2) fun k y hk => ?_⟩
    simp only [List.mem_append, List.mem_singleton] at hk
    rcases hk with hk | hk
    ·exact yN q3.2 hk
    ·cases hk; exact ⟨fun e => hnr m x hm e.symm, sD hcl⟩)
   (fun m x b hm hb => by
    obtain ⟨q1, q2, q3, q4⟩ := hB m x b (List.mem_cons_of_mem _ hm) hb
    refine ⟨q1, q2, fun k y hk e => ?_, q4⟩
    simp only [List.mem_append, List.mem_singleton] at hk
    rcases hk with hk | hk
    ·have hne : k ≠ h n := (yN hfr'.2 hk).1
     rw [yP hne] at e
     exact q3 k y hk e
    ·cases hk
     rw [yW] at e
     have := hinj _ _ _ _ b (List.mem_cons_of_mem _ hm) List.mem_cons_self hb e
     subst this
     exact hnr m x hm rfl)
   hnd.2 (fun m x k y b hm hk => hinj m x k y b (List.mem_cons_of_mem _ hm) (List.mem_cons_of_mem _ hk))
  refine ⟨βf, ?_, fun m hm => ?_, fun m x hm => ?_⟩
  ·simpa [yX, List.append_assoc] using g1
  ·simp only [yX, List.map_cons, List.mem_cons, not_or] at hm
   rw [g2 m hm.2, yP hm.1]
  ·simp only [List.mem_cons] at hm
   rcases hm with hm | hm
   ·cases hm
    rw [g2 (h n) hnd.1, yW]
   ·exact g3 m x hm
theorem mem_setsO : ∀ {k l : List (Nat × Obj')} {m : Nat} {o : Obj'}, (l.map Prod.fst).Nodup → (∀ n x, (n, x) ∈ k → h n ∈ l.map Prod.fst) → ((yX h k).map Prod.fst).Nodup → (m, o) ∈ pS h l k →
  (∃ n, (n, o) ∈ k ∧ m = h n) ∨ ((m, o) ∈ l ∧ m ∉ (yX h k).map Prod.fst)
 | [], l, m, o, hnd, hin, hk, hm => .inr ⟨hm, by simp [yX]⟩
 | (n, x) :: r, l, m, o, hnd, hin, hk, hm => by
  have hn := hin n x List.mem_cons_self
  simp only [yX, List.map_cons, List.nodup_cons] at hk
  simp only [pS] at hm
  have hnm : (setO l (h n) x).map Prod.fst = l.map Prod.fst := vY hn
  rcases mem_setsO (k := r) (by rw [hnm]; exact hnd) (fun k y hk => by rw [hnm]; exact hin k y (List.mem_cons_of_mem _ hk)) hk.2 hm with ⟨k, h1, h2⟩ | ⟨h1, h2⟩
  ·exact .inl ⟨k, List.mem_cons_of_mem _ h1, h2⟩
  ·rcases x5 hnd hn h1 with ⟨rfl, rfl⟩ | ⟨h3, h4⟩
   ·exact .inl ⟨n, List.mem_cons_self, rfl⟩
   ·exact .inr ⟨h4, by simp only [yX, List.map_cons, List.mem_cons, not_or]; exact ⟨h3, h2⟩⟩
theorem nE : ∀ {k l : List (Nat × Obj')}, (∀ n x, (n, x) ∈ k → h n ∈ l.map Prod.fst) → (pS h l k).map Prod.fst = l.map Prod.fst
 | [], l, _ => rfl
 | (n, x) :: r, l, hin => by
  have hn := hin n x List.mem_cons_self
  have hnm : (setO l (h n) x).map Prod.fst = l.map Prod.fst := vY hn
  simp only [pS]
  rw [nE (k := r) (fun k y hk => by rw [hnm]; exact hin k y (List.mem_cons_of_mem _ hk)), hnm]
theorem tO {l k : List (Nat × Obj')} (e : l.map Prod.fst = k.map Prod.fst) {n : Nat} {o : Obj'} (hm : (n, o) ∈ l) : ∃ o', (n, o') ∈ k := by
 have h1 : n ∈ k.map Prod.fst := by rw [← e]; exact List.mem_map.2 ⟨_, hm, rfl⟩
 obtain ⟨⟨m, o'⟩, h2, h3⟩ := List.mem_map.1 h1
 simp only at h3
 subst h3
 exact ⟨o', h2⟩
theorem callO_sound {ps : PS} {o : Oper} {c : Call} {f : Operand} (hop : o.op = .call c) (hcl : c.callee = .value f) (hd : ∀ t, o.dst = some t → t < N) {K : PS → Prop} {Km : Act → World → Prop} {Q : Exit → Act → World → Prop} (hs : Sim w0 S0 K0 N (zB ps.tmps) ps.objs a w S β)
  {g : FuncId} {caps : List PV} (hf : ev (zB ps.tmps) f = .fn g caps) {cargs : List PV} {kept eaten : List (Nat × Obj')} {r : PV} {kept' made : List (Nat × Obj')}
  (hle : LeL (evs (ev (zB ps.tmps)) c.args.toList ++ caps) (renL h cargs)) (hso : Sound g cargs kept eaten r kept' made)
  (hobj : sY h ps.objs (kept ++ eaten)) (hnd1 : ndO (yX h (kept ++ eaten)) = true) (hnd2 : ndO (kept ++ eaten) = true) (hclo : cT (kept' ++ made) = true) (hnd3 : ndO (yX h made) = true) (hfree : sZ h (uF h eaten ps) made = true)
  (hlv : yR lv cargs = true) (hlr : lv r = true) (hnm : nmIn (nmsO (kept' ++ made)) r = true)
  (hK : K (put (n6 h eaten kept' made ps) o.dst (ren h r)))
  (hk : ∀ ps' a' w' S' β', K ps' → Sim w0 S0 K0 N (zB ps'.tmps) ps'.objs a' w' S' β' → Km a' w') : o.wp Pg a w Km Q := by
 have hfr := hs.eval f
 rw [hf] at hfr
 obtain ⟨vs, hv, hl, hr⟩ := kJ hfr
 have hargs := ((lF (fun x => hs.eval x) c.args.toList).append ⟨hl, hr⟩).le hle
 have hnodup1 := qY hnd1
 have hmemo : ∀ {n x}, (n, x) ∈ kept ++ eaten → (h n, x) ∈ ps.objs ∧ wJ x = true := fun hm => aV hobj hm
 have hblk : ∀ b, Blk (fun n => β (h n)) (kept ++ eaten) b → (∀ i, ¬ S b i) ∧ b < w.heap.size ∧ (w0.heap.size ≤ b ∨ K0 b) := by
  rintro b ⟨n, x, hm, hβ⟩
  obtain ⟨h1, h2⟩ := hmemo hm
  exact ⟨fun i hS => eW h2 ((hs.obj.un _ _ b h1 hβ).1 i hS), (hs.obj.un _ _ b h1 hβ).2, hs.own _ _ b h1 hβ⟩
 have hobjs : ObjsAt w S (fun n => β (h n)) (kept ++ eaten) := ⟨qY hnd2, fun n x hm => s6 (hmemo hm).2 (hs.obj.at_ _ _ (hmemo hm).1) rfl, fun n x b hm hβ => hs.obj.un _ _ b (hmemo hm).1 hβ,
  fun n x m y b hm hm' hβ hβ' => mL hnodup1 hm hm' (hs.obj.inj _ _ _ _ b (hmemo hm).1 (hmemo hm').1 hβ hβ')⟩
 have hlen : (renL h cargs).length = cargs.length := zL _ _
 unfold Oper.wp
 rw [aJ hop hcl hv hso.isf, Oper.upon_enter]
 refine (hso.go w S (fun n => β (h n)) _ hs.ld.bnd hobjs (by rw [hargs.1, hlen]) (fun j hj => ren_in (by
  have := hargs.2 j (by rw [hlen]; exact hj)
  rwa [renL, yC _ rfl] at this) (xV hlv j hj))).mono ?_
 rintro e w' ⟨v, S', β', rfl, l, hrep, ho', hnk, hβk, hmd⟩
 show Km (a.put o.dst v) w'
 have hevo : Evo S w w' := ⟨fun b i hS => dU (l.same b (hs.ld.bnd b i hS) fun hb => (hblk b hb).1 i hS) i, l.shape⟩
 have hsub : ∀ b i, S b i → S' b i := l.subs hs.ld.bnd
 have hld : Leads w0 S0 K0 w' S' := by
  refine ⟨Nat.le_trans hs.ld.size l.size, l.os.trans hs.ld.os, l.tape.trans hs.ld.tape, l.output.trans hs.ld.output, fun b hb hk => ?_, fun b us U hb => ?_, l.bnd, fun b i hb hS => hsub b i (hs.ld.sub b i hb hS), fun b i hb hk hS => ?_⟩
  ·have hb' := Nat.lt_of_lt_of_le hb hs.ld.size
   rw [l.same b hb' fun hx => by rcases (hblk b hx).2.2 with h' | h'; omega; exact hk h']
   exact hs.ld.same b hb hk
  ·obtain ⟨us', e1, e2⟩ := hs.ld.shape b us U hb
   obtain ⟨us'', e3, e4⟩ := l.shape b us' U e1
   exact ⟨us'', e3, e4.trans e2⟩
  ·have hb' := Nat.lt_of_lt_of_le hb hs.ld.size
   exact hs.ld.old b i hb hk (l.old b i hb' (fun hx => by rcases (hblk b hx).2.2 with h' | h'; omega; exact hk h') hS)
 
 have hmid : ∀ {m x}, (m, x) ∈ (uF h eaten ps).objs → (∃ x', (m, x') ∈ ps.objs ∧ x = (match x' with | .box cs =>   .box (wA (scrs ((yX h eaten).map Prod.fst)) cs) | .arr s els => .arr s els | .log s els => .log s els | .lent s els => .lent s els)) ∧ m ∉ (yX h eaten).map Prod.fst := by
  intro m x hm
  obtain ⟨x', h1, h2⟩ := xT _ hm
  obtain ⟨h3, h4⟩ := iZ h1
  exact ⟨⟨x', h3, h2⟩, h4⟩
 have hkin : ∀ n x, (n, x) ∈ kept → h n ∈ ((uF h eaten ps).objs).map Prod.fst := by
  intro n x hm
  have h1 := (hmemo (List.mem_append_left eaten hm)).1
  have h2 : h n ∉ (yX h eaten).map Prod.fst := by
   intro hx
   obtain ⟨⟨m, y⟩, h3, h4⟩ := List.mem_map.1 hx
   obtain ⟨k, h5, h6⟩ := v4.1 h3
   simp only at h4
   rw [jR, List.map_append, List.nodup_append] at hnodup1
   exact hnodup1.2.2 (h n) (List.mem_map.2 ⟨_, v4.2 ⟨n, hm, rfl⟩, rfl⟩) m (List.mem_map.2 ⟨_, h3, rfl⟩) h4.symm
  obtain ⟨x', h3⟩ := cL (scrs ((yX h eaten).map Prod.fst)) (mem_dels' h1 h2)
  exact List.mem_map.2 ⟨_, h3, rfl⟩
 have hkin' : ∀ n x, (n, x) ∈ kept' → h n ∈ ((uF h eaten ps).objs).map Prod.fst := by
  intro n x hm
  obtain ⟨x', h1⟩ := tO hnk hm
  exact hkin n x' h1
 have hmnd : ((uF h eaten ps).objs.map Prod.fst).Nodup := by
  simp only [uF, vF]
  exact (eS _ _).nodup hs.obj.nd
 have hknd : ((yX h kept').map Prod.fst).Nodup := by
  rw [qM, hnk, ← qM]
  rw [jR, List.map_append, List.nodup_append] at hnodup1
  exact hnodup1.1
 have hset : ∀ {m x}, (m, x) ∈ pS h (uF h eaten ps).objs kept' → (∃ n, (n, x) ∈ kept' ∧ m = h n) ∨ ((m, x) ∈ (uF h eaten ps).objs ∧ m ∉ (yX h kept').map Prod.fst) :=
  fun hm => mem_setsO hmnd hkin' hknd hm
 have hβk' : ∀ n x, (n, x) ∈ kept' → β' n = β (h n) := by
  intro n x hm
  obtain ⟨x', h1⟩ := tO hnk hm
  exact hβk n x' h1
 have hin0 : ∀ {m x}, (m, x) ∈ pS h (uF h eaten ps).objs kept' → ∃ x', (m, x') ∈ ps.objs := by
  intro m x hm
  rcases hset hm with ⟨n, h1, rfl⟩ | ⟨h1, _⟩
  ·obtain ⟨x', h2⟩ := tO hnk h1
   exact ⟨x', (hmemo (List.mem_append_left eaten h2)).1⟩
  ·obtain ⟨⟨x', h2, _⟩, _⟩ := hmid h1
   exact ⟨x', h2⟩
 have hnblk : ∀ {m x b}, (m, x) ∈ (uF h eaten ps).objs → m ∉ (yX h kept').map Prod.fst → β m = some b → ¬ Blk (fun n => β (h n)) (kept ++ eaten) b := by
  rintro m x b hm hnk' hβ ⟨n, y, hy, hβn⟩
  obtain ⟨⟨x', h2, _⟩, h3⟩ := hmid hm
  have heq := hs.obj.inj _ _ _ _ b h2 (hmemo hy).1 hβ hβn
  subst heq
  rcases List.mem_append.1 hy with hy | hy
  ·rw [qM, hnk, ← qM] at hnk'
   exact hnk' (List.mem_map.2 ⟨_, v4.2 ⟨n, hy, rfl⟩, rfl⟩)
  ·exact h3 (List.mem_map.2 ⟨_, v4.2 ⟨n, hy, rfl⟩, rfl⟩)
 have hsim : Sim w0 S0 K0 N (zB (uF h eaten ps).tmps) (pS h (uF h eaten ps).objs kept') a w' S' β := by
  refine ⟨hs.dfr, hs.sz, hld, fun t => ?_, ⟨by rw [nE hkin']; exact hmnd, ?_, ?_, ?_⟩, ?_, ?_⟩
  ·simp only [uF]
   rw [kA _ (iA _)]
   exact l9 _ ((hs.tmp t).evo hevo hsub)
  ·intro m x hm
   rcases hset hm with ⟨n, h1, rfl⟩ | ⟨h1, h2⟩
   ·exact s6 (kU hclo (List.mem_append_left made h1)) (ho'.at_ n x (List.mem_append_left made h1)) (hβk' n x h1).symm
   ·obtain ⟨⟨x', h3, h4⟩, h5⟩ := hmid h1
    have hat := hs.obj.at_ m x' h3
    cases x' with
    | box cs =>
     subst h4
     obtain ⟨b, us, T, e1, e2, e3, e4⟩ := hat
     refine ⟨b, us, T, e1, ?_, by rw [zL]; exact e3, fun j hj => ?_⟩
     ·rw [l.same b (hs.obj.un _ _ b h3 e1).2 (hnblk h1 h2 e1)]; exact e2
     ·rw [zL] at hj
      rw [yC _ (iA _)]
      exact l9 _ ((e4 j hj).evo hevo hsub)
    | arr s els =>
     subst h4
     rcases hat with e0 | ⟨b, us, T, e1, e2, e3, e4, e5⟩
     ·exact .inl e0
     ·refine .inr ⟨b, us, T, e1, ?_, e3, e4, fun i j hi hj => ⟨(e5 i j hi hj).1.evo hevo.same hsub, (e5 i j hi hj).2⟩⟩
      rw [l.same b (hs.obj.un _ _ b h3 e1).2 (hnblk h1 h2 e1)]; exact e2
    | log s els =>
     subst h4
     rcases hat with e0 | ⟨b, us, T, e1, e2, e3, e4, e5⟩
     ·exact .inl e0
     ·refine .inr ⟨b, us, T, e1, ?_, e3, e4, fun i j hi hj => ⟨(e5 i j hi hj).1.evo hevo.same hsub, (e5 i j hi hj).2⟩⟩
      rw [l.same b (hs.obj.un _ _ b h3 e1).2 (hnblk h1 h2 e1)]; exact e2
    | lent s els =>
     subst h4
     obtain ⟨hat, hst⟩ := hat
     refine ⟨?_, fun b hb i hi => hsub _ _ (hst b hb i hi)⟩
     rcases hat with e0 | ⟨b, us, T, e1, e2, e3, e4, e5⟩
     ·exact .inl e0
     ·refine .inr ⟨b, us, T, e1, ?_, e3, e4, fun i j hi hj => ⟨(e5 i j hi hj).1.evo hevo.same hsub, (e5 i j hi hj).2⟩⟩
      rw [l.same b (hs.obj.un _ _ b h3 e1).2 (hnblk h1 h2 e1)]; exact e2
  ·intro m x b hm hβ
   rcases hset hm with ⟨n, h1, rfl⟩ | ⟨h1, h2⟩
   ·exact ho'.un n x b (List.mem_append_left made h1) (by rw [hβk' n x h1]; exact hβ)
   ·obtain ⟨⟨x', h3, h4⟩, h5⟩ := hmid h1
    obtain ⟨q1, q2⟩ := hs.obj.un m x' b h3 hβ
    refine ⟨fun i hS => ?_, Nat.lt_of_lt_of_le q2 l.size⟩
    have := q1 i (l.old b i q2 (hnblk h1 h2 hβ) hS)
    subst h4
    cases x' <;> exact this
  ·intro m x m' x' b hm hm' hβ hβ'
   obtain ⟨y, h1⟩ := hin0 hm
   obtain ⟨y', h2⟩ := hin0 hm'
   exact hs.obj.inj _ _ _ _ b h1 h2 hβ hβ'
  ·intro m x b hm hβ
   obtain ⟨y, h1⟩ := hin0 hm
   exact hs.own m y b h1 hβ
  ·intro m x hm hb
   obtain ⟨y, h1⟩ := hin0 hm
   exact hs.keep m y h1 hb
 obtain ⟨βf, g1, g2, g3⟩ := add_made (h := h) (made := made) (β' := β') hsim
  (fun n x hm => by
   refine ⟨ho'.at_ n x (List.mem_append_right kept' hm), kU hclo (List.mem_append_right kept' hm), ?_⟩
   have hfr := dH hfree hm
   simp only [yO, Bool.and_eq_true] at hfr ⊢
   refine ⟨hfr.1, uJ (wV hfr.2) fun k y hk => ?_⟩
   have hne : ∀ {k y}, (k, y) ∈ (uF h eaten ps).objs → k ≠ h n := fun hk => (yN hfr.2 hk).1
   rcases hset hk with ⟨m, h1, rfl⟩ | ⟨h1, h2⟩
   ·obtain ⟨⟨q, y'⟩, q1, q2⟩ := List.mem_map.1 (hkin' m y h1)
    simp only at q2
    subst q2
    exact ⟨hne q1, sD (kU hclo (List.mem_append_left made h1))⟩
   ·exact yN hfr.2 h1)
  (fun n x b hm hb => by
   obtain ⟨q1, q2⟩ := ho'.un n x b (List.mem_append_right kept' hm) hb
   refine ⟨fun i hS => eW (kU hclo (List.mem_append_right kept' hm)) (q1 i hS), q2, fun k y hk e => ?_, ?_⟩
   ·rcases hmd n x b hm hb with h1 | ⟨m, z, h1, h2⟩
    ·obtain ⟨y', h2⟩ := hin0 hk
     have := (hs.obj.un k y' b h2 e).2
     omega
    ·rcases hset hk with ⟨m', h3, rfl⟩ | ⟨h3, h4⟩
     ·have heq := ho'.inj _ _ _ _ b (List.mem_append_left made h3) (List.mem_append_right kept' hm) (by rw [hβk' m' y h3]; exact e) hb
      subst heq
      have hfr := dH hfree hm
      simp only [yO, Bool.and_eq_true] at hfr
      obtain ⟨⟨q, y'⟩, q3, q4⟩ := List.mem_map.1 (hkin' m' y h3)
      simp only at q4
      exact (yN hfr.2 q3).1 q4
     ·exact hnblk h3 h4 e ⟨m, z, List.mem_append_right kept h1, h2⟩
   ·rcases hmd n x b hm hb with h1 | ⟨m, z, h1, h2⟩
    ·exact .inl (Nat.le_trans hs.ld.size h1)
    ·exact (hblk b ⟨m, z, List.mem_append_right kept h1, h2⟩).2.2)
  (qY hnd3) (fun n x m y b hm hm' hb hb' => ho'.inj _ _ _ _ b (List.mem_append_right kept' hm) (List.mem_append_right kept' hm') hb hb')
 have hfin : Rep w' S' βf v (ren h r) := ren_out (l := nmsO (kept' ++ made)) (fun n hn => by
  obtain ⟨x, hm⟩ := nmsO_mem hn
  rcases List.mem_append.1 hm with hm | hm
  ·rw [g2 (h n) ?_, hβk' n x hm]
   intro hx
   obtain ⟨⟨q, y⟩, q1, q2⟩ := List.mem_map.1 hx
   obtain ⟨m, q3, q4⟩ := v4.1 q1
   simp only at q2
   have hfr := dH hfree q3
   simp only [yO, Bool.and_eq_true] at hfr
   obtain ⟨⟨q', y'⟩, q5, q6⟩ := List.mem_map.1 (hkin' n x hm)
   simp only at q6
   exact (yN hfr.2 q5).1 (by rw [q6, ← q2, q4])
  ·exact g3 n x hm) hrep hnm
 exact hk _ _ _ _ _ hK (qW (ps := n6 h eaten kept' made ps) g1 o.dst hd hfin)
end
section
variable {w0 : World} {S0 : Nat → Nat → Prop} {K0 : Nat → Prop} {N : Cx} {τ : Nat → PV} {objs : List (Nat × Obj')} {a : Act} {w w' : World} {S S' : Nat → Nat → Prop} {β : Nat → Option Nat}
theorem fD {o : Oper} {ps : PS} {K : PS → Prop} {Km : Act → World → Prop} {Q : Exit → Act → World → Prop} (h : Sim w0 S0 K0 N (zB ps.tmps) ps.objs a w S β) (hs : bZ o ps K) (hd : ∀ t, o.dst = some t → t < N)
  (hk : ∀ ps' a' w' S' β', K ps' → Sim w0 S0 K0 N (zB ps'.tmps) ps'.objs a' w' S' β' → Km a' w') : o.wp Pg a w Km Q := by
 have hsop : sop ps.objs o.op (ev (zB ps.tmps)) (fun v => K (put ps o.dst v)) → o.wp Pg a w Km Q := fun hs =>
  o5 h hs fun pv w' S' v hK l hr => hk _ _ _ _ _ hK (qW (h.go l) o.dst hd hr)
 unfold bZ at hs
 split at hs
 ·rename_i t hop
  split at hs
  ·rename_i d hod
   cases hno : (ty t).isNo with
   | true => simp [hno] at hs
   | false =>
    simp only [hno, cond_false] at hs
    obtain ⟨i, zv, h1, h2, h3⟩ := ty_zero (w := w) (S := S) (β := β) hno
    have hz : xS d (ty t).zero = true := by
     cases hty : ty t with
     | no => simp [hty, Ty.isNo] at hno
     | sc z => obtain ⟨_, _, zv', _, _, _, _, _, _, h7, _⟩ := oY hty; rw [h7]; simp only [Ty.zero, xS, yR, Bool.and_true]; unfold wD; split <;> rfl
     | st n fs z =>
      obtain ⟨_, _, zs, _, _, _, _, _, _, h7, _⟩ := lV hty
      rw [h7]
      simp only [Ty.zero]
      generalize zs.toList = l
      induction l with
      | nil => rfl
      | cons x l ih => simp only [List.map_cons, xS, yR, Bool.and_eq_true]; exact ⟨by unfold wD; split <;> rfl, ih⟩
     | arr len n ag z =>
      obtain ⟨_, _, zs, _, _, _, _, _, _, _, _, _, _, h7⟩ := rT hty
      rw [h7]
      simp only [Ty.zero]
      generalize zs.toList = l
      induction l with
      | nil => rfl
      | cons x l ih => simp only [List.map_cons, xS, yR, Bool.and_eq_true]; exact ⟨by unfold wD; split <;> rfl, ih⟩
     | sli n b z => rfl
    refine tC (T := t) hod (hd d hod) h hs h3 ?_ hk hz
    simp [execOp, hop, Instr.alloc, aH h1 h2, newVar, newRow]
  ·exact hs.elim
 ·rename_i t x hop
  split at hs
  ·rename_i d hod
   cases hp : qK (ev (zB ps.tmps) x) with
   | false => simp [hp] at hs
   | true =>
    simp only [hp, cond_true] at hs
    have hr := h.eval x
    have hz : yO d ps = true → xS d (yJ (ev (zB ps.tmps) x)) = true := by
     intro hf
     simp only [yO, Bool.and_eq_true] at hf
     have hx : wP d (ev (zB ps.tmps) x) = true := by
      cases x with
      | tmp t => exact vD hf.1 t
      | const v => simp only [ev]; unfold wD; split <;> rfl
      | global g => rfl
      | func f => rfl
     generalize ev (zB ps.tmps) x = y at hx hp
     cases y with
     | agg cs =>
      have : ∀ (l : List PV), yR (rf1 d) l = true → xS d l = true := by
       intro l
       induction l with
       | nil => intro _; rfl
       | cons c l ih =>
        intro hl
        simp only [yR, Bool.and_eq_true] at hl
        simp only [xS, yR, Bool.and_eq_true]
        refine ⟨?_, ih hl.2⟩
        have h1 := hl.1
        have up : ∀ (l : List PV), yR (rf0 d) l = true → yR (rf1 d) l = true := by
         intro l
         induction l with
         | nil => intro _; rfl
         | cons e l ih2 =>
          intro hl
          simp only [yR, Bool.and_eq_true] at hl ⊢
          exact ⟨by cases e <;> first | (simp [rf0] at hl; done) | exact hl.1, ih2 hl.2⟩
        cases c <;> first | exact h1 | exact up _ h1
      exact this cs hx
     | tup cs => simp [qK, b6] at hp
     | _ => simpa only [yJ, xS, yR, Bool.and_true] using hx
    have hfree : yO d ps = true := by
     unfold iV at hs
     cases hf : yO d ps with
     | false => simp [hf] at hs
     | true => rfl
    refine tC (T := t) hod (hd d hod) h hs (kE hr hp) ?_ hk (hz hfree)
    simp [execOp, hop, Instr.box, newVar, newRow]
  ·exact hs.elim
 ·rename_i t ad vl hop
  split at hs
  ·rename_i n off ha
   split at hs
   ·rename_i cs ho
    cases hc : (nqb (yJ (ev (zB ps.tmps) vl)).length (ty t).cells && nle (off + (ty t).cells) cs.length && nlt 0 (ty t).cells && yR b6 (yJ (ev (zB ps.tmps) vl))) with
    | false => simp only [hc, cond_false] at hs
    | true =>
     simp only [hc, cond_true] at hs
     simp only [Bool.and_eq_true] at hc
     exact store_box hop hd h ha ho (yM hc.1.1.1) (r8 hc.1.1.2) (by have := hc.1.2; simp [nlt] at this; omega) hc.2 hs hk
   ·exact hs.elim
  ·rename_i n s i off ha
   split at hs
   ·rename_i s' els ho
    cases hc : (nqb s s' && nqb (yJ (ev (zB ps.tmps) vl)).length (ty t).cells && nle (off + (ty t).cells) s && nlt 0 (ty t).cells && yR tX (yJ (ev (zB ps.tmps) vl))) with
    | false => simp only [hc, cond_false] at hs
    | true =>
     simp only [hc, cond_true] at hs
     simp only [Bool.and_eq_true] at hc
     have := yM hc.1.1.1.1
     subst this
     exact store_arr hop hd h ha ho (yM hc.1.1.1.2) (r8 hc.1.1.2) (by have := hc.1.2; simp [nlt] at this; omega) hc.2 hs hk
   ·exact hs.elim
  ·exact hs.elim
 ·rename_i t l c hop
  split at hs
  ·rename_i n b z d x y ht hod hl hc
   obtain ⟨hR, hM, hs⟩ := hs
   cases hf : (yO d ps && yR tX z) with
   | false => simp only [hf, cond_false] at hs
   | true =>
    simp only [hf, cond_true] at hs
    simp only [Bool.and_eq_true] at hf
    exact make_sound hop hod (hd d hod) h ht hl hc hR hM hf.1 hf.2 hs hk
  ·exact hs.elim
 ·rename_i c hop
  split at hs
  ·rename_i g hcl
   obtain ⟨ps', hw, f, caps, hf, hs⟩ := hs.h
   obtain ⟨S1, β1, h1⟩ := hw.sound h
   rcases hs with ⟨args', r, hle, hso, hnm, hK⟩ | ⟨hn, cargs, kept, eaten, r, kept', made, hle, hso, hobj, hnd1, hnd2, hclo, hnd3, hfree, hlv, hlr, hnm, hK⟩
   ·exact nM hop hcl h1 hf ⟨args', r, hle, hso, hnm, hK⟩ fun pv w' S' v hK' l hr => hk _ _ _ _ _ hK' (qW (h1.go l) o.dst hd hr)
   ·exact callO_sound hop hcl hd h1 hf hle hso hobj hnd1 hnd2 hclo hnd3 hfree hlv hlr hnm hK hk
  ·rename_i hcl
   split at hs
   ·rename_i b x t tx ha ht
    cases htx : tK (ty tx) with
    | false => simp [htx] at hs
    | true =>
     simp only [htx, cond_true] at hs
     obtain ⟨ps', d, nm, n, b', z, xs, hw, hod, hty, hx, hwid, hs⟩ := hs.h
     obtain ⟨S1, β1, h1⟩ := hw.sound h
     exact app_sound hop hcl (by rw [← Array.toArray_toList (xs := c.args), ha]) (by rw [← Array.toArray_toList (xs := c.argTypes), ht]) htx hod (hd d hod) h1 hty hx hwid hs hk
   ·exact hs.elim
  ·exact hsop hs
  ·exact hs.elim
 ·rename_i t x yt hop
  split at hs
  ·rename_i n b z els ht hx
   have hr := h.eval x
   rw [hx] at hr
   obtain ⟨pv, val, h1, h2, h3⟩ := nilCmp_sound (w := w) (S := S) (β := β) (x := x) ht hr hs
   refine b8 (v := val) (w' := w) ?_ (hk _ _ _ _ _ h1 (qW h o.dst hd h3))
   simp only [execOp, hop, Sem.run_bind] at h2 ⊢
   have : a.eval (.const (.slice none 0 0)) = .slice none 0 0 := rfl
   simp [this, h2]
  ·exact hs.elim
 ·exact hsop hs
theorem gdV_ne {want : Bool} {v : PV} {A B : Unit → Prop} (h : v ≠ .tup []) : gdV want v A B = (match want with | true => brV v A B | false => brV v B A) := by
 unfold gdV
 split
 ·exact absurd rfl h
 ·rfl
theorem sJ (w : World) (S : Nat → Nat → Prop) (β : Nat → Option Nat) : Rep w S β undef (.tup []) := .tup rfl fun j hj => absurd hj (by simp)
theorem uV {ops : List Oper} {o : Oper} {A B : Unit → Prop} (ht : ∀ t, Rep w S β (a.tmps.getD t undef) (τ t)) (h : vQ ops o τ A B) :
  (Region.wanted o (yielded ops.toArray a.tmps) = true ∧ A ()) ∨ (Region.wanted o (yielded ops.toArray a.tmps) = false ∧ B ()) := by
 unfold vQ at h
 split at h
 ·rename_i hg; exact .inl ⟨by simp [Region.wanted, hg], h⟩
 ·rename_i j want hg
  split at h
  ·rename_i oj hj
   split at h
   ·rename_i d hd
    have key : ∀ b, a.tmps.getD d undef = .bool b → Region.wanted o (yielded ops.toArray a.tmps) = (b == want) := by
     intro b hb
     have hlt : a.tmps[d]? = some (.bool b) := by
      cases hx : a.tmps[d]? with
      | none =>
       have : a.tmps.getD d undef = undef := by simp [hx]
       rw [this] at hb
       cases hb
      | some v =>
       have : a.tmps.getD d undef = v := by simp [hx]
       rw [this] at hb
       rw [hb]
     simp [Region.wanted, hg, yielded, hj, hd, hlt]
    by_cases hu : τ d = .tup []
    ·have hr := ht d
     rw [hu] at hr h
     refine .inr ⟨?_, h⟩
     have hv : ∀ b, a.tmps.getD d undef ≠ .bool b := by
      intro b hb
      rw [hb] at hr
      cases hr with
      | c hf _ => cases hf
     cases hx : a.tmps[d]? with
     | none => simp [Region.wanted, hg, yielded, hj, hd, hx]
     | some v =>
      have e : a.tmps.getD d undef = v := by simp [hx]
      cases v with
      | bool b => exact absurd e (hv b)
      | _ => simp [Region.wanted, hg, yielded, hj, hd, hx]
    rw [gdV_ne hu] at h
    cases want with
    | true =>
     simp only [cond_true] at h
     obtain ⟨b, hb, h1, h2⟩ := m3 (ht d) h
     cases b with
     | true => exact .inl ⟨by rw [key true hb]; rfl, h1 rfl⟩
     | false => exact .inr ⟨by rw [key false hb]; rfl, h2 rfl⟩
    | false =>
     simp only [cond_false] at h
     obtain ⟨b, hb, h1, h2⟩ := m3 (ht d) h
     cases b with
     | true => exact .inr ⟨by rw [key true hb]; rfl, h1 rfl⟩
     | false => exact .inl ⟨by rw [key false hb]; rfl, h2 rfl⟩
   ·exact h.elim
  ·exact h.elim
theorem nC {ops : List Oper} {o : Oper} {ps : PS} {K : PS → Prop} (h : Sim w0 S0 K0 N (zB ps.tmps) ps.objs a w S β) (hs : rO ops o ps K) : ∃ ps', K ps' ∧ Sim w0 S0 K0 N (zB ps'.tmps) ps'.objs a w S β := by
 unfold rO at hs
 cases hg : isG ops o with
 | false => simp only [hg, cond_false] at hs; exact ⟨ps, hs, h⟩
 | true =>
  simp only [hg, cond_true] at hs
  split at hs
  ·rename_i d hd
   have hr := h.tmp d
   split at hs
   ·rename_i b hb
    rw [hb] at hr
    cases hv : b () with
    | true => exact ⟨_, hs.t hv, h.setT (hr.le .tt (by simpa [Le] using hv))⟩
    | false => exact ⟨_, hs.f hv, h.setT (hr.le .ff (by simpa [Le] using hv))⟩
   ·rename_i b hb
    rw [hb] at hr
    cases hv : b () with
    | true => exact ⟨_, hs.t hv, h.setT (hr.le .ff (by simpa [Le] using hv))⟩
    | false => exact ⟨_, hs.f hv, h.setT (hr.le .tt (by simpa [Le] using hv))⟩
   ·exact ⟨ps, hs, h⟩
  ·exact ⟨ps, hs, h⟩
def aZ (N : Nat) (o : Oper) : Bool :=
 match o.dst with
 | none => true
 | some d => decide (d < N)
theorem fM {o : Oper} (h : aZ N o = true) : ∀ t, o.dst = some t → t < N := by
 intro t ht
 simpa [aZ, ht] using h
theorem dF {ops : List Oper} {Q : Exit → Act → World → Prop} {K : PS → Prop} (hk : ∀ ps' a' w' S' β', K ps' → Sim w0 S0 K0 N (zB ps'.tmps) ps'.objs a' w' S' β' → Q .normal a' w') :
  ∀ (l : List Oper) {ps : PS} {a : Act} {w : World} {S : Nat → Nat → Prop} {β : Nat → Option Nat}, (∀ o, o ∈ l → aZ N o = true) → Sim w0 S0 K0 N (zB ps.tmps) ps.objs a w S β → vM ops l ps K → wpList Pg ops.toArray Q l a w
 | [], ps, a, w, S, β, _, h, hs => hk _ _ _ _ _ hs h
 | o :: r, ps, a, w, S, β, hd, h, hs => by
  simp only [vM] at hs
  simp only [wpList]
  have hdo := fM (hd o List.mem_cons_self)
  rcases uV h.tmp hs with ⟨hw, hA⟩ | ⟨hw, hB⟩
  ·rw [if_pos hw]
   exact .inl (fD h hA hdo fun ps' a' w' S' β' hK hsim => by
    obtain ⟨ps'', hK', hsim'⟩ := nC hsim hK
    exact dF hk r (fun o ho => hd o (List.mem_cons_of_mem _ ho)) hsim' hK')
  ·rw [if_neg (by rw [hw]; simp)]
   exact dF hk r (fun o ho => hd o (List.mem_cons_of_mem _ ho)) (qW h o.dst hdo (sJ _ _ _)) hB
end
end Go.Proofs.YtcanljninhfmhaaGreat
