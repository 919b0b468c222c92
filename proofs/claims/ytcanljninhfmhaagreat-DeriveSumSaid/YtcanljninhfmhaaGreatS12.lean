/- A part of the proof: PmN. -/
import Derived.Test.YtcanljninhfmhaaGreatS11
set_option linter.all false
namespace Go.Proofs.YtcanljninhfmhaaGreat
open Go
set_option linter.unusedVariables false
set_option linter.unusedSimpArgs false
section
variable {w0 : World} {S0 : Nat → Nat → Prop} {K0 : Nat → Prop} {N : Cx} {τ : Nat → PV} {objs : List (Nat × Obj')} {a : Act} {w w' : World} {S S' : Nat → Nat → Prop} {β : Nat → Option Nat}
theorem opWp_sound {o : Oper} {ps : PS} {K : PS → Prop} {Km : Act → World → Prop} {Q : Exit → Act → World → Prop} (h : Sim w0 S0 K0 N (lookT ps.tmps) ps.objs a w S β) (hs : opWp o ps K) (hd : ∀ t, o.dst = some t → t < N)
  (hk : ∀ ps' a' w' S' β', K ps' → Sim w0 S0 K0 N (lookT ps'.tmps) ps'.objs a' w' S' β' → Km a' w') : o.wp Pg a w Km Q := by
 have hsop : sop ps.objs o.op (ev (lookT ps.tmps)) (fun v => K (put ps o.dst v)) → o.wp Pg a w Km Q := fun hs =>
  sop_sound h hs fun pv w' S' v hK l hr => hk _ _ _ _ _ hK (sim_putPS (h.go l) o.dst hd hr)
 unfold opWp at hs
 split at hs
 ·rename_i t hop
  split at hs
  ·rename_i d hod
   cases hno : (ty t).isNo with
   | true => simp [hno] at hs
   | false =>
    simp only [hno, cond_false] at hs
    obtain ⟨i, zv, h1, h2, h3⟩ := ty_zero (w := w) (S := S) (β := β) hno
    have hz : refFreeL d (ty t).zero = true := by
     cases hty : ty t with
     | no => simp [hty, Ty.isNo] at hno
     | sc z => obtain ⟨_, _, zv', _, _, _, _, _, _, h7, _⟩ := ty_sc hty; rw [h7]; simp only [Ty.zero, refFreeL, allL, Bool.and_true]; unfold ofVal; split <;> rfl
     | st n fs z =>
      obtain ⟨_, _, zs, _, _, _, _, _, _, h7, _⟩ := ty_st hty
      rw [h7]
      simp only [Ty.zero]
      generalize zs.toList = l
      induction l with
      | nil => rfl
      | cons x l ih => simp only [List.map_cons, refFreeL, allL, Bool.and_eq_true]; exact ⟨by unfold ofVal; split <;> rfl, ih⟩
     | arr len n ag z =>
      obtain ⟨_, _, zs, _, _, _, _, _, _, _, _, _, _, h7⟩ := ty_arr hty
      rw [h7]
      simp only [Ty.zero]
      generalize zs.toList = l
      induction l with
      | nil => rfl
      | cons x l ih => simp only [List.map_cons, refFreeL, allL, Bool.and_eq_true]; exact ⟨by unfold ofVal; split <;> rfl, ih⟩
     | sli n b z => rfl
    refine newBox_sound (T := t) hod (hd d hod) h hs h3 ?_ hk hz
    simp [execOp, hop, Instr.alloc, run_zero h1 h2, newVar, newRow]
  ·exact hs.elim
 ·rename_i t x hop
  split at hs
  ·rename_i d hod
   cases hp : partOk (ev (lookT ps.tmps) x) with
   | false => simp [hp] at hs
   | true =>
    simp only [hp, cond_true] at hs
    have hr := h.eval x
    have hz : freeOf d ps = true → refFreeL d (cellsV (ev (lookT ps.tmps) x)) = true := by
     intro hf
     simp only [freeOf, Bool.and_eq_true] at hf
     have hx : refFree d (ev (lookT ps.tmps) x) = true := by
      cases x with
      | tmp t => exact refFreeT_look hf.1 t
      | const v => simp only [ev]; unfold ofVal; split <;> rfl
      | global g => rfl
      | func f => rfl
     generalize ev (lookT ps.tmps) x = y at hx hp
     cases y with
     | agg cs =>
      have : ∀ (l : List PV), allL (rf1 d) l = true → refFreeL d l = true := by
       intro l
       induction l with
       | nil => intro _; rfl
       | cons c l ih =>
        intro hl
        simp only [allL, Bool.and_eq_true] at hl
        simp only [refFreeL, allL, Bool.and_eq_true]
        refine ⟨?_, ih hl.2⟩
        have h1 := hl.1
        have up : ∀ (l : List PV), allL (rf0 d) l = true → allL (rf1 d) l = true := by
         intro l
         induction l with
         | nil => intro _; rfl
         | cons e l ih2 =>
          intro hl
          simp only [allL, Bool.and_eq_true] at hl ⊢
          exact ⟨by cases e <;> first | (simp [rf0] at hl; done) | exact hl.1, ih2 hl.2⟩
        cases c <;> first | exact h1 | exact up _ h1
      exact this cs hx
     | tup cs => simp [partOk, cokC] at hp
     | _ => simpa only [cellsV, refFreeL, allL, Bool.and_true] using hx
    have hfree : freeOf d ps = true := by
     unfold newBox at hs
     cases hf : freeOf d ps with
     | false => simp [hf] at hs
     | true => rfl
    refine newBox_sound (T := t) hod (hd d hod) h hs (cells_rep hr hp) ?_ hk (hz hfree)
    simp [execOp, hop, Instr.box, newVar, newRow]
  ·exact hs.elim
 ·rename_i t ad vl hop
  split at hs
  ·rename_i n off ha
   split at hs
   ·rename_i cs ho
    cases hc : (nqb (cellsV (ev (lookT ps.tmps) vl)).length (ty t).cells && nle (off + (ty t).cells) cs.length && nlt 0 (ty t).cells && allL cokC (cellsV (ev (lookT ps.tmps) vl))) with
    | false => simp only [hc, cond_false] at hs
    | true =>
     simp only [hc, cond_true] at hs
     simp only [Bool.and_eq_true] at hc
     exact store_box hop hd h ha ho (nqb_eq hc.1.1.1) (nle_le hc.1.1.2) (by have := hc.1.2; simp [nlt] at this; omega) hc.2 hs hk
   ·exact hs.elim
  ·rename_i n s i off ha
   split at hs
   ·rename_i s' els ho
    cases hc : (nqb s s' && nqb (cellsV (ev (lookT ps.tmps) vl)).length (ty t).cells && nle (off + (ty t).cells) s && nlt 0 (ty t).cells && allL cokD (cellsV (ev (lookT ps.tmps) vl))) with
    | false => simp only [hc, cond_false] at hs
    | true =>
     simp only [hc, cond_true] at hs
     simp only [Bool.and_eq_true] at hc
     have := nqb_eq hc.1.1.1.1
     subst this
     exact store_arr hop hd h ha ho (nqb_eq hc.1.1.1.2) (nle_le hc.1.1.2) (by have := hc.1.2; simp [nlt] at this; omega) hc.2 hs hk
   ·exact hs.elim
  ·exact hs.elim
 ·rename_i t l c hop
  split at hs
  ·rename_i n b z d x y ht hod hl hc
   obtain ⟨hR, hM, hs⟩ := hs
   cases hf : (freeOf d ps && allL cokD z) with
   | false => simp only [hf, cond_false] at hs
   | true =>
    simp only [hf, cond_true] at hs
    simp only [Bool.and_eq_true] at hf
    exact make_sound hop hod (hd d hod) h ht hl hc hR hM hf.1 hf.2 hs hk
  ·exact hs.elim
 ·rename_i c hop
  split at hs
  ·rename_i g hcl
   obtain ⟨ps', hw, f, caps, hf, hs⟩ := hs.h
   obtain ⟨S1, β1, h1⟩ := hw.sound h
   rcases hs with ⟨args', r, hle, hso, hnm, hK⟩ | ⟨hn, cargs, kept, eaten, r, kept', made, hle, hso, hobj, hnd1, hnd2, hclo, hnd3, hfree, hlv, hlr, hnm, hK⟩
   ·exact callS_sound hop hcl h1 hf ⟨args', r, hle, hso, hnm, hK⟩ fun pv w' S' v hK' l hr => hk _ _ _ _ _ hK' (sim_putPS (h1.go l) o.dst hd hr)
   ·exact callO_sound hop hcl hd h1 hf hle hso hobj hnd1 hnd2 hclo hnd3 hfree hlv hlr hnm hK hk
  ·rename_i hcl
   split at hs
   ·rename_i b x t tx ha ht
    cases htx : isSli (ty tx) with
    | false => simp [htx] at hs
    | true =>
     simp only [htx, cond_true] at hs
     obtain ⟨ps', d, nm, n, b', z, xs, hw, hod, hty, hx, hwid, hs⟩ := hs.h
     obtain ⟨S1, β1, h1⟩ := hw.sound h
     exact app_sound hop hcl (by rw [← Array.toArray_toList (xs := c.args), ha]) (by rw [← Array.toArray_toList (xs := c.argTypes), ht]) htx hod (hd d hod) h1 hty hx hwid hs hk
   ·exact hs.elim
  ·exact hsop hs
  ·exact hs.elim
 ·rename_i t x yt hop
  split at hs
  ·rename_i n b z els ht hx
   have hr := h.eval x
   rw [hx] at hr
   obtain ⟨pv, val, h1, h2, h3⟩ := nilCmp_sound (w := w) (S := S) (β := β) (x := x) ht hr hs
   refine wp_val (v := val) (w' := w) ?_ (hk _ _ _ _ _ h1 (sim_putPS h o.dst hd h3))
   simp only [execOp, hop, Sem.run_bind] at h2 ⊢
   have : a.eval (.const (.slice none 0 0)) = .slice none 0 0 := rfl
   simp [this, h2]
  ·exact hs.elim
 ·exact hsop hs
theorem gdV_ne {want : Bool} {v : PV} {A B : Unit → Prop} (h : v ≠ .tup []) : gdV want v A B = (match want with | true => brV v A B | false => brV v B A) := by
 unfold gdV
 split
 ·exact absurd rfl h
 ·rfl
theorem rep_und (w : World) (S : Nat → Nat → Prop) (β : Nat → Option Nat) : Rep w S β undef (.tup []) := .tup rfl fun j hj => absurd hj (by simp)
theorem guardK_sound {ops : List Oper} {o : Oper} {A B : Unit → Prop} (ht : ∀ t, Rep w S β (a.tmps.getD t undef) (τ t)) (h : guardK ops o τ A B) :
  (Region.wanted o (yielded ops.toArray a.tmps) = true ∧ A ()) ∨ (Region.wanted o (yielded ops.toArray a.tmps) = false ∧ B ()) := by
 unfold guardK at h
 split at h
 ·rename_i hg; exact .inl ⟨by simp [Region.wanted, hg], h⟩
 ·rename_i j want hg
  split at h
  ·rename_i oj hj
   split at h
   ·rename_i d hd
    have key : ∀ b, a.tmps.getD d undef = .bool b → Region.wanted o (yielded ops.toArray a.tmps) = (b == want) := by
     intro b hb
     have hlt : a.tmps[d]? = some (.bool b) := by
      cases hx : a.tmps[d]? with
      | none =>
       have : a.tmps.getD d undef = undef := by simp [hx]
       rw [this] at hb
       cases hb
      | some v =>
       have : a.tmps.getD d undef = v := by simp [hx]
       rw [this] at hb
       rw [hb]
     simp [Region.wanted, hg, yielded, hj, hd, hlt]
    by_cases hu : τ d = .tup []
    ·have hr := ht d
     rw [hu] at hr h
     refine .inr ⟨?_, h⟩
     have hv : ∀ b, a.tmps.getD d undef ≠ .bool b := by
      intro b hb
      rw [hb] at hr
      cases hr with
      | c hf _ => cases hf
     cases hx : a.tmps[d]? with
     | none => simp [Region.wanted, hg, yielded, hj, hd, hx]
     | some v =>
      have e : a.tmps.getD d undef = v := by simp [hx]
      cases v with
      | bool b => exact absurd e (hv b)
      | _ => simp [Region.wanted, hg, yielded, hj, hd, hx]
    rw [gdV_ne hu] at h
    cases want with
    | true =>
     simp only [cond_true] at h
     obtain ⟨b, hb, h1, h2⟩ := brV_sound (ht d) h
     cases b with
     | true => exact .inl ⟨by rw [key true hb]; rfl, h1 rfl⟩
     | false => exact .inr ⟨by rw [key false hb]; rfl, h2 rfl⟩
    | false =>
     simp only [cond_false] at h
     obtain ⟨b, hb, h1, h2⟩ := brV_sound (ht d) h
     cases b with
     | true => exact .inr ⟨by rw [key true hb]; rfl, h1 rfl⟩
     | false => exact .inl ⟨by rw [key false hb]; rfl, h2 rfl⟩
   ·exact h.elim
  ·exact h.elim
theorem normG_sound {ops : List Oper} {o : Oper} {ps : PS} {K : PS → Prop} (h : Sim w0 S0 K0 N (lookT ps.tmps) ps.objs a w S β) (hs : normG ops o ps K) : ∃ ps', K ps' ∧ Sim w0 S0 K0 N (lookT ps'.tmps) ps'.objs a w S β := by
 unfold normG at hs
 cases hg : isG ops o with
 | false => simp only [hg, cond_false] at hs; exact ⟨ps, hs, h⟩
 | true =>
  simp only [hg, cond_true] at hs
  split at hs
  ·rename_i d hd
   have hr := h.tmp d
   split at hs
   ·rename_i b hb
    rw [hb] at hr
    cases hv : b () with
    | true => exact ⟨_, hs.t hv, h.setT (hr.le .tt (by simpa [Le] using hv))⟩
    | false => exact ⟨_, hs.f hv, h.setT (hr.le .ff (by simpa [Le] using hv))⟩
   ·rename_i b hb
    rw [hb] at hr
    cases hv : b () with
    | true => exact ⟨_, hs.t hv, h.setT (hr.le .ff (by simpa [Le] using hv))⟩
    | false => exact ⟨_, hs.f hv, h.setT (hr.le .tt (by simpa [Le] using hv))⟩
   ·exact ⟨ps, hs, h⟩
  ·exact ⟨ps, hs, h⟩
def dstOk (N : Nat) (o : Oper) : Bool :=
 match o.dst with
 | none => true
 | some d => decide (d < N)
theorem dstOk_lt {o : Oper} (h : dstOk N o = true) : ∀ t, o.dst = some t → t < N := by
 intro t ht
 simpa [dstOk, ht] using h
theorem opsWp_sound {ops : List Oper} {Q : Exit → Act → World → Prop} {K : PS → Prop} (hk : ∀ ps' a' w' S' β', K ps' → Sim w0 S0 K0 N (lookT ps'.tmps) ps'.objs a' w' S' β' → Q .normal a' w') :
  ∀ (l : List Oper) {ps : PS} {a : Act} {w : World} {S : Nat → Nat → Prop} {β : Nat → Option Nat}, (∀ o, o ∈ l → dstOk N o = true) → Sim w0 S0 K0 N (lookT ps.tmps) ps.objs a w S β → opsWp ops l ps K → wpList Pg ops.toArray Q l a w
 | [], ps, a, w, S, β, _, h, hs => hk _ _ _ _ _ hs h
 | o :: r, ps, a, w, S, β, hd, h, hs => by
  simp only [opsWp] at hs
  simp only [wpList]
  have hdo := dstOk_lt (hd o List.mem_cons_self)
  rcases guardK_sound h.tmp hs with ⟨hw, hA⟩ | ⟨hw, hB⟩
  ·rw [if_pos hw]
   exact .inl (opWp_sound h hA hdo fun ps' a' w' S' β' hK hsim => by
    obtain ⟨ps'', hK', hsim'⟩ := normG_sound hsim hK
    exact opsWp_sound hk r (fun o ho => hd o (List.mem_cons_of_mem _ ho)) hsim' hK')
  ·rw [if_neg (by rw [hw]; simp)]
   exact opsWp_sound hk r (fun o ho => hd o (List.mem_cons_of_mem _ ho)) (sim_putPS h o.dst hdo (rep_und _ _ _)) hB
end
end Go.Proofs.YtcanljninhfmhaaGreat
