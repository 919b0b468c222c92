/- A part of the proof: PmI. -/
import Derived.Test.YtcanljninhfmhaaGreatS06
set_option linter.all false
namespace Go.Proofs.YtcanljninhfmhaaGreat
open Go
set_option linter.unusedVariables false
set_option linter.unusedSimpArgs false
section
variable {w : World} {S : Nat → Nat → Prop} {β : Nat → Option Nat}
theorem optI_sound {ρ : Operand → Value} {e : Operand → PV} (he : ∀ x, Rep w S β (ρ x) (e x)) {d l : Unit → Int} {o : Option Operand} (h : optI e d o = some l) :
  (o = none ∧ l = d) ∨ ∃ x k, o = some x ∧ ρ x = .int k (l ()) := by
 unfold optI at h
 split at h
 ·cases h; exact .inl ⟨rfl, rfl⟩
 ·rename_i x
  split at h
  ·rename_i k n hx
   cases h
   refine .inr ⟨x, k, rfl, ?_⟩
   have := he x
   rw [hx] at this
   exact rep_int this
  ·cases h
theorem run_slice_gen {t el : Nat} {j : TypeInfo} (hu : Pg.underlying t = some (.slice el)) (hj : Pg.info? el = some j) {ρ : Operand → Value} {a : Option Addr} {len cap : Nat} (hlc : len ≤ cap) {lo hi : Option Operand} {l h : Int}
  (h0 : 0 ≤ l) (h1 : l ≤ h) (h2 : h ≤ (len : Int)) (hl : (lo = none ∧ l = 0) ∨ ∃ x k, lo = some x ∧ ρ x = .int k l) (hh : (hi = none ∧ h = len) ∨ ∃ x k, hi = some x ∧ ρ x = .int k h) :
  (Instr.sliceAt t (.slice a len cap) (lo.map ρ) (hi.map ρ) ((none : Option Operand).map ρ)).run Pg w = .ok (.slice (if cap = l.toNat then a else a.map (·.add (l.toNat * j.size))) (h.toNat - l.toNat) (cap - l.toNat)) w := by
 have he : (h.toNat : Int) = h := Int.toNat_of_nonneg (by omega)
 have hc : h ≤ (cap : Int) := by omega
 have h0' : 0 ≤ h := by omega
 have e1 : Pg.elem t = el := by simp [Program.elem, hu]
 simp only [Option.map_none, run_sliceAt_any hu]
 rcases hl with ⟨rfl, rfl⟩ | ⟨x, k, rfl, hx⟩ <;> rcases hh with ⟨rfl, rfl⟩ | ⟨y, k', rfl, hy⟩
 ·simp [Instr.slice, run_underlying hu, Instr.sliceBounds, run_size hj]
 ·simp [Instr.slice, run_underlying hu, Instr.sliceBounds, run_sliceBound, run_size hj, hy, h0', hc]
 ·simp [Instr.slice, run_underlying hu, Instr.sliceBounds, run_sliceBound, run_size hj, hx, h0, h1]
 ·simp [Instr.slice, run_underlying hu, Instr.sliceBounds, run_sliceBound, run_size hj, hx, hy, h0, h0', hc, he, h1]
theorem drop_getD (els : List (List D)) (l h i : Nat) (hi : i < h - l) (hh : h ≤ els.length) : ((els.take h).drop l).getD i [] = els.getD (l + i) [] := by
 simp only [List.getD_eq_getElem?_getD]
 rw [List.getElem?_drop, List.getElem?_take_of_lt (by omega)]
theorem slice_repD {els : List (List D)} {v : Value} (hr : RepD w S v (.sl els)) {n : Nat} (hw : ∀ e, e ∈ els → e.length = n) {l h : Nat} (h1 : l ≤ h) (h2 : h ≤ els.length) :
  ∃ a cap, v = .slice a els.length cap ∧ els.length ≤ cap ∧ RepD w S (.slice (if cap = l then a else a.map (·.add (l * n))) (h - l) (cap - l)) (.sl ((els.take h).drop l)) := by
 rcases repD_sl hr with ⟨rfl, a, cap, rfl⟩ | ⟨b, o, cap, s, vals, hne, hcap, hS, hs, hc, hrr, hone, rfl⟩
 ·have e1 : h = 0 := by simpa using h2
  have e2 : l = 0 := by omega
  subst e1 e2
  exact ⟨a, cap, rfl, Nat.zero_le _, by simpa using RepD.sl0 _ _⟩
 ·refine ⟨_, cap, rfl, hcap, ?_⟩
  by_cases hlt : l < h
  ·have hsn : s = n := by
    cases els with
    | nil => exact absurd rfl hne
    | cons x r => rw [← hs x (by simp), hw x (by simp)]
   subst hsn
   have hcl : ¬ cap = l := by omega
   simp only [hcl, if_false, Option.map_some, addr_add]
   have hlen : ((els.take h).drop l).length = h - l := by simp; omega
   have key := RepD.sl (w := w) (S := S) (b := b) (o := o + l * s) (cap := cap - l) (s := s) (els := (els.take h).drop l) (fun i j => vals (l + i) j)
    (by intro e; rw [e] at hlen; simp at hlen; omega) (by rw [hlen]; omega) (fun i j hi hj => by
     rw [hlen] at hi
     have := hS (l + i) j (by omega) hj
     rw [Nat.add_mul] at this
     rw [show o + l * s + i * s + j = o + (l * s + i * s) + j by omega]
     exact this)
    (fun e he => hs e (List.mem_of_mem_take (List.mem_of_mem_drop he)))
    (fun i j hi hj => by
     rw [hlen] at hi
     have := hc (l + i) j (by omega) hj
     rw [← this, Nat.add_mul]; congr 2; omega)
    (fun i j hi hj => by rw [hlen] at hi; exact hone (l + i) j (by omega) hj)
    (fun i j hi hj => by
     rw [hlen] at hi
     rw [drop_getD els l h i hi h2]
     exact hrr (l + i) j (by omega) hj)
   rw [hlen] at key
   exact key
  ·have e : l = h := by omega
   subst e
   have : (els.take l).drop l = [] := by simp
   rw [this, Nat.sub_self]
   exact .sl0 _ _
theorem idx_rep {els : List (List D)} {v : Value} (hr : RepD w S v (.sl els)) {k : Nat} {n : Nat} {c : List PV} (hn : 0 < n) (hf : allL flat c = true) (hcl : c.length = n) (hk : els[k]? = some (mapD c)) :
  ∃ b o cap, v = .slice (some ⟨b, o, none⟩) els.length cap ∧ k < els.length ∧ Rep w S β (.pointer (some ⟨b, o + k * n, none⟩)) (.dptr c 0) := by
 have hlt : k < els.length := by
  rcases Nat.lt_or_ge k els.length with h | h
  ·exact h
  ·rw [List.getElem?_eq_none h] at hk; cases hk
 rcases repD_sl hr with ⟨rfl, a, cap, rfl⟩ | ⟨b, o, cap, s, vals, hne, hcap, hS, hs, hc, hrr, hone, rfl⟩
 ·simp at hlt
 ·have hg : els.getD k [] = mapD c := by rw [List.getD_eq_getElem?_getD, hk]; rfl
  have hsn : s = n := by
   have hm : mapD c ∈ els := List.mem_of_getElem? hk
   rw [← hs _ hm, mapD_length, hcl]
  subst hsn
  refine ⟨b, o, cap, rfl, hlt, .dptr (o := o + k * s) (off := 0) (fun j => vals k j) (fun j hj => hS k j hlt (by omega)) hf (fun j hj => ?_) (fun j hj => ?_)⟩
  ·exact hc k j hlt (by omega)
  ·have := hrr k j hlt (by omega)
   rw [hg, mapD_getD] at this
   exact this
end
section
variable {w0 : World} {S0 : Nat → Nat → Prop} {K0 : Nat → Prop} {N : Cx} {τ : Nat → PV} {objs : List (Nat × Obj')} {a : Act} {w : World} {S : Nat → Nat → Prop} {β : Nat → Option Nat}
theorem obj_box (h : Sim w0 S0 K0 N τ objs a w S β) {n : Nat} {cs : List PV} (ho : getO objs n = some (.box cs)) :
  ∃ (b : Nat) (vs : Array Value) (T : TypeId), β n = some b ∧ w.heap[b]? = some (.cells vs T (0, 0)) ∧ vs.size = cs.length ∧ ∀ j, j < cs.length → Rep w S β (vs.getD j undef) (cs.getD j .any) :=
 h.obj.at_ n _ (getO_mem ho)
theorem cell_at {b : Nat} {vs : Array Value} {T : TypeId} {fz : Nat × Nat} (hb : w.heap[b]? = some (.cells vs T fz)) (j : Nat) (hj : j < vs.size) : w.cell? ⟨b, j, none⟩ = some (vs.getD j undef) := by
 simp only [World.cell?, hb]
 simp [hj]
theorem ty_und {t : Nat} (h : (ty t).isNo = false) : ∃ d, Pg.underlying t = some d := by
 obtain ⟨i, d, _, h2, _⟩ := ty_load h
 exact ⟨d, h2⟩
theorem evs_rep {ρ : Operand → Value} {e : Operand → PV} (he : ∀ x, Rep w S β (ρ x) (e x)) : ∀ (l : List Operand), RepL w S β (l.map ρ).toArray (evs e l)
 | [] => ⟨rfl, fun j hj => by simp [evs] at hj⟩
 | o :: r => by
  obtain ⟨h1, h2⟩ := evs_rep he r
  refine ⟨by simpa [evs] using h1, fun j hj => ?_⟩
  cases j with
  | zero => simpa [evs] using he o
  | succ j => simpa [evs] using h2 j (by simpa [evs] using hj)
theorem RepL.append {vs us : Array Value} {cs ds : List PV} (h : RepL w S β vs cs) (k : RepL w S β us ds) : RepL w S β (vs ++ us) (cs ++ ds) := by
 refine ⟨by simp [h.1, k.1], fun j hj => ?_⟩
 by_cases hlt : j < cs.length
 ·have := h.2 j hlt
  rw [List.getD_eq_getElem?_getD, List.getElem?_append_left hlt, ← List.getD_eq_getElem?_getD]
  have hv : j < vs.size := by rw [h.1]; exact hlt
  simpa [Array.getElem?_append_left hv] using this
 ·have h2 := k.2 (j - cs.length) (by simp at hj; omega)
  rw [List.getD_eq_getElem?_getD, List.getElem?_append_right (by omega), ← List.getD_eq_getElem?_getD]
  have hv : vs.size ≤ j := by rw [h.1]; omega
  rw [← h.1] at h2 ⊢
  simpa [Array.getElem?_append_right hv] using h2
theorem RepL.le {vs : Array Value} {cs ds : List PV} (h : RepL w S β vs cs) (k : LeL cs ds) : RepL w S β vs ds :=
 ⟨h.1.trans (LeL_length k), fun j hj => (h.2 j (by rw [LeL_length k]; exact hj)).le _ (LeL_getD k j hj)⟩
theorem noObjs : ObjsAt w S β ([] ++ []) := ⟨by exact List.nodup_nil, fun n o h => by simp at h, fun n o b h => by simp at h, fun n o m o' b h => by simp at h⟩
theorem run_call_value {o : Oper} {c : Call} {f : Operand} (hop : o.op = .call c) (hc : c.callee = .value f) {ρ : Operand → Value} {g : FuncId} {vs : Array Value} (hf : ρ f = .func (.func g) #[] vs) (isf : ∀ (vals : Array Value) (w : World), (callFunc g vals).run Pg w = .ok (.enter g vals) w) :
  (execOp ρ o).run Pg w = .ok (.enter g ((c.args.toList.map ρ).toArray ++ vs)) w := by
 have : c.args.map ρ = (c.args.toList.map ρ).toArray := Array.ext' (by simp)
 simp only [execOp, hop, resolve, hc, hf, Deferred.ofValue, Sem.run_bind, Sem.run_pure, Result.andThen_ok, invoke, isf, this]
 simp
theorem callS_sound {o : Oper} {c : Call} {f : Operand} (hop : o.op = .call c) (hcl : c.callee = .value f) {K : PV → Prop} {Km : Act → World → Prop} {Q : Exit → Act → World → Prop} (h : Sim w0 S0 K0 N τ objs a w S β) {g : FuncId} {caps : List PV} (hf : ev τ f = .fn g caps)
  (hs : ∃ args' r, LeL (evs (ev τ) c.args.toList ++ caps) args' ∧ SoundS g args' r ∧ nmIn [] r = true ∧ K r)
  (hk : ∀ pv w' S' v, K pv → Leads w S nobody w' S' → Rep w' S' β v pv → Km (a.put o.dst v) w') : o.wp Pg a w Km Q := by
 obtain ⟨args', r, hle, hso, hnm, hK⟩ := hs
 have hfr := h.eval f
 rw [hf] at hfr
 obtain ⟨vs, hv, hl, hr⟩ := rep_fn hfr
 have hargs := ((evs_rep (fun x => h.eval x) c.args.toList).append ⟨hl, hr⟩).le hle
 unfold Oper.wp
 rw [run_call_value hop hcl hv hso.isf, Oper.upon_enter]
 refine (hso.go w S β _ h.ld.bnd noObjs hargs.1 hargs.2).mono ?_
 rintro e w' ⟨v, S', β', rfl, hld, hrep, _⟩
 have hld' : Leads w S nobody w' S' := ⟨hld.size, hld.os, hld.tape, hld.output, fun b hb _ => hld.same b hb (by rintro ⟨n, o, hm, _⟩; simp at hm), hld.shape, hld.bnd, hld.sub, fun b i hb _ => hld.old b i hb (by rintro ⟨n, o, hm, _⟩; simp at hm)⟩
 exact hk r w' S' v hK hld' (hrep.nmIn (by simp) hnm)
end
end Go.Proofs.YtcanljninhfmhaaGreat
