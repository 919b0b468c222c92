/- LAWS: a function whose contract says 'true, nothing written' keeps a law's statement: it returns true and each argument reads as before. -/
import Derived.Test.YtbehbhicjmjdhaaGreatQ40
import Derived.Test.YtbehbhicjmjdhaaGreatQ28
import Derived.ProofKit
import Derived.OpenShut
import Derived.ReadAgain
import Derived.ChangeStays

namespace Go.Proofs.YtbehbhicjmjdhaaGreat
open Go Go.ChangeShapes Go.WideShapes Go.ChangeAt Go.RowKit
set_option linter.unusedVariables false
set_option maxRecDepth 100000

theorem own : ownKnob Tryz.prog.godebug = none := by kernel_rfl
theorem kids : Kids Tryz.prog (· < Tryz.prog.types.size) := kids_rows (by kernel_rfl) (by kernel_rfl)
theorem full : ∀ t e, t < Tryz.prog.types.size → Tryz.prog.underlying t = some (.slice e) → 0 < Tryz.prog.cellsOf e := slices_full_of _ (by kernel_rfl)
theorem trodAll_again {H : Type} {enc : TypeId × Value → H} {W W' : World} {sp : Nat → Bool} : ∀ {ts : List TypeId} {vs : List Value} {ds : List (DataW H)} {ps : List MemPlace}, (∀ t ∈ ts, t < Tryz.prog.types.size) →
    DataW.TrodAll enc Tryz.prog W 0 (fun _ => true) true ts vs ds ps → (∀ p ∈ ps, W.sameAt W' p) → (∀ p ∈ ps, sp p.block = true) → DataW.TrodAll enc Tryz.prog W' 0 sp true ts vs ds ps
  | [], [], [], _, _, h, _, _ => h
  | _ :: _, _ :: _, _ :: _, _, hT, ⟨p, q, ⟨n, h1⟩, h2, e⟩, hs, hb => by
    subst e
    refine ⟨p, q, ⟨n, ?_⟩, trodAll_again (fun t ht => hT t (List.mem_cons_of_mem _ ht)) h2 (fun x hx => hs x (List.mem_append_right _ hx)) (fun x hx => hb x (List.mem_append_right _ hx)), rfl⟩
    exact DataW.trod_respare kids full n _ _ _ (hT _ List.mem_cons_self) (DataW.trod_carry n _ _ _ h1 (fun x hx => hs x (List.mem_append_left _ hx))) (fun x hx => hb x (List.mem_append_left _ hx))
theorem same_keeps {W W' : World} (hs : W.heap.size ≤ W'.heap.size) (ho : W'.os = W.os) (hu : W'.output = W.output) (hb : ∀ b, b < W.heap.size → W'.heap[b]? = W.heap[b]?) (may : MemPlace → Prop) : W.keptBut W' may := by
  refine ⟨ho, hu, fun i hi => ?_⟩
  rw [hb i hi]
  have : W.heap[i]? = some W.heap[i] := by simp [hi]
  rw [this]
  cases W.heap[i] with
  | cells c t fr => exact ⟨rfl, rfl, rfl, fun _ _ => rfl⟩
  | map es clock => exact .inr ⟨rfl, rfl⟩
  | _ => rfl
theorem law_post {s : ChangeSpec} {fn : Func} {H : Type} {enc : TypeId × Value → H} {W : World} {args : Array Value} {ds gs : List (DataW H)} {before : List MemPlace} {fresh handsOn again : Bool}
    (hv : s.vars = []) (hres : fn.resultTypes = #[4]) (hsp : s.fn H ds = { results := [.lit (.bool true)], args := ds }) (hp : ∀ t ∈ fn.params.toList, t < Tryz.prog.types.size)
    (hW : DataW.Whole enc Tryz.prog fn.params.toList s.vars false W args.toList ds gs before)
    {f : FuncId} {pvs : List PV} (hS : SoundS f pvs (.bool (fun _ => true))) (hn : args.size = pvs.length) (hrep : ∀ j, j < pvs.length → Rep W (InW W) (fun _ => none) (args.getD j undef) (pvs.getD j .any)) :
    Calls Tryz.prog f args W fun e W' => ∃ v, e = .returned v ∧ s.post enc Tryz.prog fn false fresh handsOn again W args v W' := by
  have hgo := hS.go W (InW W) (fun _ => none) args (fun b h => h) noObjs hn hrep
  rw [Pg_eq] at hgo
  refine hgo.mono fun e W' ⟨v, S', β', he, hl, hr, _⟩ => ?_
  subst he
  have hvt : v = .bool true := by
    cases hr with
    | c hf h => cases h; rfl
  subst hvt
  refine ⟨_, rfl, ?_⟩
  have hsame : ∀ b, b < W.heap.size → W'.heap[b]? = W.heap[b]? := fun b hb => hl.same b hb (fun ⟨n, o, h, _⟩ => by simp at h)
  have hlt := hW.lt
  have hW0 := hW
  obtain ⟨p, q, hA, hV, rfl, hfz, hnd⟩ := hW
  rw [hv] at hV
  obtain ⟨rfl, rfl⟩ := trodVars_none hV
  rw [List.append_nil] at hlt hfz hW0
  have hat : ∀ x ∈ p, W.sameAt W' x := fun x hx => by
    have := hlt x hx
    cases x with
    | cell b o => show W'.cell? _ = W.cell? _; unfold World.cell?; rw [hsame b this]
    | map b => exact hsame b this
  have hargs : ∀ sp : Nat → Bool, (∀ x ∈ p, sp x.block = true) → DataW.TrodAll enc Tryz.prog W' 0 sp true fn.params.toList args.toList ds p := fun sp h => trodAll_again hp hA hat h
  have hold : ∀ x ∈ p, (fun b => decide (b < W.heap.size)) x.block = true := fun x hx => by simpa using hlt x hx
  have hrs : ∀ (b : Nat) (sp : Nat → Bool) (hd : Bool), DataW.TrodAll enc Tryz.prog W' b sp hd fn.resultTypes.toList ((Value.bool true).resultList fn.resultTypes.size) [.lit (.bool true)] [] := fun b sp hd => by
    rw [hres]
    exact ⟨[], [], shut_bool Tryz.underlying4 true, rfl, rfl⟩
  have hfz' : W'.noneFrozen p := fun b o h => by
    have g := hfz b o h
    have hb : b < W.heap.size := hlt _ h
    unfold World.frozen? at g ⊢
    rw [hsame b hb]
    exact g
  refine ⟨ds, [], p, [], p, [], hW0, ?_, ?_, ?_, ?_, fun _ => ⟨?_, ds.cons (.lit (.bool true)), [], p, ⟨p, [], ?_, ?_, by simp, hfz', fun h => by cases h⟩, fun x hx _ => hx⟩⟩
  · rw [List.append_nil, hsp]; exact hrs _ _ _
  · rw [List.append_nil, hsp]; exact hargs _ hold
  · rw [List.append_nil, hsp, hv]; rfl
  · exact same_keeps hl.size hl.os hl.output hsame _
  · exact ok_one hres rfl (okWide_bool_mk Tryz.underlying4 _)
  · exact trodAll_append (hargs _ (fun _ _ => rfl)) (hrs _ _ _)
  · rw [hv]; rfl
end Go.Proofs.YtbehbhicjmjdhaaGreat
