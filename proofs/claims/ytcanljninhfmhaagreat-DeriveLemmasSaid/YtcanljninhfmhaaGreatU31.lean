/- A part of the proof: BrA, BrB, SpA, SpB, SpC, SpD. -/
import Derived.Test.YtcanljninhfmhaaGreatU24
import Derived.Test.YtcanljninhfmhaaGreatRows
import Derived.Deep.Slices
import Derived.Deep.Strs
import Derived.Lib.SmallJoins
import Derived.KernelRfl
import Derived.ProofKit
import Derived.OpenShut
import Derived.ReadAgain
import Derived.ChangeStays
import Derived.Test.YtcanljninhfmhaaGreatU29
import Derived.Test.YtcanljninhfmhaaGreatU23
import Derived.Test.YtcanljninhfmhaaGreatU30
set_option linter.all false
namespace Go.Proofs.YtcanljninhfmhaaGreat
open Go
set_option maxRecDepth 100000
abbrev InW (w : World) (b i : Nat) : Prop := b < w.heap.size
def Cs (w : World) : List Value → List D → Prop
 | [], [] => True
 | v :: vs, d :: ds => (RepD w (InW w) v d ∧ v.oneCell' = true) ∧ Cs w vs ds
 | _, _ => False
theorem Cs.app {w} : ∀ {a x b y}, Cs w a x → Cs w b y → Cs w (a ++ b) (x ++ y)
 | [], [], _, _, _, h => h
 | _ :: _, _ :: _, _, _, h, g => ⟨h.1, Cs.app h.2 g⟩
theorem Cs.len {w} : ∀ {a x}, Cs w a x → a.length = x.length
 | [], [], _ => rfl
 | _ :: _, _ :: _, h => by simp [Cs.len h.2]
theorem Cs.get {w} : ∀ {a x}, Cs w a x → ∀ j, j < x.length → RepD w (InW w) (a.getD j undef) (x.getD j .any) ∧ (a.getD j undef).oneCell' = true
 | [], [], _, j, hj => absurd hj (by simp)
 | _ :: _, _ :: _, h, 0, _ => h.1
 | _ :: _, _ :: _, h, j + 1, hj => by simpa using Cs.get h.2 j (by simpa using hj)
theorem fE : ∀ (a b : List PV), xF (a ++ b) = xF a ++ xF b
 | [], _ => rfl
 | _ :: a, b => by simp [xF, fE a b]
structure ElR (w : World) (t : TypeId) (k : Nat) {α : Type} (G : α → Prop) (p : α → List PV) : Prop where
 sz : Tryz.prog.cellsOf t = k
 rd : ∀ {H : Type} {enc : TypeId × Value → H} {sp : Nat → Bool} {n : Nat} {cs : List Value} {x : DataW H × List MemPlace}, DataW.trod enc Tryz.prog w 0 sp true n t cs = some x → ∃ a, G a ∧ Cs w cs (xF (p a))
theorem ElR.map {w t k} {α β : Type} {G : α → Prop} {p : α → List PV} {G' : β → Prop} {p' : β → List PV} (h : ElR w t k G p) (f : α → β) (hp : ∀ a, G a → xF (p' (f a)) = xF (p a)) (hG : ∀ a, G a → G' (f a)) : ElR w t k G' p' :=
 ⟨h.sz, fun hx => by
  obtain ⟨a, h1, h2⟩ := h.rd hx
  exact ⟨f a, hG a h1, by rw [hp a h1]; exact h2⟩⟩
theorem elInt {w t} {k : IntKind} (ht : Tryz.prog.underlying t = some (.int k)) (hs : Tryz.prog.cellsOf t = 1) : ElR w t 1 (fun n => (Lit.int k n).wf = true) (fun n => [.int k (fun _ => n)]) :=
 ⟨hs, fun {H enc sp n cs x} hx => by
  cases n with
  | zero => simp [DataW.trod] at hx
  | succ n =>
   unfold DataW.trod at hx
   rw [ht] at hx
   split at hx <;> simp_all
   obtain ⟨⟨rfl, h2⟩, _⟩ := hx
   exact ⟨_, h2, ⟨.int _ _, rfl⟩, trivial⟩⟩
theorem elBool {w t} (ht : Tryz.prog.underlying t = some .bool) (hs : Tryz.prog.cellsOf t = 1) : ElR w t 1 (fun _ => True) (fun b => [.bool (fun _ => b)]) :=
 ⟨hs, fun {H enc sp n cs x} hx => by
  cases n with
  | zero => simp [DataW.trod] at hx
  | succ n =>
   unfold DataW.trod at hx
   rw [ht] at hx
   split at hx
   ·exact ⟨_, trivial, ⟨.bool _, rfl⟩, trivial⟩
   all_goals simp_all⟩
theorem add_at {b o n : Nat} : (⟨b, o, none⟩ : Addr).add n = ⟨b, o + n, none⟩ := by
 unfold Addr.add
 split
 ·rename_i h; rw [h]; rfl
 ·rfl
theorem lG {w t e k} {α : Type} {G : α → Prop} {p : α → List PV} (ht : Tryz.prog.underlying t = some (.slice e)) (hs : Tryz.prog.cellsOf t = 1) (hk : 0 < k) (he : ElR w e k G p) :
  ElR w t 1 (fun l : List α => (∀ a, a ∈ l → G a) ∧ l.length ≤ maxLen) (fun l => [.sl (fun _ => enc p l)]) :=
 ⟨hs, fun {H enc' sp n cs x} hx => by
  rcases Go.Deep.open_slice ht hx with ⟨rfl, _⟩ | ⟨a, len, cap, m, n', D, Pl, rfl, hb, hl, hm, hmm, _, hi⟩
  ·exact ⟨[], ⟨fun _ h => absurd h (by simp), Nat.zero_le _⟩, ⟨.sl0 _ _, rfl⟩, trivial⟩
  have hlm : len ≤ m := by rw [hmm]; split <;> omega
  rcases Nat.eq_zero_or_pos len with h0 | h0
  ·subst h0
   exact ⟨[], ⟨fun _ h => absurd h (by simp), Nat.zero_le _⟩, ⟨.sl0 _ _, rfl⟩, trivial⟩
  rw [he.sz] at hi
  have key : ∀ i, i < len → ∃ y : List Value × α, w.cells? 0 (a.add (i * k)) k = some y.1 ∧ G y.2 ∧ Cs w y.1 (xF (p y.2)) := fun i hil => by
   obtain ⟨cs', h1, h2⟩ := hi i (by omega)
   obtain ⟨y, g1, g2⟩ := he.rd h2
   exact ⟨(cs', y), h1, g1, g2⟩
  haveI : Inhabited (List Value × α) := ⟨Classical.choose (key 0 h0)⟩
  obtain ⟨Y, hY⟩ := Go.Deep.choose_lt key
  have hcell : ∀ i j, i < len → j < k → w.cell? (a.add (i * k + j)) = some ((Y i).1.getD j undef) := fun i j hi' hj => by
   obtain ⟨h1, _, _⟩ := hY i hi'
   obtain ⟨_, h2, h3⟩ := World.cells?_some h1
   have := h3 j hj
   rw [Go.Deep.add_add] at this
   rw [this, List.getD_eq_getElem?_getD]
   have : j < (Y i).1.length := by omega
   simp [this]
  obtain ⟨b, o, sp'⟩ := a
  have hsp : sp' = none := by
   have := hcell 0 0 h0 hk
   unfold World.cell? at this
   split at this
   ·cases sp' with
    | none => rfl
    | some s => simp [Addr.add] at this
   ·cases this
  subst hsp
  have hS : b < w.heap.size := World.cells?_block (a := ⟨b, o, none⟩) (by
   have := (hY 0 h0).1
   rw [Nat.zero_mul] at this
   exact this) hk
  have hlen : ((List.range len).map fun i => (Y i).2).length = len := by simp
  have hel : ∀ i, i < len → (enc p ((List.range len).map fun i => (Y i).2)).getD i [] = xF (p (Y i).2) := fun i hi' => by
   simp [Go.Proofs.YtcanljninhfmhaaGreat.enc, hi']
  refine ⟨(List.range len).map fun i => (Y i).2, ⟨fun z hz => ?_, by rw [hlen]; omega⟩, ⟨?_, rfl⟩, trivial⟩
  ·obtain ⟨i, hi', rfl⟩ := List.mem_map.1 hz
   exact (hY i (List.mem_range.1 hi')).2.1
  have hel2 : (enc p ((List.range len).map fun i => (Y i).2)).length = len := by rw [zA, hlen]
  have hk' : ∀ i, i < len → (xF (p (Y i).2)).length = k := fun i hi' => by
   obtain ⟨h1, _, h3⟩ := hY i hi'
   obtain ⟨_, h2, _⟩ := World.cells?_some h1
   rw [← h3.len]
   exact h2
  have := RepD.sl (w := w) (S := InW w) (b := b) (o := o) (cap := cap) (s := k) (els := enc p ((List.range len).map fun i => (Y i).2)) (fun i j => (Y i).1.getD j undef)
   (fun h => by rw [h] at hel2; simp at hel2; omega) (by rw [hel2]; exact hl) (fun _ _ _ _ => hS)
   (fun e' he' => by
    obtain ⟨z, hz, rfl⟩ := List.mem_map.1 he'
    obtain ⟨i, hi', rfl⟩ := List.mem_map.1 hz
    exact hk' i (List.mem_range.1 hi'))
   (fun i j hi' hj => by
    rw [hel2] at hi'
    have := hcell i j hi' hj
    rw [add_at] at this
    rw [Nat.add_assoc]
    exact this)
   (fun i j hi' hj => by
    rw [hel2] at hi'
    exact ((hY i hi').2.2.get j (by rw [hk' i hi']; exact hj)).2)
   (fun i j hi' hj => by
    rw [hel2] at hi'
    rw [hel i hi']
    exact ((hY i hi').2.2.get j (by rw [hk' i hi']; exact hj)).1)
  rw [hel2] at this
  exact this⟩
theorem ElR.cut {w t k} {α : Type} {G : α → Prop} {p : α → List PV} (h : ElR w t k G p) {H : Type} {enc : TypeId × Value → H} {sp : Nat → Bool} {n o : Nat} {cs : List Value} {x : DataW H × List MemPlace}
  (hx : DataW.trod enc Tryz.prog w 0 sp true n t ((cs.drop o).take (Tryz.prog.cellsOf t)) = some x) : ∃ a, G a ∧ Cs w ((cs.drop o).take k) (xF (p a)) := by
 rw [h.sz] at hx
 exact h.rd hx
theorem elS2 {w t k0 k1} {f0 f1 : Field} {α0 α1 : Type} {G0 : α0 → Prop} {p0 : α0 → List PV} {G1 : α1 → Prop} {p1 : α1 → List PV} (ht : Tryz.prog.underlying t = some (.struct #[f0, f1])) (hs : Tryz.prog.cellsOf t = k0 + k1)
  (o0 : f0.offset = 0) (o1 : f1.offset = k0) (h0 : ElR w f0.type k0 G0 p0) (h1 : ElR w f1.type k1 G1 p1) : ElR w t (k0 + k1) (fun a : α0 × α1 => G0 a.1 ∧ G1 a.2) (fun a => p0 a.1 ++ p1 a.2) :=
 ⟨hs, fun hx => by
  obtain ⟨y0, y1, n, _, hl, g0, g1⟩ := Go.ChangeShapes.trod_struct2 ht hx
  obtain ⟨a0, u0, v0⟩ := h0.cut g0
  obtain ⟨a1, u1, v1⟩ := h1.cut g1
  rw [o0, List.drop_zero] at v0
  rw [o1, List.take_of_length_le (by rw [List.length_drop, hl, hs]; omega)] at v1
  have := v0.app v1
  rw [List.take_append_drop] at this
  exact ⟨(a0, a1), ⟨u0, u1⟩, by rw [fE]; exact this⟩⟩
theorem elS3 {w t k0 k1 k2} {f0 f1 f2 : Field} {α0 α1 α2 : Type} {G0 : α0 → Prop} {p0 : α0 → List PV} {G1 : α1 → Prop} {p1 : α1 → List PV} {G2 : α2 → Prop} {p2 : α2 → List PV} (ht : Tryz.prog.underlying t = some (.struct #[f0, f1, f2])) (hs : Tryz.prog.cellsOf t = k0 + (k1 + k2))
  (o0 : f0.offset = 0) (o1 : f1.offset = k0) (o2 : f2.offset = k0 + k1) (h0 : ElR w f0.type k0 G0 p0) (h1 : ElR w f1.type k1 G1 p1) (h2 : ElR w f2.type k2 G2 p2) :
  ElR w t (k0 + (k1 + k2)) (fun a : α0 × α1 × α2 => G0 a.1 ∧ G1 a.2.1 ∧ G2 a.2.2) (fun a => p0 a.1 ++ (p1 a.2.1 ++ p2 a.2.2)) :=
 ⟨hs, fun {H enc sp m cs x} hx => by
  obtain ⟨y0, y1, y2, n, _, hl, g0, g1, g2⟩ := Go.Deep.trod_struct3 ht hx
  obtain ⟨a0, u0, v0⟩ := h0.cut g0
  obtain ⟨a1, u1, v1⟩ := h1.cut g1
  obtain ⟨a2, u2, v2⟩ := h2.cut g2
  rw [o0, List.drop_zero] at v0
  rw [o1] at v1
  rw [o2, List.take_of_length_le (by rw [List.length_drop, hl, hs]; omega)] at v2
  rw [← List.drop_drop] at v2
  have e1 := v1.app v2
  rw [List.take_append_drop] at e1
  have := v0.app e1
  rw [List.take_append_drop] at this
  exact ⟨(a0, a1, a2), ⟨u0, u1, u2⟩, by rw [fE, fE]; exact this⟩⟩
theorem elS4 {w t k0 k1 k2 k3} {f0 f1 f2 f3 : Field} {α0 α1 α2 α3 : Type} {G0 : α0 → Prop} {p0 : α0 → List PV} {G1 : α1 → Prop} {p1 : α1 → List PV} {G2 : α2 → Prop} {p2 : α2 → List PV} {G3 : α3 → Prop} {p3 : α3 → List PV} (ht : Tryz.prog.underlying t = some (.struct #[f0, f1, f2, f3])) (hs : Tryz.prog.cellsOf t = k0 + (k1 + (k2 + k3)))
  (o0 : f0.offset = 0) (o1 : f1.offset = k0) (o2 : f2.offset = k0 + k1) (o3 : f3.offset = k0 + k1 + k2) (h0 : ElR w f0.type k0 G0 p0) (h1 : ElR w f1.type k1 G1 p1) (h2 : ElR w f2.type k2 G2 p2) (h3 : ElR w f3.type k3 G3 p3) :
  ElR w t (k0 + (k1 + (k2 + k3))) (fun a : α0 × α1 × α2 × α3 => G0 a.1 ∧ G1 a.2.1 ∧ G2 a.2.2.1 ∧ G3 a.2.2.2) (fun a => p0 a.1 ++ (p1 a.2.1 ++ (p2 a.2.2.1 ++ p3 a.2.2.2))) :=
 ⟨hs, fun {H enc sp m cs x} hx => by
  obtain ⟨y0, y1, y2, y3, n, _, hl, g0, g1, g2, g3⟩ := Go.Joins.trod_struct4 ht hx
  obtain ⟨a0, u0, v0⟩ := h0.cut g0
  obtain ⟨a1, u1, v1⟩ := h1.cut g1
  obtain ⟨a2, u2, v2⟩ := h2.cut g2
  obtain ⟨a3, u3, v3⟩ := h3.cut g3
  rw [o0, List.drop_zero] at v0
  rw [o1] at v1
  rw [o2, ← List.drop_drop] at v2
  rw [o3, List.take_of_length_le (by rw [List.length_drop, hl, hs]; omega), ← List.drop_drop, ← List.drop_drop] at v3
  have e2 := v2.app v3
  rw [List.take_append_drop] at e2
  have e1 := v1.app e2
  rw [List.take_append_drop] at e1
  have := v0.app e1
  rw [List.take_append_drop] at this
  exact ⟨(a0, a1, a2, a3), ⟨u0, u1, u2, u3⟩, by rw [fE, fE, fE]; exact this⟩⟩
theorem rInt (w : World) : ElR w 3 1 (fun n => (Lit.int .i64 n).wf = true) (fun n => [.int .i64 (fun _ => n)]) := elInt Tryz.underlying3 (by kernel_rfl)
theorem rBool (w : World) : ElR w 4 1 (fun _ => True) (fun b => [.bool (fun _ => b)]) := elBool Tryz.underlying4 (by kernel_rfl)
theorem rU32 (w : World) : ElR w 152 1 (fun _ => True) (fun x : UInt32 => [.int .u32 (fun _ => (x.toNat : Int))]) :=
 (elInt (k := .u32) Tryz.underlying152 (by kernel_rfl)).map (fun n => UInt32.ofNat n.toNat) (fun n h => by
  have : 0 ≤ n ∧ n ≤ 4294967295 := by simpa [Lit.wf, IntKind.min, IntKind.max, IntKind.signed, IntKind.bits] using h
  have e : ((UInt32.ofNat n.toNat).toNat : Int) = n := by
   rw [UInt32.toNat_ofNat_of_lt' (by show n.toNat < 4294967296; omega)]
   omega
  show [D.int .u32 _] = [D.int .u32 _]
  rw [e]) (fun _ _ => trivial)
theorem rNat (w : World) : ElR w 34 1 (fun _ => True) (fun l => [nat l]) :=
 (lG (k := 1) Tryz.underlying34 (by kernel_rfl) (by decide) (rU32 w)).map (fun l => l) (fun l _ => rfl) (fun _ _ => trivial)
theorem rRat (w : World) : ElR w 36 3 (fun _ => True) (fun x : R => [.bool (fun _ => x.neg), nat x.num, nat x.den]) :=
 (elS3 (k0 := 1) (k1 := 1) (k2 := 1) Tryz.underlying36 (by kernel_rfl) rfl rfl rfl (rBool w) (rNat w) (rNat w)).map (fun a => ⟨a.1, a.2.1, a.2.2⟩) (fun _ _ => rfl) (fun _ _ => trivial)
theorem rRow (w : World) : ElR w 72 4 (fun _ => True) (fun r : Row => [.int .i64 (fun _ => r.k), .int .i64 (fun _ => r.i), .int .i64 (fun _ => r.lo), .int .i64 (fun _ => r.hi)]) :=
 (elS4 (k0 := 1) (k1 := 1) (k2 := 1) (k3 := 1) Tryz.underlying72 (by kernel_rfl) rfl rfl rfl rfl (rInt w) (rInt w) (rInt w) (rInt w)).map (fun a => ⟨a.1, a.2.1, a.2.2.1, a.2.2.2⟩) (fun _ _ => rfl) (fun _ _ => trivial)
theorem rMult (w : World) : ElR w 74 7 (fun _ => True) mc :=
 (elS2 (k0 := 4) (k1 := 3) Tryz.underlying74 (by kernel_rfl) rfl rfl (rRow w) (rRat w)).map (fun a => ⟨a.1, a.2⟩) (fun _ _ => rfl) (fun _ _ => trivial)
theorem rMults (w : World) : ElR w 23 1 (fun l => l.length ≤ maxLen) (fun l => [mlv l]) :=
 (lG (k := 7) Tryz.underlying23 (by kernel_rfl) (by decide) (rMult w)).map (fun l => l) (fun _ _ => rfl) (fun _ h => h.2)
end Go.Proofs.YtcanljninhfmhaaGreat
namespace Go.Proofs.YtcanljninhfmhaaGreat
open Go Go.ChangeShapes Go.WideShapes Go.ChangeAt Go.RowKit
set_option maxRecDepth 100000
theorem own : ownKnob Tryz.prog.godebug = none := by kernel_rfl
theorem kids : Kids Tryz.prog (· < Tryz.prog.types.size) := kids_rows (by kernel_rfl) (by kernel_rfl)
theorem full : ∀ t e, t < Tryz.prog.types.size → Tryz.prog.underlying t = some (.slice e) → 0 < Tryz.prog.cellsOf e := slices_full_of _ (by kernel_rfl)
theorem rM {H : Type} {enc : TypeId × Value → H} {W W' : World} {sp : Nat → Bool} : ∀ {ts : List TypeId} {vs : List Value} {ds : List (DataW H)} {ps : List MemPlace}, (∀ t ∈ ts, t < Tryz.prog.types.size) →
  DataW.TrodAll enc Tryz.prog W 0 (fun _ => true) true ts vs ds ps → (∀ p ∈ ps, W.sameAt W' p) → (∀ p ∈ ps, sp p.block = true) → DataW.TrodAll enc Tryz.prog W' 0 sp true ts vs ds ps
 | [], [], [], _, _, h, _, _ => h
 | _ :: _, _ :: _, _ :: _, _, hT, ⟨p, q, ⟨n, h1⟩, h2, e⟩, hs, hb => by
  subst e
  refine ⟨p, q, ⟨n, ?_⟩, rM (fun t ht => hT t (List.mem_cons_of_mem _ ht)) h2 (fun x hx => hs x (List.mem_append_right _ hx)) (fun x hx => hb x (List.mem_append_right _ hx)), rfl⟩
  exact DataW.trod_respare kids full n _ _ _ (hT _ List.mem_cons_self) (DataW.trod_carry n _ _ _ h1 (fun x hx => hs x (List.mem_append_left _ hx))) (fun x hx => hb x (List.mem_append_left _ hx))
theorem same_keeps {W W' : World} (hs : W.heap.size ≤ W'.heap.size) (ho : W'.os = W.os) (hu : W'.output = W.output) (hb : ∀ b, b < W.heap.size → W'.heap[b]? = W.heap[b]?) (may : MemPlace → Prop) : W.keptBut W' may := by
 refine ⟨ho, hu, fun i hi => ?_⟩
 rw [hb i hi]
 have : W.heap[i]? = some W.heap[i] := by simp [hi]
 rw [this]
 cases W.heap[i] with
 | cells c t fr => exact ⟨rfl, rfl, rfl, fun _ _ => rfl⟩
 | map es clock => exact .inr ⟨rfl, rfl⟩
 | _ => rfl
theorem tI {s : ChangeSpec} {fn : Func} {H : Type} {enc : TypeId × Value → H} {W : World} {args : Array Value} {ds gs : List (DataW H)} {before : List MemPlace} {fresh handsOn again : Bool}
  (hv : s.vars = []) (hres : fn.resultTypes = #[4]) (hsp : s.fn H ds = { results := [.lit (.bool true)], args := ds }) (hp : ∀ t ∈ fn.params.toList, t < Tryz.prog.types.size)
  (hW : DataW.Whole enc Tryz.prog fn.params.toList s.vars false W args.toList ds gs before)
  {f : FuncId} {pvs : List PV} (hS : zC f pvs (.bool (fun _ => true))) (hn : args.size = pvs.length) (hrep : ∀ j, j < pvs.length → Rep W (InW W) (fun _ => none) (args.getD j undef) (pvs.getD j .any)) :
  Calls Tryz.prog f args W fun e W' => ∃ v, e = .returned v ∧ s.post enc Tryz.prog fn false fresh handsOn again W args v W' := by
 have hgo := hS.go W (InW W) (fun _ => none) args (fun b i h => h) noObjs hn hrep
 rw [dM] at hgo
 refine hgo.mono fun e W' ⟨v, S', β', he, hl, hr, _⟩ => ?_
 subst he
 have hvt : v = .bool true := by
  cases hr with
  | c hf h => cases h; rfl
 subst hvt
 refine ⟨_, rfl, ?_⟩
 have hsame : ∀ b, b < W.heap.size → W'.heap[b]? = W.heap[b]? := fun b hb => hl.same b hb (fun ⟨n, o, h, _⟩ => by simp at h)
 have hlt := hW.lt
 have hW0 := hW
 obtain ⟨p, q, hA, hV, rfl, hfz, hnd⟩ := hW
 rw [hv] at hV
 obtain ⟨rfl, rfl⟩ := trodVars_none hV
 rw [List.append_nil] at hlt hfz hW0
 have hat : ∀ x ∈ p, W.sameAt W' x := fun x hx => by
  have := hlt x hx
  cases x with
  | cell b o => show W'.cell? _ = W.cell? _; unfold World.cell?; rw [hsame b this]
  | map b => exact hsame b this
 have hargs : ∀ sp : Nat → Bool, (∀ x ∈ p, sp x.block = true) → DataW.TrodAll enc Tryz.prog W' 0 sp true fn.params.toList args.toList ds p := fun sp h => rM hp hA hat h
 have hold : ∀ x ∈ p, (fun b => decide (b < W.heap.size)) x.block = true := fun x hx => by simpa using hlt x hx
 have hrs : ∀ (b : Nat) (sp : Nat → Bool) (hd : Bool), DataW.TrodAll enc Tryz.prog W' b sp hd fn.resultTypes.toList ((Value.bool true).resultList fn.resultTypes.size) [.lit (.bool true)] [] := fun b sp hd => by
  rw [hres]
  exact ⟨[], [], shut_bool Tryz.underlying4 true, rfl, rfl⟩
 have hfz' : W'.noneFrozen p := fun b o h => by
  have g := hfz b o h
  have hb : b < W.heap.size := hlt _ h
  unfold World.frozen? at g ⊢
  rw [hsame b hb]
  exact g
 refine ⟨ds, [], p, [], p, [], hW0, ?_, ?_, ?_, ?_, fun _ => ⟨?_, ds.cons (.lit (.bool true)), [], p, ⟨p, [], ?_, ?_, by simp, hfz', fun h => by cases h⟩, fun x hx _ => hx⟩⟩
 ·rw [List.append_nil, hsp]; exact hrs _ _ _
 ·rw [List.append_nil, hsp]; exact hargs _ hold
 ·rw [List.append_nil, hsp, hv]; rfl
 ·exact same_keeps hl.size hl.os hl.output hsame _
 ·exact ok_one hres rfl (okWide_bool_mk Tryz.underlying4 _)
 ·exact trodAll_append (hargs _ (fun _ _ => rfl)) (hrs _ _ _)
 ·rw [hv]; rfl
end Go.Proofs.YtcanljninhfmhaaGreat
namespace Go.Proofs.YtcanljninhfmhaaGreat
open Go
def fdN (raw : List UInt8) (n a : Nat) : Nat := match raw[a]? with
 | some b => b.toNat % n
 | none => 0
def na (raw : List UInt8) (a : Nat) : Nat := if a < raw.length then a + 1 else a
theorem uO {raw : List UInt8} {n a : Nat} (h : 0 < n) : fdN raw n a < n := by
 unfold fdN
 split
 ·exact Nat.mod_lt _ h
 ·exact h
theorem kY {raw : List UInt8} {a : Nat} (h : a ≤ raw.length) : na raw a ≤ raw.length := by unfold na; split <;> omega
def dnm : Nat → Int
 | 0 => 1
 | 1 => 1
 | 2 => 2
 | _ => 4
theorem dnm_pos (k : Nat) : 1 ≤ dnm k ∧ dnm k ≤ 4 := by unfold dnm; split <;> decide
def fdQ (raw : List UInt8) (a : Nat) : Rat × Nat := (wU ((fdN raw 9 a : Int) - 4) (dnm (fdN raw 4 (na raw a))), na raw (na raw a))
theorem fits_div {a b : Int} (h1 : a.natAbs < B) (h2 : 0 < b) (h3 : b.natAbs < B) : Fits 1 (wU a b) := by
 obtain ⟨d, hd⟩ : ∃ d : Nat, b = (d : Int) := ⟨b.toNat, by omega⟩
 subst hd
 unfold wU
 rw [Rat.divInt_ofNat]
 exact bM (by rw [Nat.pow_one]; exact h1) (by rw [Nat.pow_one]; simpa using h3) (by omega)
theorem uN (raw : List UInt8) (a : Nat) : Fits 1 (fdQ raw a).1 := by
 have h1 := uO (raw := raw) (n := 9) (a := a) (by decide)
 obtain ⟨h2, h3⟩ := dnm_pos (fdN raw 4 (na raw a))
 have hB : B = 4294967296 := rfl
 exact fits_div (by omega) (by omega) (by omega)
def pC (raw : List UInt8) : Nat → Nat → F → Nat → F × Nat
 | 0, _, f, a => (f, a)
 | n + 1, v, f, a => if 0 < fdN raw 3 a then pC raw n (v + 1) (f.add ((F.var v).scale (fdQ raw (na raw a)).1)) (fdQ raw (na raw a)).2 else pC raw n (v + 1) f (na raw a)
def fdF (raw : List UInt8) (n a : Nat) : F × Nat := pC raw n 0 (F.num (fdQ raw a).1) (fdQ raw a).2
theorem fdFs_fl (raw : List UInt8) : ∀ (n v : Nat) (f : F) (a k m : Nat), f.fl k m → (pC raw n v f a).1.fl (k + 6 * n) (m + n)
 | 0, _, _, _, _, _, h => h
 | n + 1, v, f, a, k, m, h => by
  unfold pC
  split
  ·exact (fdFs_fl raw n _ _ _ (k + 6) (m + 1) ((h.add ((w5 _).scale (uN raw _))).mono (by omega) (by omega))).mono (by omega) (by omega)
  ·exact (fdFs_fl raw n _ _ _ k m h).mono (by omega) (by omega)
theorem fdF_fl (raw : List UInt8) (n a : Nat) : (fdF raw n a).1.fl (1 + 6 * n) n := (fdFs_fl raw n 0 _ _ 1 0 (wR (uN raw a))).mono (by omega) (by omega)
theorem pB {raw : List UInt8} {a : Nat} (h : a ≤ raw.length) : (fdQ raw a).2 ≤ raw.length := kY (kY h)
theorem fdFs_le {raw : List UInt8} : ∀ {n v : Nat} {f : F} {a : Nat}, a ≤ raw.length → (pC raw n v f a).2 ≤ raw.length
 | 0, _, _, _, h => h
 | n + 1, v, f, a, h => by
  unfold pC
  split
  ·exact fdFs_le (pB (kY h))
  ·exact fdFs_le (kY h)
theorem fdF_le {raw : List UInt8} {n a : Nat} (h : a ≤ raw.length) : (fdF raw n a).2 ≤ raw.length := fdFs_le (pB h)
def fdL (raw : List UInt8) (d : Nat) : Nat → Nat → Nat → List F × Nat
 | 0, _, a => ([], a)
 | n + 1, v, a => ((fdF raw v a).1 :: (fdL raw d n (v + d) (fdF raw v a).2).1, (fdL raw d n (v + d) (fdF raw v a).2).2)
theorem jT (raw : List UInt8) (d : Nat) : ∀ n v a, (fdL raw d n v a).1.length = n
 | 0, _, _ => rfl
 | n + 1, v, a => by simp only [fdL, List.length_cons, jT raw d n]
theorem fdL_le {raw : List UInt8} {d : Nat} : ∀ {n v a}, a ≤ raw.length → (fdL raw d n v a).2 ≤ raw.length
 | 0, _, _, h => h
 | n + 1, v, a, h => fdL_le (n := n) (fdF_le h)
theorem fdL_fl {raw : List UInt8} {d : Nat} : ∀ {n v a : Nat} {f : F}, f ∈ (fdL raw d n v a).1 → f.fl (1 + 6 * (v + d * n)) (v + d * n)
 | 0, _, _, f, h => absurd h (by simp [fdL])
 | n + 1, v, a, f, h => by
  simp only [fdL, List.mem_cons] at h
  have e : d * (n + 1) = d * n + d := Nat.mul_succ d n
  rcases h with rfl | h
  ·exact (fdF_fl raw v a).mono (by omega) (by omega)
  ·exact (fdL_fl h).mono (by omega) (by omega)
structure FGrp where
 n : Nat
 us : List F
 os : List F
def FGrp.g (x : FGrp) : Grp := ⟨x.n, x.us.map fA, x.os.map fA⟩
def fdG (raw : List UInt8) (a : Nat) : FGrp × Nat :=
 let n := 1 + fdN raw 3 a
 let a1 := na raw a
 let u := fdN raw 5 a1
 let a2 := na raw a1
 let o := 1 + fdN raw 3 a2
 let a3 := na raw a2
 let U := fdL raw 1 u n a3
 let O := fdL raw 0 o (n + u) U.2
 (⟨n, U.1, O.1⟩, O.2)
structure FGrp.small (x : FGrp) : Prop where
 n1 : 1 ≤ x.n
 n2 : x.n ≤ 3
 us : x.us.length ≤ 4
 o1 : 1 ≤ x.os.length
 o2 : x.os.length ≤ 3
 uf : ∀ f, f ∈ x.us → f.fl 43 7
 of : ∀ f, f ∈ x.os → f.fl 43 7
theorem fdG_small (raw : List UInt8) (a : Nat) : (fdG raw a).1.small := by
 have h1 := uO (raw := raw) (n := 3) (a := a) (by decide)
 have h2 := uO (raw := raw) (n := 5) (a := na raw a) (by decide)
 have h3 := uO (raw := raw) (n := 3) (a := na raw (na raw a)) (by decide)
 refine ⟨?_, ?_, ?_, ?_, ?_, fun f hf => ?_, fun f hf => ?_⟩
 ·show 1 ≤ 1 + fdN raw 3 a; omega
 ·show 1 + fdN raw 3 a ≤ 3; omega
 ·show (fdL raw 1 _ _ _).1.length ≤ 4; rw [jT]; omega
 ·show 1 ≤ (fdL raw 0 _ _ _).1.length; rw [jT]; omega
 ·show (fdL raw 0 _ _ _).1.length ≤ 3; rw [jT]; omega
 ·have := fdL_fl (f := f) (raw := raw) (d := 1) hf
  exact this.mono (by omega) (by omega)
 ·have := fdL_fl (f := f) (raw := raw) (d := 0) hf
  exact this.mono (by omega) (by omega)
theorem fdG_le {raw : List UInt8} {a : Nat} (h : a ≤ raw.length) : (fdG raw a).2 ≤ raw.length := fdL_le (fdL_le (kY (kY (kY h))))
def qT (q : Rat) : Rat := if q < 0 then -q else q
theorem rD {k : Nat} {q : Rat} (h : Fits k q) : Fits k (qT q) := by
 unfold qT
 split
 ·exact aX h
 ·exact h
def fdB (raw : List UInt8) : Nat → Nat → List (Rat × Rat) × Nat
 | 0, a => ([], a)
 | n + 1, a => (((fdQ raw a).1, (fdQ raw a).1 + qT (fdQ raw (fdQ raw a).2).1) :: (fdB raw n (fdQ raw (fdQ raw a).2).2).1, (fdB raw n (fdQ raw (fdQ raw a).2).2).2)
theorem fdB_len (raw : List UInt8) : ∀ n a, (fdB raw n a).1.length = n
 | 0, _ => rfl
 | n + 1, a => by simp only [fdB, List.length_cons, fdB_len raw n]
theorem fdB_le {raw : List UInt8} : ∀ {n a}, a ≤ raw.length → (fdB raw n a).2 ≤ raw.length
 | 0, _, h => h
 | n + 1, a, h => fdB_le (n := n) (pB (pB h))
theorem fdB_fits {raw : List UInt8} : ∀ {n a : Nat} {x : Rat × Rat}, x ∈ (fdB raw n a).1 → Fits 3 x.1 ∧ Fits 3 x.2
 | 0, _, x, h => absurd h (by simp [fdB])
 | n + 1, a, x, h => by
  simp only [fdB, List.mem_cons] at h
  rcases h with rfl | h
  ·exact ⟨(uN raw a).mono (by decide), (wX (uN raw a) (rD (uN raw _))).mono (by decide)⟩
  ·exact fdB_fits h
theorem fdB_ord {raw : List UInt8} : ∀ {n a : Nat} {x : Rat × Rat}, x ∈ (fdB raw n a).1 → x.1 ≤ x.2
 | 0, _, x, h => absurd h (by simp [fdB])
 | n + 1, a, x, h => by
  simp only [fdB, List.mem_cons] at h
  rcases h with rfl | h
  ·show (fdQ raw a).1 ≤ (fdQ raw a).1 + qT _
   have : 0 ≤ qT (fdQ raw (fdQ raw a).2).1 := by unfold qT; split <;> grind
   grind
  ·exact fdB_ord h
structure FReg where
 bs : List (Rat × Rat)
 rows : List F
def FReg.g (x : FReg) : Reg := ⟨x.bs.map fun b => zE b.1, x.bs.map fun b => zE b.2, x.rows.map fA⟩
def fdR (raw : List UInt8) (n a : Nat) : FReg × Nat :=
 let b := fdB raw n a
 let k := fdN raw 3 b.2
 let l := fdL raw 0 k n (na raw b.2)
 (⟨b.1, l.1⟩, l.2)
structure FReg.small (x : FReg) (n : Nat) : Prop where
 bs : x.bs.length = n
 bf : ∀ b, b ∈ x.bs → Fits 3 b.1 ∧ Fits 3 b.2
 ord : ∀ b, b ∈ x.bs → b.1 ≤ b.2
 rows : x.rows.length ≤ 2
 rf : ∀ f, f ∈ x.rows → f.fl (1 + 6 * n) n
theorem fdR_small (raw : List UInt8) (n a : Nat) : (fdR raw n a).1.small n := by
 have h1 := uO (raw := raw) (n := 3) (a := (fdB raw n a).2) (by decide)
 refine ⟨fdB_len raw n a, fun b hb => fdB_fits hb, fun b hb => fdB_ord hb, ?_, fun f hf => ?_⟩
 ·show (fdL raw 0 _ _ _).1.length ≤ 2; rw [jT]; omega
 ·have := fdL_fl (f := f) (raw := raw) (d := 0) hf
  exact this.mono (by omega) (by omega)
theorem fdR_le {raw : List UInt8} {n a : Nat} (h : a ≤ raw.length) : (fdR raw n a).2 ≤ raw.length := fdL_le (kY (fdB_le h))
structure FQry where
 g : FGrp
 r : FReg
 goal : F
def FQry.q (x : FQry) : Qry := ⟨x.g.g, x.r.g, fA x.goal⟩
def fdY (raw : List UInt8) (a : Nat) : FQry × Nat :=
 let g := fdG raw a
 let r := fdR raw g.1.n g.2
 let f := fdF raw (g.1.n + g.1.us.length) r.2
 (⟨g.1, r.1, f.1⟩, f.2)
structure FQry.small (x : FQry) : Prop where
 g : x.g.small
 r : x.r.small x.g.n
 goal : x.goal.fl 43 7
theorem y7 (raw : List UInt8) (a : Nat) : (fdY raw a).1.small := by
 have hg := fdG_small raw a
 refine ⟨hg, fdR_small raw _ _, ?_⟩
 have h1 := hg.n2
 have h2 := hg.us
 show (fdF raw ((fdG raw a).1.n + (fdG raw a).1.us.length) (fdR raw (fdG raw a).1.n (fdG raw a).2).2).1.fl 43 7
 exact (fdF_fl raw _ _).mono (by omega) (by omega)
theorem fdY_le {raw : List UInt8} {a : Nat} (h : a ≤ raw.length) : (fdY raw a).2 ≤ raw.length := fdF_le (fdR_le (fdG_le h))
theorem fl_asz {l : List F} {k n : Nat} (hl : l.length < 2^38) (h : ∀ f, f ∈ l → f.fl k n) (hn : n < 2^38) : Asz k (l.map fA) := ⟨by simpa using hl, fun a ha => by
 obtain ⟨f, hf, rfl⟩ := List.mem_map.1 ha
 exact ((h f hf).fit hn).fA⟩
theorem FQry.small.sz {x : FQry} (h : x.small) : x.q.sz 43 where
 g := ⟨fl_asz (by have := h.g.us; omega) h.g.uf (by decide), fl_asz (by have := h.g.o2; omega) h.g.of (by decide)⟩
 r := ⟨⟨by show (x.r.bs.map _).length < _; rw [List.length_map, h.r.bs]; have := h.g.n2; omega, fun a ha => by
   obtain ⟨b, hb, rfl⟩ := List.mem_map.1 ha
   exact zY ((h.r.bf b hb).1.mono (by decide))⟩, ⟨by show (x.r.bs.map _).length < _; rw [List.length_map, h.r.bs]; have := h.g.n2; omega, fun a ha => by
   obtain ⟨b, hb, rfl⟩ := List.mem_map.1 ha
   exact zY ((h.r.bf b hb).2.mono (by decide))⟩,
  fl_asz (by have := h.r.rows; omega) (fun f hf => (h.r.rf f hf).mono (by have := h.g.n2; omega) (by have := h.g.n2; show _ ≤ 7; omega)) (by decide)⟩
 goal := (h.goal.fit (by decide)).fA
def rG (raw : List UInt8) (q : Qry) (n m : Nat) : Nat → List Dec → Nat → List Dec
 | 0, p, _ => p
 | k + 1, p, a =>
  let kd := 1 + fdN raw 4 a
  let a1 := na raw a
  if kd = 3 ∨ kd = 4 then rG raw q n m k (p ++ [⟨kd, fdN raw n a1, zE (fdQ raw (na raw a1)).1⟩]) (fdQ raw (na raw a1)).2
  else if m = 0 then rG raw q n m k p a1
  else if (⟨q, p, []⟩ : Scp).dcd 1 (fdN raw m a1) = true ∨ (⟨q, p, []⟩ : Scp).dcd 2 (fdN raw m a1) = true then rG raw q n m k p (na raw a1)
  else rG raw q n m k (p ++ [⟨kd, fdN raw m a1, R0⟩]) (na raw a1)
def fdS (raw : List UInt8) : Scp :=
 let y := fdY raw 0
 ⟨y.1.q, rG raw y.1.q y.1.g.n y.1.g.us.length (fdN raw 4 y.2) [] (na raw y.2), []⟩
structure PathOk (n m : Nat) (p : List Dec) : Prop where
 d : ∀ d, d ∈ p → (d.k = 1 ∨ d.k = 2) ∧ 0 ≤ d.i ∧ d.i < m ∧ d.x = R0 ∨ (d.k = 3 ∨ d.k = 4) ∧ 0 ≤ d.i ∧ d.i < n ∧ ∃ q, Fits 1 q ∧ d.x = zE q
theorem tT {raw : List UInt8} {q : Qry} {n m : Nat} (hn : 0 < n) : ∀ {k a : Nat} {p : List Dec}, PathOk n m p → PathOk n m (rG raw q n m k p a) ∧ (rG raw q n m k p a).length ≤ p.length + k
 | 0, a, p, h => ⟨h, Nat.le_refl _⟩
 | k + 1, a, p, h => by
  have h4 := uO (raw := raw) (n := 4) (a := a) (by decide)
  unfold rG
  dsimp only
  split
  ·rename_i hk
   have hi := uO (raw := raw) (n := n) (a := na raw a) hn
   obtain ⟨g1, g2⟩ := tT (raw := raw) (q := q) (m := m) hn (k := k) (a := (fdQ raw (na raw (na raw a))).2) (p := p ++ [⟨((1 + fdN raw 4 a : Nat) : Int), fdN raw n (na raw a), zE (fdQ raw (na raw (na raw a))).1⟩]) ⟨fun d hd => by
    rcases List.mem_append.1 hd with hd | hd
    ·exact h.d d hd
    ·obtain rfl := List.mem_singleton.1 hd
     exact .inr ⟨by show ((1 + fdN raw 4 a : Nat) : Int) = 3 ∨ ((1 + fdN raw 4 a : Nat) : Int) = 4; omega, by show (0 : Int) ≤ (fdN raw n (na raw a) : Int); omega, by show (fdN raw n (na raw a) : Int) < _; omega, _, uN raw _, rfl⟩⟩
   refine ⟨g1, ?_⟩
   rw [List.length_append, List.length_singleton] at g2
   omega
  ·rename_i hk
   split
   ·obtain ⟨g1, g2⟩ := tT (raw := raw) (q := q) (m := m) hn (k := k) (a := na raw a) h
    exact ⟨g1, by omega⟩
   ·rename_i hm
    have hi := uO (raw := raw) (n := m) (a := na raw a) (by omega)
    split
    ·obtain ⟨g1, g2⟩ := tT (raw := raw) (q := q) (m := m) hn (k := k) (a := na raw (na raw a)) h
     exact ⟨g1, by omega⟩
    ·obtain ⟨g1, g2⟩ := tT (raw := raw) (q := q) (m := m) hn (k := k) (a := na raw (na raw a)) (p := p ++ [⟨((1 + fdN raw 4 a : Nat) : Int), fdN raw m (na raw a), R0⟩]) ⟨fun d hd => by
      rcases List.mem_append.1 hd with hd | hd
      ·exact h.d d hd
      ·obtain rfl := List.mem_singleton.1 hd
       exact .inl ⟨by show ((1 + fdN raw 4 a : Nat) : Int) = 1 ∨ ((1 + fdN raw 4 a : Nat) : Int) = 2; omega, by show (0 : Int) ≤ (fdN raw m (na raw a) : Int); omega, by show (fdN raw m (na raw a) : Int) < _; omega, rfl⟩⟩
     refine ⟨g1, ?_⟩
     rw [List.length_append, List.length_singleton] at g2
     omega
theorem tS (raw : List UInt8) : PathOk (fdY raw 0).1.g.n (fdY raw 0).1.g.us.length (fdS raw).path ∧ (fdS raw).path.length ≤ 3 := by
 have h := (y7 raw 0).g.n1
 obtain ⟨g1, g2⟩ := tT (raw := raw) (q := (fdY raw 0).1.q) (m := (fdY raw 0).1.g.us.length) (n := (fdY raw 0).1.g.n) (by omega) (k := fdN raw 4 (fdY raw 0).2) (a := na raw (fdY raw 0).2) (p := []) ⟨fun d hd => absurd hd (by simp)⟩
 have := uO (raw := raw) (n := 4) (a := (fdY raw 0).2) (by decide)
 exact ⟨g1, by
  have : (fdS raw).path.length ≤ 0 + fdN raw 4 (fdY raw 0).2 := g2
  omega⟩
theorem fdS_sz (raw : List UInt8) : (fdS raw).sz 43 := by
 obtain ⟨h1, h2⟩ := tS raw
 refine ⟨(y7 raw 0).sz, ⟨by omega, fun d hd => ?_⟩, ⟨by show 0 < 2^38; decide, fun a ha => absurd ha (by simp [fdS]), fun a ha => absurd ha (by simp [fdS])⟩⟩
 rcases h1.d d hd with ⟨_, _, _, h⟩ | ⟨_, _, _, q, hq, h⟩
 ·rw [h]; exact ⟨Nat.zero_le _, Nat.zero_le _⟩
 ·rw [h]; exact zY (hq.mono (by decide))
structure F.wf (f : F) (n : Int) : Prop where
 cn : Cn f.ts
 v : ∀ t, t ∈ f.ts → 0 ≤ t.1 ∧ t.1 < n
theorem F.wf.merge {f g : F} {c : Rat} {n : Int} (hf : f.wf n) (hg : g.wf n) : (f.merge g c).wf n := ⟨hf.cn.mrg hg.cn, fun t ht => by
 rcases kN ht with ⟨u, hu, e⟩ | ⟨u, hu, e⟩
 ·rw [← e]; exact hf.v u hu
 ·rw [← e]; exact hg.v u hu⟩
theorem F.wf.num (q : Rat) (n : Int) : (F.num q).wf n := ⟨Cn.nil, fun t ht => absurd ht (by simp [F.num])⟩
theorem F.wf.var {v n : Int} (h1 : 0 ≤ v) (h2 : v < n) : (F.var v).wf n := ⟨Cn.nil.cons (by simp) (by show (1 : Rat) ≠ 0; decide), fun t ht => by
 have : t = (v, 1) := by simpa [F.var] using ht
 rw [this]; exact ⟨h1, h2⟩⟩
theorem F.wf.zero0 (n : Int) : (⟨[], 0⟩ : F).wf n := ⟨Cn.nil, fun t ht => absurd ht (by simp)⟩
theorem F.wf.scale {f : F} {c : Rat} {n : Int} (hf : f.wf n) : (f.scale c).wf n := F.wf.merge (F.wf.zero0 n) hf
theorem F.wf.add {f g : F} {n : Int} (hf : f.wf n) (hg : g.wf n) : (f.add g).wf n := hf.merge hg
theorem F.wf.mono {f : F} {n m : Int} (hf : f.wf n) (h : n ≤ m) : f.wf m := ⟨hf.cn, fun t ht => ⟨(hf.v t ht).1, by have := (hf.v t ht).2; omega⟩⟩
theorem fdFs_wf (raw : List UInt8) (N : Nat) : ∀ (n v : Nat) (f : F) (a : Nat), v + n ≤ N → f.wf N → (pC raw n v f a).1.wf N
 | 0, _, _, _, _, h => h
 | n + 1, v, f, a, hv, h => by
  unfold pC
  split
  ·exact fdFs_wf raw N n _ _ _ (by omega) (h.add (F.wf.var (by omega) (by omega)).scale)
  ·exact fdFs_wf raw N n _ _ _ (by omega) h
theorem fdF_wf (raw : List UInt8) (n a : Nat) : (fdF raw n a).1.wf n := fdFs_wf raw n n 0 _ _ (by omega) (F.wf.num _ _)
theorem fdL_wf {raw : List UInt8} {d : Nat} : ∀ {n v a : Nat} {i : Nat} {f : F}, (fdL raw d n v a).1[i]? = some f → f.wf ((v + i * d : Nat) : Int)
 | 0, _, _, i, f, h => by simp [fdL] at h
 | n + 1, v, a, 0, f, h => by
  simp only [fdL, List.getElem?_cons_zero, Option.some.injEq] at h
  rw [← h, Nat.zero_mul, Nat.add_zero]
  exact fdF_wf raw v a
 | n + 1, v, a, i + 1, f, h => by
  simp only [fdL, List.getElem?_cons_succ] at h
  have := fdL_wf h
  have e : (i + 1) * d = i * d + d := Nat.succ_mul i d
  rw [show v + (i + 1) * d = v + d + i * d by omega]
  exact this
def wE (L : List Lem) (k : Nat) : Rat := ((L[k - 1]?).map fun m => m.v.q).getD 0
def gE (L : List Lem) (unit : Int) : Nat → List Lem → Nat × Nat → Nat × Nat
 | _, [], b => b
 | n, m :: r, b => gE L unit (n + 1) r (if m.u = unit then (if m.up = true then (if b.2 = 0 ∨ x6 m.v.q (wE L b.2) < 0 then (b.1, n + 1) else b) else (if b.1 = 0 ∨ 0 < x6 m.v.q (wE L b.1) then (n + 1, b.2) else b)) else b)
def Scp.best (s : Scp) (unit : Int) : Nat × Nat := gE s.lems unit 0 s.lems (0, 0)
theorem oC {L : List Lem} {unit : Int} : ∀ {r : List Lem} {n : Nat} {b : Nat × Nat}, r = L.drop n → (∀ k, k = b.1 ∨ k = b.2 → k ≠ 0 → ∃ m, L[k - 1]? = some m ∧ m.u = unit) →
  ∀ k, k = (gE L unit n r b).1 ∨ k = (gE L unit n r b).2 → k ≠ 0 → ∃ m, L[k - 1]? = some m ∧ m.u = unit
 | [], n, b, _, hb => hb
 | m :: r, n, b, hr, hb => by
  have hm : L[n]? = some m := by
   have : (L.drop n)[0]? = some m := by rw [← hr]; rfl
   simpa using this
  have hr' : r = L.drop (n + 1) := by
   have : (L.drop n).drop 1 = L.drop (n + 1) := by rw [List.drop_drop]
   rw [← this, ← hr]; rfl
  unfold gE
  refine oC hr' fun k hk hk0 => ?_
  split at hk
  ·rename_i hu
   have new : ∃ m, L[n + 1 - 1]? = some m ∧ m.u = unit := ⟨m, hm, hu⟩
   split at hk
   ·split at hk
    ·rcases hk with rfl | rfl
     ·exact hb _ (.inl rfl) hk0
     ·exact new
    ·exact hb k hk hk0
   ·split at hk
    ·rcases hk with rfl | rfl
     ·exact new
     ·exact hb _ (.inr rfl) hk0
    ·exact hb k hk hk0
  ·exact hb k hk hk0
theorem cU {s : Scp} {unit : Int} {k : Nat} (hk : k = (s.best unit).1 ∨ k = (s.best unit).2) (h0 : k ≠ 0) : ∃ m, s.lems[k - 1]? = some m ∧ m.u = unit :=
 oC (by simp) (fun k hk hk0 => by rcases hk with rfl | rfl <;> exact absurd rfl hk0) k hk h0
def vZ (a b : List (Row × Rat)) (c : Rat) : List (Row × Rat) := b.foldl (fun a m => plMq a m.1 (m.2 * c)) a
def Scp.atLeastM (s : Scp) (v : Int) : List (Row × Rat) := if v < s.q.g.n then [(⟨1, v, 0, 0⟩, 1)] else [(⟨5, v - s.q.g.n, 0, 0⟩, 1)]
def upM (j : Int) (lo hi : Nat) (l u : Rat) : List (Row × Rat) :=
 if yA u ≤ 0 then [(⟨10, j, 0, hi⟩, 1)]
 else if 0 ≤ yA l then [(⟨8, j, lo, 0⟩, 1), (⟨12, j, 0, hi⟩, 1)]
 else [(⟨12, j, 0, hi⟩, (1 / (u - l)) * u), (⟨13, j, lo, hi⟩, 1 / (u - l))]
def Scp.atMostM (s : Scp) (v : Int) : Option (List (Row × Rat)) :=
 if v < s.q.g.n then some [(⟨2, v, 0, 0⟩, 1)]
 else if (s.best (v - s.q.g.n)).1 = 0 ∨ (s.best (v - s.q.g.n)).2 = 0 then none
 else some (upM (v - s.q.g.n) (s.best (v - s.q.g.n)).1 (s.best (v - s.q.g.n)).2 (wE s.lems (s.best (v - s.q.g.n)).1) (wE s.lems (s.best (v - s.q.g.n)).2))
def Scp.aboveL (s : Scp) : List (Int × Rat) → List (Row × Rat) → Option (List (Row × Rat))
 | [], l => some l
 | t :: r, l => match (if 0 < yA t.2 then some (s.atLeastM t.1) else s.atMostM t.1) with
  | none => none
  | some more => s.aboveL r (vZ l more (qT t.2))
def Scp.above (s : Scp) (f : F) : Option (Rat × List (Row × Rat)) := (s.aboveL f.ts []).map fun l => ((f.sub (s.sum (mR l)).2).c, l)
def eZ (j : Int) (x y : Option (Rat × List (Row × Rat))) : List Lem :=
 (match x with
 | some v => [⟨j, false, zE v.1, mR v.2⟩]
 | none => []) ++ (match y with
 | some w => [⟨j, true, zE (-w.1), mR w.2⟩]
 | none => [])
def pH (q : Qry) (path : List Dec) : List A → Nat → List Lem → List Lem
 | [], _, L => L
 | p :: r, j, L => pH q path r (j + 1) (L ++ eZ j ((⟨q, path, L⟩ : Scp).above p.f) ((⟨q, path, L⟩ : Scp).above (p.f.scale (-1))))
def Scp.bounded (s : Scp) : Scp := ⟨s.q, s.path, pH s.q s.path s.q.g.us 0 s.lems⟩
inductive Wt (s : Scp) : List (Row × Rat) → Nat → Prop
 | nil : Wt s [] 0
 | cons {r q l k g N} (hk : Fits k q) (hg : ∀ f, s.fm r = some f → f.fl g 3000) (h : Wt s l N) : Wt s ((r, q) :: l) (k + g + 5 + N)
theorem Wt.to {s l N M} (h : Wt s l N) (e : N = M) : Wt s l M := e ▸ h
theorem Wt.mem {s : Scp} : ∀ {l : List (Row × Rat)} {N : Nat}, Wt s l N → ∀ t, t ∈ l → Fits N t.2
 | _, _, .nil, t, ht => absurd ht (by simp)
 | _, _, .cons hk hg h, t, ht => by
  rcases List.mem_cons.1 ht with rfl | ht
  ·exact hk.mono (by omega)
  ·exact (h.mem t ht).mono (by omega)
theorem Wt.plM {s : Scp} {r : Row} {q : Rat} {k g : Nat} (hk : Fits k q) (hg : ∀ f, s.fm r = some f → f.fl g 3000) : ∀ {l : List (Row × Rat)} {N : Nat}, Wt s l N → ∃ M, M ≤ k + g + 5 + N ∧ Wt s (plM r q l) M
 | _, _, .nil => ⟨_, Nat.le_refl _, .cons hk hg .nil⟩
 | _, _, .cons (r := r') (q := q') (l := l) (k := k') (g := g') (N := N') hk' hg' h => by
  unfold Go.Proofs.YtcanljninhfmhaaGreat.plM
  split
  ·obtain ⟨M, h1, h2⟩ := Wt.plM hk hg h
   exact ⟨_, by omega, .cons hk' hg' h2⟩
  ·split
   ·rename_i e
    have e' : r' = r := e
    rw [e'] at hg'
    refine ⟨_, ?_, .cons (k := k' + k + 1) ((wX hk' hk).mono (by omega)) hg' h⟩
    omega
   ·exact ⟨_, by omega, .cons hk hg (.cons hk' hg' h)⟩
theorem Wt.plMq {s : Scp} {r : Row} {q : Rat} {k g : Nat} (hk : Fits k q) (hg : ∀ f, s.fm r = some f → f.fl g 3000) {l : List (Row × Rat)} {N : Nat} (h : Wt s l N) : ∃ M, M ≤ k + g + 5 + N ∧ Wt s (plMq l r q) M := by
 unfold Go.Proofs.YtcanljninhfmhaaGreat.plMq
 split
 ·exact ⟨N, by omega, h⟩
 ·exact Wt.plM hk hg h
theorem Wt.merge {s : Scp} {c : Rat} {kc : Nat} (hc : Fits kc c) : ∀ {b : List (Row × Rat)} {B : Nat} {a : List (Row × Rat)} {N : Nat}, Wt s b B → Wt s a N → ∃ M, M ≤ B + (kc + 2) * b.length + N ∧ Wt s (vZ a b c) M
 | _, _, a, N, .nil, ha => ⟨N, by simp, ha⟩
 | _, _, a, N, .cons (r := r) (q := q) (l := l) (k := k) (g := g) (N := B) hk hg h, ha => by
  obtain ⟨M1, h1, h2⟩ := Wt.plMq (q := q * c) (xI hk hc) hg ha
  obtain ⟨M, g1, g2⟩ := Wt.merge hc h h2
  refine ⟨M, ?_, g2⟩
  rw [List.length_cons, Nat.mul_succ]
  omega
theorem plM_len' (r : Row) (q : Rat) (l) : (plMq l r q).length ≤ l.length + 1 := by
 unfold plMq
 split
 ·omega
 ·exact plM_len r q l
theorem merge_len (c : Rat) : ∀ (b a : List (Row × Rat)), (vZ a b c).length ≤ a.length + b.length
 | [], a => Nat.le_refl _
 | t :: b, a => by
  have h1 := merge_len c b (plMq a t.1 (t.2 * c))
  have h2 := plM_len' t.1 (t.2 * c) a
  have e : vZ a (t :: b) c = vZ (plMq a t.1 (t.2 * c)) b c := rfl
  rw [e, List.length_cons]
  omega
theorem Wt.sumL {s : Scp} : ∀ {l : List (Row × Rat)} {N : Nat}, Wt s l N → ∀ {acc f : F} {a n : Nat}, acc.fl a n → sumL s acc (mR l) = some f → f.fl (a + N) (n + 3000 * l.length)
 | _, _, .nil, acc, f, a, n, ha, h => by cases h; exact ha
 | _, _, .cons (r := r) (q := q) (l := l) (k := k) (g := g) (N := B) hk hg hw, acc, f, a, n, ha, h => by
  have e : mR ((r, q) :: l) = ⟨r, zE q⟩ :: mR l := rfl
  rw [e] at h
  unfold Go.Proofs.YtcanljninhfmhaaGreat.sumL at h
  dsimp only at h
  split at h
  ·cases h
  ·rename_i f0 hf0
   rw [zW] at h
   have := hw.sumL (ha.add ((hg f0 hf0).scale hk)) h
   exact this.mono (by omega) (by rw [List.length_cons, Nat.mul_succ]; omega)
theorem Wt.sum {s : Scp} {l : List (Row × Rat)} {N : Nat} (h : Wt s l N) : (s.sum (mR l)).2.fl (1 + N) (3000 * l.length) := by
 unfold Scp.sum
 split
 ·exact zero_fl.mono (by omega) (by omega)
 ·split
  ·exact zero_fl.mono (by omega) (by omega)
  ·rename_i f hf
   exact (h.sumL zero_fl hf).mono (by omega) (by omega)
end Go.Proofs.YtcanljninhfmhaaGreat
