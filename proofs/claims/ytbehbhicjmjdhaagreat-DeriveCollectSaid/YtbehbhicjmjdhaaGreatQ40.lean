/- CONTRACTS: the package of the statements about derivations: DeriveCollect. * READINGS: what a reading of an argument says of the value: it stands for a datum of our own types. -/
import Derived.Test.YtbehbhicjmjdhaaGreatQ39
import Derived.Test.YtbehbhicjmjdhaaGreatQ28
import Derived.Test.YtbehbhicjmjdhaaGreatRows
import Derived.Deep.Slices
import Derived.Deep.Strs
import Derived.Lib.SmallJoins
import Derived.KernelRfl

namespace Go.Proofs.YtbehbhicjmjdhaaGreat
open Go
set_option linter.unusedVariables false
set_option maxRecDepth 100000
set_option maxHeartbeats 2000000

theorem few_sz {l : List Mult} (h : fewB l = true) : Msz (2^20) l ∧ l.length ≤ 12 := by
  unfold fewB at h
  simp only [Bool.and_eq_true, decide_eq_true_eq, List.all_eq_true] at h
  obtain ⟨h1, h2⟩ := h
  exact ⟨⟨by omega, fun m hm => ⟨Nat.le_trans (h1 m hm).1 (by decide), Nat.le_trans (h1 m hm).2 (by decide)⟩⟩, h2⟩
theorem rcol_sz {l : List Mult} (h : fewB l = true) : Msz (2^32) (mR (collect l).2) := by
  obtain ⟨h1, h2⟩ := few_sz h
  rw [collect_eq]
  unfold rcol
  split
  · exact ⟨by show 0 < _; decide, fun m hm => absurd hm (by simp [mR])⟩
  · obtain ⟨g1, g2⟩ := rfold_mfit h1 l.length
    rw [List.take_length] at g1 g2
    refine ⟨by rw [mR_len]; show (rfold l).length < _; omega, fun m hm => ?_⟩
    obtain ⟨t, ht, rfl⟩ := List.mem_map.1 hm
    exact (ratR_sz (g1 t ht)).mono (by omega)
theorem hfLwCol : Pg.funcs[3]? = some Tryz.f3 := by rw [Pg_eq]; rfl
theorem sLwCol (l : List Mult) (hl : l.length ≤ 9223372036854775807) : SoundS 3 [mlv l] (.bool (fun _ => true)) := by
  refine sound_fn hfLwCol rfl rfl rfl rfl rfl ?_
  have ca := sAwake
  have cf := sFew l hl
  have hcp : fewB l = true → SoundS 7 [mlv l] (mlv l) := fun h => sCopied l (by have := (few_sz h).2; omega)
  have hco : fewB l = true → SoundS 6 [mlv l] (.tup [mlv (mR (collect l).2), .int .i64 (fun _ => (collect l).1)]) := fun h => sDvCol l (few_sz h).2 (few_sz h).1
  have hrc : fewB l = true → SoundS 8 [mlv l] (.tup [mlv (mR (collect l).2), .int .i64 (fun _ => (collect l).1)]) := fun h => by
    have := sRdCol l (few_sz h).1 (by have := (few_sz h).2; omega)
    rw [← collect_eq] at this
    exact this
  have hsm : fewB l = true → SoundS 9 [mlv (mR (collect l).2), mlv (mR (collect l).2)] (.bool (fun _ => true)) := fun h => by
    have := sRdSame _ _ (rcol_sz h) (rcol_sz h)
    rw [sameM_refl] at this
    exact this
  have hca : fewB l = true → SoundS 10 [mlv l] (.bool (fun _ => canM none l)) := fun h => sDvCan l ((few_sz h).1.mono (by decide))
  have hcb : fewB l = true → SoundS 11 [mlv l] (.bool (fun _ => canM none l)) := fun h => sRdCan l ((few_sz h).1.mono (by decide))
  have hcc : fewB l = true → SoundS 10 [mlv (mR (collect l).2)] (.bool (fun _ => true)) := fun h => by
    have := sDvCan _ ((rcol_sz h).mono (by decide))
    rw [collect_can] at this
    exact this
  generalize mR (collect l).2 = M at *
  generalize (collect l).1 = e at *
  generalize canM none l = cn at *
  generalize fewB l = fw at *
  cbv
  refine callS' rfl (by repeat' first | exact trivial | exact leS_refl _ | exact leS_tt rfl | exact leS_ff rfl | exact leS_nil rfl | apply And.intro) (ca) rfl ?_
  cbv
  refine cut_tt rfl ?_
  cbv
  refine callS' rfl (by repeat' first | exact trivial | exact leS_refl _ | exact leS_tt rfl | exact leS_ff rfl | exact leS_nil rfl | apply And.intro) (cf) rfl ?_
  cbv
  refine cut_bool (fun h' => ?_) (fun h => ?_)
  rotate_left
  · cbv
    (refine retC rfl ?_; cbv)
    exact leS_tt rfl
  have cp := hcp h'
  have co := hco h'
  have cr := hrc h'
  have cs := hsm h'
  have cx := hca h'
  have cy := hcb h'
  have cz := hcc h'
  clear hcp hco hrc hsm hca hcb hcc
  cbv
  refine callS' rfl (by repeat' first | exact trivial | exact leS_refl _ | exact leS_tt rfl | exact leS_ff rfl | exact leS_nil rfl | apply And.intro) (cp) rfl ?_
  cbv
  refine callS' rfl (by repeat' first | exact trivial | exact leS_refl _ | exact leS_tt rfl | exact leS_ff rfl | exact leS_nil rfl | apply And.intro) (co) rfl ?_
  cbv
  refine callS' rfl (by repeat' first | exact trivial | exact leS_refl _ | exact leS_tt rfl | exact leS_ff rfl | exact leS_nil rfl | apply And.intro) (cr) rfl ?_
  cbv
  refine br_tt (by simp) ?_
  cbv
  refine callS' rfl (by repeat' first | exact trivial | exact leS_refl _ | exact leS_tt rfl | exact leS_ff rfl | exact leS_nil rfl | apply And.intro) (cs) rfl ?_
  cbv
  refine br_tt rfl ?_
  cbv
  refine callS' rfl (by repeat' first | exact trivial | exact leS_refl _ | exact leS_tt rfl | exact leS_ff rfl | exact leS_nil rfl | apply And.intro) (cx) rfl ?_
  cbv
  refine callS' rfl (by repeat' first | exact trivial | exact leS_refl _ | exact leS_tt rfl | exact leS_ff rfl | exact leS_nil rfl | apply And.intro) (cy) rfl ?_
  cbv
  refine br_tt (by simp) ?_
  cbv
  refine callS' rfl (by repeat' first | exact trivial | exact leS_refl _ | exact leS_tt rfl | exact leS_ff rfl | exact leS_nil rfl | apply And.intro) (cz) rfl ?_
  cbv
  (refine retC rfl ?_; cbv)
  exact leS_refl _
end Go.Proofs.YtbehbhicjmjdhaaGreat

namespace Go.Proofs.YtbehbhicjmjdhaaGreat
open Go
set_option linter.unusedVariables false
set_option maxRecDepth 100000

abbrev InW (w : World) (b : Nat) : Prop := b < w.heap.size
/-- Cell by cell: what the values stand for. -/
def Cs (w : World) : List Value → List D → Prop
  | [], [] => True
  | v :: vs, d :: ds => (RepD w (InW w) v d ∧ v.oneCell' = true) ∧ Cs w vs ds
  | _, _ => False
theorem Cs.app {w} : ∀ {a x b y}, Cs w a x → Cs w b y → Cs w (a ++ b) (x ++ y)
  | [], [], _, _, _, h => h
  | _ :: _, _ :: _, _, _, h, g => ⟨h.1, Cs.app h.2 g⟩
theorem Cs.len {w} : ∀ {a x}, Cs w a x → a.length = x.length
  | [], [], _ => rfl
  | _ :: _, _ :: _, h => by simp [Cs.len h.2]
theorem Cs.get {w} : ∀ {a x}, Cs w a x → ∀ j, j < x.length → RepD w (InW w) (a.getD j undef) (x.getD j .any) ∧ (a.getD j undef).oneCell' = true
  | [], [], _, j, hj => absurd hj (by simp)
  | _ :: _, _ :: _, h, 0, _ => h.1
  | _ :: _, _ :: _, h, j + 1, hj => by simpa using Cs.get h.2 j (by simpa using hj)
theorem mapD_app : ∀ (a b : List PV), mapD (a ++ b) = mapD a ++ mapD b
  | [], _ => rfl
  | _ :: a, b => by simp [mapD, mapD_app a b]

/-- A type's reading: a value that is read is one of ours. -/
structure ElR (w : World) (t : TypeId) (k : Nat) {α : Type} (G : α → Prop) (p : α → List PV) : Prop where
  sz : Tryz.prog.cellsOf t = k
  rd : ∀ {H : Type} {enc : TypeId × Value → H} {sp : Nat → Bool} {n : Nat} {cs : List Value} {x : DataW H × List MemPlace}, DataW.trod enc Tryz.prog w 0 sp true n t cs = some x → ∃ a, G a ∧ Cs w cs (mapD (p a))
theorem ElR.map {w t k} {α β : Type} {G : α → Prop} {p : α → List PV} {G' : β → Prop} {p' : β → List PV} (h : ElR w t k G p) (f : α → β) (hp : ∀ a, G a → mapD (p' (f a)) = mapD (p a)) (hG : ∀ a, G a → G' (f a)) : ElR w t k G' p' :=
  ⟨h.sz, fun hx => by
    obtain ⟨a, h1, h2⟩ := h.rd hx
    exact ⟨f a, hG a h1, by rw [hp a h1]; exact h2⟩⟩
theorem elInt {w t} {k : IntKind} (ht : Tryz.prog.underlying t = some (.int k)) (hs : Tryz.prog.cellsOf t = 1) : ElR w t 1 (fun n => (Lit.int k n).wf = true) (fun n => [.int k (fun _ => n)]) :=
  ⟨hs, fun {H enc sp n cs x} hx => by
    cases n with
    | zero => simp [DataW.trod] at hx
    | succ n =>
      unfold DataW.trod at hx
      rw [ht] at hx
      split at hx <;> simp_all
      obtain ⟨⟨rfl, h2⟩, _⟩ := hx
      exact ⟨_, h2, ⟨.int _ _, rfl⟩, trivial⟩⟩
theorem elBool {w t} (ht : Tryz.prog.underlying t = some .bool) (hs : Tryz.prog.cellsOf t = 1) : ElR w t 1 (fun _ => True) (fun b => [.bool (fun _ => b)]) :=
  ⟨hs, fun {H enc sp n cs x} hx => by
    cases n with
    | zero => simp [DataW.trod] at hx
    | succ n =>
      unfold DataW.trod at hx
      rw [ht] at hx
      split at hx
      · exact ⟨_, trivial, ⟨.bool _, rfl⟩, trivial⟩
      all_goals simp_all⟩
theorem add_at {b o n : Nat} : (⟨b, o, none⟩ : Addr).add n = ⟨b, o + n, none⟩ := by
  unfold Addr.add
  split
  · rename_i h; rw [h]; rfl
  · rfl
theorem elSlice {w t e k} {α : Type} {G : α → Prop} {p : α → List PV} (ht : Tryz.prog.underlying t = some (.slice e)) (hs : Tryz.prog.cellsOf t = 1) (hk : 0 < k) (he : ElR w e k G p) :
    ElR w t 1 (fun l : List α => (∀ a, a ∈ l → G a) ∧ l.length ≤ maxLen) (fun l => [.sl (fun _ => enc p l)]) :=
  ⟨hs, fun {H enc' sp n cs x} hx => by
    rcases Go.Deep.open_slice ht hx with ⟨rfl, _⟩ | ⟨a, len, cap, m, n', D, Pl, rfl, hb, hl, hm, hmm, _, hi⟩
    · exact ⟨[], ⟨fun _ h => absurd h (by simp), Nat.zero_le _⟩, ⟨.sl0 _ _, rfl⟩, trivial⟩
    have hlm : len ≤ m := by rw [hmm]; split <;> omega
    rcases Nat.eq_zero_or_pos len with h0 | h0
    · subst h0
      exact ⟨[], ⟨fun _ h => absurd h (by simp), Nat.zero_le _⟩, ⟨.sl0 _ _, rfl⟩, trivial⟩
    rw [he.sz] at hi
    have key : ∀ i, i < len → ∃ y : List Value × α, w.cells? 0 (a.add (i * k)) k = some y.1 ∧ G y.2 ∧ Cs w y.1 (mapD (p y.2)) := fun i hil => by
      obtain ⟨cs', h1, h2⟩ := hi i (by omega)
      obtain ⟨y, g1, g2⟩ := he.rd h2
      exact ⟨(cs', y), h1, g1, g2⟩
    haveI : Inhabited (List Value × α) := ⟨Classical.choose (key 0 h0)⟩
    obtain ⟨Y, hY⟩ := Go.Deep.choose_lt key
    have hcell : ∀ i j, i < len → j < k → w.cell? (a.add (i * k + j)) = some ((Y i).1.getD j undef) := fun i j hi' hj => by
      obtain ⟨h1, _, _⟩ := hY i hi'
      obtain ⟨_, h2, h3⟩ := World.cells?_some h1
      have := h3 j hj
      rw [Go.Deep.add_add] at this
      rw [this, List.getD_eq_getElem?_getD]
      have : j < (Y i).1.length := by omega
      simp [this]
    obtain ⟨b, o, sp'⟩ := a
    have hsp : sp' = none := by
      have := hcell 0 0 h0 hk
      unfold World.cell? at this
      split at this
      · cases sp' with
        | none => rfl
        | some s => simp [Addr.add] at this
      · cases this
    subst hsp
    have hS : InW w b := World.cells?_block (a := ⟨b, o, none⟩) (by
      have := (hY 0 h0).1
      rw [Nat.zero_mul] at this
      exact this) hk
    have hlen : ((List.range len).map fun i => (Y i).2).length = len := by simp
    have hel : ∀ i, i < len → (enc p ((List.range len).map fun i => (Y i).2)).getD i [] = mapD (p (Y i).2) := fun i hi' => by
      simp [Go.Proofs.YtbehbhicjmjdhaaGreat.enc, hi']
    refine ⟨(List.range len).map fun i => (Y i).2, ⟨fun z hz => ?_, by rw [hlen]; omega⟩, ⟨?_, rfl⟩, trivial⟩
    · obtain ⟨i, hi', rfl⟩ := List.mem_map.1 hz
      exact (hY i (List.mem_range.1 hi')).2.1
    have hel2 : (enc p ((List.range len).map fun i => (Y i).2)).length = len := by rw [enc_len, hlen]
    have hk' : ∀ i, i < len → (mapD (p (Y i).2)).length = k := fun i hi' => by
      obtain ⟨h1, _, h3⟩ := hY i hi'
      obtain ⟨_, h2, _⟩ := World.cells?_some h1
      rw [← h3.len]
      exact h2
    have := RepD.sl (w := w) (S := InW w) (b := b) (o := o) (cap := cap) (s := k) (els := enc p ((List.range len).map fun i => (Y i).2)) (fun i j => (Y i).1.getD j undef)
      (fun h => by rw [h] at hel2; simp at hel2; omega) (by rw [hel2]; exact hl) hS
      (fun e' he' => by
        obtain ⟨z, hz, rfl⟩ := List.mem_map.1 he'
        obtain ⟨i, hi', rfl⟩ := List.mem_map.1 hz
        exact hk' i (List.mem_range.1 hi'))
      (fun i j hi' hj => by
        rw [hel2] at hi'
        have := hcell i j hi' hj
        rw [add_at] at this
        rw [Nat.add_assoc]
        exact this)
      (fun i j hi' hj => by
        rw [hel2] at hi'
        exact ((hY i hi').2.2.get j (by rw [hk' i hi']; exact hj)).2)
      (fun i j hi' hj => by
        rw [hel2] at hi'
        rw [hel i hi']
        exact ((hY i hi').2.2.get j (by rw [hk' i hi']; exact hj)).1)
    rw [hel2] at this
    exact this⟩
theorem ElR.cut {w t k} {α : Type} {G : α → Prop} {p : α → List PV} (h : ElR w t k G p) {H : Type} {enc : TypeId × Value → H} {sp : Nat → Bool} {n o : Nat} {cs : List Value} {x : DataW H × List MemPlace}
    (hx : DataW.trod enc Tryz.prog w 0 sp true n t ((cs.drop o).take (Tryz.prog.cellsOf t)) = some x) : ∃ a, G a ∧ Cs w ((cs.drop o).take k) (mapD (p a)) := by
  rw [h.sz] at hx
  exact h.rd hx
theorem elS2 {w t k0 k1} {f0 f1 : Field} {α0 α1 : Type} {G0 : α0 → Prop} {p0 : α0 → List PV} {G1 : α1 → Prop} {p1 : α1 → List PV} (ht : Tryz.prog.underlying t = some (.struct #[f0, f1])) (hs : Tryz.prog.cellsOf t = k0 + k1)
    (o0 : f0.offset = 0) (o1 : f1.offset = k0) (h0 : ElR w f0.type k0 G0 p0) (h1 : ElR w f1.type k1 G1 p1) : ElR w t (k0 + k1) (fun a : α0 × α1 => G0 a.1 ∧ G1 a.2) (fun a => p0 a.1 ++ p1 a.2) :=
  ⟨hs, fun hx => by
    obtain ⟨y0, y1, n, _, hl, g0, g1⟩ := Go.ChangeShapes.trod_struct2 ht hx
    obtain ⟨a0, u0, v0⟩ := h0.cut g0
    obtain ⟨a1, u1, v1⟩ := h1.cut g1
    rw [o0, List.drop_zero] at v0
    rw [o1, List.take_of_length_le (by rw [List.length_drop, hl, hs]; omega)] at v1
    have := v0.app v1
    rw [List.take_append_drop] at this
    exact ⟨(a0, a1), ⟨u0, u1⟩, by rw [mapD_app]; exact this⟩⟩
theorem elS3 {w t k0 k1 k2} {f0 f1 f2 : Field} {α0 α1 α2 : Type} {G0 : α0 → Prop} {p0 : α0 → List PV} {G1 : α1 → Prop} {p1 : α1 → List PV} {G2 : α2 → Prop} {p2 : α2 → List PV} (ht : Tryz.prog.underlying t = some (.struct #[f0, f1, f2])) (hs : Tryz.prog.cellsOf t = k0 + (k1 + k2))
    (o0 : f0.offset = 0) (o1 : f1.offset = k0) (o2 : f2.offset = k0 + k1) (h0 : ElR w f0.type k0 G0 p0) (h1 : ElR w f1.type k1 G1 p1) (h2 : ElR w f2.type k2 G2 p2) :
    ElR w t (k0 + (k1 + k2)) (fun a : α0 × α1 × α2 => G0 a.1 ∧ G1 a.2.1 ∧ G2 a.2.2) (fun a => p0 a.1 ++ (p1 a.2.1 ++ p2 a.2.2)) :=
  ⟨hs, fun {H enc sp m cs x} hx => by
    obtain ⟨y0, y1, y2, n, _, hl, g0, g1, g2⟩ := Go.Deep.trod_struct3 ht hx
    obtain ⟨a0, u0, v0⟩ := h0.cut g0
    obtain ⟨a1, u1, v1⟩ := h1.cut g1
    obtain ⟨a2, u2, v2⟩ := h2.cut g2
    rw [o0, List.drop_zero] at v0
    rw [o1] at v1
    rw [o2, List.take_of_length_le (by rw [List.length_drop, hl, hs]; omega)] at v2
    rw [← List.drop_drop] at v2
    have e1 := v1.app v2
    rw [List.take_append_drop] at e1
    have := v0.app e1
    rw [List.take_append_drop] at this
    exact ⟨(a0, a1, a2), ⟨u0, u1, u2⟩, by rw [mapD_app, mapD_app]; exact this⟩⟩
theorem elS4 {w t k0 k1 k2 k3} {f0 f1 f2 f3 : Field} {α0 α1 α2 α3 : Type} {G0 : α0 → Prop} {p0 : α0 → List PV} {G1 : α1 → Prop} {p1 : α1 → List PV} {G2 : α2 → Prop} {p2 : α2 → List PV} {G3 : α3 → Prop} {p3 : α3 → List PV} (ht : Tryz.prog.underlying t = some (.struct #[f0, f1, f2, f3])) (hs : Tryz.prog.cellsOf t = k0 + (k1 + (k2 + k3)))
    (o0 : f0.offset = 0) (o1 : f1.offset = k0) (o2 : f2.offset = k0 + k1) (o3 : f3.offset = k0 + k1 + k2) (h0 : ElR w f0.type k0 G0 p0) (h1 : ElR w f1.type k1 G1 p1) (h2 : ElR w f2.type k2 G2 p2) (h3 : ElR w f3.type k3 G3 p3) :
    ElR w t (k0 + (k1 + (k2 + k3))) (fun a : α0 × α1 × α2 × α3 => G0 a.1 ∧ G1 a.2.1 ∧ G2 a.2.2.1 ∧ G3 a.2.2.2) (fun a => p0 a.1 ++ (p1 a.2.1 ++ (p2 a.2.2.1 ++ p3 a.2.2.2))) :=
  ⟨hs, fun {H enc sp m cs x} hx => by
    obtain ⟨y0, y1, y2, y3, n, _, hl, g0, g1, g2, g3⟩ := Go.Joins.trod_struct4 ht hx
    obtain ⟨a0, u0, v0⟩ := h0.cut g0
    obtain ⟨a1, u1, v1⟩ := h1.cut g1
    obtain ⟨a2, u2, v2⟩ := h2.cut g2
    obtain ⟨a3, u3, v3⟩ := h3.cut g3
    rw [o0, List.drop_zero] at v0
    rw [o1] at v1
    rw [o2, ← List.drop_drop] at v2
    rw [o3, List.take_of_length_le (by rw [List.length_drop, hl, hs]; omega), ← List.drop_drop, ← List.drop_drop] at v3
    have e2 := v2.app v3
    rw [List.take_append_drop] at e2
    have e1 := v1.app e2
    rw [List.take_append_drop] at e1
    have := v0.app e1
    rw [List.take_append_drop] at this
    exact ⟨(a0, a1, a2, a3), ⟨u0, u1, u2, u3⟩, by rw [mapD_app, mapD_app, mapD_app]; exact this⟩⟩

/-! ### The types of the laws -/

theorem rInt (w : World) : ElR w 3 1 (fun n => (Lit.int .i64 n).wf = true) (fun n => [.int .i64 (fun _ => n)]) := elInt Tryz.underlying3 (by kernel_rfl)
theorem rBool (w : World) : ElR w 4 1 (fun _ => True) (fun b => [.bool (fun _ => b)]) := elBool Tryz.underlying4 (by kernel_rfl)
theorem rU32 (w : World) : ElR w 127 1 (fun _ => True) (fun x : UInt32 => [.int .u32 (fun _ => (x.toNat : Int))]) :=
  (elInt (k := .u32) Tryz.underlying127 (by kernel_rfl)).map (fun n => UInt32.ofNat n.toNat) (fun n h => by
    have : 0 ≤ n ∧ n ≤ 4294967295 := by simpa [Lit.wf, IntKind.min, IntKind.max, IntKind.signed, IntKind.bits] using h
    have e : ((UInt32.ofNat n.toNat).toNat : Int) = n := by
      rw [UInt32.toNat_ofNat_of_lt' (by show n.toNat < 4294967296; omega)]
      omega
    show [D.int .u32 _] = [D.int .u32 _]
    rw [e]) (fun _ _ => trivial)
theorem rNat (w : World) : ElR w 38 1 (fun _ => True) (fun l => [nat l]) :=
  (elSlice (k := 1) Tryz.underlying38 (by kernel_rfl) (by decide) (rU32 w)).map (fun l => l) (fun l _ => rfl) (fun _ _ => trivial)
theorem rRat (w : World) : ElR w 40 3 (fun _ => True) (fun x : R => [.bool (fun _ => x.neg), nat x.num, nat x.den]) :=
  (elS3 (k0 := 1) (k1 := 1) (k2 := 1) Tryz.underlying40 (by kernel_rfl) rfl rfl rfl (rBool w) (rNat w) (rNat w)).map (fun a => ⟨a.1, a.2.1, a.2.2⟩) (fun _ _ => rfl) (fun _ _ => trivial)
theorem rRow (w : World) : ElR w 52 4 (fun _ => True) (fun r : Row => [.int .i64 (fun _ => r.k), .int .i64 (fun _ => r.i), .int .i64 (fun _ => r.lo), .int .i64 (fun _ => r.hi)]) :=
  (elS4 (k0 := 1) (k1 := 1) (k2 := 1) (k3 := 1) Tryz.underlying52 (by kernel_rfl) rfl rfl rfl rfl (rInt w) (rInt w) (rInt w) (rInt w)).map (fun a => ⟨a.1, a.2.1, a.2.2.1, a.2.2.2⟩) (fun _ _ => rfl) (fun _ _ => trivial)
theorem rMult (w : World) : ElR w 54 7 (fun _ => True) mc :=
  (elS2 (k0 := 4) (k1 := 3) Tryz.underlying54 (by kernel_rfl) rfl rfl (rRow w) (rRat w)).map (fun a => ⟨a.1, a.2⟩) (fun _ _ => rfl) (fun _ _ => trivial)
theorem rMults (w : World) : ElR w 22 1 (fun l => l.length ≤ maxLen) (fun l => [mlv l]) :=
  (elSlice (k := 7) Tryz.underlying22 (by kernel_rfl) (by decide) (rMult w)).map (fun l => l) (fun _ _ => rfl) (fun _ h => h.2)
end Go.Proofs.YtbehbhicjmjdhaaGreat
