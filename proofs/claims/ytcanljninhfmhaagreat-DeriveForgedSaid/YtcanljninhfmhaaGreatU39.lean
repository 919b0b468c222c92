/- A part of the proof: AlA, AlB, AlC, SpY, LxQ. -/
import Derived.Test.YtcanljninhfmhaaGreatU36
import Derived.Test.YtcanljninhfmhaaGreatU33
import Derived.Test.YtcanljninhfmhaaGreatU38
import Derived.Test.YtcanljninhfmhaaGreatU26
import Derived.Test.YtcanljninhfmhaaGreatU37
import Derived.Test.YtcanljninhfmhaaGreatU30
set_option linter.all false
namespace Go.Proofs.YtcanljninhfmhaaGreat
open Go
set_option maxRecDepth 100000
set_option maxHeartbeats 4000000
theorem sR21Ph (s : Scp) (j : Int) (hs : s.sz (2^20)) : zC 112 [sv s, .int .i64 (fun _ => j)] (.tup [.bool (fun _ => s.onU j), .bool (fun _ => s.offU j)]) := by
 refine sF Tryz.f112 ?_
 have cb := iF s j hs.lems
 have cd1 := bD s 1 j (hs.path.mono (by decide))
 have cd2 := bD s 2 j (hs.path.mono (by decide))
 have csg : ∀ m, m ∈ s.lems → zC 28 [rv m.v] (.int .i64 (fun _ => yA m.v.q)) := fun m hm => s35 m.v (by have := (hs.lems.sz m hm).n; omega)
 have hlen := hs.lems.len
 have hbb : ∀ k : Nat, (k = (s.best j).1 ∨ k = (s.best j).2) → k ≠ 0 → ∃ m, s.lems[k - 1]? = some m ∧ k - 1 < s.lems.length := fun k hk h0 => by
  obtain ⟨m, hm, _⟩ := cU hk h0
  exact ⟨m, hm, (List.getElem?_eq_some_iff.1 hm).1⟩
 have hb1 := hbb _ (.inl rfl)
 have hb2 := hbb _ (.inr rfl)
 clear hbb
 have hv : ∀ (k : Nat) m, s.lems[k - 1]? = some m → wE s.lems k = m.v.q := fun k m h => by unfold wE; rw [h]; rfl
 have hon : s.onU j = (s.dcd 1 j || (decide (0 < (s.best j).1) && decide (0 ≤ yA (wE s.lems (s.best j).1)))) := rfl
 have hoff : s.offU j = (s.dcd 2 j || (decide (0 < (s.best j).2) && decide (yA (wE s.lems (s.best j).2) ≤ 0))) := rfl
 generalize s.onU j = on at *
 generalize s.offU j = off at *
 generalize s.dcd 1 j = d1 at *
 generalize s.dcd 2 j = d2 at *
 generalize (s.best j).1 = b1 at *
 generalize (s.best j).2 = b2 at *
 have o11 : d1 = true → on = true := fun h => by rw [hon, h]; rfl
 have o12 : d1 = false → b1 = 0 → on = false := fun h g => by rw [hon, h, g]; rfl
 have o13 : d1 = false → ∀ m, s.lems[b1 - 1]? = some m → 0 < b1 → on = decide (0 ≤ yA m.v.q) := fun h m hm g => by rw [hon, h, hv b1 m hm, decide_eq_true g]; rfl
 have o21 : d2 = true → off = true := fun h => by rw [hoff, h]; rfl
 have o22 : d2 = false → b2 = 0 → off = false := fun h g => by rw [hoff, h, g]; rfl
 have o23 : d2 = false → ∀ m, s.lems[b2 - 1]? = some m → 0 < b2 → off = decide (yA m.v.q ≤ 0) := fun h m hm g => by rw [hoff, h, hv b2 m hm, decide_eq_true g]; rfl
 clear hon hoff hv hs
 obtain ⟨⟨⟨gn, us, os⟩, ⟨lo, hi, rows⟩, ⟨ts, c1, c2, c3⟩⟩, path, L⟩ := s
 dsimp only at csg hlen hb1 hb2 o13 o23
 cbv
 refine cA cb ?_
 cbv
 refine cA cd1 ?_
 cbv
 refine z4 (fun eA => ?_) (fun eA => ?_)
 ·have qA := o11 eA
  cbv
  refine cA cd2 ?_
  cbv
  refine z4 (fun eB => ?_) (fun eB => ?_)
  ·have qB := o21 eB
   cbv
   (refine rC ?_; cbv)
   exact ⟨yG qA, yG qB, trivial⟩
  ·cbv
   refine zQ (fun fB => ?_) (fun fB => ?_)
   ·have gB : b2 ≠ 0 := by (try dsimp only [zG] at *); omega
    obtain ⟨mB, hmB, hlB⟩ := hb2 gB
    have qB := o23 eB mB hmB (by omega)
    have csB := csg mB (List.mem_of_getElem? hmB)
    have ixB : ∀ {K : List PV → Prop}, K (lc mB) → IdxOk 6 (fun _ => enc lc L) (fun _ => (b2 : Int) - 1) K := fun hK => v8 hmB (by omega) v7 uM hK
    generalize yA mB.v.q = sgB at *
    cbv
    refine ⟨zH om om, ixB ?_⟩
    cbv
    refine cA csB ?_
    cbv
    (refine rC ?_; cbv)
    exact ⟨yG qA, zV qB.symm, trivial⟩
   ·have qB := o22 eB om
    cbv
    (refine rC ?_; cbv)
    exact ⟨yG qA, zN qB, trivial⟩
 ·cbv
  refine zQ (fun fA => ?_) (fun fA => ?_)
  ·have gA : b1 ≠ 0 := by (try dsimp only [zG] at *); omega
   obtain ⟨mA, hmA, hlA⟩ := hb1 gA
   have qA := o13 eA mA hmA (by omega)
   have csA := csg mA (List.mem_of_getElem? hmA)
   have ixA : ∀ {K : List PV → Prop}, K (lc mA) → IdxOk 6 (fun _ => enc lc L) (fun _ => (b1 : Int) - 1) K := fun hK => v8 hmA (by omega) v7 uM hK
   generalize yA mA.v.q = sgA at *
   cbv
   refine ⟨zH om om, ixA ?_⟩
   cbv
   refine cA csA ?_
   cbv
   refine cA cd2 ?_
   cbv
   refine z4 (fun eB => ?_) (fun eB => ?_)
   ·have qB := o21 eB
    cbv
    (refine rC ?_; cbv)
    exact ⟨zV qA.symm, yG qB, trivial⟩
   ·cbv
    refine zQ (fun fB => ?_) (fun fB => ?_)
    ·have gB : b2 ≠ 0 := by (try dsimp only [zG] at *); omega
     obtain ⟨mB, hmB, hlB⟩ := hb2 gB
     have qB := o23 eB mB hmB (by omega)
     have csB := csg mB (List.mem_of_getElem? hmB)
     have ixB : ∀ {K : List PV → Prop}, K (lc mB) → IdxOk 6 (fun _ => enc lc L) (fun _ => (b2 : Int) - 1) K := fun hK => v8 hmB (by omega) v7 uM hK
     generalize yA mB.v.q = sgB at *
     cbv
     refine ⟨zH om om, ixB ?_⟩
     cbv
     refine cA csB ?_
     cbv
     (refine rC ?_; cbv)
     exact ⟨zV qA.symm, zV qB.symm, trivial⟩
    ·have qB := o22 eB om
     cbv
     (refine rC ?_; cbv)
     exact ⟨zV qA.symm, zN qB, trivial⟩
  ·have qA := o12 eA om
   cbv
   refine cA cd2 ?_
   cbv
   refine z4 (fun eB => ?_) (fun eB => ?_)
   ·have qB := o21 eB
    cbv
    (refine rC ?_; cbv)
    exact ⟨zN qA, yG qB, trivial⟩
   ·cbv
    refine zQ (fun fB => ?_) (fun fB => ?_)
    ·have gB : b2 ≠ 0 := by (try dsimp only [zG] at *); omega
     obtain ⟨mB, hmB, hlB⟩ := hb2 gB
     have qB := o23 eB mB hmB (by omega)
     have csB := csg mB (List.mem_of_getElem? hmB)
     have ixB : ∀ {K : List PV → Prop}, K (lc mB) → IdxOk 6 (fun _ => enc lc L) (fun _ => (b2 : Int) - 1) K := fun hK => v8 hmB (by omega) v7 uM hK
     generalize yA mB.v.q = sgB at *
     cbv
     refine ⟨zH om om, ixB ?_⟩
     cbv
     refine cA csB ?_
     cbv
     (refine rC ?_; cbv)
     exact ⟨zN qA, zV qB.symm, trivial⟩
    ·have qB := o22 eB om
     cbv
     (refine rC ?_; cbv)
     exact ⟨zN qA, zN qB, trivial⟩
abbrev rsv (l : List Row) : PV := .sl (fun _ => enc rwc l)
theorem rwc_flat (a : Row) : yR uG (rwc a) = true := rfl
theorem rwc_len (a : Row) : (rwc a).length = 4 := rfl
theorem j7 : ty 98 = .sli 4 32 [.int .i64 (fun _ => 0), .int .i64 (fun _ => 0), .int .i64 (fun _ => 0), .int .i64 (fun _ => 0)] := by cbv
structure AllSeq (s : Scp) (A B C D : Nat → List Row) : Prop where
 a0 : A 0 = []
 a1 : ∀ i : Nat, A (i + 1) = A i ++ [⟨1, i, 0, 0⟩, ⟨2, i, 0, 0⟩]
 b0 : B 0 = A s.q.g.n.toNat
 b1 : ∀ i : Nat, B (i + 1) = B i ++ [⟨3, i, 0, 0⟩]
 c0 : C 0 = B s.q.r.rows.length
 c1 : ∀ i : Nat, C (i + 1) = C i ++ (if (s.fm ⟨4, (i : Int), 0, 0⟩).isSome = true then [⟨4, i, 0, 0⟩] else [])
 d0 : D 0 = C s.path.length
 d1 : ∀ j : Nat, D (j + 1) = D j ++ s.rowsU j
 e : s.all = D s.q.g.us.length
 la : ∀ i, (A i).length ≤ 2 * i
 lb : ∀ i, (B i).length ≤ 2 * s.q.g.n.toNat + i
 lc : ∀ i, (C i).length ≤ 2 * s.q.g.n.toNat + s.q.r.rows.length + i
 ld : ∀ i, (D i).length ≤ 2 * s.q.g.n.toNat + s.q.r.rows.length + s.path.length + 12 * i
theorem o8 (s : Scp) (j : Int) : (s.rowsU j).length ≤ 12 := by
 unfold Scp.rowsU Scp.rowsOn Scp.rowsOff Scp.rowsOpen
 simp only [List.length_append]
 repeat' split
 all_goals simp
theorem all_seq {s : Scp} (hv : s.q.valid = true) : ∃ A B C D, AllSeq s A B C D := by
 refine ⟨fun i => (List.range i).flatMap fun i : Nat => [(⟨1, (i : Int), 0, 0⟩ : Row), ⟨2, (i : Int), 0, 0⟩], ?_⟩
 generalize hA : (fun i => (List.range i).flatMap fun i : Nat => [(⟨1, (i : Int), 0, 0⟩ : Row), ⟨2, (i : Int), 0, 0⟩]) = A
 refine ⟨fun k => A s.q.g.n.toNat ++ (List.range k).map fun i : Nat => (⟨3, (i : Int), 0, 0⟩ : Row), ?_⟩
 generalize hB : (fun k => A s.q.g.n.toNat ++ (List.range k).map fun i : Nat => (⟨3, (i : Int), 0, 0⟩ : Row)) = B
 refine ⟨fun k => B s.q.r.rows.length ++ ((List.range k).filter fun i : Nat => (s.fm ⟨4, (i : Int), 0, 0⟩).isSome).map fun i : Nat => (⟨4, (i : Int), 0, 0⟩ : Row), ?_⟩
 generalize hC : (fun k => B s.q.r.rows.length ++ ((List.range k).filter fun i : Nat => (s.fm ⟨4, (i : Int), 0, 0⟩).isSome).map fun i : Nat => (⟨4, (i : Int), 0, 0⟩ : Row)) = C
 refine ⟨fun k => C s.path.length ++ (List.range k).flatMap fun j : Nat => s.rowsU (j : Int), ?_⟩
 have la : ∀ i, (A i).length ≤ 2 * i := fun i => by
  rw [← hA]
  induction i with
  | zero => simp
  | succ i ih =>
   show ((List.range (i + 1)).flatMap _).length ≤ _
   rw [List.range_succ, List.flatMap_append, List.length_append]
   have : ((List.range i).flatMap fun i : Nat => [(⟨1, (i : Int), 0, 0⟩ : Row), ⟨2, (i : Int), 0, 0⟩]).length ≤ 2 * i := ih
   simp only [List.flatMap_cons, List.flatMap_nil, List.length_append, List.length_cons, List.length_nil]
   omega
 have lb : ∀ i, (B i).length ≤ 2 * s.q.g.n.toNat + i := fun i => by
  rw [← hB]
  have := la s.q.g.n.toNat
  simp
  omega
 have lc : ∀ i, (C i).length ≤ 2 * s.q.g.n.toNat + s.q.r.rows.length + i := fun i => by
  rw [← hC]
  have h1 := lb s.q.r.rows.length
  have h2 := List.length_filter_le (fun i : Nat => (s.fm ⟨4, (i : Int), 0, 0⟩).isSome) (List.range i)
  rw [List.length_range] at h2
  simp only [List.length_append, List.length_map]
  omega
 refine ⟨by rw [← hA]; rfl, fun i => by rw [← hA]; simp [List.range_succ, List.flatMap_append], by rw [← hB]; simp, fun i => by rw [← hB]; simp [List.range_succ], by rw [← hC]; simp, fun i => by
   rw [← hC]
   show B _ ++ _ = _
   rw [List.range_succ, List.filter_append, List.map_append, ← List.append_assoc]
   congr 1
   by_cases h : (s.fm ⟨4, (i : Int), 0, 0⟩).isSome = true
   ·rw [if_pos h]; simp [h]
   ·rw [if_neg h]; simp [h], by simp, fun j => by simp [List.range_succ, List.flatMap_append], ?_, la, lb, lc, fun i => ?_⟩
 ·unfold Scp.all
  rw [if_neg (by rw [hv]; decide), ← hC, ← hB, ← hA]
 ·have h1 := lc s.path.length
  show (C _ ++ _).length ≤ _
  rw [List.length_append]
  have : ((List.range i).flatMap fun j : Nat => s.rowsU (j : Int)).length ≤ 12 * i := by
   induction i with
   | zero => simp
   | succ i ih =>
    rw [List.range_succ, List.flatMap_append, List.length_append]
    have := o8 s (i : Int)
    simp only [List.flatMap_cons, List.flatMap_nil, List.append_nil]
    omega
  omega
theorem sR21All (s : Scp) (hs : s.sz (2^20)) (hn : s.q.g.n ≤ 1000000) (hr : s.q.r.rows.length ≤ 1000000) (hp : s.path.length ≤ 1000000) (hu : s.q.g.us.length ≤ 1000000) : zC 60 [sv s] (rsv s.all) := by
 refine sF Tryz.f60 ?_
 have cv := sR21V s.q (hs.q.mono (by decide))
 have cf := fun i : Nat => sR21Form s ⟨4, i, 0, 0⟩ hs
 have cb := fun j : Nat => iF s j hs.lems
 have cph := fun j : Nat => sR21Ph s j hs
 have cd1 := fun j : Nat => bD s 1 j (hs.path.mono (by decide))
 have cd2 := fun j : Nat => bD s 2 j (hs.path.mono (by decide))
 cases hv : s.q.valid with
 | false =>
  have hall : s.all = [] := by unfold Scp.all; rw [if_pos hv]
  rw [hall]
  rw [hv] at cv
  obtain ⟨⟨⟨gn, us, os⟩, ⟨lo, hi, rows⟩, ⟨ts, c1, c2, c3⟩⟩, path, L⟩ := s
  cbv
  refine cA cv ?_
  cbv
  refine cut_ff rfl ?_
  cbv
  (refine rC ?_; cbv)
  exact y5 rfl
 | true =>
  obtain ⟨A, B, C, D, Q⟩ := all_seq hv
  rw [hv] at cv
  have fa1 := Q.a1
  have fb1 := Q.b1
  have fc1 := Q.c1
  have fd1 := Q.d1
  have la := Q.la
  have lb := Q.lb
  have lc' := Q.lc
  have ld := Q.ld
  have hN : s.q.g.n ≤ 0 ∨ s.q.g.n = (s.q.g.n.toNat : Int) := by omega
  rw [Q.e]
  have a0 := Q.a0
  have b0 := Q.b0
  have c0 := Q.c0
  have d0 := Q.d0
  have un : ∀ j : Nat, s.rowsU j = (if s.onU j = true then s.rowsOn j else []) ++ (if s.offU j = true then s.rowsOff j else []) ++ (if s.onU j = true ∨ s.offU j = true then [] else s.rowsOpen j) := fun j => rfl
  have ro1 : ∀ j : Nat, s.dcd 1 j = true → s.rowsOn j = [⟨6, j, 0, 0⟩, ⟨7, j, 0, 0⟩, ⟨8, j, 0, 0⟩] := fun j h => by unfold Scp.rowsOn; rw [if_pos h]
  have ro2 : ∀ j : Nat, s.dcd 1 j = false → s.rowsOn j = [⟨6, j, 0, 0⟩, ⟨7, j, ((s.best j).1 : Int), 0⟩, ⟨8, j, ((s.best j).1 : Int), 0⟩] := fun j h => by unfold Scp.rowsOn; rw [if_neg (by rw [h]; decide)]
  have rf1 : ∀ j : Nat, s.dcd 2 j = true → s.rowsOff j = [⟨5, j, 0, 0⟩, ⟨9, j, 0, 0⟩, ⟨10, j, 0, 0⟩] := fun j h => by unfold Scp.rowsOff; rw [if_pos h]
  have rf2 : ∀ j : Nat, s.dcd 2 j = false → s.rowsOff j = [⟨5, j, 0, 0⟩, ⟨9, j, 0, ((s.best j).2 : Int)⟩, ⟨10, j, 0, ((s.best j).2 : Int)⟩] := fun j h => by unfold Scp.rowsOff; rw [if_neg (by rw [h]; decide)]
  have rop : ∀ j : Nat, s.rowsOpen j = [⟨5, j, 0, 0⟩, ⟨6, j, 0, 0⟩] ++ (if 0 < (s.best j).1 then [⟨11, j, ((s.best j).1 : Int), 0⟩] else []) ++ (if 0 < (s.best j).2 then [⟨12, j, 0, ((s.best j).2 : Int)⟩] else []) ++ (if 0 < (s.best j).1 ∧ 0 < (s.best j).2 then [⟨13, j, ((s.best j).1 : Int), ((s.best j).2 : Int)⟩] else []) := fun j => rfl
  have bl : ∀ j : Nat, (s.best j).1 < 2^40 ∧ (s.best j).2 < 2^40 := fun j => by
   have := hs.lems.len
   constructor
   ·rcases Nat.eq_zero_or_pos (s.best j).1 with h | h
    ·omega
    ·obtain ⟨m, hm, _⟩ := cU (s := s) (unit := j) (.inl rfl) (by omega)
     have := (List.getElem?_eq_some_iff.1 hm).1
     omega
   ·rcases Nat.eq_zero_or_pos (s.best j).2 with h | h
    ·omega
    ·obtain ⟨m, hm, _⟩ := cU (s := s) (unit := j) (.inr rfl) (by omega)
     have := (List.getElem?_eq_some_iff.1 hm).1
     omega
  have fms : ∀ i : Nat, ∃ (V : Go.Proofs.YtcanljninhfmhaaGreat.A) (W : Bool), (s.fm ⟨4, (i : Int), 0, 0⟩).isSome = W ∧ zC 54 [sv s, rwv ⟨4, i, 0, 0⟩] (.tup [av V, .bool (fun _ => W)]) := fun i => ⟨_, _, rfl, cf i⟩
  have bsts : ∀ j : Nat, ∃ (x1 x2 : Nat) (on off d1 d2 : Bool) (ron rof : List Row), zC 111 [sv s, .int .i64 (fun _ => (j : Int))] (.tup [.int .i64 (fun _ => (x1 : Int)), .int .i64 (fun _ => (x2 : Int))]) ∧ zC 112 [sv s, .int .i64 (fun _ => (j : Int))] (.tup [.bool (fun _ => on), .bool (fun _ => off)]) ∧
    zC 102 [sv s, .int .i64 (fun _ => 1), .int .i64 (fun _ => (j : Int))] (.bool (fun _ => d1)) ∧ zC 102 [sv s, .int .i64 (fun _ => 2), .int .i64 (fun _ => (j : Int))] (.bool (fun _ => d2)) ∧ x1 < 2^40 ∧ x2 < 2^40 ∧
    D (j + 1) = D j ++ ((if on = true then ron else []) ++ (if off = true then rof else []) ++ (if on = true ∨ off = true then [] else [⟨5, j, 0, 0⟩, ⟨6, j, 0, 0⟩] ++ (if 0 < x1 then [⟨11, j, (x1 : Int), 0⟩] else []) ++ (if 0 < x2 then [⟨12, j, 0, (x2 : Int)⟩] else []) ++ (if 0 < x1 ∧ 0 < x2 then [⟨13, j, (x1 : Int), (x2 : Int)⟩] else []))) ∧
    (d1 = true → ron = [⟨6, j, 0, 0⟩, ⟨7, j, 0, 0⟩, ⟨8, j, 0, 0⟩]) ∧ (d1 = false → ron = [⟨6, j, 0, 0⟩, ⟨7, j, (x1 : Int), 0⟩, ⟨8, j, (x1 : Int), 0⟩]) ∧ (d2 = true → rof = [⟨5, j, 0, 0⟩, ⟨9, j, 0, 0⟩, ⟨10, j, 0, 0⟩]) ∧ (d2 = false → rof = [⟨5, j, 0, 0⟩, ⟨9, j, 0, (x2 : Int)⟩, ⟨10, j, 0, (x2 : Int)⟩]) := fun j =>
   ⟨_, _, _, _, _, _, _, _, cb j, cph j, cd1 j, cd2 j, (bl j).1, (bl j).2, by rw [fd1 j, un j, rop j], ro1 j, ro2 j, rf1 j, rf2 j⟩
  clear ro1 ro2 rf1 rf2 rop bl un cb cph cd1 cd2 fd1 cf Q hs hv
  generalize hNn : s.q.g.n.toNat = N at *
  have fms' : ∀ i : Nat, ∃ (V : Go.Proofs.YtcanljninhfmhaaGreat.A) (W : Bool), zC 54 [sv s, rwv ⟨4, i, 0, 0⟩] (.tup [av V, .bool (fun _ => W)]) ∧ C (i + 1) = C i ++ (if W = true then [⟨4, i, 0, 0⟩] else []) := fun i => by
   obtain ⟨V, W, h1, h2⟩ := fms i
   exact ⟨V, W, h2, by rw [← h1]; exact fc1 i⟩
  clear fms fc1
  obtain ⟨⟨⟨gn, us, os⟩, ⟨lo, hi, rows⟩, ⟨ts, c1, c2, c3⟩⟩, path, L⟩ := s
  dsimp only at hn hr hp hu hN hNn lb lc' ld b0 c0 d0
  have hN1 : N ≤ 1000000 := by omega
  have lA : ∀ i, i ≤ N → (A i).length ≤ 100000000 := fun i h => by have := la i; omega
  have lB : ∀ i, i ≤ rows.length → (B i).length ≤ 100000000 := fun i h => by have := lb i; omega
  have lC : ∀ i, i ≤ path.length → (C i).length ≤ 100000000 := fun i h => by have := lc' i; omega
  have lD : ∀ i, i ≤ us.length → (D i).length ≤ 100000000 := fun i h => by have := ld i; omega
  clear la lb lc' ld
  cbv
  refine cA cv ?_
  cbv
  refine bN rfl ?_
  cbv
  refine z5 (σ := Nat) (fun i => ⟨[(1, .ptr 1 0), (3, .osl 3 4 (fun _ => 0) (fun _ => (A i).length)), (4, .int .i64 (fun _ => (i : Int)))], [(1, .box [.int .i64 (fun _ => gn), alv us, alv os, rlv lo, rlv hi, alv rows, tsv ts, .bool (fun _ => c1), nat c2, nat c3, dlv path, llv L]), (3, .arr 4 (fun _ => enc rwc (A i)))]⟩)
   (fun i => i ≤ N) (fun i => N - i) 0 (Nat.zero_le _)
   (.trans (wkZ (ps' := ⟨[(1, .ptr 1 0), (3, .nil), (4, .int .i64 (fun _ => ((0 : Nat) : Int)))], [(1, .box [.int .i64 (fun _ => gn), alv us, alv os, rlv lo, rlv hi, alv rows, tsv ts, .bool (fun _ => c1), nat c2, nat c3, dlv path, llv L])]⟩)) (.trans (.adoptT (ps := ⟨[(1, .ptr 1 0), (3, .nil), (4, .int .i64 (fun _ => ((0 : Nat) : Int)))], [(1, .box [.int .i64 (fun _ => gn), alv us, alv os, rlv lo, rlv hi, alv rows, tsv ts, .bool (fun _ => c1), nat c2, nat c3, dlv path, llv L])]⟩) 3 4 3 rfl rfl) (wkY (by cbv; repeat' first | exact trivial | exact lR | exact zD om | exact z3 rfl (by first | rfl | (rw [a0]; done) | (simp [zR, zA]; done) | (rw [a0]; simp [zR, zA]; done)) | exact zJ (by first | rfl | (rw [a0]; done) | (rw [a0]; rfl) | (rw [← z8]; rfl) | (rw [a0, ← z8]; rfl)) | apply And.intro)))) ?_
  intro i hi'
  have l1 := lA i hi'
  cbv
  refine zF (fun h => ?_) (fun h => ?_)
  ·have hlt : i < N := by (try dsimp only [zG] at *); omega
   have f := fa1 i
   clear fms' bsts lA lB lC lD fa1 fb1
   generalize A i = X at *
   cbv
   refine aO j7 ?_
   cbv
   exact ⟨zH om om, i + 1, (by show i + 1 ≤ N; omega), (by show N - (i + 1) < N - i; omega), wkY (by cbv; repeat' first | exact trivial | exact lR | exact zD om | exact z3 rfl (by first | rfl | (rw [f]; done) | (simp [zR, zA]; done) | (rw [f]; simp [zR, zA]; done)) | exact zJ (by first | rfl | (rw [f]; done) | (rw [f]; rfl) | (rw [← z8]; rfl) | (rw [f, ← z8]; rfl)) | apply And.intro)⟩
  have hN' : i = N := by (try dsimp only [zG] at *); omega
  subst hN'
  clear l1 lA hi' h
  cbv
  refine z5 (σ := Nat) (fun i => ⟨[(1, .ptr 1 0), (3, .osl 3 4 (fun _ => 0) (fun _ => (B i).length)), (5, .int .i64 (fun _ => (i : Int)))], [(1, .box [.int .i64 (fun _ => gn), alv us, alv os, rlv lo, rlv hi, alv rows, tsv ts, .bool (fun _ => c1), nat c2, nat c3, dlv path, llv L]), (3, .arr 4 (fun _ => enc rwc (B i)))]⟩)
   (fun i => i ≤ rows.length) (fun i => rows.length - i) 0 (Nat.zero_le _) (wkY (by cbv; repeat' first | exact trivial | exact lR | exact zD om | exact z3 rfl (by first | rfl | (rw [b0]; done) | (simp [zR, zA]; done) | (rw [b0]; simp [zR, zA]; done)) | exact zJ (by first | rfl | (rw [b0]; done) | (rw [b0]; rfl) | (rw [← z8]; rfl) | (rw [b0, ← z8]; rfl)) | apply And.intro)) ?_
  intro i hi'
  have l1 := lB i hi'
  cbv
  refine zF (fun h => ?_) (fun h => ?_)
  ·have hlt : i < rows.length := by rw [zA] at h; (try dsimp only [zG] at *); omega
   have f := fb1 i
   clear fms' bsts lB lC lD fa1 fb1
   generalize B i = X at *
   cbv
   refine aO j7 ?_
   cbv
   exact ⟨zH om om, i + 1, (by show i + 1 ≤ rows.length; omega), (by show rows.length - (i + 1) < rows.length - i; omega), wkY (by cbv; repeat' first | exact trivial | exact lR | exact zD om | exact z3 rfl (by first | rfl | (rw [f]; done) | (simp [zR, zA]; done) | (rw [f]; simp [zR, zA]; done)) | exact zJ (by first | rfl | (rw [f]; done) | (rw [f]; rfl) | (rw [← z8]; rfl) | (rw [f, ← z8]; rfl)) | apply And.intro)⟩
  have hN' : i = rows.length := by rw [zA] at h; (try dsimp only [zG] at *); omega
  rw [hN'] at l1 ⊢
  clear l1 lB hi' h hN'
  cbv
  refine z5 (σ := Nat) (fun i => ⟨[(1, .ptr 1 0), (3, .osl 3 4 (fun _ => 0) (fun _ => (C i).length)), (6, .int .i64 (fun _ => (i : Int)))], [(1, .box [.int .i64 (fun _ => gn), alv us, alv os, rlv lo, rlv hi, alv rows, tsv ts, .bool (fun _ => c1), nat c2, nat c3, dlv path, llv L]), (3, .arr 4 (fun _ => enc rwc (C i)))]⟩)
   (fun i => i ≤ path.length) (fun i => path.length - i) 0 (Nat.zero_le _) (wkY (by cbv; repeat' first | exact trivial | exact lR | exact zD om | exact z3 rfl (by first | rfl | (rw [c0]; done) | (simp [zR, zA]; done) | (rw [c0]; simp [zR, zA]; done)) | exact zJ (by first | rfl | (rw [c0]; done) | (rw [c0]; rfl) | (rw [← z8]; rfl) | (rw [c0, ← z8]; rfl)) | apply And.intro)) ?_
  intro i hi'
  have l1 := lC i hi'
  cbv
  refine zF (fun h => ?_) (fun h => ?_)
  ·have hlt : i < path.length := by rw [zA] at h; (try dsimp only [zG] at *); omega
   obtain ⟨V, W, cF, f⟩ := fms' i
   clear fms' bsts lC lD fa1 fb1
   generalize C i = X at *
   cbv
   refine cA cF ?_
   cbv
   refine zT (fun e => ?_) (fun e => ?_)
   ·rw [if_pos e] at f
    cbv
    refine aO j7 ?_
    cbv
    exact ⟨zH om om, i + 1, (by show i + 1 ≤ path.length; omega), (by show path.length - (i + 1) < path.length - i; omega), wkY (by cbv; repeat' first | exact trivial | exact lR | exact zD om | exact z3 rfl (by first | rfl | (rw [f]; done) | (simp [zR, zA]; done) | (rw [f]; simp [zR, zA]; done)) | exact zJ (by first | rfl | (rw [f]; done) | (rw [f]; rfl) | (rw [← z8]; rfl) | (rw [f, ← z8]; rfl)) | apply And.intro)⟩
   ·rw [if_neg (by rw [e]; decide), List.append_nil] at f
    cbv
    exact ⟨zH om om, i + 1, (by show i + 1 ≤ path.length; omega), (by show path.length - (i + 1) < path.length - i; omega), wkY (by cbv; repeat' first | exact trivial | exact lR | exact zD om | exact z3 rfl (by first | rfl | (rw [f]; done) | (simp [zR, zA]; done) | (rw [f]; simp [zR, zA]; done)) | exact zJ (by first | rfl | (rw [f]; done) | (rw [f]; rfl) | (rw [← z8]; rfl) | (rw [f, ← z8]; rfl)) | apply And.intro)⟩
  have hN' : i = path.length := by rw [zA] at h; (try dsimp only [zG] at *); omega
  rw [hN'] at l1 ⊢
  clear l1 lC hi' h hN' fms'
  cbv
  refine z5 (σ := Nat) (fun j => ⟨[(1, .ptr 1 0), (3, .osl 3 4 (fun _ => 0) (fun _ => (D j).length)), (10, .int .i64 (fun _ => (j : Int)))], [(1, .box [.int .i64 (fun _ => gn), alv us, alv os, rlv lo, rlv hi, alv rows, tsv ts, .bool (fun _ => c1), nat c2, nat c3, dlv path, llv L]), (3, .arr 4 (fun _ => enc rwc (D j)))]⟩)
   (fun j => j ≤ us.length) (fun j => us.length - j) 0 (Nat.zero_le _) (wkY (by cbv; repeat' first | exact trivial | exact lR | exact zD om | exact z3 rfl (by first | rfl | (rw [d0]; done) | (simp [zR, zA]; done) | (rw [d0]; simp [zR, zA]; done)) | exact zJ (by first | rfl | (rw [d0]; done) | (rw [d0]; rfl) | (rw [← z8]; rfl) | (rw [d0, ← z8]; rfl)) | apply And.intro)) ?_
  intro j hj
  have l1 := lD j hj
  cbv
  refine zF (fun h => ?_) (fun h => ?_)
  ·have hlt : j < us.length := by rw [zA] at h; (try dsimp only [zG] at *); omega
   obtain ⟨b1, b2, on, off, d1, d2, ron, rof, cB, cP, cD1, cD2, z1, z2, f, o1, o2, o3, o4⟩ := bsts j
   clear bsts lD fa1 fb1
   have fin : ∀ X', D j ++ X' = D (j + 1) → (D (j + 1)).length = (D j ++ X').length ∧ enc rwc (D (j + 1)) = enc rwc (D j ++ X') := fun X' h => by rw [h]; exact ⟨rfl, rfl⟩
   have hlen3 : ron.length ≤ 3 := by cases hd : d1 with
    | true => rw [o1 hd]; simp
    | false => rw [o2 hd]; simp
   have hlen4 : rof.length ≤ 3 := by cases hd : d2 with
    | true => rw [o3 hd]; simp
    | false => rw [o4 hd]; simp
   generalize hX : D j = X at *
   cbv
   refine cA cB ?_
   cbv
   refine cA cP ?_
   cbv
   refine mX (σ := List Row) (fun Y => ⟨[(1, .ptr 1 0), (3, .osl 3 4 (fun _ => 0) (fun _ => (Y).length)), (10, .int .i64 (fun _ => (j : Int))), (11, .int .i64 (fun _ => (b1 : Int))), (12, .int .i64 (fun _ => (b2 : Int))), (13, .bool (fun _ => on)), (14, .bool (fun _ => off))], [(1, .box [.int .i64 (fun _ => gn), alv us, alv os, rlv lo, rlv hi, alv rows, tsv ts, .bool (fun _ => c1), nat c2, nat c3, dlv path, llv L]), (3, .arr 4 (fun _ => enc rwc (Y)))]⟩) (fun Y => Y = X ++ (if on = true then ron else [])) (fun e => ?_) (fun e => ?_) (fun Y hY => ?_)
   ·cbv
    refine cA cD1 ?_
    cbv
    refine zT (fun e' => ?_) (fun e' => ?_)
    ·cbv
     refine aO j7 ?_
     cbv
     refine ⟨X ++ [⟨6, j, 0, 0⟩, ⟨7, j, 0, 0⟩, ⟨8, j, 0, 0⟩], by rw [if_pos e, o1 e'], wkY (by cbv; repeat' first | exact trivial | exact lR | exact zD om | exact z3 rfl (by first | rfl | (rw [e]; done) | (simp [zR, zA]; done) | (rw [e]; simp [zR, zA]; done)) | exact zJ (by first | rfl | (rw [e]; done) | (rw [e]; rfl) | (rw [← z8]; rfl) | (rw [e, ← z8]; rfl)) | apply And.intro)⟩
    ·cbv
     refine aO j7 ?_
     cbv
     refine ⟨X ++ [⟨6, j, 0, 0⟩, ⟨7, j, (b1 : Int), 0⟩, ⟨8, j, (b1 : Int), 0⟩], by rw [if_pos e, o2 e'], wkY (by cbv; repeat' first | exact trivial | exact lR | exact zD om | exact z3 rfl (by first | rfl | (rw [e]; done) | (simp [zR, zA]; done) | (rw [e]; simp [zR, zA]; done)) | exact zJ (by first | rfl | (rw [e]; done) | (rw [e]; rfl) | (rw [← z8]; rfl) | (rw [e, ← z8]; rfl)) | apply And.intro)⟩
   ·cbv
    exact ⟨X, by rw [if_neg (by rw [e]; decide), List.append_nil], wkY (by cbv; repeat' first | exact trivial | exact lR | exact zD om | exact z3 rfl (by first | rfl | (rw [e]; done) | (simp [zR, zA]; done) | (rw [e]; simp [zR, zA]; done)) | exact zJ (by first | rfl | (rw [e]; done) | (rw [e]; rfl) | (rw [← z8]; rfl) | (rw [e, ← z8]; rfl)) | apply And.intro)⟩
   have ly : Y.length ≤ 100000003 := by rw [hY, List.length_append]; split <;> (try simp only [List.length_nil]) <;> omega
   cbv
   refine mX (σ := List Row) (fun Y' => ⟨[(1, .ptr 1 0), (3, .osl 3 4 (fun _ => 0) (fun _ => (Y').length)), (10, .int .i64 (fun _ => (j : Int))), (11, .int .i64 (fun _ => (b1 : Int))), (12, .int .i64 (fun _ => (b2 : Int))), (13, .bool (fun _ => on)), (14, .bool (fun _ => off))], [(1, .box [.int .i64 (fun _ => gn), alv us, alv os, rlv lo, rlv hi, alv rows, tsv ts, .bool (fun _ => c1), nat c2, nat c3, dlv path, llv L]), (3, .arr 4 (fun _ => enc rwc (Y')))]⟩) (fun Y' => Y' = Y ++ (if off = true then rof else [])) (fun e => ?_) (fun e => ?_) (fun Y' hY' => ?_)
   ·cbv
    refine cA cD2 ?_
    cbv
    refine zT (fun e' => ?_) (fun e' => ?_)
    ·cbv
     refine aO j7 ?_
     cbv
     refine ⟨Y ++ [⟨5, j, 0, 0⟩, ⟨9, j, 0, 0⟩, ⟨10, j, 0, 0⟩], by rw [if_pos e, o3 e'], wkY (by cbv; repeat' first | exact trivial | exact lR | exact zD om | exact z3 rfl (by first | rfl | (rw [e]; done) | (simp [zR, zA]; done) | (rw [e]; simp [zR, zA]; done)) | exact zJ (by first | rfl | (rw [e]; done) | (rw [e]; rfl) | (rw [← z8]; rfl) | (rw [e, ← z8]; rfl)) | apply And.intro)⟩
    ·cbv
     refine aO j7 ?_
     cbv
     refine ⟨Y ++ [⟨5, j, 0, 0⟩, ⟨9, j, 0, (b2 : Int)⟩, ⟨10, j, 0, (b2 : Int)⟩], by rw [if_pos e, o4 e'], wkY (by cbv; repeat' first | exact trivial | exact lR | exact zD om | exact z3 rfl (by first | rfl | (rw [e]; done) | (simp [zR, zA]; done) | (rw [e]; simp [zR, zA]; done)) | exact zJ (by first | rfl | (rw [e]; done) | (rw [e]; rfl) | (rw [← z8]; rfl) | (rw [e, ← z8]; rfl)) | apply And.intro)⟩
   ·cbv
    exact ⟨Y, by rw [if_neg (by rw [e]; decide), List.append_nil], wkY (by cbv; repeat' first | exact trivial | exact lR | exact zD om | exact z3 rfl (by first | rfl | (rw [e]; done) | (simp [zR, zA]; done) | (rw [e]; simp [zR, zA]; done)) | exact zJ (by first | rfl | (rw [e]; done) | (rw [e]; rfl) | (rw [← z8]; rfl) | (rw [e, ← z8]; rfl)) | apply And.intro)⟩
   have ly' : Y'.length ≤ 100000006 := by rw [hY', List.length_append]; split <;> (try simp only [List.length_nil]) <;> omega
   have f' : D (j + 1) = Y' ++ (if on = true ∨ off = true then [] else [⟨5, j, 0, 0⟩, ⟨6, j, 0, 0⟩] ++ (if 0 < b1 then [⟨11, j, (b1 : Int), 0⟩] else []) ++ (if 0 < b2 then [⟨12, j, 0, (b2 : Int)⟩] else []) ++ (if 0 < b1 ∧ 0 < b2 then [⟨13, j, (b1 : Int), (b2 : Int)⟩] else [])) := by
    rw [f, hY', hY]; simp only [List.append_assoc]
   clear f hY hY' o1 o2 o3 o4 cB cP cD1 cD2 fin hX l1 ly hlen3 hlen4
   cbv
   refine z4 (fun e1 => ?_) (fun e1 => ?_)
   ·rw [if_pos (.inl e1), List.append_nil] at f'
    cbv
    exact ⟨zH om om, j + 1, (by show j + 1 ≤ us.length; omega), (by show us.length - (j + 1) < us.length - j; omega), wkY (by cbv; repeat' first | exact trivial | exact lR | exact zD om | exact z3 rfl (by first | rfl | (rw [f']; done) | (simp [zR, zA]; done) | (rw [f']; simp [zR, zA]; done)) | exact zJ (by first | rfl | (rw [f']; done) | (rw [f']; rfl) | (rw [← z8]; rfl) | (rw [f', ← z8]; rfl)) | apply And.intro)⟩
   cbv
   refine zT (fun e2 => ?_) (fun e2 => ?_)
   ·rw [if_pos (.inr e2), List.append_nil] at f'
    cbv
    exact ⟨zH om om, j + 1, (by show j + 1 ≤ us.length; omega), (by show us.length - (j + 1) < us.length - j; omega), wkY (by cbv; repeat' first | exact trivial | exact lR | exact zD om | exact z3 rfl (by first | rfl | (rw [f']; done) | (simp [zR, zA]; done) | (rw [f']; simp [zR, zA]; done)) | exact zJ (by first | rfl | (rw [f']; done) | (rw [f']; rfl) | (rw [← z8]; rfl) | (rw [f', ← z8]; rfl)) | apply And.intro)⟩
   rw [if_neg (by rw [e1, e2]; decide)] at f'
   cbv
   refine aO j7 ?_
   cbv
   refine zF (fun e3 => ?_) (fun e3 => ?_)
   ·have p1 : 0 < b1 := by (try dsimp only [zG] at *); omega
    rw [if_pos p1] at f'
    cbv
    refine aO j7 ?_
    cbv
    refine zF (fun e4 => ?_) (fun e4 => ?_)
    ·have p2 : 0 < b2 := by (try dsimp only [zG] at *); omega
     rw [if_pos p2] at f'
     rw [if_pos ⟨p1, p2⟩] at f'
     cbv
     refine aO j7 ?_
     cbv
     refine x7 om ?_
     cbv
     refine xO om ?_
     cbv
     refine aO j7 ?_
     cbv
     exact ⟨zH om om, j + 1, (by show j + 1 ≤ us.length; omega), (by show us.length - (j + 1) < us.length - j; omega), wkY (by cbv; repeat' first | exact trivial | exact lR | exact zD om | exact z3 rfl (by rw [f']; simp [zR, zA]) | exact zJ (by rw [f']; simp only [← z8, List.append_assoc]; rfl) | apply And.intro)⟩
    ·have p2 : ¬ 0 < b2 := by (try dsimp only [zG] at *); omega
     rw [if_neg p2] at f'
     rw [if_neg (fun g => p2 g.2)] at f'
     cbv
     refine x7 om ?_
     cbv
     refine z6 om ?_
     cbv
     exact ⟨zH om om, j + 1, (by show j + 1 ≤ us.length; omega), (by show us.length - (j + 1) < us.length - j; omega), wkY (by cbv; repeat' first | exact trivial | exact lR | exact zD om | exact z3 rfl (by rw [f']; simp [zR, zA]) | exact zJ (by rw [f']; simp only [← z8, List.append_assoc]; rfl) | apply And.intro)⟩
   ·have p1 : ¬ 0 < b1 := by (try dsimp only [zG] at *); omega
    rw [if_neg p1] at f'
    cbv
    refine zF (fun e4 => ?_) (fun e4 => ?_)
    ·have p2 : 0 < b2 := by (try dsimp only [zG] at *); omega
     rw [if_pos p2] at f'
     rw [if_neg (fun g => p1 g.1)] at f'
     cbv
     refine aO j7 ?_
     cbv
     refine zZ om ?_
     cbv
     exact ⟨zH om om, j + 1, (by show j + 1 ≤ us.length; omega), (by show us.length - (j + 1) < us.length - j; omega), wkY (by cbv; repeat' first | exact trivial | exact lR | exact zD om | exact z3 rfl (by rw [f']; simp [zR, zA]) | exact zJ (by rw [f']; simp only [← z8, List.append_assoc]; rfl) | apply And.intro)⟩
    ·have p2 : ¬ 0 < b2 := by (try dsimp only [zG] at *); omega
     rw [if_neg p2] at f'
     rw [if_neg (fun g => p1 g.1)] at f'
     cbv
     refine zZ om ?_
     cbv
     exact ⟨zH om om, j + 1, (by show j + 1 ≤ us.length; omega), (by show us.length - (j + 1) < us.length - j; omega), wkY (by cbv; repeat' first | exact trivial | exact lR | exact zD om | exact z3 rfl (by rw [f']; simp [zR, zA]) | exact zJ (by rw [f']; simp only [← z8, List.append_assoc]; rfl) | apply And.intro)⟩
  have hN' : j = us.length := by rw [zA] at h; (try dsimp only [zG] at *); omega
  rw [hN'] at l1 ⊢
  clear l1 lD hj h hN' bsts
  generalize D us.length = X at *
  have hT : ((enc rwc X).drop 0).take X.length = enc rwc X := by rw [List.drop_zero, ← zA rwc X, List.take_length]
  have hfr : 0 + X.length ≤ (enc rwc X).length := by rw [zA]; omega
  cbv
  refine cE _ (.trans (.le (ps' := ⟨[(2, .osl 3 4 (fun _ => 0) (fun _ => X.length))], [(3, .arr 4 (fun _ => enc rwc X))]⟩) ?_ ?_ rfl) (.frz 3 rfl rfl ?_ ?_)) rfl ?_
  ·cbv
   exact okA
  ·cbv
   exact ⟨zJ rfl, trivial⟩
  ·cbv
   repeat' first | exact trivial | exact ⟨hfr⟩ | apply And.intro
  ·cbv
   repeat' first | exact trivial | apply And.intro
  cbv
  exact zP hT
theorem remw (w : UInt8) : nx .i64 (irem (w.toNat : Int) 8) = (((w % 8).toNat : Nat) : Int) := by
 have h := w.toNat_lt
 unfold irem nx
 have e : Int.tmod (w.toNat : Int) 8 = ((w.toNat % 8 : Nat) : Int) := (Int.ofNat_tmod _ _).symm
 rw [e, UInt8.toNat_mod]
 show IntKind.wrap .i64 ((w.toNat % 8 : Nat) : Int) = ((w.toNat % 8 : Nat) : Int)
 have h8 : w.toNat % 8 < 8 := Nat.mod_lt _ (by decide)
 generalize w.toNat % 8 = k at *
 simp [IntKind.wrap, IntKind.signed, IntKind.bits]
 omega
theorem comb_fit {q : Rat} {r : Row} {acc : List (Row × Rat)} {i : Nat} (hq : Fits 1 q) (h : ∀ t, t ∈ acc → Fits (2 * i + 1) t.2) : ∀ t, t ∈ plMq acc r q → Fits (2 * (i + 1) + 1) t.2 := fun t ht => (plMq_fit hq h t ht).mono (by omega)
theorem frac8 (w : UInt8) : Fits 1 (wU ((w % 8).toNat : Int) 4) := by
 have h : (w % 8).toNat < 8 := by rw [UInt8.toNat_mod]; exact Nat.mod_lt _ (by decide)
 generalize (w % 8).toNat = k at *
 have : ∀ k : Fin 8, (wU (k.val : Int) 4).num.natAbs < B ∧ (wU (k.val : Int) 4).den < B := by decide +kernel
 obtain ⟨h1, h2⟩ := this ⟨k, h⟩
 exact ⟨by simpa using h1, by simpa using h2⟩
theorem sLwComb (s : Scp) (ws : List UInt8) (hs : s.sz (2^20)) (hn : s.q.g.n ≤ 1000000) (hr : s.q.r.rows.length ≤ 1000000) (hp : s.path.length ≤ 1000000) (hu : s.q.g.us.length ≤ 1000000) (hw : ws.length ≤ 1000) :
  zC 23 [sv s, u8v ws] (mlv (mR (kX s.all ws []))) := by
 refine sF Tryz.f23 ?_
 have ca := sR21All s hs hn hr hp hu
 have cfr := fun w : UInt8 => s43 ((w % 8).toNat : Int) 4 (by omega) (by have := (w % 8).toNat_lt; omega) (by decide) (by decide) (by decide)
 have cpl : ∀ (acc : List (Row × Rat)) (r : Row) (w : UInt8) (i : Nat), i ≤ 1000 → acc.length ≤ i → (∀ t, t ∈ acc → Fits (2 * i + 1) t.2) → zC 61 [mlv (mR acc), rwv r, rv (zE (wU ((w % 8).toNat : Int) 4))] (mlv (mR (plMq acc r (wU ((w % 8).toNat : Int) 4)))) := fun acc r w i hi hl hf => by
  have := sPlM acc r (zE (wU ((w % 8).toNat : Int) 4)) ⟨by omega, fun t ht => (hf t ht).mono (by omega)⟩ ((zY (frac8 w)).mono (by decide))
  rw [zW] at this
  exact this
 have hf8 := frac8
 generalize s.all = R at *
 obtain ⟨res, hres⟩ : ∃ x, kX R ws [] = x := ⟨_, rfl⟩
 rw [hres]
 have hC0 : ∀ (w : UInt8), 0 < 4 := fun _ => by decide
 obtain ⟨cm, hcm⟩ : ∃ c, kX = c := ⟨_, rfl⟩
 have k1 : ∀ r rs w ws l, cm (r :: rs) (w :: ws) l = cm rs ws (plMq l r (wU ((w % 8).toNat : Int) 4)) := fun r rs w ws l => by rw [← hcm]; rfl
 have k2 : ∀ ws l, cm [] ws l = l := fun ws l => by rw [← hcm]; unfold kX; rfl
 have k3 : ∀ rs l, cm rs [] l = l := fun rs l => by rw [← hcm]; cases rs <;> rfl
 rw [hcm] at hres
 obtain ⟨⟨⟨gn, us, os⟩, ⟨lo, hi, rows⟩, ⟨ts, c1, c2, c3⟩⟩, path, L⟩ := s
 clear hs hn hr hp hu hcm hC0
 cbv
 refine cA ca ?_
 cbv
 refine z5 (σ := Nat × List (Row × Rat)) (fun st => ⟨[(1, u8v ws), (5, rsv R), (6, mlv (mR st.2)), (7, .int .i64 (fun _ => (st.1 : Int)))], []⟩)
  (fun st => st.1 ≤ R.length ∧ st.1 ≤ ws.length ∧ cm (R.drop st.1) (ws.drop st.1) st.2 = res ∧ st.2.length ≤ st.1 ∧ ∀ t, t ∈ st.2 → Fits (2 * st.1 + 1) t.2) (fun st => ws.length - st.1)
  (0, []) ⟨Nat.zero_le _, Nat.zero_le _, hres, Nat.le_refl _, fun t ht => absurd ht (by simp)⟩ (wkZ) ?_
 intro st hst
 obtain ⟨i, acc⟩ := st
 obtain ⟨h1, h2, h3, h4, h5⟩ := hst
 dsimp only at h1 h2 h3 h4 h5
 clear hres
 have done : ¬ (i < R.length ∧ i < ws.length) → acc = res := fun h => by
  rw [← h3]
  by_cases e : i < R.length
  ·rw [show ws.drop i = [] from List.drop_eq_nil_of_le (by omega), k3]
  ·rw [show R.drop i = [] from List.drop_eq_nil_of_le (by omega), k2]
 cbv
 refine zQ (fun e1 => ?_) (fun e1 => ?_)
 ·have lt1 := gC e1
  cbv
  refine zF (fun e2 => ?_) (fun e2 => ?_)
  ·have lt2 := gC e2
   obtain ⟨r, hr⟩ := zX lt1
   obtain ⟨w, hw'⟩ := zX lt2
   have c1' := cfr w
   have c2' := cpl acc r w i (by omega) h4 h5
   rw [yB hr, yB hw', k1] at h3
   have f1 := comb_fit (r := r) (hf8 w) h5
   have f2 := plM_len' r (wU ((w % 8).toNat : Int) 4) acc
   have f3 := remw w
   have hw8 := w.toNat_lt
   clear cfr cpl hf8 k1 k2 k3 done
   generalize plMq acc r (wU ((w % 8).toNat : Int) 4) = acc' at *
   generalize zE (wU ((w % 8).toNat : Int) 4) = V at *
   cbv
   refine yV hw' lU nY ?_
   cbv
   refine ⟨vI om, ?_⟩
   cbv
   refine yQ rfl (by exact ⟨zD f3, lR, trivial⟩) c1' rfl ?_
   cbv
   refine zO 6 (by cbv) ?_
   cbv
   refine yV hr rwc_flat rwc_len ?_
   cbv
   refine cA c2' ?_
   cbv
   exact ⟨zH om om, (i + 1, acc'), ⟨by show i + 1 ≤ R.length; omega, by show i + 1 ≤ ws.length; omega, h3, by show acc'.length ≤ i + 1; omega, f1⟩, (by show ws.length - (i + 1) < ws.length - i; omega), wkZ⟩
  ·have := done (fun h => by have := aY e2 h2; omega)
   subst this
   cbv
   (refine rC ?_; cbv)
   exact lR
 ·have := done (fun h => by have := aY e1 h1; omega)
  subst this
  cbv
  (refine rC ?_; cbv)
  exact lR
def rW (r : Row) : Nat := if 5 ≤ r.k then 4 * KK r.i.toNat + 66 else 206
def sW : List Row → Nat
 | [] => 0
 | r :: rs => rW r + sW rs
theorem aE : ∀ a b, sW (a ++ b) = sW a + sW b
 | [], b => by show sW b = 0 + sW b; omega
 | r :: a, b => by show rW r + sW (a ++ b) = rW r + sW a + sW b; rw [aE a b]; omega
theorem sW_le {B : Nat} : ∀ {l : List Row}, (∀ r, r ∈ l → rW r ≤ B) → sW l ≤ B * l.length
 | [], _ => by simp [sW]
 | r :: l, h => by
  have h1 := h r List.mem_cons_self
  have h2 := sW_le fun u hu => h u (List.mem_cons_of_mem _ hu)
  show rW r + sW l ≤ _
  rw [List.length_cons, Nat.mul_succ]
  omega
theorem comb_wt {s : Scp} : ∀ {rs : List Row} {ws : List UInt8} {l : List (Row × Rat)} {N : Nat}, (∀ r, r ∈ rs → ∀ f, s.fm r = some f → f.fl (rW r - 6) 3000) → (∀ r, r ∈ rs → 6 ≤ rW r) → Wt s l N → ∃ M, M ≤ N + sW rs ∧ Wt s (kX rs ws l) M
 | [], ws, l, N, _, _, h => ⟨N, Nat.le_refl _, by unfold kX; exact h⟩
 | r :: rs, [], l, N, _, _, h => ⟨N, Nat.le_add_right _ _, by unfold kX; exact h⟩
 | r :: rs, w :: ws, l, N, hf, h6, h => by
  obtain ⟨M, h1, h2⟩ := Wt.plMq (frac8 w) (hf r List.mem_cons_self) h
  obtain ⟨M', h3, h4⟩ := comb_wt (ws := ws) (fun u hu => hf u (List.mem_cons_of_mem _ hu)) (fun u hu => h6 u (List.mem_cons_of_mem _ hu)) h2
  have := h6 r List.mem_cons_self
  refine ⟨M', ?_, h4⟩
  show M' ≤ N + (rW r + sW rs)
  omega
theorem rW_six (r : Row) : 6 ≤ rW r := by unfold rW; split <;> omega
theorem comb_coef : ∀ {rs : List Row} {ws : List UInt8} {l : List (Row × Rat)} {i : Nat}, (∀ t, t ∈ l → Fits (2 * i + 1) t.2) → l.length ≤ i → (∀ t, t ∈ kX rs ws l → Fits (2 * (i + ws.length) + 1) t.2) ∧ (kX rs ws l).length ≤ i + ws.length
 | [], ws, l, i, h, hl => by unfold kX; exact ⟨fun t ht => (h t ht).mono (by omega), by omega⟩
 | r :: rs, [], l, i, h, hl => by unfold kX; exact ⟨fun t ht => (h t ht).mono (by omega), by omega⟩
 | r :: rs, w :: ws, l, i, h, hl => by
  have := comb_coef (rs := rs) (ws := ws) (l := plMq l r (wU ((w % 8).toNat : Int) 4)) (i := i + 1) (comb_fit (frac8 w) h) (by have := plMq_len l r (wU ((w % 8).toNat : Int) 4); omega)
  rw [List.length_cons, show i + (ws.length + 1) = i + 1 + ws.length by omega]
  exact this
theorem rowsU_all (s : Scp) (j : Int) : (s.rowsU j).all (fun r => decide (5 ≤ r.k) && decide (r.i = j)) = true := by
 unfold Scp.rowsU Scp.rowsOn Scp.rowsOff Scp.rowsOpen
 simp only [List.all_append, Bool.and_eq_true]
 refine ⟨⟨?_, ?_⟩, ?_⟩ <;> (repeat' split) <;> simp [List.all_append]
theorem rowsU_i (s : Scp) (j : Int) : ∀ r, r ∈ s.rowsU j → 5 ≤ r.k ∧ r.i = j := fun r hr => by
 have := List.all_eq_true.1 (rowsU_all s j) r hr
 simpa using this
theorem jP (s : Scp) (j : Nat) : sW (s.rowsU j) ≤ (4 * KK j + 66) * 12 := by
 have h := sW_le (B := 4 * KK j + 66) (l := s.rowsU j) fun r hr => by
  obtain ⟨h1, h2⟩ := rowsU_i s j r hr
  unfold rW
  rw [if_pos h1, h2, Int.toNat_natCast]
  exact Nat.le_refl _
 exact Nat.le_trans h (Nat.mul_le_mul_left _ (o8 s j))
theorem sW_units (s : Scp) : ∀ n, n ≤ 4 → sW ((List.range n).flatMap fun j : Nat => s.rowsU (j : Int)) ≤ 35140000
 | 0, _ => by simp [sW]
 | 1, _ => by
  have := jP s 0
  have e : KK 0 = 230 := rfl
  simp only [List.range_succ, List.range_zero, List.nil_append, List.flatMap_append, List.flatMap_cons, List.flatMap_nil, List.append_nil, aE]
  omega
 | 2, _ => by
  have h0 := jP s 0
  have h1 := jP s 1
  have e : KK 0 = 230 := rfl
  have e1 : KK 1 = 3450 := rfl
  simp only [List.range_succ, List.range_zero, List.nil_append, List.flatMap_append, List.flatMap_cons, List.flatMap_nil, List.append_nil, aE]
  omega
 | 3, _ => by
  have h0 := jP s 0
  have h1 := jP s 1
  have h2 := jP s 2
  have e : KK 0 = 230 := rfl
  have e1 : KK 1 = 3450 := rfl
  have e2 : KK 2 = 48530 := rfl
  simp only [List.range_succ, List.range_zero, List.nil_append, List.flatMap_append, List.flatMap_cons, List.flatMap_nil, List.append_nil, aE]
  omega
 | 4, _ => by
  have h0 := jP s 0
  have h1 := jP s 1
  have h2 := jP s 2
  have h3 := jP s 3
  have e : KK 0 = 230 := rfl
  have e1 : KK 1 = 3450 := rfl
  have e2 : KK 2 = 48530 := rfl
  have e3 : KK 3 = 679650 := rfl
  simp only [List.range_succ, List.range_zero, List.nil_append, List.flatMap_append, List.flatMap_cons, List.flatMap_nil, List.append_nil, aE]
  omega
 | n + 5, h => by omega
theorem sW_in {l : List Row} {m : Nat} (h : ∀ r, r ∈ l → r.k ≤ 4) (hl : l.length ≤ m) : sW l ≤ 206 * m := by
 refine Nat.le_trans (sW_le (B := 206) fun r hr => ?_) (Nat.mul_le_mul_left _ hl)
 have := h r hr
 unfold rW
 rw [if_neg (by omega)]
 exact Nat.le_refl _
theorem sW_all {s : Scp} {x : FQry} (hq : s.q = x.q) (hx : x.small) (hp : s.path.length ≤ 3) : sW s.all ≤ 35200000 := by
 unfold Scp.all
 split
 ·simp [sW]
 ·have hn : s.q.g.n.toNat = x.g.n := by rw [hq]; rfl
  have hr : s.q.r.rows.length = x.r.rows.length := by rw [hq]; show (List.map _ _).length = _; rw [List.length_map]
  have hu : s.q.g.us.length = x.g.us.length := by rw [hq]; show (List.map _ _).length = _; rw [List.length_map]
  have h1 := hx.g.n2
  have h2 := hx.r.rows
  have h3 := hx.g.us
  have a1 := sW_in (m := 6) (l := (List.range s.q.g.n.toNat).flatMap fun i : Nat => [(⟨1, (i : Int), 0, 0⟩ : Row), ⟨2, (i : Int), 0, 0⟩]) (fun r hr => by
   obtain ⟨i, _, hi⟩ := List.mem_flatMap.1 hr
   simp only [List.mem_cons, List.not_mem_nil, or_false] at hi
   rcases hi with rfl | rfl
   ·show (1 : Int) ≤ 4; decide
   ·show (2 : Int) ≤ 4; decide) (by
   rw [hn]
   have : ∀ n, ((List.range n).flatMap fun i : Nat => [(⟨1, (i : Int), 0, 0⟩ : Row), ⟨2, (i : Int), 0, 0⟩]).length = 2 * n := fun n => by
    induction n with
    | zero => rfl
    | succ n ih => rw [List.range_succ, List.flatMap_append, List.length_append, ih]; simp; omega
   rw [this]
   omega)
  have a2 := sW_in (m := 2) (l := (List.range s.q.r.rows.length).map fun i : Nat => (⟨3, (i : Int), 0, 0⟩ : Row)) (fun r hr => by
   obtain ⟨i, _, rfl⟩ := List.mem_map.1 hr
   show (3 : Int) ≤ 4; decide) (by rw [List.length_map, List.length_range]; omega)
  have a3 := sW_in (m := 3) (l := ((List.range s.path.length).filter fun i : Nat => (s.fm ⟨4, (i : Int), 0, 0⟩).isSome).map fun i : Nat => (⟨4, (i : Int), 0, 0⟩ : Row)) (fun r hr => by
   obtain ⟨i, _, rfl⟩ := List.mem_map.1 hr
   show (4 : Int) ≤ 4; decide) (by
   rw [List.length_map]
   have := List.length_filter_le (fun i : Nat => (s.fm ⟨4, (i : Int), 0, 0⟩).isSome) (List.range s.path.length)
   rw [List.length_range] at this
   omega)
  have a4 := sW_units s s.q.g.us.length (by omega)
  rw [aE, aE, aE]
  omega
theorem rW_fl {s : Scp} {x : FQry} (hq : s.q = x.q) (hx : x.small) (hp : Dsz 43 s.path) (hL : LB KK s.lems) (r : Row) (f : F) (h : s.fm r = some f) : f.fl (rW r - 6) 3000 := by
 unfold rW
 by_cases h5 : 5 ≤ r.k
 ·rw [if_pos h5]
  have h' := h
  unfold Scp.fm at h'
  split at h'
  ·cases h'
  rw [if_neg (by omega)] at h'
  unfold Scp.fUn at h'
  split at h'
  ·have hi' : r.i = ((r.i.toNat : Nat) : Int) := by omega
   exact (fm_un hq hx oF hL h5 hi' h).mono (by omega) (Nat.le_refl _)
  ·cases h'
 ·rw [if_neg h5]
  unfold Scp.fm at h
  split at h
  ·cases h
  rw [if_pos (by omega)] at h
  exact fIn_fl2 hq hx hp h
structure CombOk (s : Scp) (l : List (Row × Rat)) : Prop where
 rs : Rs l
 av : AV s l
 ok : SumOk s (mR l)
 sz : Msz (2^20) (mR l)
 len : (mR l).length ≤ 100
 coef : ∀ t, t ∈ l → Fits 100 t.2
theorem comb_all {raw ws : List UInt8} (hw : ws.length ≤ 30) : CombOk (fdS raw).bounded (kX (fdS raw).bounded.all ws []) := by
  have hx := y7 raw 0
  have hok := kS raw 0
  have hq := bnd_q raw
  have hp := eY raw
  have hL := (fQ raw).lb
  obtain ⟨c1, c2⟩ := comb_ok hq hx hok ws
  obtain ⟨c3, c4⟩ := comb_coef (rs := (fdS raw).bounded.all) (ws := ws) (l := []) (i := 0) (fun t ht => absurd ht (by simp)) (Nat.le_refl _)
  obtain ⟨M, m1, m2⟩ := comb_wt (s := (fdS raw).bounded) (rs := (fdS raw).bounded.all) (ws := ws) (l := []) (N := 0) (fun r _ => rW_fl hq hx hp hL r) (fun r _ => rW_six r) .nil
  have hpl : (fdS raw).bounded.path.length ≤ 3 := (tS raw).2
  have hs := sW_all hq hx hpl
  have c5 : ∀ t, t ∈ kX (fdS raw).bounded.all ws [] → Fits 100 t.2 := fun t ht => (c3 t ht).mono (by omega)
  have hl : (kX (fdS raw).bounded.all ws []).length ≤ 100 := by omega
  refine ⟨c1, c2, m2.sumOk (by have : (2:Nat)^26 = 67108864 := by decide
                               omega) (fun t ht f hf => (fm_all hq hx hp hL hf).mono (by decide) (Nat.le_refl _)) (fun t ht => (c5 t ht).mono (by decide)) (by omega), ⟨by rw [jF]; omega, fun m hm => ?_⟩, by rw [jF]; exact hl, c5⟩
  obtain ⟨t, ht, rfl⟩ := List.mem_map.1 hm
  exact (zY (c5 t ht)).mono (by decide)
theorem nx_u8 (w : UInt8) : nx .i64 (w.toNat : Int) = (w.toNat : Int) := by
 have h := w.toNat_lt
 unfold nx
 generalize w.toNat = k at *
 simp [IntKind.wrap, IntKind.signed, IntKind.bits]
 omega
theorem sLwComb' (raw ws : List UInt8) (hw : ws.length ≤ 30) : zC 23 [sv (fdS raw).bounded, u8v ws] (mlv (mR (kX (fdS raw).bounded.all ws []))) := by
 have hx := y7 raw 0
 refine sLwComb _ ws (jK raw) ?_ ?_ ?_ ?_ (by omega)
 ·have := hx.g.n2
  show ((fdY raw 0).1.g.n : Int) ≤ 1000000
  omega
 ·have := hx.r.rows
  show (List.map fA (fdY raw 0).1.r.rows).length ≤ 1000000
  rw [List.length_map]
  omega
 ·have := (tS raw).2
  show (fdS raw).path.length ≤ 1000000
  omega
 ·have := hx.g.us
  show (List.map fA (fdY raw 0).1.g.us).length ≤ 1000000
  rw [List.length_map]
  omega
theorem comb_sum0 {s : Scp} {l : List (Row × Rat)} (h : CombOk s l) : (s.sum (mR l)).1 = 0 := (tV h.rs h.av).1
theorem fA_sz {f : F} {k n : Nat} (h : f.fl k n) (hn : n < 2^38) : (fA f).sz k := (h.fit hn).fA
end Go.Proofs.YtcanljninhfmhaaGreat
