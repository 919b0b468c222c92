/- A part of the proof: SpA, SpB, SpC, SpD, SpE. -/
import Derived.Test.YtcanljninhfmhaaGreatS36
import Derived.Test.YtcanljninhfmhaaGreatS26
set_option linter.all false
namespace Go.Proofs.YtcanljninhfmhaaGreat
open Go
set_option linter.unusedVariables false
def fdN (raw : List UInt8) (n a : Nat) : Nat := match raw[a]? with
 | some b => b.toNat % n
 | none => 0
def na (raw : List UInt8) (a : Nat) : Nat := if a < raw.length then a + 1 else a
theorem fdN_lt {raw : List UInt8} {n a : Nat} (h : 0 < n) : fdN raw n a < n := by
 unfold fdN
 split
 ·exact Nat.mod_lt _ h
 ·exact h
theorem na_le {raw : List UInt8} {a : Nat} (h : a ≤ raw.length) : na raw a ≤ raw.length := by unfold na; split <;> omega
def dnm : Nat → Int
 | 0 => 1
 | 1 => 1
 | 2 => 2
 | _ => 4
theorem dnm_pos (k : Nat) : 1 ≤ dnm k ∧ dnm k ≤ 4 := by unfold dnm; split <;> decide
def fdQ (raw : List UInt8) (a : Nat) : Rat × Nat := (divZ ((fdN raw 9 a : Int) - 4) (dnm (fdN raw 4 (na raw a))), na raw (na raw a))
theorem fits_div {a b : Int} (h1 : a.natAbs < B) (h2 : 0 < b) (h3 : b.natAbs < B) : Fits 1 (divZ a b) := by
 obtain ⟨d, hd⟩ : ∃ d : Nat, b = (d : Int) := ⟨b.toNat, by omega⟩
 subst hd
 unfold divZ
 rw [Rat.divInt_ofNat]
 exact fits_mkRat (by rw [Nat.pow_one]; exact h1) (by rw [Nat.pow_one]; simpa using h3) (by omega)
theorem fdQ_fits (raw : List UInt8) (a : Nat) : Fits 1 (fdQ raw a).1 := by
 have h1 := fdN_lt (raw := raw) (n := 9) (a := a) (by decide)
 obtain ⟨h2, h3⟩ := dnm_pos (fdN raw 4 (na raw a))
 have hB : B = 4294967296 := rfl
 exact fits_div (by omega) (by omega) (by omega)
def fdFs (raw : List UInt8) : Nat → Nat → F → Nat → F × Nat
 | 0, _, f, a => (f, a)
 | n + 1, v, f, a => if 0 < fdN raw 3 a then fdFs raw n (v + 1) (f.add ((F.var v).scale (fdQ raw (na raw a)).1)) (fdQ raw (na raw a)).2 else fdFs raw n (v + 1) f (na raw a)
def fdF (raw : List UInt8) (n a : Nat) : F × Nat := fdFs raw n 0 (F.num (fdQ raw a).1) (fdQ raw a).2
theorem fdFs_fl (raw : List UInt8) : ∀ (n v : Nat) (f : F) (a k m : Nat), f.fl k m → (fdFs raw n v f a).1.fl (k + 6 * n) (m + n)
 | 0, _, _, _, _, _, h => h
 | n + 1, v, f, a, k, m, h => by
  unfold fdFs
  split
  ·exact (fdFs_fl raw n _ _ _ (k + 6) (m + 1) ((h.add ((var_fl _).scale (fdQ_fits raw _))).mono (by omega) (by omega))).mono (by omega) (by omega)
  ·exact (fdFs_fl raw n _ _ _ k m h).mono (by omega) (by omega)
theorem fdF_fl (raw : List UInt8) (n a : Nat) : (fdF raw n a).1.fl (1 + 6 * n) n := (fdFs_fl raw n 0 _ _ 1 0 (num_fl (fdQ_fits raw a))).mono (by omega) (by omega)
theorem fdQ_le {raw : List UInt8} {a : Nat} (h : a ≤ raw.length) : (fdQ raw a).2 ≤ raw.length := na_le (na_le h)
theorem fdFs_le {raw : List UInt8} : ∀ {n v : Nat} {f : F} {a : Nat}, a ≤ raw.length → (fdFs raw n v f a).2 ≤ raw.length
 | 0, _, _, _, h => h
 | n + 1, v, f, a, h => by
  unfold fdFs
  split
  ·exact fdFs_le (fdQ_le (na_le h))
  ·exact fdFs_le (na_le h)
theorem fdF_le {raw : List UInt8} {n a : Nat} (h : a ≤ raw.length) : (fdF raw n a).2 ≤ raw.length := fdFs_le (fdQ_le h)
def fdL (raw : List UInt8) (d : Nat) : Nat → Nat → Nat → List F × Nat
 | 0, _, a => ([], a)
 | n + 1, v, a => ((fdF raw v a).1 :: (fdL raw d n (v + d) (fdF raw v a).2).1, (fdL raw d n (v + d) (fdF raw v a).2).2)
theorem fdL_len (raw : List UInt8) (d : Nat) : ∀ n v a, (fdL raw d n v a).1.length = n
 | 0, _, _ => rfl
 | n + 1, v, a => by simp only [fdL, List.length_cons, fdL_len raw d n]
theorem fdL_le {raw : List UInt8} {d : Nat} : ∀ {n v a}, a ≤ raw.length → (fdL raw d n v a).2 ≤ raw.length
 | 0, _, _, h => h
 | n + 1, v, a, h => fdL_le (n := n) (fdF_le h)
theorem fdL_fl {raw : List UInt8} {d : Nat} : ∀ {n v a : Nat} {f : F}, f ∈ (fdL raw d n v a).1 → f.fl (1 + 6 * (v + d * n)) (v + d * n)
 | 0, _, _, f, h => absurd h (by simp [fdL])
 | n + 1, v, a, f, h => by
  simp only [fdL, List.mem_cons] at h
  have e : d * (n + 1) = d * n + d := Nat.mul_succ d n
  rcases h with rfl | h
  ·exact (fdF_fl raw v a).mono (by omega) (by omega)
  ·exact (fdL_fl h).mono (by omega) (by omega)
structure FGrp where
 n : Nat
 us : List F
 os : List F
def FGrp.g (x : FGrp) : Grp := ⟨x.n, x.us.map fA, x.os.map fA⟩
def fdG (raw : List UInt8) (a : Nat) : FGrp × Nat :=
 let n := 1 + fdN raw 3 a
 let a1 := na raw a
 let u := fdN raw 5 a1
 let a2 := na raw a1
 let o := 1 + fdN raw 3 a2
 let a3 := na raw a2
 let U := fdL raw 1 u n a3
 let O := fdL raw 0 o (n + u) U.2
 (⟨n, U.1, O.1⟩, O.2)
structure FGrp.small (x : FGrp) : Prop where
 n1 : 1 ≤ x.n
 n2 : x.n ≤ 3
 us : x.us.length ≤ 4
 o1 : 1 ≤ x.os.length
 o2 : x.os.length ≤ 3
 uf : ∀ f, f ∈ x.us → f.fl 43 7
 of : ∀ f, f ∈ x.os → f.fl 43 7
theorem fdG_small (raw : List UInt8) (a : Nat) : (fdG raw a).1.small := by
 have h1 := fdN_lt (raw := raw) (n := 3) (a := a) (by decide)
 have h2 := fdN_lt (raw := raw) (n := 5) (a := na raw a) (by decide)
 have h3 := fdN_lt (raw := raw) (n := 3) (a := na raw (na raw a)) (by decide)
 refine ⟨?_, ?_, ?_, ?_, ?_, fun f hf => ?_, fun f hf => ?_⟩
 ·show 1 ≤ 1 + fdN raw 3 a; omega
 ·show 1 + fdN raw 3 a ≤ 3; omega
 ·show (fdL raw 1 _ _ _).1.length ≤ 4; rw [fdL_len]; omega
 ·show 1 ≤ (fdL raw 0 _ _ _).1.length; rw [fdL_len]; omega
 ·show (fdL raw 0 _ _ _).1.length ≤ 3; rw [fdL_len]; omega
 ·have := fdL_fl (f := f) (raw := raw) (d := 1) hf
  exact this.mono (by omega) (by omega)
 ·have := fdL_fl (f := f) (raw := raw) (d := 0) hf
  exact this.mono (by omega) (by omega)
theorem fdG_le {raw : List UInt8} {a : Nat} (h : a ≤ raw.length) : (fdG raw a).2 ≤ raw.length := fdL_le (fdL_le (na_le (na_le (na_le h))))
end Go.Proofs.YtcanljninhfmhaaGreat

namespace Go.Proofs.YtcanljninhfmhaaGreat
open Go
set_option linter.unusedVariables false
def absQ (q : Rat) : Rat := if q < 0 then -q else q
theorem absQ_fits {k : Nat} {q : Rat} (h : Fits k q) : Fits k (absQ q) := by
 unfold absQ
 split
 ·exact fits_neg h
 ·exact h
def fdB (raw : List UInt8) : Nat → Nat → List (Rat × Rat) × Nat
 | 0, a => ([], a)
 | n + 1, a => (((fdQ raw a).1, (fdQ raw a).1 + absQ (fdQ raw (fdQ raw a).2).1) :: (fdB raw n (fdQ raw (fdQ raw a).2).2).1, (fdB raw n (fdQ raw (fdQ raw a).2).2).2)
theorem fdB_len (raw : List UInt8) : ∀ n a, (fdB raw n a).1.length = n
 | 0, _ => rfl
 | n + 1, a => by simp only [fdB, List.length_cons, fdB_len raw n]
theorem fdB_le {raw : List UInt8} : ∀ {n a}, a ≤ raw.length → (fdB raw n a).2 ≤ raw.length
 | 0, _, h => h
 | n + 1, a, h => fdB_le (n := n) (fdQ_le (fdQ_le h))
theorem fdB_fits {raw : List UInt8} : ∀ {n a : Nat} {x : Rat × Rat}, x ∈ (fdB raw n a).1 → Fits 3 x.1 ∧ Fits 3 x.2
 | 0, _, x, h => absurd h (by simp [fdB])
 | n + 1, a, x, h => by
  simp only [fdB, List.mem_cons] at h
  rcases h with rfl | h
  ·exact ⟨(fdQ_fits raw a).mono (by decide), (fits_add (fdQ_fits raw a) (absQ_fits (fdQ_fits raw _))).mono (by decide)⟩
  ·exact fdB_fits h
theorem fdB_ord {raw : List UInt8} : ∀ {n a : Nat} {x : Rat × Rat}, x ∈ (fdB raw n a).1 → x.1 ≤ x.2
 | 0, _, x, h => absurd h (by simp [fdB])
 | n + 1, a, x, h => by
  simp only [fdB, List.mem_cons] at h
  rcases h with rfl | h
  ·show (fdQ raw a).1 ≤ (fdQ raw a).1 + absQ _
   have : 0 ≤ absQ (fdQ raw (fdQ raw a).2).1 := by unfold absQ; split <;> grind
   grind
  ·exact fdB_ord h
structure FReg where
 bs : List (Rat × Rat)
 rows : List F
def FReg.g (x : FReg) : Reg := ⟨x.bs.map fun b => ratR b.1, x.bs.map fun b => ratR b.2, x.rows.map fA⟩
def fdR (raw : List UInt8) (n a : Nat) : FReg × Nat :=
 let b := fdB raw n a
 let k := fdN raw 3 b.2
 let l := fdL raw 0 k n (na raw b.2)
 (⟨b.1, l.1⟩, l.2)
structure FReg.small (x : FReg) (n : Nat) : Prop where
 bs : x.bs.length = n
 bf : ∀ b, b ∈ x.bs → Fits 3 b.1 ∧ Fits 3 b.2
 ord : ∀ b, b ∈ x.bs → b.1 ≤ b.2
 rows : x.rows.length ≤ 2
 rf : ∀ f, f ∈ x.rows → f.fl (1 + 6 * n) n
theorem fdR_small (raw : List UInt8) (n a : Nat) : (fdR raw n a).1.small n := by
 have h1 := fdN_lt (raw := raw) (n := 3) (a := (fdB raw n a).2) (by decide)
 refine ⟨fdB_len raw n a, fun b hb => fdB_fits hb, fun b hb => fdB_ord hb, ?_, fun f hf => ?_⟩
 ·show (fdL raw 0 _ _ _).1.length ≤ 2; rw [fdL_len]; omega
 ·have := fdL_fl (f := f) (raw := raw) (d := 0) hf
  exact this.mono (by omega) (by omega)
theorem fdR_le {raw : List UInt8} {n a : Nat} (h : a ≤ raw.length) : (fdR raw n a).2 ≤ raw.length := fdL_le (na_le (fdB_le h))
structure FQry where
 g : FGrp
 r : FReg
 goal : F
def FQry.q (x : FQry) : Qry := ⟨x.g.g, x.r.g, fA x.goal⟩
def fdY (raw : List UInt8) (a : Nat) : FQry × Nat :=
 let g := fdG raw a
 let r := fdR raw g.1.n g.2
 let f := fdF raw (g.1.n + g.1.us.length) r.2
 (⟨g.1, r.1, f.1⟩, f.2)
structure FQry.small (x : FQry) : Prop where
 g : x.g.small
 r : x.r.small x.g.n
 goal : x.goal.fl 43 7
theorem fdY_small (raw : List UInt8) (a : Nat) : (fdY raw a).1.small := by
 have hg := fdG_small raw a
 refine ⟨hg, fdR_small raw _ _, ?_⟩
 have h1 := hg.n2
 have h2 := hg.us
 show (fdF raw ((fdG raw a).1.n + (fdG raw a).1.us.length) (fdR raw (fdG raw a).1.n (fdG raw a).2).2).1.fl 43 7
 exact (fdF_fl raw _ _).mono (by omega) (by omega)
theorem fdY_le {raw : List UInt8} {a : Nat} (h : a ≤ raw.length) : (fdY raw a).2 ≤ raw.length := fdF_le (fdR_le (fdG_le h))
theorem fl_asz {l : List F} {k n : Nat} (hl : l.length < 2^38) (h : ∀ f, f ∈ l → f.fl k n) (hn : n < 2^38) : Asz k (l.map fA) := ⟨by simpa using hl, fun a ha => by
 obtain ⟨f, hf, rfl⟩ := List.mem_map.1 ha
 exact ((h f hf).fit hn).fA⟩
theorem FQry.small.sz {x : FQry} (h : x.small) : x.q.sz 43 where
 g := ⟨fl_asz (by have := h.g.us; omega) h.g.uf (by decide), fl_asz (by have := h.g.o2; omega) h.g.of (by decide)⟩
 r := ⟨⟨by show (x.r.bs.map _).length < _; rw [List.length_map, h.r.bs]; have := h.g.n2; omega, fun a ha => by
   obtain ⟨b, hb, rfl⟩ := List.mem_map.1 ha
   exact ratR_sz ((h.r.bf b hb).1.mono (by decide))⟩, ⟨by show (x.r.bs.map _).length < _; rw [List.length_map, h.r.bs]; have := h.g.n2; omega, fun a ha => by
   obtain ⟨b, hb, rfl⟩ := List.mem_map.1 ha
   exact ratR_sz ((h.r.bf b hb).2.mono (by decide))⟩,
  fl_asz (by have := h.r.rows; omega) (fun f hf => (h.r.rf f hf).mono (by have := h.g.n2; omega) (by have := h.g.n2; show _ ≤ 7; omega)) (by decide)⟩
 goal := (h.goal.fit (by decide)).fA
def fdPs (raw : List UInt8) (q : Qry) (n m : Nat) : Nat → List Dec → Nat → List Dec
 | 0, p, _ => p
 | k + 1, p, a =>
  let kd := 1 + fdN raw 4 a
  let a1 := na raw a
  if kd = 3 ∨ kd = 4 then fdPs raw q n m k (p ++ [⟨kd, fdN raw n a1, ratR (fdQ raw (na raw a1)).1⟩]) (fdQ raw (na raw a1)).2
  else if m = 0 then fdPs raw q n m k p a1
  else if (⟨q, p, []⟩ : Scp).dcd 1 (fdN raw m a1) = true ∨ (⟨q, p, []⟩ : Scp).dcd 2 (fdN raw m a1) = true then fdPs raw q n m k p (na raw a1)
  else fdPs raw q n m k (p ++ [⟨kd, fdN raw m a1, R0⟩]) (na raw a1)
def fdS (raw : List UInt8) : Scp :=
 let y := fdY raw 0
 ⟨y.1.q, fdPs raw y.1.q y.1.g.n y.1.g.us.length (fdN raw 4 y.2) [] (na raw y.2), []⟩
structure PathOk (n m : Nat) (p : List Dec) : Prop where
 d : ∀ d, d ∈ p → (d.k = 1 ∨ d.k = 2) ∧ 0 ≤ d.i ∧ d.i < m ∧ d.x = R0 ∨ (d.k = 3 ∨ d.k = 4) ∧ 0 ≤ d.i ∧ d.i < n ∧ ∃ q, Fits 1 q ∧ d.x = ratR q
theorem fdPs_ok {raw : List UInt8} {q : Qry} {n m : Nat} (hn : 0 < n) : ∀ {k a : Nat} {p : List Dec}, PathOk n m p → PathOk n m (fdPs raw q n m k p a) ∧ (fdPs raw q n m k p a).length ≤ p.length + k
 | 0, a, p, h => ⟨h, Nat.le_refl _⟩
 | k + 1, a, p, h => by
  have h4 := fdN_lt (raw := raw) (n := 4) (a := a) (by decide)
  unfold fdPs
  dsimp only
  split
  ·rename_i hk
   have hi := fdN_lt (raw := raw) (n := n) (a := na raw a) hn
   obtain ⟨g1, g2⟩ := fdPs_ok (raw := raw) (q := q) (m := m) hn (k := k) (a := (fdQ raw (na raw (na raw a))).2) (p := p ++ [⟨((1 + fdN raw 4 a : Nat) : Int), fdN raw n (na raw a), ratR (fdQ raw (na raw (na raw a))).1⟩]) ⟨fun d hd => by
    rcases List.mem_append.1 hd with hd | hd
    ·exact h.d d hd
    ·obtain rfl := List.mem_singleton.1 hd
     exact .inr ⟨by show ((1 + fdN raw 4 a : Nat) : Int) = 3 ∨ ((1 + fdN raw 4 a : Nat) : Int) = 4; omega, by show (0 : Int) ≤ (fdN raw n (na raw a) : Int); omega, by show (fdN raw n (na raw a) : Int) < _; omega, _, fdQ_fits raw _, rfl⟩⟩
   refine ⟨g1, ?_⟩
   rw [List.length_append, List.length_singleton] at g2
   omega
  ·rename_i hk
   split
   ·obtain ⟨g1, g2⟩ := fdPs_ok (raw := raw) (q := q) (m := m) hn (k := k) (a := na raw a) h
    exact ⟨g1, by omega⟩
   ·rename_i hm
    have hi := fdN_lt (raw := raw) (n := m) (a := na raw a) (by omega)
    split
    ·obtain ⟨g1, g2⟩ := fdPs_ok (raw := raw) (q := q) (m := m) hn (k := k) (a := na raw (na raw a)) h
     exact ⟨g1, by omega⟩
    ·obtain ⟨g1, g2⟩ := fdPs_ok (raw := raw) (q := q) (m := m) hn (k := k) (a := na raw (na raw a)) (p := p ++ [⟨((1 + fdN raw 4 a : Nat) : Int), fdN raw m (na raw a), R0⟩]) ⟨fun d hd => by
      rcases List.mem_append.1 hd with hd | hd
      ·exact h.d d hd
      ·obtain rfl := List.mem_singleton.1 hd
       exact .inl ⟨by show ((1 + fdN raw 4 a : Nat) : Int) = 1 ∨ ((1 + fdN raw 4 a : Nat) : Int) = 2; omega, by show (0 : Int) ≤ (fdN raw m (na raw a) : Int); omega, by show (fdN raw m (na raw a) : Int) < _; omega, rfl⟩⟩
     refine ⟨g1, ?_⟩
     rw [List.length_append, List.length_singleton] at g2
     omega
theorem fdS_path (raw : List UInt8) : PathOk (fdY raw 0).1.g.n (fdY raw 0).1.g.us.length (fdS raw).path ∧ (fdS raw).path.length ≤ 3 := by
 have h := (fdY_small raw 0).g.n1
 obtain ⟨g1, g2⟩ := fdPs_ok (raw := raw) (q := (fdY raw 0).1.q) (m := (fdY raw 0).1.g.us.length) (n := (fdY raw 0).1.g.n) (by omega) (k := fdN raw 4 (fdY raw 0).2) (a := na raw (fdY raw 0).2) (p := []) ⟨fun d hd => absurd hd (by simp)⟩
 have := fdN_lt (raw := raw) (n := 4) (a := (fdY raw 0).2) (by decide)
 exact ⟨g1, by
  have : (fdS raw).path.length ≤ 0 + fdN raw 4 (fdY raw 0).2 := g2
  omega⟩
theorem fdS_sz (raw : List UInt8) : (fdS raw).sz 43 := by
 obtain ⟨h1, h2⟩ := fdS_path raw
 refine ⟨(fdY_small raw 0).sz, ⟨by omega, fun d hd => ?_⟩, ⟨by show 0 < 2^38; decide, fun a ha => absurd ha (by simp [fdS]), fun a ha => absurd ha (by simp [fdS])⟩⟩
 rcases h1.d d hd with ⟨_, _, _, h⟩ | ⟨_, _, _, q, hq, h⟩
 ·rw [h]; exact ⟨Nat.zero_le _, Nat.zero_le _⟩
 ·rw [h]; exact ratR_sz (hq.mono (by decide))
end Go.Proofs.YtcanljninhfmhaaGreat

namespace Go.Proofs.YtcanljninhfmhaaGreat
open Go
set_option linter.unusedVariables false
structure F.wf (f : F) (n : Int) : Prop where
 cn : Cn f.ts
 v : ∀ t, t ∈ f.ts → 0 ≤ t.1 ∧ t.1 < n
theorem F.wf.merge {f g : F} {c : Rat} {n : Int} (hf : f.wf n) (hg : g.wf n) : (f.merge g c).wf n := ⟨hf.cn.mrg hg.cn, fun t ht => by
 rcases mrg_mem ht with ⟨u, hu, e⟩ | ⟨u, hu, e⟩
 ·rw [← e]; exact hf.v u hu
 ·rw [← e]; exact hg.v u hu⟩
theorem F.wf.num (q : Rat) (n : Int) : (F.num q).wf n := ⟨Cn.nil, fun t ht => absurd ht (by simp [F.num])⟩
theorem F.wf.var {v n : Int} (h1 : 0 ≤ v) (h2 : v < n) : (F.var v).wf n := ⟨Cn.nil.cons (by simp) (by show (1 : Rat) ≠ 0; decide), fun t ht => by
 have : t = (v, 1) := by simpa [F.var] using ht
 rw [this]; exact ⟨h1, h2⟩⟩
theorem F.wf.zero0 (n : Int) : (⟨[], 0⟩ : F).wf n := ⟨Cn.nil, fun t ht => absurd ht (by simp)⟩
theorem F.wf.scale {f : F} {c : Rat} {n : Int} (hf : f.wf n) : (f.scale c).wf n := F.wf.merge (F.wf.zero0 n) hf
theorem F.wf.add {f g : F} {n : Int} (hf : f.wf n) (hg : g.wf n) : (f.add g).wf n := hf.merge hg
theorem F.wf.mono {f : F} {n m : Int} (hf : f.wf n) (h : n ≤ m) : f.wf m := ⟨hf.cn, fun t ht => ⟨(hf.v t ht).1, by have := (hf.v t ht).2; omega⟩⟩
theorem fdFs_wf (raw : List UInt8) (N : Nat) : ∀ (n v : Nat) (f : F) (a : Nat), v + n ≤ N → f.wf N → (fdFs raw n v f a).1.wf N
 | 0, _, _, _, _, h => h
 | n + 1, v, f, a, hv, h => by
  unfold fdFs
  split
  ·exact fdFs_wf raw N n _ _ _ (by omega) (h.add (F.wf.var (by omega) (by omega)).scale)
  ·exact fdFs_wf raw N n _ _ _ (by omega) h
theorem fdF_wf (raw : List UInt8) (n a : Nat) : (fdF raw n a).1.wf n := fdFs_wf raw n n 0 _ _ (by omega) (F.wf.num _ _)
theorem fdL_wf {raw : List UInt8} {d : Nat} : ∀ {n v a : Nat} {i : Nat} {f : F}, (fdL raw d n v a).1[i]? = some f → f.wf ((v + i * d : Nat) : Int)
 | 0, _, _, i, f, h => by simp [fdL] at h
 | n + 1, v, a, 0, f, h => by
  simp only [fdL, List.getElem?_cons_zero, Option.some.injEq] at h
  rw [← h, Nat.zero_mul, Nat.add_zero]
  exact fdF_wf raw v a
 | n + 1, v, a, i + 1, f, h => by
  simp only [fdL, List.getElem?_cons_succ] at h
  have := fdL_wf h
  have e : (i + 1) * d = i * d + d := Nat.succ_mul i d
  rw [show v + (i + 1) * d = v + d + i * d by omega]
  exact this
def valAt (L : List Lem) (k : Nat) : Rat := ((L[k - 1]?).map fun m => m.v.q).getD 0
def bestG (L : List Lem) (unit : Int) : Nat → List Lem → Nat × Nat → Nat × Nat
 | _, [], b => b
 | n, m :: r, b => bestG L unit (n + 1) r (if m.u = unit then (if m.up = true then (if b.2 = 0 ∨ cmpQ m.v.q (valAt L b.2) < 0 then (b.1, n + 1) else b) else (if b.1 = 0 ∨ 0 < cmpQ m.v.q (valAt L b.1) then (n + 1, b.2) else b)) else b)
def Scp.best (s : Scp) (unit : Int) : Nat × Nat := bestG s.lems unit 0 s.lems (0, 0)
theorem bestG_spec {L : List Lem} {unit : Int} : ∀ {r : List Lem} {n : Nat} {b : Nat × Nat}, r = L.drop n → (∀ k, k = b.1 ∨ k = b.2 → k ≠ 0 → ∃ m, L[k - 1]? = some m ∧ m.u = unit) →
  ∀ k, k = (bestG L unit n r b).1 ∨ k = (bestG L unit n r b).2 → k ≠ 0 → ∃ m, L[k - 1]? = some m ∧ m.u = unit
 | [], n, b, _, hb => hb
 | m :: r, n, b, hr, hb => by
  have hm : L[n]? = some m := by
   have : (L.drop n)[0]? = some m := by rw [← hr]; rfl
   simpa using this
  have hr' : r = L.drop (n + 1) := by
   have : (L.drop n).drop 1 = L.drop (n + 1) := by rw [List.drop_drop]
   rw [← this, ← hr]; rfl
  unfold bestG
  refine bestG_spec hr' fun k hk hk0 => ?_
  split at hk
  ·rename_i hu
   have new : ∃ m, L[n + 1 - 1]? = some m ∧ m.u = unit := ⟨m, hm, hu⟩
   split at hk
   ·split at hk
    ·rcases hk with rfl | rfl
     ·exact hb _ (.inl rfl) hk0
     ·exact new
    ·exact hb k hk hk0
   ·split at hk
    ·rcases hk with rfl | rfl
     ·exact new
     ·exact hb _ (.inr rfl) hk0
    ·exact hb k hk hk0
  ·exact hb k hk hk0
theorem best_spec {s : Scp} {unit : Int} {k : Nat} (hk : k = (s.best unit).1 ∨ k = (s.best unit).2) (h0 : k ≠ 0) : ∃ m, s.lems[k - 1]? = some m ∧ m.u = unit :=
 bestG_spec (by simp) (fun k hk hk0 => by rcases hk with rfl | rfl <;> exact absurd rfl hk0) k hk h0
def mergeM (a b : List (Row × Rat)) (c : Rat) : List (Row × Rat) := b.foldl (fun a m => plMq a m.1 (m.2 * c)) a
def Scp.atLeastM (s : Scp) (v : Int) : List (Row × Rat) := if v < s.q.g.n then [(⟨1, v, 0, 0⟩, 1)] else [(⟨5, v - s.q.g.n, 0, 0⟩, 1)]
def upM (j : Int) (lo hi : Nat) (l u : Rat) : List (Row × Rat) :=
 if sgnQ u ≤ 0 then [(⟨10, j, 0, hi⟩, 1)]
 else if 0 ≤ sgnQ l then [(⟨8, j, lo, 0⟩, 1), (⟨12, j, 0, hi⟩, 1)]
 else [(⟨12, j, 0, hi⟩, (1 / (u - l)) * u), (⟨13, j, lo, hi⟩, 1 / (u - l))]
def Scp.atMostM (s : Scp) (v : Int) : Option (List (Row × Rat)) :=
 if v < s.q.g.n then some [(⟨2, v, 0, 0⟩, 1)]
 else if (s.best (v - s.q.g.n)).1 = 0 ∨ (s.best (v - s.q.g.n)).2 = 0 then none
 else some (upM (v - s.q.g.n) (s.best (v - s.q.g.n)).1 (s.best (v - s.q.g.n)).2 (valAt s.lems (s.best (v - s.q.g.n)).1) (valAt s.lems (s.best (v - s.q.g.n)).2))
def Scp.aboveL (s : Scp) : List (Int × Rat) → List (Row × Rat) → Option (List (Row × Rat))
 | [], l => some l
 | t :: r, l => match (if 0 < sgnQ t.2 then some (s.atLeastM t.1) else s.atMostM t.1) with
  | none => none
  | some more => s.aboveL r (mergeM l more (absQ t.2))
def Scp.above (s : Scp) (f : F) : Option (Rat × List (Row × Rat)) := (s.aboveL f.ts []).map fun l => ((f.sub (s.sum (mR l)).2).c, l)
def bndL (j : Int) (x y : Option (Rat × List (Row × Rat))) : List Lem :=
 (match x with
 | some v => [⟨j, false, ratR v.1, mR v.2⟩]
 | none => []) ++ (match y with
 | some w => [⟨j, true, ratR (-w.1), mR w.2⟩]
 | none => [])
def bndG (q : Qry) (path : List Dec) : List A → Nat → List Lem → List Lem
 | [], _, L => L
 | p :: r, j, L => bndG q path r (j + 1) (L ++ bndL j ((⟨q, path, L⟩ : Scp).above p.f) ((⟨q, path, L⟩ : Scp).above (p.f.scale (-1))))
def Scp.bounded (s : Scp) : Scp := ⟨s.q, s.path, bndG s.q s.path s.q.g.us 0 s.lems⟩
end Go.Proofs.YtcanljninhfmhaaGreat

namespace Go.Proofs.YtcanljninhfmhaaGreat
open Go
set_option linter.unusedVariables false
inductive Wt (s : Scp) : List (Row × Rat) → Nat → Prop
 | nil : Wt s [] 0
 | cons {r q l k g N} (hk : Fits k q) (hg : ∀ f, s.fm r = some f → f.fl g 3000) (h : Wt s l N) : Wt s ((r, q) :: l) (k + g + 5 + N)
theorem Wt.to {s l N M} (h : Wt s l N) (e : N = M) : Wt s l M := e ▸ h
theorem Wt.mem {s : Scp} : ∀ {l : List (Row × Rat)} {N : Nat}, Wt s l N → ∀ t, t ∈ l → Fits N t.2
 | _, _, .nil, t, ht => absurd ht (by simp)
 | _, _, .cons hk hg h, t, ht => by
  rcases List.mem_cons.1 ht with rfl | ht
  ·exact hk.mono (by omega)
  ·exact (h.mem t ht).mono (by omega)
theorem Wt.plM {s : Scp} {r : Row} {q : Rat} {k g : Nat} (hk : Fits k q) (hg : ∀ f, s.fm r = some f → f.fl g 3000) : ∀ {l : List (Row × Rat)} {N : Nat}, Wt s l N → ∃ M, M ≤ k + g + 5 + N ∧ Wt s (plM r q l) M
 | _, _, .nil => ⟨_, Nat.le_refl _, .cons hk hg .nil⟩
 | _, _, .cons (r := r') (q := q') (l := l) (k := k') (g := g') (N := N') hk' hg' h => by
  unfold Go.Proofs.YtcanljninhfmhaaGreat.plM
  split
  ·obtain ⟨M, h1, h2⟩ := Wt.plM hk hg h
   exact ⟨_, by omega, .cons hk' hg' h2⟩
  ·split
   ·rename_i e
    have e' : r' = r := e
    rw [e'] at hg'
    refine ⟨_, ?_, .cons (k := k' + k + 1) ((fits_add hk' hk).mono (by omega)) hg' h⟩
    omega
   ·exact ⟨_, by omega, .cons hk hg (.cons hk' hg' h)⟩
theorem Wt.plMq {s : Scp} {r : Row} {q : Rat} {k g : Nat} (hk : Fits k q) (hg : ∀ f, s.fm r = some f → f.fl g 3000) {l : List (Row × Rat)} {N : Nat} (h : Wt s l N) : ∃ M, M ≤ k + g + 5 + N ∧ Wt s (plMq l r q) M := by
 unfold Go.Proofs.YtcanljninhfmhaaGreat.plMq
 split
 ·exact ⟨N, by omega, h⟩
 ·exact Wt.plM hk hg h
theorem Wt.merge {s : Scp} {c : Rat} {kc : Nat} (hc : Fits kc c) : ∀ {b : List (Row × Rat)} {B : Nat} {a : List (Row × Rat)} {N : Nat}, Wt s b B → Wt s a N → ∃ M, M ≤ B + (kc + 2) * b.length + N ∧ Wt s (mergeM a b c) M
 | _, _, a, N, .nil, ha => ⟨N, by simp, ha⟩
 | _, _, a, N, .cons (r := r) (q := q) (l := l) (k := k) (g := g) (N := B) hk hg h, ha => by
  obtain ⟨M1, h1, h2⟩ := Wt.plMq (q := q * c) (fits_mul hk hc) hg ha
  obtain ⟨M, g1, g2⟩ := Wt.merge hc h h2
  refine ⟨M, ?_, g2⟩
  rw [List.length_cons, Nat.mul_succ]
  omega
theorem plM_len' (r : Row) (q : Rat) (l) : (plMq l r q).length ≤ l.length + 1 := by
 unfold plMq
 split
 ·omega
 ·exact plM_len r q l
theorem merge_len (c : Rat) : ∀ (b a : List (Row × Rat)), (mergeM a b c).length ≤ a.length + b.length
 | [], a => Nat.le_refl _
 | t :: b, a => by
  have h1 := merge_len c b (plMq a t.1 (t.2 * c))
  have h2 := plM_len' t.1 (t.2 * c) a
  have e : mergeM a (t :: b) c = mergeM (plMq a t.1 (t.2 * c)) b c := rfl
  rw [e, List.length_cons]
  omega
theorem Wt.sumL {s : Scp} : ∀ {l : List (Row × Rat)} {N : Nat}, Wt s l N → ∀ {acc f : F} {a n : Nat}, acc.fl a n → sumL s acc (mR l) = some f → f.fl (a + N) (n + 3000 * l.length)
 | _, _, .nil, acc, f, a, n, ha, h => by cases h; exact ha
 | _, _, .cons (r := r) (q := q) (l := l) (k := k) (g := g) (N := B) hk hg hw, acc, f, a, n, ha, h => by
  have e : mR ((r, q) :: l) = ⟨r, ratR q⟩ :: mR l := rfl
  rw [e] at h
  unfold Go.Proofs.YtcanljninhfmhaaGreat.sumL at h
  dsimp only at h
  split at h
  ·cases h
  ·rename_i f0 hf0
   rw [q_ratR] at h
   have := hw.sumL (ha.add ((hg f0 hf0).scale hk)) h
   exact this.mono (by omega) (by rw [List.length_cons, Nat.mul_succ]; omega)
theorem Wt.sum {s : Scp} {l : List (Row × Rat)} {N : Nat} (h : Wt s l N) : (s.sum (mR l)).2.fl (1 + N) (3000 * l.length) := by
 unfold Scp.sum
 split
 ·exact zero_fl.mono (by omega) (by omega)
 ·split
  ·exact zero_fl.mono (by omega) (by omega)
  ·rename_i f hf
   exact (h.sumL zero_fl hf).mono (by omega) (by omega)
end Go.Proofs.YtcanljninhfmhaaGreat

namespace Go.Proofs.YtcanljninhfmhaaGreat
open Go
set_option linter.unusedVariables false
def LB (K : Nat → Nat) (L : List Lem) : Prop := ∀ m, m ∈ L → ∃ i : Nat, m.u = i ∧ Fits (K i) m.v.q
theorem lem_lb {K : Nat → Nat} {s : Scp} (hK : ∀ i, 1 ≤ K i) (h : LB K s.lems) (k : Int) (i : Nat) (up : Bool) : Fits (K i) ((s.lem k i up).getD 0) := by
 unfold Scp.lem
 split
 ·split
  ·rename_i m hm
   split
   ·rename_i e
    obtain ⟨i', e', hf⟩ := h m (List.mem_of_getElem? hm)
    have : i' = i := by have := e.1; omega
    rw [this] at hf
    exact hf
   ·exact fits_zero (hK i)
  ·exact fits_zero (hK i)
 ·exact fits_zero (hK i)
theorem val_lb {K : Nat → Nat} {s : Scp} (h : LB K s.lems) {i k : Nat} (hk : k = (s.best i).1 ∨ k = (s.best i).2) (h0 : k ≠ 0) : Fits (K i) (valAt s.lems k) := by
 obtain ⟨m, hm, hu⟩ := best_spec hk h0
 obtain ⟨i', e', hf⟩ := h m (List.mem_of_getElem? hm)
 have : i' = i := by omega
 rw [this] at hf
 unfold valAt
 rw [hm]
 exact hf
theorem fm_in {s : Scp} {x : FQry} (hq : s.q = x.q) (hx : x.small) {r : Row} (hr : r.k = 1 ∨ r.k = 2) {f : F} (h : s.fm r = some f) : f.fl 6 3000 := by
 unfold Scp.fm at h
 split at h
 ·cases h
 rw [if_pos (by omega)] at h
 unfold Scp.fIn at h
 split at h
 ·split at h
  ·cases hy : s.q.r.lo[r.i.toNat]? with
   | none => rw [hy] at h; cases h
   | some y =>
    rw [hy] at h
    cases h
    have hm := List.mem_of_getElem? hy
    rw [hq] at hm
    obtain ⟨b, hb, rfl⟩ := List.mem_map.1 hm
    dsimp only
    rw [q_ratR]
    exact ((var_fl r.i).sub (num_fl (hx.r.bf b hb).1)).mono (by omega) (by omega)
  ·split at h
   ·cases hy : s.q.r.hi[r.i.toNat]? with
    | none => rw [hy] at h; cases h
    | some y =>
     rw [hy] at h
     cases h
     have hm := List.mem_of_getElem? hy
     rw [hq] at hm
     obtain ⟨b, hb, rfl⟩ := List.mem_map.1 hm
     dsimp only
     rw [q_ratR]
     exact ((num_fl (hx.r.bf b hb).2).sub (var_fl r.i)).mono (by omega) (by omega)
   ·omega
 ·cases h
theorem unF_fl2 {s : Scp} {r : Row} {p v : F} {l u : Option Rat} {K : Nat} {f : F} (hk : 1 ≤ K) (hp : p.fl 43 7) (hv : v.fl 1 1) (hl : Fits K (l.getD 0)) (hu : Fits K (u.getD 0)) (h : unF s r p v l u = some f) : f.fl (4 * K + 60) 3000 := by
 unfold unF at h
 generalize l.getD 0 = lq at *
 generalize u.getD 0 = uq at *
 have two : ∀ {c : Prop} [Decidable c] {x : F}, (if c then some x else none) = some f → x = f := fun h => by
  split at h
  ·exact Option.some.inj h
  ·cases h
 split at h
 ·rw [← two h]; exact hv.mono (by omega) (by omega)
 split at h
 ·rw [← two h]; exact (hv.sub hp).mono (by omega) (by omega)
 split at h
 ·rw [← two h]; exact (hp.add zero_fl).mono (by omega) (by omega)
 split at h
 ·rw [← two h]; exact (hp.sub hv).mono (by omega) (by omega)
 split at h
 ·rw [← two h]; exact (hp.scale fits_neg1).mono (by omega) (by omega)
 split at h
 ·rw [← two h]; exact (hv.scale fits_neg1).mono (by omega) (by omega)
 split at h
 ·rw [← two h]; exact (hp.sub (num_fl hl)).mono (by omega) (by omega)
 split at h
 ·rw [← two h]; exact ((num_fl hu).sub hp).mono (by omega) (by omega)
 split at h
 ·rw [← two h]; exact (((hp.sub (num_fl hl)).scale hu).sub (hv.scale (fits_sub hu hl))).mono (by omega) (by omega)
 ·cases h
theorem fm_un {s : Scp} {x : FQry} {K : Nat → Nat} (hq : s.q = x.q) (hx : x.small) (hK : ∀ i, 1 ≤ K i) (hL : LB K s.lems) {r : Row} {i : Nat} (hr : 5 ≤ r.k) (hi : r.i = i) {f : F} (h : s.fm r = some f) : f.fl (4 * K i + 60) 3000 := by
 unfold Scp.fm at h
 split at h
 ·cases h
 rw [if_neg (by omega)] at h
 unfold Scp.fUn at h
 split at h
 ·cases hy : s.q.g.us[r.i.toNat]? with
  | none => rw [hy] at h; cases h
  | some p =>
   rw [hy] at h
   have hm := List.mem_of_getElem? hy
   rw [hq] at hm
   obtain ⟨b, hb, rfl⟩ := List.mem_map.1 hm
   rw [hi] at h
   dsimp only at h
   rw [f_fA] at h
   exact unF_fl2 (hK i) (hx.g.uf b hb) (var_fl _) (lem_lb hK hL _ _ _) (lem_lb hK hL _ _ _) h
 ·cases h
def cst (K : Nat → Nat) (n v : Nat) : Nat := if v < n then 60 else 13 * K (v - n) + 230
theorem one_wt {s : Scp} {r : Row} {g : Nat} (hg : ∀ f, s.fm r = some f → f.fl g 3000) : Wt s [(r, 1)] (g + 6) := (Wt.cons fits_one hg .nil).to (by omega)
theorem least_wt {s : Scp} {x : FQry} {K : Nat → Nat} (hq : s.q = x.q) (hx : x.small) (hK : ∀ i, 1 ≤ K i) (hL : LB K s.lems) (v : Nat) : ∃ B, B + 48 * (s.atLeastM v).length ≤ cst K x.g.n v ∧ Wt s (s.atLeastM v) B := by
 have hn : s.q.g.n = (x.g.n : Int) := by rw [hq]; rfl
 unfold Scp.atLeastM cst
 rw [hn]
 by_cases h : v < x.g.n
 ·rw [if_pos (by omega), if_pos h]
  exact ⟨_, by simp, one_wt fun f hf => fm_in hq hx (.inl rfl) hf⟩
 ·rw [if_neg (by omega), if_neg h]
  exact ⟨_, by simp; omega, one_wt fun f hf => fm_un (i := v - x.g.n) hq hx hK hL (by show (5 : Int) ≤ 5; decide) (by show (v : Int) - x.g.n = _; omega) hf⟩
theorem up_wt {s : Scp} {x : FQry} {K : Nat → Nat} (hq : s.q = x.q) (hx : x.small) (hK : ∀ i, 1 ≤ K i) (hL : LB K s.lems) {i lo hi : Nat} {l u : Rat} (hl : Fits (K i) l) (hu : Fits (K i) u) :
  ∃ B, B + 48 * (upM i lo hi l u).length ≤ 13 * K i + 230 ∧ Wt s (upM i lo hi l u) B := by
 have hg : ∀ (k lo hi : Int), 5 ≤ k → ∀ f, s.fm ⟨k, i, lo, hi⟩ = some f → f.fl (4 * K i + 60) 3000 := fun k lo hi hk f hf => fm_un hq hx hK hL hk rfl hf
 have h1 := hK i
 have hs := fits_inv (fits_sub hu hl)
 have hd : Fits (2 * K i + 1) (1 / (u - l)) := by
  have e : 1 / (u - l) = (u - l)⁻¹ := by rw [Rat.div_def, Rat.one_mul]
  rw [e]
  exact hs.mono (by omega)
 unfold upM
 split
 ·exact ⟨_, by simp; omega, one_wt (hg _ _ _ (by decide))⟩
 ·split
  ·exact ⟨_, by simp; omega, Wt.cons fits_one (hg _ _ _ (by decide)) (one_wt (hg _ _ _ (by decide)))⟩
  ·exact ⟨_, by simp; omega, Wt.cons ((fits_mul hd hu).mono (k := _) (m := 3 * K i + 2) (by omega)) (hg _ _ _ (by decide)) (Wt.cons hd (hg _ _ _ (by decide)) .nil)⟩
theorem most_wt {s : Scp} {x : FQry} {K : Nat → Nat} (hq : s.q = x.q) (hx : x.small) (hK : ∀ i, 1 ≤ K i) (hL : LB K s.lems) (v : Nat) {more : List (Row × Rat)} (h : s.atMostM v = some more) : ∃ B, B + 48 * more.length ≤ cst K x.g.n v ∧ Wt s more B := by
 have hn : s.q.g.n = (x.g.n : Int) := by rw [hq]; rfl
 unfold Scp.atMostM at h
 unfold cst
 rw [hn] at h
 by_cases hv : v < x.g.n
 ·rw [if_pos (by omega)] at h
  rw [if_pos hv]
  cases h
  exact ⟨_, by simp, one_wt fun f hf => fm_in hq hx (.inr rfl) hf⟩
 ·rw [if_neg (by omega)] at h
  rw [if_neg hv]
  have e : (v : Int) - x.g.n = ((v - x.g.n : Nat) : Int) := by omega
  rw [e] at h
  split at h
  ·cases h
  ·rename_i hb
   cases h
   exact up_wt hq hx hK hL (val_lb hL (.inl rfl) (fun g => hb (.inl g))) (val_lb hL (.inr rfl) (fun g => hb (.inr g)))
end Go.Proofs.YtcanljninhfmhaaGreat
