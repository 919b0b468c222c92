/- A part of the proof: FdB, FdC. -/
import Derived.Test.YtcanljninhfmhaaGreatU33
set_option linter.all false
namespace Go.Proofs.YtcanljninhfmhaaGreat
open Go
set_option maxRecDepth 100000
set_option maxHeartbeats 4000000
theorem tyU8s : ty 22 = .sli 1 1 [.int .u8 (fun _ => 0)] := by cbv
theorem tyAffs : ty 26 = .sli 4 80 [.nil, .ff, .nil, .nil] := by cbv
theorem t7 : ty 29 = .sli 3 56 [.ff, .nil, .nil] := by cbv
theorem sFdNew (raw : List UInt8) (hr : raw.length < 2^38) : Sound 98 [u8v raw] [] [] (.ptr 100 0) [] [(100, .box [u8v raw, .int .i64 (fun _ => ((0 : Nat) : Int))])] := by
 refine sF Tryz.f98 ?_
 cbv
 refine bW tyU8s rfl rfl (wS nY _) (yF (by simp only [zA]; omega) (by simp only [zA]; omega)) rfl ?_
 cbv
 refine retM1 7 (.trans (.frz 5 rfl rfl ?_ ?_) (.le (ps' := ⟨[(2, .ptr 7 0)], [(7, .box [u8v raw, .int .i64 (fun _ => ((0 : Nat) : Int))])]⟩) ?_ ?_ rfl)) rfl rfl rfl ?_
 ·cbv
  repeat' first | exact trivial | exact yD (by simp [zA]) | apply And.intro
 ·cbv
  repeat' first | exact trivial | exact yD (by simp [zA]) | apply And.intro
 ·exact okZ
 ·cbv
  exact ⟨⟨zP (List.take_of_length_le (by simp [zA])), lR, trivial⟩, trivial⟩
 ·cbv
  exact lR
theorem eL (raw : List UInt8) (d k v a : Nat) : fdL raw d (k + 1) v a = ((fdF raw v a).1 :: (fdL raw d k (v + d) (fdF raw v a).2).1, (fdL raw d k (v + d) (fdF raw v a).2).2) := rfl
theorem eK (raw : List UInt8) (d v a : Nat) : fdL raw d 0 v a = ([], a) := rfl
theorem jZ {α : Type} (p : α → List PV) (l : List α) (a : α) : enc p l ++ zR [p a] = enc p (l ++ [a]) := by rw [← z8]; rfl
theorem sFdGraph (raw : List UInt8) (a : Nat) (hr : raw.length < 2^38) (ha : a ≤ raw.length) :
  Sound 146 [.ptr 1000000 0] (fdo raw a) [] (gv (fdG raw a).1.g) (fdo raw (fdG raw a).2) [] := by
 refine sF Tryz.f146 ?_
 have c1 := gJ raw a 3 hr (by decide) (by decide) ha
 have c2 := gJ raw (na raw a) 5 hr (by decide) (by decide) (kY ha)
 have c3 := gJ raw (na raw (na raw a)) 3 hr (by decide) (by decide) (kY (kY ha))
 have cF : ∀ (v b : Nat), b ≤ raw.length → v ≤ 100 → Sound 148 [.ptr 1000000 0, .int .i64 (fun _ => (v : Int))] (fdo raw b) [] (fv (fdF raw v b).1) (fdo raw (fdF raw v b).2) [] := fun v b h1 h2 => sFdForm raw v b hr h1 h2
 have hFl : ∀ (v b : Nat), b ≤ raw.length → (fdF raw v b).2 ≤ raw.length := fun v b h => fdF_le h
 have l1 : fdN raw 3 a < 3 := uO (by decide)
 have l2 : fdN raw 5 (na raw a) < 5 := uO (by decide)
 have l3 : fdN raw 3 (na raw (na raw a)) < 3 := uO (by decide)
 have hb3 : na raw (na raw (na raw a)) ≤ raw.length := kY (kY (kY ha))
 have hG : fdG raw a = (⟨1 + fdN raw 3 a, (fdL raw 1 (fdN raw 5 (na raw a)) (1 + fdN raw 3 a) (na raw (na raw (na raw a)))).1, (fdL raw 0 (1 + fdN raw 3 (na raw (na raw a))) (1 + fdN raw 3 a + fdN raw 5 (na raw a)) (fdL raw 1 (fdN raw 5 (na raw a)) (1 + fdN raw 3 a) (na raw (na raw (na raw a)))).2).1⟩, (fdL raw 0 (1 + fdN raw 3 (na raw (na raw a))) (1 + fdN raw 3 a + fdN raw 5 (na raw a)) (fdL raw 1 (fdN raw 5 (na raw a)) (1 + fdN raw 3 a) (na raw (na raw (na raw a)))).2).2) := rfl
 rw [hG]
 clear hG
 generalize na raw (na raw (na raw a)) = b3 at *
 generalize na raw (na raw a) = b2 at *
 generalize na raw a = b1 at *
 generalize fdN raw 3 a = x1 at *
 generalize fdN raw 5 b1 = x2 at *
 generalize fdN raw 3 b2 = x3 at *
 obtain ⟨U, hU⟩ : ∃ U, fdL raw 1 x2 (1 + x1) b3 = U := ⟨_, rfl⟩
 obtain ⟨O, hO⟩ : ∃ O, fdL raw 0 (1 + x3) (1 + x1 + x2) U.2 = O := ⟨_, rfl⟩
 rw [hU, hO]
 have hUl : U.1.length = x2 := by rw [← hU, jT]
 have hOl : O.1.length = 1 + x3 := by rw [← hO, jT]
 obtain ⟨UA, hUA⟩ : ∃ l, U.1.map fA = l := ⟨_, rfl⟩
 obtain ⟨OA, hOA⟩ : ∃ l, O.1.map fA = l := ⟨_, rfl⟩
 obtain ⟨bO, hbO⟩ : ∃ b, O.2 = b := ⟨_, rfl⟩
 have hgoal : gv (⟨1 + x1, U.1, O.1⟩ : FGrp).g = .agg [.int .i64 (fun _ => ((1 + x1 : Nat) : Int)), alv UA, alv OA] := by rw [← hUA, ← hOA]; rfl
 show wp _ _ (jC _ (gv (⟨1 + x1, U.1, O.1⟩ : FGrp).g) (fdo raw O.2) [])
 rw [hgoal, hbO]
 clear hgoal
 cbv
 refine wB (fun _ => 1000000) (.refl _) rfl okA c1 ⟨⟨rfl, rfl⟩, trivial⟩ rfl rfl rfl rfl rfl rfl rfl rfl ?_
 cbv
 refine ⟨zH om om, ?_⟩
 cbv
 refine wB (fun _ => 1000000) (.refl _) rfl okA c2 ⟨⟨rfl, rfl⟩, trivial⟩ rfl rfl rfl rfl rfl rfl rfl rfl ?_
 cbv
 refine wB (fun _ => 1000000) (.refl _) rfl okA c3 ⟨⟨rfl, rfl⟩, trivial⟩ rfl rfl rfl rfl rfl rfl rfl rfl ?_
 cbv
 refine ⟨zH om om, ?_⟩
 cbv
 refine z5 (σ := Nat × Nat × List F) (fun s => ⟨[(0, .ptr 1000000 0), (2, .ptr 2 0), (3, .ptr 3 0), (4, .int .i64 (fun _ => (x2 : Int))), (5, .int .i64 (fun _ => ((1 + x3 : Nat) : Int))), (6, .int .i64 (fun _ => (s.1 : Int)))],
   [(1000000, .box [u8v raw, .int .i64 (fun _ => (s.2.1 : Int))]), (2, .box [.int .i64 (fun _ => 0), .nil, .nil]), (3, .box [.int .i64 (fun _ => ((1 + x1 : Nat) : Int)), .osl 31 4 (fun _ => 0) (fun _ => s.2.2.length), .nil]), (31, .arr 4 (fun _ => enc ac (s.2.2.map fA)))]⟩)
  (fun s => s.1 ≤ x2 ∧ s.2.1 ≤ raw.length ∧ U.1 = s.2.2 ++ (fdL raw 1 (x2 - s.1) (1 + x1 + s.1) s.2.1).1 ∧ U.2 = (fdL raw 1 (x2 - s.1) (1 + x1 + s.1) s.2.1).2) (fun s => x2 - s.1)
  (0, b3, []) ⟨by omega, hb3, by rw [← hU]; rfl, by rw [← hU]; rfl⟩
  (.trans (.le (ps' := ⟨[(0, .ptr 1000000 0), (2, .ptr 2 0), (3, .ptr 3 0), (4, .int .i64 (fun _ => (x2 : Int))), (5, .int .i64 (fun _ => ((1 + x3 : Nat) : Int))), (6, .int .i64 (fun _ => ((0 : Nat) : Int)))],
    [(1000000, .box [u8v raw, .int .i64 (fun _ => (b3 : Int))]), (2, .box [.int .i64 (fun _ => 0), .nil, .nil]), (3, .box [.int .i64 (fun _ => ((1 + x1 : Nat) : Int)), .nil, .nil])]⟩) okZ okZ rfl)
   (.trans (.adoptB (ps := ⟨[(0, .ptr 1000000 0), (2, .ptr 2 0), (3, .ptr 3 0), (4, .int .i64 (fun _ => (x2 : Int))), (5, .int .i64 (fun _ => ((1 + x3 : Nat) : Int))), (6, .int .i64 (fun _ => ((0 : Nat) : Int)))],
    [(1000000, .box [u8v raw, .int .i64 (fun _ => (b3 : Int))]), (2, .box [.int .i64 (fun _ => 0), .nil, .nil]), (3, .box [.int .i64 (fun _ => ((1 + x1 : Nat) : Int)), .nil, .nil])]⟩) (cs := [.int .i64 (fun _ => ((1 + x1 : Nat) : Int)), .nil, .nil]) 31 4 3 1 rfl rfl rfl) (.le okZ ?_ rfl))) ?_
 ·cbv
  exact ⟨okA, okA, okA, zJ rfl, trivial⟩
 intro s hs
 obtain ⟨j, b, us⟩ := s
 obtain ⟨g1, g2, g3, g4⟩ := hs
 dsimp only at g1 g2 g3 g4
 cbv
 refine zF (fun h => ?_) (fun h => ?_)
 ·have hj : j < x2 := om
  rw [show x2 - j = (x2 - (j + 1)) + 1 by omega, eL] at g3 g4
  have cf := cF (1 + x1 + j) b g2 (by omega)
  have hb' := hFl (1 + x1 + j) b g2
  generalize hFF : fdF raw (1 + x1 + j) b = FF at *
  obtain ⟨W, hW⟩ : ∃ W, fA FF.1 = W := ⟨_, rfl⟩
  obtain ⟨b', hbb⟩ : ∃ b', FF.2 = b' := ⟨_, rfl⟩
  have d1 : Sound 148 [.ptr 1000000 0, .int .i64 (fun _ => ((1 + x1 + j : Nat) : Int))] (fdo raw b) [] (av W) (fdo raw b') [] := by subst hW hbb; exact cf
  rw [hbb] at g3 g4 hb'
  clear cf
  cbv
  refine vL 9 [(7, 1000000)] (by cbv) (by cbv) (by cbv) ?_
  cbv
  refine ⟨zH om om, ?_⟩
  cbv
  refine eO (fun _ => 1000000) rfl (by exact ⟨lR, zD om, trivial⟩) d1 rfl rfl rfl rfl rfl rfl ?_
  cbv
  refine wK tyAffs rfl rfl rfl (by simp [zA]) rfl ⟨by simp [zR, xF]⟩ (yF (by simp [zR] <;> omega) (by have hus : us.length < x2 := (by have := congrArg List.length g3; rw [hUl] at this; simp at this; omega); simp [zR, zA]; (try dsimp only [zG] at *); omega)) rfl ?_
  cbv
  refine ⟨zH om om, (j + 1, b', us ++ [FF.1]), ⟨om, hb', by rw [g3]; simp [Nat.add_assoc], by rw [g4]; simp [Nat.add_assoc]⟩, (by show x2 - (j + 1) < x2 - j; omega), .le okZ ?_ rfl⟩
  cbv
  refine ⟨okA, okA, ⟨lR, z3 rfl (by simp [zR, zA]), lR, trivial⟩, zJ ?_, trivial⟩
  subst hW
  show enc ac (us.map fA) ++ zR [ac (fA FF.1)] = enc ac ((us ++ [FF.1]).map fA)
  rw [jZ, List.map_append]
  rfl
 have hj : j = x2 := om
 subst hj
 rw [Nat.sub_self, eK] at g3 g4
 have e1 : U.1 = us := by rw [g3]; simp
 have e2 : U.2 = b := g4
 have hul : us.length = j := by rw [← e1, ← hU, jT]
 have hUAs : us.map fA = UA := by rw [← hUA, e1]
 rw [e2] at hO
 clear g3 g4 h hU hUA e1 e2
 cbv
 refine z5 (σ := Nat × Nat × List F) (fun s => ⟨[(0, .ptr 1000000 0), (2, .ptr 2 0), (3, .ptr 3 0), (4, .int .i64 (fun _ => (j : Int))), (5, .int .i64 (fun _ => ((1 + x3 : Nat) : Int))), (7, .int .i64 (fun _ => (s.1 : Int)))],
   [(1000000, .box [u8v raw, .int .i64 (fun _ => (s.2.1 : Int))]), (2, .box [.int .i64 (fun _ => 0), .nil, .nil]), (3, .box [.int .i64 (fun _ => ((1 + x1 : Nat) : Int)), alv UA, .osl 47 4 (fun _ => 0) (fun _ => s.2.2.length)]), (47, .arr 4 (fun _ => enc ac (s.2.2.map fA)))]⟩)
  (fun s => s.1 ≤ 1 + x3 ∧ s.2.1 ≤ raw.length ∧ O.1 = s.2.2 ++ (fdL raw 0 (1 + x3 - s.1) (1 + x1 + j) s.2.1).1 ∧ O.2 = (fdL raw 0 (1 + x3 - s.1) (1 + x1 + j) s.2.1).2) (fun s => 1 + x3 - s.1)
  (0, b, []) ⟨by omega, g2, by rw [← hO]; rfl, by rw [← hO]; rfl⟩
  (.trans (.frz 31 rfl rfl (by cbv; repeat' first | exact trivial | exact yD (by simp [zA]) | apply And.intro) (by cbv; repeat' first | exact trivial | exact yD (by simp [zA]) | apply And.intro))
   (.trans (.le (ps' := ⟨[(0, .ptr 1000000 0), (2, .ptr 2 0), (3, .ptr 3 0), (4, .int .i64 (fun _ => (j : Int))), (5, .int .i64 (fun _ => ((1 + x3 : Nat) : Int))), (7, .int .i64 (fun _ => ((0 : Nat) : Int)))],
    [(1000000, .box [u8v raw, .int .i64 (fun _ => (b : Int))]), (2, .box [.int .i64 (fun _ => 0), .nil, .nil]), (3, .box [.int .i64 (fun _ => ((1 + x1 : Nat) : Int)), alv UA, .nil])]⟩) okZ ?_ rfl)
   (.trans (.adoptB (ps := ⟨[(0, .ptr 1000000 0), (2, .ptr 2 0), (3, .ptr 3 0), (4, .int .i64 (fun _ => (j : Int))), (5, .int .i64 (fun _ => ((1 + x3 : Nat) : Int))), (7, .int .i64 (fun _ => ((0 : Nat) : Int)))],
    [(1000000, .box [u8v raw, .int .i64 (fun _ => (b : Int))]), (2, .box [.int .i64 (fun _ => 0), .nil, .nil]), (3, .box [.int .i64 (fun _ => ((1 + x1 : Nat) : Int)), alv UA, .nil])]⟩) (cs := [.int .i64 (fun _ => ((1 + x1 : Nat) : Int)), alv UA, .nil]) 47 4 3 2 rfl rfl rfl) (.le okZ ?_ rfl)))) ?_
 ·cbv
  exact ⟨okA, okA, ⟨lR, zP (by rw [List.drop_zero, List.take_of_length_le (by simp [zA]), hUAs]), lR, trivial⟩, trivial⟩
 ·cbv
  exact ⟨okA, okA, okA, zJ rfl, trivial⟩
 clear g2 hUAs hul
 intro s hs
 obtain ⟨i, b, os⟩ := s
 obtain ⟨g1', g2, g3, g4⟩ := hs
 dsimp only at g1' g2 g3 g4
 cbv
 refine zF (fun h => ?_) (fun h => ?_)
 ·have hi : i < 1 + x3 := om
  rw [show 1 + x3 - i = (1 + x3 - (i + 1)) + 1 by omega, eL] at g3 g4
  have cf := cF (1 + x1 + j) b g2 (by omega)
  have hb' := hFl (1 + x1 + j) b g2
  generalize hFF : fdF raw (1 + x1 + j) b = FF at *
  obtain ⟨W, hW⟩ : ∃ W, fA FF.1 = W := ⟨_, rfl⟩
  obtain ⟨b', hbb⟩ : ∃ b', FF.2 = b' := ⟨_, rfl⟩
  have d1 : Sound 148 [.ptr 1000000 0, .int .i64 (fun _ => ((1 + x1 + j : Nat) : Int))] (fdo raw b) [] (av W) (fdo raw b') [] := by subst hW hbb; exact cf
  rw [hbb] at g3 g4 hb'
  clear cf
  cbv
  refine vL 9 [(7, 1000000)] (by cbv) (by cbv) (by cbv) ?_
  cbv
  refine ⟨zH om om, ?_⟩
  cbv
  refine eO (fun _ => 1000000) rfl (by exact ⟨lR, zD om, trivial⟩) d1 rfl rfl rfl rfl rfl rfl ?_
  cbv
  refine wK tyAffs rfl rfl rfl (by simp [zA]) rfl ⟨by simp [zR, xF]⟩ (yF (by simp [zR] <;> omega) (by have hos : os.length < 1 + x3 := (by have := congrArg List.length g3; rw [hOl] at this; simp at this; omega); simp [zR, zA]; (try dsimp only [zG] at *); omega)) rfl ?_
  cbv
  refine ⟨zH om om, (i + 1, b', os ++ [FF.1]), ⟨om, hb', by rw [g3]; simp [Nat.add_assoc], by rw [g4]; simp [Nat.add_assoc]⟩, (by show 1 + x3 - (i + 1) < 1 + x3 - i; omega), .le okZ ?_ rfl⟩
  cbv
  refine ⟨okA, okA, ⟨lR, lR, z3 rfl (by simp [zR, zA]), trivial⟩, zJ ?_, trivial⟩
  subst hW
  show enc ac (os.map fA) ++ zR [ac (fA FF.1)] = enc ac ((os ++ [FF.1]).map fA)
  rw [jZ, List.map_append]
  rfl
 ·have hi : i = 1 + x3 := om
  subst hi
  rw [Nat.sub_self, eK] at g3 g4
  have e1 : O.1 = os := by rw [g3]; simp
  have e2 : O.2 = b := g4
  have e3 : os.map fA = OA := by rw [← hOA, e1]
  have e4 : b = bO := by rw [← hbO, e2]
  subst e4
  cbv
  refine nA (.trans (.le (ps' := ⟨[(2, .ptr 2 0)], [(1000000, .box [u8v raw, .int .i64 (fun _ => (b : Int))]), (2, .box [.int .i64 (fun _ => ((1 + x1 : Nat) : Int)), alv UA, .osl 47 4 (fun _ => 0) (fun _ => os.length)]), (47, .arr 4 (fun _ => enc ac (os.map fA)))]⟩) okZ ?_ rfl) (.frz 47 rfl rfl (by cbv; repeat' first | exact trivial | exact yD (by simp [zA]) | apply And.intro) (by cbv; repeat' first | exact trivial | exact yD (by simp [zA]) | apply And.intro))) rfl rfl rfl rfl ?_
  ·cbv
   exact ⟨okA, okA, zJ rfl, trivial⟩
  ·cbv
   exact ⟨lR, lR, zP (by rw [List.drop_zero, List.take_of_length_le (by simp [zA]), e3]), trivial⟩
theorem nD (q : Rat) : q < 0 ↔ q.num < 0 := by
 have := q_neg_iff (zE q)
 rwa [zW, n_ratR] at this
theorem p9 (q : Rat) : (⟨false, (zE q).num, (zE q).den⟩ : R) = zE (qT q) := by
 unfold qT
 split
 ·rename_i h
  have h3 : q.num < 0 := (nD q).1 h
  simp [zE, h3]
  omega
 ·rename_i h
  have h3 : ¬ q.num < 0 := fun g => h ((nD q).2 g)
  simp [zE, h3]
theorem fdB_cons (raw : List UInt8) (n a : Nat) : fdB raw (n + 1) a = (((fdQ raw a).1, (fdQ raw a).1 + qT (fdQ raw (fdQ raw a).2).1) :: (fdB raw n (fdQ raw (fdQ raw a).2).2).1, (fdB raw n (fdQ raw (fdQ raw a).2).2).2) := rfl
theorem fdB_zero (raw : List UInt8) (a : Nat) : fdB raw 0 a = ([], a) := rfl
theorem sR19Small (raw : List UInt8) (n a : Nat) (hr : raw.length < 2^38) (ha : a ≤ raw.length) (hn : n ≤ 100) :
  Sound 147 [.ptr 1000000 0, .int .i64 (fun _ => (n : Int))] (fdo raw a) [] (rgv (fdR raw n a).1.g) (fdo raw (fdR raw n a).2) [] := by
 refine sF Tryz.f147 ?_
 have cQ : ∀ b : Nat, b ≤ raw.length → Sound 101 [.ptr 1000000 0] (fdo raw b) [] (rv (zE (fdQ raw b).1)) (fdo raw (fdQ raw b).2) [] := fun b h1 => sFdNum raw b hr h1
 have cN : ∀ b : Nat, b ≤ raw.length → Sound 100 [.ptr 1000000 0, .int .i64 (fun _ => (3 : Int))] (fdo raw b) [] (.int .i64 (fun _ => (fdN raw 3 b : Int))) (fdo raw (na raw b)) [] := fun b h1 => gJ raw b 3 hr (by decide) (by decide) h1
 have cF : ∀ b : Nat, b ≤ raw.length → Sound 148 [.ptr 1000000 0, .int .i64 (fun _ => (n : Int))] (fdo raw b) [] (fv (fdF raw n b).1) (fdo raw (fdF raw n b).2) [] := fun b h1 => sFdForm raw n b hr h1 hn
 have hFl : ∀ b : Nat, b ≤ raw.length → (fdF raw n b).2 ≤ raw.length := fun b h => fdF_le h
 have hQl : ∀ b : Nat, b ≤ raw.length → (fdQ raw b).2 ≤ raw.length := fun b h => pB h
 have hNl : ∀ b : Nat, b ≤ raw.length → na raw b ≤ raw.length := fun b h => kY h
 have hN3 : ∀ b : Nat, fdN raw 3 b < 3 := fun b => uO (by decide)
 have hG : fdR raw n a = (⟨(fdB raw n a).1, (fdL raw 0 (fdN raw 3 (fdB raw n a).2) n (na raw (fdB raw n a).2)).1⟩, (fdL raw 0 (fdN raw 3 (fdB raw n a).2) n (na raw (fdB raw n a).2)).2) := rfl
 rw [hG]
 clear hG
 obtain ⟨U, hU⟩ : ∃ U, fdB raw n a = U := ⟨_, rfl⟩
 rw [hU]
 obtain ⟨O, hO⟩ : ∃ O, fdL raw 0 (fdN raw 3 U.2) n (na raw U.2) = O := ⟨_, rfl⟩
 rw [hO]
 have hUl : U.1.length = n := by rw [← hU, fdB_len]
 have hOl : O.1.length = fdN raw 3 U.2 := by rw [← hO, jT]
 obtain ⟨LA, hLA⟩ : ∃ l, (U.1.map fun b => zE b.1) = l := ⟨_, rfl⟩
 obtain ⟨HA, hHA⟩ : ∃ l, (U.1.map fun b => zE b.2) = l := ⟨_, rfl⟩
 obtain ⟨OA, hOA⟩ : ∃ l, O.1.map fA = l := ⟨_, rfl⟩
 obtain ⟨bO, hbO⟩ : ∃ b, O.2 = b := ⟨_, rfl⟩
 have hgoal : rgv (⟨U.1, O.1⟩ : FReg).g = .agg [rlv LA, rlv HA, alv OA] := by rw [← hLA, ← hHA, ← hOA]; rfl
 show wp _ _ (jC _ (rgv (⟨U.1, O.1⟩ : FReg).g) (fdo raw O.2) [])
 rw [hgoal, hbO]
 clear hgoal
 cbv
 refine z5 (σ := Nat × Nat × List (Rat × Rat)) (fun s => ⟨[(0, .ptr 1000000 0), (1, .int .i64 (fun _ => (n : Int))), (4, .ptr 4 0), (5, .ptr 5 0), (6, .int .i64 (fun _ => (s.1 : Int)))],
   [(1000000, .box [u8v raw, .int .i64 (fun _ => (s.2.1 : Int))]), (4, .box [.nil, .nil, .nil]), (5, .box [.osl 24 3 (fun _ => 0) (fun _ => s.2.2.length), .osl 31 3 (fun _ => 0) (fun _ => s.2.2.length), .nil]), (24, .arr 3 (fun _ => enc rc (s.2.2.map fun b => zE b.1))), (31, .arr 3 (fun _ => enc rc (s.2.2.map fun b => zE b.2)))]⟩)
  (fun s => s.1 ≤ n ∧ s.2.1 ≤ raw.length ∧ U.1 = s.2.2 ++ (fdB raw (n - s.1) s.2.1).1 ∧ U.2 = (fdB raw (n - s.1) s.2.1).2 ∧ s.2.2.length = s.1) (fun s => n - s.1)
  (0, a, []) ⟨by omega, ha, by rw [← hU]; rfl, by rw [← hU]; rfl, rfl⟩
  (.trans (.le (ps' := ⟨[(0, .ptr 1000000 0), (1, .int .i64 (fun _ => (n : Int))), (4, .ptr 4 0), (5, .ptr 5 0), (6, .int .i64 (fun _ => ((0 : Nat) : Int)))],
    [(1000000, .box [u8v raw, .int .i64 (fun _ => (a : Int))]), (4, .box [.nil, .nil, .nil]), (5, .box [.nil, .nil, .nil])]⟩) okZ okZ rfl)
   (.trans (.adoptB (ps := ⟨[(0, .ptr 1000000 0), (1, .int .i64 (fun _ => (n : Int))), (4, .ptr 4 0), (5, .ptr 5 0), (6, .int .i64 (fun _ => ((0 : Nat) : Int)))],
    [(1000000, .box [u8v raw, .int .i64 (fun _ => (a : Int))]), (4, .box [.nil, .nil, .nil]), (5, .box [.nil, .nil, .nil])]⟩) (cs := [.nil, .nil, .nil]) 24 3 5 0 rfl rfl rfl)
   (.trans (.le (ps' := ⟨[(0, .ptr 1000000 0), (1, .int .i64 (fun _ => (n : Int))), (4, .ptr 4 0), (5, .ptr 5 0), (6, .int .i64 (fun _ => ((0 : Nat) : Int)))],
    [(1000000, .box [u8v raw, .int .i64 (fun _ => (a : Int))]), (4, .box [.nil, .nil, .nil]), (5, .box [.osl 24 3 (fun _ => 0) (fun _ => 0), .nil, .nil]), (24, .arr 3 (fun _ => []))]⟩) okZ (by cbv; exact ⟨okA, okA, okA, zJ rfl, trivial⟩) rfl)
   (.trans (.adoptB (ps := ⟨[(0, .ptr 1000000 0), (1, .int .i64 (fun _ => (n : Int))), (4, .ptr 4 0), (5, .ptr 5 0), (6, .int .i64 (fun _ => ((0 : Nat) : Int)))],
    [(1000000, .box [u8v raw, .int .i64 (fun _ => (a : Int))]), (4, .box [.nil, .nil, .nil]), (5, .box [.osl 24 3 (fun _ => 0) (fun _ => 0), .nil, .nil]), (24, .arr 3 (fun _ => []))]⟩) (cs := [.osl 24 3 (fun _ => 0) (fun _ => 0), .nil, .nil]) 31 3 5 1 rfl rfl rfl) (.le okZ ?_ rfl))))) ?_
 ·cbv
  exact ⟨okA, okA, okA, zJ rfl, zJ rfl, trivial⟩
 intro s hs
 obtain ⟨j, b, us⟩ := s
 obtain ⟨g1, g2, g3, g4, g5⟩ := hs
 dsimp only at g1 g2 g3 g4 g5
 cbv
 refine zF (fun h => ?_) (fun h => ?_)
 ·have hj : j < n := om
  rw [show n - j = (n - (j + 1)) + 1 by omega, fdB_cons] at g3 g4
  have q1 := cQ b g2
  have hb1 := hQl b g2
  have q2 := cQ (fdQ raw b).2 hb1
  have hb2 := hQl (fdQ raw b).2 hb1
  have f1 := uN raw b
  have f2 := uN raw (fdQ raw b).2
  generalize (fdQ raw (fdQ raw b).2).2 = b2 at *
  generalize (fdQ raw (fdQ raw b).2).1 = y at *
  generalize (fdQ raw b).2 = b1 at *
  generalize (fdQ raw b).1 = x at *
  have qa := s44 (zE x) ⟨false, (zE y).num, (zE y).den⟩ ((zY f1).mono (by decide)) (by rw [p9]; exact (zY (rD f2)).mono (by decide))
  have e0 : (⟨false, (zE y).num, (zE y).den⟩ : R).q = qT y := by rw [p9, zW]
  rw [e0, zW] at qa
  obtain ⟨X1, hX1⟩ : ∃ X, zE x = X := ⟨_, rfl⟩
  obtain ⟨X2, hX2⟩ : ∃ X, zE y = X := ⟨_, rfl⟩
  obtain ⟨Y, hY⟩ : ∃ X, zE (x + qT y) = X := ⟨_, rfl⟩
  have d1 : Sound 101 [.ptr 1000000 0] (fdo raw b) [] (rv X1) (fdo raw b1) [] := by subst hX1; exact q1
  have d2 : Sound 101 [.ptr 1000000 0] (fdo raw b1) [] (rv X2) (fdo raw b2) [] := by subst hX2; exact q2
  have d3 : zC 37 [rv X1, .agg [.bool (fun _ => false), nat X2.num, nat X2.den]] (rv Y) := by subst hX1 hX2 hY; exact qa
  clear q1 q2 qa e0
  cbv
  refine wB (fun _ => 1000000) (.refl _) rfl okA d1 ⟨⟨rfl, rfl⟩, trivial⟩ rfl rfl rfl rfl rfl rfl rfl rfl ?_
  cbv
  refine wB (fun _ => 1000000) (.refl _) rfl okA d2 ⟨⟨rfl, rfl⟩, trivial⟩ rfl rfl rfl rfl rfl rfl rfl rfl ?_
  cbv
  refine draw_ap 13 [(4, 24), (11, 31)] (by cbv) (by cbv) ?_
  cbv
  refine effA_of t7 rfl ⟨by simp [zR, xF]⟩ rfl (by simp [zA]) (yF (by simp [zR] <;> omega) (by simp [zR, zA]; (try dsimp only [zG] at *); omega)) ?_
  cbv
  refine dA d3 ?_
  cbv
  refine effA_of t7 rfl ⟨by simp [zR, xF]⟩ rfl (by simp [zA]) (yF (by simp [zR] <;> omega) (by simp [zR, zA]; (try dsimp only [zG] at *); omega)) ?_
  cbv
  refine ⟨zH om om, (j + 1, b2, us ++ [(x, x + qT y)]), ⟨om, hb2, by rw [g3]; simp, by rw [g4], by simp [g5]⟩, (by show n - (j + 1) < n - j; omega), .le okZ ?_ rfl⟩
  cbv
  refine ⟨okA, okA, ⟨z3 rfl (by simp [zR, zA]), z3 rfl (by simp [zR, zA]), lR, trivial⟩, zJ ?_, zJ ?_, trivial⟩
  ·subst hX1
   show enc rc (us.map fun b => zE b.1) ++ zR [rc (zE x)] = enc rc ((us ++ [(x, x + qT y)]).map fun b => zE b.1)
   rw [jZ, List.map_append]
   rfl
  ·subst hY
   show enc rc (us.map fun b => zE b.2) ++ zR [rc (zE (x + qT y))] = enc rc ((us ++ [(x, x + qT y)]).map fun b => zE b.2)
   rw [jZ, List.map_append]
   rfl
 have hj : j = n := om
 subst hj
 rw [Nat.sub_self, fdB_zero] at g3 g4
 have e1 : U.1 = us := by rw [g3]; simp
 have e2 : U.2 = b := g4
 have hLs : (us.map fun b => zE b.1) = LA := by rw [← hLA, e1]
 have hHs : (us.map fun b => zE b.2) = HA := by rw [← hHA, e1]
 rw [e2] at hO hOl
 have n3 := cN b g2
 have n4 := hN3 b
 have n5 := hNl b g2
 generalize fdN raw 3 b = k at *
 generalize na raw b = b1 at *
 clear g3 g4 h hU hUl hLA hHA e1 e2 cQ cN
 cbv
 refine wB (fun _ => 1000000) (.refl _) rfl okA n3 ⟨⟨rfl, rfl⟩, trivial⟩ rfl rfl rfl rfl rfl rfl rfl rfl ?_
 cbv
 refine z5 (σ := Nat × Nat × List F) (fun s => ⟨[(0, .ptr 1000000 0), (1, .int .i64 (fun _ => (j : Int))), (4, .ptr 4 0), (5, .ptr 5 0), (9, .int .i64 (fun _ => (s.1 : Int)))],
   [(1000000, .box [u8v raw, .int .i64 (fun _ => (s.2.1 : Int))]), (4, .box [.nil, .nil, .nil]), (5, .box [rlv LA, rlv HA, .osl 46 4 (fun _ => 0) (fun _ => s.2.2.length)]), (46, .arr 4 (fun _ => enc ac (s.2.2.map fA)))]⟩)
  (fun s => s.1 ≤ k ∧ s.2.1 ≤ raw.length ∧ O.1 = s.2.2 ++ (fdL raw 0 s.1 j s.2.1).1 ∧ O.2 = (fdL raw 0 s.1 j s.2.1).2) (fun s => s.1)
  (k, b1, []) ⟨by omega, n5, by rw [← hO]; rfl, by rw [← hO]⟩
  (.trans (.frz 24 rfl rfl (by cbv; repeat' first | exact trivial | exact yD (by simp [zA]) | apply And.intro) (by cbv; repeat' first | exact trivial | exact yD (by simp [zA]) | apply And.intro))
   (.trans (.frz 31 rfl rfl (by cbv; repeat' first | exact trivial | exact yD (by simp [zA]) | apply And.intro) (by cbv; repeat' first | exact trivial | exact yD (by simp [zA]) | apply And.intro))
   (.trans (.le (ps' := ⟨[(0, .ptr 1000000 0), (1, .int .i64 (fun _ => (j : Int))), (4, .ptr 4 0), (5, .ptr 5 0), (9, .int .i64 (fun _ => (k : Int)))],
    [(1000000, .box [u8v raw, .int .i64 (fun _ => (b1 : Int))]), (4, .box [.nil, .nil, .nil]), (5, .box [rlv LA, rlv HA, .nil])]⟩) okZ ?_ rfl)
   (.trans (.adoptB (ps := ⟨[(0, .ptr 1000000 0), (1, .int .i64 (fun _ => (j : Int))), (4, .ptr 4 0), (5, .ptr 5 0), (9, .int .i64 (fun _ => (k : Int)))],
    [(1000000, .box [u8v raw, .int .i64 (fun _ => (b1 : Int))]), (4, .box [.nil, .nil, .nil]), (5, .box [rlv LA, rlv HA, .nil])]⟩) (cs := [rlv LA, rlv HA, .nil]) 46 4 5 2 rfl rfl rfl) (.le okZ ?_ rfl))))) ?_
 ·cbv
  exact ⟨okA, okA, ⟨zP (by rw [List.drop_zero, List.take_of_length_le (by simp [zA]), hLs]), zP (by rw [List.drop_zero, List.take_of_length_le (by simp [zA]), hHs]), lR, trivial⟩, trivial⟩
 ·cbv
  exact ⟨okA, okA, okA, zJ rfl, trivial⟩
 clear g2 hLs hHs n3
 intro s hs
 obtain ⟨i, b, os⟩ := s
 obtain ⟨g1', g2, g3, g4⟩ := hs
 dsimp only at g1' g2 g3 g4
 cbv
 refine zF (fun h => ?_) (fun h => ?_)
 ·obtain ⟨m, hm⟩ : ∃ m, i = m + 1 := ⟨i - 1, by (try dsimp only [zG] at *); omega⟩
  subst hm
  rw [eL] at g3 g4
  have cf := cF b g2
  have hb' := hFl b g2
  generalize hFF : fdF raw j b = FF at *
  obtain ⟨W, hW⟩ : ∃ W, fA FF.1 = W := ⟨_, rfl⟩
  obtain ⟨b', hbb⟩ : ∃ b', FF.2 = b' := ⟨_, rfl⟩
  have d1 : Sound 148 [.ptr 1000000 0, .int .i64 (fun _ => (j : Int))] (fdo raw b) [] (av W) (fdo raw b') [] := by subst hW hbb; exact cf
  rw [hbb] at g3 g4 hb'
  clear cf
  cbv
  refine vL 6 [(4, 1000000)] (by cbv) (by cbv) (by cbv) ?_
  cbv
  refine eO (fun _ => 1000000) rfl okA d1 rfl rfl rfl rfl rfl rfl ?_
  cbv
  refine wK tyAffs rfl rfl rfl (by simp [zA]) rfl ⟨by simp [zR, xF]⟩ (yF (by simp [zR] <;> omega) (by have hos : os.length < k := (by have := congrArg List.length g3; rw [hOl] at this; simp at this; omega); simp [zR, zA]; (try dsimp only [zG] at *); omega)) rfl ?_
  cbv
  refine ⟨zH om om, (m, b', os ++ [FF.1]), ⟨om, hb', by rw [g3]; simp, by rw [g4]; rfl⟩, (by show m < m + 1; omega), .le okZ ?_ rfl⟩
  cbv
  refine ⟨okA, okA, ⟨lR, lR, z3 rfl (by simp [zR, zA]), trivial⟩, zJ ?_, trivial⟩
  subst hW
  show enc ac (os.map fA) ++ zR [ac (fA FF.1)] = enc ac ((os ++ [FF.1]).map fA)
  rw [jZ, List.map_append]
  rfl
 ·have hi : i = 0 := om
  subst hi
  rw [eK] at g3 g4
  have e1 : O.1 = os := by rw [g3]; simp
  have e2 : O.2 = b := g4
  have e3 : os.map fA = OA := by rw [← hOA, e1]
  have e4 : b = bO := by rw [← hbO, e2]
  subst e4
  cbv
  refine nA (.trans (.le (ps' := ⟨[(4, .ptr 4 0)], [(1000000, .box [u8v raw, .int .i64 (fun _ => (b : Int))]), (4, .box [rlv LA, rlv HA, .osl 46 4 (fun _ => 0) (fun _ => os.length)]), (46, .arr 4 (fun _ => enc ac (os.map fA)))]⟩) okZ ?_ rfl) (.frz 46 rfl rfl (by cbv; repeat' first | exact trivial | exact yD (by simp [zA]) | apply And.intro) (by cbv; repeat' first | exact trivial | exact yD (by simp [zA]) | apply And.intro))) rfl rfl rfl rfl ?_
  ·cbv
   exact ⟨okA, okA, zJ rfl, trivial⟩
  ·cbv
   exact ⟨lR, lR, zP (by rw [List.drop_zero, List.take_of_length_le (by simp [zA]), e3]), trivial⟩
theorem sR21Q (raw : List UInt8) (a : Nat) (hr : raw.length < 2^38) (ha : a ≤ raw.length) :
  Sound 99 [.ptr 1000000 0] (fdo raw a) [] (qv (fdY raw a).1.q) (fdo raw (fdY raw a).2) [] := by
 refine sF Tryz.f99 ?_
 have c1 := sFdGraph raw a hr ha
 have s1 := fdG_small raw a
 have b1 := fdG_le (raw := raw) ha
 have c2 := sR19Small raw (fdG raw a).1.n (fdG raw a).2 hr b1 (by have := s1.n2; omega)
 have b2 := fdR_le (raw := raw) (n := (fdG raw a).1.n) b1
 have c3 := sFdForm raw ((fdG raw a).1.n + (fdG raw a).1.us.length) (fdR raw (fdG raw a).1.n (fdG raw a).2).2 hr b2 (by have := s1.n2; have := s1.us; omega)
 have hY : fdY raw a = (⟨(fdG raw a).1, (fdR raw (fdG raw a).1.n (fdG raw a).2).1, (fdF raw ((fdG raw a).1.n + (fdG raw a).1.us.length) (fdR raw (fdG raw a).1.n (fdG raw a).2).2).1⟩, (fdF raw ((fdG raw a).1.n + (fdG raw a).1.us.length) (fdR raw (fdG raw a).1.n (fdG raw a).2).2).2) := rfl
 rw [hY]
 clear hY
 have n2 := s1.n2
 have u4 := s1.us
 generalize fdG raw a = G at *
 generalize fdR raw G.1.n G.2 = Rr at *
 generalize fdF raw (G.1.n + G.1.us.length) Rr.2 = H at *
 obtain ⟨⟨gn, gus, gos⟩, gb⟩ := G
 obtain ⟨rr, rb⟩ := Rr
 obtain ⟨h, hb⟩ := H
 dsimp only at c1 c2 c3 n2 u4
 obtain ⟨UA, hUA⟩ : ∃ l, gus.map fA = l := ⟨_, rfl⟩
 obtain ⟨OA, hOA⟩ : ∃ l, gos.map fA = l := ⟨_, rfl⟩
 obtain ⟨W, hW⟩ : ∃ l, fA h = l := ⟨_, rfl⟩
 obtain ⟨⟨lo, hi, rows⟩, hRR⟩ : ∃ r, rr.g = r := ⟨_, rfl⟩
 have ul : UA.length = gus.length := by rw [← hUA, List.length_map]
 have d1 : Sound 146 [.ptr 1000000 0] (fdo raw a) [] (.agg [.int .i64 (fun _ => (gn : Int)), alv UA, alv OA]) (fdo raw gb) [] := by subst hUA hOA; exact c1
 have d2 : Sound 147 [.ptr 1000000 0, .int .i64 (fun _ => (gn : Int))] (fdo raw gb) [] (.agg [rlv lo, rlv hi, alv rows]) (fdo raw rb) [] := by rw [hRR] at c2; exact c2
 have d3 : Sound 148 [.ptr 1000000 0, .int .i64 (fun _ => ((gn + gus.length : Nat) : Int))] (fdo raw rb) [] (av W) (fdo raw hb) [] := by subst hW; exact c3
 have hgoal : qv (⟨⟨gn, gus, gos⟩, rr, h⟩ : FQry).q = .agg [.int .i64 (fun _ => (gn : Int)), alv UA, alv OA, rlv lo, rlv hi, alv rows, tsv W.ts, .bool (fun _ => W.c.neg), nat W.c.num, nat W.c.den] := by
  subst hUA hOA hW
  show qv (⟨_, rr.g, _⟩ : Qry) = _
  rw [hRR]
  rfl
 show wp _ _ (jC _ (qv (⟨⟨gn, gus, gos⟩, rr, h⟩ : FQry).q) (fdo raw hb) [])
 rw [hgoal]
 clear hgoal c1 c2 c3 hUA hOA hW hRR b1 b2 s1
 cbv
 refine wB (fun _ => 1000000) (.refl _) rfl okA d1 ⟨⟨rfl, rfl⟩, trivial⟩ rfl rfl rfl rfl rfl rfl rfl rfl ?_
 cbv
 refine wB (fun _ => 1000000) (.refl _) rfl okA d2 ⟨⟨rfl, rfl⟩, trivial⟩ rfl rfl rfl rfl rfl rfl rfl rfl ?_
 cbv
 refine vL 10 [(9, 1000000)] (by cbv) (by cbv) (by cbv) ?_
 cbv
 refine ⟨zH (by rw [zA]; (try dsimp only [zG] at *); omega) (by rw [zA]; (try dsimp only [zG] at *); omega), ?_⟩
 cbv
 refine eO (fun _ => 1000000) rfl (by refine ⟨lR, zD ?_, trivial⟩; rw [zA, ul]; (try dsimp only [zG] at *); omega) d3 rfl rfl rfl rfl rfl rfl ?_
 cbv
 exact nA (.refl _) rfl rfl rfl rfl (by cbv; exact okA)
end Go.Proofs.YtcanljninhfmhaaGreat
