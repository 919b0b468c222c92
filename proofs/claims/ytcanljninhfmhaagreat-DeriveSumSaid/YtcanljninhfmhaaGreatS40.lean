/- A part of the proof: FdA, FdB. -/
import Derived.Test.YtcanljninhfmhaaGreatS38
import Derived.Test.YtcanljninhfmhaaGreatS39
set_option linter.all false
namespace Go.Proofs.YtcanljninhfmhaaGreat
open Go
set_option linter.unusedVariables false
set_option maxRecDepth 100000
set_option maxHeartbeats 2000000
def u8c (b : UInt8) : List PV := [.int .u8 (fun _ => (b.toNat : Int))]
theorem u8c_flat (b : UInt8) : allL flat (u8c b) = true := rfl
theorem u8c_len (b : UInt8) : (u8c b).length = 1 := rfl
abbrev u8v (raw : List UInt8) : PV := .sl (fun _ => enc u8c raw)
abbrev fdo (raw : List UInt8) (a : Nat) : List (Nat × Obj') := [(1000000, .box [u8v raw, .int .i64 (fun _ => (a : Int))])]
theorem hfFdNext : Pg.funcs[100]? = some Tryz.f100 := by rw [Pg_eq]; rfl
theorem sFdNext (raw : List UInt8) (a n : Nat) (hr : raw.length < 2^38) (hn : 0 < n) (hn2 : n < 2^60) (ha : a ≤ raw.length) :
  Sound 100 [.ptr 1000000 0, .int .i64 (fun _ => (n : Int))] (fdo raw a) [] (.int .i64 (fun _ => (fdN raw n a : Int))) (fdo raw (na raw a)) [] := by
 refine sound_fn hfFdNext rfl rfl rfl rfl rfl ?_
 have h0 : ¬ a < raw.length → fdN raw n a = 0 := fun h => by unfold fdN; rw [List.getElem?_eq_none (by omega)]
 have h1 : ∀ x, raw[a]? = some x → fdN raw n a = x.toNat % n := fun x h => by unfold fdN; rw [h]
 have n0 : ¬ a < raw.length → na raw a = a := fun h => if_neg h
 have n1 : a < raw.length → na raw a = a + 1 := fun h => if_pos h
 generalize fdN raw n a = r at *
 generalize na raw a = b at *
 cbv
 refine draw_of 10 (by cbv) ?_
 cbv
 refine cut_dec (fun h => ?_) (fun h => ?_)
 ·have hlt : ¬ a < raw.length := by rw [enc_len] at h; (try dsimp only [ncast] at *); omega
  have e1 := h0 hlt
  have e2 := n0 hlt
  cbv
  subst e1 e2
  exact retK1 rfl (leS_refl _) rfl rfl rfl rfl
 ·have hlt : a < raw.length := by rw [enc_len] at h; (try dsimp only [ncast] at *); omega
  obtain ⟨x, hx⟩ := get_some hlt
  have e1 := h1 x hx
  have e2 := n1 hlt
  cbv
  refine ⟨in64_of om om, ?_⟩
  cbv
  refine draw_of 15 (by cbv) ?_
  cbv
  refine ⟨in64_of om om, idx_enc (l := raw) a om hlt u8c_flat u8c_len (fun x' hx' => ?_)⟩
  obtain rfl : x' = x := by rw [hx] at hx'; exact (Option.some.inj hx').symm
  have hx8 := x'.toNat_lt
  cbv
  refine ⟨nz_of om, ?_⟩
  cbv
  refine retK1W (.le (ps' := ⟨[(4, .int .i64 (fun _ => (r : Int)))], [(1000000, .box [u8v raw, .int .i64 (fun _ => (b : Int))])]⟩) ?_ ?_ rfl) rfl (leS_refl _) rfl rfl rfl rfl
  ·cbv
   refine ⟨leS_int ?_, trivial⟩
   show irem (nx .i64 (x'.toNat : Int)) (n : Int) = _
   unfold irem nx
   rw [show IntKind.wrap .i64 (x'.toNat : Int) = (x'.toNat : Int) by simp [IntKind.wrap, IntKind.signed, IntKind.bits]; omega, e1]
   exact (Int.ofNat_tmod _ _).symm
  ·cbv
   exact ⟨⟨leS_refl _, leS_int om, trivial⟩, trivial⟩
theorem dnm_cases {k : Nat} (h : k < 4) : (k = 0 ∧ dnm k = 1) ∨ (k = 1 ∧ dnm k = 1) ∨ (k = 2 ∧ dnm k = 2) ∨ (k = 3 ∧ dnm k = 4) := by
 match k, h with
 | 0, _ => exact .inl ⟨rfl, rfl⟩
 | 1, _ => exact .inr (.inl ⟨rfl, rfl⟩)
 | 2, _ => exact .inr (.inr (.inl ⟨rfl, rfl⟩))
 | 3, _ => exact .inr (.inr (.inr ⟨rfl, rfl⟩))
theorem hfFdNum : Pg.funcs[101]? = some Tryz.f101 := by rw [Pg_eq]; rfl
theorem sFdNum (raw : List UInt8) (a : Nat) (hr : raw.length < 2^38) (ha : a ≤ raw.length) :
  Sound 101 [.ptr 1000000 0] (fdo raw a) [] (rv (ratR (fdQ raw a).1)) (fdo raw (fdQ raw a).2) [] := by
 refine sound_fn hfFdNum rfl rfl rfl rfl rfl ?_
 have c9 := sFdNext raw a 9 hr (by decide) (by decide) ha
 have c4 := sFdNext raw (na raw a) 4 hr (by decide) (by decide) (na_le ha)
 have h9 : fdN raw 9 a < 9 := fdN_lt (by decide)
 have h4 : fdN raw 4 (na raw a) < 4 := fdN_lt (by decide)
 have hd := dnm_cases h4
 have hp := dnm_pos (fdN raw 4 (na raw a))
 have cf := s43 ((fdN raw 9 a : Int) - 4) (dnm (fdN raw 4 (na raw a))) (by omega) (by omega) (by omega) (by omega) (by omega)
 have e1 : (fdQ raw a).1 = divZ ((fdN raw 9 a : Int) - 4) (dnm (fdN raw 4 (na raw a))) := rfl
 have e2 : (fdQ raw a).2 = na raw (na raw a) := rfl
 rw [e1, e2]
 show wp _ _ (postOf _ (rv (ratR (divZ ((fdN raw 9 a : Int) - 4) (dnm (fdN raw 4 (na raw a)))))) (fdo raw (na raw (na raw a))) [])
 generalize ratR (divZ ((fdN raw 9 a : Int) - 4) (dnm (fdN raw 4 (na raw a)))) = X at *
 generalize dnm (fdN raw 4 (na raw a)) = d at *
 generalize fdN raw 9 a = k9 at *
 generalize fdN raw 4 (na raw a) = k4 at *
 generalize na raw (na raw a) = b2 at *
 generalize na raw a = b1 at *
 clear e1 e2 hp
 cbv
 refine callK (fun _ => 1000000) (.refl _) rfl (by exact ⟨leS_refl _, leS_refl _, trivial⟩) c9 ⟨⟨rfl, rfl⟩, trivial⟩ rfl rfl rfl rfl rfl rfl rfl rfl ?_
 cbv
 refine ⟨in64_of om om, ?_⟩
 cbv
 refine callK (fun _ => 1000000) (.refl _) rfl (by exact ⟨leS_refl _, leS_refl _, trivial⟩) c4 ⟨⟨rfl, rfl⟩, trivial⟩ rfl rfl rfl rfl rfl rfl rfl rfl ?_
 rcases hd with ⟨q1, q2⟩ | ⟨q1, q2⟩ | ⟨q1, q2⟩ | ⟨q1, q2⟩
 ·subst q1 q2
  cbv
  refine at_of 0 rfl (by decide) ?_
  cbv
  refine callS' rfl okA (cf) rfl ?_
  cbv
  exact retKC (.refl _) rfl rfl rfl rfl (by cbv; exact ⟨leS_refl _, leS_refl _, leS_refl _, trivial⟩)
 ·subst q1 q2
  cbv
  refine at_of 1 rfl (by decide) ?_
  cbv
  refine callS' rfl okA (cf) rfl ?_
  cbv
  exact retKC (.refl _) rfl rfl rfl rfl (by cbv; exact ⟨leS_refl _, leS_refl _, leS_refl _, trivial⟩)
 ·subst q1 q2
  cbv
  refine at_of 2 rfl (by decide) ?_
  cbv
  refine callS' rfl okA (cf) rfl ?_
  cbv
  exact retKC (.refl _) rfl rfl rfl rfl (by cbv; exact ⟨leS_refl _, leS_refl _, leS_refl _, trivial⟩)
 ·subst q1 q2
  cbv
  refine at_of 3 rfl (by decide) ?_
  cbv
  refine callS' rfl okA (cf) rfl ?_
  cbv
  exact retKC (.refl _) rfl rfl rfl rfl (by cbv; exact ⟨leS_refl _, leS_refl _, leS_refl _, trivial⟩)
theorem fdFs_step0 {raw : List UInt8} {n v : Nat} {f : F} {a : Nat} (h : ¬ 0 < fdN raw 3 a) : fdFs raw (n + 1) v f a = fdFs raw n (v + 1) f (na raw a) := if_neg h
theorem fdFs_step1 {raw : List UInt8} {n v : Nat} {f : F} {a : Nat} (h : 0 < fdN raw 3 a) : fdFs raw (n + 1) v f a = fdFs raw n (v + 1) (f.add ((F.var v).scale (fdQ raw (na raw a)).1)) (fdQ raw (na raw a)).2 := if_pos h
theorem hfFdForm : Pg.funcs[148]? = some Tryz.f148 := by rw [Pg_eq]; rfl
theorem sFdForm (raw : List UInt8) (n a : Nat) (hr : raw.length < 2^38) (ha : a ≤ raw.length) (hn : n ≤ 100) :
  Sound 148 [.ptr 1000000 0, .int .i64 (fun _ => (n : Int))] (fdo raw a) [] (fv (fdF raw n a).1) (fdo raw (fdF raw n a).2) [] := by
 refine sound_fn hfFdForm rfl rfl rfl rfl rfl ?_
 have cq : ∀ b, b ≤ raw.length → Sound 101 [.ptr 1000000 0] (fdo raw b) [] (rv (ratR (fdQ raw b).1)) (fdo raw (fdQ raw b).2) [] := fun b hb => sFdNum raw b hr hb
 have c3 : ∀ b, b ≤ raw.length → Sound 100 [.ptr 1000000 0, .int .i64 (fun _ => (3 : Int))] (fdo raw b) [] (.int .i64 (fun _ => (fdN raw 3 b : Int))) (fdo raw (na raw b)) [] := fun b hb => sFdNext raw b 3 hr (by decide) (by decide) hb
 have hna : ∀ b, b ≤ raw.length → na raw b ≤ raw.length := fun b hb => na_le hb
 have hq2 : ∀ b, b ≤ raw.length → (fdQ raw b).2 ≤ raw.length := fun b hb => fdQ_le hb
 have hd : fdF raw n a = fdFs raw n 0 (F.num (fdQ raw a).1) (fdQ raw a).2 := rfl
 show wp _ _ (postOf _ (av (fA (fdF raw n a).1)) (fdo raw (fdF raw n a).2) [])
 generalize fdF raw n a = R at *
 obtain ⟨W, hW⟩ : ∃ W, fA R.1 = W := ⟨_, rfl⟩
 rw [hW]
 obtain ⟨X0, hX0⟩ : ∃ X, ratR (fdQ raw a).1 = X := ⟨_, rfl⟩
 have cq0 : Sound 101 [.ptr 1000000 0] (fdo raw a) [] (rv X0) (fdo raw (fdQ raw a).2) [] := by subst hX0; exact cq a ha
 cbv
 refine callK (fun _ => 1000000) (.refl _) rfl (by exact ⟨leS_refl _, trivial⟩) cq0 ⟨⟨rfl, rfl⟩, trivial⟩ rfl rfl rfl rfl rfl rfl rfl rfl ?_
 cbv
 refine loop_n (σ := Nat × Nat × F) (fun s => ⟨[(0, .ptr 1000000 0), (1, .int .i64 (fun _ => (n : Int))), (4, .ptr 4 0), (5, .ptr 5 0), (6, .int .i64 (fun _ => (s.1 : Int)))],
   [(1000000, .box [u8v raw, .int .i64 (fun _ => (s.2.1 : Int))]), (4, .box [.nil, .ff, .nil, .nil]), (5, .box [.sl (fun _ => enc tc (fA s.2.2).ts), .bool (fun _ => (fA s.2.2).c.neg), .sl (fun _ => lm (fA s.2.2).c.num), .sl (fun _ => lm (fA s.2.2).c.den)])]⟩)
  (fun s => s.1 ≤ n ∧ s.2.1 ≤ raw.length ∧ R = fdFs raw (n - s.1) s.1 s.2.2 s.2.1 ∧ s.2.2.wf s.1 ∧ s.2.2.fl (1 + 6 * s.1) s.1) (fun s => n - s.1)
  (0, (fdQ raw a).2, F.num (fdQ raw a).1) ⟨by omega, hq2 a ha, hd, F.wf.num _ _, (num_fl (fdQ_fits raw a)).mono (by omega) (by omega)⟩ (.le ?_ ?_ rfl) ?_
 ·cbv
  exact ⟨leS_refl _, leS_refl _, leS_refl _, leS_refl _, leS_refl _, trivial⟩
 ·cbv
  subst hX0
  exact ⟨⟨leS_refl _, leS_refl _, trivial⟩, ⟨leS_refl _, leS_refl _, leS_refl _, leS_refl _, trivial⟩, ⟨leS_nil rfl, leS_refl _, leS_refl _, leS_refl _, trivial⟩, trivial⟩
 clear hd cq0 hX0
 intro s hs
 obtain ⟨v, b, f⟩ := s
 obtain ⟨g1, g2, g3, g4, g5⟩ := hs
 dsimp only at g1 g2 g3 g4 g5
 cbv
 refine cut_dec (fun h => ?_) (fun h => ?_)
 ·have hv : v < n := om
  rw [show n - v = (n - (v + 1)) + 1 by omega] at g3
  have c3' := c3 b g2
  generalize hk3 : fdN raw 3 b = k3 at *
  cbv
  refine callK (fun _ => 1000000) (.refl _) rfl (by exact ⟨leS_refl _, leS_refl _, trivial⟩) c3' ⟨⟨rfl, rfl⟩, trivial⟩ rfl rfl rfl rfl rfl rfl rfl rfl ?_
  cbv
  refine cut_dec (fun h2 => ?_) (fun h2 => ?_)
  ·rw [fdFs_step1 (by rw [hk3]; (try dsimp only [ncast] at *); omega)] at g3
   have hq := fdQ_fits raw (na raw b)
   have hb' := hq2 (na raw b) (hna b g2)
   have cn := cq (na raw b) (hna b g2)
   have csc := sFScale (f := F.var v) (var_fl v) hq (by decide) (by decide) (by decide)
   have w2 : ((F.var v).scale (fdQ raw (na raw b)).1).wf ((v + 1 : Nat) : Int) := (F.wf.var (by omega) (by omega)).scale
   have l2 : ((F.var v).scale (fdQ raw (na raw b)).1).fl (1 + 1 + 2) 1 := (var_fl v).scale hq
   have cad := sFAdd g4.cn w2.cn g5 l2 (by omega) (by omega) (by omega) (by omega)
   have w3 := (g4.mono (by omega : (v : Int) ≤ ((v + 1 : Nat) : Int))).add w2
   have l3 := (g5.add l2).mono (k' := 1 + 6 * (v + 1)) (n' := v + 1) (by omega) (by omega)
   generalize (fdQ raw (na raw b)).2 = b' at *
   generalize (fdQ raw (na raw b)).1 = q at *
   generalize hS : (F.var v).scale q = S at *
   generalize hT : f.add S = T at *
   obtain ⟨V, hV⟩ : ∃ V, fA (F.var v) = V := ⟨_, rfl⟩
   obtain ⟨S', hS'⟩ : ∃ S', fA S = S' := ⟨_, rfl⟩
   obtain ⟨T', hT'⟩ : ∃ T', fA T = T' := ⟨_, rfl⟩
   obtain ⟨X, hX⟩ : ∃ X, ratR q = X := ⟨_, rfl⟩
   obtain ⟨f', hf'⟩ : ∃ f', fA f = f' := ⟨_, rfl⟩
   have d1 : SoundS 95 [.int .i64 (fun _ => (v : Int))] (av V) := by subst hV; exact sRgVar v
   have d2 : SoundS 47 [av V, rv X] (av S') := by subst hV hX hS'; exact csc
   have d3 : SoundS 26 [av f', av S'] (av T') := by subst hf' hS' hT'; exact cad
   have d4 : Sound 101 [.ptr 1000000 0] (fdo raw (na raw b)) [] (rv X) (fdo raw b') [] := by subst hX; exact cn
   rw [hf']
   clear hV hX hS' csc cad cn
   cbv
   refine draw_ef 6 [(4, 1000000)] (by cbv) (by cbv) (by cbv) ?_
   cbv
   refine callS_d okA (d1) rfl ?_
   cbv
   refine eff_of (fun _ => 1000000) rfl (by exact ⟨leS_refl _, trivial⟩) d4 rfl rfl rfl rfl rfl rfl ?_
   cbv
   refine callS_d okA (d2) rfl ?_
   cbv
   refine callS' rfl okA (d3) rfl ?_
   cbv
   refine ⟨in64_of om om, (v + 1, b', T), ⟨om, hb', g3, w3, l3⟩, om, .le okZ ?_ rfl⟩
   subst hT'
   exact okZ
  ·rw [fdFs_step0 (by rw [hk3]; (try dsimp only [ncast] at *); omega)] at g3
   have hb' := hna b g2
   generalize na raw b = b' at *
   cbv
   exact ⟨in64_of om om, (v + 1, b', f), ⟨om, hb', g3, g4.mono (by show (v : Int) ≤ ((v + 1 : Nat) : Int); omega), g5.mono (by show 1 + 6 * v ≤ 1 + 6 * (v + 1); omega) (by show v ≤ v + 1; omega)⟩, (by show n - (v + 1) < n - v; omega), .le okZ okZ rfl⟩
 ·have hv : v = n := om
  have hR : R = (f, b) := by rw [g3, show n - v = 0 by omega]; rfl
  subst hR
  have hW' : fA f = W := hW
  cbv
  subst hW'
  exact retKC (.refl _) rfl rfl rfl rfl (by cbv; exact ⟨leS_refl _, leS_refl _, leS_refl _, leS_refl _, trivial⟩)
end Go.Proofs.YtcanljninhfmhaaGreat

namespace Go.Proofs.YtcanljninhfmhaaGreat
open Go
set_option linter.unusedVariables false
set_option maxRecDepth 100000
set_option maxHeartbeats 4000000
theorem tyU8s : ty 22 = .sli 1 1 [.int .u8 (fun _ => 0)] := by cbv
theorem tyAffs : ty 26 = .sli 4 80 [.nil, .ff, .nil, .nil] := by cbv
theorem tyRats : ty 29 = .sli 3 56 [.ff, .nil, .nil] := by cbv
theorem hfFdNew : Pg.funcs[98]? = some Tryz.f98 := by rw [Pg_eq]; rfl
theorem sFdNew (raw : List UInt8) (hr : raw.length < 2^38) : Sound 98 [u8v raw] [] [] (.ptr 100 0) [] [(100, .box [u8v raw, .int .i64 (fun _ => ((0 : Nat) : Int))])] := by
 refine sound_fn hfFdNew rfl rfl rfl rfl rfl ?_
 cbv
 refine app_nil tyU8s rfl rfl (enc_wid u8c_len _) (room_of (by simp only [enc_len]; omega) (by simp only [enc_len]; omega)) rfl ?_
 cbv
 refine retM1 7 (.trans (.frz 5 rfl rfl ?_ ?_) (.le (ps' := ⟨[(2, .ptr 7 0)], [(7, .box [u8v raw, .int .i64 (fun _ => ((0 : Nat) : Int))])]⟩) ?_ ?_ rfl)) rfl rfl rfl ?_
 ·cbv
  repeat' first | exact trivial | exact frok_of (by simp [enc_len]) | apply And.intro
 ·cbv
  repeat' first | exact trivial | exact frok_of (by simp [enc_len]) | apply And.intro
 ·exact okZ
 ·cbv
  exact ⟨⟨leS_sl (List.take_of_length_le (by simp [enc_len])), leS_refl _, trivial⟩, trivial⟩
 ·cbv
  exact leS_refl _
theorem fdL_cons (raw : List UInt8) (d k v a : Nat) : fdL raw d (k + 1) v a = ((fdF raw v a).1 :: (fdL raw d k (v + d) (fdF raw v a).2).1, (fdL raw d k (v + d) (fdF raw v a).2).2) := rfl
theorem fdL_zero (raw : List UInt8) (d v a : Nat) : fdL raw d 0 v a = ([], a) := rfl
theorem enc_snoc {α : Type} (p : α → List PV) (l : List α) (a : α) : enc p l ++ mapDD [p a] = enc p (l ++ [a]) := by rw [← enc_app]; rfl
theorem hfFdGraph : Pg.funcs[146]? = some Tryz.f146 := by rw [Pg_eq]; rfl
theorem sFdGraph (raw : List UInt8) (a : Nat) (hr : raw.length < 2^38) (ha : a ≤ raw.length) :
  Sound 146 [.ptr 1000000 0] (fdo raw a) [] (gv (fdG raw a).1.g) (fdo raw (fdG raw a).2) [] := by
 refine sound_fn hfFdGraph rfl rfl rfl rfl rfl ?_
 have c1 := sFdNext raw a 3 hr (by decide) (by decide) ha
 have c2 := sFdNext raw (na raw a) 5 hr (by decide) (by decide) (na_le ha)
 have c3 := sFdNext raw (na raw (na raw a)) 3 hr (by decide) (by decide) (na_le (na_le ha))
 have cF : ∀ (v b : Nat), b ≤ raw.length → v ≤ 100 → Sound 148 [.ptr 1000000 0, .int .i64 (fun _ => (v : Int))] (fdo raw b) [] (fv (fdF raw v b).1) (fdo raw (fdF raw v b).2) [] := fun v b h1 h2 => sFdForm raw v b hr h1 h2
 have hFl : ∀ (v b : Nat), b ≤ raw.length → (fdF raw v b).2 ≤ raw.length := fun v b h => fdF_le h
 have l1 : fdN raw 3 a < 3 := fdN_lt (by decide)
 have l2 : fdN raw 5 (na raw a) < 5 := fdN_lt (by decide)
 have l3 : fdN raw 3 (na raw (na raw a)) < 3 := fdN_lt (by decide)
 have hb3 : na raw (na raw (na raw a)) ≤ raw.length := na_le (na_le (na_le ha))
 have hG : fdG raw a = (⟨1 + fdN raw 3 a, (fdL raw 1 (fdN raw 5 (na raw a)) (1 + fdN raw 3 a) (na raw (na raw (na raw a)))).1, (fdL raw 0 (1 + fdN raw 3 (na raw (na raw a))) (1 + fdN raw 3 a + fdN raw 5 (na raw a)) (fdL raw 1 (fdN raw 5 (na raw a)) (1 + fdN raw 3 a) (na raw (na raw (na raw a)))).2).1⟩, (fdL raw 0 (1 + fdN raw 3 (na raw (na raw a))) (1 + fdN raw 3 a + fdN raw 5 (na raw a)) (fdL raw 1 (fdN raw 5 (na raw a)) (1 + fdN raw 3 a) (na raw (na raw (na raw a)))).2).2) := rfl
 rw [hG]
 clear hG
 generalize na raw (na raw (na raw a)) = b3 at *
 generalize na raw (na raw a) = b2 at *
 generalize na raw a = b1 at *
 generalize fdN raw 3 a = x1 at *
 generalize fdN raw 5 b1 = x2 at *
 generalize fdN raw 3 b2 = x3 at *
 obtain ⟨U, hU⟩ : ∃ U, fdL raw 1 x2 (1 + x1) b3 = U := ⟨_, rfl⟩
 obtain ⟨O, hO⟩ : ∃ O, fdL raw 0 (1 + x3) (1 + x1 + x2) U.2 = O := ⟨_, rfl⟩
 rw [hU, hO]
 have hUl : U.1.length = x2 := by rw [← hU, fdL_len]
 have hOl : O.1.length = 1 + x3 := by rw [← hO, fdL_len]
 obtain ⟨UA, hUA⟩ : ∃ l, U.1.map fA = l := ⟨_, rfl⟩
 obtain ⟨OA, hOA⟩ : ∃ l, O.1.map fA = l := ⟨_, rfl⟩
 obtain ⟨bO, hbO⟩ : ∃ b, O.2 = b := ⟨_, rfl⟩
 have hgoal : gv (⟨1 + x1, U.1, O.1⟩ : FGrp).g = .agg [.int .i64 (fun _ => ((1 + x1 : Nat) : Int)), alv UA, alv OA] := by rw [← hUA, ← hOA]; rfl
 show wp _ _ (postOf _ (gv (⟨1 + x1, U.1, O.1⟩ : FGrp).g) (fdo raw O.2) [])
 rw [hgoal, hbO]
 clear hgoal
 cbv
 refine callK (fun _ => 1000000) (.refl _) rfl (by exact ⟨leS_refl _, leS_refl _, trivial⟩) c1 ⟨⟨rfl, rfl⟩, trivial⟩ rfl rfl rfl rfl rfl rfl rfl rfl ?_
 cbv
 refine ⟨in64_of om om, ?_⟩
 cbv
 refine callK (fun _ => 1000000) (.refl _) rfl (by exact ⟨leS_refl _, leS_refl _, trivial⟩) c2 ⟨⟨rfl, rfl⟩, trivial⟩ rfl rfl rfl rfl rfl rfl rfl rfl ?_
 cbv
 refine callK (fun _ => 1000000) (.refl _) rfl (by exact ⟨leS_refl _, leS_refl _, trivial⟩) c3 ⟨⟨rfl, rfl⟩, trivial⟩ rfl rfl rfl rfl rfl rfl rfl rfl ?_
 cbv
 refine ⟨in64_of om om, ?_⟩
 cbv
 refine loop_n (σ := Nat × Nat × List F) (fun s => ⟨[(0, .ptr 1000000 0), (2, .ptr 2 0), (3, .ptr 3 0), (4, .int .i64 (fun _ => (x2 : Int))), (5, .int .i64 (fun _ => ((1 + x3 : Nat) : Int))), (6, .int .i64 (fun _ => (s.1 : Int)))],
   [(1000000, .box [u8v raw, .int .i64 (fun _ => (s.2.1 : Int))]), (2, .box [.int .i64 (fun _ => 0), .nil, .nil]), (3, .box [.int .i64 (fun _ => ((1 + x1 : Nat) : Int)), .osl 31 4 (fun _ => 0) (fun _ => s.2.2.length), .nil]), (31, .arr 4 (fun _ => enc ac (s.2.2.map fA)))]⟩)
  (fun s => s.1 ≤ x2 ∧ s.2.1 ≤ raw.length ∧ U.1 = s.2.2 ++ (fdL raw 1 (x2 - s.1) (1 + x1 + s.1) s.2.1).1 ∧ U.2 = (fdL raw 1 (x2 - s.1) (1 + x1 + s.1) s.2.1).2) (fun s => x2 - s.1)
  (0, b3, []) ⟨by omega, hb3, by rw [← hU]; rfl, by rw [← hU]; rfl⟩
  (.trans (.le (ps' := ⟨[(0, .ptr 1000000 0), (2, .ptr 2 0), (3, .ptr 3 0), (4, .int .i64 (fun _ => (x2 : Int))), (5, .int .i64 (fun _ => ((1 + x3 : Nat) : Int))), (6, .int .i64 (fun _ => ((0 : Nat) : Int)))],
    [(1000000, .box [u8v raw, .int .i64 (fun _ => (b3 : Int))]), (2, .box [.int .i64 (fun _ => 0), .nil, .nil]), (3, .box [.int .i64 (fun _ => ((1 + x1 : Nat) : Int)), .nil, .nil])]⟩) okZ okZ rfl)
   (.trans (.adoptB (ps := ⟨[(0, .ptr 1000000 0), (2, .ptr 2 0), (3, .ptr 3 0), (4, .int .i64 (fun _ => (x2 : Int))), (5, .int .i64 (fun _ => ((1 + x3 : Nat) : Int))), (6, .int .i64 (fun _ => ((0 : Nat) : Int)))],
    [(1000000, .box [u8v raw, .int .i64 (fun _ => (b3 : Int))]), (2, .box [.int .i64 (fun _ => 0), .nil, .nil]), (3, .box [.int .i64 (fun _ => ((1 + x1 : Nat) : Int)), .nil, .nil])]⟩) (cs := [.int .i64 (fun _ => ((1 + x1 : Nat) : Int)), .nil, .nil]) 31 4 3 1 rfl rfl rfl) (.le okZ ?_ rfl))) ?_
 ·cbv
  exact ⟨⟨leS_refl _, leS_refl _, trivial⟩, ⟨leS_refl _, leS_refl _, leS_refl _, trivial⟩, ⟨leS_refl _, leS_refl _, leS_refl _, trivial⟩, elsEq_of rfl, trivial⟩
 intro s hs
 obtain ⟨j, b, us⟩ := s
 obtain ⟨g1, g2, g3, g4⟩ := hs
 dsimp only at g1 g2 g3 g4
 cbv
 refine cut_dec (fun h => ?_) (fun h => ?_)
 ·have hj : j < x2 := om
  rw [show x2 - j = (x2 - (j + 1)) + 1 by omega, fdL_cons] at g3 g4
  have cf := cF (1 + x1 + j) b g2 (by omega)
  have hb' := hFl (1 + x1 + j) b g2
  generalize hFF : fdF raw (1 + x1 + j) b = FF at *
  obtain ⟨W, hW⟩ : ∃ W, fA FF.1 = W := ⟨_, rfl⟩
  obtain ⟨b', hbb⟩ : ∃ b', FF.2 = b' := ⟨_, rfl⟩
  have d1 : Sound 148 [.ptr 1000000 0, .int .i64 (fun _ => ((1 + x1 + j : Nat) : Int))] (fdo raw b) [] (av W) (fdo raw b') [] := by subst hW hbb; exact cf
  rw [hbb] at g3 g4 hb'
  clear cf
  cbv
  refine draw_ef 9 [(7, 1000000)] (by cbv) (by cbv) (by cbv) ?_
  cbv
  refine ⟨in64_of om om, ?_⟩
  cbv
  refine eff_of (fun _ => 1000000) rfl (by exact ⟨leS_refl _, leS_int om, trivial⟩) d1 rfl rfl rfl rfl rfl rfl ?_
  cbv
  refine app_own tyAffs rfl rfl rfl (by simp [enc_len]) rfl ⟨by simp [mapDD, mapD]⟩ (room_of (by simp [mapDD] <;> omega) (by have hus : us.length < x2 := (by have := congrArg List.length g3; rw [hUl] at this; simp at this; omega); simp [mapDD, enc_len]; (try dsimp only [ncast] at *); omega)) rfl ?_
  cbv
  refine ⟨in64_of om om, (j + 1, b', us ++ [FF.1]), ⟨om, hb', by rw [g3]; simp [Nat.add_assoc], by rw [g4]; simp [Nat.add_assoc]⟩, (by show x2 - (j + 1) < x2 - j; omega), .le okZ ?_ rfl⟩
  cbv
  refine ⟨⟨leS_refl _, leS_refl _, trivial⟩, ⟨leS_refl _, leS_refl _, leS_refl _, trivial⟩, ⟨leS_refl _, leS_osl rfl (by simp [mapDD, enc_len]), leS_refl _, trivial⟩, elsEq_of ?_, trivial⟩
  subst hW
  show enc ac (us.map fA) ++ mapDD [ac (fA FF.1)] = enc ac ((us ++ [FF.1]).map fA)
  rw [enc_snoc, List.map_append]
  rfl
 have hj : j = x2 := om
 subst hj
 rw [Nat.sub_self, fdL_zero] at g3 g4
 have e1 : U.1 = us := by rw [g3]; simp
 have e2 : U.2 = b := g4
 have hul : us.length = j := by rw [← e1, ← hU, fdL_len]
 have hUAs : us.map fA = UA := by rw [← hUA, e1]
 rw [e2] at hO
 clear g3 g4 h hU hUA e1 e2
 cbv
 refine loop_n (σ := Nat × Nat × List F) (fun s => ⟨[(0, .ptr 1000000 0), (2, .ptr 2 0), (3, .ptr 3 0), (4, .int .i64 (fun _ => (j : Int))), (5, .int .i64 (fun _ => ((1 + x3 : Nat) : Int))), (7, .int .i64 (fun _ => (s.1 : Int)))],
   [(1000000, .box [u8v raw, .int .i64 (fun _ => (s.2.1 : Int))]), (2, .box [.int .i64 (fun _ => 0), .nil, .nil]), (3, .box [.int .i64 (fun _ => ((1 + x1 : Nat) : Int)), alv UA, .osl 47 4 (fun _ => 0) (fun _ => s.2.2.length)]), (47, .arr 4 (fun _ => enc ac (s.2.2.map fA)))]⟩)
  (fun s => s.1 ≤ 1 + x3 ∧ s.2.1 ≤ raw.length ∧ O.1 = s.2.2 ++ (fdL raw 0 (1 + x3 - s.1) (1 + x1 + j) s.2.1).1 ∧ O.2 = (fdL raw 0 (1 + x3 - s.1) (1 + x1 + j) s.2.1).2) (fun s => 1 + x3 - s.1)
  (0, b, []) ⟨by omega, g2, by rw [← hO]; rfl, by rw [← hO]; rfl⟩
  (.trans (.frz 31 rfl rfl (by cbv; repeat' first | exact trivial | exact frok_of (by simp [enc_len]) | apply And.intro) (by cbv; repeat' first | exact trivial | exact frok_of (by simp [enc_len]) | apply And.intro))
   (.trans (.le (ps' := ⟨[(0, .ptr 1000000 0), (2, .ptr 2 0), (3, .ptr 3 0), (4, .int .i64 (fun _ => (j : Int))), (5, .int .i64 (fun _ => ((1 + x3 : Nat) : Int))), (7, .int .i64 (fun _ => ((0 : Nat) : Int)))],
    [(1000000, .box [u8v raw, .int .i64 (fun _ => (b : Int))]), (2, .box [.int .i64 (fun _ => 0), .nil, .nil]), (3, .box [.int .i64 (fun _ => ((1 + x1 : Nat) : Int)), alv UA, .nil])]⟩) okZ ?_ rfl)
   (.trans (.adoptB (ps := ⟨[(0, .ptr 1000000 0), (2, .ptr 2 0), (3, .ptr 3 0), (4, .int .i64 (fun _ => (j : Int))), (5, .int .i64 (fun _ => ((1 + x3 : Nat) : Int))), (7, .int .i64 (fun _ => ((0 : Nat) : Int)))],
    [(1000000, .box [u8v raw, .int .i64 (fun _ => (b : Int))]), (2, .box [.int .i64 (fun _ => 0), .nil, .nil]), (3, .box [.int .i64 (fun _ => ((1 + x1 : Nat) : Int)), alv UA, .nil])]⟩) (cs := [.int .i64 (fun _ => ((1 + x1 : Nat) : Int)), alv UA, .nil]) 47 4 3 2 rfl rfl rfl) (.le okZ ?_ rfl)))) ?_
 ·cbv
  exact ⟨⟨leS_refl _, leS_refl _, trivial⟩, ⟨leS_refl _, leS_refl _, leS_refl _, trivial⟩, ⟨leS_refl _, leS_sl (by rw [List.drop_zero, List.take_of_length_le (by simp [enc_len]), hUAs]), leS_refl _, trivial⟩, trivial⟩
 ·cbv
  exact ⟨⟨leS_refl _, leS_refl _, trivial⟩, ⟨leS_refl _, leS_refl _, leS_refl _, trivial⟩, ⟨leS_refl _, leS_refl _, leS_refl _, trivial⟩, elsEq_of rfl, trivial⟩
 clear g2 hUAs hul
 intro s hs
 obtain ⟨i, b, os⟩ := s
 obtain ⟨g1', g2, g3, g4⟩ := hs
 dsimp only at g1' g2 g3 g4
 cbv
 refine cut_dec (fun h => ?_) (fun h => ?_)
 ·have hi : i < 1 + x3 := om
  rw [show 1 + x3 - i = (1 + x3 - (i + 1)) + 1 by omega, fdL_cons] at g3 g4
  have cf := cF (1 + x1 + j) b g2 (by omega)
  have hb' := hFl (1 + x1 + j) b g2
  generalize hFF : fdF raw (1 + x1 + j) b = FF at *
  obtain ⟨W, hW⟩ : ∃ W, fA FF.1 = W := ⟨_, rfl⟩
  obtain ⟨b', hbb⟩ : ∃ b', FF.2 = b' := ⟨_, rfl⟩
  have d1 : Sound 148 [.ptr 1000000 0, .int .i64 (fun _ => ((1 + x1 + j : Nat) : Int))] (fdo raw b) [] (av W) (fdo raw b') [] := by subst hW hbb; exact cf
  rw [hbb] at g3 g4 hb'
  clear cf
  cbv
  refine draw_ef 9 [(7, 1000000)] (by cbv) (by cbv) (by cbv) ?_
  cbv
  refine ⟨in64_of om om, ?_⟩
  cbv
  refine eff_of (fun _ => 1000000) rfl (by exact ⟨leS_refl _, leS_int om, trivial⟩) d1 rfl rfl rfl rfl rfl rfl ?_
  cbv
  refine app_own tyAffs rfl rfl rfl (by simp [enc_len]) rfl ⟨by simp [mapDD, mapD]⟩ (room_of (by simp [mapDD] <;> omega) (by have hos : os.length < 1 + x3 := (by have := congrArg List.length g3; rw [hOl] at this; simp at this; omega); simp [mapDD, enc_len]; (try dsimp only [ncast] at *); omega)) rfl ?_
  cbv
  refine ⟨in64_of om om, (i + 1, b', os ++ [FF.1]), ⟨om, hb', by rw [g3]; simp [Nat.add_assoc], by rw [g4]; simp [Nat.add_assoc]⟩, (by show 1 + x3 - (i + 1) < 1 + x3 - i; omega), .le okZ ?_ rfl⟩
  cbv
  refine ⟨⟨leS_refl _, leS_refl _, trivial⟩, ⟨leS_refl _, leS_refl _, leS_refl _, trivial⟩, ⟨leS_refl _, leS_refl _, leS_osl rfl (by simp [mapDD, enc_len]), trivial⟩, elsEq_of ?_, trivial⟩
  subst hW
  show enc ac (os.map fA) ++ mapDD [ac (fA FF.1)] = enc ac ((os ++ [FF.1]).map fA)
  rw [enc_snoc, List.map_append]
  rfl
 ·have hi : i = 1 + x3 := om
  subst hi
  rw [Nat.sub_self, fdL_zero] at g3 g4
  have e1 : O.1 = os := by rw [g3]; simp
  have e2 : O.2 = b := g4
  have e3 : os.map fA = OA := by rw [← hOA, e1]
  have e4 : b = bO := by rw [← hbO, e2]
  subst e4
  cbv
  refine retKC (.trans (.le (ps' := ⟨[(2, .ptr 2 0)], [(1000000, .box [u8v raw, .int .i64 (fun _ => (b : Int))]), (2, .box [.int .i64 (fun _ => ((1 + x1 : Nat) : Int)), alv UA, .osl 47 4 (fun _ => 0) (fun _ => os.length)]), (47, .arr 4 (fun _ => enc ac (os.map fA)))]⟩) okZ ?_ rfl) (.frz 47 rfl rfl (by cbv; repeat' first | exact trivial | exact frok_of (by simp [enc_len]) | apply And.intro) (by cbv; repeat' first | exact trivial | exact frok_of (by simp [enc_len]) | apply And.intro))) rfl rfl rfl rfl ?_
  ·cbv
   exact ⟨⟨leS_refl _, leS_refl _, trivial⟩, ⟨leS_refl _, leS_refl _, leS_refl _, trivial⟩, elsEq_of rfl, trivial⟩
  ·cbv
   exact ⟨leS_refl _, leS_refl _, leS_sl (by rw [List.drop_zero, List.take_of_length_le (by simp [enc_len]), e3]), trivial⟩
end Go.Proofs.YtcanljninhfmhaaGreat
