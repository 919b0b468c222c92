/- A part of the proof: RuH, RuI, SpV, UtB, RuJ, SpW, RuK, LxA, BrC. -/
import Derived.Test.YtcanljninhfmhaaGreatU36
import Derived.Test.YtcanljninhfmhaaGreatU34
import Derived.Test.YtcanljninhfmhaaGreatU32
import Derived.Test.YtcanljninhfmhaaGreatU25
import Derived.Test.YtcanljninhfmhaaGreatU35
import Derived.Test.YtcanljninhfmhaaGreatU30
import Derived.Test.YtcanljninhfmhaaGreatU27
import Derived.Test.YtcanljninhfmhaaGreatU31
import Derived.Test.YtcanljninhfmhaaGreatU33
set_option linter.all false
namespace Go.Proofs.YtcanljninhfmhaaGreat
open Go
set_option maxRecDepth 100000
set_option maxHeartbeats 4000000
theorem sR22AM (s : Scp) (v : Int) (hs : Lsz (2^20) s.lems) (hv : -4611686018427387904 ≤ v) (hv2 : v < 4611686018427387904) (hn : 0 ≤ s.q.g.n) (hn2 : s.q.g.n ≤ 256) :
  zC 143 [sv s, .int .i64 (fun _ => v)] (.tup [mlv (mR ((s.atMostM v).getD [])), .bool (fun _ => (s.atMostM v).isSome)]) := by
 refine sF Tryz.f143 ?_
 have c1 := s32 1 (by decide) (by decide)
 rw [show (((1 : Int) : Rat)) = (1 : Rat) by rfl] at c1
 have cb := iF s (v - s.q.g.n) hs
 have hbs := fun k h h0 => cU (s := s) (unit := v - s.q.g.n) (k := k) h h0
 have hss := hs.sz
 have hva : ∀ k m, s.lems[k - 1]? = some m → wE s.lems k = m.v.q := fun k m h => by unfold wE; rw [h]; rfl
 have h1 : v < s.q.g.n → s.atMostM v = some [(⟨2, v, 0, 0⟩, 1)] := fun h => by unfold Scp.atMostM; rw [if_pos h]
 have h2 : ¬ v < s.q.g.n → (s.best (v - s.q.g.n)).1 = 0 ∨ (s.best (v - s.q.g.n)).2 = 0 → s.atMostM v = none := fun h h' => by unfold Scp.atMostM; rw [if_neg h, if_pos h']
 have h3 : ¬ v < s.q.g.n → ¬ ((s.best (v - s.q.g.n)).1 = 0 ∨ (s.best (v - s.q.g.n)).2 = 0) → s.atMostM v = some (upM (v - s.q.g.n) (s.best (v - s.q.g.n)).1 (s.best (v - s.q.g.n)).2 (wE s.lems (s.best (v - s.q.g.n)).1) (wE s.lems (s.best (v - s.q.g.n)).2)) := fun h h' => by unfold Scp.atMostM; rw [if_neg h, if_neg h']
 generalize s.atMostM v = o at *
 generalize s.best (v - s.q.g.n) = B at *
 obtain ⟨b1, b2⟩ := B
 dsimp only at h2 h3 hbs cb
 have hll := hs.len
 obtain ⟨⟨⟨gn, us, os⟩, ⟨lo, hi, rows⟩, ⟨ts, c1', c2', c3'⟩⟩, path, L⟩ := s
 dsimp only at *
 obtain ⟨res, hres⟩ : ∃ r, mR (o.getD []) = r := ⟨_, rfl⟩
 obtain ⟨bb, hbb⟩ : ∃ b, o.isSome = b := ⟨_, rfl⟩
 rw [hres, hbb]
 have r1 : v < gn → res = [⟨⟨2, v, 0, 0⟩, zE 1⟩] ∧ bb = true := fun h => by rw [← hres, ← hbb, h1 h]; exact ⟨rfl, rfl⟩
 have r2 : ¬ v < gn → b1 = 0 ∨ b2 = 0 → res = [] ∧ bb = false := fun h h' => by rw [← hres, ← hbb, h2 h h']; exact ⟨rfl, rfl⟩
 have r3 : ¬ v < gn → ¬ (b1 = 0 ∨ b2 = 0) → ∀ m1 m2, L[b1 - 1]? = some m1 → L[b2 - 1]? = some m2 → res = mR (upM (v - gn) b1 b2 m1.v.q m2.v.q) ∧ bb = true := fun h h' m1 m2 g1 g2 => by
  rw [← hres, ← hbb, h3 h h', hva b1 m1 g1, hva b2 m2 g2]; exact ⟨rfl, rfl⟩
 clear h1 h2 h3 hres hbb hva hs
 obtain ⟨O1, hO1⟩ : ∃ O, zE 1 = O := ⟨_, rfl⟩
 rw [hO1] at c1 r1
 cbv
 refine cA c1 ?_
 cbv
 refine zF (fun e => ?_) (fun e => ?_)
 ·obtain ⟨q1, q2⟩ := r1 e
  subst q1 q2
  cbv
  (refine rC ?_; cbv)
  exact ⟨zP rfl, yG rfl, trivial⟩
 cbv
 refine ⟨zH om om, ?_⟩
 cbv
 refine cA cb ?_
 cbv
 refine zQ (fun e1 => ?_) (fun e1 => ?_)
 ·obtain ⟨q1, q2⟩ := r2 e (.inl om)
  subst q1 q2
  cbv
  (refine rC ?_; cbv)
  exact okA
 cbv
 refine zF (fun e2 => ?_) (fun e2 => ?_)
 ·obtain ⟨q1, q2⟩ := r2 e (.inr om)
  subst q1 q2
  cbv
  (refine rC ?_; cbv)
  exact okA
 have e1' : b1 ≠ 0 := by (try dsimp only [zG] at *); omega
 have e2' : b2 ≠ 0 := by (try dsimp only [zG] at *); omega
 obtain ⟨m1, g1, _⟩ := hbs b1 (.inl rfl) e1'
 obtain ⟨m2, g2, _⟩ := hbs b2 (.inr rfl) e2'
 have r3' := r3 e (by omega) m1 m2 g1 g2
 have z1 := hss m1 (List.mem_of_getElem? g1)
 have z2 := hss m2 (List.mem_of_getElem? g2)
 have l1 := (List.getElem?_eq_some_iff.1 g1).1
 have l2 := (List.getElem?_eq_some_iff.1 g2).1
 have i1 : ∀ {K : List PV → Prop}, K (lc m1) → IdxOk 6 (fun _ => enc lc L) (fun _ => (b1 : Int) - 1) K := fun hK => v8 g1 (by omega) v7 uM hK
 have i2 : ∀ {K : List PV → Prop}, K (lc m2) → IdxOk 6 (fun _ => enc lc L) (fun _ => (b2 : Int) - 1) K := fun hK => v8 g2 (by omega) v7 uM hK
 have csl := s35 m1.v (by have := z1.n; omega)
 have csu := s35 m2.v (by have := z2.n; omega)
 have cdf := s93 m2.v m1.v (z2.mono (by decide)) (z1.mono (by decide))
 have fu := z2.fits (by decide)
 have fd := u9 fu (z1.fits (by decide))
 have cdv : m2.v.q - m1.v.q ≠ 0 → zC 185 [rv O1, rv (zE (m2.v.q - m1.v.q))] (.tup [rv (zE (1 / (m2.v.q - m1.v.q))), .int .i64 (fun _ => (0 : Int))]) := fun h => by
  have := s182 (zE 1) (zE (m2.v.q - m1.v.q)) ((zY fits_one).mono (by decide)) ((zY fd).mono (by decide)) (by rw [zW]; exact h)
  rw [zW, zW, hO1] at this
  exact this
 have fq : Fits (2^22) (1 / (m2.v.q - m1.v.q)) := by rw [Rat.div_def]; exact (xI fits_one (fits_inv fd)).mono (by decide)
 have cmu := s77 (zE (1 / (m2.v.q - m1.v.q))) m2.v ((zY fq).mono (by decide)) (z2.mono (by decide))
 rw [zW] at cmu
 have hne : ¬ yA m2.v.q ≤ 0 → ¬ 0 ≤ yA m1.v.q → m2.v.q - m1.v.q ≠ 0 := fun h h' => by
  have hu : 0 < m2.v.q := by unfold yA at h; split at h <;> (try split at h) <;> grind
  have hl : m1.v.q < 0 := by unfold yA at h'; split at h' <;> (try split at h') <;> grind
  grind
 have ra : yA m2.v.q ≤ 0 → res = [⟨⟨10, v - gn, 0, b2⟩, O1⟩] := fun h => by rw [r3'.1, ← hO1]; unfold upM; rw [if_pos h]; rfl
 have rb : ¬ yA m2.v.q ≤ 0 → 0 ≤ yA m1.v.q → res = [⟨⟨8, v - gn, b1, 0⟩, O1⟩, ⟨⟨12, v - gn, 0, b2⟩, O1⟩] := fun h h' => by rw [r3'.1, ← hO1]; unfold upM; rw [if_neg h, if_pos h']; rfl
 have rcc : ¬ yA m2.v.q ≤ 0 → ¬ 0 ≤ yA m1.v.q → res = [⟨⟨12, v - gn, 0, b2⟩, zE (1 / (m2.v.q - m1.v.q) * m2.v.q)⟩, ⟨⟨13, v - gn, b1, b2⟩, zE (1 / (m2.v.q - m1.v.q))⟩] := fun h h' => by rw [r3'.1]; unfold upM; rw [if_neg h, if_neg h']; rfl
 obtain ⟨_, q2⟩ := r3'
 subst q2
 have cdv' := fun h h' => cdv (hne h h')
 clear cdv hne fq fd fu z1 z2 r1 r2 r3 cb hbs c1
 generalize yA m2.v.q = su at *
 generalize yA m1.v.q = sl at *
 generalize zE (1 / (m2.v.q - m1.v.q) * m2.v.q) = M at *
 generalize zE (1 / (m2.v.q - m1.v.q)) = Q at *
 generalize zE (m2.v.q - m1.v.q) = D at *
 cbv
 refine vL 17 [(16, 10)] (by cbv) (by cbv) (by cbv) ?_
 cbv
 refine ⟨zH om om, i1 ?_⟩
 cbv
 refine ⟨zH om om, i2 ?_⟩
 cbv
 refine cA csu ?_
 cbv
 refine zF (fun e3 => ?_) (fun e3 => ?_)
 ·have q1 := ra e3
  subst q1
  cbv
  (refine rC ?_; cbv)
  exact ⟨zP rfl, yG rfl, trivial⟩
 cbv
 refine cA csl ?_
 cbv
 refine zF (fun e4 => ?_) (fun e4 => ?_)
 ·have q1 := rb e3 e4
  subst q1
  cbv
  (refine rC ?_; cbv)
  exact ⟨zP rfl, yG rfl, trivial⟩
 have q1 := rcc e3 e4
 have cd := cdv' e3 e4
 subst q1
 cbv
 refine vL 10 [(9, 12)] (by cbv) (by cbv) (by cbv) ?_
 cbv
 refine dA cdf ?_
 cbv
 refine dA cd ?_
 cbv
 refine zO 13 (by cbv) ?_
 cbv
 refine dA cmu ?_
 cbv
 (refine rC ?_; cbv)
 exact ⟨zP rfl, yG rfl, trivial⟩
structure AbvOk (s : Scp) (f : F) : Prop where
 cn : Cn f.ts
 fl : f.fl (2^20) (2^30)
 v : ∀ t, t ∈ f.ts → -4611686018427387904 ≤ t.1 ∧ t.1 < 4611686018427387904
 pre : ∀ i l, s.aboveL (f.ts.take i) [] = some l → (∀ t, t ∈ l → Fits (2^28) t.2) ∧ l.length ≤ 2^36
 most : ∀ t, t ∈ f.ts → ∀ more, s.atMostM t.1 = some more → (∀ x, x ∈ more → Fits (2^20) x.2) ∧ more.length ≤ 64
 sum : ∀ l, s.aboveL f.ts [] = some l → SumOk s (mR l)
theorem nO {s : Scp} {t : Int × Rat} {more : List (Row × Rat)} (ht : (if 0 < yA t.2 then some (s.atLeastM t.1) else s.atMostM t.1) = some more) : ∀ {ts : List (Int × Rat)} {l l' : List (Row × Rat)}, s.aboveL ts l = some l' → s.aboveL (ts ++ [t]) l = some (vZ l' more (qT t.2))
 | [], l, l', h => by
  cases h
  rw [List.nil_append]
  unfold Scp.aboveL
  rw [ht]; rfl
 | x :: r, l, l', h => by
  rw [List.cons_append]
  unfold Scp.aboveL at h ⊢
  cases hx : (if 0 < yA x.2 then some (s.atLeastM x.1) else s.atMostM x.1) with
  | none => rw [hx] at h; cases h
  | some g =>
   rw [hx] at h
   exact nO ht h
theorem least_fit (s : Scp) (v : Int) : (∀ x, x ∈ s.atLeastM v → Fits (2^20) x.2) ∧ (s.atLeastM v).length ≤ 64 := by
 unfold Scp.atLeastM
 split <;> refine ⟨fun x hx => ?_, by simp⟩ <;> (obtain rfl := List.mem_singleton.1 hx; exact fits_one.mono (by decide))
theorem sR22Abv (s : Scp) (f : F) (hs : s.sz (2^20)) (hn : 0 ≤ s.q.g.n) (hn2 : s.q.g.n ≤ 256) (hok : AbvOk s f) :
  zC 96 [sv s, fv f] (.tup [rv (zE (((s.above f).map Prod.fst).getD 0)), mlv (mR (((s.above f).map Prod.snd).getD [])), .bool (fun _ => (s.above f).isSome)]) := by
 refine sF Tryz.f96 ?_
 have cam : ∀ t, t ∈ f.ts → zC 143 [sv s, .int .i64 (fun _ => t.1)] (.tup [mlv (mR ((s.atMostM t.1).getD [])), .bool (fun _ => (s.atMostM t.1).isSome)]) := fun t ht => sR22AM s t.1 hs.lems (hok.v t ht).1 (hok.v t ht).2 hn hn2
 have cal : ∀ t, t ∈ f.ts → zC 144 [sv s, .int .i64 (fun _ => t.1)] (mlv (mR (s.atLeastM t.1))) := fun t ht => sR22AL s t.1 (hok.v t ht).1 (hok.v t ht).2 hn hn2
 have csg : ∀ t, t ∈ f.ts → zC 28 [rv (zE t.2)] (.int .i64 (fun _ => yA t.2)) := fun t ht => by
  have := s35 (zE t.2) (Nat.lt_of_le_of_lt (zY (hok.fl.t t ht)).n (by decide))
  rw [zW] at this
  exact this
 have cmg : ∀ t, t ∈ f.ts → ∀ a b, (∀ t, t ∈ a → Fits (2^28) t.2) → a.length ≤ 2^36 → (∀ t, t ∈ b → Fits (2^20) t.2) → b.length ≤ 64 → zC 145 [mlv (mR a), mlv (mR b), .agg [.bool (fun _ => false), nat (zE t.2).num, nat (zE t.2).den]] (mlv (mR (vZ a b (qT t.2)))) := fun t ht a b h1 h2 h3 h4 => by
  have := sR22Mrg a b ⟨false, (zE t.2).num, (zE t.2).den⟩ h1 h2 h3 h4 (by rw [p9]; exact zY (rD (hok.fl.t t ht)))
  have e : (⟨false, (zE t.2).num, (zE t.2).den⟩ : R).q = qT t.2 := by rw [p9, zW]
  rw [e] at this
  exact this
 have cfin : ∀ l, s.aboveL f.ts [] = some l → zC 17 [sv s, mlv (mR l)] (.tup [fv (s.sum (mR l)).2, .int .i64 (fun _ => (s.sum (mR l)).1)]) ∧ zC 27 [fv f, fv (s.sum (mR l)).2] (fv (f.sub (s.sum (mR l)).2)) := fun l hl =>
  ⟨sR22Sum s (mR l) hs (hok.sum l hl), iI hok.cn (Scp.sum_can s _) hok.fl (Scp.sum_fl' (hok.sum l hl)) (by decide) (by decide) (by decide) (by decide)⟩
 have hab : s.above f = (s.aboveL f.ts []).map fun l => ((f.sub (s.sum (mR l)).2).c, l) := rfl
 rw [hab]
 obtain ⟨o, ho⟩ : ∃ o, s.aboveL f.ts [] = o := ⟨_, rfl⟩
 rw [ho] at cfin ⊢
 obtain ⟨AL, hAL⟩ : ∃ AL, s.aboveL = AL := ⟨_, rfl⟩
 have hTn : ∀ l, AL [] l = some l := fun l => by rw [← hAL]; rfl
 have hTc : ∀ t r l, AL (t :: r) l = match (if 0 < yA t.2 then some (s.atLeastM t.1) else s.atMostM t.1) with
  | none => none
  | some more => AL r (vZ l more (qT t.2)) := fun t r l => by rw [← hAL]; rfl
 obtain ⟨PR, hPR⟩ : ∃ PR : Nat → List (Row × Rat) → Prop, ∀ i l, PR i l = (s.aboveL (f.ts.take i) [] = some l) := ⟨_, fun _ _ => rfl⟩
 have hPRs : ∀ i t more l, f.ts[i]? = some t → (if 0 < yA t.2 then some (s.atLeastM t.1) else s.atMostM t.1) = some more → PR i l → PR (i + 1) (vZ l more (qT t.2)) := fun i t more l h1 h2 h3 => by
  rw [hPR] at h3 ⊢
  rw [lW h1]
  exact nO h2 h3
 have hPR0 : PR 0 [] := by rw [hPR]; rfl
 have hpre : ∀ i l, PR i l → (∀ t, t ∈ l → Fits (2^28) t.2) ∧ l.length ≤ 2^36 := fun i l h => hok.pre i l (by rw [← hPR]; exact h)
 have hmost := hok.most
 rw [hAL] at ho
 have hfl : f.ts.length < 2^38 := by have := hok.fl.len; omega
 obtain ⟨V, hV⟩ : ∃ V, fA f = V := ⟨_, rfl⟩
 have hVt : ∀ (i : Nat) t, f.ts[i]? = some t → V.ts[i]? = some (t.1, zE t.2) := fun i t h => by
  rw [← hV]
  show (tR f.ts)[i]? = _
  simp [tR, List.getElem?_map, h]
 have hVl : V.ts.length = f.ts.length := by rw [← hV]; exact xZ _
 have hfv : fv f = av V := by rw [← hV]
 rw [hfv] at cfin ⊢
 obtain ⟨W, hW⟩ : ∃ W, zE (((o.map fun l => ((f.sub (s.sum (mR l)).2).c, l)).map Prod.fst).getD 0) = W := ⟨_, rfl⟩
 obtain ⟨RL, hRL⟩ : ∃ W, mR (((o.map fun l => ((f.sub (s.sum (mR l)).2).c, l)).map Prod.snd).getD []) = W := ⟨_, rfl⟩
 obtain ⟨bb, hbb⟩ : ∃ W, (o.map fun l => ((f.sub (s.sum (mR l)).2).c, l)).isSome = W := ⟨_, rfl⟩
 rw [hW, hRL, hbb]
 have gN : o = none → W = R0 ∧ RL = [] ∧ bb = false := fun h => by rw [h] at hW hRL hbb; exact ⟨hW.symm.trans jB, hRL.symm, hbb.symm⟩
 have gS : ∀ l, o = some l → W = zE (f.sub (s.sum (mR l)).2).c ∧ RL = mR l ∧ bb = true := fun l h => by rw [h] at hW hRL hbb; exact ⟨hW.symm, hRL.symm, hbb.symm⟩
 clear hW hRL hbb hab hAL hPR hok hV hfv
 obtain ⟨w1, w2, w3⟩ := W
 have gN' : o = none → w1 = false ∧ w2 = [] ∧ w3 = [] ∧ RL = [] ∧ bb = false := fun h => by
  obtain ⟨h1, h2, h3⟩ := gN h
  have h1' := R.mk.inj h1
  exact ⟨h1'.1, h1'.2.1, h1'.2.2, h2, h3⟩
 clear gN
 cbv
 refine z5 (σ := Nat × List (Row × Rat)) (fun st => ⟨[(2, .ptr 2 0), (3, .ptr 3 0), (4, .ptr 4 0), (7, mlv (mR st.2)), (8, .int .i64 (fun _ => (st.1 : Int)))], [(2, .box (sc s)), (3, .box [tsv V.ts, .bool (fun _ => V.c.neg), nat V.c.num, nat V.c.den]), (4, .box [.ff, .nil, .nil])]⟩)
  (fun st => st.1 ≤ f.ts.length ∧ AL (f.ts.drop st.1) st.2 = o ∧ PR st.1 st.2) (fun st => f.ts.length - st.1)
  (0, []) ⟨Nat.zero_le _, ho, hPR0⟩ (wkZ) ?_
 intro st hst
 obtain ⟨i, acc⟩ := st
 obtain ⟨h1, h2, h4⟩ := hst
 dsimp only at h1 h2 h4
 clear ho hPR0
 have h3 := hpre i acc h4
 cbv
 refine zF (fun h5 => ?_) (fun h5 => ?_)
 ·rw [zA, hVl] at h5
  have hlt : i < f.ts.length := by (try dsimp only [zG] at *); omega
  obtain ⟨t, ht⟩ := zX hlt
  have hmem := List.mem_of_getElem? ht
  have hx := hVt i t ht
  have cam' := cam t hmem
  have cal' := cal t hmem
  have csg' := csg t hmem
  have hmo := hmost t hmem
  have cmg' := cmg t hmem
  obtain ⟨X, hX⟩ : ∃ X, zE t.2 = X := ⟨_, rfl⟩
  simp only [hX] at cmg'
  rw [hX] at hx csg'
  clear cam cal csg cmg hmost hVt cfin gS
  generalize hsg : yA t.2 = sg at *
  cbv
  refine yV hx xM xL ?_
  cbv
  refine cA cam' ?_
  cbv
  refine cA csg' ?_
  cbv
  refine zF (fun e1 => ?_) (fun e1 => ?_)
  ·have HM : (if 0 < yA t.2 then some (s.atLeastM t.1) else s.atMostM t.1) = some (s.atLeastM t.1) := by rw [hsg, if_pos e1]
   have hls := least_fit s t.1
   have hPn := hPRs i t _ acc ht HM h4
   have hn' : AL (f.ts.drop i) acc = AL (f.ts.drop (i + 1)) (vZ acc (s.atLeastM t.1) (qT t.2)) := by rw [yB ht, hTc, HM]
   rw [hn'] at h2
   have cm := cmg' acc _ h3.1 h3.2 hls.1 hls.2
   clear HM hTc hPRs hn' hls
   generalize s.atLeastM t.1 = more at *
   generalize vZ acc more (qT t.2) = acc' at *
   cbv
   refine cA cal' ?_
   cbv
   refine cA cm ?_
   cbv
   exact ⟨zH om om, (i + 1, acc'), ⟨om, h2, hPn⟩, om, wkZ⟩
  ·have HM0 : (if 0 < yA t.2 then some (s.atLeastM t.1) else s.atMostM t.1) = s.atMostM t.1 := by rw [hsg, if_neg e1]
   cases hoo : s.atMostM t.1 with
   | none =>
    have hz : o = none := by rw [← h2, yB ht, hTc, HM0, hoo]
    obtain ⟨q1, q2, q3, q4, q5⟩ := gN' hz
    subst q1 q2 q3 q4 q5
    cbv
    refine zT (fun e => absurd e (by simp)) (fun _ => ?_)
    cbv
    (refine rC ?_; cbv)
    exact okA
   | some more =>
    have hls := hmo more hoo
    have hPn := hPRs i t more acc ht (HM0.trans hoo) h4
    have hn' : AL (f.ts.drop i) acc = AL (f.ts.drop (i + 1)) (vZ acc more (qT t.2)) := by rw [yB ht, hTc, HM0, hoo]
    rw [hn'] at h2
    have cm := cmg' acc more h3.1 h3.2 hls.1 hls.2
    have hg : (s.atMostM t.1).getD [] = more := by rw [hoo]; rfl
    clear HM0 hTc hPRs hn' hls
    generalize vZ acc more (qT t.2) = acc' at *
    cbv
    refine zT (fun _ => ?_) (fun e => absurd e (by simp))
    cbv
    refine yQ rfl (by exact ⟨lR, zP rfl, okA, trivial⟩) cm rfl ?_
    cbv
    exact ⟨zH om om, (i + 1, acc'), ⟨om, h2, hPn⟩, om, wkZ⟩
 ·have hi : i = f.ts.length := by rw [zA, hVl] at h5; (try dsimp only [zG] at *); omega
  rw [hi, List.drop_length, hTn] at h2
  obtain ⟨c1, c2⟩ := cfin acc h2.symm
  obtain ⟨q1, q2, q3⟩ := gS acc h2.symm
  subst q2 q3
  (try dsimp only [fv] at c1 c2)
  have e1 : fA (f.sub (s.sum (mR acc)).2) = ⟨tR (f.sub (s.sum (mR acc)).2).ts, zE (f.sub (s.sum (mR acc)).2).c⟩ := rfl
  rw [e1, ← q1] at c2
  generalize tR (f.sub (s.sum (mR acc)).2).ts = TT at *
  generalize fA (s.sum (mR acc)).2 = SS at *
  generalize (s.sum (mR acc)).1 = code at *
  clear q1 e1 gS gN' cfin
  cbv
  refine cA c1 ?_
  cbv
  refine cA c2 ?_
  cbv
  (refine rC ?_; cbv)
  exact okA
theorem Wt.take {s : Scp} : ∀ {l : List (Row × Rat)} {N : Nat}, Wt s l N → ∀ i, ∃ M, M ≤ N ∧ Wt s (l.take i) M
 | _, _, .nil, i => ⟨0, Nat.le_refl _, by rw [List.take_nil]; exact .nil⟩
 | _, _, .cons hk hg h, 0 => ⟨0, Nat.zero_le _, by rw [List.take_zero]; exact .nil⟩
 | _, _, .cons (k := k) (g := g) (N := N) hk hg h, i + 1 => by
  obtain ⟨M, h1, h2⟩ := h.take i
  exact ⟨k + g + 5 + M, by omega, by rw [List.take_succ_cons]; exact .cons hk hg h2⟩
theorem Wt.fmem {s : Scp} : ∀ {l : List (Row × Rat)} {N : Nat}, Wt s l N → ∀ t, t ∈ l → ∀ f, s.fm t.1 = some f → f.fl N 3000
 | _, _, .nil, t, ht => absurd ht (by simp)
 | _, _, .cons hk hg h, t, ht => by
  rcases List.mem_cons.1 ht with rfl | ht
  ·exact fun f hf => (hg f hf).mono (by omega) (Nat.le_refl _)
  ·exact fun f hf => (h.fmem t ht f hf).mono (by omega) (Nat.le_refl _)
theorem Wt.sumOk {s : Scp} {l : List (Row × Rat)} {N : Nat} (h : Wt s l N) (hN : N < 2^26) (hf : ∀ t, t ∈ l → ∀ f, s.fm t.1 = some f → f.fl (2^24) 3000) (hc : ∀ t, t ∈ l → Fits (2^20) t.2) (hl : l.length ≤ 100000) : SumOk s (mR l) where
 fm m hm f hf' := by
  obtain ⟨t, ht, rfl⟩ := List.mem_map.1 hm
  exact (hf t ht f hf').mono (Nat.le_refl _) (by decide)
 c := ⟨by rw [jF]; omega, fun m hm => by
  obtain ⟨t, ht, rfl⟩ := List.mem_map.1 hm
  exact zY (hc t ht)⟩
 pre i acc ha := by
  obtain ⟨M, h1, h2⟩ := h.take i
  rw [mR_take] at ha
  have := h2.sumL zero_fl ha
  have hl2 : (l.take i).length ≤ l.length := by rw [List.length_take]; omega
  exact this.mono (by omega) (by omega)
theorem Wt.sumOk' {s : Scp} {l : List (Row × Rat)} {N : Nat} (h : Wt s l N) (hN : N ≤ 2^20) (hl : l.length ≤ 100000) : SumOk s (mR l) :=
 h.sumOk (Nat.lt_of_le_of_lt hN (by decide)) (fun t ht f hf => (h.fmem t ht f hf).mono (Nat.le_trans hN (by decide)) (Nat.le_refl _)) (fun t ht => (h.mem t ht).mono hN) hl
theorem abvOk_of {s : Scp} {x : FQry} (hq : s.q = x.q) (hx : x.small) (hL : LB KK s.lems) {f : F} {j : Nat} (hj : j ≤ 3) (hf : f.fl 46 7) (hw : f.wf ((x.g.n + j : Nat) : Int)) : AbvOk s f := by
 have ok := KK_ok hx.g.n1 hx.g.n2 hj
 have kl := KK_le j
 have hn := hx.g.n2
 have hv : ∀ t, t ∈ f.ts → ((0 : Nat) : Int) ≤ t.1 ∧ t.1 < ((x.g.n + j : Nat) : Int) := fun t ht => by have := hw.v t ht; omega
 have key : ∀ i l, s.aboveL (f.ts.take i) [] = some l → ∃ M, M ≤ 2^20 ∧ Wt s l M ∧ l.length ≤ 14 := fun i l h => by
  obtain ⟨M, h1, h2⟩ := m6 hq hx oF hL (hi := x.g.n + j) (lo := 0) (hw.cn.take i) (fun t ht => hv t (List.mem_of_mem_take ht)) (fun t ht => hf.t t (List.mem_of_mem_take ht)) (Nat.zero_le _) .nil h
  have h3 := pK h
  have h4 := hf.len
  have h5 : (f.ts.take i).length ≤ f.ts.length := by rw [List.length_take]; omega
  have h6 : rI KK x.g.n 0 = 0 := rfl
  simp only [List.length_nil] at h3
  refine ⟨M, ?_, h2, by omega⟩
  have : (679650 : Nat) ≤ 2^20 := by decide
  omega
 refine ⟨hw.cn, hf.mono (by decide) (by decide), fun t ht => ?_, fun i l h => ?_, fun t ht more h => ?_, fun l h => ?_⟩
 ·have := hv t ht
  omega
 ·obtain ⟨M, h1, h2, h3⟩ := key i l h
  exact ⟨fun t ht => (h2.mem t ht).mono (Nat.le_trans h1 (by decide)), by omega⟩
 ·obtain ⟨v, hv1⟩ : ∃ v : Nat, t.1 = v := ⟨t.1.toNat, by have := hv t ht; omega⟩
  rw [hv1] at h
  obtain ⟨B, h1, h2⟩ := most_wt hq hx oF hL v h
  have h3 := most_len h
  refine ⟨fun u hu => (h2.mem u hu).mono ?_, by omega⟩
  have hlt : v + 1 ≤ x.g.n + j := by have := hv t ht; omega
  have h4 := mY (K := KK) (n := x.g.n) hlt
  have h5 : rI KK x.g.n (v + 1) = rI KK x.g.n v + cst KK x.g.n v := rfl
  have : (679650 : Nat) ≤ 2^20 := by decide
  omega
 ·have hfull : f.ts.take f.ts.length = f.ts := List.take_length
  obtain ⟨M, h1, h2, h3⟩ := key f.ts.length l (by rw [hfull]; exact h)
  exact h2.sumOk' h1 (by omega)
theorem app_wk {t : TypeId} {base x : Operand} {d : Option Nat} {ps ps' : PS} {K : PS → Prop} (hw : Wk ps ps') (h : AppOk t base x d ps' K) : AppOk t base x d ps K := by
 obtain ⟨p, a1, a2, a3, a4, a5, a6, a7, a8⟩ := h.h
 exact ⟨p, a1, a2, a3, a4, a5, a6, .trans hw a7, a8⟩
theorem tU {α : Type} (p : α → List PV) (l : List α) : ((enc p l).drop 0).take l.length = enc p l := by rw [List.drop_zero, ← zA p l, List.take_length]
theorem enc_in {α : Type} (p : α → List PV) (l : List α) : 0 + l.length ≤ (enc p l).length := by rw [zA]; omega
theorem tyLems : ty 42 = .sli 6 96 [.int .i64 (fun _ => 0), .ff, .ff, .nil, .nil, .nil] := by cbv
def v6 (b : Bool) (j : Int) (up : Bool) (v : R) (l : List Mult) : List Lem := if b = true then [⟨j, up, v, l⟩] else []
theorem bndL_if (j : Int) (x y : Option (Rat × List (Row × Rat))) : eZ j x y = v6 x.isSome j false (zE ((x.map Prod.fst).getD 0)) (mR ((x.map Prod.snd).getD [])) ++ v6 y.isSome j true (zE (-(zE ((y.map Prod.fst).getD 0)).q)) (mR ((y.map Prod.snd).getD [])) := by
 unfold eZ v6
 cases x <;> cases y <;> simp [zW]
theorem enc_snoc1 (L : List Lem) (m : Lem) : enc lc (L ++ [m]) = enc lc L ++ zR [lc m] := by simp [enc, zR]
theorem lok_sz {q : Qry} {P : List Dec} (h : (⟨q, P, []⟩ : Scp).sz (2^20)) {L : List Lem} {j : Nat} (hj : j ≤ 4) (hL : Lok L j) : (⟨q, P, L⟩ : Scp).sz (2^20) := by
 refine ⟨h.q, h.path, ⟨by have := hL.len; show L.length < 2^38; omega, fun m hm => ?_, fun m hm => (hL.pf m hm).1.mono (by decide)⟩⟩
 obtain ⟨q, hq⟩ := hL.v m hm
 obtain ⟨i, _, hf⟩ := hL.lb m hm
 rw [hq, zW] at hf
 rw [hq]
 exact zY (hf.mono (Nat.le_trans (KK_le i) (by decide)))
structure BndF (q : Qry) (P : List Dec) (j : Nat) (L : List Lem) (p p2 : A) (xv yv zv : R) (xl yl : List Mult) (xb yb : Bool) : Prop where
 c1 : zC 96 [sv ⟨q, P, L⟩, av p] (.tup [rv xv, mlv xl, .bool (fun _ => xb)])
 c2 : zC 47 [av p, rv (zE ((-1 : Int) : Rat))] (av p2)
 c3 : zC 96 [sv ⟨q, P, L⟩, av p2] (.tup [rv yv, mlv yl, .bool (fun _ => yb)])
 c4 : yb = true → zC 97 [rv yv] (rv zv)
 lok : Lok (L ++ (v6 xb j false xv xl ++ v6 yb j true zv yl)) (j + 1)
 g : ∀ r, pH q P (p :: r) j L = pH q P r (j + 1) (L ++ (v6 xb j false xv xl ++ v6 yb j true zv yl))
theorem bnd_facts {x : FQry} (hx : x.small) (hwf : ∀ (i : Nat) (f : F), x.g.us[i]? = some f → f.wf ((x.g.n + i : Nat) : Int)) {P : List Dec} (hP : (⟨x.q, P, []⟩ : Scp).sz (2^20)) {j : Nat} {p : A} (hp : x.q.g.us[j]? = some p) {L : List Lem} (hL : Lok L j) :
  ∃ p2 xv yv zv xl yl xb yb, BndF x.q P j L p p2 xv yv zv xl yl xb yb := by
 have hp' : (x.g.us.map fA)[j]? = some p := hp
 rw [List.getElem?_map] at hp'
 cases hb : x.g.us[j]? with
 | none => rw [hb] at hp'; cases hp'
 | some b =>
  rw [hb] at hp'
  have hpb : p = fA b := by cases hp'; rfl
  have hlt := (List.getElem?_eq_some_iff.1 hb).1
  have hj : j ≤ 3 := by have := hx.g.us; omega
  have hf := hx.g.uf b (List.mem_of_getElem? hb)
  have hw := hwf j b hb
  have hs := lok_sz hP (by omega : j ≤ 4) hL
  have n0 : 0 ≤ x.q.g.n := by show (0 : Int) ≤ (x.g.n : Int); omega
  have n1 : x.q.g.n ≤ 256 := by have := hx.g.n2; show (x.g.n : Int) ≤ 256; omega
  have a1 := sR22Abv ⟨x.q, P, L⟩ b hs n0 n1 (abvOk_of rfl hx hL.lb hj (hf.mono (by decide) (by decide)) hw)
  have a3 := sR22Abv ⟨x.q, P, L⟩ (b.scale (-1)) hs n0 n1 (abvOk_of rfl hx hL.lb hj ((hf.scale xU).mono (by decide) (by decide)) hw.scale)
  have a2 := bE (q := -1) hf xU (by decide) (by decide) (by decide)
  obtain ⟨l1, l2⟩ := bnd_step hx hwf (path := P) hb hL
  rw [bndL_if] at l1
  refine ⟨fA (b.scale (-1)), _, _, _, _, _, _, _, ⟨by rw [hpb]; exact a1, by rw [hpb]; exact a2, a3, fun h => ?_, l1, fun r => ?_⟩⟩
  ·refine s143 _ ?_
   cases hy : (⟨x.q, P, L⟩ : Scp).above (b.scale (-1)) with
   | none => rw [hy] at h; cases h
   | some v => exact (zY (l2 v hy)).mono (by decide)
  ·rw [hpb]
   show pH x.q P r (j + 1) (L ++ eZ j ((⟨x.q, P, L⟩ : Scp).above (fA b).f) ((⟨x.q, P, L⟩ : Scp).above ((fA b).f.scale (-1)))) = _
   rw [wO, bndL_if]
theorem sR22Bnd (raw : List UInt8) : zC 49 [svN (fdS raw)] (sv (fdS raw).bounded) := by
  refine sF Tryz.f49 ?_
  have sm := y7 raw 0
  have hwf := fdG_wf raw 0
  have hz : (fdS raw).sz (2^20) := by
    have g := fdS_sz raw
    exact ⟨g.q.mono (by decide), ⟨g.path.len, fun d hd => (g.path.sz d hd).mono (by decide)⟩, ⟨by show 0 < 2^38; decide, fun m hm => absurd hm (by simp [fdS]), fun m hm => absurd hm (by simp [fdS])⟩⟩
  have hbg : (fdS raw).bounded = ⟨(fdY raw 0).1.q, (fdS raw).path, pH (fdY raw 0).1.q (fdS raw).path (fdY raw 0).1.q.g.us 0 []⟩ := rfl
  have hsd : fdS raw = ⟨(fdY raw 0).1.q, (fdS raw).path, []⟩ := rfl
  rw [hbg]
  generalize (fdS raw).path = path at *
  rw [hsd] at hz ⊢
  have hF := fun j p L hp hL => bnd_facts (j := j) (p := p) (L := L) sm hwf hz hp hL
  clear hbg hsd hwf hz
  have hul : (fdY raw 0).1.q.g.us.length ≤ 4 := by show (List.map fA _).length ≤ 4; rw [List.length_map]; exact sm.g.us
  clear sm
  generalize (fdY raw 0).1.q = Q at *
  have cof := s32 (-1) (by decide) (by decide)
  obtain ⟨M1, hM1⟩ : ∃ X, zE ((-1 : Int) : Rat) = X := ⟨_, rfl⟩
  have hF' : ∀ (j : Nat) (p : A) (L : List Lem), Q.g.us[j]? = some p → Lok L j → ∃ p2 xv yv zv xl yl xb yb, BndF Q path j L p p2 xv yv zv xl yl xb yb := hF
  clear hF
  obtain ⟨⟨n, us, os⟩, ⟨lo, hi', rows⟩, ⟨ts, c⟩⟩ := Q
  dsimp only at hF' hul
  rw [hM1] at cof
  obtain ⟨G, hG⟩ : ∃ G, pH ⟨⟨n, us, os⟩, ⟨lo, hi', rows⟩, ⟨ts, c⟩⟩ path = G := ⟨_, rfl⟩
  rw [hG]
  have hGn : ∀ j L, G [] j L = L := fun j L => by rw [← hG]; rfl
  obtain ⟨L9, hL9⟩ : ∃ X, G us 0 [] = X := ⟨_, rfl⟩
  rw [hL9]
  cbv
  refine uW 10 (by cbv) (by cbv) ?_
  cbv
  refine z5 (σ := Nat × List Lem) (fun s => ⟨[(1, .ptr 1 0), (2, .ptr 2 0), (3, .ptr 3 0), (4, .int .i64 (fun _ => (s.1 : Int)))],
      [(1, .box [.int .i64 (fun _ => n), alv us, alv os, rlv lo, rlv hi', alv rows, tsv ts, .bool (fun _ => c.neg), nat c.num, nat c.den, dlv path, .nil]), (2, .box [.int .i64 (fun _ => 0), .nil, .nil, .nil, .nil, .nil, .nil, .ff, .nil, .nil, .nil, .nil]), (3, .box [.int .i64 (fun _ => n), alv us, alv os, rlv lo, rlv hi', alv rows, tsv ts, .bool (fun _ => c.neg), nat c.num, nat c.den, dlv path, .osl 61 6 (fun _ => 0) (fun _ => s.2.length)]), (61, .lent 6 (fun _ => enc lc s.2))]⟩)
    (fun s => s.1 ≤ us.length ∧ G (us.drop s.1) s.1 s.2 = L9 ∧ Lok s.2 s.1) (fun s => us.length - s.1)
    (0, []) ⟨Nat.zero_le _, hL9, ⟨fun m hm => absurd hm (by simp), by simp, fun m hm => absurd hm (by simp), fun m hm => absurd hm (by simp)⟩⟩
    (.trans (wkZ (ps' := ⟨[(1, .ptr 1 0), (2, .ptr 2 0), (3, .ptr 3 0), (4, .int .i64 (fun _ => ((0 : Nat) : Int)))], [(1, .box [.int .i64 (fun _ => n), alv us, alv os, rlv lo, rlv hi', alv rows, tsv ts, .bool (fun _ => c.neg), nat c.num, nat c.den, dlv path, .nil]), (2, .box [.int .i64 (fun _ => 0), .nil, .nil, .nil, .nil, .nil, .nil, .ff, .nil, .nil, .nil, .nil]), (3, .box [.int .i64 (fun _ => n), alv us, alv os, rlv lo, rlv hi', alv rows, tsv ts, .bool (fun _ => c.neg), nat c.num, nat c.den, dlv path, .nil])]⟩))
    (.trans (.adoptB (ps := ⟨[(1, .ptr 1 0), (2, .ptr 2 0), (3, .ptr 3 0), (4, .int .i64 (fun _ => ((0 : Nat) : Int)))], [(1, .box [.int .i64 (fun _ => n), alv us, alv os, rlv lo, rlv hi', alv rows, tsv ts, .bool (fun _ => c.neg), nat c.num, nat c.den, dlv path, .nil]), (2, .box [.int .i64 (fun _ => 0), .nil, .nil, .nil, .nil, .nil, .nil, .ff, .nil, .nil, .nil, .nil]), (3, .box [.int .i64 (fun _ => n), alv us, alv os, rlv lo, rlv hi', alv rows, tsv ts, .bool (fun _ => c.neg), nat c.num, nat c.den, dlv path, .nil])]⟩) (cs := [.int .i64 (fun _ => n), alv us, alv os, rlv lo, rlv hi', alv rows, tsv ts, .bool (fun _ => c.neg), nat c.num, nat c.den, dlv path, .nil]) 61 6 3 11 rfl rfl rfl)
    (.trans (.pub 61 rfl rfl) (.le okZ ?_ rfl)))) ?_
  · cbv
    exact ⟨okA, okA, okA, zJ rfl, trivial⟩
  intro s hs
  obtain ⟨j, L⟩ := s
  obtain ⟨h1, h2, h3⟩ := hs
  dsimp only at h1 h2 h3
  clear hL9
  cbv
  refine zF (fun h => ?_) (fun h => ?_)
  · rw [zA] at h
    have hlt : j < us.length := by (try dsimp only [zG] at *); omega
    obtain ⟨p, hp⟩ := zX hlt
    obtain ⟨p2, xv, yv, zv, xl, yl, xb, yb, F⟩ := hF' j p L hp h3
    have g2 := F.g (us.drop (j + 1))
    rw [hG, ← yB hp, h2] at g2
    have c1 := F.c1
    have c2 := F.c2
    have c3 := F.c3
    have c4 := F.c4
    have lk := F.lok
    have lkL : L.length ≤ 8 := by have := h3.len; omega
    clear F hF' hG h2 h3 hGn
    rw [hM1] at c2
    have hT : ((enc lc L).drop 0).take L.length = enc lc L := by rw [List.drop_zero, ← zA lc L, List.take_length]
    have hfr : 0 + L.length ≤ (enc lc L).length := by rw [zA]; omega
    have hLn := lkL
    cbv
    refine yV hp uX jN ?_
    cbv
    refine ld_frz 61 rfl (by cbv; repeat' first | exact trivial | exact ⟨hfr⟩ | apply And.intro) ?_
    cbv
    refine yQ rfl (by exact ⟨⟨lR, lR, lR, lR, lR, lR, lR, lR, lR, lR, lR, zP hT, trivial⟩, okA, trivial⟩) c1 rfl ?_
    cbv
    refine vL 12 [(10, 9)] (by cbv) (by cbv) (by cbv) ?_
    cbv
    refine ld_frz 61 rfl (by cbv; repeat' first | exact trivial | exact ⟨hfr⟩ | apply And.intro) ?_
    cbv
    refine dA cof ?_
    cbv
    refine dA c2 ?_
    cbv
    refine y6 (by exact ⟨⟨lR, lR, lR, lR, lR, lR, lR, lR, lR, lR, lR, zP hT, trivial⟩, okA, trivial⟩) c3 rfl ?_
    cbv
    refine mX (σ := List Lem) (fun Lx => ⟨[(1, .ptr 1 0), (2, .ptr 2 0), (3, .ptr 3 0), (4, .int .i64 (fun _ => (j : Int))), (9, .ptr 9 0), (10, mlv yl), (11, .bool (fun _ => yb))],
        [(1, .box [.int .i64 (fun _ => n), alv us, alv os, rlv lo, rlv hi', alv rows, tsv ts, .bool (fun _ => c.neg), nat c.num, nat c.den, dlv path, .nil]), (2, .box [.int .i64 (fun _ => 0), .nil, .nil, .nil, .nil, .nil, .nil, .ff, .nil, .nil, .nil, .nil]), (3, .box [.int .i64 (fun _ => n), alv us, alv os, rlv lo, rlv hi', alv rows, tsv ts, .bool (fun _ => c.neg), nat c.num, nat c.den, dlv path, .osl 61 6 (fun _ => 0) (fun _ => Lx.length)]), (61, .log 6 (fun _ => enc lc Lx)), (9, .box [.bool (fun _ => yv.neg), nat yv.num, nat yv.den])]⟩)
      (fun Lx => Lx = L ++ v6 xb j false xv xl) (fun e => ?_) (fun e => ?_) (fun Lx hLx => ?_)
    · cbv
      refine ld_go ?_
      cbv
      refine app_wk (.lend 61 4 rfl rfl trivial) ?_
      cbv
      refine oE tyLems rfl rfl rfl (by simp [zA]) rfl ⟨by simp [zR, xF]⟩ (yF (by simp [zR] <;> omega) (by simp [zR, zA]; (try dsimp only [zG] at *); omega)) rfl ?_
      cbv
      refine ⟨L ++ [⟨j, false, xv, xl⟩], by unfold v6; rw [if_pos e], .le okZ ?_ rfl⟩
      cbv
      refine ⟨okA, okA, ⟨lR, lR, lR, lR, lR, lR, lR, lR, lR, lR, lR, z3 rfl (by simp [zR, zA]), trivial⟩, zJ ?_, okA, trivial⟩
      rw [enc_snoc1]
      rfl
    · cbv
      refine ⟨L, by unfold v6; rw [if_neg (by rw [e]; decide), List.append_nil], .le okZ ?_ rfl⟩
      cbv
      exact ⟨okA, okA, okA, zJ rfl, okA, trivial⟩
    · have hxl : Lx.length ≤ 9 := by rw [hLx, List.length_append]; have : (v6 xb j false xv xl).length ≤ 1 := by unfold v6; split <;> simp
                                     omega
      have g3 : L ++ (v6 xb j false xv xl ++ v6 yb j true zv yl) = Lx ++ v6 yb j true zv yl := by rw [← List.append_assoc, ← hLx]
      rw [g3] at g2 lk
      clear g3 hLx c1 c2 c3 cof hT hfr
      cbv
      refine zT (fun e => ?_) (fun e => ?_)
      · have g3 : v6 yb j true zv yl = [⟨j, true, zv, yl⟩] := by unfold v6; rw [if_pos e]
        rw [g3] at g2 lk
        have c4' := c4 e
        clear c4 g3
        cbv
        refine zO 8 (by cbv) ?_
        cbv
        refine dA c4' ?_
        cbv
        refine oE tyLems rfl rfl rfl (by simp [zA]) rfl ⟨by simp [zR, xF]⟩ (yF (by simp [zR] <;> omega) (by simp [zR, zA]; (try dsimp only [zG] at *); omega)) rfl ?_
        cbv
        refine ⟨zH om om, (j + 1, Lx ++ [⟨j, true, zv, yl⟩]), ⟨om, g2.symm, lk⟩, om, .trans (.pub 61 rfl rfl) (.le okZ ?_ rfl)⟩
        cbv
        refine ⟨okA, okA, ⟨lR, lR, lR, lR, lR, lR, lR, lR, lR, lR, lR, z3 rfl (by simp [zR, zA]), trivial⟩, zJ ?_, trivial⟩
        rw [enc_snoc1]
        rfl
      · have g3 : v6 yb j true zv yl = [] := by unfold v6; rw [if_neg (by rw [e]; decide)]
        rw [g3, List.append_nil] at g2 lk
        clear c4 g3
        cbv
        refine ⟨zH om om, (j + 1, Lx), ⟨om, g2.symm, lk⟩, om, .trans (.pub 61 rfl rfl) (.le okZ ?_ rfl)⟩
        cbv
        exact ⟨okA, okA, okA, zJ rfl, trivial⟩
  · have hj : j = us.length := by rw [zA] at h; (try dsimp only [zG] at *); omega
    rw [hj, List.drop_length, hGn] at h2
    subst h2
    have hT : ((enc lc L).drop 0).take L.length = enc lc L := by rw [List.drop_zero, ← zA lc L, List.take_length]
    have hfr : 0 + L.length ≤ (enc lc L).length := by rw [zA]; omega
    clear hF' hG hGn h3
    cbv
    refine ld_frz 61 rfl (by cbv; repeat' first | exact trivial | exact ⟨hfr⟩ | apply And.intro) ?_
    cbv
    (refine rC ?_; cbv)
    exact ⟨lR, lR, lR, lR, lR, lR, lR, lR, lR, lR, lR, zP hT, trivial⟩
theorem fIn_fl2 {s : Scp} {x : FQry} (hq : s.q = x.q) (hx : x.small) (hp : Dsz 43 s.path) {r : Row} {f : F} (h : s.fIn r = some f) : f.fl 200 3000 := by
 unfold Scp.fIn at h
 split at h
 ·split at h
  ·cases hy : s.q.r.lo[r.i.toNat]? with
   | none => rw [hy] at h; cases h
   | some y =>
    rw [hy] at h
    cases h
    have hm := List.mem_of_getElem? hy
    rw [hq] at hm
    obtain ⟨b, hb, rfl⟩ := List.mem_map.1 hm
    dsimp only
    rw [zW]
    exact ((w5 r.i).sub (wR (hx.r.bf b hb).1)).mono (by omega) (by omega)
  ·split at h
   ·cases hy : s.q.r.hi[r.i.toNat]? with
    | none => rw [hy] at h; cases h
    | some y =>
     rw [hy] at h
     cases h
     have hm := List.mem_of_getElem? hy
     rw [hq] at hm
     obtain ⟨b, hb, rfl⟩ := List.mem_map.1 hm
     dsimp only
     rw [zW]
     exact ((wR (hx.r.bf b hb).2).sub (w5 r.i)).mono (by omega) (by omega)
   ·split at h
    ·cases hy : s.q.r.rows[r.i.toNat]? with
     | none => rw [hy] at h; cases h
     | some y =>
      rw [hy] at h
      cases h
      have hm := List.mem_of_getElem? hy
      rw [hq] at hm
      obtain ⟨b, hb, rfl⟩ := List.mem_map.1 hm
      dsimp only
      rw [wO]
      have := hx.g.n2
      exact ((hx.r.rf b hb).add zero_fl).mono (by omega) (by omega)
    ·split at h
     ·split at h
      ·rename_i d hd
       have hz := (hp.sz d (List.mem_of_getElem? hd)).fits (by decide)
       split at h
       ·split at h
        ·cases h
         exact ((w5 d.i).sub (wR hz)).mono (by omega) (by omega)
        ·split at h
         ·cases h
          exact (((w5 d.i).sub (wR hz)).scale xU).mono (by omega) (by omega)
         ·cases h
       ·cases h
      ·cases h
     ·cases h
 ·cases h
theorem fm_all {s : Scp} {x : FQry} (hq : s.q = x.q) (hx : x.small) (hp : Dsz 43 s.path) (hL : LB KK s.lems) {r : Row} {f : F} (h : s.fm r = some f) : f.fl 2718660 3000 := by
 by_cases h5 : 5 ≤ r.k
 ·have h' := h
  unfold Scp.fm at h'
  split at h'
  ·cases h'
  rw [if_neg (by omega)] at h'
  unfold Scp.fUn at h'
  split at h'
  ·rename_i hi
   have hi' : r.i = ((r.i.toNat : Nat) : Int) := by omega
   exact (fm_un hq hx oF hL h5 hi' h).mono (by have := KK_le r.i.toNat; omega) (Nat.le_refl _)
  ·cases h'
 ·unfold Scp.fm at h
  split at h
  ·cases h
  rw [if_pos (by omega)] at h
  exact (fIn_fl2 hq hx hp h).mono (by omega) (Nat.le_refl _)
theorem bnd_q (raw : List UInt8) : (fdS raw).bounded.q = (fdY raw 0).1.q := rfl
theorem eY (raw : List UInt8) : Dsz 43 (fdS raw).bounded.path := (fdS_sz raw).path
instance : DecidableEq A := fun a b => if h : a.ts = b.ts ∧ a.c = b.c then isTrue (by obtain ⟨x, y⟩ := a; obtain ⟨x', y'⟩ := b; simp only at h; rw [h.1, h.2]) else isFalse (fun e => h (by rw [e]; exact ⟨rfl, rfl⟩))
theorem pX (raw : List UInt8) (hr : raw.length < 2^38) : zC 14 [u8v raw] (sv (fdS raw).bounded) := by
 refine sF Tryz.f14 ?_
 have c1 := sR21Part raw hr
 have c2 := sR22Bnd raw
 generalize (fdS raw).bounded = B at *
 generalize fdS raw = S at *
 cbv
 refine cA c1 ?_
 cbv
 refine cA c2 ?_
 cbv
 (refine rC ?_; cbv)
 exact okA
theorem Msz.of_few {l : List Mult} (h : nS l = true) : Msz (2^20) l ∧ l.length ≤ 100 := ⟨(few_sz h).1, by have := (few_sz h).2; omega⟩
theorem rU8 (w : World) : ElR w 5 1 (fun _ => True) u8c :=
 (elInt (k := .u8) Tryz.underlying5 (by kernel_rfl)).map (fun n => UInt8.ofNat n.toNat) (fun n h => by
  have : 0 ≤ n ∧ n ≤ 255 := by simpa [Lit.wf, IntKind.min, IntKind.max, IntKind.signed, IntKind.bits] using h
  have e : ((UInt8.ofNat n.toNat).toNat : Int) = n := by
   rw [UInt8.toNat_ofNat_of_lt' (by show n.toNat < 256; omega)]
   omega
  show [D.int .u8 _] = [D.int .u8 _]
  rw [e]) (fun _ _ => trivial)
theorem r6 (w : World) : ElR w 22 1 (fun l => l.length ≤ maxLen) (fun l => [u8v l]) :=
 (lG (k := 1) Tryz.underlying22 (by kernel_rfl) (by decide) (rU8 w)).map (fun l => l) (fun _ _ => rfl) (fun _ h => h.2)
theorem rI8 (w : World) : ElR w 78 1 (fun z : Int => -128 ≤ z ∧ z ≤ 127) (fun z => [.int .i8 (fun _ => z)]) :=
 (elInt (k := .i8) Tryz.underlying78 (by kernel_rfl)).map (fun n => n) (fun _ _ => rfl) (fun n h => by simpa [Lit.wf, IntKind.min, IntKind.max, IntKind.signed, IntKind.bits] using h)
theorem rTerm (w : World) : ElR w 76 4 (fun _ => True) tc :=
 (elS2 (k0 := 1) (k1 := 3) Tryz.underlying76 (by kernel_rfl) rfl rfl (rInt w) (rRat w)).map (fun a => (a.1, a.2)) (fun _ _ => rfl) (fun _ _ => trivial)
theorem rTerms (w : World) : ElR w 32 1 (fun l => l.length ≤ maxLen) (fun l => [tsv l]) :=
 (lG (k := 4) Tryz.underlying32 (by kernel_rfl) (by decide) (rTerm w)).map (fun l => l) (fun _ _ => rfl) (fun _ h => h.2)
theorem rAff (w : World) : ElR w 38 4 (fun f : A => f.ts.length ≤ maxLen) ac :=
 (elS2 (k0 := 1) (k1 := 3) Tryz.underlying38 (by kernel_rfl) rfl rfl (rTerms w) (rRat w)).map (fun a => ⟨a.1, a.2⟩) (fun _ _ => rfl) (fun _ h => h.1)
theorem agg_of {w : World} {cs : Array Value} {pv : List PV} (hf : yR uG pv = true) (h : Cs w cs.toList (xF pv)) : Rep w (InW w) (fun _ => none) (.agg cs) (.agg pv) := by
 have hl := h.len
 rw [vS] at hl
 refine .agg (by simpa using hl) fun j hj => ?_
 have := h.get j (by rw [vS]; exact hj)
 rw [qZ] at this
 refine .c (y8 rfl hf j) ?_
 have e : cs.toList.getD j undef = cs.getD j undef := by simp [List.getD_eq_getElem?_getD]
 rw [← e]
 exact this.1
end Go.Proofs.YtcanljninhfmhaaGreat
