/- A part of the proof: LxD. -/
import Derived.Test.YtcanljninhfmhaaGreatU40
set_option linter.all false
namespace Go.Proofs.YtcanljninhfmhaaGreat
open Go
set_option maxRecDepth 100000
set_option maxHeartbeats 4000000
theorem few1 {c : R} (h : nS [⟨⟨0, 0, 0, 0⟩, c⟩] = true) : c.sz 2 := by
 unfold nS at h
 simp only [List.all_cons, List.all_nil, Bool.and_eq_true, decide_eq_true_eq] at h
 exact ⟨h.1.1.1, h.1.1.2⟩
theorem forged {raw : List UInt8} {x : List Rat} (hx : InpOk (fdY raw 0).1 x) (hm : oN (fdY raw 0).1 (fdS raw).path x = true) {f : A} (hf : f.sz (2^20)) {l : List Mult} (hp : (fdS raw).bounded.proves f l = true) :
  ∃ (VV : List R) (y : R) (z : Int), zC 32 [gv (fdS raw).bounded.q.g, rlv (x.map zE)] (.tup [rlv VV, .int .i64 (fun _ => 0)]) ∧ zC 33 [av f, rlv VV] (.tup [rv y, .int .i64 (fun _ => 0)]) ∧ zC 28 [rv y] (.int .i64 (fun _ => z)) ∧ 0 ≤ z := by
 obtain ⟨hP, hL, hF⟩ := pt_facts hx hm
 obtain ⟨h1, h2⟩ := tA hP hL hp
 obtain ⟨h3, h4⟩ := fX h1
 have hw := sum_wf (raw := raw) l
 unfold Scp.proves at hp
 simp only [Bool.and_eq_true, decide_eq_true_eq] at hp
 have hts : f.f.ts = ((fdS raw).bounded.sum l).2.ts := by
  refine h4.ext hw.cn fun v => ?_
  have e := dT f.f ((fdS raw).bounded.sum l).2 v
  have e0 : (f.f.sub ((fdS raw).bounded.sum l).2).ts = [] := List.eq_nil_of_length_eq_zero hp.2.2.1
  rw [e0] at e
  have : co [] v = 0 := rfl
  rw [this] at e
  grind
 have hwf : f.f.wf (((fdY raw 0).1.g.n + (fdY raw 0).1.g.us.length : Nat) : Int) := ⟨h4, by rw [hts]; exact hw.v⟩
 have hlen : f.ts.length ≤ 2^38 := Nat.le_of_lt hf.t.len
 have hfl := hf.fl (by decide) hlen
 obtain ⟨y, z, e1, e2, e3⟩ := pt_eval hx hwf hfl (by decide) h2
 rw [h3] at e1
 exact ⟨_, y, z, hF.val, e1, e2, e3⟩
theorem sLwDFg (raw : List UInt8) (f : A) (l : List Mult) (hr : raw.length ≤ 9223372036854775807) (hfl : f.ts.length ≤ 9223372036854775807) (hl : l.length ≤ 9223372036854775807) : zC 6 [u8v raw, av f, mlv l] (.bool (fun _ => true)) := by
 refine sF Tryz.f6 ?_
 have ca := sAwake
 have cf := sFew l hl
 have cf1 := fun c : R => sFew [⟨⟨0, 0, 0, 0⟩, c⟩] (by show 1 ≤ 9223372036854775807; decide)
 have csc : raw.length ≤ 400 → zC 14 [u8v raw] (sv (fdS raw).bounded) := fun h => pX raw (by omega)
 have bz := jK raw
 have hx := y7 raw 0
 have hok := kS raw 0
 have hio := ins_ok raw raw
 have cins : raw.length ≤ 400 → zC 30 [rgv (fdS raw).bounded.q.r, u8v raw] (rlv ((kG raw 0 (fdY raw 0).1.r.bs).map zE)) := fun h => sR19Ins (fdY raw 0).1.r raw hx.r (by have := hx.g.n2; omega) (by omega)
 have cmem := sR21Mem (fdY raw 0).1 (fdS raw).path (fdS raw).bounded.lems (kG raw 0 (fdY raw 0).1.r.bs) hx hok ((eY raw).mono (by decide)) hio
 have hsv : sv ⟨(fdY raw 0).1.q, (fdS raw).path, (fdS raw).bounded.lems⟩ = sv (fdS raw).bounded := rfl
 rw [hsv] at cmem
 have cpr : f.ts.length ≤ 8 → nS l = true → nS [⟨⟨0, 0, 0, 0⟩, f.c⟩] = true → (∀ (i : Nat) t, f.ts[i]? = some t → nS [⟨⟨0, 0, 0, 0⟩, t.2⟩] = true) → ∃ pb, zC 19 [sv (fdS raw).bounded, av f, mlv l] (.bool (fun _ => pb)) ∧ (oN (fdY raw 0).1 (fdS raw).path (kG raw 0 (fdY raw 0).1.r.bs) = true → pb = true →
   ∃ (VV : List R) (y : R) (z : Int), zC 32 [gv (fdS raw).bounded.q.g, rlv ((kG raw 0 (fdY raw 0).1.r.bs).map zE)] (.tup [rlv VV, .int .i64 (fun _ => 0)]) ∧ zC 33 [av f, rlv VV] (.tup [rv y, .int .i64 (fun _ => 0)]) ∧ zC 28 [rv y] (.int .i64 (fun _ => z)) ∧ 0 ≤ z) := fun h8 h1 h2 h3 => by
  have hfs : f.sz (2^20) := ⟨⟨by omega, fun t ht => by
   obtain ⟨i, hi⟩ := sP ht
   exact (few1 (h3 i t hi)).mono (by decide)⟩, (few1 h2).mono (by decide)⟩
  exact ⟨_, dZ (fdS raw).bounded f l bz (hfs.mono (by decide)) (few_sz h1).1 (Msz.of_few h1).2, fun hm hp => forged hio hm hfs hp⟩
 clear bz hx hok hio hsv
 generalize oN (fdY raw 0).1 (fdS raw).path (kG raw 0 (fdY raw 0).1.r.bs) = mb at *
 generalize (fdS raw).bounded = Bd at *
 generalize (kG raw 0 (fdY raw 0).1.r.bs).map zE = X at *
 obtain ⟨⟨⟨n, us, os⟩, ⟨lo, hi', rows⟩, ⟨ts, c⟩⟩, path, lems⟩ := Bd
 obtain ⟨fts, fc⟩ := f
 dsimp only at cpr hfl
 obtain ⟨FB, hFB⟩ : ∃ FB : R → Bool, ∀ c : R, nS [⟨⟨0, 0, 0, 0⟩, c⟩] = FB c := ⟨_, fun _ => rfl⟩
 simp only [hFB] at cf1 cpr
 generalize nS l = fl at *
 clear hFB
 have cfc := cf1 fc
 generalize FB fc = fbc at *
 have sing : ∀ c : R, mlv [⟨⟨0, 0, 0, 0⟩, c⟩] = .sl (fun _ => zR [[.int .i64 (fun _ => 0), .int .i64 (fun _ => 0), .int .i64 (fun _ => 0), .int .i64 (fun _ => 0), .bool (fun _ => c.neg), nat c.num, nat c.den]]) := fun c => rfl
 simp only [sing] at cf1 cfc
 clear sing
 cbv
 refine cA ca ?_
 cbv
 refine bN rfl ?_
 cbv
 refine zQ (fun h4 => ?_) (fun h4 => ?_)
 ·cbv
  (refine rC ?_; cbv)
  exact yG rfl
 have h4' : raw.length ≤ 400 := by rw [zA] at h4; (try dsimp only [zG] at *); omega
 have csc' := csc h4'
 have ci := cins h4'
 clear csc cins
 cbv
 refine zQ (fun h5 => ?_) (fun h5 => ?_)
 ·cbv
  (refine rC ?_; cbv)
  exact yG rfl
 have h5' : fts.length ≤ 8 := by rw [zA] at h5; (try dsimp only [zG] at *); omega
 cbv
 refine cA cf ?_
 cbv
 refine z4 (fun h6 => ?_) (fun h6 => ?_)
 rotate_left
 ·cbv
  (refine rC ?_; cbv)
  exact yG rfl
 cbv
 refine yQ rfl (by exact ⟨zP rfl, trivial⟩) cfc rfl ?_
 cbv
 refine zT (fun h7 => ?_) (fun h7 => ?_)
 rotate_left
 ·cbv
  (refine rC ?_; cbv)
  exact yG rfl
 have cpr' := cpr h5' h6 h7
 clear cpr
 cbv
 refine z5 (σ := Nat) (fun i => ⟨[(0, u8v raw), (2, mlv l), (4, .ptr 4 0), (7, .int .i64 (fun _ => (i : Int)))], [(4, .box [tsv fts, .bool (fun _ => fc.neg), nat fc.num, nat fc.den])]⟩)
  (fun i => i ≤ fts.length ∧ ∀ (j : Nat) t, fts[j]? = some t → j < i → FB t.2 = true) (fun i => fts.length - i) 0 ⟨Nat.zero_le _, fun j t _ h => absurd h (by omega)⟩ (wkZ) ?_
 intro i hi
 obtain ⟨hi1, hi2⟩ := hi
 cbv
 refine zF (fun h => ?_) (fun h => ?_)
 ·have hlt : i < fts.length := by rw [zA] at h; (try dsimp only [zG] at *); omega
  obtain ⟨t, ht⟩ := zX hlt
  obtain ⟨tv, tcf⟩ := t
  have c1 := cf1 tcf
  have hsucc : FB tcf = true → ∀ (j : Nat) t, fts[j]? = some t → j < i + 1 → FB t.2 = true := fun hb j t' hj hlt' => by
   by_cases e : j = i
   ·rw [e, ht] at hj; cases hj; exact hb
   ·exact hi2 j t' hj (by omega)
  clear cf1 cpr' hi2
  generalize FB tcf = fb at *
  cbv
  refine yV ht xM xL ?_
  cbv
  refine yQ rfl (by exact ⟨zP rfl, trivial⟩) c1 rfl ?_
  cbv
  refine zT (fun e2 => ?_) (fun e2 => ?_)
  ·have hs := hsucc e2
   cbv
   exact ⟨zH om om, i + 1, ⟨(by show i + 1 ≤ fts.length; omega), hs⟩, (by show fts.length - (i + 1) < fts.length - i; omega), wkZ⟩
  ·cbv
   (refine rC ?_; cbv)
   exact yG rfl
 obtain ⟨pb, cp, hF⟩ := cpr' (fun j t hj => hi2 j t hj (by have := (List.getElem?_eq_some_iff.1 hj).1; rw [zA] at h; (try dsimp only [zG] at *); omega))
 clear cf1 cpr' hi2
 cbv
 refine cA csc' ?_
 cbv
 refine cA ci ?_
 cbv
 refine cA cmem ?_
 cbv
 refine z4 (fun e1 => ?_) (fun e1 => ?_)
 rotate_left
 ·cbv
  (refine rC ?_; cbv)
  exact yG rfl
 cbv
 refine cA cp ?_
 cbv
 refine zT (fun e2 => ?_) (fun e2 => ?_)
 rotate_left
 ·cbv
  (refine rC ?_; cbv)
  exact yG rfl
 obtain ⟨VV, y, z, k1, k2, k3, k4⟩ := hF e1 e2
 clear hF
 cbv
 refine cA k1 ?_
 cbv
 refine cA k2 ?_
 cbv
 refine x7 rfl ?_
 cbv
 refine cA k3 ?_
 cbv
 (refine rC ?_; cbv)
 exact zV (by simp; (try dsimp only [zG] at *); omega)
end Go.Proofs.YtcanljninhfmhaaGreat
