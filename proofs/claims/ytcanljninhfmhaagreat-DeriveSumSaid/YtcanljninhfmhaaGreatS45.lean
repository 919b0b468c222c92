/- A part of the proof: UtB, RuJ, SpW, RuK, LxA, BrC. -/
import Derived.Test.YtcanljninhfmhaaGreatS30
import Derived.Test.YtcanljninhfmhaaGreatS44
import Derived.Test.YtcanljninhfmhaaGreatS41
import Derived.Test.YtcanljninhfmhaaGreatS39
import Derived.Test.YtcanljninhfmhaaGreatS37
import Derived.Test.YtcanljninhfmhaaGreatS33
import Derived.Test.YtcanljninhfmhaaGreatS40
set_option linter.all false
namespace Go.Proofs.YtcanljninhfmhaaGreat
open Go
set_option linter.unusedVariables false
theorem app_wk {t : TypeId} {base x : Operand} {d : Option Nat} {ps ps' : PS} {K : PS → Prop} (hw : Wk ps ps') (h : AppOk t base x d ps' K) : AppOk t base x d ps K := by
 obtain ⟨p, a1, a2, a3, a4, a5, a6, a7, a8⟩ := h.h
 exact ⟨p, a1, a2, a3, a4, a5, a6, .trans hw a7, a8⟩
end Go.Proofs.YtcanljninhfmhaaGreat

namespace Go.Proofs.YtcanljninhfmhaaGreat
open Go
set_option linter.unusedVariables false
set_option maxRecDepth 100000
set_option maxHeartbeats 4000000
theorem tyLems : ty 42 = .sli 6 96 [.int .i64 (fun _ => 0), .ff, .ff, .nil, .nil, .nil] := by cbv
def lemsIf (b : Bool) (j : Int) (up : Bool) (v : R) (l : List Mult) : List Lem := if b = true then [⟨j, up, v, l⟩] else []
theorem bndL_if (j : Int) (x y : Option (Rat × List (Row × Rat))) : bndL j x y = lemsIf x.isSome j false (ratR ((x.map Prod.fst).getD 0)) (mR ((x.map Prod.snd).getD [])) ++ lemsIf y.isSome j true (ratR (-(ratR ((y.map Prod.fst).getD 0)).q)) (mR ((y.map Prod.snd).getD [])) := by
 unfold bndL lemsIf
 cases x <;> cases y <;> simp [q_ratR]
theorem enc_snoc1 (L : List Lem) (m : Lem) : enc lc (L ++ [m]) = enc lc L ++ mapDD [lc m] := by simp [enc, mapDD]
theorem lok_sz {q : Qry} {P : List Dec} (h : (⟨q, P, []⟩ : Scp).sz (2^20)) {L : List Lem} {j : Nat} (hj : j ≤ 4) (hL : Lok L j) : (⟨q, P, L⟩ : Scp).sz (2^20) := by
 refine ⟨h.q, h.path, ⟨by have := hL.len; show L.length < 2^38; omega, fun m hm => ?_, fun m hm => (hL.pf m hm).1.mono (by decide)⟩⟩
 obtain ⟨q, hq⟩ := hL.v m hm
 obtain ⟨i, _, hf⟩ := hL.lb m hm
 rw [hq, q_ratR] at hf
 rw [hq]
 exact ratR_sz (hf.mono (Nat.le_trans (KK_le i) (by decide)))
structure BndF (q : Qry) (P : List Dec) (j : Nat) (L : List Lem) (p p2 : A) (xv yv zv : R) (xl yl : List Mult) (xb yb : Bool) : Prop where
 c1 : SoundS 96 [sv ⟨q, P, L⟩, av p] (.tup [rv xv, mlv xl, .bool (fun _ => xb)])
 c2 : SoundS 47 [av p, rv (ratR ((-1 : Int) : Rat))] (av p2)
 c3 : SoundS 96 [sv ⟨q, P, L⟩, av p2] (.tup [rv yv, mlv yl, .bool (fun _ => yb)])
 c4 : yb = true → SoundS 97 [rv yv] (rv zv)
 lok : Lok (L ++ (lemsIf xb j false xv xl ++ lemsIf yb j true zv yl)) (j + 1)
 g : ∀ r, bndG q P (p :: r) j L = bndG q P r (j + 1) (L ++ (lemsIf xb j false xv xl ++ lemsIf yb j true zv yl))
theorem bnd_facts {x : FQry} (hx : x.small) (hwf : ∀ (i : Nat) (f : F), x.g.us[i]? = some f → f.wf ((x.g.n + i : Nat) : Int)) {P : List Dec} (hP : (⟨x.q, P, []⟩ : Scp).sz (2^20)) {j : Nat} {p : A} (hp : x.q.g.us[j]? = some p) {L : List Lem} (hL : Lok L j) :
  ∃ p2 xv yv zv xl yl xb yb, BndF x.q P j L p p2 xv yv zv xl yl xb yb := by
 have hp' : (x.g.us.map fA)[j]? = some p := hp
 rw [List.getElem?_map] at hp'
 cases hb : x.g.us[j]? with
 | none => rw [hb] at hp'; cases hp'
 | some b =>
  rw [hb] at hp'
  have hpb : p = fA b := by cases hp'; rfl
  have hlt := (List.getElem?_eq_some_iff.1 hb).1
  have hj : j ≤ 3 := by have := hx.g.us; omega
  have hf := hx.g.uf b (List.mem_of_getElem? hb)
  have hw := hwf j b hb
  have hs := lok_sz hP (by omega : j ≤ 4) hL
  have n0 : 0 ≤ x.q.g.n := by show (0 : Int) ≤ (x.g.n : Int); omega
  have n1 : x.q.g.n ≤ 256 := by have := hx.g.n2; show (x.g.n : Int) ≤ 256; omega
  have a1 := sR22Abv ⟨x.q, P, L⟩ b hs n0 n1 (abvOk_of rfl hx hL.lb hj (hf.mono (by decide) (by decide)) hw)
  have a3 := sR22Abv ⟨x.q, P, L⟩ (b.scale (-1)) hs n0 n1 (abvOk_of rfl hx hL.lb hj ((hf.scale fits_neg1).mono (by decide) (by decide)) hw.scale)
  have a2 := sFScale (q := -1) hf fits_neg1 (by decide) (by decide) (by decide)
  obtain ⟨l1, l2⟩ := bnd_step hx hwf (path := P) hb hL
  rw [bndL_if] at l1
  refine ⟨fA (b.scale (-1)), _, _, _, _, _, _, _, ⟨by rw [hpb]; exact a1, by rw [hpb]; exact a2, a3, fun h => ?_, l1, fun r => ?_⟩⟩
  ·refine s143 _ ?_
   cases hy : (⟨x.q, P, L⟩ : Scp).above (b.scale (-1)) with
   | none => rw [hy] at h; cases h
   | some v => exact (ratR_sz (l2 v hy)).mono (by decide)
  ·rw [hpb]
   show bndG x.q P r (j + 1) (L ++ bndL j ((⟨x.q, P, L⟩ : Scp).above (fA b).f) ((⟨x.q, P, L⟩ : Scp).above ((fA b).f.scale (-1)))) = _
   rw [f_fA, bndL_if]
theorem hfR22Bnd : Pg.funcs[49]? = some Tryz.f49 := by rw [Pg_eq]; rfl
theorem sR22Bnd (raw : List UInt8) : SoundS 49 [svN (fdS raw)] (sv (fdS raw).bounded) := by
  refine sound_fn hfR22Bnd rfl rfl rfl rfl rfl ?_
  have sm := fdY_small raw 0
  have hwf := fdG_wf raw 0
  have hz : (fdS raw).sz (2^20) := by
    have g := fdS_sz raw
    exact ⟨g.q.mono (by decide), ⟨g.path.len, fun d hd => (g.path.sz d hd).mono (by decide)⟩, ⟨by show 0 < 2^38; decide, fun m hm => absurd hm (by simp [fdS]), fun m hm => absurd hm (by simp [fdS])⟩⟩
  have hbg : (fdS raw).bounded = ⟨(fdY raw 0).1.q, (fdS raw).path, bndG (fdY raw 0).1.q (fdS raw).path (fdY raw 0).1.q.g.us 0 []⟩ := rfl
  have hsd : fdS raw = ⟨(fdY raw 0).1.q, (fdS raw).path, []⟩ := rfl
  rw [hbg]
  generalize (fdS raw).path = path at *
  rw [hsd] at hz ⊢
  have hF := fun j p L hp hL => bnd_facts (j := j) (p := p) (L := L) sm hwf hz hp hL
  clear hbg hsd hwf hz
  have hul : (fdY raw 0).1.q.g.us.length ≤ 4 := by show (List.map fA _).length ≤ 4; rw [List.length_map]; exact sm.g.us
  clear sm
  generalize (fdY raw 0).1.q = Q at *
  have cof := s32 (-1) (by decide) (by decide)
  obtain ⟨M1, hM1⟩ : ∃ X, ratR ((-1 : Int) : Rat) = X := ⟨_, rfl⟩
  have hF' : ∀ (j : Nat) (p : A) (L : List Lem), Q.g.us[j]? = some p → Lok L j → ∃ p2 xv yv zv xl yl xb yb, BndF Q path j L p p2 xv yv zv xl yl xb yb := hF
  clear hF
  obtain ⟨⟨n, us, os⟩, ⟨lo, hi', rows⟩, ⟨ts, c⟩⟩ := Q
  dsimp only at hF' hul
  rw [hM1] at cof
  obtain ⟨G, hG⟩ : ∃ G, bndG ⟨⟨n, us, os⟩, ⟨lo, hi', rows⟩, ⟨ts, c⟩⟩ path = G := ⟨_, rfl⟩
  rw [hG]
  have hGn : ∀ j L, G [] j L = L := fun j L => by rw [← hG]; rfl
  obtain ⟨L9, hL9⟩ : ∃ X, G us 0 [] = X := ⟨_, rfl⟩
  rw [hL9]
  cbv
  refine draw_mk 10 (by cbv) (by cbv) ?_
  cbv
  refine loop_n (σ := Nat × List Lem) (fun s => ⟨[(1, .ptr 1 0), (2, .ptr 2 0), (3, .ptr 3 0), (4, .int .i64 (fun _ => (s.1 : Int)))],
      [(1, .box [.int .i64 (fun _ => n), alv us, alv os, rlv lo, rlv hi', alv rows, tsv ts, .bool (fun _ => c.neg), nat c.num, nat c.den, dlv path, .nil]), (2, .box [.int .i64 (fun _ => 0), .nil, .nil, .nil, .nil, .nil, .nil, .ff, .nil, .nil, .nil, .nil]), (3, .box [.int .i64 (fun _ => n), alv us, alv os, rlv lo, rlv hi', alv rows, tsv ts, .bool (fun _ => c.neg), nat c.num, nat c.den, dlv path, .osl 61 6 (fun _ => 0) (fun _ => s.2.length)]), (61, .lent 6 (fun _ => enc lc s.2))]⟩)
    (fun s => s.1 ≤ us.length ∧ G (us.drop s.1) s.1 s.2 = L9 ∧ Lok s.2 s.1) (fun s => us.length - s.1)
    (0, []) ⟨Nat.zero_le _, hL9, ⟨fun m hm => absurd hm (by simp), by simp, fun m hm => absurd hm (by simp), fun m hm => absurd hm (by simp)⟩⟩
    (.trans (.le (ps' := ⟨[(1, .ptr 1 0), (2, .ptr 2 0), (3, .ptr 3 0), (4, .int .i64 (fun _ => ((0 : Nat) : Int)))], [(1, .box [.int .i64 (fun _ => n), alv us, alv os, rlv lo, rlv hi', alv rows, tsv ts, .bool (fun _ => c.neg), nat c.num, nat c.den, dlv path, .nil]), (2, .box [.int .i64 (fun _ => 0), .nil, .nil, .nil, .nil, .nil, .nil, .ff, .nil, .nil, .nil, .nil]), (3, .box [.int .i64 (fun _ => n), alv us, alv os, rlv lo, rlv hi', alv rows, tsv ts, .bool (fun _ => c.neg), nat c.num, nat c.den, dlv path, .nil])]⟩) okZ okZ rfl)
    (.trans (.adoptB (ps := ⟨[(1, .ptr 1 0), (2, .ptr 2 0), (3, .ptr 3 0), (4, .int .i64 (fun _ => ((0 : Nat) : Int)))], [(1, .box [.int .i64 (fun _ => n), alv us, alv os, rlv lo, rlv hi', alv rows, tsv ts, .bool (fun _ => c.neg), nat c.num, nat c.den, dlv path, .nil]), (2, .box [.int .i64 (fun _ => 0), .nil, .nil, .nil, .nil, .nil, .nil, .ff, .nil, .nil, .nil, .nil]), (3, .box [.int .i64 (fun _ => n), alv us, alv os, rlv lo, rlv hi', alv rows, tsv ts, .bool (fun _ => c.neg), nat c.num, nat c.den, dlv path, .nil])]⟩) (cs := [.int .i64 (fun _ => n), alv us, alv os, rlv lo, rlv hi', alv rows, tsv ts, .bool (fun _ => c.neg), nat c.num, nat c.den, dlv path, .nil]) 61 6 3 11 rfl rfl rfl)
    (.trans (.pub 61 rfl rfl) (.le okZ ?_ rfl)))) ?_
  · cbv
    exact ⟨⟨leS_refl _, leS_refl _, leS_refl _, leS_refl _, leS_refl _, leS_refl _, leS_refl _, leS_refl _, leS_refl _, leS_refl _, leS_refl _, leS_refl _, trivial⟩, ⟨leS_refl _, leS_refl _, leS_refl _, leS_refl _, leS_refl _, leS_refl _, leS_refl _, leS_refl _, leS_refl _, leS_refl _, leS_refl _, leS_refl _, trivial⟩, ⟨leS_refl _, leS_refl _, leS_refl _, leS_refl _, leS_refl _, leS_refl _, leS_refl _, leS_refl _, leS_refl _, leS_refl _, leS_refl _, leS_refl _, trivial⟩, elsEq_of rfl, trivial⟩
  intro s hs
  obtain ⟨j, L⟩ := s
  obtain ⟨h1, h2, h3⟩ := hs
  dsimp only at h1 h2 h3
  clear hL9
  cbv
  refine cut_dec (fun h => ?_) (fun h => ?_)
  · rw [enc_len] at h
    have hlt : j < us.length := by (try dsimp only [ncast] at *); omega
    obtain ⟨p, hp⟩ := get_some hlt
    obtain ⟨p2, xv, yv, zv, xl, yl, xb, yb, F⟩ := hF' j p L hp h3
    have g2 := F.g (us.drop (j + 1))
    rw [hG, ← drop_of_get hp, h2] at g2
    have c1 := F.c1
    have c2 := F.c2
    have c3 := F.c3
    have c4 := F.c4
    have lk := F.lok
    have lkL : L.length ≤ 8 := by have := h3.len; omega
    clear F hF' hG h2 h3 hGn
    rw [hM1] at c2
    have hT : ((enc lc L).drop 0).take L.length = enc lc L := by rw [List.drop_zero, ← enc_len lc L, List.take_length]
    have hfr : 0 + L.length ≤ (enc lc L).length := by rw [enc_len]; omega
    have hLn := lkL
    cbv
    refine idx_at hp ac_flat ac_len ?_
    cbv
    refine ld_frz 61 rfl (by cbv; repeat' first | exact trivial | exact ⟨hfr⟩ | apply And.intro) ?_
    cbv
    refine callS' rfl (by exact ⟨⟨leS_refl _, leS_refl _, leS_refl _, leS_refl _, leS_refl _, leS_refl _, leS_refl _, leS_refl _, leS_refl _, leS_refl _, leS_refl _, leS_sl hT, trivial⟩, ⟨leS_refl _, leS_refl _, leS_refl _, leS_refl _, trivial⟩, trivial⟩) c1 rfl ?_
    cbv
    refine draw_ef 12 [(10, 9)] (by cbv) (by cbv) (by cbv) ?_
    cbv
    refine ld_frz 61 rfl (by cbv; repeat' first | exact trivial | exact ⟨hfr⟩ | apply And.intro) ?_
    cbv
    refine callS_d okA (cof) rfl ?_
    cbv
    refine callS_d okA (c2) rfl ?_
    cbv
    refine callS_d (by exact ⟨⟨leS_refl _, leS_refl _, leS_refl _, leS_refl _, leS_refl _, leS_refl _, leS_refl _, leS_refl _, leS_refl _, leS_refl _, leS_refl _, leS_sl hT, trivial⟩, ⟨leS_refl _, leS_refl _, leS_refl _, leS_refl _, trivial⟩, trivial⟩) c3 rfl ?_
    cbv
    refine cut_meetb (σ := List Lem) (fun Lx => ⟨[(1, .ptr 1 0), (2, .ptr 2 0), (3, .ptr 3 0), (4, .int .i64 (fun _ => (j : Int))), (9, .ptr 9 0), (10, mlv yl), (11, .bool (fun _ => yb))],
        [(1, .box [.int .i64 (fun _ => n), alv us, alv os, rlv lo, rlv hi', alv rows, tsv ts, .bool (fun _ => c.neg), nat c.num, nat c.den, dlv path, .nil]), (2, .box [.int .i64 (fun _ => 0), .nil, .nil, .nil, .nil, .nil, .nil, .ff, .nil, .nil, .nil, .nil]), (3, .box [.int .i64 (fun _ => n), alv us, alv os, rlv lo, rlv hi', alv rows, tsv ts, .bool (fun _ => c.neg), nat c.num, nat c.den, dlv path, .osl 61 6 (fun _ => 0) (fun _ => Lx.length)]), (61, .log 6 (fun _ => enc lc Lx)), (9, .box [.bool (fun _ => yv.neg), nat yv.num, nat yv.den])]⟩)
      (fun Lx => Lx = L ++ lemsIf xb j false xv xl) (fun e => ?_) (fun e => ?_) (fun Lx hLx => ?_)
    · cbv
      refine ld_go ?_
      cbv
      refine app_wk (.lend 61 4 rfl rfl trivial) ?_
      cbv
      refine app_logN tyLems rfl rfl rfl (by simp [enc_len]) rfl ⟨by simp [mapDD, mapD]⟩ (room_of (by simp [mapDD] <;> omega) (by simp [mapDD, enc_len]; (try dsimp only [ncast] at *); omega)) rfl ?_
      cbv
      refine ⟨L ++ [⟨j, false, xv, xl⟩], by unfold lemsIf; rw [if_pos e], .le okZ ?_ rfl⟩
      cbv
      refine ⟨⟨leS_refl _, leS_refl _, leS_refl _, leS_refl _, leS_refl _, leS_refl _, leS_refl _, leS_refl _, leS_refl _, leS_refl _, leS_refl _, leS_refl _, trivial⟩, ⟨leS_refl _, leS_refl _, leS_refl _, leS_refl _, leS_refl _, leS_refl _, leS_refl _, leS_refl _, leS_refl _, leS_refl _, leS_refl _, leS_refl _, trivial⟩, ⟨leS_refl _, leS_refl _, leS_refl _, leS_refl _, leS_refl _, leS_refl _, leS_refl _, leS_refl _, leS_refl _, leS_refl _, leS_refl _, leS_osl rfl (by simp [mapDD, enc_len]), trivial⟩, elsEq_of ?_, ⟨leS_refl _, leS_refl _, leS_refl _, trivial⟩, trivial⟩
      rw [enc_snoc1]
      rfl
    · cbv
      refine ⟨L, by unfold lemsIf; rw [if_neg (by rw [e]; decide), List.append_nil], .le okZ ?_ rfl⟩
      cbv
      exact ⟨⟨leS_refl _, leS_refl _, leS_refl _, leS_refl _, leS_refl _, leS_refl _, leS_refl _, leS_refl _, leS_refl _, leS_refl _, leS_refl _, leS_refl _, trivial⟩, ⟨leS_refl _, leS_refl _, leS_refl _, leS_refl _, leS_refl _, leS_refl _, leS_refl _, leS_refl _, leS_refl _, leS_refl _, leS_refl _, leS_refl _, trivial⟩, ⟨leS_refl _, leS_refl _, leS_refl _, leS_refl _, leS_refl _, leS_refl _, leS_refl _, leS_refl _, leS_refl _, leS_refl _, leS_refl _, leS_refl _, trivial⟩, elsEq_of rfl, ⟨leS_refl _, leS_refl _, leS_refl _, trivial⟩, trivial⟩
    · have hxl : Lx.length ≤ 9 := by rw [hLx, List.length_append]; have : (lemsIf xb j false xv xl).length ≤ 1 := by unfold lemsIf; split <;> simp
                                     omega
      have g3 : L ++ (lemsIf xb j false xv xl ++ lemsIf yb j true zv yl) = Lx ++ lemsIf yb j true zv yl := by rw [← List.append_assoc, ← hLx]
      rw [g3] at g2 lk
      clear g3 hLx c1 c2 c3 cof hT hfr
      cbv
      refine cut_bool (fun e => ?_) (fun e => ?_)
      · have g3 : lemsIf yb j true zv yl = [⟨j, true, zv, yl⟩] := by unfold lemsIf; rw [if_pos e]
        rw [g3] at g2 lk
        have c4' := c4 e
        clear c4 g3
        cbv
        refine draw_of 8 (by cbv) ?_
        cbv
        refine callS_d okA (c4') rfl ?_
        cbv
        refine app_logN tyLems rfl rfl rfl (by simp [enc_len]) rfl ⟨by simp [mapDD, mapD]⟩ (room_of (by simp [mapDD] <;> omega) (by simp [mapDD, enc_len]; (try dsimp only [ncast] at *); omega)) rfl ?_
        cbv
        refine ⟨in64_of om om, (j + 1, Lx ++ [⟨j, true, zv, yl⟩]), ⟨om, g2.symm, lk⟩, om, .trans (.pub 61 rfl rfl) (.le okZ ?_ rfl)⟩
        cbv
        refine ⟨⟨leS_refl _, leS_refl _, leS_refl _, leS_refl _, leS_refl _, leS_refl _, leS_refl _, leS_refl _, leS_refl _, leS_refl _, leS_refl _, leS_refl _, trivial⟩, ⟨leS_refl _, leS_refl _, leS_refl _, leS_refl _, leS_refl _, leS_refl _, leS_refl _, leS_refl _, leS_refl _, leS_refl _, leS_refl _, leS_refl _, trivial⟩, ⟨leS_refl _, leS_refl _, leS_refl _, leS_refl _, leS_refl _, leS_refl _, leS_refl _, leS_refl _, leS_refl _, leS_refl _, leS_refl _, leS_osl rfl (by simp [mapDD, enc_len]), trivial⟩, elsEq_of ?_, trivial⟩
        rw [enc_snoc1]
        rfl
      · have g3 : lemsIf yb j true zv yl = [] := by unfold lemsIf; rw [if_neg (by rw [e]; decide)]
        rw [g3, List.append_nil] at g2 lk
        clear c4 g3
        cbv
        refine ⟨in64_of om om, (j + 1, Lx), ⟨om, g2.symm, lk⟩, om, .trans (.pub 61 rfl rfl) (.le okZ ?_ rfl)⟩
        cbv
        exact ⟨⟨leS_refl _, leS_refl _, leS_refl _, leS_refl _, leS_refl _, leS_refl _, leS_refl _, leS_refl _, leS_refl _, leS_refl _, leS_refl _, leS_refl _, trivial⟩, ⟨leS_refl _, leS_refl _, leS_refl _, leS_refl _, leS_refl _, leS_refl _, leS_refl _, leS_refl _, leS_refl _, leS_refl _, leS_refl _, leS_refl _, trivial⟩, ⟨leS_refl _, leS_refl _, leS_refl _, leS_refl _, leS_refl _, leS_refl _, leS_refl _, leS_refl _, leS_refl _, leS_refl _, leS_refl _, leS_refl _, trivial⟩, elsEq_of rfl, trivial⟩
  · have hj : j = us.length := by rw [enc_len] at h; (try dsimp only [ncast] at *); omega
    rw [hj, List.drop_length, hGn] at h2
    subst h2
    have hT : ((enc lc L).drop 0).take L.length = enc lc L := by rw [List.drop_zero, ← enc_len lc L, List.take_length]
    have hfr : 0 + L.length ≤ (enc lc L).length := by rw [enc_len]; omega
    clear hF' hG hGn h3
    cbv
    refine ld_frz 61 rfl (by cbv; repeat' first | exact trivial | exact ⟨hfr⟩ | apply And.intro) ?_
    cbv
    (refine retC rfl ?_; cbv)
    exact ⟨leS_refl _, leS_refl _, leS_refl _, leS_refl _, leS_refl _, leS_refl _, leS_refl _, leS_refl _, leS_refl _, leS_refl _, leS_refl _, leS_sl hT, trivial⟩
end Go.Proofs.YtcanljninhfmhaaGreat

namespace Go.Proofs.YtcanljninhfmhaaGreat
open Go
set_option linter.unusedVariables false
theorem fIn_fl2 {s : Scp} {x : FQry} (hq : s.q = x.q) (hx : x.small) (hp : Dsz 43 s.path) {r : Row} {f : F} (h : s.fIn r = some f) : f.fl 200 3000 := by
 unfold Scp.fIn at h
 split at h
 ·split at h
  ·cases hy : s.q.r.lo[r.i.toNat]? with
   | none => rw [hy] at h; cases h
   | some y =>
    rw [hy] at h
    cases h
    have hm := List.mem_of_getElem? hy
    rw [hq] at hm
    obtain ⟨b, hb, rfl⟩ := List.mem_map.1 hm
    dsimp only
    rw [q_ratR]
    exact ((var_fl r.i).sub (num_fl (hx.r.bf b hb).1)).mono (by omega) (by omega)
  ·split at h
   ·cases hy : s.q.r.hi[r.i.toNat]? with
    | none => rw [hy] at h; cases h
    | some y =>
     rw [hy] at h
     cases h
     have hm := List.mem_of_getElem? hy
     rw [hq] at hm
     obtain ⟨b, hb, rfl⟩ := List.mem_map.1 hm
     dsimp only
     rw [q_ratR]
     exact ((num_fl (hx.r.bf b hb).2).sub (var_fl r.i)).mono (by omega) (by omega)
   ·split at h
    ·cases hy : s.q.r.rows[r.i.toNat]? with
     | none => rw [hy] at h; cases h
     | some y =>
      rw [hy] at h
      cases h
      have hm := List.mem_of_getElem? hy
      rw [hq] at hm
      obtain ⟨b, hb, rfl⟩ := List.mem_map.1 hm
      dsimp only
      rw [f_fA]
      have := hx.g.n2
      exact ((hx.r.rf b hb).add zero_fl).mono (by omega) (by omega)
    ·split at h
     ·split at h
      ·rename_i d hd
       have hz := (hp.sz d (List.mem_of_getElem? hd)).fits (by decide)
       split at h
       ·split at h
        ·cases h
         exact ((var_fl d.i).sub (num_fl hz)).mono (by omega) (by omega)
        ·split at h
         ·cases h
          exact (((var_fl d.i).sub (num_fl hz)).scale fits_neg1).mono (by omega) (by omega)
         ·cases h
       ·cases h
      ·cases h
     ·cases h
 ·cases h
theorem fm_all {s : Scp} {x : FQry} (hq : s.q = x.q) (hx : x.small) (hp : Dsz 43 s.path) (hL : LB KK s.lems) {r : Row} {f : F} (h : s.fm r = some f) : f.fl 2718660 3000 := by
 by_cases h5 : 5 ≤ r.k
 ·have h' := h
  unfold Scp.fm at h'
  split at h'
  ·cases h'
  rw [if_neg (by omega)] at h'
  unfold Scp.fUn at h'
  split at h'
  ·rename_i hi
   have hi' : r.i = ((r.i.toNat : Nat) : Int) := by omega
   exact (fm_un hq hx KK_pos hL h5 hi' h).mono (by have := KK_le r.i.toNat; omega) (Nat.le_refl _)
  ·cases h'
 ·unfold Scp.fm at h
  split at h
  ·cases h
  rw [if_pos (by omega)] at h
  exact (fIn_fl2 hq hx hp h).mono (by omega) (Nat.le_refl _)
theorem sumL_fl3 {s : Scp} {g k : Nat} (hg : ∀ r f, s.fm r = some f → f.fl g 3000) : ∀ {l : List Mult} {acc f : F} {a n : Nat}, (∀ m, m ∈ l → Fits k m.c.q) → acc.fl a n → sumL s acc l = some f → f.fl (a + (g + k + 5) * l.length) (n + 3000 * l.length)
 | [], acc, f, a, n, _, ha, h => by cases h; simpa using ha
 | m :: r, acc, f, a, n, hm, ha, h => by
  unfold sumL at h
  cases hx : s.fm m.row with
  | none => rw [hx] at h; cases h
  | some f0 =>
   rw [hx] at h
   have := sumL_fl3 hg (fun u hu => hm u (List.mem_cons_of_mem _ hu)) (ha.add ((hg _ _ hx).scale (hm m List.mem_cons_self))) h
   exact this.mono (by rw [List.length_cons, Nat.mul_succ]; omega) (by rw [List.length_cons]; omega)
theorem few_sumOk {s : Scp} {x : FQry} (hq : s.q = x.q) (hx : x.small) (hp : Dsz 43 s.path) (hL : LB KK s.lems) {l : List Mult} (h : fewB l = true) : SumOk s l where
  fm m hm f hf := (fm_all hq hx hp hL hf).mono (by decide) (by decide)
  c := (few_sz h).1
  pre i acc ha := by
    have h2 := (few_sz h).2
    have hk : ∀ m, m ∈ l.take i → Fits 2 m.c.q := fun m hm => by
      unfold fewB at h
      simp only [Bool.and_eq_true, decide_eq_true_eq, List.all_eq_true] at h
      have h1 := h.1 m (List.mem_of_mem_take hm)
      exact R.sz.fits (⟨h1.1, h1.2⟩ : m.c.sz 2) (by decide)
    have := sumL_fl3 (fun r f hf => fm_all hq hx hp hL hf) hk zero_fl ha
    have hl : (l.take i).length ≤ 12 := by rw [List.length_take]; omega
    have e : (2718660 + 2 + 5) * (l.take i).length ≤ (2718660 + 2 + 5) * 12 := Nat.mul_le_mul_left _ hl
    exact this.mono (by have : (2:Nat)^26 = 67108864 := by decide
                        omega) (by omega)
theorem bnd_q (raw : List UInt8) : (fdS raw).bounded.q = (fdY raw 0).1.q := rfl
theorem bnd_path (raw : List UInt8) : Dsz 43 (fdS raw).bounded.path := (fdS_sz raw).path
theorem bnd_few {raw : List UInt8} {l : List Mult} (h : fewB l = true) : SumOk (fdS raw).bounded l := few_sumOk (bnd_q raw) (fdY_small raw 0) (bnd_path raw) (bounded_ok raw).lb h
end Go.Proofs.YtcanljninhfmhaaGreat

namespace Go.Proofs.YtcanljninhfmhaaGreat
open Go
set_option linter.unusedVariables false
set_option maxRecDepth 100000
set_option maxHeartbeats 4000000
instance : DecidableEq A := fun a b => if h : a.ts = b.ts ∧ a.c = b.c then isTrue (by obtain ⟨x, y⟩ := a; obtain ⟨x', y'⟩ := b; simp only at h; rw [h.1, h.2]) else isFalse (fun e => h (by rw [e]; exact ⟨rfl, rfl⟩))
theorem hfR7Eq : Pg.funcs[18]? = some Tryz.f18 := by rw [Pg_eq]; rfl
theorem sR7Eq (a b : A) (ha : a.sz (2^32)) (hb : b.sz (2^32)) : SoundS 18 [av a, av b] (.bool (fun _ => decide (a = b))) := by
 refine sound_fn hfR7Eq rfl rfl rfl rfl rfl ?_
 have cc := s69 a.c b.c ha.c hb.c
 have ct : ∀ x y : Int × R, x ∈ a.ts → y ∈ b.ts → SoundS 55 [rv x.2, rv y.2] (.bool (fun _ => decide (x.2 = y.2))) := fun x y hx hy => s69 x.2 y.2 (ha.t.sz x hx) (hb.t.sz y hy)
 have hla := ha.t.len
 have hlb := hb.t.len
 obtain ⟨res, hres⟩ : ∃ r, decide (a = b) = r := ⟨_, rfl⟩
 rw [hres]
 have n1 : ¬ a.ts.length = b.ts.length → res = false := fun h => by rw [← hres]; exact decide_eq_false (fun e => h (by rw [e]))
 have n2 : ¬ a.c = b.c → res = false := fun h => by rw [← hres]; exact decide_eq_false (fun e => h (by rw [e]))
 have n3 : ∀ (i : Nat) x y, a.ts[i]? = some x → b.ts[i]? = some y → ¬ x = y → res = false := fun i x y h1 h2 h => by
  rw [← hres]
  exact decide_eq_false (fun e => h (by rw [e, h2] at h1; exact (Option.some.inj h1).symm))
 have y1 : a.c = b.c → a.ts = b.ts → res = true := fun h1 h2 => by
  rw [← hres]
  obtain ⟨at', ac'⟩ := a
  obtain ⟨bt', bc'⟩ := b
  simp only at h1 h2
  rw [h1, h2]
  exact decide_eq_true rfl
 clear hres ha hb
 cbv
 refine br_dec (fun e1 => ?_) (fun e1 => ?_)
 rotate_left
 ·cbv
  (refine retC rfl ?_; cbv)
  exact leS_ff (n1 (fun h => e1 (by rw [enc_len, enc_len, h])))
 have e1' : a.ts.length = b.ts.length := by rw [enc_len, enc_len] at e1; (try dsimp only [ncast] at *); omega
 cbv
 refine callS' rfl okA (cc) rfl ?_
 cbv
 refine cut_dec (fun e2 => ?_) (fun e2 => ?_)
 rotate_left
 ·cbv
  (refine retC rfl ?_; cbv)
  exact leS_ff (n2 e2)
 clear cc n1 n2
 cbv
 refine loop_n (σ := Nat) (fun i => ⟨[(2, .ptr 2 0), (3, .ptr 3 0), (5, .int .i64 (fun _ => (i : Int)))], [(2, .box [tsv a.ts, .bool (fun _ => a.c.neg), nat a.c.num, nat a.c.den]), (3, .box [tsv b.ts, .bool (fun _ => b.c.neg), nat b.c.num, nat b.c.den])]⟩)
  (fun i => i ≤ a.ts.length ∧ a.ts.take i = b.ts.take i) (fun i => a.ts.length - i) 0 ⟨Nat.zero_le _, rfl⟩ (.le okZ okZ rfl) ?_
 intro i hi
 obtain ⟨h1, h2⟩ := hi
 cbv
 refine cut_dec (fun h5 => ?_) (fun h5 => ?_)
 ·have hlt := enc_lt h5
  obtain ⟨x, hx⟩ := get_some hlt
  obtain ⟨y, hy⟩ := get_some (l := b.ts) (i := i) (by omega)
  have cs := ct x y (List.mem_of_getElem? hx) (List.mem_of_getElem? hy)
  have n := n3 i x y hx hy
  have hs1 : a.ts.take (i + 1) = a.ts.take i ++ [x] := by rw [List.take_add_one, hx]; rfl
  have hs2 : b.ts.take (i + 1) = b.ts.take i ++ [y] := by rw [List.take_add_one, hy]; rfl
  clear ct n3
  obtain ⟨x1, x2⟩ := x
  obtain ⟨y1', y2⟩ := y
  dsimp only at cs n
  cbv
  refine draw_of 29 (by cbv) ?_
  cbv
  refine idx_at hx tc_flat tc_len ?_
  cbv
  refine idx_at hy tc_flat tc_len ?_
  cbv
  refine br_dec (fun e3 => ?_) (fun e3 => ?_)
  rotate_left
  ·cbv
   (refine retC rfl ?_; cbv)
   exact leS_ff (n (fun h => e3 (by cases h; rfl)))
  cbv
  refine idx_at hx tc_flat tc_len ?_
  cbv
  refine idx_at hy tc_flat tc_len ?_
  cbv
  refine callS_d okA (cs) rfl ?_
  cbv
  refine cut_dec (fun e4 => ?_) (fun e4 => ?_)
  rotate_left
  ·cbv
   (refine retC rfl ?_; cbv)
   exact leS_ff (n (fun h => e4 (by cases h; rfl)))
  cbv
  exact ⟨in64_of om om, i + 1, ⟨om, by rw [hs1, hs2, h2]; dsimp only at e3 e4; rw [e3, e4]⟩, om, .le okZ okZ rfl⟩
 ·have hi' := enc_ge h5 h1
  cbv
  (refine retC rfl ?_; cbv)
  refine leS_tt (y1 e2 ?_)
  rw [hi', List.take_length] at h2
  rw [h2, e1', List.take_length]
end Go.Proofs.YtcanljninhfmhaaGreat

namespace Go.Proofs.YtcanljninhfmhaaGreat
open Go
set_option linter.unusedVariables false
set_option maxRecDepth 100000
set_option maxHeartbeats 4000000
theorem hfLwScope : Pg.funcs[14]? = some Tryz.f14 := by rw [Pg_eq]; rfl
theorem sLwScope (raw : List UInt8) (hr : raw.length < 2^38) : SoundS 14 [u8v raw] (sv (fdS raw).bounded) := by
 refine sound_fn hfLwScope rfl rfl rfl rfl rfl ?_
 have c1 := sR21Part raw hr
 have c2 := sR22Bnd raw
 generalize (fdS raw).bounded = B at *
 generalize fdS raw = S at *
 cbv
 refine callS' rfl okA (c1) rfl ?_
 cbv
 refine callS' rfl okA (c2) rfl ?_
 cbv
 (refine retC rfl ?_; cbv)
 exact ⟨leS_refl _, leS_refl _, leS_refl _, leS_refl _, leS_refl _, leS_refl _, leS_refl _, leS_refl _, leS_refl _, leS_refl _, leS_refl _, leS_refl _, trivial⟩
theorem Msz.of_few {l : List Mult} (h : fewB l = true) : Msz (2^20) l ∧ l.length ≤ 100 := ⟨(few_sz h).1, by have := (few_sz h).2; omega⟩
theorem bnd_goal (raw : List UInt8) : (fdS raw).bounded.q.goal = fA (fdY raw 0).1.goal := rfl
theorem hfLwDSum : Pg.funcs[3]? = some Tryz.f3 := by rw [Pg_eq]; rfl
theorem sLwDSum (raw : List UInt8) (l : List Mult) (hr : raw.length ≤ 9223372036854775807) (hl : l.length ≤ 9223372036854775807) : SoundS 3 [u8v raw, mlv l] (.bool (fun _ => true)) := by
 refine sound_fn hfLwDSum rfl rfl rfl rfl rfl ?_
 have ca := sAwake
 have cf := sFew l hl
 have csc : raw.length ≤ 400 → SoundS 14 [u8v raw] (sv (fdS raw).bounded) := fun h => sLwScope raw (by omega)
 have bz := bounded_sz raw
 have hcp : fewB l = true → SoundS 16 [mlv l] (mlv l) := fun h => sCopied l (by have := (few_sz h).2; omega)
 have hds := fun h : fewB l = true => sDvSum (fdS raw).bounded l bz (few_sz h).1 (Msz.of_few h).2
 have hrs := fun h : fewB l = true => sR22Sum (fdS raw).bounded l bz (bnd_few h)
 have heq := fun h : fewB l = true => by
  have fl := Scp.sum_fl' (bnd_few (raw := raw) h)
  have := sR7Eq (fA ((fdS raw).bounded.sum l).2) (fA ((fdS raw).bounded.sum l).2) ((fl.fit (by decide)).fA.mono (by decide)) ((fl.fit (by decide)).fA.mono (by decide))
  rw [decide_eq_true (rfl : fA ((fdS raw).bounded.sum l).2 = fA ((fdS raw).bounded.sum l).2)] at this
  exact this
 have gfl := (fdY_small raw 0).goal
 have gwf : (fdY raw 0).1.goal.wf 2000 := by
  have h1 := (fdY_small raw 0).g.n2
  have h2 := (fdY_small raw 0).g.us
  exact (fdY_ok raw 0).goal.mono (by omega)
 have gsz : (fA (fdY raw 0).1.goal).sz 43 := (gfl.fit (by decide)).fA
 have hpr := fun h : fewB l = true => sDvProves (fdS raw).bounded (fA (fdY raw 0).1.goal) l bz (gsz.mono (by decide)) (few_sz h).1 (Msz.of_few h).2
 have hpq := fun h : fewB l = true => by
  have := sR22Prv (fdS raw).bounded (fA (fdY raw 0).1.goal) l bz (gsz.mono (by decide)) (by have := gfl.len; show (tR _).length ≤ _; rw [tR_len]; omega) (bnd_few h)
  rw [proves_eqR gwf] at this
  exact this
 have hrf := fun h : fewB l = true => sDvRefutes (fdS raw).bounded l bz (few_sz h).1 (Msz.of_few h).2
 have hrg := fun h : fewB l = true => sR22Ref (fdS raw).bounded l bz (bnd_few h)
 rw [← bnd_goal] at hpr hpq
 clear gfl gwf gsz bz
 (try dsimp only [fv] at hds hrs)
 generalize (fdS raw).bounded = B at *
 generalize B.proves B.q.goal l = bp at *
 generalize B.refutes l = br at *
 generalize fA (B.sum l).2 = S at *
 generalize (B.sum l).1 = e at *
 obtain ⟨⟨⟨n, us, os⟩, ⟨lo, hi', rows⟩, ⟨ts, c⟩⟩, path, lems⟩ := B
 generalize fewB l = fw at *
 cbv
 refine callS' rfl okA (ca) rfl ?_
 cbv
 refine cut_tt rfl ?_
 cbv
 refine br_dec (fun h4 => ?_) (fun h4 => ?_)
 ·cbv
  (refine retC rfl ?_; cbv)
  exact leS_tt rfl
 have h4' : raw.length ≤ 400 := by rw [enc_len] at h4; (try dsimp only [ncast] at *); omega
 have csc' := csc h4'
 clear csc
 cbv
 refine callS' rfl okA (cf) rfl ?_
 cbv
 refine cut_bool (fun h' => ?_) (fun h => ?_)
 rotate_left
 ·cbv
  (refine retC rfl ?_; cbv)
  exact leS_tt rfl
 have cp := hcp h'
 have d1 := hds h'
 have d2 := hrs h'
 have d3 := heq h'
 have d4 := hpr h'
 have d5 := hpq h'
 have d6 := hrf h'
 have d7 := hrg h'
 clear hcp hds hrs heq hpr hpq hrf hrg
 cbv
 refine callS' rfl okA (csc') rfl ?_
 cbv
 refine draw_ef 9 [(8, 6)] (by cbv) (by cbv) (by cbv) ?_
 cbv
 refine callS_d okA (cp) rfl ?_
 cbv
 refine callS_d okA (d1) rfl ?_
 cbv
 refine callS' rfl okA (d2) rfl ?_
 cbv
 refine draw_of 31 (by cbv) ?_
 cbv
 refine br_yes rfl ?_
 cbv
 refine callS_d okA (d3) rfl ?_
 cbv
 refine br_tt rfl ?_
 cbv
 refine callS_d okA (d4) rfl ?_
 cbv
 refine callS_d okA (d5) rfl ?_
 cbv
 refine br_yes rfl ?_
 cbv
 refine callS_d okA (d6) rfl ?_
 cbv
 refine callS_d okA (d7) rfl ?_
 cbv
 (refine retC rfl ?_; cbv)
 exact leS_bool (by simp)
end Go.Proofs.YtcanljninhfmhaaGreat

namespace Go.Proofs.YtcanljninhfmhaaGreat
open Go
set_option linter.unusedVariables false
set_option maxRecDepth 100000
theorem rU8 (w : World) : ElR w 5 1 (fun _ => True) u8c :=
 (elInt (k := .u8) Tryz.underlying5 (by kernel_rfl)).map (fun n => UInt8.ofNat n.toNat) (fun n h => by
  have : 0 ≤ n ∧ n ≤ 255 := by simpa [Lit.wf, IntKind.min, IntKind.max, IntKind.signed, IntKind.bits] using h
  have e : ((UInt8.ofNat n.toNat).toNat : Int) = n := by
   rw [UInt8.toNat_ofNat_of_lt' (by show n.toNat < 256; omega)]
   omega
  show [D.int .u8 _] = [D.int .u8 _]
  rw [e]) (fun _ _ => trivial)
theorem rBytes (w : World) : ElR w 22 1 (fun l => l.length ≤ maxLen) (fun l => [u8v l]) :=
 (elSlice (k := 1) Tryz.underlying22 (by kernel_rfl) (by decide) (rU8 w)).map (fun l => l) (fun _ _ => rfl) (fun _ h => h.2)
end Go.Proofs.YtcanljninhfmhaaGreat
