/- A part of the proof: LnB, DtA. -/
import Derived.Test.YtcanljninhfmhaaGreatS27
set_option linter.all false
namespace Go.Proofs.YtcanljninhfmhaaGreat
open Go
set_option linter.unusedVariables false
set_option maxRecDepth 100000
set_option maxHeartbeats 1000000
theorem retM1 {rs : List ResultVar} {r : PV} {ps ps' : PS} {n : Nat} {o : Obj'} (m : Nat) (hw : Wk ps ps') (h3 : lv r = true) (h4 : getO ps'.objs m = some o) (h5 : closedO o = true)
  (h : match resV ps' rs with
  | some l => les (oneV l) (ren (fun _ => m) r)
  | none => False) : RetOk rs r [] [(n, o)] ps := by
 cases h1 : resV ps' rs with
 | none => rw [h1] at h; exact h.elim
 | some l => rw [h1] at h; exact ⟨ps', l, fun _ => m, hw, h1, les_le h, h3, ⟨⟨h4, h5⟩, trivial⟩, rfl, trivial⟩
theorem retWC {rs : List ResultVar} {r : PV} {ps : PS} (ps' : PS) (hw : Wk ps ps') (h3 : lv r = true)
  (h : match resV ps' rs with
  | some l => les (oneV l) (ren id r)
  | none => False) : RetOk rs r [] [] ps := by
 cases h1 : resV ps' rs with
 | none => rw [h1] at h; exact h.elim
 | some l => rw [h1] at h; exact ⟨ps', l, id, hw, h1, les_le h, h3, trivial, rfl, trivial⟩
theorem br_yes {p : Prop} [Decidable p] {A B : Unit → Prop} (h : p) (h1 : A ()) : Br (fun _ => decide p) A B := br_dec (fun _ => h1) (fun g => (g h).elim)
theorem br_no {p : Prop} [Decidable p] {A B : Unit → Prop} (h : ¬ p) (h1 : B ()) : Br (fun _ => decide p) A B := br_dec (fun g => (h g).elim) (fun _ => h1)
theorem cut_yes {p : Prop} [Decidable p] {A B : (Exit → PS → Prop) → Prop} {Q : Exit → PS → Prop} (h : p) (h1 : A Q) : Cut (fun _ => decide p) A B Q := cut_dec (fun _ => h1) (fun g => (g h).elim)
theorem cut_no {p : Prop} [Decidable p] {A B : (Exit → PS → Prop) → Prop} {Q : Exit → PS → Prop} (h : ¬ p) (h1 : B Q) : Cut (fun _ => decide p) A B Q := cut_dec (fun g => (h g).elim) (fun _ => h1)
def pcr (l : List (Int × Rat)) (v : Int) (q : Rat) : List (Int × Rat) := if q = 0 then l else l ++ [(v, q)]
theorem pcr_app (l : List (Int × Rat)) (v : Int) (q : Rat) (r) : pcr l v q ++ r = l ++ pc v q r := by
 unfold pcr pc
 split <;> simp
abbrev avo (n len : Nat) (c : R) : PV := .agg [.osl n 4 (fun _ => 0) (fun _ => len), .bool (fun _ => c.neg), nat c.num, nat c.den]
theorem tR_len (l : List (Int × Rat)) : (tR l).length = l.length := by simp [tR]
theorem tR_app (l m : List (Int × Rat)) : tR (l ++ m) = tR l ++ tR m := by simp [tR]
theorem tyTerms : ty 32 = .sli 4 64 [.int .i64 (fun _ => 0), .ff, .nil, .nil] := by cbv
theorem hfLnPut : Pg.funcs[158]? = some Tryz.f158 := by rw [Pg_eq]; rfl
theorem sLnPut (l : List (Int × Rat)) (c : R) (v : Int) (x : R) (hx : x.sz (2^36)) (hl : l.length < 2^39) :
  Sound 158 [avo 100 l.length c, .int .i64 (fun _ => v), rv x] [] [(100, .arr 4 (fun _ => enc tc (tR l)))]
   (avo 100 (pcr l v x.q).length c) [] [(100, .arr 4 (fun _ => enc tc (tR (pcr l v x.q))))] := by
 refine sound_fn hfLnPut rfl rfl rfl rfl rfl ?_
 have cs := s86 x (by have := hx.n; omega)
 have cc := s161 x hx
 have h1 : sgnQ x.q ≠ 0 → pcr l v x.q = l ++ [(v, x.q)] := fun h => if_neg (sgnQ_ne.1 h)
 have h2 : ¬ sgnQ x.q ≠ 0 → pcr l v x.q = l := fun h => if_pos (by have := fun g => h (sgnQ_ne.2 g); simpa using this)
 generalize pcr l v x.q = P at *
 generalize hsg : sgnQ x.q = sg at *
 generalize hq : x.q = q at *
 have hR : tR [(v, q)] = [(v, ratR q)] := rfl
 generalize ratR q = W at *
 obtain ⟨x1, x2, x3⟩ := x
 obtain ⟨w1, w2, w3⟩ := W
 obtain ⟨c1, c2, c3⟩ := c
 clear hq hsg
 cbv
 refine callS' rfl okA (cs) rfl ?_
 cbv
 refine cut_dec (fun h => ?_) (fun h => ?_)
 ·have hP := h2 (by simpa using h)
  clear h1 h2
  subst hP
  cbv
  exact retM1 100 (.refl _) rfl rfl rfl (by cbv; exact ⟨leS_refl _, leS_refl _, leS_refl _, leS_refl _, trivial⟩)
 ·have hP := h1 (by simpa using h)
  clear h1 h2
  subst hP
  cbv
  refine draw_of 7 (by cbv) ?_
  cbv
  refine callS_d okA (cc) rfl ?_
  cbv
  refine app_own tyTerms rfl rfl rfl (by simp only [enc_len, tR_len]) rfl ⟨by simp [mapDD, mapD]⟩ (room_of (by simp only [enc_len, tR_len, mapDD, List.length_cons, List.length_nil]; omega) (by simp only [enc_len, tR_len, mapDD, List.length_cons, List.length_nil]; omega)) rfl ?_
  cbv
  refine retM1 (ps' := ⟨[(6, .ptr 6 0)], [(6, .box [.osl 17 4 (fun _ => 0) (fun _ => (l ++ [(v, q)]).length), .bool (fun _ => c1), nat c2, nat c3]), (17, .arr 4 (fun _ => enc tc (tR (l ++ [(v, q)]))))]⟩) 17 (.le ?_ ?_ rfl) rfl rfl rfl ?_
  ·cbv
   exact ⟨leS_refl _, trivial⟩
  ·cbv
   exact ⟨⟨leS_osl rfl (by simp [enc_len, tR_len, mapDD]), leS_refl _, leS_refl _, leS_refl _, trivial⟩, elsEq_of (by rw [tR_app, hR, ← enc_app]; rfl), trivial⟩
  ·cbv
   exact ⟨leS_refl _, leS_refl _, leS_refl _, leS_refl _, trivial⟩
theorem pcr_len (l : List (Int × Rat)) (v : Int) (q : Rat) : (pcr l v q).length ≤ l.length + 1 := by unfold pcr; split <;> simp
theorem idx_hd {α : Type} {p : α → List PV} {n : Nat} {a : α} {l : List α} {K : List PV → Prop} (hf : ∀ a, allL flat (p a) = true) (hn : ∀ a, (p a).length = n) (hK : K (p a)) : IdxOk n (fun _ => enc p (a :: l)) (fun _ => 0) K :=
 idx_enc 0 rfl (by simp) hf hn (fun b hb => by simp at hb; rw [← hb]; exact hK)
theorem tq_cons (t : Int × R) (l) : tq (t :: l) = (t.1, t.2.q) :: tq l := rfl
theorem hfLnMerge : Pg.funcs[105]? = some Tryz.f105 := by rw [Pg_eq]; rfl
theorem sLnMerge (f g : A) (c : R) (hf : f.sz (2^33)) (hg : g.sz (2^33)) (hc : c.sz (2^33)) : SoundS 105 [av f, av g, rv c] (fv (f.f.merge g.f c.q)) := by
 refine sound_fn hfLnMerge rfl rfl rfl rfl rfl ?_
 obtain ⟨ts, fc⟩ := f
 obtain ⟨us, gc⟩ := g
 have hlt := hf.t.len
 have hlu := hg.t.len
 have hst := hf.t.sz
 have hsu := hg.t.sz
 have hfc := hf.c
 have hgc := hg.c
 have cfc := hfc.fits (by decide)
 have cgc := hgc.fits (by decide)
 have ccf := hc.fits (by decide)
 simp only at hlt hlu hst hsu hfc hgc cfc cgc
 have cm := s199 gc c (hgc.mono (by decide)) (hc.mono (by decide))
 have ca := s138 fc (ratR (gc.q * c.q)) (hfc.mono (by decide)) (ratR_sz ((fits_mul cgc ccf).mono (by decide)))
 rw [q_ratR] at ca
 show wp _ _ (postOf _ (.agg [tsv (tR (mrg c.q (tq ts) (tq us))), .bool (fun _ => (ratR (fc.q + gc.q * c.q)).neg), nat (ratR (fc.q + gc.q * c.q)).num, nat (ratR (fc.q + gc.q * c.q)).den]) [] [])
 generalize ratR (fc.q + gc.q * c.q) = W at *
 generalize ratR (gc.q * c.q) = V at *
 generalize hM : mrg c.q (tq ts) (tq us) = M
 have hmul : ∀ b : Int × R, b ∈ us → SoundS 157 [rv b.2, rv c] (rv (ratR (b.2.q * c.q))) := fun b hb => s199 b.2 c ((hsu b hb).mono (by decide)) (hc.mono (by decide))
 have hmsz : ∀ b : Int × R, b ∈ us → (ratR (b.2.q * c.q)).sz (2^34) := fun b hb => ratR_sz ((fits_mul ((hsu b hb).fits (by decide)) ccf).mono (by decide))
 have hadd : ∀ (a b : Int × R), a ∈ ts → b ∈ us → SoundS 91 [rv a.2, rv (ratR (b.2.q * c.q))] (rv (ratR (a.2.q + b.2.q * c.q))) := fun a b ha hb => by
  have := s138 a.2 (ratR (b.2.q * c.q)) ((hst a ha).mono (by decide)) ((hmsz b hb).mono (by decide))
  rw [q_ratR] at this
  exact this
 have hasz : ∀ (a b : Int × R), a ∈ ts → b ∈ us → (ratR (a.2.q + b.2.q * c.q)).sz (2^36) := fun a b ha hb => ratR_sz ((fits_add ((hst a ha).fits (by decide)) (fits_mul ((hsu b hb).fits (by decide)) ccf)).mono (by decide))
 clear hf hg cfc cgc hfc hgc
 generalize hcq : c.q = cq at *
 obtain ⟨w1, w2, w3⟩ := W
 obtain ⟨fc1, fc2, fc3⟩ := fc
 obtain ⟨gc1, gc2, gc3⟩ := gc
 obtain ⟨c1, c2, c3⟩ := c
 cbv
 refine draw_mk 9 (by cbv) (by cbv) ?_
 cbv
 refine callS_d okA (cm) rfl ?_
 cbv
 refine callS_d okA (ca) rfl ?_
 cbv
 refine draw_of 5 (by cbv) ?_
 cbv
 refine loop_n (σ := List (Int × Rat) × List (Int × R) × List (Int × R)) (fun s => ⟨[(5, .ptr 5 0), (6, .ptr 6 0), (7, .ptr 7 0), (8, tsv s.2.1), (9, tsv s.2.2)], [(5, .box [.bool (fun _ => c1), nat c2, nat c3]), (6, .box [.nil, .ff, .nil, .nil]), (7, .box [.osl 200 4 (fun _ => 0) (fun _ => s.1.length), .bool (fun _ => w1), nat w2, nat w3]), (200, .arr 4 (fun _ => enc tc (tR s.1)))]⟩)
  (fun s => M = s.1 ++ mrg cq (tq s.2.1) (tq s.2.2) ∧ s.1.length + (s.2.1.length + s.2.2.length) ≤ ts.length + us.length ∧ (∀ t, t ∈ s.2.1 → t ∈ ts) ∧ (∀ t, t ∈ s.2.2 → t ∈ us)) (fun s => s.2.1.length + s.2.2.length)
  ([], ts, us) ⟨hM.symm, by simp, fun _ h => h, fun _ h => h⟩
  (.trans (.le (ps' := ⟨[(5, .ptr 5 0), (6, .ptr 6 0), (7, .ptr 7 0), (8, tsv ts), (9, tsv us)], [(5, .box [.bool (fun _ => c1), nat c2, nat c3]), (6, .box [.nil, .ff, .nil, .nil]), (7, .box [.nil, .bool (fun _ => w1), nat w2, nat w3])]⟩) ?_ ?_ rfl) (.trans (.adoptB (ps := ⟨[(5, .ptr 5 0), (6, .ptr 6 0), (7, .ptr 7 0), (8, tsv ts), (9, tsv us)], [(5, .box [.bool (fun _ => c1), nat c2, nat c3]), (6, .box [.nil, .ff, .nil, .nil]), (7, .box [.nil, .bool (fun _ => w1), nat w2, nat w3])]⟩) (cs := [.nil, .bool (fun _ => w1), nat w2, nat w3]) 200 4 7 0 rfl rfl rfl) (.le ?_ ?_ rfl))) ?_
 ·cbv
  exact ⟨leS_refl _, leS_refl _, leS_refl _, leS_refl _, leS_refl _, trivial⟩
 ·cbv
  exact ⟨⟨leS_refl _, leS_refl _, leS_refl _, trivial⟩, ⟨leS_refl _, leS_refl _, leS_refl _, leS_refl _, trivial⟩, ⟨leS_refl _, leS_refl _, leS_refl _, leS_refl _, trivial⟩, trivial⟩
 ·cbv
  exact ⟨leS_refl _, leS_refl _, leS_refl _, leS_refl _, leS_refl _, trivial⟩
 ·cbv
  exact ⟨⟨leS_refl _, leS_refl _, leS_refl _, trivial⟩, ⟨leS_refl _, leS_refl _, leS_refl _, leS_refl _, trivial⟩, ⟨leS_osl rfl rfl, leS_refl _, leS_refl _, leS_refl _, trivial⟩, elsEq_of rfl, trivial⟩
 intro s hs
 obtain ⟨hI, hL, hA, hB⟩ := hs
 generalize s.1 = out at *
 generalize s.2.1 = aa at *
 generalize s.2.2 = bb at *
 cases aa with
 | nil =>
  cases bb with
  | nil =>
   cbv
   refine br_no (by simp [enc_len]) ?_
   cbv
   refine cut_no (by simp [enc_len]) ?_
   cbv
   have hM' : M = out := by rw [hI, show tq [] = [] from rfl, mrg, List.append_nil]
   subst hM'
   refine retWC _ (.trans (.le (ps' := ⟨[(6, .ptr 6 0)], [(6, .box [.osl 200 4 (fun _ => 0) (fun _ => M.length), .bool (fun _ => w1), nat w2, nat w3]), (200, .arr 4 (fun _ => enc tc (tR M)))]⟩) ?_ ?_ rfl) (.frz 200 rfl rfl ?_ ?_)) rfl ?_
   ·cbv; exact ⟨leS_refl _, trivial⟩
   ·cbv; exact ⟨⟨leS_refl _, leS_refl _, leS_refl _, leS_refl _, trivial⟩, elsEq_of rfl, trivial⟩
   ·exact ⟨trivial, trivial⟩
   ·cbv; exact ⟨⟨frok_of (by simp [enc_len, tR_len]), trivial⟩, trivial⟩
   ·cbv; exact ⟨leS_sl (List.take_of_length_le (by simp [enc_len, tR_len])), leS_refl _, leS_refl _, leS_refl _, trivial⟩
  | cons b bs =>
   have hb := hB b List.mem_cons_self
   have cmb := hmul b hb
   have cpb := sLnPut out ⟨w1, w2, w3⟩ b.1 (ratR (b.2.q * cq)) ((hmsz b hb).mono (by decide)) (by omega)
   rw [q_ratR] at cpb
   have hI' : M = pcr out b.1 (b.2.q * cq) ++ mrg cq (tq []) (tq bs) := by rw [hI, tq_cons, show tq [] = [] from rfl, mrg, pcr_app]
   have hpl := pcr_len out b.1 (b.2.q * cq)
   generalize pcr out b.1 (b.2.q * cq) = out' at *
   generalize ratR (b.2.q * cq) = X at *
   cbv
   refine br_no (by simp [enc_len]) ?_
   cbv
   refine cut_yes (by simp [enc_len] <;> omega) ?_
   cbv
   refine draw_of 20 (by cbv) ?_
   cbv
   refine br_no (by simp [enc_len] <;> omega) ?_
   cbv
   refine br_no (by simp [enc_len]) ?_
   cbv
   refine draw_of 15 (by cbv) ?_
   cbv
   refine br_yes (by simp [enc_len]) ?_
   cbv
   refine draw_of 11 (by cbv) ?_
   cbv
   refine idx_hd tc_flat tc_len ?_
   cbv
   refine idx_hd tc_flat tc_len ?_
   cbv
   refine callS_d okA (cmb) rfl ?_
   cbv
   refine callK (fun _ => 200) (.refl _) rfl okA cpb ⟨⟨rfl, rfl⟩, trivial⟩ rfl rfl rfl rfl rfl rfl rfl rfl ?_
   cbv
   refine ⟨slok_of (by decide) (by simp [enc_len] <;> omega) (by simp [enc_len]), enc_wid tc_len _, ?_⟩
   cbv
   refine ⟨(out', [], bs), ⟨hI', by simp at hL hpl ⊢; omega, hA, fun t ht => hB t (List.mem_cons_of_mem _ ht)⟩, by simp, .le ?_ ?_ rfl⟩
   ·cbv; exact ⟨leS_refl _, leS_refl _, leS_refl _, leS_refl _, leS_sl (by simp [enc, List.take_of_length_le]), trivial⟩
   ·cbv; exact ⟨⟨leS_refl _, leS_refl _, leS_refl _, trivial⟩, ⟨leS_refl _, leS_refl _, leS_refl _, leS_refl _, trivial⟩, ⟨leS_refl _, leS_refl _, leS_refl _, leS_refl _, trivial⟩, elsEq_of rfl, trivial⟩
 | cons a aa =>
  have ha := hA a List.mem_cons_self
  cases bb with
  | nil =>
   have cp := sLnPut out ⟨w1, w2, w3⟩ a.1 a.2 ((hst a ha).mono (by decide)) (by omega)
   have hI' : M = pcr out a.1 a.2.q ++ mrg cq (tq aa) (tq []) := by rw [hI, tq_cons, show tq [] = [] from rfl, mrg, pcr_app]
   have hpl := pcr_len out a.1 a.2.q
   generalize pcr out a.1 a.2.q = out' at *
   cbv
   refine br_yes (by simp [enc_len] <;> omega) ?_
   cbv
   refine draw_of 20 (by cbv) ?_
   cbv
   refine br_yes (by simp [enc_len]) ?_
   cbv
   refine draw_of 9 (by cbv) ?_
   cbv
   refine idx_hd tc_flat tc_len ?_
   cbv
   refine idx_hd tc_flat tc_len ?_
   cbv
   refine callK (fun _ => 200) (.refl _) rfl okA cp ⟨⟨rfl, rfl⟩, trivial⟩ rfl rfl rfl rfl rfl rfl rfl rfl ?_
   cbv
   refine ⟨slok_of (by decide) (by simp [enc_len] <;> omega) (by simp [enc_len]), enc_wid tc_len _, ?_⟩
   cbv
   refine ⟨(out', aa, []), ⟨hI', by simp at hL hpl ⊢; omega, fun t ht => hA t (List.mem_cons_of_mem _ ht), hB⟩, by simp, .le ?_ ?_ rfl⟩
   ·cbv; exact ⟨leS_refl _, leS_refl _, leS_refl _, leS_sl (by simp [enc, List.take_of_length_le]), leS_refl _, trivial⟩
   ·cbv; exact ⟨⟨leS_refl _, leS_refl _, leS_refl _, trivial⟩, ⟨leS_refl _, leS_refl _, leS_refl _, leS_refl _, trivial⟩, ⟨leS_refl _, leS_refl _, leS_refl _, leS_refl _, trivial⟩, elsEq_of rfl, trivial⟩
  | cons b bb =>
   have hb := hB b List.mem_cons_self
   cbv
   refine br_yes (by simp [enc_len] <;> omega) ?_
   cbv
   refine draw_of 20 (by cbv) ?_
   cbv
   refine br_no (by simp [enc_len] <;> omega) ?_
   cbv
   refine br_yes (by simp [enc_len] <;> omega) ?_
   cbv
   refine idx_hd tc_flat tc_len ?_
   cbv
   refine idx_hd tc_flat tc_len ?_
   cbv
   refine cut_dec (fun hlt => ?_) (fun hlt => ?_)
   ·have cp := sLnPut out ⟨w1, w2, w3⟩ a.1 a.2 ((hst a ha).mono (by decide)) (by omega)
    have hI' : M = pcr out a.1 a.2.q ++ mrg cq (tq aa) (tq (b :: bb)) := by rw [hI, tq_cons, tq_cons, mrg, if_pos (show (a.1, a.2.q).1 < (b.1, b.2.q).1 from hlt), pcr_app]
    have hpl := pcr_len out a.1 a.2.q
    generalize pcr out a.1 a.2.q = out' at *
    cbv
    refine draw_of 9 (by cbv) ?_
    cbv
    refine idx_hd tc_flat tc_len ?_
    cbv
    refine idx_hd tc_flat tc_len ?_
    cbv
    refine callK (fun _ => 200) (.refl _) rfl okA cp ⟨⟨rfl, rfl⟩, trivial⟩ rfl rfl rfl rfl rfl rfl rfl rfl ?_
    cbv
    refine ⟨slok_of (by decide) (by simp [enc_len] <;> omega) (by simp [enc_len]), enc_wid tc_len _, ?_⟩
    cbv
    refine ⟨(out', aa, b :: bb), ⟨hI', by simp at hL hpl ⊢; omega, fun t ht => hA t (List.mem_cons_of_mem _ ht), hB⟩, by simp, .le ?_ ?_ rfl⟩
    ·cbv; exact ⟨leS_refl _, leS_refl _, leS_refl _, leS_sl (by simp [enc, List.take_of_length_le]), leS_refl _, trivial⟩
    ·cbv; exact ⟨⟨leS_refl _, leS_refl _, leS_refl _, trivial⟩, ⟨leS_refl _, leS_refl _, leS_refl _, leS_refl _, trivial⟩, ⟨leS_refl _, leS_refl _, leS_refl _, leS_refl _, trivial⟩, elsEq_of rfl, trivial⟩
   ·cbv
    refine draw_of 15 (by cbv) ?_
    cbv
    refine br_no (by simp [enc_len] <;> omega) ?_
    cbv
    refine idx_hd tc_flat tc_len ?_
    cbv
    refine idx_hd tc_flat tc_len ?_
    cbv
    refine cut_dec (fun hlt2 => ?_) (fun hlt2 => ?_)
    ·have cmb := hmul b hb
     have cp := sLnPut out ⟨w1, w2, w3⟩ b.1 (ratR (b.2.q * cq)) ((hmsz b hb).mono (by decide)) (by omega)
     rw [q_ratR] at cp
     have hI' : M = pcr out b.1 (b.2.q * cq) ++ mrg cq (tq (a :: aa)) (tq bb) := by rw [hI, tq_cons, tq_cons, mrg, if_neg (show ¬ (a.1, a.2.q).1 < (b.1, b.2.q).1 from hlt), if_pos (show (b.1, b.2.q).1 < (a.1, a.2.q).1 from hlt2), pcr_app]
     have hpl := pcr_len out b.1 (b.2.q * cq)
     generalize pcr out b.1 (b.2.q * cq) = out' at *
     generalize ratR (b.2.q * cq) = X at *
     cbv
     refine draw_of 11 (by cbv) ?_
     cbv
     refine idx_hd tc_flat tc_len ?_
     cbv
     refine idx_hd tc_flat tc_len ?_
     cbv
     refine callS_d okA (cmb) rfl ?_
     cbv
     refine callK (fun _ => 200) (.refl _) rfl okA cp ⟨⟨rfl, rfl⟩, trivial⟩ rfl rfl rfl rfl rfl rfl rfl rfl ?_
     cbv
     refine ⟨slok_of (by decide) (by simp [enc_len] <;> omega) (by simp [enc_len]), enc_wid tc_len _, ?_⟩
     cbv
     refine ⟨(out', a :: aa, bb), ⟨hI', by simp at hL hpl ⊢; omega, hA, fun t ht => hB t (List.mem_cons_of_mem _ ht)⟩, by simp, .le ?_ ?_ rfl⟩
     ·cbv; exact ⟨leS_refl _, leS_refl _, leS_refl _, leS_refl _, leS_sl (by simp [enc, List.take_of_length_le]), trivial⟩
     ·cbv; exact ⟨⟨leS_refl _, leS_refl _, leS_refl _, trivial⟩, ⟨leS_refl _, leS_refl _, leS_refl _, leS_refl _, trivial⟩, ⟨leS_refl _, leS_refl _, leS_refl _, leS_refl _, trivial⟩, elsEq_of rfl, trivial⟩
    ·have cmb := hmul b hb
     have cab := hadd a b ha hb
     have cp := sLnPut out ⟨w1, w2, w3⟩ a.1 (ratR (a.2.q + b.2.q * cq)) ((hasz a b ha hb).mono (by decide)) (by omega)
     rw [q_ratR] at cp
     have hI' : M = pcr out a.1 (a.2.q + b.2.q * cq) ++ mrg cq (tq aa) (tq bb) := by rw [hI, tq_cons, tq_cons, mrg, if_neg (show ¬ (a.1, a.2.q).1 < (b.1, b.2.q).1 from hlt), if_neg (show ¬ (b.1, b.2.q).1 < (a.1, a.2.q).1 from hlt2), pcr_app]
     have hpl := pcr_len out a.1 (a.2.q + b.2.q * cq)
     generalize pcr out a.1 (a.2.q + b.2.q * cq) = out' at *
     generalize ratR (a.2.q + b.2.q * cq) = Y at *
     generalize ratR (b.2.q * cq) = X at *
     cbv
     refine draw_of 16 (by cbv) ?_
     cbv
     refine idx_hd tc_flat tc_len ?_
     cbv
     refine idx_hd tc_flat tc_len ?_
     cbv
     refine idx_hd tc_flat tc_len ?_
     cbv
     refine callS_d okA (cmb) rfl ?_
     cbv
     refine callS_d okA (cab) rfl ?_
     cbv
     refine callK (fun _ => 200) (.refl _) rfl okA cp ⟨⟨rfl, rfl⟩, trivial⟩ rfl rfl rfl rfl rfl rfl rfl rfl ?_
     cbv
     refine draw_of 5 (by cbv) ?_
     cbv
     refine ⟨slok_of (by decide) (by simp [enc_len] <;> omega) (by simp [enc_len]), enc_wid tc_len _, ?_⟩
     cbv
     refine ⟨slok_of (by decide) (by simp [enc_len] <;> omega) (by simp [enc_len]), enc_wid tc_len _, ?_⟩
     cbv
     refine ⟨(out', aa, bb), ⟨hI', by simp at hL hpl ⊢; omega, fun t ht => hA t (List.mem_cons_of_mem _ ht), fun t ht => hB t (List.mem_cons_of_mem _ ht)⟩, by simp <;> omega, .le ?_ ?_ rfl⟩
     ·cbv; exact ⟨leS_refl _, leS_refl _, leS_refl _, leS_sl (by simp [enc, List.take_of_length_le]), leS_sl (by simp [enc, List.take_of_length_le]), trivial⟩
     ·cbv; exact ⟨⟨leS_refl _, leS_refl _, leS_refl _, trivial⟩, ⟨leS_refl _, leS_refl _, leS_refl _, leS_refl _, trivial⟩, ⟨leS_refl _, leS_refl _, leS_refl _, leS_refl _, trivial⟩, elsEq_of rfl, trivial⟩
theorem hfLnAdd : Pg.funcs[52]? = some Tryz.f52 := by rw [Pg_eq]; rfl
theorem rat_int (z : Int) (h1 : -1000 ≤ z) (h2 : z ≤ 1000) : (ratR (z : Rat)).sz 1 := ratR_sz (fits_int (by show z.natAbs < 4294967296 ^ 1; omega) (by decide))
theorem sLnAdd (f g : A) (hf : f.sz (2^33)) (hg : g.sz (2^33)) : SoundS 52 [av f, av g] (fv (f.f.add g.f)) := by
 refine sound_fn hfLnAdd rfl rfl rfl rfl rfl ?_
 have c1 := s104 1 (by decide) (by decide)
 have cm := sLnMerge f g (ratR ((1 : Int) : Rat)) hf hg ((rat_int 1 (by decide) (by decide)).mono (by decide))
 rw [q_ratR] at cm
 have e : f.f.merge g.f ((1 : Int) : Rat) = f.f.add g.f := rfl
 rw [e] at cm
 generalize fA (f.f.add g.f) = W at *
 generalize ratR ((1 : Int) : Rat) = o at *
 obtain ⟨ft, f1, f2, f3⟩ := f
 obtain ⟨gt, g1, g2, g3⟩ := g
 obtain ⟨wt, w1, w2, w3⟩ := W
 cbv
 refine draw_of 4 (by cbv) ?_
 cbv
 refine callS_d okA (c1) rfl ?_
 cbv
 refine callS_d okA (cm) rfl ?_
 cbv
 (refine retC rfl ?_; cbv)
 exact ⟨leS_refl _, leS_refl _, leS_refl _, leS_refl _, trivial⟩
theorem hfLnSub : Pg.funcs[57]? = some Tryz.f57 := by rw [Pg_eq]; rfl
theorem sLnSub (f g : A) (hf : f.sz (2^33)) (hg : g.sz (2^33)) : SoundS 57 [av f, av g] (fv (f.f.sub g.f)) := by
 refine sound_fn hfLnSub rfl rfl rfl rfl rfl ?_
 have c1 := s104 (-1) (by decide) (by decide)
 have cm := sLnMerge f g (ratR ((-1 : Int) : Rat)) hf hg ((rat_int (-1) (by decide) (by decide)).mono (by decide))
 rw [q_ratR] at cm
 have e : f.f.merge g.f ((-1 : Int) : Rat) = f.f.sub g.f := rfl
 rw [e] at cm
 generalize fA (f.f.sub g.f) = W at *
 generalize ratR ((-1 : Int) : Rat) = o at *
 obtain ⟨ft, f1, f2, f3⟩ := f
 obtain ⟨gt, g1, g2, g3⟩ := g
 obtain ⟨wt, w1, w2, w3⟩ := W
 cbv
 refine draw_of 4 (by cbv) ?_
 cbv
 refine callS_d okA (c1) rfl ?_
 cbv
 refine callS_d okA (cm) rfl ?_
 cbv
 (refine retC rfl ?_; cbv)
 exact ⟨leS_refl _, leS_refl _, leS_refl _, leS_refl _, trivial⟩
theorem hfLnScale : Pg.funcs[53]? = some Tryz.f53 := by rw [Pg_eq]; rfl
theorem sLnScale (f : A) (c : R) (hf : f.sz (2^33)) (hc : c.sz (2^33)) : SoundS 53 [av f, rv c] (fv (f.f.scale c.q)) := by
 refine sound_fn hfLnScale rfl rfl rfl rfl rfl ?_
 have cm := sLnMerge ⟨[], ⟨false, [], []⟩⟩ f c ⟨⟨by decide, fun _ h => absurd h (by simp)⟩, ⟨by decide, by decide⟩⟩ hf hc
 have e : (A.f ⟨[], ⟨false, [], []⟩⟩).merge f.f c.q = f.f.scale c.q := rfl
 rw [e] at cm
 generalize fA (f.f.scale c.q) = W at *
 obtain ⟨ft, f1, f2, f3⟩ := f
 obtain ⟨c1, c2, c3⟩ := c
 obtain ⟨wt, w1, w2, w3⟩ := W
 cbv
 refine callS' rfl (by exact ⟨⟨leS_nil rfl, leS_ff rfl, leS_nil rfl, leS_nil rfl, trivial⟩, ⟨leS_refl _, leS_refl _, leS_refl _, leS_refl _, trivial⟩, ⟨leS_refl _, leS_refl _, leS_refl _, trivial⟩, trivial⟩) cm rfl ?_
 cbv
 (refine retC rfl ?_; cbv)
 exact ⟨leS_refl _, leS_refl _, leS_refl _, leS_refl _, trivial⟩
end Go.Proofs.YtcanljninhfmhaaGreat

namespace Go.Proofs.YtcanljninhfmhaaGreat
open Go
set_option linter.unusedVariables false
structure Row where
 k : Int
 i : Int
 lo : Int
 hi : Int
deriving DecidableEq
structure Mult where
 row : Row
 c : R
deriving DecidableEq
structure Dec where
 k : Int
 i : Int
 x : R
structure Lem where
 u : Int
 up : Bool
 v : R
 pf : List Mult
structure Grp where
 n : Int
 us : List A
 os : List A
structure Reg where
 lo : List R
 hi : List R
 rows : List A
structure Qry where
 g : Grp
 r : Reg
 goal : A
structure Scp where
 q : Qry
 path : List Dec
 lems : List Lem
abbrev rlv (l : List R) : PV := .sl (fun _ => enc rc l)
abbrev alv (l : List A) : PV := .sl (fun _ => enc ac l)
abbrev rwc (r : Row) : List PV := [.int .i64 (fun _ => r.k), .int .i64 (fun _ => r.i), .int .i64 (fun _ => r.lo), .int .i64 (fun _ => r.hi)]
abbrev rwv (r : Row) : PV := .agg [.int .i64 (fun _ => r.k), .int .i64 (fun _ => r.i), .int .i64 (fun _ => r.lo), .int .i64 (fun _ => r.hi)]
def mc (m : Mult) : List PV := [.int .i64 (fun _ => m.row.k), .int .i64 (fun _ => m.row.i), .int .i64 (fun _ => m.row.lo), .int .i64 (fun _ => m.row.hi), .bool (fun _ => m.c.neg), nat m.c.num, nat m.c.den]
abbrev mlv (l : List Mult) : PV := .sl (fun _ => enc mc l)
def dc (d : Dec) : List PV := [.int .i64 (fun _ => d.k), .int .i64 (fun _ => d.i), .bool (fun _ => d.x.neg), nat d.x.num, nat d.x.den]
abbrev dv (d : Dec) : PV := .agg [.int .i64 (fun _ => d.k), .int .i64 (fun _ => d.i), .bool (fun _ => d.x.neg), nat d.x.num, nat d.x.den]
abbrev dlv (l : List Dec) : PV := .sl (fun _ => enc dc l)
def lc (l : Lem) : List PV := [.int .i64 (fun _ => l.u), .bool (fun _ => l.up), .bool (fun _ => l.v.neg), nat l.v.num, nat l.v.den, mlv l.pf]
abbrev lv' (l : Lem) : PV := .agg [.int .i64 (fun _ => l.u), .bool (fun _ => l.up), .bool (fun _ => l.v.neg), nat l.v.num, nat l.v.den, mlv l.pf]
abbrev llv (l : List Lem) : PV := .sl (fun _ => enc lc l)
abbrev gv (g : Grp) : PV := .agg [.int .i64 (fun _ => g.n), alv g.us, alv g.os]
abbrev rgv (r : Reg) : PV := .agg [rlv r.lo, rlv r.hi, alv r.rows]
abbrev qv (q : Qry) : PV := .agg [.int .i64 (fun _ => q.g.n), alv q.g.us, alv q.g.os, rlv q.r.lo, rlv q.r.hi, alv q.r.rows, tsv q.goal.ts, .bool (fun _ => q.goal.c.neg), nat q.goal.c.num, nat q.goal.c.den]
abbrev sv (s : Scp) : PV := .agg [.int .i64 (fun _ => s.q.g.n), alv s.q.g.us, alv s.q.g.os, rlv s.q.r.lo, rlv s.q.r.hi, alv s.q.r.rows, tsv s.q.goal.ts, .bool (fun _ => s.q.goal.c.neg), nat s.q.goal.c.num, nat s.q.goal.c.den, dlv s.path, llv s.lems]
def sc (s : Scp) : List PV := [.int .i64 (fun _ => s.q.g.n), alv s.q.g.us, alv s.q.g.os, rlv s.q.r.lo, rlv s.q.r.hi, alv s.q.r.rows, tsv s.q.goal.ts, .bool (fun _ => s.q.goal.c.neg), nat s.q.goal.c.num, nat s.q.goal.c.den, dlv s.path, llv s.lems]
theorem mc_flat (a : Mult) : allL flat (mc a) = true := rfl
theorem mc_len (a : Mult) : (mc a).length = 7 := rfl
theorem dc_flat (a : Dec) : allL flat (dc a) = true := rfl
theorem dc_len (a : Dec) : (dc a).length = 5 := rfl
theorem lc_flat (a : Lem) : allL flat (lc a) = true := rfl
theorem lc_len (a : Lem) : (lc a).length = 6 := rfl
structure Asz (k : Nat) (l : List A) : Prop where
 len : l.length < 2^38
 sz : ∀ a, a ∈ l → a.sz k
structure Rsz (k : Nat) (l : List R) : Prop where
 len : l.length < 2^38
 sz : ∀ a, a ∈ l → a.sz k
structure Msz (k : Nat) (l : List Mult) : Prop where
 len : l.length < 2^38
 sz : ∀ a, a ∈ l → a.c.sz k
structure Dsz (k : Nat) (l : List Dec) : Prop where
 len : l.length < 2^38
 sz : ∀ a, a ∈ l → a.x.sz k
structure Lsz (k : Nat) (l : List Lem) : Prop where
 len : l.length < 2^38
 sz : ∀ a, a ∈ l → a.v.sz k
 pf : ∀ a, a ∈ l → Msz k a.pf
structure Grp.sz (g : Grp) (k : Nat) : Prop where
 us : Asz k g.us
 os : Asz k g.os
structure Reg.sz (r : Reg) (k : Nat) : Prop where
 lo : Rsz k r.lo
 hi : Rsz k r.hi
 rows : Asz k r.rows
structure Qry.sz (q : Qry) (k : Nat) : Prop where
 g : q.g.sz k
 r : q.r.sz k
 goal : q.goal.sz k
structure Scp.sz (s : Scp) (k : Nat) : Prop where
 q : s.q.sz k
 path : Dsz k s.path
 lems : Lsz k s.lems
theorem Asz.mono {k m : Nat} {l} (h : Asz k l) (hm : k ≤ m) : Asz m l := ⟨h.len, fun a ha => (h.sz a ha).mono hm⟩
theorem Rsz.mono {k m : Nat} {l} (h : Rsz k l) (hm : k ≤ m) : Rsz m l := ⟨h.len, fun a ha => (h.sz a ha).mono hm⟩
theorem Msz.mono {k m : Nat} {l} (h : Msz k l) (hm : k ≤ m) : Msz m l := ⟨h.len, fun a ha => (h.sz a ha).mono hm⟩
theorem Dsz.mono {k m : Nat} {l} (h : Dsz k l) (hm : k ≤ m) : Dsz m l := ⟨h.len, fun a ha => (h.sz a ha).mono hm⟩
theorem Lsz.mono {k m : Nat} {l} (h : Lsz k l) (hm : k ≤ m) : Lsz m l := ⟨h.len, fun a ha => (h.sz a ha).mono hm, fun a ha => (h.pf a ha).mono hm⟩
theorem Grp.sz.mono {k m : Nat} {g : Grp} (h : g.sz k) (hm : k ≤ m) : g.sz m := ⟨h.us.mono hm, h.os.mono hm⟩
theorem Reg.sz.mono {k m : Nat} {g : Reg} (h : g.sz k) (hm : k ≤ m) : g.sz m := ⟨h.lo.mono hm, h.hi.mono hm, h.rows.mono hm⟩
theorem Qry.sz.mono {k m : Nat} {g : Qry} (h : g.sz k) (hm : k ≤ m) : g.sz m := ⟨h.g.mono hm, h.r.mono hm, h.goal.mono hm⟩
theorem Scp.sz.mono {k m : Nat} {g : Scp} (h : g.sz k) (hm : k ≤ m) : g.sz m := ⟨h.q.mono hm, h.path.mono hm, h.lems.mono hm⟩
def vU : Int → List A → Bool
 | _, [] => true
 | k, f :: r => f.valid k && vU (k + 1) r
def Grp.vars (g : Grp) : Int := g.n + g.us.length
def Grp.valid (g : Grp) : Bool := decide (1 ≤ g.n ∧ g.n ≤ 256 ∧ g.us.length ≤ 1024 ∧ 1 ≤ g.os.length ∧ g.os.length ≤ 256) && vU g.n g.us && g.os.all (A.valid g.vars)
def vB : List R → List R → Bool
 | l :: ls, h :: hs => l.ok && h.ok && decide (cmpQ l.q h.q ≤ 0) && vB ls hs
 | _, _ => true
def Reg.valid (n : Int) (r : Reg) : Bool := decide (1 ≤ n ∧ n ≤ 256 ∧ (r.lo.length : Int) = n ∧ (r.hi.length : Int) = n ∧ r.rows.length ≤ 256) && vB r.lo r.hi && r.rows.all (A.valid n)
def Qry.valid (q : Qry) : Bool := q.g.valid && q.r.valid q.g.n && q.goal.valid q.g.vars
def Dec.fits (q : Qry) (d : Dec) : Bool :=
 if d.k = 1 ∨ d.k = 2 then decide (0 ≤ d.i ∧ d.i < q.g.us.length) && decide (d.x = ⟨false, [], []⟩)
 else if d.k = 3 ∨ d.k = 4 then decide (0 ≤ d.i ∧ d.i < q.g.n) && d.x.ok
 else false
def idxF {α : Type} (P : α → Bool) : List α → Int
 | [] => -1
 | a :: r => if P a then 0 else if idxF P r < 0 then -1 else idxF P r + 1
theorem idxF_ge {α : Type} (P : α → Bool) : ∀ l : List α, -1 ≤ idxF P l
 | [] => by simp [idxF]
 | a :: r => by have := idxF_ge P r; simp only [idxF]; split <;> (try split) <;> omega
theorem idxF_iff {α : Type} (P : α → Bool) : ∀ l : List α, 0 ≤ idxF P l ↔ l.any P = true
 | [] => by simp [idxF]
 | a :: r => by
  have ih := idxF_iff P r
  rw [List.any_cons, Bool.or_eq_true, ← ih]
  rw [show idxF P (a :: r) = if P a then 0 else if idxF P r < 0 then -1 else idxF P r + 1 from rfl]
  by_cases h : P a = true
  ·simp [h]
  ·rw [if_neg h]
   have : (P a = true ∨ 0 ≤ idxF P r) ↔ 0 ≤ idxF P r := ⟨fun g => g.resolve_left h, .inr⟩
   rw [this]
   split <;> omega
theorem idxF_any {α : Type} (P : α → Bool) (l : List α) : decide (0 ≤ idxF P l) = l.any P := by
 rw [Bool.eq_iff_iff, decide_eq_true_eq, idxF_iff]
theorem les_refl : ∀ a : PV, les a a
 | .agg cs => allLe_refl1 cs
 | .tup cs => allLe_refl1 cs
 | .fn f cs => ⟨nqb_self f, allLe_refl1 cs⟩
 | .int k n => leS_refl _
 | .tt => leS_refl _
 | .ff => leS_refl _
 | .bool b => leS_refl _
 | .nbool b => leS_refl _
 | .str s => leS_refl _
 | .nil => leS_refl _
 | .sl els => leS_refl _
 | .ptr n o => leS_refl _
 | .aptr n s i o => leS_refl _
 | .dptr cs o => leS_refl _
 | .osl n s o l => leS_refl _
 | .nilf => leS_refl _
 | .any => leS_refl _
where
 les1_refl : ∀ a : PV, les1 a a
  | .agg cs => allLeS_refl cs
  | .tup cs => allLeS_refl cs
  | .fn f cs => leS_refl _
  | .int k n => leS_refl _
  | .tt => leS_refl _
  | .ff => leS_refl _
  | .bool b => leS_refl _
  | .nbool b => leS_refl _
  | .str s => leS_refl _
  | .nil => leS_refl _
  | .sl els => leS_refl _
  | .ptr n o => leS_refl _
  | .aptr n s i o => leS_refl _
  | .dptr cs o => leS_refl _
  | .osl n s o l => leS_refl _
  | .nilf => leS_refl _
  | .any => leS_refl _
 allLeS_refl : ∀ l : List PV, allLe LeS l l
  | [] => trivial
  | a :: r => ⟨leS_refl a, allLeS_refl r⟩
 allLe_refl1 : ∀ l : List PV, allLe les1 l l
  | [] => trivial
  | a :: r => ⟨les1_refl a, allLe_refl1 r⟩
theorem lesL_refl : ∀ l : List PV, allLe les l l
 | [] => trivial
 | a :: r => ⟨les_refl a, lesL_refl r⟩
theorem les1L_refl (l : List PV) : allLe les1 l l := les_refl.allLe_refl1 l
def selT (T : List (Nat × PV)) : List Nat → List (Nat × PV)
 | [] => []
 | t :: r => (t, lookT T t) :: selT T r
def selO (O : List (Nat × Obj')) : List Nat → List (Nat × Obj')
 | [] => []
 | n :: r => (match getO O n with
  | some o => (n, o) :: selO O r
  | none => selO O r)
def ndN : List Nat → Bool
 | [] => true
 | n :: r => !(nmHas n r) && ndN r
theorem objLe_refl : ∀ o : Obj', ObjLe o o
 | .box cs => lesL_refl cs
 | .arr s e => ⟨nqb_self s, ⟨rfl⟩⟩
 | .log s e => ⟨nqb_self s, ⟨rfl⟩⟩
 | .lent s e => ⟨nqb_self s, ⟨rfl⟩⟩
theorem leT_sel (T : List (Nat × PV)) : ∀ L, leT T (selT T L)
 | [] => trivial
 | t :: r => ⟨les_refl _, leT_sel T r⟩
theorem leO_sel (O : List (Nat × Obj')) : ∀ M, leO O (selO O M)
 | [] => trivial
 | n :: r => by
  unfold selO
  cases h : getO O n with
  | none => exact leO_sel O r
  | some o =>
   refine ⟨?_, leO_sel O r⟩
   rw [h]
   exact objLe_refl o
theorem hasN_sel (O : List (Nat × Obj')) (m : Nat) : ∀ M, nmHas m M = false → hasN m (selO O M) = false
 | [], _ => rfl
 | n :: r, h => by
  simp only [nmHas, Bool.or_eq_false_iff] at h
  unfold selO
  cases getO O n with
  | none => exact hasN_sel O m r h.2
  | some o =>
   simp only [hasN, Bool.or_eq_false_iff]
   refine ⟨?_, hasN_sel O m r h.2⟩
   have := h.1
   cases hx : nqb n m with
   | false => rfl
   | true => rw [nqb_eq hx, nqb_self] at this; cases this
theorem ndO_sel (O : List (Nat × Obj')) : ∀ M, ndN M = true → ndO (selO O M) = true
 | [], _ => rfl
 | n :: r, h => by
  simp only [ndN, Bool.and_eq_true, Bool.not_eq_true'] at h
  unfold selO
  cases getO O n with
  | none => exact ndO_sel O r h.2
  | some o =>
   simp only [ndO, Bool.and_eq_true, Bool.not_eq_true']
   exact ⟨hasN_sel O n r h.1, ndO_sel O r h.2⟩
theorem Wk.sel (ps : PS) (L M : List Nat) (h : ndN M = true) : Wk ps ⟨selT ps.tmps L, selO ps.objs M⟩ := .le (leT_sel _ _) (leO_sel _ _) (ndO_sel _ _ h)
theorem callP {g as_ dst ps K f caps args' r} (L M : List Nat) (hM : ndN M = true) (h1 : ev (lookT (selT ps.tmps L)) g = .fn f caps) (h2 : allLe les (evs (ev (lookT (selT ps.tmps L))) as_ ++ caps) args') (h3 : SoundS f args' r) (h5 : nmIn [] r = true)
  (h4 : K (put ⟨selT ps.tmps L, selO ps.objs M⟩ dst r)) : CallOk g as_ dst ps K := callW (Wk.sel ps L M hM) h1 h2 h3 h5 h4
theorem draw_ofP {ops : List Oper} {ps : PS} {K : PS → Prop} (k : Nat) (L M : List Nat) (hM : ndN M = true) (hd : drawOk ops k = true) (h : sopsWp ops (ops.take k) ⟨selT ps.tmps L, selO ps.objs M⟩ (fun ps'' => opsWp ops (ops.drop k) ps'' K)) : DrawK ops ps K :=
 ⟨.inl ⟨k, _, Wk.sel ps L M hM, hd, h⟩⟩
theorem draw_mkP {ops : List Oper} {ps : PS} {K : PS → Prop} (k : Nat) (L M : List Nat) (hM : ndN M = true) (hd : drawOk ops k = true) (hm : (ndO (makersOf (ops.take k)) && mkIn ⟨selT ps.tmps L, selO ps.objs M⟩ (makersOf (ops.take k))) = true)
  (h : msopsWp ops (ops.take k) ⟨selT ps.tmps L, selO ps.objs M⟩ (fun ps'' => mkFin ps''.tmps (makersOf (ops.take k)) = true ∧ opsWp ops (ops.drop k) ⟨ps''.tmps, ps''.objs ++ makersOf (ops.take k)⟩ K)) : DrawK ops ps K :=
 ⟨.inr (.inl ⟨k, _, Wk.sel ps L M hM, hd, hm, h⟩)⟩
end Go.Proofs.YtcanljninhfmhaaGreat
