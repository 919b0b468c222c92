/- A part of the proof: RvB, DvA. -/
import Derived.Test.YtcanljninhfmhaaGreatS30
import Derived.Test.YtcanljninhfmhaaGreatS29
set_option linter.all false
namespace Go.Proofs.YtcanljninhfmhaaGreat
open Go
set_option linter.unusedVariables false
set_option maxRecDepth 100000
set_option maxHeartbeats 2000000
theorem hfR15V : Pg.funcs[73]? = some Tryz.f73 := by rw [Pg_eq]; rfl
theorem sR15V (g : Grp) (hg : g.sz (2^32)) : SoundS 73 [gv g] (.bool (fun _ => g.valid)) := by
 refine sound_fn hfR15V rfl rfl rfl rfl rfl ?_
 obtain ⟨n, us, os⟩ := g
 have hus := hg.us
 have hos := hg.os
 have hc : ∀ a, a ∈ us → ∀ k, SoundS 59 [av a, .int .i64 (fun _ => k)] (.bool (fun _ => a.valid k)) := fun a h k => sR7V a k (hus.sz a h)
 have ca := sR7A os (n + us.length) hos
 have hul := hus.len
 have hol := hos.len
 dsimp only at hul hol
 generalize hr : Grp.valid ⟨n, us, os⟩ = r
 have hr0 : r = (decide (1 ≤ n ∧ n ≤ 256 ∧ us.length ≤ 1024 ∧ 1 ≤ os.length ∧ os.length ≤ 256) && vU n us && os.all (A.valid (n + us.length))) := hr.symm
 obtain ⟨U, hU⟩ : ∃ U, vU = U := ⟨_, rfl⟩
 have hU0 : ∀ k, U k [] = true := fun k => by rw [← hU]; rfl
 have hU1 : ∀ k f l, U k (f :: l) = (f.valid k && U (k + 1) l) := fun k f l => by rw [← hU]; rfl
 rw [hU] at hr0
 generalize os.all (A.valid (n + us.length)) = oa at *
 have hf : ¬ (1 ≤ n ∧ n ≤ 256 ∧ us.length ≤ 1024 ∧ 1 ≤ os.length ∧ os.length ≤ 256) → r = false := fun h => by rw [hr0, decide_eq_false h]; rfl
 have ht : (1 ≤ n ∧ n ≤ 256 ∧ us.length ≤ 1024 ∧ 1 ≤ os.length ∧ os.length ≤ 256) → r = (U n us && oa) := fun h => by rw [hr0, decide_eq_true h, Bool.true_and]
 clear hr hr0 hU hg hus hos
 cbv
 refine br_dec (fun e1 => ?_) (fun e1 => ?_)
 ·cbv
  (refine retC rfl ?_; cbv)
  exact leS_ff (hf okQ)
 cbv
 refine br_dec (fun e2 => ?_) (fun e2 => ?_)
 ·cbv
  (refine retC rfl ?_; cbv)
  exact leS_ff (hf okQ)
 cbv
 refine br_dec (fun e3 => ?_) (fun e3 => ?_)
 ·cbv
  (refine retC rfl ?_; cbv)
  exact leS_ff (hf okQ)
 cbv
 refine br_dec (fun e4 => ?_) (fun e4 => ?_)
 ·cbv
  (refine retC rfl ?_; cbv)
  exact leS_ff (hf okQ)
 cbv
 refine cut_dec (fun e5 => ?_) (fun e5 => ?_)
 ·cbv
  (refine retC rfl ?_; cbv)
  exact leS_ff (hf okQ)
 have hv := ht okQ
 have hn1 : 1 ≤ n := okQ
 have hn2 : n ≤ 256 := okQ
 have hu2 : us.length ≤ 1024 := okQ
 clear ht hf e1 e2 e3 e4 e5
 cbv
 refine loop_n (σ := Nat) (fun i => ⟨[(1, .ptr 1 0), (3, .int .i64 (fun _ => (i : Int)))], [(1, .box [.int .i64 (fun _ => n), alv us, alv os])]⟩) (fun i => i ≤ us.length ∧ r = (U (n + i) (us.drop i) && oa)) (fun i => us.length - i) 0 ⟨by omega, by rw [hv, show n + ((0 : Nat) : Int) = n by omega]; rfl⟩ (.le okZ okZ rfl) ?_
 clear hv
 intro i hi
 obtain ⟨h1, h2⟩ := hi
 cbv
 refine cut_dec (fun h5 => ?_) (fun h5 => ?_)
 ·have hlt := enc_lt h5
  obtain ⟨a, ha⟩ := get_some hlt
  have cv := hc a (List.mem_of_getElem? ha) (n + i)
  rw [drop_of_get ha, hU1] at h2
  generalize a.valid (n + i) = pa at *
  generalize hrest : U (n + i + 1) (us.drop (i + 1)) = rest at *
  have hrest' : U (n + ((i + 1 : Nat) : Int)) (us.drop (i + 1)) = rest := by rw [← hrest]; congr 1; omega
  cbv
  refine draw_of 9 (by cbv) ?_
  cbv
  refine idx_at ha ac_flat ac_len ?_
  cbv
  refine ⟨in64_of om om, ?_⟩
  cbv
  refine callS' rfl okA (cv) rfl ?_
  cbv
  refine cut_bool (fun e => ?_) (fun e => ?_)
  ·cbv
   exact ⟨in64_of om om, i + 1, ⟨om, by rw [h2, e, hrest', Bool.true_and]⟩, om, .le okZ okZ rfl⟩
  ·cbv
   (refine retC rfl ?_; cbv)
   exact leS_ff (by rw [h2, e]; rfl)
 ·have he := enc_ge h5 h1
  rw [he, List.drop_length, hU0] at h2
  have h2' : r = oa := h2
  cbv
  refine ⟨in64_of okQ okQ, ?_⟩
  cbv
  refine callS' rfl (by refine ⟨leS_refl _, leS_int ?_, trivial⟩; rw [enc_len]) ca rfl ?_
  cbv
  (refine retC rfl ?_; cbv)
  exact leS_bool h2'.symm
theorem hfR15Vars : Pg.funcs[120]? = some Tryz.f120 := by rw [Pg_eq]; rfl
theorem sR15Vars (g : Grp) (hg : g.sz (2^32)) : SoundS 120 [gv g] (.int .i64 (fun _ => if g.valid = true then g.vars else 0)) := by
 refine sound_fn hfR15Vars rfl rfl rfl rfl rfl ?_
 have cv := sR15V g hg
 have hb : g.valid = true → 1 ≤ g.n ∧ g.n ≤ 256 ∧ g.us.length ≤ 1024 := fun h => by
  unfold Grp.valid at h
  simp only [Bool.and_eq_true, decide_eq_true_eq] at h
  omega
 have hd : g.vars = g.n + g.us.length := rfl
 generalize g.vars = w at *
 generalize g.valid = b at *
 obtain ⟨n, us, os⟩ := g
 dsimp only at hb hd
 cbv
 refine callS' rfl okA (cv) rfl ?_
 cbv
 refine cut_bool (fun e => ?_) (fun e => ?_)
 ·have hb' := hb e
  cbv
  refine ⟨in64_of okQ okQ, ?_⟩
  cbv
  (refine retC rfl ?_; cbv)
  exact leS_int (by rw [enc_len, if_pos e, hd])
 ·cbv
  (refine retC rfl ?_; cbv)
  exact leS_int (by rw [if_neg (by rw [e]; decide)])
def cB : List R → List R → Bool
 | l :: ls, h :: hs => decide (cmpQ l.q h.q ≤ 0) && cB ls hs
 | _, _ => true
theorem vB_split : ∀ {lo hi : List R}, lo.length = hi.length → vB lo hi = (lo.all R.ok && (hi.all R.ok && cB lo hi))
 | [], [], _ => rfl
 | l :: ls, h :: hs, e => by
  have ih := vB_split (lo := ls) (hi := hs) (by simpa using e)
  rw [vB_cons, ih, List.all_cons, List.all_cons]
  show _ = (l.ok && ls.all R.ok && (h.ok && hs.all R.ok && (decide (cmpQ l.q h.q ≤ 0) && cB ls hs)))
  generalize l.ok = a
  generalize h.ok = b
  generalize decide (cmpQ l.q h.q ≤ 0) = c
  generalize ls.all R.ok = d
  generalize hs.all R.ok = f
  generalize cB ls hs = g
  cases a <;> cases b <;> cases c <;> cases d <;> cases f <;> cases g <;> rfl
 | [], h :: hs, e => by simp at e
 | l :: ls, [], e => by simp at e
theorem hfR19V : Pg.funcs[119]? = some Tryz.f119 := by rw [Pg_eq]; rfl
theorem sR19V (g : Reg) (n : Int) (hg : g.sz (2^31)) : SoundS 119 [rgv g, .int .i64 (fun _ => n)] (.bool (fun _ => g.valid n)) := by
 refine sound_fn hfR19V rfl rfl rfl rfl rfl ?_
 obtain ⟨lo, hi, rows⟩ := g
 have cl := sR3A lo (hg.lo.mono (by decide))
 have ch := sR3A hi (hg.hi.mono (by decide))
 have cr := sR7A rows n (hg.rows.mono (by decide))
 have hlo := hg.lo.sz
 have hhi := hg.hi.sz
 have hll := hg.lo.len
 have hhl := hg.hi.len
 have hrl := hg.rows.len
 dsimp only at hlo hhi hll hhl hrl
 have cc : ∀ a b, a ∈ lo → b ∈ hi → SoundS 35 [rv a, rv b] (.int .i64 (fun _ => cmpQ a.q b.q)) := fun a b h1 h2 => s42 a b (hlo a h1) (hhi b h2)
 generalize hr : Reg.valid n ⟨lo, hi, rows⟩ = r
 have hr0 : r = (decide (1 ≤ n ∧ n ≤ 256 ∧ (lo.length : Int) = n ∧ (hi.length : Int) = n ∧ rows.length ≤ 256) && vB lo hi && rows.all (A.valid n)) := hr.symm
 have hf : ¬ (1 ≤ n ∧ n ≤ 256 ∧ (lo.length : Int) = n ∧ (hi.length : Int) = n ∧ rows.length ≤ 256) → r = false := fun h => by rw [hr0, decide_eq_false h]; rfl
 have ht : (1 ≤ n ∧ n ≤ 256 ∧ (lo.length : Int) = n ∧ (hi.length : Int) = n ∧ rows.length ≤ 256) → r = (lo.all R.ok && (hi.all R.ok && cB lo hi) && rows.all (A.valid n)) := fun h => by rw [hr0, decide_eq_true h, Bool.true_and, vB_split (by omega)]
 obtain ⟨C, hC⟩ : ∃ C, cB = C := ⟨_, rfl⟩
 have hC0 : C [] [] = true := by rw [← hC]; rfl
 have hC1 : ∀ a l b m, C (a :: l) (b :: m) = (decide (cmpQ a.q b.q ≤ 0) && C l m) := fun _ _ _ _ => by rw [← hC]; rfl
 rw [hC] at ht
 generalize lo.all R.ok = la at *
 generalize hi.all R.ok = ha at *
 generalize rows.all (A.valid n) = ra at *
 clear hr hr0 hC hlo hhi hg
 cbv
 refine br_dec (fun e1 => ?_) (fun e1 => ?_)
 ·cbv
  (refine retC rfl ?_; cbv)
  exact leS_ff (hf okQ)
 cbv
 refine br_dec (fun e2 => ?_) (fun e2 => ?_)
 ·cbv
  (refine retC rfl ?_; cbv)
  exact leS_ff (hf okQ)
 cbv
 refine br_dec (fun e3 => ?_) (fun e3 => ?_)
 rotate_left
 ·cbv
  (refine retC rfl ?_; cbv)
  exact leS_ff (hf okQ)
 cbv
 refine br_dec (fun e4 => ?_) (fun e4 => ?_)
 rotate_left
 ·cbv
  (refine retC rfl ?_; cbv)
  exact leS_ff (hf okQ)
 cbv
 refine cut_dec (fun e5 => ?_) (fun e5 => ?_)
 ·cbv
  (refine retC rfl ?_; cbv)
  exact leS_ff (hf okQ)
 have hv := ht okQ
 have hn1 : 1 ≤ n := okQ
 have hn2 : n ≤ 256 := okQ
 have hn3 : (lo.length : Int) = n := okQ
 have hn4 : (hi.length : Int) = n := okQ
 clear ht hf e1 e2 e3 e4 e5
 cbv
 refine callS' rfl okA (cl) rfl ?_
 cbv
 refine br_bool (fun e => ?_) (fun e => ?_)
 rotate_left
 ·cbv
  (refine retC rfl ?_; cbv)
  exact leS_ff (by rw [hv, e]; rfl)
 rw [e, Bool.true_and] at hv
 cbv
 refine callS' rfl okA (ch) rfl ?_
 cbv
 refine br_bool (fun e => ?_) (fun e => ?_)
 rotate_left
 ·cbv
  (refine retC rfl ?_; cbv)
  exact leS_ff (by rw [hv, e]; rfl)
 rw [e, Bool.true_and] at hv
 cbv
 refine callS' rfl okA (cr) rfl ?_
 cbv
 refine cut_bool (fun e => ?_) (fun e => ?_)
 rotate_left
 ·cbv
  (refine retC rfl ?_; cbv)
  exact leS_ff (by rw [hv, e]; simp)
 rw [e, Bool.and_true] at hv
 cbv
 refine loop_n (σ := Nat) (fun i => ⟨[(1, .int .i64 (fun _ => n)), (2, .ptr 2 0), (5, .int .i64 (fun _ => (i : Int)))], [(2, .box [rlv lo, rlv hi, alv rows])]⟩) (fun i => i ≤ lo.length ∧ r = C (lo.drop i) (hi.drop i)) (fun i => lo.length - i) 0 ⟨by omega, hv⟩ (.le okZ okZ rfl) ?_
 clear hv
 intro i hi'
 obtain ⟨h1, h2⟩ := hi'
 cbv
 refine cut_dec (fun h5 => ?_) (fun h5 => ?_)
 ·have hlt : i < lo.length := okQ
  obtain ⟨a, ha⟩ := get_some hlt
  obtain ⟨b, hb⟩ := get_some (l := hi) (i := i) okQ
  have cv := cc a b (List.mem_of_getElem? ha) (List.mem_of_getElem? hb)
  rw [drop_of_get ha, drop_of_get hb, hC1] at h2
  generalize cmpQ a.q b.q = cq at *
  generalize hrest : C (lo.drop (i + 1)) (hi.drop (i + 1)) = rest at *
  cbv
  refine draw_of 10 (by cbv) ?_
  cbv
  refine idx_at ha rc_flat rc_len ?_
  cbv
  refine idx_at hb rc_flat rc_len ?_
  cbv
  refine callS' rfl okA (cv) rfl ?_
  cbv
  refine cut_dec (fun e => ?_) (fun e => ?_)
  ·cbv
   (refine retC rfl ?_; cbv)
   exact leS_ff (by rw [h2, decide_eq_false (by omega)]; rfl)
  ·cbv
   exact ⟨in64_of om om, i + 1, ⟨om, by rw [h2, decide_eq_true (by omega), hrest]; rfl⟩, om, .le okZ okZ rfl⟩
 ·have he : i = lo.length := okQ
  have he2 : i = hi.length := okQ
  rw [show lo.drop i = [] by rw [he, List.drop_length], show hi.drop i = [] by rw [he2, List.drop_length], hC0] at h2
  cbv
  (refine retC rfl ?_; cbv)
  exact leS_tt h2
theorem hfR21V : Pg.funcs[70]? = some Tryz.f70 := by rw [Pg_eq]; rfl
theorem sR21V (q : Qry) (hq : q.sz (2^31)) : SoundS 70 [qv q] (.bool (fun _ => q.valid)) := by
 refine sound_fn hfR21V rfl rfl rfl rfl rfl ?_
 have c1 := sR15V q.g (hq.g.mono (by decide))
 have c2 := sR19V q.r q.g.n hq.r
 have c3 := sR15Vars q.g (hq.g.mono (by decide))
 have c4 := sR7V q.goal q.g.vars (hq.goal.mono (by decide))
 have hr : q.valid = (q.g.valid && q.r.valid q.g.n && q.goal.valid q.g.vars) := rfl
 generalize q.valid = r at *
 generalize q.g.valid = b1 at *
 generalize q.r.valid q.g.n = b2 at *
 generalize q.goal.valid q.g.vars = b3 at *
 generalize q.g.vars = w at *
 obtain ⟨⟨n, us, os⟩, ⟨lo, hi, rows⟩, ⟨ts, x1, x2, x3⟩⟩ := q
 cbv
 refine draw_of 19 (by cbv) ?_
 cbv
 refine callS_d okA (c1) rfl ?_
 cbv
 refine br_bool (fun e => ?_) (fun e => ?_)
 rotate_left
 ·cbv
  (refine retC rfl ?_; cbv)
  exact leS_ff (by rw [hr, e]; rfl)
 rw [e, Bool.true_and] at hr
 cbv
 refine callS_d okA (c2) rfl ?_
 cbv
 refine br_bool (fun e2 => ?_) (fun e2 => ?_)
 rotate_left
 ·cbv
  (refine retC rfl ?_; cbv)
  exact leS_ff (by rw [hr, e2]; rfl)
 rw [e2, Bool.true_and] at hr
 cbv
 refine callS_d okA (c3) rfl ?_
 cbv
 refine callS_d (by exact ⟨⟨leS_refl _, leS_refl _, leS_refl _, leS_refl _, trivial⟩, leS_int (if_pos e), trivial⟩) c4 rfl ?_
 cbv
 (refine retC rfl ?_; cbv)
 exact leS_bool hr.symm
theorem hfR21F0 : Pg.funcs[107]? = some Tryz.f107 := by rw [Pg_eq]; rfl
theorem sR21F0 (q : Qry) (d : Dec) (hd : d.x.sz (2^32)) : SoundS 107 [qv q, dv d] (.bool (fun _ => d.fits q)) := by
 refine sound_fn hfR21F0 rfl rfl rfl rfl rfl ?_
 have cz := s69 d.x R0 hd ⟨by decide, by decide⟩
 have cv := s129 d.x hd
 have hr : d.fits q = if d.k = 1 ∨ d.k = 2 then decide (0 ≤ d.i ∧ d.i < q.g.us.length) && decide (d.x = R0) else if d.k = 3 ∨ d.k = 4 then decide (0 ≤ d.i ∧ d.i < q.g.n) && d.x.ok else false := rfl
 generalize d.fits q = r at *
 generalize decide (d.x = R0) = z at *
 generalize d.x.ok = ok at *
 obtain ⟨⟨n, us, os⟩, ⟨lo, hi, rows⟩, ⟨ts, c1, c2, c3⟩⟩ := q
 obtain ⟨k, i, x1, x2, x3⟩ := d
 simp only at hr
 have u1 : ∀ (hk : k = 1 ∨ k = 2), (0 ≤ i → i < us.length → r = z) ∧ (¬ (0 ≤ i ∧ i < us.length) → r = false) := fun hk => by
  rw [if_pos hk] at hr
  exact ⟨fun h1 h2 => by rw [hr, decide_eq_true ⟨h1, h2⟩, Bool.true_and], fun h => by rw [hr, decide_eq_false h]; rfl⟩
 have u2 : ∀ (hk : k = 3 ∨ k = 4), (0 ≤ i → i < n → r = ok) ∧ (¬ (0 ≤ i ∧ i < n) → r = false) := fun hk => by
  rw [if_neg (by omega), if_pos hk] at hr
  exact ⟨fun h1 h2 => by rw [hr, decide_eq_true ⟨h1, h2⟩, Bool.true_and], fun h => by rw [hr, decide_eq_false h]; rfl⟩
 have u3 : ¬ (k = 1 ∨ k = 2 ∨ k = 3 ∨ k = 4) → r = false := fun hk => by
  rw [if_neg (by omega), if_neg (by omega)] at hr; exact hr
 clear hr
 cbv
 have hk : (k = 1 ∨ k = 2) ∨ (k = 3 ∨ k = 4) ∨ (k ≤ 0 ∨ 5 ≤ k) := by omega
 rcases hk with hk | hk | hk
 ·obtain ⟨v1, v2⟩ := u1 hk
  clear u1 u2 u3
  refine cut_meet (σ := Unit) (fun _ => ⟨[(2, .ptr 2 0), (3, .ptr 3 0), (6, .int .i64 (fun _ => k)), (7, .tt)], [(2, .box [.int .i64 (fun _ => n), alv us, alv os, rlv lo, rlv hi, alv rows, tsv ts, .bool (fun _ => c1), nat c2, nat c3]), (3, .box [.int .i64 (fun _ => k), .int .i64 (fun _ => i), .bool (fun _ => x1), nat x2, nat x3])]⟩) (fun _ => True) (fun e => ?_) (fun e => ?_) (fun _ _ => ?_)
  ·cbv
   exact ⟨(), trivial, .le (by cbv; exact ⟨leS_refl _, leS_refl _, leS_refl _, ⟨by simp only [Le, decide_eq_true_eq]; exact e⟩, trivial⟩) okZ rfl⟩
  ·cbv
   exact ⟨(), trivial, .le (by cbv; exact ⟨leS_refl _, leS_refl _, leS_refl _, ⟨by simp only [Le, decide_eq_true_eq]; (try dsimp only [ncast] at *); omega⟩, trivial⟩) okZ rfl⟩
  ·cbv
   refine br_dec (fun e1 => ?_) (fun e1 => ?_)
   ·cbv
    refine br_dec (fun e2 => ?_) (fun e2 => ?_)
    ·cbv
     refine callS' rfl okA (cz) rfl ?_
     cbv
     (refine retC rfl ?_; cbv)
     exact leS_bool (by rw [v1 okQ okQ])
    ·cbv
     (refine retC rfl ?_; cbv)
     exact leS_ff (v2 okQ)
   ·cbv
    (refine retC rfl ?_; cbv)
    exact leS_ff (v2 okQ)
 ·obtain ⟨v1, v2⟩ := u2 hk
  clear u1 u2 u3
  refine cut_no (by (try dsimp only [ncast] at *); omega) ?_
  cbv
  refine cut_no (by (try dsimp only [ncast] at *); omega) ?_
  cbv
  refine cut_meet (σ := Unit) (fun _ => ⟨[(2, .ptr 2 0), (3, .ptr 3 0), (28, .tt)], [(2, .box [.int .i64 (fun _ => n), alv us, alv os, rlv lo, rlv hi, alv rows, tsv ts, .bool (fun _ => c1), nat c2, nat c3]), (3, .box [.int .i64 (fun _ => k), .int .i64 (fun _ => i), .bool (fun _ => x1), nat x2, nat x3])]⟩) (fun _ => True) (fun e => ?_) (fun e => ?_) (fun _ _ => ?_)
  ·cbv
   exact ⟨(), trivial, .le (by cbv; exact ⟨leS_refl _, leS_refl _, ⟨by simp only [Le, decide_eq_true_eq]; exact e⟩, trivial⟩) okZ rfl⟩
  ·cbv
   exact ⟨(), trivial, .le (by cbv; exact ⟨leS_refl _, leS_refl _, ⟨by simp only [Le, decide_eq_true_eq]; (try dsimp only [ncast] at *); omega⟩, trivial⟩) okZ rfl⟩
  ·cbv
   refine br_dec (fun e1 => ?_) (fun e1 => ?_)
   ·cbv
    refine br_dec (fun e2 => ?_) (fun e2 => ?_)
    ·cbv
     refine callS' rfl okA (cv) rfl ?_
     cbv
     (refine retC rfl ?_; cbv)
     exact leS_bool (by rw [v1 okQ okQ])
    ·cbv
     (refine retC rfl ?_; cbv)
     exact leS_ff (v2 okQ)
   ·cbv
    (refine retC rfl ?_; cbv)
    exact leS_ff (v2 okQ)
 ·have hr := u3 (by omega)
  refine cut_no (by (try dsimp only [ncast] at *); omega) ?_
  cbv
  refine cut_no (by (try dsimp only [ncast] at *); omega) ?_
  cbv
  refine cut_no (by (try dsimp only [ncast] at *); omega) ?_
  cbv
  refine cut_no (by (try dsimp only [ncast] at *); omega) ?_
  cbv
  (refine retC rfl ?_; cbv)
  exact leS_ff hr
end Go.Proofs.YtcanljninhfmhaaGreat

namespace Go.Proofs.YtcanljninhfmhaaGreat
open Go
set_option linter.unusedVariables false
set_option maxRecDepth 100000
set_option maxHeartbeats 1000000
def cI (x y : Int) : Int := if x < y then -1 else if y < x then 1 else 0
def orI (x y : Int) : Int := if x ≠ 0 then x else y
def cmpRow (a b : Row) : Int := orI (cI a.k b.k) (orI (cI a.i b.i) (orI (cI a.lo b.lo) (cI a.hi b.hi)))
theorem leS_nbff {b : Bool} (h : b = true) : LeS (.nbool (fun _ => b)) .ff := ⟨by simp [Le, h]⟩
theorem hfNaN : Pg.funcs[177]? = some Tryz.f177 := by rw [Pg_eq]; rfl
theorem sNaN (x : Int) : SoundS 177 [.int .i64 (fun _ => x)] .ff := by
 refine sound_fn hfNaN rfl rfl rfl rfl rfl ?_
 cbv
 (refine retC rfl ?_; cbv)
 exact leS_nbff (by simp)
theorem hfCmpI : Pg.funcs[137]? = some Tryz.f137 := by rw [Pg_eq]; rfl
theorem sCmpI (x y : Int) : SoundS 137 [.int .i64 (fun _ => x), .int .i64 (fun _ => y)] (.int .i64 (fun _ => cI x y)) := by
 refine sound_fn hfCmpI rfl rfl rfl rfl rfl ?_
 have cx := sNaN x
 have cy := sNaN y
 have h1 : x < y → cI x y = -1 := fun h => if_pos h
 have h2 : ¬ x < y → y < x → cI x y = 1 := fun h g => by unfold cI; rw [if_neg h, if_pos g]
 have h3 : ¬ x < y → ¬ y < x → cI x y = 0 := fun h g => by unfold cI; rw [if_neg h, if_neg g]
 generalize cI x y = c at *
 cbv
 refine callS' rfl okA (cx) rfl ?_
 cbv
 refine callS' rfl okA (cy) rfl ?_
 cbv
 refine cut_dec (fun h => ?_) (fun h => ?_)
 ·cbv
  (refine retC rfl ?_; cbv)
  exact leS_int (h1 h).symm
 ·cbv
  refine cut_dec (fun g => ?_) (fun g => ?_)
  ·cbv
   (refine retC rfl ?_; cbv)
   exact leS_int (h2 h g).symm
  ·cbv
   (refine retC rfl ?_; cbv)
   exact leS_int (h3 h g).symm
def oneI (x : Int) : List PV := [.int .i64 (fun _ => x)]
theorem oneI_flat (a : Int) : allL flat (oneI a) = true := rfl
theorem oneI_len (a : Int) : (oneI a).length = 1 := rfl
def orL : List Int → Int
 | [] => 0
 | x :: r => orI x (orL r)
theorem hfOr : Pg.funcs[136]? = some Tryz.f136 := by rw [Pg_eq]; rfl
theorem sOr (l : List Int) (hl : l.length < 2^40) : SoundS 136 [.sl (fun _ => enc oneI l)] (.int .i64 (fun _ => orL l)) := by
 refine sound_fn hfOr rfl rfl rfl rfl rfl ?_
 generalize hr : orL l = r
 cbv
 refine loop_n (σ := Nat) (fun i => ⟨[(3, .int .i64 (fun _ => 0)), (6, .sl (fun _ => enc oneI l)), (7, .int .i64 (fun _ => (l.length : Int))), (8, .int .i64 (fun _ => (i : Int)))], []⟩)
  (fun i => i ≤ l.length ∧ r = orL (l.drop i)) (fun i => l.length - i) 0 ⟨om, hr.symm⟩ (.le ?_ ?_ rfl) ?_
 ·cbv
  exact ⟨leS_refl _, leS_refl _, leS_int (by (try dsimp only [ncast] at *); rw [enc_len]), leS_refl _, trivial⟩
 ·cbv
 clear hr
 intro i hs
 obtain ⟨h1, h2⟩ := hs
 cbv
 refine cut_dec (fun h5 => ?_) (fun h5 => ?_)
 ·cbv
  refine idx_enc (l := l) i om om oneI_flat oneI_len (fun t ht => ?_)
  rw [drop_of_get ht, show orL (t :: l.drop (i + 1)) = orI t (orL (l.drop (i + 1))) from rfl] at h2
  have h3 : t ≠ 0 → r = t := fun h => by rw [h2]; exact if_pos h
  have h4 : t = 0 → r = orL (l.drop (i + 1)) := fun h => by rw [h2]; exact if_neg (fun g => g h)
  clear h2
  cbv
  refine cut_dec (fun h6 => ?_) (fun h6 => ?_)
  ·have h4' := h4 h6
   cbv
   refine ⟨in64_of om om, i + 1, ⟨om, h4'⟩, om, .le ?_ ?_ rfl⟩
   ·cbv
    exact ⟨leS_refl _, leS_refl _, leS_refl _, leS_int om, trivial⟩
   ·cbv
  ·have h3' := h3 h6
   cbv
   (refine retC rfl ?_; cbv)
   exact leS_int h3'.symm
 ·have : i = l.length := om
  rw [this, List.drop_length] at h2
  cbv
  (refine retC rfl ?_; cbv)
  exact leS_int h2.symm
theorem hfDvCmp : Pg.funcs[90]? = some Tryz.f90 := by rw [Pg_eq]; rfl
theorem sDvCmp (a b : Row) : SoundS 90 [rwv a, rwv b] (.int .i64 (fun _ => cmpRow a b)) := by
 refine sound_fn hfDvCmp rfl rfl rfl rfl rfl ?_
 have c1 := sCmpI a.k b.k
 have c2 := sCmpI a.i b.i
 have c3 := sCmpI a.lo b.lo
 have c4 := sCmpI a.hi b.hi
 have c5 := sOr [cI a.k b.k, cI a.i b.i, cI a.lo b.lo, cI a.hi b.hi] (by simp)
 have e : orL [cI a.k b.k, cI a.i b.i, cI a.lo b.lo, cI a.hi b.hi] = cmpRow a b := by
  unfold cmpRow orL orL orL orL orL
  have : ∀ x, orI x 0 = x := fun x => by unfold orI; split <;> omega
  rw [this]
 rw [e] at c5
 generalize cmpRow a b = r at *
 generalize cI a.k b.k = x1 at *
 generalize cI a.i b.i = x2 at *
 generalize cI a.lo b.lo = x3 at *
 generalize cI a.hi b.hi = x4 at *
 cbv
 refine draw_of 22 (by cbv) ?_
 cbv
 refine callS_d okA (c1) rfl ?_
 cbv
 refine callS_d okA (c2) rfl ?_
 cbv
 refine callS_d okA (c3) rfl ?_
 cbv
 refine callS_d okA (c4) rfl ?_
 cbv
 refine callS_d (by exact ⟨leS_sl rfl, trivial⟩) c5 rfl ?_
 cbv
 (refine retC rfl ?_; cbv)
 exact leS_refl _
def canM : Option Row → List Mult → Bool
 | _, [] => true
 | p, m :: r => decide (0 < sgnQ m.c.q) && (m.c.ok && ((match p with
  | none => true
  | some w => decide (cmpRow w m.row < 0)) && canM (some m.row) r))
theorem hfDvCan : Pg.funcs[44]? = some Tryz.f44 := by rw [Pg_eq]; rfl
theorem sDvCan (l : List Mult) (hl : Msz (2^36) l) : SoundS 44 [mlv l] (.bool (fun _ => canM none l)) := by
 refine sound_fn hfDvCan rfl rfl rfl rfl rfl ?_
 have hll := hl.len
 have hls := hl.sz
 generalize hr : canM none l = r
 cbv
 refine loop_n (σ := Nat × Option Row) (fun s => ⟨[(0, mlv l), (5, mlv l), (6, .int .i64 (fun _ => (l.length : Int))), (7, .int .i64 (fun _ => (s.1 : Int)))], []⟩)
  (fun s => s.1 ≤ l.length ∧ r = canM s.2 (l.drop s.1) ∧ (s.1 = 0 → s.2 = none) ∧ (s.1 ≠ 0 → ∃ u, l[s.1 - 1]? = some u ∧ s.2 = some u.row)) (fun s => l.length - s.1)
  (0, none) ⟨om, hr.symm, fun _ => rfl, fun h => absurd rfl h⟩ (.le ?_ ?_ rfl) ?_
 ·cbv
  exact ⟨leS_refl _, leS_refl _, leS_int (by (try dsimp only [ncast] at *); rw [enc_len]), leS_refl _, trivial⟩
 ·cbv
 clear hr
 intro s hs
 obtain ⟨h1, hv, h3, h4⟩ := hs
 generalize s.1 = i at *
 generalize s.2 = p at *
 cbv
 refine cut_dec (fun h5 => ?_) (fun h5 => ?_)
 ·cbv
  refine idx_enc (l := l) i om om mc_flat mc_len (fun t ht => ?_)
  have htz := hls t (List.mem_of_getElem? ht)
  have cs := s86 t.c (by have := htz.n; omega)
  have cv := s103 t.c htz
  have hd : l.drop i = t :: l.drop (i + 1) := drop_of_get ht
  have hvn : (¬ 0 < sgnQ t.c.q → r = false) := fun h => by rw [hv, hd]; unfold canM; rw [decide_eq_false h]; rfl
  have hvo : t.c.ok = false → r = false := fun h => by rw [hv, hd]; unfold canM; rw [h]; simp
  have hv0 : 0 < sgnQ t.c.q → t.c.ok = true → p = none → r = canM (some t.row) (l.drop (i + 1)) := fun h g e => by
   rw [hv, hd, e]
   show (decide (0 < sgnQ t.c.q) && (t.c.ok && (true && canM (some t.row) (l.drop (i + 1))))) = _
   rw [decide_eq_true h, g]; simp
  have hv1 : ∀ w, 0 < sgnQ t.c.q → t.c.ok = true → p = some w → r = (decide (cmpRow w t.row < 0) && canM (some t.row) (l.drop (i + 1))) := fun w h g e => by
   rw [hv, hd, e]
   show (decide (0 < sgnQ t.c.q) && (t.c.ok && (decide (cmpRow w t.row < 0) && canM (some t.row) (l.drop (i + 1))))) = _
   rw [decide_eq_true h, g]; simp
  clear hv
  generalize sgnQ t.c.q = sg at *
  generalize t.c.ok = ok at *
  generalize hrest : canM (some t.row) (l.drop (i + 1)) = rest at *
  cbv
  refine draw_of 26 (by cbv) ?_
  cbv
  refine callS_d okA (cs) rfl ?_
  cbv
  refine br_dec (fun e1 => ?_) (fun e1 => ?_)
  ·cbv
   (refine retC rfl ?_; cbv)
   exact leS_ff (hvn (by omega))
  cbv
  refine callS_d okA (cv) rfl ?_
  cbv
  refine br_bool (fun e2 => ?_) (fun e2 => ?_)
  rotate_left
  ·cbv
   (refine retC rfl ?_; cbv)
   exact leS_ff (hvo e2)
  cbv
  refine br_dec (fun e3 => ?_) (fun e3 => ?_)
  ·cbv
   obtain ⟨u, hu, hu2⟩ := h4 om
   have cc := sDvCmp u.row t.row
   have hvv := hv1 u.row (by omega) e2 hu2
   generalize cmpRow u.row t.row = cr at *
   refine ⟨in64_of om om, idx_enc (l := l) (i - 1) om om mc_flat mc_len (fun u' hu' => ?_)⟩
   obtain rfl : u' = u := by rw [hu] at hu'; exact (Option.some.inj hu').symm
   cbv
   refine callS_d okA (cc) rfl ?_
   cbv
   refine cut_dec (fun e4 => ?_) (fun e4 => ?_)
   ·cbv
    (refine retC rfl ?_; cbv)
    exact leS_ff (by rw [hvv, decide_eq_false (by omega)]; rfl)
   ·rw [decide_eq_true (show cr < 0 by omega), Bool.true_and] at hvv
    cbv
    exact ⟨in64_of om om, (i + 1, some t.row), ⟨om, hvv.trans hrest.symm, fun h => absurd h (by simp), fun _ => ⟨_, ht, rfl⟩⟩, om, .le (by cbv; exact ⟨leS_refl _, leS_refl _, leS_refl _, leS_int om, trivial⟩) (by cbv) rfl⟩
  ·cbv
   have hvv := hv0 (by omega) e2 (h3 om)
   exact ⟨in64_of om om, (i + 1, some t.row), ⟨om, hvv.trans hrest.symm, fun h => absurd h (by simp), fun _ => ⟨_, ht, rfl⟩⟩, om, .le (by cbv; exact ⟨leS_refl _, leS_refl _, leS_refl _, leS_int om, trivial⟩) (by cbv) rfl⟩
 ·have : i = l.length := om
  rw [this, List.drop_length] at hv
  have hv' : r = true := hv
  cbv
  (refine retC rfl ?_; cbv)
  exact leS_tt hv'
end Go.Proofs.YtcanljninhfmhaaGreat
