/- Two rows (structs of four integers) compared with '==' and '!='. * CONTRACTS: derive.Collect at derivations of at most 12 rows. -/
import Derived.Test.YtbehbhicjmjdhaaGreatQ28
import Derived.Laws.StructEq
import Derived.ChangeKeysEq
import Derived.Test.YtbehbhicjmjdhaaGreatQ35

namespace Go.Proofs.YtbehbhicjmjdhaaGreat
open Go
set_option linter.unusedVariables false

abbrev fld (s : String) (o b : Nat) : Field := { name := s, type := 3, offset := o, embedded := false, tag := "", pkgPath := "", byteOffset := b }
theorem row_und : Pg.underlying 52 = some (.struct (Pg.fieldsOf 52)) := by rw [Pg_eq]; kernel_rfl
theorem row_flds : (Pg.fieldsOf 52).toList = [fld "Kind" 0 0, fld "Index" 1 8, fld "Lo" 2 16, fld "Hi" 3 24] := by rw [Pg_eq]; kernel_rfl
theorem row_held : Pg.stoodInHeld 52 = false := by rw [Pg_eq]; kernel_rfl
theorem row_guard : Pg.eqGuardType Pg.depth 52 = false := by rw [Pg_eq]; kernel_rfl
theorem int_plain : Pg.plainKey 3 = true := by rw [Pg_eq]; kernel_rfl
theorem int_und : Pg.underlying 3 = some (.int .i64) := by rw [Pg_eq]; kernel_rfl
abbrev rowA (a : Row) : Array Value := #[.int .i64 a.k, .int .i64 a.i, .int .i64 a.lo, .int .i64 a.hi]
theorem row_equal (a b : Row) (w : World) : (Op.equalIn 10000 52 (.agg (rowA a)) (.agg (rowA b))).run Pg w = .ok (decide (a = b)) w := by
  rw [show (10000 : Nat) = 9999 + 1 from rfl, run_equalIn_agg w 9999 _ _ _ row_und row_held, row_flds]
  have p0 : ∀ (c : Row), (part 3 (rowA c) 0).run Pg w = .ok (.int .i64 c.k) w := fun c => run_part_plain _ int_plain rfl
  have p1 : ∀ (c : Row), (part 3 (rowA c) 1).run Pg w = .ok (.int .i64 c.i) w := fun c => run_part_plain _ int_plain rfl
  have p2 : ∀ (c : Row), (part 3 (rowA c) 2).run Pg w = .ok (.int .i64 c.lo) w := fun c => run_part_plain _ int_plain rfl
  have p3 : ∀ (c : Row), (part 3 (rowA c) 3).run Pg w = .ok (.int .i64 c.hi) w := fun c => run_part_plain _ int_plain rfl
  have q : ∀ (x y : Int), (Op.equalIn 9999 3 (.int .i64 x) (.int .i64 y)).run Pg w = .ok (x == y) w := fun x y => run_equalIn_int w 9998 _ .i64 .i64 x y int_und
  have e : decide (a = b) = ((a.k == b.k) && ((a.i == b.i) && ((a.lo == b.lo) && (a.hi == b.hi)))) := by
    obtain ⟨a1, a2, a3, a4⟩ := a
    obtain ⟨b1, b2, b3, b4⟩ := b
    rw [Bool.eq_iff_iff]
    simp
  rw [e]
  simp only [Op.eqFields, Sem.run_bind, Sem.run_ite, p0, p1, p2, p3, q, Result.andThen_ok, Sem.run_pure]
  generalize (a.k == b.k) = x0
  generalize (a.i == b.i) = x1
  generalize (a.lo == b.lo) = x2
  generalize (a.hi == b.hi) = x3
  cases x0 <;> cases x1 <;> cases x2 <;> cases x3 <;> rfl
theorem eqs_row {x y : Operand} {a b : Row} {K : PV → Prop} (hK : K (.bool (fun _ => decide (a = b)))) : EqS .eql 52 x y [fun _ => a.k, fun _ => a.i, fun _ => a.lo, fun _ => a.hi] [fun _ => b.k, fun _ => b.i, fun _ => b.lo, fun _ => b.hi] K := by
  refine ⟨⟨decide (a = b), fun w => ?_, hK⟩⟩
  show (do eqGuard .eql 52 x y (.agg (rowA a)) (.agg (rowA b)); binOp .eql 52 (.agg (rowA a)) (.agg (rowA b)) : Sem Value).run Pg w = _
  simp only [Sem.run_bind, run_eqGuard_agg w .eql _ x y _ _ row_guard, Result.andThen_ok, run_eql_struct, row_equal]
theorem neqs_row {x y : Operand} {a b : Row} {K : PV → Prop} (hK : K (.bool (fun _ => !(decide (a = b))))) : EqS .neq 52 x y [fun _ => a.k, fun _ => a.i, fun _ => a.lo, fun _ => a.hi] [fun _ => b.k, fun _ => b.i, fun _ => b.lo, fun _ => b.hi] K := by
  refine ⟨⟨!(decide (a = b)), fun w => ?_, hK⟩⟩
  show (do eqGuard .neq 52 x y (.agg (rowA a)) (.agg (rowA b)); binOp .neq 52 (.agg (rowA a)) (.agg (rowA b)) : Sem Value).run Pg w = _
  simp only [Sem.run_bind, run_eqGuard_agg w .neq _ x y _ _ row_guard, Result.andThen_ok, run_neq_struct, row_equal]
end Go.Proofs.YtbehbhicjmjdhaaGreat

namespace Go.Proofs.YtbehbhicjmjdhaaGreat
open Go
set_option linter.unusedVariables false
set_option maxRecDepth 100000
set_option maxHeartbeats 2000000

def mR (l : List (Row × Rat)) : List Mult := l.map fun t => ⟨t.1, ratR t.2⟩
theorem mR_len (l : List (Row × Rat)) : (mR l).length = l.length := by simp [mR]
theorem mR_app (l m : List (Row × Rat)) : mR (l ++ m) = mR l ++ mR m := by simp [mR]
def gfin (r : Row) (q : Rat) (rest : List (Row × Rat)) : List (Row × Rat) := if 0 < sgnQ q then (r, q) :: rest else rest
/-- The group of row r with sum q goes on. -/
def grpG (r : Row) (q : Rat) : List Mult → List (Row × Rat)
  | [] => gfin r q []
  | m :: t => if m.row = r then grpG r (q + m.c.q) t else gfin r q (grpG m.row (0 + m.c.q) t)
def grp : List Mult → List (Row × Rat)
  | [] => []
  | m :: t => grpG m.row 0 (m :: t)
theorem grpG_cons (r : Row) (q : Rat) (m : Mult) (t : List Mult) : grpG r q (m :: t) = if m.row = r then grpG r (q + m.c.q) t else gfin r q (grp (m :: t)) := by
  rw [show grpG r q (m :: t) = if m.row = r then grpG r (q + m.c.q) t else gfin r q (grpG m.row (0 + m.c.q) t) from rfl]
  rw [show grp (m :: t) = grpG m.row 0 (m :: t) from rfl, show grpG m.row 0 (m :: t) = if m.row = m.row then grpG m.row (0 + m.c.q) t else gfin m.row 0 (grpG m.row (0 + m.c.q) t) from rfl, if_pos rfl]
def gr (l : List (Row × Rat)) (r : Row) (q : Rat) : List (Row × Rat) := if 0 < sgnQ q then l ++ [(r, q)] else l
theorem gr_app (l : List (Row × Rat)) (r : Row) (q : Rat) (rest) : gr l r q ++ rest = l ++ gfin r q rest := by unfold gr gfin; split <;> simp
theorem gr_len (l : List (Row × Rat)) (r : Row) (q : Rat) : (gr l r q).length ≤ l.length + 1 := by unfold gr; split <;> simp
/-- The canonical form of a derivation. -/
def collect (l : List Mult) : Int × List (Row × Rat) := if (l.any fun m => decide (sgnQ m.c.q < 0)) = true then (1, []) else (0, grp (isr l).reverse)
theorem insR_mem {x m : Mult} : ∀ {l}, m ∈ insR x l → m = x ∨ m ∈ l
  | [], h => by simp [insR] at h; exact .inl h
  | y :: r, h => by
    unfold insR at h
    split at h
    · rcases List.mem_cons.1 h with rfl | h
      · exact .inr List.mem_cons_self
      · rcases insR_mem h with h | h
        · exact .inl h
        · exact .inr (List.mem_cons_of_mem _ h)
    · exact List.mem_cons.1 h
theorem isr_mem {m : Mult} : ∀ {l : List Mult}, m ∈ isr l → m ∈ l := by
  have : ∀ (l a : List Mult), m ∈ l.foldl (fun a x => insR x a) a → m ∈ a ∨ m ∈ l := by
    intro l
    induction l with
    | nil => intro a h; exact .inl h
    | cons x r ih =>
      intro a h
      rcases ih _ h with h | h
      · rcases insR_mem h with h | h
        · exact .inr (by rw [h]; exact List.mem_cons_self)
        · exact .inl h
      · exact .inr (List.mem_cons_of_mem _ h)
  intro l h
  rcases this l [] h with h | h
  · exact absurd h (by simp)
  · exact h
theorem hfDvCol : Pg.funcs[6]? = some Tryz.f6 := by rw [Pg_eq]; rfl
theorem sDvCol (l : List Mult) (hl : l.length ≤ 12) (hs : Msz (2^20) l) : SoundS 6 [mlv l] (.tup [mlv (mR (collect l).2), .int .i64 (fun _ => (collect l).1)]) := by
  refine sound_fn hfDvCol rfl rfl rfl rfl rfl ?_
  have c0 := sHasM (fun m => decide (sgnQ m.c.q < 0)) l (by omega) 18 [] (fun m hm => sDvC1 m (Nat.lt_of_le_of_lt (hs.sz m hm).n (by decide)))
  have c1 := sClM l (by omega)
  have c2 := sSort l hl
  have hLl : (isr l).reverse.length = l.length := by rw [List.length_reverse, isr_len]
  have hLs : ∀ m, m ∈ (isr l).reverse → m.c.sz (2^20) := fun m hm => hs.sz m (isr_mem (by simpa using hm))
  have d0 : (l.any fun m => decide (sgnQ m.c.q < 0)) = true → collect l = (1, []) := fun h => if_pos h
  have d1 : (l.any fun m => decide (sgnQ m.c.q < 0)) = false → collect l = (0, grp (isr l).reverse) := fun h => if_neg (by rw [h]; decide)
  generalize (l.any fun m => decide (sgnQ m.c.q < 0)) = neg at *
  generalize (isr l).reverse = L at *
  obtain ⟨M, hM⟩ : ∃ M, M = (collect l).2 := ⟨_, rfl⟩
  obtain ⟨e, he⟩ : ∃ e, e = (collect l).1 := ⟨_, rfl⟩
  rw [← hM, ← he]
  have e0 : neg = true → M = [] ∧ e = 1 := fun h => by rw [d0 h] at hM he; exact ⟨hM, he⟩
  have e1 : neg = false → M = grp L ∧ e = 0 := fun h => by rw [d1 h] at hM he; exact ⟨hM, he⟩
  clear d0 d1 hM he
  have hgc := grpG_cons
  have hge : ∀ r q, grpG r q [] = gfin r q [] := fun _ _ => rfl
  have hg0 : grp [] = [] := rfl
  have hg1 : ∀ m t, grp (m :: t) = grpG m.row 0 (m :: t) := fun _ _ => rfl
  obtain ⟨G, hG⟩ : ∃ G, grpG = G := ⟨_, rfl⟩
  obtain ⟨H, hH⟩ : ∃ H, grp = H := ⟨_, rfl⟩
  rw [hG, hH] at hgc
  rw [hG] at hge
  rw [hH] at hg0
  rw [hG, hH] at hg1
  rw [hH] at e1
  clear hG hH
  cbv
  refine callS' rfl (by exact ⟨leS_refl _, ⟨rfl, trivial⟩, trivial⟩) c0 rfl ?_
  cbv
  refine cut_bool (fun h => ?_) (fun h => ?_)
  · obtain ⟨q1, q2⟩ := e0 h
    subst q1 q2
    cbv
    (refine retC rfl ?_; cbv)
    exact ⟨leS_nil rfl, leS_refl _, trivial⟩
  obtain ⟨hM, q2⟩ := e1 h
  subst q2
  clear e0 e1 c0
  cbv
  refine callK (fun _ => 300) (Wk.sel _ [11] [] rfl) rfl (by repeat' first | exact trivial | exact leS_refl _ | exact leS_tt rfl | exact leS_ff rfl | exact leS_nil rfl | apply And.intro) c1 trivial rfl rfl rfl rfl rfl rfl rfl rfl ?_
  cbv
  refine callK (fun _ => 300) (Wk.sel _ [4, 13] [300] rfl) rfl (by exact ⟨leS_refl _, ⟨rfl, trivial⟩, trivial⟩) c2 ⟨⟨rfl, rfl⟩, trivial⟩ rfl rfl rfl rfl rfl rfl rfl rfl ?_
  cbv
  clear c1 c2
  refine loop_n (σ := List (Row × Rat) × Nat) (fun s => ⟨[(4, mlv L), (5, .osl 55 7 (fun _ => 0) (fun _ => s.1.length)), (6, .int .i64 (fun _ => (s.2 : Int)))], [(55, .arr 7 (fun _ => enc mc (mR s.1)))]⟩)
    (fun s => s.2 ≤ L.length ∧ s.1.length ≤ s.2 ∧ M = s.1 ++ H (L.drop s.2)) (fun s => L.length - s.2) ([], 0) ⟨(by (try dsimp only [ncast] at *) <;> (try simp only [lm_length] at *) <;> omega), by simp, by rw [hM]; rfl⟩
    (.trans (.frz 300 rfl rfl ?_ ?_) (.trans (.le (ps' := ⟨[(4, mlv L), (5, .nil), (6, .int .i64 (fun _ => ((0 : Nat) : Int)))], []⟩) ?_ trivial rfl) (.trans (.adoptT (ps := ⟨[(4, mlv L), (5, .nil), (6, .int .i64 (fun _ => ((0 : Nat) : Int)))], []⟩) 55 7 5 rfl rfl) (.le ?_ ?_ rfl)))) ?_
  · cbv
    exact ⟨frok_of (by rw [enc_len]; omega), frok_of (by rw [enc_len]; omega), trivial⟩
  · exact trivial
  · cbv
    exact ⟨leS_sl (List.take_of_length_le (by rw [List.drop_zero, enc_len]; omega)), leS_refl _, leS_int rfl, trivial⟩
  · cbv
    exact ⟨leS_refl _, leS_osl rfl rfl, leS_refl _, trivial⟩
  · cbv
    exact ⟨elsEq_of rfl, trivial⟩
  clear hM
  intro s hs'
  obtain ⟨h1, h2, hI⟩ := hs'
  generalize s.1 = out at *
  generalize s.2 = i at *
  cbv
  refine cut_dec (fun h5 => ?_) (fun h5 => ?_)
  rotate_left
  · have hi : i = L.length := by rw [enc_len] at h5; (try dsimp only [ncast] at *); omega
    rw [hi, List.drop_length, hg0, List.append_nil] at hI
    cbv
    subst hI
    refine retWC _ (.trans (.le (ps' := ⟨[(2, .osl 55 7 (fun _ => 0) (fun _ => M.length)), (3, .int .i64 (fun _ => 0))], [(55, .arr 7 (fun _ => enc mc (mR M)))]⟩) ?_ ?_ rfl) (.frz 55 rfl rfl ?_ ?_)) rfl ?_
    · cbv; exact ⟨leS_refl _, leS_refl _, trivial⟩
    · cbv; exact ⟨elsEq_of rfl, trivial⟩
    · cbv; exact ⟨frok_of (by simp [enc_len, mR_len]), trivial⟩
    · exact trivial
    · cbv; exact ⟨leS_sl (List.take_of_length_le (by simp [enc_len, mR_len])), leS_refl _, trivial⟩
  have hlt : i < L.length := by rw [enc_len] at h5; (try dsimp only [ncast] at *); omega
  obtain ⟨m, hm⟩ := get_some hlt
  have hdr := drop_of_get hm
  rw [hdr, hg1] at hI
  have idx : ∀ {K : List PV → Prop}, K (mc m) → IdxOk 7 (fun _ => enc mc L) (fun _ => (i : Int)) K := fun hK => idx_enc (l := L) i rfl hlt mc_flat mc_len (fun m' hm' => by rw [hm] at hm'; cases hm'; exact hK)
  generalize hT0 : G m.row 0 (m :: L.drop (i + 1)) = T at *
  cbv
  refine idx ?_
  cbv
  clear idx
  refine loop_n (σ := Nat × Rat) (fun s => ⟨[(4, mlv L), (5, .osl 55 7 (fun _ => 0) (fun _ => out.length)), (6, .int .i64 (fun _ => (s.1 : Int))), (7, .ptr 7 0), (8, .ptr 8 0)], [(7, .box (rwc m.row)), (8, .box [.bool (fun _ => (ratR s.2).neg), nat (ratR s.2).num, nat (ratR s.2).den]), (55, .arr 7 (fun _ => enc mc (mR out)))]⟩)
    (fun s => i ≤ s.1 ∧ s.1 ≤ L.length ∧ T = G m.row s.2 (L.drop s.1) ∧ Fits (1 + 2^21 * s.1) s.2) (fun s => L.length - s.1) (i, 0) ⟨Nat.le_refl _, h1, by rw [← hT0, hdr], fits_zero (by omega)⟩ (.le ?_ ?_ rfl) ?_
  · cbv
    exact ⟨leS_refl _, leS_refl _, leS_refl _, leS_refl _, leS_refl _, trivial⟩
  · show leO _ [(7, .box (rwc m.row)), (8, .box [.bool (fun _ => (ratR 0).neg), nat (ratR 0).num, nat (ratR 0).den]), (55, .arr 7 (fun _ => enc mc (mR out)))]
    rw [ratR_zero]
    cbv
    exact ⟨⟨leS_refl _, leS_refl _, leS_refl _, leS_refl _, trivial⟩, ⟨leS_ff rfl, leS_nil rfl, leS_nil rfl, trivial⟩, elsEq_of rfl, trivial⟩
  clear hT0
  intro s hs'
  obtain ⟨k1, k2, kT, hq⟩ := hs'
  generalize s.1 = i' at *
  generalize s.2 = q at *
  by_cases hlt' : i' < L.length
  rotate_left
  · have hi' : i' = L.length := by omega
    have hTT : T = gfin m.row q (H (L.drop i')) := by rw [kT, hi', List.drop_length, hge, hg0]
    obtain ⟨Q0, hQ0⟩ : ∃ Q0, ratR q = Q0 := ⟨_, rfl⟩
    cbv
    refine draw_of 13 (by cbv) ?_
    cbv
    refine br_no (by rw [enc_len]; (try dsimp only [ncast] at *); omega) ?_
    clear hQ0
    have hT' : M = gr out m.row q ++ H (L.drop i') := by rw [hI, hTT, gr_app]
    have hgl := gr_len out m.row q
    have csq := s86 (ratR q) (Nat.lt_of_le_of_lt (ratR_sz hq).n (by omega))
    rw [q_ratR] at csq
    have hg1' : 0 < sgnQ q → gr out m.row q = out ++ [(m.row, q)] := fun h => if_pos h
    have hg2' : ¬ 0 < sgnQ q → gr out m.row q = out := fun h => if_neg h
    have hmr : mR [(m.row, q)] = [⟨m.row, ratR q⟩] := rfl
    generalize gr out m.row q = out' at *
    generalize sgnQ q = sg at *
    generalize ratR q = Q at *
    cbv
    refine callS' rfl (by repeat' first | exact trivial | exact leS_refl _ | exact leS_tt rfl | exact leS_ff rfl | exact leS_nil rfl | apply And.intro) (csq) rfl ?_
    cbv
    refine cut_dec (fun e3 => ?_) (fun e3 => ?_)
    · have ho := hg1' e3
      cbv
      subst ho
      refine app_own tyMults rfl rfl rfl (by simp only [enc_len, mR_len]) rfl ⟨by simp [mapDD, mapD]⟩ (room_of (by simp only [enc_len, mR_len, mapDD, List.length_cons, List.length_nil]; omega) (by simp only [enc_len, mR_len, mapDD, List.length_cons, List.length_nil]; omega)) rfl ?_
      cbv
      refine ⟨(out ++ [(m.row, q)], i'), ⟨by dsimp only; omega, by dsimp only; omega, hT'⟩, by dsimp only; omega, ?_⟩
      refine .le ?_ ?_ rfl
      · cbv; exact ⟨leS_refl _, leS_osl rfl (by simp [enc_len, mR_len, mapDD]), leS_refl _, trivial⟩
      · cbv; exact ⟨elsEq_of (by rw [mR_app, hmr, ← enc_app]; rfl), trivial⟩
    · have ho := hg2' e3
      cbv
      subst ho
      refine ⟨(out', i'), ⟨by dsimp only; omega, by dsimp only; omega, hT'⟩, by dsimp only; omega, .le ?_ ?_ rfl⟩
      · cbv; exact ⟨leS_refl _, leS_refl _, leS_refl _, trivial⟩
      · cbv; exact ⟨elsEq_of rfl, trivial⟩
  obtain ⟨u, hu⟩ := get_some hlt'
  have hdr' := drop_of_get hu
  rw [hdr', hgc] at kT
  have cad := s138 (ratR q) u.c ((ratR_sz hq).mono (by omega)) ((hLs u (List.mem_of_getElem? hu)).mono (by decide))
  rw [q_ratR] at cad
  have hq2 : Fits (1 + 2^21 * (i' + 1)) (q + u.c.q) := (fits_add hq ((hLs u (List.mem_of_getElem? hu)).fits (by decide))).mono (by omega)
  have idx : ∀ {K : List PV → Prop}, K (mc u) → IdxOk 7 (fun _ => enc mc L) (fun _ => (i' : Int)) K := fun hK => idx_enc (l := L) i' rfl hlt' mc_flat mc_len (fun m' hm' => by rw [hu] at hm'; cases hm'; exact hK)
  have hne : ¬ u.row = m.row → i < i' := fun h => by
    rcases Nat.lt_or_ge i i' with g | g
    · exact g
    · have : i' = i := by omega
      rw [this, hm] at hu
      exact absurd (by rw [Option.some.inj hu]) h
  have kT1 : u.row = m.row → T = G m.row (q + u.c.q) (L.drop (i' + 1)) := fun h => by rw [kT, if_pos h]
  have kT2 : ¬ u.row = m.row → T = gfin m.row q (H (L.drop i')) := fun h => by rw [kT, if_neg h, hdr']
  clear kT
  cbv
  refine draw_of 13 (by cbv) ?_
  cbv
  refine br_yes (by rw [enc_len]; (try dsimp only [ncast] at *); omega) ?_
  cbv
  refine idx ?_
  cbv
  refine eqs_row ?_
  cbv
  refine cut_dec (fun e2 => ?_) (fun e2 => ?_)
  · have kT' := kT1 e2
    generalize hq' : q + u.c.q = q' at *
    generalize hR' : ratR q' = Q' at *
    generalize ratR q = Q at *
    cbv
    refine draw_of 7 (by cbv) ?_
    cbv
    refine idx ?_
    cbv
    refine callS_d (by repeat' first | exact trivial | exact leS_refl _ | exact leS_tt rfl | exact leS_ff rfl | exact leS_nil rfl | apply And.intro) (cad) rfl ?_
    cbv
    refine ⟨in64_of (by (try dsimp only [ncast] at *) <;> (try simp only [lm_length] at *) <;> omega) (by (try dsimp only [ncast] at *) <;> (try simp only [lm_length] at *) <;> omega), (i' + 1, q'), ⟨by dsimp only; omega, by dsimp only; omega, kT', hq2⟩, by dsimp only; omega, .le ?_ ?_ rfl⟩
    · cbv; exact ⟨leS_refl _, leS_refl _, leS_int (by (try dsimp only [ncast] at *) <;> (try simp only [lm_length] at *) <;> omega), leS_refl _, leS_refl _, trivial⟩
    · show leO _ [(7, .box (rwc m.row)), (8, .box [.bool (fun _ => (ratR q').neg), nat (ratR q').num, nat (ratR q').den]), (55, .arr 7 (fun _ => enc mc (mR out)))]
      rw [hR']
      cbv
      exact ⟨⟨leS_refl _, leS_refl _, leS_refl _, leS_refl _, trivial⟩, ⟨leS_refl _, leS_refl _, leS_refl _, trivial⟩, elsEq_of rfl, trivial⟩
  · have hTT := kT2 e2
    have hii := hne e2
    clear idx cad
    have hT' : M = gr out m.row q ++ H (L.drop i') := by rw [hI, hTT, gr_app]
    have hgl := gr_len out m.row q
    have csq := s86 (ratR q) (Nat.lt_of_le_of_lt (ratR_sz hq).n (by omega))
    rw [q_ratR] at csq
    have hg1' : 0 < sgnQ q → gr out m.row q = out ++ [(m.row, q)] := fun h => if_pos h
    have hg2' : ¬ 0 < sgnQ q → gr out m.row q = out := fun h => if_neg h
    have hmr : mR [(m.row, q)] = [⟨m.row, ratR q⟩] := rfl
    generalize gr out m.row q = out' at *
    generalize sgnQ q = sg at *
    generalize ratR q = Q at *
    cbv
    refine callS' rfl (by repeat' first | exact trivial | exact leS_refl _ | exact leS_tt rfl | exact leS_ff rfl | exact leS_nil rfl | apply And.intro) (csq) rfl ?_
    cbv
    refine cut_dec (fun e3 => ?_) (fun e3 => ?_)
    · have ho := hg1' e3
      cbv
      subst ho
      refine app_own tyMults rfl rfl rfl (by simp only [enc_len, mR_len]) rfl ⟨by simp [mapDD, mapD]⟩ (room_of (by simp only [enc_len, mR_len, mapDD, List.length_cons, List.length_nil]; omega) (by simp only [enc_len, mR_len, mapDD, List.length_cons, List.length_nil]; omega)) rfl ?_
      cbv
      refine ⟨(out ++ [(m.row, q)], i'), ⟨by dsimp only; omega, by dsimp only; omega, hT'⟩, by dsimp only; omega, ?_⟩
      refine .le ?_ ?_ rfl
      · cbv; exact ⟨leS_refl _, leS_osl rfl (by simp [enc_len, mR_len, mapDD]), leS_refl _, trivial⟩
      · cbv; exact ⟨elsEq_of (by rw [mR_app, hmr, ← enc_app]; rfl), trivial⟩
    · have ho := hg2' e3
      cbv
      subst ho
      refine ⟨(out', i'), ⟨by dsimp only; omega, by dsimp only; omega, hT'⟩, by dsimp only; omega, .le ?_ ?_ rfl⟩
      · cbv; exact ⟨leS_refl _, leS_refl _, leS_refl _, trivial⟩
      · cbv; exact ⟨elsEq_of rfl, trivial⟩
end Go.Proofs.YtbehbhicjmjdhaaGreat
