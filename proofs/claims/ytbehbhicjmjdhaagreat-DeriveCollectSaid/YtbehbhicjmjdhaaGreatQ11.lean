/- THE PURE MACHINE, part R: how it is used. * PLAIN LAWS, part A: rows of limbs as natural numbers. No program. -/
import Derived.Test.YtbehbhicjmjdhaaGreatQ10

namespace Go.Proofs.YtbehbhicjmjdhaaGreat
open Go
set_option linter.unusedVariables false

def bodyOf (f : Func) : Code := f.body.getD .skip

theorem sound_fn {f : FuncId} {fn : Func} (hf : Pg.funcs[f]? = some fn) (hb : fn.body.isSome = true) (hname : (fn.name == "runtime.NumGoroutine") = false) (hN : codeOk fn.ntmps (bodyOf fn) = true) {args : List PV} (hargs : nle args.length fn.ntmps = true)
    {kept eaten : List (Nat × Obj')} {r : PV} {kept' made : List (Nat × Obj')} (hnk : kept'.map Prod.fst = kept.map Prod.fst) (hwp : wp (bodyOf fn) ⟨argT 0 args, kept ++ eaten⟩ (postOf fn.results.toList r kept' made)) : Sound f args kept eaten r kept' made := by
  obtain ⟨c, hc⟩ := Option.isSome_iff_exists.1 hb
  have : bodyOf fn = c := by simp [bodyOf, hc]
  rw [this] at hN hwp
  exact sound_of hf hc hname hN hargs hnk hwp

/-- A call of the plain kind, nothing to be done ahead of it. -/
theorem callS' {g as_ dst ps K f caps args' r} (h1 : ev (lookT ps.tmps) g = .fn f caps) (h2 : allLe les (evs (ev (lookT ps.tmps)) as_ ++ caps) args') (h3 : SoundS f args' r) (h5 : nmIn [] r = true) (h4 : K (put ps dst r)) : CallOk g as_ dst ps K :=
  ⟨ps, .refl ps, f, caps, h1, .inl ⟨args', r, lesL_le h2, h3, h5, h4⟩⟩

/-- The results of a call that made nothing and was given nothing. -/
theorem ret0 {rs : List ResultVar} {r : PV} {ps : PS} {l : List PV} (h1 : resV ps rs = some l) (h2 : les (oneV l) (ren id r)) (h3 : lv r = true) : RetOk rs r [] [] ps :=
  ⟨ps, l, id, .refl ps, h1, les_le h2, h3, trivial, rfl, trivial⟩

/-- The results, read off by evaluation. -/
theorem retC {rs : List ResultVar} {r : PV} {ps : PS} (h3 : lv r = true) (h : match resV ps rs with
    | some l => les (oneV l) (ren id r)
    | none => False) : RetOk rs r [] [] ps := by
  cases h1 : resV ps rs with
  | none => rw [h1] at h; exact h.elim
  | some l => rw [h1] at h; exact ret0 h1 h h3

/-- The round of a loop, its ghost a number. -/
theorem loop_n {B : PS → (Exit → PS → Prop) → Prop} {ps : PS} {Q : Exit → PS → Prop} {σ : Type} (inv : σ → PS) (good : σ → Prop) (mu : σ → Nat) (s0 : σ) (h0 : good s0) (hw : Wk ps (inv s0))
    (hr : ∀ s, good s → B (inv s) (fun e ps' => match e with
      | .normal => ∃ s', good s' ∧ mu s' < mu s ∧ Wk ps' (inv s')
      | e => Q e ps')) : LoopOk B ps Q := ⟨⟨σ, inv, good, mu, s0, h0, hw, hr⟩⟩

/-- The results of a call behind steps without code. -/
theorem retW {rs : List ResultVar} {r : PV} {ps ps' : PS} {l : List PV} (hw : Wk ps ps') (h1 : resV ps' rs = some l) (h2 : les (oneV l) (ren id r)) (h3 : lv r = true) : RetOk rs r [] [] ps :=
  ⟨ps', l, id, hw, h1, les_le h2, h3, trivial, rfl, trivial⟩
theorem callW {g as_ dst ps ps' K f caps args' r} (hw : Wk ps ps') (h1 : ev (lookT ps'.tmps) g = .fn f caps) (h2 : allLe les (evs (ev (lookT ps'.tmps)) as_ ++ caps) args') (h3 : SoundS f args' r) (h5 : nmIn [] r = true) (h4 : K (put ps' dst r)) : CallOk g as_ dst ps K :=
  ⟨ps', hw, f, caps, h1, .inl ⟨args', r, lesL_le h2, h3, h5, h4⟩⟩
theorem app_nil {t base x d ps K n b z xs} (ht : ty t = .sli n b z) (hb : ev (lookT ps.tmps) base = .nil) (hx : ev (lookT ps.tmps) x = .sl xs) (hw : Wid n xs) (hr : Room (fun _ => ((xs ()).length : Nat)) b) (hf : freeOf d ps = true)
    (hK : K ⟨putT ps.tmps d (.osl d n (fun _ => 0) (fun _ => (xs ()).length)), ps.objs ++ [(d, .arr n xs)]⟩) : AppOk t base x (some d) ps K :=
  ⟨ps, d, n, b, z, xs, .refl ps, rfl, ht, .inl hx, hw, .inl ⟨hb, hr, hf, hK⟩⟩
theorem app_own {t base x d ps K n b z xs} (ht : ty t = .sli n b z) {m o len els} (hb : ev (lookT ps.tmps) base = .osl m n o len) (ho : getO ps.objs m = some (.arr n els)) (ho0 : o () = 0) (hl : len () = (els ()).length) (hx : ev (lookT ps.tmps) x = .sl xs) (hw : Wid n xs)
    (hr : Room (fun _ => (((els ()).length + (xs ()).length : Nat) : Int)) b) (hf : freeOf d ⟨mapT (scr m) ps.tmps, mapO (scr m) (delO ps.objs m)⟩ = true)
    (hK : K ⟨putT (mapT (scr m) ps.tmps) d (.osl d n (fun _ => 0) (fun _ => (els ()).length + (xs ()).length)), mapO (scr m) (delO ps.objs m) ++ [(d, .arr n (fun _ => els () ++ xs ()))]⟩) : AppOk t base x (some d) ps K :=
  ⟨ps, d, n, b, z, xs, .refl ps, rfl, ht, .inl hx, hw, .inr ⟨m, o, len, els, hb, ho, ho0, hl, hr, hf, hK⟩⟩
theorem frok_of {i len : Nat} {els : List (List D)} (h : i + len ≤ els.length) : FrOk (fun _ => i) (fun _ => len) (fun _ => els) := ⟨h⟩

theorem draw_of {ops : List Oper} {ps : PS} {K : PS → Prop} (k : Nat) (hd : drawOk ops k = true) (h : sopsWp ops (ops.take k) ps (fun ps'' => opsWp ops (ops.drop k) ps'' K)) : DrawK ops ps K := ⟨.inl ⟨k, ps, .refl ps, hd, h⟩⟩
/-- With makers. -/
theorem draw_mk {ops : List Oper} {ps : PS} {K : PS → Prop} (k : Nat) (hd : drawOk ops k = true) (hm : (ndO (makersOf (ops.take k)) && mkIn ps (makersOf (ops.take k))) = true)
    (h : msopsWp ops (ops.take k) ps (fun ps'' => mkFin ps''.tmps (makersOf (ops.take k)) = true ∧ opsWp ops (ops.drop k) ⟨ps''.tmps, ps''.objs ++ makersOf (ops.take k)⟩ K)) : DrawK ops ps K := ⟨.inr (.inl ⟨k, ps, .refl ps, hd, hm, h⟩)⟩
/-- With one store among them. -/
theorem draw_st {ops : List Oper} {ps : PS} {K : PS → Prop} (k i0 : Nat) (hd : drawOk ops k = true) (hm : strOk ops k i0 = true) (h : strWp ops k i0 ps K) : DrawK ops ps K := ⟨.inr (.inr ⟨k, i0, ps, .refl ps, hd, hm, h⟩)⟩

/-! ### Numbers of a kind -/

theorem nx_u32 (z : Int) : nx .u32 z = z % 4294967296 := by unfold nx; simp [IntKind.wrap, IntKind.signed, IntKind.bits]
theorem nx_u64 (z : Int) : nx .u64 z = z % 18446744073709551616 := by unfold nx; simp [IntKind.wrap, IntKind.signed, IntKind.bits]

/-! ### The stops -/

/-- 'cbv' leaves casts in this form. -/
theorem ncast (n : Nat) : @NatCast.natCast Int instNatCastInt n = ((n : Nat) : Int) := rfl


theorem br_dec {p : Prop} [Decidable p] {A B : Unit → Prop} (h1 : p → A ()) (h2 : ¬ p → B ()) : Br (fun _ => decide p) A B := ⟨fun h => h1 (of_decide_eq_true h), fun h => h2 (of_decide_eq_false h)⟩
theorem br_bool {b : Bool} {A B : Unit → Prop} (h1 : b = true → A ()) (h2 : b = false → B ()) : Br (fun _ => b) A B := ⟨h1, h2⟩
theorem cut_dec {p : Prop} [Decidable p] {A B : (Exit → PS → Prop) → Prop} {Q : Exit → PS → Prop} (h1 : p → A Q) (h2 : ¬ p → B Q) : Cut (fun _ => decide p) A B Q := ⟨.inl ⟨fun h => h1 (of_decide_eq_true h), fun h => h2 (of_decide_eq_false h)⟩⟩
theorem cut_bool {b : Bool} {A B : (Exit → PS → Prop) → Prop} {Q : Exit → PS → Prop} (h1 : b = true → A Q) (h2 : b = false → B Q) : Cut (fun _ => b) A B Q := ⟨.inl ⟨h1, h2⟩⟩
/-- The two arms meet. -/
theorem cut_meet {p : Prop} [Decidable p] {A B : (Exit → PS → Prop) → Prop} {Q : Exit → PS → Prop} {σ : Type} (inv : σ → PS) (good : σ → Prop)
    (h1 : p → A (meetQ inv good Q)) (h2 : ¬ p → B (meetQ inv good Q)) (h3 : ∀ s, good s → Q .normal (inv s)) : Cut (fun _ => decide p) A B Q :=
  ⟨.inr ⟨σ, inv, good, fun h => h1 (of_decide_eq_true h), fun h => h2 (of_decide_eq_false h), h3⟩⟩
theorem cut_meetb {b : Bool} {A B : (Exit → PS → Prop) → Prop} {Q : Exit → PS → Prop} {σ : Type} (inv : σ → PS) (good : σ → Prop)
    (h1 : b = true → A (meetQ inv good Q)) (h2 : b = false → B (meetQ inv good Q)) (h3 : ∀ s, good s → Q .normal (inv s)) : Cut (fun _ => b) A B Q :=
  ⟨.inr ⟨σ, inv, good, h1, h2, h3⟩⟩
theorem in64_of {z : Int} (h1 : -9223372036854775808 ≤ z) (h2 : z ≤ 9223372036854775807) : InI64 (fun _ => z) := ⟨h1, h2⟩
theorem nn_of {z : Int} (h : 0 ≤ z) : Nn (fun _ => z) := ⟨h⟩
theorem nz_of {z : Int} (h : z ≠ 0) : Nz (fun _ => z) := ⟨h⟩
theorem rng_of {k : Int} {n : Nat} (h1 : 0 ≤ k) (h2 : k < (n : Int)) : Rng (fun _ => k) (fun _ => n) := ⟨h1, h2⟩
theorem slok_of {l h : Int} {n : Nat} (h1 : 0 ≤ l) (h2 : l ≤ h) (h3 : h ≤ (n : Int)) : SlOk (fun _ => l) (fun _ => h) (fun _ => n) := ⟨h1, h2, h3⟩
theorem slne_of {l h : Int} (h1 : l < h) : SlNe (fun _ => l) (fun _ => h) := ⟨h1⟩
theorem room_of {n : Int} {b : Nat} (h1 : 0 ≤ n) (h2 : n * (b : Int) ≤ 70368744177664) : Room (fun _ => n) b := ⟨h1, h2⟩
theorem mkok_of {x y : Int} (h1 : 0 ≤ x) (h2 : x ≤ y) : MkOk (fun _ => x) (fun _ => y) := ⟨h1, h2⟩
theorem idx_of {n : Nat} {els : List (List D)} {k : Int} {K : List PV → Prop} (j : Nat) (hk : k = (j : Int)) (c : List PV) (hf : allL flat c = true) (hn : c.length = n) (he : els[j]? = some (mapD c)) (hK : K c) : IdxOk n (fun _ => els) (fun _ => k) K :=
  ⟨⟨by simp only [hk]; omega, c, hf, hn, by simp only [hk, Int.toNat_natCast]; exact he, hK⟩⟩
theorem el_of {n : Nat} {els : List (List D)} {i : Nat} {K : List PV → Prop} (j : Nat) (hk : i = j) (c : List PV) (hf : allL flat c = true) (hn : c.length = n) (he : els[j]? = some (mapD c)) (hK : K c) : ElOk n (fun _ => els) (fun _ => i) K :=
  ⟨⟨c, hf, hn, by simp only [hk]; exact he, hK⟩⟩

theorem leS_refl (a : PV) : LeS a a := ⟨Le.refl a⟩
theorem leS_any (a : PV) : LeS a .any := ⟨by cases a <;> simp [Le]⟩
theorem leS_int {k : IntKind} {a b : Int} (h : a = b) : LeS (.int k (fun _ => a)) (.int k (fun _ => b)) := ⟨by simp [Le, h]⟩
theorem leS_sl {a b : List (List D)} (h : a = b) : LeS (.sl (fun _ => a)) (.sl (fun _ => b)) := ⟨by simp [Le, h]⟩
theorem leS_nil {b : List (List D)} (h : b = []) : LeS .nil (.sl (fun _ => b)) := ⟨by simp [Le, h]⟩
theorem leS_osl {n m o o' l l' : Nat} (h : o = o') (h2 : l = l') : LeS (.osl n m (fun _ => o) (fun _ => l)) (.osl n m (fun _ => o') (fun _ => l')) := ⟨by simp [Le, h, h2]⟩
theorem elsEq_of {a b : List (List D)} (h : a = b) : ElsEq (fun _ => a) (fun _ => b) := ⟨h⟩
theorem leS_bool {a b : Bool} (h : a = b) : LeS (.bool (fun _ => a)) (.bool (fun _ => b)) := ⟨by simp [Le, h]⟩
theorem leS_nbool {a b : Bool} (h : b = !a) : LeS (.nbool (fun _ => a)) (.bool (fun _ => b)) := ⟨by simp [Le, h]⟩
theorem leS_tt {b : Bool} (h : b = true) : LeS .tt (.bool (fun _ => b)) := ⟨by simp [Le, h]⟩
theorem leS_ff {b : Bool} (h : b = false) : LeS .ff (.bool (fun _ => b)) := ⟨by simp [Le, h]⟩

/-! ### Rows of limbs -/

def lm (l : List UInt32) : List (List D) := l.map fun x => [.int .u32 x.toNat]
abbrev nat (l : List UInt32) : PV := .sl (fun _ => lm l)
theorem lm_length (l : List UInt32) : (lm l).length = l.length := by simp [lm]
theorem lm_wid (l : List UInt32) : Wid 1 (fun _ => lm l) := ⟨fun e he => by simp only [lm, List.mem_map] at he; obtain ⟨x, _, rfl⟩ := he; rfl⟩
theorem lm_get {l : List UInt32} {j : Nat} (hj : j < l.length) : (lm l)[j]? = some [.int .u32 ((l.getD j 0).toNat : Int)] := by
  simp [lm, hj]
theorem idx_lm {l : List UInt32} {k : Int} {K : List PV → Prop} (j : Nat) (hk : k = (j : Int)) (hj : j < l.length) (hK : K [.int .u32 (fun _ => ((l.getD j 0).toNat : Int))]) : IdxOk 1 (fun _ => lm l) (fun _ => k) K :=
  idx_of j hk [.int .u32 (fun _ => ((l.getD j 0).toNat : Int))] rfl rfl (lm_get hj) hK
theorem el_lm {l : List UInt32} {i : Nat} {K : List PV → Prop} (j : Nat) (hk : i = j) (hj : j < l.length) (hK : K [.int .u32 (fun _ => ((l.getD j 0).toNat : Int))]) : ElOk 1 (fun _ => lm l) (fun _ => i) K :=
  el_of j hk [.int .u32 (fun _ => ((l.getD j 0).toNat : Int))] rfl rfl (lm_get hj) hK
theorem lm_take (l : List UInt32) (n : Nat) : (lm l).take n = lm (l.take n) := by simp [lm, List.map_take]
theorem lm_drop (l : List UInt32) (n : Nat) : (lm l).drop n = lm (l.drop n) := by simp [lm, List.map_drop]
theorem lm_append (l m : List UInt32) : lm l ++ lm m = lm (l ++ m) := by simp [lm]

end Go.Proofs.YtbehbhicjmjdhaaGreat

namespace Go.Proofs.YtbehbhicjmjdhaaGreat

def B : Nat := 4294967296
theorem B_pos : 0 < B := by decide
theorem u32_lt (x : UInt32) : x.toNat < B := x.toNat_lt

/-- What a row of limbs is worth, the lowest first. -/
def val : List UInt32 → Nat
  | [] => 0
  | x :: r => x.toNat + B * val r

/-- The canonical row of a number. -/
def limbs (n : Nat) : List UInt32 :=
  if h : n = 0 then [] else UInt32.ofNat (n % B) :: limbs (n / B)
termination_by n
decreasing_by exact Nat.div_lt_self (by omega) (by decide)

theorem limbs_zero : limbs 0 = [] := by rw [limbs]; simp
theorem limbs_pos {n : Nat} (h : n ≠ 0) : limbs n = UInt32.ofNat (n % B) :: limbs (n / B) := by rw [limbs]; simp [h]
theorem ofNat_mod (n : Nat) : (UInt32.ofNat (n % B)).toNat = n % B := by
  rw [UInt32.toNat_ofNat']
  exact Nat.mod_eq_of_lt (Nat.mod_lt _ B_pos)

theorem val_limbs (n : Nat) : val (limbs n) = n := by
  induction n using Nat.strongRecOn with
  | _ n ih =>
    by_cases h : n = 0
    · subst h; rw [limbs_zero]; rfl
    · rw [limbs_pos h, val, ofNat_mod, ih (n / B) (Nat.div_lt_self (by omega) (by decide))]
      exact Nat.mod_add_div n B

theorem val_append : ∀ (a b : List UInt32), val (a ++ b) = val a + B ^ a.length * val b
  | [], b => by simp [val]
  | x :: a, b => by
    simp only [List.cons_append, val, List.length_cons, val_append a b]
    rw [Nat.mul_add, Nat.pow_succ, ← Nat.mul_assoc, Nat.mul_comm B (B ^ a.length)]
    omega

theorem val_lt : ∀ (l : List UInt32), val l < B ^ l.length
  | [] => by simp [val]
  | x :: r => by
    have h1 := val_lt r
    have h2 := u32_lt x
    have h3 : B * (val r + 1) ≤ B * B ^ r.length := Nat.mul_le_mul_left _ h1
    simp only [val, List.length_cons, Nat.pow_succ]
    rw [Nat.mul_comm (B ^ r.length) B]
    rw [Nat.mul_add] at h3
    omega

/-- No limb 0 at the end. -/
def canon : List UInt32 → Bool
  | [] => true
  | [x] => x != 0
  | _ :: y :: r => canon (y :: r)

theorem canon_cons (x : UInt32) {r : List UInt32} (h : r ≠ []) : canon (x :: r) = canon r := by
  cases r with
  | nil => exact absurd rfl h
  | cons y r => rfl

theorem val_pos : ∀ {l : List UInt32}, canon l = true → l ≠ [] → 0 < val l
  | [], _, h => absurd rfl h
  | [x], h, _ => by
    have h1 : x ≠ 0 := by simpa [canon] using h
    have : x.toNat ≠ 0 := fun e => h1 (UInt32.toNat_inj.1 e)
    simp only [val]; omega
  | x :: y :: r, h, _ => by
    have h1 := val_pos (l := y :: r) h (by simp)
    have : B * 1 ≤ B * val (y :: r) := Nat.mul_le_mul_left _ h1
    have h2 : (0 : Nat) < B := B_pos
    show 0 < x.toNat + B * val (y :: r)
    omega

theorem limbs_val : ∀ {l : List UInt32}, canon l = true → limbs (val l) = l
  | [], _ => by simp [val, limbs_zero]
  | x :: r, h => by
    have hp := val_pos h (by simp)
    rw [limbs_pos (by omega)]
    have hx := u32_lt x
    have h1 : val (x :: r) % B = x.toNat := by
      simp only [val]
      rw [Nat.add_mul_mod_self_left, Nat.mod_eq_of_lt hx]
    have h2 : val (x :: r) / B = val r := by
      simp only [val]
      rw [Nat.add_mul_div_left _ _ B_pos, Nat.div_eq_of_lt hx]
      omega
    rw [h1, h2]
    have hr : canon r = true := by
      cases r with
      | nil => rfl
      | cons y r => exact h
    rw [limbs_val hr]
    congr 1
    exact UInt32.toNat_inj.1 (by rw [UInt32.toNat_ofNat']; exact Nat.mod_eq_of_lt hx)

theorem canon_limbs (n : Nat) : canon (limbs n) = true := by
  induction n using Nat.strongRecOn with
  | _ n ih =>
    by_cases h : n = 0
    · subst h; rw [limbs_zero]; rfl
    · rw [limbs_pos h]
      by_cases h2 : n / B = 0
      · rw [h2, limbs_zero]
        have hlt : n < B := (Nat.div_eq_zero_iff_lt B_pos).1 h2
        have : (UInt32.ofNat (n % B)).toNat ≠ 0 := by rw [ofNat_mod, Nat.mod_eq_of_lt hlt]; exact h
        simp only [canon, bne_iff_ne, ne_eq]
        exact fun e => this (by rw [e]; rfl)
      · rw [canon_cons _ (by rw [limbs_pos h2]; simp)]
        exact ih _ (Nat.div_lt_self (by omega) (by decide))

theorem canon_snoc (l : List UInt32) (x : UInt32) : canon (l ++ [x]) = (x != 0) := by
  induction l with
  | nil => rfl
  | cons y l ih => rw [List.cons_append, canon_cons _ (by simp), ih]

theorem val_snoc0 (l : List UInt32) : val (l ++ [0]) = val l := by rw [val_append]; simp [val]

/-- Two rows of one length that are worth the same are the same. -/
theorem val_inj : ∀ {a b : List UInt32}, a.length = b.length → val a = val b → a = b
  | [], [], _, _ => rfl
  | x :: a, y :: b, hl, hv => by
    simp only [val] at hv
    have hx := u32_lt x; have hy := u32_lt y
    have h1 : x.toNat = y.toNat := by
      have := congrArg (· % B) hv
      simp only [Nat.add_mul_mod_self_left, Nat.mod_eq_of_lt hx, Nat.mod_eq_of_lt hy] at this
      exact this
    have h2 : val a = val b := by
      rw [h1] at hv
      exact Nat.eq_of_mul_eq_mul_left B_pos (Nat.add_left_cancel hv)
    rw [UInt32.toNat_inj.1 h1, val_inj (by simpa using hl) h2]
  | [], y :: b, hl, _ => by simp at hl
  | x :: a, [], hl, _ => by simp at hl

theorem limbs_length_le {n k : Nat} (h : n < B ^ k) : (limbs n).length ≤ k := by
  induction k generalizing n with
  | zero =>
    have : n = 0 := by simpa using h
    subst this
    rw [limbs_zero]
    simp
  | succ k ih =>
    by_cases h0 : n = 0
    · subst h0; rw [limbs_zero]; simp
    · rw [limbs_pos h0, List.length_cons]
      have : n / B < B ^ k := by
        rw [Nat.div_lt_iff_lt_mul B_pos]
        rw [Nat.pow_succ] at h
        exact h
      have := ih this
      omega
theorem limbs_length_le' (l : List UInt32) : (limbs (val l)).length ≤ l.length := limbs_length_le (val_lt l)

theorem limbs_length_gt {n k : Nat} (h : B ^ k ≤ n) : k < (limbs n).length := by
  rcases Nat.lt_or_ge k (limbs n).length with h' | h'
  · exact h'
  · have h1 := val_lt (limbs n)
    rw [val_limbs] at h1
    have : B ^ (limbs n).length ≤ B ^ k := Nat.pow_le_pow_right B_pos h'
    omega

theorem limbs_eq_nil {n : Nat} : limbs n = [] ↔ n = 0 := by
  constructor
  · intro h
    have := val_limbs n
    rw [h] at this
    exact this.symm
  · intro h; subst h; exact limbs_zero

theorem take_snoc (l : List UInt32) {n : Nat} (h : n < l.length) : l.take (n + 1) = l.take n ++ [l.getD n 0] := by
  rw [List.take_add_one]
  simp [h]

theorem val_split (l : List UInt32) {m : Nat} (h : m < l.length) : val l = val (l.take m) + B ^ m * ((l.getD m 0).toNat + B * val (l.drop (m + 1))) := by
  have e : l = l.take m ++ (l.getD m 0 :: l.drop (m + 1)) := by
    have : l.drop m = l.getD m 0 :: l.drop (m + 1) := by
      rw [List.drop_eq_getElem_cons h]
      simp [h]
    rw [← this, List.take_append_drop]
  have hl : (l.take m).length = m := by simp; omega
  calc val l = val (l.take m ++ (l.getD m 0 :: l.drop (m + 1))) := by rw [← e]
    _ = _ := by rw [val_append, hl]; rfl

theorem val_take_lt (l : List UInt32) (m : Nat) : val (l.take m) < B ^ m := by
  have h1 := val_lt (l.take m)
  have h2 : (l.take m).length ≤ m := by simp; omega
  exact Nat.lt_of_lt_of_le h1 (Nat.pow_le_pow_right B_pos h2)

theorem cmp_at {a b : List UInt32} {m : Nat} (ha : m < a.length) (hb : m < b.length) (hd : a.drop (m + 1) = b.drop (m + 1)) (h : (a.getD m 0).toNat < (b.getD m 0).toNat) : val a < val b := by
  rw [val_split a ha, val_split b hb, hd]
  have h1 := val_take_lt a m
  have h2 : (a.getD m 0).toNat + 1 + B * val (b.drop (m + 1)) ≤ (b.getD m 0).toNat + B * val (b.drop (m + 1)) := by omega
  have h3 := Nat.mul_le_mul_left (B ^ m) h2
  have h4 : B ^ m * ((a.getD m 0).toNat + 1 + B * val (b.drop (m + 1))) = B ^ m * ((a.getD m 0).toNat + B * val (b.drop (m + 1))) + B ^ m := by
    rw [Nat.add_right_comm, Nat.mul_add (B ^ m) _ 1, Nat.mul_one]
  omega

theorem cmp_len {n m : Nat} (h : (limbs n).length < (limbs m).length) : n < m := by
  have h1 := val_lt (limbs n)
  rw [val_limbs] at h1
  rcases Nat.lt_or_ge n m with h' | h'
  · exact h'
  · have h2 := limbs_length_le (Nat.lt_of_le_of_lt h' h1)
    omega

def cmpI (a b : Nat) : Int := if a < b then -1 else if b < a then 1 else 0
theorem cmpI_lt {a b : Nat} (h : a < b) : cmpI a b = -1 := by simp [cmpI, h]
theorem cmpI_gt {a b : Nat} (h : b < a) : cmpI a b = 1 := by simp [cmpI, h, Nat.not_lt.2 (Nat.le_of_lt h)]
theorem cmpI_eq (a : Nat) : cmpI a a = 0 := by simp [cmpI]

theorem val_snoc (l : List UInt32) (x : UInt32) : val (l ++ [x]) = val l + B ^ l.length * x.toNat := by rw [val_append]; simp [val]
theorem val_take_succ (l : List UInt32) {n : Nat} (h : n < l.length) : val (l.take (n + 1)) = val (l.take n) + B ^ n * (l.getD n 0).toNat := by
  rw [take_snoc l h, val_snoc]
  congr 3
  simp; omega
theorem val_take_getD (l : List UInt32) (n : Nat) : val (l.take (n + 1)) = val (l.take n) + B ^ n * (l.getD n 0).toNat := by
  rcases Nat.lt_or_ge n l.length with h | h
  · exact val_take_succ l h
  · rw [List.take_of_length_le (by omega), List.take_of_length_le h]
    simp [List.getElem?_eq_none h]
theorem val_set_take (l : List UInt32) {n : Nat} (h : n < l.length) (x : UInt32) : val ((l.set n x).take (n + 1)) = val (l.take n) + B ^ n * x.toNat := by
  rw [val_take_succ _ (by simpa using h)]
  congr 2
  · rw [List.take_set_of_le (Nat.le_refl _)]
  · simp [h]
theorem u32_mod (n : Nat) : (UInt32.ofNat n).toNat = n % B := by rw [UInt32.toNat_ofNat']; rfl

theorem val_set (l : List UInt32) {j : Nat} (h : j < l.length) (x : UInt32) : val (l.set j x) + B ^ j * (l.getD j 0).toNat = val l + B ^ j * x.toNat := by
  have hs : j < (l.set j x).length := by simpa using h
  rw [val_split l h, val_split (l.set j x) hs]
  have e1 : (l.set j x).take j = l.take j := List.take_set_of_le (Nat.le_refl _)
  have e2 : (l.set j x).drop (j + 1) = l.drop (j + 1) := by rw [List.drop_set_of_lt (by omega)]
  have e3 : (l.set j x).getD j 0 = x := by simp [h]
  rw [e1, e2, e3, Nat.mul_add, Nat.mul_add]
  omega
theorem val_zeros (n : Nat) : val (List.replicate n 0) = 0 := by
  induction n with
  | zero => rfl
  | succ n ih => simp [List.replicate_succ, val, ih]
theorem getD_set_u (l : List UInt32) (j k : Nat) (x : UInt32) (h : j ≠ k) : (l.set j x).getD k 0 = l.getD k 0 := by
  simp [List.getElem?_set_ne h]

end Go.Proofs.YtbehbhicjmjdhaaGreat
