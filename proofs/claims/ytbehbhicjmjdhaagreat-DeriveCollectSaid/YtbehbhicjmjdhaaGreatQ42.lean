/- PROVED HERE: relucertlaw22.DeriveCollect returns true for every input, and its argument reads behind the call as it read before (the given statement DeriveCollectSaid). -/
import Derived.Test.YtbehbhicjmjdhaaGreatQ40
import Derived.Test.YtbehbhicjmjdhaaGreatQ41
import Derived.WalkKit

namespace Go.Proofs.YtbehbhicjmjdhaaGreat
open Go Go.ChangeShapes Go.WideShapes Go.ChangeAt Go.RowKit
set_option linter.unusedVariables false
set_option maxRecDepth 100000

theorem colContract (H : Type) (enc : TypeId × Value → H) (W : World) (base : Nat) (args : Array Value) (ds gs : List (DataW H)) (before : List MemPlace)
    (hval : ∀ (j : Nat) t v, Tryz.f3.params[j]? = some t → args[j]? = some v → Value.okWide Tryz.prog W .any base t v)
    (hW : DataW.Whole enc Tryz.prog Tryz.f3.params.toList Rows.deriveCollectSpec.vars false W args.toList ds gs before) :
    Calls Tryz.prog 3 args W fun e W' => ∃ v, e = .returned v ∧ Rows.deriveCollectSpec.post enc Tryz.prog Tryz.f3 false true false false W args v W' := by
  have hW' := hW
  obtain ⟨p, q, hA0, hV, rfl, hfz, hnd⟩ := hW
  have hA : DataW.TrodAll enc Tryz.prog W 0 (fun _ => true) true Tryz.f3.params.toList args.toList ds p := hA0
  rw [Tryz.params3] at hA hval
  obtain ⟨v0, vs0, d0, ds0, p0, q0, hargs, rfl, rfl, h0, r0⟩ := trodAll_cons hA
  obtain ⟨rfl, rfl, rfl⟩ := trodAll_nil r0
  obtain rfl : args = #[v0] := by cases args; simp_all
  obtain ⟨n, hn⟩ := h0
  have hok := hval 0 _ v0 rfl rfl
  have h1 : v0.cells.toList = [v0] := by
    cases v0 <;> first | rfl | exact absurd hok (by simp [Value.okWide, Tryz.underlying22, Cell.okWide, Cell.ok])
  rw [h1] at hn
  obtain ⟨l, hl, hc⟩ := (rMults W).rd hn
  refine law_post rfl (by kernel_rfl) rfl (by rw [Tryz.params3]; decide) hW' (sLwCol l hl) rfl (fun j hj => ?_)
  match j, hj with
  | 0, _ => exact .c rfl hc.1.1

theorem colLifted (os : Os) (started : os.Started) (H : Type) (enc : TypeId × Value → H) :
    ReturnsInHanded {} Tryz.checked os 3 .any (Rows.deriveCollectSpec.pre6 enc Tryz.prog Tryz.f3 Rows.deriveCollectRow.domain false) (Rows.deriveCollectSpec.post enc Tryz.prog Tryz.f3 false true false false) := by
  refine returnsInHanded_of_change (C := Tryz.checked) (s := Rows.deriveCollectSpec) own started (by kernel_rfl) Tryz.func3
    (ChangeSpec.witness6 (enc := enc) (C := Tryz.checked) (s := Rows.deriveCollectSpec) false ⟨#[], #[.slice none 0 0], []⟩ 8 (by kernel_rfl) (by kernel_rfl) (by kernel_rfl) (by kernel_rfl)) ?_
  intro W base args ds gs before hval hW _ _
  exact colContract H enc W base args ds gs before hval hW
theorem colOver : Rows.deriveCollectRow.holds Tryz.pinned (OpenSpec.ofChange Rows.deriveCollectSpec) :=
  OpenClaim.holds_of_wide 3 Tryz.f3 rfl rfl rfl rfl rfl rfl rfl ⟨rfl, rfl, rfl, rfl, rfl⟩ rfl rfl rfl rfl rfl (by kernel_rfl) Tryz.func3 (by kernel_rfl)
    (of_decide_eq_true (by kernel_rfl)) (by unfold Func.isWrapper; first | (rw [if_pos (by decide +kernel)]; kernel_rfl) | (rw [if_neg (by decide +kernel)]; exact ⟨rfl, rfl⟩))
    (fun os started H enc _ => colLifted os started H enc)
/-- 'relucertlaw22.DeriveCollect': whatever the input: true; the input reads as it did. -/
theorem deriveCollect : Rows.DeriveCollectSaid := colOver
end Go.Proofs.YtbehbhicjmjdhaaGreat
