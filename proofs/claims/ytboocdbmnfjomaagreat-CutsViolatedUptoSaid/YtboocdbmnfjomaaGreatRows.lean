/-
  No cell of these rows narrows 'for every input' (looked for: loops, veiled, ifaces, maps, wideKeys, modest, calm, conditions, laid).
  DERIVED. THE GIVEN ROWS OF THIS SEAT. 3 by the template 'for every input the law returns true; each argument reads behind the call as it read before'; 0 by the template 'total and deterministic' (their statements: YtboocdbmnfjomaaGreatTotals.lean).
  GIVEN WITH THE SEED: the statements are not yours to turn. If you find one false, say at which input.
  Laid BY PROGRAM, IN A SANDBOX (cutbox-rows.mjs): the forced cells as the released guide's own fill.sh prints them over the translation 1536b7ee960dc5d7… (all of the seat's roots in one cut). By AI agents, Wed Nov 11 2026. No macro, syntax, notation, axiom, sorry.
-/
import Derived.Test.YtboocdbmnfjomaaGreatChecked
import GoSem.Claim
import GoSem.ClaimJoined
import GoSem.ClaimMapViews
import Derived.JoinedTies
import Derived.KernelRfl
namespace Go.Proofs.YtboocdbmnfjomaaGreat
/- THE CELL 'sum', in the pinned program and in every row, IS THE sha256 OF THE DUMP (.gsa) THAT YtboocdbmnfjomaaGreatProg.lean LOADS. Nothing in Lean hashes anything: it is a label: what it is worth is what the hold of that sum in a sandbox is worth. -/
noncomputable def Tryz.pinned : Pinned := { name := "ytboocdbmnfjomaagreat", sum := "1536b7ee960dc5d75408df6af6dd494e104177fa14156297b07c56b6d2ad2891", checked := Tryz.checked }
namespace Rows
def none {H : Type} : Left H := { results := [], args := [] }

/-- 'relucertlaw32.CutsProgram': WHATEVER THE INPUT: true; the input reads as it did. -/
def cutsProgramSpec : ChangeSpec := { name := "cutsProgram", fn := fun _ => fun
  | [d1, d2, d3] => { results := [.lit (.bool true)], args := [d1, d2, d3] }
  | _ => none }
def cutsProgramRow : OpenClaim := { program := "ytboocdbmnfjomaagreat", sum := "1536b7ee960dc5d75408df6af6dd494e104177fa14156297b07c56b6d2ad2891", func := "relucert/relucertlaw32.CutsProgram", spec := "cutsProgram", inPlace := ["slices.overlaps[relucert/api.Rat]"], unfollowed := true, recurses := true, apart := false }
def CutsProgramSaid : Prop := cutsProgramRow.holds Tryz.pinned (OpenSpec.ofChange cutsProgramSpec)

/-- ITS FALSE NEIGHBOUR: 'it returns false'. Refute it at one input. -/
def cutsProgramWrong : ChangeSpec := { name := "cutsProgram", fn := fun _ => fun
  | [d1, d2, d3] => { results := [.lit (.bool false)], args := [d1, d2, d3] }
  | _ => none }
def CutsProgramWrongFalsely : Prop := cutsProgramRow.holds Tryz.pinned (OpenSpec.ofChange cutsProgramWrong)

/-- 'relucertlaw32.CutsViolated': WHATEVER THE INPUT: true; the input reads as it did. -/
def cutsViolatedSpec : ChangeSpec := { name := "cutsViolated", fn := fun _ => fun
  | [d1, d2, d3] => { results := [.lit (.bool true)], args := [d1, d2, d3] }
  | _ => none }
def cutsViolatedRow : OpenClaim := { program := "ytboocdbmnfjomaagreat", sum := "1536b7ee960dc5d75408df6af6dd494e104177fa14156297b07c56b6d2ad2891", func := "relucert/relucertlaw32.CutsViolated", spec := "cutsViolated", inPlace := ["slices.overlaps[relucert/api.Rat]"], unfollowed := true, recurses := true, apart := false }
def CutsViolatedSaid : Prop := cutsViolatedRow.holds Tryz.pinned (OpenSpec.ofChange cutsViolatedSpec)

/-- ITS FALSE NEIGHBOUR: 'it returns false'. Refute it at one input. -/
def cutsViolatedWrong : ChangeSpec := { name := "cutsViolated", fn := fun _ => fun
  | [d1, d2, d3] => { results := [.lit (.bool false)], args := [d1, d2, d3] }
  | _ => none }
def CutsViolatedWrongFalsely : Prop := cutsViolatedRow.holds Tryz.pinned (OpenSpec.ofChange cutsViolatedWrong)

/-- 'relucertlaw32.CutsContainsInputs': WHATEVER THE INPUT: true; the input reads as it did. -/
def cutsContainsInputsSpec : ChangeSpec := { name := "cutsContainsInputs", fn := fun _ => fun
  | [d1, d2] => { results := [.lit (.bool true)], args := [d1, d2] }
  | _ => none }
def cutsContainsInputsRow : OpenClaim := { program := "ytboocdbmnfjomaagreat", sum := "1536b7ee960dc5d75408df6af6dd494e104177fa14156297b07c56b6d2ad2891", func := "relucert/relucertlaw32.CutsContainsInputs", spec := "cutsContainsInputs", inPlace := ["slices.overlaps[relucert/api.Rat]"], unfollowed := true, recurses := true, apart := false }
def CutsContainsInputsSaid : Prop := cutsContainsInputsRow.holds Tryz.pinned (OpenSpec.ofChange cutsContainsInputsSpec)

/-- ITS FALSE NEIGHBOUR: 'it returns false'. Refute it at one input. -/
def cutsContainsInputsWrong : ChangeSpec := { name := "cutsContainsInputs", fn := fun _ => fun
  | [d1, d2] => { results := [.lit (.bool false)], args := [d1, d2] }
  | _ => none }
def CutsContainsInputsWrongFalsely : Prop := cutsContainsInputsRow.holds Tryz.pinned (OpenSpec.ofChange cutsContainsInputsWrong)

/- THE SECOND FORM. 'bulk': how many values and letters a reading holds, each counted each time it is reached (what is shared counts as often as it is met; a slice's spare places count too). A statement '..UptoSaid' is the law's where the arguments, and the package variables that the reading takes, are together of bulk at most 1048576: NARROWER than '..Said'. Prove '..Said' where nothing that the law and all that it calls make is longer than what came in: it says more and counts as full. Else prove '..UptoSaid'. A law counts once. -/
mutual
def uptoBulk {H : Type} : DataW H → Nat
  | .lit (.string bytes) => bytes.length + 1
  | .lit _ => 1
  | .nil => 1
  | .ptr d => uptoBulk d + 1
  | .slice elems spare => uptoBulkAll elems + uptoBulkAll spare + 1
  | .agg parts => uptoBulkAll parts + 1
  | .iface _ d => uptoBulk d + 1
  | .map entries => uptoBulkEntries entries + 1
  | .held _ => 1
def uptoBulkAll {H : Type} : List (DataW H) → Nat
  | [] => 0
  | d :: r => uptoBulk d + uptoBulkAll r
def uptoBulkEntries {H : Type} : List (Lit × DataW H) → Nat
  | [] => 0
  | x :: r => uptoBulkEntry x + uptoBulkEntries r
def uptoBulkEntry {H : Type} : Lit × DataW H → Nat
  | (.string bytes, d) => bytes.length + uptoBulk d + 1
  | (_, d) => uptoBulk d + 1
 end
def uptoSmall : (H : Type) → List (DataW H) → Bool := fun _ ds => decide (uptoBulkAll ds ≤ 1048576)
def OpenSpec.upto (s : _root_.Go.ChangeSpec) : _root_.Go.OpenSpec := { _root_.Go.OpenSpec.ofChange s with cond := some uptoSmall }

/-- 'relucertlaw32.CutsProgram', WHERE WHAT IT READS IS OF BULK AT MOST 1048576: true; the input reads as it did. -/
def cutsProgramUptoRow : OpenClaim := { program := "ytboocdbmnfjomaagreat", sum := "1536b7ee960dc5d75408df6af6dd494e104177fa14156297b07c56b6d2ad2891", func := "relucert/relucertlaw32.CutsProgram", spec := "cutsProgram", inPlace := ["slices.overlaps[relucert/api.Rat]"], unfollowed := true, recurses := true, apart := false, narrowed := true }
def CutsProgramUptoSaid : Prop := cutsProgramUptoRow.holds Tryz.pinned (OpenSpec.upto cutsProgramSpec)

/-- 'relucertlaw32.CutsViolated', WHERE WHAT IT READS IS OF BULK AT MOST 1048576: true; the input reads as it did. -/
def cutsViolatedUptoRow : OpenClaim := { program := "ytboocdbmnfjomaagreat", sum := "1536b7ee960dc5d75408df6af6dd494e104177fa14156297b07c56b6d2ad2891", func := "relucert/relucertlaw32.CutsViolated", spec := "cutsViolated", inPlace := ["slices.overlaps[relucert/api.Rat]"], unfollowed := true, recurses := true, apart := false, narrowed := true }
def CutsViolatedUptoSaid : Prop := cutsViolatedUptoRow.holds Tryz.pinned (OpenSpec.upto cutsViolatedSpec)

/-- 'relucertlaw32.CutsContainsInputs', WHERE WHAT IT READS IS OF BULK AT MOST 1048576: true; the input reads as it did. -/
def cutsContainsInputsUptoRow : OpenClaim := { program := "ytboocdbmnfjomaagreat", sum := "1536b7ee960dc5d75408df6af6dd494e104177fa14156297b07c56b6d2ad2891", func := "relucert/relucertlaw32.CutsContainsInputs", spec := "cutsContainsInputs", inPlace := ["slices.overlaps[relucert/api.Rat]"], unfollowed := true, recurses := true, apart := false, narrowed := true }
def CutsContainsInputsUptoSaid : Prop := cutsContainsInputsUptoRow.holds Tryz.pinned (OpenSpec.upto cutsContainsInputsSpec)

end Rows
end Go.Proofs.YtboocdbmnfjomaaGreat
