/-
  No cell of these rows narrows 'for every input' (looked for: loops, veiled, ifaces, maps, wideKeys, modest, calm, conditions, laid).
  DERIVED. THE GIVEN ROWS OF THIS SEAT. 15 by the template 'for every input the law returns true; each argument reads behind the call as it read before'; 0 by the template 'total and deterministic' (their statements: YtfainocfaddbdaaGreatTotals.lean).
  GIVEN WITH THE SEED: the statements are not yours to turn. If you find one false, say at which input.
  Laid BY PROGRAM, IN A SANDBOX (cutbox-rows.mjs): the forced cells as the released guide's own fill.sh prints them over the translation 7e95eff6f73fb735… (all of the seat's roots in one cut). By AI agents, Wed Nov 11 2026. No macro, syntax, notation, axiom, sorry.
-/
import Derived.Test.YtfainocfaddbdaaGreatChecked
import GoSem.Claim
import GoSem.ClaimJoined
import GoSem.ClaimMapViews
import Derived.JoinedTies
import Derived.KernelRfl
namespace Go.Proofs.YtfainocfaddbdaaGreat
/- THE CELL 'sum', in the pinned program and in every row, IS THE sha256 OF THE DUMP (.gsa) THAT YtfainocfaddbdaaGreatProg.lean LOADS. Nothing in Lean hashes anything: it is a label: what it is worth is what the hold of that sum in a sandbox is worth. -/
noncomputable def Tryz.pinned : Pinned := { name := "ytfainocfaddbdaagreat", sum := "7e95eff6f73fb73594a350be363530e06a36f0de92356aed4ad4e5876dfeb094", checked := Tryz.checked }
namespace Rows
def none {H : Type} : Left H := { results := [], args := [] }

/-- 'relucertlaw28.SimplexMatchesReference': WHATEVER THE INPUT: true; the input reads as it did. -/
def simplexMatchesReferenceSpec : ChangeSpec := { name := "simplexMatchesReference", fn := fun _ => fun
  | [d] => { results := [.lit (.bool true)], args := [d] }
  | _ => none }
def simplexMatchesReferenceRow : OpenClaim := { program := "ytfainocfaddbdaagreat", sum := "7e95eff6f73fb73594a350be363530e06a36f0de92356aed4ad4e5876dfeb094", func := "relucert/relucertlaw28.SimplexMatchesReference", spec := "simplexMatchesReference", inPlace := ["slices.overlaps[relucert/api.Rat]"], unfollowed := true, recurses := true, apart := false }
def SimplexMatchesReferenceSaid : Prop := simplexMatchesReferenceRow.holds Tryz.pinned (OpenSpec.ofChange simplexMatchesReferenceSpec)

/-- ITS FALSE NEIGHBOUR: 'it returns false'. Refute it at one input. -/
def simplexMatchesReferenceWrong : ChangeSpec := { name := "simplexMatchesReference", fn := fun _ => fun
  | [d] => { results := [.lit (.bool false)], args := [d] }
  | _ => none }
def SimplexMatchesReferenceWrongFalsely : Prop := simplexMatchesReferenceRow.holds Tryz.pinned (OpenSpec.ofChange simplexMatchesReferenceWrong)

/-- 'relucertlaw28.SimplexProves': WHATEVER THE INPUT: true; the input reads as it did. -/
def simplexProvesSpec : ChangeSpec := { name := "simplexProves", fn := fun _ => fun
  | [d] => { results := [.lit (.bool true)], args := [d] }
  | _ => none }
def simplexProvesRow : OpenClaim := { program := "ytfainocfaddbdaagreat", sum := "7e95eff6f73fb73594a350be363530e06a36f0de92356aed4ad4e5876dfeb094", func := "relucert/relucertlaw28.SimplexProves", spec := "simplexProves", inPlace := ["slices.overlaps[relucert/api.Rat]"], unfollowed := true, recurses := true, apart := false }
def SimplexProvesSaid : Prop := simplexProvesRow.holds Tryz.pinned (OpenSpec.ofChange simplexProvesSpec)

/-- ITS FALSE NEIGHBOUR: 'it returns false'. Refute it at one input. -/
def simplexProvesWrong : ChangeSpec := { name := "simplexProves", fn := fun _ => fun
  | [d] => { results := [.lit (.bool false)], args := [d] }
  | _ => none }
def SimplexProvesWrongFalsely : Prop := simplexProvesRow.holds Tryz.pinned (OpenSpec.ofChange simplexProvesWrong)

/-- 'relucertlaw28.SimplexErrors': WHATEVER THE INPUT: true; the input reads as it did. -/
def simplexErrorsSpec : ChangeSpec := { name := "simplexErrors", fn := fun _ => fun
  | [d] => { results := [.lit (.bool true)], args := [d] }
  | _ => none }
def simplexErrorsRow : OpenClaim := { program := "ytfainocfaddbdaagreat", sum := "7e95eff6f73fb73594a350be363530e06a36f0de92356aed4ad4e5876dfeb094", func := "relucert/relucertlaw28.SimplexErrors", spec := "simplexErrors", inPlace := ["slices.overlaps[relucert/api.Rat]"], unfollowed := true, recurses := true, apart := false }
def SimplexErrorsSaid : Prop := simplexErrorsRow.holds Tryz.pinned (OpenSpec.ofChange simplexErrorsSpec)

/-- ITS FALSE NEIGHBOUR: 'it returns false'. Refute it at one input. -/
def simplexErrorsWrong : ChangeSpec := { name := "simplexErrors", fn := fun _ => fun
  | [d] => { results := [.lit (.bool false)], args := [d] }
  | _ => none }
def SimplexErrorsWrongFalsely : Prop := simplexErrorsRow.holds Tryz.pinned (OpenSpec.ofChange simplexErrorsWrong)

/-- 'relucertlaw28.SimplexOrder': WHATEVER THE INPUT: true; the input reads as it did. -/
def simplexOrderSpec : ChangeSpec := { name := "simplexOrder", fn := fun _ => fun
  | [d1, d2, d3] => { results := [.lit (.bool true)], args := [d1, d2, d3] }
  | _ => none }
def simplexOrderRow : OpenClaim := { program := "ytfainocfaddbdaagreat", sum := "7e95eff6f73fb73594a350be363530e06a36f0de92356aed4ad4e5876dfeb094", func := "relucert/relucertlaw28.SimplexOrder", spec := "simplexOrder", inPlace := ["slices.overlaps[relucert/api.Rat]"], unfollowed := true, recurses := true, apart := false }
def SimplexOrderSaid : Prop := simplexOrderRow.holds Tryz.pinned (OpenSpec.ofChange simplexOrderSpec)

/-- ITS FALSE NEIGHBOUR: 'it returns false'. Refute it at one input. -/
def simplexOrderWrong : ChangeSpec := { name := "simplexOrder", fn := fun _ => fun
  | [d1, d2, d3] => { results := [.lit (.bool false)], args := [d1, d2, d3] }
  | _ => none }
def SimplexOrderWrongFalsely : Prop := simplexOrderRow.holds Tryz.pinned (OpenSpec.ofChange simplexOrderWrong)

/-- 'relucertlaw28.SimplexScales': WHATEVER THE INPUT: true; the input reads as it did. -/
def simplexScalesSpec : ChangeSpec := { name := "simplexScales", fn := fun _ => fun
  | [d1, d2, d3] => { results := [.lit (.bool true)], args := [d1, d2, d3] }
  | _ => none }
def simplexScalesRow : OpenClaim := { program := "ytfainocfaddbdaagreat", sum := "7e95eff6f73fb73594a350be363530e06a36f0de92356aed4ad4e5876dfeb094", func := "relucert/relucertlaw28.SimplexScales", spec := "simplexScales", inPlace := ["slices.overlaps[relucert/api.Rat]"], unfollowed := true, recurses := true, apart := false }
def SimplexScalesSaid : Prop := simplexScalesRow.holds Tryz.pinned (OpenSpec.ofChange simplexScalesSpec)

/-- ITS FALSE NEIGHBOUR: 'it returns false'. Refute it at one input. -/
def simplexScalesWrong : ChangeSpec := { name := "simplexScales", fn := fun _ => fun
  | [d1, d2, d3] => { results := [.lit (.bool false)], args := [d1, d2, d3] }
  | _ => none }
def SimplexScalesWrongFalsely : Prop := simplexScalesRow.holds Tryz.pinned (OpenSpec.ofChange simplexScalesWrong)

/-- 'relucertlaw28.SimplexRedundant': WHATEVER THE INPUT: true; the input reads as it did. -/
def simplexRedundantSpec : ChangeSpec := { name := "simplexRedundant", fn := fun _ => fun
  | [d1, d2, d3] => { results := [.lit (.bool true)], args := [d1, d2, d3] }
  | _ => none }
def simplexRedundantRow : OpenClaim := { program := "ytfainocfaddbdaagreat", sum := "7e95eff6f73fb73594a350be363530e06a36f0de92356aed4ad4e5876dfeb094", func := "relucert/relucertlaw28.SimplexRedundant", spec := "simplexRedundant", inPlace := ["slices.overlaps[relucert/api.Rat]"], unfollowed := true, recurses := true, apart := false }
def SimplexRedundantSaid : Prop := simplexRedundantRow.holds Tryz.pinned (OpenSpec.ofChange simplexRedundantSpec)

/-- ITS FALSE NEIGHBOUR: 'it returns false'. Refute it at one input. -/
def simplexRedundantWrong : ChangeSpec := { name := "simplexRedundant", fn := fun _ => fun
  | [d1, d2, d3] => { results := [.lit (.bool false)], args := [d1, d2, d3] }
  | _ => none }
def SimplexRedundantWrongFalsely : Prop := simplexRedundantRow.holds Tryz.pinned (OpenSpec.ofChange simplexRedundantWrong)

/-- 'relucertlaw28.SimplexRow': WHATEVER THE INPUT: true; the input reads as it did. -/
def simplexRowSpec : ChangeSpec := { name := "simplexRow", fn := fun _ => fun
  | [d1, d2] => { results := [.lit (.bool true)], args := [d1, d2] }
  | _ => none }
def simplexRowRow : OpenClaim := { program := "ytfainocfaddbdaagreat", sum := "7e95eff6f73fb73594a350be363530e06a36f0de92356aed4ad4e5876dfeb094", func := "relucert/relucertlaw28.SimplexRow", spec := "simplexRow", inPlace := ["slices.overlaps[relucert/api.Rat]"], unfollowed := true, recurses := true, apart := false }
def SimplexRowSaid : Prop := simplexRowRow.holds Tryz.pinned (OpenSpec.ofChange simplexRowSpec)

/-- ITS FALSE NEIGHBOUR: 'it returns false'. Refute it at one input. -/
def simplexRowWrong : ChangeSpec := { name := "simplexRow", fn := fun _ => fun
  | [d1, d2] => { results := [.lit (.bool false)], args := [d1, d2] }
  | _ => none }
def SimplexRowWrongFalsely : Prop := simplexRowRow.holds Tryz.pinned (OpenSpec.ofChange simplexRowWrong)

/-- 'relucertlaw28.SimplexOpposite': WHATEVER THE INPUT: true; the input reads as it did. -/
def simplexOppositeSpec : ChangeSpec := { name := "simplexOpposite", fn := fun _ => fun
  | [d] => { results := [.lit (.bool true)], args := [d] }
  | _ => none }
def simplexOppositeRow : OpenClaim := { program := "ytfainocfaddbdaagreat", sum := "7e95eff6f73fb73594a350be363530e06a36f0de92356aed4ad4e5876dfeb094", func := "relucert/relucertlaw28.SimplexOpposite", spec := "simplexOpposite", inPlace := ["slices.overlaps[relucert/api.Rat]"], unfollowed := true, recurses := true, apart := false }
def SimplexOppositeSaid : Prop := simplexOppositeRow.holds Tryz.pinned (OpenSpec.ofChange simplexOppositeSpec)

/-- ITS FALSE NEIGHBOUR: 'it returns false'. Refute it at one input. -/
def simplexOppositeWrong : ChangeSpec := { name := "simplexOpposite", fn := fun _ => fun
  | [d] => { results := [.lit (.bool false)], args := [d] }
  | _ => none }
def SimplexOppositeWrongFalsely : Prop := simplexOppositeRow.holds Tryz.pinned (OpenSpec.ofChange simplexOppositeWrong)

/-- 'relucertlaw28.SimplexRegular': WHATEVER THE INPUT: true; the input reads as it did. -/
def simplexRegularSpec : ChangeSpec := { name := "simplexRegular", fn := fun _ => fun
  | [d] => { results := [.lit (.bool true)], args := [d] }
  | _ => none }
def simplexRegularRow : OpenClaim := { program := "ytfainocfaddbdaagreat", sum := "7e95eff6f73fb73594a350be363530e06a36f0de92356aed4ad4e5876dfeb094", func := "relucert/relucertlaw28.SimplexRegular", spec := "simplexRegular", inPlace := ["slices.overlaps[relucert/api.Rat]"], unfollowed := true, recurses := true, apart := false }
def SimplexRegularSaid : Prop := simplexRegularRow.holds Tryz.pinned (OpenSpec.ofChange simplexRegularSpec)

/-- ITS FALSE NEIGHBOUR: 'it returns false'. Refute it at one input. -/
def simplexRegularWrong : ChangeSpec := { name := "simplexRegular", fn := fun _ => fun
  | [d] => { results := [.lit (.bool false)], args := [d] }
  | _ => none }
def SimplexRegularWrongFalsely : Prop := simplexRegularRow.holds Tryz.pinned (OpenSpec.ofChange simplexRegularWrong)

/-- 'relucertlaw30.WarmSolves': WHATEVER THE INPUT: true; the input reads as it did. -/
def warmSolvesSpec : ChangeSpec := { name := "warmSolves", fn := fun _ => fun
  | [d1, d2] => { results := [.lit (.bool true)], args := [d1, d2] }
  | _ => none }
def warmSolvesRow : OpenClaim := { program := "ytfainocfaddbdaagreat", sum := "7e95eff6f73fb73594a350be363530e06a36f0de92356aed4ad4e5876dfeb094", func := "relucert/relucertlaw30.WarmSolves", spec := "warmSolves", inPlace := ["slices.overlaps[relucert/api.Rat]"], unfollowed := true, recurses := true, apart := false }
def WarmSolvesSaid : Prop := warmSolvesRow.holds Tryz.pinned (OpenSpec.ofChange warmSolvesSpec)

/-- ITS FALSE NEIGHBOUR: 'it returns false'. Refute it at one input. -/
def warmSolvesWrong : ChangeSpec := { name := "warmSolves", fn := fun _ => fun
  | [d1, d2] => { results := [.lit (.bool false)], args := [d1, d2] }
  | _ => none }
def WarmSolvesWrongFalsely : Prop := warmSolvesRow.holds Tryz.pinned (OpenSpec.ofChange warmSolvesWrong)

/-- 'relucertlaw30.WarmGrows': WHATEVER THE INPUT: true; the input reads as it did. -/
def warmGrowsSpec : ChangeSpec := { name := "warmGrows", fn := fun _ => fun
  | [d1, d2] => { results := [.lit (.bool true)], args := [d1, d2] }
  | _ => none }
def warmGrowsRow : OpenClaim := { program := "ytfainocfaddbdaagreat", sum := "7e95eff6f73fb73594a350be363530e06a36f0de92356aed4ad4e5876dfeb094", func := "relucert/relucertlaw30.WarmGrows", spec := "warmGrows", inPlace := ["slices.overlaps[relucert/api.Rat]"], unfollowed := true, recurses := true, apart := false }
def WarmGrowsSaid : Prop := warmGrowsRow.holds Tryz.pinned (OpenSpec.ofChange warmGrowsSpec)

/-- ITS FALSE NEIGHBOUR: 'it returns false'. Refute it at one input. -/
def warmGrowsWrong : ChangeSpec := { name := "warmGrows", fn := fun _ => fun
  | [d1, d2] => { results := [.lit (.bool false)], args := [d1, d2] }
  | _ => none }
def WarmGrowsWrongFalsely : Prop := warmGrowsRow.holds Tryz.pinned (OpenSpec.ofChange warmGrowsWrong)

/-- 'relucertlaw30.WarmLikeSimplex': WHATEVER THE INPUT: true; the input reads as it did. -/
def warmLikeSimplexSpec : ChangeSpec := { name := "warmLikeSimplex", fn := fun _ => fun
  | [d1, d2] => { results := [.lit (.bool true)], args := [d1, d2] }
  | _ => none }
def warmLikeSimplexRow : OpenClaim := { program := "ytfainocfaddbdaagreat", sum := "7e95eff6f73fb73594a350be363530e06a36f0de92356aed4ad4e5876dfeb094", func := "relucert/relucertlaw30.WarmLikeSimplex", spec := "warmLikeSimplex", inPlace := ["slices.overlaps[relucert/api.Rat]"], unfollowed := true, recurses := true, apart := false }
def WarmLikeSimplexSaid : Prop := warmLikeSimplexRow.holds Tryz.pinned (OpenSpec.ofChange warmLikeSimplexSpec)

/-- ITS FALSE NEIGHBOUR: 'it returns false'. Refute it at one input. -/
def warmLikeSimplexWrong : ChangeSpec := { name := "warmLikeSimplex", fn := fun _ => fun
  | [d1, d2] => { results := [.lit (.bool false)], args := [d1, d2] }
  | _ => none }
def WarmLikeSimplexWrongFalsely : Prop := warmLikeSimplexRow.holds Tryz.pinned (OpenSpec.ofChange warmLikeSimplexWrong)

/-- 'relucertlaw30.WarmProgram': WHATEVER THE INPUT: true; the input reads as it did. -/
def warmProgramSpec : ChangeSpec := { name := "warmProgram", fn := fun _ => fun
  | [d1, d2] => { results := [.lit (.bool true)], args := [d1, d2] }
  | _ => none }
def warmProgramRow : OpenClaim := { program := "ytfainocfaddbdaagreat", sum := "7e95eff6f73fb73594a350be363530e06a36f0de92356aed4ad4e5876dfeb094", func := "relucert/relucertlaw30.WarmProgram", spec := "warmProgram", inPlace := ["slices.overlaps[relucert/api.Rat]"], unfollowed := true, recurses := true, apart := false }
def WarmProgramSaid : Prop := warmProgramRow.holds Tryz.pinned (OpenSpec.ofChange warmProgramSpec)

/-- ITS FALSE NEIGHBOUR: 'it returns false'. Refute it at one input. -/
def warmProgramWrong : ChangeSpec := { name := "warmProgram", fn := fun _ => fun
  | [d1, d2] => { results := [.lit (.bool false)], args := [d1, d2] }
  | _ => none }
def WarmProgramWrongFalsely : Prop := warmProgramRow.holds Tryz.pinned (OpenSpec.ofChange warmProgramWrong)

/-- 'relucertlaw30.WarmInvalid': WHATEVER THE INPUT: true; the input reads as it did. -/
def warmInvalidSpec : ChangeSpec := { name := "warmInvalid", fn := fun _ => fun
  | [d] => { results := [.lit (.bool true)], args := [d] }
  | _ => none }
def warmInvalidRow : OpenClaim := { program := "ytfainocfaddbdaagreat", sum := "7e95eff6f73fb73594a350be363530e06a36f0de92356aed4ad4e5876dfeb094", func := "relucert/relucertlaw30.WarmInvalid", spec := "warmInvalid", inPlace := ["slices.overlaps[relucert/api.Rat]"], unfollowed := true, recurses := true, apart := false }
def WarmInvalidSaid : Prop := warmInvalidRow.holds Tryz.pinned (OpenSpec.ofChange warmInvalidSpec)

/-- ITS FALSE NEIGHBOUR: 'it returns false'. Refute it at one input. -/
def warmInvalidWrong : ChangeSpec := { name := "warmInvalid", fn := fun _ => fun
  | [d] => { results := [.lit (.bool false)], args := [d] }
  | _ => none }
def WarmInvalidWrongFalsely : Prop := warmInvalidRow.holds Tryz.pinned (OpenSpec.ofChange warmInvalidWrong)

/-- 'relucertlaw30.WarmClone': WHATEVER THE INPUT: true; the input reads as it did. -/
def warmCloneSpec : ChangeSpec := { name := "warmClone", fn := fun _ => fun
  | [d1, d2] => { results := [.lit (.bool true)], args := [d1, d2] }
  | _ => none }
def warmCloneRow : OpenClaim := { program := "ytfainocfaddbdaagreat", sum := "7e95eff6f73fb73594a350be363530e06a36f0de92356aed4ad4e5876dfeb094", func := "relucert/relucertlaw30.WarmClone", spec := "warmClone", inPlace := ["slices.overlaps[relucert/api.Rat]"], unfollowed := true, recurses := true, apart := false }
def WarmCloneSaid : Prop := warmCloneRow.holds Tryz.pinned (OpenSpec.ofChange warmCloneSpec)

/-- ITS FALSE NEIGHBOUR: 'it returns false'. Refute it at one input. -/
def warmCloneWrong : ChangeSpec := { name := "warmClone", fn := fun _ => fun
  | [d1, d2] => { results := [.lit (.bool false)], args := [d1, d2] }
  | _ => none }
def WarmCloneWrongFalsely : Prop := warmCloneRow.holds Tryz.pinned (OpenSpec.ofChange warmCloneWrong)

/- THE SECOND FORM. 'bulk': how many values and letters a reading holds, each counted each time it is reached (what is shared counts as often as it is met; a slice's spare places count too). A statement '..UptoSaid' is the law's where the arguments, and the package variables that the reading takes, are together of bulk at most 1048576: NARROWER than '..Said'. Prove '..Said' where nothing that the law and all that it calls make is longer than what came in: it says more and counts as full. Else prove '..UptoSaid'. A law counts once. -/
mutual
def uptoBulk {H : Type} : DataW H → Nat
  | .lit (.string bytes) => bytes.length + 1
  | .lit _ => 1
  | .nil => 1
  | .ptr d => uptoBulk d + 1
  | .slice elems spare => uptoBulkAll elems + uptoBulkAll spare + 1
  | .agg parts => uptoBulkAll parts + 1
  | .iface _ d => uptoBulk d + 1
  | .map entries => uptoBulkEntries entries + 1
  | .held _ => 1
def uptoBulkAll {H : Type} : List (DataW H) → Nat
  | [] => 0
  | d :: r => uptoBulk d + uptoBulkAll r
def uptoBulkEntries {H : Type} : List (Lit × DataW H) → Nat
  | [] => 0
  | x :: r => uptoBulkEntry x + uptoBulkEntries r
def uptoBulkEntry {H : Type} : Lit × DataW H → Nat
  | (.string bytes, d) => bytes.length + uptoBulk d + 1
  | (_, d) => uptoBulk d + 1
 end
def uptoSmall : (H : Type) → List (DataW H) → Bool := fun _ ds => decide (uptoBulkAll ds ≤ 1048576)
def OpenSpec.upto (s : _root_.Go.ChangeSpec) : _root_.Go.OpenSpec := { _root_.Go.OpenSpec.ofChange s with cond := some uptoSmall }

/-- 'relucertlaw28.SimplexMatchesReference', WHERE WHAT IT READS IS OF BULK AT MOST 1048576: true; the input reads as it did. -/
def simplexMatchesReferenceUptoRow : OpenClaim := { program := "ytfainocfaddbdaagreat", sum := "7e95eff6f73fb73594a350be363530e06a36f0de92356aed4ad4e5876dfeb094", func := "relucert/relucertlaw28.SimplexMatchesReference", spec := "simplexMatchesReference", inPlace := ["slices.overlaps[relucert/api.Rat]"], unfollowed := true, recurses := true, apart := false, narrowed := true }
def SimplexMatchesReferenceUptoSaid : Prop := simplexMatchesReferenceUptoRow.holds Tryz.pinned (OpenSpec.upto simplexMatchesReferenceSpec)

/-- 'relucertlaw28.SimplexProves', WHERE WHAT IT READS IS OF BULK AT MOST 1048576: true; the input reads as it did. -/
def simplexProvesUptoRow : OpenClaim := { program := "ytfainocfaddbdaagreat", sum := "7e95eff6f73fb73594a350be363530e06a36f0de92356aed4ad4e5876dfeb094", func := "relucert/relucertlaw28.SimplexProves", spec := "simplexProves", inPlace := ["slices.overlaps[relucert/api.Rat]"], unfollowed := true, recurses := true, apart := false, narrowed := true }
def SimplexProvesUptoSaid : Prop := simplexProvesUptoRow.holds Tryz.pinned (OpenSpec.upto simplexProvesSpec)

/-- 'relucertlaw28.SimplexErrors', WHERE WHAT IT READS IS OF BULK AT MOST 1048576: true; the input reads as it did. -/
def simplexErrorsUptoRow : OpenClaim := { program := "ytfainocfaddbdaagreat", sum := "7e95eff6f73fb73594a350be363530e06a36f0de92356aed4ad4e5876dfeb094", func := "relucert/relucertlaw28.SimplexErrors", spec := "simplexErrors", inPlace := ["slices.overlaps[relucert/api.Rat]"], unfollowed := true, recurses := true, apart := false, narrowed := true }
def SimplexErrorsUptoSaid : Prop := simplexErrorsUptoRow.holds Tryz.pinned (OpenSpec.upto simplexErrorsSpec)

/-- 'relucertlaw28.SimplexOrder', WHERE WHAT IT READS IS OF BULK AT MOST 1048576: true; the input reads as it did. -/
def simplexOrderUptoRow : OpenClaim := { program := "ytfainocfaddbdaagreat", sum := "7e95eff6f73fb73594a350be363530e06a36f0de92356aed4ad4e5876dfeb094", func := "relucert/relucertlaw28.SimplexOrder", spec := "simplexOrder", inPlace := ["slices.overlaps[relucert/api.Rat]"], unfollowed := true, recurses := true, apart := false, narrowed := true }
def SimplexOrderUptoSaid : Prop := simplexOrderUptoRow.holds Tryz.pinned (OpenSpec.upto simplexOrderSpec)

/-- 'relucertlaw28.SimplexScales', WHERE WHAT IT READS IS OF BULK AT MOST 1048576: true; the input reads as it did. -/
def simplexScalesUptoRow : OpenClaim := { program := "ytfainocfaddbdaagreat", sum := "7e95eff6f73fb73594a350be363530e06a36f0de92356aed4ad4e5876dfeb094", func := "relucert/relucertlaw28.SimplexScales", spec := "simplexScales", inPlace := ["slices.overlaps[relucert/api.Rat]"], unfollowed := true, recurses := true, apart := false, narrowed := true }
def SimplexScalesUptoSaid : Prop := simplexScalesUptoRow.holds Tryz.pinned (OpenSpec.upto simplexScalesSpec)

/-- 'relucertlaw28.SimplexRedundant', WHERE WHAT IT READS IS OF BULK AT MOST 1048576: true; the input reads as it did. -/
def simplexRedundantUptoRow : OpenClaim := { program := "ytfainocfaddbdaagreat", sum := "7e95eff6f73fb73594a350be363530e06a36f0de92356aed4ad4e5876dfeb094", func := "relucert/relucertlaw28.SimplexRedundant", spec := "simplexRedundant", inPlace := ["slices.overlaps[relucert/api.Rat]"], unfollowed := true, recurses := true, apart := false, narrowed := true }
def SimplexRedundantUptoSaid : Prop := simplexRedundantUptoRow.holds Tryz.pinned (OpenSpec.upto simplexRedundantSpec)

/-- 'relucertlaw28.SimplexRow', WHERE WHAT IT READS IS OF BULK AT MOST 1048576: true; the input reads as it did. -/
def simplexRowUptoRow : OpenClaim := { program := "ytfainocfaddbdaagreat", sum := "7e95eff6f73fb73594a350be363530e06a36f0de92356aed4ad4e5876dfeb094", func := "relucert/relucertlaw28.SimplexRow", spec := "simplexRow", inPlace := ["slices.overlaps[relucert/api.Rat]"], unfollowed := true, recurses := true, apart := false, narrowed := true }
def SimplexRowUptoSaid : Prop := simplexRowUptoRow.holds Tryz.pinned (OpenSpec.upto simplexRowSpec)

/-- 'relucertlaw28.SimplexOpposite', WHERE WHAT IT READS IS OF BULK AT MOST 1048576: true; the input reads as it did. -/
def simplexOppositeUptoRow : OpenClaim := { program := "ytfainocfaddbdaagreat", sum := "7e95eff6f73fb73594a350be363530e06a36f0de92356aed4ad4e5876dfeb094", func := "relucert/relucertlaw28.SimplexOpposite", spec := "simplexOpposite", inPlace := ["slices.overlaps[relucert/api.Rat]"], unfollowed := true, recurses := true, apart := false, narrowed := true }
def SimplexOppositeUptoSaid : Prop := simplexOppositeUptoRow.holds Tryz.pinned (OpenSpec.upto simplexOppositeSpec)

/-- 'relucertlaw28.SimplexRegular', WHERE WHAT IT READS IS OF BULK AT MOST 1048576: true; the input reads as it did. -/
def simplexRegularUptoRow : OpenClaim := { program := "ytfainocfaddbdaagreat", sum := "7e95eff6f73fb73594a350be363530e06a36f0de92356aed4ad4e5876dfeb094", func := "relucert/relucertlaw28.SimplexRegular", spec := "simplexRegular", inPlace := ["slices.overlaps[relucert/api.Rat]"], unfollowed := true, recurses := true, apart := false, narrowed := true }
def SimplexRegularUptoSaid : Prop := simplexRegularUptoRow.holds Tryz.pinned (OpenSpec.upto simplexRegularSpec)

/-- 'relucertlaw30.WarmSolves', WHERE WHAT IT READS IS OF BULK AT MOST 1048576: true; the input reads as it did. -/
def warmSolvesUptoRow : OpenClaim := { program := "ytfainocfaddbdaagreat", sum := "7e95eff6f73fb73594a350be363530e06a36f0de92356aed4ad4e5876dfeb094", func := "relucert/relucertlaw30.WarmSolves", spec := "warmSolves", inPlace := ["slices.overlaps[relucert/api.Rat]"], unfollowed := true, recurses := true, apart := false, narrowed := true }
def WarmSolvesUptoSaid : Prop := warmSolvesUptoRow.holds Tryz.pinned (OpenSpec.upto warmSolvesSpec)

/-- 'relucertlaw30.WarmGrows', WHERE WHAT IT READS IS OF BULK AT MOST 1048576: true; the input reads as it did. -/
def warmGrowsUptoRow : OpenClaim := { program := "ytfainocfaddbdaagreat", sum := "7e95eff6f73fb73594a350be363530e06a36f0de92356aed4ad4e5876dfeb094", func := "relucert/relucertlaw30.WarmGrows", spec := "warmGrows", inPlace := ["slices.overlaps[relucert/api.Rat]"], unfollowed := true, recurses := true, apart := false, narrowed := true }
def WarmGrowsUptoSaid : Prop := warmGrowsUptoRow.holds Tryz.pinned (OpenSpec.upto warmGrowsSpec)

/-- 'relucertlaw30.WarmLikeSimplex', WHERE WHAT IT READS IS OF BULK AT MOST 1048576: true; the input reads as it did. -/
def warmLikeSimplexUptoRow : OpenClaim := { program := "ytfainocfaddbdaagreat", sum := "7e95eff6f73fb73594a350be363530e06a36f0de92356aed4ad4e5876dfeb094", func := "relucert/relucertlaw30.WarmLikeSimplex", spec := "warmLikeSimplex", inPlace := ["slices.overlaps[relucert/api.Rat]"], unfollowed := true, recurses := true, apart := false, narrowed := true }
def WarmLikeSimplexUptoSaid : Prop := warmLikeSimplexUptoRow.holds Tryz.pinned (OpenSpec.upto warmLikeSimplexSpec)

/-- 'relucertlaw30.WarmProgram', WHERE WHAT IT READS IS OF BULK AT MOST 1048576: true; the input reads as it did. -/
def warmProgramUptoRow : OpenClaim := { program := "ytfainocfaddbdaagreat", sum := "7e95eff6f73fb73594a350be363530e06a36f0de92356aed4ad4e5876dfeb094", func := "relucert/relucertlaw30.WarmProgram", spec := "warmProgram", inPlace := ["slices.overlaps[relucert/api.Rat]"], unfollowed := true, recurses := true, apart := false, narrowed := true }
def WarmProgramUptoSaid : Prop := warmProgramUptoRow.holds Tryz.pinned (OpenSpec.upto warmProgramSpec)

/-- 'relucertlaw30.WarmInvalid', WHERE WHAT IT READS IS OF BULK AT MOST 1048576: true; the input reads as it did. -/
def warmInvalidUptoRow : OpenClaim := { program := "ytfainocfaddbdaagreat", sum := "7e95eff6f73fb73594a350be363530e06a36f0de92356aed4ad4e5876dfeb094", func := "relucert/relucertlaw30.WarmInvalid", spec := "warmInvalid", inPlace := ["slices.overlaps[relucert/api.Rat]"], unfollowed := true, recurses := true, apart := false, narrowed := true }
def WarmInvalidUptoSaid : Prop := warmInvalidUptoRow.holds Tryz.pinned (OpenSpec.upto warmInvalidSpec)

/-- 'relucertlaw30.WarmClone', WHERE WHAT IT READS IS OF BULK AT MOST 1048576: true; the input reads as it did. -/
def warmCloneUptoRow : OpenClaim := { program := "ytfainocfaddbdaagreat", sum := "7e95eff6f73fb73594a350be363530e06a36f0de92356aed4ad4e5876dfeb094", func := "relucert/relucertlaw30.WarmClone", spec := "warmClone", inPlace := ["slices.overlaps[relucert/api.Rat]"], unfollowed := true, recurses := true, apart := false, narrowed := true }
def WarmCloneUptoSaid : Prop := warmCloneUptoRow.holds Tryz.pinned (OpenSpec.upto warmCloneSpec)

end Rows
end Go.Proofs.YtfainocfaddbdaaGreat
