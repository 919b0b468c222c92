/-
  No cell of these rows narrows 'for every input' (looked for: loops, veiled, ifaces, maps, wideKeys, modest, calm, conditions, laid).
  DERIVED. THE GIVEN ROWS OF THIS SEAT. 7 by the template 'for every input the law returns true; each argument reads behind the call as it read before'; 0 by the template 'total and deterministic' (their statements: YtaeaffgjdcigoaaGreatTotals.lean).
  GIVEN WITH THE SEED: the statements are not yours to turn. If you find one false, say at which input.
  Laid BY PROGRAM, IN A SANDBOX (cutbox-rows.mjs): the forced cells as the released guide's own fill.sh prints them over the translation 7c9d9cc60174d869… (all of the seat's roots in one cut). By AI agents, Wed Nov 11 2026. No macro, syntax, notation, axiom, sorry.
-/
import Derived.Test.YtaeaffgjdcigoaaGreatChecked
import GoSem.Claim
import GoSem.ClaimJoined
import GoSem.ClaimMapViews
import Derived.JoinedTies
import Derived.KernelRfl
namespace Go.Proofs.YtaeaffgjdcigoaaGreat
/- THE CELL 'sum', in the pinned program and in every row, IS THE sha256 OF THE DUMP (.gsa) THAT YtaeaffgjdcigoaaGreatProg.lean LOADS. Nothing in Lean hashes anything: it is a label: what it is worth is what the hold of that sum in a sandbox is worth. -/
noncomputable def Tryz.pinned : Pinned := { name := "ytaeaffgjdcigoaagreat", sum := "7c9d9cc60174d86992cab24a68f053aef031d31484030c1edf544c08be9d17ba", checked := Tryz.checked }
namespace Rows
def none {H : Type} : Left H := { results := [], args := [] }

/-- 'relucertlaw37.ConflictUsed': WHATEVER THE INPUT: true; the input reads as it did. -/
def conflictUsedSpec : ChangeSpec := { name := "conflictUsed", fn := fun _ => fun
  | [d1, d2, d3] => { results := [.lit (.bool true)], args := [d1, d2, d3] }
  | _ => none }
def conflictUsedRow : OpenClaim := { program := "ytaeaffgjdcigoaagreat", sum := "7c9d9cc60174d86992cab24a68f053aef031d31484030c1edf544c08be9d17ba", func := "relucert/relucertlaw37.ConflictUsed", spec := "conflictUsed", unfollowed := true, recurses := true, apart := false }
def ConflictUsedSaid : Prop := conflictUsedRow.holds Tryz.pinned (OpenSpec.ofChange conflictUsedSpec)

/-- ITS FALSE NEIGHBOUR: 'it returns false'. Refute it at one input. -/
def conflictUsedWrong : ChangeSpec := { name := "conflictUsed", fn := fun _ => fun
  | [d1, d2, d3] => { results := [.lit (.bool false)], args := [d1, d2, d3] }
  | _ => none }
def ConflictUsedWrongFalsely : Prop := conflictUsedRow.holds Tryz.pinned (OpenSpec.ofChange conflictUsedWrong)

/-- 'relucertlaw37.ConflictLearn': WHATEVER THE INPUT: true; the input reads as it did. -/
def conflictLearnSpec : ChangeSpec := { name := "conflictLearn", fn := fun _ => fun
  | [d1, d2, d3] => { results := [.lit (.bool true)], args := [d1, d2, d3] }
  | _ => none }
def conflictLearnRow : OpenClaim := { program := "ytaeaffgjdcigoaagreat", sum := "7c9d9cc60174d86992cab24a68f053aef031d31484030c1edf544c08be9d17ba", func := "relucert/relucertlaw37.ConflictLearn", spec := "conflictLearn", unfollowed := true, recurses := true, apart := false }
def ConflictLearnSaid : Prop := conflictLearnRow.holds Tryz.pinned (OpenSpec.ofChange conflictLearnSpec)

/-- ITS FALSE NEIGHBOUR: 'it returns false'. Refute it at one input. -/
def conflictLearnWrong : ChangeSpec := { name := "conflictLearn", fn := fun _ => fun
  | [d1, d2, d3] => { results := [.lit (.bool false)], args := [d1, d2, d3] }
  | _ => none }
def ConflictLearnWrongFalsely : Prop := conflictLearnRow.holds Tryz.pinned (OpenSpec.ofChange conflictLearnWrong)

/-- 'relucertlaw37.ConflictEmpty': WHATEVER THE INPUT: true; the input reads as it did. -/
def conflictEmptySpec : ChangeSpec := { name := "conflictEmpty", fn := fun _ => fun
  | [d1, d2] => { results := [.lit (.bool true)], args := [d1, d2] }
  | _ => none }
def conflictEmptyRow : OpenClaim := { program := "ytaeaffgjdcigoaagreat", sum := "7c9d9cc60174d86992cab24a68f053aef031d31484030c1edf544c08be9d17ba", func := "relucert/relucertlaw37.ConflictEmpty", spec := "conflictEmpty", unfollowed := true, recurses := true, apart := false }
def ConflictEmptySaid : Prop := conflictEmptyRow.holds Tryz.pinned (OpenSpec.ofChange conflictEmptySpec)

/-- ITS FALSE NEIGHBOUR: 'it returns false'. Refute it at one input. -/
def conflictEmptyWrong : ChangeSpec := { name := "conflictEmpty", fn := fun _ => fun
  | [d1, d2] => { results := [.lit (.bool false)], args := [d1, d2] }
  | _ => none }
def ConflictEmptyWrongFalsely : Prop := conflictEmptyRow.holds Tryz.pinned (OpenSpec.ofChange conflictEmptyWrong)

/-- 'relucertlaw37.ConflictValid': WHATEVER THE INPUT: true; the input reads as it did. -/
def conflictValidSpec : ChangeSpec := { name := "conflictValid", fn := fun _ => fun
  | [d1, d2, d3] => { results := [.lit (.bool true)], args := [d1, d2, d3] }
  | _ => none }
def conflictValidRow : OpenClaim := { program := "ytaeaffgjdcigoaagreat", sum := "7c9d9cc60174d86992cab24a68f053aef031d31484030c1edf544c08be9d17ba", func := "relucert/relucertlaw37.ConflictValid", spec := "conflictValid", unfollowed := true, recurses := true, apart := false }
def ConflictValidSaid : Prop := conflictValidRow.holds Tryz.pinned (OpenSpec.ofChange conflictValidSpec)

/-- ITS FALSE NEIGHBOUR: 'it returns false'. Refute it at one input. -/
def conflictValidWrong : ChangeSpec := { name := "conflictValid", fn := fun _ => fun
  | [d1, d2, d3] => { results := [.lit (.bool false)], args := [d1, d2, d3] }
  | _ => none }
def ConflictValidWrongFalsely : Prop := conflictValidRow.holds Tryz.pinned (OpenSpec.ofChange conflictValidWrong)

/-- 'relucertlaw37.ConflictSound': WHATEVER THE INPUT: true; the input reads as it did. -/
def conflictSoundSpec : ChangeSpec := { name := "conflictSound", fn := fun _ => fun
  | [d1, d2, d3] => { results := [.lit (.bool true)], args := [d1, d2, d3] }
  | _ => none }
def conflictSoundRow : OpenClaim := { program := "ytaeaffgjdcigoaagreat", sum := "7c9d9cc60174d86992cab24a68f053aef031d31484030c1edf544c08be9d17ba", func := "relucert/relucertlaw37.ConflictSound", spec := "conflictSound", unfollowed := true, recurses := true, apart := false }
def ConflictSoundSaid : Prop := conflictSoundRow.holds Tryz.pinned (OpenSpec.ofChange conflictSoundSpec)

/-- ITS FALSE NEIGHBOUR: 'it returns false'. Refute it at one input. -/
def conflictSoundWrong : ChangeSpec := { name := "conflictSound", fn := fun _ => fun
  | [d1, d2, d3] => { results := [.lit (.bool false)], args := [d1, d2, d3] }
  | _ => none }
def ConflictSoundWrongFalsely : Prop := conflictSoundRow.holds Tryz.pinned (OpenSpec.ofChange conflictSoundWrong)

/-- 'relucertlaw37.ConflictScope': WHATEVER THE INPUT: true; the input reads as it did. -/
def conflictScopeSpec : ChangeSpec := { name := "conflictScope", fn := fun _ => fun
  | [d1, d2, d3] => { results := [.lit (.bool true)], args := [d1, d2, d3] }
  | _ => none }
def conflictScopeRow : OpenClaim := { program := "ytaeaffgjdcigoaagreat", sum := "7c9d9cc60174d86992cab24a68f053aef031d31484030c1edf544c08be9d17ba", func := "relucert/relucertlaw37.ConflictScope", spec := "conflictScope", unfollowed := true, recurses := true, apart := false }
def ConflictScopeSaid : Prop := conflictScopeRow.holds Tryz.pinned (OpenSpec.ofChange conflictScopeSpec)

/-- ITS FALSE NEIGHBOUR: 'it returns false'. Refute it at one input. -/
def conflictScopeWrong : ChangeSpec := { name := "conflictScope", fn := fun _ => fun
  | [d1, d2, d3] => { results := [.lit (.bool false)], args := [d1, d2, d3] }
  | _ => none }
def ConflictScopeWrongFalsely : Prop := conflictScopeRow.holds Tryz.pinned (OpenSpec.ofChange conflictScopeWrong)

/-- 'relucertlaw37.ConflictLeaf': WHATEVER THE INPUT: true; the input reads as it did. -/
def conflictLeafSpec : ChangeSpec := { name := "conflictLeaf", fn := fun _ => fun
  | [d1, d2, d3] => { results := [.lit (.bool true)], args := [d1, d2, d3] }
  | _ => none }
def conflictLeafRow : OpenClaim := { program := "ytaeaffgjdcigoaagreat", sum := "7c9d9cc60174d86992cab24a68f053aef031d31484030c1edf544c08be9d17ba", func := "relucert/relucertlaw37.ConflictLeaf", spec := "conflictLeaf", unfollowed := true, recurses := true, apart := false }
def ConflictLeafSaid : Prop := conflictLeafRow.holds Tryz.pinned (OpenSpec.ofChange conflictLeafSpec)

/-- ITS FALSE NEIGHBOUR: 'it returns false'. Refute it at one input. -/
def conflictLeafWrong : ChangeSpec := { name := "conflictLeaf", fn := fun _ => fun
  | [d1, d2, d3] => { results := [.lit (.bool false)], args := [d1, d2, d3] }
  | _ => none }
def ConflictLeafWrongFalsely : Prop := conflictLeafRow.holds Tryz.pinned (OpenSpec.ofChange conflictLeafWrong)

/- THE SECOND FORM. 'bulk': how many values and letters a reading holds, each counted each time it is reached (what is shared counts as often as it is met; a slice's spare places count too). A statement '..UptoSaid' is the law's where the arguments, and the package variables that the reading takes, are together of bulk at most 1048576: NARROWER than '..Said'. Prove '..Said' where nothing that the law and all that it calls make is longer than what came in: it says more and counts as full. Else prove '..UptoSaid'. A law counts once. -/
mutual
def uptoBulk {H : Type} : DataW H → Nat
  | .lit (.string bytes) => bytes.length + 1
  | .lit _ => 1
  | .nil => 1
  | .ptr d => uptoBulk d + 1
  | .slice elems spare => uptoBulkAll elems + uptoBulkAll spare + 1
  | .agg parts => uptoBulkAll parts + 1
  | .iface _ d => uptoBulk d + 1
  | .map entries => uptoBulkEntries entries + 1
  | .held _ => 1
def uptoBulkAll {H : Type} : List (DataW H) → Nat
  | [] => 0
  | d :: r => uptoBulk d + uptoBulkAll r
def uptoBulkEntries {H : Type} : List (Lit × DataW H) → Nat
  | [] => 0
  | x :: r => uptoBulkEntry x + uptoBulkEntries r
def uptoBulkEntry {H : Type} : Lit × DataW H → Nat
  | (.string bytes, d) => bytes.length + uptoBulk d + 1
  | (_, d) => uptoBulk d + 1
 end
def uptoSmall : (H : Type) → List (DataW H) → Bool := fun _ ds => decide (uptoBulkAll ds ≤ 1048576)
def OpenSpec.upto (s : _root_.Go.ChangeSpec) : _root_.Go.OpenSpec := { _root_.Go.OpenSpec.ofChange s with cond := some uptoSmall }

/-- 'relucertlaw37.ConflictUsed', WHERE WHAT IT READS IS OF BULK AT MOST 1048576: true; the input reads as it did. -/
def conflictUsedUptoRow : OpenClaim := { program := "ytaeaffgjdcigoaagreat", sum := "7c9d9cc60174d86992cab24a68f053aef031d31484030c1edf544c08be9d17ba", func := "relucert/relucertlaw37.ConflictUsed", spec := "conflictUsed", unfollowed := true, recurses := true, apart := false, narrowed := true }
def ConflictUsedUptoSaid : Prop := conflictUsedUptoRow.holds Tryz.pinned (OpenSpec.upto conflictUsedSpec)

/-- 'relucertlaw37.ConflictLearn', WHERE WHAT IT READS IS OF BULK AT MOST 1048576: true; the input reads as it did. -/
def conflictLearnUptoRow : OpenClaim := { program := "ytaeaffgjdcigoaagreat", sum := "7c9d9cc60174d86992cab24a68f053aef031d31484030c1edf544c08be9d17ba", func := "relucert/relucertlaw37.ConflictLearn", spec := "conflictLearn", unfollowed := true, recurses := true, apart := false, narrowed := true }
def ConflictLearnUptoSaid : Prop := conflictLearnUptoRow.holds Tryz.pinned (OpenSpec.upto conflictLearnSpec)

/-- 'relucertlaw37.ConflictEmpty', WHERE WHAT IT READS IS OF BULK AT MOST 1048576: true; the input reads as it did. -/
def conflictEmptyUptoRow : OpenClaim := { program := "ytaeaffgjdcigoaagreat", sum := "7c9d9cc60174d86992cab24a68f053aef031d31484030c1edf544c08be9d17ba", func := "relucert/relucertlaw37.ConflictEmpty", spec := "conflictEmpty", unfollowed := true, recurses := true, apart := false, narrowed := true }
def ConflictEmptyUptoSaid : Prop := conflictEmptyUptoRow.holds Tryz.pinned (OpenSpec.upto conflictEmptySpec)

/-- 'relucertlaw37.ConflictValid', WHERE WHAT IT READS IS OF BULK AT MOST 1048576: true; the input reads as it did. -/
def conflictValidUptoRow : OpenClaim := { program := "ytaeaffgjdcigoaagreat", sum := "7c9d9cc60174d86992cab24a68f053aef031d31484030c1edf544c08be9d17ba", func := "relucert/relucertlaw37.ConflictValid", spec := "conflictValid", unfollowed := true, recurses := true, apart := false, narrowed := true }
def ConflictValidUptoSaid : Prop := conflictValidUptoRow.holds Tryz.pinned (OpenSpec.upto conflictValidSpec)

/-- 'relucertlaw37.ConflictSound', WHERE WHAT IT READS IS OF BULK AT MOST 1048576: true; the input reads as it did. -/
def conflictSoundUptoRow : OpenClaim := { program := "ytaeaffgjdcigoaagreat", sum := "7c9d9cc60174d86992cab24a68f053aef031d31484030c1edf544c08be9d17ba", func := "relucert/relucertlaw37.ConflictSound", spec := "conflictSound", unfollowed := true, recurses := true, apart := false, narrowed := true }
def ConflictSoundUptoSaid : Prop := conflictSoundUptoRow.holds Tryz.pinned (OpenSpec.upto conflictSoundSpec)

/-- 'relucertlaw37.ConflictScope', WHERE WHAT IT READS IS OF BULK AT MOST 1048576: true; the input reads as it did. -/
def conflictScopeUptoRow : OpenClaim := { program := "ytaeaffgjdcigoaagreat", sum := "7c9d9cc60174d86992cab24a68f053aef031d31484030c1edf544c08be9d17ba", func := "relucert/relucertlaw37.ConflictScope", spec := "conflictScope", unfollowed := true, recurses := true, apart := false, narrowed := true }
def ConflictScopeUptoSaid : Prop := conflictScopeUptoRow.holds Tryz.pinned (OpenSpec.upto conflictScopeSpec)

/-- 'relucertlaw37.ConflictLeaf', WHERE WHAT IT READS IS OF BULK AT MOST 1048576: true; the input reads as it did. -/
def conflictLeafUptoRow : OpenClaim := { program := "ytaeaffgjdcigoaagreat", sum := "7c9d9cc60174d86992cab24a68f053aef031d31484030c1edf544c08be9d17ba", func := "relucert/relucertlaw37.ConflictLeaf", spec := "conflictLeaf", unfollowed := true, recurses := true, apart := false, narrowed := true }
def ConflictLeafUptoSaid : Prop := conflictLeafUptoRow.holds Tryz.pinned (OpenSpec.upto conflictLeafSpec)

end Rows
end Go.Proofs.YtaeaffgjdcigoaaGreat
