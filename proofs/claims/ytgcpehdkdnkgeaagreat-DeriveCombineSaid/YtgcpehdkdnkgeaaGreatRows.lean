/-
  No cell of these rows narrows 'for every input' (looked for: loops, veiled, ifaces, maps, wideKeys, modest, calm, conditions, laid).
  DERIVED. THE GIVEN ROWS OF THIS SEAT. 10 by the template 'for every input the law returns true; each argument reads behind the call as it read before'; 0 by the template 'total and deterministic' (their statements: YtgcpehdkdnkgeaaGreatTotals.lean).
  GIVEN WITH THE SEED: the statements are not yours to turn. If you find one false, say at which input.
  Laid BY PROGRAM, IN A SANDBOX (cutbox-rows.mjs): the forced cells as the released guide's own fill.sh prints them over the translation 2332ca13cf476de1… (all of the seat's roots in one cut). By AI agents, Wed Nov 11 2026. No macro, syntax, notation, axiom, sorry.
-/
import Derived.Test.YtgcpehdkdnkgeaaGreatChecked
import GoSem.Claim
import GoSem.ClaimJoined
import GoSem.ClaimMapViews
import Derived.JoinedTies
import Derived.KernelRfl
namespace Go.Proofs.YtgcpehdkdnkgeaaGreat
/- THE CELL 'sum', in the pinned program and in every row, IS THE sha256 OF THE DUMP (.gsa) THAT YtgcpehdkdnkgeaaGreatProg.lean LOADS. Nothing in Lean hashes anything: it is a label: what it is worth is what the hold of that sum in a sandbox is worth. -/
noncomputable def Tryz.pinned : Pinned := { name := "ytgcpehdkdnkgeaagreat", sum := "2332ca13cf476de1d5d55aa74d2c20d9ea609388b30b754d235b5caf85fed01f", checked := Tryz.checked }
namespace Rows
def none {H : Type} : Left H := { results := [], args := [] }

/-- 'relucertlaw22.DeriveScope': WHATEVER THE INPUT: true; the input reads as it did. -/
def deriveScopeSpec : ChangeSpec := { name := "deriveScope", fn := fun _ => fun
  | [d1, d2, d3] => { results := [.lit (.bool true)], args := [d1, d2, d3] }
  | _ => none }
def deriveScopeRow : OpenClaim := { program := "ytgcpehdkdnkgeaagreat", sum := "2332ca13cf476de1d5d55aa74d2c20d9ea609388b30b754d235b5caf85fed01f", func := "relucert/relucertlaw22.DeriveScope", spec := "deriveScope", unfollowed := true, recurses := true, apart := false }
def DeriveScopeSaid : Prop := deriveScopeRow.holds Tryz.pinned (OpenSpec.ofChange deriveScopeSpec)

/-- ITS FALSE NEIGHBOUR: 'it returns false'. Refute it at one input. -/
def deriveScopeWrong : ChangeSpec := { name := "deriveScope", fn := fun _ => fun
  | [d1, d2, d3] => { results := [.lit (.bool false)], args := [d1, d2, d3] }
  | _ => none }
def DeriveScopeWrongFalsely : Prop := deriveScopeRow.holds Tryz.pinned (OpenSpec.ofChange deriveScopeWrong)

/-- 'relucertlaw22.DeriveMonotone': WHATEVER THE INPUT: true; the input reads as it did. -/
def deriveMonotoneSpec : ChangeSpec := { name := "deriveMonotone", fn := fun _ => fun
  | [d1, d2, d3] => { results := [.lit (.bool true)], args := [d1, d2, d3] }
  | _ => none }
def deriveMonotoneRow : OpenClaim := { program := "ytgcpehdkdnkgeaagreat", sum := "2332ca13cf476de1d5d55aa74d2c20d9ea609388b30b754d235b5caf85fed01f", func := "relucert/relucertlaw22.DeriveMonotone", spec := "deriveMonotone", unfollowed := true, recurses := true, apart := false }
def DeriveMonotoneSaid : Prop := deriveMonotoneRow.holds Tryz.pinned (OpenSpec.ofChange deriveMonotoneSpec)

/-- ITS FALSE NEIGHBOUR: 'it returns false'. Refute it at one input. -/
def deriveMonotoneWrong : ChangeSpec := { name := "deriveMonotone", fn := fun _ => fun
  | [d1, d2, d3] => { results := [.lit (.bool false)], args := [d1, d2, d3] }
  | _ => none }
def DeriveMonotoneWrongFalsely : Prop := deriveMonotoneRow.holds Tryz.pinned (OpenSpec.ofChange deriveMonotoneWrong)

/-- 'relucertlaw21.RowsAll': WHATEVER THE INPUT: true; the input reads as it did. -/
def rowsAllSpec : ChangeSpec := { name := "rowsAll", fn := fun _ => fun
  | [d1, d2] => { results := [.lit (.bool true)], args := [d1, d2] }
  | _ => none }
def rowsAllRow : OpenClaim := { program := "ytgcpehdkdnkgeaagreat", sum := "2332ca13cf476de1d5d55aa74d2c20d9ea609388b30b754d235b5caf85fed01f", func := "relucert/relucertlaw21.RowsAll", spec := "rowsAll", unfollowed := true, recurses := true, apart := false }
def RowsAllSaid : Prop := rowsAllRow.holds Tryz.pinned (OpenSpec.ofChange rowsAllSpec)

/-- ITS FALSE NEIGHBOUR: 'it returns false'. Refute it at one input. -/
def rowsAllWrong : ChangeSpec := { name := "rowsAll", fn := fun _ => fun
  | [d1, d2] => { results := [.lit (.bool false)], args := [d1, d2] }
  | _ => none }
def RowsAllWrongFalsely : Prop := rowsAllRow.holds Tryz.pinned (OpenSpec.ofChange rowsAllWrong)

/-- 'relucertlaw21.RowsSound': WHATEVER THE INPUT: true; the input reads as it did. -/
def rowsSoundSpec : ChangeSpec := { name := "rowsSound", fn := fun _ => fun
  | [d1, d2, d3] => { results := [.lit (.bool true)], args := [d1, d2, d3] }
  | _ => none }
def rowsSoundRow : OpenClaim := { program := "ytgcpehdkdnkgeaagreat", sum := "2332ca13cf476de1d5d55aa74d2c20d9ea609388b30b754d235b5caf85fed01f", func := "relucert/relucertlaw21.RowsSound", spec := "rowsSound", unfollowed := true, recurses := true, apart := false }
def RowsSoundSaid : Prop := rowsSoundRow.holds Tryz.pinned (OpenSpec.ofChange rowsSoundSpec)

/-- ITS FALSE NEIGHBOUR: 'it returns false'. Refute it at one input. -/
def rowsSoundWrong : ChangeSpec := { name := "rowsSound", fn := fun _ => fun
  | [d1, d2, d3] => { results := [.lit (.bool false)], args := [d1, d2, d3] }
  | _ => none }
def RowsSoundWrongFalsely : Prop := rowsSoundRow.holds Tryz.pinned (OpenSpec.ofChange rowsSoundWrong)

/-- 'relucertlaw21.RowsSingle': WHATEVER THE INPUT: true; the input reads as it did. -/
def rowsSingleSpec : ChangeSpec := { name := "rowsSingle", fn := fun _ => fun
  | [d1, d2, d3] => { results := [.lit (.bool true)], args := [d1, d2, d3] }
  | _ => none }
def rowsSingleRow : OpenClaim := { program := "ytgcpehdkdnkgeaagreat", sum := "2332ca13cf476de1d5d55aa74d2c20d9ea609388b30b754d235b5caf85fed01f", func := "relucert/relucertlaw21.RowsSingle", spec := "rowsSingle", unfollowed := true, recurses := true, apart := false }
def RowsSingleSaid : Prop := rowsSingleRow.holds Tryz.pinned (OpenSpec.ofChange rowsSingleSpec)

/-- ITS FALSE NEIGHBOUR: 'it returns false'. Refute it at one input. -/
def rowsSingleWrong : ChangeSpec := { name := "rowsSingle", fn := fun _ => fun
  | [d1, d2, d3] => { results := [.lit (.bool false)], args := [d1, d2, d3] }
  | _ => none }
def RowsSingleWrongFalsely : Prop := rowsSingleRow.holds Tryz.pinned (OpenSpec.ofChange rowsSingleWrong)

/-- 'relucertlaw21.RowsValid': WHATEVER THE INPUT: true; the input reads as it did. -/
def rowsValidSpec : ChangeSpec := { name := "rowsValid", fn := fun _ => fun
  | [d1, d2, d3] => { results := [.lit (.bool true)], args := [d1, d2, d3] }
  | _ => none }
def rowsValidRow : OpenClaim := { program := "ytgcpehdkdnkgeaagreat", sum := "2332ca13cf476de1d5d55aa74d2c20d9ea609388b30b754d235b5caf85fed01f", func := "relucert/relucertlaw21.RowsValid", spec := "rowsValid", unfollowed := true, recurses := true, apart := false }
def RowsValidSaid : Prop := rowsValidRow.holds Tryz.pinned (OpenSpec.ofChange rowsValidSpec)

/-- ITS FALSE NEIGHBOUR: 'it returns false'. Refute it at one input. -/
def rowsValidWrong : ChangeSpec := { name := "rowsValid", fn := fun _ => fun
  | [d1, d2, d3] => { results := [.lit (.bool false)], args := [d1, d2, d3] }
  | _ => none }
def RowsValidWrongFalsely : Prop := rowsValidRow.holds Tryz.pinned (OpenSpec.ofChange rowsValidWrong)

/-- 'relucertlaw21.RowsMember': WHATEVER THE INPUT: true; the input reads as it did. -/
def rowsMemberSpec : ChangeSpec := { name := "rowsMember", fn := fun _ => fun
  | [d1, d2, d3] => { results := [.lit (.bool true)], args := [d1, d2, d3] }
  | _ => none }
def rowsMemberRow : OpenClaim := { program := "ytgcpehdkdnkgeaagreat", sum := "2332ca13cf476de1d5d55aa74d2c20d9ea609388b30b754d235b5caf85fed01f", func := "relucert/relucertlaw21.RowsMember", spec := "rowsMember", unfollowed := true, recurses := true, apart := false }
def RowsMemberSaid : Prop := rowsMemberRow.holds Tryz.pinned (OpenSpec.ofChange rowsMemberSpec)

/-- ITS FALSE NEIGHBOUR: 'it returns false'. Refute it at one input. -/
def rowsMemberWrong : ChangeSpec := { name := "rowsMember", fn := fun _ => fun
  | [d1, d2, d3] => { results := [.lit (.bool false)], args := [d1, d2, d3] }
  | _ => none }
def RowsMemberWrongFalsely : Prop := rowsMemberRow.holds Tryz.pinned (OpenSpec.ofChange rowsMemberWrong)

/-- 'relucertlaw21.RowsGoal': WHATEVER THE INPUT: true; the input reads as it did. -/
def rowsGoalSpec : ChangeSpec := { name := "rowsGoal", fn := fun _ => fun
  | [d1, d2, d3] => { results := [.lit (.bool true)], args := [d1, d2, d3] }
  | _ => none }
def rowsGoalRow : OpenClaim := { program := "ytgcpehdkdnkgeaagreat", sum := "2332ca13cf476de1d5d55aa74d2c20d9ea609388b30b754d235b5caf85fed01f", func := "relucert/relucertlaw21.RowsGoal", spec := "rowsGoal", unfollowed := true, recurses := true, apart := false }
def RowsGoalSaid : Prop := rowsGoalRow.holds Tryz.pinned (OpenSpec.ofChange rowsGoalSpec)

/-- ITS FALSE NEIGHBOUR: 'it returns false'. Refute it at one input. -/
def rowsGoalWrong : ChangeSpec := { name := "rowsGoal", fn := fun _ => fun
  | [d1, d2, d3] => { results := [.lit (.bool false)], args := [d1, d2, d3] }
  | _ => none }
def RowsGoalWrongFalsely : Prop := rowsGoalRow.holds Tryz.pinned (OpenSpec.ofChange rowsGoalWrong)

/-- 'relucertlaw21.RowsExact': WHATEVER THE INPUT: true; the input reads as it did. -/
def rowsExactSpec : ChangeSpec := { name := "rowsExact", fn := fun _ => fun
  | [d1, d2, d3] => { results := [.lit (.bool true)], args := [d1, d2, d3] }
  | _ => none }
def rowsExactRow : OpenClaim := { program := "ytgcpehdkdnkgeaagreat", sum := "2332ca13cf476de1d5d55aa74d2c20d9ea609388b30b754d235b5caf85fed01f", func := "relucert/relucertlaw21.RowsExact", spec := "rowsExact", unfollowed := true, recurses := true, apart := false }
def RowsExactSaid : Prop := rowsExactRow.holds Tryz.pinned (OpenSpec.ofChange rowsExactSpec)

/-- ITS FALSE NEIGHBOUR: 'it returns false'. Refute it at one input. -/
def rowsExactWrong : ChangeSpec := { name := "rowsExact", fn := fun _ => fun
  | [d1, d2, d3] => { results := [.lit (.bool false)], args := [d1, d2, d3] }
  | _ => none }
def RowsExactWrongFalsely : Prop := rowsExactRow.holds Tryz.pinned (OpenSpec.ofChange rowsExactWrong)

/-- 'relucertlaw22.DeriveCombine': WHATEVER THE INPUT: true; the input reads as it did. -/
def deriveCombineSpec : ChangeSpec := { name := "deriveCombine", fn := fun _ => fun
  | [d1, d2, d3] => { results := [.lit (.bool true)], args := [d1, d2, d3] }
  | _ => none }
def deriveCombineRow : OpenClaim := { program := "ytgcpehdkdnkgeaagreat", sum := "2332ca13cf476de1d5d55aa74d2c20d9ea609388b30b754d235b5caf85fed01f", func := "relucert/relucertlaw22.DeriveCombine", spec := "deriveCombine", unfollowed := true, recurses := true, apart := false }
def DeriveCombineSaid : Prop := deriveCombineRow.holds Tryz.pinned (OpenSpec.ofChange deriveCombineSpec)

/-- ITS FALSE NEIGHBOUR: 'it returns false'. Refute it at one input. -/
def deriveCombineWrong : ChangeSpec := { name := "deriveCombine", fn := fun _ => fun
  | [d1, d2, d3] => { results := [.lit (.bool false)], args := [d1, d2, d3] }
  | _ => none }
def DeriveCombineWrongFalsely : Prop := deriveCombineRow.holds Tryz.pinned (OpenSpec.ofChange deriveCombineWrong)

/- THE SECOND FORM. 'bulk': how many values and letters a reading holds, each counted each time it is reached (what is shared counts as often as it is met; a slice's spare places count too). A statement '..UptoSaid' is the law's where the arguments, and the package variables that the reading takes, are together of bulk at most 1048576: NARROWER than '..Said'. Prove '..Said' where nothing that the law and all that it calls make is longer than what came in: it says more and counts as full. Else prove '..UptoSaid'. A law counts once. -/
mutual
def uptoBulk {H : Type} : DataW H → Nat
  | .lit (.string bytes) => bytes.length + 1
  | .lit _ => 1
  | .nil => 1
  | .ptr d => uptoBulk d + 1
  | .slice elems spare => uptoBulkAll elems + uptoBulkAll spare + 1
  | .agg parts => uptoBulkAll parts + 1
  | .iface _ d => uptoBulk d + 1
  | .map entries => uptoBulkEntries entries + 1
  | .held _ => 1
def uptoBulkAll {H : Type} : List (DataW H) → Nat
  | [] => 0
  | d :: r => uptoBulk d + uptoBulkAll r
def uptoBulkEntries {H : Type} : List (Lit × DataW H) → Nat
  | [] => 0
  | x :: r => uptoBulkEntry x + uptoBulkEntries r
def uptoBulkEntry {H : Type} : Lit × DataW H → Nat
  | (.string bytes, d) => bytes.length + uptoBulk d + 1
  | (_, d) => uptoBulk d + 1
 end
def uptoSmall : (H : Type) → List (DataW H) → Bool := fun _ ds => decide (uptoBulkAll ds ≤ 1048576)
def OpenSpec.upto (s : _root_.Go.ChangeSpec) : _root_.Go.OpenSpec := { _root_.Go.OpenSpec.ofChange s with cond := some uptoSmall }

/-- 'relucertlaw22.DeriveScope', WHERE WHAT IT READS IS OF BULK AT MOST 1048576: true; the input reads as it did. -/
def deriveScopeUptoRow : OpenClaim := { program := "ytgcpehdkdnkgeaagreat", sum := "2332ca13cf476de1d5d55aa74d2c20d9ea609388b30b754d235b5caf85fed01f", func := "relucert/relucertlaw22.DeriveScope", spec := "deriveScope", unfollowed := true, recurses := true, apart := false, narrowed := true }
def DeriveScopeUptoSaid : Prop := deriveScopeUptoRow.holds Tryz.pinned (OpenSpec.upto deriveScopeSpec)

/-- 'relucertlaw22.DeriveMonotone', WHERE WHAT IT READS IS OF BULK AT MOST 1048576: true; the input reads as it did. -/
def deriveMonotoneUptoRow : OpenClaim := { program := "ytgcpehdkdnkgeaagreat", sum := "2332ca13cf476de1d5d55aa74d2c20d9ea609388b30b754d235b5caf85fed01f", func := "relucert/relucertlaw22.DeriveMonotone", spec := "deriveMonotone", unfollowed := true, recurses := true, apart := false, narrowed := true }
def DeriveMonotoneUptoSaid : Prop := deriveMonotoneUptoRow.holds Tryz.pinned (OpenSpec.upto deriveMonotoneSpec)

/-- 'relucertlaw21.RowsAll', WHERE WHAT IT READS IS OF BULK AT MOST 1048576: true; the input reads as it did. -/
def rowsAllUptoRow : OpenClaim := { program := "ytgcpehdkdnkgeaagreat", sum := "2332ca13cf476de1d5d55aa74d2c20d9ea609388b30b754d235b5caf85fed01f", func := "relucert/relucertlaw21.RowsAll", spec := "rowsAll", unfollowed := true, recurses := true, apart := false, narrowed := true }
def RowsAllUptoSaid : Prop := rowsAllUptoRow.holds Tryz.pinned (OpenSpec.upto rowsAllSpec)

/-- 'relucertlaw21.RowsSound', WHERE WHAT IT READS IS OF BULK AT MOST 1048576: true; the input reads as it did. -/
def rowsSoundUptoRow : OpenClaim := { program := "ytgcpehdkdnkgeaagreat", sum := "2332ca13cf476de1d5d55aa74d2c20d9ea609388b30b754d235b5caf85fed01f", func := "relucert/relucertlaw21.RowsSound", spec := "rowsSound", unfollowed := true, recurses := true, apart := false, narrowed := true }
def RowsSoundUptoSaid : Prop := rowsSoundUptoRow.holds Tryz.pinned (OpenSpec.upto rowsSoundSpec)

/-- 'relucertlaw21.RowsSingle', WHERE WHAT IT READS IS OF BULK AT MOST 1048576: true; the input reads as it did. -/
def rowsSingleUptoRow : OpenClaim := { program := "ytgcpehdkdnkgeaagreat", sum := "2332ca13cf476de1d5d55aa74d2c20d9ea609388b30b754d235b5caf85fed01f", func := "relucert/relucertlaw21.RowsSingle", spec := "rowsSingle", unfollowed := true, recurses := true, apart := false, narrowed := true }
def RowsSingleUptoSaid : Prop := rowsSingleUptoRow.holds Tryz.pinned (OpenSpec.upto rowsSingleSpec)

/-- 'relucertlaw21.RowsValid', WHERE WHAT IT READS IS OF BULK AT MOST 1048576: true; the input reads as it did. -/
def rowsValidUptoRow : OpenClaim := { program := "ytgcpehdkdnkgeaagreat", sum := "2332ca13cf476de1d5d55aa74d2c20d9ea609388b30b754d235b5caf85fed01f", func := "relucert/relucertlaw21.RowsValid", spec := "rowsValid", unfollowed := true, recurses := true, apart := false, narrowed := true }
def RowsValidUptoSaid : Prop := rowsValidUptoRow.holds Tryz.pinned (OpenSpec.upto rowsValidSpec)

/-- 'relucertlaw21.RowsMember', WHERE WHAT IT READS IS OF BULK AT MOST 1048576: true; the input reads as it did. -/
def rowsMemberUptoRow : OpenClaim := { program := "ytgcpehdkdnkgeaagreat", sum := "2332ca13cf476de1d5d55aa74d2c20d9ea609388b30b754d235b5caf85fed01f", func := "relucert/relucertlaw21.RowsMember", spec := "rowsMember", unfollowed := true, recurses := true, apart := false, narrowed := true }
def RowsMemberUptoSaid : Prop := rowsMemberUptoRow.holds Tryz.pinned (OpenSpec.upto rowsMemberSpec)

/-- 'relucertlaw21.RowsGoal', WHERE WHAT IT READS IS OF BULK AT MOST 1048576: true; the input reads as it did. -/
def rowsGoalUptoRow : OpenClaim := { program := "ytgcpehdkdnkgeaagreat", sum := "2332ca13cf476de1d5d55aa74d2c20d9ea609388b30b754d235b5caf85fed01f", func := "relucert/relucertlaw21.RowsGoal", spec := "rowsGoal", unfollowed := true, recurses := true, apart := false, narrowed := true }
def RowsGoalUptoSaid : Prop := rowsGoalUptoRow.holds Tryz.pinned (OpenSpec.upto rowsGoalSpec)

/-- 'relucertlaw21.RowsExact', WHERE WHAT IT READS IS OF BULK AT MOST 1048576: true; the input reads as it did. -/
def rowsExactUptoRow : OpenClaim := { program := "ytgcpehdkdnkgeaagreat", sum := "2332ca13cf476de1d5d55aa74d2c20d9ea609388b30b754d235b5caf85fed01f", func := "relucert/relucertlaw21.RowsExact", spec := "rowsExact", unfollowed := true, recurses := true, apart := false, narrowed := true }
def RowsExactUptoSaid : Prop := rowsExactUptoRow.holds Tryz.pinned (OpenSpec.upto rowsExactSpec)

/-- 'relucertlaw22.DeriveCombine', WHERE WHAT IT READS IS OF BULK AT MOST 1048576: true; the input reads as it did. -/
def deriveCombineUptoRow : OpenClaim := { program := "ytgcpehdkdnkgeaagreat", sum := "2332ca13cf476de1d5d55aa74d2c20d9ea609388b30b754d235b5caf85fed01f", func := "relucert/relucertlaw22.DeriveCombine", spec := "deriveCombine", unfollowed := true, recurses := true, apart := false, narrowed := true }
def DeriveCombineUptoSaid : Prop := deriveCombineUptoRow.holds Tryz.pinned (OpenSpec.upto deriveCombineSpec)

end Rows
end Go.Proofs.YtgcpehdkdnkgeaaGreat
