/-
  No cell of these rows narrows 'for every input' (looked for: loops, veiled, ifaces, maps, wideKeys, modest, calm, conditions, laid).
  DERIVED. THE GIVEN ROWS OF THIS SEAT. 9 by the template 'for every input the law returns true; each argument reads behind the call as it read before'; 0 by the template 'total and deterministic' (their statements: YtcanljninhfmhaaGreatTotals.lean).
  GIVEN WITH THE SEED: the statements are not yours to turn. If you find one false, say at which input.
  Laid BY PROGRAM, IN A SANDBOX (cutbox-rows.mjs): the forced cells as the released guide's own fill.sh prints them over the translation 646c6397a41f0202… (all of the seat's roots in one cut). By AI agents, Wed Nov 11 2026. No macro, syntax, notation, axiom, sorry.
-/
import Derived.Test.YtcanljninhfmhaaGreatChecked
import GoSem.Claim
import GoSem.ClaimJoined
import GoSem.ClaimMapViews
import Derived.JoinedTies
import Derived.KernelRfl
namespace Go.Proofs.YtcanljninhfmhaaGreat
/- THE CELL 'sum', in the pinned program and in every row, IS THE sha256 OF THE DUMP (.gsa) THAT YtcanljninhfmhaaGreatProg.lean LOADS. Nothing in Lean hashes anything: it is a label: what it is worth is what the hold of that sum in a sandbox is worth. -/
noncomputable def Tryz.pinned : Pinned := { name := "ytcanljninhfmhaagreat", sum := "646c6397a41f0202fc3026da48bdbdee40f3b5cd0102eb336adb1ad87aff7818", checked := Tryz.checked }
namespace Rows
def none {H : Type} : Left H := { results := [], args := [] }

/-- 'relucertlaw22.DeriveSum': WHATEVER THE INPUT: true; the input reads as it did. -/
def deriveSumSpec : ChangeSpec := { name := "deriveSum", fn := fun _ => fun
  | [d1, d2] => { results := [.lit (.bool true)], args := [d1, d2] }
  | _ => none }
def deriveSumRow : OpenClaim := { program := "ytcanljninhfmhaagreat", sum := "646c6397a41f0202fc3026da48bdbdee40f3b5cd0102eb336adb1ad87aff7818", func := "relucert/relucertlaw22.DeriveSum", spec := "deriveSum", unfollowed := true, recurses := true, apart := false }
def DeriveSumSaid : Prop := deriveSumRow.holds Tryz.pinned (OpenSpec.ofChange deriveSumSpec)

/-- ITS FALSE NEIGHBOUR: 'it returns false'. Refute it at one input. -/
def deriveSumWrong : ChangeSpec := { name := "deriveSum", fn := fun _ => fun
  | [d1, d2] => { results := [.lit (.bool false)], args := [d1, d2] }
  | _ => none }
def DeriveSumWrongFalsely : Prop := deriveSumRow.holds Tryz.pinned (OpenSpec.ofChange deriveSumWrong)

/-- 'relucertlaw22.DeriveProves': WHATEVER THE INPUT: true; the input reads as it did. -/
def deriveProvesSpec : ChangeSpec := { name := "deriveProves", fn := fun _ => fun
  | [d1, d2, d3] => { results := [.lit (.bool true)], args := [d1, d2, d3] }
  | _ => none }
def deriveProvesRow : OpenClaim := { program := "ytcanljninhfmhaagreat", sum := "646c6397a41f0202fc3026da48bdbdee40f3b5cd0102eb336adb1ad87aff7818", func := "relucert/relucertlaw22.DeriveProves", spec := "deriveProves", unfollowed := true, recurses := true, apart := false }
def DeriveProvesSaid : Prop := deriveProvesRow.holds Tryz.pinned (OpenSpec.ofChange deriveProvesSpec)

/-- ITS FALSE NEIGHBOUR: 'it returns false'. Refute it at one input. -/
def deriveProvesWrong : ChangeSpec := { name := "deriveProves", fn := fun _ => fun
  | [d1, d2, d3] => { results := [.lit (.bool false)], args := [d1, d2, d3] }
  | _ => none }
def DeriveProvesWrongFalsely : Prop := deriveProvesRow.holds Tryz.pinned (OpenSpec.ofChange deriveProvesWrong)

/-- 'relucertlaw22.DeriveSound': WHATEVER THE INPUT: true; the input reads as it did. -/
def deriveSoundSpec : ChangeSpec := { name := "deriveSound", fn := fun _ => fun
  | [d1, d2, d3] => { results := [.lit (.bool true)], args := [d1, d2, d3] }
  | _ => none }
def deriveSoundRow : OpenClaim := { program := "ytcanljninhfmhaagreat", sum := "646c6397a41f0202fc3026da48bdbdee40f3b5cd0102eb336adb1ad87aff7818", func := "relucert/relucertlaw22.DeriveSound", spec := "deriveSound", unfollowed := true, recurses := true, apart := false }
def DeriveSoundSaid : Prop := deriveSoundRow.holds Tryz.pinned (OpenSpec.ofChange deriveSoundSpec)

/-- ITS FALSE NEIGHBOUR: 'it returns false'. Refute it at one input. -/
def deriveSoundWrong : ChangeSpec := { name := "deriveSound", fn := fun _ => fun
  | [d1, d2, d3] => { results := [.lit (.bool false)], args := [d1, d2, d3] }
  | _ => none }
def DeriveSoundWrongFalsely : Prop := deriveSoundRow.holds Tryz.pinned (OpenSpec.ofChange deriveSoundWrong)

/-- 'relucertlaw22.DeriveForged': WHATEVER THE INPUT: true; the input reads as it did. -/
def deriveForgedSpec : ChangeSpec := { name := "deriveForged", fn := fun _ => fun
  | [d1, d2, d3] => { results := [.lit (.bool true)], args := [d1, d2, d3] }
  | _ => none }
def deriveForgedRow : OpenClaim := { program := "ytcanljninhfmhaagreat", sum := "646c6397a41f0202fc3026da48bdbdee40f3b5cd0102eb336adb1ad87aff7818", func := "relucert/relucertlaw22.DeriveForged", spec := "deriveForged", unfollowed := true, recurses := true, apart := false }
def DeriveForgedSaid : Prop := deriveForgedRow.holds Tryz.pinned (OpenSpec.ofChange deriveForgedSpec)

/-- ITS FALSE NEIGHBOUR: 'it returns false'. Refute it at one input. -/
def deriveForgedWrong : ChangeSpec := { name := "deriveForged", fn := fun _ => fun
  | [d1, d2, d3] => { results := [.lit (.bool false)], args := [d1, d2, d3] }
  | _ => none }
def DeriveForgedWrongFalsely : Prop := deriveForgedRow.holds Tryz.pinned (OpenSpec.ofChange deriveForgedWrong)

/-- 'relucertlaw22.DeriveLemmas': WHATEVER THE INPUT: true; the input reads as it did. -/
def deriveLemmasSpec : ChangeSpec := { name := "deriveLemmas", fn := fun _ => fun
  | [d1, d2] => { results := [.lit (.bool true)], args := [d1, d2] }
  | _ => none }
def deriveLemmasRow : OpenClaim := { program := "ytcanljninhfmhaagreat", sum := "646c6397a41f0202fc3026da48bdbdee40f3b5cd0102eb336adb1ad87aff7818", func := "relucert/relucertlaw22.DeriveLemmas", spec := "deriveLemmas", unfollowed := true, recurses := true, apart := false }
def DeriveLemmasSaid : Prop := deriveLemmasRow.holds Tryz.pinned (OpenSpec.ofChange deriveLemmasSpec)

/-- ITS FALSE NEIGHBOUR: 'it returns false'. Refute it at one input. -/
def deriveLemmasWrong : ChangeSpec := { name := "deriveLemmas", fn := fun _ => fun
  | [d1, d2] => { results := [.lit (.bool false)], args := [d1, d2] }
  | _ => none }
def DeriveLemmasWrongFalsely : Prop := deriveLemmasRow.holds Tryz.pinned (OpenSpec.ofChange deriveLemmasWrong)

/-- 'relucertlaw22.DeriveScope': WHATEVER THE INPUT: true; the input reads as it did. -/
def deriveScopeSpec : ChangeSpec := { name := "deriveScope", fn := fun _ => fun
  | [d1, d2, d3] => { results := [.lit (.bool true)], args := [d1, d2, d3] }
  | _ => none }
def deriveScopeRow : OpenClaim := { program := "ytcanljninhfmhaagreat", sum := "646c6397a41f0202fc3026da48bdbdee40f3b5cd0102eb336adb1ad87aff7818", func := "relucert/relucertlaw22.DeriveScope", spec := "deriveScope", unfollowed := true, recurses := true, apart := false }
def DeriveScopeSaid : Prop := deriveScopeRow.holds Tryz.pinned (OpenSpec.ofChange deriveScopeSpec)

/-- ITS FALSE NEIGHBOUR: 'it returns false'. Refute it at one input. -/
def deriveScopeWrong : ChangeSpec := { name := "deriveScope", fn := fun _ => fun
  | [d1, d2, d3] => { results := [.lit (.bool false)], args := [d1, d2, d3] }
  | _ => none }
def DeriveScopeWrongFalsely : Prop := deriveScopeRow.holds Tryz.pinned (OpenSpec.ofChange deriveScopeWrong)

/-- 'relucertlaw22.DeriveMonotone': WHATEVER THE INPUT: true; the input reads as it did. -/
def deriveMonotoneSpec : ChangeSpec := { name := "deriveMonotone", fn := fun _ => fun
  | [d1, d2, d3] => { results := [.lit (.bool true)], args := [d1, d2, d3] }
  | _ => none }
def deriveMonotoneRow : OpenClaim := { program := "ytcanljninhfmhaagreat", sum := "646c6397a41f0202fc3026da48bdbdee40f3b5cd0102eb336adb1ad87aff7818", func := "relucert/relucertlaw22.DeriveMonotone", spec := "deriveMonotone", unfollowed := true, recurses := true, apart := false }
def DeriveMonotoneSaid : Prop := deriveMonotoneRow.holds Tryz.pinned (OpenSpec.ofChange deriveMonotoneSpec)

/-- ITS FALSE NEIGHBOUR: 'it returns false'. Refute it at one input. -/
def deriveMonotoneWrong : ChangeSpec := { name := "deriveMonotone", fn := fun _ => fun
  | [d1, d2, d3] => { results := [.lit (.bool false)], args := [d1, d2, d3] }
  | _ => none }
def DeriveMonotoneWrongFalsely : Prop := deriveMonotoneRow.holds Tryz.pinned (OpenSpec.ofChange deriveMonotoneWrong)

/-- 'relucertlaw22.DeriveCollect': WHATEVER THE INPUT: true; the input reads as it did. -/
def deriveCollectSpec : ChangeSpec := { name := "deriveCollect", fn := fun _ => fun
  | [d] => { results := [.lit (.bool true)], args := [d] }
  | _ => none }
def deriveCollectRow : OpenClaim := { program := "ytcanljninhfmhaagreat", sum := "646c6397a41f0202fc3026da48bdbdee40f3b5cd0102eb336adb1ad87aff7818", func := "relucert/relucertlaw22.DeriveCollect", spec := "deriveCollect", unfollowed := true, recurses := true, apart := false }
def DeriveCollectSaid : Prop := deriveCollectRow.holds Tryz.pinned (OpenSpec.ofChange deriveCollectSpec)

/-- ITS FALSE NEIGHBOUR: 'it returns false'. Refute it at one input. -/
def deriveCollectWrong : ChangeSpec := { name := "deriveCollect", fn := fun _ => fun
  | [d] => { results := [.lit (.bool false)], args := [d] }
  | _ => none }
def DeriveCollectWrongFalsely : Prop := deriveCollectRow.holds Tryz.pinned (OpenSpec.ofChange deriveCollectWrong)

/-- 'relucertlaw22.DeriveCombine': WHATEVER THE INPUT: true; the input reads as it did. -/
def deriveCombineSpec : ChangeSpec := { name := "deriveCombine", fn := fun _ => fun
  | [d1, d2, d3] => { results := [.lit (.bool true)], args := [d1, d2, d3] }
  | _ => none }
def deriveCombineRow : OpenClaim := { program := "ytcanljninhfmhaagreat", sum := "646c6397a41f0202fc3026da48bdbdee40f3b5cd0102eb336adb1ad87aff7818", func := "relucert/relucertlaw22.DeriveCombine", spec := "deriveCombine", unfollowed := true, recurses := true, apart := false }
def DeriveCombineSaid : Prop := deriveCombineRow.holds Tryz.pinned (OpenSpec.ofChange deriveCombineSpec)

/-- ITS FALSE NEIGHBOUR: 'it returns false'. Refute it at one input. -/
def deriveCombineWrong : ChangeSpec := { name := "deriveCombine", fn := fun _ => fun
  | [d1, d2, d3] => { results := [.lit (.bool false)], args := [d1, d2, d3] }
  | _ => none }
def DeriveCombineWrongFalsely : Prop := deriveCombineRow.holds Tryz.pinned (OpenSpec.ofChange deriveCombineWrong)

/- THE SECOND FORM. 'bulk': how many values and letters a reading holds, each counted each time it is reached (what is shared counts as often as it is met; a slice's spare places count too). A statement '..UptoSaid' is the law's where the arguments, and the package variables that the reading takes, are together of bulk at most 1048576: NARROWER than '..Said'. Prove '..Said' where nothing that the law and all that it calls make is longer than what came in: it says more and counts as full. Else prove '..UptoSaid'. A law counts once. -/
mutual
def uptoBulk {H : Type} : DataW H → Nat
  | .lit (.string bytes) => bytes.length + 1
  | .lit _ => 1
  | .nil => 1
  | .ptr d => uptoBulk d + 1
  | .slice elems spare => uptoBulkAll elems + uptoBulkAll spare + 1
  | .agg parts => uptoBulkAll parts + 1
  | .iface _ d => uptoBulk d + 1
  | .map entries => uptoBulkEntries entries + 1
  | .held _ => 1
def uptoBulkAll {H : Type} : List (DataW H) → Nat
  | [] => 0
  | d :: r => uptoBulk d + uptoBulkAll r
def uptoBulkEntries {H : Type} : List (Lit × DataW H) → Nat
  | [] => 0
  | x :: r => uptoBulkEntry x + uptoBulkEntries r
def uptoBulkEntry {H : Type} : Lit × DataW H → Nat
  | (.string bytes, d) => bytes.length + uptoBulk d + 1
  | (_, d) => uptoBulk d + 1
 end
def uptoSmall : (H : Type) → List (DataW H) → Bool := fun _ ds => decide (uptoBulkAll ds ≤ 1048576)
def OpenSpec.upto (s : _root_.Go.ChangeSpec) : _root_.Go.OpenSpec := { _root_.Go.OpenSpec.ofChange s with cond := some uptoSmall }

/-- 'relucertlaw22.DeriveSum', WHERE WHAT IT READS IS OF BULK AT MOST 1048576: true; the input reads as it did. -/
def deriveSumUptoRow : OpenClaim := { program := "ytcanljninhfmhaagreat", sum := "646c6397a41f0202fc3026da48bdbdee40f3b5cd0102eb336adb1ad87aff7818", func := "relucert/relucertlaw22.DeriveSum", spec := "deriveSum", unfollowed := true, recurses := true, apart := false, narrowed := true }
def DeriveSumUptoSaid : Prop := deriveSumUptoRow.holds Tryz.pinned (OpenSpec.upto deriveSumSpec)

/-- 'relucertlaw22.DeriveProves', WHERE WHAT IT READS IS OF BULK AT MOST 1048576: true; the input reads as it did. -/
def deriveProvesUptoRow : OpenClaim := { program := "ytcanljninhfmhaagreat", sum := "646c6397a41f0202fc3026da48bdbdee40f3b5cd0102eb336adb1ad87aff7818", func := "relucert/relucertlaw22.DeriveProves", spec := "deriveProves", unfollowed := true, recurses := true, apart := false, narrowed := true }
def DeriveProvesUptoSaid : Prop := deriveProvesUptoRow.holds Tryz.pinned (OpenSpec.upto deriveProvesSpec)

/-- 'relucertlaw22.DeriveSound', WHERE WHAT IT READS IS OF BULK AT MOST 1048576: true; the input reads as it did. -/
def deriveSoundUptoRow : OpenClaim := { program := "ytcanljninhfmhaagreat", sum := "646c6397a41f0202fc3026da48bdbdee40f3b5cd0102eb336adb1ad87aff7818", func := "relucert/relucertlaw22.DeriveSound", spec := "deriveSound", unfollowed := true, recurses := true, apart := false, narrowed := true }
def DeriveSoundUptoSaid : Prop := deriveSoundUptoRow.holds Tryz.pinned (OpenSpec.upto deriveSoundSpec)

/-- 'relucertlaw22.DeriveForged', WHERE WHAT IT READS IS OF BULK AT MOST 1048576: true; the input reads as it did. -/
def deriveForgedUptoRow : OpenClaim := { program := "ytcanljninhfmhaagreat", sum := "646c6397a41f0202fc3026da48bdbdee40f3b5cd0102eb336adb1ad87aff7818", func := "relucert/relucertlaw22.DeriveForged", spec := "deriveForged", unfollowed := true, recurses := true, apart := false, narrowed := true }
def DeriveForgedUptoSaid : Prop := deriveForgedUptoRow.holds Tryz.pinned (OpenSpec.upto deriveForgedSpec)

/-- 'relucertlaw22.DeriveLemmas', WHERE WHAT IT READS IS OF BULK AT MOST 1048576: true; the input reads as it did. -/
def deriveLemmasUptoRow : OpenClaim := { program := "ytcanljninhfmhaagreat", sum := "646c6397a41f0202fc3026da48bdbdee40f3b5cd0102eb336adb1ad87aff7818", func := "relucert/relucertlaw22.DeriveLemmas", spec := "deriveLemmas", unfollowed := true, recurses := true, apart := false, narrowed := true }
def DeriveLemmasUptoSaid : Prop := deriveLemmasUptoRow.holds Tryz.pinned (OpenSpec.upto deriveLemmasSpec)

/-- 'relucertlaw22.DeriveScope', WHERE WHAT IT READS IS OF BULK AT MOST 1048576: true; the input reads as it did. -/
def deriveScopeUptoRow : OpenClaim := { program := "ytcanljninhfmhaagreat", sum := "646c6397a41f0202fc3026da48bdbdee40f3b5cd0102eb336adb1ad87aff7818", func := "relucert/relucertlaw22.DeriveScope", spec := "deriveScope", unfollowed := true, recurses := true, apart := false, narrowed := true }
def DeriveScopeUptoSaid : Prop := deriveScopeUptoRow.holds Tryz.pinned (OpenSpec.upto deriveScopeSpec)

/-- 'relucertlaw22.DeriveMonotone', WHERE WHAT IT READS IS OF BULK AT MOST 1048576: true; the input reads as it did. -/
def deriveMonotoneUptoRow : OpenClaim := { program := "ytcanljninhfmhaagreat", sum := "646c6397a41f0202fc3026da48bdbdee40f3b5cd0102eb336adb1ad87aff7818", func := "relucert/relucertlaw22.DeriveMonotone", spec := "deriveMonotone", unfollowed := true, recurses := true, apart := false, narrowed := true }
def DeriveMonotoneUptoSaid : Prop := deriveMonotoneUptoRow.holds Tryz.pinned (OpenSpec.upto deriveMonotoneSpec)

/-- 'relucertlaw22.DeriveCollect', WHERE WHAT IT READS IS OF BULK AT MOST 1048576: true; the input reads as it did. -/
def deriveCollectUptoRow : OpenClaim := { program := "ytcanljninhfmhaagreat", sum := "646c6397a41f0202fc3026da48bdbdee40f3b5cd0102eb336adb1ad87aff7818", func := "relucert/relucertlaw22.DeriveCollect", spec := "deriveCollect", unfollowed := true, recurses := true, apart := false, narrowed := true }
def DeriveCollectUptoSaid : Prop := deriveCollectUptoRow.holds Tryz.pinned (OpenSpec.upto deriveCollectSpec)

/-- 'relucertlaw22.DeriveCombine', WHERE WHAT IT READS IS OF BULK AT MOST 1048576: true; the input reads as it did. -/
def deriveCombineUptoRow : OpenClaim := { program := "ytcanljninhfmhaagreat", sum := "646c6397a41f0202fc3026da48bdbdee40f3b5cd0102eb336adb1ad87aff7818", func := "relucert/relucertlaw22.DeriveCombine", spec := "deriveCombine", unfollowed := true, recurses := true, apart := false, narrowed := true }
def DeriveCombineUptoSaid : Prop := deriveCombineUptoRow.holds Tryz.pinned (OpenSpec.upto deriveCombineSpec)

end Rows
end Go.Proofs.YtcanljninhfmhaaGreat
