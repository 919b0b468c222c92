/- A part of the proof: JfC. -/
import Derived.Test.YtboocdbmnfjomaaGreatV37
import Derived.WalkKit
set_option linter.all false
namespace Go.Proofs.YtboocdbmnfjomaaGreat
open Go Go.ChangeShapes Go.WideShapes Go.ChangeAt Go.RowKit
set_option maxRecDepth 100000
def jfE:Tryz.pinned.checked.prog.mayEnter=true:=by kernel_rfl
def jfL:Tryz.pinned.checked.prog.liftsFinal=false:=by kernel_rfl
def jfM:Tryz.pinned.checked.prog.make=some Rows.cutsProgramUptoRow.make:=by kernel_rfl
end Go.Proofs.YtboocdbmnfjomaaGreat
