/- PROVED HERE: ConflictEmpty returns true for every input, and its arguments read behind the call as they read before (the given statement ConflictEmptySaid). -/
import Derived.Test.YtaeaffgjdcigoaaGreatG52
import Derived.Test.YtaeaffgjdcigoaaGreatG29
import Derived.Test.YtaeaffgjdcigoaaGreatG49
import Derived.WalkKit
set_option linter.all false
namespace Go.Proofs.YtaeaffgjdcigoaaGreat
open Go Go.ChangeShapes Go.WideShapes Go.ChangeAt Go.RowKit
set_option maxRecDepth 100000
theorem conflictEmptyContract (H:Type)(enc:TypeId × Value→H)(W:World)(base:Nat)(args:Array Value)(ds gs:List (DataW H))(before:List MemPlace)
  (hval:∀ (j:Nat) t v,Tryz.f5.params[j]?=some t→args[j]?=some v→Value.okWide Tryz.prog W .any base t v)
  (hW:DataW.Whole enc Tryz.prog Tryz.f5.params.toList Rows.conflictEmptySpec.vars false W args.toList ds gs before) :
  Calls Tryz.prog 5 args W fun e W'=>∃ v,e=.returned v∧Rows.conflictEmptySpec.post enc Tryz.prog Tryz.f5 false true false false W args v W':=by
 have hW':=hW
 obtain⟨p,q,hA0,hV,rfl,hfz,hnd⟩:=hW
 have hA:DataW.TrodAll enc Tryz.prog W 0 (fun _=>true) true Tryz.f5.params.toList args.toList ds p:=hA0
 rw[Tryz.params5] at hA hval
 obtain⟨v0,vs0,d0,ds0,p0,q0,e0,rfl,rfl,h0,r0⟩:=trodAll_cons hA
 obtain⟨v1,vs1,d1,ds1,p1,q1,e1,rfl,rfl,h1,r1⟩:=trodAll_cons r0
 obtain⟨rfl,rfl,rfl⟩:=trodAll_nil r1
 subst e1
 obtain rfl:args=#[v0,v1]:=by cases args;simp_all
 obtain⟨n0,hn0⟩:=h0
 have hok0:=hval 0 _ v0 rfl rfl
 have g0:v0.cells.toList=[v0]:=by
  cases v0 <;> first | rfl | exact absurd hok0 (by simp [Value.okWide,Tryz.underlying22,Cell.okWide,Cell.ok])
 rw[g0] at hn0
 obtain⟨l0,hl0,hc0⟩:=(HV W).rd hn0
 obtain⟨n1,hn1⟩:=h1
 have hok1:=hval 1 _ v1 rfl rfl
 have g1:v1.cells.toList=[v1]:=by
  cases v1 <;> first | rfl | exact absurd hok1 (by simp [Value.okWide,Tryz.underlying5,Cell.okWide,Cell.ok])
 rw[g1] at hn1
 obtain⟨l1,hl1,hc1⟩:=(rU8 W).rd hn1
 refine Jl rfl (by kernel_rfl) rfl (by rw[Tryz.params5];decide) hW' (Mi l0 l1 hl0) rfl (fun j hj=>?_)
 match j,hj with
 | 0,_=>exact .c rfl hc0.1.1
 | 1,_=>exact .c rfl hc1.1.1
theorem conflictEmptyLifted (os:Os)(started:os.Started)(H:Type)(enc:TypeId × Value→H) :
  ReturnsInHanded {} Tryz.checked os 5 .any (Rows.conflictEmptySpec.pre6 enc Tryz.prog Tryz.f5 Rows.conflictEmptyRow.domain false) (Rows.conflictEmptySpec.post enc Tryz.prog Tryz.f5 false true false false):=by
 refine returnsInHanded_of_change (C:=Tryz.checked) (s:=Rows.conflictEmptySpec) own started (by kernel_rfl) Tryz.func5
  (ChangeSpec.witness6 (enc:=enc) (C:=Tryz.checked) (s:=Rows.conflictEmptySpec) false ⟨#[],#[.slice none 0 0,.int .u8 0],[]⟩ 8 (by kernel_rfl) (by kernel_rfl) (by kernel_rfl) (by kernel_rfl)) ?_
 intro W base args ds gs before hval hW _ _
 exact conflictEmptyContract H enc W base args ds gs before hval hW
theorem conflictEmptyT1:joinedFacts Tryz.pinned.checked.prog 5 Tryz.f5 Rows.conflictEmptySpec Rows.conflictEmptyRow=true:=by
 unfold joinedFacts
 rw[jfE,jfL,jfM]
 kernel_rfl
theorem conflictEmptyT2:Tryz.pinned.checked.prog.funcNamed Rows.conflictEmptyRow.func=some 5:=by kernel_rfl
theorem conflictEmptyT3:Tryz.f5.isInstance Tryz.pinned.checked.prog Rows.conflictEmptyRow.origin Rows.conflictEmptyRow.targs:=(of_decide_eq_true (by kernel_rfl))
theorem conflictEmptyT4:Tryz.f5.isWrapper Tryz.pinned.checked.prog Rows.conflictEmptyRow.wrapper Rows.conflictEmptyRow.mainSum:=(by unfold Func.isWrapper;first | (rw[if_pos (by decide +kernel)];kernel_rfl) | (rw[if_neg (by decide +kernel)];exact⟨rfl,rfl⟩))
theorem conflictEmptyOver:Rows.conflictEmptyRow.holds Tryz.pinned (OpenSpec.ofChange Rows.conflictEmptySpec) :=
 OpenClaim.holds_of_wide 5 Tryz.f5 rfl rfl rfl rfl rfl rfl rfl ⟨rfl,rfl,rfl,rfl,rfl⟩ rfl rfl rfl rfl rfl conflictEmptyT2 Tryz.func5 conflictEmptyT1 conflictEmptyT3 conflictEmptyT4
  (fun os started H enc _=>conflictEmptyLifted os started H enc)
theorem conflictEmpty:Rows.ConflictEmptySaid:=conflictEmptyOver
end Go.Proofs.YtaeaffgjdcigoaaGreat
