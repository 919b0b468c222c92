/- PROVED HERE: CutsContainsInputs returns true for every input of bulk at most 2^20, and its arguments read behind the call as they read before (the given statement CutsContainsInputsUptoSaid). -/
import Derived.Test.YtboocdbmnfjomaaGreatR42
import Derived.Test.YtboocdbmnfjomaaGreatR43
import Derived.Test.YtboocdbmnfjomaaGreatR39
import Derived.WalkKit
set_option linter.all false
namespace Go.Proofs.YtboocdbmnfjomaaGreat
open Go Go.ChangeShapes Go.WideShapes Go.ChangeAt Go.RowKit
set_option maxRecDepth 100000
theorem cutsContainsInputsContract (H:Type)(enc:TypeId × Value→H)(W:World)(base:Nat)(args:Array Value)(ds gs:List (DataW H))(before:List MemPlace)
  (hval:∀ (j:Nat) t v,Tryz.f5.params[j]?=some t→args[j]?=some v→Value.okWide Tryz.prog W .any base t v)
  (hW:DataW.Whole enc Tryz.prog Tryz.f5.params.toList Rows.cutsContainsInputsSpec.vars false W args.toList ds gs before) (hk:Rows.uptoSmall H (ds++gs)=true) :
  Calls Tryz.prog 5 args W fun e W'=>∃ v,e=.returned v∧Rows.cutsContainsInputsSpec.post enc Tryz.prog Tryz.f5 false true false false W args v W':=by
 have hW':=hW
 obtain⟨p,q,hA0,hV,rfl,hfz,hnd⟩:=hW
 have hA:DataW.TrodAll enc Tryz.prog W 0 (fun _=>true) true Tryz.f5.params.toList args.toList ds p:=hA0
 have hk1:Rows.uptoBulkAll (ds++gs)≤1048576:=of_decide_eq_true hk
 have hk2:∀ d,d∈ds→Rows.uptoBulk d≤2^20:=fun d hd=>vV (lP (w6.2 (.inl hd))) hk1
 rw[Tryz.params5] at hA hval
 obtain⟨v0,vs0,d0,ds0,p0,q0,e0,rfl,rfl,h0,r0⟩:=trodAll_cons hA
 obtain⟨v1,vs1,d1,ds1,p1,q1,e1,rfl,rfl,h1,r1⟩:=trodAll_cons r0
 obtain⟨rfl,rfl,rfl⟩:=trodAll_nil r1
 subst e1
 obtain rfl:args=#[v0,v1]:=by cases args;simp_all
 obtain⟨n0,hn0⟩:=h0
 have hok0:=hval 0 _ v0 rfl rfl
 have g0:v0.cells.toList=[v0]:=by
  cases v0 <;> first | rfl | exact absurd hok0 (by simp [Value.okWide,Tryz.underlying22,Cell.okWide,Cell.ok])
 rw[g0] at hn0
 obtain⟨l0,hl0,hc0⟩:=(Yh W).rd hn0
 have hb0:=(Yh W).up _ _ _ (hk2 d0 (by simp)) hl0
 obtain⟨n1,hn1⟩:=h1
 have hok1:=hval 1 _ v1 rfl rfl
 have g1:v1.cells.toList=[v1]:=by
  cases v1 <;> first | rfl | exact absurd hok1 (by simp [Value.okWide,Tryz.underlying22,Cell.okWide,Cell.ok])
 rw[g1] at hn1
 obtain⟨l1,hl1,hc1⟩:=(Yh W).rd hn1
 have hb1:=(Yh W).up _ _ _ (hk2 d1 (by simp)) hl1
 refine Jq rfl (by kernel_rfl) rfl (by rw[Tryz.params5];decide) hW' (Mv l0 l1 hb0 hb1) rfl (fun j hj=>?_)
 match j,hj with
 | 0,_=>exact .c rfl hc0.1.1
 | 1,_=>exact .c rfl hc1.1.1
theorem cutsContainsInputsLifted (os:Os)(started:os.Started)(H:Type)(enc:TypeId × Value→H)(F:Stop.Interp) :
  ReturnsInHanded {} Tryz.checked os 5 .any ((Rows.OpenSpec.upto Rows.cutsContainsInputsSpec).pre6 enc Tryz.prog Tryz.f5 Rows.cutsContainsInputsUptoRow.domain false) (((Rows.OpenSpec.upto Rows.cutsContainsInputsSpec).at F).post enc Tryz.prog Tryz.f5 false true false false):=by
 refine returnsInHanded_of_cond (C:=Tryz.checked) (s:=Rows.OpenSpec.upto Rows.cutsContainsInputsSpec) (k:=Rows.uptoSmall) rfl own started (by kernel_rfl) Tryz.func5
  (OpenSpec.witness (enc:=enc) (C:=Tryz.checked) (s:=Rows.OpenSpec.upto Rows.cutsContainsInputsSpec) (k:=Rows.uptoSmall) rfl false ⟨#[],#[.slice none 0 0,.slice none 0 0],[]⟩ 8 (by kernel_rfl) (by kernel_rfl) (by kernel_rfl)
   (x:=([.nil,.nil],[],[])) (by kernel_rfl) rfl (by kernel_rfl)) ?_
 intro W base args ds gs before hval hW _ hk _
 exact cutsContainsInputsContract H enc W base args ds gs before hval hW hk
theorem cutsContainsInputsT1:joinedFacts Tryz.pinned.checked.prog 5 Tryz.f5 (Rows.OpenSpec.upto Rows.cutsContainsInputsSpec).bare Rows.cutsContainsInputsUptoRow=true:=by
 unfold joinedFacts
 rw[jfE,jfL,jfM]
 kernel_rfl
theorem cutsContainsInputsT2:Tryz.pinned.checked.prog.funcNamed Rows.cutsContainsInputsUptoRow.func=some 5:=by kernel_rfl
theorem cutsContainsInputsT3:Tryz.f5.isInstance Tryz.pinned.checked.prog Rows.cutsContainsInputsUptoRow.origin Rows.cutsContainsInputsUptoRow.targs:=(of_decide_eq_true (by kernel_rfl))
theorem cutsContainsInputsT4:Tryz.f5.isWrapper Tryz.pinned.checked.prog Rows.cutsContainsInputsUptoRow.wrapper Rows.cutsContainsInputsUptoRow.mainSum:=(by unfold Func.isWrapper;first | (rw[if_pos (by decide +kernel)];kernel_rfl) | (rw[if_neg (by decide +kernel)];exact⟨rfl,rfl⟩))
theorem cutsContainsInputsOver:Rows.cutsContainsInputsUptoRow.holds Tryz.pinned (Rows.OpenSpec.upto Rows.cutsContainsInputsSpec) :=
 OpenClaim.holds_of_cond 5 Tryz.f5 rfl rfl rfl rfl rfl rfl rfl ⟨rfl,rfl,rfl,rfl,rfl⟩ rfl rfl rfl rfl rfl cutsContainsInputsT2 Tryz.func5 cutsContainsInputsT1 cutsContainsInputsT3 cutsContainsInputsT4
  (fun os started H enc _ F=>cutsContainsInputsLifted os started H enc F)
theorem cutsContainsInputs:Rows.CutsContainsInputsUptoSaid:=cutsContainsInputsOver
end Go.Proofs.YtboocdbmnfjomaaGreat
