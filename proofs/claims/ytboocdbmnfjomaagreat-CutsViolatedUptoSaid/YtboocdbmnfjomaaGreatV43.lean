/- PROVED HERE: CutsViolated returns true for every input of bulk at most 2^20, and its arguments read behind the call as they read before (the given statement CutsViolatedUptoSaid). -/
import Derived.Test.YtboocdbmnfjomaaGreatV41
import Derived.Test.YtboocdbmnfjomaaGreatV42
import Derived.Test.YtboocdbmnfjomaaGreatV37
import Derived.WalkKit
set_option linter.all false
namespace Go.Proofs.YtboocdbmnfjomaaGreat
open Go Go.ChangeShapes Go.WideShapes Go.ChangeAt Go.RowKit
set_option maxRecDepth 100000
theorem cutsViolatedContract (H:Type)(enc:TypeId × Value→H)(W:World)(base:Nat)(args:Array Value)(ds gs:List (DataW H))(before:List MemPlace)
  (hval:∀ (j:Nat) t v,Tryz.f4.params[j]?=some t→args[j]?=some v→Value.okWide Tryz.prog W .any base t v)
  (hW:DataW.Whole enc Tryz.prog Tryz.f4.params.toList Rows.cutsViolatedSpec.vars false W args.toList ds gs before) (hk:Rows.uptoSmall H (ds++gs)=true) :
  Calls Tryz.prog 4 args W fun e W'=>∃ v,e=.returned v∧Rows.cutsViolatedSpec.post enc Tryz.prog Tryz.f4 false true false false W args v W':=by
 have hW':=hW
 obtain⟨p,q,hA0,hV,rfl,hfz,hnd⟩:=hW
 have hA:DataW.TrodAll enc Tryz.prog W 0 (fun _=>true) true Tryz.f4.params.toList args.toList ds p:=hA0
 have hk1:Rows.uptoBulkAll (ds++gs)≤1048576:=of_decide_eq_true hk
 have hk2:∀ d,d∈ds→Rows.uptoBulk d≤2^20:=fun d hd=>vF (ZQ (wZ.2 (.inl hd))) hk1
 rw[Tryz.params4] at hA hval
 obtain⟨v0,vs0,d0,ds0,p0,q0,e0,rfl,rfl,h0,r0⟩:=trodAll_cons hA
 obtain⟨v1,vs1,d1,ds1,p1,q1,e1,rfl,rfl,h1,r1⟩:=trodAll_cons r0
 obtain⟨v2,vs2,d2,ds2,p2,q2,e2,rfl,rfl,h2,r2⟩:=trodAll_cons r1
 obtain⟨rfl,rfl,rfl⟩:=trodAll_nil r2
 subst e1
 subst e2
 obtain rfl:args=#[v0,v1,v2]:=by cases args;simp_all
 obtain⟨n0,hn0⟩:=h0
 have hok0:=hval 0 _ v0 rfl rfl
 have g0:v0.cells.toList=[v0]:=by
  cases v0 <;> first | rfl | exact absurd hok0 (by simp [Value.okWide,Tryz.underlying22,Cell.okWide,Cell.ok])
 rw[g0] at hn0
 obtain⟨l0,hl0,hc0⟩:=(BW W).rd hn0
 have hb0:=(BW W).up _ _ _ (hk2 d0 (by simp)) hl0
 obtain⟨n1,hn1⟩:=h1
 have hok1:=hval 1 _ v1 rfl rfl
 have g1:v1.cells.toList=[v1]:=by
  cases v1 <;> first | rfl | exact absurd hok1 (by simp [Value.okWide,Tryz.underlying4,Cell.okWide,Cell.ok])
 rw[g1] at hn1
 obtain⟨l1,hl1,hc1⟩:=(Rf W).rd hn1
 obtain⟨n2,hn2⟩:=h2
 have hok2:=hval 2 _ v2 rfl rfl
 have g2:v2.cells.toList=[v2]:=by
  cases v2 <;> first | rfl | exact absurd hok2 (by simp [Value.okWide,Tryz.underlying35,Cell.okWide,Cell.ok])
 rw[g2] at hn2
 obtain⟨l2,hl2,hc2⟩:=(Rt W).rd hn2
 have hb2:=(Rt W).up _ _ _ (hk2 d2 (by simp)) hl2
 refine CS rfl (by kernel_rfl) rfl (by rw[Tryz.params4];decide) hW' (PE l0 l1 l2 hb0 hb2) rfl (fun j hj=>?_)
 match j,hj with
 | 0,_=>exact .c rfl hc0.1.1
 | 1,_=>exact .c rfl hc1.1.1
 | 2,_=>exact .c rfl hc2.1.1
theorem cutsViolatedLifted (os:Os)(started:os.Started)(H:Type)(enc:TypeId × Value→H)(F:Stop.Interp) :
  ReturnsInHanded {} Tryz.checked os 4 .any ((Rows.OpenSpec.upto Rows.cutsViolatedSpec).pre6 enc Tryz.prog Tryz.f4 Rows.cutsViolatedUptoRow.domain false) (((Rows.OpenSpec.upto Rows.cutsViolatedSpec).at F).post enc Tryz.prog Tryz.f4 false true false false):=by
 refine returnsInHanded_of_cond (C:=Tryz.checked) (s:=Rows.OpenSpec.upto Rows.cutsViolatedSpec) (k:=Rows.uptoSmall) rfl own started (by kernel_rfl) Tryz.func4
  (OpenSpec.witness (enc:=enc) (C:=Tryz.checked) (s:=Rows.OpenSpec.upto Rows.cutsViolatedSpec) (k:=Rows.uptoSmall) rfl false ⟨#[],#[.slice none 0 0,.bool false,.slice none 0 0],[]⟩ 8 (by kernel_rfl) (by kernel_rfl) (by kernel_rfl)
   (x:=([.nil,.lit (.bool false),.nil],[],[])) (by kernel_rfl) rfl (by kernel_rfl)) ?_
 intro W base args ds gs before hval hW _ hk _
 exact cutsViolatedContract H enc W base args ds gs before hval hW hk
theorem cutsViolatedT1:joinedFacts Tryz.pinned.checked.prog 4 Tryz.f4 (Rows.OpenSpec.upto Rows.cutsViolatedSpec).bare Rows.cutsViolatedUptoRow=true:=by
 unfold joinedFacts
 rw[jfE,jfL,jfM]
 kernel_rfl
theorem cutsViolatedT2:Tryz.pinned.checked.prog.funcNamed Rows.cutsViolatedUptoRow.func=some 4:=by kernel_rfl
theorem cutsViolatedT3:Tryz.f4.isInstance Tryz.pinned.checked.prog Rows.cutsViolatedUptoRow.origin Rows.cutsViolatedUptoRow.targs:=(of_decide_eq_true (by kernel_rfl))
theorem cutsViolatedT4:Tryz.f4.isWrapper Tryz.pinned.checked.prog Rows.cutsViolatedUptoRow.wrapper Rows.cutsViolatedUptoRow.mainSum:=(by unfold Func.isWrapper;first | (rw[if_pos (by decide +kernel)];kernel_rfl) | (rw[if_neg (by decide +kernel)];exact⟨rfl,rfl⟩))
theorem cutsViolatedOver:Rows.cutsViolatedUptoRow.holds Tryz.pinned (Rows.OpenSpec.upto Rows.cutsViolatedSpec) :=
 OpenClaim.holds_of_cond 4 Tryz.f4 rfl rfl rfl rfl rfl rfl rfl ⟨rfl,rfl,rfl,rfl,rfl⟩ rfl rfl rfl rfl rfl cutsViolatedT2 Tryz.func4 cutsViolatedT1 cutsViolatedT3 cutsViolatedT4
  (fun os started H enc _ F=>cutsViolatedLifted os started H enc F)
theorem cutsViolated:Rows.CutsViolatedUptoSaid:=cutsViolatedOver
end Go.Proofs.YtboocdbmnfjomaaGreat
