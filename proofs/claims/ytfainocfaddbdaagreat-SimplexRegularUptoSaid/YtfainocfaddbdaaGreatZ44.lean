/- PROVED HERE: SimplexRegular returns true for every input of bulk at most 2^20, and its arguments read behind the call as they read before (the given statement SimplexRegularUptoSaid). -/
import Derived.Test.YtfainocfaddbdaaGreatZ42
import Derived.Test.YtfainocfaddbdaaGreatZ43
import Derived.Test.YtfainocfaddbdaaGreatZ40
import Derived.WalkKit
set_option linter.all false
namespace Go.Proofs.YtfainocfaddbdaaGreat
open Go Go.ChangeShapes Go.WideShapes Go.ChangeAt Go.RowKit
set_option maxRecDepth 100000
theorem simplexRegularContract (H:Type)(enc:TypeId × Value→H)(W:World)(base:Nat)(args:Array Value)(ds gs:List (DataW H))(before:List MemPlace)
  (hval:∀ (j:Nat) t v,Tryz.f11.params[j]?=some t→args[j]?=some v→Value.okWide Tryz.prog W .any base t v)
  (hW:DataW.Whole enc Tryz.prog Tryz.f11.params.toList Rows.simplexRegularSpec.vars false W args.toList ds gs before) (hk:Rows.uptoSmall H (ds++gs)=true) :
  Calls Tryz.prog 11 args W fun e W'=>∃ v,e=.returned v∧Rows.simplexRegularSpec.post enc Tryz.prog Tryz.f11 false true false false W args v W':=by
 have hW':=hW
 obtain⟨p,q,hA0,hV,rfl,hfz,hnd⟩:=hW
 have hA:DataW.TrodAll enc Tryz.prog W 0 (fun _=>true) true Tryz.f11.params.toList args.toList ds p:=hA0
 have hk1:Rows.uptoBulkAll (ds++gs)≤1048576:=of_decide_eq_true hk
 have hk2:∀ d,d∈ds→Rows.uptoBulk d≤2^20:=fun d hd=>Nat.le_trans (mY (List.mem_append.2 (.inl hd))) hk1
 rw[Tryz.params11] at hA hval
 obtain⟨v0,vs0,d0,ds0,p0,q0,e0,rfl,rfl,h0,r0⟩:=trodAll_cons hA
 obtain⟨rfl,rfl,rfl⟩:=trodAll_nil r0
 obtain rfl:args=#[v0]:=by cases args;simp_all
 obtain⟨n0,hn0⟩:=h0
 have hok0:=hval 0 _ v0 rfl rfl
 have g0:v0.cells.toList=[v0]:=by
  cases v0 <;> first | rfl | exact absurd hok0 (by simp [Value.okWide,Tryz.underlying47,Cell.okWide,Cell.ok])
 rw[g0] at hn0
 obtain⟨l0,hl0,hc0⟩:=(zLP W).rd hn0
 have hb0:=(zLP W).up _ _ _ (hk2 d0 (by simp)) hl0
 refine zJ3 rfl (by kernel_rfl) rfl (by rw[Tryz.params11];decide) hW' (zPF l0 hb0) rfl (fun j hj=>?_)
 match j,hj with
 | 0,_=>exact .c rfl hc0.1.1
theorem simplexRegularLifted (os:Os)(started:os.Started)(H:Type)(enc:TypeId × Value→H)(F:Stop.Interp) :
  ReturnsInHanded {} Tryz.checked os 11 .any ((Rows.OpenSpec.upto Rows.simplexRegularSpec).pre6 enc Tryz.prog Tryz.f11 Rows.simplexRegularUptoRow.domain false) (((Rows.OpenSpec.upto Rows.simplexRegularSpec).at F).post enc Tryz.prog Tryz.f11 false true false false):=by
 refine returnsInHanded_of_cond (C:=Tryz.checked) (s:=Rows.OpenSpec.upto Rows.simplexRegularSpec) (k:=Rows.uptoSmall) rfl own started (by kernel_rfl) Tryz.func11
  (OpenSpec.witness (enc:=enc) (C:=Tryz.checked) (s:=Rows.OpenSpec.upto Rows.simplexRegularSpec) (k:=Rows.uptoSmall) rfl false ⟨#[],#[.slice none 0 0],[]⟩ 8 (by kernel_rfl) (by kernel_rfl) (by kernel_rfl)
   (x:=([.nil],[],[])) (by kernel_rfl) rfl (by kernel_rfl)) ?_
 intro W base args ds gs before hval hW _ hk _
 exact simplexRegularContract H enc W base args ds gs before hval hW hk
theorem simplexRegularT1:joinedFacts Tryz.pinned.checked.prog 11 Tryz.f11 (Rows.OpenSpec.upto Rows.simplexRegularSpec).bare Rows.simplexRegularUptoRow=true:=by
 unfold joinedFacts
 rw[jfE,jfL,jfM]
 kernel_rfl
theorem simplexRegularT2:Tryz.pinned.checked.prog.funcNamed Rows.simplexRegularUptoRow.func=some 11:=by kernel_rfl
theorem simplexRegularT3:Tryz.f11.isInstance Tryz.pinned.checked.prog Rows.simplexRegularUptoRow.origin Rows.simplexRegularUptoRow.targs:=(of_decide_eq_true (by kernel_rfl))
theorem simplexRegularT4:Tryz.f11.isWrapper Tryz.pinned.checked.prog Rows.simplexRegularUptoRow.wrapper Rows.simplexRegularUptoRow.mainSum:=(by unfold Func.isWrapper;first | (rw[if_pos (by decide +kernel)];kernel_rfl) | (rw[if_neg (by decide +kernel)];exact⟨rfl,rfl⟩))
theorem simplexRegularOver:Rows.simplexRegularUptoRow.holds Tryz.pinned (Rows.OpenSpec.upto Rows.simplexRegularSpec) :=
 OpenClaim.holds_of_cond 11 Tryz.f11 rfl rfl rfl rfl rfl rfl rfl ⟨rfl,rfl,rfl,rfl,rfl⟩ rfl rfl rfl rfl rfl simplexRegularT2 Tryz.func11 simplexRegularT1 simplexRegularT3 simplexRegularT4
  (fun os started H enc _ F=>simplexRegularLifted os started H enc F)
theorem simplexRegular:Rows.SimplexRegularUptoSaid:=simplexRegularOver
end Go.Proofs.YtfainocfaddbdaaGreat
