/- PROVED HERE: WarmInvalid returns true for every input of bulk at most 2^20, and its arguments read behind the call as they read before (the given statement WarmInvalidUptoSaid). -/
import Derived.Test.YtfainocfaddbdaaGreatT41
import Derived.Test.YtfainocfaddbdaaGreatT42
import Derived.Test.YtfainocfaddbdaaGreatT38
import Derived.WalkKit
set_option linter.all false
namespace Go.Proofs.YtfainocfaddbdaaGreat
open Go Go.ChangeShapes Go.WideShapes Go.ChangeAt Go.RowKit
set_option maxRecDepth 100000
theorem warmInvalidContract (H:Type)(enc:TypeId × Value→H)(W:World)(base:Nat)(args:Array Value)(ds gs:List (DataW H))(before:List MemPlace)
  (hval:∀ (j:Nat) t v,Tryz.f16.params[j]?=some t→args[j]?=some v→Value.okWide Tryz.prog W .any base t v)
  (hW:DataW.Whole enc Tryz.prog Tryz.f16.params.toList Rows.warmInvalidSpec.vars false W args.toList ds gs before) (hk:Rows.uptoSmall H (ds++gs)=true) :
  Calls Tryz.prog 16 args W fun e W'=>∃ v,e=.returned v∧Rows.warmInvalidSpec.post enc Tryz.prog Tryz.f16 false true false false W args v W':=by
 have hW':=hW
 obtain⟨p,q,hA0,hV,rfl,hfz,hnd⟩:=hW
 have hA:DataW.TrodAll enc Tryz.prog W 0 (fun _=>true) true Tryz.f16.params.toList args.toList ds p:=hA0
 have hk1:Rows.uptoBulkAll (ds++gs)≤1048576:=of_decide_eq_true hk
 have hk2:∀ d,d∈ds→Rows.uptoBulk d≤2^20:=fun d hd=>Nat.le_trans (mG (List.mem_append.2 (.inl hd))) hk1
 rw[Tryz.params16] at hA hval
 obtain⟨v0,vs0,d0,ds0,p0,q0,e0,rfl,rfl,h0,r0⟩:=trodAll_cons hA
 obtain⟨rfl,rfl,rfl⟩:=trodAll_nil r0
 obtain rfl:args=#[v0]:=by cases args;simp_all
 obtain⟨n0,hn0⟩:=h0
 have hok0:=hval 0 _ v0 rfl rfl
 obtain⟨l0,hl0,hc0⟩:=(bPrg W).rd hn0
 have hb0:=(bPrg W).up _ _ _ (hk2 d0 (by simp)) hl0
 have a0:Rep W (InW W) β0 v0 (.agg (pgc l0)):=by
  cases v0 with
  | agg cs=>exact zLT rfl hc0
  | _=>exact absurd hok0 (by simp [Value.okWide,Tryz.underlying31,Cell.okWide,Cell.ok])
 refine zIR rfl (by kernel_rfl) rfl (by rw[Tryz.params16];decide) hW' (zNI l0 hb0) rfl (fun j hj=>?_)
 match j,hj with
 | 0,_=>exact a0
theorem warmInvalidLifted (os:Os)(started:os.Started)(H:Type)(enc:TypeId × Value→H)(F:Stop.Interp) :
  ReturnsInHanded {} Tryz.checked os 16 .any ((Rows.OpenSpec.upto Rows.warmInvalidSpec).pre6 enc Tryz.prog Tryz.f16 Rows.warmInvalidUptoRow.domain false) (((Rows.OpenSpec.upto Rows.warmInvalidSpec).at F).post enc Tryz.prog Tryz.f16 false true false false):=by
 refine returnsInHanded_of_cond (C:=Tryz.checked) (s:=Rows.OpenSpec.upto Rows.warmInvalidSpec) (k:=Rows.uptoSmall) rfl own started (by kernel_rfl) Tryz.func16
  (OpenSpec.witness (enc:=enc) (C:=Tryz.checked) (s:=Rows.OpenSpec.upto Rows.warmInvalidSpec) (k:=Rows.uptoSmall) rfl false ⟨#[],#[.agg #[.int .i64 0,.slice none 0 0,.slice none 0 0,.bool false,.slice none 0 0,.slice none 0 0]],[]⟩ 8 (by kernel_rfl) (by kernel_rfl) (by kernel_rfl)
   (x:=([.agg [.lit (.int .i64 0),.nil,.agg [.nil,.agg [.lit (.bool false),.nil,.nil]]]],[],[])) (by kernel_rfl) rfl (by kernel_rfl)) ?_
 intro W base args ds gs before hval hW _ hk _
 exact warmInvalidContract H enc W base args ds gs before hval hW hk
theorem warmInvalidT1:joinedFacts Tryz.pinned.checked.prog 16 Tryz.f16 (Rows.OpenSpec.upto Rows.warmInvalidSpec).bare Rows.warmInvalidUptoRow=true:=by
 unfold joinedFacts
 rw[jfE,jfL,jfM]
 kernel_rfl
theorem warmInvalidT2:Tryz.pinned.checked.prog.funcNamed Rows.warmInvalidUptoRow.func=some 16:=by kernel_rfl
theorem warmInvalidT3:Tryz.f16.isInstance Tryz.pinned.checked.prog Rows.warmInvalidUptoRow.origin Rows.warmInvalidUptoRow.targs:=(of_decide_eq_true (by kernel_rfl))
theorem warmInvalidT4:Tryz.f16.isWrapper Tryz.pinned.checked.prog Rows.warmInvalidUptoRow.wrapper Rows.warmInvalidUptoRow.mainSum:=(by unfold Func.isWrapper;first | (rw[if_pos (by decide +kernel)];kernel_rfl) | (rw[if_neg (by decide +kernel)];exact⟨rfl,rfl⟩))
theorem warmInvalidOver:Rows.warmInvalidUptoRow.holds Tryz.pinned (Rows.OpenSpec.upto Rows.warmInvalidSpec) :=
 OpenClaim.holds_of_cond 16 Tryz.f16 rfl rfl rfl rfl rfl rfl rfl ⟨rfl,rfl,rfl,rfl,rfl⟩ rfl rfl rfl rfl rfl warmInvalidT2 Tryz.func16 warmInvalidT1 warmInvalidT3 warmInvalidT4
  (fun os started H enc _ F=>warmInvalidLifted os started H enc F)
theorem warmInvalid:Rows.WarmInvalidUptoSaid:=warmInvalidOver
end Go.Proofs.YtfainocfaddbdaaGreat
