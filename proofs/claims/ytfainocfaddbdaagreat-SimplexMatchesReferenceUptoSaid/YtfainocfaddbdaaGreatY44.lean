/- PROVED HERE: SimplexMatchesReference returns true for every input of bulk at most 2^20, and its arguments read behind the call as they read before (the given statement SimplexMatchesReferenceUptoSaid). -/
import Derived.Test.YtfainocfaddbdaaGreatY42
import Derived.Test.YtfainocfaddbdaaGreatY43
import Derived.Test.YtfainocfaddbdaaGreatY37
import Derived.WalkKit
set_option linter.all false
namespace Go.Proofs.YtfainocfaddbdaaGreat
open Go Go.ChangeShapes Go.WideShapes Go.ChangeAt Go.RowKit
set_option maxRecDepth 100000
theorem simplexMatchesReferenceContract (H:Type)(enc:TypeId × Value→H)(W:World)(base:Nat)(args:Array Value)(ds gs:List (DataW H))(before:List MemPlace)
  (hval:∀ (j:Nat) t v,Tryz.f3.params[j]?=some t→args[j]?=some v→Value.okWide Tryz.prog W .any base t v)
  (hW:DataW.Whole enc Tryz.prog Tryz.f3.params.toList Rows.simplexMatchesReferenceSpec.vars false W args.toList ds gs before) (hk:Rows.uptoSmall H (ds++gs)=true) :
  Calls Tryz.prog 3 args W fun e W'=>∃ v,e=.returned v∧Rows.simplexMatchesReferenceSpec.post enc Tryz.prog Tryz.f3 false true false false W args v W':=by
 have hW':=hW
 obtain⟨p,q,hA0,hV,rfl,hfz,hnd⟩:=hW
 have hA:DataW.TrodAll enc Tryz.prog W 0 (fun _=>true) true Tryz.f3.params.toList args.toList ds p:=hA0
 have hk1:Rows.uptoBulkAll (ds++gs)≤1048576:=of_decide_eq_true hk
 have hk2:∀ d,d∈ds→Rows.uptoBulk d≤2^20:=fun d hd=>Nat.le_trans (nU (List.mem_append.2 (.inl hd))) hk1
 rw[Tryz.params3] at hA hval
 obtain⟨v0,vs0,d0,ds0,p0,q0,e0,rfl,rfl,h0,r0⟩:=trodAll_cons hA
 obtain⟨rfl,rfl,rfl⟩:=trodAll_nil r0
 obtain rfl:args=#[v0]:=by cases args;simp_all
 obtain⟨n0,hn0⟩:=h0
 have hok0:=hval 0 _ v0 rfl rfl
 obtain⟨l0,hl0,hc0⟩:=(bPrg W).rd hn0
 have hb0:=(bPrg W).up _ _ _ (hk2 d0 (by simp)) hl0
 have a0:Rep W (InW W) β0 v0 (.agg (pgc l0)):=by
  cases v0 with
  | agg cs=>exact zPG rfl hc0
  | _=>exact absurd hok0 (by simp [Value.okWide,Tryz.underlying31,Cell.okWide,Cell.ok])
 refine zLK rfl (by kernel_rfl) rfl (by rw[Tryz.params3];decide) hW' (zQ7 l0 hb0) rfl (fun j hj=>?_)
 match j,hj with
 | 0,_=>exact a0
theorem simplexMatchesReferenceLifted (os:Os)(started:os.Started)(H:Type)(enc:TypeId × Value→H)(F:Stop.Interp) :
  ReturnsInHanded {} Tryz.checked os 3 .any ((Rows.OpenSpec.upto Rows.simplexMatchesReferenceSpec).pre6 enc Tryz.prog Tryz.f3 Rows.simplexMatchesReferenceUptoRow.domain false) (((Rows.OpenSpec.upto Rows.simplexMatchesReferenceSpec).at F).post enc Tryz.prog Tryz.f3 false true false false):=by
 refine returnsInHanded_of_cond (C:=Tryz.checked) (s:=Rows.OpenSpec.upto Rows.simplexMatchesReferenceSpec) (k:=Rows.uptoSmall) rfl own started (by kernel_rfl) Tryz.func3
  (OpenSpec.witness (enc:=enc) (C:=Tryz.checked) (s:=Rows.OpenSpec.upto Rows.simplexMatchesReferenceSpec) (k:=Rows.uptoSmall) rfl false ⟨#[],#[.agg #[.int .i64 0,.slice none 0 0,.slice none 0 0,.bool false,.slice none 0 0,.slice none 0 0]],[]⟩ 8 (by kernel_rfl) (by kernel_rfl) (by kernel_rfl)
   (x:=([.agg [.lit (.int .i64 0),.nil,.agg [.nil,.agg [.lit (.bool false),.nil,.nil]]]],[],[])) (by kernel_rfl) rfl (by kernel_rfl)) ?_
 intro W base args ds gs before hval hW _ hk _
 exact simplexMatchesReferenceContract H enc W base args ds gs before hval hW hk
theorem simplexMatchesReferenceT1:joinedFacts Tryz.pinned.checked.prog 3 Tryz.f3 (Rows.OpenSpec.upto Rows.simplexMatchesReferenceSpec).bare Rows.simplexMatchesReferenceUptoRow=true:=by
 unfold joinedFacts
 rw[jfE,jfL,jfM]
 kernel_rfl
theorem simplexMatchesReferenceT2:Tryz.pinned.checked.prog.funcNamed Rows.simplexMatchesReferenceUptoRow.func=some 3:=by kernel_rfl
theorem simplexMatchesReferenceT3:Tryz.f3.isInstance Tryz.pinned.checked.prog Rows.simplexMatchesReferenceUptoRow.origin Rows.simplexMatchesReferenceUptoRow.targs:=(of_decide_eq_true (by kernel_rfl))
theorem simplexMatchesReferenceT4:Tryz.f3.isWrapper Tryz.pinned.checked.prog Rows.simplexMatchesReferenceUptoRow.wrapper Rows.simplexMatchesReferenceUptoRow.mainSum:=(by unfold Func.isWrapper;first | (rw[if_pos (by decide +kernel)];kernel_rfl) | (rw[if_neg (by decide +kernel)];exact⟨rfl,rfl⟩))
theorem simplexMatchesReferenceOver:Rows.simplexMatchesReferenceUptoRow.holds Tryz.pinned (Rows.OpenSpec.upto Rows.simplexMatchesReferenceSpec) :=
 OpenClaim.holds_of_cond 3 Tryz.f3 rfl rfl rfl rfl rfl rfl rfl ⟨rfl,rfl,rfl,rfl,rfl⟩ rfl rfl rfl rfl rfl simplexMatchesReferenceT2 Tryz.func3 simplexMatchesReferenceT1 simplexMatchesReferenceT3 simplexMatchesReferenceT4
  (fun os started H enc _ F=>simplexMatchesReferenceLifted os started H enc F)
theorem simplexMatchesReference:Rows.SimplexMatchesReferenceUptoSaid:=simplexMatchesReferenceOver
end Go.Proofs.YtfainocfaddbdaaGreat
