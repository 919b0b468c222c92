/- PROVED HERE: SimplexScales returns true for every input of bulk at most 2^20, and its arguments read behind the call as they read before (the given statement SimplexScalesUptoSaid). -/
import Derived.Test.YtfainocfaddbdaaGreatX41
import Derived.Test.YtfainocfaddbdaaGreatX45
import Derived.Test.YtfainocfaddbdaaGreatX38
import Derived.WalkKit
set_option linter.all false
namespace Go.Proofs.YtfainocfaddbdaaGreat
open Go Go.ChangeShapes Go.WideShapes Go.ChangeAt Go.RowKit
set_option maxRecDepth 100000
theorem simplexScalesContract (H:Type)(enc:TypeId × Value→H)(W:World)(base:Nat)(args:Array Value)(ds gs:List (DataW H))(before:List MemPlace)
  (hval:∀ (j:Nat) t v,Tryz.f7.params[j]?=some t→args[j]?=some v→Value.okWide Tryz.prog W .any base t v)
  (hW:DataW.Whole enc Tryz.prog Tryz.f7.params.toList Rows.simplexScalesSpec.vars false W args.toList ds gs before) (hk:Rows.uptoSmall H (ds++gs)=true) :
  Calls Tryz.prog 7 args W fun e W'=>∃ v,e=.returned v∧Rows.simplexScalesSpec.post enc Tryz.prog Tryz.f7 false true false false W args v W':=by
 have hW':=hW
 obtain⟨p,q,hA0,hV,rfl,hfz,hnd⟩:=hW
 have hA:DataW.TrodAll enc Tryz.prog W 0 (fun _=>true) true Tryz.f7.params.toList args.toList ds p:=hA0
 have hk1:Rows.uptoBulkAll (ds++gs)≤1048576:=of_decide_eq_true hk
 have hk2:∀ d,d∈ds→Rows.uptoBulk d≤2^20:=fun d hd=>Nat.le_trans (qH (List.mem_append.2 (.inl hd))) hk1
 rw[Tryz.params7] at hA hval
 obtain⟨v0,vs0,d0,ds0,p0,q0,e0,rfl,rfl,h0,r0⟩:=trodAll_cons hA
 obtain⟨v1,vs1,d1,ds1,p1,q1,e1,rfl,rfl,h1,r1⟩:=trodAll_cons r0
 obtain⟨v2,vs2,d2,ds2,p2,q2,e2,rfl,rfl,h2,r2⟩:=trodAll_cons r1
 obtain⟨rfl,rfl,rfl⟩:=trodAll_nil r2
 subst e1
 subst e2
 obtain rfl:args=#[v0,v1,v2]:=by cases args;simp_all
 obtain⟨n0,hn0⟩:=h0
 have hok0:=hval 0 _ v0 rfl rfl
 obtain⟨l0,hl0,hc0⟩:=(mI W).rd hn0
 have hb0:=(mI W).up _ _ _ (hk2 d0 (by simp)) hl0
 have a0:Rep W (InW W) β0 v0 (.agg (pgc l0)):=by
  cases v0 with
  | agg cs=>exact dS rfl hc0
  | _=>exact absurd hok0 (by simp [Value.okWide,Tryz.underlying31,Cell.okWide,Cell.ok])
 obtain⟨n1,hn1⟩:=h1
 have hok1:=hval 1 _ v1 rfl rfl
 have g1:v1.cells.toList=[v1]:=by
  cases v1 <;> first | rfl | exact absurd hok1 (by simp [Value.okWide,Tryz.underlying5,Cell.okWide,Cell.ok])
 rw[g1] at hn1
 obtain⟨l1,hl1,hc1⟩:=(bU8 W).rd hn1
 obtain⟨n2,hn2⟩:=h2
 have hok2:=hval 2 _ v2 rfl rfl
 have g2:v2.cells.toList=[v2]:=by
  cases v2 <;> first | rfl | exact absurd hok2 (by simp [Value.okWide,Tryz.underlying5,Cell.okWide,Cell.ok])
 rw[g2] at hn2
 obtain⟨l2,hl2,hc2⟩:=(bU8 W).rd hn2
 refine fT rfl (by kernel_rfl) rfl (by rw[Tryz.params7];decide) hW' (zPE l0 l1 l2 hb0) rfl (fun j hj=>?_)
 match j,hj with
 | 0,_=>exact a0
 | 1,_=>exact .c rfl hc1.1.1
 | 2,_=>exact .c rfl hc2.1.1
theorem simplexScalesLifted (os:Os)(started:os.Started)(H:Type)(enc:TypeId × Value→H)(F:Stop.Interp) :
  ReturnsInHanded {} Tryz.checked os 7 .any ((Rows.OpenSpec.upto Rows.simplexScalesSpec).pre6 enc Tryz.prog Tryz.f7 Rows.simplexScalesUptoRow.domain false) (((Rows.OpenSpec.upto Rows.simplexScalesSpec).at F).post enc Tryz.prog Tryz.f7 false true false false):=by
 refine returnsInHanded_of_cond (C:=Tryz.checked) (s:=Rows.OpenSpec.upto Rows.simplexScalesSpec) (k:=Rows.uptoSmall) rfl own started (by kernel_rfl) Tryz.func7
  (OpenSpec.witness (enc:=enc) (C:=Tryz.checked) (s:=Rows.OpenSpec.upto Rows.simplexScalesSpec) (k:=Rows.uptoSmall) rfl false ⟨#[],#[.agg #[.int .i64 0,.slice none 0 0,.slice none 0 0,.bool false,.slice none 0 0,.slice none 0 0],.int .u8 0,.int .u8 0],[]⟩ 8 (by kernel_rfl) (by kernel_rfl) (by kernel_rfl)
   (x:=([.agg [.lit (.int .i64 0),.nil,.agg [.nil,.agg [.lit (.bool false),.nil,.nil]]],.lit (.int .u8 0),.lit (.int .u8 0)],[],[])) (by kernel_rfl) rfl (by kernel_rfl)) ?_
 intro W base args ds gs before hval hW _ hk _
 exact simplexScalesContract H enc W base args ds gs before hval hW hk
theorem simplexScalesT1:joinedFacts Tryz.pinned.checked.prog 7 Tryz.f7 (Rows.OpenSpec.upto Rows.simplexScalesSpec).bare Rows.simplexScalesUptoRow=true:=by
 unfold joinedFacts
 rw[jfE,jfL,jfM]
 kernel_rfl
theorem simplexScalesT2:Tryz.pinned.checked.prog.funcNamed Rows.simplexScalesUptoRow.func=some 7:=by kernel_rfl
theorem simplexScalesT3:Tryz.f7.isInstance Tryz.pinned.checked.prog Rows.simplexScalesUptoRow.origin Rows.simplexScalesUptoRow.targs:=(of_decide_eq_true (by kernel_rfl))
theorem simplexScalesT4:Tryz.f7.isWrapper Tryz.pinned.checked.prog Rows.simplexScalesUptoRow.wrapper Rows.simplexScalesUptoRow.mainSum:=(by unfold Func.isWrapper;first | (rw[if_pos (by decide +kernel)];kernel_rfl) | (rw[if_neg (by decide +kernel)];exact⟨rfl,rfl⟩))
theorem simplexScalesOver:Rows.simplexScalesUptoRow.holds Tryz.pinned (Rows.OpenSpec.upto Rows.simplexScalesSpec) :=
 OpenClaim.holds_of_cond 7 Tryz.f7 rfl rfl rfl rfl rfl rfl rfl ⟨rfl,rfl,rfl,rfl,rfl⟩ rfl rfl rfl rfl rfl simplexScalesT2 Tryz.func7 simplexScalesT1 simplexScalesT3 simplexScalesT4
  (fun os started H enc _ F=>simplexScalesLifted os started H enc F)
theorem simplexScales:Rows.SimplexScalesUptoSaid:=simplexScalesOver
end Go.Proofs.YtfainocfaddbdaaGreat
