/- PROVED HERE: SimplexRedundant returns true for every input of bulk at most 2^20, and its arguments read behind the call as they read before (the given statement SimplexRedundantUptoSaid). -/
import Derived.Test.YtfainocfaddbdaaGreatX44
import Derived.Test.YtfainocfaddbdaaGreatX45
import Derived.Test.YtfainocfaddbdaaGreatX38
import Derived.WalkKit
set_option linter.all false
namespace Go.Proofs.YtfainocfaddbdaaGreat
open Go Go.ChangeShapes Go.WideShapes Go.ChangeAt Go.RowKit
set_option maxRecDepth 100000
theorem simplexRedundantContract (H:Type)(enc:TypeId × Value→H)(W:World)(base:Nat)(args:Array Value)(ds gs:List (DataW H))(before:List MemPlace)
  (hval:∀ (j:Nat) t v,Tryz.f8.params[j]?=some t→args[j]?=some v→Value.okWide Tryz.prog W .any base t v)
  (hW:DataW.Whole enc Tryz.prog Tryz.f8.params.toList Rows.simplexRedundantSpec.vars false W args.toList ds gs before) (hk:Rows.uptoSmall H (ds++gs)=true) :
  Calls Tryz.prog 8 args W fun e W'=>∃ v,e=.returned v∧Rows.simplexRedundantSpec.post enc Tryz.prog Tryz.f8 false true false false W args v W':=by
 have hW':=hW
 obtain⟨p,q,hA0,hV,rfl,hfz,hnd⟩:=hW
 have hA:DataW.TrodAll enc Tryz.prog W 0 (fun _=>true) true Tryz.f8.params.toList args.toList ds p:=hA0
 have hk1:Rows.uptoBulkAll (ds++gs)≤1048576:=of_decide_eq_true hk
 have hk2:∀ d,d∈ds→Rows.uptoBulk d≤2^20:=fun d hd=>Nat.le_trans (qH (List.mem_append.2 (.inl hd))) hk1
 rw[Tryz.params8] at hA hval
 obtain⟨v0,vs0,d0,ds0,p0,q0,e0,rfl,rfl,h0,r0⟩:=trodAll_cons hA
 obtain⟨v1,vs1,d1,ds1,p1,q1,e1,rfl,rfl,h1,r1⟩:=trodAll_cons r0
 obtain⟨v2,vs2,d2,ds2,p2,q2,e2,rfl,rfl,h2,r2⟩:=trodAll_cons r1
 obtain⟨rfl,rfl,rfl⟩:=trodAll_nil r2
 subst e1
 subst e2
 obtain rfl:args=#[v0,v1,v2]:=by cases args;simp_all
 obtain⟨n0,hn0⟩:=h0
 have hok0:=hval 0 _ v0 rfl rfl
 obtain⟨l0,hl0,hc0⟩:=(mI W).rd hn0
 have hb0:=(mI W).up _ _ _ (hk2 d0 (by simp)) hl0
 have a0:Rep W (InW W) β0 v0 (.agg (pgc l0)):=by
  cases v0 with
  | agg cs=>exact dS rfl hc0
  | _=>exact absurd hok0 (by simp [Value.okWide,Tryz.underlying31,Cell.okWide,Cell.ok])
 obtain⟨n1,hn1⟩:=h1
 have hok1:=hval 1 _ v1 rfl rfl
 have g1:v1.cells.toList=[v1]:=by
  cases v1 <;> first | rfl | exact absurd hok1 (by simp [Value.okWide,Tryz.underlying47,Cell.okWide,Cell.ok])
 rw[g1] at hn1
 obtain⟨l1,hl1,hc1⟩:=(zLL W).rd hn1
 have hb1:=(zLL W).up _ _ _ (hk2 d1 (by simp)) hl1
 obtain⟨n2,hn2⟩:=h2
 have hok2:=hval 2 _ v2 rfl rfl
 have g2:v2.cells.toList=[v2]:=by
  cases v2 <;> first | rfl | exact absurd hok2 (by simp [Value.okWide,Tryz.underlying5,Cell.okWide,Cell.ok])
 rw[g2] at hn2
 obtain⟨l2,hl2,hc2⟩:=(bU8 W).rd hn2
 refine fT rfl (by kernel_rfl) rfl (by rw[Tryz.params8];decide) hW' (zPG l0 l1 l2 hb0 hb1) rfl (fun j hj=>?_)
 match j,hj with
 | 0,_=>exact a0
 | 1,_=>exact .c rfl hc1.1.1
 | 2,_=>exact .c rfl hc2.1.1
theorem simplexRedundantLifted (os:Os)(started:os.Started)(H:Type)(enc:TypeId × Value→H)(F:Stop.Interp) :
  ReturnsInHanded {} Tryz.checked os 8 .any ((Rows.OpenSpec.upto Rows.simplexRedundantSpec).pre6 enc Tryz.prog Tryz.f8 Rows.simplexRedundantUptoRow.domain false) (((Rows.OpenSpec.upto Rows.simplexRedundantSpec).at F).post enc Tryz.prog Tryz.f8 false true false false):=by
 refine returnsInHanded_of_cond (C:=Tryz.checked) (s:=Rows.OpenSpec.upto Rows.simplexRedundantSpec) (k:=Rows.uptoSmall) rfl own started (by kernel_rfl) Tryz.func8
  (OpenSpec.witness (enc:=enc) (C:=Tryz.checked) (s:=Rows.OpenSpec.upto Rows.simplexRedundantSpec) (k:=Rows.uptoSmall) rfl false ⟨#[],#[.agg #[.int .i64 0,.slice none 0 0,.slice none 0 0,.bool false,.slice none 0 0,.slice none 0 0],.slice none 0 0,.int .u8 0],[]⟩ 8 (by kernel_rfl) (by kernel_rfl) (by kernel_rfl)
   (x:=([.agg [.lit (.int .i64 0),.nil,.agg [.nil,.agg [.lit (.bool false),.nil,.nil]]],.nil,.lit (.int .u8 0)],[],[])) (by kernel_rfl) rfl (by kernel_rfl)) ?_
 intro W base args ds gs before hval hW _ hk _
 exact simplexRedundantContract H enc W base args ds gs before hval hW hk
theorem simplexRedundantT1:joinedFacts Tryz.pinned.checked.prog 8 Tryz.f8 (Rows.OpenSpec.upto Rows.simplexRedundantSpec).bare Rows.simplexRedundantUptoRow=true:=by
 unfold joinedFacts
 rw[jfE,jfL,jfM]
 kernel_rfl
theorem simplexRedundantT2:Tryz.pinned.checked.prog.funcNamed Rows.simplexRedundantUptoRow.func=some 8:=by kernel_rfl
theorem simplexRedundantT3:Tryz.f8.isInstance Tryz.pinned.checked.prog Rows.simplexRedundantUptoRow.origin Rows.simplexRedundantUptoRow.targs:=(of_decide_eq_true (by kernel_rfl))
theorem simplexRedundantT4:Tryz.f8.isWrapper Tryz.pinned.checked.prog Rows.simplexRedundantUptoRow.wrapper Rows.simplexRedundantUptoRow.mainSum:=(by unfold Func.isWrapper;first | (rw[if_pos (by decide +kernel)];kernel_rfl) | (rw[if_neg (by decide +kernel)];exact⟨rfl,rfl⟩))
theorem simplexRedundantOver:Rows.simplexRedundantUptoRow.holds Tryz.pinned (Rows.OpenSpec.upto Rows.simplexRedundantSpec) :=
 OpenClaim.holds_of_cond 8 Tryz.f8 rfl rfl rfl rfl rfl rfl rfl ⟨rfl,rfl,rfl,rfl,rfl⟩ rfl rfl rfl rfl rfl simplexRedundantT2 Tryz.func8 simplexRedundantT1 simplexRedundantT3 simplexRedundantT4
  (fun os started H enc _ F=>simplexRedundantLifted os started H enc F)
theorem simplexRedundant:Rows.SimplexRedundantUptoSaid:=simplexRedundantOver
end Go.Proofs.YtfainocfaddbdaaGreat
