/- PROVED HERE: SimplexRow returns true for every input of bulk at most 2^20, and its arguments read behind the call as they read before (the given statement SimplexRowUptoSaid). -/
import Derived.Test.YtfainocfaddbdaaGreatX43
import Derived.Test.YtfainocfaddbdaaGreatX45
import Derived.Test.YtfainocfaddbdaaGreatX38
import Derived.WalkKit
set_option linter.all false
namespace Go.Proofs.YtfainocfaddbdaaGreat
open Go Go.ChangeShapes Go.WideShapes Go.ChangeAt Go.RowKit
set_option maxRecDepth 100000
theorem simplexRowContract (H:Type)(enc:TypeId × Value→H)(W:World)(base:Nat)(args:Array Value)(ds gs:List (DataW H))(before:List MemPlace)
  (hval:∀ (j:Nat) t v,Tryz.f9.params[j]?=some t→args[j]?=some v→Value.okWide Tryz.prog W .any base t v)
  (hW:DataW.Whole enc Tryz.prog Tryz.f9.params.toList Rows.simplexRowSpec.vars false W args.toList ds gs before) (hk:Rows.uptoSmall H (ds++gs)=true) :
  Calls Tryz.prog 9 args W fun e W'=>∃ v,e=.returned v∧Rows.simplexRowSpec.post enc Tryz.prog Tryz.f9 false true false false W args v W':=by
 have hW':=hW
 obtain⟨p,q,hA0,hV,rfl,hfz,hnd⟩:=hW
 have hA:DataW.TrodAll enc Tryz.prog W 0 (fun _=>true) true Tryz.f9.params.toList args.toList ds p:=hA0
 have hk1:Rows.uptoBulkAll (ds++gs)≤1048576:=of_decide_eq_true hk
 have hk2:∀ d,d∈ds→Rows.uptoBulk d≤2^20:=fun d hd=>Nat.le_trans (qH (List.mem_append.2 (.inl hd))) hk1
 rw[Tryz.params9] at hA hval
 obtain⟨v0,vs0,d0,ds0,p0,q0,e0,rfl,rfl,h0,r0⟩:=trodAll_cons hA
 obtain⟨v1,vs1,d1,ds1,p1,q1,e1,rfl,rfl,h1,r1⟩:=trodAll_cons r0
 obtain⟨rfl,rfl,rfl⟩:=trodAll_nil r1
 subst e1
 obtain rfl:args=#[v0,v1]:=by cases args;simp_all
 obtain⟨n0,hn0⟩:=h0
 have hok0:=hval 0 _ v0 rfl rfl
 obtain⟨l0,hl0,hc0⟩:=(mI W).rd hn0
 have hb0:=(mI W).up _ _ _ (hk2 d0 (by simp)) hl0
 have a0:Rep W (InW W) β0 v0 (.agg (pgc l0)):=by
  cases v0 with
  | agg cs=>exact dS rfl hc0
  | _=>exact absurd hok0 (by simp [Value.okWide,Tryz.underlying31,Cell.okWide,Cell.ok])
 obtain⟨n1,hn1⟩:=h1
 have hok1:=hval 1 _ v1 rfl rfl
 obtain⟨l1,hl1,hc1⟩:=(bAff W).rd hn1
 have hb1:=(bAff W).up _ _ _ (hk2 d1 (by simp)) hl1
 have a1:Rep W (InW W) β0 v1 (.agg (ac l1)):=by
  cases v1 with
  | agg cs=>exact dS rfl hc1
  | _=>exact absurd hok1 (by simp [Value.okWide,Tryz.underlying29,Cell.okWide,Cell.ok])
 refine fT rfl (by kernel_rfl) rfl (by rw[Tryz.params9];decide) hW' (zPF l0 l1 hb0 hb1) rfl (fun j hj=>?_)
 match j,hj with
 | 0,_=>exact a0
 | 1,_=>exact a1
theorem simplexRowLifted (os:Os)(started:os.Started)(H:Type)(enc:TypeId × Value→H)(F:Stop.Interp) :
  ReturnsInHanded {} Tryz.checked os 9 .any ((Rows.OpenSpec.upto Rows.simplexRowSpec).pre6 enc Tryz.prog Tryz.f9 Rows.simplexRowUptoRow.domain false) (((Rows.OpenSpec.upto Rows.simplexRowSpec).at F).post enc Tryz.prog Tryz.f9 false true false false):=by
 refine returnsInHanded_of_cond (C:=Tryz.checked) (s:=Rows.OpenSpec.upto Rows.simplexRowSpec) (k:=Rows.uptoSmall) rfl own started (by kernel_rfl) Tryz.func9
  (OpenSpec.witness (enc:=enc) (C:=Tryz.checked) (s:=Rows.OpenSpec.upto Rows.simplexRowSpec) (k:=Rows.uptoSmall) rfl false ⟨#[],#[.agg #[.int .i64 0,.slice none 0 0,.slice none 0 0,.bool false,.slice none 0 0,.slice none 0 0],.agg #[.slice none 0 0,.bool false,.slice none 0 0,.slice none 0 0]],[]⟩ 8 (by kernel_rfl) (by kernel_rfl) (by kernel_rfl)
   (x:=([.agg [.lit (.int .i64 0),.nil,.agg [.nil,.agg [.lit (.bool false),.nil,.nil]]],.agg [.nil,.agg [.lit (.bool false),.nil,.nil]]],[],[])) (by kernel_rfl) rfl (by kernel_rfl)) ?_
 intro W base args ds gs before hval hW _ hk _
 exact simplexRowContract H enc W base args ds gs before hval hW hk
theorem simplexRowT1:joinedFacts Tryz.pinned.checked.prog 9 Tryz.f9 (Rows.OpenSpec.upto Rows.simplexRowSpec).bare Rows.simplexRowUptoRow=true:=by
 unfold joinedFacts
 rw[jfE,jfL,jfM]
 kernel_rfl
theorem simplexRowT2:Tryz.pinned.checked.prog.funcNamed Rows.simplexRowUptoRow.func=some 9:=by kernel_rfl
theorem simplexRowT3:Tryz.f9.isInstance Tryz.pinned.checked.prog Rows.simplexRowUptoRow.origin Rows.simplexRowUptoRow.targs:=(of_decide_eq_true (by kernel_rfl))
theorem simplexRowT4:Tryz.f9.isWrapper Tryz.pinned.checked.prog Rows.simplexRowUptoRow.wrapper Rows.simplexRowUptoRow.mainSum:=(by unfold Func.isWrapper;first | (rw[if_pos (by decide +kernel)];kernel_rfl) | (rw[if_neg (by decide +kernel)];exact⟨rfl,rfl⟩))
theorem simplexRowOver:Rows.simplexRowUptoRow.holds Tryz.pinned (Rows.OpenSpec.upto Rows.simplexRowSpec) :=
 OpenClaim.holds_of_cond 9 Tryz.f9 rfl rfl rfl rfl rfl rfl rfl ⟨rfl,rfl,rfl,rfl,rfl⟩ rfl rfl rfl rfl rfl simplexRowT2 Tryz.func9 simplexRowT1 simplexRowT3 simplexRowT4
  (fun os started H enc _ F=>simplexRowLifted os started H enc F)
theorem simplexRow:Rows.SimplexRowUptoSaid:=simplexRowOver
end Go.Proofs.YtfainocfaddbdaaGreat
