/- PROVED HERE: WarmSolves returns true for every input of bulk at most 2^20, and its arguments read behind the call as they read before (the given statement WarmSolvesUptoSaid). -/
import Derived.Test.YtfainocfaddbdaaGreatU42
import Derived.Test.YtfainocfaddbdaaGreatU43
import Derived.Test.YtfainocfaddbdaaGreatU35
import Derived.WalkKit
set_option linter.all false
namespace Go.Proofs.YtfainocfaddbdaaGreat
open Go Go.ChangeShapes Go.WideShapes Go.ChangeAt Go.RowKit
set_option maxRecDepth 100000
theorem warmSolvesContract (H:Type)(enc:TypeId × Value→H)(W:World)(base:Nat)(args:Array Value)(ds gs:List (DataW H))(before:List MemPlace)
  (hval:∀ (j:Nat) t v,Tryz.f12.params[j]?=some t→args[j]?=some v→Value.okWide Tryz.prog W .any base t v)
  (hW:DataW.Whole enc Tryz.prog Tryz.f12.params.toList Rows.warmSolvesSpec.vars false W args.toList ds gs before) (hk:Rows.uptoSmall H (ds++gs)=true) :
  Calls Tryz.prog 12 args W fun e W'=>∃ v,e=.returned v∧Rows.warmSolvesSpec.post enc Tryz.prog Tryz.f12 false true false false W args v W':=by
 have hW':=hW
 obtain⟨p,q,hA0,hV,rfl,hfz,hnd⟩:=hW
 have hA:DataW.TrodAll enc Tryz.prog W 0 (fun _=>true) true Tryz.f12.params.toList args.toList ds p:=hA0
 have hk1:Rows.uptoBulkAll (ds++gs)≤1048576:=of_decide_eq_true hk
 have hk2:∀ d,d∈ds→Rows.uptoBulk d≤2^20:=fun d hd=>vS (zAQ (wQ.2 (.inl hd))) hk1
 rw[Tryz.params12] at hA hval
 obtain⟨v0,vs0,d0,ds0,p0,q0,e0,rfl,rfl,h0,r0⟩:=trodAll_cons hA
 obtain⟨v1,vs1,d1,ds1,p1,q1,e1,rfl,rfl,h1,r1⟩:=trodAll_cons r0
 obtain⟨rfl,rfl,rfl⟩:=trodAll_nil r1
 subst e1
 obtain rfl:args=#[v0,v1]:=by cases args;simp_all
 obtain⟨n0,hn0⟩:=h0
 have hok0:=hval 0 _ v0 rfl rfl
 obtain⟨l0,hl0,hc0⟩:=(bPrg W).rd hn0
 have hb0:=(bPrg W).up _ _ _ (hk2 d0 (by simp)) hl0
 have a0:Rep W (InW W) β0 v0 (.agg (pgc l0)):=by
  cases v0 with
  | agg cs=>exact zWF rfl hc0
  | _=>exact absurd hok0 (by simp [Value.okWide,Tryz.underlying31,Cell.okWide,Cell.ok])
 obtain⟨n1,hn1⟩:=h1
 have hok1:=hval 1 _ v1 rfl rfl
 have g1:v1.cells.toList=[v1]:=by
  cases v1 <;> first | rfl | exact absurd hok1 (by simp [Value.okWide,Tryz.underlying22,Cell.okWide,Cell.ok])
 rw[g1] at hn1
 obtain⟨l1,hl1,hc1⟩:=(zUI W).rd hn1
 have hb1:=(zUI W).up _ _ _ (hk2 d1 (by simp)) hl1
 refine zR0 rfl (by kernel_rfl) rfl (by rw[Tryz.params12];decide) hW' (zYI l0 l1 hb0 hb1) rfl (fun j hj=>?_)
 match j,hj with
 | 0,_=>exact a0
 | 1,_=>exact .c rfl hc1.1.1
theorem warmSolvesLifted (os:Os)(started:os.Started)(H:Type)(enc:TypeId × Value→H)(F:Stop.Interp) :
  ReturnsInHanded {} Tryz.checked os 12 .any ((Rows.OpenSpec.upto Rows.warmSolvesSpec).pre6 enc Tryz.prog Tryz.f12 Rows.warmSolvesUptoRow.domain false) (((Rows.OpenSpec.upto Rows.warmSolvesSpec).at F).post enc Tryz.prog Tryz.f12 false true false false):=by
 refine returnsInHanded_of_cond (C:=Tryz.checked) (s:=Rows.OpenSpec.upto Rows.warmSolvesSpec) (k:=Rows.uptoSmall) rfl own started (by kernel_rfl) Tryz.func12
  (OpenSpec.witness (enc:=enc) (C:=Tryz.checked) (s:=Rows.OpenSpec.upto Rows.warmSolvesSpec) (k:=Rows.uptoSmall) rfl false ⟨#[],#[.agg #[.int .i64 0,.slice none 0 0,.slice none 0 0,.bool false,.slice none 0 0,.slice none 0 0],.slice none 0 0],[]⟩ 8 (by kernel_rfl) (by kernel_rfl) (by kernel_rfl)
   (x:=([.agg [.lit (.int .i64 0),.nil,.agg [.nil,.agg [.lit (.bool false),.nil,.nil]]],.nil],[],[])) (by kernel_rfl) rfl (by kernel_rfl)) ?_
 intro W base args ds gs before hval hW _ hk _
 exact warmSolvesContract H enc W base args ds gs before hval hW hk
theorem warmSolvesT1:joinedFacts Tryz.pinned.checked.prog 12 Tryz.f12 (Rows.OpenSpec.upto Rows.warmSolvesSpec).bare Rows.warmSolvesUptoRow=true:=by
 unfold joinedFacts
 rw[jfE,jfL,jfM]
 kernel_rfl
theorem warmSolvesT2:Tryz.pinned.checked.prog.funcNamed Rows.warmSolvesUptoRow.func=some 12:=by kernel_rfl
theorem warmSolvesT3:Tryz.f12.isInstance Tryz.pinned.checked.prog Rows.warmSolvesUptoRow.origin Rows.warmSolvesUptoRow.targs:=(of_decide_eq_true (by kernel_rfl))
theorem warmSolvesT4:Tryz.f12.isWrapper Tryz.pinned.checked.prog Rows.warmSolvesUptoRow.wrapper Rows.warmSolvesUptoRow.mainSum:=(by unfold Func.isWrapper;first | (rw[if_pos (by decide +kernel)];kernel_rfl) | (rw[if_neg (by decide +kernel)];exact⟨rfl,rfl⟩))
theorem warmSolvesOver:Rows.warmSolvesUptoRow.holds Tryz.pinned (Rows.OpenSpec.upto Rows.warmSolvesSpec) :=
 OpenClaim.holds_of_cond 12 Tryz.f12 rfl rfl rfl rfl rfl rfl rfl ⟨rfl,rfl,rfl,rfl,rfl⟩ rfl rfl rfl rfl rfl warmSolvesT2 Tryz.func12 warmSolvesT1 warmSolvesT3 warmSolvesT4
  (fun os started H enc _ F=>warmSolvesLifted os started H enc F)
theorem warmSolves:Rows.WarmSolvesUptoSaid:=warmSolvesOver
end Go.Proofs.YtfainocfaddbdaaGreat
