/- PROVED HERE: ConflictValid returns true for every input, and its arguments read behind the call as they read before (the given statement ConflictValidSaid). -/
import Derived.Test.YtaeaffgjdcigoaaGreatW40
import Derived.Test.YtaeaffgjdcigoaaGreatW31
import Derived.Test.YtaeaffgjdcigoaaGreatW47
import Derived.WalkKit
set_option linter.all false
namespace Go.Proofs.YtaeaffgjdcigoaaGreat
open Go Go.ChangeShapes Go.WideShapes Go.ChangeAt Go.RowKit
set_option maxRecDepth 100000
theorem conflictValidContract (H:Type)(enc:TypeId × Value→H)(W:World)(base:Nat)(args:Array Value)(ds gs:List (DataW H))(before:List MemPlace)
  (hval:∀ (j:Nat) t v,Tryz.f6.params[j]?=some t→args[j]?=some v→Value.okWide Tryz.prog W .any base t v)
  (hW:DataW.Whole enc Tryz.prog Tryz.f6.params.toList Rows.conflictValidSpec.vars false W args.toList ds gs before) :
  Calls Tryz.prog 6 args W fun e W'=>∃ v,e=.returned v∧Rows.conflictValidSpec.post enc Tryz.prog Tryz.f6 false true false false W args v W':=by
 have hW':=hW
 obtain⟨p,q,hA0,hV,rfl,hfz,hnd⟩:=hW
 have hA:DataW.TrodAll enc Tryz.prog W 0 (fun _=>true) true Tryz.f6.params.toList args.toList ds p:=hA0
 rw[Tryz.params6] at hA hval
 obtain⟨v0,vs0,d0,ds0,p0,q0,e0,rfl,rfl,h0,r0⟩:=trodAll_cons hA
 obtain⟨v1,vs1,d1,ds1,p1,q1,e1,rfl,rfl,h1,r1⟩:=trodAll_cons r0
 obtain⟨v2,vs2,d2,ds2,p2,q2,e2,rfl,rfl,h2,r2⟩:=trodAll_cons r1
 obtain⟨rfl,rfl,rfl⟩:=trodAll_nil r2
 subst e1
 subst e2
 obtain rfl:args=#[v0,v1,v2]:=by cases args;simp_all
 obtain⟨n0,hn0⟩:=h0
 have hok0:=hval 0 _ v0 rfl rfl
 have g0:v0.cells.toList=[v0]:=by
  cases v0 <;> first | rfl | exact absurd hok0 (by simp [Value.okWide,Tryz.underlying22,Cell.okWide,Cell.ok])
 rw[g0] at hn0
 obtain⟨l0,hl0,hc0⟩:=(CC W).rd hn0
 obtain⟨n1,hn1⟩:=h1
 have hok1:=hval 1 _ v1 rfl rfl
 have g1:v1.cells.toList=[v1]:=by
  cases v1 <;> first | rfl | exact absurd hok1 (by simp [Value.okWide,Tryz.underlying5,Cell.okWide,Cell.ok])
 rw[g1] at hn1
 obtain⟨l1,hl1,hc1⟩:=(rU8 W).rd hn1
 obtain⟨n2,hn2⟩:=h2
 have hok2:=hval 2 _ v2 rfl rfl
 obtain⟨l2,hl2,hc2⟩:=(EG W).rd hn2
 have a2:Rep W (InW W) β0 v2 (rv l2):=by
  cases v2 with
  | agg cs=>exact MM rfl hc2
  | _=>exact absurd hok2 (by simp [Value.okWide,Tryz.underlying34,Cell.okWide,Cell.ok])
 refine KS rfl (by kernel_rfl) rfl (by rw[Tryz.params6];decide) hW' (Tm l0 l1 l2 hl0) rfl (fun j hj=>?_)
 match j,hj with
 | 0,_=>exact .c rfl hc0.1.1
 | 1,_=>exact .c rfl hc1.1.1
 | 2,_=>exact a2
theorem conflictValidLifted (os:Os)(started:os.Started)(H:Type)(enc:TypeId × Value→H) :
  ReturnsInHanded {} Tryz.checked os 6 .any (Rows.conflictValidSpec.pre6 enc Tryz.prog Tryz.f6 Rows.conflictValidRow.domain false) (Rows.conflictValidSpec.post enc Tryz.prog Tryz.f6 false true false false):=by
 refine returnsInHanded_of_change (C:=Tryz.checked) (s:=Rows.conflictValidSpec) own started (by kernel_rfl) Tryz.func6
  (ChangeSpec.witness6 (enc:=enc) (C:=Tryz.checked) (s:=Rows.conflictValidSpec) false ⟨#[],#[.slice none 0 0,.int .u8 0,.agg #[.bool false,.slice none 0 0,.slice none 0 0]],[]⟩ 8 (by kernel_rfl) (by kernel_rfl) (by kernel_rfl) (by kernel_rfl)) ?_
 intro W base args ds gs before hval hW _ _
 exact conflictValidContract H enc W base args ds gs before hval hW
theorem conflictValidT1:joinedFacts Tryz.pinned.checked.prog 6 Tryz.f6 Rows.conflictValidSpec Rows.conflictValidRow=true:=by
 unfold joinedFacts
 rw[jfE,jfL,jfM]
 kernel_rfl
theorem conflictValidT2:Tryz.pinned.checked.prog.funcNamed Rows.conflictValidRow.func=some 6:=by kernel_rfl
theorem conflictValidT3:Tryz.f6.isInstance Tryz.pinned.checked.prog Rows.conflictValidRow.origin Rows.conflictValidRow.targs:=(of_decide_eq_true (by kernel_rfl))
theorem conflictValidT4:Tryz.f6.isWrapper Tryz.pinned.checked.prog Rows.conflictValidRow.wrapper Rows.conflictValidRow.mainSum:=(by unfold Func.isWrapper;first | (rw[if_pos (by decide +kernel)];kernel_rfl) | (rw[if_neg (by decide +kernel)];exact⟨rfl,rfl⟩))
theorem conflictValidOver:Rows.conflictValidRow.holds Tryz.pinned (OpenSpec.ofChange Rows.conflictValidSpec) :=
 OpenClaim.holds_of_wide 6 Tryz.f6 rfl rfl rfl rfl rfl rfl rfl ⟨rfl,rfl,rfl,rfl,rfl⟩ rfl rfl rfl rfl rfl conflictValidT2 Tryz.func6 conflictValidT1 conflictValidT3 conflictValidT4
  (fun os started H enc _=>conflictValidLifted os started H enc)
theorem conflictValid:Rows.ConflictValidSaid:=conflictValidOver
end Go.Proofs.YtaeaffgjdcigoaaGreat
