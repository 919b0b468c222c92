/- PROVED HERE: ConflictLeaf returns true for every input, and its arguments read behind the call as they read before (the given statement ConflictLeafSaid). -/
import Derived.Test.YtaeaffgjdcigoaaGreatW41
import Derived.Test.YtaeaffgjdcigoaaGreatW31
import Derived.Test.YtaeaffgjdcigoaaGreatW47
import Derived.WalkKit
set_option linter.all false
namespace Go.Proofs.YtaeaffgjdcigoaaGreat
open Go Go.ChangeShapes Go.WideShapes Go.ChangeAt Go.RowKit
set_option maxRecDepth 100000
theorem conflictLeafContract (H:Type)(enc:TypeId × Value→H)(W:World)(base:Nat)(args:Array Value)(ds gs:List (DataW H))(before:List MemPlace)
  (hval:∀ (j:Nat) t v,Tryz.f9.params[j]?=some t→args[j]?=some v→Value.okWide Tryz.prog W .any base t v)
  (hW:DataW.Whole enc Tryz.prog Tryz.f9.params.toList Rows.conflictLeafSpec.vars false W args.toList ds gs before) :
  Calls Tryz.prog 9 args W fun e W'=>∃ v,e=.returned v∧Rows.conflictLeafSpec.post enc Tryz.prog Tryz.f9 false true false false W args v W':=by
 have hW':=hW
 obtain⟨p,q,hA0,hV,rfl,hfz,hnd⟩:=hW
 have hA:DataW.TrodAll enc Tryz.prog W 0 (fun _=>true) true Tryz.f9.params.toList args.toList ds p:=hA0
 rw[Tryz.params9] at hA hval
 obtain⟨v0,vs0,d0,ds0,p0,q0,e0,rfl,rfl,h0,r0⟩:=trodAll_cons hA
 obtain⟨v1,vs1,d1,ds1,p1,q1,e1,rfl,rfl,h1,r1⟩:=trodAll_cons r0
 obtain⟨v2,vs2,d2,ds2,p2,q2,e2,rfl,rfl,h2,r2⟩:=trodAll_cons r1
 obtain⟨rfl,rfl,rfl⟩:=trodAll_nil r2
 subst e1
 subst e2
 obtain rfl:args=#[v0,v1,v2]:=by cases args;simp_all
 obtain⟨n0,hn0⟩:=h0
 have hok0:=hval 0 _ v0 rfl rfl
 have g0:v0.cells.toList=[v0]:=by
  cases v0 <;> first | rfl | exact absurd hok0 (by simp [Value.okWide,Tryz.underlying22,Cell.okWide,Cell.ok])
 rw[g0] at hn0
 obtain⟨l0,hl0,hc0⟩:=(CC W).rd hn0
 obtain⟨n1,hn1⟩:=h1
 have hok1:=hval 1 _ v1 rfl rfl
 have g1:v1.cells.toList=[v1]:=by
  cases v1 <;> first | rfl | exact absurd hok1 (by simp [Value.okWide,Tryz.underlying5,Cell.okWide,Cell.ok])
 rw[g1] at hn1
 obtain⟨l1,hl1,hc1⟩:=(rU8 W).rd hn1
 obtain⟨n2,hn2⟩:=h2
 have hok2:=hval 2 _ v2 rfl rfl
 have g2:v2.cells.toList=[v2]:=by
  cases v2 <;> first | rfl | exact absurd hok2 (by simp [Value.okWide,Tryz.underlying5,Cell.okWide,Cell.ok])
 rw[g2] at hn2
 obtain⟨l2,hl2,hc2⟩:=(rU8 W).rd hn2
 refine KS rfl (by kernel_rfl) rfl (by rw[Tryz.params9];decide) hW' (Tn l0 l1 l2 hl0) rfl (fun j hj=>?_)
 match j,hj with
 | 0,_=>exact .c rfl hc0.1.1
 | 1,_=>exact .c rfl hc1.1.1
 | 2,_=>exact .c rfl hc2.1.1
theorem conflictLeafLifted (os:Os)(started:os.Started)(H:Type)(enc:TypeId × Value→H) :
  ReturnsInHanded {} Tryz.checked os 9 .any (Rows.conflictLeafSpec.pre6 enc Tryz.prog Tryz.f9 Rows.conflictLeafRow.domain false) (Rows.conflictLeafSpec.post enc Tryz.prog Tryz.f9 false true false false):=by
 refine returnsInHanded_of_change (C:=Tryz.checked) (s:=Rows.conflictLeafSpec) own started (by kernel_rfl) Tryz.func9
  (ChangeSpec.witness6 (enc:=enc) (C:=Tryz.checked) (s:=Rows.conflictLeafSpec) false ⟨#[],#[.slice none 0 0,.int .u8 0,.int .u8 0],[]⟩ 8 (by kernel_rfl) (by kernel_rfl) (by kernel_rfl) (by kernel_rfl)) ?_
 intro W base args ds gs before hval hW _ _
 exact conflictLeafContract H enc W base args ds gs before hval hW
theorem conflictLeafT1:joinedFacts Tryz.pinned.checked.prog 9 Tryz.f9 Rows.conflictLeafSpec Rows.conflictLeafRow=true:=by
 unfold joinedFacts
 rw[jfE,jfL,jfM]
 kernel_rfl
theorem conflictLeafT2:Tryz.pinned.checked.prog.funcNamed Rows.conflictLeafRow.func=some 9:=by kernel_rfl
theorem conflictLeafT3:Tryz.f9.isInstance Tryz.pinned.checked.prog Rows.conflictLeafRow.origin Rows.conflictLeafRow.targs:=(of_decide_eq_true (by kernel_rfl))
theorem conflictLeafT4:Tryz.f9.isWrapper Tryz.pinned.checked.prog Rows.conflictLeafRow.wrapper Rows.conflictLeafRow.mainSum:=(by unfold Func.isWrapper;first | (rw[if_pos (by decide +kernel)];kernel_rfl) | (rw[if_neg (by decide +kernel)];exact⟨rfl,rfl⟩))
theorem conflictLeafOver:Rows.conflictLeafRow.holds Tryz.pinned (OpenSpec.ofChange Rows.conflictLeafSpec) :=
 OpenClaim.holds_of_wide 9 Tryz.f9 rfl rfl rfl rfl rfl rfl rfl ⟨rfl,rfl,rfl,rfl,rfl⟩ rfl rfl rfl rfl rfl conflictLeafT2 Tryz.func9 conflictLeafT1 conflictLeafT3 conflictLeafT4
  (fun os started H enc _=>conflictLeafLifted os started H enc)
theorem conflictLeaf:Rows.ConflictLeafSaid:=conflictLeafOver
end Go.Proofs.YtaeaffgjdcigoaaGreat
