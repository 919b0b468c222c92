/- A part of the proof: RsB, EwA. -/
import Derived.Test.YtgcpehdkdnkgeaaGreatX38
import Derived.Test.YtgcpehdkdnkgeaaGreatX36
import Derived.Test.YtgcpehdkdnkgeaaGreatX27
import Derived.Test.YtgcpehdkdnkgeaaGreatX37
set_option linter.all false
namespace Go.Proofs.YtgcpehdkdnkgeaaGreat
open Go
set_option maxRecDepth 100000
set_option maxHeartbeats 4000000
theorem zQ0 (s:Scp)(j:Int)(hs:s.sz (2^20)):zB 82 [sv s,.int .i64 (fun _=>j)] (rsv (s.rowsU j)):=by
 refine sF Tryz.f82 ?_
 have cb:=zB6 s j hs.lems
 have cph:=zPF s j hs
 have cd1:=nA s 1 j (hs.path.mono (by decide))
 have cd2:=nA s 2 j (hs.path.mono (by decide))
 have hR:s.rowsU j=(if s.onU j=true then s.rowsOn j else [])++(if s.offU j=true then s.rowsOff j else [])++(if s.onU j=true∨s.offU j=true then [] else s.rowsOpen j):=rfl
 obtain⟨x1,hx1⟩:∃ x:Int,x=if s.dcd 1 j=true then 0 else ((s.best j).1:Int):=⟨_,rfl⟩
 obtain⟨x2,hx2⟩:∃ x:Int,x=if s.dcd 2 j=true then 0 else ((s.best j).2:Int):=⟨_,rfl⟩
 have ro:s.rowsOn j=[⟨6,j,0,0⟩,⟨7,j,x1,0⟩,⟨8,j,x1,0⟩]:=by rw[hx1];rfl
 have rf:s.rowsOff j=[⟨5,j,0,0⟩,⟨9,j,0,x2⟩,⟨10,j,0,x2⟩]:=by rw[hx2];rfl
 have rop:s.rowsOpen j=[⟨5,j,0,0⟩,⟨6,j,0,0⟩]++(if 0<(s.best j).1 then [⟨11,j,((s.best j).1:Int),0⟩] else [])++(if 0<(s.best j).2 then [⟨12,j,0,((s.best j).2:Int)⟩] else [])++(if 0<(s.best j).1∧0<(s.best j).2 then [⟨13,j,((s.best j).1:Int),((s.best j).2:Int)⟩] else []):=rfl
 rw[ro,rf,rop] at hR
 clear ro rf rop hs
 generalize s.rowsU j=R at *
 generalize s.onU j=on at *
 generalize s.offU j=off at *
 generalize s.dcd 1 j=d1 at *
 generalize s.dcd 2 j=d2 at *
 generalize (s.best j).1=b1 at *
 generalize (s.best j).2=b2 at *
 obtain⟨⟨⟨gn,us,os⟩,⟨lo,hi,rows⟩,⟨ts,c1,c2,c3⟩⟩,path,L⟩:=s
 cbv
 refine cA cb ?_
 cbv
 refine cA cph ?_
 cbv
 refine cA cd1 ?_
 cbv
 refine j5 (σ:=Unit) (fun _=>⟨[(1,.int .i64 (fun _=>j)),(2,.ptr 2 0),(5,.int .i64 (fun _=>(b1:Int))),(6,.int .i64 (fun _=>(b2:Int))),(7,.bool (fun _=>on)),(8,.bool (fun _=>off)),(9,.int .i64 (fun _=>x1)),(10,.int .i64 (fun _=>(b2:Int)))],[(2,.box [.int .i64 (fun _=>gn),alv us,alv os,rlv lo,rlv hi,alv rows,tsv ts,.bool (fun _=>c1),nat c2,nat c3,dlv path,llv L])]⟩) (fun _=>True) (fun e=>?_) (fun e=>?_) (fun _ _=>?_)
 ·have q:x1=0:=by rw[hx1,if_pos e]
  cbv
  exact⟨(),trivial,wkZ⟩
 ·have q:x1=(b1:Int):=by rw[hx1,if_neg (by rw[e];decide)]
  cbv
  exact⟨(),trivial,wkZ⟩
 cbv
 refine cA cd2 ?_
 cbv
 refine j5 (σ:=Unit) (fun _=>⟨[(1,.int .i64 (fun _=>j)),(5,.int .i64 (fun _=>(b1:Int))),(6,.int .i64 (fun _=>(b2:Int))),(7,.bool (fun _=>on)),(8,.bool (fun _=>off)),(9,.int .i64 (fun _=>x1)),(10,.int .i64 (fun _=>x2))],[]⟩) (fun _=>True) (fun e=>?_) (fun e=>?_) (fun _ _=>?_)
 ·have q:x2=0:=by rw[hx2,if_pos e]
  cbv
  exact⟨(),trivial,wkZ⟩
 ·have q:x2=(b2:Int):=by rw[hx2,if_neg (by rw[e];decide)]
  cbv
  exact⟨(),trivial,wkZ⟩
 clear cb cph cd1 cd2 hx1 hx2
 cbv
 refine j5 (σ:=List Row) (fun X=>⟨[(1,.int .i64 (fun _=>j)),(5,.int .i64 (fun _=>(b1:Int))),(6,.int .i64 (fun _=>(b2:Int))),(7,.bool (fun _=>on)),(8,.bool (fun _=>off)),(10,.int .i64 (fun _=>x2)),(11,.osl 500 4 (fun _=>0) (fun _=>(X).length))],[(500,.arr 4 (fun _=>enc rwc (X)))]⟩) (fun X=>X=(if on=true then [⟨6,j,0,0⟩,⟨7,j,x1,0⟩,⟨8,j,x1,0⟩] else [])) (fun e=>?_) (fun e=>?_) (fun X hX=>?_)
 ·cbv
  refine zMN (.adoptT 500 4 35 rfl rfl) ?_
  cbv
  refine qH vG rfl rfl rfl (by simp [zA,zL]) rfl ⟨by simp [zL,y8]⟩ (yA (by first | (simp [zL,zA];done) | (simp [zL,zA];omega)) (by first | (simp [zL,zA];done) | (simp [zL,zA] at *;(try dsimp only [zG] at *);omega))) rfl ?_
  cbv
  exact⟨[⟨6,j,0,0⟩,⟨7,j,x1,0⟩,⟨8,j,x1,0⟩],by rw[if_pos e],wkY (by cbv;repeat' first | exact trivial | exact lR | exact zE om | exact zW rfl (by first | rfl | (rw[e];done) | (simp [zL,zA];done) | (rw[e];simp [zL,zA];done)) | exact zI (by first | rfl | (rw[e];done) | (rw[e];rfl) | (rw[←zT];rfl) | (rw[e,←zT];rfl)) | apply And.intro)⟩
 ·cbv
  exact⟨[],by rw[if_neg (by rw[e];decide)],.trans (wkZ (ps':=⟨[(1,.int .i64 (fun _=>j)),(5,.int .i64 (fun _=>(b1:Int))),(6,.int .i64 (fun _=>(b2:Int))),(7,.bool (fun _=>on)),(8,.bool (fun _=>off)),(10,.int .i64 (fun _=>x2)),(11,.nil)],[]⟩)) (.trans (.adoptT 500 4 11 rfl rfl) (wkY (by cbv;repeat' first | exact trivial | exact lR | exact zE om | exact zW rfl (by first | rfl | (rw[e];done) | (simp [zL,zA];done) | (rw[e];simp [zL,zA];done)) | exact zI (by first | rfl | (rw[e];done) | (rw[e];rfl) | (rw[←zT];rfl) | (rw[e,←zT];rfl)) | apply And.intro)))⟩
 have lX:X.length≤3:=by rw[hX];split <;> simp
 cbv
 refine j5 (σ:=List Row) (fun Y=>⟨[(1,.int .i64 (fun _=>j)),(5,.int .i64 (fun _=>(b1:Int))),(6,.int .i64 (fun _=>(b2:Int))),(7,.bool (fun _=>on)),(8,.bool (fun _=>off)),(11,.osl 500 4 (fun _=>0) (fun _=>(Y).length))],[(500,.arr 4 (fun _=>enc rwc (Y)))]⟩) (fun Y=>Y=X++(if off=true then [⟨5,j,0,0⟩,⟨9,j,0,x2⟩,⟨10,j,0,x2⟩] else [])) (fun e=>?_) (fun e=>?_) (fun Y hY=>?_)
 ·cbv
  refine qH vG rfl rfl rfl (by simp [zA,zL]) rfl ⟨by simp [zL,y8]⟩ (yA (by first | (simp [zL,zA];done) | (simp [zL,zA];omega)) (by first | (simp [zL,zA];done) | (simp [zL,zA] at *;(try dsimp only [zG] at *);omega))) rfl ?_
  cbv
  exact⟨X++[⟨5,j,0,0⟩,⟨9,j,0,x2⟩,⟨10,j,0,x2⟩],by rw[if_pos e],wkY (by cbv;repeat' first | exact trivial | exact lR | exact zE om | exact zW rfl (by first | rfl | (rw[e];done) | (simp [zL,zA];done) | (rw[e];simp [zL,zA];done)) | exact zI (by first | rfl | (rw[e];done) | (rw[e];rfl) | (rw[←zT];rfl) | (rw[e,←zT];rfl)) | apply And.intro)⟩
 ·cbv
  exact⟨X,by rw[if_neg (by rw[e];decide),List.append_nil],wkY (by cbv;repeat' first | exact trivial | exact lR | exact zE om | exact zW rfl (by first | rfl | (rw[e];done) | (simp [zL,zA];done) | (rw[e];simp [zL,zA];done)) | exact zI (by first | rfl | (rw[e];done) | (rw[e];rfl) | (rw[←zT];rfl) | (rw[e,←zT];rfl)) | apply And.intro)⟩
 have lY:Y.length≤6:=by rw[hY,List.length_append];split <;> simp <;> omega
 rw[←hX,←hY] at hR
 clear hX hY lX
 cbv
 have fin:on=true∨off=true→R=Y:=fun h=>by rw[hR,if_pos h,List.append_nil]
 refine z5 (fun e1=>?_) (fun e1=>?_)
 ·have hR:=fin (.inl e1)
  cbv
  (refine qW _ (.trans (.le (ps':=⟨[(4,.osl 500 4 (fun _=>0) (fun _=>Y.length))],[(500,.arr 4 (fun _=>enc rwc Y))]⟩) (by cbv;exact okA) (by cbv;exact⟨zI rfl,trivial⟩) rfl) (.frz 500 rfl rfl (by cbv;repeat' first | exact trivial | exact z8 (u5 rwc _) | apply And.intro) (by cbv;repeat' first | exact trivial | apply And.intro))) rfl (by cbv;exact zQ (by rw[hR];exact wQ rwc _)))
 cbv
 refine zV (fun e2=>?_) (fun e2=>?_)
 ·have hR:=fin (.inr e2)
  cbv
  (refine qW _ (.trans (.le (ps':=⟨[(4,.osl 500 4 (fun _=>0) (fun _=>Y.length))],[(500,.arr 4 (fun _=>enc rwc Y))]⟩) (by cbv;exact okA) (by cbv;exact⟨zI rfl,trivial⟩) rfl) (.frz 500 rfl rfl (by cbv;repeat' first | exact trivial | exact z8 (u5 rwc _) | apply And.intro) (by cbv;repeat' first | exact trivial | apply And.intro))) rfl (by cbv;exact zQ (by rw[hR];exact wQ rwc _)))
 rw[if_neg (by rw[e1,e2];decide)] at hR
 clear fin
 cbv
 refine qH vG rfl rfl rfl (by simp [zA,zL]) rfl ⟨by simp [zL,y8]⟩ (yA (by first | (simp [zL,zA];done) | (simp [zL,zA];omega)) (by first | (simp [zL,zA];done) | (simp [zL,zA] at *;(try dsimp only [zG] at *);omega))) rfl ?_
 cbv
 refine uV (σ:=List Row) (fun Z=>⟨[(1,.int .i64 (fun _=>j)),(5,.int .i64 (fun _=>(b1:Int))),(6,.int .i64 (fun _=>(b2:Int))),(11,.osl 500 4 (fun _=>0) (fun _=>(Z).length))],[(500,.arr 4 (fun _=>enc rwc (Z)))]⟩) (fun Z=>Z=(Y++[⟨5,j,0,0⟩,⟨6,j,0,0⟩])++(if 0<b1 then [⟨11,j,(b1:Int),0⟩] else [])) (fun e=>?_) (fun e=>?_) (fun Z hZ=>?_)
 ·have p:0<b1:=by (try dsimp only [zG] at *);omega
  cbv
  refine qH vG rfl rfl rfl (by simp [zA,zL]) rfl ⟨by simp [zL,y8]⟩ (yA (by first | (simp [zL,zA];done) | (simp [zL,zA];omega)) (by first | (simp [zL,zA];done) | (simp [zL,zA] at *;(try dsimp only [zG] at *);omega))) rfl ?_
  cbv
  have g:(enc rwc Y++zL [rwc ⟨5,j,0,0⟩,rwc ⟨6,j,0,0⟩])++zL [rwc ⟨11,j,(b1:Int),0⟩]=enc rwc ((Y++[⟨5,j,0,0⟩,⟨6,j,0,0⟩])++[⟨11,j,(b1:Int),0⟩]):=by rw[←zT,←zT];rfl
  exact⟨(Y++[⟨5,j,0,0⟩,⟨6,j,0,0⟩])++[⟨11,j,(b1:Int),0⟩],by rw[if_pos p],.le (by cbv;repeat' first | exact trivial | exact lR | exact zW rfl (by simp [zL,zA]) | apply And.intro) (by cbv;exact⟨zI g,trivial⟩) rfl⟩
 ·have p:¬ 0<b1:=by (try dsimp only [zG] at *);omega
  cbv
  have g:enc rwc Y++zL [rwc ⟨5,j,0,0⟩,rwc ⟨6,j,0,0⟩]=enc rwc (Y++[⟨5,j,0,0⟩,⟨6,j,0,0⟩]):=by rw[←zT];rfl
  exact⟨Y++[⟨5,j,0,0⟩,⟨6,j,0,0⟩],by rw[if_neg p,List.append_nil],.le (by cbv;repeat' first | exact trivial | exact lR | exact zW rfl (by simp [zL,zA]) | apply And.intro) (by cbv;exact⟨zI g,trivial⟩) rfl⟩
 have lZ:Z.length≤9:=by rw[hZ,List.length_append,List.length_append];split <;> simp <;> omega
 cbv
 refine uV (σ:=List Row) (fun W=>⟨[(1,.int .i64 (fun _=>j)),(5,.int .i64 (fun _=>(b1:Int))),(6,.int .i64 (fun _=>(b2:Int))),(11,.osl 500 4 (fun _=>0) (fun _=>(W).length))],[(500,.arr 4 (fun _=>enc rwc (W)))]⟩) (fun W=>W=Z++(if 0<b2 then [⟨12,j,0,(b2:Int)⟩] else [])) (fun e=>?_) (fun e=>?_) (fun W hW=>?_)
 ·have p:0<b2:=by (try dsimp only [zG] at *);omega
  cbv
  refine qH vG rfl rfl rfl (by simp [zA,zL]) rfl ⟨by simp [zL,y8]⟩ (yA (by first | (simp [zL,zA];done) | (simp [zL,zA];omega)) (by first | (simp [zL,zA];done) | (simp [zL,zA] at *;(try dsimp only [zG] at *);omega))) rfl ?_
  cbv
  exact⟨Z++[⟨12,j,0,(b2:Int)⟩],by rw[if_pos p],wkY (by cbv;repeat' first | exact trivial | exact lR | exact zE om | exact zW rfl (by first | rfl | (rw[p];done) | (simp [zL,zA];done) | (rw[p];simp [zL,zA];done)) | exact zI (by first | rfl | (rw[p];done) | (rw[p];rfl) | (rw[←zT];rfl) | (rw[p,←zT];rfl)) | apply And.intro)⟩
 ·have p:¬ 0<b2:=by (try dsimp only [zG] at *);omega
  cbv
  exact⟨Z,by rw[if_neg p,List.append_nil],wkY (by cbv;repeat' first | exact trivial | exact lR | exact zE om | exact zW rfl (by first | rfl | (rw[p];done) | (simp [zL,zA];done) | (rw[p];simp [zL,zA];done)) | exact zI (by first | rfl | (rw[p];done) | (rw[p];rfl) | (rw[←zT];rfl) | (rw[p,←zT];rfl)) | apply And.intro)⟩
 have lW:W.length≤10:=by rw[hW,List.length_append];split <;> simp <;> omega
 have hR':R=W++(if 0<b1∧0<b2 then [⟨13,j,(b1:Int),(b2:Int)⟩] else []):=by rw[hR,hW,hZ];simp only[List.append_assoc]
 clear hR hZ hW lZ lY
 cbv
 refine zR (fun e=>?_) (fun e=>?_)
 ·cbv
  refine zF (fun e'=>?_) (fun e'=>?_)
  ·have hR:R=W++[⟨13,j,(b1:Int),(b2:Int)⟩]:=by rw[hR',if_pos ⟨by (try dsimp only [zG] at *);omega,by (try dsimp only [zG] at *);omega⟩]
   cbv
   refine qH vG rfl rfl rfl (by simp [zA,zL]) rfl ⟨by simp [zL,y8]⟩ (yA (by first | (simp [zL,zA];done) | (simp [zL,zA];omega)) (by first | (simp [zL,zA];done) | (simp [zL,zA] at *;(try dsimp only [zG] at *);omega))) rfl ?_
   cbv
   have g:enc rwc W++zL [rwc ⟨13,j,(b1:Int),(b2:Int)⟩]=enc rwc (W++[⟨13,j,(b1:Int),(b2:Int)⟩]):=by rw[←zT];rfl
   refine qW _ (.trans (.le (ps':=⟨[(4,.osl 500 4 (fun _=>0) (fun _=>(W++([⟨13,j,(b1:Int),(b2:Int)⟩]:List Row)).length))],[(500,.arr 4 (fun _=>enc rwc (W++([⟨13,j,(b1:Int),(b2:Int)⟩]:List Row))))]⟩) (by cbv;exact⟨zW rfl (by simp [zL,zA]),trivial⟩) (by cbv;exact⟨zI g,trivial⟩) rfl) (.frz 500 rfl rfl (by cbv;repeat' first | exact trivial | exact z8 (u5 rwc _) | apply And.intro) (by cbv;repeat' first | exact trivial | apply And.intro))) rfl (by cbv;exact zQ (by rw[hR];exact wQ rwc _))
  ·have hR:R=W:=by rw[hR',if_neg (fun h=>by (try dsimp only [zG] at *);omega),List.append_nil]
   cbv
   (refine qW _ (.trans (.le (ps':=⟨[(4,.osl 500 4 (fun _=>0) (fun _=>W.length))],[(500,.arr 4 (fun _=>enc rwc W))]⟩) (by cbv;exact okA) (by cbv;exact⟨zI rfl,trivial⟩) rfl) (.frz 500 rfl rfl (by cbv;repeat' first | exact trivial | exact z8 (u5 rwc _) | apply And.intro) (by cbv;repeat' first | exact trivial | apply And.intro))) rfl (by cbv;exact zQ (by rw[hR];exact wQ rwc _)))
 ·have hR:R=W:=by rw[hR',if_neg (fun h=>by (try dsimp only [zG] at *);omega),List.append_nil]
  cbv
  (refine qW _ (.trans (.le (ps':=⟨[(4,.osl 500 4 (fun _=>0) (fun _=>W.length))],[(500,.arr 4 (fun _=>enc rwc W))]⟩) (by cbv;exact okA) (by cbv;exact⟨zI rfl,trivial⟩) rfl) (.frz 500 rfl rfl (by cbv;repeat' first | exact trivial | exact z8 (u5 rwc _) | apply And.intro) (by cbv;repeat' first | exact trivial | apply And.intro))) rfl (by cbv;exact zQ (by rw[hR];exact wQ rwc _)))
theorem zRO {s:Scp}(hv:s.q.valid=true)(i:Nat):s.fm ⟨4,(i:Int),0,0⟩=s.fIn ⟨4,(i:Int),0,0⟩:=by
 unfold Scp.fm
 rw[if_neg (fun h=>by
  rcases h with h | h | h
  ·exact absurd (show (4:Int)<1 from h) (by decide)
  ·exact absurd (show (14:Int)≤4 from h) (by decide)
  ·rw[hv] at h;cases h),if_pos (show (4:Int)≤4 by decide)]
theorem zGJ (s:Scp)(hs:s.sz (2^20))(hn:s.q.g.n≤1000000)(hr:s.q.r.rows.length≤1000000)(hp:s.path.length≤1000000)(hu:s.q.g.us.length≤1000000):zB 24 [sv s] (rsv s.all):=by
 refine sF Tryz.f24 ?_
 have cv:=uS s.q (hs.q.mono (by decide))
 have cf:=fun i:Nat=>zPG s ⟨4,i,0,0⟩ (hs.mono (by decide))
 cases hv:s.q.valid with
 | false =>
  have hall:s.all=[]:=by unfold Scp.all;rw[if_pos hv]
  rw[hall]
  rw[hv] at cv
  obtain⟨⟨⟨gn,us,os⟩,⟨lo,hi,rows⟩,⟨ts,c1,c2,c3⟩⟩,path,L⟩:=s
  cbv
  refine cA cv ?_
  cbv
  refine cZ rfl ?_
  cbv
  (refine rC ?_;cbv)
  exact yX rfl
 | true =>
  obtain⟨A,B,C,D,Q⟩:=zCV hv
  rw[hv] at cv
  have fa1:=Q.a1
  have fb1:=Q.b1
  have fc1:=Q.c1
  have fd1:=Q.d1
  have la:=Q.la
  have lb:=Q.lb
  have lc':=Q.lc
  have ld:=Q.ld
  have hN:s.q.g.n≤0∨s.q.g.n=(s.q.g.n.toNat:Int):=by omega
  rw[Q.e]
  have a0:=Q.a0
  have b0:=Q.b0
  have c0:=Q.c0
  have d0:=Q.d0
  have cou:=fun j:Nat=>zQ0 s (j:Int) hs
  have fms':∀ i:Nat,∃ (V:Go.Proofs.YtgcpehdkdnkgeaaGreat.A) (W:Bool),zB 81 [sv s,rwv ⟨4,i,0,0⟩] (.tup [av V,.bool (fun _=>W)])∧C (i+1)=C i++(if W=true then [⟨4,i,0,0⟩] else []):=fun i=>by
   refine⟨_,_,cf i,?_⟩
   rw[←zRO hv i]
   exact fc1 i
  have us':∀ j:Nat,∃ U:List Row,zB 82 [sv s,.int .i64 (fun _=>(j:Int))] (rsv U)∧D (j+1)=D j++U∧U.length≤12:=fun j=>⟨_,cou j,fd1 j,zAS s j⟩
  clear cou fd1 cf Q hs hv fc1
  generalize hNn:s.q.g.n.toNat=N at *
  obtain⟨⟨⟨gn,us,os⟩,⟨lo,hi,rows⟩,⟨ts,c1,c2,c3⟩⟩,path,L⟩:=s
  dsimp only at hn hr hp hu hN hNn lb lc' ld b0 c0 d0
  have hN1:N≤1000000:=by omega
  have lA:∀ i,i≤N→(A i).length≤100000000:=fun i h=>by have:=la i;omega
  have lB:∀ i,i≤rows.length→(B i).length≤100000000:=fun i h=>by have:=lb i;omega
  have lC:∀ i,i≤path.length→(C i).length≤100000000:=fun i h=>by have:=lc' i;omega
  have lD:∀ i,i≤us.length→(D i).length≤100000000:=fun i h=>by have:=ld i;omega
  clear la lb lc' ld
  cbv
  refine cA cv ?_
  cbv
  refine vH rfl ?_
  cbv
  refine z4 (σ:=Nat) (fun i=>⟨[(1,.ptr 1 0),(3,.osl 500 4 (fun _=>0) (fun _=>(A i).length)),(18,.int .i64 (fun _=>gn)),(19,.int .i64 (fun _=>(i:Int)))],[(1,.box [.int .i64 (fun _=>gn),alv us,alv os,rlv lo,rlv hi,alv rows,tsv ts,.bool (fun _=>c1),nat c2,nat c3,dlv path,llv L]),(500,.arr 4 (fun _=>enc rwc (A i)))]⟩)
   (fun i=>i≤N) (fun i=>N - i) 0 (Nat.zero_le _)
   (.trans (wkZ (ps':=⟨[(1,.ptr 1 0),(3,.nil),(18,.int .i64 (fun _=>gn)),(19,.int .i64 (fun _=>((0:Nat):Int)))],[(1,.box [.int .i64 (fun _=>gn),alv us,alv os,rlv lo,rlv hi,alv rows,tsv ts,.bool (fun _=>c1),nat c2,nat c3,dlv path,llv L])]⟩)) (.trans (.adoptT (ps:=⟨[(1,.ptr 1 0),(3,.nil),(18,.int .i64 (fun _=>gn)),(19,.int .i64 (fun _=>((0:Nat):Int)))],[(1,.box [.int .i64 (fun _=>gn),alv us,alv os,rlv lo,rlv hi,alv rows,tsv ts,.bool (fun _=>c1),nat c2,nat c3,dlv path,llv L])]⟩) 500 4 3 rfl rfl) (wkY (by cbv;repeat' first | exact trivial | exact lR | exact zE om | exact zW rfl (by first | rfl | (rw[a0];done) | (simp [zL,zA];done) | (rw[a0];simp [zL,zA];done)) | exact zI (by first | rfl | (rw[a0];done) | (rw[a0];rfl) | (rw[←zT];rfl) | (rw[a0,←zT];rfl)) | apply And.intro)))) ?_
  intro i hi'
  have l1:=lA i hi'
  cbv
  refine zF (fun h=>?_) (fun h=>?_)
  ·have hlt:i<N:=by (try dsimp only [zG] at *);omega
   have f:=fa1 i
   clear fms' us' lA lB lC lD fa1 fb1
   generalize A i=X at *
   cbv
   refine qH vG rfl rfl rfl (by simp [zA,zL]) rfl ⟨by simp [zL,y8]⟩ (yA (by first | (simp [zL,zA];done) | (simp [zL,zA];omega)) (by first | (simp [zL,zA];done) | (simp [zL,zA] at *;(try dsimp only [zG] at *);omega))) rfl ?_
   cbv
   exact⟨zH om om,i+1,(by show i+1≤N;omega),(by show N - (i+1)<N - i;omega),wkY (by cbv;repeat' first | exact trivial | exact lR | exact zE om | exact zW rfl (by first | rfl | (rw[f];done) | (simp [zL,zA];done) | (rw[f];simp [zL,zA];done)) | exact zI (by first | rfl | (rw[f];done) | (rw[f];rfl) | (rw[←zT];rfl) | (rw[f,←zT];rfl)) | apply And.intro)⟩
  have hN':i=N:=by (try dsimp only [zG] at *);omega
  subst hN'
  clear l1 lA hi' h
  cbv
  refine z4 (σ:=Nat) (fun i=>⟨[(1,.ptr 1 0),(3,.osl 500 4 (fun _=>0) (fun _=>(B i).length)),(34,.int .i64 (fun _=>((enc ac rows).length:Int))),(35,.int .i64 (fun _=>(i:Int)))],[(1,.box [.int .i64 (fun _=>gn),alv us,alv os,rlv lo,rlv hi,alv rows,tsv ts,.bool (fun _=>c1),nat c2,nat c3,dlv path,llv L]),(500,.arr 4 (fun _=>enc rwc (B i)))]⟩)
   (fun i=>i≤rows.length) (fun i=>rows.length - i) 0 (Nat.zero_le _) (wkY (by cbv;repeat' first | exact trivial | exact lR | exact zE om | exact zW rfl (by first | rfl | (rw[b0];done) | (simp [zL,zA];done) | (rw[b0];simp [zL,zA];done)) | exact zI (by first | rfl | (rw[b0];done) | (rw[b0];rfl) | (rw[←zT];rfl) | (rw[b0,←zT];rfl)) | apply And.intro)) ?_
  intro i hi'
  have l1:=lB i hi'
  cbv
  refine zF (fun h=>?_) (fun h=>?_)
  ·have hlt:i<rows.length:=by rw[zA] at h;(try dsimp only [zG] at *);omega
   have f:=fb1 i
   clear fms' us' lB lC lD fa1 fb1
   generalize B i=X at *
   cbv
   refine qH vG rfl rfl rfl (by simp [zA,zL]) rfl ⟨by simp [zL,y8]⟩ (yA (by first | (simp [zL,zA];done) | (simp [zL,zA];omega)) (by first | (simp [zL,zA];done) | (simp [zL,zA] at *;(try dsimp only [zG] at *);omega))) rfl ?_
   cbv
   exact⟨zH om om,i+1,(by show i+1≤rows.length;omega),(by show rows.length - (i+1)<rows.length - i;omega),wkY (by cbv;repeat' first | exact trivial | exact lR | exact zE om | exact zW rfl (by first | rfl | (rw[f];done) | (simp [zL,zA];done) | (rw[f];simp [zL,zA];done)) | exact zI (by first | rfl | (rw[f];done) | (rw[f];rfl) | (rw[←zT];rfl) | (rw[f,←zT];rfl)) | apply And.intro)⟩
  have hN':i=rows.length:=by rw[zA] at h;(try dsimp only [zG] at *);omega
  rw[hN'] at l1 ⊢
  clear l1 lB hi' h hN'
  cbv
  refine z4 (σ:=Nat) (fun i=>⟨[(1,.ptr 1 0),(3,.osl 500 4 (fun _=>0) (fun _=>(C i).length)),(46,.int .i64 (fun _=>((enc dc path).length:Int))),(47,.int .i64 (fun _=>(i:Int)))],[(1,.box [.int .i64 (fun _=>gn),alv us,alv os,rlv lo,rlv hi,alv rows,tsv ts,.bool (fun _=>c1),nat c2,nat c3,dlv path,llv L]),(500,.arr 4 (fun _=>enc rwc (C i)))]⟩)
   (fun i=>i≤path.length) (fun i=>path.length - i) 0 (Nat.zero_le _) (wkY (by cbv;repeat' first | exact trivial | exact lR | exact zE om | exact zW rfl (by first | rfl | (rw[c0];done) | (simp [zL,zA];done) | (rw[c0];simp [zL,zA];done)) | exact zI (by first | rfl | (rw[c0];done) | (rw[c0];rfl) | (rw[←zT];rfl) | (rw[c0,←zT];rfl)) | apply And.intro)) ?_
  intro i hi'
  have l1:=lC i hi'
  cbv
  refine zF (fun h=>?_) (fun h=>?_)
  ·have hlt:i<path.length:=by rw[zA] at h;(try dsimp only [zG] at *);omega
   obtain⟨⟨Vt,Vc⟩,W,cF,f⟩:=fms' i
   clear fms' us' lC lD fa1 fb1
   generalize C i=X at *
   cbv
   refine cA cF ?_
   cbv
   refine zV (fun e=>?_) (fun e=>?_)
   ·rw[if_pos e] at f
    cbv
    refine qH vG rfl rfl rfl (by simp [zA,zL]) rfl ⟨by simp [zL,y8]⟩ (yA (by first | (simp [zL,zA];done) | (simp [zL,zA];omega)) (by first | (simp [zL,zA];done) | (simp [zL,zA] at *;(try dsimp only [zG] at *);omega))) rfl ?_
    cbv
    exact⟨zH om om,i+1,(by show i+1≤path.length;omega),(by show path.length - (i+1)<path.length - i;omega),wkY (by cbv;repeat' first | exact trivial | exact lR | exact zE om | exact zW rfl (by first | rfl | (rw[f];done) | (simp [zL,zA];done) | (rw[f];simp [zL,zA];done)) | exact zI (by first | rfl | (rw[f];done) | (rw[f];rfl) | (rw[←zT];rfl) | (rw[f,←zT];rfl)) | apply And.intro)⟩
   ·rw[if_neg (by rw[e];decide),List.append_nil] at f
    cbv
    exact⟨zH om om,i+1,(by show i+1≤path.length;omega),(by show path.length - (i+1)<path.length - i;omega),wkY (by cbv;repeat' first | exact trivial | exact lR | exact zE om | exact zW rfl (by first | rfl | (rw[f];done) | (simp [zL,zA];done) | (rw[f];simp [zL,zA];done)) | exact zI (by first | rfl | (rw[f];done) | (rw[f];rfl) | (rw[←zT];rfl) | (rw[f,←zT];rfl)) | apply And.intro)⟩
  have hN':i=path.length:=by rw[zA] at h;(try dsimp only [zG] at *);omega
  rw[hN'] at l1 ⊢
  clear l1 lC hi' h hN' fms'
  cbv
  refine z4 (σ:=Nat) (fun j=>⟨[(1,.ptr 1 0),(3,.osl 500 4 (fun _=>0) (fun _=>(D j).length)),(68,.int .i64 (fun _=>((enc ac us).length:Int))),(69,.int .i64 (fun _=>(j:Int)))],[(1,.box [.int .i64 (fun _=>gn),alv us,alv os,rlv lo,rlv hi,alv rows,tsv ts,.bool (fun _=>c1),nat c2,nat c3,dlv path,llv L]),(500,.arr 4 (fun _=>enc rwc (D j)))]⟩)
   (fun j=>j≤us.length) (fun j=>us.length - j) 0 (Nat.zero_le _) (wkY (by cbv;repeat' first | exact trivial | exact lR | exact zE om | exact zW rfl (by first | rfl | (rw[d0];done) | (simp [zL,zA];done) | (rw[d0];simp [zL,zA];done)) | exact zI (by first | rfl | (rw[d0];done) | (rw[d0];rfl) | (rw[←zT];rfl) | (rw[d0,←zT];rfl)) | apply And.intro)) ?_
  intro j hj
  have l1:=lD j hj
  cbv
  refine zF (fun h=>?_) (fun h=>?_)
  ·have hlt:j<us.length:=by rw[zA] at h;(try dsimp only [zG] at *);omega
   obtain⟨U,cU,f,lU⟩:=us' j
   clear us' lD fa1 fb1
   generalize D j=X at *
   cbv
   refine cA cU ?_
   cbv
   refine qH vG rfl rfl rfl (by rw[zA]) rfl (wN gC _) (yA (by simp only[zA];omega) (by simp only[zA];omega)) rfl ?_
   cbv
   exact⟨zH om om,j+1,(by show j+1≤us.length;omega),(by show us.length - (j+1)<us.length - j;omega),.le (by cbv;repeat' first | exact trivial | exact lR | exact zE om | exact zW rfl (by rw[f];simp [zA]) | apply And.intro) (by cbv;repeat' first | exact trivial | exact lR | exact zI (by rw[f,←zT]) | apply And.intro) rfl⟩
  have hN':j=us.length:=by rw[zA] at h;(try dsimp only [zG] at *);omega
  rw[hN'] at l1 ⊢
  clear l1 lD hj h hN' us'
  generalize D us.length=X at *
  cbv
  refine qW _ (.trans (.le (ps':=⟨[(2,.osl 500 4 (fun _=>0) (fun _=>X.length))],[(500,.arr 4 (fun _=>enc rwc X))]⟩) (by cbv;exact okA) (by cbv;exact⟨zI rfl,trivial⟩) rfl) (.frz 500 rfl rfl (by cbv;repeat' first | exact trivial | exact z8 (u5 rwc _) | apply And.intro) (by cbv;repeat' first | exact trivial | apply And.intro))) rfl (by cbv;exact zQ (wQ rwc _))
theorem zPN (f:F)(l:List Rat){k n m:Nat}(hf:f.fl k n)(hw:f.wf (l.length:Int))(hl:∀ q,q∈l→Fits m q)(hk:k≤2^30)(hm:m≤2^30)(hn:k+(k+m+1) * n≤2^30)(hn2:n≤2^30)(hll:l.length<2^40) :
  zB 167 [av (fA f),rlv (l.map zC)] (.tup [rv (zC (f.at (xr l))),.int .i64 (fun _=>0)]):=by
 refine sF Tryz.f167 ?_
 have fx:=gI hw hl
 have hi:∀ (i:Nat) t,f.ts[i]?=some t→∃ j:Nat,t.1=(j:Int)∧j<l.length∧(l.map zC)[j]?=some (zC (xr l t.1)):=fun i t h=>by
  have hv:=hw.v t (List.mem_of_getElem? h)
  obtain⟨q,hq⟩:=zS (l:=l) (i:=t.1.toNat) (by omega)
  have e:t.1=((t.1.toNat:Nat):Int):=by omega
  refine⟨t.1.toNat,e,by omega,?_⟩
  rw[List.getElem?_map,hq]
  rw[e,aV hq]
  rfl
 have cm:∀ t,t∈f.ts→zB 195 [rv (zC t.2),rv (zC (xr l t.1))] (rv (zC (t.2 * xr l t.1))):=fun t ht=>by
  have:=s199 (zC t.2) (zC (xr l t.1)) ((zU (hf.t t ht)).mono (by omega)) ((zU (fx t ht)).mono (by omega))
  rw[zY,zY] at this
  exact this
 have ca:∀ (i:Nat) t,f.ts[i]?=some t→zB 121 [rv (zC (evS f (xr l) i)),rv (zC (t.2 * xr l t.1))] (rv (zC (evS f (xr l) (i+1)))):=fun i t h=>by
  have hm':=List.mem_of_getElem? h
  have hlt:=(List.getElem?_eq_some_iff.1 h).1
  have hle:=hf.len
  have e:(k+m+1) * i≤(k+m+1) * n:=Nat.mul_le_mul_left _ (by omega)
  have:=s138 (zC (evS f (xr l) i)) (zC (t.2 * xr l t.1)) ((zU (sX hf fx i)).mono (by omega)) ((zU (xP (hf.t t hm') (fx t hm'))).mono (by
   have:(k+m+1) * 1≤(k+m+1) * n:=Nat.mul_le_mul_left _ (by omega)
   omega))
  rw[zY,zY,←mU h] at this
  exact this
 have hlen:f.ts.length≤2^30:=Nat.le_trans hf.len hn2
 have e0:=mT f (xr l)
 have e9:=iK f (xr l)
 have ccn:zB 169 [rv (zC (evS f (xr l) f.ts.length))] (rv (zC (evS f (xr l) f.ts.length))):=by
  have e:(k+m+1) * f.ts.length≤(k+m+1) * n:=Nat.mul_le_mul_left _ hf.len
  have:=s161 (zC (evS f (xr l) f.ts.length)) ((zU (sX hf fx f.ts.length)).mono (by omega))
  rw[zY] at this
  exact this
 obtain⟨V,hV⟩:∃ V:Nat→R,∀ i,zC (evS f (xr l) i)=V i:=⟨_,fun _=>rfl⟩
 have hav:av (fA f)=.agg [tsv (tR f.ts),.bool (fun _=>(V 0).neg),nat (V 0).num,nat (V 0).den]:=by rw[←hV,e0];rfl
 rw[←e9,hV,hav]
 simp only[hV] at ca ccn
 have hT:∀ (i:Nat) t,f.ts[i]?=some t→(tR f.ts)[i]?=some (t.1,zC t.2):=fun i t h=>by simp [tR,List.getElem?_map,h]
 have hTl:(tR f.ts).length=f.ts.length:=wF _
 have hxl:(l.map zC).length=l.length:=List.length_map ..
 have facts:∀ i,i<f.ts.length→∃ (z:Int) (v:Nat) (c x y:R),z=(v:Int)∧(tR f.ts)[i]?=some (z,c)∧(l.map zC)[v]?=some x∧v<(l.map zC).length∧zB 195 [rv c,rv x] (rv y)∧zB 121 [rv (V i),rv y] (rv (V (i+1))):=fun i h=>by
  obtain⟨t,ht⟩:=zS h
  obtain⟨j,h1,h2,h3⟩:=hi i t ht
  exact⟨t.1,j,zC t.2,_,_,h1,hT i t ht,h3,by rw[hxl];exact h2,cm t (List.mem_of_getElem? ht),ca i t ht⟩
 clear hi cm ca hT hav hV e0 e9 fx hl hw hf
 generalize f.ts.length=N at *
 generalize tR f.ts=T at *
 generalize l.map zC=X at *
 cbv
 refine z4 (σ:=Nat) (fun i=>⟨[(1,rlv X),(4,.ptr 4 0),(6,.ptr 6 0),(12,tsv T),(13,.int .i64 (fun _=>((enc tc T).length:Int))),(14,.int .i64 (fun _=>(i:Int)))],
   [(4,.box [.ff,.nil,.nil]),(6,.box [.bool (fun _=>(V i).neg),nat (V i).num,nat (V i).den])]⟩)
  (fun i=>i≤N) (fun i=>N - i) 0 (Nat.zero_le _) (wkZ) ?_
 intro i hi'
 cbv
 refine zF (fun h=>?_) (fun h=>?_)
 ·have hlt:i<N:=by rw[zA,hTl] at h;(try dsimp only [zG] at *);omega
  obtain⟨z,v,c,x,y,g0,g1,g2,g3,c1,c2⟩:=facts i hlt
  clear facts ccn
  generalize hV1:V (i+1)=V1 at *
  generalize hVi:V i=Vi at *
  cbv
  refine yF g1 y4 y6 ?_
  cbv
  refine z6 om ?_
  cbv
  refine z9 (by rw[zA];(try dsimp only [zG] at *);omega) ?_
  cbv
  refine zO 10 (by cbv) ?_
  cbv
  refine xC g2 g0 yU xE ?_
  cbv
  refine dA c1 ?_
  cbv
  refine dA c2 ?_
  cbv
  refine⟨zH om om,i+1,(by show i+1≤N;omega),(by show N - (i+1)<N - i;omega),.le okZ (by cbv;rw[hV1];repeat' first | exact trivial | exact lR | apply And.intro) rfl⟩
 ·have hN':i=N:=by rw[zA,hTl] at h;(try dsimp only [zG] at *);omega
  rw[hN']
  cbv
  refine cA ccn ?_
  cbv
  (refine rC ?_;cbv)
  exact okA
theorem zP1 {l m:List Rat}{v:Int}(h0:0≤v)(h:v<(l.length:Int)):xr (l++m) v=xr l v:=by
 unfold xr
 rw[List.getElem?_append_left (by omega)]
theorem zR8 {f:F}{l m:List Rat}(hw:f.wf (l.length:Int)):f.at (xr (l++m))=f.at (xr l):=zE8 fun t ht=>zP1 (hw.v t ht).1 (hw.v t ht).2
theorem VSeq.at {x:FGrp}{l:List Rat}{V:Nat→List Rat}(Q:VSeq x l V){j:Nat}{f:F}(hw:f.wf ((V j).length:Int)):∀ k,j+k≤x.us.length→f.at (xr (V (j+k)))=f.at (xr (V j))
 | 0,_=>rfl
 | k+1,h=>by
  obtain⟨g,hg⟩:=zS (l:=x.us) (i:=j+k) (by omega)
  have e:j+(k+1)=j+k+1:=by omega
  rw[e,Q.v1 (j+k) g hg,zR8,Q.at hw k (by omega)]
  have h1:=Q.len j (by omega)
  have h2:=Q.len (j+k) (by omega)
  exact hw.mono (by omega)
def uJ (x:FGrp) (l:List Rat):List Rat:=x.us.map fun f=>f.at (xr (xJ x.us l))
theorem zH0:Pg.funcs[168]?=some Tryz.f168:=by rw[u7];rfl
theorem zQ8 (x:FGrp)(l:List Rat)(hx:x.small)(hv:x.g.valid=true)(hz:x.g.sz (2^32))(hw:∀ (i:Nat) (f:F),x.us[i]?=some f→f.wf ((x.n+i:Nat):Int))(hl:l.length=x.n){m:Nat}(hm:1≤m)(hm2:m≤2^10)(hf:∀ q,q∈l→Fits m q) :
  zB 168 [gv x.g,rlv (l.map zC)] (.tup [rlv ((xJ x.us l).map zC),rlv ((uJ x l).map zC),.int .i64 (fun _=>0)]):=by
 refine xZ zH0 rfl rfl rfl rfl rfl ?_
 have cv:=sB x.g (hz.mono (by decide))
 rw[hv] at cv
 have cc:∀ q,q∈l→zB 169 [rv (zC q)] (rv (zC q)):=fun q hq=>by
  have:=s161 (zC q) ((zU (hf q hq)).mono (by omega))
  rw[zY] at this
  exact this
 have n2:=hx.n2
 have u4:=hx.us
 obtain⟨V,Q⟩:=vseq hx hw hl hm hm2 hf
 have hpl:((uJ x l).map zC).length=x.us.length:=by unfold uJ;rw[List.length_map,List.length_map]
 have facts:∀ j,j<x.us.length→∃ (p:A) (y z:R),(x.us.map fA)[j]?=some p∧zB 167 [av p,rlv ((V j).map zC)] (.tup [rv y,.int .i64 (fun _=>0)])∧zB 203 [rv ⟨false,[],[]⟩,rv y] (rv z)∧(V (j+1)).map zC=(V j).map zC++[z]∧((uJ x l).map zC).take (j+1)=((uJ x l).map zC).take j++[y]:=fun j hj=>by
  obtain⟨f,hfj⟩:=zS hj
  have hvl:=Q.len j (by omega)
  have hwf:=hw j f hfj
  have hfl:=hx.uf f (List.mem_of_getElem? hfj)
  rw[←hl,←hvl] at hwf
  have ce:=zPN f (V j) hfl hwf (Q.fit j) (by decide) (by decide) (by decide) (by decide) (by omega)
  have cm:=s216 ⟨false,[],[]⟩ (zC (f.at (xr (V j)))) ⟨by decide,by decide⟩ ((zU (uQ hfl (gI hwf (Q.fit j)))).mono (by decide))
  rw[zY] at cm
  have e0:(⟨false,[],[]⟩:R).q=0:=rfl
  rw[e0] at cm
  have hmx:uZ 0 (f.at (xr (V j)))=uZ (f.at (xr (V j))) 0:=by unfold uZ;split <;> split <;> grind
  rw[hmx] at cm
  have hat:=Q.at hwf (x.us.length - j) (by omega)
  rw[show j+(x.us.length - j)=x.us.length by omega,Q.v9] at hat
  refine⟨fA f,_,_,by rw[List.getElem?_map,hfj];rfl,ce,cm,by rw[Q.v1 j f hfj,List.map_append];rfl,?_⟩
  rw[List.take_add_one]
  congr 1
  unfold uJ
  rw[List.getElem?_map,List.getElem?_map,hfj,←hat]
  rfl
 have v0:=Q.v0
 have v9:=Q.v9
 have vl:=Q.len
 rw[←v9]
 have hU:x.g.us=x.us.map fA:=rfl
 have hUl:(x.us.map fA).length=x.us.length:=List.length_map ..
 have hn:x.g.n=(l.length:Int):=by rw[hl];rfl
 obtain⟨Y,hY⟩:∃ Y:Nat→List R,∀ j,((uJ x l).map zC).take j=Y j:=⟨_,fun _=>rfl⟩
 have y0:Y 0=[]:=by rw[←hY];rfl
 have y9:(uJ x l).map zC=Y x.us.length:=by rw[←hY,←hpl,List.take_length]
 have yl:∀ j,j≤x.us.length→(Y j).length=j:=fun j h=>by rw[←hY,List.length_take,hpl];omega
 simp only[hY] at facts
 rw[y9]
 clear Q hw hf v9 hz hx hv hY y9 hpl
 generalize x.g=g at *
 obtain⟨gn,us,os⟩:=g
 dsimp only at hU hn
 subst hU hn
 have ccl:∀ (i:Nat) q,l[i]?=some q→(l.map zC)[i]?=some (zC q)∧(l.map zC).take (i+1)=(l.map zC).take i++[zC q]:=fun i q h=>by
  have:(l.map zC)[i]?=some (zC q):=by rw[List.getElem?_map,h];rfl
  exact⟨this,by rw[List.take_add_one,this];rfl⟩
 have cx:∀ i,i<l.length→∃ r,zB 169 [rv r] (rv r)∧(l.map zC)[i]?=some r∧(l.map zC).take (i+1)=(l.map zC).take i++[r]:=fun i h=>by
  obtain⟨q,hq⟩:=zS h
  exact⟨zC q,cc q (List.mem_of_getElem? hq),(ccl i q hq).1,(ccl i q hq).2⟩
 clear cc ccl
 have hXl:(l.map zC).length=l.length:=List.length_map ..
 have hv0:(V 0).map zC=(l.map zC).take l.length:=by rw[v0,←hXl,List.take_length]
 have vl':∀ j,j≤x.us.length→((V j).map zC).length=l.length+j:=fun j h=>by rw[List.length_map];exact vl j h
 obtain⟨W,hW⟩:∃ W:Nat→List R,∀ j,(V j).map zC=W j:=⟨_,fun _=>rfl⟩
 simp only[hW] at facts vl' hv0 ⊢
 clear hW vl v0
 generalize l.map zC=X at *
 generalize x.us.length=M at *
 generalize x.us.map fA=us at *
 generalize hln:l.length=n at *
 have hlx:X.length=n:=hXl
 have htl:∀ i,i≤n→(X.take i).length=i:=fun i h=>by rw[List.length_take];omega
 cbv
 refine cA cv ?_
 cbv
 refine qQ rfl ?_
 cbv
 refine zF (fun e=>?_) (fun e=>(e (by rw[zA];(try dsimp only [zG] at *);omega)).elim)
 cbv
 refine z4 (σ:=Nat) (fun i=>⟨[(2,.ptr 2 0),(4,.osl 500 3 (fun _=>0) (fun _=>(X.take i).length)),(5,.nil),(23,rlv X),(24,.int .i64 (fun _=>((enc rc X).length:Int))),(25,.int .i64 (fun _=>(i:Int)))],[(2,.box [.int .i64 (fun _=>(n:Int)),alv us,alv os]),(500,.arr 3 (fun _=>enc rc (X.take i)))]⟩)
  (fun i=>i≤n) (fun i=>n - i) 0 (Nat.zero_le _)
  (.trans (wkZ (ps':=⟨[(2,.ptr 2 0),(4,.nil),(5,.nil),(23,rlv X),(24,.int .i64 (fun _=>((enc rc X).length:Int))),(25,.int .i64 (fun _=>((0:Nat):Int)))],[(2,.box [.int .i64 (fun _=>(n:Int)),alv us,alv os])]⟩)) (.trans (.adoptT (ps:=⟨[(2,.ptr 2 0),(4,.nil),(5,.nil),(23,rlv X),(24,.int .i64 (fun _=>((enc rc X).length:Int))),(25,.int .i64 (fun _=>((0:Nat):Int)))],[(2,.box [.int .i64 (fun _=>(n:Int)),alv us,alv os])]⟩) 500 3 4 rfl rfl) (wkZ))) ?_
 intro i hi'
 have hti:=htl i hi'
 cbv
 refine zF (fun h=>?_) (fun h=>?_)
 ·have hlt:i<n:=by rw[zA] at h;(try dsimp only [zG] at *);omega
  obtain⟨r,c1,g1,g2⟩:=cx i hlt
  clear cx facts vl' yl
  cbv
  refine yF g1 yU xE ?_
  cbv
  refine cA c1 ?_
  cbv
  refine aO qS ?_
  cbv
  exact⟨zH om om,i+1,(by show i+1≤n;omega),(by show n - (i+1)<n - i;omega),wkY (by cbv;repeat' first | exact trivial | exact lR | exact zE om | exact zW rfl (by first | rfl | (rw[g2];done) | (simp [zL,zA,htl,hlx];done) | (rw[g2];simp [zL,zA];done)) | exact zI (by first | rfl | (rw[g2];done) | (rw[g2];rfl) | (rw[←zT];rfl) | (rw[g2,←zT];rfl)) | apply And.intro)⟩
 have hin:i=n:=by rw[zA] at h;(try dsimp only [zG] at *);omega
 rw[hin]
 clear hin hti hi' h cx
 cbv
 refine z4 (σ:=Nat) (fun j=>⟨[(4,.osl 500 3 (fun _=>0) (fun _=>(W j).length)),(5,.osl 501 3 (fun _=>0) (fun _=>(Y j).length)),(36,alv us),(37,.int .i64 (fun _=>((enc ac us).length:Int))),(38,.int .i64 (fun _=>(j:Int)))],[(500,.log 3 (fun _=>enc rc (W j))),(501,.arr 3 (fun _=>enc rc (Y j)))]⟩)
  (fun j=>j≤M) (fun j=>M - j) 0 (Nat.zero_le _) (.trans (.lend 500 38 rfl rfl trivial) (.trans (.adoptT 501 3 5 rfl rfl) (.le (by cbv;repeat' first | exact trivial | exact lR | exact zE om | exact zW rfl (by rw[hv0];done) | exact zW rfl (by rw[y0];rfl) | apply And.intro) (by cbv;repeat' first | exact trivial | exact lR | exact zI (by rw[hv0];done) | exact zI (by rw[y0];rfl) | apply And.intro) rfl))) ?_
 intro j hj
 have lj:=vl' j hj
 have yj:=yl j hj
 cbv
 refine zF (fun h=>?_) (fun h=>?_)
 ·have hlt:j<M:=by rw[zA,hUl] at h;(try dsimp only [zG] at *);omega
  obtain⟨p,y,z,g1,c1,c2,g2,g3⟩:=facts j hlt
  have hT:=wQ rc (W j)
  have hfr:=u5 rc (W j)
  clear facts vl' yl
  generalize W j=Wj at *
  generalize Y j=Yj at *
  cbv
  refine yF g1 vR uR ?_
  cbv
  refine uC (.lend 500 44 rfl rfl ?_) rfl ?_ c1 rfl ?_
  ·cbv
   repeat' first | exact trivial | exact⟨hfr⟩ | apply And.intro
  ·cbv
   exact⟨okA,zQ hT,trivial⟩
  cbv
  refine aO qS ?_
  cbv
  refine yQ rfl okA c2 rfl ?_
  cbv
  refine aL qS ?_
  cbv
  exact⟨zH om om,j+1,(by show j+1≤M;omega),(by show M - (j+1)<M - j;omega),.le (by cbv;repeat' first | exact trivial | exact lR | exact zE om | exact zW rfl (by rw[g2];simp [zL,zA];done) | exact zW rfl (by rw[g3];simp [zL,zA];done) | apply And.intro) (by cbv;repeat' first | exact trivial | exact lR | exact zI (by rw[g2,←zT];rfl) | exact zI (by rw[g3,←zT];rfl) | apply And.intro) rfl⟩
 have hjn:j=M:=by rw[zA,hUl] at h;(try dsimp only [zG] at *);omega
 rw[hjn]
 clear hjn lj yj hj h facts vl' yl
 generalize W M=X' at *
 generalize Y M=Y' at *
 have hT:=wQ rc X'
 have hfr:=u5 rc X'
 have hT':=wQ rc Y'
 have hfr':=u5 rc Y'
 cbv
 refine qW _ (.trans (.le (ps':=⟨[(4,.osl 500 3 (fun _=>0) (fun _=>X'.length)),(5,.osl 501 3 (fun _=>0) (fun _=>Y'.length)),(6,.int .i64 (fun _=>0))],[(500,.log 3 (fun _=>enc rc X')),(501,.arr 3 (fun _=>enc rc Y'))]⟩) ?_ ?_ rfl) (.trans (.frz 500 rfl rfl ?_ ?_) (.frz 501 rfl rfl ?_ ?_))) rfl ?_
 ·cbv
  exact okA
 ·cbv
  exact⟨zI rfl,zI rfl,trivial⟩
 ·cbv
  repeat' first | exact trivial | exact⟨hfr⟩ | apply And.intro
 ·cbv
  repeat' first | exact trivial | apply And.intro
 ·cbv
  repeat' first | exact trivial | exact⟨hfr'⟩ | apply And.intro
 ·cbv
  repeat' first | exact trivial | apply And.intro
 cbv
 exact⟨zQ hT,zQ hT',lR,trivial⟩
theorem zN7 (g:Grp)(X:List R)(hz:g.sz (2^32))(h:g.valid=false∨(X.length:Int)≠g.n)(hX:X.length<2^40):zB 168 [gv g,rlv X] (.tup [.nil,.nil,.int .i64 (fun _=>1)]):=by
 refine xZ zH0 rfl rfl rfl rfl rfl ?_
 have cv:=sB g (hz.mono (by decide))
 generalize g.valid=b at *
 obtain⟨gn,us,os⟩:=g
 dsimp only at h
 cbv
 refine cA cv ?_
 cbv
 refine z5 (fun e=>?_) (fun e=>?_)
 ·cbv
  refine zF (fun e'=>?_) (fun e'=>?_)
  ·rw[zA] at e'
   rcases h with h | h
   ·rw[e] at h;cases h
   ·exact absurd e' om
  ·cbv
   (refine rC ?_;cbv)
   exact okA
 ·cbv
  (refine rC ?_;cbv)
  exact okA
theorem zH1:Pg.funcs[100]?=some Tryz.f100:=by rw[u7];rfl
theorem zLV (x:FGrp)(l:List Rat)(hx:x.small)(hv:x.g.valid=true)(hz:x.g.sz (2^32))(hw:∀ (i:Nat) (f:F),x.us[i]?=some f→f.wf ((x.n+i:Nat):Int))(hl:l.length=x.n){m:Nat}(hm:1≤m)(hm2:m≤2^10)(hf:∀ q,q∈l→Fits m q) :
  zB 100 [gv x.g,rlv (l.map zC)] (.tup [rlv ((uJ x l).map zC),.int .i64 (fun _=>0)]):=by
 refine xZ zH1 rfl rfl rfl rfl rfl ?_
 have c:=zQ8 x l hx hv hz hw hl hm hm2 hf
 generalize x.g=g at *
 generalize (xJ x.us l).map zC=VV at *
 generalize (uJ x l).map zC=PP at *
 generalize l.map zC=X at *
 obtain⟨gn,us,os⟩:=g
 cbv
 refine cA c ?_
 cbv
 (refine rC ?_;cbv)
 exact okA
theorem zN8 (g:Grp)(X:List R)(hz:g.sz (2^32))(h:g.valid=false∨(X.length:Int)≠g.n)(hX:X.length<2^40):zB 100 [gv g,rlv X] (.tup [.nil,.int .i64 (fun _=>1)]):=by
 refine xZ zH1 rfl rfl rfl rfl rfl ?_
 have c:=zN7 g X hz h hX
 obtain⟨gn,us,os⟩:=g
 cbv
 refine cA c ?_
 cbv
 (refine rC ?_;cbv)
 exact okA
end Go.Proofs.YtgcpehdkdnkgeaaGreat
