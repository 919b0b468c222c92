/- A part of the proof: FdA, FdB, FdC. -/
import Derived.Test.YtgcpehdkdnkgeaaGreatV32
import Derived.Test.YtgcpehdkdnkgeaaGreatV33
set_option linter.all false
namespace Go.Proofs.YtgcpehdkdnkgeaaGreat
open Go
set_option maxRecDepth 100000
set_option maxHeartbeats 4000000
def u8c (b:UInt8):List PV:=[.int .u8 (fun _=>(b.toNat:Int))]
theorem zDC (b:UInt8):yT v4 (u8c b)=true:=rfl
theorem zBH (b:UInt8):(u8c b).length=1:=rfl
abbrev u8v (raw:List UInt8):PV:=.sl (fun _=>enc u8c raw)
abbrev fdo (raw:List UInt8) (a:Nat):List (Nat × Obj'):=[(1000000,.box [u8v raw,.int .i64 (fun _=>(a:Int))])]
theorem gO (raw:List UInt8)(a n:Nat)(hr:raw.length<2^38)(hn:0<n)(hn2:n<2^60)(ha:a≤raw.length) :
  Sound 103 [.ptr 1000000 0,.int .i64 (fun _=>(n:Int))] (fdo raw a) [] (.int .i64 (fun _=>(fdN raw n a:Int))) (fdo raw (na raw a)) []:=by
 refine sF Tryz.f103 ?_
 have h0:¬ a<raw.length→fdN raw n a=0:=fun h=>by unfold fdN;rw[List.getElem?_eq_none (by omega)]
 have h1:∀ x,raw[a]?=some x→fdN raw n a=x.toNat % n:=fun x h=>by unfold fdN;rw[h]
 have n0:¬ a<raw.length→na raw a=a:=fun h=>if_neg h
 have n1:a<raw.length→na raw a=a+1:=fun h=>if_pos h
 generalize fdN raw n a=r at *
 generalize na raw a=b at *
 cbv
 refine zO 10 (by cbv) ?_
 cbv
 refine zH (fun h=>?_) (fun h=>?_)
 ·have hlt:¬ a<raw.length:=by rw[zA] at h;(try dsimp only [zG] at *);omega
  have e1:=h0 hlt
  have e2:=n0 hlt
  cbv
  subst e1 e2
  exact zFM rfl (lR) rfl rfl rfl rfl
 ·have hlt:a<raw.length:=by rw[zA] at h;(try dsimp only [zG] at *);omega
  obtain⟨x,hx⟩:=yA hlt
  have e1:=h1 x hx
  have e2:=n1 hlt
  cbv
  refine⟨zD om om,?_⟩
  cbv
  refine zO 15 (by cbv) ?_
  cbv
  refine⟨zD om om,y5 (l:=raw) a om hlt zDC zBH (fun x' hx'=>?_)⟩
  obtain rfl:x'=x:=by rw[hx] at hx';exact (Option.some.inj hx').symm
  have hx8:=x'.toNat_lt
  cbv
  refine⟨vG om,?_⟩
  cbv
  refine u9 (.le (ps':=⟨[(4,.int .i64 (fun _=>(r:Int)))],[(1000000,.box [u8v raw,.int .i64 (fun _=>(b:Int))])]⟩) ?_ ?_ rfl) rfl (lR) rfl rfl rfl rfl
  ·cbv
   refine⟨zC ?_,trivial⟩
   show irem (nx .i64 (x'.toNat:Int)) (n:Int)=_
   unfold irem nx
   rw[show IntKind.wrap .i64 (x'.toNat:Int)=(x'.toNat:Int) by simp [IntKind.wrap,IntKind.signed,IntKind.bits];omega,e1]
   exact (Int.ofNat_tmod _ _).symm
  ·cbv
   exact⟨⟨lR,zC om,trivial⟩,trivial⟩
theorem zIN {k:Nat}(h:k<4):(k=0∧dnm k=1)∨(k=1∧dnm k=1)∨(k=2∧dnm k=2)∨(k=3∧dnm k=4):=by
 match k,h with
 | 0,_=>exact .inl ⟨rfl,rfl⟩
 | 1,_=>exact .inr (.inl ⟨rfl,rfl⟩)
 | 2,_=>exact .inr (.inr (.inl ⟨rfl,rfl⟩))
 | 3,_=>exact .inr (.inr (.inr ⟨rfl,rfl⟩))
theorem zFY (raw:List UInt8)(a:Nat)(hr:raw.length<2^38)(ha:a≤raw.length) :
  Sound 104 [.ptr 1000000 0] (fdo raw a) [] (rv (zJ (fdQ raw a).1)) (fdo raw (fdQ raw a).2) []:=by
 refine sF Tryz.f104 ?_
 have c9:=gO raw a 9 hr (by decide) (by decide) ha
 have c4:=gO raw (na raw a) 4 hr (by decide) (by decide) (jE ha)
 have h9:fdN raw 9 a<9:=uR (by decide)
 have h4:fdN raw 4 (na raw a)<4:=uR (by decide)
 have hd:=zIN h4
 have hp:=zHH (fdN raw 4 (na raw a))
 have cf:=s43 ((fdN raw 9 a:Int) - 4) (dnm (fdN raw 4 (na raw a))) (by omega) (by omega) (by omega) (by omega) (by omega)
 have e1:(fdQ raw a).1=jD ((fdN raw 9 a:Int) - 4) (dnm (fdN raw 4 (na raw a))):=rfl
 have e2:(fdQ raw a).2=na raw (na raw a):=rfl
 rw[e1,e2]
 show wp _ _ (jI _ (rv (zJ (jD ((fdN raw 9 a:Int) - 4) (dnm (fdN raw 4 (na raw a)))))) (fdo raw (na raw (na raw a))) [])
 generalize zJ (jD ((fdN raw 9 a:Int) - 4) (dnm (fdN raw 4 (na raw a))))=X at *
 generalize dnm (fdN raw 4 (na raw a))=d at *
 generalize fdN raw 9 a=k9 at *
 generalize fdN raw 4 (na raw a)=k4 at *
 generalize na raw (na raw a)=b2 at *
 generalize na raw a=b1 at *
 clear e1 e2 hp
 cbv
 refine y8 (fun _=>1000000) (.refl _) rfl okA c9 ⟨⟨rfl,rfl⟩,trivial⟩ rfl rfl rfl rfl rfl rfl rfl rfl ?_
 cbv
 refine⟨zD om om,?_⟩
 cbv
 refine y8 (fun _=>1000000) (.refl _) rfl okA c4 ⟨⟨rfl,rfl⟩,trivial⟩ rfl rfl rfl rfl rfl rfl rfl rfl ?_
 rcases hd with ⟨q1,q2⟩ | ⟨q1,q2⟩ | ⟨q1,q2⟩ | ⟨q1,q2⟩
 ·subst q1 q2
  cbv
  refine gD 0 rfl (by decide) ?_
  cbv
  refine cA cf ?_
  cbv
  exact nP (.refl _) rfl rfl rfl rfl (by cbv;exact okA)
 ·subst q1 q2
  cbv
  refine gD 1 rfl (by decide) ?_
  cbv
  refine cA cf ?_
  cbv
  exact nP (.refl _) rfl rfl rfl rfl (by cbv;exact okA)
 ·subst q1 q2
  cbv
  refine gD 2 rfl (by decide) ?_
  cbv
  refine cA cf ?_
  cbv
  exact nP (.refl _) rfl rfl rfl rfl (by cbv;exact okA)
 ·subst q1 q2
  cbv
  refine gD 3 rfl (by decide) ?_
  cbv
  refine cA cf ?_
  cbv
  exact nP (.refl _) rfl rfl rfl rfl (by cbv;exact okA)
theorem zFF {raw:List UInt8}{n v:Nat}{f:F}{a:Nat}(h:¬ 0<fdN raw 3 a):pF raw (n+1) v f a=pF raw n (v+1) f (na raw a):=if_neg h
theorem zFE {raw:List UInt8}{n v:Nat}{f:F}{a:Nat}(h:0<fdN raw 3 a):pF raw (n+1) v f a=pF raw n (v+1) (f.add ((F.var v).scale (fdQ raw (na raw a)).1)) (fdQ raw (na raw a)).2:=if_pos h
theorem zBT (raw:List UInt8)(n a:Nat)(hr:raw.length<2^38)(ha:a≤raw.length)(hn:n≤100) :
  Sound 160 [.ptr 1000000 0,.int .i64 (fun _=>(n:Int))] (fdo raw a) [] (fv (fdF raw n a).1) (fdo raw (fdF raw n a).2) []:=by
 refine sF Tryz.f160 ?_
 have cq:∀ b,b≤raw.length→Sound 104 [.ptr 1000000 0] (fdo raw b) [] (rv (zJ (fdQ raw b).1)) (fdo raw (fdQ raw b).2) []:=fun b hb=>zFY raw b hr hb
 have c3:∀ b,b≤raw.length→Sound 103 [.ptr 1000000 0,.int .i64 (fun _=>(3:Int))] (fdo raw b) [] (.int .i64 (fun _=>(fdN raw 3 b:Int))) (fdo raw (na raw b)) []:=fun b hb=>gO raw b 3 hr (by decide) (by decide) hb
 have hna:∀ b,b≤raw.length→na raw b≤raw.length:=fun b hb=>jE hb
 have hq2:∀ b,b≤raw.length→(fdQ raw b).2≤raw.length:=fun b hb=>pE hb
 have hd:fdF raw n a=pF raw n 0 (F.num (fdQ raw a).1) (fdQ raw a).2:=rfl
 show wp _ _ (jI _ (av (fA (fdF raw n a).1)) (fdo raw (fdF raw n a).2) [])
 generalize fdF raw n a=R at *
 obtain⟨W,hW⟩:∃ W,fA R.1=W:=⟨_,rfl⟩
 rw[hW]
 obtain⟨X0,hX0⟩:∃ X,zJ (fdQ raw a).1=X:=⟨_,rfl⟩
 have cq0:Sound 104 [.ptr 1000000 0] (fdo raw a) [] (rv X0) (fdo raw (fdQ raw a).2) []:=by subst hX0;exact cq a ha
 cbv
 refine y8 (fun _=>1000000) (.refl _) rfl okA cq0 ⟨⟨rfl,rfl⟩,trivial⟩ rfl rfl rfl rfl rfl rfl rfl rfl ?_
 cbv
 refine zY (σ:=Nat × Nat × F) (fun s=>⟨[(0,.ptr 1000000 0),(1,.int .i64 (fun _=>(n:Int))),(4,.ptr 4 0),(5,.ptr 5 0),(6,.int .i64 (fun _=>(s.1:Int)))],
   [(1000000,.box [u8v raw,.int .i64 (fun _=>(s.2.1:Int))]),(4,.box [.nil,.ff,.nil,.nil]),(5,.box [.sl (fun _=>enc tc (fA s.2.2).ts),.bool (fun _=>(fA s.2.2).c.neg),.sl (fun _=>lm (fA s.2.2).c.num),.sl (fun _=>lm (fA s.2.2).c.den)])]⟩)
  (fun s=>s.1≤n∧s.2.1≤raw.length∧R=pF raw (n - s.1) s.1 s.2.2 s.2.1∧s.2.2.wf s.1∧s.2.2.fl (1+6 * s.1) s.1) (fun s=>n - s.1)
  (0,(fdQ raw a).2,F.num (fdQ raw a).1) ⟨by omega,hq2 a ha,hd,F.wf.num _ _,(wH (uQ raw a)).mono (by omega) (by omega)⟩ (.le ?_ ?_ rfl) ?_
 ·cbv
  exact okA
 ·cbv
  subst hX0
  exact okA
 clear hd cq0 hX0
 intro s hs
 obtain⟨v,b,f⟩:=s
 obtain⟨g1,g2,g3,g4,g5⟩:=hs
 dsimp only at g1 g2 g3 g4 g5
 cbv
 refine zH (fun h=>?_) (fun h=>?_)
 ·have hv:v<n:=om
  rw[show n - v=(n - (v+1))+1 by omega] at g3
  have c3':=c3 b g2
  generalize hk3:fdN raw 3 b=k3 at *
  cbv
  refine y8 (fun _=>1000000) (.refl _) rfl okA c3' ⟨⟨rfl,rfl⟩,trivial⟩ rfl rfl rfl rfl rfl rfl rfl rfl ?_
  cbv
  refine zH (fun h2=>?_) (fun h2=>?_)
  ·rw[zFE (by rw[hk3];(try dsimp only [zG] at *);omega)] at g3
   have hq:=uQ raw (na raw b)
   have hb':=hq2 (na raw b) (hna b g2)
   have cn:=cq (na raw b) (hna b g2)
   have csc:=gP (f:=F.var v) (w7 v) hq (by decide) (by decide) (by decide)
   have w2:((F.var v).scale (fdQ raw (na raw b)).1).wf ((v+1:Nat):Int):=(F.wf.var (by omega) (by omega)).scale
   have l2:((F.var v).scale (fdQ raw (na raw b)).1).fl (1+1+2) 1:=(w7 v).scale hq
   have cad:=zMB g4.cn w2.cn g5 l2 (by omega) (by omega) (by omega) (by omega)
   have w3:=(g4.mono (by omega:(v:Int)≤((v+1:Nat):Int))).add w2
   have l3:=(g5.add l2).mono (k':=1+6 * (v+1)) (n':=v+1) (by omega) (by omega)
   generalize (fdQ raw (na raw b)).2=b' at *
   generalize (fdQ raw (na raw b)).1=q at *
   generalize hS:(F.var v).scale q=S at *
   generalize hT:f.add S=T at *
   obtain⟨V,hV⟩:∃ V,fA (F.var v)=V:=⟨_,rfl⟩
   obtain⟨S',hS'⟩:∃ S',fA S=S':=⟨_,rfl⟩
   obtain⟨T',hT'⟩:∃ T',fA T=T':=⟨_,rfl⟩
   obtain⟨X,hX⟩:∃ X,zJ q=X:=⟨_,rfl⟩
   obtain⟨f',hf'⟩:∃ f',fA f=f':=⟨_,rfl⟩
   have d1:zE 125 [.int .i64 (fun _=>(v:Int))] (av V):=by subst hV;exact r5 v
   have d2:zE 59 [av V,rv X] (av S'):=by subst hV hX hS';exact csc
   have d3:zE 58 [av f',av S'] (av T'):=by subst hf' hS' hT';exact cad
   have d4:Sound 104 [.ptr 1000000 0] (fdo raw (na raw b)) [] (rv X) (fdo raw b') []:=by subst hX;exact cn
   rw[hf']
   clear hV hX hS' csc cad cn
   cbv
   refine vQ 6 [(4,1000000)] (by cbv) (by cbv) (by cbv) ?_
   cbv
   refine dA d1 ?_
   cbv
   refine oI (fun _=>1000000) rfl okA d4 rfl rfl rfl rfl rfl rfl ?_
   cbv
   refine dA d2 ?_
   cbv
   refine cA d3 ?_
   cbv
   refine⟨zD om om,(v+1,b',T),⟨om,hb',g3,w3,l3⟩,om,.le okZ ?_ rfl⟩
   subst hT'
   exact okZ
  ·rw[zFF (by rw[hk3];(try dsimp only [zG] at *);omega)] at g3
   have hb':=hna b g2
   generalize na raw b=b' at *
   cbv
   exact⟨zD om om,(v+1,b',f),⟨om,hb',g3,g4.mono (by show (v:Int)≤((v+1:Nat):Int);omega),g5.mono (by show 1+6 * v≤1+6 * (v+1);omega) (by show v≤v+1;omega)⟩,(by show n - (v+1)<n - v;omega),wkZ⟩
 ·have hv:v=n:=om
  have hR:R=(f,b):=by rw[g3,show n - v=0 by omega];rfl
  subst hR
  have hW':fA f=W:=hW
  cbv
  subst hW'
  exact nP (.refl _) rfl rfl rfl rfl (by cbv;exact okA)
theorem zR0:ty 22=.sli 1 1 [.int .u8 (fun _=>0)]:=by cbv
theorem zFU:ty 30=.sli 4 80 [.nil,.ff,.nil,.nil]:=by cbv
theorem zKV:ty 33=.sli 3 56 [.ff,.nil,.nil]:=by cbv
theorem zQN (raw:List UInt8)(hr:raw.length<2^38):Sound 93 [u8v raw] [] [] (.ptr 100 0) [] [(100,.box [u8v raw,.int .i64 (fun _=>((0:Nat):Int))])]:=by
 refine sF Tryz.f93 ?_
 cbv
 refine k7 zR0 rfl rfl (xN zBH _) (z7 (by simp only[zA];omega) (by simp only[zA];omega)) rfl ?_
 cbv
 refine nO 7 (.trans (.frz 5 rfl rfl ?_ ?_) (.le (ps':=⟨[(2,.ptr 7 0)],[(7,.box [u8v raw,.int .i64 (fun _=>((0:Nat):Int))])]⟩) ?_ ?_ rfl)) rfl rfl rfl ?_
 ·cbv
  repeat' first | exact trivial | exact zX (by simp [zA]) | apply And.intro
 ·cbv
  repeat' first | exact trivial | exact zX (by simp [zA]) | apply And.intro
 ·exact okZ
 ·cbv
  exact⟨⟨zP (List.take_of_length_le (by simp [zA])),lR,trivial⟩,trivial⟩
 ·cbv
  exact lR
theorem oG (raw:List UInt8)(d k v a:Nat):fdL raw d (k+1) v a=((fdF raw v a).1::(fdL raw d k (v+d) (fdF raw v a).2).1,(fdL raw d k (v+d) (fdF raw v a).2).2):=rfl
theorem oF (raw:List UInt8)(d v a:Nat):fdL raw d 0 v a=([],a):=rfl
theorem j7 {α:Type}(p:α→List PV)(l:List α)(a:α):enc p l++zQ [p a]=enc p (l++[a]):=by rw[←yH];rfl
theorem zJO (raw:List UInt8)(a:Nat)(hr:raw.length<2^38)(ha:a≤raw.length) :
  Sound 105 [.ptr 1000000 0] (fdo raw a) [] (gv (fdG raw a).1.g) (fdo raw (fdG raw a).2) []:=by
 refine sF Tryz.f105 ?_
 have c1:=gO raw a 3 hr (by decide) (by decide) ha
 have c2:=gO raw (na raw a) 5 hr (by decide) (by decide) (jE ha)
 have c3:=gO raw (na raw (na raw a)) 3 hr (by decide) (by decide) (jE (jE ha))
 have cF:∀ (v b:Nat),b≤raw.length→v≤100→Sound 160 [.ptr 1000000 0,.int .i64 (fun _=>(v:Int))] (fdo raw b) [] (fv (fdF raw v b).1) (fdo raw (fdF raw v b).2) []:=fun v b h1 h2=>zBT raw v b hr h1 h2
 have hFl:∀ (v b:Nat),b≤raw.length→(fdF raw v b).2≤raw.length:=fun v b h=>zC3 h
 have l1:fdN raw 3 a<3:=uR (by decide)
 have l2:fdN raw 5 (na raw a)<5:=uR (by decide)
 have l3:fdN raw 3 (na raw (na raw a))<3:=uR (by decide)
 have hb3:na raw (na raw (na raw a))≤raw.length:=jE (jE (jE ha))
 have hG:fdG raw a=(⟨1+fdN raw 3 a,(fdL raw 1 (fdN raw 5 (na raw a)) (1+fdN raw 3 a) (na raw (na raw (na raw a)))).1,(fdL raw 0 (1+fdN raw 3 (na raw (na raw a))) (1+fdN raw 3 a+fdN raw 5 (na raw a)) (fdL raw 1 (fdN raw 5 (na raw a)) (1+fdN raw 3 a) (na raw (na raw (na raw a)))).2).1⟩,(fdL raw 0 (1+fdN raw 3 (na raw (na raw a))) (1+fdN raw 3 a+fdN raw 5 (na raw a)) (fdL raw 1 (fdN raw 5 (na raw a)) (1+fdN raw 3 a) (na raw (na raw (na raw a)))).2).2):=rfl
 rw[hG]
 clear hG
 generalize na raw (na raw (na raw a))=b3 at *
 generalize na raw (na raw a)=b2 at *
 generalize na raw a=b1 at *
 generalize fdN raw 3 a=x1 at *
 generalize fdN raw 5 b1=x2 at *
 generalize fdN raw 3 b2=x3 at *
 obtain⟨U,hU⟩:∃ U,fdL raw 1 x2 (1+x1) b3=U:=⟨_,rfl⟩
 obtain⟨O,hO⟩:∃ O,fdL raw 0 (1+x3) (1+x1+x2) U.2=O:=⟨_,rfl⟩
 rw[hU,hO]
 have hUl:U.1.length=x2:=by rw[←hU,jX]
 have hOl:O.1.length=1+x3:=by rw[←hO,jX]
 obtain⟨UA,hUA⟩:∃ l,U.1.map fA=l:=⟨_,rfl⟩
 obtain⟨OA,hOA⟩:∃ l,O.1.map fA=l:=⟨_,rfl⟩
 obtain⟨bO,hbO⟩:∃ b,O.2=b:=⟨_,rfl⟩
 have hgoal:gv (⟨1+x1,U.1,O.1⟩:FGrp).g=.agg [.int .i64 (fun _=>((1+x1:Nat):Int)),alv UA,alv OA]:=by rw[←hUA,←hOA];rfl
 show wp _ _ (jI _ (gv (⟨1+x1,U.1,O.1⟩:FGrp).g) (fdo raw O.2) [])
 rw[hgoal,hbO]
 clear hgoal
 cbv
 refine y8 (fun _=>1000000) (.refl _) rfl okA c1 ⟨⟨rfl,rfl⟩,trivial⟩ rfl rfl rfl rfl rfl rfl rfl rfl ?_
 cbv
 refine⟨zD om om,?_⟩
 cbv
 refine y8 (fun _=>1000000) (.refl _) rfl okA c2 ⟨⟨rfl,rfl⟩,trivial⟩ rfl rfl rfl rfl rfl rfl rfl rfl ?_
 cbv
 refine y8 (fun _=>1000000) (.refl _) rfl okA c3 ⟨⟨rfl,rfl⟩,trivial⟩ rfl rfl rfl rfl rfl rfl rfl rfl ?_
 cbv
 refine⟨zD om om,?_⟩
 cbv
 refine zY (σ:=Nat × Nat × List F) (fun s=>⟨[(0,.ptr 1000000 0),(2,.ptr 2 0),(3,.ptr 3 0),(4,.int .i64 (fun _=>(x2:Int))),(5,.int .i64 (fun _=>((1+x3:Nat):Int))),(6,.int .i64 (fun _=>(s.1:Int)))],
   [(1000000,.box [u8v raw,.int .i64 (fun _=>(s.2.1:Int))]),(2,.box [.int .i64 (fun _=>0),.nil,.nil]),(3,.box [.int .i64 (fun _=>((1+x1:Nat):Int)),.osl 31 4 (fun _=>0) (fun _=>s.2.2.length),.nil]),(31,.arr 4 (fun _=>enc ac (s.2.2.map fA)))]⟩)
  (fun s=>s.1≤x2∧s.2.1≤raw.length∧U.1=s.2.2++(fdL raw 1 (x2 - s.1) (1+x1+s.1) s.2.1).1∧U.2=(fdL raw 1 (x2 - s.1) (1+x1+s.1) s.2.1).2) (fun s=>x2 - s.1)
  (0,b3,[]) ⟨by omega,hb3,by rw[←hU];rfl,by rw[←hU];rfl⟩
  (.trans (.le (ps':=⟨[(0,.ptr 1000000 0),(2,.ptr 2 0),(3,.ptr 3 0),(4,.int .i64 (fun _=>(x2:Int))),(5,.int .i64 (fun _=>((1+x3:Nat):Int))),(6,.int .i64 (fun _=>((0:Nat):Int)))],
    [(1000000,.box [u8v raw,.int .i64 (fun _=>(b3:Int))]),(2,.box [.int .i64 (fun _=>0),.nil,.nil]),(3,.box [.int .i64 (fun _=>((1+x1:Nat):Int)),.nil,.nil])]⟩) okZ okZ rfl)
   (.trans (.adoptB (ps:=⟨[(0,.ptr 1000000 0),(2,.ptr 2 0),(3,.ptr 3 0),(4,.int .i64 (fun _=>(x2:Int))),(5,.int .i64 (fun _=>((1+x3:Nat):Int))),(6,.int .i64 (fun _=>((0:Nat):Int)))],
    [(1000000,.box [u8v raw,.int .i64 (fun _=>(b3:Int))]),(2,.box [.int .i64 (fun _=>0),.nil,.nil]),(3,.box [.int .i64 (fun _=>((1+x1:Nat):Int)),.nil,.nil])]⟩) (cs:=[.int .i64 (fun _=>((1+x1:Nat):Int)),.nil,.nil]) 31 4 3 1 rfl rfl rfl) (.le okZ ?_ rfl))) ?_
 ·cbv
  exact⟨okA,okA,okA,zF rfl,trivial⟩
 intro s hs
 obtain⟨j,b,us⟩:=s
 obtain⟨g1,g2,g3,g4⟩:=hs
 dsimp only at g1 g2 g3 g4
 cbv
 refine zH (fun h=>?_) (fun h=>?_)
 ·have hj:j<x2:=om
  rw[show x2 - j=(x2 - (j+1))+1 by omega,oG] at g3 g4
  have cf:=cF (1+x1+j) b g2 (by omega)
  have hb':=hFl (1+x1+j) b g2
  generalize hFF:fdF raw (1+x1+j) b=FF at *
  obtain⟨W,hW⟩:∃ W,fA FF.1=W:=⟨_,rfl⟩
  obtain⟨b',hbb⟩:∃ b',FF.2=b':=⟨_,rfl⟩
  have d1:Sound 160 [.ptr 1000000 0,.int .i64 (fun _=>((1+x1+j:Nat):Int))] (fdo raw b) [] (av W) (fdo raw b') []:=by subst hW hbb;exact cf
  rw[hbb] at g3 g4 hb'
  clear cf
  cbv
  refine vQ 9 [(7,1000000)] (by cbv) (by cbv) (by cbv) ?_
  cbv
  refine⟨zD om om,?_⟩
  cbv
  refine oI (fun _=>1000000) rfl (by exact⟨lR,zC om,trivial⟩) d1 rfl rfl rfl rfl rfl rfl ?_
  cbv
  refine wD zFU rfl rfl rfl (by simp [zA]) rfl ⟨by simp [zQ,yW]⟩ (z7 (by simp [zQ] <;> omega) (by have hus:us.length<x2:=(by have:=congrArg List.length g3;rw[hUl] at this;simp at this;omega);simp [zQ,zA];(try dsimp only [zG] at *);omega)) rfl ?_
  cbv
  refine⟨zD om om,(j+1,b',us++[FF.1]),⟨om,hb',by rw[g3];simp [Nat.add_assoc],by rw[g4];simp [Nat.add_assoc]⟩,(by show x2 - (j+1)<x2 - j;omega),.le okZ ?_ rfl⟩
  cbv
  refine⟨okA,okA,⟨lR,z0 rfl (by simp [zQ,zA]),lR,trivial⟩,zF ?_,trivial⟩
  subst hW
  show enc ac (us.map fA)++zQ [ac (fA FF.1)]=enc ac ((us++[FF.1]).map fA)
  rw[j7,List.map_append]
  rfl
 have hj:j=x2:=om
 subst hj
 rw[Nat.sub_self,oF] at g3 g4
 have e1:U.1=us:=by rw[g3];simp
 have e2:U.2=b:=g4
 have hul:us.length=j:=by rw[←e1,←hU,jX]
 have hUAs:us.map fA=UA:=by rw[←hUA,e1]
 rw[e2] at hO
 clear g3 g4 h hU hUA e1 e2
 cbv
 refine zY (σ:=Nat × Nat × List F) (fun s=>⟨[(0,.ptr 1000000 0),(2,.ptr 2 0),(3,.ptr 3 0),(4,.int .i64 (fun _=>(j:Int))),(5,.int .i64 (fun _=>((1+x3:Nat):Int))),(7,.int .i64 (fun _=>(s.1:Int)))],
   [(1000000,.box [u8v raw,.int .i64 (fun _=>(s.2.1:Int))]),(2,.box [.int .i64 (fun _=>0),.nil,.nil]),(3,.box [.int .i64 (fun _=>((1+x1:Nat):Int)),alv UA,.osl 47 4 (fun _=>0) (fun _=>s.2.2.length)]),(47,.arr 4 (fun _=>enc ac (s.2.2.map fA)))]⟩)
  (fun s=>s.1≤1+x3∧s.2.1≤raw.length∧O.1=s.2.2++(fdL raw 0 (1+x3 - s.1) (1+x1+j) s.2.1).1∧O.2=(fdL raw 0 (1+x3 - s.1) (1+x1+j) s.2.1).2) (fun s=>1+x3 - s.1)
  (0,b,[]) ⟨by omega,g2,by rw[←hO];rfl,by rw[←hO];rfl⟩
  (.trans (.frz 31 rfl rfl (by cbv;repeat' first | exact trivial | exact zX (by simp [zA]) | apply And.intro) (by cbv;repeat' first | exact trivial | exact zX (by simp [zA]) | apply And.intro))
   (.trans (.le (ps':=⟨[(0,.ptr 1000000 0),(2,.ptr 2 0),(3,.ptr 3 0),(4,.int .i64 (fun _=>(j:Int))),(5,.int .i64 (fun _=>((1+x3:Nat):Int))),(7,.int .i64 (fun _=>((0:Nat):Int)))],
    [(1000000,.box [u8v raw,.int .i64 (fun _=>(b:Int))]),(2,.box [.int .i64 (fun _=>0),.nil,.nil]),(3,.box [.int .i64 (fun _=>((1+x1:Nat):Int)),alv UA,.nil])]⟩) okZ ?_ rfl)
   (.trans (.adoptB (ps:=⟨[(0,.ptr 1000000 0),(2,.ptr 2 0),(3,.ptr 3 0),(4,.int .i64 (fun _=>(j:Int))),(5,.int .i64 (fun _=>((1+x3:Nat):Int))),(7,.int .i64 (fun _=>((0:Nat):Int)))],
    [(1000000,.box [u8v raw,.int .i64 (fun _=>(b:Int))]),(2,.box [.int .i64 (fun _=>0),.nil,.nil]),(3,.box [.int .i64 (fun _=>((1+x1:Nat):Int)),alv UA,.nil])]⟩) (cs:=[.int .i64 (fun _=>((1+x1:Nat):Int)),alv UA,.nil]) 47 4 3 2 rfl rfl rfl) (.le okZ ?_ rfl)))) ?_
 ·cbv
  exact⟨okA,okA,⟨lR,zP (by rw[List.drop_zero,List.take_of_length_le (by simp [zA]),hUAs]),lR,trivial⟩,trivial⟩
 ·cbv
  exact⟨okA,okA,okA,zF rfl,trivial⟩
 clear g2 hUAs hul
 intro s hs
 obtain⟨i,b,os⟩:=s
 obtain⟨g1',g2,g3,g4⟩:=hs
 dsimp only at g1' g2 g3 g4
 cbv
 refine zH (fun h=>?_) (fun h=>?_)
 ·have hi:i<1+x3:=om
  rw[show 1+x3 - i=(1+x3 - (i+1))+1 by omega,oG] at g3 g4
  have cf:=cF (1+x1+j) b g2 (by omega)
  have hb':=hFl (1+x1+j) b g2
  generalize hFF:fdF raw (1+x1+j) b=FF at *
  obtain⟨W,hW⟩:∃ W,fA FF.1=W:=⟨_,rfl⟩
  obtain⟨b',hbb⟩:∃ b',FF.2=b':=⟨_,rfl⟩
  have d1:Sound 160 [.ptr 1000000 0,.int .i64 (fun _=>((1+x1+j:Nat):Int))] (fdo raw b) [] (av W) (fdo raw b') []:=by subst hW hbb;exact cf
  rw[hbb] at g3 g4 hb'
  clear cf
  cbv
  refine vQ 9 [(7,1000000)] (by cbv) (by cbv) (by cbv) ?_
  cbv
  refine⟨zD om om,?_⟩
  cbv
  refine oI (fun _=>1000000) rfl (by exact⟨lR,zC om,trivial⟩) d1 rfl rfl rfl rfl rfl rfl ?_
  cbv
  refine wD zFU rfl rfl rfl (by simp [zA]) rfl ⟨by simp [zQ,yW]⟩ (z7 (by simp [zQ] <;> omega) (by have hos:os.length<1+x3:=(by have:=congrArg List.length g3;rw[hOl] at this;simp at this;omega);simp [zQ,zA];(try dsimp only [zG] at *);omega)) rfl ?_
  cbv
  refine⟨zD om om,(i+1,b',os++[FF.1]),⟨om,hb',by rw[g3];simp [Nat.add_assoc],by rw[g4];simp [Nat.add_assoc]⟩,(by show 1+x3 - (i+1)<1+x3 - i;omega),.le okZ ?_ rfl⟩
  cbv
  refine⟨okA,okA,⟨lR,lR,z0 rfl (by simp [zQ,zA]),trivial⟩,zF ?_,trivial⟩
  subst hW
  show enc ac (os.map fA)++zQ [ac (fA FF.1)]=enc ac ((os++[FF.1]).map fA)
  rw[j7,List.map_append]
  rfl
 ·have hi:i=1+x3:=om
  subst hi
  rw[Nat.sub_self,oF] at g3 g4
  have e1:O.1=os:=by rw[g3];simp
  have e2:O.2=b:=g4
  have e3:os.map fA=OA:=by rw[←hOA,e1]
  have e4:b=bO:=by rw[←hbO,e2]
  subst e4
  cbv
  refine nP (.trans (.le (ps':=⟨[(2,.ptr 2 0)],[(1000000,.box [u8v raw,.int .i64 (fun _=>(b:Int))]),(2,.box [.int .i64 (fun _=>((1+x1:Nat):Int)),alv UA,.osl 47 4 (fun _=>0) (fun _=>os.length)]),(47,.arr 4 (fun _=>enc ac (os.map fA)))]⟩) okZ ?_ rfl) (.frz 47 rfl rfl (by cbv;repeat' first | exact trivial | exact zX (by simp [zA]) | apply And.intro) (by cbv;repeat' first | exact trivial | exact zX (by simp [zA]) | apply And.intro))) rfl rfl rfl rfl ?_
  ·cbv
   exact⟨okA,okA,zF rfl,trivial⟩
  ·cbv
   exact⟨lR,lR,zP (by rw[List.drop_zero,List.take_of_length_le (by simp [zA]),e3]),trivial⟩
theorem nS (q:Rat):q<0↔q.num<0:=by
 have:=zAM (zJ q)
 rwa [z9,zLF] at this
theorem tF (q:Rat):(⟨false,(zJ q).num,(zJ q).den⟩:R)=zJ (gE q):=by
 unfold gE
 split
 ·rename_i h
  have h3:q.num<0:=(nS q).1 h
  simp [zJ,h3]
  omega
 ·rename_i h
  have h3:¬ q.num<0:=fun g=>h ((nS q).2 g)
  simp [zJ,h3]
theorem zJ9 (raw:List UInt8)(n a:Nat):fdB raw (n+1) a=(((fdQ raw a).1,(fdQ raw a).1+gE (fdQ raw (fdQ raw a).2).1)::(fdB raw n (fdQ raw (fdQ raw a).2).2).1,(fdB raw n (fdQ raw (fdQ raw a).2).2).2):=rfl
theorem zJ8 (raw:List UInt8)(a:Nat):fdB raw 0 a=([],a):=rfl
theorem zH0 (raw:List UInt8)(n a:Nat)(hr:raw.length<2^38)(ha:a≤raw.length)(hn:n≤100) :
  Sound 159 [.ptr 1000000 0,.int .i64 (fun _=>(n:Int))] (fdo raw a) [] (rgv (fdR raw n a).1.g) (fdo raw (fdR raw n a).2) []:=by
 refine sF Tryz.f159 ?_
 have cQ:∀ b:Nat,b≤raw.length→Sound 104 [.ptr 1000000 0] (fdo raw b) [] (rv (zJ (fdQ raw b).1)) (fdo raw (fdQ raw b).2) []:=fun b h1=>zFY raw b hr h1
 have cN:∀ b:Nat,b≤raw.length→Sound 103 [.ptr 1000000 0,.int .i64 (fun _=>(3:Int))] (fdo raw b) [] (.int .i64 (fun _=>(fdN raw 3 b:Int))) (fdo raw (na raw b)) []:=fun b h1=>gO raw b 3 hr (by decide) (by decide) h1
 have cF:∀ b:Nat,b≤raw.length→Sound 160 [.ptr 1000000 0,.int .i64 (fun _=>(n:Int))] (fdo raw b) [] (fv (fdF raw n b).1) (fdo raw (fdF raw n b).2) []:=fun b h1=>zBT raw n b hr h1 hn
 have hFl:∀ b:Nat,b≤raw.length→(fdF raw n b).2≤raw.length:=fun b h=>zC3 h
 have hQl:∀ b:Nat,b≤raw.length→(fdQ raw b).2≤raw.length:=fun b h=>pE h
 have hNl:∀ b:Nat,b≤raw.length→na raw b≤raw.length:=fun b h=>jE h
 have hN3:∀ b:Nat,fdN raw 3 b<3:=fun b=>uR (by decide)
 have hG:fdR raw n a=(⟨(fdB raw n a).1,(fdL raw 0 (fdN raw 3 (fdB raw n a).2) n (na raw (fdB raw n a).2)).1⟩,(fdL raw 0 (fdN raw 3 (fdB raw n a).2) n (na raw (fdB raw n a).2)).2):=rfl
 rw[hG]
 clear hG
 obtain⟨U,hU⟩:∃ U,fdB raw n a=U:=⟨_,rfl⟩
 rw[hU]
 obtain⟨O,hO⟩:∃ O,fdL raw 0 (fdN raw 3 U.2) n (na raw U.2)=O:=⟨_,rfl⟩
 rw[hO]
 have hUl:U.1.length=n:=by rw[←hU,zB3]
 have hOl:O.1.length=fdN raw 3 U.2:=by rw[←hO,jX]
 obtain⟨LA,hLA⟩:∃ l,(U.1.map fun b=>zJ b.1)=l:=⟨_,rfl⟩
 obtain⟨HA,hHA⟩:∃ l,(U.1.map fun b=>zJ b.2)=l:=⟨_,rfl⟩
 obtain⟨OA,hOA⟩:∃ l,O.1.map fA=l:=⟨_,rfl⟩
 obtain⟨bO,hbO⟩:∃ b,O.2=b:=⟨_,rfl⟩
 have hgoal:rgv (⟨U.1,O.1⟩:FReg).g=.agg [rlv LA,rlv HA,alv OA]:=by rw[←hLA,←hHA,←hOA];rfl
 show wp _ _ (jI _ (rgv (⟨U.1,O.1⟩:FReg).g) (fdo raw O.2) [])
 rw[hgoal,hbO]
 clear hgoal
 cbv
 refine zY (σ:=Nat × Nat × List (Rat × Rat)) (fun s=>⟨[(0,.ptr 1000000 0),(1,.int .i64 (fun _=>(n:Int))),(4,.ptr 4 0),(5,.ptr 5 0),(6,.int .i64 (fun _=>(s.1:Int)))],
   [(1000000,.box [u8v raw,.int .i64 (fun _=>(s.2.1:Int))]),(4,.box [.nil,.nil,.nil]),(5,.box [.osl 24 3 (fun _=>0) (fun _=>s.2.2.length),.osl 31 3 (fun _=>0) (fun _=>s.2.2.length),.nil]),(24,.arr 3 (fun _=>enc rc (s.2.2.map fun b=>zJ b.1))),(31,.arr 3 (fun _=>enc rc (s.2.2.map fun b=>zJ b.2)))]⟩)
  (fun s=>s.1≤n∧s.2.1≤raw.length∧U.1=s.2.2++(fdB raw (n - s.1) s.2.1).1∧U.2=(fdB raw (n - s.1) s.2.1).2∧s.2.2.length=s.1) (fun s=>n - s.1)
  (0,a,[]) ⟨by omega,ha,by rw[←hU];rfl,by rw[←hU];rfl,rfl⟩
  (.trans (.le (ps':=⟨[(0,.ptr 1000000 0),(1,.int .i64 (fun _=>(n:Int))),(4,.ptr 4 0),(5,.ptr 5 0),(6,.int .i64 (fun _=>((0:Nat):Int)))],
    [(1000000,.box [u8v raw,.int .i64 (fun _=>(a:Int))]),(4,.box [.nil,.nil,.nil]),(5,.box [.nil,.nil,.nil])]⟩) okZ okZ rfl)
   (.trans (.adoptB (ps:=⟨[(0,.ptr 1000000 0),(1,.int .i64 (fun _=>(n:Int))),(4,.ptr 4 0),(5,.ptr 5 0),(6,.int .i64 (fun _=>((0:Nat):Int)))],
    [(1000000,.box [u8v raw,.int .i64 (fun _=>(a:Int))]),(4,.box [.nil,.nil,.nil]),(5,.box [.nil,.nil,.nil])]⟩) (cs:=[.nil,.nil,.nil]) 24 3 5 0 rfl rfl rfl)
   (.trans (.le (ps':=⟨[(0,.ptr 1000000 0),(1,.int .i64 (fun _=>(n:Int))),(4,.ptr 4 0),(5,.ptr 5 0),(6,.int .i64 (fun _=>((0:Nat):Int)))],
    [(1000000,.box [u8v raw,.int .i64 (fun _=>(a:Int))]),(4,.box [.nil,.nil,.nil]),(5,.box [.osl 24 3 (fun _=>0) (fun _=>0),.nil,.nil]),(24,.arr 3 (fun _=>[]))]⟩) okZ (by cbv;exact⟨okA,okA,okA,zF rfl,trivial⟩) rfl)
   (.trans (.adoptB (ps:=⟨[(0,.ptr 1000000 0),(1,.int .i64 (fun _=>(n:Int))),(4,.ptr 4 0),(5,.ptr 5 0),(6,.int .i64 (fun _=>((0:Nat):Int)))],
    [(1000000,.box [u8v raw,.int .i64 (fun _=>(a:Int))]),(4,.box [.nil,.nil,.nil]),(5,.box [.osl 24 3 (fun _=>0) (fun _=>0),.nil,.nil]),(24,.arr 3 (fun _=>[]))]⟩) (cs:=[.osl 24 3 (fun _=>0) (fun _=>0),.nil,.nil]) 31 3 5 1 rfl rfl rfl) (.le okZ ?_ rfl))))) ?_
 ·cbv
  exact⟨okA,okA,okA,zF rfl,zF rfl,trivial⟩
 intro s hs
 obtain⟨j,b,us⟩:=s
 obtain⟨g1,g2,g3,g4,g5⟩:=hs
 dsimp only at g1 g2 g3 g4 g5
 cbv
 refine zH (fun h=>?_) (fun h=>?_)
 ·have hj:j<n:=om
  rw[show n - j=(n - (j+1))+1 by omega,zJ9] at g3 g4
  have q1:=cQ b g2
  have hb1:=hQl b g2
  have q2:=cQ (fdQ raw b).2 hb1
  have hb2:=hQl (fdQ raw b).2 hb1
  have f1:=uQ raw b
  have f2:=uQ raw (fdQ raw b).2
  generalize (fdQ raw (fdQ raw b).2).2=b2 at *
  generalize (fdQ raw (fdQ raw b).2).1=y at *
  generalize (fdQ raw b).2=b1 at *
  generalize (fdQ raw b).1=x at *
  have qa:=s44 (zJ x) ⟨false,(zJ y).num,(zJ y).den⟩ ((z8 f1).mono (by decide)) (by rw[tF];exact (z8 (rF f2)).mono (by decide))
  have e0:(⟨false,(zJ y).num,(zJ y).den⟩:R).q=gE y:=by rw[tF,z9]
  rw[e0,z9] at qa
  obtain⟨X1,hX1⟩:∃ X,zJ x=X:=⟨_,rfl⟩
  obtain⟨X2,hX2⟩:∃ X,zJ y=X:=⟨_,rfl⟩
  obtain⟨Y,hY⟩:∃ X,zJ (x+gE y)=X:=⟨_,rfl⟩
  have d1:Sound 104 [.ptr 1000000 0] (fdo raw b) [] (rv X1) (fdo raw b1) []:=by subst hX1;exact q1
  have d2:Sound 104 [.ptr 1000000 0] (fdo raw b1) [] (rv X2) (fdo raw b2) []:=by subst hX2;exact q2
  have d3:zE 52 [rv X1,.agg [.bool (fun _=>false),nat X2.num,nat X2.den]] (rv Y):=by subst hX1 hX2 hY;exact qa
  clear q1 q2 qa e0
  cbv
  refine y8 (fun _=>1000000) (.refl _) rfl okA d1 ⟨⟨rfl,rfl⟩,trivial⟩ rfl rfl rfl rfl rfl rfl rfl rfl ?_
  cbv
  refine y8 (fun _=>1000000) (.refl _) rfl okA d2 ⟨⟨rfl,rfl⟩,trivial⟩ rfl rfl rfl rfl rfl rfl rfl rfl ?_
  cbv
  refine zOI 13 [(4,24),(11,31)] (by cbv) (by cbv) ?_
  cbv
  refine zHG zKV rfl ⟨by simp [zQ,yW]⟩ rfl (by simp [zA]) (z7 (by simp [zQ] <;> omega) (by simp [zQ,zA];(try dsimp only [zG] at *);omega)) ?_
  cbv
  refine dA d3 ?_
  cbv
  refine zHG zKV rfl ⟨by simp [zQ,yW]⟩ rfl (by simp [zA]) (z7 (by simp [zQ] <;> omega) (by simp [zQ,zA];(try dsimp only [zG] at *);omega)) ?_
  cbv
  refine⟨zD om om,(j+1,b2,us++[(x,x+gE y)]),⟨om,hb2,by rw[g3];simp,by rw[g4],by simp [g5]⟩,(by show n - (j+1)<n - j;omega),.le okZ ?_ rfl⟩
  cbv
  refine⟨okA,okA,⟨z0 rfl (by simp [zQ,zA]),z0 rfl (by simp [zQ,zA]),lR,trivial⟩,zF ?_,zF ?_,trivial⟩
  ·subst hX1
   show enc rc (us.map fun b=>zJ b.1)++zQ [rc (zJ x)]=enc rc ((us++[(x,x+gE y)]).map fun b=>zJ b.1)
   rw[j7,List.map_append]
   rfl
  ·subst hY
   show enc rc (us.map fun b=>zJ b.2)++zQ [rc (zJ (x+gE y))]=enc rc ((us++[(x,x+gE y)]).map fun b=>zJ b.2)
   rw[j7,List.map_append]
   rfl
 have hj:j=n:=om
 subst hj
 rw[Nat.sub_self,zJ8] at g3 g4
 have e1:U.1=us:=by rw[g3];simp
 have e2:U.2=b:=g4
 have hLs:(us.map fun b=>zJ b.1)=LA:=by rw[←hLA,e1]
 have hHs:(us.map fun b=>zJ b.2)=HA:=by rw[←hHA,e1]
 rw[e2] at hO hOl
 have n3:=cN b g2
 have n4:=hN3 b
 have n5:=hNl b g2
 generalize fdN raw 3 b=k at *
 generalize na raw b=b1 at *
 clear g3 g4 h hU hUl hLA hHA e1 e2 cQ cN
 cbv
 refine y8 (fun _=>1000000) (.refl _) rfl okA n3 ⟨⟨rfl,rfl⟩,trivial⟩ rfl rfl rfl rfl rfl rfl rfl rfl ?_
 cbv
 refine zY (σ:=Nat × Nat × List F) (fun s=>⟨[(0,.ptr 1000000 0),(1,.int .i64 (fun _=>(j:Int))),(4,.ptr 4 0),(5,.ptr 5 0),(9,.int .i64 (fun _=>(s.1:Int)))],
   [(1000000,.box [u8v raw,.int .i64 (fun _=>(s.2.1:Int))]),(4,.box [.nil,.nil,.nil]),(5,.box [rlv LA,rlv HA,.osl 46 4 (fun _=>0) (fun _=>s.2.2.length)]),(46,.arr 4 (fun _=>enc ac (s.2.2.map fA)))]⟩)
  (fun s=>s.1≤k∧s.2.1≤raw.length∧O.1=s.2.2++(fdL raw 0 s.1 j s.2.1).1∧O.2=(fdL raw 0 s.1 j s.2.1).2) (fun s=>s.1)
  (k,b1,[]) ⟨by omega,n5,by rw[←hO];rfl,by rw[←hO]⟩
  (.trans (.frz 24 rfl rfl (by cbv;repeat' first | exact trivial | exact zX (by simp [zA]) | apply And.intro) (by cbv;repeat' first | exact trivial | exact zX (by simp [zA]) | apply And.intro))
   (.trans (.frz 31 rfl rfl (by cbv;repeat' first | exact trivial | exact zX (by simp [zA]) | apply And.intro) (by cbv;repeat' first | exact trivial | exact zX (by simp [zA]) | apply And.intro))
   (.trans (.le (ps':=⟨[(0,.ptr 1000000 0),(1,.int .i64 (fun _=>(j:Int))),(4,.ptr 4 0),(5,.ptr 5 0),(9,.int .i64 (fun _=>(k:Int)))],
    [(1000000,.box [u8v raw,.int .i64 (fun _=>(b1:Int))]),(4,.box [.nil,.nil,.nil]),(5,.box [rlv LA,rlv HA,.nil])]⟩) okZ ?_ rfl)
   (.trans (.adoptB (ps:=⟨[(0,.ptr 1000000 0),(1,.int .i64 (fun _=>(j:Int))),(4,.ptr 4 0),(5,.ptr 5 0),(9,.int .i64 (fun _=>(k:Int)))],
    [(1000000,.box [u8v raw,.int .i64 (fun _=>(b1:Int))]),(4,.box [.nil,.nil,.nil]),(5,.box [rlv LA,rlv HA,.nil])]⟩) (cs:=[rlv LA,rlv HA,.nil]) 46 4 5 2 rfl rfl rfl) (.le okZ ?_ rfl))))) ?_
 ·cbv
  exact⟨okA,okA,⟨zP (by rw[List.drop_zero,List.take_of_length_le (by simp [zA]),hLs]),zP (by rw[List.drop_zero,List.take_of_length_le (by simp [zA]),hHs]),lR,trivial⟩,trivial⟩
 ·cbv
  exact⟨okA,okA,okA,zF rfl,trivial⟩
 clear g2 hLs hHs n3
 intro s hs
 obtain⟨i,b,os⟩:=s
 obtain⟨g1',g2,g3,g4⟩:=hs
 dsimp only at g1' g2 g3 g4
 cbv
 refine zH (fun h=>?_) (fun h=>?_)
 ·obtain⟨m,hm⟩:∃ m,i=m+1:=⟨i - 1,by (try dsimp only [zG] at *);omega⟩
  subst hm
  rw[oG] at g3 g4
  have cf:=cF b g2
  have hb':=hFl b g2
  generalize hFF:fdF raw j b=FF at *
  obtain⟨W,hW⟩:∃ W,fA FF.1=W:=⟨_,rfl⟩
  obtain⟨b',hbb⟩:∃ b',FF.2=b':=⟨_,rfl⟩
  have d1:Sound 160 [.ptr 1000000 0,.int .i64 (fun _=>(j:Int))] (fdo raw b) [] (av W) (fdo raw b') []:=by subst hW hbb;exact cf
  rw[hbb] at g3 g4 hb'
  clear cf
  cbv
  refine vQ 6 [(4,1000000)] (by cbv) (by cbv) (by cbv) ?_
  cbv
  refine oI (fun _=>1000000) rfl okA d1 rfl rfl rfl rfl rfl rfl ?_
  cbv
  refine wD zFU rfl rfl rfl (by simp [zA]) rfl ⟨by simp [zQ,yW]⟩ (z7 (by simp [zQ] <;> omega) (by have hos:os.length<k:=(by have:=congrArg List.length g3;rw[hOl] at this;simp at this;omega);simp [zQ,zA];(try dsimp only [zG] at *);omega)) rfl ?_
  cbv
  refine⟨zD om om,(m,b',os++[FF.1]),⟨om,hb',by rw[g3];simp,by rw[g4];rfl⟩,(by show m<m+1;omega),.le okZ ?_ rfl⟩
  cbv
  refine⟨okA,okA,⟨lR,lR,z0 rfl (by simp [zQ,zA]),trivial⟩,zF ?_,trivial⟩
  subst hW
  show enc ac (os.map fA)++zQ [ac (fA FF.1)]=enc ac ((os++[FF.1]).map fA)
  rw[j7,List.map_append]
  rfl
 ·have hi:i=0:=om
  subst hi
  rw[oF] at g3 g4
  have e1:O.1=os:=by rw[g3];simp
  have e2:O.2=b:=g4
  have e3:os.map fA=OA:=by rw[←hOA,e1]
  have e4:b=bO:=by rw[←hbO,e2]
  subst e4
  cbv
  refine nP (.trans (.le (ps':=⟨[(4,.ptr 4 0)],[(1000000,.box [u8v raw,.int .i64 (fun _=>(b:Int))]),(4,.box [rlv LA,rlv HA,.osl 46 4 (fun _=>0) (fun _=>os.length)]),(46,.arr 4 (fun _=>enc ac (os.map fA)))]⟩) okZ ?_ rfl) (.frz 46 rfl rfl (by cbv;repeat' first | exact trivial | exact zX (by simp [zA]) | apply And.intro) (by cbv;repeat' first | exact trivial | exact zX (by simp [zA]) | apply And.intro))) rfl rfl rfl rfl ?_
  ·cbv
   exact⟨okA,okA,zF rfl,trivial⟩
  ·cbv
   exact⟨lR,lR,zP (by rw[List.drop_zero,List.take_of_length_le (by simp [zA]),e3]),trivial⟩
theorem zSD (raw:List UInt8)(a:Nat)(hr:raw.length<2^38)(ha:a≤raw.length) :
  Sound 92 [.ptr 1000000 0] (fdo raw a) [] (qv (fdY raw a).1.q) (fdo raw (fdY raw a).2) []:=by
 refine sF Tryz.f92 ?_
 have c1:=zJO raw a hr ha
 have s1:=zA1 raw a
 have b1:=zLP (raw:=raw) ha
 have c2:=zH0 raw (fdG raw a).1.n (fdG raw a).2 hr b1 (by have:=s1.n2;omega)
 have b2:=zLO (raw:=raw) (n:=(fdG raw a).1.n) b1
 have c3:=zBT raw ((fdG raw a).1.n+(fdG raw a).1.us.length) (fdR raw (fdG raw a).1.n (fdG raw a).2).2 hr b2 (by have:=s1.n2;have:=s1.us;omega)
 have hY:fdY raw a=(⟨(fdG raw a).1,(fdR raw (fdG raw a).1.n (fdG raw a).2).1,(fdF raw ((fdG raw a).1.n+(fdG raw a).1.us.length) (fdR raw (fdG raw a).1.n (fdG raw a).2).2).1⟩,(fdF raw ((fdG raw a).1.n+(fdG raw a).1.us.length) (fdR raw (fdG raw a).1.n (fdG raw a).2).2).2):=rfl
 rw[hY]
 clear hY
 have n2:=s1.n2
 have u4:=s1.us
 generalize fdG raw a=G at *
 generalize fdR raw G.1.n G.2=Rr at *
 generalize fdF raw (G.1.n+G.1.us.length) Rr.2=H at *
 obtain⟨⟨gn,gus,gos⟩,gb⟩:=G
 obtain⟨rr,rb⟩:=Rr
 obtain⟨h,hb⟩:=H
 dsimp only at c1 c2 c3 n2 u4
 obtain⟨UA,hUA⟩:∃ l,gus.map fA=l:=⟨_,rfl⟩
 obtain⟨OA,hOA⟩:∃ l,gos.map fA=l:=⟨_,rfl⟩
 obtain⟨W,hW⟩:∃ l,fA h=l:=⟨_,rfl⟩
 obtain⟨⟨lo,hi,rows⟩,hRR⟩:∃ r,rr.g=r:=⟨_,rfl⟩
 have ul:UA.length=gus.length:=by rw[←hUA,List.length_map]
 have d1:Sound 105 [.ptr 1000000 0] (fdo raw a) [] (.agg [.int .i64 (fun _=>(gn:Int)),alv UA,alv OA]) (fdo raw gb) []:=by subst hUA hOA;exact c1
 have d2:Sound 159 [.ptr 1000000 0,.int .i64 (fun _=>(gn:Int))] (fdo raw gb) [] (.agg [rlv lo,rlv hi,alv rows]) (fdo raw rb) []:=by rw[hRR] at c2;exact c2
 have d3:Sound 160 [.ptr 1000000 0,.int .i64 (fun _=>((gn+gus.length:Nat):Int))] (fdo raw rb) [] (av W) (fdo raw hb) []:=by subst hW;exact c3
 have hgoal:qv (⟨⟨gn,gus,gos⟩,rr,h⟩:FQry).q=.agg [.int .i64 (fun _=>(gn:Int)),alv UA,alv OA,rlv lo,rlv hi,alv rows,tsv W.ts,.bool (fun _=>W.c.neg),nat W.c.num,nat W.c.den]:=by
  subst hUA hOA hW
  show qv (⟨_,rr.g,_⟩:Qry)=_
  rw[hRR]
  rfl
 show wp _ _ (jI _ (qv (⟨⟨gn,gus,gos⟩,rr,h⟩:FQry).q) (fdo raw hb) [])
 rw[hgoal]
 clear hgoal c1 c2 c3 hUA hOA hW hRR b1 b2 s1
 cbv
 refine y8 (fun _=>1000000) (.refl _) rfl okA d1 ⟨⟨rfl,rfl⟩,trivial⟩ rfl rfl rfl rfl rfl rfl rfl rfl ?_
 cbv
 refine y8 (fun _=>1000000) (.refl _) rfl okA d2 ⟨⟨rfl,rfl⟩,trivial⟩ rfl rfl rfl rfl rfl rfl rfl rfl ?_
 cbv
 refine vQ 10 [(9,1000000)] (by cbv) (by cbv) (by cbv) ?_
 cbv
 refine⟨zD (by rw[zA];(try dsimp only [zG] at *);omega) (by rw[zA];(try dsimp only [zG] at *);omega),?_⟩
 cbv
 refine oI (fun _=>1000000) rfl (by refine⟨lR,zC ?_,trivial⟩;rw[zA,ul];(try dsimp only [zG] at *);omega) d3 rfl rfl rfl rfl rfl rfl ?_
 cbv
 exact nP (.refl _) rfl rfl rfl rfl (by cbv;exact okA)
end Go.Proofs.YtgcpehdkdnkgeaaGreat
