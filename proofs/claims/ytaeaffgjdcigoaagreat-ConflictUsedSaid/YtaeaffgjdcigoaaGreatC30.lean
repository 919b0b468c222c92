/- A part of the proof: FdC, FdD. -/
import Derived.Test.YtaeaffgjdcigoaaGreatC29
set_option linter.all false
namespace Go.Proofs.YtaeaffgjdcigoaaGreat
open Go
set_option maxRecDepth 100000
set_option maxHeartbeats 4000000
theorem zA6 (q:Rat):q<0↔q.num<0:=by have:=zF2 (zJ q);rwa [z6,zS4] at this
theorem aU (q:Rat):(⟨false,(zJ q).num,(zJ q).den⟩:R)=zJ (vK q):=by unfold vK;split;{rename_i h;have h3:q.num<0:=(zA6 q).1 h;simp[zJ,h3];omega};{rename_i h;have h3:¬q.num<0:=fun g=>h ((zA6 q).2 g);simp[zJ,h3]}
theorem zRX (raw:List UInt8)(n a:Nat):fdB raw (n+1) a=(((fdQ raw a).1,(fdQ raw a).1+vK (fdQ raw (fdQ raw a).2).1)::(fdB raw n (fdQ raw (fdQ raw a).2).2).1,(fdB raw n (fdQ raw (fdQ raw a).2).2).2):=rfl
theorem zRW (raw:List UInt8)(a:Nat):fdB raw 0 a=([],a):=rfl
theorem zPE (raw:List UInt8)(n a:Nat)(hr:raw.length<2^38)(ha:a<=raw.length)(hn:n<=100):Sound 251 [.ptr 1000000 0,.int .i64 (fun _=>(n:Int))] (fdo raw a) [] (rgv (fdR raw n a).1.g) (fdo raw (fdR raw n a).2) []:=by
 refine sF Tryz.f251 ?_;have cQ:∀ b:Nat,b<=raw.length->Sound 116 [.ptr 1000000 0] (fdo raw b) [] (rv (zJ (fdQ raw b).1)) (fdo raw (fdQ raw b).2) []:=fun b h1=>zM0 raw b hr h1;have cN:∀ b:Nat,b<=raw.length->Sound 117 [.ptr 1000000 0,.int .i64 (fun _=>(3:Int))] (fdo raw b) [] (.int .i64 (fun _=>(fdN raw 3 b:Int))) (fdo raw (na raw b)) []:=fun b h1=>bW raw b 3 hr (by decide) (by decide) h1;have cF:∀ b:Nat,b<=raw.length->Sound 50 [.ptr 1000000 0,.int .i64 (fun _=>(n:Int))] (fdo raw b) [] (fv (fdF raw n b).1) (fdo raw (fdF raw n b).2) []:=fun b h1=>zC7 raw n b hr h1 hn;have hFl:∀ b:Nat,b<=raw.length->(fdF raw n b).2<=raw.length:=fun b h=>zI7 h;have hQl:∀ b:Nat,b<=raw.length->(fdQ raw b).2<=raw.length:=fun b h=>iN h;have hNl:∀ b:Nat,b<=raw.length->na raw b<=raw.length:=fun b h=>dD h;have hN3:∀ b:Nat,fdN raw 3 b<3:=fun b=>kX (by decide);have hG:fdR raw n a=(⟨(fdB raw n a).1,(fdL raw 0 (fdN raw 3 (fdB raw n a).2) n (na raw (fdB raw n a).2)).1⟩,(fdL raw 0 (fdN raw 3 (fdB raw n a).2) n (na raw (fdB raw n a).2)).2):=rfl;rw[hG];clear hG;obtain⟨U,hU⟩:∃ U,fdB raw n a=U:=⟨_,rfl⟩;rw[hU];obtain⟨O,hO⟩:∃ O,fdL raw 0 (fdN raw 3 U.2) n (na raw U.2)=O:=⟨_,rfl⟩;rw[hO];have hUl:U.1.length=n:=by rw[<-hU,zH7]
 have hOl:O.1.length=fdN raw 3 U.2:=by rw[<-hO,cE]
 obtain⟨LA,hLA⟩:∃ l,(U.1.map fun b=>zJ b.1)=l:=⟨_,rfl⟩;obtain⟨HA,hHA⟩:∃ l,(U.1.map fun b=>zJ b.2)=l:=⟨_,rfl⟩;obtain⟨OA,hOA⟩:∃ l,O.1.map fA=l:=⟨_,rfl⟩;obtain⟨bO,hbO⟩:∃ b,O.2=b:=⟨_,rfl⟩;have hgoal:rgv (⟨U.1,O.1⟩:FReg).g=.agg [rlv LA,rlv HA,alv OA]:=by rw[<-hLA,<-hHA,<-hOA];rfl
 show wp _ _ (dK _ (rgv (⟨U.1,O.1⟩:FReg).g) (fdo raw O.2) []);rw[hgoal,hbO];clear hgoal;cbv;refine z3 (σ:=Nat×Nat×List (Rat×Rat)) (fun s=>⟨[(0,.ptr 1000000 0),(1,.int .i64 (fun _=>(n:Int))),(4,.ptr 4 0),(5,.ptr 5 0),(6,.int .i64 (fun _=>(s.1:Int)))],
   [(1000000,.box [u8v raw,.int .i64 (fun _=>(s.2.1:Int))]),(4,.box [.nil,.nil,.nil]),(5,.box [.osl 24 3 (fun _=>0) (fun _=>s.2.2.length),.osl 31 3 (fun _=>0) (fun _=>s.2.2.length),.nil]),(24,.arr 3 (fun _=>enc rc (s.2.2.map fun b=>zJ b.1))),(31,.arr 3 (fun _=>enc rc (s.2.2.map fun b=>zJ b.2)))]⟩)
  (fun s=>s.1<=n/\s.2.1<=raw.length/\U.1=s.2.2++(fdB raw (n-s.1) s.2.1).1/\U.2=(fdB raw (n-s.1) s.2.1).2/\s.2.2.length=s.1) (fun s=>n-s.1)
  (0,a,[]) ⟨by omega,ha,by rw[<-hU];rfl,by rw[<-hU];rfl,rfl⟩
  (.trans (.le (ps':=⟨[(0,.ptr 1000000 0),(1,.int .i64 (fun _=>(n:Int))),(4,.ptr 4 0),(5,.ptr 5 0),(6,.int .i64 (fun _=>((0:Nat):Int)))],
    [(1000000,.box [u8v raw,.int .i64 (fun _=>(a:Int))]),(4,.box [.nil,.nil,.nil]),(5,.box [.nil,.nil,.nil])]⟩) okZ okZ rfl)
   (.trans (.adoptB (ps:=⟨[(0,.ptr 1000000 0),(1,.int .i64 (fun _=>(n:Int))),(4,.ptr 4 0),(5,.ptr 5 0),(6,.int .i64 (fun _=>((0:Nat):Int)))],
    [(1000000,.box [u8v raw,.int .i64 (fun _=>(a:Int))]),(4,.box [.nil,.nil,.nil]),(5,.box [.nil,.nil,.nil])]⟩) (cs:=[.nil,.nil,.nil]) 24 3 5 0 rfl rfl rfl)
   (.trans (.le (ps':=⟨[(0,.ptr 1000000 0),(1,.int .i64 (fun _=>(n:Int))),(4,.ptr 4 0),(5,.ptr 5 0),(6,.int .i64 (fun _=>((0:Nat):Int)))],
    [(1000000,.box [u8v raw,.int .i64 (fun _=>(a:Int))]),(4,.box [.nil,.nil,.nil]),(5,.box [.osl 24 3 (fun _=>0) (fun _=>0),.nil,.nil]),(24,.arr 3 (fun _=>[]))]⟩) okZ (by cbv;exact⟨okA,okA,okA,zI rfl,trivial⟩) rfl)
   (.trans (.adoptB (ps:=⟨[(0,.ptr 1000000 0),(1,.int .i64 (fun _=>(n:Int))),(4,.ptr 4 0),(5,.ptr 5 0),(6,.int .i64 (fun _=>((0:Nat):Int)))],
    [(1000000,.box [u8v raw,.int .i64 (fun _=>(a:Int))]),(4,.box [.nil,.nil,.nil]),(5,.box [.osl 24 3 (fun _=>0) (fun _=>0),.nil,.nil]),(24,.arr 3 (fun _=>[]))]⟩) (cs:=[.osl 24 3 (fun _=>0) (fun _=>0),.nil,.nil]) 31 3 5 1 rfl rfl rfl) (.le okZ ?_ rfl))))) ?_
 {cbv;exact⟨okA,okA,okA,zI rfl,zI rfl,trivial⟩};intro s hs;obtain⟨j,b,us⟩:=s;obtain⟨g1,g2,g3,g4,g5⟩:=hs;dsimp only at g1 g2 g3 g4 g5;cbv;refine zG (fun h=>?_) (fun h=>?_)
 ·have hj:j<n:=om;rw[show n-j=(n-(j+1))+1 by omega,zRX] at g3 g4;have q1:=cQ b g2;have hb1:=hQl b g2;have q2:=cQ (fdQ raw b).2 hb1;have hb2:=hQl (fdQ raw b).2 hb1;have f1:=jG raw b;have f2:=jG raw (fdQ raw b).2;generalize (fdQ raw (fdQ raw b).2).2=b2 at *
  generalize (fdQ raw (fdQ raw b).2).1=y at *
  generalize (fdQ raw b).2=b1 at *
  generalize (fdQ raw b).1=x at *
  (have qa:=s44 (zJ x) ⟨false,(zJ y).num,(zJ y).den⟩ ((zU f1).mono (by decide)) (by rw[aU];exact (zU (jU f2)).mono (by decide));have e0:(⟨false,(zJ y).num,(zJ y).den⟩:R).q=vK y:=by rw[aU,z6]);rw[e0,z6] at qa
  (obtain⟨X1,hX1⟩:∃ X,zJ x=X:=⟨_,rfl⟩;obtain⟨X2,hX2⟩:∃ X,zJ y=X:=⟨_,rfl⟩;obtain⟨Y,hY⟩:∃ X,zJ (x+vK y)=X:=⟨_,rfl⟩;have d1:Sound 116 [.ptr 1000000 0] (fdo raw b) [] (rv X1) (fdo raw b1) []:=by subst hX1;exact q1);have d2:Sound 116 [.ptr 1000000 0] (fdo raw b1) [] (rv X2) (fdo raw b2) []:=by subst hX2;exact q2
  (have d3:zE 18 [rv X1,.agg [.bool (fun _=>false),nat X2.num,nat X2.den]] (rv Y):=by subst hX1 hX2 hY;exact qa);clear q1 q2 qa e0
  cbv;refine y0 (fun _=>1000000) (.refl _) rfl okA d1 ⟨⟨rfl,rfl⟩,trivial⟩ rfl rfl rfl rfl rfl rfl rfl rfl ?_;cbv;refine y0 (fun _=>1000000) (.refl _) rfl okA d2 ⟨⟨rfl,rfl⟩,trivial⟩ rfl rfl rfl rfl rfl rfl rfl rfl ?_;cbv;refine zV8 13 [(4,24),(11,31)] (by cbv) (by cbv) ?_;cbv;refine zOV zSG rfl ⟨by simp[zS,wB]⟩ rfl (by simp[zA]) (yD (by simp[zS] <;> omega) (by simp[zS,zA];(try dsimp only [zF] at *);omega)) ?_;cbv;refine dA d3 ?_;cbv;refine zOV zSG rfl ⟨by simp[zS,wB]⟩ rfl (by simp[zA]) (yD (by simp[zS] <;> omega) (by simp[zS,zA];(try dsimp only [zF] at *);omega)) ?_;cbv;refine⟨zD om om,(j+1,b2,us++[(x,x+vK y)]),⟨om,hb2,by rw[g3];simp,by rw[g4],by simp[g5]⟩,(by show n-(j+1)<n-j;omega),.le okZ ?_ rfl⟩;cbv;refine⟨okA,okA,⟨yC rfl (by simp[zS,zA]),yC rfl (by simp[zS,zA]),lR,trivial⟩,zI ?_,zI ?_,trivial⟩;{subst hX1;show enc rc (us.map fun b=>zJ b.1)++zS [rc (zJ x)]=enc rc ((us++[(x,x+vK y)]).map fun b=>zJ b.1);rw[cW,gE];rfl};{subst hY;show enc rc (us.map fun b=>zJ b.2)++zS [rc (zJ (x+vK y))]=enc rc ((us++[(x,x+vK y)]).map fun b=>zJ b.2);rw[cW,gE];rfl}
 have hj:j=n:=om;subst hj;rw[lX,zRW] at g3 g4;have e1:U.1=us:=by rw[g3];simp
 have e2:U.2=b:=g4;have hLs:(us.map fun b=>zJ b.1)=LA:=by rw[<-hLA,e1]
 have hHs:(us.map fun b=>zJ b.2)=HA:=by rw[<-hHA,e1]
 rw[e2] at hO hOl;have n3:=cN b g2;have n4:=hN3 b;have n5:=hNl b g2;generalize fdN raw 3 b=k at *
 generalize na raw b=b1 at *
 clear g3 g4 h hU hUl hLA hHA e1 e2 cQ cN;cbv;refine y0 (fun _=>1000000) (.refl _) rfl okA n3 ⟨⟨rfl,rfl⟩,trivial⟩ rfl rfl rfl rfl rfl rfl rfl rfl ?_;cbv;refine z3 (σ:=Nat×Nat×List F) (fun s=>⟨[(0,.ptr 1000000 0),(1,.int .i64 (fun _=>(j:Int))),(4,.ptr 4 0),(5,.ptr 5 0),(9,.int .i64 (fun _=>(s.1:Int)))],
   [(1000000,.box [u8v raw,.int .i64 (fun _=>(s.2.1:Int))]),(4,.box [.nil,.nil,.nil]),(5,.box [rlv LA,rlv HA,.osl 46 4 (fun _=>0) (fun _=>s.2.2.length)]),(46,.arr 4 (fun _=>enc ac (s.2.2.map fA)))]⟩)
  (fun s=>s.1<=k/\s.2.1<=raw.length/\O.1=s.2.2++(fdL raw 0 s.1 j s.2.1).1/\O.2=(fdL raw 0 s.1 j s.2.1).2) (fun s=>s.1)
  (k,b1,[]) ⟨by omega,n5,by rw[<-hO];rfl,by rw[<-hO]⟩
  (.trans (.frz 24 rfl rfl (by cbv;repeat' first|exact trivial|exact z8 (by simp[zA])|apply And.intro) (by cbv;repeat' first|exact trivial|exact z8 (by simp[zA])|apply And.intro))
   (.trans (.frz 31 rfl rfl (by cbv;repeat' first|exact trivial|exact z8 (by simp[zA])|apply And.intro) (by cbv;repeat' first|exact trivial|exact z8 (by simp[zA])|apply And.intro))
   (.trans (.le (ps':=⟨[(0,.ptr 1000000 0),(1,.int .i64 (fun _=>(j:Int))),(4,.ptr 4 0),(5,.ptr 5 0),(9,.int .i64 (fun _=>(k:Int)))],
    [(1000000,.box [u8v raw,.int .i64 (fun _=>(b1:Int))]),(4,.box [.nil,.nil,.nil]),(5,.box [rlv LA,rlv HA,.nil])]⟩) okZ ?_ rfl)
   (.trans (.adoptB (ps:=⟨[(0,.ptr 1000000 0),(1,.int .i64 (fun _=>(j:Int))),(4,.ptr 4 0),(5,.ptr 5 0),(9,.int .i64 (fun _=>(k:Int)))],
    [(1000000,.box [u8v raw,.int .i64 (fun _=>(b1:Int))]),(4,.box [.nil,.nil,.nil]),(5,.box [rlv LA,rlv HA,.nil])]⟩) (cs:=[rlv LA,rlv HA,.nil]) 46 4 5 2 rfl rfl rfl) (.le okZ ?_ rfl))))) ?_
 {cbv;exact⟨okA,okA,⟨zR (by rw[wC,yS (by simp[zA]),hLs]),zR (by rw[wC,yS (by simp[zA]),hHs]),lR,trivial⟩,trivial⟩};{cbv;exact⟨okA,okA,okA,zI rfl,trivial⟩};clear g2 hLs hHs n3;intro s hs;obtain⟨i,b,os⟩:=s;obtain⟨g1',g2,g3,g4⟩:=hs;dsimp only at g1' g2 g3 g4;cbv;refine zG (fun h=>?_) (fun h=>?_)
 ·obtain⟨m,hm⟩:∃ m,i=m+1:=⟨i-1,by (try dsimp only [zF] at *);omega⟩;subst hm;rw[zEJ] at g3 g4;have cf:=cF b g2;have hb':=hFl b g2;generalize hFF:fdF raw j b=FF at *
  (obtain⟨W,hW⟩:∃ W,fA FF.1=W:=⟨_,rfl⟩;obtain⟨b',hbb⟩:∃ b',FF.2=b':=⟨_,rfl⟩;have d1:Sound 50 [.ptr 1000000 0,.int .i64 (fun _=>(j:Int))] (fdo raw b) [] (av W) (fdo raw b') []:=by subst hW hbb;exact cf);rw[hbb] at g3 g4 hb'
  clear cf;cbv;refine vC 6 [(4,1000000)] (by cbv) (by cbv) (by cbv) ?_;cbv;refine zFJ (fun _=>1000000) rfl okA d1 rfl rfl rfl rfl rfl rfl ?_;cbv;refine wE zMS rfl rfl rfl (by simp[zA]) rfl ⟨by simp[zS,wB]⟩ (yD (by simp[zS] <;> omega) (by have hos:os.length<k:=(by have:=congrArg List.length g3;rw[hOl] at this;simp at this;omega);simp[zS,zA];(try dsimp only [zF] at *);omega)) rfl ?_;cbv;refine⟨zD om om,(m,b',os++[FF.1]),⟨om,hb',by rw[g3];simp,by rw[g4];rfl⟩,(by show m<m+1;omega),.le okZ ?_ rfl⟩;cbv;refine⟨okA,okA,⟨lR,lR,yC rfl (by simp[zS,zA]),trivial⟩,zI ?_,trivial⟩;subst hW;show enc ac (os.map fA)++zS [ac (fA FF.1)]=enc ac ((os++[FF.1]).map fA);rw[cW,gE];rfl
 ·(have hi:i=0:=om;subst hi;rw[zEI] at g3 g4;have e1:O.1=os:=by rw[g3];simp);have e2:O.2=b:=g4
  (have e3:os.map fA=OA:=by rw[<-hOA,e1]);have e4:b=bO:=by rw[<-hbO,e2]
  subst e4;cbv;refine zE1 (.trans (.le (ps':=⟨[(4,.ptr 4 0)],[(1000000,.box [u8v raw,.int .i64 (fun _=>(b:Int))]),(4,.box [rlv LA,rlv HA,.osl 46 4 (fun _=>0) (fun _=>os.length)]),(46,.arr 4 (fun _=>enc ac (os.map fA)))]⟩) okZ ?_ rfl) (.frz 46 rfl rfl (by cbv;repeat' first|exact trivial|exact z8 (by simp[zA])|apply And.intro) (by cbv;repeat' first|exact trivial|exact z8 (by simp[zA])|apply And.intro))) rfl rfl rfl rfl ?_;{cbv;exact⟨okA,okA,zI rfl,trivial⟩};{cbv;exact⟨lR,lR,zR (by rw[wC,yS (by simp[zA]),e3]),trivial⟩}
theorem yAC (raw:List UInt8)(a:Nat)(hr:raw.length<2^38)(ha:a<=raw.length):Sound 201 [.ptr 1000000 0] (fdo raw a) [] (qv (fdY raw a).1.q) (fdo raw (fdY raw a).2) []:=by
 refine sF Tryz.f201 ?_;have c1:=zQ7 raw a hr ha;have s1:=zGJ raw a;have b1:=zTI (raw:=raw) ha;have c2:=zPE raw (fdG raw a).1.n (fdG raw a).2 hr b1 (by have:=s1.n2;omega);have b2:=zTE (raw:=raw) (n:=(fdG raw a).1.n) b1;have c3:=zC7 raw ((fdG raw a).1.n+(fdG raw a).1.us.length) (fdR raw (fdG raw a).1.n (fdG raw a).2).2 hr b2 (by have:=s1.n2;have:=s1.us;omega);have hY:fdY raw a=(⟨(fdG raw a).1,(fdR raw (fdG raw a).1.n (fdG raw a).2).1,(fdF raw ((fdG raw a).1.n+(fdG raw a).1.us.length) (fdR raw (fdG raw a).1.n (fdG raw a).2).2).1⟩,(fdF raw ((fdG raw a).1.n+(fdG raw a).1.us.length) (fdR raw (fdG raw a).1.n (fdG raw a).2).2).2):=rfl;rw[hY];clear hY;have n2:=s1.n2;have u4:=s1.us;generalize fdG raw a=G at *
 generalize fdR raw G.1.n G.2=Rr at *
 generalize fdF raw (G.1.n+G.1.us.length) Rr.2=H at *
 obtain⟨⟨gn,gus,gos⟩,gb⟩:=G;obtain⟨rr,rb⟩:=Rr;obtain⟨h,hb⟩:=H;dsimp only at c1 c2 c3 n2 u4;obtain⟨UA,hUA⟩:∃ l,gus.map fA=l:=⟨_,rfl⟩;obtain⟨OA,hOA⟩:∃ l,gos.map fA=l:=⟨_,rfl⟩;obtain⟨W,hW⟩:∃ l,fA h=l:=⟨_,rfl⟩;obtain⟨⟨lo,hi,rows⟩,hRR⟩:∃ r,rr.g=r:=⟨_,rfl⟩;have ul:UA.length=gus.length:=by rw[<-hUA,xA]
 have d1:Sound 250 [.ptr 1000000 0] (fdo raw a) [] (.agg [.int .i64 (fun _=>(gn:Int)),alv UA,alv OA]) (fdo raw gb) []:=by subst hUA hOA;exact c1
 have d2:Sound 251 [.ptr 1000000 0,.int .i64 (fun _=>(gn:Int))] (fdo raw gb) [] (.agg [rlv lo,rlv hi,alv rows]) (fdo raw rb) []:=by rw[hRR] at c2;exact c2
 have d3:Sound 50 [.ptr 1000000 0,.int .i64 (fun _=>((gn+gus.length:Nat):Int))] (fdo raw rb) [] (av W) (fdo raw hb) []:=by subst hW;exact c3
 have hgoal:qv (⟨⟨gn,gus,gos⟩,rr,h⟩:FQry).q=.agg [.int .i64 (fun _=>(gn:Int)),alv UA,alv OA,rlv lo,rlv hi,alv rows,tsv W.ts,.bool (fun _=>W.c.neg),nat W.c.num,nat W.c.den]:=by subst hUA hOA hW;show qv (⟨_,rr.g,_⟩:Qry)=_;rw[hRR];rfl
 show wp _ _ (dK _ (qv (⟨⟨gn,gus,gos⟩,rr,h⟩:FQry).q) (fdo raw hb) []);rw[hgoal];clear hgoal c1 c2 c3 hUA hOA hW hRR b1 b2 s1;cbv;refine y0 (fun _=>1000000) (.refl _) rfl okA d1 ⟨⟨rfl,rfl⟩,trivial⟩ rfl rfl rfl rfl rfl rfl rfl rfl ?_;cbv;refine y0 (fun _=>1000000) (.refl _) rfl okA d2 ⟨⟨rfl,rfl⟩,trivial⟩ rfl rfl rfl rfl rfl rfl rfl rfl ?_;cbv;refine vC 10 [(9,1000000)] (by cbv) (by cbv) (by cbv) ?_;cbv;refine⟨zD (by rw[zA];(try dsimp only [zF] at *);omega) (by rw[zA];(try dsimp only [zF] at *);omega),?_⟩;cbv;refine zFJ (fun _=>1000000) rfl (by refine⟨lR,zC ?_,trivial⟩;rw[zA,ul];(try dsimp only [zF] at *);omega) d3 rfl rfl rfl rfl rfl rfl ?_;cbv;exact zE1 (.refl _) rfl rfl rfl rfl (by cbv;exact okA)
theorem zBP:ty 39=.sli 5 72 [.int .i64 (fun _=>0),.int .i64 (fun _=>0),.ff,.nil,.nil]:=by cbv
theorem zPY (raw:List UInt8)(q:Qry)(n m a:Nat)(p:List Dec):lF raw q n m 0 p a=p:=rfl
theorem zPZ (raw:List UInt8)(q:Qry)(n m k a:Nat)(p:List Dec):lF raw q n m (k+1) p a =(if 1+fdN raw 4 a=3\/1+fdN raw 4 a=4 then lF raw q n m k (p++[⟨((1+fdN raw 4 a:Nat):Int),fdN raw n (na raw a),zJ (fdQ raw (na raw (na raw a))).1⟩]) (fdQ raw (na raw (na raw a))).2 else if m=0 then lF raw q n m k p (na raw a) else if (⟨q,p,[]⟩:Scp).dcd 1 (fdN raw m (na raw a))=true\/(⟨q,p,[]⟩:Scp).dcd 2 (fdN raw m (na raw a))=true then lF raw q n m k p (na raw (na raw a)) else lF raw q n m k (p++[⟨((1+fdN raw 4 a:Nat):Int),fdN raw m (na raw a),R0⟩]) (na raw (na raw a))):=rfl
theorem PathOk.dsz {n m k:Nat}{p:List Dec}(h:PathOk n m p)(hl:p.length<2^38)(hk:1<=k):Dsz k p:=⟨hl,fun d hd=>by
 rcases h.d d hd with⟨_,_,_,h⟩|⟨_,_,_,q,hq,h⟩;{rw[h];exact⟨xD _,xD _⟩}
 ·rw[h];exact zU (hq.mono hk)⟩
abbrev svN (s:Scp):PV:=.agg [.int .i64 (fun _=>s.q.g.n),alv s.q.g.us,alv s.q.g.os,rlv s.q.r.lo,rlv s.q.r.hi,alv s.q.r.rows,tsv s.q.goal.ts,.bool (fun _=>s.q.goal.c.neg),nat s.q.goal.c.num,nat s.q.goal.c.den,dlv s.path,.nil]
theorem zQ4 (raw : List UInt8) (hr : raw.length < 2^38) : zE 167 [u8v raw] (svN (fdS raw)) := by
  refine sF Tryz.f167 ?_
  have c0 := zST raw hr
  have c1 := yAC raw 0 hr (xD _)
  have sm := r8 raw 0
  have b1 := zZI (raw := raw) (a := 0) (xD _)
  have c2 := bW raw (fdY raw 0).2 4 hr (by decide) (by decide) b1
  have cN : ∀ m b : Nat, 0 < m → m < 2^60 → b ≤ raw.length → Sound 117 [.ptr 1000000 0, .int .i64 (fun _ => (m : Int))] (fdo raw b) [] (.int .i64 (fun _ => (fdN raw m b : Int))) (fdo raw (na raw b)) [] := fun m b h1 h2 h3 => bW raw b m hr h1 h2 h3
  have cQ : ∀ b : Nat, b ≤ raw.length → Sound 116 [.ptr 1000000 0] (fdo raw b) [] (rv (zJ (fdQ raw b).1)) (fdo raw (fdQ raw b).2) [] := fun b h1 => zM0 raw b hr h1
  have hQl : ∀ b : Nat, b ≤ raw.length → (fdQ raw b).2 ≤ raw.length := fun b h => iN h
  have hQf : ∀ b : Nat, Fits 1 (fdQ raw b).1 := fun b => jG raw b
  have hNl : ∀ b : Nat, b ≤ raw.length → na raw b ≤ raw.length := fun b h => dD h
  have hN4 : ∀ b : Nat, fdN raw 4 b < 4 := fun b => kX (by decide)
  have hNn : ∀ m b : Nat, 0 < m → fdN raw m b < m := fun m b h => kX h
  have n1 := sm.g.n1
  have n2 := sm.g.n2
  have u4 := sm.g.us
  have hq1 : (fdY raw 0).1.q.g.n = ((fdY raw 0).1.g.n : Int) := rfl
  have hq2 : (fdY raw 0).1.q.g.us.length = (fdY raw 0).1.g.us.length := by show (List.map fA _).length = _; rw [xA]
  obtain ⟨P, hP⟩ : ∃ P, (fdS raw).path = P := ⟨_, rfl⟩
  have hP' : P = lF raw (fdY raw 0).1.q (fdY raw 0).1.g.n (fdY raw 0).1.g.us.length (fdN raw 4 (fdY raw 0).2) [] (na raw (fdY raw 0).2) := hP.symm
  have hS : fdS raw = ⟨(fdY raw 0).1.q, P, []⟩ := by rw [← hP]; rfl
  rw [hS]
  have k4 := hN4 (fdY raw 0).2
  have ak := hNl _ b1
  clear hS hP sm
  generalize fdN raw 4 (fdY raw 0).2 = k0 at *
  generalize na raw (fdY raw 0).2 = a0 at *
  generalize (fdY raw 0).2 = a00 at *
  generalize (fdY raw 0).1.g.n = n at *
  generalize (fdY raw 0).1.g.us.length = m at *
  generalize (fdY raw 0).1.q = Q at *
  obtain ⟨⟨gn, gus, gos⟩, ⟨lo, hi', rows⟩, ⟨ts, c⟩⟩ := Q
  dsimp only at hq1 hq2
  subst hq1
  have cD : ∀ (p : List Dec) (k u : Int), PathOk n m p → p.length ≤ 3 → zE 169 [.agg [.int .i64 (fun _ => (n : Int)), alv gus, alv gos, rlv lo, rlv hi', alv rows, tsv ts, .bool (fun _ => c.neg), nat c.num, nat c.den, dlv p, llv []], .int .i64 (fun _ => k), .int .i64 (fun _ => u)] (.bool (fun _ => (⟨⟨⟨(n : Int), gus, gos⟩, ⟨lo, hi', rows⟩, ⟨ts, c⟩⟩, p, []⟩ : Scp).dcd k u)) :=
    fun p k u h1 h2 => eU ⟨⟨⟨(n : Int), gus, gos⟩, ⟨lo, hi', rows⟩, ⟨ts, c⟩⟩, p, []⟩ k u (h1.dsz oM (by decide))
  cbv
  refine y0 (fun _ => 8) (.refl _) rfl okA c0 trivial rfl rfl rfl rfl rfl rfl rfl rfl ?_
  cbv
  refine y0 (fun _ => 8) (.refl _) rfl okA c1 ⟨⟨rfl, rfl⟩, trivial⟩ rfl rfl rfl rfl rfl rfl rfl rfl ?_
  cbv
  refine y0 (fun _ => 8) (.refl _) rfl okA c2 ⟨⟨rfl, rfl⟩, trivial⟩ rfl rfl rfl rfl rfl rfl rfl rfl ?_
  cbv
  refine z3 (σ := Nat × Nat × List Dec) (fun s => ⟨[(2, .ptr 2 0), (3, .ptr 8 0), (4, .ptr 4 0), (5, .int .i64 (fun _ => (s.1 : Int)))],
      [(2, .box [.int .i64 (fun _ => 0), .nil, .nil, .nil, .nil, .nil, .nil, .ff, .nil, .nil, .nil, .nil]), (8, .box [u8v raw, .int .i64 (fun _ => (s.2.1 : Int))]),
       (4, .box [.int .i64 (fun _ => (n : Int)), alv gus, alv gos, rlv lo, rlv hi', alv rows, tsv ts, .bool (fun _ => c.neg), nat c.num, nat c.den, .osl 68 5 (fun _ => 0) (fun _ => s.2.2.length), .nil]), (68, .log 5 (fun _ => enc dc s.2.2))]⟩)
    (fun s => s.2.1 ≤ raw.length ∧ P = lF raw ⟨⟨(n : Int), gus, gos⟩, ⟨lo, hi', rows⟩, ⟨ts, c⟩⟩ n m s.1 s.2.2 s.2.1 ∧ PathOk n m s.2.2 ∧ s.2.2.length + s.1 ≤ 3) (fun s => s.1)
    (k0, a0, []) ⟨ak, hP', ⟨fun d hd => absurd hd (by simp)⟩, by show 0 + k0 ≤ 3; omega⟩
    (.trans (.le (ps' := ⟨[(2, .ptr 2 0), (3, .ptr 8 0), (4, .ptr 4 0), (5, .int .i64 (fun _ => (k0 : Int)))],
      [(2, .box [.int .i64 (fun _ => 0), .nil, .nil, .nil, .nil, .nil, .nil, .ff, .nil, .nil, .nil, .nil]), (8, .box [u8v raw, .int .i64 (fun _ => (a0 : Int))]),
       (4, .box [.int .i64 (fun _ => (n : Int)), alv gus, alv gos, rlv lo, rlv hi', alv rows, tsv ts, .bool (fun _ => c.neg), nat c.num, nat c.den, .nil, .nil])]⟩) okZ okZ rfl)
    (.trans (.adoptB (ps := ⟨[(2, .ptr 2 0), (3, .ptr 8 0), (4, .ptr 4 0), (5, .int .i64 (fun _ => (k0 : Int)))],
      [(2, .box [.int .i64 (fun _ => 0), .nil, .nil, .nil, .nil, .nil, .nil, .ff, .nil, .nil, .nil, .nil]), (8, .box [u8v raw, .int .i64 (fun _ => (a0 : Int))]),
       (4, .box [.int .i64 (fun _ => (n : Int)), alv gus, alv gos, rlv lo, rlv hi', alv rows, tsv ts, .bool (fun _ => c.neg), nat c.num, nat c.den, .nil, .nil])]⟩)
      (cs := [.int .i64 (fun _ => (n : Int)), alv gus, alv gos, rlv lo, rlv hi', alv rows, tsv ts, .bool (fun _ => c.neg), nat c.num, nat c.den, .nil, .nil]) 68 5 4 10 rfl rfl rfl)
    (.trans (.lend 68 5 rfl rfl trivial) (.le okZ ?_ rfl)))) ?_
  · cbv
    exact ⟨okA, okA, okA, zI rfl, trivial⟩
  clear c0 c1 c2 hP' ak b1 k4
  intro s hs
  obtain ⟨k, a, p⟩ := s
  obtain ⟨g1, g2, g3, g4⟩ := hs
  dsimp only at g1 g2 g3 g4
  cbv
  refine zG (fun h => ?_) (fun h => ?_)
  · obtain ⟨j, hj⟩ : ∃ j, k = j + 1 := ⟨k - 1, by (try dsimp only [zF] at *); omega⟩
    subst hj
    rw [zPZ] at g2
    have n1 := cN 4 a (by decide) (by decide) g1
    have hv := hN4 a
    have ha1 := hNl a g1
    generalize fdN raw 4 a = v at *
    generalize na raw a = a1 at *
    cbv
    refine y0 (fun _ => 8) (.refl _) rfl okA n1 ⟨⟨rfl, rfl⟩, trivial⟩ rfl rfl rfl rfl rfl rfl rfl rfl ?_
    cbv
    refine ⟨zD om om, ?_⟩
    cbv
    refine zQ (fun e1 => ?_) (fun e1 => ?_)
    · have h34 : 1 + v = 3 ∨ 1 + v = 4 := by (try dsimp only [zF] at *); omega
      rw [if_pos h34] at g2
      have q1 := cN n a1 oM oM ha1
      have ha2 := hNl a1 ha1
      have hi := hNn n a1 oM
      generalize fdN raw n a1 = i at *
      generalize na raw a1 = a2 at *
      have q2 := cQ a2 ha2
      have ha3 := hQl a2 ha2
      have hf := hQf a2
      generalize fdQ raw a2 = X at *
      obtain ⟨x, a3⟩ := X
      dsimp only at q2 ha3 hf g2
      obtain ⟨Y, hY⟩ : ∃ Y, zJ x = Y := ⟨_, rfl⟩
      rw [hY] at q2 g2
      cbv
      refine y0 (fun _ => 8) (.refl _) rfl okA q1 ⟨⟨rfl, rfl⟩, trivial⟩ rfl rfl rfl rfl rfl rfl rfl rfl ?_
      cbv
      refine y0 (fun _ => 8) (.refl _) rfl okA q2 ⟨⟨rfl, rfl⟩, trivial⟩ rfl rfl rfl rfl rfl rfl rfl rfl ?_
      cbv
      refine zIA zBP rfl rfl rfl (by simp [zA]) rfl ⟨by simp [zS, wB]⟩ (yD (by simp [zS] <;> omega) (by simp [zS, zA]; (try dsimp only [zF] at *); omega)) rfl ?_
      cbv
      refine ⟨zD om om, (j, a3, p ++ [⟨((1 + v : Nat) : Int), (i : Int), Y⟩]), ⟨ha3, g2, ⟨fun d hd => by
        rcases vX.1 hd with hd | hd
        · exact g3.d d hd
        · obtain rfl := vL.1 hd
          exact .inr ⟨by show ((1 + v : Nat) : Int) = 3 ∨ ((1 + v : Nat) : Int) = 4; omega, by show (0 : Int) ≤ (i : Int); omega, by show (i : Int) < n; omega, x, hf, hY.symm⟩⟩, by show (p ++ [_]).length + j ≤ 3; simp; omega⟩, (by show j < j + 1; omega), .le okZ ?_ rfl⟩
      cbv
      refine ⟨okA, okA, ⟨lR, lR, lR, lR, lR, lR, lR, lR, lR, lR, yC rfl (by simp [zS, zA]), lR, trivial⟩, zI ?_, trivial⟩
      rw [← cW]
      rfl
    cbv
    refine zG (fun e2 => ?_) (fun e2 => ?_)
    · have h34 : 1 + v = 3 ∨ 1 + v = 4 := by (try dsimp only [zF] at *); omega
      rw [if_pos h34] at g2
      have q1 := cN n a1 oM oM ha1
      have ha2 := hNl a1 ha1
      have hi := hNn n a1 oM
      generalize fdN raw n a1 = i at *
      generalize na raw a1 = a2 at *
      have q2 := cQ a2 ha2
      have ha3 := hQl a2 ha2
      have hf := hQf a2
      generalize fdQ raw a2 = X at *
      obtain ⟨x, a3⟩ := X
      dsimp only at q2 ha3 hf g2
      obtain ⟨Y, hY⟩ : ∃ Y, zJ x = Y := ⟨_, rfl⟩
      rw [hY] at q2 g2
      cbv
      refine y0 (fun _ => 8) (.refl _) rfl okA q1 ⟨⟨rfl, rfl⟩, trivial⟩ rfl rfl rfl rfl rfl rfl rfl rfl ?_
      cbv
      refine y0 (fun _ => 8) (.refl _) rfl okA q2 ⟨⟨rfl, rfl⟩, trivial⟩ rfl rfl rfl rfl rfl rfl rfl rfl ?_
      cbv
      refine zIA zBP rfl rfl rfl (by simp [zA]) rfl ⟨by simp [zS, wB]⟩ (yD (by simp [zS] <;> omega) (by simp [zS, zA]; (try dsimp only [zF] at *); omega)) rfl ?_
      cbv
      refine ⟨zD om om, (j, a3, p ++ [⟨((1 + v : Nat) : Int), (i : Int), Y⟩]), ⟨ha3, g2, ⟨fun d hd => by
        rcases vX.1 hd with hd | hd
        · exact g3.d d hd
        · obtain rfl := vL.1 hd
          exact .inr ⟨by show ((1 + v : Nat) : Int) = 3 ∨ ((1 + v : Nat) : Int) = 4; omega, by show (0 : Int) ≤ (i : Int); omega, by show (i : Int) < n; omega, x, hf, hY.symm⟩⟩, by show (p ++ [_]).length + j ≤ 3; simp; omega⟩, (by show j < j + 1; omega), .le okZ ?_ rfl⟩
      cbv
      refine ⟨okA, okA, ⟨lR, lR, lR, lR, lR, lR, lR, lR, lR, lR, yC rfl (by simp [zS, zA]), lR, trivial⟩, zI ?_, trivial⟩
      rw [← cW]
      rfl
    have h34 : ¬ (1 + v = 3 ∨ 1 + v = 4) := by (try dsimp only [zF] at *); omega
    rw [if_neg h34] at g2
    cbv
    refine zG (fun e3 => ?_) (fun e3 => ?_)
    · have hm : m = 0 := by simp only [zA] at e3; (try dsimp only [zF] at *); omega
      rw [if_pos hm] at g2
      cbv
      exact ⟨zD om om, (j, a1, p), ⟨ha1, g2, g3, by show p.length + j ≤ 3; omega⟩, (by show j < j + 1; omega), wkZ⟩
    have hm : m ≠ 0 := by simp only [zA] at e3; (try dsimp only [zF] at *); omega
    rw [if_neg hm] at g2
    have q1 := cN m a1 oM oM ha1
    have ha2 := hNl a1 ha1
    have hi := hNn m a1 oM
    generalize fdN raw m a1 = i at *
    generalize na raw a1 = a2 at *
    have d1 := cD p 1 (i : Int) g3 oM
    have d2 := cD p 2 (i : Int) g3 oM
    generalize hx1 : (⟨⟨⟨(n : Int), gus, gos⟩, ⟨lo, hi', rows⟩, ⟨ts, c⟩⟩, p, []⟩ : Scp).dcd 1 (i : Int) = x1 at *
    generalize hx2 : (⟨⟨⟨(n : Int), gus, gos⟩, ⟨lo, hi', rows⟩, ⟨ts, c⟩⟩, p, []⟩ : Scp).dcd 2 (i : Int) = x2 at *
    clear hx1 hx2
    cbv
    refine y0 (fun _ => 8) (.refl _) rfl (by exact ⟨lR, zC (by simp [zA, hq2]), trivial⟩) q1 ⟨⟨rfl, rfl⟩, trivial⟩ rfl rfl rfl rfl rfl rfl rfl rfl ?_
    cbv
    have hsl : ∀ q : List Dec, ((enc dc q).drop 0).take q.length = enc dc q := fun q => by rw [wC, yS (by simp [zA])]
    refine kQ (.lend 68 54 rfl rfl ?_) rfl ?_ d1 rfl ?_
    · cbv
      repeat' first | exact trivial | exact z8 (by simp [zA]) | apply And.intro
    · cbv
      exact ⟨⟨lR, lR, lR, lR, lR, lR, lR, lR, lR, lR, zR (hsl p), yW rfl, trivial⟩, lR, lR, trivial⟩
    cbv
    refine z7 (fun e4 => ?_) (fun e4 => ?_)
    · rw [if_pos (.inl e4)] at g2
      cbv
      exact ⟨zD om om, (j, a2, p), ⟨ha2, g2, g3, by show p.length + j ≤ 3; omega⟩, (by show j < j + 1; omega), wkZ⟩
    cbv
    refine kQ (.lend 68 59 rfl rfl ?_) rfl ?_ d2 rfl ?_
    · cbv
      repeat' first | exact trivial | exact z8 (by simp [zA]) | apply And.intro
    · cbv
      exact ⟨⟨lR, lR, lR, lR, lR, lR, lR, lR, lR, lR, zR (hsl p), yW rfl, trivial⟩, lR, lR, trivial⟩
    cbv
    refine zP (fun e5 => ?_) (fun e5 => ?_)
    · rw [if_pos (.inr e5)] at g2
      cbv
      exact ⟨zD om om, (j, a2, p), ⟨ha2, g2, g3, by show p.length + j ≤ 3; omega⟩, (by show j < j + 1; omega), wkZ⟩
    rw [if_neg (by rw [e4, e5]; simp)] at g2
    cbv
    refine zIA zBP rfl rfl rfl (by simp [zA]) rfl ⟨by simp [zS, wB]⟩ (yD (by simp [zS] <;> omega) (by simp [zS, zA]; (try dsimp only [zF] at *); omega)) rfl ?_
    cbv
    refine ⟨zD om om, (j, a2, p ++ [⟨((1 + v : Nat) : Int), (i : Int), R0⟩]), ⟨ha2, g2, ⟨fun d hd => by
      rcases vX.1 hd with hd | hd
      · exact g3.d d hd
      · obtain rfl := vL.1 hd
        exact .inl ⟨by show ((1 + v : Nat) : Int) = 1 ∨ ((1 + v : Nat) : Int) = 2; (try dsimp only [zF] at *); omega, by show (0 : Int) ≤ (i : Int); omega, by show (i : Int) < m; omega, rfl⟩⟩, by show (p ++ [_]).length + j ≤ 3; simp; omega⟩, (by show j < j + 1; omega), .le okZ ?_ rfl⟩
    cbv
    refine ⟨okA, okA, ⟨lR, lR, lR, lR, lR, lR, lR, lR, lR, lR, yC rfl (by simp [zS, zA]), lR, trivial⟩, zI ?_, trivial⟩
    rw [← cW]
    rfl
  · have hk : k = 0 := om
    subst hk
    rw [zPY] at g2
    subst g2
    cbv
    refine tB ⟨[(2, .ptr 2 0)], [(2, .box [.int .i64 (fun _ => (n : Int)), alv gus, alv gos, rlv lo, rlv hi', alv rows, tsv ts, .bool (fun _ => c.neg), nat c.num, nat c.den, dlv P, .nil])]⟩ (.trans (.le (ps' := ⟨[(2, .ptr 2 0)], [(2, .box [.int .i64 (fun _ => (n : Int)), alv gus, alv gos, rlv lo, rlv hi', alv rows, tsv ts, .bool (fun _ => c.neg), nat c.num, nat c.den, .osl 68 5 (fun _ => 0) (fun _ => P.length), .nil]), (68, .log 5 (fun _ => enc dc P))]⟩) okZ ?_ rfl) (.trans (.frz 68 rfl rfl (by cbv; repeat' first | exact trivial | exact z8 (by simp [zA]) | apply And.intro) (by cbv; repeat' first | exact trivial | exact z8 (by simp [zA]) | apply And.intro)) (.le okZ ?_ rfl))) rfl ?_
    · cbv
      exact ⟨okA, zI rfl, trivial⟩
    · cbv
      exact ⟨⟨lR, lR, lR, lR, lR, lR, lR, lR, lR, lR, zR (by rw [wC, yS (by simp [zA])]), lR, trivial⟩, trivial⟩
    · cbv
      exact okA
end Go.Proofs.YtaeaffgjdcigoaaGreat
