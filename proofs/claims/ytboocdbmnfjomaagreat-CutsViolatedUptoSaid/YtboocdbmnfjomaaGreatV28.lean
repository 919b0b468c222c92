/- A part of the proof: FdA, FdB, FdC. -/
import Derived.Test.YtboocdbmnfjomaaGreatV26
import Derived.Test.YtboocdbmnfjomaaGreatV27
set_option linter.all false
namespace Go.Proofs.YtboocdbmnfjomaaGreat
open Go
set_option maxRecDepth 100000
set_option maxHeartbeats 4000000
def u8c (b:UInt8):List PV:=[.int .u8 (λ_=>(b.toNat:Int))]
def Dh (b:UInt8):yX qT (u8c b)=true:=rfl
def HG (b:UInt8):(u8c b).length=1:=rfl
abbrev u8v (raw:List UInt8):PV:=.sl (λ_=>enc u8c raw)
abbrev fdo (raw:List UInt8) (a:Nat):List (Nat×Obj'):=[(1000000,.box [u8v raw,iV a])]
def aA (raw:List UInt8)(a n:Nat)(hr:raw.length<2^38)(hn:0<n)(hn2:n<2^60)(ha:a<=raw.length):Sound 74 [.ptr 1000000 0,iV n] (fdo raw a) [] (iV ((fdN raw n a:Int))) (fdo raw (na raw a)) []:=by
 refine sF Tryz.f74 ?_;have h0:¬a<raw.length->fdN raw n a=0:=λh=>by unfold fdN;grind
 have h1:∀ x,raw[a]?=some x->fdN raw n a=x.toNat%n:=λx h=>by grind [fdN]
 have n0:¬a<raw.length->na raw a=a:=λh=>if_neg h;have n1:a<raw.length->na raw a=a+1:=λh=>if_pos h;generalize fdN raw n a=r at *;generalize na raw a=b at *;cbv;refine zP 10 (by cbv) ?_;cbv;refine zG (λh=>?_) (λh=>?_)
 ·(have hlt:¬a<raw.length:=by rw[zB] at h;exact om);have e1:=h0 hlt
  have e2:=n0 hlt;cbv;subst e1 e2;exact tT rfl (lR) rfl rfl rfl rfl
 ·(have hlt:a<raw.length:=by rw[zB] at h;exact om);obtain⟨x,hx⟩:=yB hlt
  (have e1:=h1 x hx;have e2:=n1 hlt;cbv;refine⟨zE om om,?_⟩;cbv;refine zP 15 (by cbv) ?_;cbv;refine⟨zE om om,wB (l:=raw) a om hlt Dh HG (λx' hx'=>?_)⟩;obtain rfl:x'=x:=by grind);have hx8:=x'.toNat_lt
  cbv;refine⟨kN om,?_⟩;cbv;refine Xt (.le (ps':=⟨[(4,iV r)],[(1000000,.box [u8v raw,iV b])]⟩) ?_ ?_ rfl) rfl (lR) rfl rfl rfl rfl;{cbv;refine⟨zF ?_,trivial⟩;show irem (nx .i64 (x'.toNat:Int)) (n:Int)=_;unfold irem nx;rw[show IntKind.wrap .i64 (x'.toNat:Int)=(x'.toNat:Int) by grind [IntKind.wrap,IntKind.bits],e1];grind};{cbv;exact⟨⟨lR,zF om,trivial⟩,trivial⟩}
def FP {k:Nat}(h:k<4):(k=0/\dnm k=1)\/(k=1/\dnm k=1)\/(k=2/\dnm k=2)\/(k=3/\dnm k=4):=by
 match k,h with
 |0,_=>exact .inl ⟨rfl,rfl⟩| 1,_=>exact .inr (.inl ⟨rfl,rfl⟩)| 2,_=>exact .inr (.inr (.inl ⟨rfl,rfl⟩))| 3,_=>exact .inr (.inr (.inr ⟨rfl,rfl⟩))
def JU (raw:List UInt8)(a:Nat)(hr:raw.length<2^38)(ha:a<=raw.length):Sound 75 [.ptr 1000000 0] (fdo raw a) [] (rv (zK (fdQ raw a).1)) (fdo raw (fdQ raw a).2) []:=by refine sF Tryz.f75 ?_;have c9:=aA raw a 9 hr (by decide) (by decide) ha;have c4:=aA raw (na raw a) 4 hr (by decide) (by decide) (dZ ha);have h9:fdN raw 9 a<9:=j9 (by decide);have h4:fdN raw 4 (na raw a)<4:=j9 (by decide);have hd:=FP h4;have hp:=Gz (fdN raw 4 (na raw a));have cf:=s43 ((fdN raw 9 a:Int)-4) (dnm (fdN raw 4 (na raw a))) oM oM oM oM oM;have e1:(fdQ raw a).1=ZO ((fdN raw 9 a:Int)-4) (dnm (fdN raw 4 (na raw a))):=rfl;have e2:(fdQ raw a).2=na raw (na raw a):=rfl;rw[e1,e2];show wp _ _ (gT _ (rv (zK (ZO ((fdN raw 9 a:Int)-4) (dnm (fdN raw 4 (na raw a)))))) (fdo raw (na raw (na raw a))) []);generalize zK (ZO ((fdN raw 9 a:Int)-4) (dnm (fdN raw 4 (na raw a))))=X at *;generalize dnm (fdN raw 4 (na raw a))=d at *;generalize fdN raw 9 a=k9 at *;generalize fdN raw 4 (na raw a)=k4 at *;generalize na raw (na raw a)=b2 at *;generalize na raw a=b1 at *;clear e1 e2 hp;cbv;refine kA (λ_=>1000000) c9 ?_;cbv;refine⟨zE om om,?_⟩;cbv;refine kA (λ_=>1000000) c4 ?_;rcases hd with⟨q1,q2⟩|⟨q1,q2⟩|⟨q1,q2⟩|⟨q1,q2⟩;{subst q1 q2;cbv;refine bQ 0 rfl (by decide) ?_;cbv;refine cA cf ?_;cbv;exact Ya (.refl _) rfl rfl rfl rfl (by cbv;exact okA)};{subst q1 q2;cbv;refine bQ 1 rfl (by decide) ?_;cbv;refine cA cf ?_;cbv;exact Ya (.refl _) rfl rfl rfl rfl (by cbv;exact okA)};{subst q1 q2;cbv;refine bQ 2 rfl (by decide) ?_;cbv;refine cA cf ?_;cbv;exact Ya (.refl _) rfl rfl rfl rfl (by cbv;exact okA)};{subst q1 q2;cbv;refine bQ 3 rfl (by decide) ?_;cbv;refine cA cf ?_;cbv;exact Ya (.refl _) rfl rfl rfl rfl (by cbv;exact okA)}
def Ho {raw:List UInt8}{n v:Nat}{f:F}{a:Nat}(h:¬0<fdN raw 3 a):iU raw (n+1) v f a=iU raw n (v+1) f (na raw a):=if_neg h
def Hn {raw:List UInt8}{n v:Nat}{f:F}{a:Nat}(h:0<fdN raw 3 a):iU raw (n+1) v f a=iU raw n (v+1) (f.add ((F.var v).scale (fdQ raw (na raw a)).1)) (fdQ raw (na raw a)).2:=if_pos h
def UC (raw:List UInt8)(n a:Nat)(hr:raw.length<2^38)(ha:a<=raw.length)(hn:n<=100):Sound 119 [.ptr 1000000 0,iV n] (fdo raw a) [] (fv (fdF raw n a).1) (fdo raw (fdF raw n a).2) []:=by
 refine sF Tryz.f119 ?_;have cq:∀ b,b<=raw.length->Sound 75 [.ptr 1000000 0] (fdo raw b) [] (rv (zK (fdQ raw b).1)) (fdo raw (fdQ raw b).2) []:=λb hb=>JU raw b hr hb;have c3:∀ b,b<=raw.length->Sound 74 [.ptr 1000000 0,iV 3] (fdo raw b) [] (iV ((fdN raw 3 b:Int))) (fdo raw (na raw b)) []:=λb hb=>aA raw b 3 hr (by decide) (by decide) hb;have hna:∀ b,b<=raw.length->na raw b<=raw.length:=λb hb=>dZ hb;have hq2:∀ b,b<=raw.length->(fdQ raw b).2<=raw.length:=λb hb=>iT hb;have hd:fdF raw n a=iU raw n 0 (F.num (fdQ raw a).1) (fdQ raw a).2:=rfl;show wp _ _ (gT _ (av (fA (fdF raw n a).1)) (fdo raw (fdF raw n a).2) []);generalize fdF raw n a=R at *;obtain⟨W,hW⟩:=ex (fA R.1);rw[hW];obtain⟨X0,hX0⟩:=ex (zK (fdQ raw a).1);have cq0:Sound 75 [.ptr 1000000 0] (fdo raw a) [] (rv X0) (fdo raw (fdQ raw a).2) []:=by subst hX0;grind
 cbv;refine kA (λ_=>1000000) cq0 ?_;cbv;refine zY (σ:=Nat×Nat×F) (λs=>⟨[(0,.ptr 1000000 0),(1,iV n),(4,.ptr 4 0),(5,.ptr 5 0),(6,iV s.1)],
   [(1000000,.box [u8v raw,iV s.2.1]),(4,.box [.nil,.ff,.nil,.nil]),(5,.box [.sl (λ_=>enc tc (fA s.2.2).ts),zM ((fA s.2.2).c.neg),.sl (λ_=>lm (fA s.2.2).c.num),.sl (λ_=>lm (fA s.2.2).c.den)])]⟩)
  (λs=>s.1<=n/\s.2.1<=raw.length/\R=iU raw (n-s.1) s.1 s.2.2 s.2.1/\s.2.2.wf s.1/\s.2.2.fl (1+6*s.1) s.1) (λs=>n-s.1)
  (0,(fdQ raw a).2,F.num (fdQ raw a).1) ⟨by omega,hq2 a ha,hd,F.wf.num _ _,(j6 (jQ raw a)).mono oM oM⟩ (.le ?_ ?_ rfl) ?_
 {cbv;exact okA};{cbv;subst hX0;exact okA};clear hd cq0 hX0;intro s hs;obtain⟨v,b,f⟩:=s;obtain⟨g1,g2,g3,g4,g5⟩:=hs;dsimp only at g1 g2 g3 g4 g5;cbv;refine zG (λh=>?_) (λh=>?_)
 ·have hv:v<n:=om;rw[show n-v=(n-(v+1))+1 by omega] at g3;have c3':=c3 b g2;generalize hk3:fdN raw 3 b=k3 at *;cbv;refine kA (λ_=>1000000) c3' ?_;cbv;refine zG (λh2=>?_) (λh2=>?_)
  ·(rw[Hn (by rw[hk3];exact om)] at g3;have hq:=jQ raw (na raw b);have hb':=hq2 (na raw b) (hna b g2);have cn:=cq (na raw b) (hna b g2);have csc:=pT (f:=F.var v) (gR v) hq (by decide) (by decide) (by decide);have w2:((F.var v).scale (fdQ raw (na raw b)).1).wf ((v+1:Nat):Int):=(F.wf.var oM oM).scale;have l2:((F.var v).scale (fdQ raw (na raw b)).1).fl (1+1+2) 1:=(gR v).scale hq;have cad:=Rd g4.cn w2.cn g5 l2 oM oM oM oM;have w3:=(g4.mono (by omega:(v:Int)<=((v+1:Nat):Int))).add w2;have l3:=(g5.add l2).mono (k':=1+6*(v+1)) (n':=v+1) oM oM;generalize (fdQ raw (na raw b)).2=b' at *;generalize (fdQ raw (na raw b)).1=q at *;generalize hS:(F.var v).scale q=S at *;generalize hT:f.add S=T at *;obtain⟨V,hV⟩:=ex (fA (F.var v));obtain⟨S',hS'⟩:=ex (fA S);obtain⟨T',hT'⟩:=ex (fA T);obtain⟨X,hX⟩:=ex (zK q);obtain⟨f',hf'⟩:=ex (fA f);have d1:zH 22 [iV v] (av V):=by subst hV;exact Zu v);have d2:zH 24 [av V,rv X] (av S'):=by subst hV hX hS';exact csc
   (have d3:zH 148 [av f',av S'] (av T'):=by subst hf' hS' hT';exact cad);have d4:Sound 75 [.ptr 1000000 0] (fdo raw (na raw b)) [] (rv X) (fdo raw b') []:=by simp_all
   rw[hf'];clear hV hX hS' csc cad cn;cbv;refine uB 6 [(4,1000000)] (by cbv) (by cbv) (by cbv) ?_;cbv;refine dA d1 ?_;cbv;refine Wu (λ_=>1000000) rfl okA d4 rfl rfl rfl rfl rfl rfl ?_;cbv;refine dA d2 ?_;cbv;refine cA d3 ?_;cbv;refine⟨zE om om,(v+1,b',T),⟨om,hb',g3,w3,l3⟩,om,.le okZ ?_ rfl⟩;subst hT';exact okZ
  {rw[Ho (by rw[hk3];exact om)] at g3;have hb':=hna b g2;generalize na raw b=b' at *;cbv;exact⟨zE om om,(v+1,b',f),⟨om,hb',g3,g4.mono (by grind),g5.mono oM oM⟩,oM,wkZ⟩}
 ·(have hv:v=n:=om;have hR:R=(f,b):=by rw[g3,show n-v=0 by omega];rfl);subst hR
  have hW':fA f=W:=hW;cbv;subst hW';exact Ya (.refl _) rfl rfl rfl rfl (by cbv;exact okA)
def Mi:ty 22=.sli 1 1 [.int .u8 (λ_=>0)]:=by cbv
def JD:ty 32=.sli 4 80 [.nil,.ff,.nil,.nil]:=by cbv
def Dk:ty 35=.sli 3 56 [.ff,.nil,.nil]:=by cbv
def PG (raw:List UInt8)(hr:raw.length<2^38):Sound 72 [u8v raw] [] [] (.ptr 100 0) [] [(100,.box [u8v raw,iV (((0:Nat):Int))])]:=by
 refine sF Tryz.f72 ?_;cbv;refine WP Mi rfl rfl rfl rfl rfl rfl (wD HG _) (zV oM (by grind [zB])) rfl ?_;cbv;refine Z9 7 (.trans (.frz 5 rfl rfl ?_ ?_) (.le (ps':=⟨[(2,.ptr 7 0)],[(7,.box [u8v raw,iV (((0:Nat):Int))])]⟩) ?_ ?_ rfl)) rfl rfl rfl ?_
 ·cbv
  repeat' first|exact trivial|exact z6 (by simp[zB])|apply And.intro
 ·cbv
  repeat' first|exact trivial|exact z6 (by simp[zB])|apply And.intro
 {exact okZ};{cbv;exact⟨⟨zU (yU (by grind)),lR,trivial⟩,trivial⟩};{cbv;exact lR}
def Wl (raw:List UInt8)(d k v a:Nat):fdL raw d (k+1) v a=((fdF raw v a).1::(fdL raw d k (v+d) (fdF raw v a).2).1,(fdL raw d k (v+d) (fdF raw v a).2).2):=rfl
def Wj (raw:List UInt8)(d v a:Nat):fdL raw d 0 v a=([],a):=rfl
def bN {α:Type}(p:α->List PV)(l:List α)(a:α):enc p l++zI [p a]=enc p (l++[a]):=by rw[<-z3];rfl
def D3 (raw:List UInt8)(a:Nat)(hr:raw.length<2^38)(ha:a<=raw.length):Sound 117 [.ptr 1000000 0] (fdo raw a) [] (gv (fdG raw a).1.g) (fdo raw (fdG raw a).2) []:=by
 refine sF Tryz.f117 ?_;have c1:=aA raw a 3 hr (by decide) (by decide) ha;have c2:=aA raw (na raw a) 5 hr (by decide) (by decide) (dZ ha);have c3:=aA raw (na raw (na raw a)) 3 hr (by decide) (by decide) (dZ (dZ ha));have cF:∀ (v b:Nat),b<=raw.length->v<=100->Sound 119 [.ptr 1000000 0,iV v] (fdo raw b) [] (fv (fdF raw v b).1) (fdo raw (fdF raw v b).2) []:=λv b h1 h2=>UC raw v b hr h1 h2;have hFl:∀ (v b:Nat),b<=raw.length->(fdF raw v b).2<=raw.length:=λv b h=>Qg h;have l1:fdN raw 3 a<3:=j9 (by decide);have l2:fdN raw 5 (na raw a)<5:=j9 (by decide);have l3:fdN raw 3 (na raw (na raw a))<3:=j9 (by decide);have hb3:na raw (na raw (na raw a))<=raw.length:=dZ (dZ (dZ ha));have hG:fdG raw a=(⟨1+fdN raw 3 a,(fdL raw 1 (fdN raw 5 (na raw a)) (1+fdN raw 3 a) (na raw (na raw (na raw a)))).1,(fdL raw 0 (1+fdN raw 3 (na raw (na raw a))) (1+fdN raw 3 a+fdN raw 5 (na raw a)) (fdL raw 1 (fdN raw 5 (na raw a)) (1+fdN raw 3 a) (na raw (na raw (na raw a)))).2).1⟩,(fdL raw 0 (1+fdN raw 3 (na raw (na raw a))) (1+fdN raw 3 a+fdN raw 5 (na raw a)) (fdL raw 1 (fdN raw 5 (na raw a)) (1+fdN raw 3 a) (na raw (na raw (na raw a)))).2).2):=rfl;rw[hG];clear hG;generalize na raw (na raw (na raw a))=b3 at *;generalize na raw (na raw a)=b2 at *;generalize na raw a=b1 at *;generalize fdN raw 3 a=x1 at *;generalize fdN raw 5 b1=x2 at *;generalize fdN raw 3 b2=x3 at *;obtain⟨U,hU⟩:=ex (fdL raw 1 x2 (1+x1) b3);obtain⟨O,hO⟩:=ex (fdL raw 0 (1+x3) (1+x1+x2) U.2);rw[hU,hO];have hUl:U.1.length=x2:=by grind [aL]
 have hOl:O.1.length=1+x3:=by grind [aL]
 obtain⟨UA,hUA⟩:=ex (U.1.map fA);obtain⟨OA,hOA⟩:=ex (O.1.map fA);obtain⟨bO,hbO⟩:=ex O.2;have hgoal:gv (⟨1+x1,U.1,O.1⟩:FGrp).g=.agg [iV (((1+x1:Nat):Int)),alv UA,alv OA]:=by rw[<-hUA,<-hOA];rfl
 show wp _ _ (gT _ (gv (⟨1+x1,U.1,O.1⟩:FGrp).g) (fdo raw O.2) []);rw[hgoal,hbO];clear hgoal;cbv;refine kA (λ_=>1000000) c1 ?_;cbv;refine⟨zE om om,?_⟩;cbv;refine kA (λ_=>1000000) c2 ?_;cbv;refine kA (λ_=>1000000) c3 ?_;cbv;refine⟨zE om om,?_⟩;cbv;refine zY (σ:=Nat×Nat×List F) (λs=>⟨[(0,.ptr 1000000 0),(2,.ptr 2 0),(3,.ptr 3 0),(4,iV x2),(5,iV (((1+x3:Nat):Int))),(6,iV s.1)],
   [(1000000,.box [u8v raw,iV s.2.1]),(2,.box [iV 0,.nil,.nil]),(3,.box [iV (((1+x1:Nat):Int)),zT 31 4 s.2.2.length,.nil]),(31,zW 4 (enc ac (s.2.2.map fA)))]⟩)
  (λs=>s.1<=x2/\s.2.1<=raw.length/\U.1=s.2.2++(fdL raw 1 (x2-s.1) (1+x1+s.1) s.2.1).1/\U.2=(fdL raw 1 (x2-s.1) (1+x1+s.1) s.2.1).2) (λs=>x2-s.1)
  (0,b3,[]) ⟨by omega,hb3,by grind,by grind⟩
  (.trans (.le (ps':=⟨[(0,.ptr 1000000 0),(2,.ptr 2 0),(3,.ptr 3 0),(4,iV x2),(5,iV (((1+x3:Nat):Int))),(6,iV (((0:Nat):Int)))],
    [(1000000,.box [u8v raw,iV b3]),(2,.box [iV 0,.nil,.nil]),(3,.box [iV (((1+x1:Nat):Int)),.nil,.nil])]⟩) okZ okZ rfl)
   (.trans (.adoptB (ps:=⟨[(0,.ptr 1000000 0),(2,.ptr 2 0),(3,.ptr 3 0),(4,iV x2),(5,iV (((1+x3:Nat):Int))),(6,iV (((0:Nat):Int)))],
    [(1000000,.box [u8v raw,iV b3]),(2,.box [iV 0,.nil,.nil]),(3,.box [iV (((1+x1:Nat):Int)),.nil,.nil])]⟩) (cs:=[iV (((1+x1:Nat):Int)),.nil,.nil]) 31 4 3 1 rfl rfl rfl) (.le okZ ?_ rfl))) ?_
 {cbv;exact⟨okA,okA,okA,zC rfl,trivial⟩};intro s hs;obtain⟨j,b,us⟩:=s;obtain⟨g1,g2,g3,g4⟩:=hs;dsimp only at g1 g2 g3 g4;cbv;refine zG (λh=>?_) (λh=>?_)
 ·(have hj:j<x2:=om;rw[show x2-j=(x2-(j+1))+1 by omega,Wl] at g3 g4;have cf:=cF (1+x1+j) b g2 oM;have hb':=hFl (1+x1+j) b g2;generalize hFF:fdF raw (1+x1+j) b=FF at *;obtain⟨W,hW⟩:=ex (fA FF.1);obtain⟨b',hbb⟩:=ex FF.2;have d1:Sound 119 [.ptr 1000000 0,iV (((1+x1+j:Nat):Int))] (fdo raw b) [] (av W) (fdo raw b') []:=by simp_all);rw[hbb] at g3 g4 hb'
  clear cf;cbv;refine uB 9 [(7,1000000)] (by cbv) (by cbv) (by cbv) ?_;cbv;refine⟨zE om om,?_⟩;cbv;refine Wu (λ_=>1000000) rfl (by exact⟨lR,zF om,trivial⟩) d1 rfl rfl rfl rfl rfl rfl ?_;cbv;refine xT JD rfl rfl rfl (by simp[zB]) rfl ⟨by simp[zI,y7]⟩ (zV oM (by have hus:us.length<x2:=(by have:=congrArg List.length g3;rw[hUl] at this;simp at this;omega);simp[zI,zB];exact om)) rfl ?_;cbv;refine⟨zE om om,(j+1,b',us++[FF.1]),⟨om,hb',by rw[g3];simp[m9],by rw[g4];simp[m9]⟩,oM,.le okZ ?_ rfl⟩;cbv;refine⟨okA,okA,⟨lR,zR rfl (by simp[zI,zB]),lR,trivial⟩,zC ?_,trivial⟩;subst hW;show enc ac (us.map fA)++zI [ac (fA FF.1)]=enc ac ((us++[FF.1]).map fA);rw[bN,qS];rfl
 have hj:j=x2:=om;subst hj;rw[iA,Wj] at g3 g4;have e1:U.1=us:=by grind
 have e2:U.2=b:=g4;have hul:us.length=j:=by grind
 have hUAs:us.map fA=UA:=by grind
 rw[e2] at hO;clear g3 g4 h hU hUA e1 e2;cbv;refine zY (σ:=Nat×Nat×List F) (λs=>⟨[(0,.ptr 1000000 0),(2,.ptr 2 0),(3,.ptr 3 0),(4,iV j),(5,iV (((1+x3:Nat):Int))),(7,iV s.1)],
   [(1000000,.box [u8v raw,iV s.2.1]),(2,.box [iV 0,.nil,.nil]),(3,.box [iV (((1+x1:Nat):Int)),alv UA,zT 47 4 s.2.2.length]),(47,zW 4 (enc ac (s.2.2.map fA)))]⟩)
  (λs=>s.1<=1+x3/\s.2.1<=raw.length/\O.1=s.2.2++(fdL raw 0 (1+x3-s.1) (1+x1+j) s.2.1).1/\O.2=(fdL raw 0 (1+x3-s.1) (1+x1+j) s.2.1).2) (λs=>1+x3-s.1)
  (0,b,[]) ⟨by omega,g2,by grind,by grind⟩
  (.trans (.frz 31 rfl rfl (by cbv;repeat' first|exact trivial|exact z6 (by simp[zB])|apply And.intro) (by cbv;repeat' first|exact trivial|exact z6 (by simp[zB])|apply And.intro))
   (.trans (.le (ps':=⟨[(0,.ptr 1000000 0),(2,.ptr 2 0),(3,.ptr 3 0),(4,iV j),(5,iV (((1+x3:Nat):Int))),(7,iV (((0:Nat):Int)))],
    [(1000000,.box [u8v raw,iV b]),(2,.box [iV 0,.nil,.nil]),(3,.box [iV (((1+x1:Nat):Int)),alv UA,.nil])]⟩) okZ ?_ rfl)
   (.trans (.adoptB (ps:=⟨[(0,.ptr 1000000 0),(2,.ptr 2 0),(3,.ptr 3 0),(4,iV j),(5,iV (((1+x3:Nat):Int))),(7,iV (((0:Nat):Int)))],
    [(1000000,.box [u8v raw,iV b]),(2,.box [iV 0,.nil,.nil]),(3,.box [iV (((1+x1:Nat):Int)),alv UA,.nil])]⟩) (cs:=[iV (((1+x1:Nat):Int)),alv UA,.nil]) 47 4 3 2 rfl rfl rfl) (.le okZ ?_ rfl)))) ?_
 {cbv;exact⟨okA,okA,⟨lR,zU (by rw[vS,yU (by simp[zB]),hUAs]),lR,trivial⟩,trivial⟩};{cbv;exact⟨okA,okA,okA,zC rfl,trivial⟩};clear g2 hUAs hul;intro s hs;obtain⟨i,b,os⟩:=s;obtain⟨g1',g2,g3,g4⟩:=hs;dsimp only at g1' g2 g3 g4;cbv;refine zG (λh=>?_) (λh=>?_)
 ·(have hi:i<1+x3:=om;rw[show 1+x3-i=(1+x3-(i+1))+1 by omega,Wl] at g3 g4;have cf:=cF (1+x1+j) b g2 oM;have hb':=hFl (1+x1+j) b g2;generalize hFF:fdF raw (1+x1+j) b=FF at *;obtain⟨W,hW⟩:=ex (fA FF.1);obtain⟨b',hbb⟩:=ex FF.2;have d1:Sound 119 [.ptr 1000000 0,iV (((1+x1+j:Nat):Int))] (fdo raw b) [] (av W) (fdo raw b') []:=by subst hW hbb;exact cf);rw[hbb] at g3 g4 hb'
  clear cf;cbv;refine uB 9 [(7,1000000)] (by cbv) (by cbv) (by cbv) ?_;cbv;refine⟨zE om om,?_⟩;cbv;refine Wu (λ_=>1000000) rfl (by exact⟨lR,zF om,trivial⟩) d1 rfl rfl rfl rfl rfl rfl ?_;cbv;refine xT JD rfl rfl rfl (by simp[zB]) rfl ⟨by simp[zI,y7]⟩ (zV (by simp[zI] <;> omega) (by have hos:os.length<1+x3:=(by have:=congrArg List.length g3;rw[hOl] at this;simp at this;omega);simp[zI,zB];exact om)) rfl ?_;cbv;refine⟨zE om om,(i+1,b',os++[FF.1]),⟨om,hb',by rw[g3];simp[m9],by rw[g4];simp[m9]⟩,(by show 1+x3-(i+1)<1+x3-i;omega),.le okZ ?_ rfl⟩;cbv;refine⟨okA,okA,⟨lR,lR,zR rfl (by simp[zI,zB]),trivial⟩,zC ?_,trivial⟩;subst hW;show enc ac (os.map fA)++zI [ac (fA FF.1)]=enc ac ((os++[FF.1]).map fA);rw[bN,qS];rfl
 ·(have hi:i=1+x3:=om;subst hi;rw[iA,Wj] at g3 g4;have e1:O.1=os:=by grind);have e2:O.2=b:=g4
  (have e3:os.map fA=OA:=by grind);have e4:b=bO:=by omega
  subst e4;cbv;refine Ya (.trans (.le (ps':=⟨[(2,.ptr 2 0)],[(1000000,.box [u8v raw,iV b]),(2,.box [iV (((1+x1:Nat):Int)),alv UA,zT 47 4 os.length]),(47,zW 4 (enc ac (os.map fA)))]⟩) okZ ?_ rfl) (.frz 47 rfl rfl (by cbv;repeat' first|exact trivial|exact z6 (by simp[zB])|apply And.intro) (by cbv;repeat' first|exact trivial|exact z6 (by simp[zB])|apply And.intro))) rfl rfl rfl rfl ?_;{cbv;exact⟨okA,okA,zC rfl,trivial⟩};{cbv;exact⟨lR,lR,zU (by rw[vS,yU (by simp[zB]),e3]),trivial⟩}
def Ye (q:Rat):q<0↔q.num<0:=by have:=Zz (zK q);grind [yD,Hb]
def oE (q:Rat):(⟨false,(zK q).num,(zK q).den⟩:R)=zK (aO q):=by unfold aO;split;{rename_i h;have h3:q.num<0:=(Ye q).1 h;simp[zK,h3];omega};{rename_i h;have h3:¬q.num<0:=λg=>h ((Ye q).2 g);simp[zK,h3]}
def Bu (raw:List UInt8)(n a:Nat):fdB raw (n+1) a=(((fdQ raw a).1,(fdQ raw a).1+aO (fdQ raw (fdQ raw a).2).1)::(fdB raw n (fdQ raw (fdQ raw a).2).2).1,(fdB raw n (fdQ raw (fdQ raw a).2).2).2):=rfl
def Bs (raw:List UInt8)(a:Nat):fdB raw 0 a=([],a):=rfl
def Fe (raw:List UInt8)(n a:Nat)(hr:raw.length<2^38)(ha:a<=raw.length)(hn:n<=100):Sound 118 [.ptr 1000000 0,iV n] (fdo raw a) [] (rgv (fdR raw n a).1.g) (fdo raw (fdR raw n a).2) []:=by
 refine sF Tryz.f118 ?_;have cQ:∀ b:Nat,b<=raw.length->Sound 75 [.ptr 1000000 0] (fdo raw b) [] (rv (zK (fdQ raw b).1)) (fdo raw (fdQ raw b).2) []:=λb h1=>JU raw b hr h1;have cN:∀ b:Nat,b<=raw.length->Sound 74 [.ptr 1000000 0,iV 3] (fdo raw b) [] (iV ((fdN raw 3 b:Int))) (fdo raw (na raw b)) []:=λb h1=>aA raw b 3 hr (by decide) (by decide) h1;have cF:∀ b:Nat,b<=raw.length->Sound 119 [.ptr 1000000 0,iV n] (fdo raw b) [] (fv (fdF raw n b).1) (fdo raw (fdF raw n b).2) []:=λb h1=>UC raw n b hr h1 hn;have hFl:∀ b:Nat,b<=raw.length->(fdF raw n b).2<=raw.length:=λb h=>Qg h;have hQl:∀ b:Nat,b<=raw.length->(fdQ raw b).2<=raw.length:=λb h=>iT h;have hNl:∀ b:Nat,b<=raw.length->na raw b<=raw.length:=λb h=>dZ h;have hN3:∀ b:Nat,fdN raw 3 b<3:=λb=>j9 (by decide);have hG:fdR raw n a=(⟨(fdB raw n a).1,(fdL raw 0 (fdN raw 3 (fdB raw n a).2) n (na raw (fdB raw n a).2)).1⟩,(fdL raw 0 (fdN raw 3 (fdB raw n a).2) n (na raw (fdB raw n a).2)).2):=rfl;rw[hG];clear hG;obtain⟨U,hU⟩:=ex (fdB raw n a);rw[hU];obtain⟨O,hO⟩:=ex (fdL raw 0 (fdN raw 3 U.2) n (na raw U.2));rw[hO];have hUl:U.1.length=n:=by grind [Qh]
 have hOl:O.1.length=fdN raw 3 U.2:=by grind [aL]
 obtain⟨LA,hLA⟩:∃ l,(U.1.map λb=>zK b.1)=l:=⟨_,rfl⟩;obtain⟨HA,hHA⟩:∃ l,(U.1.map λb=>zK b.2)=l:=⟨_,rfl⟩;obtain⟨OA,hOA⟩:=ex (O.1.map fA);obtain⟨bO,hbO⟩:=ex O.2;have hgoal:rgv (⟨U.1,O.1⟩:FReg).g=.agg [rlv LA,rlv HA,alv OA]:=by rw[<-hLA,<-hHA,<-hOA];rfl
 show wp _ _ (gT _ (rgv (⟨U.1,O.1⟩:FReg).g) (fdo raw O.2) []);rw[hgoal,hbO];clear hgoal;cbv;refine zY (σ:=Nat×Nat×List (Rat×Rat)) (λs=>⟨[(0,.ptr 1000000 0),(1,iV n),(4,.ptr 4 0),(5,.ptr 5 0),(6,iV s.1)],
   [(1000000,.box [u8v raw,iV s.2.1]),(4,.box [.nil,.nil,.nil]),(5,.box [zT 24 3 s.2.2.length,zT 31 3 s.2.2.length,.nil]),(24,zW 3 (enc rc (s.2.2.map λb=>zK b.1))),(31,zW 3 (enc rc (s.2.2.map λb=>zK b.2)))]⟩)
  (λs=>s.1<=n/\s.2.1<=raw.length/\U.1=s.2.2++(fdB raw (n-s.1) s.2.1).1/\U.2=(fdB raw (n-s.1) s.2.1).2/\s.2.2.length=s.1) (λs=>n-s.1)
  (0,a,[]) ⟨by omega,ha,by grind,by grind,rfl⟩
  (.trans (.le (ps':=⟨[(0,.ptr 1000000 0),(1,iV n),(4,.ptr 4 0),(5,.ptr 5 0),(6,iV (((0:Nat):Int)))],
    [(1000000,.box [u8v raw,iV a]),(4,.box [.nil,.nil,.nil]),(5,.box [.nil,.nil,.nil])]⟩) okZ okZ rfl)
   (.trans (.adoptB (ps:=⟨[(0,.ptr 1000000 0),(1,iV n),(4,.ptr 4 0),(5,.ptr 5 0),(6,iV (((0:Nat):Int)))],
    [(1000000,.box [u8v raw,iV a]),(4,.box [.nil,.nil,.nil]),(5,.box [.nil,.nil,.nil])]⟩) (cs:=[.nil,.nil,.nil]) 24 3 5 0 rfl rfl rfl)
   (.trans (.le (ps':=⟨[(0,.ptr 1000000 0),(1,iV n),(4,.ptr 4 0),(5,.ptr 5 0),(6,iV (((0:Nat):Int)))],
    [(1000000,.box [u8v raw,iV a]),(4,.box [.nil,.nil,.nil]),(5,.box [zT 24 3 0,.nil,.nil]),(24,zW 3 ([]))]⟩) okZ (by cbv;exact⟨okA,okA,okA,zC rfl,trivial⟩) rfl)
   (.trans (.adoptB (ps:=⟨[(0,.ptr 1000000 0),(1,iV n),(4,.ptr 4 0),(5,.ptr 5 0),(6,iV (((0:Nat):Int)))],
    [(1000000,.box [u8v raw,iV a]),(4,.box [.nil,.nil,.nil]),(5,.box [zT 24 3 0,.nil,.nil]),(24,zW 3 ([]))]⟩) (cs:=[zT 24 3 0,.nil,.nil]) 31 3 5 1 rfl rfl rfl) (.le okZ ?_ rfl))))) ?_
 {cbv;exact⟨okA,okA,okA,zC rfl,zC rfl,trivial⟩};intro s hs;obtain⟨j,b,us⟩:=s;obtain⟨g1,g2,g3,g4,g5⟩:=hs;dsimp only at g1 g2 g3 g4 g5;cbv;refine zG (λh=>?_) (λh=>?_)
 ·(have hj:j<n:=om;rw[show n-j=(n-(j+1))+1 by omega,Bu] at g3 g4;have q1:=cQ b g2;have hb1:=hQl b g2;have q2:=cQ (fdQ raw b).2 hb1;have hb2:=hQl (fdQ raw b).2 hb1;have f1:=jQ raw b;have f2:=jQ raw (fdQ raw b).2;generalize (fdQ raw (fdQ raw b).2).2=b2 at *;generalize (fdQ raw (fdQ raw b).2).1=y at *;generalize (fdQ raw b).2=b1 at *;generalize (fdQ raw b).1=x at *;have qa:=s44 (zK x) ⟨false,(zK y).num,(zK y).den⟩ ((z5 f1).mono (by decide)) (by rw[oE];exact (z5 (lF f2)).mono (by decide));have e0:(⟨false,(zK y).num,(zK y).den⟩:R).q=aO y:=by rw[oE,yD]);rw[e0,yD] at qa
  (obtain⟨X1,hX1⟩:=ex (zK x);obtain⟨X2,hX2⟩:=ex (zK y);obtain⟨Y,hY⟩:=ex (zK (x+aO y));have d1:Sound 75 [.ptr 1000000 0] (fdo raw b) [] (rv X1) (fdo raw b1) []:=by simp_all);have d2:Sound 75 [.ptr 1000000 0] (fdo raw b1) [] (rv X2) (fdo raw b2) []:=by simp_all
  (have d3:zH 51 [rv X1,.agg [zM false,nat X2.num,nat X2.den]] (rv Y):=by subst hX1 hX2 hY;exact qa);clear q1 q2 qa e0
  cbv;refine kA (λ_=>1000000) d1 ?_;cbv;refine kA (λ_=>1000000) d2 ?_;cbv;refine YR 13 [(4,24),(11,31)] (by cbv) (by cbv) ?_;cbv;refine oZ Dk rfl ⟨by simp[zI,y7]⟩ rfl (by simp[zB]) (zV (by simp[zI] <;> omega) (by simp[zI,zB];exact om)) ?_;cbv;refine dA d3 ?_;cbv;refine oZ Dk rfl ⟨by simp[zI,y7]⟩ rfl (by simp[zB]) (zV (by simp[zI] <;> omega) (by simp[zI,zB];exact om)) ?_;cbv;refine⟨zE om om,(j+1,b2,us++[(x,x+aO y)]),⟨om,hb2,by rw[g3];simp,by rw[g4],by simp[g5]⟩,(by show n-(j+1)<n-j;omega),.le okZ ?_ rfl⟩;cbv;refine⟨okA,okA,⟨zR rfl (by simp[zI,zB]),zR rfl (by simp[zI,zB]),lR,trivial⟩,zC ?_,zC ?_,trivial⟩;{subst hX1;show enc rc (us.map λb=>zK b.1)++zI [rc (zK x)]=enc rc ((us++[(x,x+aO y)]).map λb=>zK b.1);rw[bN,qS];rfl};{subst hY;show enc rc (us.map λb=>zK b.2)++zI [rc (zK (x+aO y))]=enc rc ((us++[(x,x+aO y)]).map λb=>zK b.2);rw[bN,qS];rfl}
 have hj:j=n:=om;subst hj;rw[iA,Bs] at g3 g4;have e1:U.1=us:=by grind
 have e2:U.2=b:=g4;have hLs:(us.map λb=>zK b.1)=LA:=by grind
 have hHs:(us.map λb=>zK b.2)=HA:=by grind
 rw[e2] at hO hOl;have n3:=cN b g2;have n4:=hN3 b;have n5:=hNl b g2;generalize fdN raw 3 b=k at *;generalize na raw b=b1 at *;clear g3 g4 h hU hUl hLA hHA e1 e2 cQ cN;cbv;refine kA (λ_=>1000000) n3 ?_;cbv;refine zY (σ:=Nat×Nat×List F) (λs=>⟨[(0,.ptr 1000000 0),(1,iV j),(4,.ptr 4 0),(5,.ptr 5 0),(9,iV s.1)],
   [(1000000,.box [u8v raw,iV s.2.1]),(4,.box [.nil,.nil,.nil]),(5,.box [rlv LA,rlv HA,zT 46 4 s.2.2.length]),(46,zW 4 (enc ac (s.2.2.map fA)))]⟩)
  (λs=>s.1<=k/\s.2.1<=raw.length/\O.1=s.2.2++(fdL raw 0 s.1 j s.2.1).1/\O.2=(fdL raw 0 s.1 j s.2.1).2) (λs=>s.1)
  (k,b1,[]) ⟨by omega,n5,by grind,by grind⟩
  (.trans (.frz 24 rfl rfl (by cbv;repeat' first|exact trivial|exact z6 (by simp[zB])|apply And.intro) (by cbv;repeat' first|exact trivial|exact z6 (by simp[zB])|apply And.intro))
   (.trans (.frz 31 rfl rfl (by cbv;repeat' first|exact trivial|exact z6 (by simp[zB])|apply And.intro) (by cbv;repeat' first|exact trivial|exact z6 (by simp[zB])|apply And.intro))
   (.trans (.le (ps':=⟨[(0,.ptr 1000000 0),(1,iV j),(4,.ptr 4 0),(5,.ptr 5 0),(9,iV k)],
    [(1000000,.box [u8v raw,iV b1]),(4,.box [.nil,.nil,.nil]),(5,.box [rlv LA,rlv HA,.nil])]⟩) okZ ?_ rfl)
   (.trans (.adoptB (ps:=⟨[(0,.ptr 1000000 0),(1,iV j),(4,.ptr 4 0),(5,.ptr 5 0),(9,iV k)],
    [(1000000,.box [u8v raw,iV b1]),(4,.box [.nil,.nil,.nil]),(5,.box [rlv LA,rlv HA,.nil])]⟩) (cs:=[rlv LA,rlv HA,.nil]) 46 4 5 2 rfl rfl rfl) (.le okZ ?_ rfl))))) ?_
 {cbv;exact⟨okA,okA,⟨zU (by rw[vS,yU (by simp[zB]),hLs]),zU (by rw[vS,yU (by simp[zB]),hHs]),lR,trivial⟩,trivial⟩};{cbv;exact⟨okA,okA,okA,zC rfl,trivial⟩};clear g2 hLs hHs n3;intro s hs;obtain⟨i,b,os⟩:=s;obtain⟨g1',g2,g3,g4⟩:=hs;dsimp only at g1' g2 g3 g4;cbv;refine zG (λh=>?_) (λh=>?_)
 ·(obtain⟨m,hm⟩:∃ m,i=m+1:=⟨i-1,by exact om⟩;subst hm;rw[Wl] at g3 g4;have cf:=cF b g2;have hb':=hFl b g2;generalize hFF:fdF raw j b=FF at *;obtain⟨W,hW⟩:=ex (fA FF.1);obtain⟨b',hbb⟩:=ex FF.2;have d1:Sound 119 [.ptr 1000000 0,iV j] (fdo raw b) [] (av W) (fdo raw b') []:=by simp_all);rw[hbb] at g3 g4 hb'
  clear cf;cbv;refine uB 6 [(4,1000000)] (by cbv) (by cbv) (by cbv) ?_;cbv;refine Wu (λ_=>1000000) rfl okA d1 rfl rfl rfl rfl rfl rfl ?_;cbv;refine xT JD rfl rfl rfl (by simp[zB]) rfl ⟨by simp[zI,y7]⟩ (zV oM (by have hos:os.length<k:=(by grind);simp[zI,zB];exact om)) rfl ?_;cbv;refine⟨zE om om,(m,b',os++[FF.1]),⟨om,hb',by grind,by omega⟩,oM,.le okZ ?_ rfl⟩;cbv;refine⟨okA,okA,⟨lR,lR,zR rfl (by simp[zI,zB]),trivial⟩,zC ?_,trivial⟩;subst hW;show enc ac (os.map fA)++zI [ac (fA FF.1)]=enc ac ((os++[FF.1]).map fA);rw[bN,qS];rfl
 ·(have hi:i=0:=om;subst hi;rw[Wj] at g3 g4;have e1:O.1=os:=by grind);have e2:O.2=b:=g4
  (have e3:os.map fA=OA:=by grind);have e4:b=bO:=by omega
  subst e4;cbv;refine Ya (.trans (.le (ps':=⟨[(4,.ptr 4 0)],[(1000000,.box [u8v raw,iV b]),(4,.box [rlv LA,rlv HA,zT 46 4 os.length]),(46,zW 4 (enc ac (os.map fA)))]⟩) okZ ?_ rfl) (.frz 46 rfl rfl (by cbv;repeat' first|exact trivial|exact z6 (by simp[zB])|apply And.intro) (by cbv;repeat' first|exact trivial|exact z6 (by simp[zB])|apply And.intro))) rfl rfl rfl rfl ?_;{cbv;exact⟨okA,okA,zC rfl,trivial⟩};{cbv;exact⟨lR,lR,zU (by rw[vS,yU (by simp[zB]),e3]),trivial⟩}
def Mz (raw:List UInt8)(a:Nat)(hr:raw.length<2^38)(ha:a<=raw.length):Sound 73 [.ptr 1000000 0] (fdo raw a) [] (qv (fdY raw a).1.q) (fdo raw (fdY raw a).2) []:=by
 refine sF Tryz.f73 ?_;have c1:=D3 raw a hr ha;have s1:=Ua raw a;have b1:=Bo (raw:=raw) ha;have c2:=Fe raw (fdG raw a).1.n (fdG raw a).2 hr b1 (by have:=s1.n2;omega);have b2:=Bn (raw:=raw) (n:=(fdG raw a).1.n) b1;have c3:=UC raw ((fdG raw a).1.n+(fdG raw a).1.us.length) (fdR raw (fdG raw a).1.n (fdG raw a).2).2 hr b2 (by have:=s1.n2;have:=s1.us;omega);have hY:fdY raw a=(⟨(fdG raw a).1,(fdR raw (fdG raw a).1.n (fdG raw a).2).1,(fdF raw ((fdG raw a).1.n+(fdG raw a).1.us.length) (fdR raw (fdG raw a).1.n (fdG raw a).2).2).1⟩,(fdF raw ((fdG raw a).1.n+(fdG raw a).1.us.length) (fdR raw (fdG raw a).1.n (fdG raw a).2).2).2):=rfl;rw[hY];clear hY;have n2:=s1.n2;have u4:=s1.us;generalize fdG raw a=G at *;generalize fdR raw G.1.n G.2=Rr at *;generalize fdF raw (G.1.n+G.1.us.length) Rr.2=H at *;obtain⟨⟨gn,gus,gos⟩,gb⟩:=G;obtain⟨rr,rb⟩:=Rr;obtain⟨h,hb⟩:=H;dsimp only at c1 c2 c3 n2 u4;obtain⟨UA,hUA⟩:=ex (gus.map fA);obtain⟨OA,hOA⟩:=ex (gos.map fA);obtain⟨W,hW⟩:=ex (fA h);obtain⟨⟨lo,hi,rows⟩,hRR⟩:∃ r,rr.g=r:=⟨_,rfl⟩;have ul:UA.length=gus.length:=by grind
 have d1:Sound 117 [.ptr 1000000 0] (fdo raw a) [] (.agg [iV gn,alv UA,alv OA]) (fdo raw gb) []:=by subst hUA hOA;exact c1
 have d2:Sound 118 [.ptr 1000000 0,iV gn] (fdo raw gb) [] (.agg [rlv lo,rlv hi,alv rows]) (fdo raw rb) []:=by simp_all
 have d3:Sound 119 [.ptr 1000000 0,iV (((gn+gus.length:Nat):Int))] (fdo raw rb) [] (av W) (fdo raw hb) []:=by subst hW;exact c3
 have hgoal:qv (⟨⟨gn,gus,gos⟩,rr,h⟩:FQry).q=.agg [iV gn,alv UA,alv OA,rlv lo,rlv hi,alv rows,tsv W.ts,zM W.c.neg,nat W.c.num,nat W.c.den]:=by subst hUA hOA hW;show qv (⟨_,rr.g,_⟩:Qry)=_;rw[hRR];rfl
 show wp _ _ (gT _ (qv (⟨⟨gn,gus,gos⟩,rr,h⟩:FQry).q) (fdo raw hb) []);rw[hgoal];clear hgoal c1 c2 c3 hUA hOA hW hRR b1 b2 s1;cbv;refine kA (λ_=>1000000) d1 ?_;cbv;refine kA (λ_=>1000000) d2 ?_;cbv;refine uB 10 [(9,1000000)] (by cbv) (by cbv) (by cbv) ?_;cbv;refine⟨zE (by rw[zB];exact om) (by rw[zB];exact om),?_⟩;cbv;refine Wu (λ_=>1000000) rfl (by refine⟨lR,zF ?_,trivial⟩;rw[zB,ul];exact om) d3 rfl rfl rfl rfl rfl rfl ?_;cbv;exact Ya (.refl _) rfl rfl rfl rfl (by cbv;exact okA)
end Go.Proofs.YtboocdbmnfjomaaGreat
