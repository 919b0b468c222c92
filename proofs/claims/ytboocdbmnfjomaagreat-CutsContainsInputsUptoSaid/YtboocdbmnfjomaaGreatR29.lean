/- A part of the proof: FdB, FdC, FdD. -/
import Derived.Test.YtboocdbmnfjomaaGreatR28
set_option linter.all false
namespace Go.Proofs.YtboocdbmnfjomaaGreat
open Go
set_option maxRecDepth 100000
set_option maxHeartbeats 4000000
def N3:ty 22=.sli 1 1 [.int .u8 (λ_=>0)]:=by cbv
def Hm:ty 32=.sli 4 80 [.nil,.ff,.nil,.nil]:=by cbv
def ZI:ty 35=.sli 3 56 [.ff,.nil,.nil]:=by cbv
def Mw (raw:List UInt8)(hr:raw.length<2^38):Sound 72 [u8v raw] [] [] (.ptr 100 0) [] [(100,.box [u8v raw,iV (((0:Nat):Int))])]:=by
 refine sF Tryz.f72 ?_;cbv;refine Vh N3 rfl rfl rfl rfl rfl rfl (vO UX _) (z3 oM (by grind [zB])) rfl ?_;cbv;refine Yt 7 (.trans (.frz 5 rfl rfl ?_ ?_) (.le (ps':=⟨[(2,.ptr 7 0)],[(7,.box [u8v raw,iV (((0:Nat):Int))])]⟩) ?_ ?_ rfl)) rfl rfl rfl ?_
 ·cbv
  repeat' first|exact trivial|exact yB (by simp[zB])|apply And.intro
 ·cbv
  repeat' first|exact trivial|exact yB (by simp[zB])|apply And.intro
 {exact okZ};{cbv;exact⟨⟨zT (yW (by grind)),lR,trivial⟩,trivial⟩};{cbv;exact lR}
def WN (raw:List UInt8)(d k v a:Nat):fdL raw d (k+1) v a=((fdF raw v a).1::(fdL raw d k (v+d) (fdF raw v a).2).1,(fdL raw d k (v+d) (fdF raw v a).2).2):=rfl
def WM (raw:List UInt8)(d v a:Nat):fdL raw d 0 v a=([],a):=rfl
def bU {α:Type}(p:α->List PV)(l:List α)(a:α):enc p l++zK [p a]=enc p (l++[a]):=by rw[<-zV];rfl
def Be (raw:List UInt8)(a:Nat)(hr:raw.length<2^38)(ha:a<=raw.length):Sound 117 [.ptr 1000000 0] (fdo raw a) [] (gv (fdG raw a).1.g) (fdo raw (fdG raw a).2) []:=by
 refine sF Tryz.f117 ?_;have c1:=aH raw a 3 hr (by decide) (by decide) ha;have c2:=aH raw (na raw a) 5 hr (by decide) (by decide) (cJ ha);have c3:=aH raw (na raw (na raw a)) 3 hr (by decide) (by decide) (cJ (cJ ha));have cF:∀ (v b:Nat),b<=raw.length->v<=100->Sound 119 [.ptr 1000000 0,iV v] (fdo raw b) [] (fv (fdF raw v b).1) (fdo raw (fdF raw v b).2) []:=λv b h1 h2=>Qc raw v b hr h1 h2;have hFl:∀ (v b:Nat),b<=raw.length->(fdF raw v b).2<=raw.length:=λv b h=>QR h;have l1:fdN raw 3 a<3:=gK (by decide);have l2:fdN raw 5 (na raw a)<5:=gK (by decide);have l3:fdN raw 3 (na raw (na raw a))<3:=gK (by decide);have hb3:na raw (na raw (na raw a))<=raw.length:=cJ (cJ (cJ ha));have hG:fdG raw a=(⟨1+fdN raw 3 a,(fdL raw 1 (fdN raw 5 (na raw a)) (1+fdN raw 3 a) (na raw (na raw (na raw a)))).1,(fdL raw 0 (1+fdN raw 3 (na raw (na raw a))) (1+fdN raw 3 a+fdN raw 5 (na raw a)) (fdL raw 1 (fdN raw 5 (na raw a)) (1+fdN raw 3 a) (na raw (na raw (na raw a)))).2).1⟩,(fdL raw 0 (1+fdN raw 3 (na raw (na raw a))) (1+fdN raw 3 a+fdN raw 5 (na raw a)) (fdL raw 1 (fdN raw 5 (na raw a)) (1+fdN raw 3 a) (na raw (na raw (na raw a)))).2).2):=rfl;rw[hG];clear hG;generalize na raw (na raw (na raw a))=b3 at *;generalize na raw (na raw a)=b2 at *;generalize na raw a=b1 at *;generalize fdN raw 3 a=x1 at *;generalize fdN raw 5 b1=x2 at *;generalize fdN raw 3 b2=x3 at *;obtain⟨U,hU⟩:=ex (fdL raw 1 x2 (1+x1) b3);obtain⟨O,hO⟩:=ex (fdL raw 0 (1+x3) (1+x1+x2) U.2);rw[hU,hO];have hUl:U.1.length=x2:=by grind [aS]
 have hOl:O.1.length=1+x3:=by grind [aS]
 obtain⟨UA,hUA⟩:=ex (U.1.map fA);obtain⟨OA,hOA⟩:=ex (O.1.map fA);obtain⟨bO,hbO⟩:=ex O.2;have hgoal:gv (⟨1+x1,U.1,O.1⟩:FGrp).g=.agg [iV (((1+x1:Nat):Int)),alv UA,alv OA]:=by rw[<-hUA,<-hOA];rfl
 show wp _ _ (fD _ (gv (⟨1+x1,U.1,O.1⟩:FGrp).g) (fdo raw O.2) []);rw[hgoal,hbO];clear hgoal;cbv;refine kA (λ_=>1000000) c1 ?_;cbv;refine⟨zF om om,?_⟩;cbv;refine kA (λ_=>1000000) c2 ?_;cbv;refine kA (λ_=>1000000) c3 ?_;cbv;refine⟨zF om om,?_⟩;cbv;refine zZ (σ:=Nat×Nat×List F) (λs=>⟨[(0,.ptr 1000000 0),(2,.ptr 2 0),(3,.ptr 3 0),(4,iV x2),(5,iV (((1+x3:Nat):Int))),(6,iV s.1)],
   [(1000000,.box [u8v raw,iV s.2.1]),(2,.box [iV 0,.nil,.nil]),(3,.box [iV (((1+x1:Nat):Int)),zW 31 4 s.2.2.length,.nil]),(31,z5 4 (enc ac (s.2.2.map fA)))]⟩)
  (λs=>s.1<=x2/\s.2.1<=raw.length/\U.1=s.2.2++(fdL raw 1 (x2-s.1) (1+x1+s.1) s.2.1).1/\U.2=(fdL raw 1 (x2-s.1) (1+x1+s.1) s.2.1).2) (λs=>x2-s.1)
  (0,b3,[]) ⟨by omega,hb3,by grind,by grind⟩
  (.trans (.le (ps':=⟨[(0,.ptr 1000000 0),(2,.ptr 2 0),(3,.ptr 3 0),(4,iV x2),(5,iV (((1+x3:Nat):Int))),(6,iV (((0:Nat):Int)))],
    [(1000000,.box [u8v raw,iV b3]),(2,.box [iV 0,.nil,.nil]),(3,.box [iV (((1+x1:Nat):Int)),.nil,.nil])]⟩) okZ okZ rfl)
   (.trans (.adoptB (ps:=⟨[(0,.ptr 1000000 0),(2,.ptr 2 0),(3,.ptr 3 0),(4,iV x2),(5,iV (((1+x3:Nat):Int))),(6,iV (((0:Nat):Int)))],
    [(1000000,.box [u8v raw,iV b3]),(2,.box [iV 0,.nil,.nil]),(3,.box [iV (((1+x1:Nat):Int)),.nil,.nil])]⟩) (cs:=[iV (((1+x1:Nat):Int)),.nil,.nil]) 31 4 3 1 rfl rfl rfl) (.le okZ ?_ rfl))) ?_
 {cbv;exact⟨okA,okA,okA,zC rfl,trivial⟩};intro s hs;obtain⟨j,b,us⟩:=s;obtain⟨g1,g2,g3,g4⟩:=hs;dsimp only at g1 g2 g3 g4;cbv;refine zH (λh=>?_) (λh=>?_)
 ·(have hj:j<x2:=om;rw[show x2-j=(x2-(j+1))+1 by omega,WN] at g3 g4;have cf:=cF (1+x1+j) b g2 oM;have hb':=hFl (1+x1+j) b g2;generalize hFF:fdF raw (1+x1+j) b=FF at *;obtain⟨W,hW⟩:=ex (fA FF.1);obtain⟨b',hbb⟩:=ex FF.2;have d1:Sound 119 [.ptr 1000000 0,iV (((1+x1+j:Nat):Int))] (fdo raw b) [] (av W) (fdo raw b') []:=by simp_all);rw[hbb] at g3 g4 hb'
  clear cf;cbv;refine uI 9 [(7,1000000)] (by cbv) (by cbv) (by cbv) ?_;cbv;refine⟨zF om om,?_⟩;cbv;refine WV (λ_=>1000000) rfl (by exact⟨lR,zG om,trivial⟩) d1 rfl rfl rfl rfl rfl rfl ?_;cbv;refine xY Hm rfl rfl rfl (by simp[zB]) rfl ⟨by simp[zK,xC]⟩ (z3 oM (by have hus:us.length<x2:=(by have:=congrArg List.length g3;rw[hUl] at this;simp at this;omega);simp[zK,zB];exact om)) rfl ?_;cbv;refine⟨zF om om,(j+1,b',us++[FF.1]),⟨om,hb',by rw[g3];simp[nP],by rw[g4];simp[nP]⟩,oM,.le okZ ?_ rfl⟩;cbv;refine⟨okA,okA,⟨lR,zR rfl (by simp[zK,zB]),lR,trivial⟩,zC ?_,trivial⟩;subst hW;show enc ac (us.map fA)++zK [ac (fA FF.1)]=enc ac ((us++[FF.1]).map fA);rw[bU,jQ];rfl
 have hj:j=x2:=om;subst hj;rw[ZF,WM] at g3 g4;have e1:U.1=us:=by grind
 have e2:U.2=b:=g4;have hul:us.length=j:=by grind
 have hUAs:us.map fA=UA:=by grind
 rw[e2] at hO;clear g3 g4 h hU hUA e1 e2;cbv;refine zZ (σ:=Nat×Nat×List F) (λs=>⟨[(0,.ptr 1000000 0),(2,.ptr 2 0),(3,.ptr 3 0),(4,iV j),(5,iV (((1+x3:Nat):Int))),(7,iV s.1)],
   [(1000000,.box [u8v raw,iV s.2.1]),(2,.box [iV 0,.nil,.nil]),(3,.box [iV (((1+x1:Nat):Int)),alv UA,zW 47 4 s.2.2.length]),(47,z5 4 (enc ac (s.2.2.map fA)))]⟩)
  (λs=>s.1<=1+x3/\s.2.1<=raw.length/\O.1=s.2.2++(fdL raw 0 (1+x3-s.1) (1+x1+j) s.2.1).1/\O.2=(fdL raw 0 (1+x3-s.1) (1+x1+j) s.2.1).2) (λs=>1+x3-s.1)
  (0,b,[]) ⟨by omega,g2,by grind,by grind⟩
  (.trans (.frz 31 rfl rfl (by cbv;repeat' first|exact trivial|exact yB (by simp[zB])|apply And.intro) (by cbv;repeat' first|exact trivial|exact yB (by simp[zB])|apply And.intro))
   (.trans (.le (ps':=⟨[(0,.ptr 1000000 0),(2,.ptr 2 0),(3,.ptr 3 0),(4,iV j),(5,iV (((1+x3:Nat):Int))),(7,iV (((0:Nat):Int)))],
    [(1000000,.box [u8v raw,iV b]),(2,.box [iV 0,.nil,.nil]),(3,.box [iV (((1+x1:Nat):Int)),alv UA,.nil])]⟩) okZ ?_ rfl)
   (.trans (.adoptB (ps:=⟨[(0,.ptr 1000000 0),(2,.ptr 2 0),(3,.ptr 3 0),(4,iV j),(5,iV (((1+x3:Nat):Int))),(7,iV (((0:Nat):Int)))],
    [(1000000,.box [u8v raw,iV b]),(2,.box [iV 0,.nil,.nil]),(3,.box [iV (((1+x1:Nat):Int)),alv UA,.nil])]⟩) (cs:=[iV (((1+x1:Nat):Int)),alv UA,.nil]) 47 4 3 2 rfl rfl rfl) (.le okZ ?_ rfl)))) ?_
 {cbv;exact⟨okA,okA,⟨lR,zT (by rw[v5,yW (by simp[zB]),hUAs]),lR,trivial⟩,trivial⟩};{cbv;exact⟨okA,okA,okA,zC rfl,trivial⟩};clear g2 hUAs hul;intro s hs;obtain⟨i,b,os⟩:=s;obtain⟨g1',g2,g3,g4⟩:=hs;dsimp only at g1' g2 g3 g4;cbv;refine zH (λh=>?_) (λh=>?_)
 ·(have hi:i<1+x3:=om;rw[show 1+x3-i=(1+x3-(i+1))+1 by omega,WN] at g3 g4;have cf:=cF (1+x1+j) b g2 oM;have hb':=hFl (1+x1+j) b g2;generalize hFF:fdF raw (1+x1+j) b=FF at *;obtain⟨W,hW⟩:=ex (fA FF.1);obtain⟨b',hbb⟩:=ex FF.2;have d1:Sound 119 [.ptr 1000000 0,iV (((1+x1+j:Nat):Int))] (fdo raw b) [] (av W) (fdo raw b') []:=by subst hW hbb;exact cf);rw[hbb] at g3 g4 hb'
  clear cf;cbv;refine uI 9 [(7,1000000)] (by cbv) (by cbv) (by cbv) ?_;cbv;refine⟨zF om om,?_⟩;cbv;refine WV (λ_=>1000000) rfl (by exact⟨lR,zG om,trivial⟩) d1 rfl rfl rfl rfl rfl rfl ?_;cbv;refine xY Hm rfl rfl rfl (by simp[zB]) rfl ⟨by simp[zK,xC]⟩ (z3 (by simp[zK] <;> omega) (by have hos:os.length<1+x3:=(by have:=congrArg List.length g3;rw[hOl] at this;simp at this;omega);simp[zK,zB];exact om)) rfl ?_;cbv;refine⟨zF om om,(i+1,b',os++[FF.1]),⟨om,hb',by rw[g3];simp[nP],by rw[g4];simp[nP]⟩,(by show 1+x3-(i+1)<1+x3-i;omega),.le okZ ?_ rfl⟩;cbv;refine⟨okA,okA,⟨lR,lR,zR rfl (by simp[zK,zB]),trivial⟩,zC ?_,trivial⟩;subst hW;show enc ac (os.map fA)++zK [ac (fA FF.1)]=enc ac ((os++[FF.1]).map fA);rw[bU,jQ];rfl
 ·(have hi:i=1+x3:=om;subst hi;rw[ZF,WM] at g3 g4;have e1:O.1=os:=by grind);have e2:O.2=b:=g4
  (have e3:os.map fA=OA:=by grind);have e4:b=bO:=by omega
  subst e4;cbv;refine Yu (.trans (.le (ps':=⟨[(2,.ptr 2 0)],[(1000000,.box [u8v raw,iV b]),(2,.box [iV (((1+x1:Nat):Int)),alv UA,zW 47 4 os.length]),(47,z5 4 (enc ac (os.map fA)))]⟩) okZ ?_ rfl) (.frz 47 rfl rfl (by cbv;repeat' first|exact trivial|exact yB (by simp[zB])|apply And.intro) (by cbv;repeat' first|exact trivial|exact yB (by simp[zB])|apply And.intro))) rfl rfl rfl rfl ?_;{cbv;exact⟨okA,okA,zC rfl,trivial⟩};{cbv;exact⟨lR,lR,zT (by rw[v5,yW (by simp[zB]),e3]),trivial⟩}
def Yy (q:Rat):q<0↔q.num<0:=by have:=ZW (zI q);grind [z7,H3]
def o5 (q:Rat):(⟨false,(zI q).num,(zI q).den⟩:R)=zI (cC q):=by unfold cC;split;{rename_i h;have h3:q.num<0:=(Yy q).1 h;simp[zI,h3];omega};{rename_i h;have h3:¬q.num<0:=λg=>h ((Yy q).2 g);simp[zI,h3]}
def AI (raw:List UInt8)(n a:Nat):fdB raw (n+1) a=(((fdQ raw a).1,(fdQ raw a).1+cC (fdQ raw (fdQ raw a).2).1)::(fdB raw n (fdQ raw (fdQ raw a).2).2).1,(fdB raw n (fdQ raw (fdQ raw a).2).2).2):=rfl
def AG (raw:List UInt8)(a:Nat):fdB raw 0 a=([],a):=rfl
def Ds (raw:List UInt8)(n a:Nat)(hr:raw.length<2^38)(ha:a<=raw.length)(hn:n<=100):Sound 118 [.ptr 1000000 0,iV n] (fdo raw a) [] (rgv (fdR raw n a).1.g) (fdo raw (fdR raw n a).2) []:=by
 refine sF Tryz.f118 ?_;have cQ:∀ b:Nat,b<=raw.length->Sound 75 [.ptr 1000000 0] (fdo raw b) [] (rv (zI (fdQ raw b).1)) (fdo raw (fdQ raw b).2) []:=λb h1=>HJ raw b hr h1;have cN:∀ b:Nat,b<=raw.length->Sound 74 [.ptr 1000000 0,iV 3] (fdo raw b) [] (iV ((fdN raw 3 b:Int))) (fdo raw (na raw b)) []:=λb h1=>aH raw b 3 hr (by decide) (by decide) h1;have cF:∀ b:Nat,b<=raw.length->Sound 119 [.ptr 1000000 0,iV n] (fdo raw b) [] (fv (fdF raw n b).1) (fdo raw (fdF raw n b).2) []:=λb h1=>Qc raw n b hr h1 hn;have hFl:∀ b:Nat,b<=raw.length->(fdF raw n b).2<=raw.length:=λb h=>QR h;have hQl:∀ b:Nat,b<=raw.length->(fdQ raw b).2<=raw.length:=λb h=>eG h;have hNl:∀ b:Nat,b<=raw.length->na raw b<=raw.length:=λb h=>cJ h;have hN3:∀ b:Nat,fdN raw 3 b<3:=λb=>gK (by decide);have hG:fdR raw n a=(⟨(fdB raw n a).1,(fdL raw 0 (fdN raw 3 (fdB raw n a).2) n (na raw (fdB raw n a).2)).1⟩,(fdL raw 0 (fdN raw 3 (fdB raw n a).2) n (na raw (fdB raw n a).2)).2):=rfl;rw[hG];clear hG;obtain⟨U,hU⟩:=ex (fdB raw n a);rw[hU];obtain⟨O,hO⟩:=ex (fdL raw 0 (fdN raw 3 U.2) n (na raw U.2));rw[hO];have hUl:U.1.length=n:=by grind [QS]
 have hOl:O.1.length=fdN raw 3 U.2:=by grind [aS]
 obtain⟨LA,hLA⟩:∃ l,(U.1.map λb=>zI b.1)=l:=⟨_,rfl⟩;obtain⟨HA,hHA⟩:∃ l,(U.1.map λb=>zI b.2)=l:=⟨_,rfl⟩;obtain⟨OA,hOA⟩:=ex (O.1.map fA);obtain⟨bO,hbO⟩:=ex O.2;have hgoal:rgv (⟨U.1,O.1⟩:FReg).g=.agg [rlv LA,rlv HA,alv OA]:=by rw[<-hLA,<-hHA,<-hOA];rfl
 show wp _ _ (fD _ (rgv (⟨U.1,O.1⟩:FReg).g) (fdo raw O.2) []);rw[hgoal,hbO];clear hgoal;cbv;refine zZ (σ:=Nat×Nat×List (Rat×Rat)) (λs=>⟨[(0,.ptr 1000000 0),(1,iV n),(4,.ptr 4 0),(5,.ptr 5 0),(6,iV s.1)],
   [(1000000,.box [u8v raw,iV s.2.1]),(4,.box [.nil,.nil,.nil]),(5,.box [zW 24 3 s.2.2.length,zW 31 3 s.2.2.length,.nil]),(24,z5 3 (enc rc (s.2.2.map λb=>zI b.1))),(31,z5 3 (enc rc (s.2.2.map λb=>zI b.2)))]⟩)
  (λs=>s.1<=n/\s.2.1<=raw.length/\U.1=s.2.2++(fdB raw (n-s.1) s.2.1).1/\U.2=(fdB raw (n-s.1) s.2.1).2/\s.2.2.length=s.1) (λs=>n-s.1)
  (0,a,[]) ⟨by omega,ha,by grind,by grind,rfl⟩
  (.trans (.le (ps':=⟨[(0,.ptr 1000000 0),(1,iV n),(4,.ptr 4 0),(5,.ptr 5 0),(6,iV (((0:Nat):Int)))],
    [(1000000,.box [u8v raw,iV a]),(4,.box [.nil,.nil,.nil]),(5,.box [.nil,.nil,.nil])]⟩) okZ okZ rfl)
   (.trans (.adoptB (ps:=⟨[(0,.ptr 1000000 0),(1,iV n),(4,.ptr 4 0),(5,.ptr 5 0),(6,iV (((0:Nat):Int)))],
    [(1000000,.box [u8v raw,iV a]),(4,.box [.nil,.nil,.nil]),(5,.box [.nil,.nil,.nil])]⟩) (cs:=[.nil,.nil,.nil]) 24 3 5 0 rfl rfl rfl)
   (.trans (.le (ps':=⟨[(0,.ptr 1000000 0),(1,iV n),(4,.ptr 4 0),(5,.ptr 5 0),(6,iV (((0:Nat):Int)))],
    [(1000000,.box [u8v raw,iV a]),(4,.box [.nil,.nil,.nil]),(5,.box [zW 24 3 0,.nil,.nil]),(24,z5 3 ([]))]⟩) okZ (by cbv;exact⟨okA,okA,okA,zC rfl,trivial⟩) rfl)
   (.trans (.adoptB (ps:=⟨[(0,.ptr 1000000 0),(1,iV n),(4,.ptr 4 0),(5,.ptr 5 0),(6,iV (((0:Nat):Int)))],
    [(1000000,.box [u8v raw,iV a]),(4,.box [.nil,.nil,.nil]),(5,.box [zW 24 3 0,.nil,.nil]),(24,z5 3 ([]))]⟩) (cs:=[zW 24 3 0,.nil,.nil]) 31 3 5 1 rfl rfl rfl) (.le okZ ?_ rfl))))) ?_
 {cbv;exact⟨okA,okA,okA,zC rfl,zC rfl,trivial⟩};intro s hs;obtain⟨j,b,us⟩:=s;obtain⟨g1,g2,g3,g4,g5⟩:=hs;dsimp only at g1 g2 g3 g4 g5;cbv;refine zH (λh=>?_) (λh=>?_)
 ·(have hj:j<n:=om;rw[show n-j=(n-(j+1))+1 by omega,AI] at g3 g4;have q1:=cQ b g2;have hb1:=hQl b g2;have q2:=cQ (fdQ raw b).2 hb1;have hb2:=hQl (fdQ raw b).2 hb1;have f1:=jY raw b;have f2:=jY raw (fdQ raw b).2;generalize (fdQ raw (fdQ raw b).2).2=b2 at *;generalize (fdQ raw (fdQ raw b).2).1=y at *;generalize (fdQ raw b).2=b1 at *;generalize (fdQ raw b).1=x at *;have qa:=s44 (zI x) ⟨false,(zI y).num,(zI y).den⟩ ((zX f1).mono (by decide)) (by rw[o5];exact (zX (l5 f2)).mono (by decide));have e0:(⟨false,(zI y).num,(zI y).den⟩:R).q=cC y:=by rw[o5,z7]);rw[e0,z7] at qa
  (obtain⟨X1,hX1⟩:=ex (zI x);obtain⟨X2,hX2⟩:=ex (zI y);obtain⟨Y,hY⟩:=ex (zI (x+cC y));have d1:Sound 75 [.ptr 1000000 0] (fdo raw b) [] (rv X1) (fdo raw b1) []:=by simp_all);have d2:Sound 75 [.ptr 1000000 0] (fdo raw b1) [] (rv X2) (fdo raw b2) []:=by simp_all
  (have d3:zE 51 [rv X1,.agg [zM false,nat X2.num,nat X2.den]] (rv Y):=by subst hX1 hX2 hY;exact qa);clear q1 q2 qa e0
  cbv;refine kA (λ_=>1000000) d1 ?_;cbv;refine kA (λ_=>1000000) d2 ?_;cbv;refine Xd 13 [(4,24),(11,31)] (by cbv) (by cbv) ?_;cbv;refine Zp ZI rfl ⟨by simp[zK,xC]⟩ rfl (by simp[zB]) (z3 (by simp[zK] <;> omega) (by simp[zK,zB];exact om)) ?_;cbv;refine dA d3 ?_;cbv;refine Zp ZI rfl ⟨by simp[zK,xC]⟩ rfl (by simp[zB]) (z3 (by simp[zK] <;> omega) (by simp[zK,zB];exact om)) ?_;cbv;refine⟨zF om om,(j+1,b2,us++[(x,x+cC y)]),⟨om,hb2,by rw[g3];simp,by rw[g4],by simp[g5]⟩,(by show n-(j+1)<n-j;omega),.le okZ ?_ rfl⟩;cbv;refine⟨okA,okA,⟨zR rfl (by simp[zK,zB]),zR rfl (by simp[zK,zB]),lR,trivial⟩,zC ?_,zC ?_,trivial⟩;{subst hX1;show enc rc (us.map λb=>zI b.1)++zK [rc (zI x)]=enc rc ((us++[(x,x+cC y)]).map λb=>zI b.1);rw[bU,jQ];rfl};{subst hY;show enc rc (us.map λb=>zI b.2)++zK [rc (zI (x+cC y))]=enc rc ((us++[(x,x+cC y)]).map λb=>zI b.2);rw[bU,jQ];rfl}
 have hj:j=n:=om;subst hj;rw[ZF,AG] at g3 g4;have e1:U.1=us:=by grind
 have e2:U.2=b:=g4;have hLs:(us.map λb=>zI b.1)=LA:=by grind
 have hHs:(us.map λb=>zI b.2)=HA:=by grind
 rw[e2] at hO hOl;have n3:=cN b g2;have n4:=hN3 b;have n5:=hNl b g2;generalize fdN raw 3 b=k at *;generalize na raw b=b1 at *;clear g3 g4 h hU hUl hLA hHA e1 e2 cQ cN;cbv;refine kA (λ_=>1000000) n3 ?_;cbv;refine zZ (σ:=Nat×Nat×List F) (λs=>⟨[(0,.ptr 1000000 0),(1,iV j),(4,.ptr 4 0),(5,.ptr 5 0),(9,iV s.1)],
   [(1000000,.box [u8v raw,iV s.2.1]),(4,.box [.nil,.nil,.nil]),(5,.box [rlv LA,rlv HA,zW 46 4 s.2.2.length]),(46,z5 4 (enc ac (s.2.2.map fA)))]⟩)
  (λs=>s.1<=k/\s.2.1<=raw.length/\O.1=s.2.2++(fdL raw 0 s.1 j s.2.1).1/\O.2=(fdL raw 0 s.1 j s.2.1).2) (λs=>s.1)
  (k,b1,[]) ⟨by omega,n5,by grind,by grind⟩
  (.trans (.frz 24 rfl rfl (by cbv;repeat' first|exact trivial|exact yB (by simp[zB])|apply And.intro) (by cbv;repeat' first|exact trivial|exact yB (by simp[zB])|apply And.intro))
   (.trans (.frz 31 rfl rfl (by cbv;repeat' first|exact trivial|exact yB (by simp[zB])|apply And.intro) (by cbv;repeat' first|exact trivial|exact yB (by simp[zB])|apply And.intro))
   (.trans (.le (ps':=⟨[(0,.ptr 1000000 0),(1,iV j),(4,.ptr 4 0),(5,.ptr 5 0),(9,iV k)],
    [(1000000,.box [u8v raw,iV b1]),(4,.box [.nil,.nil,.nil]),(5,.box [rlv LA,rlv HA,.nil])]⟩) okZ ?_ rfl)
   (.trans (.adoptB (ps:=⟨[(0,.ptr 1000000 0),(1,iV j),(4,.ptr 4 0),(5,.ptr 5 0),(9,iV k)],
    [(1000000,.box [u8v raw,iV b1]),(4,.box [.nil,.nil,.nil]),(5,.box [rlv LA,rlv HA,.nil])]⟩) (cs:=[rlv LA,rlv HA,.nil]) 46 4 5 2 rfl rfl rfl) (.le okZ ?_ rfl))))) ?_
 {cbv;exact⟨okA,okA,⟨zT (by rw[v5,yW (by simp[zB]),hLs]),zT (by rw[v5,yW (by simp[zB]),hHs]),lR,trivial⟩,trivial⟩};{cbv;exact⟨okA,okA,okA,zC rfl,trivial⟩};clear g2 hLs hHs n3;intro s hs;obtain⟨i,b,os⟩:=s;obtain⟨g1',g2,g3,g4⟩:=hs;dsimp only at g1' g2 g3 g4;cbv;refine zH (λh=>?_) (λh=>?_)
 ·(obtain⟨m,hm⟩:∃ m,i=m+1:=⟨i-1,by exact om⟩;subst hm;rw[WN] at g3 g4;have cf:=cF b g2;have hb':=hFl b g2;generalize hFF:fdF raw j b=FF at *;obtain⟨W,hW⟩:=ex (fA FF.1);obtain⟨b',hbb⟩:=ex FF.2;have d1:Sound 119 [.ptr 1000000 0,iV j] (fdo raw b) [] (av W) (fdo raw b') []:=by simp_all);rw[hbb] at g3 g4 hb'
  clear cf;cbv;refine uI 6 [(4,1000000)] (by cbv) (by cbv) (by cbv) ?_;cbv;refine WV (λ_=>1000000) rfl okA d1 rfl rfl rfl rfl rfl rfl ?_;cbv;refine xY Hm rfl rfl rfl (by simp[zB]) rfl ⟨by simp[zK,xC]⟩ (z3 oM (by have hos:os.length<k:=(by grind);simp[zK,zB];exact om)) rfl ?_;cbv;refine⟨zF om om,(m,b',os++[FF.1]),⟨om,hb',by grind,by omega⟩,oM,.le okZ ?_ rfl⟩;cbv;refine⟨okA,okA,⟨lR,lR,zR rfl (by simp[zK,zB]),trivial⟩,zC ?_,trivial⟩;subst hW;show enc ac (os.map fA)++zK [ac (fA FF.1)]=enc ac ((os++[FF.1]).map fA);rw[bU,jQ];rfl
 ·(have hi:i=0:=om;subst hi;rw[WM] at g3 g4;have e1:O.1=os:=by grind);have e2:O.2=b:=g4
  (have e3:os.map fA=OA:=by grind);have e4:b=bO:=by omega
  subst e4;cbv;refine Yu (.trans (.le (ps':=⟨[(4,.ptr 4 0)],[(1000000,.box [u8v raw,iV b]),(4,.box [rlv LA,rlv HA,zW 46 4 os.length]),(46,z5 4 (enc ac (os.map fA)))]⟩) okZ ?_ rfl) (.frz 46 rfl rfl (by cbv;repeat' first|exact trivial|exact yB (by simp[zB])|apply And.intro) (by cbv;repeat' first|exact trivial|exact yB (by simp[zB])|apply And.intro))) rfl rfl rfl rfl ?_;{cbv;exact⟨okA,okA,zC rfl,trivial⟩};{cbv;exact⟨lR,lR,zT (by rw[v5,yW (by simp[zB]),e3]),trivial⟩}
def Ll (raw:List UInt8)(a:Nat)(hr:raw.length<2^38)(ha:a<=raw.length):Sound 73 [.ptr 1000000 0] (fdo raw a) [] (qv (fdY raw a).1.q) (fdo raw (fdY raw a).2) []:=by
 refine sF Tryz.f73 ?_;have c1:=Be raw a hr ha;have s1:=UH raw a;have b1:=AD (raw:=raw) ha;have c2:=Ds raw (fdG raw a).1.n (fdG raw a).2 hr b1 (by have:=s1.n2;omega);have b2:=AC (raw:=raw) (n:=(fdG raw a).1.n) b1;have c3:=Qc raw ((fdG raw a).1.n+(fdG raw a).1.us.length) (fdR raw (fdG raw a).1.n (fdG raw a).2).2 hr b2 (by have:=s1.n2;have:=s1.us;omega);have hY:fdY raw a=(⟨(fdG raw a).1,(fdR raw (fdG raw a).1.n (fdG raw a).2).1,(fdF raw ((fdG raw a).1.n+(fdG raw a).1.us.length) (fdR raw (fdG raw a).1.n (fdG raw a).2).2).1⟩,(fdF raw ((fdG raw a).1.n+(fdG raw a).1.us.length) (fdR raw (fdG raw a).1.n (fdG raw a).2).2).2):=rfl;rw[hY];clear hY;have n2:=s1.n2;have u4:=s1.us;generalize fdG raw a=G at *;generalize fdR raw G.1.n G.2=Rr at *;generalize fdF raw (G.1.n+G.1.us.length) Rr.2=H at *;obtain⟨⟨gn,gus,gos⟩,gb⟩:=G;obtain⟨rr,rb⟩:=Rr;obtain⟨h,hb⟩:=H;dsimp only at c1 c2 c3 n2 u4;obtain⟨UA,hUA⟩:=ex (gus.map fA);obtain⟨OA,hOA⟩:=ex (gos.map fA);obtain⟨W,hW⟩:=ex (fA h);obtain⟨⟨lo,hi,rows⟩,hRR⟩:∃ r,rr.g=r:=⟨_,rfl⟩;have ul:UA.length=gus.length:=by grind
 have d1:Sound 117 [.ptr 1000000 0] (fdo raw a) [] (.agg [iV gn,alv UA,alv OA]) (fdo raw gb) []:=by subst hUA hOA;exact c1
 have d2:Sound 118 [.ptr 1000000 0,iV gn] (fdo raw gb) [] (.agg [rlv lo,rlv hi,alv rows]) (fdo raw rb) []:=by simp_all
 have d3:Sound 119 [.ptr 1000000 0,iV (((gn+gus.length:Nat):Int))] (fdo raw rb) [] (av W) (fdo raw hb) []:=by subst hW;exact c3
 have hgoal:qv (⟨⟨gn,gus,gos⟩,rr,h⟩:FQry).q=.agg [iV gn,alv UA,alv OA,rlv lo,rlv hi,alv rows,tsv W.ts,zM W.c.neg,nat W.c.num,nat W.c.den]:=by subst hUA hOA hW;show qv (⟨_,rr.g,_⟩:Qry)=_;rw[hRR];rfl
 show wp _ _ (fD _ (qv (⟨⟨gn,gus,gos⟩,rr,h⟩:FQry).q) (fdo raw hb) []);rw[hgoal];clear hgoal c1 c2 c3 hUA hOA hW hRR b1 b2 s1;cbv;refine kA (λ_=>1000000) d1 ?_;cbv;refine kA (λ_=>1000000) d2 ?_;cbv;refine uI 10 [(9,1000000)] (by cbv) (by cbv) (by cbv) ?_;cbv;refine⟨zF (by rw[zB];exact om) (by rw[zB];exact om),?_⟩;cbv;refine WV (λ_=>1000000) rfl (by refine⟨lR,zG ?_,trivial⟩;rw[zB,ul];exact om) d3 rfl rfl rfl rfl rfl rfl ?_;cbv;exact Yu (.refl _) rfl rfl rfl rfl (by cbv;exact okA)
def Hl:ty 40=.sli 5 72 [iV 0,iV 0,.ff,.nil,.nil]:=by cbv
def DX (raw:List UInt8)(q:Qry)(n m a:Nat)(p:List Dec):l9 raw q n m 0 p a=p:=rfl
def DY (raw:List UInt8)(q:Qry)(n m k a:Nat)(p:List Dec):l9 raw q n m (k+1) p a =(if 1+fdN raw 4 a=3\/1+fdN raw 4 a=4 then l9 raw q n m k (p++[⟨((1+fdN raw 4 a:Nat):Int),fdN raw n (na raw a),zI (fdQ raw (na raw (na raw a))).1⟩]) (fdQ raw (na raw (na raw a))).2 else if m=0 then l9 raw q n m k p (na raw a) else if (⟨q,p,[]⟩:Scp).dcd 1 (fdN raw m (na raw a))=true\/(⟨q,p,[]⟩:Scp).dcd 2 (fdN raw m (na raw a))=true then l9 raw q n m k p (na raw (na raw a)) else l9 raw q n m k (p++[⟨((1+fdN raw 4 a:Nat):Int),fdN raw m (na raw a),R0⟩]) (na raw (na raw a))):=rfl
theorem PathOk.dsz {n m k:Nat}{p:List Dec}(h:PathOk n m p)(hl:p.length<2^38)(hk:1<=k):Dsz k p:=⟨hl,λd hd=>by
 rcases h.d d hd with⟨_,_,_,h⟩|⟨_,_,_,q,hq,h⟩;{rw[h];exact⟨xK _,xK _⟩}
 ·rw[h];exact zX (hq.mono hk)⟩
abbrev svN (s:Scp):PV:=.agg [iV s.q.g.n,alv s.q.g.us,alv s.q.g.os,rlv s.q.r.lo,rlv s.q.r.hi,alv s.q.r.rows,tsv s.q.goal.ts,zM s.q.goal.c.neg,nat s.q.goal.c.num,nat s.q.goal.c.den,dlv s.path,.nil]
def C8 (raw : List UInt8) (hr : raw.length < 2^38) : zE 29 [u8v raw] (svN (fdS raw)) := by
  refine sF Tryz.f29 ?_
  have c0 := Mw raw hr
  have c1 := Ll raw 0 hr (xK _)
  have sm := vD raw 0
  have b1 := Ng (raw := raw) (a := 0) (xK _)
  have c2 := aH raw (fdY raw 0).2 4 hr (by decide) (by decide) b1
  have cN : ∀ m b : Nat, 0 < m → m < 2^60 → b ≤ raw.length → Sound 74 [.ptr 1000000 0, iV m] (fdo raw b) [] (iV ((fdN raw m b : Int))) (fdo raw (na raw b)) [] := fun m b h1 h2 h3 => aH raw b m hr h1 h2 h3
  have cQ : ∀ b : Nat, b ≤ raw.length → Sound 75 [.ptr 1000000 0] (fdo raw b) [] (rv (zI (fdQ raw b).1)) (fdo raw (fdQ raw b).2) [] := fun b h1 => HJ raw b hr h1
  have hQl : ∀ b : Nat, b ≤ raw.length → (fdQ raw b).2 ≤ raw.length := fun b h => eG h
  have hQf : ∀ b : Nat, Fits 1 (fdQ raw b).1 := fun b => jY raw b
  have hNl : ∀ b : Nat, b ≤ raw.length → na raw b ≤ raw.length := fun b h => cJ h
  have hN4 : ∀ b : Nat, fdN raw 4 b < 4 := fun b => gK (by decide)
  have hNn : ∀ m b : Nat, 0 < m → fdN raw m b < m := fun m b h => gK h
  have n1 := sm.g.n1
  have n2 := sm.g.n2
  have u4 := sm.g.us
  have hq1 : (fdY raw 0).1.q.g.n = ((fdY raw 0).1.g.n : Int) := rfl
  have hq2 : (fdY raw 0).1.q.g.us.length = (fdY raw 0).1.g.us.length := by show (List.map fA _).length = _; grind
  obtain ⟨P, hP⟩ := ex ((fdS raw).path)
  have hP' : P = l9 raw (fdY raw 0).1.q (fdY raw 0).1.g.n (fdY raw 0).1.g.us.length (fdN raw 4 (fdY raw 0).2) [] (na raw (fdY raw 0).2) := hP.symm
  have hS : fdS raw = ⟨(fdY raw 0).1.q, P, []⟩ := by rw [← hP]; rfl
  rw [hS]
  have k4 := hN4 (fdY raw 0).2
  have ak := hNl _ b1
  clear hS hP sm
  generalize fdN raw 4 (fdY raw 0).2 = k0 at *
  generalize na raw (fdY raw 0).2 = a0 at *
  generalize (fdY raw 0).2 = a00 at *
  generalize (fdY raw 0).1.g.n = n at *
  generalize (fdY raw 0).1.g.us.length = m at *
  generalize (fdY raw 0).1.q = Q at *
  obtain ⟨⟨gn, gus, gos⟩, ⟨lo, hi', rows⟩, ⟨ts, c⟩⟩ := Q
  dsimp only at hq1 hq2
  subst hq1
  have cD : ∀ (p : List Dec) (k u : Int), PathOk n m p → p.length ≤ 3 → zE 76 [.agg [iV n, alv gus, alv gos, rlv lo, rlv hi', alv rows, tsv ts, zM c.neg, nat c.num, nat c.den, dlv p, llv []], iV k, iV u] (zM ((⟨⟨⟨(n : Int), gus, gos⟩, ⟨lo, hi', rows⟩, ⟨ts, c⟩⟩, p, []⟩ : Scp).dcd k u)) :=
    fun p k u h1 h2 => tD ⟨⟨⟨(n : Int), gus, gos⟩, ⟨lo, hi', rows⟩, ⟨ts, c⟩⟩, p, []⟩ k u (h1.dsz oM (by decide))
  cbv
  refine kA (fun _ => 8) c0 ?_
  cbv
  refine kA (fun _ => 8) c1 ?_
  cbv
  refine kA (fun _ => 8) c2 ?_
  cbv
  refine zZ (σ := Nat × Nat × List Dec) (fun s => ⟨[(2, .ptr 2 0), (3, .ptr 8 0), (4, .ptr 4 0), (5, iV s.1)],
      [(2, .box [iV 0, .nil, .nil, .nil, .nil, .nil, .nil, .ff, .nil, .nil, .nil, .nil]), (8, .box [u8v raw, iV s.2.1]),
       (4, .box [iV n, alv gus, alv gos, rlv lo, rlv hi', alv rows, tsv ts, zM c.neg, nat c.num, nat c.den, zW 68 5 s.2.2.length, .nil]), (68, .log 5 (fun _ => enc dc s.2.2))]⟩)
    (fun s => s.2.1 ≤ raw.length ∧ P = l9 raw ⟨⟨(n : Int), gus, gos⟩, ⟨lo, hi', rows⟩, ⟨ts, c⟩⟩ n m s.1 s.2.2 s.2.1 ∧ PathOk n m s.2.2 ∧ s.2.2.length + s.1 ≤ 3) (fun s => s.1)
    (k0, a0, []) ⟨ak, hP', ⟨fun d hd => absurd hd (by simp)⟩, by grind⟩
    (.trans (.le (ps' := ⟨[(2, .ptr 2 0), (3, .ptr 8 0), (4, .ptr 4 0), (5, iV k0)],
      [(2, .box [iV 0, .nil, .nil, .nil, .nil, .nil, .nil, .ff, .nil, .nil, .nil, .nil]), (8, .box [u8v raw, iV a0]),
       (4, .box [iV n, alv gus, alv gos, rlv lo, rlv hi', alv rows, tsv ts, zM c.neg, nat c.num, nat c.den, .nil, .nil])]⟩) okZ okZ rfl)
    (.trans (.adoptB (ps := ⟨[(2, .ptr 2 0), (3, .ptr 8 0), (4, .ptr 4 0), (5, iV k0)],
      [(2, .box [iV 0, .nil, .nil, .nil, .nil, .nil, .nil, .ff, .nil, .nil, .nil, .nil]), (8, .box [u8v raw, iV a0]),
       (4, .box [iV n, alv gus, alv gos, rlv lo, rlv hi', alv rows, tsv ts, zM c.neg, nat c.num, nat c.den, .nil, .nil])]⟩)
      (cs := [iV n, alv gus, alv gos, rlv lo, rlv hi', alv rows, tsv ts, zM c.neg, nat c.num, nat c.den, .nil, .nil]) 68 5 4 10 rfl rfl rfl)
    (.trans (.lend 68 5 rfl rfl trivial) (.le okZ ?_ rfl)))) ?_
  · cbv
    exact ⟨okA, okA, okA, zC rfl, trivial⟩
  clear c0 c1 c2 hP' ak b1 k4
  intro s hs
  obtain ⟨k, a, p⟩ := s
  obtain ⟨g1, g2, g3, g4⟩ := hs
  dsimp only at g1 g2 g3 g4
  cbv
  refine zH (fun h => ?_) (fun h => ?_)
  · obtain ⟨j, hj⟩ : ∃ j, k = j + 1 := ⟨k - 1, by exact om⟩
    subst hj
    rw [DY] at g2
    have n1 := cN 4 a (by decide) (by decide) g1
    have hv := hN4 a
    have ha1 := hNl a g1
    generalize fdN raw 4 a = v at *
    generalize na raw a = a1 at *
    cbv
    refine kA (fun _ => 8) n1 ?_
    cbv
    refine ⟨zF om om, ?_⟩
    cbv
    refine zU (fun e1 => ?_) (fun e1 => ?_)
    · have h34 : 1 + v = 3 ∨ 1 + v = 4 := by exact om
      rw [if_pos h34] at g2
      have q1 := cN n a1 oM oM ha1
      have ha2 := hNl a1 ha1
      have hi := hNn n a1 oM
      generalize fdN raw n a1 = i at *
      generalize na raw a1 = a2 at *
      have q2 := cQ a2 ha2
      have ha3 := hQl a2 ha2
      have hf := hQf a2
      generalize fdQ raw a2 = X at *
      obtain ⟨x, a3⟩ := X
      dsimp only at q2 ha3 hf g2
      obtain ⟨Y, hY⟩ := ex (zI x)
      rw [hY] at q2 g2
      cbv
      refine kA (fun _ => 8) q1 ?_
      cbv
      refine kA (fun _ => 8) q2 ?_
      cbv
      refine Kb Hl rfl rfl rfl (by simp [zB]) rfl ⟨by simp [zK, xC]⟩ (z3 oM (by simp [zK, zB]; exact om)) rfl ?_
      cbv
      refine ⟨zF om om, (j, a3, p ++ [⟨((1 + v : Nat) : Int), (i : Int), Y⟩]), ⟨ha3, g2, ⟨fun d hd => by
        rcases w6.1 hd with hd | hd
        · exact g3.d d hd
        · obtain rfl := cM.1 hd
          exact .inr ⟨by grind, by grind, by grind, x, hf, hY.symm⟩⟩, by show (p ++ [_]).length + j ≤ 3; simp; omega⟩, oM, .le okZ ?_ rfl⟩
      cbv
      refine ⟨okA, okA, ⟨lR, lR, lR, lR, lR, lR, lR, lR, lR, lR, zR rfl (by simp [zK, zB]), lR, trivial⟩, zC ?_, trivial⟩
      rw [← bU]
      rfl
    cbv
    refine zH (fun e2 => ?_) (fun e2 => ?_)
    · have h34 : 1 + v = 3 ∨ 1 + v = 4 := by exact om
      rw [if_pos h34] at g2
      have q1 := cN n a1 oM oM ha1
      have ha2 := hNl a1 ha1
      have hi := hNn n a1 oM
      generalize fdN raw n a1 = i at *
      generalize na raw a1 = a2 at *
      have q2 := cQ a2 ha2
      have ha3 := hQl a2 ha2
      have hf := hQf a2
      generalize fdQ raw a2 = X at *
      obtain ⟨x, a3⟩ := X
      dsimp only at q2 ha3 hf g2
      obtain ⟨Y, hY⟩ := ex (zI x)
      rw [hY] at q2 g2
      cbv
      refine kA (fun _ => 8) q1 ?_
      cbv
      refine kA (fun _ => 8) q2 ?_
      cbv
      refine Kb Hl rfl rfl rfl (by simp [zB]) rfl ⟨by simp [zK, xC]⟩ (z3 oM (by simp [zK, zB]; exact om)) rfl ?_
      cbv
      refine ⟨zF om om, (j, a3, p ++ [⟨((1 + v : Nat) : Int), (i : Int), Y⟩]), ⟨ha3, g2, ⟨fun d hd => by
        rcases w6.1 hd with hd | hd
        · exact g3.d d hd
        · obtain rfl := cM.1 hd
          exact .inr ⟨by grind, by grind, by grind, x, hf, hY.symm⟩⟩, by show (p ++ [_]).length + j ≤ 3; simp; omega⟩, oM, .le okZ ?_ rfl⟩
      cbv
      refine ⟨okA, okA, ⟨lR, lR, lR, lR, lR, lR, lR, lR, lR, lR, zR rfl (by simp [zK, zB]), lR, trivial⟩, zC ?_, trivial⟩
      rw [← bU]
      rfl
    have h34 : ¬ (1 + v = 3 ∨ 1 + v = 4) := by exact om
    rw [if_neg h34] at g2
    cbv
    refine zH (fun e3 => ?_) (fun e3 => ?_)
    · have hm : m = 0 := by simp only [zB] at e3; exact om
      rw [if_pos hm] at g2
      cbv
      exact ⟨zF om om, (j, a1, p), ⟨ha1, g2, g3, by grind⟩, oM, wkZ⟩
    have hm : m ≠ 0 := by simp only [zB] at e3; exact om
    rw [if_neg hm] at g2
    have q1 := cN m a1 oM oM ha1
    have ha2 := hNl a1 ha1
    have hi := hNn m a1 oM
    generalize fdN raw m a1 = i at *
    generalize na raw a1 = a2 at *
    have d1 := cD p 1 (i : Int) g3 oM
    have d2 := cD p 2 (i : Int) g3 oM
    generalize hx1 : (⟨⟨⟨(n : Int), gus, gos⟩, ⟨lo, hi', rows⟩, ⟨ts, c⟩⟩, p, []⟩ : Scp).dcd 1 (i : Int) = x1 at *
    generalize hx2 : (⟨⟨⟨(n : Int), gus, gos⟩, ⟨lo, hi', rows⟩, ⟨ts, c⟩⟩, p, []⟩ : Scp).dcd 2 (i : Int) = x2 at *
    clear hx1 hx2
    cbv
    refine kB (fun _ => 8) (.refl _) rfl (by exact ⟨lR, zG (by simp [zB, hq2]), trivial⟩) q1 ?_
    cbv
    have hsl : ∀ q : List Dec, ((enc dc q).drop 0).take q.length = enc dc q := fun q => by rw [v5, yW (by simp [zB])]
    refine j2 (.lend 68 54 rfl rfl ?_) rfl ?_ d1 rfl ?_
    · cbv
      repeat' first | exact trivial | exact yB (by simp [zB]) | apply And.intro
    · cbv
      exact ⟨⟨lR, lR, lR, lR, lR, lR, lR, lR, lR, lR, zT (hsl p), xD rfl, trivial⟩, lR, lR, trivial⟩
    cbv
    refine yH (fun e4 => ?_) (fun e4 => ?_)
    · rw [if_pos (.inl e4)] at g2
      cbv
      exact ⟨zF om om, (j, a2, p), ⟨ha2, g2, g3, by show p.length + j ≤ 3; omega⟩, (by show j < j + 1; omega), wkZ⟩
    cbv
    refine j2 (.lend 68 59 rfl rfl ?_) rfl ?_ d2 rfl ?_
    · cbv
      repeat' first | exact trivial | exact yB (by simp [zB]) | apply And.intro
    · cbv
      exact ⟨⟨lR, lR, lR, lR, lR, lR, lR, lR, lR, lR, zT (hsl p), xD rfl, trivial⟩, lR, lR, trivial⟩
    cbv
    refine zS (fun e5 => ?_) (fun e5 => ?_)
    · rw [if_pos (.inr e5)] at g2
      cbv
      exact ⟨zF om om, (j, a2, p), ⟨ha2, g2, g3, by show p.length + j ≤ 3; omega⟩, (by show j < j + 1; omega), wkZ⟩
    rw [if_neg (by rw [e4, e5]; simp)] at g2
    cbv
    refine Kb Hl rfl rfl rfl (by simp [zB]) rfl ⟨by simp [zK, xC]⟩ (z3 (by simp [zK] <;> omega) (by simp [zK, zB]; exact om)) rfl ?_
    cbv
    refine ⟨zF om om, (j, a2, p ++ [⟨((1 + v : Nat) : Int), (i : Int), R0⟩]), ⟨ha2, g2, ⟨fun d hd => by
      rcases w6.1 hd with hd | hd
      · exact g3.d d hd
      · obtain rfl := cM.1 hd
        exact .inl ⟨by show ((1 + v : Nat) : Int) = 1 ∨ ((1 + v : Nat) : Int) = 2; exact om, by show (0 : Int) ≤ (i : Int); omega, by show (i : Int) < m; omega, rfl⟩⟩, by show (p ++ [_]).length + j ≤ 3; simp; omega⟩, (by show j < j + 1; omega), .le okZ ?_ rfl⟩
    cbv
    refine ⟨okA, okA, ⟨lR, lR, lR, lR, lR, lR, lR, lR, lR, lR, zR rfl (by simp [zK, zB]), lR, trivial⟩, zC ?_, trivial⟩
    rw [← bU]
    rfl
  · have hk : k = 0 := om
    subst hk
    rw [DX] at g2
    subst g2
    cbv
    refine dG ⟨[(2, .ptr 2 0)], [(2, .box [iV n, alv gus, alv gos, rlv lo, rlv hi', alv rows, tsv ts, zM c.neg, nat c.num, nat c.den, dlv P, .nil])]⟩ (.trans (.le (ps' := ⟨[(2, .ptr 2 0)], [(2, .box [iV n, alv gus, alv gos, rlv lo, rlv hi', alv rows, tsv ts, zM c.neg, nat c.num, nat c.den, zW 68 5 P.length, .nil]), (68, .log 5 (fun _ => enc dc P))]⟩) okZ ?_ rfl) (.trans (.frz 68 rfl rfl (by cbv; repeat' first | exact trivial | exact yB (by simp [zB]) | apply And.intro) (by cbv; repeat' first | exact trivial | exact yB (by simp [zB]) | apply And.intro)) (.le okZ ?_ rfl))) rfl ?_
    · cbv
      exact ⟨okA, zC rfl, trivial⟩
    · cbv
      exact ⟨⟨lR, lR, lR, lR, lR, lR, lR, lR, lR, lR, zT (by rw [v5, yW (by simp [zB])]), lR, trivial⟩, trivial⟩
    · cbv
      exact okA
end Go.Proofs.YtboocdbmnfjomaaGreat
