/- A part of the proof: KsD, KsE, KsF, KsG, KpL. -/
import Derived.Test.YtaeaffgjdcigoaaGreatC39
import Derived.Test.YtaeaffgjdcigoaaGreatC49
import Derived.Test.YtaeaffgjdcigoaaGreatC37
import Derived.Test.YtaeaffgjdcigoaaGreatC32
import Derived.Test.YtaeaffgjdcigoaaGreatC26
set_option linter.all false
namespace Go.Proofs.YtaeaffgjdcigoaaGreat
open Go
set_option maxRecDepth 100000
set_option maxHeartbeats 8000000
def ixI (l:List Int) (x:Int):Int:=uP (fun y=>decide (x=y)) l
theorem sIdx (l:List Int)(x:Int)(hl:l.length<2^38):zE 70 [zlv l,.int .i64 (fun _=>x)] (.int .i64 (fun _=>ixI l x)):=by
 refine sF Tryz.f70 ?_;obtain⟨r,hr⟩:∃ r,ixI l x=r:=⟨_,rfl⟩;have h0:r=oW (fun y=>decide (x=y)) (0:Nat) (l.drop 0):=by rw[<-hr];exact (zAR _ _).symm
 have hn:∀ i:Int,oW (fun y=>decide (x=y)) i []=-1:=fun i=>rfl;have hc:∀ (i:Nat) a,l[i]?=some a->oW (fun y=>decide (x=y)) (i:Nat) (l.drop i)=if x=a then (i:Int) else oW (fun y=>decide (x=y)) ((i+1:Nat):Int) (l.drop (i+1)):=fun i a h=>by rw[zY h,zAS];by_cases e:x=a;{rw[if_pos e,if_pos (decide_eq_true e)]};{rw[if_neg e,if_neg (by rw[decide_eq_false e];decide)];rfl}
 rw[hr];obtain⟨I,hI⟩:∃ I:Nat->Int,∀ i,I i=oW (fun y=>decide (x=y)) (i:Nat) (l.drop i):=⟨_,fun _=>rfl⟩;simp only[<-hI] at hc h0;have hN:I l.length=-1:=by rw[hI,w4];rfl
 clear hn hI hr;cbv;refine z3 (σ:=Nat) (fun i=>⟨[(0,zlv l),(1,.int .i64 (fun _=>x)),(7,.int .i64 (fun _=>(l.length:Int))),(8,.int .i64 (fun _=>(i:Int)))],[]⟩) (fun i=>i<=l.length/\r=I i) (fun i=>l.length-i) 0 ⟨xD _,h0⟩ (.le (by cbv;exact⟨lR,lR,zC (by (try dsimp only [zF] at *);rw[zA]),lR,trivial⟩) okZ rfl) ?_;intro i hi;obtain⟨h1,h2⟩:=hi;clear h0;cbv;refine zG (fun h=>?_) (fun h=>?_)
 ·(have hlt:i<l.length:=by (try dsimp only [zF] at *);omega);obtain⟨a,ha⟩:=zT hlt
  have h3:=hc i a ha;clear hc;cbv;refine yX ha nW zB0 ?_;cbv;refine zG (fun e=>?_) (fun e=>?_)
  ·rw[if_pos e] at h3;cbv
   (refine rC ?_;cbv)
   exact zC (by rw[h2,h3])
  {rw[if_neg e] at h3;cbv;exact⟨zD om om,i+1,⟨(show i+1<=_ by omega),h2.trans h3⟩,(show l.length-(i+1)<l.length-i by omega),wkZ⟩}
 ·(have hi':i=l.length:=by (try dsimp only [zF] at *);omega);rw[hi',hN] at h2
  cbv
  (refine rC ?_;cbv)
  exact zC h2.symm
theorem zZC (l:List Int)(x:Int):-1<=ixI l x/\ixI l x<=l.length:=⟨d7 _ _,by
 have:=oU (fun y=>decide (x=y)) l;exact this⟩
abbrev lnO (M:List Int):List (Nat×Obj'):=[(1000000,.box [zlv M])]
abbrev lnF:PV:=.fn 69 [.ptr 1000000 0]
theorem sLn1 (M:List Int)(n:Int)(hl:M.length<2^38):Sound 69 [.int .i64 (fun _=>n),.ptr 1000000 0] (lnO M) [] (.int .i64 (fun _=>ixI M n)) (lnO M) []:=by
 refine sF Tryz.f69 ?_;have c:=sIdx M n hl;generalize ixI M n=r at *
 cbv;refine cA c ?_;cbv;exact lL rfl (lR) rfl rfl rfl rfl
def rnP1 (M:List Int) (x:Int):Int:=if 0<x then ixI M (x-1)+1 else x
def rnP (M:List Int) (m:Mult):Mult:=⟨⟨m.row.k,m.row.i,rnP1 M m.row.lo,rnP1 M m.row.hi⟩,m.c⟩
theorem sRnb (M:List Int)(l:List Mult)(hM:M.length<2^38)(hl:l.length<2^38)(hr:∀ m,m∈l->Rsm m.row):Sound 72 [mlv l,lnF] (lnO M) [] (mlv (l.map (rnP M))) (lnO M) []:=by
 refine sF Tryz.f72 ?_;have c1:=sClM l hl;have c2:=fun n=>sLn1 M n hM;have hb:=zZC M;cbv;refine y0 (fun n=>300) (Wk.sel _ [1,9] [1000000] rfl) rfl okA c1 trivial rfl rfl rfl rfl rfl rfl rfl rfl ?_;cbv;refine z3 (σ:=Nat) (fun i=>⟨[(1,lnF),(5,.osl 300 7 (fun _=>0) (fun _=>l.length)),(12,.int .i64 (fun _=>(l.length:Int))),(13,.int .i64 (fun _=>(i:Int)))],[(1000000,.box [zlv M]),(300,.arr 7 (fun _=>enc mc ((l.take i).map (rnP M)++l.drop i)))]⟩) (fun i=>i<=l.length) (fun i=>l.length-i) 0 (xD _) (.le okZ (by cbv;repeat' first|exact trivial|exact lR|exact zI (by simp)|apply And.intro) rfl) ?_;intro i hi;cbv;refine zG (fun h=>?_) (fun h=>?_)
 ·(have hlt:i<l.length:=by (try dsimp only [zF] at *);omega);obtain⟨m,hm⟩:=zT hlt
  (have hrm:=hr m (yA hm);have hdr:=zY hm;obtain⟨pre,hpre⟩:∃ X,(l.take i).map (rnP M)=X:=⟨_,rfl⟩;obtain⟨post,hpost⟩:∃ X,l.drop (i+1)=X:=⟨_,rfl⟩;have hpl:pre.length=i:=by rw[<-hpre,xA,j5];omega);obtain⟨mk,hmk⟩:∃ mk:Nat->Mult,∀ k,mk k=⟨⟨m.row.k,m.row.i,if 0<k then rnP1 M m.row.lo else m.row.lo,if 1<k then rnP1 M m.row.hi else m.row.hi⟩,m.c⟩:=⟨_,fun _=>rfl⟩
  (have hm0:mk 0=m:=by rw[hmk];rfl);have hm2:mk 2=rnP M m:=by rw[hmk];rfl
  (have hlen:∀ k,(pre++mk k::post).length=l.length:=fun k=>by rw[qZ,kI,<-hpost,m8,hpl];omega);have hget:∀ k,(pre++mk k::post)[i]?=some (mk k):=fun k=>by rw[tI oM,hpl,lX];rfl
  (have hset:∀ k x,(pre++mk k::post).set i x=pre++x::post:=fun k x=>by rw[zJG _ _ oM,hpl,lX];rfl);rw[hpre,hdr,hpost,<-hm0]
  cbv;refine pU (σ:=Unit) (fun _=>⟨[(1,lnF),(5,.osl 300 7 (fun _=>0) (fun _=>l.length)),(12,.int .i64 (fun _=>(l.length:Int))),(13,.int .i64 (fun _=>(i:Int))),(26,.osl 26 1 (fun _=>0) (fun _=>2)),(27,.int .i64 (fun _=>2)),(28,.int .i64 (fun _=>0))],
    [(1000000,.box [zlv M]),(300,.arr 7 (fun _=>enc mc (pre++mk 0::post))),(26,.box [.aptr 300 7 (fun _=>0+((i:Nat):Int).toNat) 2,.aptr 300 7 (fun _=>0+((i:Nat):Int).toNat) 3])]⟩) (fun _=>True) (Wk.sel _ [1,5,6,12,13] [1000000,300] rfl) (by cbv) ?_ ?_
  ·cbv
   repeat' first
    |exact trivial
    |(refine⟨y9 om om,?_⟩;cbv)
    |exact⟨(),trivial,.le (by cbv;repeat' first|exact trivial|exact lR|apply And.intro) (by cbv;repeat' first|exact trivial|exact lR|exact zI rfl|apply And.intro) rfl⟩
    |apply And.intro
  intro _ _;cbv;refine z3 (σ:=Nat) (fun k=>⟨[(1,lnF),(5,.osl 300 7 (fun _=>0) (fun _=>l.length)),(12,.int .i64 (fun _=>(l.length:Int))),(13,.int .i64 (fun _=>(i:Int))),(26,.osl 26 1 (fun _=>0) (fun _=>2)),(27,.int .i64 (fun _=>2)),(28,.int .i64 (fun _=>(k:Int)))],
    [(1000000,.box [zlv M]),(300,.arr 7 (fun _=>enc mc (pre++mk k::post))),(26,.box [.aptr 300 7 (fun _=>0+((i:Nat):Int).toNat) 2,.aptr 300 7 (fun _=>0+((i:Nat):Int).toNat) 3])]⟩) (fun k=>k<=2) (fun k=>2-k) 0 (by decide) (.le okZ (by cbv;repeat' first|exact trivial|exact lR|exact zI rfl|apply And.intro) rfl) ?_
  intro k hk;cbv;refine zG (fun h2=>?_) (fun h2=>?_)
  ·rcases (by (try dsimp only [zF] at *);omega:k=0\/k=1) with rfl|rfl
   ·(have hrl:=hrm.2.1;have hg0:=hget 0;have e0:(mk 0).row.lo=m.row.lo:=by rw[hmk];rfl);have c3:=c2 (m.row.lo-1)
    (have hb3:=hb (m.row.lo-1);have e1:0<m.row.lo->mk 1=⟨⟨(mk 0).row.k,(mk 0).row.i,ixI M (m.row.lo-1)+1,(mk 0).row.hi⟩,(mk 0).c⟩:=fun h=>by simp only[hmk];simp[rnP1,h]);have e2:¬0<m.row.lo->mk 1=mk 0:=fun h=>by simp only[hmk];simp[rnP1,h]
    generalize ixI M (m.row.lo-1)=z at *
    rw[<-e0] at hrl c3 e1 e2;have hs0:=hset 0;have hl0:=hlen 0;clear hget hset hlen hmk hm0 hm2 hb c1 c2;obtain⟨q',hq'⟩:∃ X,mk 1=X:=⟨_,rfl⟩;rw[hq'] at e1 e2;generalize mk 0=q at *
    (clear e0;cbv;refine⟨y9 om om,⟨⟨(by show 0+((0:Nat):Int).toNat<2;decide),?_⟩⟩⟩;cbv;refine j4 (l:=pre++q::post) i om oM vP wA (fun t ht=>?_);obtain rfl:q=t:=by rw[hg0] at ht;exact vN ht);cbv
    refine zG (fun h3=>?_) (fun h3=>?_)
    ·(have e1':=e1 h3;clear e1 e2;cbv;refine j4 (l:=pre++q::post) i om oM vP wA (fun t ht=>?_);obtain rfl:q=t:=by rw[hg0] at ht;exact vN ht);cbv
     (refine⟨zD om om,?_⟩;cbv;refine y0 (fun n=>n) (.refl _) rfl okA c3 ⟨⟨rfl,rfl⟩,trivial⟩ rfl rfl rfl rfl rfl rfl rfl rfl ?_;cbv;refine⟨zD om om,j4 (l:=pre++q::post) i om oM vP wA (fun t ht=>?_)⟩;obtain rfl:q=t:=by rw[hg0] at ht;exact vN ht);cbv
     (have hels:(enc mc (pre++q::post)).set (0+((i:Nat):Int).toNat) (wB (mc ⟨⟨q.row.k,q.row.i,z+1,q.row.hi⟩,q.c⟩))=enc mc (pre++mk 1::post):=by rw[pT,show 0+((i:Nat):Int).toNat=i by omega,hs0,hq',e1']);exact⟨zD om om,1,(by decide),(by decide),.le okZ (by cbv;repeat' first|exact trivial|exact lR|exact zI hels|apply And.intro) rfl⟩
    {have e2':=e2 h3;clear e1 e2;cbv;exact⟨zD om om,1,(by decide),(by decide),.le okZ (by cbv;repeat' first|exact trivial|exact lR|exact zI (by rw[hq',e2'])|apply And.intro) rfl⟩}
   ·(have hrl:=hrm.2.2;have hg0:=hget 1;have e0:(mk 1).row.hi=m.row.hi:=by rw[hmk];rfl);have c3:=c2 (m.row.hi-1)
    (have hb3:=hb (m.row.hi-1);have e1:0<m.row.hi->mk 2=⟨⟨(mk 1).row.k,(mk 1).row.i,(mk 1).row.lo,ixI M (m.row.hi-1)+1⟩,(mk 1).c⟩:=fun h=>by simp only[hmk];simp[rnP1,h]);have e2:¬0<m.row.hi->mk 2=mk 1:=fun h=>by simp only[hmk];simp[rnP1,h]
    generalize ixI M (m.row.hi-1)=z at *
    rw[<-e0] at hrl c3 e1 e2;have hs0:=hset 1;have hl0:=hlen 1;clear hget hset hlen hmk hm0 hm2 hb c1 c2;obtain⟨q',hq'⟩:∃ X,mk 2=X:=⟨_,rfl⟩;rw[hq'] at e1 e2;generalize mk 1=q at *
    (clear e0;cbv;refine⟨y9 om om,⟨⟨(by show 0+((1:Nat):Int).toNat<2;decide),?_⟩⟩⟩;cbv;refine j4 (l:=pre++q::post) i om oM vP wA (fun t ht=>?_);obtain rfl:q=t:=by rw[hg0] at ht;exact vN ht);cbv
    refine zG (fun h3=>?_) (fun h3=>?_)
    ·(have e1':=e1 h3;clear e1 e2;cbv;refine j4 (l:=pre++q::post) i om oM vP wA (fun t ht=>?_);obtain rfl:q=t:=by rw[hg0] at ht;exact vN ht);cbv
     (refine⟨zD om om,?_⟩;cbv;refine y0 (fun n=>n) (.refl _) rfl okA c3 ⟨⟨rfl,rfl⟩,trivial⟩ rfl rfl rfl rfl rfl rfl rfl rfl ?_;cbv;refine⟨zD om om,j4 (l:=pre++q::post) i om oM vP wA (fun t ht=>?_)⟩;obtain rfl:q=t:=by rw[hg0] at ht;exact vN ht);cbv
     (have hels:(enc mc (pre++q::post)).set (0+((i:Nat):Int).toNat) (wB (mc ⟨⟨q.row.k,q.row.i,q.row.lo,z+1⟩,q.c⟩))=enc mc (pre++mk 2::post):=by rw[pT,show 0+((i:Nat):Int).toNat=i by omega,hs0,hq',e1']);exact⟨zD om om,2,(by decide),(by decide),.le okZ (by cbv;repeat' first|exact trivial|exact lR|exact zI hels|apply And.intro) rfl⟩
    {have e2':=e2 h3;clear e1 e2;cbv;exact⟨zD om om,2,(by decide),(by decide),.le okZ (by cbv;repeat' first|exact trivial|exact lR|exact zI (by rw[hq',e2'])|apply And.intro) rfl⟩}
  ·(have hk2:k=2:=by (try dsimp only [zF] at *);omega);subst hk2
   (have he:(l.take (i+1)).map (rnP M)++l.drop (i+1)=pre++mk 2::post:=by rw[tF,hm,hpost,hm2,gE,hpre,zMI];rfl);clear hget hset hlen hmk hm0 hm2 hb c1 c2
   cbv;exact⟨zD om om,i+1,(show i+1<=l.length by omega),(show l.length-(i+1)<l.length-i by omega),.le okZ (by cbv;repeat' first|exact trivial|exact lR|exact zI (by rw[he])|apply And.intro) rfl⟩
 ·(have hi':i=l.length:=by (try dsimp only [zF] at *);omega);have hT:(((enc mc ((l.take i).map (rnP M)++l.drop i)).drop 0).take l.length)=enc mc (l.map (rnP M)):=by rw[hi',v9,w4,uU,wC,yS (by rw[zA,xA];exact zZ _)]
  (have hfr:0+l.length<=(enc mc ((l.take i).map (rnP M)++l.drop i)).length:=by rw[zA,qZ,xA,j5,m8];omega);cbv
  refine zBS (.trans (.frz 300 rfl rfl (by cbv;repeat' first|exact trivial|exact z8 hfr|apply And.intro) (by cbv;repeat' first|exact trivial|apply And.intro)) (.le (ps':=⟨[(4,mlv (l.map (rnP M)))],[(1000000,.box [zlv M])]⟩) ?_ ?_ rfl)) rfl (lR) rfl rfl rfl rfl;{cbv;exact⟨zR hT,trivial⟩};{cbv;exact okA}
theorem sClK (l:List Lem)(hl:l.length<2^38):Sound 146 [llv l] [] [] (.osl 100 6 (fun _=>0) (fun _=>l.length)) [] [(100,.arr 6 (fun _=>enc lc l))]:=by
 refine sF Tryz.f146 ?_;cbv;refine⟨fun b hb=>?_⟩;cbv;refine zP (fun h=>?_) (fun h=>?_)
 ·(have hb':=hb h;have hl0:l=[]:=by have:=congrArg List.length hb';rw[zA] at this;exact kR this);cbv;subst hl0;refine tC (ps':=⟨[(2,.osl 100 6 (fun _=>0) (fun _=>0))],[(100,.arr 6 (fun _=>[]))]⟩) 100 (.trans (.le (ps':=⟨[(2,.nil)],[]⟩) ?_ trivial rfl) (.adoptT (ps:=⟨[(2,.nil)],[]⟩) 100 6 2 rfl rfl)) rfl rfl rfl ?_;{cbv;exact okA};{cbv;exact yC rfl rfl}
 {cbv;refine wE tP rfl rfl rfl rfl rfl (w6 wJ _) (yD om (by simp only[sZ,zA];(try dsimp only [zF] at *);omega)) rfl ?_;cbv;refine tC (ps':=⟨[(2,.osl 7 6 (fun _=>0) (fun _=>l.length))],[(7,.arr 6 (fun _=>enc lc l))]⟩) 7 (.le ?_ ?_ rfl) rfl rfl rfl ?_;{cbv;exact⟨yC rfl (by simp[zA]),trivial⟩};{cbv;exact⟨zI rfl,trivial⟩};{cbv;exact lR}}
def rnL (M:List Int) (m:Lem):Lem:=⟨m.u,m.up,m.v,m.pf.map (rnP M)⟩
theorem sRna (M:List Int)(l:List Lem)(hM:M.length<2^38)(hl:l.length<2^38)(hp:∀ m,m∈l->m.pf.length<2^38/\∀ y,y∈m.pf->Rsm y.row):Sound 71 [llv l,lnF] (lnO M) [] (llv (l.map (rnL M))) (lnO M) []:=by
 refine sF Tryz.f71 ?_;have c1:=sClK l hl;have c2:=fun m (h:m∈l)=>sRnb M m.pf hM (hp m h).1 (hp m h).2;clear hp;cbv;refine y0 (fun n=>300) (Wk.sel _ [1,7] [1000000] rfl) rfl okA c1 trivial rfl rfl rfl rfl rfl rfl rfl rfl ?_;cbv;refine z3 (σ:=Nat) (fun i=>⟨[(1,lnF),(5,.osl 300 6 (fun _=>0) (fun _=>l.length)),(10,.int .i64 (fun _=>(l.length:Int))),(11,.int .i64 (fun _=>(i:Int)))],[(1000000,.box [zlv M]),(300,.arr 6 (fun _=>enc lc ((l.take i).map (rnL M)++l.drop i)))]⟩) (fun i=>i<=l.length) (fun i=>l.length-i) 0 (xD _) (.le okZ (by cbv;repeat' first|exact trivial|exact lR|exact zI (by simp)|apply And.intro) rfl) ?_;intro i hi;cbv;refine zG (fun h=>?_) (fun h=>?_)
 ·(have hlt:i<l.length:=by (try dsimp only [zF] at *);omega);obtain⟨m,hm⟩:=zT hlt
  (have c3:=c2 m (yA hm);have hdr:=zY hm;obtain⟨pre,hpre⟩:∃ X,(l.take i).map (rnL M)=X:=⟨_,rfl⟩;obtain⟨post,hpost⟩:∃ X,l.drop (i+1)=X:=⟨_,rfl⟩;have hpl:pre.length=i:=by rw[<-hpre,xA,j5];omega);have hlen:(pre++m::post).length=l.length:=by rw[qZ,kI,<-hpost,m8,hpl];omega
  (have hget:(pre++m::post)[i]?=some m:=by rw[tI oM,hpl,lX];rfl);have hset:∀ x,(pre++m::post).set i x=pre++x::post:=fun x=>by rw[zJG _ _ oM,hpl,lX];rfl
  (have he:(l.take (i+1)).map (rnL M)++l.drop (i+1)=pre++rnL M m::post:=by rw[tF,hm,hpost,gE,hpre,zMI];rfl);have hr:rnL M m=⟨m.u,m.up,m.v,m.pf.map (rnP M)⟩:=rfl
  rw[hpre,hdr,hpost];generalize m.pf.map (rnP M)=pf' at *
  (clear c1 c2;cbv;refine⟨y9 om om,j4 (l:=pre++m::post) i om oM xX wJ (fun t ht=>?_)⟩;obtain rfl:m=t:=by rw[hget] at ht;exact vN ht);cbv
  (refine y0 (fun n=>n) (.refl _) rfl (by exact⟨lR,⟨rfl,lR,trivial⟩,trivial⟩) c3 ⟨⟨rfl,rfl⟩,trivial⟩ rfl rfl rfl rfl rfl rfl rfl rfl ?_;cbv;refine⟨y9 om om,j4 (l:=pre++m::post) i om oM xX wJ (fun t ht=>?_)⟩;obtain rfl:m=t:=by rw[hget] at ht;exact vN ht);cbv
  (have hels:(enc lc (pre++m::post)).set (0+((i:Nat):Int).toNat) (wB (lc ⟨m.u,m.up,m.v,pf'⟩))=enc lc ((l.take (i+1)).map (rnL M)++l.drop (i+1)):=by rw[pT,show 0+((i:Nat):Int).toNat=i by omega,hset,he,hr]);exact⟨zD om om,i+1,(show i+1<=l.length by omega),(show l.length-(i+1)<l.length-i by omega),.le okZ (by cbv;repeat' first|exact trivial|exact lR|exact zI hels|apply And.intro) rfl⟩
 ·(have hi':i=l.length:=by (try dsimp only [zF] at *);omega);have hT:(((enc lc ((l.take i).map (rnL M)++l.drop i)).drop 0).take l.length)=enc lc (l.map (rnL M)):=by rw[hi',v9,w4,uU,wC,yS (by rw[zA,xA];exact zZ _)]
  (have hfr:0+l.length<=(enc lc ((l.take i).map (rnL M)++l.drop i)).length:=by rw[zA,qZ,xA,j5,m8];omega);cbv
  refine zBS (.trans (.frz 300 rfl rfl (by cbv;repeat' first|exact trivial|exact z8 hfr|apply And.intro) (by cbv;repeat' first|exact trivial|apply And.intro)) (.le (ps':=⟨[(4,llv (l.map (rnL M)))],[(1000000,.box [zlv M])]⟩) ?_ ?_ rfl)) rfl (lR) rfl rfl rfl rfl;{cbv;exact⟨zR hT,trivial⟩};{cbv;exact okA}
def Scp.closes (s:Scp) (em:Bool) (l:List Mult):Bool:=if em=true then s.refutes l else s.proves s.q.goal l
theorem sPvs (s:Scp)(em:Bool)(l:List Mult)(hs:s.sz (2^20))(hl:Msz (2^23) l)(hn:l.length<=100):zE 65 [sv s,.bool (fun _=>em),mlv l] (.bool (fun _=>s.closes em l)):=by
 refine sF Tryz.f65 ?_;have c1:=zLO s l hs hl hn;have c2:=zFY s s.q.goal l hs (hs.q.goal.mono (by decide)) hl hn;have e1:em=true->s.closes em l=s.refutes l:=fun h=>by unfold Scp.closes;rw[if_pos h]
 have e2:em=false->s.closes em l=s.proves s.q.goal l:=fun h=>by unfold Scp.closes;rw[if_neg (by rw[h];decide)]
 generalize s.closes em l=r at *
 generalize s.refutes l=r1 at *
 generalize s.proves s.q.goal l=r2 at *
 clear hs;obtain⟨⟨⟨n,us,os⟩,⟨lo,hi',rows⟩,⟨ts,c⟩⟩,path,L⟩:=s;dsimp only [sv] at *
 cbv;refine zP (fun e=>?_) (fun e=>?_)
 ·have:=e1 e;subst this;cbv;refine cA c1 ?_;cbv
  (refine rC ?_;cbv)
  exact lR
 ·have:=e2 e;subst this;cbv;refine cA c2 ?_;cbv
  (refine rC ?_;cbv)
  exact lR
structure Rsn where
 cl:List vR
 lems:List Lem
 em:Bool
 pf:List Mult
abbrev rsv (r:Rsn):PV:=.agg [lE r.cl,llv r.lems,.bool (fun _=>r.em),mlv r.pf]
def R00n:Rsn:=⟨[],[],false,[]⟩
def Scp.dec (s:Scp) (k:Int):Dec:=(s.path[k.toNat]?).getD ⟨0,0,R0⟩
def Scp.lemA (s:Scp) (k:Int):Lem:=(s.lems[k.toNat]?).getD ⟨0,false,R0,[]⟩
def lgo (s:Scp):List Int->List vR->Option (List vR)
 |[],acc=>some acc
 |k::r,acc=>match litO (s.dec k) with
  |none=>none| some x=>lgo s r (acc++[(x.1,!x.2)])
def zBY (s:Scp) (em:Bool) (l:List Mult):Rsn×Int :=
 if s.scopeB=false then (R00n,1)
 else if s.closes em l=false then (R00n,12)
 else match lgo s (uY (s.marks l).1) [] with
  |none=>(R00n,10)
  |some ls=>match mkP ls with
   |none=>(R00n,10)| some c=>(⟨c,((uY (s.marks l).2).map s.lemA).map (rnL (uY (s.marks l).2)),em,l.map (rnP (uY (s.marks l).2))⟩,0)
structure LrnOk (s:Scp) (l:List Mult):Prop where
 sz:s.sz (2^20)
 pf:∀ m,m∈s.lems->m.pf.length<=100/\∀ y,y∈m.pf->Rsm y.row
 lz:Msz (2^23) l
 n:l.length<=100
 r:∀ m,m∈l->Rsm m.row
 u:zE 14 [sv s,mlv l] (.tup [zlv (uY (s.marks l).1),zlv (uY (s.marks l).2)])
 d:∀ k,k∈uY (s.marks l).1->0<=k/\k<s.path.length
 mm:∀ k,k∈uY (s.marks l).2->0<=k/\k<s.lems.length
 dl:(uY (s.marks l).1).length<=12
 ml:(uY (s.marks l).2).length<=1000
 nr:∀ ls,lgo s (uY (s.marks l).1) []=some ls->zMB (rW ls).reverse
theorem sLrn (s:Scp)(em:Bool)(l:List Mult)(h:LrnOk s l):zE 20 [sv s,.bool (fun _=>em),mlv l] (.tup [rsv (zBY s em l).1,.int .i64 (fun _=>(zBY s em l).2)]):=by
 refine sF Tryz.f20 ?_;have c1:=zJU s h.sz (fun m hm=>(h.pf m hm).1);have c2:=sPvs s em l h.sz h.lz h.n;have c3:=h.u;have hR:zBY s em l=if s.scopeB=false then ((R00n,1):Rsn×Int)
  else if s.closes em l=false then (R00n,12)
  else match lgo s (uY (s.marks l).1) [] with
   |none=>(R00n,10)
   |some ls=>match mkP ls with
    |none=>(R00n,10)| some c=>(⟨c,((uY (s.marks l).2).map s.lemA).map (rnL (uY (s.marks l).2)),em,l.map (rnP (uY (s.marks l).2))⟩,0):=rfl
 have hd:=h.d;have hm:=h.mm;have hdl:=h.dl;have hml:=h.ml;have hnr:=h.nr;have hdc:∀ k,k∈uY (s.marks l).1->s.path[k.toNat]?=some (s.dec k):=fun k hk=>by obtain⟨g1,g2⟩:=hd k hk;obtain⟨d,hd'⟩:=zT (l:=s.path) (i:=k.toNat) oM;unfold Scp.dec;rw[hd'];rfl
 have hlm:∀ k,k∈uY (s.marks l).2->s.lems[k.toNat]?=some (s.lemA k):=fun k hk=>by obtain⟨g1,g2⟩:=hm k hk;obtain⟨d,hd'⟩:=zT (l:=s.lems) (i:=k.toNat) oM;unfold Scp.lemA;rw[hd'];rfl
 have c8:=sRnb (uY (s.marks l).2) l oM (xP h.n (by decide)) h.r;have c7:=sRna (uY (s.marks l).2) ((uY (s.marks l).2).map s.lemA) oM (by rw[xA];omega) (fun m' hm'=>by obtain⟨k,hk,rfl⟩:=y8.1 hm';obtain⟨g1,g2⟩:=h.pf _ (yA (hlm k hk));exact⟨by omega,g2⟩);have c4:=fun k=>sKlP (s.dec k);have c6:=fun ls (h1:lgo s (uY (s.marks l).1) []=some ls) (h2:ls.length<=12)=>sMkP ls h2 (hnr ls h1);have hpl:=h.sz.path.len;have hll:=h.sz.lems.len;have hgo:∀ k r acc,lgo s (k::r) acc=match litO (s.dec k) with
  |none=>none| some x=>lgo s r (acc++[(x.1,!x.2)]):=fun _ _ _=>rfl
 have hgn:∀ acc,lgo s [] acc=some acc:=fun _=>rfl;obtain⟨RR,hRR⟩:∃ R,zBY s em l=R:=⟨_,rfl⟩;rw[hRR] at hR ⊢;obtain⟨GO,hGO⟩:∃ GO:List Int->List vR->Option (List vR),∀ r acc,lgo s r acc=GO r acc:=⟨_,fun _ _=>rfl⟩;simp only[hGO] at hgo hgn c6 hR;clear hRR hGO hnr h;generalize s.scopeB=b1 at *
 generalize s.closes em l=b2 at *
 generalize uY (s.marks l).1=D at *
 generalize uY (s.marks l).2=M at *
 generalize (M.map s.lemA).map (rnL M)=L7 at *
 generalize l.map (rnP M)=l8 at *
 generalize Scp.dec s=dec at *
 generalize Scp.lemA s=lemA at *
 obtain⟨r1,e9⟩:=RR;obtain⟨⟨⟨n,us,os⟩,⟨lo,hi',rows⟩,⟨ts,c⟩⟩,path,L⟩:=s;dsimp only [sv] at *
 cbv;refine cA c1 ?_;cbv;refine zP (fun e=>?_) (fun e=>?_)
 rotate_left
 ·rw[if_pos e] at hR;cases hR;cbv
  (refine rC ?_;cbv)
  exact okA
 rw[if_neg (by rw[e];decide)] at hR;cbv;refine cA c2 ?_;cbv;refine zP (fun e2=>?_) (fun e2=>?_)
 rotate_left
 ·rw[if_pos e2] at hR;cases hR;cbv
  (refine rC ?_;cbv)
  exact okA
 rw[if_neg (by rw[e2];decide)] at hR;clear c1 c2;cbv;refine cA c3 ?_;cbv;refine z3 (σ:=Nat×List vR) (fun t=>⟨[(1,.bool (fun _=>em)),(2,mlv l),(3,.ptr 3 0),(6,.ptr 6 0),(9,.ptr 9 0),(10,.osl 59 2 (fun _=>0) (fun _=>t.2.length)),(37,zlv D),(38,.int .i64 (fun _=>(D.length:Int))),(39,.int .i64 (fun _=>(t.1:Int)))],[(3,.box [.int .i64 (fun _=>n),alv us,alv os,rlv lo,rlv hi',alv rows,tsv ts,.bool (fun _=>c.neg),nat c.num,nat c.den,dlv path,llv L]),(6,.box [.nil,.nil,.ff,.nil]),(9,.box [zlv M]),(59,.arr 2 (fun _=>enc ltc t.2))]⟩)
  (fun t=>t.1<=D.length/\GO D []=GO (D.drop t.1) t.2/\t.2.length=t.1) (fun t=>D.length-t.1) (0,[]) ⟨xD _,rfl,rfl⟩
  (.trans (.le (ps':=⟨[(1,.bool (fun _=>em)),(2,mlv l),(3,.ptr 3 0),(6,.ptr 6 0),(9,.ptr 9 0),(10,.nil),(37,zlv D),(38,.int .i64 (fun _=>(D.length:Int))),(39,.int .i64 (fun _=>((0:Nat):Int)))],[(3,.box [.int .i64 (fun _=>n),alv us,alv os,rlv lo,rlv hi',alv rows,tsv ts,.bool (fun _=>c.neg),nat c.num,nat c.den,dlv path,llv L]),(6,.box [.nil,.nil,.ff,.nil]),(9,.box [zlv M])]⟩) (by cbv;repeat' first|exact trivial|exact lR|exact zC (by (try dsimp only [zF] at *);rw[zA])|apply And.intro) okZ rfl)
   (.trans (.adoptT (ps:=⟨[(1,.bool (fun _=>em)),(2,mlv l),(3,.ptr 3 0),(6,.ptr 6 0),(9,.ptr 9 0),(10,.nil),(37,zlv D),(38,.int .i64 (fun _=>(D.length:Int))),(39,.int .i64 (fun _=>((0:Nat):Int)))],[(3,.box [.int .i64 (fun _=>n),alv us,alv os,rlv lo,rlv hi',alv rows,tsv ts,.bool (fun _=>c.neg),nat c.num,nat c.den,dlv path,llv L]),(6,.box [.nil,.nil,.ff,.nil]),(9,.box [zlv M])]⟩) 59 2 10 rfl rfl) (wkZ))) ?_
 intro t ht;obtain⟨i,acc⟩:=t;obtain⟨h1,h2,h3⟩:=ht;dsimp only at h1 h2 h3;cbv;refine zG (fun h=>?_) (fun h=>?_)
 ·(have hlt:i<D.length:=by (try dsimp only [zF] at *);omega);obtain⟨k,hk⟩:=zT hlt
  have hkm:=yA hk;have hp:=hdc k hkm;obtain⟨k0,k1⟩:=hd k hkm;have c5:=c4 k;rw[zY hk,hgo] at h2;generalize dec k=d at *
  clear c4 c6 c7 c8 hdc hd hlm hm;cbv;refine yX hk nW zB0 ?_;cbv;refine xL hp om qM jH ?_;cbv;refine cA c5 ?_;cbv;cases hx:litO d with
  |none =>
   rw[hx] at h2;dsimp only at h2;rw[h2] at hR;dsimp only at hR;cases hR;cbv;refine zI9 rfl ?_;cbv
   (refine rC ?_;cbv)
   exact okA
  |some x =>
   (rw[hx] at h2;dsimp only at h2;have c9:=sKo1 x;have hen:enc ltc (acc++[(x.1,!x.2)])=enc ltc acc++zS [ltc (x.1,!x.2)]:=by simp[enc,zS]);have hal:(acc++[(x.1,!x.2)]).length=i+1:=by rw[qZ,h3];rfl
   clear c5 hR;obtain⟨x1,x2⟩:=x;dsimp only at *
   cbv;refine pV rfl ?_;cbv;refine cA c9 ?_;cbv;refine mT zSH rfl rfl rfl (by simp[zA]) rfl ⟨by simp[zS,wB]⟩ (yD (by simp[zS,zA] <;> omega) (by simp[zS,zA] at *;(try dsimp only [zF] at *);omega)) rfl ?_;cbv;exact⟨zD om om,(i+1,acc++[(x1,!x2)]),⟨(show i+1<=D.length by omega),h2,hal⟩,(show D.length-(i+1)<D.length-i by omega),.le (by cbv;repeat' first|exact trivial|exact lR|exact yC rfl (by simp[zS,zA])|exact zC om|apply And.intro) (by cbv;repeat' first|exact trivial|exact lR|exact zI (by rw[hen];rfl)|apply And.intro) rfl⟩
 have hiD:i=D.length:=by (try dsimp only [zF] at *);omega
 rw[hiD,w4,hgn] at h2;rw[h2] at hR;dsimp only at hR;have c6':=c6 acc h2 oM;have hT:((enc ltc acc).drop 0).take acc.length=enc ltc acc:=by rw[wC,<-zA ltc acc,v9]
 have hfr:0+acc.length<=(enc ltc acc).length:=by rw[zA];omega
 clear c6 c4 h2 hgo hgn hdc hd;cbv;refine kQ (.frz 59 rfl rfl (by cbv;repeat' first|exact trivial|exact z8 hfr|apply And.intro) (by cbv;repeat' first|exact trivial|apply And.intro)) rfl (by exact⟨zR hT,trivial⟩) c6' rfl ?_;cbv;cases hx:mkP acc with
 |none =>
  rw[hx] at hR;dsimp only at hR;cases hR;cbv;refine zI9 rfl ?_;cbv
  (refine rC ?_;cbv)
  exact okA
 |some cl =>
  rw[hx] at hR;dsimp only at hR;cases hR;clear c6';cbv;refine pV rfl ?_;cbv;refine z3 (σ:=Nat) (fun i=>⟨[(2,mlv l),(3,.ptr 3 0),(6,.ptr 6 0),(17,.ptr 17 0),(18,.fn 69 [.ptr 9 0]),(73,zlv M),(74,.int .i64 (fun _=>(M.length:Int))),(75,.int .i64 (fun _=>(i:Int)))],[(3,.box [.int .i64 (fun _=>n),alv us,alv os,rlv lo,rlv hi',alv rows,tsv ts,.bool (fun _=>c.neg),nat c.num,nat c.den,dlv path,llv L]),(6,.box [.nil,.nil,.ff,.nil]),(9,.box [zlv M]),(17,.box [lE cl,.osl 87 6 (fun _=>0) (fun _=>i),.bool (fun _=>em),.nil]),(87,.arr 6 (fun _=>enc lc ((M.take i).map lemA)))]⟩)
   (fun i=>i<=M.length) (fun i=>M.length-i) 0 (xD _)
   (.trans (.le (ps':=⟨[(2,mlv l),(3,.ptr 3 0),(6,.ptr 6 0),(17,.ptr 17 0),(18,.fn 69 [.ptr 9 0]),(73,zlv M),(74,.int .i64 (fun _=>(M.length:Int))),(75,.int .i64 (fun _=>((0:Nat):Int)))],[(3,.box [.int .i64 (fun _=>n),alv us,alv os,rlv lo,rlv hi',alv rows,tsv ts,.bool (fun _=>c.neg),nat c.num,nat c.den,dlv path,llv L]),(6,.box [.nil,.nil,.ff,.nil]),(9,.box [zlv M]),(17,.box [lE cl,.nil,.bool (fun _=>em),.nil])]⟩) (by cbv;repeat' first|exact trivial|exact lR|exact zC (by (try dsimp only [zF] at *);rw[zA])|apply And.intro) okZ rfl)
    (.trans (.adoptB (ps:=⟨[(2,mlv l),(3,.ptr 3 0),(6,.ptr 6 0),(17,.ptr 17 0),(18,.fn 69 [.ptr 9 0]),(73,zlv M),(74,.int .i64 (fun _=>(M.length:Int))),(75,.int .i64 (fun _=>((0:Nat):Int)))],[(3,.box [.int .i64 (fun _=>n),alv us,alv os,rlv lo,rlv hi',alv rows,tsv ts,.bool (fun _=>c.neg),nat c.num,nat c.den,dlv path,llv L]),(6,.box [.nil,.nil,.ff,.nil]),(9,.box [zlv M]),(17,.box [lE cl,.nil,.bool (fun _=>em),.nil])]⟩) (cs:=[lE cl,.nil,.bool (fun _=>em),.nil]) 87 6 17 1 rfl rfl rfl) (wkZ))) ?_
  intro i hi;cbv;refine zG (fun h=>?_) (fun h=>?_)
  ·(have hlt:i<M.length:=by (try dsimp only [zF] at *);omega);obtain⟨k,hk⟩:=zT hlt
   (have hkm:=yA hk;have hp:=hlm k hkm;obtain⟨k0,k1⟩:=hm k hkm;have hen:enc lc ((M.take (i+1)).map lemA)=enc lc ((M.take i).map lemA)++zS [lc (lemA k)]:=by rw[tF,hk];simp[enc,zS]);have hln:(enc lc ((M.take i).map lemA)).length=i:=by rw[zA,xA,j5];omega
   generalize lemA k=m at *
   clear c7 c8 hlm hm;cbv;refine yX hk nW zB0 ?_;cbv;refine zN 8 (by cbv) ?_;cbv;refine xL hp om xX wJ ?_;cbv;refine mT tP rfl rfl rfl (by rw[hln]) rfl ⟨by simp[zS,wB]⟩ (yD (by rw[hln];simp[zS] <;> omega) (by rw[hln];simp[zS];(try dsimp only [zF] at *);omega)) rfl ?_;cbv;exact⟨zD om om,i+1,(show i+1<=M.length by omega),(show M.length-(i+1)<M.length-i by omega),.le okZ (by cbv;repeat' first|exact trivial|exact lR|exact yC rfl (by rw[hln];simp[zS])|exact zI (by rw[hen];rfl)|apply And.intro) rfl⟩
  ·(have hiM:i=M.length:=by (try dsimp only [zF] at *);omega);have hen:enc lc ((M.take i).map lemA)=enc lc (M.map lemA):=by rw[hiM,v9]
   (have hT2:((enc lc ((M.take i).map lemA)).drop 0).take i=enc lc (M.map lemA):=by rw[hen,wC,yS (by rw[zA,xA];omega)]);have hfr2:0+i<=(enc lc ((M.take i).map lemA)).length:=by rw[hen,zA,xA];omega
   clear hlm hm hen;cbv;refine y0 (fun _=>9) (.frz 87 rfl rfl (by cbv;repeat' first|exact trivial|exact z8 hfr2|apply And.intro) (by cbv;repeat' first|exact trivial|exact z8 hfr2|apply And.intro)) rfl (by exact⟨zR hT2,⟨rfl,lR,trivial⟩,trivial⟩) c7 ⟨⟨rfl,rfl⟩,trivial⟩ rfl rfl rfl rfl rfl rfl rfl rfl ?_;cbv;refine y0 (fun _=>9) (.refl _) rfl (by exact⟨lR,⟨rfl,lR,trivial⟩,trivial⟩) c8 ⟨⟨rfl,rfl⟩,trivial⟩ rfl rfl rfl rfl rfl rfl rfl rfl ?_;cbv
   (refine rC ?_;cbv)
   exact okA
def oppD (l:vR):Dec:=⟨if (!l.2)=true then 1 else 2,l.1,R0⟩
def rscp (q:Qry) (r:Rsn):Scp:=⟨q,r.cl.map oppD,r.lems⟩
theorem sRsc (q:Qry)(r:Rsn)(hc:r.cl.length<2^30):zE 32 [qv q,rsv r] (sv (rscp q r)):=by
 refine sF Tryz.f32 ?_;have c1:=fun l:vR=>sKo1 l;have c2:=fun l:vR=>sKdP l;have hS:rscp q r=⟨q,r.cl.map oppD,r.lems⟩:=rfl;obtain⟨S9,hS9⟩:∃ S,rscp q r=S:=⟨_,rfl⟩;rw[hS9] at hS ⊢;clear hS9;obtain⟨cl,lems,em,pf⟩:=r;obtain⟨⟨n,us,os⟩,⟨lo,hi',rows⟩,⟨ts,c⟩⟩:=q;dsimp only at *
 subst hS;dsimp only [sv] at *
 cbv;refine z3 (σ:=Nat) (fun i=>⟨[(4,.ptr 4 0),(5,.ptr 5 0),(13,lE cl),(14,.int .i64 (fun _=>(cl.length:Int))),(15,.int .i64 (fun _=>(i:Int)))],[(4,.box [.int .i64 (fun _=>0),.nil,.nil,.nil,.nil,.nil,.nil,.ff,.nil,.nil,.nil,.nil]),(5,.box [.int .i64 (fun _=>n),alv us,alv os,rlv lo,rlv hi',alv rows,tsv ts,.bool (fun _=>c.neg),nat c.num,nat c.den,.osl 25 5 (fun _=>0) (fun _=>i),llv lems]),(25,.arr 5 (fun _=>enc dc ((cl.take i).map oppD)))]⟩)
  (fun i=>i<=cl.length) (fun i=>cl.length-i) 0 (xD _)
  (.trans (.le (ps':=⟨[(4,.ptr 4 0),(5,.ptr 5 0),(13,lE cl),(14,.int .i64 (fun _=>(cl.length:Int))),(15,.int .i64 (fun _=>((0:Nat):Int)))],[(4,.box [.int .i64 (fun _=>0),.nil,.nil,.nil,.nil,.nil,.nil,.ff,.nil,.nil,.nil,.nil]),(5,.box [.int .i64 (fun _=>n),alv us,alv os,rlv lo,rlv hi',alv rows,tsv ts,.bool (fun _=>c.neg),nat c.num,nat c.den,.nil,llv lems])]⟩) (by cbv;repeat' first|exact trivial|exact lR|exact zC (by (try dsimp only [zF] at *);rw[zA])|apply And.intro) okZ rfl)
   (.trans (.adoptB (ps:=⟨[(4,.ptr 4 0),(5,.ptr 5 0),(13,lE cl),(14,.int .i64 (fun _=>(cl.length:Int))),(15,.int .i64 (fun _=>((0:Nat):Int)))],[(4,.box [.int .i64 (fun _=>0),.nil,.nil,.nil,.nil,.nil,.nil,.ff,.nil,.nil,.nil,.nil]),(5,.box [.int .i64 (fun _=>n),alv us,alv os,rlv lo,rlv hi',alv rows,tsv ts,.bool (fun _=>c.neg),nat c.num,nat c.den,.nil,llv lems])]⟩) (cs:=[.int .i64 (fun _=>n),alv us,alv os,rlv lo,rlv hi',alv rows,tsv ts,.bool (fun _=>c.neg),nat c.num,nat c.den,.nil,llv lems]) 25 5 5 10 rfl rfl rfl) (wkZ))) ?_
 intro i hi;cbv;refine zG (fun h=>?_) (fun h=>?_)
 ·(have hlt:i<cl.length:=by (try dsimp only [zF] at *);omega);obtain⟨x,hx⟩:=zT hlt
  (have hen:enc dc ((cl.take (i+1)).map oppD)=enc dc ((cl.take i).map oppD)++zS [dc (oppD x)]:=by rw[tF,hx];simp[enc,zS]);have hln:(enc dc ((cl.take i).map oppD)).length=i:=by rw[zA,xA,j5];omega
  have d1:=c1 x;have d2:zE 91 [ltv (x.1,!x.2)] (dv (oppD x)):=c2 (x.1,!x.2);generalize oppD x=d at *
  clear c1 c2;cbv;refine yX hx uB qC ?_;cbv;refine zN 6 (by cbv) ?_;cbv;refine dA d1 ?_;cbv;refine dA d2 ?_;cbv;refine mT zBP rfl rfl rfl (by rw[hln]) rfl ⟨by simp[zS,wB]⟩ (yD (by rw[hln];simp[zS] <;> omega) (by rw[hln];simp[zS];(try dsimp only [zF] at *);omega)) rfl ?_;cbv;exact⟨zD om om,i+1,(show i+1<=cl.length by omega),(show cl.length-(i+1)<cl.length-i by omega),.le okZ (by cbv;repeat' first|exact trivial|exact lR|exact yC rfl (by rw[hln];simp[zS])|exact zI (by rw[hen];rfl)|apply And.intro) rfl⟩
 ·(have hi2:i=cl.length:=by (try dsimp only [zF] at *);omega);have hT:((enc dc ((cl.take i).map oppD)).drop 0).take i=enc dc (cl.map oppD):=by rw[hi2,v9,wC,yS (by rw[zA,xA];exact zZ _)]
  (have hfr:0+i<=(enc dc ((cl.take i).map oppD)).length:=by rw[zA,xA,j5];omega);cbv
  refine tB _ (.frz 25 rfl rfl (by cbv;repeat' first|exact trivial|exact z8 hfr|apply And.intro) (by cbv;repeat' first|exact trivial|exact z8 hfr|apply And.intro)) rfl ?_;cbv;exact⟨lR,lR,lR,lR,lR,lR,lR,lR,lR,lR,zR hT,lR,trivial⟩
def iL (q:Qry) (c:List vR):Bool:=match c[c.length-1]? with
 |some x=>decide (x.1<q.g.us.length)| none=>true
def zIS (q:Qry) (r:Rsn):Bool:=q.valid&&(clG none r.cl&&(iL q r.cl&&((rscp q r).scopeB&&(rscp q r).closes r.em r.pf)))
structure RsnOk (q:Qry) (r:Rsn):Prop where
 sz:q.sz (2^20)
 cl:r.cl.length<=1000
 lz:Lsz (2^20) r.lems
 pf:∀ m,m∈r.lems->m.pf.length<=100
 pz:Msz (2^23) r.pf
 pn:r.pf.length<=100
theorem RsnOk.scp {q:Qry}{r:Rsn}(h:RsnOk q r):(rscp q r).sz (2^20):=⟨h.sz,⟨by show (r.cl.map oppD).length<_;rw[xA];have:=h.cl;omega,fun d hd=>by obtain⟨x,_,rfl⟩:=y8.1 hd;exact⟨xD _,xD _⟩⟩,h.lz⟩
theorem sVdP (q:Qry)(r:Rsn)(h:RsnOk q r):zE 24 [qv q,rsv r] (.bool (fun _=>zIS q r)):=by
 refine sF Tryz.f24 ?_;have hcl:=h.cl;have hul:=h.sz.g.us.len;have c1:=tU q (h.sz.mono (by decide));have c2:=sKvP r.cl oM;have c3:=sRsc q r oM;have c4:=zJU (rscp q r) h.scp h.pf;have c5:=sPvs (rscp q r) r.em r.pf h.scp h.pz h.pn;have hV:zIS q r=(q.valid&&(clG none r.cl&&(iL q r.cl&&((rscp q r).scopeB&&(rscp q r).closes r.em r.pf)))):=rfl;have hla:∀ x,r.cl[r.cl.length-1]?=some x->iL q r.cl=decide (x.1<q.g.us.length):=fun x hx=>by unfold iL;rw[hx]
 have hln:r.cl=[]->iL q r.cl=true:=fun hx=>by unfold iL;rw[hx];rfl
 generalize zIS q r=v at *
 generalize rscp q r=S at *
 generalize S.scopeB=b4 at *
 generalize S.closes r.em r.pf=b5 at *
 generalize clG none r.cl=b2 at *
 generalize q.valid=b1 at *
 generalize iL q r.cl=b3 at *
 clear h;obtain⟨cl,lems,em,pf⟩:=r;obtain⟨⟨n,us,os⟩,⟨lo,hi',rows⟩,⟨ts,c⟩⟩:=q;dsimp only [sv] at *
 cbv;refine cA c1 ?_;cbv;refine z7 (fun e1=>?_) (fun e1=>?_)
 rotate_left
 ·cbv
  (refine rC ?_;cbv)
  exact zM (by rw[hV,e1];rfl)
 cbv;refine cA c2 ?_;cbv;refine zP (fun e2=>?_) (fun e2=>?_)
 rotate_left
 ·cbv
  (refine rC ?_;cbv)
  exact zM (by rw[hV,e1,e2];rfl)
 cbv;refine zN 14 (by cbv) ?_;cbv;refine zQ (fun e3=>?_) (fun e3=>?_)
 ·(have hpos:0<cl.length:=by rw[zA] at e3;(try dsimp only [zF] at *);omega);obtain⟨x,hx⟩:=zT (l:=cl) (i:=cl.length-1) oM
  have hb:=hla x hx;clear hla hln;cbv;refine⟨zD (by rw[zA];(try dsimp only [zF] at *);omega) (by rw[zA];(try dsimp only [zF] at *);omega),xL hx (by rw[zA];(try dsimp only [zF] at *);omega) uB qC ?_⟩;cbv;refine zG (fun e5=>?_) (fun e5=>?_)
  ·cbv
   (refine rC ?_;cbv)
   exact zM (by rw[hV,e1,e2,hb,decide_eq_false (by rw[zA] at e5;(try dsimp only [zF] at *);omega)];rfl)
  ·(have hb3:b3=true:=by rw[hb];exact decide_eq_true (by rw[zA] at e5;(try dsimp only [zF] at *);omega));cbv
   refine cA c3 ?_;cbv;refine cA c4 ?_;cbv;refine z7 (fun e4=>?_) (fun e4=>?_)
   ·cbv;refine cA c5 ?_;cbv
    (refine rC ?_;cbv)
    exact zV (by rw[hV,e1,e2,hb3,e4];simp)
   ·cbv
    (refine rC ?_;cbv)
    exact zM (by rw[hV,e1,e2,hb3,e4];rfl)
 ·have hb3:b3=true:=hln (by cases cl with
   |nil=>rfl| cons a r=>exact absurd (by rw[zA,kI];(try dsimp only [zF] at *);omega) e3)
  clear hla hln;cbv;refine cA c3 ?_;cbv;refine cA c4 ?_;cbv;refine z7 (fun e4=>?_) (fun e4=>?_)
  ·cbv;refine cA c5 ?_;cbv
   (refine rC ?_;cbv)
   exact zV (by rw[hV,e1,e2,hb3,e4];simp)
  ·cbv
   (refine rC ?_;cbv)
   exact zM (by rw[hV,e1,e2,hb3,e4];rfl)
structure Cv (x:FQry) (s:Scp) (p c:Nat):Prop where
 z:Isz x s
 v:s.q.valid=true
 qz:s.q.sz (2^14)
 pl:s.path.length<=p
 len:s.lems.length<=c
 l:∀ m,m∈s.lems->(∃ q,m.v=zJ q)/\Msz (2^16) m.pf/\m.pf.length<=20
 r:∀ (i:Nat) m,s.lems[i]?=some m->∀ y,y∈m.pf->RoIn ⟨s.q,s.path,s.lems.take i⟩ y.row
theorem Rv.cv {x:FQry}(hx:Sq x){s:Scp}{p c:Nat}(h:Rv x s p c):Cv x s p c:=by
 refine⟨h.z,by rw[h.q];exact hx.s.valid hx.o,?_,h.pl,h.len,h.l,h.r⟩;have hq:s.q.sz 43:=by rw[h.q];exact hx.s.sz
 exact hq.mono (by decide)
theorem zIG {f:A}{N:Int}(h:f.valid N=true)(x:Rat):(s6 f x).valid N=true:=by
 unfold s6;split
 ·unfold A.valid at *
  simp only[yT] at *
  exact⟨h.1,pO _⟩
 {exact h}
theorem zZV (raw:List UInt8)(hv:Fits (2^13) (oV (clsO raw))):Cv (fdY raw 0).1 (clo raw) 7 32:=by
 have hx:=rA raw;have h:=zAB raw;have c:=h.cv hx;have hq:(fH raw).q.sz 43:=by rw[h.q];exact hx.s.sz
 refine⟨⟨h.z.g,h.z.r,h.z.p,h.z.pl,h.z.lb⟩,?_,⟨hq.g.mono (by decide),hq.r.mono (by decide),?_⟩,h.pl,h.len,h.l,fun i m hm y hy=>(h.r i m hm y hy).mono (zZ _) (zZ _)⟩;{have:=c.v;unfold Qry.valid at this ⊢;simp only[yT] at this ⊢;exact⟨this.1,zIG this.2 _⟩};{show (s6 (fH raw).q.goal (oV (clsO raw))).sz _;unfold s6;split;{exact⟨hq.goal.t.mono (by decide),zU ((uC (hq.goal.c.fits (by decide)) hv).mono (by decide))⟩};{exact hq.goal.mono (by decide)}}
theorem Cv.usz {x:FQry}{s:Scp}{p c:Nat}(h:Cv x s p c)(hp:p<=1000)(hc:c<=1000):Usz s/\s.q.sz (2^20)/\Dsz (2^20) s.path/\s.sz (2^20)/\Psz s:=by have hpl:=h.pl;have hlen:=h.len;have hd:Dsz 3 s.path:=⟨by omega,h.z.p⟩;have hd':∀ k,3<=k->Dsz k s.path:=fun k hk=>⟨hd.len,fun d hd'=>(hd.sz d hd').mono hk⟩;have hl:Lsz (2^20) s.lems:=⟨by omega,fun m hm=>by obtain⟨q,hq⟩:=(h.l m hm).1;obtain⟨i,_,hf⟩:=h.z.lb m hm;rw[hq,z6] at hf;rw[hq];exact zU (hf.mono (vD (zUF i) (by decide))),fun m hm=>(h.l m hm).2.1.mono (by decide)⟩;exact⟨⟨h.qz.mono (by decide),hd' _ (by decide),hl,h.v⟩,h.qz.mono (by decide),hd' _ (by decide),⟨h.qz.mono (by decide),hd' _ (by decide),hl⟩,⟨h.qz.mono (by decide),hd' _ (by decide),h.v⟩⟩
theorem RoIn.rsm {s:Scp}{r:Row}(h:RoIn s r)(hl:s.lems.length<=1000):Rsm r:=by have h1:=h.i;have h2:=h.lo;have h3:=h.hi;exact⟨by omega,by omega,by omega⟩
theorem Cv.rows {x:FQry}{s:Scp}{p c:Nat}(h:Cv x s p c){m:Lem}(hm:m∈s.lems):∀ y,y∈m.pf->RoIn s y.row:=fun y hy=>by obtain⟨i,hi⟩:=zC9 hm;exact (h.r i m hi y hy).mono (zZ _) (by show (s.lems.take i).length<=_;rw[j5];omega)
theorem Cv.lpf {x:FQry}{s:Scp}{p c:Nat}(h:Cv x s p c)(hc:c<=1000):Lpf s :=
 ⟨fun m hm=>by have:=(h.l m hm).2.2;omega,fun m hm y hy=>(h.rows hm y hy).rsm (vD h.len hc)⟩
theorem Cv.backs {x:FQry}{s:Scp}{p c:Nat}(h:Cv x s p c):s.backs:=fun n m hm y hy=>by
 have:=h.r n m hm y hy;have h1:=this.lo;have h2:=this.hi;have h3:(s.lems.take n).length<=n:=by rw[j5];omega
 dsimp only at h1 h2;omega
theorem zH1 {α:Type}(P:α->Bool):∀ l:List α,uP P l<l.length
 |[]=>by show (-1:Int)<((0:Nat):Int);decide| a::r=>by have:=zH1 P r;rw[show uP P (a::r)=if P a then 0 else if uP P r<0 then -1 else uP P r+1 from rfl,kI];split;{omega};{split <;> omega}
theorem zN3 {s:Scp}{r:Row}(h:RoIn s r):s.rowD r<s.path.length:=by unfold Scp.rowD Scp.fst;split;{rename_i e;exact h.p e};{split;{exact zH1 _ _};{split;{exact zH1 _ _};{omega}}}
theorem Cv.reachD {x:FQry}{s:Scp}{p c:Nat}(h:Cv x s p c){l:List Mult}(hl:∀ m,m∈l->RoIn s m.row){k:Int}(hk:bL s l k):k<s.path.length:=by
 rcases hk with⟨_,m,hm,e⟩|⟨n,hn,_,m,hm,e⟩;{rw[<-e];exact zN3 (hl m hm)}
 ·rw[<-e];unfold Scp.pfn at hm;cases hx:s.lems[n.toNat]? with
  |none=>rw[hx] at hm;exact absurd hm (by simp)| some y =>
   rw[hx] at hm;exact zN3 (h.rows (yA hx) m hm)
theorem zYG {l:List Nat}{b:Nat}(h:∀ n,n∈l->n<=b):l.sum<=l.length*b:=by
 induction l with
 |nil=>simp| cons a r ih =>
  have h1:=h a xM;have h2:=ih (fun n hn=>h n (xN _ hn));rw[List.sum_cons,kI,Nat.succ_mul];omega
theorem Cv.potv {x:FQry}{s:Scp}{p c:Nat}(h:Cv x s p c)(hc:c<=1000):pot s []<=1000*20/\um s []<=s.lems.length:=by
 have hlen:=h.len;have hf:∀ P:Nat->Bool,((List.range s.lems.length).filter P).length<=s.lems.length:=fun P=>by have:=List.length_filter_le P (List.range s.lems.length);rw[List.length_range] at this;exact this
 refine⟨?_,hf _⟩;unfold Go.Proofs.YtaeaffgjdcigoaaGreat.pot;refine vD (zYG (b:=20) fun n hn=>?_) ?_
 ·obtain⟨i,_,rfl⟩:=y8.1 hn;unfold Scp.pfn;cases hx:s.lems[((i:Int)).toNat]? with
  |none=>simp| some y=>exact (h.l y (yA hx)).2.2
 {rw[xA];exact qV _ (vD (hf _) oM)}
theorem Cv.used {x:FQry}{s:Scp}{p c:Nat}(h:Cv x s p c)(hp:p<=1000)(hc:c<=1000){l:List Mult}(hl:∀ m,m∈l->RoIn s m.row)(hn:l.length<=100):zE 14 [sv s,mlv l] (.tup [zlv (uY (s.marks l).1),zlv (uY (s.marks l).2)]):=by
 obtain⟨u1,u2,u3,u4,u5⟩:=h.usz hp hc;obtain⟨p1,p2⟩:=h.potv hc;have hlen:=h.len;have hpl:=h.pl;obtain⟨a1,a2⟩:=zJL (s:=s) (l:=l);have w:wgt s ([],[])=0+pot s []:=rfl;have v:vol s ([],[])=0+um s []:=rfl;have hw:=zDP s s.lems.length l ([],[]) p2;have hv:=zDQ s s.lems.length l ([],[]) p2;have hd:=fun k=>h.reachD hl (k:=k);obtain⟨e1,e2⟩:=zUG h.backs hd;have:=sKud zQ0 s l u5 (h.lpf hc) ⟨by omega,fun m hm=>(hl m hm).rsm oM,by omega,by omega⟩ (fun z hz=>by
  rcases hz with g|g
  ·(have g':=(a2 z).1 g;have h0:0<=z:=by rcases g' with g|⟨_,_,g⟩;{exact g.1};{exact g.1});have:=hd z g';omega
  ·have:=((a1 z).1 g).rng;omega) ⟨by
    have:(sK s s.lems.length l ([],[])).1.length<=wgt s (sK s s.lems.length l ([],[])):=Nat.le_add_right _ _;omega,by
    have:(sK s s.lems.length l ([],[])).2.length<=vol s (sK s s.lems.length l ([],[])):=Nat.le_add_right _ _;omega⟩ p2
 rw[e1,e2] at this;exact this
end Go.Proofs.YtaeaffgjdcigoaaGreat
