/- A part of the proof: KcB, KcD, KcH. -/
import Derived.Test.YtaeaffgjdcigoaaGreatW32
import Derived.Test.YtaeaffgjdcigoaaGreatW30
set_option linter.all false
namespace Go.Proofs.YtaeaffgjdcigoaaGreat
open Go
set_option maxRecDepth 100000
set_option maxHeartbeats 8000000
def nO {q:Qry}(h:q.valid=true):(q.r.lo.length:Int)=q.g.n/\(q.r.hi.length:Int)=q.g.n/\1<=q.g.n/\q.g.n<=256/\q.g.us.length<=1024:=by unfold Qry.valid Reg.valid Grp.valid at h;grind
def Rx (a b:Rat):-1<=uV a b/\uV a b<=1:=by grind [uV]
def LX (s:Scp)(i:Int)(up:Bool)(hs:Usz s)(hz:s.q.sz (2^20))(hp:Dsz (2^20) s.path)(hi:0<=i)(hi2:i<s.q.g.n):zC 170 [sv s,iV i,zL up] (bdv (s.inB i up) true):=by
 refine sF Tryz.f170 ?_;obtain⟨v1,v2,v3,v4,v5⟩:=nO hs.v;have hpl:=hp.len;have c1:=sK1 ⟨1,i,0,0⟩;have c2:=sK1 ⟨2,i,0,0⟩;have c4:=λk:Nat=>sK1 ⟨4,k,0,0⟩;have cf:∀ d,d∈s.path->zC 105 [qv s.q,dv d] (zL (d.fits s.q)):=λd h=>by have:=Gp s.q d hs.q ((hp.sz d h).mono (by decide));rw[hs.v,yW] at this;omega
 have cc:∀ (d:Dec) (x:R),d∈s.path->x.sz (2^20)->zC 48 [rv d.x,rv x] (iV (uV d.x.q x.q)):=λd x h h'=>s42 d.x x ((hp.sz d h).mono (by decide)) (h'.mono (by decide));have hpz:=hp.sz;obtain⟨ii,hii⟩:∃ ii:Nat,i=ii:=⟨i.toNat,by omega⟩;obtain⟨xl,hxl⟩:=zS (l:=s.q.r.lo) (i:=ii) oM;obtain⟨xh,hxh⟩:=zS (l:=s.q.r.hi) (i:=ii) oM;have zl:=hz.r.lo.sz xl (z3 hxl);have zh:=hz.r.hi.sz xh (z3 hxh);obtain⟨G,hG⟩:=ex (inG s.q up i);obtain⟨KD,hKD⟩:∃ K:Int,(if up=true then 4 else 3)=K:=⟨_,rfl⟩;obtain⟨SG,hSG⟩:∃ K:Int,(if up=true then -1 else 1)=K:=⟨_,rfl⟩;have hn:∀ k b,G k [] b=b:=λk b=>by rw[<-hG];rfl
 have hc:∀ k d r b,G k (d::r) b=G (k+1) r (if d.k=KD/\d.i=i/\d.fits s.q=true/\0<SG*uV d.x.q b.1.q then (d.x,[(⟨4,k,0,0⟩,1)]) else b):=λk d r b=>by rw[<-hG,<-hKD,<-hSG];rfl
 have hsg:SG=1\/SG=-1:=by omega
 have hm:∀ a b,-1<=SG*uV a b/\SG*uV a b<=1:=λa b=>by have:=Rx a b;grind
 obtain⟨res,hres⟩:=ex (s.inB i up);have h0:G 0 s.path (if up=true then (xh,[(⟨2,i,0,0⟩,1)]) else (xl,[(⟨1,i,0,0⟩,1)]))=res:=by rw[<-hres,<-hG];grind [Scp.inB,Int.toNat_natCast]
 rw[hres];obtain⟨ft,hft⟩:∃ ft:Dec->Bool,∀ d,ft d=d.fits s.q:=⟨_,λ_=>rfl⟩;simp only[<-hft] at cf hc;obtain⟨rV,rP⟩:=res;obtain⟨⟨⟨gn,us,os⟩,⟨lo,hi',rows⟩,⟨ts,c1',c2',c3'⟩⟩,path,L⟩:=s
 (try dsimp only at *)
 have go:∀ (x:R) (p:List (Row×Rat)),x.sz (2^20)->G 0 path (x,p)=(rV,rP)->0=0:=λ_ _ _ _=>rfl;clear go hft hres hG hs hz hp hsg;cbv;refine qV 10 (by cbv) (by cbv) ?_;cbv;refine x5 hxl hii gT bV ?_;cbv;refine dA c1 ?_;cbv;refine lJ (σ:=Bd) (λb=>⟨[(1,iV i),(3,.ptr 3 0),(6,.ptr 6 0),(8,.ptr 8 0),(9,iV KD),(10,iV SG)],[(3,.box (sc ⟨⟨⟨gn,us,os⟩,⟨lo,hi',rows⟩,⟨ts,c1',c2',c3'⟩⟩,path,L⟩)),(6,.box [.ff,.nil,.nil,.nil,.ff]),(8,.box [zL b.1.neg,nat b.1.num,nat b.1.den,mlv (mR b.2),.tt])]⟩)
  (λb=>b.1.sz (2^20)/\G 0 path b=(rV,rP)) (λe=>?_) (λe=>?_) (λb hb=>?_)
 {rw[if_pos e] at h0 hKD hSG;subst hKD hSG;cbv;refine zM 9 (by cbv) ?_;cbv;refine x5 hxh hii gT bV ?_;cbv;refine dA c2 ?_;cbv;exact⟨(xh,[(⟨2,i,0,0⟩,1)]),⟨zh,h0⟩,wkZ⟩};{rw[if_neg (by rw[e];decide)] at h0 hKD hSG;subst hKD hSG;cbv;exact⟨(xl,[(⟨1,i,0,0⟩,1)]),⟨zl,h0⟩,wkZ⟩};clear h0 hKD hSG c1 c2;obtain⟨hb1,hb2⟩:=hb;obtain⟨bvQ,bP⟩:=b;dsimp only at hb1 hb2;cbv;refine z7 (σ:=Nat×Bd) (λst=>⟨[(1,iV i),(3,.ptr 3 0),(6,.ptr 6 0),(8,.ptr 8 0),(9,iV KD),(10,iV SG),(11,iV st.1)],[(3,.box (sc ⟨⟨⟨gn,us,os⟩,⟨lo,hi',rows⟩,⟨ts,c1',c2',c3'⟩⟩,path,L⟩)),(6,.box [.ff,.nil,.nil,.nil,.ff]),(8,.box [zL st.2.1.neg,nat st.2.1.num,nat st.2.1.den,mlv (mR st.2.2),.tt])]⟩)
  (λst=>st.1<=path.length/\st.2.1.sz (2^20)/\G st.1 (path.drop st.1) st.2=(rV,rP)) (λst=>path.length-st.1) (0,bvQ,bP) ⟨xA _,hb1,hb2⟩ (wkZ) ?_
 clear hb1 hb2;intro st hst;obtain⟨k,cV,cP⟩:=st;obtain⟨h1,h2,h3⟩:=hst;dsimp only at h1 h2 h3;cbv;refine zF (λh5=>?_) (λh5=>?_)
 ·have hlt:=jS h5;obtain⟨d,hd⟩:=zS hlt;have hdm:=z3 hd;have cv:=cf d hdm;have cx:=cc d cV hdm h2;have zd:=hpz d hdm;have hmm:=hm d.x.q cV.q;rw[zY hd,hc] at h3;have ck:=c4 k;generalize ft d=fd at *;generalize uV d.x.q cV.q=cm at *;clear cf cc hc hn hm;cbv;refine yL hd uF qP ?_;cbv;refine zQ (λe1=>?_) (λe1=>?_)
  rotate_left
  {rw[if_neg (λh=>e1 h.1)] at h3;cbv;exact⟨zD om om,(k+1,cV,cP),⟨om,h2,h3⟩,om,wkZ⟩};cbv;refine zQ (λe2=>?_) (λe2=>?_)
  rotate_left
  {rw[if_neg (λh=>e2 h.2.1)] at h3;cbv;exact⟨zD om om,(k+1,cV,cP),⟨om,h2,h3⟩,om,wkZ⟩};cbv;refine cA cv ?_;cbv;refine yB (λe3=>?_) (λe3=>?_)
  rotate_left
  {rw[if_neg (λh=>by rw[h.2.2.1] at e3;cases e3)] at h3;cbv;exact⟨zD om om,(k+1,cV,cP),⟨om,h2,h3⟩,om,wkZ⟩};cbv;refine cA cx ?_;cbv;refine⟨zD (by exact om) (by exact om),?_⟩;cbv;refine zF (λe4=>?_) (λe4=>?_)
  rotate_left
  {rw[if_neg (λh=>e4 h.2.2.2)] at h3;cbv;exact⟨zD om om,(k+1,cV,cP),⟨om,h2,h3⟩,om,wkZ⟩};rw[if_pos ⟨e1,e2,e3,e4⟩] at h3;cbv;refine zM 6 (by cbv) ?_;cbv;refine dA ck ?_;cbv;exact⟨zD om om,(k+1,d.x,[(⟨4,k,0,0⟩,1)]),⟨om,zd,h3⟩,om,wkZ⟩
 {have hk:k=path.length:=dZ h5 h1;rw[hk,vE,hn] at h3;cases h3;cbv;exact rA}
def LQ (s:Scp)(j:Int)(hs:Usz s):zC 171 [sv s,iV j] (bdv ((s.moB j).getD (R0,[])) (s.moB j).isSome):=by
 refine sF Tryz.f171 ?_;unfold bdv;have cof:=R6 s j hs;have con:=Nr s j hs;have cb:=bB s j hs.l;have hll:=hs.l.len;have hss:=hs.l.sz;have hv1:=λh=>ZE (s:=s) (j:=j) h;have hv2:=λh=>Xf (s:=s) (j:=j) h;have c1:=s32 1 (by decide) (by decide);rw[show (((1:Int):Rat))=(1:Rat) by rfl] at c1;have coff:(s.offR j).2=false->0<(s.best j).2->0<yA (s.vHi j):=λh h'=>by unfold Scp.offR at h;grind
 have conn:(s.onR j).2=false->0<(s.best j).1->yA (s.vLo j)<0:=λh h'=>by unfold Scp.onR at h;grind
 have hm:s.moB j=if (s.offR j).2=true then some (R0,[((s.offR j).1,1)])
  else if (s.best j).2=0\/((s.onR j).2=false/\(s.best j).1=0) then none
  else if (s.onR j).2=true then some (zI (s.vHi j),[((s.onR j).1,1),(⟨12,j,0,(s.best j).2⟩,1)])
  else some (zI (s.vHi j),[(⟨12,j,0,(s.best j).2⟩,(1/(s.vHi j-s.vLo j))*s.vHi j),(⟨13,j,(s.best j).1,(s.best j).2⟩,1/(s.vHi j-s.vLo j))]):=rfl
 generalize s.moB j=o at *;generalize s.vLo j=x at *;generalize s.vHi j=y at *;generalize s.best j=B at *;obtain⟨b1,b2⟩:=B;generalize s.offR j=O1 at *;obtain⟨rof,bof⟩:=O1;generalize s.onR j=O2 at *;obtain⟨ron,bon⟩:=O2
 (try dsimp only at *)
 have co:=sK1 rof;have ca:=Ss ron;have cb2:=Ss ⟨12,j,0,b2⟩;obtain⟨⟨⟨gn,us,os⟩,⟨lo,hi,rows⟩,⟨ts,c1',c2',c3'⟩⟩,path,L⟩:=s
 (try dsimp only at *)
 obtain⟨V,hV⟩:=ex ((o.getD (R0,[])).1);obtain⟨M,hM⟩:=ex (mR (o.getD (R0,[])).2);obtain⟨b,hb⟩:=ex o.isSome;rw[hV,hM,hb];obtain⟨Mo,hMo⟩:=ex (mR [(rof,(1:Rat))]);obtain⟨Ma,hMa⟩:=ex (mR [(ron,(1:Rat))]);obtain⟨Mb,hMb⟩:=ex (mR [((⟨12,j,0,b2⟩:Row),(1:Rat))]);have la:Ma.length=1:=by rw[<-hMa];rfl
 have lb:Mb.length=1:=by rw[<-hMb];rfl
 have k1:bof=true->V=R0/\M=Mo/\b=true:=λh=>by grind
 have k2:bof=false->(b2=0\/(bon=false/\b1=0))->V=R0/\M=[]/\b=false:=λh h'=>by rw[<-hV,<-hM,<-hb,hm,if_neg (by grind),if_pos h'];exact⟨rfl,rfl,rfl⟩
 have k3:bof=false->¬(b2=0\/(bon=false/\b1=0))->bon=true->V=zI y/\M=Ma++Mb/\b=true:=λh h' h''=>by rw[<-hV,<-hM,<-hb,hm,if_neg (by grind),if_neg h',if_pos h'',<-hMa,<-hMb];exact⟨rfl,rfl,rfl⟩
 have k4:bof=false->¬(b2=0\/(bon=false/\b1=0))->bon=false->V=zI y/\M=[⟨⟨12,j,0,b2⟩,zI (1/(y-x)*y)⟩,⟨⟨13,j,b1,b2⟩,zI (1/(y-x))⟩]/\b=true:=λh h' h''=>by rw[<-hV,<-hM,<-hb,hm,if_neg (by grind),if_neg h',if_neg (by grind)];exact⟨rfl,rfl,rfl⟩
 rw[hMo] at co;rw[hMa] at ca;rw[hMb] at cb2;clear hm hV hM hb hMo hMa hMb hs;cbv;refine cA cof ?_;cbv;refine zO (λe=>?_) (λe=>?_);{obtain⟨q1,q2,q3⟩:=k1 e;subst q1 q2 q3;cbv;refine cA co ?_;cbv;exact rA};cbv;refine cA cb ?_;cbv;refine cA con ?_;cbv;refine zQ (λe1=>?_) (λe1=>?_);{obtain⟨q1,q2,q3⟩:=k2 e (.inl (by exact om));subst q1 q2 q3;cbv;exact rA};have e1':b2≠0:=by exact om
 obtain⟨m2,g2,hy⟩:=hv2 e1';have z2:=hss m2 (z3 g2);have l2:=(wE.1 g2).1;have ccn:=s47 m2.v (z2.mono (by decide));rw[<-hy] at ccn;cbv;refine yB (λe2=>?_) (λe2=>?_)
 ·obtain⟨q1,q2,q3⟩:=k3 e (λh=>h.elim e1' (λh=>by rw[h.1] at e2;cases e2)) e2;generalize zI y=RY at *;subst q1 q2 q3;cbv;refine⟨zD om om,x5 g2 (by exact om) xB y7 ?_⟩;cbv;refine zO (λe3=>?_) (λe3=>by rw[e2] at e3;cases e3);cbv;refine aX (σ:=Unit) (λ_=>⟨[(4,.ptr 4 0)],[(4,.box [zL V.neg,nat V.num,nat V.den,yX 66 7 ((enc mc Ma).length+(enc mc Mb).length),.tt]),(66,xF 7 (enc mc Ma++enc mc Mb))]⟩) (λ_=>True) (.refl _) (by cbv) ?_ ?_
  ·cbv
   repeat' first
    |exact trivial
    |exact⟨(),trivial,wkZ⟩
    |(refine yJ rfl okA ccn rfl ?_;cbv)
    |(refine kA (λ_=>201) ca ?_;cbv)| (refine kA (λ_=>202) cb2 ?_;cbv)
    |(refine Jy kK rfl rfl rfl (by simp[zA,la]) rfl rfl rfl (by simp[zA,lb]) (xE xS _) (z8 (by simp[zA,la,lb]) (by simp[zA,la,lb])) rfl ?_;cbv)
    |apply And.intro
  {intro _ _;cbv;refine bD _ (.frz 66 rfl rfl ?_ ?_) rfl ?_;{cbv};{cbv;exact⟨⟨zZ (by simp[zA,la,lb]),trivial⟩,trivial⟩};cbv;exact⟨lR,lR,lR,zR (by rw[wZ,yU (by simp[zA,la,lb]),j6]),yV rfl,trivial⟩}
 cbv;refine zF (λe3=>?_) (λe3=>?_);{obtain⟨q1,q2,q3⟩:=k2 e (.inr ⟨e2,by exact om⟩);subst q1 q2 q3;cbv;exact rA};have e3':b1≠0:=by exact om
 obtain⟨m1,g1,hx⟩:=hv1 e3';have z1:=hss m1 (z3 g1);have l1:=(wE.1 g1).1;have hu:iI x y=true:=by unfold iI;rw[decide_eq_true (conn e2 oM),decide_eq_true (coff e oM)];rfl
 obtain⟨hne,_,_⟩:=eX hu;have f1:=z1.fits (by decide);have f2:=z2.fits (by decide);have csb:=s93 m2.v m1.v (z2.mono (by decide)) (z1.mono (by decide));rw[<-hx,<-hy] at csb;rw[<-hx] at f1;rw[<-hy] at f2;have fd:=uC f2 f1;have fi:Fits (2^22) (1/(y-x)):=by rw[jD,Rat.one_mul];exact (bI fd).mono (by decide)
 have cdv:=Sy (zI 1) (zI (y-x)) ((zU fits_one).mono (by decide)) ((zU fd).mono (by decide)) (by rw[z6];exact hne);simp only[z6] at cdv;have cml:=s77 (zI (1/(y-x))) m2.v ((zU fi).mono (by decide)) (z2.mono (by decide));rw[z6,<-hy] at cml;obtain⟨q1,q2,q3⟩:=k4 e (λh=>h.elim e1' (λh=>e3' h.2)) e2;generalize zI (1/(y-x)*y)=W at *;generalize zI (1/(y-x))=WI at *;generalize zI (y-x)=WD at *;generalize zI y=RY at *;generalize zI 1=R1 at *;subst q1 q2 q3;clear coff conn hv1 hv2 k1 k2 k3 k4 fi fd f1 f2;cbv;refine⟨zD om om,x5 g2 (by exact om) xB y7 ?_⟩;cbv;refine zO (λe4=>by rw[e2] at e4;cases e4) (λe4=>?_);cbv;refine vP 16 [(15,12)] (by cbv) (by cbv) (by cbv) ?_;cbv;refine dA c1 ?_;cbv;refine⟨zD om om,x5 g1 (by exact om) xB y7 ?_⟩;cbv;refine dA csb ?_;cbv;refine dA cdv ?_;cbv;refine zM 12 (by cbv) ?_;cbv;refine dA ccn ?_;cbv;refine dA cml ?_;cbv;exact rA
def LO (s:Scp)(v:Int)(up:Bool)(hs:Usz s)(hz:s.q.sz (2^20))(hp:Dsz (2^20) s.path)(hv:0<=v)(hv2:v<s.q.g.vars):zC 111 [sv s,iV v,zL up] (bdv ((s.ofB v up).getD (R0,[])) (s.ofB v up).isSome):=by
 refine sF Tryz.f111 ?_;obtain⟨v1,v2,v3,v4,v5⟩:=nO hs.v;have cv:=iA s.q (hz.mono (by decide));have cvr:=oG s.q.g (hz.g.mono (by decide));have hgv:s.q.g.valid=true:=by have:=hs.v;unfold Qry.valid at this;grind
 rw[hs.v] at cv;rw[if_pos hgv] at cvr;have cin:=λh=>LX s v up hs hz hp hv h;have cmo:=LQ s (v-s.q.g.n) hs;have cle:=LU s (v-s.q.g.n) hs;simp only[bdv] at *;have ho:s.ofB v up=if v<s.q.g.n then some (s.inB v up) else if up=true then s.moB (v-s.q.g.n) else some (s.leB (v-s.q.g.n)):=rfl
 have hvars:s.q.g.vars=s.q.g.n+s.q.g.us.length:=rfl;generalize s.q.g.vars=N at *;generalize s.inB v up=b1 at *;generalize s.moB (v-s.q.g.n)=o2 at *;generalize s.leB (v-s.q.g.n)=b3 at *;generalize s.ofB v up=o at *;obtain⟨V,hV⟩:=ex ((o.getD (R0,[])).1);obtain⟨M,hM⟩:=ex (mR (o.getD (R0,[])).2);obtain⟨b,hb⟩:=ex o.isSome;obtain⟨V2,hV2⟩:=ex ((o2.getD (R0,[])).1);obtain⟨M2,hM2⟩:=ex (mR (o2.getD (R0,[])).2);obtain⟨bb2,hb2⟩:=ex o2.isSome;rw[hV,hM,hb];rw[hV2,hM2,hb2] at cmo;have k1:v<s.q.g.n->V=b1.1/\M=mR b1.2/\b=true:=λh=>by grind
 have k2:¬v<s.q.g.n->up=true->V=V2/\M=M2/\b=bb2:=λh h'=>by grind
 have k3:¬v<s.q.g.n->up=false->V=b3.1/\M=mR b3.2/\b=true:=λh h'=>by grind
 obtain⟨B1,P1⟩:=b1;obtain⟨B3,P3⟩:=b3;obtain⟨⟨⟨gn,us,os⟩,⟨lo,hi',rows⟩,⟨ts,c1',c2',c3'⟩⟩,path,L⟩:=s
 (try dsimp only at *)
 generalize mR P1=M1 at *;generalize mR P3=M3 at *;clear ho hV hM hb hV2 hM2 hb2 hs hz hp hgv;cbv;refine cA cv ?_;cbv;refine rZ rfl ?_;cbv;refine yC (by exact om) ?_;cbv;refine cA cvr ?_;cbv;refine yE (by exact om) ?_;cbv;refine zF (λe=>?_) (λe=>?_);{obtain⟨q1,q2,q3⟩:=k1 e;subst q1 q2 q3;have c:=cin e;cbv;refine cA c ?_;cbv;exact rA};cbv;refine zO (λe2=>?_) (λe2=>?_);{obtain⟨q1,q2,q3⟩:=k2 e e2;subst q1 q2 q3;cbv;refine⟨zD (by exact om) (by exact om),?_⟩;cbv;refine cA cmo ?_;cbv;exact rA};{obtain⟨q1,q2,q3⟩:=k3 e e2;subst q1 q2 q3;cbv;refine⟨zD (by exact om) (by exact om),?_⟩;cbv;refine cA cle ?_;cbv;exact rA}
structure BoxOk (s:Scp) (f:F):Prop where
 vd:(fA f).valid s.q.g.vars=true
 v:∀ t,t∈f.ts->0<=t.1/\t.1<s.q.g.vars
 fl:f.fl (2^26) (2^30)
 pre:∀ i a l,s.boxL (f.ts.take i) f.c []=some (a,l)->Fits (2^29) a/\(∀ t,t∈l->Fits (2^28) t.2)/\l.length<=2^36
 bd:∀ t,t∈f.ts->∀ b,s.ofB t.1 (decide (yA t.2<0))=some b->b.1.sz (2^28)/\(∀ x,x∈b.2->Fits (2^27) x.2)/\b.2.length<=2
def Uo {s:Scp}{t:Int×Rat}{b:Bd}(ht:s.ofB t.1 (decide (yA t.2<0))=some b):∀ {ts:List (Int×Rat)} {a a':Rat} {l l':List (Row×Rat)},s.boxL ts a l=some (a',l')->s.boxL (ts++[t]) a l=some (a'+t.2*b.1.q,xR l' b.2 (vI t.2))
 |[],a,a',l,l',h=>by cases h;rw[JF];unfold Scp.boxL;rw[ht];rfl
 |x::r,a,a',l,l',h=>by
  rw[Vv];unfold Scp.boxL at h ⊢;cases hx:s.ofB x.1 (decide (yA x.2<0)) with
  |none=>grind| some g =>
   rw[hx] at h;exact Uo ht h
def Up {s:Scp}{t:Int×Rat}{r:List (Int×Rat)}(ht:s.ofB t.1 (decide (yA t.2<0))=none):∀ {ts:List (Int×Rat)} {a:Rat} {l:List (Row×Rat)} {y},s.boxL ts a l=some y->s.boxL (ts++t::r) a l=none
 |[],a,l,y,h=>by grind [Scp.boxL]| x::q,a,l,y,h=>by
  rw[Vv];unfold Scp.boxL at h ⊢;cases hx:s.ofB x.1 (decide (yA x.2<0)) with
  |none=>rfl| some g =>
   rw[hx] at h;exact Up ht h
def JQ {α:Type}{l:List α}{i:Nat}{a:α}(h:l[i]?=some a):l.take (i+1)=l.take i++[a]:=by rw[tC,h];rfl
def No (s:Scp)(f:F)(hs:Usz s)(hz:s.q.sz (2^20))(hp:Dsz (2^20) s.path)(hok:BoxOk s f):zC 46 [sv s,fv f] (.tup [rv (zI (oV (s.box f))),mlv (mR (oL (s.box f))),zL ((s.box f).isSome)]):=by
 refine sF Tryz.f46 ?_;have cv:=iA s.q (hz.mono (by decide));have cvr:=oG s.q.g (hz.g.mono (by decide));have hgv:s.q.g.valid=true:=by have:=hs.v;unfold Qry.valid at this;grind
 rw[hs.v] at cv;rw[if_pos hgv] at cvr;have c7:=FE (fA f) s.q.g.vars (by have:=Ui hok.fl (by decide);exact this.mono (by decide));rw[hok.vd] at c7;have cof:∀ t,t∈f.ts->zC 111 [sv s,iV t.1,zL (decide (yA t.2<0))] (bdv ((s.ofB t.1 (decide (yA t.2<0))).getD (R0,[])) (s.ofB t.1 (decide (yA t.2<0))).isSome):=λt ht=>LO s t.1 _ hs hz hp (hok.v t ht).1 (hok.v t ht).2;have csg:∀ t,t∈f.ts->zC 30 [rv (zI t.2)] (iV (yA t.2)):=λt ht=>by have:=s35 (zI t.2) (xP (zU (hok.fl.t t ht)).n (by decide));grind [z6]
 have pI:∀ a t b,Fits (2^29) a->t∈f.ts->b.sz (2^28)->zC 84 [rv (zI t.2),rv b] (rv (zI (t.2*b.q)))/\zC 18 [rv (zI a),rv (zI (t.2*b.q))] (rv (zI (a+t.2*b.q))):=λa t b ha ht hb=>by have ft:=hok.fl.t t ht;have fb:=hb.fits (by decide);have h1:=s77 (zI t.2) b ((zU ft).mono (by decide)) (hb.mono (by decide));have h2:=s44 (zI a) (zI (t.2*b.q)) ((zU ha).mono (by decide)) ((zU (y8 ft fb)).mono (by decide));simp only[z6] at h1 h2;grind
 have cmul:∀ t,t∈f.ts->∀ q,Fits (2^27) q->zC 84 [.agg [zL false,nat (zI t.2).num,nat (zI t.2).den],rv (zI q)] (rv (zI (q*vI t.2)))/\Fits (2^28) (q*vI t.2):=λt ht q hq=>by
  (have ft:=j8 (hok.fl.t t ht);have h1:=s77 ⟨false,(zI t.2).num,(zI t.2).den⟩ (zI q) (by rw[sW];exact (zU ft).mono (by decide)) ((zU hq).mono (by decide));have e:(⟨false,(zI t.2).num,(zI t.2).den⟩:R).q=vI t.2:=by rw[sW,z6]);rw[e,z6,Rat.mul_comm] at h1
  exact⟨h1,(y8 hq ft).mono (by decide)⟩
 have cpl:∀ (l:List (Row×Rat)) (r:Row) (q:Rat),Mfit (2^30) l->Fits (2^28) q->zC 112 [mlv (mR l),rwv r,rv (zI q)] (mlv (mR (plMq l r q))):=λl r q hl hq=>by have:=Tk l r (zI q) hl ((zU hq).mono (by decide));rw[z6] at this;omega
 have hpre:=hok.pre;have hbd:=hok.bd;have hflen:=hok.fl.len;have hbox:s.box f=s.boxL f.ts f.c []:=rfl;obtain⟨BL,hBL⟩:∃ BL,(λts=>s.boxL ts f.c [])=BL:=⟨_,rfl⟩;have hBLa:∀ ts,BL ts=s.boxL ts f.c []:=λts=>by rw[<-hBL]
 have hB0:BL []=some (f.c,[]):=by rw[hBLa];rfl
 have hBs:∀ i t b a l,f.ts[i]?=some t->s.ofB t.1 (decide (yA t.2<0))=some b->BL (f.ts.take i)=some (a,l)->BL (f.ts.take (i+1))=some (a+t.2*b.1.q,xR l b.2 (vI t.2)):=λi t b a l h1 h2 h3=>by rw[hBLa] at h3 ⊢;rw[JQ h1];exact Uo h2 h3
 have hBn:∀ i t a l,f.ts[i]?=some t->s.ofB t.1 (decide (yA t.2<0))=none->BL (f.ts.take i)=some (a,l)->BL f.ts=none:=λi t a l h1 h2 h3=>by
  (rw[hBLa] at h3 ⊢;have hd:f.ts=f.ts.take i++t::f.ts.drop (i+1):=by rw[<-zY h1,JE]);rw[hd]
  exact Up h2 h3
 simp only[<-hBLa] at hpre hbox;obtain⟨o,ho⟩:=ex (s.box f);rw[ho] at hbox ⊢;obtain⟨OF,hOF⟩:∃ OF,(λt:Int×Rat=>s.ofB t.1 (decide (yA t.2<0)))=OF:=⟨_,rfl⟩;have hOFa:∀ t:Int×Rat,s.ofB t.1 (decide (yA t.2<0))=OF t:=λt=>by rw[<-hOF]
 simp only[hOFa] at cof hBs hBn hbd;have hln:(tR f.ts).length=f.ts.length:=vD _;have hget:∀ (i:Nat) t,f.ts[i]?=some t->(tR f.ts)[i]?=some (t.1,zI t.2):=λi t h=>by simp[tR,dH,h]
 have hmn:∀ l c,xR l [] c=l:=λ_ _=>rfl;have hmc:∀ l t r c,xR l (t::r) c=xR (plMq l t.1 (t.2*c)) r c:=λ_ _ _ _=>rfl;obtain⟨ts,fc⟩:=f;dsimp only [fv,fA] at *;generalize s.q.g.vars=N at *;obtain⟨⟨⟨gn,us,os⟩,⟨lo,hi',rows⟩,⟨ts',c1',c2',c3'⟩⟩,path,L⟩:=s
 (try dsimp only at *)
 generalize tR ts=T at *;have hp0:=λa l h=>hpre 0 a l h;obtain⟨C0,hC0⟩:=ex (zI fc);rw[hC0] at c7 ⊢;clear hBL hBLa hOF hOFa ho hs hz hp hok hgv;cbv;refine zM 13 (by cbv) ?_;cbv;refine dA cv ?_;cbv;refine rZ rfl ?_;cbv;refine dA cvr ?_;cbv;refine dA c7 ?_;cbv;refine dE rfl ?_;cbv;refine z7 (σ:=Nat×R×Rat×List (Row×Rat)) (λst=>⟨[(2,.ptr 2 0),(3,.ptr 3 0),(4,.ptr 4 0),(7,.ptr 7 0),(8,mlv (mR st.2.2.2)),(9,iV st.1)],[(2,.box (sc ⟨⟨⟨gn,us,os⟩,⟨lo,hi',rows⟩,⟨ts',c1',c2',c3'⟩⟩,path,L⟩)),(3,.box [tsv T,zL C0.neg,nat C0.num,nat C0.den]),(4,.box [.ff,.nil,.nil]),(7,.box [zL st.2.1.neg,nat st.2.1.num,nat st.2.1.den])]⟩)
  (λst=>st.1<=ts.length/\st.2.1=zI st.2.2.1/\BL (ts.take st.1)=some (st.2.2.1,st.2.2.2)) (λst=>ts.length-st.1) (0,C0,fc,[]) ⟨xA _,hC0.symm,hB0⟩ (wkZ) ?_
 clear hB0 cv cvr c7 hC0;intro st hst;obtain⟨i,C,a,l⟩:=st;obtain⟨h1,h2,h3⟩:=hst;dsimp only at h1 h2 h3;obtain⟨fa,fl',fl2⟩:=hpre i a l h3;cbv;refine zF (λh5=>?_) (λh5=>?_)
 ·(rw[zA,hln] at h5;have hlt:i<ts.length:=by exact om);obtain⟨t,ht⟩:=zS hlt
  have hm:=z3 ht;have hT:=hget i t ht;have d1:=csg t hm;have d2:=cof t hm;have d3:=pI a t;have d4:=cmul t hm;have hb:=hbd t hm;have hs':=hBs i t;have hn':=hBn i t a l ht;obtain⟨tv,tq'⟩:=t;dsimp only at *;obtain⟨ob,hob⟩:=ex (OF (tv,tq'));rw[hob] at d2 hb hs' hn';generalize yA tq'=sg at *;obtain⟨Q,hQ⟩:=ex (zI tq');rw[hQ] at hT d1 d3 d4;obtain⟨bvQ,hbV⟩:=ex ((ob.getD (R0,[])).1);obtain⟨bP,hbP⟩:=ex ((ob.getD (R0,[])).2);obtain⟨bh,hbh⟩:=ex ob.isSome;rw[hbV,hbP,hbh] at d2;have kn:bh=false->ob=none:=λh=>by cases ob with
   |none=>rfl| some x=>rw[<-hbh] at h;cases h
  have ks:bh=true->ob=some (bvQ,bP):=λh=>by cases ob with
   |none=>rw[<-hbh] at h;cases h
   |some x=>rw[<-hbV,<-hbP];rfl
  clear cof csg pI cmul hbd hpre hget hBs hBn hbV hbP hbh hob;cbv;refine yL hT wT wO ?_;cbv;refine qV 9 (by cbv) (by cbv) ?_;cbv;refine dA d1 ?_;cbv;refine dA d2 ?_;cbv;refine zO (λe=>?_) (λe=>?_)
  rotate_left
  ·have e1:=hn' (kn e) h3;rw[e1] at hbox;subst hbox;cbv
   (refine rC ?_;cbv)
   exact⟨⟨zK (by show (zI 0).neg=false;rw[uJ]),yM (by show lm (zI 0).num=[];rw[uJ];rfl),yM (by show lm (zI 0).den=[];rw[uJ];rfl),trivial⟩,yM rfl,zK rfl,trivial⟩
  (have e1:=ks e;obtain⟨zb,fb,lb⟩:=hb (bvQ,bP) e1;obtain⟨d5,d6⟩:=d3 bvQ fa hm zb;have hnx:=hs' (bvQ,bP) a l ht e1 h3;rw[<-h2] at d6;dsimp only at d5 d6 hnx lb fb;generalize tq'*bvQ.q=pr at *;generalize hW:zI (a+pr)=W at *;generalize zI pr=PR at *;obtain⟨AC,hAC⟩:=ex (vI tq');rw[hAC] at d4 hnx;obtain⟨A0,hA0⟩:∃ n:Nat,n=2^28:=⟨_,rfl⟩;obtain⟨L0,hL0⟩:∃ n:Nat,n=2^36:=⟨_,rfl⟩;obtain⟨D0,hD0⟩:∃ n:Nat,n=2^28+1:=⟨_,rfl⟩;have fl0:∀ t,t∈l->Fits A0 t.2:=λt h=>by rw[hA0];exact fl' t h);have fl3:l.length<=L0:=by rw[hL0];exact fl2
  have hAD:∀ i:Nat,i<=1->A0+i*D0<=2^30:=λi hi=>by have:i*D0<=1*D0:=kG _ hi;omega
  (have hLL:∀ i:Nat,i<=2->L0+i<2^37:=λi hi=>by omega);have hD1:∀ i:Nat,(A0+i*D0)+2^28+1<=A0+(i+1)*D0:=λi=>by rw[Nat.succ_mul];omega
  clear hA0 hL0 hD0 fl' fl2;clear hn' hs' kn ks d3;cbv;refine zM 7 (by cbv) ?_;cbv;refine dA d5 ?_;cbv;refine dA d6 ?_;cbv;refine z7 (σ:=Nat×List (Row×Rat)) (λst=>⟨[(2,.ptr 2 0),(3,.ptr 3 0),(4,.ptr 4 0),(7,.ptr 7 0),(8,mlv (mR st.2)),(9,iV i),(11,.ptr 11 0),(12,.ptr 12 0),(13,iV st.1)],[(2,.box (sc ⟨⟨⟨gn,us,os⟩,⟨lo,hi',rows⟩,⟨ts',c1',c2',c3'⟩⟩,path,L⟩)),(3,.box [tsv T,zL C0.neg,nat C0.num,nat C0.den]),(4,.box [.ff,.nil,.nil]),(7,.box [zL W.neg,nat W.num,nat W.den]),(11,.box [zL bvQ.neg,nat bvQ.num,nat bvQ.den,mlv (mR bP),zL bh]),(12,.box [.ff,nat Q.num,nat Q.den])]⟩)
   (λst=>st.1<=bP.length/\xR l bP AC=xR st.2 (bP.drop st.1) AC/\(∀ t,t∈st.2->Fits (A0+st.1*D0) t.2)/\st.2.length<=L0+st.1) (λst=>bP.length-st.1) (0,l) ⟨xA _,rfl,by simpa using fl0,by simpa using fl3⟩ (wkZ) ?_
  intro st hst;obtain⟨k,l2⟩:=st;obtain⟨g1,g2,g3,g4⟩:=hst;dsimp only at g1 g2 g3 g4;cbv;refine zF (λh6=>?_) (λh6=>?_)
  ·(rw[zA,jN] at h6;have hlt2:k<bP.length:=by exact om);obtain⟨x,hx⟩:=zS hlt2
   (have hxm:(mR bP)[k]?=some ⟨x.1,zI x.2⟩:=by simp[mR,dH,hx]);obtain⟨m1,m2⟩:=d4 x.2 (fb x (z3 hx))
   have m3:=cpl l2 x.1 (x.2*AC) ⟨by have:=hLL k oM;omega,λt ht=>(g3 t ht).mono (hAD k oM)⟩ m2;rw[zY hx,hmc] at g2;have g3':=oT (r:=x.1) m2 g3;have g4':=XM l2 x.1 (x.2*AC);obtain⟨xr,xq⟩:=x;dsimp only at *;generalize plMq l2 xr (xq*AC)=l3 at *;generalize zI (xq*AC)=Y at *;generalize zI xq=X at *;cbv;refine zM 17 (by cbv) ?_;cbv;refine yL hxm vA xS ?_;cbv;refine yL hxm vA xS ?_;cbv;refine dA m1 ?_;cbv;refine dA m3 ?_;cbv;exact⟨zD om om,(k+1,l3),⟨om,g2,λt ht=>(g3' t ht).mono (hD1 k),(by show l3.length<=L0+(k+1);omega)⟩,om,wkZ⟩
  ·(have hk:k=bP.length:=by rw[zA,jN] at h6;exact om);rw[hk,vE,hmn] at g2
   rw[g2] at hnx;cbv;exact⟨zD om om,(i+1,W,a+pr,l2),⟨om,hW.symm,hnx⟩,om,wkZ⟩
 ·(have hi:i=ts.length:=by rw[zA,hln] at h5;exact om);rw[hi,v9] at h3
  rw[h3] at hbox;subst hbox h2;have cc:=s47 (zI a) ((zU fa).mono (by decide));rw[z6] at cc;have e1:oV (some (a,l))=a:=rfl;have e2:oL (some (a,l))=l:=rfl;rw[e1,e2];generalize zI a=A at *;generalize mR l=M at *;cbv;refine cA cc ?_;cbv;exact rA
def Ps {s:Scp}(hs:Lsz (2^20) s.lems){j:Int}(h:(s.best j).1≠0):Fits (2^20) (s.vLo j):=by obtain⟨m,hm,e⟩:=ZE h;rw[e];exact (hs.sz m (z3 hm)).fits (by decide)
def Pt {s:Scp}(hs:Lsz (2^20) s.lems){j:Int}(h:(s.best j).2≠0):Fits (2^20) (s.vHi j):=by obtain⟨m,hm,e⟩:=Xf h;rw[e];exact (hs.sz m (z3 hm)).fits (by decide)
def SL {s:Scp}(hs:Lsz (2^20) s.lems){p:F}{c:Rat}{j:Int}{k n:Nat}(hc:Fits k c)(hp:Cn p.ts)(hf:p.fl (2^20) n){y:Row×F×Rat}(h:s.repl p c j=some y):Cn y.2.1.ts/\y.2.1.fl (2^24) n/\Fits (k+2^22) y.2.2:=by
 have ha:=j8 hc;have z:Cn F.zero.ts/\F.zero.fl (2^24) n:=⟨Cn.nil,zero_fl.mono (by decide) (xA _)⟩;have q:Cn p.ts/\p.fl (2^24) n:=⟨hp,hf.mono (by decide) (yD _)⟩;have a:Fits (k+2^22) (vI c):=ha.mono oM;unfold Scp.repl at h;split at h;{grind};split at h;{grind};split at h;{grind};split at h;{cases h}
 ·rename_i hb;have f1:=Ps hs (j:=j) (λe=>hb (.inl e));have f2:=Pt hs (j:=j) (λe=>hb (.inr e));have fd:=bI (uC f2 f1);cases h;refine⟨(Cn.nil.mrg hp).mrg Cn.nil,?_,?_⟩
  ·(have e1:Fits (2^20+(2^20+2^20+1)) (s.vHi j/(s.vHi j-s.vLo j)):=by rw[jD];exact y8 f2 fd);have e2:Fits (2^20+2^20+(2^20+2^20+1)) (-(s.vLo j*s.vHi j)/(s.vHi j-s.vLo j)):=by rw[jD];exact y8 (qF (y8 f1 f2)) fd
   have e3:(F.num (-(s.vLo j*s.vHi j)/(s.vHi j-s.vLo j))).fl (2^20+2^20+(2^20+2^20+1)) 0:=⟨λt ht=>absurd ht (by simp[F.num]),e2,yD _⟩;exact ((hf.scale e1).add e3).mono (by decide) oM
  {show Fits _ (vI c/(s.vHi j-s.vLo j));rw[jD];exact (y8 ha fd).mono oM}
def LK (s:Scp)(j:Nat)(pa:A)(f:F)(l:List (Row×Rat)){k n:Nat}(hs:Usz s)(hp:s.q.g.us[j]?=some pa)(hpc:fA pa.f=pa)(hpn:Cn pa.f.ts)(hpf:pa.f.fl (2^20) n)(hn:n<=2^33) (hc:Cn f.ts) (hf:f.fl k n) (h1:1<=k) (hk:k<=2^24) (hl:Mfit (2^30) l):zC 174 [sv s,fv f,mlv (mR l),iV j] (.tup [fv ((s.rep1 pa.f j (f,l)).getD (F.zero,[])).1,mlv (mR ((s.rep1 pa.f j (f,l)).getD (F.zero,[])).2),zL ((s.rep1 pa.f j (f,l)).isSome)]):=by
 refine sF Tryz.f174 ?_;obtain⟨v1,v2,v3,v4,v5⟩:=nO hs.v;obtain⟨v,hv⟩:∃ v:Int,s.q.g.n+j=v:=⟨_,rfl⟩;have hjl:j<1024:=by grind
 have hfc:=QF hc hf.t h1 v;have ck:=Nt f v hc (by have:=hf.len;omega);have csg:=s35 (zI (co f.ts v)) (xP (zU hfc).n oM);rw[z6] at csg;have cb:=bB s j hs.l;have con:=Nr s j hs;have cof:=R6 s j hs;have hll:=hs.l.len;have hss:=hs.l.sz;have hsl:=hs.l;have hrz:=λy h=>SL (s:=s) (y:=y) hs.l (c:=co f.ts v) (j:=j) hfc hpn hpf h;have hv1:=λh=>ZE (s:=s) (j:=j) h;have hv2:=λh=>Xf (s:=s) (j:=j) h;have coff:(s.offR j).2=false->0<(s.best j).2->0<yA (s.vHi j):=λh h'=>by unfold Scp.offR at h;grind
 have conn:(s.onR j).2=false->0<(s.best j).1->yA (s.vLo j)<0:=λh h'=>by unfold Scp.onR at h;grind
 have hR:s.rep1 pa.f j (f,l)=if yA (co f.ts v)=0 then some (f,l) else match s.repl pa.f (co f.ts v) j with
  |none=>none| some y=>some (f.subst v y.2.1,plMq l y.1 y.2.2):=by rw[<-hv];rfl
 have csu:∀ y,s.repl pa.f (co f.ts v) j=some y->zC 210 [fv f,iV v,fv y.2.1] (fv (f.subst v y.2.1))/\zC 112 [mlv (mR l),rwv y.1,rv (zI y.2.2)] (mlv (mR (plMq l y.1 y.2.2))):=λy h=>by obtain⟨e1,e2,e3⟩:=hrz y h;have:=Tk l y.1 (zI y.2.2) hl ((zU e3).mono oM);rw[z6] at this;exact⟨Eb f y.2.1 v hc e1 hf e2 h1 oM oM oM,this⟩
 have hrp:s.repl pa.f (co f.ts v) j=if (s.onR j).2=true then some ((if 0<yA (co f.ts v) then ⟨6,j,0,0⟩ else (s.onR j).1),pa.f,vI (co f.ts v))
  else if (s.offR j).2=true then some ((if yA (co f.ts v)<0 then (s.offR j).1 else ⟨5,j,0,0⟩),F.zero,vI (co f.ts v))
  else if 0<yA (co f.ts v) then
   (if 0<(s.best j).1/\0<(s.best j).2/\sJ (s.vLo j) (s.vHi j)=true then some (⟨6,j,0,0⟩,pa.f,vI (co f.ts v)) else some (⟨5,j,0,0⟩,F.zero,vI (co f.ts v)))
  else if (s.best j).1=0\/(s.best j).2=0 then none
  else some (⟨13,j,(s.best j).1,(s.best j).2⟩,(pa.f.scale (s.vHi j/(s.vHi j-s.vLo j))).add (F.num (-(s.vLo j*s.vHi j)/(s.vHi j-s.vLo j))),vI (co f.ts v)/(s.vHi j-s.vLo j)):=rfl
 have hAC:=sW (co f.ts v);have fAC:=j8 hfc;obtain⟨RR,hRe⟩:=ex (s.rep1 pa.f j (f,l));rw[hRe] at hR ⊢;obtain⟨FV,hFV⟩:=ex (fA (RR.getD (F.zero,[])).1);obtain⟨ML,hML⟩:=ex (mR (RR.getD (F.zero,[])).2);obtain⟨RB,hRB⟩:=ex RR.isSome;simp only[fv] at *;rw[hFV,hML,hRB];generalize s.repl pa.f (co f.ts v) j=rp at *;generalize vI (co f.ts v)=AC at *;obtain⟨C,hC⟩:=ex (zI (co f.ts v));rw[hC] at ck csg hAC;generalize s.onR j=on at *;generalize s.offR j=off at *;generalize s.best j=B at *;generalize s.vLo j=lo at *;generalize s.vHi j=hi at *;obtain⟨ron,bon⟩:=on;obtain⟨rof,bof⟩:=off;obtain⟨b1,b2⟩:=B;dsimp only at *;generalize hsg:yA (co f.ts v)=sg at *;have k0:sg=0->FV=fA f/\ML=mR l/\RB=true:=λh=>by rw[<-hFV,<-hML,<-hRB,hR,if_pos h];exact⟨rfl,rfl,rfl⟩
 have k1:sg≠0->rp=none->FV=⟨[],R0⟩/\ML=[]/\RB=false:=λh h'=>by rw[<-hFV,<-hML,<-hRB,hR,if_neg h,h'];exact⟨uU,rfl,rfl⟩
 have k2:sg≠0->∀ y,rp=some y->FV=fA (f.subst v y.2.1)/\ML=mR (plMq l y.1 y.2.2)/\RB=true:=λh y h'=>by rw[<-hFV,<-hML,<-hRB,hR,if_neg h,h'];exact⟨rfl,rfl,rfl⟩
 have a1:bon=true->rp=some ((if 0<sg then ⟨6,j,0,0⟩ else ron),pa.f,AC):=λh=>by rw[hrp,if_pos h]
 have a2:bon=false->bof=true->rp=some ((if sg<0 then rof else ⟨5,j,0,0⟩),F.zero,AC):=λh h'=>by rw[hrp,if_neg (by rw[h];decide),if_pos h']
 have a3:bon=false->bof=false->0<sg->(0<b1/\0<b2/\sJ lo hi=true)->rp=some (⟨6,j,0,0⟩,pa.f,AC):=λh h' g g'=>by rw[hrp,if_neg (by rw[h];decide),if_neg (by rw[h'];decide),if_pos g,if_pos g']
 have a4:bon=false->bof=false->0<sg->¬(0<b1/\0<b2/\sJ lo hi=true)->rp=some (⟨5,j,0,0⟩,F.zero,AC):=λh h' g g'=>by rw[hrp,if_neg (by rw[h];decide),if_neg (by rw[h'];decide),if_pos g,if_neg g']
 have a5:bon=false->bof=false->¬0<sg->(b1=0\/b2=0)->rp=none:=λh h' g g'=>by rw[hrp,if_neg (by rw[h];decide),if_neg (by rw[h'];decide),if_neg g,if_pos g']
 have a6:bon=false->bof=false->¬0<sg->¬(b1=0\/b2=0)->rp=some (⟨13,j,b1,b2⟩,(pa.f.scale (hi/(hi-lo))).add (F.num (-(lo*hi)/(hi-lo))),AC/(hi-lo)):=λh h' g g'=>by rw[hrp,if_neg (by rw[h];decide),if_neg (by rw[h'];decide),if_neg g,if_neg g']
 obtain⟨FA,hFA⟩:=ex (fA f);simp only[hFA] at ck csu k0;obtain⟨ML0,hML0⟩:=ex (mR l);simp only[hML0] at csu k0;rw[hFA,hML0];have z0:=uU;obtain⟨⟨⟨gn,us,os⟩,⟨lo',hi'',rows⟩,⟨ts,c1',c2',c3'⟩⟩,path,L⟩:=s;dsimp only at *;clear hR hRe hFV hML hRB hrp hsg hC hs hc hf hl hrz hFA hML0 hfc hsl;cbv;refine⟨zD om om,?_⟩;cbv;refine yL hp j7 cJ ?_;cbv;refine yJ rfl (by repeat' first|exact trivial|exact lR|exact zB hv|apply And.intro) ck rfl ?_;cbv;refine cA csg ?_;cbv;refine zF (λe0=>?_) (λe0=>?_);{obtain⟨q1,q2,q3⟩:=k0 e0;subst q1 q2 q3;cbv;exact rA};cbv;refine cA cb ?_;cbv;refine cA con ?_;cbv;refine cA cof ?_;cbv;refine lJ (σ:=Row×F×Rat×R×A) (λy=>⟨[(2,mlv ML0),(5,.ptr 5 0),(8,.ptr 8 0),(11,iV v),(15,.ptr 15 0),(22,.ptr 22 0),(23,.ptr 23 0)],
   [(5,.box [tsv FA.ts,zL FA.c.neg,nat FA.c.num,nat FA.c.den]),(8,.box [.nil,.ff,.nil,.nil]),(15,.box [zL y.2.2.2.1.neg,nat y.2.2.2.1.num,nat y.2.2.2.1.den]),(22,.box (rwc y.1)),(23,.box [tsv y.2.2.2.2.ts,zL y.2.2.2.2.c.neg,nat y.2.2.2.2.c.num,nat y.2.2.2.2.c.den])]⟩)
  (λy=>rp=some (y.1,y.2.1,y.2.2.1)/\y.2.2.2.1=zI y.2.2.1/\y.2.2.2.2=fA y.2.1) (λe=>?_) (λe=>?_) (λy hy=>?_)
 {have g:=a1 e;cbv;refine vP 3 [(2,22)] (by cbv) (by cbv) (by cbv) ?_;cbv;refine zF (λe1=>?_) (λe1=>?_);{rw[if_pos e1] at g;cbv;exact⟨(⟨6,j,0,0⟩,pa.f,AC,⟨false,C.num,C.den⟩,pa),⟨g,hAC,hpc.symm⟩,wkY (by cbv;repeat' first|exact trivial|exact lR|exact zB hv|exact zK rfl|exact yM rfl|apply And.intro)⟩};{rw[if_neg e1] at g;cbv;exact⟨(ron,pa.f,AC,⟨false,C.num,C.den⟩,pa),⟨g,hAC,hpc.symm⟩,wkY (by cbv;repeat' first|exact trivial|exact lR|exact zB hv|exact zK rfl|exact yM rfl|apply And.intro)⟩}}
 ·cbv;refine zO (λe2=>?_) (λe2=>?_);{have g:=a2 e e2;cbv;refine zF (λe1=>?_) (λe1=>?_);{rw[if_pos e1] at g;cbv;exact⟨(rof,F.zero,AC,⟨false,C.num,C.den⟩,⟨[],R0⟩),⟨g,hAC,z0.symm⟩,wkY (by cbv;repeat' first|exact trivial|exact lR|exact zB hv|exact zK rfl|exact yM rfl|apply And.intro)⟩};{rw[if_neg e1] at g;cbv;exact⟨(⟨5,j,0,0⟩,F.zero,AC,⟨false,C.num,C.den⟩,⟨[],R0⟩),⟨g,hAC,z0.symm⟩,wkY (by cbv;repeat' first|exact trivial|exact lR|exact zB hv|exact zK rfl|exact yM rfl|apply And.intro)⟩}};cbv;refine zF (λe3=>?_) (λe3=>?_)
  ·cbv;refine zM 21 (by cbv) ?_;cbv;refine zQ (λx1=>?_) (λx1=>?_)
   rotate_left
   {have g:=a4 e e2 e3 (λh=>x1 (by exact om));cbv;exact⟨(⟨5,j,0,0⟩,F.zero,AC,⟨false,C.num,C.den⟩,⟨[],R0⟩),⟨g,hAC,z0.symm⟩,wkY (by cbv;repeat' first|exact trivial|exact lR|exact zB hv|exact zK rfl|exact yM rfl|apply And.intro)⟩};cbv;refine zQ (λx2=>?_) (λx2=>?_)
   rotate_left
   {have g:=a4 e e2 e3 (λh=>x2 (by exact om));cbv;exact⟨(⟨5,j,0,0⟩,F.zero,AC,⟨false,C.num,C.den⟩,⟨[],R0⟩),⟨g,hAC,z0.symm⟩,wkY (by cbv;repeat' first|exact trivial|exact lR|exact zB hv|exact zK rfl|exact yM rfl|apply And.intro)⟩};obtain⟨m1,g1,hx⟩:=hv1 (by exact om);obtain⟨m2,g2,hy⟩:=hv2 (by exact om);have z1:=hss m1 (z3 g1);have z2:=hss m2 (z3 g2);have l1:=(wE.1 g1).1;have l2:=(wE.1 g2).1;have csl:=Np m1.v m2.v (z1.mono (by decide)) (z2.mono (by decide));rw[<-hx,<-hy] at csl;generalize sJ lo hi=sb at *;clear hx hy hv1 hv2;cbv;refine⟨zD om om,x5 g1 (by exact om) xB y7 ?_⟩;cbv;refine⟨zD om om,x5 g2 (by exact om) xB y7 ?_⟩;cbv;refine cA csl ?_;cbv;refine zF (λx3=>?_) (λx3=>?_)
   ·have x3':sb=true:=by
     cases sb with
     |true=>rfl| false=>exact absurd x3 (by decide)
    have g:=a3 e e2 e3 ⟨by exact om,by exact om,x3'⟩;cbv;refine vP 4 [(3,22)] (by cbv) (by cbv) (by cbv) ?_;cbv;exact⟨(⟨6,j,0,0⟩,pa.f,AC,⟨false,C.num,C.den⟩,pa),⟨g,hAC,hpc.symm⟩,wkY (by cbv;repeat' first|exact trivial|exact lR|exact zB hv|exact zK rfl|exact yM rfl|apply And.intro)⟩
   {have g:=a4 e e2 e3 (λh=>x3 (by rw[if_pos h.2.2]));cbv;exact⟨(⟨5,j,0,0⟩,F.zero,AC,⟨false,C.num,C.den⟩,⟨[],R0⟩),⟨g,hAC,z0.symm⟩,wkY (by cbv;repeat' first|exact trivial|exact lR|exact zB hv|exact zK rfl|exact yM rfl|apply And.intro)⟩}
  ·cbv;refine zQ (λx1=>?_) (λx1=>?_);{obtain⟨q1,q2,q3⟩:=k1 e0 (a5 e e2 e3 (.inl (by exact om)));subst q1 q2 q3;cbv;exact rA};cbv;refine zF (λx2=>?_) (λx2=>?_);{obtain⟨q1,q2,q3⟩:=k1 e0 (a5 e e2 e3 (.inr (by exact om)));subst q1 q2 q3;cbv;exact rA}
   (have y1:b1≠0:=by exact om);have y2:b2≠0:=by exact om
   (have g:=a6 e e2 e3 (λh=>h.elim y1 y2);obtain⟨m1,g1,hx⟩:=hv1 y1;obtain⟨m2,g2,hy⟩:=hv2 y2;have z1:=hss m1 (z3 g1);have z2:=hss m2 (z3 g2);have l1:=(wE.1 g1).1;have l2:=(wE.1 g2).1;have hu:iI lo hi=true:=by unfold iI;rw[decide_eq_true (conn e oM),decide_eq_true (coff e2 oM)];rfl);obtain⟨hne,_,_⟩:=eX hu
   (have f1:=z1.fits (by decide);have f2:=z2.fits (by decide);have csb:=s93 m2.v m1.v (z2.mono (by decide)) (z1.mono (by decide));have cln:=Ec m1.v m2.v (z1.mono (by decide)) (z2.mono (by decide)) (by rw[<-hx,<-hy];exact hu);rw[<-hx,<-hy] at csb cln;rw[<-hx] at f1;rw[<-hy] at f2;have fd:=uC f2 f1;have w1:Fits (2^23) (hi/(hi-lo)):=by rw[jD];exact (y8 f2 (bI fd)).mono (by decide));have w2:Fits (2^23) (-(lo*hi)/(hi-lo)):=by rw[jD];exact (y8 (qF (y8 f1 f2)) (bI fd)).mono (by decide)
   have csc:=fQ (f:=pa.f) (q:=hi/(hi-lo)) hpf w1 (by decide) oM (by decide);have cnum:=Nw (-(lo*hi)/(hi-lo));have wn:(F.num (-(lo*hi)/(hi-lo))).fl (2^23) 0:=⟨λt ht=>absurd ht (by simp[F.num]),w2,yD _⟩;have cadd:=Gq (f:=pa.f.scale (hi/(hi-lo))) (g:=F.num (-(lo*hi)/(hi-lo))) (Cn.nil.mrg hpn) Cn.nil (hpf.scale w1) wn (by decide) (by decide) oM (by decide);have cdv:=Sy (zI AC) (zI (hi-lo)) ((zU fAC).mono oM) ((zU fd).mono (by decide)) (by rw[z6];exact hne);simp only[z6] at cdv;rw[<-hAC] at cdv;simp only[fv,hpc] at csc cnum cadd;obtain⟨TA,hTA⟩:=ex (fA ((pa.f.scale (hi/(hi-lo))).add (F.num (-(lo*hi)/(hi-lo)))));rw[hTA] at cadd;obtain⟨SA,hSA⟩:=ex (fA (pa.f.scale (hi/(hi-lo))));rw[hSA] at cadd csc;obtain⟨NA,hNA⟩:=ex (fA (F.num (-(lo*hi)/(hi-lo))));rw[hNA] at cadd cnum;generalize (pa.f.scale (hi/(hi-lo))).add (F.num (-(lo*hi)/(hi-lo)))=TF at *;obtain⟨W4,hW4⟩:=ex (zI (AC/(hi-lo)));rw[hW4] at cdv;generalize AC/(hi-lo)=W5 at *;generalize zI (hi/(hi-lo))=W1 at *;generalize zI (-(lo*hi)/(hi-lo))=W2 at *;generalize zI (hi-lo)=W3 at *;generalize sJ lo hi=sb at *;clear hx hy hv1 hv2 a1 a2 a3 a4 a5 a6 w1 w2 wn hSA hNA hu hne f1 f2 fd conn coff csu k0 k1 k2;cbv;refine vP 17 [(16,24)] (by cbv) (by cbv) (by cbv) ?_;cbv;refine⟨zD om om,x5 g1 (by exact om) xB y7 ?_⟩;cbv;refine⟨zD om om,x5 g2 (by exact om) xB y7 ?_⟩;cbv;refine cA cln ?_;cbv;refine zM 6 (by cbv) ?_;cbv;refine dA csc ?_;cbv;refine dA cnum ?_;cbv;refine dA cadd ?_;cbv;refine aX (σ:=Unit) (λ_=>⟨[(2,mlv ML0),(5,.ptr 5 0),(8,.ptr 8 0),(11,iV v),(15,.ptr 15 0),(22,.ptr 22 0),(23,.ptr 23 0)],
    [(5,.box [tsv FA.ts,zL FA.c.neg,nat FA.c.num,nat FA.c.den]),(8,.box [.nil,.ff,.nil,.nil]),(15,.box [zL W4.neg,nat W4.num,nat W4.den]),(22,.box (rwc ⟨13,j,b1,b2⟩)),(23,.box [tsv TA.ts,zL TA.c.neg,nat TA.c.num,nat TA.c.den])]⟩) (λ_=>True) (.refl _) (by cbv) ?_ ?_
   ·cbv
    repeat' first
     |exact trivial
     |(refine yJ rfl okA csb rfl ?_;cbv)
     |(refine yJ rfl okA cdv rfl ?_;cbv)
     |exact⟨(),trivial,wkY (by cbv;repeat' first|exact trivial|exact lR|exact zB hv|exact zK rfl|exact yM rfl|apply And.intro)⟩
     |apply And.intro
   {intro _ _;cbv;exact⟨(⟨13,j,b1,b2⟩,TF,W5,W4,TA),⟨g,hW4.symm,hTA.symm⟩,wkY (by cbv;repeat' first|exact trivial|exact lR|exact zB hv|exact zK rfl|exact yM rfl|apply And.intro)⟩}
 {obtain⟨row,g,q,r,a⟩:=y;obtain⟨y1,y2,y3⟩:=hy;dsimp only at y1 y2 y3;obtain⟨d1,d2⟩:=csu (row,g,q) y1;obtain⟨q1,q2,q3⟩:=k2 e0 (row,g,q) y1;dsimp only at d1 d2 q1 q2;rw[<-y2] at d2;rw[<-y3] at d1;rw[<-q1] at d1;rw[<-q2] at d2;subst q3;clear k0 k1 k2 a1 a2 a3 a4 a5 a6 csu;cbv;refine zM 8 (by cbv) ?_;cbv;refine dA d1 ?_;cbv;refine dA d2 ?_;cbv;exact rA}
end Go.Proofs.YtaeaffgjdcigoaaGreat
