/- A part of the proof: SpX, EvA, LxA, EvB, EvC, EvD. -/
import Derived.Test.YtboocdbmnfjomaaGreatR28
import Derived.Test.YtboocdbmnfjomaaGreatR27
import Derived.Test.YtboocdbmnfjomaaGreatR22
import Derived.Test.YtboocdbmnfjomaaGreatR23
import Derived.Test.YtboocdbmnfjomaaGreatR31
import Derived.Test.YtboocdbmnfjomaaGreatR32
import Derived.Test.YtboocdbmnfjomaaGreatR29
set_option linter.all false
namespace Go.Proofs.YtboocdbmnfjomaaGreat
open Go
set_option maxRecDepth 100000
set_option maxHeartbeats 4000000
def xr (l:List Rat):Int->Rat:=λv=>(l[v.toNat]?).getD 0
def wV:List F->List Rat->List Rat
 |[],l=>l| f::r,l=>wV r (l++[l8 (f.at (xr l)) 0])
def sD:∀ (us:List F) (l:List Rat),(wV us l).length=l.length+us.length
 |[],l=>rfl| f::r,l=>by unfold wV;rw[sD r];simp;omega
def oG:∀ (us:List F) (l:List Rat) (i:Nat),i<l.length->(wV us l)[i]?=l[i]?
 |[],l,i,_=>rfl| f::r,l,i,h=>by unfold wV;rw[oG r _ i (by simp;omega),aB h]
def Se {f:F}{X Y:Int->Rat}(h:∀ t,t∈f.ts->X t.1=Y t.1):f.at X=f.at Y:=by
 unfold F.at
 congr 1;generalize f.ts=l at *;induction l with
 |nil=>rfl| cons t r ih =>
  unfold evX;rw[h t wZ,ih λu hu=>h u (wJ _ hu)]
def ZG {l:List Rat}{i:Nat}{q:Rat}(h:l[i]?=some q):xr l i=q:=by unfold xr;rw[kN,h];rfl
def Ce {us:List F}{l:List Rat}{f:F}(hw:f.wf (l.length:Int)):f.at (xr (wV us l))=f.at (xr l):=Se λt ht=>by have h:=hw.v t ht;unfold xr;rw[oG us l _ oM]
def VU:∀ {us:List F} {l:List Rat} {i:Nat} {f:F},(∀ (i:Nat) (f:F),us[i]?=some f->f.wf ((l.length+i:Nat):Int))->us[i]?=some f->(wV us l)[l.length+i]?=some (l8 (f.at (xr (wV us l))) 0)
 |[],l,i,f,_,h=>by simp at h| g::r,l,0,f,hw,h=>by simp only[rV,rF] at h;subst h;have hw0:=hw 0 g rfl;rw[Ce (us:=g::r) hw0];unfold wV;rw[oG r _ _ (by simp)];simp| g::r,l,i+1,f,hw,h=>by simp only[aA] at h;unfold wV;have:=VU (us:=r) (l:=l++[l8 (g.at (xr l)) 0]) (i:=i) (f:=f) (λj f' hf=>by have:=hw (j+1) f' (by simpa using hf);rw[vE,List.length_singleton];rw[show l.length+1+j=l.length+(j+1) by omega];exact this) h;rw[vE,List.length_singleton] at this;rw[show l.length+(i+1)=l.length+1+i by omega];exact this
def evS (f:F) (X:Int->Rat) (i:Nat):Rat:=f.c+evX X (f.ts.take i)
def JP (X:Int->Rat)(t:Int×Rat):∀ l,evX X (l++[t])=evX X l+t.2*X t.1
 |[]=>by show t.2*X t.1+0=0+t.2*X t.1;grind| u::r=>by rw[Vq];unfold evX;rw[JP X t r];grind
def WQ (f:F)(X:Int->Rat):evS f X 0=f.c:=by unfold evS;rw[List.take_zero];show f.c+0=f.c;grind
def WR {f:F}{X:Int->Rat}{i:Nat}{t:Int×Rat}(h:f.ts[i]?=some t):evS f X (i+1)=evS f X i+t.2*X t.1:=by unfold evS;rw[show f.ts.take (i+1)=f.ts.take i++[t] by rw[rS,h];rfl,JP];grind
def QT (f:F)(X:Int->Rat):evS f X f.ts.length=f.at X:=by unfold evS;rw[v6];rfl
def FX (m:Nat) (X:Int->Rat) (f:F):Prop:=∀ t,t∈f.ts->Fits m (X t.1)
def nG {f:F}{X:Int->Rat}{k n m:Nat}(hf:f.fl k n)(hx:FX m X f):∀ i,Fits (k+(k+m+1)*i) (evS f X i)
 |0=>by rw[WQ];exact hf.c.mono oM| i+1=>by
  have ih:=nG hf hx i;cases h:f.ts[i]? with
  |none =>
   (have e:evS f X (i+1)=evS f X i:=by unfold evS;rw[yW (by have:=List.getElem?_eq_none_iff.1 h;omega),yW (List.getElem?_eq_none_iff.1 h)]);rw[e];exact ih.mono (by rw[Yk];omega)
  |some t =>
   rw[WR h];have hm:=z8 h;exact (uS ih (x5 (hf.t t hm) (hx t hm))).mono (by rw[Yk];omega)
def lT {f:F}{X:Int->Rat}{k n m:Nat}(hf:f.fl k n)(hx:FX m X f):Fits (k+(k+m+1)*n) (f.at X):=by rw[<-QT];exact (nG hf hx _).mono (Nat.add_le_add_left (wL _ hf.len) _)
def Yn {l:List Rat}{m:Nat}{f:F}(hw:f.wf (l.length:Int))(hl:∀ q,q∈l->Fits m q):FX m (xr l) f:=λt ht=>by
 have h:=hw.v t ht;obtain⟨q,hq⟩:=zY (l:=l) (i:=t.1.toNat) oM;have e:t.1=((t.1.toNat:Nat):Int):=by omega
 rw[e,ZG hq];exact hl q (z8 hq)
def Ax {k m:Nat}{a b:Rat}(ha:Fits k a)(hb:Fits m b):Fits (k+m) (l8 a b):=by unfold l8;split;{exact hb.mono oM};{exact ha.mono oM}
def VX:∀ {us:List F} {l:List Rat} {m:Nat},1<=m->(∀ (i:Nat) (f:F),us[i]?=some f->f.wf ((l.length+i:Nat):Int))->(∀ f,f∈us->f.fl 43 7)->(∀ q,q∈l->Fits m q)->us.length<=4->∀ q,q∈wV us l->Fits ((m+60)*8^us.length) q
 |[],l,m,_,_,_,hl,_,q,hq=>(hl q hq).mono (by simp)| f::r,l,m,hm,hw,hf,hl,hu,q,hq=>by
  (unfold wV at hq;have h0:=hw 0 f rfl;have hv:=lT (hf f wZ) (Yn (l:=l) h0 hl);have hr:r.length+1<=4:=by simpa using hu);have:=VX (us:=r) (l:=l++[l8 (f.at (xr l)) 0]) (m:=8*m+420) oM (λj f' hf'=>by
   have:=hw (j+1) f' (by simpa using hf');rw[vE,List.length_singleton,show l.length+1+j=l.length+(j+1) by omega];exact this) (λg hg=>hf g (wJ _ hg)) (λx hx=>by
   rcases w6.1 hx with hx|hx;{exact (hl x hx).mono oM}
   ·rw[cM.1 hx];exact (Ax hv (xT (k:=1) (by decide))).mono oM) oM q hq
  (refine this.mono ?_;rw[d5,uL];have e:(m+60)*(8^r.length*8)=((m+60)*8)*8^r.length:=by rw[jI (8^r.length) 8,<-gI]);rw[e]
  exact uU _ oM
def GX (f:F)(l:List Rat){k n m:Nat}(hf:f.fl k n)(hw:f.wf (l.length:Int))(hl:∀ q,q∈l->Fits m q)(hk:k<=2^30)(hm:m<=2^30)(hn:k+(k+m+1)*n<=2^30)(hn2:n<=2^30)(hll:l.length<2^40):zE 46 [av (fA f),rlv (l.map zI)] (.tup [rv (zI (f.at (xr l))),iV 0]):=by
 refine sF Tryz.f46 ?_;have fx:=Yn hw hl;have hi:∀ (i:Nat) t,f.ts[i]?=some t->∃ j:Nat,t.1=(j:Int)/\j<l.length/\(l.map zI)[j]?=some (zI (xr l t.1)):=λi t h=>by
  (have hv:=hw.v t (z8 h);obtain⟨q,hq⟩:=zY (l:=l) (i:=t.1.toNat) oM;have e:t.1=((t.1.toNat:Nat):Int):=by omega);refine⟨t.1.toNat,e,by omega,?_⟩
  rw[vH,hq];rw[e,ZG hq];rfl
 have cm:∀ t,t∈f.ts->zE 52 [rv (zI t.2),rv (zI (xr l t.1))] (rv (zI (t.2*xr l t.1))):=λt ht=>by have:=s77 (zI t.2) (zI (xr l t.1)) ((zX (hf.t t ht)).mono oM) ((zX (fx t ht)).mono oM);rw[z7,z7] at this;exact this
 have ca:∀ (i:Nat) t,f.ts[i]?=some t->zE 51 [rv (zI (evS f (xr l) i)),rv (zI (t.2*xr l t.1))] (rv (zI (evS f (xr l) (i+1)))):=λi t h=>by have hm':=z8 h;have hlt:=(wI.1 h).1;have hle:=hf.len;have e:(k+m+1)*i<=(k+m+1)*n:=wL _ oM;have:=s44 (zI (evS f (xr l) i)) (zI (t.2*xr l t.1)) ((zX (nG hf fx i)).mono oM) ((zX (x5 (hf.t t hm') (fx t hm'))).mono (by have:(k+m+1)*1<=(k+m+1)*n:=wL _ oM;omega));rw[z7,z7,<-WR h] at this;exact this
 have hlen:f.ts.length<=2^30:=vV hf.len hn2;have e0:=WQ f (xr l);have e9:=QT f (xr l);obtain⟨V,hV⟩:∃ V:Nat->R,∀ i,zI (evS f (xr l) i)=V i:=⟨_,λ_=>rfl⟩;have hav:av (fA f)=.agg [tsv (tR f.ts),zM ((V 0).neg),nat (V 0).num,nat (V 0).den]:=by rw[<-hV,e0];rfl
 rw[<-e9,hV,hav];simp only[hV] at ca;have hT:∀ (i:Nat) t,f.ts[i]?=some t->(tR f.ts)[i]?=some (t.1,zI t.2):=λi t h=>by simp[tR,vH,h]
 have hTl:(tR f.ts).length=f.ts.length:=vL _;have hxl:(l.map zI).length=l.length:=yN ..;have facts:∀ i,i<f.ts.length->∃ (z:Int) (v:Nat) (c x y:R),z=(v:Int)/\(tR f.ts)[i]?=some (z,c)/\(l.map zI)[v]?=some x/\v<(l.map zI).length/\zE 52 [rv c,rv x] (rv y)/\zE 51 [rv (V i),rv y] (rv (V (i+1))):=λi h=>by obtain⟨t,ht⟩:=zY h;obtain⟨j,h1,h2,h3⟩:=hi i t ht;exact⟨t.1,j,zI t.2,_,_,h1,hT i t ht,h3,by rw[hxl];exact h2,cm t (z8 ht),ca i t ht⟩
 clear hi cm ca hT hav hV e0 e9 fx hl hw hf;generalize f.ts.length=N at *;generalize tR f.ts=T at *;generalize l.map zI=X at *;cbv;refine zZ (σ:=Nat) (λi=>⟨[(1,rlv X),(2,.ptr 2 0),(4,.ptr 4 0),(6,.ptr 6 0),(7,iV i)],
   [(2,.box [tsv T,zM ((V 0).neg),nat (V 0).num,nat (V 0).den]),(4,.box [.ff,.nil,.nil]),(6,.box [zM ((V i).neg),nat (V i).num,nat (V i).den])]⟩)
  (λi=>i<=N) (λi=>N-i) 0 (xK _) (wkZ) ?_
 intro i hi';cbv;refine zH (λh=>?_) (λh=>?_)
 ·(have hlt:i<N:=by rw[zB,hTl] at h;exact om);obtain⟨z,v,c,x,y,g0,g1,g2,g3,c1,c2⟩:=facts i hlt
  clear facts;generalize hV1:V (i+1)=V1 at *;generalize hVi:V i=Vi at *;cbv;refine yT g1 xX xW ?_;cbv;refine yG om ?_;cbv;refine yE (by rw[zB];exact om) ?_;cbv;refine zP 10 (by cbv) ?_;cbv;refine vN g2 g0 w4 uC ?_;cbv;refine dA c1 ?_;cbv;refine dA c2 ?_;cbv;refine⟨zF om om,i+1,(by show i+1<=N;omega),(by show N-(i+1)<N-i;omega),.le okZ (by cbv;rw[hV1];repeat' first|exact trivial|exact lR|apply And.intro) rfl⟩
 ·(have hN':i=N:=by rw[zB,hTl] at h;exact om);rw[hN']
  cbv;exact rA

def VW (f:F):∀ (us:List F) (l:List Rat),wV (us++[f]) l=wV us l++[l8 (f.at (xr (wV us l))) 0]
 |[],l=>rfl| g::r,l=>by rw[Vq];unfold wV;exact VW f r _
structure VSeq (x:FGrp) (l:List Rat) (V:Nat->List Rat):Prop where
 v0:V 0=l
 v1:∀ (j:Nat) f,x.us[j]?=some f->V (j+1)=V j++[l8 (f.at (xr (V j))) 0]
 v9:V x.us.length=wV x.us l
 len:∀ j,j<=x.us.length->(V j).length=l.length+j
 fit:∀ j q,q∈V j->Fits (2^24) q
def F7 {x:FGrp}(hx:x.small)(hw:∀ (i:Nat) (f:F),x.us[i]?=some f->f.wf ((x.n+i:Nat):Int)){l:List Rat}(hl:l.length=x.n){m:Nat}(hm:1<=m)(hm2:m<=2^10)(hf:∀ q,q∈l->Fits m q):∃ V,VSeq x l V:=by
 refine⟨λj=>wV (x.us.take j) l,rfl,λj f h=>?_,by show wV (x.us.take x.us.length) l=_;rw[v6],λj hj=>?_,λj q hq=>?_⟩;{show wV (x.us.take (j+1)) l=_;rw[rS,h];exact VW f _ _};{show (wV (x.us.take j) l).length=_;rw[sD,vG];omega}
 ·(have h4:=hx.us;have hk:(x.us.take j).length<=4:=by rw[vG];omega);have:=VX hm (us:=x.us.take j) (l:=l) (λi f h=>by rw[hl];exact hw i f (by rw[List.getElem?_take] at h;split at h;exact h;cases h)) (λf h=>hx.uf f (p5 h)) hf hk q hq
  refine this.mono ?_;have e:(8:Nat)^(x.us.take j).length<=8^4:=d7 (by decide) hk
  calc (m+60)*8^(x.us.take j).length<=(2^10+60)*8^4:=FU oM e
   _<=2^24:=by decide
def KU (x:FGrp)(l:List Rat)(hx:x.small)(hv:x.g.valid=true)(hz:x.g.sz (2^32))(hw:∀ (i:Nat) (f:F),x.us[i]?=some f->f.wf ((x.n+i:Nat):Int))(hl:l.length=x.n){m:Nat}(hm:1<=m)(hm2:m<=2^10)(hf:∀ q,q∈l->Fits m q):zE 19 [gv x.g,rlv (l.map zI)] (.tup [rlv ((wV x.us l).map zI),iV 0]):=by
 refine sF Tryz.f19 ?_;have cv:=Bb x.g hz;rw[hv] at cv;have cc:∀ q,q∈l->zE 57 [rv (zI q)] (rv (zI q)):=λq hq=>by have:=s47 (zI q) ((zX (hf q hq)).mono oM);rw[z7] at this;exact this
 have n2:=hx.n2;have u4:=hx.us;obtain⟨V,Q⟩:=F7 hx hw hl hm hm2 hf;have facts:∀ j,j<x.us.length->∃ (p:A) (y z:R),(x.us.map fA)[j]?=some p/\zE 46 [av p,rlv ((V j).map zI)] (.tup [rv y,iV 0])/\zE 58 [rv y,rv ⟨false,[],[]⟩] (rv z)/\(V (j+1)).map zI=(V j).map zI++[z]:=λj hj=>by obtain⟨f,hfj⟩:=zY hj;have hvl:=Q.len j oM;have hwf:=hw j f hfj;have hfl:=hx.uf f (z8 hfj);rw[<-hl,<-hvl] at hwf;have ce:=GX f (V j) hfl hwf (Q.fit j) (by decide) (by decide) (by decide) (by decide) oM;have cm:=s70 (zI (f.at (xr (V j)))) ⟨false,[],[]⟩ ((zX (lT hfl (Yn hwf (Q.fit j)))).mono (by decide)) ⟨by decide,by decide⟩;rw[z7] at cm;have e0:(⟨false,[],[]⟩:R).q=0:=rfl;rw[e0] at cm;exact⟨fA f,_,_,by rw[vH,hfj];rfl,ce,cm,by rw[Q.v1 j f hfj,jQ];rfl⟩
 have v0:=Q.v0;have v9:=Q.v9;have vl:=Q.len;rw[<-v9];have hU:x.g.us=x.us.map fA:=rfl;have hUl:(x.us.map fA).length=x.us.length:=yN ..;have hn:x.g.n=(l.length:Int):=by rw[hl];rfl
 clear Q hw hf v9 hz hx hv;generalize x.g=g at *;obtain⟨gn,us,os⟩:=g;dsimp only at hU hn;subst hU hn;have ccl:∀ (i:Nat) q,l[i]?=some q->(l.map zI)[i]?=some (zI q)/\(l.map zI).take (i+1)=(l.map zI).take i++[zI q]:=λi q h=>by
  (have:(l.map zI)[i]?=some (zI q):=by rw[vH,h];rfl);exact⟨this,by rw[rS,this];rfl⟩
 have cx:∀ i,i<l.length->∃ r,zE 57 [rv r] (rv r)/\(l.map zI)[i]?=some r/\(l.map zI).take (i+1)=(l.map zI).take i++[r]:=λi h=>by obtain⟨q,hq⟩:=zY h;exact⟨zI q,cc q (z8 hq),(ccl i q hq).1,(ccl i q hq).2⟩
 clear cc ccl;have hXl:(l.map zI).length=l.length:=yN ..;have hv0:(V 0).map zI=(l.map zI).take l.length:=by rw[v0,<-hXl,v6]
 have vl':∀ j,j<=x.us.length->((V j).map zI).length=l.length+j:=λj h=>by rw[yN];exact vl j h
 obtain⟨W,hW⟩:∃ W:Nat->List R,∀ j,(V j).map zI=W j:=⟨_,λ_=>rfl⟩;simp only[hW] at facts vl' hv0 ⊢;clear hW vl v0;generalize l.map zI=X at *;generalize x.us.length=M at *;generalize x.us.map fA=us at *;generalize hln:l.length=n at *;have hlx:X.length=n:=hXl;have htl:∀ i,i<=n->(X.take i).length=i:=λi h=>by rw[vG];omega
 cbv;refine cA cv ?_;cbv;refine Zy rfl ?_;cbv;refine zH (λe=>?_) (λe=>(e (by rw[zB];exact om)).elim);cbv;refine zZ (σ:=Nat) (λi=>⟨[(1,rlv X),(2,.ptr 2 0),(6,zW 6 3 ((X.take i).length)),(7,iV i)],[(2,.box [iV n,alv us,alv os]),(6,z5 3 (enc rc (X.take i)))]⟩)
  (λi=>i<=n) (λi=>n-i) 0 (xK _)
  (.trans (wkZ (ps':=⟨[(1,rlv X),(2,.ptr 2 0),(6,.nil),(7,iV (((0:Nat):Int)))],[(2,.box [iV n,alv us,alv os])]⟩)) (.trans (.adoptT (ps:=⟨[(1,rlv X),(2,.ptr 2 0),(6,.nil),(7,iV (((0:Nat):Int)))],[(2,.box [iV n,alv us,alv os])]⟩) 6 3 6 rfl rfl) (wkZ))) ?_
 intro i hi';have hti:=htl i hi';cbv;refine zH (λh=>?_) (λh=>?_)
 ·(have hlt:i<n:=by rw[zB] at h;exact om);obtain⟨r,c1,g1,g2⟩:=cx i hlt
  clear cx facts vl';cbv;refine yT g1 w4 uC ?_;cbv;refine cA c1 ?_;cbv;refine xJ ZI rfl rfl rfl (by simp[zB,zK]) rfl ⟨by simp[zK,xC]⟩ (z3 (by simp[zK,zB] <;> omega) (by simp[zK,zB] at *;exact om)) rfl ?_;cbv;exact⟨zF om om,i+1,(by show i+1<=n;omega),(by show n-(i+1)<n-i;omega),wkY (by cbv;repeat' first|exact trivial|exact lR|exact zG om|exact zR rfl (by first|rfl|(rw[g2];done)|(simp[zK,zB,htl,hlx];done)|(rw[g2];simp[zK,zB];done))|exact zC (by first|rfl|(rw[g2];done)|(rw[g2];rfl)|(rw[<-zV];rfl)|(rw[g2,<-zV];rfl))|apply And.intro)⟩
 have hin:i=n:=by rw[zB] at h;exact om
 rw[hin];clear hin hti hi' h cx;cbv;refine zZ (σ:=Nat) (λj=>⟨[(2,.ptr 2 0),(6,zW 6 3 ((W j).length)),(8,iV j)],[(2,.box [iV n,alv us,alv os]),(6,.log 3 (λ_=>enc rc (W j)))]⟩)
  (λj=>j<=M) (λj=>M-j) 0 (xK _) (.trans (.lend 6 8 rfl rfl trivial) (wkY (by cbv;repeat' first|exact trivial|exact lR|exact zG om|exact zR rfl (by first|rfl|(rw[hv0];done)|(simp[zK,zB,htl,hlx];done)|(rw[hv0];simp[zK,zB];done))|exact zC (by first|rfl|(rw[hv0];done)|(rw[hv0];rfl)|(rw[<-zV];rfl)|(rw[hv0,<-zV];rfl))|apply And.intro))) ?_
 intro j hj;have lj:=vl' j hj;cbv;refine zH (λh=>?_) (λh=>?_)
 ·(have hlt:j<M:=by rw[zB,hUl] at h;exact om);obtain⟨p,y,z,g1,c1,c2,g2⟩:=facts j hlt
  have hT:=gT rc (W j);have hfr:=r8 rc (W j);clear facts vl';generalize W j=Wj at *;cbv;refine yT g1 vP qD ?_;cbv;refine j2 (.lend 6 48 rfl rfl ?_) rfl ?_ c1 rfl ?_
  ·cbv
   repeat' first|exact trivial|exact⟨hfr⟩|apply And.intro
  {cbv;exact⟨okA,zT hT,trivial⟩};cbv;refine xE rfl okA c2 rfl ?_;cbv;refine Vj ZI rfl rfl rfl (by simp[zB,zK]) rfl ⟨by simp[zK,xC]⟩ (z3 (by simp[zK,zB] <;> omega) (by simp[zK,zB] at *;exact om)) rfl ?_;cbv;exact⟨zF om om,j+1,(by show j+1<=M;omega),(by show M-(j+1)<M-j;omega),wkY (by cbv;repeat' first|exact trivial|exact lR|exact zG om|exact zR rfl (by first|rfl|(rw[g2];done)|(simp[zK,zB,htl,hlx];done)|(rw[g2];simp[zK,zB];done))|exact zC (by first|rfl|(rw[g2];done)|(rw[g2];rfl)|(rw[<-zV];rfl)|(rw[g2,<-zV];rfl))|apply And.intro)⟩
 have hjn:j=M:=by rw[zB,hUl] at h;exact om
 rw[hjn];clear hjn lj hj h facts vl';generalize W M=X' at *;have hT:=gT rc X';have hfr:=r8 rc X';cbv;refine dG _ (.trans (.le (ps':=⟨[(4,zW 6 3 X'.length),(5,iV 0)],[(6,.log 3 (λ_=>enc rc X'))]⟩) ?_ ?_ rfl) (.frz 6 rfl rfl ?_ ?_)) rfl ?_;{cbv;exact okA};{cbv;exact⟨zC rfl,trivial⟩}
 ·cbv
  repeat' first|exact trivial|exact⟨hfr⟩|apply And.intro
 ·cbv
  repeat' first|exact trivial|apply And.intro
 cbv;exact⟨zT hT,lR,trivial⟩
def iG {α β:Type}(g:α->β){l:List α}{i:Nat}{a:α}(h:l[i]?=some a):(l.take (i+1)).map g=(l.take i).map g++[g a]:=by rw[rS,h];simp
def Dt (x:FGrp)(fs:List F)(l:List Rat)(hx:x.small)(hv:x.g.valid=true)(hz:x.g.sz (2^32))(hw:∀ (i:Nat) (f:F),x.us[i]?=some f->f.wf ((x.n+i:Nat):Int))(hl:l.length=x.n){m:Nat}(hm:1<=m)(hm2:m<=2^10)(hf:∀ q,q∈l->Fits m q) (h1:fs.length<=1000) (h2:∀ f,f∈fs->f.fl 43 7/\f.wf ((x.n+x.us.length:Nat):Int)):zE 162 [gv x.g,alv (fs.map fA),rlv (l.map zI)] (.tup [rlv ((fs.map λf=>f.at (xr (wV x.us l))).map zI),iV 0]):=by
 refine sF Tryz.f162 ?_;have cv:=KU x l hx hv hz hw hl hm hm2 hf;obtain⟨V,Q⟩:=F7 hx hw hl hm hm2 hf;have vfit:∀ q,q∈wV x.us l->Fits (2^24) q:=λq hq=>Q.fit x.us.length q (by rw[Q.v9];exact hq);have vlen:(wV x.us l).length=x.n+x.us.length:=by rw[sD,hl]
 have n2:=hx.n2;have u4:=hx.us;clear Q;generalize wV x.us l=VV at *;have ce:∀ i,i<fs.length->∃ (p:A) (y:R),(fs.map fA)[i]?=some p/\zE 46 [av p,rlv (VV.map zI)] (.tup [rv y,iV 0])/\((fs.take (i+1)).map λf=>zI (f.at (xr VV)))=((fs.take i).map λf=>zI (f.at (xr VV)))++[y]:=λi hi=>by obtain⟨f,hfi⟩:=zY hi;obtain⟨g1,g2⟩:=h2 f (z8 hfi);rw[<-vlen] at g2;have:=GX f VV g1 g2 vfit (by decide) (by decide) (by decide) (by decide) oM;exact⟨fA f,_,by rw[vH,hfi];rfl,this,iG _ hfi⟩
 obtain⟨W,hW⟩:∃ W:Nat->List R,∀ i,((fs.take i).map λf=>zI (f.at (xr VV)))=W i:=⟨_,λ_=>rfl⟩;have w0:W 0=[]:=by rw[<-hW];rfl
 have wl:∀ i,i<=fs.length->(W i).length=i:=λi h=>by rw[<-hW,yN,vG];omega
 have w9:(fs.map λf=>f.at (xr VV)).map zI=W fs.length:=by rw[<-hW,v6,Ki];rfl
 simp only[hW] at ce;rw[w9];have hFl:(fs.map fA).length=fs.length:=yN ..;clear hW w9 h2 hf hw hx hv hz;generalize fs.map fA=FS at *;generalize fs.length=M at *;generalize VV.map zI=X at *;generalize l.map zI=LL at *;generalize x.g=g at *;obtain⟨gn,us,os⟩:=g;cbv;refine cA cv ?_;cbv;refine xF rfl ?_;cbv;refine zZ (σ:=Nat) (λi=>⟨[(1,alv FS),(8,rlv X),(10,zW 10 3 ((W i).length)),(11,iV i)],[(10,z5 3 (enc rc (W i)))]⟩)
  (λi=>i<=M) (λi=>M-i) 0 (xK _)
  (.trans (wkZ (ps':=⟨[(1,alv FS),(8,rlv X),(10,.nil),(11,iV (((0:Nat):Int)))],[]⟩)) (.trans (.adoptT (ps:=⟨[(1,alv FS),(8,rlv X),(10,.nil),(11,iV (((0:Nat):Int)))],[]⟩) 10 3 10 rfl rfl) (wkY (by cbv;repeat' first|exact trivial|exact lR|exact zG om|exact zR rfl (by first|rfl|(rw[w0];done)|(simp[zK,zB];done)|(rw[w0];simp[zK,zB];done))|exact zC (by first|rfl|(rw[w0];done)|(rw[w0];rfl)|(rw[<-zV];rfl)|(rw[w0,<-zV];rfl))|apply And.intro)))) ?_
 intro i hi';have hwi:=wl i hi';cbv;refine zH (λh=>?_) (λh=>?_)
 ·(have hlt:i<M:=by rw[zB,hFl] at h;exact om);obtain⟨p,y,g1,c1,g2⟩:=ce i hlt
  clear ce wl;cbv;refine yT g1 vP qD ?_;cbv;refine cA c1 ?_;cbv;refine xJ ZI rfl rfl rfl (by simp[zB,zK]) rfl ⟨by simp[zK,xC]⟩ (z3 (by simp[zK,zB] <;> omega) (by simp[zK,zB] at *;exact om)) rfl ?_;cbv;exact⟨zF om om,i+1,(by show i+1<=M;omega),(by show M-(i+1)<M-i;omega),wkY (by cbv;repeat' first|exact trivial|exact lR|exact zG om|exact zR rfl (by first|rfl|(rw[g2];done)|(simp[zK,zB];done)|(rw[g2];simp[zK,zB];done))|exact zC (by first|rfl|(rw[g2];done)|(rw[g2];rfl)|(rw[<-zV];rfl)|(rw[g2,<-zV];rfl))|apply And.intro)⟩
 have hin:i=M:=by rw[zB,hFl] at h;exact om
 rw[hin];clear hin hwi hi' h ce wl;generalize W M=X' at *;have hT:=gT rc X';have hfr:=r8 rc X';cbv;refine dG _ (.trans (.le (ps':=⟨[(6,zW 10 3 X'.length),(7,iV 0)],[(10,z5 3 (enc rc X'))]⟩) ?_ ?_ rfl) (.frz 10 rfl rfl ?_ ?_)) rfl ?_;{cbv;exact okA};{cbv;exact⟨zC rfl,trivial⟩}
 ·cbv
  repeat' first|exact trivial|exact⟨hfr⟩|apply And.intro
 ·cbv
  repeat' first|exact trivial|apply And.intro
 cbv;exact⟨zT hT,lR,trivial⟩
def G4 (x:FGrp)(l:List Rat)(hx:x.small)(hv:x.g.valid=true)(hz:x.g.sz (2^32))(hw:∀ (i:Nat) (f:F),x.us[i]?=some f->f.wf ((x.n+i:Nat):Int))(hl:l.length=x.n){m:Nat}(hm:1<=m)(hm2:m<=2^10)(hf:∀ q,q∈l->Fits m q):zE 106 [gv x.g,rlv (l.map zI)] (.tup [rlv ((x.us.map λf=>f.at (xr (wV x.us l))).map zI),iV 0]):=by refine sF Tryz.f106 ?_;have cf:=Dt x x.us l hx hv hz hw hl hm hm2 hf (by have:=hx.us;omega) (λf h=>by obtain⟨i,hi⟩:=lE h;have hlt:=(wI.1 hi).1;exact⟨hx.uf f h,(hw i f hi).mono oM⟩);have e:gv x.g=.agg [iV x.n,alv (x.us.map fA),alv (x.os.map fA)]:=rfl;rw[e] at cf ⊢;generalize (x.us.map λf=>f.at (xr (wV x.us l))).map zI=Y at *;generalize x.us.map fA=us at *;generalize x.os.map fA=os at *;generalize l.map zI=LL at *;generalize (x.n:Int)=n at *;cbv;refine cA cf ?_;cbv;exact rA
def RF (g:Reg)(hg:g.sz (2^31)):zE 105 [rgv g] (zM (g.valid (g.lo.length:Int))):=by refine sF Tryz.f105 ?_;have cv:=PU g (g.lo.length:Int) hg;generalize g.valid (g.lo.length:Int)=b at *;obtain⟨lo,hi,rows⟩:=g;cbv;refine xE rfl (by exact⟨okA,zG (by rw[zB]),trivial⟩) cv rfl ?_;cbv;exact rA
def VI (raw:List UInt8) (i:Nat):Nat:=if i<raw.length then ((raw.getD i 0)%9).toNat else 0
def rE (raw:List UInt8):Nat->List (Rat×Rat)->List Rat
 |_,[]=>[]| i,b::r=>(b.1+pY (VI raw i:Int) 8*(b.2-b.1))::rE raw (i+1) r
def Wy (raw:List UInt8):∀ (i:Nat) (l:List (Rat×Rat)),(rE raw i l).length=l.length
 |_,[]=>rfl| i,b::r=>by unfold rE;rw[d5,d5,Wy raw _ r]
def Ju (raw:List UInt8):∀ {l:List (Rat×Rat)} {i j:Nat} {b:Rat×Rat},l[j]?=some b->(rE raw i l)[j]?=some (b.1+pY (VI raw (i+j):Int) 8*(b.2-b.1))
 |[],_,_,_,h=>by simp at h| a::r,i,0,b,h=>by simp only[rV,rF] at h;subst h;unfold rE;simp| a::r,i,j+1,b,h=>by simp only[aA] at h;unfold rE;rw[aA,Ju raw h,show i+1+j=i+(j+1) by omega]
def EX (w:UInt8):nx .i64 (irem (w.toNat:Int) 9)=(((w%9).toNat:Nat):Int):=by have h:=w.toNat_lt;unfold irem nx;have e:Int.tmod (w.toNat:Int) 9=((w.toNat%9:Nat):Int):=(Int.ofNat_tmod _ _).symm;rw[e,UInt8.toNat_mod];show IntKind.wrap .i64 ((w.toNat%9:Nat):Int)=((w.toNat%9:Nat):Int);have h8:w.toNat%9<9:=uF _ (by decide);generalize w.toNat%9=k at *;simp[IntKind.wrap,IntKind.signed,IntKind.bits];omega
def Fs (raw:List UInt8)(i:Nat):VI raw i<9:=by unfold VI;split;{rw[UInt8.toNat_mod];exact uF _ (by decide)};{decide}
def Wx {k:Nat}(h:k<9):Fits 1 (pY (k:Int) 8):=by
 have:∀ k:Fin 9,(pY (k.val:Int) 8).num.natAbs<B/\(pY (k.val:Int) 8).den<B:=by decide +kernel
 obtain⟨h1,h2⟩:=this ⟨k,h⟩;exact⟨by simpa using h1,by simpa using h2⟩
def Uz {raw:List UInt8}:∀ {l:List (Rat×Rat)} {i:Nat},(∀ b,b∈l->Fits 3 b.1/\Fits 3 b.2)->∀ q,q∈rE raw i l->Fits 20 q
 |[],_,_,q,hq=>absurd hq (by simp[rE])| b::r,i,h,q,hq=>by unfold rE at hq;rcases yR.1 hq with rfl|hq;{obtain⟨h1,h2⟩:=h b wZ;exact (uS h1 (x5 (Wx (Fs raw i)) (dS h2 h1))).mono oM};{exact Uz (λc hc=>h c (wJ _ hc)) q hq}
def RG (x:FReg)(raw:List UInt8){n:Nat}(hx:x.small n)(hn:n<=1000)(hr:raw.length<2^38):zE 17 [rgv x.g,u8v raw] (rlv ((rE raw 0 x.bs).map zI)):=by
 refine sF Tryz.f17 ?_;have hbl:=hx.bs;have facts:∀ i,i<n->∃ (K:Nat) (part lo hi d m y:R),(x.bs.map λb=>zI b.1)[i]?=some lo/\(x.bs.map λb=>zI b.2)[i]?=some hi/\zE 50 [iV K,iV 8] (.tup [rv part,iV 0]) /\
   zE 53 [rv hi,rv lo] (rv d)/\zE 52 [rv part,rv d] (rv m)/\zE 51 [rv lo,rv m] (rv y)/\(((rE raw 0 x.bs).take (i+1)).map zI=((rE raw 0 x.bs).take i).map zI++[y]) /\
   (i<raw.length->∃ w,raw[i]?=some w/\nx .i64 (irem (w.toNat:Int) 9)=(K:Int))/\(¬i<raw.length->K=0):=λi hi=>by
  obtain⟨b,hb⟩:=zY (l:=x.bs) (i:=i) oM;obtain⟨f1,f2⟩:=hx.bf b (z8 hb);have hK:=Fs raw i;have c1:=s43 (VI raw i:Int) 8 oM oM (by decide) (by decide) (by decide);have c2:=s93 (zI b.2) (zI b.1) ((zX f2).mono (by decide)) ((zX f1).mono (by decide));rw[z7,z7] at c2;have f3:=dS f2 f1;have c3:=s77 (zI (pY (VI raw i:Int) 8)) (zI (b.2-b.1)) ((zX (Wx hK)).mono (by decide)) ((zX f3).mono (by decide));rw[z7,z7] at c3;have c4:=s44 (zI b.1) (zI (pY (VI raw i:Int) 8*(b.2-b.1))) ((zX f1).mono (by decide)) ((zX (x5 (Wx hK) f3)).mono (by decide));rw[z7,z7] at c4;have g:=Ju raw (i:=0) hb;rw[vF] at g;refine⟨VI raw i,_,_,_,_,_,_,by rw[vH,hb];rfl,by rw[vH,hb];rfl,c1,c2,c3,c4,iG _ g,λh=>?_,λh=>?_⟩;{obtain⟨w,hw⟩:=zY h;refine⟨w,hw,?_⟩;rw[EX];unfold VI;rw[if_pos h,wK,hw];rfl};{unfold VI;rw[if_neg h]}
 have hIl:(rE raw 0 x.bs).length=n:=by rw[Wy,hbl]
 obtain⟨W,hW⟩:∃ W:Nat->List R,∀ i,((rE raw 0 x.bs).take i).map zI=W i:=⟨_,λ_=>rfl⟩;have w0:W 0=[]:=by rw[<-hW];rfl
 have wl:∀ i,i<=n->(W i).length=i:=λi h=>by rw[<-hW,yN,vG];omega
 have w9:(rE raw 0 x.bs).map zI=W n:=by rw[<-hW,<-hIl,v6]
 simp only[hW] at facts;rw[w9];have e:rgv x.g=.agg [rlv (x.bs.map λb=>zI b.1),rlv (x.bs.map λb=>zI b.2),alv (x.rows.map fA)]:=rfl;rw[e];have hLl:(x.bs.map λb=>zI b.1).length=n:=by rw[yN,hbl]
 clear hW w9 hx hIl e hbl;generalize x.bs.map (λb=>zI b.1)=LO at *;generalize x.bs.map (λb=>zI b.2)=HI at *;generalize x.rows.map fA=RW at *;cbv;refine zZ (σ:=Nat) (λi=>⟨[(1,u8v raw),(2,.ptr 2 0),(5,zW 5 3 ((W i).length)),(6,iV i)],[(2,.box [rlv LO,rlv HI,alv RW]),(5,z5 3 (enc rc (W i)))]⟩)
  (λi=>i<=n) (λi=>n-i) 0 (xK _)
  (.trans (wkZ (ps':=⟨[(1,u8v raw),(2,.ptr 2 0),(5,.nil),(6,iV (((0:Nat):Int)))],[(2,.box [rlv LO,rlv HI,alv RW])]⟩)) (.trans (.adoptT (ps:=⟨[(1,u8v raw),(2,.ptr 2 0),(5,.nil),(6,iV (((0:Nat):Int)))],[(2,.box [rlv LO,rlv HI,alv RW])]⟩) 5 3 5 rfl rfl) (wkY (by cbv;repeat' first|exact trivial|exact lR|exact zG om|exact zR rfl (by first|rfl|(rw[w0];done)|(simp[zK,zB];done)|(rw[w0];simp[zK,zB];done))|exact zC (by first|rfl|(rw[w0];done)|(rw[w0];rfl)|(rw[<-zV];rfl)|(rw[w0,<-zV];rfl))|apply And.intro)))) ?_
 intro i hi';have hwi:=wl i hi';cbv;refine zH (λh=>?_) (λh=>?_)
 ·(have hlt:i<n:=by rw[zB,hLl] at h;exact om);obtain⟨K,part,lo,hi,d,m,y,g1,g2,c1,c2,c3,c4,g3,k1,k2⟩:=facts i hlt
  clear facts wl;generalize W i=Wi at *;cbv;refine jZ (σ:=Unit) (λ_=>⟨[(1,u8v raw),(2,.ptr 2 0),(5,zW 5 3 Wi.length),(6,iV i),(7,iV K)],[(2,.box [rlv LO,rlv HI,alv RW]),(5,z5 3 (enc rc Wi))]⟩) (λ_=>True) (λe=>?_) (λe=>?_) (λ_ _=>?_);{obtain⟨w,hw,hk⟩:=k1 (gL e);cbv;refine yT hw Ky UX ?_;cbv;refine⟨kI om,?_⟩;cbv;exact⟨(),trivial,.le (by cbv;exact⟨lR,lR,lR,lR,zG hk,trivial⟩) okZ rfl⟩};{have hk:=k2 (λh=>e (by rw[zB];exact om));subst hk;cbv;exact⟨(),trivial,.le (by cbv;exact⟨lR,lR,lR,lR,zG rfl,trivial⟩) okZ rfl⟩};{clear k1 k2;cbv;refine cA c1 ?_;cbv;refine zP 21 (by cbv) ?_;cbv;refine yT g1 w4 uC ?_;cbv;refine yT g2 w4 uC ?_;cbv;refine yT g1 w4 uC ?_;cbv;refine dA c2 ?_;cbv;refine dA c3 ?_;cbv;refine dA c4 ?_;cbv;refine xJ ZI rfl rfl rfl (by simp[zB,zK]) rfl ⟨by simp[zK,xC]⟩ (z3 (by simp[zK,zB] <;> omega) (by simp[zK,zB] at *;exact om)) rfl ?_;cbv;exact⟨zF om om,i+1,(by show i+1<=n;omega),(by show n-(i+1)<n-i;omega),wkY (by cbv;repeat' first|exact trivial|exact lR|exact zG om|exact zR rfl (by first|rfl|(rw[g3];done)|(simp[zK,zB];done)|(rw[g3];simp[zK,zB];done))|exact zC (by first|rfl|(rw[g3];done)|(rw[g3];rfl)|(rw[<-zV];rfl)|(rw[g3,<-zV];rfl))|apply And.intro)⟩}
 have hin:i=n:=by rw[zB,hLl] at h;exact om
 rw[hin];clear hin hwi hi' h facts wl;generalize W n=X' at *;have hT:=gT rc X';have hfr:=r8 rc X';cbv;refine dG _ (.trans (.le (ps':=⟨[(4,zW 5 3 X'.length)],[(5,z5 3 (enc rc X'))]⟩) ?_ ?_ rfl) (.frz 5 rfl rfl ?_ ?_)) rfl ?_;{cbv;exact okA};{cbv;exact⟨zC rfl,trivial⟩}
 ·cbv
  repeat' first|exact trivial|exact⟨hfr⟩|apply And.intro
 ·cbv
  repeat' first|exact trivial|apply And.intro
 cbv;exact zT hT
def inB:List (Rat×Rat)->List Rat->Bool
 |b::bs,q::qs=>(decide (0<=wN q b.1)&&decide (wN q b.2<=0))&&inB bs qs| _,_=>true
def XO (fs:List F) (X:Int->Rat):Bool:=fs.all λf=>decide (0<=yF (f.at X))
def Y5:∀ {bs:List (Rat×Rat)} {l:List Rat},inB bs l=true->∀ (i:Nat) b q,bs[i]?=some b->l[i]?=some q->0<=wN q b.1/\wN q b.2<=0
 |[],_,_,i,b,q,h,_=>by simp at h| _::_,[],_,i,b,q,_,h=>by simp at h| a::bs,p::l,h,0,b,q,h1,h2=>by simp only[rV,rF] at h1 h2;subst h1 h2;unfold inB at h;simp only[yS,decide_eq_true_eq] at h;exact h.1| a::bs,p::l,h,i+1,b,q,h1,h2=>by simp only[aA] at h1 h2;unfold inB at h;simp only[yS,decide_eq_true_eq] at h;exact Y5 h.2 i b q h1 h2
def Ag:∀ {bs:List (Rat×Rat)} {l:List Rat},(∀ (i:Nat) b q,bs[i]?=some b->l[i]?=some q->0<=wN q b.1/\wN q b.2<=0)->inB bs l=true
 |[],_,_=>by unfold inB;rfl
 |_::_,[],_=>by unfold inB;rfl
 |a::bs,p::l,h=>by unfold inB;simp only[yS,decide_eq_true_eq];exact⟨h 0 a p rfl rfl,Ag λi b q h1 h2=>h (i+1) b q (by simpa using h1) (by simpa using h2)⟩
def JV (x:FReg) (l:List Rat):Bool:=inB x.bs l&&XO x.rows (xr l)
def RH (x:FReg)(l:List Rat){n:Nat}(hx:x.small n)(hv:x.g.valid (n:Int)=true)(hz:x.g.sz (2^31))(hw:∀ f,f∈x.rows->f.wf (n:Int))(hl:l.length=n)(hn:n<=3){m:Nat}(hm2:m<=2^10)(hf:∀ q,q∈l->Fits m q):zE 54 [rgv x.g,rlv (l.map zI)] (zM (JV x l)):=by
 refine sF Tryz.f54 ?_;have co:=RF x.g hz;have hlo:x.g.lo.length=n:=by show (List.map _ _).length=n;rw[yN];exact hx.bs
 rw[hlo,hv] at co;have hbl:=hx.bs;generalize hres:JV x l=res;have r0:res=(inB x.bs l&&XO x.rows (xr l)):=hres.symm;have facts:∀ i,i<n->∃ (q lo hi:R) (z1 z2:Int),(l.map zI)[i]?=some q/\(x.bs.map λb=>zI b.1)[i]?=some lo/\(x.bs.map λb=>zI b.2)[i]?=some hi/\zE 47 [rv q,rv lo] (iV z1)/\zE 47 [rv q,rv hi] (iV z2) /\
   (¬(0<=z1/\z2<=0)->res=false)/\((0<=z1/\z2<=0)->∀ b q,x.bs[i]?=some b->l[i]?=some q->0<=wN q b.1/\wN q b.2<=0):=λi hi=>by
  obtain⟨b,hb⟩:=zY (l:=x.bs) (i:=i) oM;obtain⟨q,hq⟩:=zY (l:=l) (i:=i) oM;obtain⟨f1,f2⟩:=hx.bf b (z8 hb);have f3:=hf q (z8 hq);have c1:=s42 (zI q) (zI b.1) ((zX f3).mono oM) ((zX f1).mono (by decide));have c2:=s42 (zI q) (zI b.2) ((zX f3).mono oM) ((zX f2).mono (by decide));rw[z7,z7] at c1 c2;refine⟨_,_,_,_,_,by rw[vH,hq];rfl,by rw[vH,hb];rfl,by rw[vH,hb];rfl,c1,c2,λh=>?_,λh b' q' hb' hq'=>?_⟩
  ·cases hi':inB x.bs l with
   |false=>rw[r0,hi'];rfl
   |true=>exact absurd (Y5 hi' i b q hb hq) h
  {rw[hb] at hb';rw[hq] at hq';cases hb';cases hq';exact h}
 have n2:=hx.rows;have rf:∀ k,k<x.rows.length->∃ (p:A) (y:R) (s:Int),(x.rows.map fA)[k]?=some p/\zE 46 [av p,rlv (l.map zI)] (.tup [rv y,iV 0])/\zE 26 [rv y] (iV s)/\(s<0->res=false)/\(¬s<0->∀ f,x.rows[k]?=some f->0<=yF (f.at (xr l))):=λk hk=>by
  obtain⟨f,hfk⟩:=zY hk;have hmem:=z8 hfk;have hwf:=hw f hmem;rw[<-hl] at hwf;have hfl:f.fl 19 3:=(hx.rf f hmem).mono oM hn;have ce:=GX f l hfl hwf hf (by decide) oM oM (by decide) oM;have cs:=s35 (zI (f.at (xr l))) (by have:=(zX (lT hfl (Yn hwf hf))).n;omega);rw[z7] at cs;refine⟨fA f,_,_,by rw[vH,hfk];rfl,ce,cs,λh=>?_,λh f' hf'=>?_⟩
  ·rw[r0];have:XO x.rows (xr l)=false:=by
    cases hr:XO x.rows (xr l) with
    |false=>rfl| true =>
     unfold XO at hr;have:=of_decide_eq_true (gH.1 hr f hmem);omega
   rw[this,Bool.and_false]
  {rw[hfk] at hf';cases hf';omega}
 have rt:(∀ i,i<n->∀ b q,x.bs[i]?=some b->l[i]?=some q->0<=wN q b.1/\wN q b.2<=0)->(∀ k,k<x.rows.length->∀ f,x.rows[k]?=some f->0<=yF (f.at (xr l)))->res=true:=λh1 h2=>by rw[r0,Ag λi b q hb hq=>h1 i (by have:=(wI.1 hb).1;omega) b q hb hq];unfold XO;rw[yU,gH];intro f hf';obtain⟨k,hk⟩:=lE hf';exact decide_eq_true (h2 k (wI.1 hk).1 f hk)
 have e:rgv x.g=.agg [rlv (x.bs.map λb=>zI b.1),rlv (x.bs.map λb=>zI b.2),alv (x.rows.map fA)]:=rfl;rw[e] at co ⊢;have hLl:(x.bs.map λb=>zI b.1).length=n:=by rw[yN,hbl]
 have hRl:(x.rows.map fA).length=x.rows.length:=yN ..;have hXl:(l.map zI).length=n:=by rw[yN,hl]
 obtain⟨P1,hP1⟩:∃ P:Nat->Prop,∀ i,P i=∀ b q,x.bs[i]?=some b->l[i]?=some q->0<=wN q b.1/\wN q b.2<=0:=⟨_,λ_=>rfl⟩;obtain⟨P2,hP2⟩:∃ P:Nat->Prop,∀ k,P k=∀ f,x.rows[k]?=some f->0<=yF (f.at (xr l)):=⟨_,λ_=>rfl⟩;simp only[<-hP1] at facts rt;simp only[<-hP2] at rf rt;clear hx hv hz hw hf e hP1 hP2 r0 hres hlo hbl;generalize x.bs.map (λb=>zI b.1)=LO at *;generalize x.bs.map (λb=>zI b.2)=HI at *;generalize x.rows.map fA=RW at *;generalize x.rows.length=M at *;generalize l.map zI=X at *;cbv;refine cA co ?_;cbv;refine Zy rfl ?_;cbv;refine zH (λe=>?_) (λe=>(e (by rw[zB,zB];exact om)).elim);cbv;refine zZ (σ:=Nat) (λi=>⟨[(1,rlv X),(2,.ptr 2 0),(5,iV i)],[(2,.box [rlv LO,rlv HI,alv RW])]⟩)
  (λi=>i<=n/\∀ j,j<i->P1 j) (λi=>n-i) 0 ⟨xK _,λj h=>absurd h oM⟩ (wkZ) ?_
 intro i hi';obtain⟨hi1,hi2⟩:=hi';cbv;refine zH (λh=>?_) (λh=>?_)
 ·(have hlt:i<n:=by rw[zB,hXl] at h;exact om);obtain⟨q,lo,hi,z1,z2,g1,g2,g3,c1,c2,k1,k2⟩:=facts i hlt
  clear facts rf rt;cbv;refine zP 24 (by cbv) ?_;cbv;refine yT g1 w4 uC ?_;cbv;refine yT g2 w4 uC ?_;cbv;refine dA c1 ?_;cbv;refine zU (λe1=>?_) (λe1=>?_)
  ·have hr:=k1 (λh=>by omega);cbv
   (refine rC ?_;cbv)
   exact zN hr
  cbv;refine yT g1 w4 uC ?_;cbv;refine yT g3 w4 uC ?_;cbv;refine dA c2 ?_;cbv;refine zH (λe2=>?_) (λe2=>?_)
  ·have hr:=k1 (λh=>by omega);cbv
   (refine rC ?_;cbv)
   exact zN hr
  have hp:=k2 ⟨by omega,by omega⟩;cbv;exact⟨zF om om,i+1,⟨(by show i+1<=n;omega),λj hj=>by
   by_cases e:j=i;{rw[e];exact hp}
   ·exact hi2 j (by have:j<i+1:=hj;omega)⟩,(by show n-(i+1)<n-i;omega),wkZ⟩
 have hin:i=n:=by rw[zB,hXl] at h;exact om
 rw[hin] at hi2;clear hin hi1 h facts;cbv;refine zZ (σ:=Nat) (λk=>⟨[(1,rlv X),(2,.ptr 2 0),(6,iV k)],[(2,.box [rlv LO,rlv HI,alv RW])]⟩)
  (λk=>k<=M/\∀ j,j<k->P2 j) (λk=>M-k) 0 ⟨xK _,λj h=>absurd h oM⟩ (wkZ) ?_
 intro k hk';obtain⟨hk1,hk2⟩:=hk';cbv;refine zH (λh=>?_) (λh=>?_)
 ·(have hlt:k<M:=by rw[zB,hRl] at h;exact om);obtain⟨p,y,s,g1,c1,c2,k1,k2⟩:=rf k hlt
  clear rf rt;cbv;refine yT g1 vP qD ?_;cbv;refine cA c1 ?_;cbv;refine cA c2 ?_;cbv;refine zH (λe1=>?_) (λe1=>?_)
  ·have hr:=k1 e1;cbv
   (refine rC ?_;cbv)
   exact zN hr
  have hp:=k2 e1;cbv;exact⟨zF om om,k+1,⟨(by show k+1<=M;omega),λj hj=>by
   by_cases e:j=k;{rw[e];exact hp}
   ·exact hk2 j (by have:j<k+1:=hj;omega)⟩,(by show M-(k+1)<M-k;omega),wkZ⟩
 have hkn:k=M:=by rw[zB,hRl] at h;exact om
 rw[hkn] at hk2;have hr:=rt hi2 hk2;cbv
 (refine rC ?_;cbv)
 exact yL hr
end Go.Proofs.YtboocdbmnfjomaaGreat
