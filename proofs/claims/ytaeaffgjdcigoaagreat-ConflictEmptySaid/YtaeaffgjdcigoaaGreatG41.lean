/- A part of the proof: EvA. -/
import Derived.Test.YtaeaffgjdcigoaaGreatG29
import Derived.Test.YtaeaffgjdcigoaaGreatG21
import Derived.Test.YtaeaffgjdcigoaaGreatG22
import Derived.Test.YtaeaffgjdcigoaaGreatG28
set_option linter.all false
namespace Go.Proofs.YtaeaffgjdcigoaaGreat
open Go
set_option maxRecDepth 100000
set_option maxHeartbeats 4000000
def GY (f:F)(l:List Rat){k n m:Nat}(hf:f.fl k n)(hw:f.wf (l.length:Int))(hl:∀ q,q∈l->Fits m q)(hk:k<=2^30)(hm:m<=2^30)(hn:k+(k+m+1)*n<=2^30)(hn2:n<=2^30)(hll:l.length<2^40):zD 88 [av (fA f),rlv (l.map zG)] (.tup [rv (zG (f.at (xr l))),iV 0]):=by
 refine sF Tryz.f88 ?_;have fx:=VU hw hl;have hi:∀ (i:Nat) t,f.ts[i]?=some t->∃ j:Nat,t.1=(j:Int)/\j<l.length/\(l.map zG)[j]?=some (zG (xr l t.1)):=λi t h=>by
  (have hv:=hw.v t (zX h);obtain⟨q,hq⟩:=zO (l:=l) (i:=t.1.toNat) oM;have e:t.1=((t.1.toNat:Nat):Int):=by omega);refine⟨t.1.toNat,e,by omega,?_⟩
  rw[uY,hq];rw[e,U2 hq];rfl
 have cm:∀ t,t∈f.ts->zD 84 [rv (zG t.2),rv (zG (xr l t.1))] (rv (zG (t.2*xr l t.1))):=λt ht=>by have:=s77 (zG t.2) (zG (xr l t.1)) ((zT (hf.t t ht)).mono oM) ((zT (fx t ht)).mono oM);rw[zV,zV] at this;exact this
 have ca:∀ (i:Nat) t,f.ts[i]?=some t->zD 18 [rv (zG (evS f (xr l) i)),rv (zG (t.2*xr l t.1))] (rv (zG (evS f (xr l) (i+1)))):=λi t h=>by have hm':=zX h;have hlt:=(xP.1 h).1;have hle:=hf.len;have e:(k+m+1)*i<=(k+m+1)*n:=vQ _ oM;have:=s44 (zG (evS f (xr l) i)) (zG (t.2*xr l t.1)) ((zT (WP hf fx i)).mono oM) ((zT (yY (hf.t t hm') (fx t hm'))).mono (by have:(k+m+1)*1<=(k+m+1)*n:=vQ _ oM;omega));rw[zV,zV,<-JN h] at this;exact this
 have hlen:f.ts.length<=2^30:=vR hf.len hn2;have e0:=JM f (xr l);have e9:=FL f (xr l);obtain⟨V,hV⟩:∃ V:Nat->R,∀ i,zG (evS f (xr l) i)=V i:=⟨_,λ_=>rfl⟩;have hav:av (fA f)=.agg [tsv (tR f.ts),bV ((V 0).neg),nat (V 0).num,nat (V 0).den]:=by rw[<-hV,e0];rfl
 rw[<-e9,hV,hav];simp only[hV] at ca;have hT:∀ (i:Nat) t,f.ts[i]?=some t->(tR f.ts)[i]?=some (t.1,zG t.2):=λi t h=>by simp[tR,uY,h]
 have hTl:(tR f.ts).length=f.ts.length:=w4 _;have hxl:(l.map zG).length=l.length:=y8 ..;have facts:∀ i,i<f.ts.length->∃ (z:Int) (v:Nat) (c x y:R),z=(v:Int)/\(tR f.ts)[i]?=some (z,c)/\(l.map zG)[v]?=some x/\v<(l.map zG).length/\zD 84 [rv c,rv x] (rv y)/\zD 18 [rv (V i),rv y] (rv (V (i+1))):=λi h=>by obtain⟨t,ht⟩:=zO h;obtain⟨j,h1,h2,h3⟩:=hi i t ht;exact⟨t.1,j,zG t.2,_,_,h1,hT i t ht,h3,by rw[hxl];exact h2,cm t (zX ht),ca i t ht⟩
 clear hi cm ca hT hav hV e0 e9 fx hl hw hf;generalize f.ts.length=N at *;generalize tR f.ts=T at *;generalize l.map zG=X at *;cbv;refine zW (σ:=Nat) (λi=>⟨[(1,rlv X),(2,.ptr 2 0),(4,.ptr 4 0),(6,.ptr 6 0),(7,iV i)],
   [(2,.box [tsv T,bV ((V 0).neg),nat (V 0).num,nat (V 0).den]),(4,.box [.ff,.nil,.nil]),(6,.box [bV ((V i).neg),nat (V i).num,nat (V i).den])]⟩)
  (λi=>i<=N) (λi=>N-i) 0 (yU _) (wkZ) ?_
 intro i hi';cbv;refine zE (λh=>?_) (λh=>?_)
 ·(have hlt:i<N:=by rw[zA,hTl] at h;exact om);obtain⟨z,v,c,x,y,g0,g1,g2,g3,c1,c2⟩:=facts i hlt
  clear facts;generalize hV1:V (i+1)=V1 at *;generalize hVi:V i=Vi at *;cbv;refine yB g1 wG wE ?_;cbv;refine yC om ?_;cbv;refine yE (by rw[zA];exact om) ?_;cbv;refine zM 10 (by cbv) ?_;cbv;refine y6 g2 g0 vA uF ?_;cbv;refine dA c1 ?_;cbv;refine dA c2 ?_;cbv;refine⟨zC om om,i+1,(by show i+1<=N;omega),(by show N-(i+1)<N-i;omega),.le okZ (by cbv;rw[hV1];repeat' first|exact trivial|exact lR|apply And.intro) rfl⟩
 ·(have hN':i=N:=by rw[zA,hTl] at h;exact om);rw[hN']
  cbv;exact rA
end Go.Proofs.YtaeaffgjdcigoaaGreat
