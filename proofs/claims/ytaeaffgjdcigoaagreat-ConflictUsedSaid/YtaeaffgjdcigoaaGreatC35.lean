/- A part of the proof: KcC, KcB, KcD. -/
import Derived.Test.YtaeaffgjdcigoaaGreatC34
import Derived.Test.YtaeaffgjdcigoaaGreatC32
set_option linter.all false
namespace Go.Proofs.YtaeaffgjdcigoaaGreat
open Go
set_option maxRecDepth 100000
set_option maxHeartbeats 4000000
theorem sKCo (f:F)(v:Int)(hc:Cn f.ts)(hl:f.ts.length<2^38):zE 207 [fv f,.int .i64 (fun _=>v)] (rv (zJ (co f.ts v))):=by
 refine sF Tryz.f207 ?_;obtain⟨C,hC⟩:∃ C,zJ (co f.ts v)=C:=⟨_,rfl⟩;have h1:∀ t,t∈f.ts->t.1=v->zJ t.2=C:=fun t ht e=>by rw[<-hC,<-e,hc.co_mem ht]
 have h2:(∀ t,t∈f.ts->t.1≠v)->C=R0:=fun h=>by rw[<-hC,pX h];exact u6
 have hln:(tR f.ts).length=f.ts.length:=vI _;have hget:∀ (i:Nat) t,f.ts[i]?=some t->(tR f.ts)[i]?=some (t.1,zJ t.2):=fun i t h=>by simp[tR,bR,h]
 rw[hC];obtain⟨ts,c⟩:=f;dsimp only [fv,fA] at *
 generalize tR ts=T at *
 generalize zJ c=K at *
 clear hc hC;cbv;refine z3 (σ:=Nat) (fun i=>⟨[(1,.int .i64 (fun _=>v)),(2,.ptr 2 0),(4,.ptr 4 0),(5,.int .i64 (fun _=>(i:Int)))],[(2,.box [tsv T,.bool (fun _=>K.neg),nat K.num,nat K.den]),(4,.box [.ff,.nil,.nil])]⟩)
  (fun i=>i<=ts.length/\∀ k t,k<i->ts[k]?=some t->t.1≠v) (fun i=>ts.length-i) 0 ⟨xD _,fun k t h=>absurd h oM⟩ (wkZ) ?_
 intro i hi;obtain⟨g1,g2⟩:=hi;cbv;refine zG (fun h5=>?_) (fun h5=>?_)
 ·(rw[zA,hln] at h5;have hlt:i<ts.length:=by (try dsimp only [zF] at *);omega);obtain⟨t,ht⟩:=zT hlt
  have hT:=hget i t ht;obtain⟨tv,tq'⟩:=t;have hk:=h1 _ (yA ht);dsimp only at hk hT;generalize zJ tq'=Q at *
  cbv;refine yX hT wM wI ?_;cbv;refine zG (fun e=>?_) (fun e=>?_)
  ·have:=hk e;subst this;cbv;refine yX hT wM wI ?_;cbv
   (refine rC ?_;cbv)
   exact okA
  ·cbv;exact⟨zD om om,i+1,⟨om,fun k t hk' hkt=>by
    by_cases hki:k=i;{subst hki;rw[ht] at hkt;cases hkt;exact e}
    ·exact g2 k t oM hkt⟩,om,wkZ⟩
 ·(have hi:i=ts.length:=by rw[zA,hln] at h5;(try dsimp only [zF] at *);omega);have:=h2 fun t ht=>by obtain⟨k,hk,rfl⟩:=List.getElem_of_mem ht;exact g2 k _ oM (qI hk)
  subst this;cbv
  (refine rC ?_;cbv)
  exact okA
theorem zVR {f:F}{k n:Nat}(hc:Cn f.ts)(h:f.fl k n)(hk:1<=k)(v:Int):F.fl ⟨xF v (-(co f.ts v)) false f.ts,f.c⟩ k (n+1):=by
 refine⟨fun t ht=>?_,h.c,?_⟩;{have hn:=(Cn.plus (v:=v) (q:=-(co f.ts v)) hc).n t ht;have h1:=(Cn.plus (v:=v) (q:=-(co f.ts v)) hc).co_mem ht;rw[o6 _ hc] at h1;by_cases e:v=t.1;{rw[if_pos e,<-e] at h1;exact absurd h1.symm (by rw[show co f.ts v+-(co f.ts v)=0 by grind];exact hn)};{rw[if_neg e] at h1;rw[<-h1,iV];exact zFL hc h.t hk t.1}}
 ·have:=nI v (-(co f.ts v)) false f.ts;have:=h.len;simp at *
  omega
theorem sKSu (f g:F)(v:Int){k n k' n':Nat}(hc:Cn f.ts)(hg:Cn g.ts)(h:f.fl k n)(h':g.fl k' n')(h1:1<=k)(hk:k+k'<=2^25)(hn:n<=2^34)(hn':n'<=2^34):zE 210 [fv f,.int .i64 (fun _=>v),fv g] (fv (f.subst v g)):=by
 refine sF Tryz.f210 ?_;have hfc:=zFL hc h.t h1 v;have c1:=sKCo f v hc (by have:=h.len;omega);have c2:=s143 (zJ (co f.ts v)) ((zU hfc).mono oM);rw[z6] at c2;have c3:=zWR f.ts (zJ f.c) v (zJ (-(co f.ts v))) ⟨by have:=h.len;omega,fun t ht=>(h.t t ht).mono oM⟩ ((zU (qD hfc)).mono oM);rw[z6] at c3;have c4:=dX (q:=co f.ts v) h' hfc oM oM oM;have c5:=zQF (f:=⟨xF v (-(co f.ts v)) false f.ts,f.c⟩) (Cn.plus hc) (Cn.nil.mrg hg) (zVR hc h h1 v) (h'.scale hfc) oM oM oM oM;have hs:f.subst v g=F.add ⟨xF v (-(co f.ts v)) false f.ts,f.c⟩ (g.scale (co f.ts v)):=rfl;rw[<-hs] at c5;simp only[fv] at *
 generalize fA (f.subst v g)=W at *
 generalize fA (g.scale (co f.ts v))=Y at *
 rw[show fA ⟨xF v (-(co f.ts v)) false f.ts,f.c⟩=⟨tR (xF v (-(co f.ts v)) false f.ts),zJ f.c⟩ from rfl] at c5;generalize tR (xF v (-(co f.ts v)) false f.ts)=Z at *
 generalize zJ (-(co f.ts v))=NC at *
 generalize zJ (co f.ts v)=C at *
 rw[show fA f=⟨tR f.ts,zJ f.c⟩ from rfl] at *
 generalize tR f.ts=T at *
 generalize zJ f.c=K at *
 generalize fA g=G at *
 clear hs hfc;cbv;refine cA c1 ?_;cbv;refine zN 9 (by cbv) ?_;cbv;refine dA c2 ?_;cbv;refine dA c3 ?_;cbv;refine dA c4 ?_;cbv;refine dA c5 ?_;cbv
 (refine rC ?_;cbv)
 exact okA
theorem sKUn (x y:R)(hx:x.sz (2^30))(hy:y.sz (2^30)):zE 255 [rv x,rv y] (.bool (fun _=>lY x.q y.q)):=by
 refine sF Tryz.f255 ?_;have c1:=s35 x (by have:=hx.n;omega);have c2:=s35 y (by have:=hy.n;omega);have h:lY x.q y.q=(decide (z4 x.q<0)&&decide (0<z4 y.q)):=rfl;generalize lY x.q y.q=b at *
 generalize z4 x.q=a1 at *
 generalize z4 y.q=a2 at *
 obtain⟨x1,x2,x3⟩:=x;obtain⟨y1,y2,y3⟩:=y
 (try dsimp only at *)
 cbv;refine cA c1 ?_;cbv;refine zQ (fun e=>?_) (fun e=>?_)
 ·rw[decide_eq_true e,yU] at h;cbv;refine cA c2 ?_;cbv
  (refine rC ?_;cbv)
  exact zV h.symm
 ·rw[decide_eq_false e,kJ] at h;cbv
  (refine rC ?_;cbv)
  exact zM h
theorem sKOv (x y:R)(hx:x.sz (2^31))(hy:y.sz (2^31))(h0:y.q≠0):zE 256 [rv x,rv y] (rv (zJ (x.q/y.q))):=by
 refine sF Tryz.f256 ?_;have c1:=s182 x y hx hy h0;generalize zJ (x.q/y.q)=W at *
 obtain⟨x1,x2,x3⟩:=x;obtain⟨y1,y2,y3⟩:=y;clear h0;cbv;refine cA c1 ?_;cbv
 (refine rC ?_;cbv)
 exact okA
theorem sKSl (x y:R)(hx:x.sz (2^28))(hy:y.sz (2^28)):zE 208 [rv x,rv y] (.int .i64 (fun _=>if aM x.q y.q=true then 1 else 0)):=by
 refine sF Tryz.f208 ?_;have c1:=sKUn x y (hx.mono (by decide)) (hy.mono (by decide));have c2:=s44 x y (hx.mono (by decide)) (hy.mono (by decide));have c3:=s35 (zJ (x.q+y.q)) (by have:=(zU (qT (hx.fits (by decide)) (hy.fits (by decide)))).n;omega);rw[z6] at c3;have h:aM x.q y.q=(lY x.q y.q&&decide (0<z4 (x.q+y.q))):=rfl;generalize aM x.q y.q=b at *
 generalize lY x.q y.q=a1 at *
 generalize z4 (x.q+y.q)=a2 at *
 generalize zJ (x.q+y.q)=W at *
 obtain⟨x1,x2,x3⟩:=x;obtain⟨y1,y2,y3⟩:=y
 (try dsimp only at *)
 obtain⟨r,hr⟩:∃ r:Int,(if b=true then 1 else 0)=r:=⟨_,rfl⟩;rw[hr];cbv;refine cA c1 ?_;cbv;refine z7 (fun e=>?_) (fun e=>?_)
 ·rw[e,yU] at h;cbv;refine cA c2 ?_;cbv;refine cA c3 ?_;cbv;refine zG (fun e2=>?_) (fun e2=>?_)
  ·rw[h,decide_eq_true e2,if_pos rfl] at hr;cbv
   (refine rC ?_;cbv)
   exact zC hr
  ·rw[h,decide_eq_false e2,if_neg (by decide)] at hr;cbv
   (refine rC ?_;cbv)
   exact zC hr
 ·rw[h,e,kJ,if_neg (by decide)] at hr;cbv
  (refine rC ?_;cbv)
  exact zC hr
theorem eG {x y:Rat}(h:lY x y=true):y-x≠0/\x<0/\0<y:=by unfold lY at h;simp only[yT,decide_eq_true_eq] at h;have h1:=zHM.1 h.1;have h2:=pJ.1 h.2;exact⟨by grind,h1,h2⟩
theorem sKGa (x y:R)(hx:x.sz (2^28))(hy:y.sz (2^28))(hu:lY x.q y.q=true):zE 257 [rv x,rv y] (rv (zJ (-(x.q*y.q)/(y.q-x.q)))):=by
 refine sF Tryz.f257 ?_;have fx:=hx.fits (by decide);have fy:=hy.fits (by decide);have c1:=sKUn x y (hx.mono (by decide)) (hy.mono (by decide));have c2:=s77 x y (hx.mono (by decide)) (hy.mono (by decide));have c3:=s143 (zJ (x.q*y.q)) ((zU (y6 fx fy)).mono (by decide));have c4:=s93 y x (hy.mono (by decide)) (hx.mono (by decide));have c5:=sKOv (zJ (-(x.q*y.q))) (zJ (y.q-x.q)) ((zU (qD (y6 fx fy))).mono (by decide)) ((zU (uC fy fx)).mono (by decide)) (by rw[z6];exact (eG hu).1);simp only[z6] at c3 c5;rw[hu] at c1;generalize zJ (-(x.q*y.q)/(y.q-x.q))=W at *
 generalize zJ (-(x.q*y.q))=W1 at *
 generalize zJ (x.q*y.q)=W2 at *
 generalize zJ (y.q-x.q)=W3 at *
 obtain⟨x1,x2,x3⟩:=x;obtain⟨y1,y2,y3⟩:=y
 (try dsimp only at *)
 clear hu fx fy;cbv;refine cA c1 ?_;cbv;refine pV rfl ?_;cbv;refine zN 8 (by cbv) ?_;cbv;refine dA c2 ?_;cbv;refine dA c3 ?_;cbv;refine dA c4 ?_;cbv;refine dA c5 ?_;cbv
 (refine rC ?_;cbv)
 exact okA
theorem sKLi (x y:R)(hx:x.sz (2^28))(hy:y.sz (2^28))(hu:lY x.q y.q=true):zE 209 [rv x,rv y] (.tup [.int .i64 (fun _=>if aM x.q y.q=true then 1 else 0),rv (zJ (y.q/(y.q-x.q))),rv (zJ (-(x.q*y.q)/(y.q-x.q))),.int .i64 (fun _=>0)]):=by
 refine sF Tryz.f209 ?_;have fx:=hx.fits (by decide);have fy:=hy.fits (by decide);have c1:=sKUn x y (hx.mono (by decide)) (hy.mono (by decide));have c2:=sKSl x y hx hy;have c3:=sKGa x y hx hy hu;have c4:=s93 y x (hy.mono (by decide)) (hx.mono (by decide));have c5:=sKOv y (zJ (y.q-x.q)) (hy.mono (by decide)) ((zU (uC fy fx)).mono (by decide)) (by rw[z6];exact (eG hu).1);simp only[z6] at c5;rw[hu] at c1;generalize zJ (-(x.q*y.q)/(y.q-x.q))=W at *
 generalize zJ (y.q/(y.q-x.q))=W1 at *
 generalize zJ (y.q-x.q)=W3 at *
 obtain⟨r,hr⟩:∃ r:Int,(if aM x.q y.q=true then 1 else 0)=r:=⟨_,rfl⟩;rw[hr];obtain⟨x1,x2,x3⟩:=x;obtain⟨y1,y2,y3⟩:=y
 (try dsimp only at *)
 clear hu fx fy;cbv;refine cA c1 ?_;cbv;refine pV rfl ?_;cbv;refine zN 11 (by cbv) ?_;cbv;refine dA c2 ?_;cbv;refine dA c4 ?_;cbv;refine dA c5 ?_;cbv;refine dA c3 ?_;cbv
 (refine rC ?_;cbv)
 exact⟨zC hr,okA,okA,lR,trivial⟩
theorem m9 {q:Qry}(h:q.valid=true):(q.r.lo.length:Int)=q.g.n/\(q.r.hi.length:Int)=q.g.n/\1<=q.g.n/\q.g.n<=256/\q.g.us.length<=1024:=by unfold Qry.valid Reg.valid Grp.valid at h;simp only[yT,decide_eq_true_eq] at h;omega
theorem zWA (a b:Rat):-1<=uD a b/\uD a b<=1:=by unfold uD;split <;> (try split) <;> omega
theorem sKin (s:Scp)(i:Int)(up:Bool)(hs:Usz s)(hz:s.q.sz (2^20))(hp:Dsz (2^20) s.path)(hi:0<=i)(hi2:i<s.q.g.n):zE 170 [sv s,.int .i64 (fun _=>i),.bool (fun _=>up)] (bdv (s.inB i up) true):=by
 refine sF Tryz.f170 ?_;obtain⟨v1,v2,v3,v4,v5⟩:=m9 hs.v;have hpl:=hp.len;have c1:=sK1 ⟨1,i,0,0⟩;have c2:=sK1 ⟨2,i,0,0⟩;have c4:=fun k:Nat=>sK1 ⟨4,k,0,0⟩;have cf:∀ d,d∈s.path->zE 105 [qv s.q,dv d] (.bool (fun _=>d.fits s.q)):=fun d h=>by have:=zT1 s.q d hs.q ((hp.sz d h).mono (by decide));rw[hs.v,yU] at this;exact this
 have cc:∀ (d:Dec) (x:R),d∈s.path->x.sz (2^20)->zE 48 [rv d.x,rv x] (.int .i64 (fun _=>uD d.x.q x.q)):=fun d x h h'=>s42 d.x x ((hp.sz d h).mono (by decide)) (h'.mono (by decide));have hpz:=hp.sz;obtain⟨ii,hii⟩:∃ ii:Nat,i=ii:=⟨i.toNat,by omega⟩;obtain⟨xl,hxl⟩:=zT (l:=s.q.r.lo) (i:=ii) oM;obtain⟨xh,hxh⟩:=zT (l:=s.q.r.hi) (i:=ii) oM;have zl:=hz.r.lo.sz xl (yA hxl);have zh:=hz.r.hi.sz xh (yA hxh);obtain⟨G,hG⟩:∃ G,inG s.q up i=G:=⟨_,rfl⟩;obtain⟨KD,hKD⟩:∃ K:Int,(if up=true then 4 else 3)=K:=⟨_,rfl⟩;obtain⟨SG,hSG⟩:∃ K:Int,(if up=true then -1 else 1)=K:=⟨_,rfl⟩;have hn:∀ k b,G k [] b=b:=fun k b=>by rw[<-hG];rfl
 have hc:∀ k d r b,G k (d::r) b=G (k+1) r (if d.k=KD/\d.i=i/\d.fits s.q=true/\0<SG*uD d.x.q b.1.q then (d.x,[(⟨4,k,0,0⟩,1)]) else b):=fun k d r b=>by rw[<-hG,<-hKD,<-hSG];rfl
 have hsg:SG=1\/SG=-1:=by rw[<-hSG];split <;> simp
 have hm:∀ a b,-1<=SG*uD a b/\SG*uD a b<=1:=fun a b=>by have:=zWA a b;rcases hsg with h|h <;> rw[h] <;> omega
 obtain⟨res,hres⟩:∃ r,s.inB i up=r:=⟨_,rfl⟩;have h0:G 0 s.path (if up=true then (xh,[(⟨2,i,0,0⟩,1)]) else (xl,[(⟨1,i,0,0⟩,1)]))=res:=by rw[<-hres,<-hG];unfold Scp.inB;rw[hii,mW,hxl,hxh];rfl
 rw[hres];obtain⟨ft,hft⟩:∃ ft:Dec->Bool,∀ d,ft d=d.fits s.q:=⟨_,fun _=>rfl⟩;simp only[<-hft] at cf hc;obtain⟨rV,rP⟩:=res;obtain⟨⟨⟨gn,us,os⟩,⟨lo,hi',rows⟩,⟨ts,c1',c2',c3'⟩⟩,path,L⟩:=s
 (try dsimp only at *)
 have go:∀ (x:R) (p:List (Row×Rat)),x.sz (2^20)->G 0 path (x,p)=(rV,rP)->0=0:=fun _ _ _ _=>rfl;clear go hft hres hG hs hz hp hsg;cbv;refine jS 10 (by cbv) (by cbv) ?_;cbv;refine xL hxl hii gG bG ?_;cbv;refine dA c1 ?_;cbv;refine nZ (σ:=Bd) (fun b=>⟨[(1,.int .i64 (fun _=>i)),(3,.ptr 3 0),(6,.ptr 6 0),(8,.ptr 8 0),(9,.int .i64 (fun _=>KD)),(10,.int .i64 (fun _=>SG))],[(3,.box (sc ⟨⟨⟨gn,us,os⟩,⟨lo,hi',rows⟩,⟨ts,c1',c2',c3'⟩⟩,path,L⟩)),(6,.box [.ff,.nil,.nil,.nil,.ff]),(8,.box [.bool (fun _=>b.1.neg),nat b.1.num,nat b.1.den,mlv (mR b.2),.tt])]⟩)
  (fun b=>b.1.sz (2^20)/\G 0 path b=(rV,rP)) (fun e=>?_) (fun e=>?_) (fun b hb=>?_)
 {rw[if_pos e] at h0 hKD hSG;subst hKD hSG;cbv;refine zN 9 (by cbv) ?_;cbv;refine xL hxh hii gG bG ?_;cbv;refine dA c2 ?_;cbv;exact⟨(xh,[(⟨2,i,0,0⟩,1)]),⟨zh,h0⟩,wkZ⟩};{rw[if_neg (by rw[e];decide)] at h0 hKD hSG;subst hKD hSG;cbv;exact⟨(xl,[(⟨1,i,0,0⟩,1)]),⟨zl,h0⟩,wkZ⟩};clear h0 hKD hSG c1 c2;obtain⟨hb1,hb2⟩:=hb;obtain⟨bV,bP⟩:=b;dsimp only at hb1 hb2;cbv;refine z3 (σ:=Nat×Bd) (fun st=>⟨[(1,.int .i64 (fun _=>i)),(3,.ptr 3 0),(6,.ptr 6 0),(8,.ptr 8 0),(9,.int .i64 (fun _=>KD)),(10,.int .i64 (fun _=>SG)),(11,.int .i64 (fun _=>(st.1:Int)))],[(3,.box (sc ⟨⟨⟨gn,us,os⟩,⟨lo,hi',rows⟩,⟨ts,c1',c2',c3'⟩⟩,path,L⟩)),(6,.box [.ff,.nil,.nil,.nil,.ff]),(8,.box [.bool (fun _=>st.2.1.neg),nat st.2.1.num,nat st.2.1.den,mlv (mR st.2.2),.tt])]⟩)
  (fun st=>st.1<=path.length/\st.2.1.sz (2^20)/\G st.1 (path.drop st.1) st.2=(rV,rP)) (fun st=>path.length-st.1) (0,bV,bP) ⟨xD _,hb1,hb2⟩ (wkZ) ?_
 clear hb1 hb2;intro st hst;obtain⟨k,cV,cP⟩:=st;obtain⟨h1,h2,h3⟩:=hst;dsimp only at h1 h2 h3;cbv;refine zG (fun h5=>?_) (fun h5=>?_)
 ·have hlt:=gU h5;obtain⟨d,hd⟩:=zT hlt;have hdm:=yA hd;have cv:=cf d hdm;have cx:=cc d cV hdm h2;have zd:=hpz d hdm;have hmm:=hm d.x.q cV.q;rw[zY hd,hc] at h3;have ck:=c4 k;generalize ft d=fd at *
  generalize uD d.x.q cV.q=cm at *
  clear cf cc hc hn hm;cbv;refine yX hd qM jH ?_;cbv;refine zQ (fun e1=>?_) (fun e1=>?_)
  rotate_left
  {rw[if_neg (fun h=>e1 h.1)] at h3;cbv;exact⟨zD om om,(k+1,cV,cP),⟨om,h2,h3⟩,om,wkZ⟩};cbv;refine zQ (fun e2=>?_) (fun e2=>?_)
  rotate_left
  {rw[if_neg (fun h=>e2 h.2.1)] at h3;cbv;exact⟨zD om om,(k+1,cV,cP),⟨om,h2,h3⟩,om,wkZ⟩};cbv;refine cA cv ?_;cbv;refine z7 (fun e3=>?_) (fun e3=>?_)
  rotate_left
  {rw[if_neg (fun h=>by rw[h.2.2.1] at e3;cases e3)] at h3;cbv;exact⟨zD om om,(k+1,cV,cP),⟨om,h2,h3⟩,om,wkZ⟩};cbv;refine cA cx ?_;cbv;refine⟨zD om om,?_⟩;cbv;refine zG (fun e4=>?_) (fun e4=>?_)
  rotate_left
  {rw[if_neg (fun h=>e4 h.2.2.2)] at h3;cbv;exact⟨zD om om,(k+1,cV,cP),⟨om,h2,h3⟩,om,wkZ⟩};rw[if_pos ⟨e1,e2,e3,e4⟩] at h3;cbv;refine zN 6 (by cbv) ?_;cbv;refine dA ck ?_;cbv;exact⟨zD om om,(k+1,d.x,[(⟨4,k,0,0⟩,1)]),⟨om,zd,h3⟩,om,wkZ⟩
 ·have hk:k=path.length:=bJ h5 h1;rw[hk,w4,hn] at h3;cases h3;cbv
  (refine rC ?_;cbv)
  exact okA
theorem sKmo (s:Scp)(j:Int)(hs:Usz s):zE 171 [sv s,.int .i64 (fun _=>j)] (bdv ((s.moB j).getD (R0,[])) (s.moB j).isSome):=by
 refine sF Tryz.f171 ?_;unfold bdv;have cof:=zWT s j hs;have con:=sKOn s j hs;have cb:=cK s j hs.l;have hll:=hs.l.len;have hss:=hs.l.sz;have hv1:=fun h=>zBO (s:=s) (j:=j) h;have hv2:=fun h=>zE8 (s:=s) (j:=j) h;have c1:=s32 1 (by decide) (by decide);rw[show (((1:Int):Rat))=(1:Rat) by rfl] at c1;have coff:(s.offR j).2=false->0<(s.best j).2->0<z4 (s.vHi j):=fun h h'=>by unfold Scp.offR at h;split at h;{cases h};{simp only[zJE,decide_eq_false_iff_not] at h;omega}
 have conn:(s.onR j).2=false->0<(s.best j).1->z4 (s.vLo j)<0:=fun h h'=>by unfold Scp.onR at h;split at h;{cases h};{simp only[zJE,decide_eq_false_iff_not] at h;omega}
 have hm:s.moB j=if (s.offR j).2=true then some (R0,[((s.offR j).1,1)])
  else if (s.best j).2=0\/((s.onR j).2=false/\(s.best j).1=0) then none
  else if (s.onR j).2=true then some (zJ (s.vHi j),[((s.onR j).1,1),(⟨12,j,0,(s.best j).2⟩,1)])
  else some (zJ (s.vHi j),[(⟨12,j,0,(s.best j).2⟩,(1/(s.vHi j-s.vLo j))*s.vHi j),(⟨13,j,(s.best j).1,(s.best j).2⟩,1/(s.vHi j-s.vLo j))]):=rfl
 generalize s.moB j=o at *
 generalize s.vLo j=x at *
 generalize s.vHi j=y at *
 generalize s.best j=B at *
 obtain⟨b1,b2⟩:=B;generalize s.offR j=O1 at *
 obtain⟨rof,bof⟩:=O1;generalize s.onR j=O2 at *
 obtain⟨ron,bon⟩:=O2
 (try dsimp only at *)
 have co:=sK1 rof;have ca:=sK1o ron;have cb2:=sK1o ⟨12,j,0,b2⟩;obtain⟨⟨⟨gn,us,os⟩,⟨lo,hi,rows⟩,⟨ts,c1',c2',c3'⟩⟩,path,L⟩:=s
 (try dsimp only at *)
 obtain⟨V,hV⟩:∃ V,(o.getD (R0,[])).1=V:=⟨_,rfl⟩;obtain⟨M,hM⟩:∃ M,mR (o.getD (R0,[])).2=M:=⟨_,rfl⟩;obtain⟨b,hb⟩:∃ b,o.isSome=b:=⟨_,rfl⟩;rw[hV,hM,hb];obtain⟨Mo,hMo⟩:∃ M,mR [(rof,(1:Rat))]=M:=⟨_,rfl⟩;obtain⟨Ma,hMa⟩:∃ M,mR [(ron,(1:Rat))]=M:=⟨_,rfl⟩;obtain⟨Mb,hMb⟩:∃ M,mR [((⟨12,j,0,b2⟩:Row),(1:Rat))]=M:=⟨_,rfl⟩;have la:Ma.length=1:=by rw[<-hMa];rfl
 have lb:Mb.length=1:=by rw[<-hMb];rfl
 have k1:bof=true->V=R0/\M=Mo/\b=true:=fun h=>by rw[<-hV,<-hM,<-hb,hm,if_pos h,<-hMo];exact⟨rfl,rfl,rfl⟩
 have k2:bof=false->(b2=0\/(bon=false/\b1=0))->V=R0/\M=[]/\b=false:=fun h h'=>by rw[<-hV,<-hM,<-hb,hm,if_neg (by rw[h];decide),if_pos h'];exact⟨rfl,rfl,rfl⟩
 have k3:bof=false->¬(b2=0\/(bon=false/\b1=0))->bon=true->V=zJ y/\M=Ma++Mb/\b=true:=fun h h' h''=>by rw[<-hV,<-hM,<-hb,hm,if_neg (by rw[h];decide),if_neg h',if_pos h'',<-hMa,<-hMb];exact⟨rfl,rfl,rfl⟩
 have k4:bof=false->¬(b2=0\/(bon=false/\b1=0))->bon=false->V=zJ y/\M=[⟨⟨12,j,0,b2⟩,zJ (1/(y-x)*y)⟩,⟨⟨13,j,b1,b2⟩,zJ (1/(y-x))⟩]/\b=true:=fun h h' h''=>by rw[<-hV,<-hM,<-hb,hm,if_neg (by rw[h];decide),if_neg h',if_neg (by rw[h''];decide)];exact⟨rfl,rfl,rfl⟩
 rw[hMo] at co;rw[hMa] at ca;rw[hMb] at cb2;clear hm hV hM hb hMo hMa hMb hs;cbv;refine cA cof ?_;cbv;refine zP (fun e=>?_) (fun e=>?_)
 ·obtain⟨q1,q2,q3⟩:=k1 e;subst q1 q2 q3;cbv;refine cA co ?_;cbv
  (refine rC ?_;cbv)
  exact okA
 cbv;refine cA cb ?_;cbv;refine cA con ?_;cbv;refine zQ (fun e1=>?_) (fun e1=>?_)
 ·obtain⟨q1,q2,q3⟩:=k2 e (.inl om);subst q1 q2 q3;cbv
  (refine rC ?_;cbv)
  exact okA
 have e1':b2≠0:=by (try dsimp only [zF] at *);omega
 obtain⟨m2,g2,hy⟩:=hv2 e1';have z2:=hss m2 (yA g2);have l2:=(wH.1 g2).1;have ccn:=s47 m2.v (z2.mono (by decide));rw[<-hy] at ccn;cbv;refine z7 (fun e2=>?_) (fun e2=>?_)
 ·obtain⟨q1,q2,q3⟩:=k3 e (fun h=>h.elim e1' (fun h=>by rw[h.1] at e2;cases e2)) e2;generalize zJ y=RY at *
  subst q1 q2 q3;cbv;refine⟨zD om om,xL g2 om xX wJ ?_⟩;cbv;refine zP (fun e3=>?_) (fun e3=>by rw[e2] at e3;cases e3);cbv;refine pU (σ:=Unit) (fun _=>⟨[(4,.ptr 4 0)],[(4,.box [.bool (fun _=>V.neg),nat V.num,nat V.den,.osl 66 7 (fun _=>0) (fun _=>(enc mc Ma).length+(enc mc Mb).length),.tt]),(66,.arr 7 (fun _=>enc mc Ma++enc mc Mb))]⟩) (fun _=>True) (.refl _) (by cbv) ?_ ?_
  ·cbv
   repeat' first
    |exact trivial
    |exact⟨(),trivial,wkZ⟩
    |(refine yP rfl okA ccn rfl ?_;cbv)
    |(refine y0 (fun _=>201) (.refl _) rfl okA ca trivial rfl rfl rfl rfl rfl rfl rfl rfl ?_;cbv)| (refine y0 (fun _=>202) (.refl _) rfl okA cb2 trivial rfl rfl rfl rfl rfl rfl rfl rfl ?_;cbv)
    |(refine zKX fJ rfl rfl rfl (by simp[zA,la]) rfl rfl rfl (by simp[zA,lb]) (w6 wA _) (yD (by simp[zA,la,lb]) (by simp[zA,la,lb])) rfl ?_;cbv)
    |apply And.intro
  {intro _ _;cbv;refine tB _ (.frz 66 rfl rfl ?_ ?_) rfl ?_;{cbv};{cbv;exact⟨⟨z8 (by simp[zA,la,lb]),trivial⟩,trivial⟩};cbv;exact⟨lR,lR,lR,zR (by rw[wC,yS (by simp[zA,la,lb]),gI]),yN rfl,trivial⟩}
 cbv;refine zG (fun e3=>?_) (fun e3=>?_)
 ·obtain⟨q1,q2,q3⟩:=k2 e (.inr ⟨e2,by (try dsimp only [zF] at *);omega⟩);subst q1 q2 q3;cbv
  (refine rC ?_;cbv)
  exact okA
 have e3':b1≠0:=by (try dsimp only [zF] at *);omega
 obtain⟨m1,g1,hx⟩:=hv1 e3';have z1:=hss m1 (yA g1);have l1:=(wH.1 g1).1;have hu:lY x y=true:=by unfold lY;rw[decide_eq_true (conn e2 oM),decide_eq_true (coff e oM)];rfl
 obtain⟨hne,_,_⟩:=eG hu;have f1:=z1.fits (by decide);have f2:=z2.fits (by decide);have csb:=s93 m2.v m1.v (z2.mono (by decide)) (z1.mono (by decide));rw[<-hx,<-hy] at csb;rw[<-hx] at f1;rw[<-hy] at f2;have fd:=uC f2 f1;have fi:Fits (2^22) (1/(y-x)):=by rw[f9,zB8];exact (cT fd).mono (by decide)
 have cdv:=s182 (zJ 1) (zJ (y-x)) ((zU fits_one).mono (by decide)) ((zU fd).mono (by decide)) (by rw[z6];exact hne);simp only[z6] at cdv;have cml:=s77 (zJ (1/(y-x))) m2.v ((zU fi).mono (by decide)) (z2.mono (by decide));rw[z6,<-hy] at cml;obtain⟨q1,q2,q3⟩:=k4 e (fun h=>h.elim e1' (fun h=>e3' h.2)) e2;generalize zJ (1/(y-x)*y)=W at *
 generalize zJ (1/(y-x))=WI at *
 generalize zJ (y-x)=WD at *
 generalize zJ y=RY at *
 generalize zJ 1=R1 at *
 subst q1 q2 q3;clear coff conn hv1 hv2 k1 k2 k3 k4 fi fd f1 f2;cbv;refine⟨zD om om,xL g2 om xX wJ ?_⟩;cbv;refine zP (fun e4=>by rw[e2] at e4;cases e4) (fun e4=>?_);cbv;refine vC 16 [(15,12)] (by cbv) (by cbv) (by cbv) ?_;cbv;refine dA c1 ?_;cbv;refine⟨zD om om,xL g1 om xX wJ ?_⟩;cbv;refine dA csb ?_;cbv;refine dA cdv ?_;cbv;refine zN 12 (by cbv) ?_;cbv;refine dA ccn ?_;cbv;refine dA cml ?_;cbv
 (refine rC ?_;cbv)
 exact okA
theorem sKof (s:Scp)(v:Int)(up:Bool)(hs:Usz s)(hz:s.q.sz (2^20))(hp:Dsz (2^20) s.path)(hv:0<=v)(hv2:v<s.q.g.vars):zE 111 [sv s,.int .i64 (fun _=>v),.bool (fun _=>up)] (bdv ((s.ofB v up).getD (R0,[])) (s.ofB v up).isSome):=by
 refine sF Tryz.f111 ?_;obtain⟨v1,v2,v3,v4,v5⟩:=m9 hs.v;have cv:=zG3 s.q (hz.mono (by decide));have cvr:=tV s.q.g (hz.g.mono (by decide));have hgv:s.q.g.valid=true:=by have:=hs.v;unfold Qry.valid at this;simp only[yT] at this;exact this.1.1
 rw[hs.v] at cv;rw[if_pos hgv] at cvr;have cin:=fun h=>sKin s v up hs hz hp hv h;have cmo:=sKmo s (v-s.q.g.n) hs;have cle:=sKle s (v-s.q.g.n) hs;simp only[bdv] at *
 have ho:s.ofB v up=if v<s.q.g.n then some (s.inB v up) else if up=true then s.moB (v-s.q.g.n) else some (s.leB (v-s.q.g.n)):=rfl
 have hvars:s.q.g.vars=s.q.g.n+s.q.g.us.length:=rfl;generalize s.q.g.vars=N at *
 generalize s.inB v up=b1 at *
 generalize s.moB (v-s.q.g.n)=o2 at *
 generalize s.leB (v-s.q.g.n)=b3 at *
 generalize s.ofB v up=o at *
 obtain⟨V,hV⟩:∃ V,(o.getD (R0,[])).1=V:=⟨_,rfl⟩;obtain⟨M,hM⟩:∃ M,mR (o.getD (R0,[])).2=M:=⟨_,rfl⟩;obtain⟨b,hb⟩:∃ b,o.isSome=b:=⟨_,rfl⟩;obtain⟨V2,hV2⟩:∃ V,(o2.getD (R0,[])).1=V:=⟨_,rfl⟩;obtain⟨M2,hM2⟩:∃ M,mR (o2.getD (R0,[])).2=M:=⟨_,rfl⟩;obtain⟨bb2,hb2⟩:∃ b,o2.isSome=b:=⟨_,rfl⟩;rw[hV,hM,hb];rw[hV2,hM2,hb2] at cmo;have k1:v<s.q.g.n->V=b1.1/\M=mR b1.2/\b=true:=fun h=>by rw[<-hV,<-hM,<-hb,ho,if_pos h];exact⟨rfl,rfl,rfl⟩
 have k2:¬v<s.q.g.n->up=true->V=V2/\M=M2/\b=bb2:=fun h h'=>by rw[<-hV,<-hM,<-hb,ho,if_neg h,if_pos h',hV2,hM2,hb2];exact⟨rfl,rfl,rfl⟩
 have k3:¬v<s.q.g.n->up=false->V=b3.1/\M=mR b3.2/\b=true:=fun h h'=>by rw[<-hV,<-hM,<-hb,ho,if_neg h,if_neg (by rw[h'];decide)];exact⟨rfl,rfl,rfl⟩
 obtain⟨B1,P1⟩:=b1;obtain⟨B3,P3⟩:=b3;obtain⟨⟨⟨gn,us,os⟩,⟨lo,hi',rows⟩,⟨ts,c1',c2',c3'⟩⟩,path,L⟩:=s
 (try dsimp only at *)
 generalize mR P1=M1 at *
 generalize mR P3=M3 at *
 clear ho hV hM hb hV2 hM2 hb2 hs hz hp hgv;cbv;refine cA cv ?_;cbv;refine zG7 rfl ?_;cbv;refine z9 om ?_;cbv;refine cA cvr ?_;cbv;refine yB om ?_;cbv;refine zG (fun e=>?_) (fun e=>?_)
 ·obtain⟨q1,q2,q3⟩:=k1 e;subst q1 q2 q3;have c:=cin e;cbv;refine cA c ?_;cbv
  (refine rC ?_;cbv)
  exact okA
 cbv;refine zP (fun e2=>?_) (fun e2=>?_)
 ·obtain⟨q1,q2,q3⟩:=k2 e e2;subst q1 q2 q3;cbv;refine⟨zD om om,?_⟩;cbv;refine cA cmo ?_;cbv
  (refine rC ?_;cbv)
  exact okA
 ·obtain⟨q1,q2,q3⟩:=k3 e e2;subst q1 q2 q3;cbv;refine⟨zD om om,?_⟩;cbv;refine cA cle ?_;cbv
  (refine rC ?_;cbv)
  exact okA
structure BoxOk (s:Scp) (f:F):Prop where
 vd:(fA f).valid s.q.g.vars=true
 v:∀ t,t∈f.ts->0<=t.1/\t.1<s.q.g.vars
 fl:f.fl (2^26) (2^30)
 pre:∀ i a l,s.boxL (f.ts.take i) f.c []=some (a,l)->Fits (2^29) a/\(∀ t,t∈l->Fits (2^28) t.2)/\l.length<=2^36
 bd:∀ t,t∈f.ts->∀ b,s.ofB t.1 (decide (z4 t.2<0))=some b->b.1.sz (2^28)/\(∀ x,x∈b.2->Fits (2^27) x.2)/\b.2.length<=2
theorem zGN {s:Scp}{t:Int×Rat}{b:Bd}(ht:s.ofB t.1 (decide (z4 t.2<0))=some b):∀ {ts:List (Int×Rat)} {a a':Rat} {l l':List (Row×Rat)},s.boxL ts a l=some (a',l')->s.boxL (ts++[t]) a l=some (a'+t.2*b.1.q,xT l' b.2 (vK t.2))
 |[],a,a',l,l',h=>by cases h;rw[zML];unfold Scp.boxL;rw[ht];rfl
 |x::r,a,a',l,l',h=>by
  rw[alT9];unfold Scp.boxL at h ⊢;cases hx:s.ofB x.1 (decide (z4 x.2<0)) with
  |none=>rw[hx] at h;cases h
  |some g =>
   rw[hx] at h;exact zGN ht h
theorem zGO {s:Scp}{t:Int×Rat}{r:List (Int×Rat)}(ht:s.ofB t.1 (decide (z4 t.2<0))=none):∀ {ts:List (Int×Rat)} {a:Rat} {l:List (Row×Rat)} {y},s.boxL ts a l=some y->s.boxL (ts++t::r) a l=none
 |[],a,l,y,h=>by rw[zML];unfold Scp.boxL;rw[ht]| x::q,a,l,y,h=>by
  rw[alT9];unfold Scp.boxL at h ⊢;cases hx:s.ofB x.1 (decide (z4 x.2<0)) with
  |none=>rfl| some g =>
   rw[hx] at h;exact zGO ht h
theorem zLG {α:Type}{l:List α}{i:Nat}{a:α}(h:l[i]?=some a):l.take (i+1)=l.take i++[a]:=by rw[tF,h];rfl
theorem sKbx (s:Scp)(f:F)(hs:Usz s)(hz:s.q.sz (2^20))(hp:Dsz (2^20) s.path)(hok:BoxOk s f):zE 46 [sv s,fv f] (.tup [rv (zJ (oV (s.box f))),mlv (mR (oL (s.box f))),.bool (fun _=>(s.box f).isSome)]):=by
 refine sF Tryz.f46 ?_;have cv:=zG3 s.q (hz.mono (by decide));have cvr:=tV s.q.g (hz.g.mono (by decide));have hgv:s.q.g.valid=true:=by have:=hs.v;unfold Qry.valid at this;simp only[yT] at this;exact this.1.1
 rw[hs.v] at cv;rw[if_pos hgv] at cvr;have c7:=sR7V (fA f) s.q.g.vars (by have:=zMF hok.fl (by decide);exact this.mono (by decide));rw[hok.vd] at c7;have cof:∀ t,t∈f.ts->zE 111 [sv s,.int .i64 (fun _=>t.1),.bool (fun _=>decide (z4 t.2<0))] (bdv ((s.ofB t.1 (decide (z4 t.2<0))).getD (R0,[])) (s.ofB t.1 (decide (z4 t.2<0))).isSome):=fun t ht=>sKof s t.1 _ hs hz hp (hok.v t ht).1 (hok.v t ht).2;have csg:∀ t,t∈f.ts->zE 30 [rv (zJ t.2)] (.int .i64 (fun _=>z4 t.2)):=fun t ht=>by have:=s35 (zJ t.2) (xP (zU (hok.fl.t t ht)).n (by decide));rw[z6] at this;exact this
 have rD:∀ a t b,Fits (2^29) a->t∈f.ts->b.sz (2^28)->zE 84 [rv (zJ t.2),rv b] (rv (zJ (t.2*b.q)))/\zE 18 [rv (zJ a),rv (zJ (t.2*b.q))] (rv (zJ (a+t.2*b.q))):=fun a t b ha ht hb=>by have ft:=hok.fl.t t ht;have fb:=hb.fits (by decide);have h1:=s77 (zJ t.2) b ((zU ft).mono (by decide)) (hb.mono (by decide));have h2:=s44 (zJ a) (zJ (t.2*b.q)) ((zU ha).mono (by decide)) ((zU (y6 ft fb)).mono (by decide));simp only[z6] at h1 h2;exact⟨h1,h2⟩
 have cmul:∀ t,t∈f.ts->∀ q,Fits (2^27) q->zE 84 [.agg [.bool (fun _=>false),nat (zJ t.2).num,nat (zJ t.2).den],rv (zJ q)] (rv (zJ (q*vK t.2)))/\Fits (2^28) (q*vK t.2):=fun t ht q hq=>by
  (have ft:=jU (hok.fl.t t ht);have h1:=s77 ⟨false,(zJ t.2).num,(zJ t.2).den⟩ (zJ q) (by rw[aU];exact (zU ft).mono (by decide)) ((zU hq).mono (by decide));have e:(⟨false,(zJ t.2).num,(zJ t.2).den⟩:R).q=vK t.2:=by rw[aU,z6]);rw[e,z6,Rat.mul_comm] at h1
  exact⟨h1,(y6 hq ft).mono (by decide)⟩
 have cpl:∀ (l:List (Row×Rat)) (r:Row) (q:Rat),Mfit (2^30) l->Fits (2^28) q->zE 112 [mlv (mR l),rwv r,rv (zJ q)] (mlv (mR (plMq l r q))):=fun l r q hl hq=>by have:=sPlM l r (zJ q) hl ((zU hq).mono (by decide));rw[z6] at this;exact this
 have hpre:=hok.pre;have hbd:=hok.bd;have hflen:=hok.fl.len;have hbox:s.box f=s.boxL f.ts f.c []:=rfl;obtain⟨BL,hBL⟩:∃ BL,(fun ts=>s.boxL ts f.c [])=BL:=⟨_,rfl⟩;have hBLa:∀ ts,BL ts=s.boxL ts f.c []:=fun ts=>by rw[<-hBL]
 have hB0:BL []=some (f.c,[]):=by rw[hBLa];rfl
 have hBs:∀ i t b a l,f.ts[i]?=some t->s.ofB t.1 (decide (z4 t.2<0))=some b->BL (f.ts.take i)=some (a,l)->BL (f.ts.take (i+1))=some (a+t.2*b.1.q,xT l b.2 (vK t.2)):=fun i t b a l h1 h2 h3=>by rw[hBLa] at h3 ⊢;rw[zLG h1];exact zGN h2 h3
 have hBn:∀ i t a l,f.ts[i]?=some t->s.ofB t.1 (decide (z4 t.2<0))=none->BL (f.ts.take i)=some (a,l)->BL f.ts=none:=fun i t a l h1 h2 h3=>by
  (rw[hBLa] at h3 ⊢;have hd:f.ts=f.ts.take i++t::f.ts.drop (i+1):=by rw[<-zY h1,zQL]);rw[hd]
  exact zGO h2 h3
 simp only[<-hBLa] at hpre hbox;obtain⟨o,ho⟩:∃ o,s.box f=o:=⟨_,rfl⟩;rw[ho] at hbox ⊢;obtain⟨OF,hOF⟩:∃ OF,(fun t:Int×Rat=>s.ofB t.1 (decide (z4 t.2<0)))=OF:=⟨_,rfl⟩;have hOFa:∀ t:Int×Rat,s.ofB t.1 (decide (z4 t.2<0))=OF t:=fun t=>by rw[<-hOF]
 simp only[hOFa] at cof hBs hBn hbd;have hln:(tR f.ts).length=f.ts.length:=vI _;have hget:∀ (i:Nat) t,f.ts[i]?=some t->(tR f.ts)[i]?=some (t.1,zJ t.2):=fun i t h=>by simp[tR,bR,h]
 have hmn:∀ l c,xT l [] c=l:=fun _ _=>rfl;have hmc:∀ l t r c,xT l (t::r) c=xT (plMq l t.1 (t.2*c)) r c:=fun _ _ _ _=>rfl;obtain⟨ts,fc⟩:=f;dsimp only [fv,fA] at *
 generalize s.q.g.vars=N at *
 obtain⟨⟨⟨gn,us,os⟩,⟨lo,hi',rows⟩,⟨ts',c1',c2',c3'⟩⟩,path,L⟩:=s
 (try dsimp only at *)
 generalize tR ts=T at *
 have hp0:=fun a l h=>hpre 0 a l h;obtain⟨C0,hC0⟩:∃ C,zJ fc=C:=⟨_,rfl⟩;rw[hC0] at c7 ⊢;clear hBL hBLa hOF hOFa ho hs hz hp hok hgv;cbv;refine zN 13 (by cbv) ?_;cbv;refine dA cv ?_;cbv;refine zG7 rfl ?_;cbv;refine dA cvr ?_;cbv;refine dA c7 ?_;cbv;refine pV rfl ?_;cbv;refine z3 (σ:=Nat×R×Rat×List (Row×Rat)) (fun st=>⟨[(2,.ptr 2 0),(3,.ptr 3 0),(4,.ptr 4 0),(7,.ptr 7 0),(8,mlv (mR st.2.2.2)),(9,.int .i64 (fun _=>(st.1:Int)))],[(2,.box (sc ⟨⟨⟨gn,us,os⟩,⟨lo,hi',rows⟩,⟨ts',c1',c2',c3'⟩⟩,path,L⟩)),(3,.box [tsv T,.bool (fun _=>C0.neg),nat C0.num,nat C0.den]),(4,.box [.ff,.nil,.nil]),(7,.box [.bool (fun _=>st.2.1.neg),nat st.2.1.num,nat st.2.1.den])]⟩)
  (fun st=>st.1<=ts.length/\st.2.1=zJ st.2.2.1/\BL (ts.take st.1)=some (st.2.2.1,st.2.2.2)) (fun st=>ts.length-st.1) (0,C0,fc,[]) ⟨xD _,hC0.symm,hB0⟩ (wkZ) ?_
 clear hB0 cv cvr c7 hC0;intro st hst;obtain⟨i,C,a,l⟩:=st;obtain⟨h1,h2,h3⟩:=hst;dsimp only at h1 h2 h3;obtain⟨fa,fl',fl2⟩:=hpre i a l h3;cbv;refine zG (fun h5=>?_) (fun h5=>?_)
 ·(rw[zA,hln] at h5;have hlt:i<ts.length:=by (try dsimp only [zF] at *);omega);obtain⟨t,ht⟩:=zT hlt
  have hm:=yA ht;have hT:=hget i t ht;have d1:=csg t hm;have d2:=cof t hm;have d3:=rD a t;have d4:=cmul t hm;have hb:=hbd t hm;have hs':=hBs i t;have hn':=hBn i t a l ht;obtain⟨tv,tq'⟩:=t;dsimp only at *
  obtain⟨ob,hob⟩:∃ ob,OF (tv,tq')=ob:=⟨_,rfl⟩;rw[hob] at d2 hb hs' hn';generalize z4 tq'=sg at *
  obtain⟨Q,hQ⟩:∃ Q,zJ tq'=Q:=⟨_,rfl⟩;rw[hQ] at hT d1 d3 d4;obtain⟨bV,hbV⟩:∃ V,(ob.getD (R0,[])).1=V:=⟨_,rfl⟩;obtain⟨bP,hbP⟩:∃ V,(ob.getD (R0,[])).2=V:=⟨_,rfl⟩;obtain⟨bh,hbh⟩:∃ V,ob.isSome=V:=⟨_,rfl⟩;rw[hbV,hbP,hbh] at d2;have kn:bh=false->ob=none:=fun h=>by cases ob with
   |none=>rfl| some x=>rw[<-hbh] at h;cases h
  have ks:bh=true->ob=some (bV,bP):=fun h=>by cases ob with
   |none=>rw[<-hbh] at h;cases h
   |some x=>rw[<-hbV,<-hbP];rfl
  clear cof csg rD cmul hbd hpre hget hBs hBn hbV hbP hbh hob;cbv;refine yX hT wM wI ?_;cbv;refine jS 9 (by cbv) (by cbv) ?_;cbv;refine dA d1 ?_;cbv;refine dA d2 ?_;cbv;refine zP (fun e=>?_) (fun e=>?_)
  rotate_left
  ·have e1:=hn' (kn e) h3;rw[e1] at hbox;subst hbox;cbv
   (refine rC ?_;cbv)
   exact⟨⟨zM (by show (zJ 0).neg=false;rw[u6]),yW (by show lm (zJ 0).num=[];rw[u6];rfl),yW (by show lm (zJ 0).den=[];rw[u6];rfl),trivial⟩,yW rfl,zM rfl,trivial⟩
  have e1:=ks e;obtain⟨zb,fb,lb⟩:=hb (bV,bP) e1;obtain⟨d5,d6⟩:=d3 bV fa hm zb;have hnx:=hs' (bV,bP) a l ht e1 h3;rw[<-h2] at d6;dsimp only at d5 d6 hnx lb fb;generalize tq'*bV.q=pr at *
  generalize hW:zJ (a+pr)=W at *
  generalize zJ pr=PR at *
  (obtain⟨AC,hAC⟩:∃ A,vK tq'=A:=⟨_,rfl⟩;rw[hAC] at d4 hnx;obtain⟨A0,hA0⟩:∃ n:Nat,n=2^28:=⟨_,rfl⟩;obtain⟨L0,hL0⟩:∃ n:Nat,n=2^36:=⟨_,rfl⟩;obtain⟨D0,hD0⟩:∃ n:Nat,n=2^28+1:=⟨_,rfl⟩;have fl0:∀ t,t∈l->Fits A0 t.2:=fun t h=>by rw[hA0];exact fl' t h);have fl3:l.length<=L0:=by rw[hL0];exact fl2
  have hAD:∀ i:Nat,i<=1->A0+i*D0<=2^30:=fun i hi=>by have:i*D0<=1*D0:=qV _ hi;omega
  (have hLL:∀ i:Nat,i<=2->L0+i<2^37:=fun i hi=>by omega);have hD1:∀ i:Nat,(A0+i*D0)+2^28+1<=A0+(i+1)*D0:=fun i=>by rw[Nat.succ_mul];omega
  clear hA0 hL0 hD0 fl' fl2;clear hn' hs' kn ks d3;cbv;refine zN 7 (by cbv) ?_;cbv;refine dA d5 ?_;cbv;refine dA d6 ?_;cbv;refine z3 (σ:=Nat×List (Row×Rat)) (fun st=>⟨[(2,.ptr 2 0),(3,.ptr 3 0),(4,.ptr 4 0),(7,.ptr 7 0),(8,mlv (mR st.2)),(9,.int .i64 (fun _=>(i:Int))),(11,.ptr 11 0),(12,.ptr 12 0),(13,.int .i64 (fun _=>(st.1:Int)))],[(2,.box (sc ⟨⟨⟨gn,us,os⟩,⟨lo,hi',rows⟩,⟨ts',c1',c2',c3'⟩⟩,path,L⟩)),(3,.box [tsv T,.bool (fun _=>C0.neg),nat C0.num,nat C0.den]),(4,.box [.ff,.nil,.nil]),(7,.box [.bool (fun _=>W.neg),nat W.num,nat W.den]),(11,.box [.bool (fun _=>bV.neg),nat bV.num,nat bV.den,mlv (mR bP),.bool (fun _=>bh)]),(12,.box [.ff,nat Q.num,nat Q.den])]⟩)
   (fun st=>st.1<=bP.length/\xT l bP AC=xT st.2 (bP.drop st.1) AC/\(∀ t,t∈st.2->Fits (A0+st.1*D0) t.2)/\st.2.length<=L0+st.1) (fun st=>bP.length-st.1) (0,l) ⟨xD _,rfl,by simpa using fl0,by simpa using fl3⟩ (wkZ) ?_
  intro st hst;obtain⟨k,l2⟩:=st;obtain⟨g1,g2,g3,g4⟩:=hst;dsimp only at g1 g2 g3 g4;cbv;refine zG (fun h6=>?_) (fun h6=>?_)
  ·(rw[zA,j1] at h6;have hlt2:k<bP.length:=by (try dsimp only [zF] at *);omega);obtain⟨x,hx⟩:=zT hlt2
   (have hxm:(mR bP)[k]?=some ⟨x.1,zJ x.2⟩:=by simp[mR,bR,hx]);obtain⟨m1,m2⟩:=d4 x.2 (fb x (yA hx))
   have m3:=cpl l2 x.1 (x.2*AC) ⟨by have:=hLL k oM;omega,fun t ht=>(g3 t ht).mono (hAD k oM)⟩ m2;rw[zY hx,hmc] at g2;have g3':=oC (r:=x.1) m2 g3;have g4':=zD7 l2 x.1 (x.2*AC);obtain⟨xr,xq⟩:=x;dsimp only at *
   generalize plMq l2 xr (xq*AC)=l3 at *
   generalize zJ (xq*AC)=Y at *
   generalize zJ xq=X at *
   cbv;refine zN 17 (by cbv) ?_;cbv;refine yX hxm vP wA ?_;cbv;refine yX hxm vP wA ?_;cbv;refine dA m1 ?_;cbv;refine dA m3 ?_;cbv;exact⟨zD om om,(k+1,l3),⟨om,g2,fun t ht=>(g3' t ht).mono (hD1 k),(by show l3.length<=L0+(k+1);omega)⟩,om,wkZ⟩
  ·(have hk:k=bP.length:=by rw[zA,j1] at h6;(try dsimp only [zF] at *);omega);rw[hk,w4,hmn] at g2
   rw[g2] at hnx;cbv;exact⟨zD om om,(i+1,W,a+pr,l2),⟨om,hW.symm,hnx⟩,om,wkZ⟩
 ·(have hi:i=ts.length:=by rw[zA,hln] at h5;(try dsimp only [zF] at *);omega);rw[hi,v9] at h3
  rw[h3] at hbox;subst hbox h2;have cc:=s47 (zJ a) ((zU fa).mono (by decide));rw[z6] at cc;have e1:oV (some (a,l))=a:=rfl;have e2:oL (some (a,l))=l:=rfl;rw[e1,e2];generalize zJ a=A at *
  generalize mR l=M at *
  cbv;refine cA cc ?_;cbv
  (refine rC ?_;cbv)
  exact okA
end Go.Proofs.YtaeaffgjdcigoaaGreat
