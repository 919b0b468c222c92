/- A part of the proof: RuE, RuF, RuG, RuH, RuI, SpV, UtB, RuJ. -/
import Derived.Test.YtaeaffgjdcigoaaGreatC31
import Derived.Test.YtaeaffgjdcigoaaGreatC28
import Derived.Test.YtaeaffgjdcigoaaGreatC27
import Derived.Test.YtaeaffgjdcigoaaGreatC30
import Derived.Test.YtaeaffgjdcigoaaGreatC22
set_option linter.all false
namespace Go.Proofs.YtaeaffgjdcigoaaGreat
open Go
set_option maxRecDepth 100000
set_option maxHeartbeats 4000000
theorem cK (s:Scp)(unit:Int)(hs:Lsz (2^20) s.lems):zE 78 [sv s,.int .i64 (fun _=>unit)] (.tup [.int .i64 (fun _=>((s.best unit).1:Int)),.int .i64 (fun _=>((s.best unit).2:Int))]):=by
 refine sF Tryz.f78 ?_;have hll:=hs.len;obtain⟨⟨⟨gn,us,os⟩,⟨lo,hi,rows⟩,⟨ts,c1,c2,c3⟩⟩,path,L⟩:=s;dsimp only at hs hll;have cc:∀ m m',m∈L->m'∈L->zE 48 [rv m.v,rv m'.v] (.int .i64 (fun _=>uD m.v.q m'.v.q)):=fun m m' h h'=>s42 m.v m'.v ((hs.sz m h).mono (by decide)) ((hs.sz m' h').mono (by decide));have hst:∀ n m r b,bN L unit n (m::r) b=bN L unit (n+1) r (if m.u=unit then (if m.up=true then (if b.2=0\/uD m.v.q (qO L b.2)<0 then (b.1,n+1) else b) else (if b.1=0\/0<uD m.v.q (qO L b.1) then (n+1,b.2) else b)) else b):=fun _ _ _ _=>rfl;have hva:∀ k m,L[k-1]?=some m->qO L k=m.v.q:=fun k m h=>by unfold qO;rw[h];rfl
 have hni:∀ n b,bN L unit n [] b=b:=fun _ _=>rfl;have hgoal:((⟨⟨⟨gn,us,os⟩,⟨lo,hi,rows⟩,⟨ts,c1,c2,c3⟩⟩,path,L⟩:Scp).best unit)=bN L unit 0 L (0,0):=rfl;rw[hgoal];obtain⟨B,hB⟩:∃ B,bN L unit 0 L (0,0)=B:=⟨_,rfl⟩;rw[hB];obtain⟨B1,B2⟩:=B;dsimp only;generalize bN L unit=BG at *
 clear hgoal;cbv;refine z3 (σ:=Nat×Nat×Nat) (fun st=>⟨[(1,.int .i64 (fun _=>unit)),(2,.ptr 2 0),(6,.int .i64 (fun _=>(st.2.1:Int))),(7,.int .i64 (fun _=>(st.2.2:Int))),(8,.int .i64 (fun _=>((st.1+1:Nat):Int)))],[(2,.box [.int .i64 (fun _=>gn),alv us,alv os,rlv lo,rlv hi,alv rows,tsv ts,.bool (fun _=>c1),nat c2,nat c3,dlv path,llv L])]⟩)
  (fun st=>st.1<=L.length/\BG st.1 (L.drop st.1) st.2=(B1,B2)/\st.2.1<=L.length/\st.2.2<=L.length) (fun st=>L.length-st.1)
  (0,0,0) ⟨by show 0<=_;omega,hB,xD _,xD _⟩ (wkZ) ?_
 intro st hst';obtain⟨i,b1,b2⟩:=st;obtain⟨h1,h2,h3,h4⟩:=hst';dsimp only at h1 h2 h3 h4;clear hB;cbv;refine zG (fun h5=>?_) (fun h5=>?_)
 ·(rw[zA] at h5;have hlt:i<L.length:=by (try dsimp only [zF] at *);omega);obtain⟨m,hm⟩:=zT hlt
  (have hmem:=yA hm;rw[zY hm,hst] at h2;have idx:∀ {K:List PV->Prop},K (lc m)->IdxOk 6 (fun _=>enc lc L) (fun _=>((i+1:Nat):Int)-1) K:=fun hK=>xL hm oM xX wJ hK;have hin:∀ k:Nat,k<=L.length->¬k=0->∃ m',m'∈L/\qO L k=m'.v.q/\∀ {K:List PV->Prop},K (lc m')->IdxOk 6 (fun _=>enc lc L) (fun _=>(k:Int)-1) K:=fun k hk h0=>by obtain⟨m',hm'⟩:=zT (l:=L) (i:=k-1) oM;exact⟨m',yA hm',hva k m' hm',fun hK=>xL hm' oM xX wJ hK⟩);clear hst hva;cbv;refine⟨zD om om,idx ?_⟩;cbv;refine zG (fun e1=>?_) (fun e1=>?_)
  ·rw[if_pos e1] at h2;cbv;refine zN 19 (by cbv) ?_;cbv;refine z7 (fun e2=>?_) (fun e2=>?_)
   ·rw[if_pos e2] at h2;cbv;refine zQ (fun e3=>?_) (fun e3=>?_)
    ·(have e3':b2=0:=by (try dsimp only [zF] at *);omega);rw[if_pos (.inl e3')] at h2
     cbv;refine zN 20 (by cbv) ?_;cbv;refine z7 (fun e4=>?_) (fun e4=>by rw[e2] at e4;cases e4);cbv;exact⟨zD om om,(i+1,b1,(i+1)),⟨om,h2,(by show b1<=_;omega),(by show (i+1)<=_;omega)⟩,om,wkZ⟩
    (have e3':¬b2=0:=by (try dsimp only [zF] at *);omega);obtain⟨m',hm',hv',idx'⟩:=hin b2 h4 e3'
    have cx:=cc m m' hmem hm';rw[hv'] at h2;generalize uD m.v.q m'.v.q=x at *
    cbv;refine⟨zD om om,idx' ?_⟩;cbv;refine dA cx ?_;cbv;refine zG (fun e5=>?_) (fun e5=>?_);{rw[if_pos (.inr e5)] at h2;cbv;refine zN 20 (by cbv) ?_;cbv;refine z7 (fun e4=>?_) (fun e4=>by rw[e2] at e4;cases e4);cbv;exact⟨zD om om,(i+1,b1,(i+1)),⟨om,h2,(by show b1<=_;omega),(by show (i+1)<=_;omega)⟩,om,wkZ⟩};{rw[if_neg (fun h=>h.elim e3' e5)] at h2;cbv;refine zN 20 (by cbv) ?_;cbv;refine z7 (fun e4=>?_) (fun e4=>by rw[e2] at e4;cases e4);cbv;exact⟨zD om om,(i+1,b1,b2),⟨om,h2,(by show b1<=_;omega),(by show b2<=_;omega)⟩,om,wkZ⟩}
   ·rw[if_neg (by rw[e2];decide)] at h2;cbv;refine zN 20 (by cbv) ?_;cbv;refine z7 (fun e4=>by rw[e2] at e4;cases e4) (fun e4=>?_);cbv;refine zQ (fun e3=>?_) (fun e3=>?_)
    ·(have e3':b1=0:=by (try dsimp only [zF] at *);omega);rw[if_pos (.inl e3')] at h2
     cbv;exact⟨zD om om,(i+1,(i+1),b2),⟨om,h2,(by show (i+1)<=_;omega),(by show b2<=_;omega)⟩,om,wkZ⟩
    (have e3':¬b1=0:=by (try dsimp only [zF] at *);omega);obtain⟨m',hm',hv',idx'⟩:=hin b1 h3 e3'
    have cx:=cc m m' hmem hm';rw[hv'] at h2;generalize uD m.v.q m'.v.q=x at *
    cbv;refine⟨zD om om,idx' ?_⟩;cbv;refine dA cx ?_;cbv;refine zG (fun e5=>?_) (fun e5=>?_);{rw[if_pos (.inr e5)] at h2;cbv;exact⟨zD om om,(i+1,(i+1),b2),⟨om,h2,(by show (i+1)<=_;omega),(by show b2<=_;omega)⟩,om,wkZ⟩};{rw[if_neg (fun h=>h.elim e3' e5)] at h2;cbv;exact⟨zD om om,(i+1,b1,b2),⟨om,h2,(by show b1<=_;omega),(by show b2<=_;omega)⟩,om,wkZ⟩}
  {rw[if_neg e1] at h2;cbv;exact⟨zD om om,(i+1,b1,b2),⟨om,h2,(by show b1<=_;omega),(by show b2<=_;omega)⟩,om,wkZ⟩}
 ·(have hi:i=L.length:=by rw[zA] at h5;(try dsimp only [zF] at *);omega);rw[hi,w4,hni] at h2
  obtain⟨q1,q2⟩:=iW h2;subst q1 q2;cbv
  (refine rC ?_;cbv)
  exact okA
theorem zN0 (a b:List (Row×Rat))(c:R)(ha:∀ t,t∈a->Fits (2^28) t.2)(hal:a.length<=2^36)(hb:∀ t,t∈b->Fits (2^23) t.2)(hbl:b.length<=32)(hc:c.sz (2^20)):zE 115 [mlv (mR a),mlv (mR b),rv c] (mlv (mR (xT a b c.q))):=by
 refine sF Tryz.f115 ?_;have hcf:Fits (2^20) c.q:=hc.fits (by decide);have c1:∀ q,Fits (2^23) q->zE 84 [rv (zJ q),rv c] (rv (zJ (q*c.q))):=fun q hq=>by have:=s77 (zJ q) c ((zU hq).mono (by decide)) (hc.mono (by decide));rw[z6] at this;exact this
 have c2:∀ (l:List (Row×Rat)) (r:Row) (q:Rat),Mfit (2^30) l->Fits (2^24) q->zE 112 [mlv (mR l),rwv r,rv (zJ q)] (mlv (mR (plMq l r q))):=fun l r q hl hq=>by have:=sPlM l r (zJ q) hl ((zU hq).mono (by decide));rw[z6] at this;exact this
 obtain⟨A0,hA0⟩:∃ n:Nat,n=2^28:=⟨_,rfl⟩;obtain⟨L0,hL0⟩:∃ n:Nat,n=2^36:=⟨_,rfl⟩;obtain⟨D0,hD0⟩:∃ n:Nat,n=2^24+1:=⟨_,rfl⟩;rw[<-hA0] at ha;rw[<-hL0] at hal;have hAD:∀ i:Nat,i<=32->A0+i*D0<=2^30:=fun i hi=>by have:i*D0<=32*D0:=qV _ hi;omega
 obtain⟨G,hG⟩:∃ G:List (Row×Rat)->List (Row×Rat)->List (Row×Rat),∀ x y,G x y=xT x y c.q:=⟨_,fun _ _=>rfl⟩;have hn:∀ x,G x []=x:=fun x=>by rw[hG];rfl
 have hs:∀ x t r,G x (t::r)=G (plMq x t.1 (t.2*c.q)) r:=fun x t r=>by rw[hG,hG];rfl
 rw[<-hG];obtain⟨res,hres⟩:∃ r,G a b=r:=⟨_,rfl⟩;rw[hres];clear hG;have hbm:∀ (i:Nat) t,b[i]?=some t->(mR b)[i]?=some ⟨t.1,zJ t.2⟩:=fun i t h=>by simp[mR,bR,h]
 have hbl':(mR b).length=b.length:=j1 b;cbv;refine z3 (σ:=Nat×List (Row×Rat)) (fun s=>⟨[(0,mlv (mR s.2)),(1,mlv (mR b)),(5,.ptr 5 0),(7,.int .i64 (fun _=>(s.1:Int)))],[(5,.box [.bool (fun _=>c.neg),nat c.num,nat c.den])]⟩)
  (fun s=>s.1<=b.length/\G s.2 (b.drop s.1)=res/\(∀ t,t∈s.2->Fits (A0+s.1*D0) t.2)/\s.2.length<=L0+s.1) (fun s=>b.length-s.1)
  (0,a) ⟨xD _,hres,by simpa using ha,by simpa using hal⟩ (wkZ) ?_
 intro st hst;obtain⟨i,acc⟩:=st;obtain⟨h1,h2,h3,h4⟩:=hst;dsimp only at h1 h2 h3 h4;clear hres;cbv;refine zG (fun h5=>?_) (fun h5=>?_)
 ·(rw[zA,hbl'] at h5;have hlt:i<b.length:=by (try dsimp only [zF] at *);omega);obtain⟨t,ht⟩:=zT hlt
  have hm:=hbm i t ht;have hq:=hb t (yA ht);rw[zY ht,hs] at h2;obtain⟨r,q⟩:=t;dsimp only at h2 hm hq;have d1:=c1 q hq;have d2:=c2 acc r (q*c.q) ⟨by omega,fun t ht=>(h3 t ht).mono (hAD i oM)⟩ ((y6 hq hcf).mono (by decide));have h3':=oC (r:=r) ((y6 hq hcf).mono (show _<=2^24 by decide)) h3;have h4':=zD7 acc r (q*c.q);generalize plMq acc r (q*c.q)=acc' at *
  generalize zJ (q*c.q)=Y at *
  generalize zJ q=X at *
  clear c1 c2 hs hn;cbv;refine zN 14 (by cbv) ?_;cbv;refine yX hm vP wA ?_;cbv;refine yX hm vP wA ?_;cbv;refine dA d1 ?_;cbv;refine dA d2 ?_;cbv;exact⟨zD om om,(i+1,acc'),⟨om,h2,fun t ht=>(h3' t ht).mono (by show _<=A0+(i+1)*D0;rw[Nat.succ_mul];omega),(by show acc'.length<=L0+(i+1);omega)⟩,om,wkZ⟩
 ·(have hi:i=b.length:=by rw[zA,hbl'] at h5;(try dsimp only [zF] at *);omega);rw[hi,w4,hn] at h2
  subst h2;cbv
  (refine rC ?_;cbv)
  exact lR
theorem zYK (s:Scp)(v:Int)(hv:-4611686018427387904<=v)(hv2:v<4611686018427387904)(hn:0<=s.q.g.n)(hn2:s.q.g.n<=256):zE 253 [sv s,.int .i64 (fun _=>v)] (mlv (mR (s.atLeastM v))):=by
 refine sF Tryz.f253 ?_;have c1:=s32 1 (by decide) (by decide);rw[show (((1:Int):Rat))=(1:Rat) by rfl] at c1;have h1:v<s.q.g.n->mR (s.atLeastM v)=[⟨⟨1,v,0,0⟩,zJ 1⟩]:=fun h=>by unfold Scp.atLeastM;rw[if_pos h];rfl
 have h2:¬v<s.q.g.n->mR (s.atLeastM v)=[⟨⟨5,v-s.q.g.n,0,0⟩,zJ 1⟩]:=fun h=>by unfold Scp.atLeastM;rw[if_neg h];rfl
 generalize mR (s.atLeastM v)=res at *
 generalize zJ 1=O1 at *
 cbv;refine zG (fun e=>?_) (fun e=>?_)
 ·rw[h1 e];cbv;refine cA c1 ?_;cbv
  (refine zB3 ?_;cbv)
  (refine rC ?_;cbv)
  exact zR rfl
 ·rw[h2 e];cbv;refine zN 10 (by cbv) ?_;cbv;refine⟨zD om om,?_⟩;cbv;refine dA c1 ?_;cbv
  (refine rC ?_;cbv)
  exact zR rfl
theorem yAO (x y:R):mkRat (sgn (x.neg != y.neg) (val x.num*y.d)) (x.d*val y.num)=x.q/y.q:=by rw[f9,R.q,R.q,<-zFN,<-zFN,<-zFN,Rat.inv_divInt,Rat.divInt_mul_divInt];unfold R.n sgn;cases x.neg <;> cases y.neg <;> simp[Rat.divInt_neg',Int.neg_mul,Int.mul_neg]
theorem zPC {q:Rat}:z4 q=0↔q=0:=by unfold z4;split <;> (try split) <;> constructor <;> grind
theorem s182 (x y:R)(hx:x.sz (2^31))(hy:y.sz (2^31))(h0:y.q≠0):zE 206 [rv x,rv y] (.tup [rv (zJ (x.q/y.q)),.int .i64 (fun _=>(0:Int))]):=by
 refine sF Tryz.f206 ?_;have h1:=hx.n;have h2:=hx.d;have h3:=hy.n;have h4:=hy.d;have h7:=pN x.den;have h8:=pN y.den;have hyn:val y.num≠0:=fun h=>h0 (by
  (have:y.n=0:=by unfold R.n;rw[h];simp[sgn]);rw[R.q,this];simp)
 have csg:=s35 y oM;have hsg:¬z4 y.q=0:=fun h=>h0 (zPC.1 h);have cux:=s100 x.den oM;have cuy:=s100 y.den oM;have cm:=s99 (jM x.den) y.num oM oM;have hml:=fS (jM x.den) y.num;rw[bT] at cm hml;have cn:=s99 x.num (jM y.den) oM oM;have hnl:=fS x.num (jM y.den);rw[bT] at cn hnl;have cq:=s102 (x.neg != y.neg) (zK (val x.num*y.d)) (zK (x.d*val y.num)) oM oM (by rw[zO];exact zFO x.d_ne hyn);rw[zO,zO,yAO] at cq;have hb:(x.neg != y.neg)=!decide (x.neg=y.neg):=by cases x.neg <;> cases y.neg <;> rfl
 clear hml hnl hx hy h0;generalize zJ (x.q/y.q)=W at *
 generalize z4 y.q=sg at *
 generalize zK (x.d*val y.num)=M at *
 generalize zK (val x.num*y.d)=P at *
 generalize jM x.den=ux at *
 generalize jM y.den=uy at *
 obtain⟨a,b,c⟩:=x;obtain⟨a',b',c'⟩:=y;simp only at *
 generalize (a != a')=nb at *
 cbv;refine cA csg ?_;cbv;refine yB hsg ?_;cbv;refine zN 18 (by cbv) ?_;cbv;refine dA cuy ?_;cbv;refine dA cn ?_;cbv;refine dA cux ?_;cbv;refine dA cm ?_;cbv;refine x9 (by exact⟨vY hb,lR,lR,trivial⟩) cq rfl ?_;cbv
 (refine rC ?_;cbv)
 exact okA
theorem zYJ (s:Scp)(v:Int)(hs:Lsz (2^20) s.lems)(hv:-4611686018427387904<=v)(hv2:v<4611686018427387904)(hn:0<=s.q.g.n)(hn2:s.q.g.n<=256):zE 252 [sv s,.int .i64 (fun _=>v)] (.tup [mlv (mR ((s.atMostM v).getD [])),.bool (fun _=>(s.atMostM v).isSome)]):=by
 refine sF Tryz.f252 ?_;have c1:=s32 1 (by decide) (by decide);rw[show (((1:Int):Rat))=(1:Rat) by rfl] at c1;have cb:=cK s (v-s.q.g.n) hs;have hbs:=fun k h h0=>dU (s:=s) (unit:=v-s.q.g.n) (k:=k) h h0;have hss:=hs.sz;have hva:∀ k m,s.lems[k-1]?=some m->qO s.lems k=m.v.q:=fun k m h=>by unfold qO;rw[h];rfl
 have h1:v<s.q.g.n->s.atMostM v=some [(⟨2,v,0,0⟩,1)]:=fun h=>by unfold Scp.atMostM;rw[if_pos h]
 have h2:¬v<s.q.g.n->(s.best (v-s.q.g.n)).1=0\/(s.best (v-s.q.g.n)).2=0->s.atMostM v=none:=fun h h'=>by unfold Scp.atMostM;rw[if_neg h,if_pos h']
 have h3:¬v<s.q.g.n->¬((s.best (v-s.q.g.n)).1=0\/(s.best (v-s.q.g.n)).2=0)->s.atMostM v=some (upM (v-s.q.g.n) (s.best (v-s.q.g.n)).1 (s.best (v-s.q.g.n)).2 (qO s.lems (s.best (v-s.q.g.n)).1) (qO s.lems (s.best (v-s.q.g.n)).2)):=fun h h'=>by unfold Scp.atMostM;rw[if_neg h,if_neg h']
 generalize s.atMostM v=o at *
 generalize s.best (v-s.q.g.n)=B at *
 obtain⟨b1,b2⟩:=B;dsimp only at h2 h3 hbs cb;have hll:=hs.len;obtain⟨⟨⟨gn,us,os⟩,⟨lo,hi,rows⟩,⟨ts,c1',c2',c3'⟩⟩,path,L⟩:=s;dsimp only at *
 obtain⟨res,hres⟩:∃ r,mR (o.getD [])=r:=⟨_,rfl⟩;obtain⟨bb,hbb⟩:∃ b,o.isSome=b:=⟨_,rfl⟩;rw[hres,hbb];have r1:v<gn->res=[⟨⟨2,v,0,0⟩,zJ 1⟩]/\bb=true:=fun h=>by rw[<-hres,<-hbb,h1 h];exact⟨rfl,rfl⟩
 have r2:¬v<gn->b1=0\/b2=0->res=[]/\bb=false:=fun h h'=>by rw[<-hres,<-hbb,h2 h h'];exact⟨rfl,rfl⟩
 have r3:¬v<gn->¬(b1=0\/b2=0)->∀ m1 m2,L[b1-1]?=some m1->L[b2-1]?=some m2->res=mR (upM (v-gn) b1 b2 m1.v.q m2.v.q)/\bb=true:=fun h h' m1 m2 g1 g2=>by rw[<-hres,<-hbb,h3 h h',hva b1 m1 g1,hva b2 m2 g2];exact⟨rfl,rfl⟩
 clear h1 h2 h3 hres hbb hva hs;obtain⟨O1,hO1⟩:∃ O,zJ 1=O:=⟨_,rfl⟩;rw[hO1] at c1 r1;cbv;refine cA c1 ?_;cbv;refine zG (fun e=>?_) (fun e=>?_)
 ·obtain⟨q1,q2⟩:=r1 e;subst q1 q2;cbv
  (refine zB3 ?_;cbv)
  (refine rC ?_;cbv)
  exact⟨zR rfl,yN rfl,trivial⟩
 cbv;refine⟨zD om om,?_⟩;cbv;refine cA cb ?_;cbv;refine zQ (fun e1=>?_) (fun e1=>?_)
 ·obtain⟨q1,q2⟩:=r2 e (.inl om);subst q1 q2;cbv
  (refine rC ?_;cbv)
  exact okA
 cbv;refine zG (fun e2=>?_) (fun e2=>?_)
 ·obtain⟨q1,q2⟩:=r2 e (.inr om);subst q1 q2;cbv
  (refine rC ?_;cbv)
  exact okA
 have e1':b1≠0:=by (try dsimp only [zF] at *);omega
 have e2':b2≠0:=by (try dsimp only [zF] at *);omega
 obtain⟨m1,g1,_⟩:=hbs b1 (.inl rfl) e1';obtain⟨m2,g2,_⟩:=hbs b2 (.inr rfl) e2';have r3':=r3 e oM m1 m2 g1 g2;have z1:=hss m1 (yA g1);have z2:=hss m2 (yA g2);have l1:=(wH.1 g1).1;have l2:=(wH.1 g2).1;have i1:∀ {K:List PV->Prop},K (lc m1)->IdxOk 6 (fun _=>enc lc L) (fun _=>(b1:Int)-1) K:=fun hK=>xL g1 oM xX wJ hK;have i2:∀ {K:List PV->Prop},K (lc m2)->IdxOk 6 (fun _=>enc lc L) (fun _=>(b2:Int)-1) K:=fun hK=>xL g2 oM xX wJ hK;have csl:=s35 m1.v (by have:=z1.n;omega);have csu:=s35 m2.v (by have:=z2.n;omega);have cdf:=s93 m2.v m1.v (z2.mono (by decide)) (z1.mono (by decide));have fu:=z2.fits (by decide);have fd:=uC fu (z1.fits (by decide));have cdv:m2.v.q-m1.v.q≠0->zE 206 [rv O1,rv (zJ (m2.v.q-m1.v.q))] (.tup [rv (zJ (1/(m2.v.q-m1.v.q))),.int .i64 (fun _=>(0:Int))]):=fun h=>by have:=s182 (zJ 1) (zJ (m2.v.q-m1.v.q)) ((zU fits_one).mono (by decide)) ((zU fd).mono (by decide)) (by rw[z6];exact h);rw[z6,z6,hO1] at this;exact this
 have fq:Fits (2^22) (1/(m2.v.q-m1.v.q)):=by rw[f9];exact (y6 fits_one (cT fd)).mono (by decide)
 have cmu:=s77 (zJ (1/(m2.v.q-m1.v.q))) m2.v ((zU fq).mono (by decide)) (z2.mono (by decide));rw[z6] at cmu;have hne:¬z4 m2.v.q<=0->¬0<=z4 m1.v.q->m2.v.q-m1.v.q≠0:=fun h h'=>by
  (have hu:0<m2.v.q:=by unfold z4 at h;split at h <;> (try split at h) <;> grind);have hl:m1.v.q<0:=by unfold z4 at h';split at h' <;> (try split at h') <;> grind
  grind
 have ra:z4 m2.v.q<=0->res=[⟨⟨10,v-gn,0,b2⟩,O1⟩]:=fun h=>by rw[r3'.1,<-hO1];unfold upM;rw[if_pos h];rfl
 have rb:¬z4 m2.v.q<=0->0<=z4 m1.v.q->res=[⟨⟨8,v-gn,b1,0⟩,O1⟩,⟨⟨12,v-gn,0,b2⟩,O1⟩]:=fun h h'=>by rw[r3'.1,<-hO1];unfold upM;rw[if_neg h,if_pos h'];rfl
 have rcc:¬z4 m2.v.q<=0->¬0<=z4 m1.v.q->res=[⟨⟨12,v-gn,0,b2⟩,zJ (1/(m2.v.q-m1.v.q)*m2.v.q)⟩,⟨⟨13,v-gn,b1,b2⟩,zJ (1/(m2.v.q-m1.v.q))⟩]:=fun h h'=>by rw[r3'.1];unfold upM;rw[if_neg h,if_neg h'];rfl
 obtain⟨_,q2⟩:=r3';subst q2;have cdv':=fun h h'=>cdv (hne h h');clear cdv hne fq fd fu z1 z2 r1 r2 r3 cb hbs c1;generalize z4 m2.v.q=su at *
 generalize z4 m1.v.q=sl at *
 generalize zJ (1/(m2.v.q-m1.v.q)*m2.v.q)=M at *
 generalize zJ (1/(m2.v.q-m1.v.q))=Q at *
 generalize zJ (m2.v.q-m1.v.q)=D at *
 cbv;refine vC 17 [(16,10)] (by cbv) (by cbv) (by cbv) ?_;cbv;refine⟨zD om om,i1 ?_⟩;cbv;refine⟨zD om om,i2 ?_⟩;cbv;refine cA csu ?_;cbv;refine zG (fun e3=>?_) (fun e3=>?_)
 ·have q1:=ra e3;subst q1;cbv
  (refine zB3 ?_;cbv)
  (refine rC ?_;cbv)
  exact⟨zR rfl,yN rfl,trivial⟩
 cbv;refine cA csl ?_;cbv;refine zG (fun e4=>?_) (fun e4=>?_)
 ·have q1:=rb e3 e4;subst q1;cbv
  (refine zB3 ?_;cbv)
  (refine rC ?_;cbv)
  exact⟨zR rfl,yN rfl,trivial⟩
 have q1:=rcc e3 e4;have cd:=cdv' e3 e4;subst q1;cbv;refine vC 10 [(9,12)] (by cbv) (by cbv) (by cbv) ?_;cbv;refine dA cdf ?_;cbv;refine dA cd ?_;cbv;refine zN 13 (by cbv) ?_;cbv;refine dA cmu ?_;cbv
 (refine zB3 ?_;cbv)
 (refine rC ?_;cbv)
 exact⟨zR rfl,yN rfl,trivial⟩
structure AbvOk (s:Scp) (f:F):Prop where
 cn:Cn f.ts
 fl:f.fl (2^20) (2^30)
 v:∀ t,t∈f.ts->-4611686018427387904<=t.1/\t.1<4611686018427387904
 pre:∀ i l,s.aboveL (f.ts.take i) []=some l->(∀ t,t∈l->Fits (2^28) t.2)/\l.length<=2^36
 most:∀ t,t∈f.ts->∀ more,s.atMostM t.1=some more->(∀ x,x∈more->Fits (2^20) x.2)/\more.length<=32
 sum:∀ l,s.aboveL f.ts []=some l->SumOk s (mR l)
theorem zBE {s:Scp}{t:Int×Rat}{more:List (Row×Rat)}(ht:(if 0<z4 t.2 then some (s.atLeastM t.1) else s.atMostM t.1)=some more):∀ {ts:List (Int×Rat)} {l l':List (Row×Rat)},s.aboveL ts l=some l'->s.aboveL (ts++[t]) l=some (xT l' more (vK t.2))
 |[],l,l',h=>by cases h;rw[zML];unfold Scp.aboveL;rw[ht];rfl
 |x::r,l,l',h=>by
  rw[alT9];unfold Scp.aboveL at h ⊢;cases hx:(if 0<z4 x.2 then some (s.atLeastM x.1) else s.atMostM x.1) with
  |none=>rw[hx] at h;cases h
  |some g =>
   rw[hx] at h;exact zBE ht h
theorem zPQ (s:Scp)(v:Int):(∀ x,x∈s.atLeastM v->Fits (2^20) x.2)/\(s.atLeastM v).length<=32:=by unfold Scp.atLeastM;split <;> refine⟨fun x hx=>?_,by simp⟩ <;> (obtain rfl:=vL.1 hx;exact fits_one.mono (by decide))
theorem zN1 (s:Scp)(f:F)(hs:s.sz (2^20))(hn:0<=s.q.g.n)(hn2:s.q.g.n<=256)(hok:AbvOk s f):zE 202 [sv s,fv f] (.tup [rv (zJ (((s.above f).map Prod.fst).getD 0)),mlv (mR (((s.above f).map Prod.snd).getD [])),.bool (fun _=>(s.above f).isSome)]):=by
 refine sF Tryz.f202 ?_;have cam:∀ t,t∈f.ts->zE 252 [sv s,.int .i64 (fun _=>t.1)] (.tup [mlv (mR ((s.atMostM t.1).getD [])),.bool (fun _=>(s.atMostM t.1).isSome)]):=fun t ht=>zYJ s t.1 hs.lems (hok.v t ht).1 (hok.v t ht).2 hn hn2;have cal:∀ t,t∈f.ts->zE 253 [sv s,.int .i64 (fun _=>t.1)] (mlv (mR (s.atLeastM t.1))):=fun t ht=>zYK s t.1 (hok.v t ht).1 (hok.v t ht).2 hn hn2;have csg:∀ t,t∈f.ts->zE 30 [rv (zJ t.2)] (.int .i64 (fun _=>z4 t.2)):=fun t ht=>by have:=s35 (zJ t.2) (xP (zU (hok.fl.t t ht)).n (by decide));rw[z6] at this;exact this
 have cmg:∀ t,t∈f.ts->∀ a b,(∀ t,t∈a->Fits (2^28) t.2)->a.length<=2^36->(∀ t,t∈b->Fits (2^20) t.2)->b.length<=32->zE 115 [mlv (mR a),mlv (mR b),.agg [.bool (fun _=>false),nat (zJ t.2).num,nat (zJ t.2).den]] (mlv (mR (xT a b (vK t.2)))):=fun t ht a b h1 h2 h3 h4=>by
  (have:=zN0 a b ⟨false,(zJ t.2).num,(zJ t.2).den⟩ h1 h2 (fun t ht=>(h3 t ht).mono (by decide)) h4 (by rw[aU];exact zU (jU (hok.fl.t t ht)));have e:(⟨false,(zJ t.2).num,(zJ t.2).den⟩:R).q=vK t.2:=by rw[aU,z6]);rw[e] at this
  exact this
 have cfin:∀ l,s.aboveL f.ts []=some l->zE 166 [sv s,mlv (mR l)] (.tup [fv (s.sum (mR l)).2,.int .i64 (fun _=>(s.sum (mR l)).1)])/\zE 164 [fv f,fv (s.sum (mR l)).2] (fv (f.sub (s.sum (mR l)).2)):=fun l hl =>
  ⟨zVH s (mR l) hs (hok.sum l hl),zK7 hok.cn (Scp.sum_can s _) hok.fl (Scp.sum_fl' (hok.sum l hl)) (by decide) (by decide) (by decide) (by decide)⟩
 have hab:s.above f=(s.aboveL f.ts []).map fun l=>((f.sub (s.sum (mR l)).2).c,l):=rfl;rw[hab];obtain⟨o,ho⟩:∃ o,s.aboveL f.ts []=o:=⟨_,rfl⟩;rw[ho] at cfin ⊢;obtain⟨AL,hAL⟩:∃ AL,s.aboveL=AL:=⟨_,rfl⟩;have hTn:∀ l,AL [] l=some l:=fun l=>by rw[<-hAL];rfl
 have hTc:∀ t r l,AL (t::r) l=match (if 0<z4 t.2 then some (s.atLeastM t.1) else s.atMostM t.1) with
  |none=>none| some more=>AL r (xT l more (vK t.2)):=fun t r l=>by rw[<-hAL];rfl
 obtain⟨PR,hPR⟩:∃ PR:Nat->List (Row×Rat)->Prop,∀ i l,PR i l=(s.aboveL (f.ts.take i) []=some l):=⟨_,fun _ _=>rfl⟩;have hPRs:∀ i t more l,f.ts[i]?=some t->(if 0<z4 t.2 then some (s.atLeastM t.1) else s.atMostM t.1)=some more->PR i l->PR (i+1) (xT l more (vK t.2)):=fun i t more l h1 h2 h3=>by rw[hPR] at h3 ⊢;rw[zCB h1];exact zBE h2 h3
 have hPR0:PR 0 []:=by rw[hPR];rfl
 have hpre:∀ i l,PR i l->(∀ t,t∈l->Fits (2^28) t.2)/\l.length<=2^36:=fun i l h=>hok.pre i l (by rw[<-hPR];exact h);have hmost:=hok.most;rw[hAL] at ho;have hfl:f.ts.length<2^38:=by have:=hok.fl.len;omega
 obtain⟨V,hV⟩:∃ V,fA f=V:=⟨_,rfl⟩;have hVt:∀ (i:Nat) t,f.ts[i]?=some t->V.ts[i]?=some (t.1,zJ t.2):=fun i t h=>by rw[<-hV];show (tR f.ts)[i]?=_;simp[tR,bR,h]
 have hVl:V.ts.length=f.ts.length:=by rw[<-hV];exact vI _
 have hfv:fv f=av V:=by rw[<-hV]
 rw[hfv] at cfin ⊢;obtain⟨W,hW⟩:∃ W,zJ (((o.map fun l=>((f.sub (s.sum (mR l)).2).c,l)).map Prod.fst).getD 0)=W:=⟨_,rfl⟩;obtain⟨RL,hRL⟩:∃ W,mR (((o.map fun l=>((f.sub (s.sum (mR l)).2).c,l)).map Prod.snd).getD [])=W:=⟨_,rfl⟩;obtain⟨bb,hbb⟩:∃ W,(o.map fun l=>((f.sub (s.sum (mR l)).2).c,l)).isSome=W:=⟨_,rfl⟩;rw[hW,hRL,hbb];have gN:o=none->W=R0/\RL=[]/\bb=false:=fun h=>by rw[h] at hW hRL hbb;exact⟨hW.symm.trans u6,hRL.symm,hbb.symm⟩
 have gS:∀ l,o=some l->W=zJ (f.sub (s.sum (mR l)).2).c/\RL=mR l/\bb=true:=fun l h=>by rw[h] at hW hRL hbb;exact⟨hW.symm,hRL.symm,hbb.symm⟩
 clear hW hRL hbb hab hAL hPR hok hV hfv;obtain⟨w1,w2,w3⟩:=W;have gN':o=none->w1=false/\w2=[]/\w3=[]/\RL=[]/\bb=false:=fun h=>by obtain⟨h1,h2,h3⟩:=gN h;have h1':=R.mk.inj h1;exact⟨h1'.1,h1'.2.1,h1'.2.2,h2,h3⟩
 clear gN;cbv;refine z3 (σ:=Nat×List (Row×Rat)) (fun st=>⟨[(2,.ptr 2 0),(3,.ptr 3 0),(4,.ptr 4 0),(7,mlv (mR st.2)),(8,.int .i64 (fun _=>(st.1:Int)))],[(2,.box (sc s)),(3,.box [tsv V.ts,.bool (fun _=>V.c.neg),nat V.c.num,nat V.c.den]),(4,.box [.ff,.nil,.nil])]⟩)
  (fun st=>st.1<=f.ts.length/\AL (f.ts.drop st.1) st.2=o/\PR st.1 st.2) (fun st=>f.ts.length-st.1)
  (0,[]) ⟨xD _,ho,hPR0⟩ (wkZ) ?_
 intro st hst;obtain⟨i,acc⟩:=st;obtain⟨h1,h2,h4⟩:=hst;dsimp only at h1 h2 h4;clear ho hPR0;have h3:=hpre i acc h4;cbv;refine zG (fun h5=>?_) (fun h5=>?_)
 ·(rw[zA,hVl] at h5;have hlt:i<f.ts.length:=by (try dsimp only [zF] at *);omega);obtain⟨t,ht⟩:=zT hlt
  have hmem:=yA ht;have hx:=hVt i t ht;have cam':=cam t hmem;have cal':=cal t hmem;have csg':=csg t hmem;have hmo:=hmost t hmem;have cmg':=cmg t hmem;obtain⟨X,hX⟩:∃ X,zJ t.2=X:=⟨_,rfl⟩;simp only[hX] at cmg';rw[hX] at hx csg';clear cam cal csg cmg hmost hVt cfin gS;generalize hsg:z4 t.2=sg at *
  cbv;refine yX hx wM wI ?_;cbv;refine cA cam' ?_;cbv;refine cA csg' ?_;cbv;refine zG (fun e1=>?_) (fun e1=>?_)
  ·(have HM:(if 0<z4 t.2 then some (s.atLeastM t.1) else s.atMostM t.1)=some (s.atLeastM t.1):=by rw[hsg,if_pos e1]);have hls:=zPQ s t.1
   (have hPn:=hPRs i t _ acc ht HM h4;have hn':AL (f.ts.drop i) acc=AL (f.ts.drop (i+1)) (xT acc (s.atLeastM t.1) (vK t.2)):=by rw[zY ht,hTc,HM]);rw[hn'] at h2
   have cm:=cmg' acc _ h3.1 h3.2 hls.1 hls.2;clear HM hTc hPRs hn' hls;generalize s.atLeastM t.1=more at *
   generalize xT acc more (vK t.2)=acc' at *
   cbv;refine cA cal' ?_;cbv;refine cA cm ?_;cbv;exact⟨zD om om,(i+1,acc'),⟨om,h2,hPn⟩,om,wkZ⟩
  ·(have HM0:(if 0<z4 t.2 then some (s.atLeastM t.1) else s.atMostM t.1)=s.atMostM t.1:=by rw[hsg,if_neg e1]);cases hoo:s.atMostM t.1 with
   |none =>
    (have hz:o=none:=by rw[<-h2,zY ht,hTc,HM0,hoo]);obtain⟨q1,q2,q3,q4,q5⟩:=gN' hz
    subst q1 q2 q3 q4 q5;cbv;refine zP (fun e=>absurd e (by simp)) (fun _=>?_);cbv
    (refine rC ?_;cbv)
    exact okA
   |some more =>
    (have hls:=hmo more hoo;have hPn:=hPRs i t more acc ht (HM0.trans hoo) h4;have hn':AL (f.ts.drop i) acc=AL (f.ts.drop (i+1)) (xT acc more (vK t.2)):=by rw[zY ht,hTc,HM0,hoo]);rw[hn'] at h2
    (have cm:=cmg' acc more h3.1 h3.2 hls.1 hls.2;have hg:(s.atMostM t.1).getD []=more:=by rw[hoo];rfl);clear HM0 hTc hPRs hn' hls
    generalize xT acc more (vK t.2)=acc' at *
    cbv;refine zP (fun _=>?_) (fun e=>absurd e (by simp));cbv;refine yP rfl (by exact⟨lR,zR rfl,okA,trivial⟩) cm rfl ?_;cbv;exact⟨zD om om,(i+1,acc'),⟨om,h2,hPn⟩,om,wkZ⟩
 ·(have hi:i=f.ts.length:=by rw[zA,hVl] at h5;(try dsimp only [zF] at *);omega);rw[hi,w4,hTn] at h2
  obtain⟨c1,c2⟩:=cfin acc h2.symm;obtain⟨q1,q2,q3⟩:=gS acc h2.symm;subst q2 q3
  (try dsimp only [fv] at c1 c2)
  have e1:fA (f.sub (s.sum (mR acc)).2)=⟨tR (f.sub (s.sum (mR acc)).2).ts,zJ (f.sub (s.sum (mR acc)).2).c⟩:=rfl;rw[e1,<-q1] at c2;generalize tR (f.sub (s.sum (mR acc)).2).ts=TT at *
  generalize fA (s.sum (mR acc)).2=SS at *
  generalize (s.sum (mR acc)).1=code at *
  clear q1 e1 gS gN' cfin;cbv;refine cA c1 ?_;cbv;refine cA c2 ?_;cbv
  (refine rC ?_;cbv)
  exact okA
theorem Wt.take {s:Scp}:∀ {l:List (Row×Rat)} {N:Nat},Wt s l N->∀ i,∃ M,M<=N/\Wt s (l.take i) M
 |_,_,.nil,i=>⟨0,zZ _,by rw[List.take_nil];exact .nil⟩| _,_,.cons hk hg h,0=>⟨0,xD _,by rw[List.take_zero];exact .nil⟩| _,_,.cons (k:=k) (g:=g) (N:=N) hk hg h,i+1=>by obtain⟨M,h1,h2⟩:=h.take i;exact⟨k+g+5+M,by omega,by rw[zQM];exact .cons hk hg h2⟩
theorem Wt.fmem {s:Scp}:∀ {l:List (Row×Rat)} {N:Nat},Wt s l N->∀ t,t∈l->∀ f,s.fm t.1=some f->f.fl N 3000
 |_,_,.nil,t,ht=>absurd ht (by simp)| _,_,.cons hk hg h,t,ht=>by rcases yI.1 ht with rfl|ht;{exact fun f hf=>(hg f hf).mono oM (zZ _)};{exact fun f hf=>(h.fmem t ht f hf).mono oM (zZ _)}
theorem Wt.sumOk {s:Scp}{l:List (Row×Rat)}{N:Nat}(h:Wt s l N)(hN:N<2^26)(hf:∀ t,t∈l->∀ f,s.fm t.1=some f->f.fl (2^24) 3000)(hc:∀ t,t∈l->Fits (2^20) t.2)(hl:l.length<=100000):SumOk s (mR l) where
 fm m hm f hf':=by obtain⟨t,ht,rfl⟩:=y8.1 hm;exact (hf t ht f hf').mono (zZ _) (by decide)
 c:=⟨by rw[j1];omega,fun m hm=>by obtain⟨t,ht,rfl⟩:=y8.1 hm;exact (zU (hc t ht)).mono (by decide)⟩
 pre i acc ha:=by
  (obtain⟨M,h1,h2⟩:=h.take i;rw[zVU] at ha;have:=h2.sumL zero_fl ha;have hl2:(l.take i).length<=l.length:=by rw[j5];omega);exact this.mono oM oM
theorem Wt.sumOk' {s:Scp}{l:List (Row×Rat)}{N:Nat}(h:Wt s l N)(hN:N<=2^20)(hl:l.length<=100000):SumOk s (mR l) :=
 h.sumOk (xP hN (by decide)) (fun t ht f hf=>(h.fmem t ht f hf).mono (vD hN (by decide)) (zZ _)) (fun t ht=>(h.mem t ht).mono hN) hl
theorem zKZ {s:Scp}{x:FQry}(hq:s.q=x.q)(hx:x.small)(hL:LB KK s.lems){f:F}{j:Nat}(hj:j<=3)(hf:f.fl 46 7)(hw:f.wf ((x.g.n+j:Nat):Int)):AbvOk s f:=by
 have ok:=zXC hx.g.n1 hx.g.n2 hj;have kl:=zUE j;have hn:=hx.g.n2;have hv:∀ t,t∈f.ts->((0:Nat):Int)<=t.1/\t.1<((x.g.n+j:Nat):Int):=fun t ht=>by have:=hw.v t ht;omega
 have key:∀ i l,s.aboveL (f.ts.take i) []=some l->∃ M,M<=2^20/\Wt s l M/\l.length<=14:=fun i l h=>by
  (obtain⟨M,h1,h2⟩:=zAX hq hx zNI hL (hi:=x.g.n+j) (lo:=0) (hw.cn.take i) (fun t ht=>hv t (mZ ht)) (fun t ht=>hf.t t (mZ ht)) (xD _) .nil h;have h3:=i5 h;have h4:=hf.len;have h5:(f.ts.take i).length<=f.ts.length:=by rw[j5];omega);have h6:rD KK x.g.n 0=0:=rfl
  (simp only[sZ] at h3;refine⟨M,?_,h2,by omega⟩;have:(679650:Nat)<=2^20:=by decide);omega
 refine⟨hw.cn,hf.mono (by decide) (by decide),fun t ht=>?_,fun i l h=>?_,fun t ht more h=>?_,fun l h=>?_⟩;{have:=hv t ht;omega};{obtain⟨M,h1,h2,h3⟩:=key i l h;exact⟨fun t ht=>(h2.mem t ht).mono (vD h1 (by decide)),by omega⟩}
 ·(obtain⟨v,hv1⟩:∃ v:Nat,t.1=v:=⟨t.1.toNat,by have:=hv t ht;omega⟩;rw[hv1] at h;obtain⟨B,h1,h2⟩:=zOD hq hx zNI hL v h;have h3:=zJ2 h;refine⟨fun u hu=>(h2.mem u hu).mono ?_,by omega⟩;have hlt:v+1<=x.g.n+j:=by have:=hv t ht;omega);have h4:=zAU (K:=KK) (n:=x.g.n) hlt
  (have h5:rD KK x.g.n (v+1)=rD KK x.g.n v+cst KK x.g.n v:=rfl;have:(679650:Nat)<=2^20:=by decide);omega
 {have hfull:f.ts.take f.ts.length=f.ts:=v9;obtain⟨M,h1,h2,h3⟩:=key f.ts.length l (by rw[hfull];exact h);exact h2.sumOk' h1 oM}
theorem zJC {t:TypeId}{base x:Operand}{d:Option Nat}{ps ps':PS}{K:PS->Prop}(hw:Wk ps ps')(h:AppK t base x d ps' K):AppK t base x d ps K:=by rcases h.h with h|h;{obtain⟨p,a1,a2,a3,a4,a5,a6,a7,a8⟩:=h.h;exact⟨.inl ⟨p,a1,a2,a3,a4,a5,a6,.trans hw a7,a8⟩⟩};{obtain⟨p,a1,a2,a3,a4,a5,a6,a7,a8,a9,b1,b2,b3,b4,b5,b6⟩:=h.h;exact⟨.inr ⟨p,a1,a2,a3,a4,a5,a6,a7,a8,a9,b1,b2,b3,b4,.trans hw b5,b6⟩⟩}
theorem tP:ty 40=.sli 6 96 [.int .i64 (fun _=>0),.ff,.ff,.nil,.nil,.nil]:=by cbv
def xI (b:Bool) (j:Int) (up:Bool) (v:R) (l:List Mult):List Lem:=if b=true then [⟨j,up,v,l⟩] else []
theorem zO0 (j:Int)(x y:Option (Rat×List (Row×Rat))):bndL j x y=xI x.isSome j false (zJ ((x.map Prod.fst).getD 0)) (mR ((x.map Prod.snd).getD []))++xI y.isSome j true (zJ (-(zJ ((y.map Prod.fst).getD 0)).q)) (mR ((y.map Prod.snd).getD [])):=by unfold bndL xI;cases x <;> cases y <;> simp[z6]
theorem kV (L:List Lem)(m:Lem):enc lc (L++[m])=enc lc L++zS [lc m]:=by simp[enc,zS]
theorem zZA {q:Qry}{P:List Dec}(h:(⟨q,P,[]⟩:Scp).sz (2^20)){L:List Lem}{j:Nat}(hj:j<=4)(hL:Lok L j):(⟨q,P,L⟩:Scp).sz (2^20):=by refine⟨h.q,h.path,⟨by have:=hL.len;show L.length<2^38;omega,fun m hm=>?_,fun m hm=>(hL.pf m hm).1.mono (by decide)⟩⟩;obtain⟨q,hq⟩:=hL.v m hm;obtain⟨i,_,hf⟩:=hL.lb m hm;rw[hq,z6] at hf;rw[hq];exact zU (hf.mono (vD (zUE i) (by decide)))
structure BndF (q:Qry) (P:List Dec) (j:Nat) (L:List Lem) (p p2:A) (xv yv zv:R) (xl yl:List Mult) (xb yb:Bool):Prop where
 c1:zE 202 [sv ⟨q,P,L⟩,av p] (.tup [rv xv,mlv xl,.bool (fun _=>xb)])
 c2:zE 100 [av p,rv (zJ ((-1:Int):Rat))] (av p2)
 c3:zE 202 [sv ⟨q,P,L⟩,av p2] (.tup [rv yv,mlv yl,.bool (fun _=>yb)])
 c4:yb=true->zE 101 [rv yv] (rv zv)
 lok:Lok (L++(xI xb j false xv xl++xI yb j true zv yl)) (j+1)
 g:∀ r,bndG q P (p::r) j L=bndG q P r (j+1) (L++(xI xb j false xv xl++xI yb j true zv yl))
theorem zP7 {x:FQry}(hx:x.small)(hwf:∀ (i:Nat) (f:F),x.g.us[i]?=some f->f.wf ((x.g.n+i:Nat):Int)){P:List Dec}(hP:(⟨x.q,P,[]⟩:Scp).sz (2^20)){j:Nat}{p:A}(hp:x.q.g.us[j]?=some p){L:List Lem}(hL:Lok L j):∃ p2 xv yv zv xl yl xb yb,BndF x.q P j L p p2 xv yv zv xl yl xb yb:=by
 have hp':(x.g.us.map fA)[j]?=some p:=hp;rw[bR] at hp';cases hb:x.g.us[j]? with
 |none=>rw[hb] at hp';cases hp'
 |some b =>
  (rw[hb] at hp';have hpb:p=fA b:=by cases hp';rfl);have hlt:=(wH.1 hb).1
  (have hj:j<=3:=by have:=hx.g.us;omega);have hf:=hx.g.uf b (yA hb)
  (have hw:=hwf j b hb;have hs:=zZA hP (by omega:j<=4) hL;have n0:0<=x.q.g.n:=by show (0:Int)<=(x.g.n:Int);omega);have n1:x.q.g.n<=256:=by have:=hx.g.n2;show (x.g.n:Int)<=256;omega
  have a1:=zN1 ⟨x.q,P,L⟩ b hs n0 n1 (zKZ rfl hx hL.lb hj (hf.mono (by decide) (by decide)) hw);have a3:=zN1 ⟨x.q,P,L⟩ (b.scale (-1)) hs n0 n1 (zKZ rfl hx hL.lb hj ((hf.scale wZ).mono (by decide) (by decide)) hw.scale);have a2:=dX (q:=-1) hf wZ (by decide) (by decide) (by decide);obtain⟨l1,l2⟩:=zSA hx hwf (path:=P) hb hL;rw[zO0] at l1;refine⟨fA (b.scale (-1)),_,_,_,_,_,_,_,⟨by rw[hpb];exact a1,by rw[hpb];exact a2,a3,fun h=>?_,l1,fun r=>?_⟩⟩
  ·refine s143 _ ?_;cases hy:(⟨x.q,P,L⟩:Scp).above (b.scale (-1)) with
   |none=>rw[hy] at h;cases h
   |some v=>exact (zU (l2 v hy)).mono (by decide)
  {rw[hpb];show bndG x.q P r (j+1) (L++bndL j ((⟨x.q,P,L⟩:Scp).above (fA b).f) ((⟨x.q,P,L⟩:Scp).above ((fA b).f.scale (-1))))=_;rw[kY,zO0]}
theorem zVI (raw : List UInt8) : zE 168 [svN (fdS raw)] (sv (fdS raw).bounded) := by
  refine sF Tryz.f168 ?_
  have sm := r8 raw 0
  have hwf := zTH raw 0
  have hz : (fdS raw).sz (2^20) := by
    have g := zZJ raw
    exact ⟨g.q.mono (by decide), ⟨g.path.len, fun d hd => (g.path.sz d hd).mono (by decide)⟩, ⟨by show 0 < 2^38; decide, fun m hm => absurd hm (by simp [fdS]), fun m hm => absurd hm (by simp [fdS])⟩⟩
  have hbg : (fdS raw).bounded = ⟨(fdY raw 0).1.q, (fdS raw).path, bndG (fdY raw 0).1.q (fdS raw).path (fdY raw 0).1.q.g.us 0 []⟩ := rfl
  have hsd : fdS raw = ⟨(fdY raw 0).1.q, (fdS raw).path, []⟩ := rfl
  rw [hbg]
  generalize (fdS raw).path = path at *
  rw [hsd] at hz ⊢
  have hF := fun j p L hp hL => zP7 (j := j) (p := p) (L := L) sm hwf hz hp hL
  clear hbg hsd hwf hz
  have hul : (fdY raw 0).1.q.g.us.length ≤ 4 := by show (List.map fA _).length ≤ 4; rw [xA]; exact sm.g.us
  clear sm
  generalize (fdY raw 0).1.q = Q at *
  have cof := s32 (-1) (by decide) (by decide)
  obtain ⟨M1, hM1⟩ : ∃ X, zJ ((-1 : Int) : Rat) = X := ⟨_, rfl⟩
  have hF' : ∀ (j : Nat) (p : A) (L : List Lem), Q.g.us[j]? = some p → Lok L j → ∃ p2 xv yv zv xl yl xb yb, BndF Q path j L p p2 xv yv zv xl yl xb yb := hF
  clear hF
  obtain ⟨⟨n, us, os⟩, ⟨lo, hi', rows⟩, ⟨ts, c⟩⟩ := Q
  dsimp only at hF' hul
  rw [hM1] at cof
  obtain ⟨G, hG⟩ : ∃ G, bndG ⟨⟨n, us, os⟩, ⟨lo, hi', rows⟩, ⟨ts, c⟩⟩ path = G := ⟨_, rfl⟩
  rw [hG]
  have hGn : ∀ j L, G [] j L = L := fun j L => by rw [← hG]; rfl
  obtain ⟨L9, hL9⟩ : ∃ X, G us 0 [] = X := ⟨_, rfl⟩
  rw [hL9]
  cbv
  refine jS 10 (by cbv) (by cbv) ?_
  cbv
  refine z3 (σ := Nat × List Lem) (fun s => ⟨[(1, .ptr 1 0), (2, .ptr 2 0), (3, .ptr 3 0), (4, .int .i64 (fun _ => (s.1 : Int)))],
      [(1, .box [.int .i64 (fun _ => n), alv us, alv os, rlv lo, rlv hi', alv rows, tsv ts, .bool (fun _ => c.neg), nat c.num, nat c.den, dlv path, .nil]), (2, .box [.int .i64 (fun _ => 0), .nil, .nil, .nil, .nil, .nil, .nil, .ff, .nil, .nil, .nil, .nil]), (3, .box [.int .i64 (fun _ => n), alv us, alv os, rlv lo, rlv hi', alv rows, tsv ts, .bool (fun _ => c.neg), nat c.num, nat c.den, dlv path, .osl 61 6 (fun _ => 0) (fun _ => s.2.length)]), (61, .lent 6 (fun _ => enc lc s.2))]⟩)
    (fun s => s.1 ≤ us.length ∧ G (us.drop s.1) s.1 s.2 = L9 ∧ Lok s.2 s.1) (fun s => us.length - s.1)
    (0, []) ⟨xD _, hL9, ⟨fun m hm => absurd hm (by simp), by simp, fun m hm => absurd hm (by simp), fun m hm => absurd hm (by simp)⟩⟩
    (.trans (wkZ (ps' := ⟨[(1, .ptr 1 0), (2, .ptr 2 0), (3, .ptr 3 0), (4, .int .i64 (fun _ => ((0 : Nat) : Int)))], [(1, .box [.int .i64 (fun _ => n), alv us, alv os, rlv lo, rlv hi', alv rows, tsv ts, .bool (fun _ => c.neg), nat c.num, nat c.den, dlv path, .nil]), (2, .box [.int .i64 (fun _ => 0), .nil, .nil, .nil, .nil, .nil, .nil, .ff, .nil, .nil, .nil, .nil]), (3, .box [.int .i64 (fun _ => n), alv us, alv os, rlv lo, rlv hi', alv rows, tsv ts, .bool (fun _ => c.neg), nat c.num, nat c.den, dlv path, .emp])]⟩))
    (.trans (.adoptB (ps := ⟨[(1, .ptr 1 0), (2, .ptr 2 0), (3, .ptr 3 0), (4, .int .i64 (fun _ => ((0 : Nat) : Int)))], [(1, .box [.int .i64 (fun _ => n), alv us, alv os, rlv lo, rlv hi', alv rows, tsv ts, .bool (fun _ => c.neg), nat c.num, nat c.den, dlv path, .nil]), (2, .box [.int .i64 (fun _ => 0), .nil, .nil, .nil, .nil, .nil, .nil, .ff, .nil, .nil, .nil, .nil]), (3, .box [.int .i64 (fun _ => n), alv us, alv os, rlv lo, rlv hi', alv rows, tsv ts, .bool (fun _ => c.neg), nat c.num, nat c.den, dlv path, .emp])]⟩) (cs := [.int .i64 (fun _ => n), alv us, alv os, rlv lo, rlv hi', alv rows, tsv ts, .bool (fun _ => c.neg), nat c.num, nat c.den, dlv path, .emp]) 61 6 3 11 rfl rfl rfl)
    (.trans (.pub 61 rfl rfl) (.le okZ ?_ rfl)))) ?_
  · cbv
    exact ⟨okA, okA, okA, zI rfl, trivial⟩
  intro s hs
  obtain ⟨j, L⟩ := s
  obtain ⟨h1, h2, h3⟩ := hs
  dsimp only at h1 h2 h3
  clear hL9
  cbv
  refine zG (fun h => ?_) (fun h => ?_)
  · rw [zA] at h
    have hlt : j < us.length := by (try dsimp only [zF] at *); omega
    obtain ⟨p, hp⟩ := zT hlt
    obtain ⟨p2, xv, yv, zv, xl, yl, xb, yb, F⟩ := hF' j p L hp h3
    have g2 := F.g (us.drop (j + 1))
    rw [hG, ← zY hp, h2] at g2
    have c1 := F.c1
    have c2 := F.c2
    have c3 := F.c3
    have c4 := F.c4
    have lk := F.lok
    have lkL : L.length ≤ 8 := by have := h3.len; omega
    clear F hF' hG h2 h3 hGn
    rw [hM1] at c2
    have hT : ((enc lc L).drop 0).take L.length = enc lc L := by rw [wC, ← zA lc L, v9]
    have hfr : 0 + L.length ≤ (enc lc L).length := by rw [zA]; omega
    have hLn := lkL
    cbv
    refine yX hp gK bK ?_
    cbv
    refine s8 61 rfl (by cbv; repeat' first | exact trivial | exact ⟨hfr⟩ | apply And.intro) ?_
    cbv
    refine yP rfl (by exact ⟨⟨lR, lR, lR, lR, lR, lR, lR, lR, lR, lR, lR, zR hT, trivial⟩, okA, trivial⟩) c1 rfl ?_
    cbv
    refine vC 12 [(10, 9)] (by cbv) (by cbv) (by cbv) ?_
    cbv
    refine s8 61 rfl (by cbv; repeat' first | exact trivial | exact ⟨hfr⟩ | apply And.intro) ?_
    cbv
    refine dA cof ?_
    cbv
    refine dA c2 ?_
    cbv
    refine x9 (by exact ⟨⟨lR, lR, lR, lR, lR, lR, lR, lR, lR, lR, lR, zR hT, trivial⟩, okA, trivial⟩) c3 rfl ?_
    cbv
    refine nZ (σ := List Lem) (fun Lx => ⟨[(1, .ptr 1 0), (2, .ptr 2 0), (3, .ptr 3 0), (4, .int .i64 (fun _ => (j : Int))), (9, .ptr 9 0), (10, mlv yl), (11, .bool (fun _ => yb))],
        [(1, .box [.int .i64 (fun _ => n), alv us, alv os, rlv lo, rlv hi', alv rows, tsv ts, .bool (fun _ => c.neg), nat c.num, nat c.den, dlv path, .nil]), (2, .box [.int .i64 (fun _ => 0), .nil, .nil, .nil, .nil, .nil, .nil, .ff, .nil, .nil, .nil, .nil]), (3, .box [.int .i64 (fun _ => n), alv us, alv os, rlv lo, rlv hi', alv rows, tsv ts, .bool (fun _ => c.neg), nat c.num, nat c.den, dlv path, .osl 61 6 (fun _ => 0) (fun _ => Lx.length)]), (61, .log 6 (fun _ => enc lc Lx)), (9, .box [.bool (fun _ => yv.neg), nat yv.num, nat yv.den])]⟩)
      (fun Lx => Lx = L ++ xI xb j false xv xl) (fun e => ?_) (fun e => ?_) (fun Lx hLx => ?_)
    · cbv
      refine zQI ?_
      cbv
      refine zJC (.lend 61 4 rfl rfl trivial) ?_
      cbv
      refine mV tP rfl rfl rfl (by simp [zA]) rfl ⟨by simp [zS, wB]⟩ (yD (by simp [zS] <;> omega) (by simp [zS, zA]; (try dsimp only [zF] at *); omega)) rfl ?_
      cbv
      refine ⟨L ++ [⟨j, false, xv, xl⟩], by unfold xI; rw [if_pos e], .le okZ ?_ rfl⟩
      cbv
      refine ⟨okA, okA, ⟨lR, lR, lR, lR, lR, lR, lR, lR, lR, lR, lR, yC rfl (by simp [zS, zA]), trivial⟩, zI ?_, okA, trivial⟩
      rw [kV]
      rfl
    · cbv
      refine ⟨L, by unfold xI; rw [if_neg (by rw [e]; decide), uU], .le okZ ?_ rfl⟩
      cbv
      exact ⟨okA, okA, okA, zI rfl, okA, trivial⟩
    · have hxl : Lx.length ≤ 9 := by rw [hLx, qZ]; have : (xI xb j false xv xl).length ≤ 1 := by unfold xI; split <;> simp
                                     omega
      have g3 : L ++ (xI xb j false xv xl ++ xI yb j true zv yl) = Lx ++ xI yb j true zv yl := by rw [← zMI, ← hLx]
      rw [g3] at g2 lk
      clear g3 hLx c1 c2 c3 cof hT hfr
      cbv
      refine zP (fun e => ?_) (fun e => ?_)
      · have g3 : xI yb j true zv yl = [⟨j, true, zv, yl⟩] := by unfold xI; rw [if_pos e]
        rw [g3] at g2 lk
        have c4' := c4 e
        clear c4 g3
        cbv
        refine zN 8 (by cbv) ?_
        cbv
        refine dA c4' ?_
        cbv
        refine mV tP rfl rfl rfl (by simp [zA]) rfl ⟨by simp [zS, wB]⟩ (yD (by simp [zS] <;> omega) (by simp [zS, zA]; (try dsimp only [zF] at *); omega)) rfl ?_
        cbv
        refine ⟨zD om om, (j + 1, Lx ++ [⟨j, true, zv, yl⟩]), ⟨om, g2.symm, lk⟩, om, .trans (.pub 61 rfl rfl) (.le okZ ?_ rfl)⟩
        cbv
        refine ⟨okA, okA, ⟨lR, lR, lR, lR, lR, lR, lR, lR, lR, lR, lR, yC rfl (by simp [zS, zA]), trivial⟩, zI ?_, trivial⟩
        rw [kV]
        rfl
      · have g3 : xI yb j true zv yl = [] := by unfold xI; rw [if_neg (by rw [e]; decide)]
        rw [g3, uU] at g2 lk
        clear c4 g3
        cbv
        refine ⟨zD om om, (j + 1, Lx), ⟨om, g2.symm, lk⟩, om, .trans (.pub 61 rfl rfl) (.le okZ ?_ rfl)⟩
        cbv
        exact ⟨okA, okA, okA, zI rfl, trivial⟩
  · have hj : j = us.length := by rw [zA] at h; (try dsimp only [zF] at *); omega
    rw [hj, w4, hGn] at h2
    subst h2
    have hT : ((enc lc L).drop 0).take L.length = enc lc L := by rw [wC, ← zA lc L, v9]
    have hfr : 0 + L.length ≤ (enc lc L).length := by rw [zA]; omega
    clear hF' hG hGn h3
    cbv
    refine s8 61 rfl (by cbv; repeat' first | exact trivial | exact ⟨hfr⟩ | apply And.intro) ?_
    cbv
    (refine rC ?_; cbv)
    exact ⟨lR, lR, lR, lR, lR, lR, lR, lR, lR, lR, lR, zR hT, trivial⟩
end Go.Proofs.YtaeaffgjdcigoaaGreat
