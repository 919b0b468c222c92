/- A part of the proof: FmA, FmB, FmC, FmD. -/
import Derived.Test.YtfainocfaddbdaaGreatU36
import Derived.Test.YtfainocfaddbdaaGreatU35
import Derived.Test.YtfainocfaddbdaaGreatU37
set_option linter.all false
namespace Go.Proofs.YtfainocfaddbdaaGreat
open Go
set_option maxRecDepth 100000
set_option maxHeartbeats 4000000
theorem zWS (a b:Nat):zG 145 [.int .i64 (fun _=>(a:Int)),.int .i64 (fun _=>(b:Int))] (.int .i64 (fun _=>((Nat.gcd a b:Nat):Int))):=by
 refine sF Tryz.f145 ?_;generalize hg:Nat.gcd a b=g;cbv;refine zX (σ:=Nat×Nat) (fun s=>⟨[(0,.int .i64 (fun _=>(s.1:Int))),(1,.int .i64 (fun _=>(s.2:Int)))],[]⟩) (fun s=>Nat.gcd s.1 s.2=g) (fun s=>s.2) (a,b) hg (wkZ) ?_;intro s hs;obtain⟨x,y⟩:=s;dsimp only at hs;cbv;refine zD (fun h=>?_) (fun h=>?_)
 ·have hy:y=0:=om;subst hy;rw[zIY] at hs;subst hs;cbv
  (refine rC ?_;cbv)
  exact lR
 {have hy:y≠0:=om;have hr:irem (x:Int) (y:Int)=((x%y:Nat):Int):=jJ;have hm:x%y<y:=vR _ (cZ hy);cbv;refine zT 5 (by cbv) ?_;cbv;refine⟨uI om,?_⟩;cbv;refine⟨(y,x%y),?_,hm,.le (by cbv;repeat' first|exact trivial|exact lR|exact zE hr|apply zN) okZ rfl⟩;show Nat.gcd y (x%y)=g;rw[<-hs,s7 y,<-Nat.gcd_rec,s7]}
theorem zO2 {x:Nat}(h:x<2^64):jR x<=64:=by rw[zEB 64 x h];have:=zBO (fun i=>x.testBit i) (List.range 64);rwa [dC] at this
theorem zQH {x:Nat}(h:x≠0):jR x=x%2+jR (x/2):=by rw[jR,dif_neg h]
theorem zQG:jR 0=0:=by rw[jR];rfl
theorem yAF (x:Nat)(hx:x<2^64):zG 147 [.int .u64 (fun _=>(x:Int))] (.int .i64 (fun _=>((jR x:Nat):Int))):=by
 refine sF Tryz.f147 ?_;have hb:=zO2 hx;generalize hB:jR x=T at *
 cbv;refine zX (σ:=Nat×Nat) (fun s=>⟨[(0,.int .u64 (fun _=>(s.1:Int))),(3,.int .i64 (fun _=>(s.2:Int)))],[]⟩) (fun s=>s.2+jR s.1=T/\s.1<2^64) (fun s=>s.1) (x,0) ⟨by show 0+jR x=T;omega,hx⟩ (wkZ) ?_;intro s hs;obtain⟨y,n⟩:=s;obtain⟨h1,h2⟩:=hs;dsimp only at h1 h2;cbv;refine zD (fun h=>?_) (fun h=>?_)
 ·(have hy:y≠0:=om;have hs:=zQH hy;have hr:nx .i64 (irem (y:Int) 2)=((y%2:Nat):Int):=by rw[show irem (y:Int) 2=((y%2:Nat):Int) from jJ (b:=2)];exact sN oM oM);have hq:nx .u64 (iquo (y:Int) 2)=((y/2:Nat):Int):=by rw[show iquo (y:Int) 2=((y/2:Nat):Int) from jK (b:=2)];exact xW oM
  (have h1':n+y%2+jR (y/2)=T:=by omega);have h2':y/2<2^64/\y/2<y:=by omega
  (have h3':n+y%2<=64:=by omega);clear h1 hs
  cbv;refine⟨uI (by decide),?_⟩;cbv;refine⟨zC (by rw[hr];(try dsimp only [zI] at *);omega) (by rw[hr];(try dsimp only [zI] at *);omega),uI (by decide),?_⟩;cbv;refine⟨(y/2,n+y%2),⟨h1',h2'.1⟩,h2'.2,.le (by cbv;repeat' first|exact trivial|exact lR|exact zE hq|exact zE (by rw[hr];(try dsimp only [zI] at *);omega)|apply zN) okZ rfl⟩
 ·have hy:y=0:=om;subst hy;rw[zQG,gM] at h1;subst h1;cbv
  (refine rC ?_;cbv)
  exact lR
theorem zXC {v:Int}:∀ {ts:List (Int×Rat)} {i:Nat} {t:Int×Rat},Cn ts->ts[i]?=some t->t.1=v->co ts v=t.2
 |[],i,t,_,h,_=>by simp at h| u::r,0,t,hc,h,hv=>by obtain rfl:=vC (show some u=some t by simpa using h);rw[<-hv];exact jQ hc
 |u::r,i+1,t,hc,h,hv=>by
  (have h':r[i]?=some t:=by simpa using h);have hlt:=hc.lt t (zZ h')
  show (if u.1=v then u.2 else 0)+co r v=t.2;rw[if_neg oM,zXC hc.tail h' hv];grind
theorem zZ4 (f:F)(v:Int)(hc:Cn f.ts)(hl:f.ts.length<2^40):zG 143 [av (fA f),.int .i64 (fun _=>v)] (rv (zJ (co f.ts v))):=by
 refine sF Tryz.f143 ?_;obtain⟨W,hW⟩:∃ W,zJ (co f.ts v)=W:=⟨_,rfl⟩;obtain⟨ts,c⟩:=f;dsimp only at hc hl hW;have h1:∀ (i:Nat) (t:Int×Rat),ts[i]?=some t->t.1=v->zJ t.2=W:=fun i t hi hv=>by rw[<-hW,zXC hc hi hv]
 have h2:(∀ t,t∈ts->t.1≠v)->W=⟨false,[],[]⟩:=fun h=>by rw[<-hW,oL h];exact mV
 have hgi:∀ (i:Nat) t,ts[i]?=some t->(tR ts)[i]?=some (t.1,zJ t.2):=fun i t ht=>by unfold tR;rw[vU,ht];rfl
 have hln:(tR ts).length=ts.length:=uZ ts;show wp _ ⟨tJ 0 [.agg [tsv (tR ts),.bool (fun _=>(zJ c).neg),nat (zJ c).num,nat (zJ c).den],.int .i64 (fun _=>v)],_⟩ _;show wp _ _ (pF _ (.agg [.bool (fun _=>(zJ (co ts v)).neg),nat (zJ (co ts v)).num,nat (zJ (co ts v)).den]) [] []);rw[hW];obtain⟨TS,hTS⟩:∃ TS,tR ts=TS:=⟨_,rfl⟩;obtain⟨Z,hZ⟩:∃ Z,zJ c=Z:=⟨_,rfl⟩;rw[hTS] at hgi hln;rw[hTS,hZ];clear hTS hZ hW;cbv;refine zX (σ:=Nat) (fun i=>⟨[(1,.int .i64 (fun _=>v)),(2,.ptr 2 0),(4,.ptr 4 0),(5,.int .i64 (fun _=>(i:Int)))],[(2,.box [tsv TS,.bool (fun _=>Z.neg),nat Z.num,nat Z.den]),(4,.box [.ff,.nil,.nil])]⟩)
  (fun i=>i<=ts.length/\∀ j t,j<i->ts[j]?=some t->t.1≠v) (fun i=>ts.length-i) 0 ⟨wH _,fun j t h=>absurd h oM⟩ (wkZ) ?_
 intro i hi;obtain⟨g1,g2⟩:=hi;cbv;refine zD (fun h5=>?_) (fun h5=>?_)
 ·(have hlt:i<ts.length:=by have:=j8 h5;omega);obtain⟨t,ht⟩:=zO hlt
  have hg:=hgi i t ht;have k1:=h1 i t ht;obtain⟨q,hq⟩:∃ q,zJ t.2=q:=⟨_,rfl⟩;rw[hq] at hg k1;obtain⟨y,c0⟩:=t;dsimp only at hg k1;cbv;refine xC hg kG jE ?_;cbv;refine zD (fun h6=>?_) (fun h6=>?_)
  ·have:=k1 h6;subst this;cbv;refine xC hg kG jE ?_;cbv
   (refine rC ?_;cbv)
   exact okA
  {cbv;refine⟨zC om om,i+1,⟨om,fun j t hj hjt=>?_⟩,om,wkZ⟩;by_cases e:j=i;{subst e;rw[ht] at hjt;obtain rfl:=vC hjt;exact h6};{exact g2 j t oM hjt}}
 ·(have hi:i=ts.length:=by have:=cV h5;omega);have hW:=h2 fun t ht=>by obtain⟨j,hj⟩:=mL.1 ht;exact g2 j t (by have:=yO hj;omega) hj
  subst hW;cbv
  (refine rC ?_;cbv)
  exact okA
def smI (n:Nat):Nat:=n%B
theorem zSY {n:Nat}(h:n<=1073741824):smI n=n:=wO (by unfold B;omega)
theorem zS8 (n:Nat)(hn:(zF n).length<2^40):zG 144 [nat (zF n)] (.tup [.int .i64 (fun _=>((smI n:Nat):Int)),.bool (fun _=>decide (n<=1073741824))]):=by
 refine sF Tryz.f144 ?_;have h0:(zF n).length=0↔n=0:=⟨fun h=>xX.1 (jS h),fun h=>by rw[h,limbs_zero];rfl⟩;have h1:n≠0->(zF n).getD 0 0=UInt32.ofNat (n%B):=fun h=>by rw[dX h];rfl
 have h2:(zF n).length=1->n<B:=fun h=>by have:=xZ (zF n);rw[zM,h,zFI] at this;exact this
 have h3:n≠0->n<B->(zF n).length=1:=fun h g=>by have:(zF n).length<=1:=z7 (by rw[zFI];exact g);have:=mt h0.1 h;omega
 have hB:B=4294967296:=rfl;obtain⟨l,hl⟩:∃ l,zF n=l:=⟨_,rfl⟩;rw[hl] at h0 h1 h2 h3 hn;rw[hl];obtain⟨S,hS⟩:∃ S,smI n=S:=⟨_,rfl⟩;obtain⟨T,hT⟩:∃ T,decide (n<=1073741824)=T:=⟨_,rfl⟩;rw[hS,hT];clear hl;cbv;refine zD (fun h=>?_) (fun h=>?_)
 ·(have hn0:n=0:=h0.1 okQ;subst hn0;have e1:S=0:=by rw[<-hS];rfl);have e2:T=true:=by rw[<-hT];rfl
  subst e1 e2;cbv
  (refine rC ?_;cbv)
  exact okA
 ·(have hpos:0<l.length:=okQ;have hn0:n≠0:=fun e=>by have:=h0.2 e;omega);have hd:=h1 hn0
  (have hx:(l.getD 0 0).toNat=n%B:=by rw[hd];exact dW n);have hv:nx .i64 ((l.getD 0 0).toNat:Int)=(S:Int):=by
   rw[hx,<-hS];have:=vR n wI;show nx .i64 ((n%B:Nat):Int)=((n%B:Nat):Int);generalize n%B=m at *
   exact sN oM oM
  cbv;refine zT 14 (by cbv) ?_;cbv;refine xO 0 rfl hpos ?_;cbv;refine yD (fun h5=>?_) (fun h5=>?_)
  ·have hl1:l.length=1:=okQ;have hlt:=h2 hl1;cbv;refine xO 0 rfl hpos ?_;cbv
   (refine rC ?_;cbv)
   refine⟨zE hv,yX ?_,trivial⟩;rw[<-hT,hx,wO hlt];exact decide_eq_decide.2 om
  ·have hl1:¬l.length=1:=okQ;have hge:¬n<B:=fun g=>hl1 (h3 hn0 g);cbv
   (refine rC ?_;cbv)
   refine⟨zE hv,z5 ?_,trivial⟩;rw[<-hT];exact decide_eq_false oM
def cz (z:Int):List PV:=[.int .i64 (fun _=>z)]
abbrev zlv (l:List Int):PV:=.sl (fun _=>enc cz l)
theorem aQ (z:Int):(cz z).length=1:=rfl
theorem fZ (z:Int):yV jN (cz z)=true:=rfl
theorem oB {l:List Int}{i i':Nat}{x:Int}{K:List PV->Prop}(h:l[i]?=some x)(hi:i'=i)(hK:K [.int .i64 (fun _=>x)]):ElOk 1 (fun _=>enc cz l) (fun _=>i') K :=
 ⟨⟨cz x,rfl,rfl,by show (enc cz l)[i']?=_;rw[hi];unfold enc;rw[vU,h];rfl,hK⟩⟩
theorem zME {l:List Int}{i:Nat}{x y:Int}(h:x=y):(enc cz l).set i [D.int .i64 x]=enc cz (l.set i y):=by rw[h];exact zC0 cz l i y
theorem zR2 {x:Int}:imax x (0-x)=((x.natAbs:Nat):Int):=by unfold imax;split <;> omega
theorem zRC {α:Type}{p r:List α}{x y:α}:(p++x::r).set p.length y=p++y::r:=by rw[zFH _ _ (zV _),dM];rfl
theorem zJ5 {α:Type}{p r:List α}{x:α}:(p++x::r)[p.length]?=some x:=by rw[uN (zV _),dM];rfl
theorem zWR (c:List Int)(hc:∀ x,x∈c->x.natAbs<9223372036854775807)(hl:c.length<2^40):Sound 146 [.osl 1000000 1 (fun _=>0) (fun _=>c.length)] [(1000000,.arr 1 (fun _=>enc cz c))] [] (.bool (fun _=>(dI c).2)) [(1000000,.arr 1 (fun _=>enc cz (dI c).1))] []:=by
 refine sF Tryz.f146 ?_;obtain⟨⟨R1,R2⟩,hR⟩:∃ R,dI c=R:=⟨_,rfl⟩;rw[hR];obtain⟨G,hG⟩:∃ G,gcdL 0 c=G:=⟨_,rfl⟩;have hR':gE G c=(R1,R2):=by rw[<-hG];exact hR
 clear hR;dsimp only;obtain⟨n,hn⟩:∃ n,c.length=n:=⟨_,rfl⟩;rw[hn] at hl;rw[hn];cbv;refine zX (σ:=Nat×Nat) (fun s=>⟨[(0,.osl 1000000 1 (fun _=>0) (fun _=>n)),(3,.int .i64 (fun _=>(s.2:Int))),(4,.int .i64 (fun _=>(s.1:Int)))],[(1000000,.arr 1 (fun _=>enc cz c))]⟩) (fun s=>s.1<=n/\gcdL s.2 (c.drop s.1)=G) (fun s=>n-s.1) (0,0) ⟨wH _,by rw[<-hG];rfl⟩ (wkZ) ?_;intro s hs;obtain⟨i,d⟩:=s;obtain⟨h1,h2⟩:=hs;dsimp only at h1 h2;cbv;refine zD (fun h=>?_) (fun h=>?_)
 ·(have hi:i<n:=om;obtain⟨x,hx⟩:=zO (show i<c.length by omega);have hxx:=hc x (zZ hx);have h2':gcdL (Nat.gcd x.natAbs d) (c.drop (i+1))=G:=by rw[wK hx] at h2;exact h2);have cg:=zWS x.natAbs d;have hma:=zR2 (x:=x);generalize Nat.gcd x.natAbs d=d' at *
  cbv;refine zT 11 (by cbv) ?_;cbv;refine⟨zQ om om,oB hx om ?_⟩;cbv;refine⟨zQ om om,oB hx om ?_⟩;cbv;refine⟨zC om om,wL rfl (by exact⟨zE hma,lR,trivial⟩) cg rfl ?_⟩;cbv;exact⟨zC om om,(i+1,d'),⟨om,h2'⟩,om,wkZ⟩
 ·(have hi:i=n:=om;have hd:d=G:=by rw[hi,<-hn,vG] at h2;exact h2);subst hd
  clear h1 h2;cbv;refine zX (σ:=Nat×List Int) (fun s=>⟨[(0,.osl 1000000 1 (fun _=>0) (fun _=>n)),(3,.int .i64 (fun _=>(d:Int))),(5,.int .i64 (fun _=>(s.1:Int)))],[(1000000,.arr 1 (fun _=>enc cz s.2))]⟩)
   (fun s=>s.1<=n/\∃ p,p.length=s.1/\s.2=p++c.drop s.1/\R1=p++(gE d (c.drop s.1)).1/\R2=(gE d (c.drop s.1)).2) (fun s=>n-s.1) (0,c) ⟨wH _,[],rfl,rfl,by show R1=(gE d c).1;rw[hR'],by show R2=(gE d c).2;rw[hR']⟩ (wkZ) ?_
  intro s hs;obtain⟨i,m⟩:=s;obtain⟨h1,p,h2,h3,h4,h5⟩:=hs;dsimp only at h1 h2 h3 h4 h5;cbv;refine zD (fun h=>?_) (fun h=>?_)
  ·(have hi:i<n:=om;obtain⟨x,hx⟩:=zO (show i<c.length by omega);have hxx:=hc x (zZ hx);rw[wK hx] at h3 h4 h5;have hm:m[i]?=some x:=by rw[h3,<-h2];exact zJ5);obtain⟨y,hy⟩:∃ y,(if 1<d then x.tdiv d else x)=y:=⟨_,rfl⟩
   (rw[gE,hy] at h4 h5;obtain⟨m',hm'⟩:∃ m',m.set i y=m':=⟨_,rfl⟩;have hm2:m'=p++y::c.drop (i+1):=by rw[<-hm',h3,<-h2];exact zRC);have hmy:m'[i]?=some y:=by rw[hm2,<-h2];exact zJ5
   (have hdv:(x.tdiv d).natAbs<=x.natAbs:=by rw[Int.natAbs_tdiv];exact aW _ _);have hya:y.natAbs<=x.natAbs:=by rw[<-hy];split <;> omega
   cbv;refine gI (σ:=Unit) (fun _=>⟨[(0,.osl 1000000 1 (fun _=>0) (fun _=>n)),(3,.int .i64 (fun _=>(d:Int))),(5,.int .i64 (fun _=>(i:Int)))],[(1000000,.arr 1 (fun _=>enc cz m'))]⟩) (fun _=>True) (fun h=>?_) (fun h=>?_) (fun _ _=>?_)
   ·(have hd1:1<d:=om;rw[if_pos hd1] at hy;have hq:nx .i64 (iquo x (d:Int))=y:=by unfold iquo;rw[hy];exact sN oM oM);cbv
    refine⟨zQ om om,oB hm om ?_⟩;cbv;refine⟨uI om,zQ om om,oB hm om ?_⟩;cbv;refine⟨(),trivial,.le okZ (by cbv;exact⟨zB (by show (enc cz m).set (0+i) _=enc cz m';rw[xA,<-hm'];exact zME hq),trivial⟩) rfl⟩
   ·(have hd1:¬1<d:=om;rw[if_neg hd1] at hy;have hmm:m=m':=by rw[<-hm',<-hy];exact (cF hm).symm);subst hmm
    cbv;exact⟨(),trivial,wkZ⟩
   {cbv;refine⟨zQ om om,oB hmy om ?_⟩;cbv;refine yD (fun e1=>?_) (fun e1=>?_);{have hbig:¬y.natAbs<=1073741824:=om;rw[if_neg hbig] at h4 h5;dsimp only at h4 h5;rw[<-hm2] at h4;subst h4 h5;cbv;refine jF (.refl _) rfl okR (by rfl) okR ?_;exact z5 rfl};{cbv;refine⟨zQ om om,oB hmy om ?_⟩;cbv;refine zD (fun e2=>?_) (fun e2=>?_);{have hbig:¬y.natAbs<=1073741824:=om;rw[if_neg hbig] at h4 h5;dsimp only at h4 h5;rw[<-hm2] at h4;subst h4 h5;cbv;refine jF (.refl _) rfl okR (by rfl) okR ?_;exact z5 rfl};{have hsm:y.natAbs<=1073741824:=om;rw[if_pos hsm] at h4 h5;dsimp only at h4 h5;have hg:∃ p,p.length=i+1/\m'=p++c.drop (i+1)/\R1=p++(gE d (c.drop (i+1))).1/\R2=(gE d (c.drop (i+1))).2:=⟨p++[y],by simp[h2],by rw[hm2];simp,by rw[h4];simp,h5⟩;clear h4 h5 h3 hm2;cbv;exact⟨zC om om,(i+1,m'),⟨om,hg⟩,om,wkZ⟩}}}
  ·(have hi:i=n:=om;rw[hi,<-hn,vG] at h3 h4 h5;have e1:m=p:=by rw[h3];simp);have e2:R1=m:=by rw[h4,e1];simp[gE]
   (have e3:R2=true:=by rw[h5];rfl);subst e2 e3
   cbv;refine jF (.refl _) rfl okR (by rfl) okR ?_;exact xQ rfl
def dnN (q:Rat):Nat:=if q.den=1 then 0 else q.den
theorem zVK (q:Rat):(zJ q).den=zF (dnN q):=by unfold zJ dnN;split;{exact limbs_zero.symm};{rfl}
theorem zV7 {q:Rat}:(if dnN q<1 then 1 else dnN q)=q.den:=by have:=q.den_pos;unfold dnN;split;{rename_i h;rw[if_pos oM];omega};{rename_i h;rw[if_neg oM]}
theorem zZC {q:Rat}:dnN q<=1073741824↔q.den<=1073741824:=by unfold dnN;split;{rename_i h;rw[h];omega};{rfl}
theorem zTH {α β:Type}{QS:List α}{g:α->β}{z:β}{n i:Nat}{q:α}(hq:QS[i]?=some q)(hi:i<=n):((QS.take i).map g++List.replicate (n+1-i) z).set i (g q)=(QS.take (i+1)).map g++List.replicate (n+1-(i+1)) z:=by
 have hil:=yO hq;have h1:((QS.take i).map g).length=i:=by rw[y8,y4];omega
 rw[zFH _ _ oM,h1,dM,rA,hq];have h2:n+1-i=(n+1-(i+1))+1:=by omega
 rw[h2,zIT];simp
theorem zVQ {α β:Type}{QS:List α}{g h:α->β}{i:Nat}{q:α}(hq:QS[i]?=some q):((QS.take i).map g++(QS.drop i).map h).set i (g q)=(QS.take (i+1)).map g++(QS.drop (i+1)).map h:=by
 have hil:=yO hq;have h1:((QS.take i).map g).length=i:=by rw[y8,y4];omega
 rw[zFH _ _ oM,h1,dM,rA,hq,wK hq];simp
theorem yAE (f:F)(n:Nat)(hc:Cn f.ts)(hl:f.ts.length<2^40)(hn:n<2^20)(hf:∀ q,q∈cfs f n->Fits (2^32) q):zG 104 [av (fA f),.int .i64 (fun _=>(n:Int))] (.tup [zlv (sW f n).1,.bool (fun _=>(sW f n).2)]):=by
 have cco:∀ i:Nat,i<n->zG 143 [av (fA f),.int .i64 (fun _=>(i:Int))] (rv (zJ ((cfs f n).getD i 0))):=fun i hi=>by rw[cY hi];exact zZ4 f i hc hl
 have cc:(cfs f n).getD n 0=f.c:=cN;have cs1:∀ (i:Nat) q,(cfs f n)[i]?=some q->zG 144 [nat (zJ q).num] (.tup [.int .i64 (fun _=>((smI q.num.natAbs:Nat):Int)),.bool (fun _=>decide (q.num.natAbs<=1073741824))]):=fun i q hq=>by have h1:=(hf q (zZ hq)).lnum;have h2:(zJ q).num=zF q.num.natAbs:=rfl;rw[h2] at h1;exact zS8 _ oM
 have cs2:∀ (i:Nat) q,(cfs f n)[i]?=some q->zG 144 [nat (zJ q).den] (.tup [.int .i64 (fun _=>((smI (dnN q):Nat):Int)),.bool (fun _=>decide (dnN q<=1073741824))]):=fun i q hq=>by have h1:=(hf q (zZ hq)).lden;rw[zVK] at h1 ⊢;exact zS8 _ oM
 have cng:∀ q:Rat,(zJ q).neg=decide (q.num<0):=fun q=>rfl;obtain⟨QS,hQS⟩:∃ QS,cfs f n=QS:=⟨_,rfl⟩;have hql:QS.length=n+1:=by rw[<-hQS];exact zHY
 have hD:sW f n=(if QS.all smQ=true then (match mD (QS.map Rat.den) 1 with
  |none=>([],false)| some a=>dI (QS.map fun q=>q.num*((a/q.den:Nat):Int))) else ([],false)):=by unfold sW;rw[hQS];rfl
 rw[hQS] at cc cs1 cs2 cco;obtain⟨⟨R1,R2⟩,hR⟩:∃ R,sW f n=R:=⟨_,rfl⟩;rw[hR] at hD;rw[hR];dsimp only;clear hR hf hQS;obtain⟨A0,hA0⟩:∃ a,fA f=a:=⟨_,rfl⟩;have hAc:A0.c=zJ (QS.getD n 0):=by rw[<-hA0,cc];rfl
 rw[hA0] at cco;rw[hA0];clear hA0 cc hc hl;obtain⟨ats,ac0⟩:=A0;dsimp only at hAc;refine sF Tryz.f104 ?_;cbv;refine⟨zC om om,?_⟩;obtain⟨NL,hNL⟩:∃ NL:Nat->List Int,∀ i,NL i=(QS.take i).map Rat.num++List.replicate (n+1-i) 0:=⟨_,fun _=>rfl⟩;obtain⟨DL,hDL⟩:∃ DL:Nat->List Int,∀ i,DL i=(QS.take i).map (fun q=>(q.den:Int))++List.replicate (n+1-i) 0:=⟨_,fun _=>rfl⟩;have hN0:List.replicate ((n:Int)+1).toNat (x6 [PV.int .i64 (fun _=>0)])=enc cz (NL 0):=by rw[hNL,show ((n:Int)+1).toNat=n+1 by omega];show _=enc cz ([]++List.replicate (n+1) 0);unfold enc;rw[aU,zFA];rfl
 have hD0:List.replicate ((n:Int)+1).toNat (x6 [PV.int .i64 (fun _=>0)])=enc cz (DL 0):=by rw[hDL,show ((n:Int)+1).toNat=n+1 by omega];show _=enc cz ([]++List.replicate (n+1) 0);unfold enc;rw[aU,zFA];rfl
 have hNs:∀ (i:Nat) q,QS[i]?=some q->(NL i).set i q.num=NL (i+1):=fun i q hq=>by rw[hNL,hNL];exact zTH hq (by have:=yO hq;omega)
 have hDs:∀ (i:Nat) q,QS[i]?=some q->(DL i).set i (q.den:Int)=DL (i+1):=fun i q hq=>by rw[hDL,hDL];exact zTH (g:=fun q:Rat=>(q.den:Int)) hq (by have:=yO hq;omega)
 have hNl:∀ i,i<=n+1->(NL i).length=n+1:=fun i hi=>by rw[hNL,wP,y8,y4,lI];omega
 have hDl:∀ i,i<=n+1->(DL i).length=n+1:=fun i hi=>by rw[hDL,wP,y8,y4,lI];omega
 have hNe:NL (n+1)=QS.map Rat.num:=by rw[hNL,dM,yN oM];simp
 have hDe:DL (n+1)=QS.map (fun q=>(q.den:Int)):=by rw[hDL,dM,yN oM];simp
 clear hNL hDL;cbv;refine⟨yB om om,vF om om,zC om om,yB om om,vF om om,?_⟩;refine zX (σ:=Nat) (fun i=>⟨[(1,.int .i64 (fun _=>(n:Int))),(2,.ptr 2 0),(6,.osl 19 1 (fun _=>0) (fun _=>n+1)),(7,.osl 22 1 (fun _=>0) (fun _=>n+1)),(8,.int .i64 (fun _=>(i:Int)))],[(2,.box [tsv ats,.bool (fun _=>ac0.neg),nat ac0.num,nat ac0.den]),(19,.arr 1 (fun _=>enc cz (NL i))),(22,.arr 1 (fun _=>enc cz (DL i)))]⟩)
  (fun i=>i<=n+1/\∀ q,q∈QS.take i->smQ q=true) (fun i=>n+1-i) 0 ⟨wH _,fun q hq=>absurd hq (by simp)⟩ (.le (by cbv;repeat' first|exact trivial|exact lR|exact zU rfl om|apply zN) (by cbv;exact⟨okA,zB hN0,zB hD0,trivial⟩) rfl) ?_
 intro i hi;obtain⟨g1,g2⟩:=hi;cbv;refine zD (fun h=>?_) (fun h=>?_)
 ·(have hin:i<=n:=om;obtain⟨q,hq⟩:=zO (show i<QS.length by omega);have hqg:QS.getD i 0=q:=getD_some hq;have k1:=cs1 i q hq;have k2:=cs2 i q hq;have kn:=cng q;have kc:i<n->zG 143 [av ⟨ats,ac0⟩,.int .i64 (fun _=>(i:Int))] (rv (zJ q)):=fun h=>by have:=cco i h;rw[hqg] at this;exact this);have kl:¬i<n->ac0=zJ q:=fun h=>by rw[hAc,<-hqg,show i=n by omega]
  (have hsm:smQ q=(decide (q.num.natAbs<=1073741824)&&decide (dnN q<=1073741824)):=by unfold smQ;rw[aZ,y9,decide_eq_true_iff,decide_eq_true_iff,decide_eq_true_iff,zZC]);have hs1:q.num.natAbs<=1073741824->smI q.num.natAbs=q.num.natAbs:=zSY;have hs2:dnN q<=1073741824->smI (dnN q)=dnN q:=zSY;have hdm:=zV7 (q:=q);have hds:=hDs i q hq;have hns:=hNs i q hq;have hnl:=hNl i oM;have hdl:=hDl i oM;obtain⟨x1,hx1⟩:=zO (show i<(NL i).length by omega);obtain⟨x2,hx2⟩:=zO (show i<(DL i).length by omega);obtain⟨N0,hN0'⟩:∃ N,NL i=N:=⟨_,rfl⟩;obtain⟨D0,hD0'⟩:∃ N,DL i=N:=⟨_,rfl⟩;obtain⟨N1,hN1'⟩:∃ N,NL (i+1)=N:=⟨_,rfl⟩;obtain⟨D1,hD1'⟩:∃ N,DL (i+1)=N:=⟨_,rfl⟩;rw[hN0'] at hns hnl hx1;rw[hD0'] at hds hdl hx2;rw[hN1'] at hns;rw[hD1'] at hds;obtain⟨Q,hQ⟩:∃ Q,zJ q=Q:=⟨_,rfl⟩;rw[hQ] at k1 k2 kn kc kl;obtain⟨S1,hS1⟩:∃ S,smI q.num.natAbs=S:=⟨_,rfl⟩;obtain⟨S2,hS2⟩:∃ S,smI (dnN q)=S:=⟨_,rfl⟩;obtain⟨b1,hb1⟩:∃ S,decide (q.num.natAbs<=1073741824)=S:=⟨_,rfl⟩;obtain⟨b2,hb2⟩:∃ S,decide (dnN q<=1073741824)=S:=⟨_,rfl⟩;rw[hS1,hb1] at k1;rw[hS2,hb2] at k2;rw[hS1] at hs1;rw[hS2] at hs2;rw[hb1,hb2] at hsm;have hg2:b1=true->b2=true->∀ u,u∈QS.take (i+1)->smQ u=true:=fun e1 e2 u hu=>by
   rw[rA,hq] at hu;rcases wQ.1 hu with hu|hu;{exact g2 u hu}
   ·(have:u=q:=by simpa using hu);rw[this,hsm,e1,e2];rfl
  have hbad:¬(b1=true/\b2=true)->R1=[]/\R2=false:=fun e=>by
   (have:¬QS.all smQ=true:=fun ha=>by have:=(f8.1 ha) q (zZ hq);rw[hsm,y9] at this;exact e this);rw[if_neg this] at hD;exact⟨congrArg Prod.fst hD,congrArg Prod.snd hD⟩
  (have hv1:b1=true->∀ z:Int,(Q.neg=true->z=0-(S1:Int))->(Q.neg=false->z=(S1:Int))->z=q.num:=fun e z z1 z2=>by rw[<-hb1] at e;have e':=hs1 (of_decide_eq_true e);rw[kn] at z1 z2;by_cases hneg:q.num<0;{rw[z1 (decide_eq_true hneg),e'];omega};{rw[z2 (decide_eq_false hneg),e'];omega});have hsb:b1=true->S1<=1073741824:=fun e=>by rw[<-hb1] at e;have:=of_decide_eq_true e;rw[hs1 this];exact this
  (have hv2:b2=true->imax (S2:Int) 1=(q.den:Int):=fun e=>by rw[<-hb2] at e;rw[hs2 (of_decide_eq_true e),<-hdm];unfold imax;split <;> split <;> omega);rw[hN0',hD0'];clear hb1 hb2 hs1 hs2 hS1 hS2 hdm hsm kn hQ g2 hD cs1 cs2 cco hN0 hD0;cbv;refine gI (σ:=Unit) (fun _=>⟨[(1,.int .i64 (fun _=>(n:Int))),(2,.ptr 2 0),(6,.osl 19 1 (fun _=>0) (fun _=>n+1)),(7,.osl 22 1 (fun _=>0) (fun _=>n+1)),(8,.int .i64 (fun _=>(i:Int))),(9,.ptr 9 0)],
   [(2,.box [tsv ats,.bool (fun _=>ac0.neg),nat ac0.num,nat ac0.den]),(19,.arr 1 (fun _=>enc cz N0)),(22,.arr 1 (fun _=>enc cz D0)),(9,.box [.bool (fun _=>Q.neg),nat Q.num,nat Q.den])]⟩) (fun _=>True) (fun h=>?_) (fun h=>?_) (fun _ _=>?_)
  {have kc:=kc om;cbv;refine cA kc ?_;cbv;exact⟨(),trivial,wkZ⟩};{have kl:=kl om;subst kl;cbv;exact⟨(),trivial,wkZ⟩};clear kc kl;cbv;refine cA k1 ?_;cbv;refine cA k2 ?_;cbv;refine xK (fun e1=>?_) (fun e1=>?_)
  rotate_left
  ·obtain⟨r1,r2⟩:=hbad (fun e=>by rw[e1] at e;cases e.1);subst r1 r2;cbv
   (refine rC ?_;cbv)
   exact okA
  cbv;refine z6 (fun e2=>?_) (fun e2=>?_)
  rotate_left
  ·obtain⟨r1,r2⟩:=hbad (fun e=>by rw[e2] at e;cases e.2);subst r1 r2;cbv
   (refine rC ?_;cbv)
   exact okA
  have hg2:=hg2 e1 e2;have hv1:=hv1 e1;have hv2:=hv2 e2;have hsb:=hsb e1;clear hbad k1 k2;cbv;refine zQB (σ:=Unit) (fun _=>⟨[(1,.int .i64 (fun _=>(n:Int))),(2,.ptr 2 0),(6,.osl 19 1 (fun _=>0) (fun _=>n+1)),(7,.osl 22 1 (fun _=>0) (fun _=>n+1)),(8,.int .i64 (fun _=>(i:Int))),(10,.int .i64 (fun _=>q.num)),(12,.int .i64 (fun _=>(S2:Int)))],
   [(2,.box [tsv ats,.bool (fun _=>ac0.neg),nat ac0.num,nat ac0.den]),(19,.arr 1 (fun _=>enc cz N0)),(22,.arr 1 (fun _=>enc cz D0))]⟩) (fun _=>True) (fun h=>?_) (fun h=>?_) (fun _ _=>?_)
  {have hz:=hv1 (0-(S1:Int)) (fun _=>rfl) (fun e=>by rw[h] at e;cases e);cbv;exact⟨zC om om,(),trivial,.le (by cbv;repeat' first|exact trivial|exact lR|exact zE hz|apply zN) okZ rfl⟩};{have hz:=hv1 (S1:Int) (fun e=>by rw[h] at e;cases e) (fun _=>rfl);cbv;exact⟨(),trivial,.le (by cbv;repeat' first|exact trivial|exact lR|exact zE hz|apply zN) okZ rfl⟩};clear hv1 hsb;cbv;refine⟨zQ om om,oB hx1 om ?_⟩;cbv;refine⟨zQ om om,oB hx2 om ?_⟩;cbv;exact⟨zC om om,i+1,⟨om,hg2⟩,om,.le okZ (by cbv;exact⟨okA,zB (by show (enc cz N0).set (0+i) _=enc cz (NL (i+1));rw[xA,hN1',<-hns];exact zME rfl),zB (by show (enc cz D0).set (0+i) _=enc cz (DL (i+1));rw[xA,hD1',<-hds];exact zME hv2),trivial⟩) rfl⟩
 ·have hi:i=n+1:=om;subst hi;have hall:QS.all smQ=true:=f8.2 fun q hq=>g2 q (by rw[yN oM];exact hq);rw[if_pos hall] at hD;have hb:∀ (i:Nat) q,QS[i]?=some q->q.num.natAbs<=1073741824/\q.den<=1073741824/\0<q.den:=fun i q hq=>by have:=(f8.1 hall) q (zZ hq);unfold smQ at this;have:=of_decide_eq_true this;exact⟨this.1,this.2,q.den_pos⟩
  (rw[hNe,hDe];have hT:mD (QS.map Rat.den) 1=mD ((QS.drop 0).map Rat.den) 1:=rfl;obtain⟨L,hL⟩:∃ L,mD (QS.map Rat.den) 1=L:=⟨_,rfl⟩;rw[hL] at hT hD;have hDg:∀ (i:Nat) q,QS[i]?=some q->(QS.map fun q=>(q.den:Int))[i]?=some (q.den:Int):=fun i q hq=>by rw[vU,hq];rfl);have hNl2:(QS.map Rat.num).length=n+1:=by rw[y8];exact hql
  obtain⟨NM,hNM⟩:∃ N,QS.map Rat.num=N:=⟨_,rfl⟩;obtain⟨DN,hDN⟩:∃ N,(QS.map fun q=>(q.den:Int))=N:=⟨_,rfl⟩;rw[hDN] at hDg;rw[hNM] at hNl2;rw[hNM,hDN];clear cs1 cs2 cco hN0 hD0 hNs hDs hNl hDl g1 g2 hNe hDe hDN hAc cng hall h;cbv;refine zX (σ:=Nat×Nat) (fun s=>⟨[(1,.int .i64 (fun _=>(n:Int))),(6,.osl 19 1 (fun _=>0) (fun _=>n+1)),(7,.osl 22 1 (fun _=>0) (fun _=>n+1)),(14,.int .i64 (fun _=>(s.2:Int))),(15,.int .i64 (fun _=>(s.1:Int)))],[(19,.arr 1 (fun _=>enc cz NM)),(22,.arr 1 (fun _=>enc cz DN))]⟩)
   (fun s=>s.1<=n+1/\0<s.2/\s.2<=1073741824/\L=mD ((QS.drop s.1).map Rat.den) s.2) (fun s=>n+1-s.1) (0,1) ⟨wH _,Nat.zero_lt_one,by show 1<=1073741824;decide,hT⟩ (wkZ) ?_
  clear hT;intro s hs;obtain⟨i,a⟩:=s;obtain⟨g1,g2,g3,g4⟩:=hs;dsimp only at g1 g2 g3 g4;cbv;refine zD (fun h=>?_) (fun h=>?_)
  ·(have hin:i<=n:=om;obtain⟨q,hq⟩:=zO (show i<QS.length by omega);obtain⟨b1,b2,b3⟩:=hb i q hq;have hdg:=hDg i q hq;rw[wK hq,uC,mD] at g4;have hcg:=zWS a q.den;have hgp:0<Nat.gcd a q.den:=Nat.gcd_pos_of_pos_left _ g2;have hgl:a/Nat.gcd a q.den<=a:=aW _ _;have hgq:0<a/Nat.gcd a q.den:=Nat.div_pos (zBT g2 (Nat.gcd_dvd_left _ _)) hgp;have hqo:nx .i64 (iquo (a:Int) ((Nat.gcd a q.den:Nat):Int))=((a/Nat.gcd a q.den:Nat):Int):=by rw[jK];exact sN oM oM);generalize Nat.gcd a q.den=g at *
   generalize hqg:a/g=w at *
   obtain⟨d,hd⟩:∃ d,q.den=d:=⟨_,rfl⟩;rw[hd] at b2 b3 hdg hcg g4;have hwd:w*d<=1073741824*1073741824:=s8 oM b2;have hwp:0<w*d:=Nat.mul_pos hgq b3;have hcast:(w:Int)*(d:Int)=((w*d:Nat):Int):=(zLE w d).symm;generalize hW:w*d=W at *
   (have hfin:nx .i64 (iquo (a:Int) (g:Int))*(d:Int)=(W:Int):=by rw[hqo];exact hcast);cbv
   refine zT 12 (by cbv) ?_;cbv;refine⟨zQ om om,oB hdg om ?_⟩;cbv;refine dA hcg ?_;cbv;refine⟨uI om,zQ om om,oB hdg om ?_⟩;cbv;refine⟨zC (by rw[hqo];(try dsimp only [zI] at *);omega) (by rw[hqo];(try dsimp only [zI] at *);omega),?_⟩;cbv;refine zD (fun e=>?_) (fun e=>?_)
   ·(have hbig:¬W<=1073741824:=by rw[hqo] at e;(try dsimp only [zI] at *);omega);rw[if_neg hbig] at g4
    rw[g4] at hD;have r1:R1=[]:=congrArg Prod.fst hD;have r2:R2=false:=congrArg Prod.snd hD;subst r1 r2;cbv
    (refine rC ?_;cbv)
    exact okA
   ·(have hsm:W<=1073741824:=by rw[hqo] at e;(try dsimp only [zI] at *);omega);rw[if_pos hsm] at g4
    cbv;exact⟨zC om om,(i+1,W),⟨om,hwp,hsm,g4⟩,om,.le (by cbv;repeat' first|exact trivial|exact lR|exact zE hfin|exact zE om|apply zN) okZ rfl⟩
  ·(have hi:i=n+1:=om;have g5:L=some a:=by rw[g4,hi,List.drop_eq_nil_of_le oM];rfl);subst g5
   (dsimp only at hD;clear g4 g1;have hR1:R1=(dI (QS.map fun q=>q.num*((a/q.den:Nat):Int))).1:=congrArg Prod.fst hD;have hR2:R2=(dI (QS.map fun q=>q.num*((a/q.den:Nat):Int))).2:=congrArg Prod.snd hD;obtain⟨CL,hCL⟩:∃ CL:Nat->List Int,∀ i,CL i=(QS.take i).map (fun q=>q.num*((a/q.den:Nat):Int))++(QS.drop i).map Rat.num:=⟨_,fun _=>rfl⟩;have hC0:NM=CL 0:=by rw[hCL,<-hNM];rfl);have hCe:CL (n+1)=QS.map fun q=>q.num*((a/q.den:Nat):Int):=by rw[hCL,yN oM,List.drop_eq_nil_of_le oM];simp
   (have hCs:∀ (i:Nat) q,QS[i]?=some q->(CL i).set i (q.num*((a/q.den:Nat):Int))=CL (i+1):=fun i q hq=>by rw[hCL,hCL];exact zVQ (g:=fun q:Rat=>q.num*((a/q.den:Nat):Int)) hq);have hCg:∀ (i:Nat) q,QS[i]?=some q->(CL i)[i]?=some q.num:=fun i q hq=>by rw[hCL,uN (by rw[y8,y4];have:=yO hq;omega),y8,y4,wK hq];rw[show i-min i QS.length=0 by have:=yO hq;omega];rfl
   rw[hC0];have hbd:∀ x,x∈CL (n+1)->x.natAbs<9223372036854775807:=fun x hx=>by rw[hCe] at hx;obtain⟨q,hq,rfl⟩:=yS.1 hx;obtain⟨j,hj⟩:=mL.1 hq;obtain⟨b1,b2,b3⟩:=hb j q hj;have:a/q.den<=a:=aW _ _;rw[zBR,zFG];have:=s8 b1 (show a/q.den<=1073741824 by omega);omega
   (have hCln:(CL (n+1)).length=n+1:=by rw[hCe,y8];exact hql);have crd:=zWR (CL (n+1)) hbd oM
   rw[hCln] at crd;rw[<-hCe] at hR1 hR2;clear hD hCL hNM hC0 hCe h hbd;cbv;refine zX (σ:=Nat) (fun i=>⟨[(1,.int .i64 (fun _=>(n:Int))),(6,.osl 19 1 (fun _=>0) (fun _=>n+1)),(7,.osl 22 1 (fun _=>0) (fun _=>n+1)),(14,.int .i64 (fun _=>(a:Int))),(16,.int .i64 (fun _=>(i:Int)))],[(19,.arr 1 (fun _=>enc cz (CL i))),(22,.arr 1 (fun _=>enc cz DN))]⟩)
    (fun i=>i<=n+1) (fun i=>n+1-i) 0 (wH _) (wkZ) ?_
   intro i g1;cbv;refine zD (fun h=>?_) (fun h=>?_)
   ·have hin:i<=n:=om;obtain⟨q,hq⟩:=zO (show i<QS.length by omega);obtain⟨b1,b2,b3⟩:=hb i q hq;have hdg:=hDg i q hq;have hcs:=hCs i q hq;have hcg:=hCg i q hq;obtain⟨d,hd⟩:∃ d,q.den=d:=⟨_,rfl⟩;obtain⟨z,hz⟩:∃ z,q.num=z:=⟨_,rfl⟩;rw[hd] at b2 b3 hdg hcs;rw[hz] at b1 hcs hcg;have hle:a/d<=a:=aW _ _;have hqo:nx .i64 (iquo (a:Int) (d:Int))=((a/d:Nat):Int):=by
     rw[jK];generalize a/d=w at *
     exact sN oM oM
    generalize a/d=w at *
    (have hm:(z*(w:Int)).natAbs<=1073741824*1073741824:=by rw[zBR,zFG];exact s8 b1 oM);generalize hW:z*(w:Int)=W at *
    obtain⟨C0,hC0⟩:∃ C,CL i=C:=⟨_,rfl⟩;obtain⟨C1,hC1⟩:∃ C,CL (i+1)=C:=⟨_,rfl⟩;rw[hC0] at hcs hcg;rw[hC1] at hcs;rw[hC0];cbv;refine zT 13 (by cbv) ?_;cbv;refine⟨zQ om om,oB hcg om ?_⟩;cbv;refine⟨zQ om om,oB hdg om ?_⟩;cbv;refine⟨uI om,zC (by rw[hqo];(try dsimp only [zI] at *);omega) (by rw[hqo];(try dsimp only [zI] at *);omega),?_⟩;cbv;refine⟨zQ om om,oB hcg om ?_⟩;cbv;exact⟨zC om om,i+1,om,om,.le okZ (by cbv;exact⟨zB (by show (enc cz C0).set (0+i) _=enc cz (CL (i+1));rw[xA,hC1,<-hcs];exact zME (by rw[hqo];exact hW)),zB rfl,trivial⟩) rfl⟩
   ·(have hi:i=n+1:=om;subst hi;obtain⟨C1,hC1⟩:∃ C,CL (n+1)=C:=⟨_,rfl⟩;rw[hC1] at crd hR1 hR2 hCln;rw[hC1];have hln:(dI C1).1.length=n+1:=by unfold dI;rw[o7];exact hCln);rw[<-hR1,<-hR2] at crd
    rw[<-hR1] at hln;clear hR1 hR2 hCs hCg hDg hb;cbv;refine yU (fun _=>19) (.refl _) rfl (by exact⟨zU rfl rfl,trivial⟩) crd okR rfl rfl rfl rfl rfl rfl rfl rfl ?_;cbv;refine zK5 _ (.trans (.le (ps':=⟨[(4,.osl 19 1 (fun _=>0) (fun _=>R1.length)),(5,.bool (fun _=>R2))],[(19,.arr 1 (fun _=>enc cz R1))]⟩) (by cbv;repeat' first|exact trivial|exact lR|exact zU rfl hln.symm|apply zN) okZ rfl) (.frz 19 rfl rfl (by cbv;repeat' first|exact trivial|exact yG (by simp[zK])|apply zN) (by cbv;repeat' first|exact trivial|apply zN))) rfl ?_;exact⟨zY (by simp[zK,yN]),lR,trivial⟩
def frc (p:FR):List PV:=[zlv p.c,.int .u64 (fun _=>(p.fr:Int))]
abbrev frv (l:List FR):PV:=.sl (fun _=>enc frc l)
theorem uW (p:FR):(frc p).length=2:=rfl
theorem vZ (p:FR):yV jN (frc p)=true:=rfl
theorem zVS {a b:Nat}(ha:a<2^64)(hb:b<2^64):ior .u64 (a:Int) (b:Int)=((a ||| b:Nat):Int):=by
 unfold ior;have h1:(BitVec.ofInt 64 (a:Int) ||| BitVec.ofInt 64 (b:Int)).toNat=a ||| b:=by rw[BitVec.toNat_or,BitVec.ofInt_natCast,BitVec.ofInt_natCast,BitVec.toNat_ofNat,BitVec.toNat_ofNat,wO ha,wO hb]
 have h2:a ||| b<2^64:=c5 ha hb;show IntKind.wrap .u64 ((BitVec.ofInt 64 (a:Int) ||| BitVec.ofInt 64 (b:Int)).toNat:Int)=_;rw[h1];have h3:=xW h2;unfold nx at h3;exact h3
structure LOk (l:List FR) (W:Nat):Prop where
 len:l.length<=1048576
 w:∀ p,p∈l->p.c.length=W
 ab:∀ p,p∈l->∀ x,x∈p.c->x.natAbs<=1073741824
 fr:∀ p,p∈l->p.fr<2^64
theorem FR.get {p:FR}{v:Nat}(h:v<p.c.length):p.c[v]?=some (p.at' v):=by unfold FR.at';exact yR h
theorem yAB (l:List FR)(v W:Nat)(h:LOk l W)(hv:v<W):zG 105 [frv l,.int .i64 (fun _=>(v:Int))] (.int .i64 (fun _=>((prs l v:Nat):Int))):=by
 refine sF Tryz.f105 ?_;have hl:=h.len;have hat:∀ (i:Nat) p,l[i]?=some p->p.c[v]?=some (p.at' v):=fun i p hp=>FR.get (by rw[h.w p (zZ hp)];exact hv);obtain⟨U,hU⟩:∃ U,(l.filter fun p=>decide (0<p.at' v)).length=U:=⟨_,rfl⟩;obtain⟨D,hD⟩:∃ U,(l.filter fun p=>decide (p.at' v<0)).length=U:=⟨_,rfl⟩;have hUl:U<=1048576:=by rw[<-hU];exact vS (zBO _ _) hl
 have hDl:D<=1048576:=by rw[<-hD];exact vS (zBO _ _) hl
 have hp:prs l v=U*D:=by unfold prs;rw[hU,hD]
 have hub:U*D<=1048576*1048576:=s8 hUl hDl;have hcast:((U*D:Nat):Int)=(U:Int)*(D:Int):=zLE _ _;rw[hp];generalize hP:U*D=T at *
 clear h hp;cbv;refine zX (σ:=Nat×Nat×Nat) (fun s=>⟨[(0,frv l),(1,.int .i64 (fun _=>(v:Int))),(5,.int .i64 (fun _=>(s.2.1:Int))),(6,.int .i64 (fun _=>(s.2.2:Int))),(7,.int .i64 (fun _=>(s.1:Int)))],[]⟩)
  (fun s=>s.1<=l.length/\s.2.1+((l.drop s.1).filter fun p=>decide (0<p.at' v)).length=U/\s.2.2+((l.drop s.1).filter fun p=>decide (p.at' v<0)).length=D) (fun s=>l.length-s.1) (0,0,0) ⟨wH _,by show 0+_=U;rw[xA];exact hU,by show 0+_=D;rw[xA];exact hD⟩ (wkZ) ?_
 intro s hs;obtain⟨i,a,b⟩:=s;obtain⟨h1,h2,h3⟩:=hs;dsimp only at h1 h2 h3;cbv;refine zD (fun h5=>?_) (fun h5=>?_)
 ·(have hlt:i<l.length:=j8 h5;obtain⟨p,hp⟩:=zO hlt;have hc:=hat i p hp;rw[wK hp,zE8] at h2 h3;obtain⟨x,hx⟩:∃ x,p.at' v=x:=⟨_,rfl⟩;rw[hx] at h2 h3 hc;cbv;refine xC hp vZ uW ?_;cbv;refine xC hc fZ aQ ?_;cbv;refine gI (σ:=Unit) (fun _=>⟨[(0,frv l),(1,.int .i64 (fun _=>(v:Int))),(5,.int .i64 (fun _=>((if 0<x then a+1 else a:Nat):Int))),(6,.int .i64 (fun _=>(b:Int))),(7,.int .i64 (fun _=>(i:Int)))],[]⟩) (fun _=>True) (fun h=>?_) (fun h=>?_) (fun _ _=>?_);{have h':0<x:=om;rw[if_pos (decide_eq_true h'),x7] at h2;cbv;exact⟨zC om om,(),trivial,.le (by cbv;repeat' first|exact trivial|exact lR|exact zE (by rw[if_pos h'];(try dsimp only [zI] at *);omega)|apply zN) okZ rfl⟩};{have h':¬0<x:=om;cbv;exact⟨(),trivial,.le (by cbv;repeat' first|exact trivial|exact lR|exact zE (by rw[if_neg h'])|apply zN) okZ rfl⟩};have h2':(if 0<x then a+1 else a)+((l.drop (i+1)).filter fun p=>decide (0<p.at' v)).length=U:=by by_cases h':0<x;{rw[if_pos h'];rw[if_pos (decide_eq_true h'),x7] at h2;omega};{rw[if_neg h'];rw[if_neg (by rw[decide_eq_false h'];decide)] at h2;exact h2});clear h2;generalize (if 0<x then a+1 else a)=a' at *
  cbv;refine xC hp vZ uW ?_;cbv;refine xC hc fZ aQ ?_;cbv;refine zD (fun h=>?_) (fun h=>?_)
  ·(have h':x<0:=om;rw[if_pos (decide_eq_true h'),x7] at h3;have h3':b+1+((l.drop (i+1)).filter fun p=>decide (p.at' v<0)).length=D:=by omega);cbv
   exact⟨zC om om,zC om om,(i+1,a',b+1),⟨om,h2',h3'⟩,om,wkZ⟩
  {have h':¬x<0:=om;rw[if_neg (by rw[decide_eq_false h'];decide)] at h3;cbv;exact⟨zC om om,(i+1,a',b),⟨om,h2',h3⟩,om,wkZ⟩}
 ·have hi:i=l.length:=cV h5 h1;rw[hi,vG] at h2 h3;have e1:a=U:=h2;have e2:b=D:=h3;subst e1 e2;cbv;refine⟨zC (by rw[<-hcast];(try dsimp only [zI] at *);omega) (by rw[<-hcast];(try dsimp only [zI] at *);omega),?_⟩;cbv
  (refine rC ?_;cbv)
  exact zE hcast.symm
end Go.Proofs.YtfainocfaddbdaaGreat
