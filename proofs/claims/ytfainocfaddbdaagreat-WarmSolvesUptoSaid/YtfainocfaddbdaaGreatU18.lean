/- A part of the proof: NtH, NtI, NtJ. -/
import Derived.Test.YtfainocfaddbdaaGreatU17
set_option linter.all false
namespace Go.Proofs.YtfainocfaddbdaaGreat
open Go
set_option maxRecDepth 100000
theorem zNT {pre x post:List UInt32}{j:Nat}(h:j<x.length)(w:UInt32):(pre++(x++post)).set (pre.length+j) w=pre++(x.set j w++post):=by rw[zFH _ _ oM,List.set_append_left _ _ oM];congr 3;omega
theorem zM0 {pre x post:List UInt32}{j w k:Nat}{z:Int}(hk:k=pre.length+j)(h:j<x.length)(hz:z=(w:Int))(hw:w<B):(lm (pre++(x++post))).set k [.int .u32 z]=lm (pre++(x.set j (UInt32.ofNat w)++post)):=by rw[<-zNT h];exact fJ _ hk hz hw
theorem zPY {pre x post:List UInt32}{j S k:Nat}(hk:k=pre.length+j)(h:j<x.length):(lm (pre++(x++post))).set k [.int .u32 (nx .u32 ((S:Nat):Int))]=lm (pre++(x.set j (UInt32.ofNat S)++post)):=by rw[<-zNT h];exact fL _ hk S
theorem zI7 {u lo b:Nat}(hu:u<B)(hlo:lo<=B)(hb:b<2)(hlb:lo+b<=B):∃ w b':Nat,w<B/\b'<2/\u+B*b'=w+lo+b /\ nx .u64 (nx .u64 ((u:Int)-(lo:Int))-(b:Int))=(if b'=0 then (w:Int) else (w:Int)+18446744069414584320):=by
 simp only[B] at *
 by_cases h:u<lo+b;{refine⟨u+4294967296-lo-b,1,by omega,by omega,by omega,?_⟩;simp only[uJ];rw[if_neg oM];omega};{refine⟨u-lo-b,0,by omega,by omega,by omega,?_⟩;simp only[uJ];simp only[if_true];omega}
theorem zNL {w b':Nat}(hw:w<B)(hb:b'<2):ishr .u64 (if b'=0 then (w:Int) else (w:Int)+18446744069414584320) 63=(b':Int):=by simp only[B] at hw;rw[zTL];split <;> omega
theorem zJR {w b':Nat}(hw:w<B):nx .u32 (if b'=0 then (w:Int) else (w:Int)+18446744069414584320)=(w:Int):=by simp only[B] at hw;rw[gW];split <;> omega
theorem zVI {P R t s:Nat}(ht:t<P)(hR:R<P)(h:t+P*s=P*B+R):s=B/\t=R:=by rcases Nat.lt_trichotomy s B with h1|h1|h1;{have:=wW P (show s+1<=B from h1);rw[yE] at this;omega};{subst h1;exact⟨rfl,by omega⟩};{have:=wW P (show B+1<=s from h1);rw[yE] at this;omega}
theorem s235 (pre x post v:List UInt32)(n q:Nat)(hx:x.length=n+1)(hv:v.length=n)(hn:n<2^40)(hp:pre.length<2^40)(hq:q<B)(hhi:q*val v<=val x+val v):Sound 173 [.osl 1000000 1 (fun _=>pre.length) (fun _=>n+1),nat v,.int .u64 (fun _=>(q:Int))] (kx pre x post) [] (.int .u32 (fun _=>((zET (val x) (val v) q:Nat):Int))) (kx pre (pad (val x-zET (val x) (val v) q*val v) (n+1)) post) []:=by
 refine sF Tryz.f173 ?_;have hB:B=4294967296:=rfl;have hBB:B*B=18446744073709551616:=by decide
 have hV:=xZ v;rw[hv] at hV;have hdig:zET (val x) (val v) q=if q*val v<=val x then q else q-1:=rfl
 generalize hD:zET (val x) (val v) q=D at *
 generalize hF:pad (val x-D*val v) (n+1)=F;cbv;refine zX (σ:=Nat×Nat×Nat×List UInt32) (fun s=>⟨[(0,.osl 1000000 1 (fun _=>pre.length) (fun _=>n+1)),(1,nat v),(2,.int .u64 (fun _=>(q:Int))),(7,.int .u64 (fun _=>(s.2.1:Int))),(8,.int .u64 (fun _=>(s.2.2.1:Int))),(15,nat v),(16,.int .i64 (fun _=>(n:Int))),(17,.int .i64 (fun _=>(s.1:Int)))],kx pre s.2.2.2 post⟩)
  (fun s=>s.1<=n/\s.2.1<B/\s.2.2.1<2/\s.2.2.2.length=n+1/\s.2.2.2.drop s.1=x.drop s.1/\val (s.2.2.2.take s.1)+q*val (v.take s.1)=val (x.take s.1)+B^s.1*(s.2.1+s.2.2.1)) (fun s=>n-s.1)
  (0,0,0,x) ⟨om,wI,by show (0:Nat)<2;omega,hx,rfl,by simp[val]⟩ (.le ?_ ?_ rfl) ?_
 {cbv;exact⟨lR,lR,lR,lR,lR,lR,zE om,lR,trivial⟩};{cbv;exact⟨zB rfl,trivial⟩};intro s hs;obtain⟨h1,h2,h3,h4,h5,h6⟩:=hs;generalize s.1=i at *
 generalize s.2.1=c at *
 generalize s.2.2.1=b at *
 generalize s.2.2.2=y at *
 cbv;refine zD (fun h7=>?_) (fun h7=>?_)
 ·(have hin:i<n:=om;have hyx:y.getD i 0=x.getD i 0:=by have:=congrArg (fun l=>l.getD 0 0) h5;simpa using this);have hd:=yL (v.getD i 0);have hu:=yL (x.getD i 0);have hCl:c+q*(v.getD i 0).toNat<B*B:=by
   (have h8:q*(v.getD i 0).toNat<=(B-1)*(B-1):=s8 oM oM;have h9:(B-1)*(B-1)+(B-1)<B*B:=by decide);omega
  (obtain⟨w,b',hw,hb',hwe,hz⟩:=zI7 (u:=(x.getD i 0).toNat) (lo:=(c+q*(v.getD i 0).toNat)%B) (b:=b) hu (pZ (vR _ wI)) h3 (by have:=vR (c+q*(v.getD i 0).toNat) wI;omega);have hC:nx .u64 ((c:Int)+nx .u64 ((q:Int)*nx .u64 (((v.getD i 0).toNat:Nat):Int)))=((c+q*(v.getD i 0).toNat:Nat):Int):=by rw[xW (n:=(v.getD i 0).toNat) oM];have e1:nx .u64 ((q:Int)*(((v.getD i 0).toNat:Nat):Int))=((q*(v.getD i 0).toNat:Nat):Int):=xW (n:=q*(v.getD i 0).toNat) oM;rw[e1];exact xW (n:=c+q*(v.getD i 0).toNat) oM);have hlo:nx .u64 (nx .u32 ((c+q*(v.getD i 0).toNat:Nat):Int))=(((c+q*(v.getD i 0).toNat)%B:Nat):Int):=by
   (rw[gW,hB];have:(((c+q*(v.getD i 0).toNat:Nat):Int)%4294967296)=(((c+q*(v.getD i 0).toNat)%4294967296:Nat):Int):=by omega);rw[this]
   exact xW oM
  (have hui:nx .u64 (((y.getD i 0).toNat:Nat):Int)=(((x.getD i 0).toNat:Nat):Int):=by rw[hyx];exact xW oM);have hZ:nx .u64 (nx .u64 (nx .u64 (((y.getD i 0).toNat:Nat):Int)-nx .u64 (nx .u32 (nx .u64 ((c:Int)+nx .u64 ((q:Int)*nx .u64 (((v.getD i 0).toNat:Nat):Int))))))-(b:Int))=(if b'=0 then (w:Int) else (w:Int)+18446744069414584320):=by rw[hC,hlo,hui];exact hz
  cbv;refine xO i om om ?_;cbv;refine⟨zQ om om,aM i om om ?_⟩;cbv;refine⟨zQ om om,aM i om om ?_⟩;cbv;refine⟨v9 oM,v9 oM,zC om om,(i+1,(c+q*(v.getD i 0).toNat)/B,b',y.set i (UInt32.ofNat w)),⟨om,?_,hb',by simpa using h4,?_,?_⟩,om,.le ?_ ?_ rfl⟩;{rw[cQ wI];exact hCl};{show (y.set i _).drop (i+1)=x.drop (i+1);rw[List.drop_set_of_lt oM,<-iN,<-iN,h5]}
  ·show val ((y.set i _).take (i+1))+q*val (v.take (i+1))=val (x.take (i+1))+B^(i+1)*((c+q*(v.getD i 0).toNat)/B+b');rw[uT _ om,zR v,zR x,x8,wO hw,xS];have hdm:=d6 (c+q*(v.getD i 0).toNat) B;generalize (c+q*(v.getD i 0).toNat)%B=lo at *
   generalize (c+q*(v.getD i 0).toNat)/B=hi at *
   generalize (v.getD i 0).toNat=d at *
   generalize (x.getD i 0).toNat=u at *
   generalize B^i=P at *
   have e1:P*u+P*B*(hi+b')=P*(w+q*d+c+b):=by rw[vI,<-yE];congr 1;rw[yE];omega
   (have e2:P*(w+q*d+c+b)=P*w+q*(P*d)+P*(c+b):=by rw[alT9,yE,yE,zBX q]);rw[yE q]
   omega
  ·cbv;refine⟨lR,lR,lR,zE ?_,zE ?_,lR,lR,zE om,trivial⟩
   ·(try dsimp only [zI] at *)
    rw[hC];exact aH _
   ·(try dsimp only [zI] at *)
    rw[hZ];exact zNL hw hb'
  ·cbv;have hset:(lm (pre++(y++post))).set (pre.length+(i:Int).toNat) [.int .u32 (nx .u32 (nx .u64 (nx .u64 (nx .u64 (((y.getD i 0).toNat:Nat):Int)-nx .u64 (nx .u32 (nx .u64 ((c:Int)+nx .u64 ((q:Int)*nx .u64 (((v.getD i 0).toNat:Nat):Int))))))-(b:Int))))]=lm (pre++(y.set i (UInt32.ofNat w)++post)) :=
    zM0 (by simp) oM (by rw[hZ];exact zJR hw) hw
   exact⟨zB hset,trivial⟩
 ·have hin:i=n:=om;subst hin;have hyx:y.getD i 0=x.getD i 0:=by have:=congrArg (fun l=>l.getD 0 0) h5;simpa using this
  (have hu:=yL (x.getD i 0);obtain⟨w,b',hw,hb',hwe,hz⟩:=zI7 (u:=(x.getD i 0).toNat) (lo:=c) (b:=b) hu (pZ h2) h3 oM;have hui:nx .u64 (((y.getD i 0).toNat:Nat):Int)=(((x.getD i 0).toNat:Nat):Int):=by rw[hyx];exact xW oM);have hZ:nx .u64 (nx .u64 (nx .u64 (((y.getD i 0).toNat:Nat):Int)-(c:Int))-(b:Int))=(if b'=0 then (w:Int) else (w:Int)+18446744069414584320):=by rw[hui];exact hz
  have hTB:=zNL hw hb';have hLL:=zJR (w:=w) (b':=b') hw;generalize hzz:(if b'=0 then (w:Int) else (w:Int)+18446744069414584320)=zz at *
  have hi40:i<2^40:=hn;cbv;refine⟨zQ om om,aM i om om ?_⟩;cbv;refine⟨zQ om om,aM i om om ?_⟩;have hset:(lm (pre++(y++post))).set (pre.length+(((lm v).length:Nat):Int).toNat) [.int .u32 (nx .u32 (nx .u64 (nx .u64 (nx .u64 (((y.getD i 0).toNat:Nat):Int)-(c:Int))-(b:Int))))]=lm (pre++(y.set i (UInt32.ofNat w)++post)) :=
   zM0 (pre:=pre) (x:=y) (post:=post) (j:=i) (by rw[zH,hv];simp) oM (by rw[hZ];exact hLL) hw
  (have hlen1:(y.set i (UInt32.ofNat w)).length=i+1:=by simpa using h4);have hval1:val (y.set i (UInt32.ofNat w))+q*val v=val x+B^(i+1)*b':=by
   have e1:=uT y (n:=i) oM (UInt32.ofNat w);have e2:=zR x i;rw[yN (Nat.le_of_eq hlen1),x8,wO hw] at e1;rw[yN (Nat.le_of_eq hx)] at e2;rw[yN (Nat.le_of_eq hv)] at h6;rw[e1,e2,xS,vI];generalize B^i=P at *
   (have e3:P*(x.getD i 0).toNat+P*(B*b')=P*w+P*(c+b):=by rw[<-yE,<-yE];congr 1;omega);omega
  have hlt1:=xZ (y.set i (UInt32.ofNat w));rw[hlen1] at hlt1;generalize hy1:y.set i (UInt32.ofNat w)=y1 at *
  cbv;refine⟨v9 oM,?_⟩;refine zD (fun h8=>?_) (fun h8=>?_)
  ·(have hb0:b'=0:=by (try dsimp only [zI] at *);rw[hZ,hTB] at h8;omega);subst hb0
   (have hle:q*val v<=val x:=by omega);rw[if_pos hle] at hdig
   (have hy:y1=F:=by rw[<-hF,hdig];exact zMX hlen1 oM);cbv;refine zTA (.le (ps':=⟨[(6,.int .u32 (fun _=>(D:Int)))],kx pre F post⟩) ?_ ?_ rfl) rfl (lR) rfl rfl rfl rfl
   {cbv;refine⟨zE ?_,trivial⟩;rw[hdig];show nx .u32 (q:Int)=(q:Int);rw[gW];omega};{cbv;refine⟨zB ?_,trivial⟩;rw[<-hy];exact hset}
  ·(have hb1:b'=1:=by (try dsimp only [zI] at *);rw[hZ,hTB] at h8;omega);subst hb1
   (rw[c8] at hval1;have hgt:¬q*val v<=val x:=by omega);rw[if_neg hgt] at hdig
   (have hq1:0<q:=by rcases aY q with e|e;{rw[e] at hgt;simp at hgt};{exact e});cbv;refine zX (σ:=Nat×Nat×List UInt32) (fun s=>⟨[(0,.osl 1000000 1 (fun _=>pre.length) (fun _=>i+1)),(1,nat v),(2,.int .u64 (fun _=>(q:Int))),(7,.int .u64 (fun _=>(s.2.1:Int))),(70,nat v),(71,.int .i64 (fun _=>(i:Int))),(72,.int .i64 (fun _=>(s.1:Int)))],kx pre s.2.2 post⟩)
    (fun s=>s.1<=i/\s.2.1<2/\s.2.2.length=i+1/\s.2.2.drop s.1=y1.drop s.1/\val (s.2.2.take s.1)+B^s.1*s.2.1=val (y1.take s.1)+val (v.take s.1)) (fun s=>i-s.1)
    (0,0,y1) ⟨om,by show (0:Nat)<2;omega,hlen1,rfl,by simp[val]⟩ (.le ?_ ?_ rfl) ?_
   {cbv;exact⟨lR,lR,lR,lR,lR,zE (by rw[zH,hv]),lR,trivial⟩};{cbv;exact⟨zB hset,trivial⟩};intro s hs;obtain⟨k1,k2,k3,k4,k5⟩:=hs;generalize s.1=m at *
   generalize s.2.1=e at *
   generalize s.2.2=t at *
   (have htx:t.getD m 0=y1.getD m 0:=by have:=congrArg (fun l=>l.getD 0 0) k4;simpa using this);cbv;refine zD (fun k6=>?_) (fun k6=>?_)
   ·(have hin:m<i:=om;have hd:=yL (v.getD m 0);have ht:=yL (y1.getD m 0);have hS:nx .u64 ((e:Int)+nx .u64 (nx .u64 (((t.getD m 0).toNat:Nat):Int)+nx .u64 (((v.getD m 0).toNat:Nat):Int)))=((e+((y1.getD m 0).toNat+(v.getD m 0).toNat):Nat):Int):=by rw[htx];simp only[uJ];omega);cbv
    refine xO m om om ?_;cbv;refine⟨zQ om om,aM m om om ?_⟩;cbv;refine⟨zQ om om,aM m om om ?_⟩;cbv;refine⟨v9 oM,zC om om,(m+1,(e+((y1.getD m 0).toNat+(v.getD m 0).toNat))/B,t.set m (UInt32.ofNat (e+((y1.getD m 0).toNat+(v.getD m 0).toNat)))),⟨om,?_,by simpa using k3,?_,?_⟩,om,.le ?_ ?_ rfl⟩;{show (e+((y1.getD m 0).toNat+(v.getD m 0).toNat))/B<2;rw[cQ wI];omega};{show (t.set m _).drop (m+1)=y1.drop (m+1);rw[List.drop_set_of_lt oM,<-iN,<-iN,k4]}
    ·show val ((t.set m _).take (m+1))+B^(m+1)*((e+((y1.getD m 0).toNat+(v.getD m 0).toNat))/B)=val (y1.take (m+1))+val (v.take (m+1));rw[uT _ om,zR v,zR y1,x8,xS];have hdm:=d6 (e+((y1.getD m 0).toNat+(v.getD m 0).toNat)) B;generalize (e+((y1.getD m 0).toNat+(v.getD m 0).toNat))%B=lo at *
     generalize (e+((y1.getD m 0).toNat+(v.getD m 0).toNat))/B=hi at *
     generalize (v.getD m 0).toNat=d at *
     generalize (y1.getD m 0).toNat=u at *
     generalize B^m=P at *
     (have e1:P*lo+P*B*hi=P*e+P*u+P*d:=by rw[vI,<-yE,hdm,yE,yE];omega);omega
    ·cbv;refine⟨lR,lR,lR,zE ?_,lR,lR,zE om,trivial⟩
     (try dsimp only [zI] at *)
     rw[hS];exact aH _
    ·(cbv;have hset2:(lm (pre++(t++post))).set (pre.length+(m:Int).toNat) [.int .u32 (nx .u32 (nx .u64 ((e:Int)+nx .u64 (nx .u64 (((t.getD m 0).toNat:Nat):Int)+nx .u64 (((v.getD m 0).toNat:Nat):Int)))))]=lm (pre++(t.set m (UInt32.ofNat (e+((y1.getD m 0).toNat+(v.getD m 0).toNat)))++post)):=by rw[hS];exact zPY (by simp) oM);exact⟨zB hset2,trivial⟩
   ·(have hin:m=i:=om;subst hin;cbv;refine⟨zQ om om,aM m om om ?_⟩;cbv;refine⟨zQ om om,aM m om om ?_⟩;have hyt:=zR y1 m;rw[yN (Nat.le_of_eq hlen1)] at hyt;rw[yN (Nat.le_of_eq hv)] at k5;have htl:=w5 t m;have hR:val x+val v-q*val v<B^m:=by omega);have hfin:=zVI (P:=B^m) (s:=e+(y1.getD m 0).toNat) htl hR (by rw[yE];rw[xS] at hval1;omega)
    have ht1:=yL (y1.getD m 0);have hset3:(lm (pre++(t++post))).set (pre.length+(((lm v).length:Nat):Int).toNat) [.int .u32 (nx .u32 ((((t.getD m 0).toNat:Nat):Int)+nx .u32 (e:Int)))]=lm (pre++(t.set m (UInt32.ofNat 0)++post)) :=
     zM0 (w:=0) (by rw[zH,hv];simp) oM (by rw[htx];simp only[gW];omega) wI
    (have hWV:val v<=q*val v:=zIZ _ hq1;have hDv:D*val v=q*val v-val v:=by rw[hdig,Nat.sub_mul,mS]);have hF2:t.set m (UInt32.ofNat 0)=F:=by rw[<-hF];refine zMX (by simpa using k3) ?_;have e1:=uT t (n:=m) oM (UInt32.ofNat 0);rw[yN (by simp;omega)] at e1;rw[e1,hfin.2,hDv];simp only[x8,Nat.zero_mod,zBY,gM];omega
    cbv;refine zTA (.le (ps':=⟨[(6,.int .u32 (fun _=>(D:Int)))],kx pre F post⟩) ?_ ?_ rfl) rfl (lR) rfl rfl rfl rfl;{cbv;refine⟨zE ?_,trivial⟩;rw[hdig];show nx .u32 (nx .u64 ((q:Int)-1))=((q-1:Nat):Int);simp only[gW,uJ];omega};{cbv;refine⟨zB ?_,trivial⟩;rw[<-hF2];exact hset3}
theorem yU {g:Operand}{as_:List Operand}{dst:Option Nat}{ps ps':PS}{K:PS->Prop}{f:FuncId}{caps cargs:List PV}{kept eaten:List (Nat×Obj')}{r:PV}{kept' made:List (Nat×Obj')}(hn:Nat->Nat)(hw:Wk ps ps') (h1:ev (zA ps'.tmps) g=.fn f caps) (h2:fO les (evs (ev (zA ps'.tmps)) as_++caps) (renL hn cargs)) (h3:Sound f cargs kept eaten r kept' made) (h4:kM hn ps'.objs (kept++eaten)) (h5:ndO (zW hn (kept++eaten))=true) (h5':ndO (kept++eaten)=true) (h6:sM (pI (kept'++made)) (kept'++made)=true) (h7:ndO (zW hn made)=true) (h8:nL hn (lW hn eaten ps') made=true) (h9:yV lv cargs=true) (h10:lv r=true) (h11:nmIn (pI (kept'++made)) r=true) (h12:K (put (nE hn eaten kept' made ps') dst (ren hn r))):CallOk g as_ dst ps K :=
 ⟨ps',hw,f,caps,h1,.inr ⟨hn,cargs,kept,eaten,r,kept',made,pK h2,h3,h4,h5,h5',h6,h7,h8,h9,h10,h11,h12⟩⟩
theorem zAS:∀ (n x:Nat),x<=n->x<4294967296->x<2^Lib.bitLen x
 |0,x,h,_=>by
  (have:x=0:=by omega);subst this
  exact iP _
 |n+1,x,h,hx=>by rcases aY x with e|e;{subst e;exact iP _};{rw[Lib.bitLen_half x oM oM,mN,xS];have:=zAS n (x/2) oM oM;omega}
theorem zQI {x:Nat}(h:x≠0)(hx:x<4294967296):2^(Lib.bitLen x-1)<=x:=by rcases wE x (2^(Lib.bitLen x-1)) with h1|h1;{have h2:=Lib.bitLen_le x (Lib.bitLen x-1) (by have:=dY hx;omega) h1;have:=iG h hx;omega};{exact h1}
theorem zLU {x:Nat}(h:x≠0)(hx:x<4294967296):32-Lib.bitLen x<32/\2147483648<=x*2^(32-Lib.bitLen x)/\x*2^(32-Lib.bitLen x)<4294967296:=by
 have h1:=zQI h hx;have h2:=zAS x x (zV _) hx;have h3:=dY hx;have h4:=iG h hx;generalize Lib.bitLen x=k at *
 refine⟨by omega,?_,?_⟩
 ·(have h5:=qE (2^(32-k)) h1;rw[<-k8] at h5;have:k-1+(32-k)=31:=by omega);rw[this] at h5
  exact h5
 ·(have h5:=iM h2 (iP (32-k));rw[<-k8] at h5;have:k+(32-k)=32:=by omega);rw[this] at h5
  exact h5
theorem zW8:Pg.funcs[165]?=some Tryz.f165:=by rw[vJ];rfl
theorem yAW (a b:List UInt32)(ha:a.length<2^39)(hb:b.length<2^39)(h0:val b=0):zG 165 [nat a,nat b] (.tup [.nil,.nil,.int .i64 (fun _=>3)]):=by refine yW zW8 rfl rfl rfl rfl rfl ?_;cbv;refine cA (cH a oM) ?_;cbv;refine cA (cH b oM) ?_;rw[h0,limbs_zero];cbv;refine zD (fun h=>?_) (fun h=>absurd rfl h);cbv;exact jB rfl okA rfl
theorem zX3 {p:List UInt32}(hc:cO p=true){n:Nat}(hl:p.length=n+1):B^n<=val p:=by
 have hne:p≠[]:=fun e=>by rw[e] at hl;simp at hl
 have h1:=pW hne;rw[hc] at h1;have h2:(p.getD n 0).toNat≠0:=by
  (intro e;have:p.getD (p.length-1) 0=0:=by rw[hl];exact s9.1 e);rw[this] at h1
  exact absurd h1 (by decide)
 have h3:=zR p n;rw[yN oM] at h3;have:=wW (B^n) (show 1<=(p.getD n 0).toNat by omega);omega
structure DivInv (A V N M:Nat) (k:Nat) (u out:List UInt32):Prop where
 kle:k<=M
 lu:u.length=N
 lo:out.length=M
 lt:val (u.drop k)<V
 eq:val u+V*(B^k*val (out.drop k))=A
theorem zSD {A V N M i n q:Nat}{u out:List UInt32}(h:DivInv A V N M (i+1) u out)(hV:V<B^(n+2))(h0:0<V)(hN:i+n+3<=N):let x:=(u.drop i).take (n+3)
  let pre:=u.take i
  let post:=u.drop (i+(n+3))
  u=pre++(x++post)/\x.length=n+3/\pre.length=i/\val x<B*V/\(q=val x/V->q<B/\DivInv A V N M i (pre++(pad (val x-q*V) (n+3)++post)) (out.set i (UInt32.ofNat q))):=by
 intro x pre post;have hlu:=h.lu;have e1:x++post=u.drop i:=by show (u.drop i).take (n+3)++u.drop (i+(n+3))=u.drop i;rw[<-iN,iQ]
 have e0:u=pre++(x++post):=by rw[e1];exact (iQ i u).symm
 have hxl:x.length=n+3:=by show ((u.drop i).take (n+3)).length=_;rw[y4,kS];omega
 have hpl:pre.length=i:=by show (u.take i).length=_;rw[y4];omega
 have hpost:val post=0:=by
  (have h2:=zBD (l:=u.drop (i+1)) (n+2) (by rw[kS];omega) (dF h.lt hV);rw[iN] at h2;have:i+1+(n+2)=i+(n+3):=by omega);rw[this] at h2
  exact h2
 have hdi:val (u.drop i)=val x:=by rw[<-e1,vQ,hpost];omega
 have hxv:val x<B*V:=by have h3:=kX (l:=u) (i:=i) oM;have h4:=yL (u.getD i 0);have h5:=wW B (show val (u.drop (i+1))+1<=V from h.lt);rw[yE] at h5;omega
 refine⟨e0,hxl,hpl,hxv,fun hq=>?_⟩;obtain⟨r1,r2,r3⟩:=zP9 (pre:=pre) (x:=x) (post:=post) (V:=V) (n:=n+2) hxl hpost (by rw[v5];exact hxv) hV h0 hq;have r3:val (pre++(pad (val x-q*V) (n+3)++post))+V*(B^pre.length*q)=val (pre++(x++post)):=r3;have hk:=h.kle;have hlo:=h.lo;refine⟨r1,by omega,?_,by simpa using hlo,?_,?_⟩
 ·(have hpad:(pad (val x-q*V) (n+3)).length=n+3:=by refine aE (xJ (Nat.sub_le _ _) ?_);have:=xZ x;rw[hxl] at this;exact this);rw[wP,wP,hpad,hpl];show i+(n+3+(u.drop (i+(n+3))).length)=N;rw[kS];omega
 {rw[List.drop_append_of_le_length oM,d5 oM,aU];exact r2};{have h6:=h.eq;rw[<-e0,hpl] at r3;have h7:=iT (l:=out) (i:=i) oM (UInt32.ofNat q);rw[x8,wO r1] at h7;rw[show B^(i+1)=B^i*B from xS _ _] at h6;rw[h7,yE (B^i),yE V,<-vI (B^i) B];omega}
theorem s226 (a b : List UInt32) (ha : a.length < 2^39) (hb : b.length < 2^39) (h0 : val b ≠ 0) : zG 165 [nat a, nat b] (.tup [nat (zF (val a / val b)), nat (zF (val a % val b)), .int .i64 (fun _ => 0)]) := by
  refine yW zW8 rfl rfl rfl rfl rfl ?_
  have ha' := xJ (zS a) ha
  have hb' := xJ (zS b) hb
  have hB : B = 4294967296 := rfl
  cbv
  refine cA (cH a oM) ?_
  cbv
  refine cA (cH b oM) ?_
  have hva : val (zF (val a)) = val a := zM _
  have hvb : val (zF (val b)) = val b := zM _
  have hca := sI (val a)
  have hcb := sI (val b)
  have hqne : (zF (val b)).length ≠ 0 := fun e => h0 (xX.1 (jS e))
  have hlen : ¬ val a < val b → (zF (val b)).length ≤ (zF (val a)).length := by
    intro h
    rcases wE (zF (val a)).length (zF (val b)).length with h1 | h1
    · exact absurd (oP h1) h
    · exact h1
  generalize zF (val a) = p at *
  generalize zF (val b) = q at *
  cbv
  refine zD (fun h => absurd (show q.length = 0 by (try dsimp only [zI] at *); rw [zH] at h; omega) hqne) (fun h => ?_)
  cbv
  refine cA (s162 p q oM oM) ?_
  rw [hva, hvb]
  have hcmp : qH (val a) (val b) < 0 ↔ val a < val b := by
    unfold qH
    split
    · omega
    · split <;> omega
  generalize qH (val a) (val b) = cm at *
  cbv
  refine zD (fun h1 => ?_) (fun h1 => ?_)
  · have hlt := hcmp.1 h1
    cbv
    refine cA (s223 p oM) ?_
    cbv
    refine jB rfl ?_ rfl
    refine ⟨xB ?_, zY ?_, lR, trivial⟩
    · rw [oS hlt, limbs_zero]; rfl
    · rw [hva, wO hlt]
  · have hge : ¬ val a < val b := fun e => h1 (hcmp.2 e)
    have hlpq := hlen hge
    cbv
    refine zD (fun h2 => ?_) (fun h2 => ?_)
    · have hq1 : q.length = 1 := by (try dsimp only [zI] at *); rw [zH] at h2; omega
      cbv
      refine xO 0 rfl oM ?_
      cbv
      have hvq : val b = (q.getD 0 0).toNat := by
        have := zR q 0
        rw [yN oM] at this
        simp [val] at this
        rw [← hvb, this]
        simp
      refine cA (s232 p (q.getD 0 0).toNat oM (yL _) oM) ?_
      cbv
      refine jB rfl ?_ rfl
      exact ⟨zY (by rw [hva, hvq]), zY (by rw [hva, hvq]), lR, trivial⟩
    · have hq2 : q.length ≠ 1 := by (try dsimp only [zI] at *); rw [zH] at h2; omega
      obtain ⟨n, hn⟩ : ∃ n, q.length = n + 2 := ⟨q.length - 2, by omega⟩
      have htl : (q.getD (n + 1) 0).toNat ≠ 0 := by
        intro e
        have h3 := pW (l := q) (fun e => by rw [e] at hn; simp at hn)
        have : q.getD (q.length - 1) 0 = 0 := by rw [hn]; exact s9.1 e
        rw [this, hcb] at h3
        exact absurd h3 (by decide)
      obtain ⟨hs1, hs2, hs3⟩ := zLU htl (yL (q.getD (n + 1) 0))
      have hbl := dY (yL (q.getD (n + 1) 0))
      cbv
      refine ⟨zC om om, xO (n + 1) om om ?_⟩
      cbv
      refine cA (s233 (q.getD (n + 1) 0).toNat (yL _)) ?_
      have hsi : (32 : Int) - ((Lib.bitLen (q.getD (n + 1) 0).toNat : Nat) : Int) = ((32 - Lib.bitLen (q.getD (n + 1) 0).toNat : Nat) : Int) := by omega
      rw [hsi]
      generalize hsd : 32 - Lib.bitLen (q.getD (n + 1) 0).toNat = s at *
      cbv
      refine yU (fun _ => 55) (.refl _) rfl okA (s234 p s oM hs1) trivial rfl rfl rfl rfl rfl rfl rfl rfl ?_
      cbv
      refine yU (fun _ => 58) (.refl _) rfl okA (s234 q s oM hs1) trivial rfl rfl rfl rfl rfl rfl rfl rfl ?_
      cbv
      
      have hVlt : val q * 2 ^ s < B ^ (n + 2) := by
        have h3 := zR q (n + 1)
        have h4 := w5 q (n + 1)
        rw [yN oM] at h3
        rw [h3, w7, vI, show B ^ (n + 2) = B ^ (n + 1) * B from xS _ _]
        have h5 := iM h4 (iP s)
        have h6 : (q.getD (n + 1) 0).toNat * 2 ^ s + 2 ^ s ≤ B := by
          obtain ⟨z, hz⟩ : 2 ^ s ∣ B := ⟨2 ^ (32 - s), by rw [← k8]; have : s + (32 - s) = 32 := by omega
                                                          rw [this]; rfl⟩
          rw [hz, v5 _ (2 ^ s), ← zBV]
          refine wW _ ?_
          have : 2 ^ s * (q.getD (n + 1) 0).toNat < 2 ^ s * z := by rw [← hz, v5]; exact hs3
          exact Nat.lt_of_mul_lt_mul_left this
        have h7 := wW (B ^ (n + 1)) h6
        rw [yE] at h7
        omega
      have hqge := zX3 hcb (n := n + 1) hn
      have hVge : B ^ (n + 1) * 2 ^ s ≤ val q * 2 ^ s := qE _ hqge
      have hVtop : B ^ (n + 1) * 2147483648 ≤ val q * 2 ^ s := by
        have h3 := zR q (n + 1)
        rw [yN oM] at h3
        rw [h3, w7, vI]
        have := wW (B ^ (n + 1)) hs2
        omega
      have hp2 := iP s
      have hBn := aX (n := n + 1) wI
      have hV0 : 0 < val q * 2 ^ s := by omega
      have hvl : (zF (val q * 2 ^ s)).length = n + 2 := by
        have h3 := z7 hVlt
        have h4 := zBC (n := val q * 2 ^ s) (k := n + 1) oM
        omega
      have hvv := zM (val q * 2 ^ s)
      have hpl := xZ p
      have hA0 : val ((pad (val p * 2 ^ s) (p.length + 1)).drop (p.length - q.length + 1)) < val q * 2 ^ s := by
        have hpx : val p * 2 ^ s < B ^ (p.length + 1) := by
          rw [xS]
          refine gN (iM hpl hp2) (wW _ ?_)
          exact pZ (gB (show 1 < 2 by omega) hs1)
        have h3 := iU (l := pad (val p * 2 ^ s) (p.length + 1)) (p.length - q.length + 1) (by rw [aE hpx]; omega)
        rw [iS] at h3
        have h4 : B ^ p.length = B ^ (p.length - q.length + 1) * B ^ (n + 1) := by rw [← k8]; congr 1; omega
        have h5 : B ^ (p.length - q.length + 1) * val ((pad (val p * 2 ^ s) (p.length + 1)).drop (p.length - q.length + 1)) < B ^ (p.length - q.length + 1) * (B ^ (n + 1) * 2 ^ s) := by
          rw [← vI, ← h4]
          have := iM hpl hp2
          omega
        have := Nat.lt_of_mul_lt_mul_left h5
        omega
      have hpadl : (pad (val p * 2 ^ s) (p.length + 1)).length = p.length + 1 := by
        refine aE ?_
        rw [xS]
        refine gN (iM hpl hp2) (wW _ ?_)
        exact pZ (gB (show 1 < 2 by omega) hs1)
      have hpadv := iS (val p * 2 ^ s) (p.length + 1)
      have hfrz : ((lm (pad (val q * 2 ^ s) (q.length + 1))).drop 0).take (q.length + 1) = lm (pad (val q * 2 ^ s) (q.length + 1)) := by
        rw [uS]
        refine yN ?_
        rw [zH, aE (dF hVlt (by rw [hn]; exact gB (by decide) oM))]
        exact zV _
      have hpql : (pad (val q * 2 ^ s) (q.length + 1)).length = q.length + 1 :=
        aE (dF hVlt (by rw [hn]; exact gB (by decide) oM))
      have hvpq := iS (val q * 2 ^ s) (q.length + 1)
      generalize pad (val q * 2 ^ s) (q.length + 1) = vq at *
      generalize hU0 : pad (val p * 2 ^ s) (p.length + 1) = u0 at *
      refine aR (.trans (.le (ps' := ⟨[(0, nat p), (1, nat q), (9, .int .i64 (fun _ => (s : Int))), (55, .osl 55 1 (fun _ => 0) (fun _ => p.length + 1)), (58, .osl 58 1 (fun _ => 0) (fun _ => q.length + 1))], [(55, .arr 1 (fun _ => lm u0)), (58, .arr 1 (fun _ => lm vq))]⟩) ?_ ?_ rfl) (.frz 58 rfl rfl ?_ ?_)) rfl (by refine ⟨zY ?_, trivial⟩; exact hfrz) (cH vq oM) rfl ?_
      · cbv
        exact okA
      · cbv
        exact ⟨zB rfl, zB rfl, trivial⟩
      · cbv
        refine ⟨yG ?_, trivial⟩
        rw [zH]; omega
      · exact trivial
      rw [hvpq]
      have hdiv : val a / val b = val p * 2 ^ s / (val q * 2 ^ s) := by rw [hva, hvb, Nat.mul_div_mul_right _ _ hp2]
      have hmod : val p * 2 ^ s % (val q * 2 ^ s) = (val a % val b) * 2 ^ s := by rw [hva, hvb, Nat.mul_mod_mul_right]
      clear hVge hqge hfrz
      generalize hVV : val q * 2 ^ s = V at *
      generalize zF V = v at *
      generalize hAA : val p * 2 ^ s = A at *
      have hvt := zQ6 hvl
      rw [hvv] at hvt
      have hvtl := w5 v n
      have hvtl1 := w5 v (n + 1)
      have hvtop := zR v (n + 1)
      rw [yN oM, hvv] at hvtop
      have hnorm : B ≤ 2 * (v.getD (n + 1) 0).toNat := by
        rcases wE (2 * (v.getD (n + 1) 0).toNat) B with h3 | h3
        · exfalso
          have h4 := wW (B ^ (n + 1)) (show (v.getD (n + 1) 0).toNat + 1 ≤ 2147483648 by omega)
          rw [yE] at h4
          omega
        · exact h3
      obtain ⟨M, hM⟩ : ∃ M, M = p.length - q.length + 1 := ⟨_, rfl⟩
      rw [← hM] at hA0
      cbv
      refine ⟨zC om om, zC om om, yB om om, vF om om, zC om om, ?_⟩
      refine zX (σ := Nat × List UInt32 × List UInt32) (fun z => ⟨[(9, .int .i64 (fun _ => (s : Int))), (10, .osl 55 1 (fun _ => 0) (fun _ => p.length + 1)), (11, nat v), (12, .osl 66 1 (fun _ => 0) (fun _ => M)), (13, .int .i64 (fun _ => (z.1 : Int) - 1))], [(55, .arr 1 (fun _ => lm z.2.1)), (66, .arr 1 (fun _ => lm z.2.2))]⟩)
        (fun z => DivInv A V (p.length + 1) M z.1 z.2.1 z.2.2) (fun z => z.1) (M, u0, List.replicate M 0) ⟨zV _, hpadl, by simp, hA0, by simp [val]; exact hpadv⟩ (.le ?_ ?_ rfl) ?_
      · cbv
        exact ⟨lR, lR, lR, zU rfl (by (try dsimp only [zI] at *); simp only [zH]; omega), zE (by (try dsimp only [zI] at *); simp only [zH]; omega), trivial⟩
      · cbv
        exact ⟨zB rfl, zB (zBK M _ (by (try dsimp only [zI] at *); simp only [zH]; omega)), trivial⟩
      intro z hz
      generalize z.1 = k at *
      generalize z.2.1 = u at *
      generalize z.2.2 = out at *
      cbv
      refine zD (fun h3 => ?_) (fun h3 => ?_)
      · obtain ⟨i, rfl⟩ : ∃ i, k = i + 1 := ⟨k - 1, by (try dsimp only [zI] at *); omega⟩
        have hkle := hz.kle
        have hlo := hz.lo
        obtain ⟨e0, hxl, hprel, hxv, hstep⟩ := zSD (n := n) (q := zET (val ((u.drop i).take (n + 3))) V (nZ (v.getD (n + 1) 0).toNat (v.getD n 0).toNat ((((u.drop i).take (n + 3))).getD n 0).toNat (((((u.drop i).take (n + 3)).getD (n + 2) 0).toNat * B + (((u.drop i).take (n + 3)).getD (n + 1) 0).toNat) / (v.getD (n + 1) 0).toNat) (((((u.drop i).take (n + 3)).getD (n + 2) 0).toNat * B + (((u.drop i).take (n + 3)).getD (n + 1) 0).toNat) % (v.getD (n + 1) 0).toNat))) hz hVlt hV0 oM
        generalize (u.drop i).take (n + 3) = x at *
        generalize u.take i = pre at *
        generalize u.drop (i + (n + 3)) = post at *
        have hxt := zQ5 hxl
        have hxtl := w5 x n
        have hx2 := yL (x.getD n 0)
        have hv2 := yL (v.getD n 0)
        have hv1 := yL (v.getD (n + 1) 0)
        have hx1 := yL (x.getD (n + 1) 0)
        have hle : (x.getD (n + 2) 0).toNat ≤ (v.getD (n + 1) 0).toNat := by
          rcases wE (v.getD (n + 1) 0).toNat (x.getD (n + 2) 0).toNat with h4 | h4
          · exfalso
            have h5 := zR x (n + 2)
            rw [yN oM] at h5
            have h6 := wW (B ^ (n + 2)) (show (v.getD (n + 1) 0).toNat + 1 ≤ (x.getD (n + 2) 0).toNat from h4)
            have h7 : B * V < B * (B ^ (n + 1) * ((v.getD (n + 1) 0).toNat + 1)) := Nat.mul_lt_mul_of_pos_left (by rw [yE]; omega) wI
            rw [← vI, show B * B ^ (n + 1) = B ^ (n + 2) by rw [xS B (n + 1), v5]] at h7
            omega
          · exact h4
        have hS := s236 pre x post v n hxl hvl oM oM hnorm hle
        have htopv : 0 < (v.getD (n + 1) 0).toNat := by omega
        have htop : (x.getD (n + 2) 0).toNat * B + (x.getD (n + 1) 0).toNat < (v.getD (n + 1) 0).toNat * B + B := by
          have := qE B hle
          omega
        have hq0 : ((x.getD (n + 2) 0).toNat * B + (x.getD (n + 1) 0).toNat) / (v.getD (n + 1) 0).toNat ≤ B + 1 := by
          have h4 : (x.getD (n + 2) 0).toNat * B + (x.getD (n + 1) 0).toNat < (B + 2) * (v.getD (n + 1) 0).toNat := by
            rw [w7, v5 B (v.getD (n + 1) 0).toNat]
            omega
          have := (cQ htopv).2 h4
          omega
        have hr0 : ((x.getD (n + 2) 0).toNat * B + (x.getD (n + 1) 0).toNat) % (v.getD (n + 1) 0).toNat < B := dF (vR _ htopv) hv1
        have hE := zKG (U := val x) (V := V) (P := B ^ n) (ur := val (x.take n)) (vr := val (v.take n)) htopv hv2 hx2 hxt hvt hxtl hvtl hxv htop (B - ((x.getD (n + 2) 0).toNat * B + (x.getD (n + 1) 0).toNat) % (v.getD (n + 1) 0).toNat) _ _ (zV _) (zR9 htopv hxt hvt hxtl hx2) hr0 hq0
        generalize nZ (v.getD (n + 1) 0).toNat (v.getD n 0).toNat (x.getD n 0).toNat (((x.getD (n + 2) 0).toNat * B + (x.getD (n + 1) 0).toNat) / (v.getD (n + 1) 0).toNat) (((x.getD (n + 2) 0).toNat * B + (x.getD (n + 1) 0).toNat) % (v.getD (n + 1) 0).toNat) = q0 at *
        have hR := s235 pre x post v (n + 2) q0 hxl hvl oM oM hE.b (by rw [hvv]; exact hE.hi)
        rw [hvv] at hR
        have hdg := zSF hV0 hE
        obtain ⟨hdB, hinv⟩ := hstep hdg
        generalize zET (val x) V q0 = d at *
        have hi1 : ((i + 1 : Nat) : Int) - 1 = (i : Int) := by omega
        cbv
        (try dsimp only [zI] at *)
        refine ⟨zC om om, zC om om, m5 om om om, zNP om, ?_⟩
        refine yU (fun _ => 55) (.le (ps' := ⟨[(9, .int .i64 (fun _ => (s : Int))), (10, .osl 55 1 (fun _ => 0) (fun _ => p.length + 1)), (11, nat v), (12, .osl 66 1 (fun _ => 0) (fun _ => M)), (13, .int .i64 (fun _ => (i : Int))), (82, .osl 66 1 (fun _ => 0) (fun _ => M)), (83, .int .i64 (fun _ => (i : Int))), (84, .osl 55 1 (fun _ => pre.length) (fun _ => n + 2 + 1)), (85, nat v), (86, .osl 55 1 (fun _ => pre.length) (fun _ => n + 3)), (87, nat v)], [(55, .arr 1 (fun _ => lm (pre ++ (x ++ post)))), (66, .arr 1 (fun _ => lm out))]⟩) ?_ ?_ rfl) rfl okA hS ⟨⟨rfl, rfl⟩, trivial⟩ rfl rfl rfl rfl rfl rfl rfl rfl ?_
        · cbv
          refine ⟨lR, lR, lR, lR, zE om, lR, zE om, zU ?_ ?_, lR, zU ?_ ?_, lR, trivial⟩ <;> ((try dsimp only [zI] at *); (try simp only [zH]); omega)
        · cbv
          exact ⟨zB (by rw [e0]), zB rfl, trivial⟩
        cbv
        refine yU (fun _ => 55) (.refl _) rfl okA hR ⟨⟨rfl, rfl⟩, trivial⟩ rfl rfl rfl rfl rfl rfl rfl rfl ?_
        cbv
        refine ⟨zQ om om, gH i (by simp) oM ?_⟩
        cbv
        refine ⟨zC om om, (i, pre ++ (pad (val x - d * V) (n + 2 + 1) ++ post), out.set i (UInt32.ofNat d)), hinv, zBU i, .le ?_ ?_ rfl⟩
        · cbv
          exact okA
        · cbv
          exact ⟨zB rfl, zB (fJ out (by simp) rfl hdB), trivial⟩
      · have hk0 : k = 0 := by (try dsimp only [zI] at *); omega
        subst hk0
        have hlo := hz.lo
        have hlu := hz.lu
        have heq := hz.eq
        have hlt := hz.lt
        rw [uS, mT, mS] at heq
        rw [uS] at hlt
        have hQ : A / V = val out := Nat.div_eq_of_lt_le (by rw [v5]; omega) (by rw [v5, yE]; omega)
        have hRm : A % V = val u := by rw [← heq, zNE]; exact wO hlt
        cbv
        refine aR (.trans (.le (ps' := ⟨[(9, .int .i64 (fun _ => (s : Int))), (12, .osl 66 1 (fun _ => 0) (fun _ => M)), (92, .osl 55 1 (fun _ => 0) (fun _ => p.length + 1)), (93, .int .i64 (fun _ => (s : Int)))], [(55, .arr 1 (fun _ => lm u)), (66, .arr 1 (fun _ => lm out))]⟩) ?_ ?_ rfl) (.trans (.frz 55 rfl rfl ?_ ?_) (.frz 66 rfl rfl ?_ ?_))) rfl (by refine ⟨zY ?_, lR, trivial⟩; exact yN (by simp [zH] <;> omega)) (s237 u s oM oM) rfl ?_
        · cbv
          exact okA
        · cbv
          exact ⟨zB rfl, zB rfl, trivial⟩
        · cbv
          exact ⟨yG (by rw [zH]; omega), trivial⟩
        · exact trivial
        · cbv
          exact ⟨yG (by rw [zH]; omega), trivial⟩
        · exact trivial
        cbv
        refine wL rfl (by refine ⟨zY ?_, trivial⟩; exact yN (by simp [zH] <;> omega)) (cH out oM) rfl ?_
        cbv
        refine jB rfl ?_ rfl
        refine ⟨zY ?_, zY ?_, lR, trivial⟩
        · rw [hdiv, hQ]
        · rw [← hRm, hmod, Nat.mul_div_cancel _ hp2]
theorem kL {n m:Nat}(h:n<=m):(zF n).length<=(zF m).length:=by rcases wE (zF m).length (zF n).length with h1|h1;{have:=oP h1;omega};{exact h1}
theorem s225 (a b:List UInt32)(ha:a.length<2^39)(hb:b.length<2^39):zG 164 [nat a,nat b] (nat (zF (Nat.gcd (val a) (val b)))):=by
 refine sF Tryz.f164 ?_;have ha':=xJ (zS a) ha;have hb':=xJ (zS b) hb;have hBB:B*B=18446744073709551616:=by decide
 generalize hg:Nat.gcd (val a) (val b)=g;cbv;refine cA (cH a oM) ?_;cbv;refine cA (cH b oM) ?_;cbv;refine zX (σ:=Nat×Nat) (fun z=>⟨[(0,nat (zF z.1)),(1,nat (zF z.2))],[]⟩) (fun z=>(zF z.1).length<2^39/\(zF z.2).length<2^39/\Nat.gcd z.1 z.2=g) (fun z=>z.2) (val a,val b) ⟨ha',hb',hg⟩ (.le ?_ trivial rfl) ?_;{cbv;exact okA};intro z hz;obtain⟨h1,h2,h3⟩:=hz;generalize z.1=x at *
 generalize z.2=y at *
 cbv;refine zD (fun h4=>?_) (fun h4=>?_)
 ·(cbv;have hy:y≠0:=fun e=>by subst e;(try dsimp only [zI] at *);simp[lm,limbs_zero] at h4);refine cA (s226 (zF x) (zF y) h1 h2 (by rw[zM];exact hy)) ?_
  cbv;have hm:=vR x (cZ hy);refine⟨(y,x%y),⟨h2,xJ (kL (pZ hm)) h2,by rw[s7,<-Nat.gcd_rec,s7];exact h3⟩,hm,.le ?_ trivial rfl⟩;cbv;exact⟨lR,zY (by rw[zM,zM]),trivial⟩
 ·have hy2:y<B*B:=len2.1 (by (try dsimp only [zI] at *);rw[zH] at h4;omega);cbv;refine zD (fun h5=>?_) (fun h5=>?_);{have hy:y=0:=xX.1 (jS (by (try dsimp only [zI] at *);rw[zH] at h5;omega));subst hy;cbv;refine cA (s223 (zF x) oM) ?_;cbv;refine jB rfl (zY ?_) rfl;rw[zM,<-h3,zIY]}
  ·have hy:y≠0:=fun e=>h5 (by subst e;simp[lm,limbs_zero]);have hm:=vR x (cZ hy);cbv;refine cA (s226 (zF x) (zF y) h1 h2 (by rw[zM];exact hy)) ?_;rw[zM,zM];cbv;refine cA (s231 (zF y) oM) ?_;rw[zM,if_pos hy2];cbv;refine cA (s231 (zF (x%y)) (xJ (kL (pZ hm)) oM)) ?_;rw[zM,if_pos oM];cbv;refine zX (σ:=Nat×Nat) (fun z=>⟨[(11,.int .u64 (fun _=>(z.1:Int))),(13,.int .u64 (fun _=>(z.2:Int)))],[]⟩) (fun z=>z.1<B*B/\z.2<B*B/\Nat.gcd z.1 z.2=g) (fun z=>z.2) (y,x%y) ⟨hy2,by omega,by rw[s7,<-Nat.gcd_rec,s7];exact h3⟩ (.le ?_ trivial rfl) ?_;{cbv;exact okA};clear hm hy h3 h4 h5 h1 h2 hy2;intro z hz;obtain⟨h1,h2,h3⟩:=hz;generalize z.1=x at *
   generalize z.2=y at *
   cbv;refine zD (fun h4=>?_) (fun h4=>?_);{have hy:0<y:=om;have hm:=vR x hy;cbv;refine zT 5 (by cbv) ?_;cbv;refine⟨uI om,(y,x%y),⟨h2,by omega,by rw[s7,<-Nat.gcd_rec,s7];exact h3⟩,hm,.le ?_ trivial rfl⟩;cbv;exact⟨lR,zE jJ,trivial⟩};{have hy:y=0:=om;subst hy;cbv;refine cA (s211 x h1) ?_;cbv;refine jB rfl (zY ?_) rfl;rw[<-h3,zIY]}
end Go.Proofs.YtfainocfaddbdaaGreat
