/- A part of the proof: NtH, NtI. -/
import Derived.Test.YtfainocfaddbdaaGreatT18
set_option linter.all false
namespace Go.Proofs.YtfainocfaddbdaaGreat
open Go
set_option maxRecDepth 100000
theorem zFG {pre x post:List UInt32}{j:Nat}(h:j<x.length)(w:UInt32):(pre++(x++post)).set (pre.length+j) w=pre++(x.set j w++post):=by rw[List.set_append_right _ _ (by omega),List.set_append_left _ _ (by omega)];congr 3;omega
theorem zE1 {pre x post:List UInt32}{j w k:Nat}{z:Int}(hk:k=pre.length+j)(h:j<x.length)(hz:z=(w:Int))(hw:w<B):(lm (pre++(x++post))).set k [.int .u32 z]=lm (pre++(x.set j (UInt32.ofNat w)++post)):=by rw[<-zFG h];exact kK _ hk hz hw
theorem zG8 {pre x post:List UInt32}{j S k:Nat}(hk:k=pre.length+j)(h:j<x.length):(lm (pre++(x++post))).set k [.int .u32 (nx .u32 ((S:Nat):Int))]=lm (pre++(x.set j (UInt32.ofNat S)++post)):=by rw[<-zFG h];exact kL _ hk S
theorem zCC {u lo b:Nat}(hu:u<B)(hlo:lo<=B)(hb:b<2)(hlb:lo+b<=B):∃ w b':Nat,w<B/\b'<2/\u+B*b'=w+lo+b /\ nx .u64 (nx .u64 ((u:Int)-(lo:Int))-(b:Int))=(if b'=0 then (w:Int) else (w:Int)+18446744069414584320):=by
 simp only[B] at *
 by_cases h:u<lo+b;{refine⟨u+4294967296-lo-b,1,by omega,by omega,by omega,?_⟩;simp only[wT];rw[if_neg (by omega)];omega};{refine⟨u-lo-b,0,by omega,by omega,by omega,?_⟩;simp only[wT];simp only[if_true];omega}
theorem zFA {w b':Nat}(hw:w<B)(hb:b'<2):ishr .u64 (if b'=0 then (w:Int) else (w:Int)+18446744069414584320) 63=(b':Int):=by simp only[B] at hw;rw[zJW];split <;> omega
theorem zCV {w b':Nat}(hw:w<B):nx .u32 (if b'=0 then (w:Int) else (w:Int)+18446744069414584320)=(w:Int):=by simp only[B] at hw;rw[qY];split <;> omega
theorem zLC {P R t s:Nat}(ht:t<P)(hR:R<P)(h:t+P*s=P*B+R):s=B/\t=R:=by rcases Nat.lt_trichotomy s B with h1|h1|h1;{have:=Nat.mul_le_mul_left P (show s+1<=B from h1);rw[Nat.mul_add] at this;omega};{subst h1;exact⟨rfl,by omega⟩};{have:=Nat.mul_le_mul_left P (show B+1<=s from h1);rw[Nat.mul_add] at this;omega}
theorem s235 (pre x post v:List UInt32)(n q:Nat)(hx:x.length=n+1)(hv:v.length=n)(hn:n<2^40)(hp:pre.length<2^40)(hq:q<B)(hhi:q*val v<=val x+val v):Sound 173 [.osl 1000000 1 (fun _=>pre.length) (fun _=>n+1),nat v,.int .u64 (fun _=>(q:Int))] (kx pre x post) [] (.int .u32 (fun _=>((m0 (val x) (val v) q:Nat):Int))) (kx pre (pad (val x-m0 (val x) (val v) q*val v) (n+1)) post) []:=by
 refine sF Tryz.f173 ?_;have hB:B=4294967296:=rfl;have hBB:B*B=18446744073709551616:=by decide
 have hV:=xE v;rw[hv] at hV;have hdig:m0 (val x) (val v) q=if q*val v<=val x then q else q-1:=rfl
 generalize hD:m0 (val x) (val v) q=D at *
 generalize hF:pad (val x-D*val v) (n+1)=F;cbv;refine yB (σ:=Nat×Nat×Nat×List UInt32) (fun s=>⟨[(0,.osl 1000000 1 (fun _=>pre.length) (fun _=>n+1)),(1,nat v),(2,.int .u64 (fun _=>(q:Int))),(7,.int .u64 (fun _=>(s.2.1:Int))),(8,.int .u64 (fun _=>(s.2.2.1:Int))),(15,nat v),(16,.int .i64 (fun _=>(n:Int))),(17,.int .i64 (fun _=>(s.1:Int)))],kx pre s.2.2.2 post⟩)
  (fun s=>s.1<=n/\s.2.1<B/\s.2.2.1<2/\s.2.2.2.length=n+1/\s.2.2.2.drop s.1=x.drop s.1/\val (s.2.2.2.take s.1)+q*val (v.take s.1)=val (x.take s.1)+B^s.1*(s.2.1+s.2.2.1)) (fun s=>n-s.1)
  (0,0,0,x) ⟨om,xN,by show (0:Nat)<2;omega,hx,rfl,by simp[val]⟩ (.le ?_ ?_ rfl) ?_
 {cbv;exact⟨lR,lR,lR,lR,lR,lR,zC om,lR,trivial⟩};{cbv;exact⟨zA rfl,trivial⟩};intro s hs;obtain⟨h1,h2,h3,h4,h5,h6⟩:=hs;generalize s.1=i at *
 generalize s.2.1=c at *
 generalize s.2.2.1=b at *
 generalize s.2.2.2=y at *
 cbv;refine zF (fun h7=>?_) (fun h7=>?_)
 ·(have hin:i<n:=om;have hyx:y.getD i 0=x.getD i 0:=by have:=congrArg (fun l=>l.getD 0 0) h5;simpa using this);have hd:=yD (v.getD i 0);have hu:=yD (x.getD i 0);have hCl:c+q*(v.getD i 0).toNat<B*B:=by
   (have h8:q*(v.getD i 0).toNat<=(B-1)*(B-1):=Nat.mul_le_mul (by omega) (by omega);have h9:(B-1)*(B-1)+(B-1)<B*B:=by decide);omega
  (obtain⟨w,b',hw,hb',hwe,hz⟩:=zCC (u:=(x.getD i 0).toNat) (lo:=(c+q*(v.getD i 0).toNat)%B) (b:=b) hu (Nat.le_of_lt (Nat.mod_lt _ xN)) h3 (by have:=Nat.mod_lt (c+q*(v.getD i 0).toNat) xN;omega);have hC:nx .u64 ((c:Int)+nx .u64 ((q:Int)*nx .u64 (((v.getD i 0).toNat:Nat):Int)))=((c+q*(v.getD i 0).toNat:Nat):Int):=by rw[xG (n:=(v.getD i 0).toNat) (by omega)];have e1:nx .u64 ((q:Int)*(((v.getD i 0).toNat:Nat):Int))=((q*(v.getD i 0).toNat:Nat):Int):=xG (n:=q*(v.getD i 0).toNat) (by omega);rw[e1];exact xG (n:=c+q*(v.getD i 0).toNat) (by omega));have hlo:nx .u64 (nx .u32 ((c+q*(v.getD i 0).toNat:Nat):Int))=(((c+q*(v.getD i 0).toNat)%B:Nat):Int):=by
   (rw[qY,hB];have:(((c+q*(v.getD i 0).toNat:Nat):Int)%4294967296)=(((c+q*(v.getD i 0).toNat)%4294967296:Nat):Int):=by omega);rw[this]
   exact xG (by omega)
  (have hui:nx .u64 (((y.getD i 0).toNat:Nat):Int)=(((x.getD i 0).toNat:Nat):Int):=by rw[hyx];exact xG (by omega));have hZ:nx .u64 (nx .u64 (nx .u64 (((y.getD i 0).toNat:Nat):Int)-nx .u64 (nx .u32 (nx .u64 ((c:Int)+nx .u64 ((q:Int)*nx .u64 (((v.getD i 0).toNat:Nat):Int))))))-(b:Int))=(if b'=0 then (w:Int) else (w:Int)+18446744069414584320):=by rw[hC,hlo,hui];exact hz
  cbv;refine y5 i om om ?_;cbv;refine⟨zQ om om,fJ i om om ?_⟩;cbv;refine⟨zQ om om,fJ i om om ?_⟩;cbv;refine⟨wP (by omega),wP (by omega),zE om om,(i+1,(c+q*(v.getD i 0).toNat)/B,b',y.set i (UInt32.ofNat w)),⟨om,?_,hb',by simpa using h4,?_,?_⟩,om,.le ?_ ?_ rfl⟩;{rw[Nat.div_lt_iff_lt_mul xN];exact hCl};{show (y.set i _).drop (i+1)=x.drop (i+1);rw[List.drop_set_of_lt (by omega),<-List.drop_drop,<-List.drop_drop,h5]}
  ·show val ((y.set i _).take (i+1))+q*val (v.take (i+1))=val (x.take (i+1))+B^(i+1)*((c+q*(v.getD i 0).toNat)/B+b');rw[w7 _ om,zR v,zR x,xB,Nat.mod_eq_of_lt hw,Nat.pow_succ];have hdm:=Nat.mod_add_div (c+q*(v.getD i 0).toNat) B;generalize (c+q*(v.getD i 0).toNat)%B=lo at *
   generalize (c+q*(v.getD i 0).toNat)/B=hi at *
   generalize (v.getD i 0).toNat=d at *
   generalize (x.getD i 0).toNat=u at *
   generalize B^i=P at *
   have e1:P*u+P*B*(hi+b')=P*(w+q*d+c+b):=by rw[Nat.mul_assoc,<-Nat.mul_add];congr 1;rw[Nat.mul_add];omega
   (have e2:P*(w+q*d+c+b)=P*w+q*(P*d)+P*(c+b):=by rw[Nat.add_assoc,Nat.mul_add,Nat.mul_add,Nat.mul_left_comm q]);rw[Nat.mul_add q]
   omega
  ·cbv;refine⟨lR,lR,lR,zC ?_,zC ?_,lR,lR,zC om,trivial⟩
   ·(try dsimp only [zJ] at *)
    rw[hC];exact fH _
   ·(try dsimp only [zJ] at *)
    rw[hZ];exact zFA hw hb'
  ·cbv;have hset:(lm (pre++(y++post))).set (pre.length+(i:Int).toNat) [.int .u32 (nx .u32 (nx .u64 (nx .u64 (nx .u64 (((y.getD i 0).toNat:Nat):Int)-nx .u64 (nx .u32 (nx .u64 ((c:Int)+nx .u64 ((q:Int)*nx .u64 (((v.getD i 0).toNat:Nat):Int))))))-(b:Int))))]=lm (pre++(y.set i (UInt32.ofNat w)++post)) :=
    zE1 (by simp) (by omega) (by rw[hZ];exact zCV hw) hw
   exact⟨zA hset,trivial⟩
 ·have hin:i=n:=om;subst hin;have hyx:y.getD i 0=x.getD i 0:=by have:=congrArg (fun l=>l.getD 0 0) h5;simpa using this
  (have hu:=yD (x.getD i 0);obtain⟨w,b',hw,hb',hwe,hz⟩:=zCC (u:=(x.getD i 0).toNat) (lo:=c) (b:=b) hu (Nat.le_of_lt h2) h3 (by omega);have hui:nx .u64 (((y.getD i 0).toNat:Nat):Int)=(((x.getD i 0).toNat:Nat):Int):=by rw[hyx];exact xG (by omega));have hZ:nx .u64 (nx .u64 (nx .u64 (((y.getD i 0).toNat:Nat):Int)-(c:Int))-(b:Int))=(if b'=0 then (w:Int) else (w:Int)+18446744069414584320):=by rw[hui];exact hz
  have hTB:=zFA hw hb';have hLL:=zCV (w:=w) (b':=b') hw;generalize hzz:(if b'=0 then (w:Int) else (w:Int)+18446744069414584320)=zz at *
  have hi40:i<2^40:=hn;cbv;refine⟨zQ om om,fJ i om om ?_⟩;cbv;refine⟨zQ om om,fJ i om om ?_⟩;have hset:(lm (pre++(y++post))).set (pre.length+(((lm v).length:Nat):Int).toNat) [.int .u32 (nx .u32 (nx .u64 (nx .u64 (nx .u64 (((y.getD i 0).toNat:Nat):Int)-(c:Int))-(b:Int))))]=lm (pre++(y.set i (UInt32.ofNat w)++post)) :=
   zE1 (pre:=pre) (x:=y) (post:=post) (j:=i) (by rw[zG,hv];simp) (by omega) (by rw[hZ];exact hLL) hw
  (have hlen1:(y.set i (UInt32.ofNat w)).length=i+1:=by simpa using h4);have hval1:val (y.set i (UInt32.ofNat w))+q*val v=val x+B^(i+1)*b':=by
   have e1:=w7 y (n:=i) (by omega) (UInt32.ofNat w);have e2:=zR x i;rw[List.take_of_length_le (Nat.le_of_eq hlen1),xB,Nat.mod_eq_of_lt hw] at e1;rw[List.take_of_length_le (Nat.le_of_eq hx)] at e2;rw[List.take_of_length_le (Nat.le_of_eq hv)] at h6;rw[e1,e2,Nat.pow_succ,Nat.mul_assoc];generalize B^i=P at *
   (have e3:P*(x.getD i 0).toNat+P*(B*b')=P*w+P*(c+b):=by rw[<-Nat.mul_add,<-Nat.mul_add];congr 1;omega);omega
  have hlt1:=xE (y.set i (UInt32.ofNat w));rw[hlen1] at hlt1;generalize hy1:y.set i (UInt32.ofNat w)=y1 at *
  cbv;refine⟨wP (by omega),?_⟩;refine zF (fun h8=>?_) (fun h8=>?_)
  ·(have hb0:b'=0:=by (try dsimp only [zJ] at *);rw[hZ,hTB] at h8;omega);subst hb0
   (have hle:q*val v<=val x:=by omega);rw[if_pos hle] at hdig
   (have hy:y1=F:=by rw[<-hF,hdig];exact zEZ hlen1 (by omega));cbv;refine zJN (.le (ps':=⟨[(6,.int .u32 (fun _=>(D:Int)))],kx pre F post⟩) ?_ ?_ rfl) rfl (lR) rfl rfl rfl rfl
   {cbv;refine⟨zC ?_,trivial⟩;rw[hdig];show nx .u32 (q:Int)=(q:Int);rw[qY];omega};{cbv;refine⟨zA ?_,trivial⟩;rw[<-hy];exact hset}
  ·(have hb1:b'=1:=by (try dsimp only [zJ] at *);rw[hZ,hTB] at h8;omega);subst hb1
   (rw[Nat.mul_one] at hval1;have hgt:¬q*val v<=val x:=by omega);rw[if_neg hgt] at hdig
   (have hq1:0<q:=by rcases Nat.eq_zero_or_pos q with e|e;{rw[e] at hgt;simp at hgt};{exact e});cbv;refine yB (σ:=Nat×Nat×List UInt32) (fun s=>⟨[(0,.osl 1000000 1 (fun _=>pre.length) (fun _=>i+1)),(1,nat v),(2,.int .u64 (fun _=>(q:Int))),(7,.int .u64 (fun _=>(s.2.1:Int))),(70,nat v),(71,.int .i64 (fun _=>(i:Int))),(72,.int .i64 (fun _=>(s.1:Int)))],kx pre s.2.2 post⟩)
    (fun s=>s.1<=i/\s.2.1<2/\s.2.2.length=i+1/\s.2.2.drop s.1=y1.drop s.1/\val (s.2.2.take s.1)+B^s.1*s.2.1=val (y1.take s.1)+val (v.take s.1)) (fun s=>i-s.1)
    (0,0,y1) ⟨om,by show (0:Nat)<2;omega,hlen1,rfl,by simp[val]⟩ (.le ?_ ?_ rfl) ?_
   {cbv;exact⟨lR,lR,lR,lR,lR,zC (by rw[zG,hv]),lR,trivial⟩};{cbv;exact⟨zA hset,trivial⟩};intro s hs;obtain⟨k1,k2,k3,k4,k5⟩:=hs;generalize s.1=m at *
   generalize s.2.1=e at *
   generalize s.2.2=t at *
   (have htx:t.getD m 0=y1.getD m 0:=by have:=congrArg (fun l=>l.getD 0 0) k4;simpa using this);cbv;refine zF (fun k6=>?_) (fun k6=>?_)
   ·(have hin:m<i:=om;have hd:=yD (v.getD m 0);have ht:=yD (y1.getD m 0);have hS:nx .u64 ((e:Int)+nx .u64 (nx .u64 (((t.getD m 0).toNat:Nat):Int)+nx .u64 (((v.getD m 0).toNat:Nat):Int)))=((e+((y1.getD m 0).toNat+(v.getD m 0).toNat):Nat):Int):=by rw[htx];simp only[wT];omega);cbv
    refine y5 m om om ?_;cbv;refine⟨zQ om om,fJ m om om ?_⟩;cbv;refine⟨zQ om om,fJ m om om ?_⟩;cbv;refine⟨wP (by omega),zE om om,(m+1,(e+((y1.getD m 0).toNat+(v.getD m 0).toNat))/B,t.set m (UInt32.ofNat (e+((y1.getD m 0).toNat+(v.getD m 0).toNat)))),⟨om,?_,by simpa using k3,?_,?_⟩,om,.le ?_ ?_ rfl⟩;{show (e+((y1.getD m 0).toNat+(v.getD m 0).toNat))/B<2;rw[Nat.div_lt_iff_lt_mul xN];omega};{show (t.set m _).drop (m+1)=y1.drop (m+1);rw[List.drop_set_of_lt (by omega),<-List.drop_drop,<-List.drop_drop,k4]}
    ·show val ((t.set m _).take (m+1))+B^(m+1)*((e+((y1.getD m 0).toNat+(v.getD m 0).toNat))/B)=val (y1.take (m+1))+val (v.take (m+1));rw[w7 _ om,zR v,zR y1,xB,Nat.pow_succ];have hdm:=Nat.mod_add_div (e+((y1.getD m 0).toNat+(v.getD m 0).toNat)) B;generalize (e+((y1.getD m 0).toNat+(v.getD m 0).toNat))%B=lo at *
     generalize (e+((y1.getD m 0).toNat+(v.getD m 0).toNat))/B=hi at *
     generalize (v.getD m 0).toNat=d at *
     generalize (y1.getD m 0).toNat=u at *
     generalize B^m=P at *
     (have e1:P*lo+P*B*hi=P*e+P*u+P*d:=by rw[Nat.mul_assoc,<-Nat.mul_add,hdm,Nat.mul_add,Nat.mul_add];omega);omega
    ·cbv;refine⟨lR,lR,lR,zC ?_,lR,lR,zC om,trivial⟩
     (try dsimp only [zJ] at *)
     rw[hS];exact fH _
    ·(cbv;have hset2:(lm (pre++(t++post))).set (pre.length+(m:Int).toNat) [.int .u32 (nx .u32 (nx .u64 ((e:Int)+nx .u64 (nx .u64 (((t.getD m 0).toNat:Nat):Int)+nx .u64 (((v.getD m 0).toNat:Nat):Int)))))]=lm (pre++(t.set m (UInt32.ofNat (e+((y1.getD m 0).toNat+(v.getD m 0).toNat)))++post)):=by rw[hS];exact zG8 (by simp) (by omega));exact⟨zA hset2,trivial⟩
   ·(have hin:m=i:=om;subst hin;cbv;refine⟨zQ om om,fJ m om om ?_⟩;cbv;refine⟨zQ om om,fJ m om om ?_⟩;have hyt:=zR y1 m;rw[List.take_of_length_le (Nat.le_of_eq hlen1)] at hyt;rw[List.take_of_length_le (Nat.le_of_eq hv)] at k5;have htl:=xS t m;have hR:val x+val v-q*val v<B^m:=by omega);have hfin:=zLC (P:=B^m) (s:=e+(y1.getD m 0).toNat) htl hR (by rw[Nat.mul_add];rw[Nat.pow_succ] at hval1;omega)
    have ht1:=yD (y1.getD m 0);have hset3:(lm (pre++(t++post))).set (pre.length+(((lm v).length:Nat):Int).toNat) [.int .u32 (nx .u32 ((((t.getD m 0).toNat:Nat):Int)+nx .u32 (e:Int)))]=lm (pre++(t.set m (UInt32.ofNat 0)++post)) :=
     zE1 (w:=0) (by rw[zG,hv];simp) (by omega) (by rw[htx];simp only[qY];omega) xN
    (have hWV:val v<=q*val v:=Nat.le_mul_of_pos_left _ hq1;have hDv:D*val v=q*val v-val v:=by rw[hdig,Nat.sub_mul,Nat.one_mul]);have hF2:t.set m (UInt32.ofNat 0)=F:=by rw[<-hF];refine zEZ (by simpa using k3) ?_;have e1:=w7 t (n:=m) (by omega) (UInt32.ofNat 0);rw[List.take_of_length_le (by simp;omega)] at e1;rw[e1,hfin.2,hDv];simp only[xB,Nat.zero_mod,Nat.mul_zero,Nat.add_zero];omega
    cbv;refine zJN (.le (ps':=⟨[(6,.int .u32 (fun _=>(D:Int)))],kx pre F post⟩) ?_ ?_ rfl) rfl (lR) rfl rfl rfl rfl;{cbv;refine⟨zC ?_,trivial⟩;rw[hdig];show nx .u32 (nx .u64 ((q:Int)-1))=((q-1:Nat):Int);simp only[qY,wT];omega};{cbv;refine⟨zA ?_,trivial⟩;rw[<-hF2];exact hset3}
theorem yP {g:Operand}{as_:List Operand}{dst:Option Nat}{ps ps':PS}{K:PS->Prop}{f:FuncId}{caps cargs:List PV}{kept eaten:List (Nat×Obj')}{r:PV}{kept' made:List (Nat×Obj')}(hn:Nat->Nat)(hw:Wk ps ps') (h1:ev (zB ps'.tmps) g=.fn f caps) (h2:kP les (evs (ev (zB ps'.tmps)) as_++caps) (m9 hn cargs)) (h3:Sound f cargs kept eaten r kept' made) (h4:v5 hn ps'.objs (kept++eaten)) (h5:ndO (zW hn (kept++eaten))=true) (h5':ndO (kept++eaten)=true) (h6:dB (cJ (kept'++made)) (kept'++made)=true) (h7:ndO (zW hn made)=true) (h8:aM hn (sU hn eaten ps') made=true) (h9:yN lv cargs=true) (h10:lv r=true) (h11:nmIn (cJ (kept'++made)) r=true) (h12:K (put (aH hn eaten kept' made ps') dst (ren hn r))):CallOk g as_ dst ps K :=
 ⟨ps',hw,f,caps,h1,.inr ⟨hn,cargs,kept,eaten,r,kept',made,cL h2,h3,h4,h5,h5',h6,h7,h8,h9,h10,h11,h12⟩⟩
theorem mJ:∀ (n x:Nat),x<=n->x<4294967296->x<2^Lib.bitLen x
 |0,x,h,_=>by
  (have:x=0:=by omega);subst this
  exact Nat.two_pow_pos _
 |n+1,x,h,hx=>by rcases Nat.eq_zero_or_pos x with e|e;{subst e;exact Nat.two_pow_pos _};{rw[Lib.bitLen_half x (by omega) (by omega),Nat.add_comm,Nat.pow_succ];have:=mJ n (x/2) (by omega) (by omega);omega}
theorem zHM {x:Nat}(h:x≠0)(hx:x<4294967296):2^(Lib.bitLen x-1)<=x:=by rcases Nat.lt_or_ge x (2^(Lib.bitLen x-1)) with h1|h1;{have h2:=Lib.bitLen_le x (Lib.bitLen x-1) (by have:=jH hx;omega) h1;have:=rF h hx;omega};{exact h1}
theorem zD6 {x:Nat}(h:x≠0)(hx:x<4294967296):32-Lib.bitLen x<32/\2147483648<=x*2^(32-Lib.bitLen x)/\x*2^(32-Lib.bitLen x)<4294967296:=by
 have h1:=zHM h hx;have h2:=mJ x x (Nat.le_refl _) hx;have h3:=jH hx;have h4:=rF h hx;generalize Lib.bitLen x=k at *
 refine⟨by omega,?_,?_⟩
 ·(have h5:=Nat.mul_le_mul_right (2^(32-k)) h1;rw[<-Nat.pow_add] at h5;have:k-1+(32-k)=31:=by omega);rw[this] at h5
  exact h5
 ·(have h5:=Nat.mul_lt_mul_of_pos_right h2 (Nat.two_pow_pos (32-k));rw[<-Nat.pow_add] at h5;have:k+(32-k)=32:=by omega);rw[this] at h5
  exact h5
theorem zMC:Pg.funcs[165]?=some Tryz.f165:=by rw[xX];rfl
theorem zPC (a b:List UInt32)(ha:a.length<2^39)(hb:b.length<2^39)(h0:val b=0):zM 165 [nat a,nat b] (.tup [.nil,.nil,.int .i64 (fun _=>3)]):=by refine yH zMC rfl rfl rfl rfl rfl ?_;cbv;refine cA (jT a (by omega)) ?_;cbv;refine cA (jT b (by omega)) ?_;rw[h0,z6];cbv;refine zF (fun h=>?_) (fun h=>absurd rfl h);cbv;exact uI rfl okA rfl
theorem zM6 {p:List UInt32}(hc:jZ p=true){n:Nat}(hl:p.length=n+1):B^n<=val p:=by
 have hne:p≠[]:=fun e=>by rw[e] at hl;simp at hl
 have h1:=cS hne;rw[hc] at h1;have h2:(p.getD n 0).toNat≠0:=by
  (intro e;have:p.getD (p.length-1) 0=0:=by rw[hl];exact UInt32.toNat_inj.1 e);rw[this] at h1
  exact absurd h1 (by decide)
 have h3:=zR p n;rw[List.take_of_length_le (by omega)] at h3;have:=Nat.mul_le_mul_left (B^n) (show 1<=(p.getD n 0).toNat by omega);omega
structure DivInv (A V N M:Nat) (k:Nat) (u out:List UInt32):Prop where
 kle:k<=M
 lu:u.length=N
 lo:out.length=M
 lt:val (u.drop k)<V
 eq:val u+V*(B^k*val (out.drop k))=A
theorem zI2 {A V N M i n q:Nat}{u out:List UInt32}(h:DivInv A V N M (i+1) u out)(hV:V<B^(n+2))(h0:0<V)(hN:i+n+3<=N):let x:=(u.drop i).take (n+3)
  let pre:=u.take i
  let post:=u.drop (i+(n+3))
  u=pre++(x++post)/\x.length=n+3/\pre.length=i/\val x<B*V/\(q=val x/V->q<B/\DivInv A V N M i (pre++(pad (val x-q*V) (n+3)++post)) (out.set i (UInt32.ofNat q))):=by
 intro x pre post;have hlu:=h.lu;have e1:x++post=u.drop i:=by show (u.drop i).take (n+3)++u.drop (i+(n+3))=u.drop i;rw[<-List.drop_drop,List.take_append_drop]
 have e0:u=pre++(x++post):=by rw[e1];exact (List.take_append_drop i u).symm
 have hxl:x.length=n+3:=by show ((u.drop i).take (n+3)).length=_;rw[List.length_take,List.length_drop];omega
 have hpl:pre.length=i:=by show (u.take i).length=_;rw[List.length_take];omega
 have hpost:val post=0:=by
  (have h2:=nY (l:=u.drop (i+1)) (n+2) (by rw[List.length_drop];omega) (Nat.lt_trans h.lt hV);rw[List.drop_drop] at h2;have:i+1+(n+2)=i+(n+3):=by omega);rw[this] at h2
  exact h2
 have hdi:val (u.drop i)=val x:=by rw[<-e1,wD,hpost];omega
 have hxv:val x<B*V:=by have h3:=uC (l:=u) (i:=i) (by omega);have h4:=yD (u.getD i 0);have h5:=Nat.mul_le_mul_left B (show val (u.drop (i+1))+1<=V from h.lt);rw[Nat.mul_add] at h5;omega
 refine⟨e0,hxl,hpl,hxv,fun hq=>?_⟩;obtain⟨r1,r2,r3⟩:=zHJ (pre:=pre) (x:=x) (post:=post) (V:=V) (n:=n+2) hxl hpost (by rw[Nat.mul_comm];exact hxv) hV h0 hq;have r3:val (pre++(pad (val x-q*V) (n+3)++post))+V*(B^pre.length*q)=val (pre++(x++post)):=r3;have hk:=h.kle;have hlo:=h.lo;refine⟨r1,by omega,?_,by simpa using hlo,?_,?_⟩
 ·(have hpad:(pad (val x-q*V) (n+3)).length=n+3:=by refine fD (Nat.lt_of_le_of_lt (Nat.sub_le _ _) ?_);have:=xE x;rw[hxl] at this;exact this);rw[List.length_append,List.length_append,hpad,hpl];show i+(n+3+(u.drop (i+(n+3))).length)=N;rw[List.length_drop];omega
 {rw[List.drop_append_of_le_length (by omega),List.drop_of_length_le (by omega),List.nil_append];exact r2};{have h6:=h.eq;rw[<-e0,hpl] at r3;have h7:=rK (l:=out) (i:=i) (by omega) (UInt32.ofNat q);rw[xB,Nat.mod_eq_of_lt r1] at h7;rw[show B^(i+1)=B^i*B from Nat.pow_succ _ _] at h6;rw[h7,Nat.mul_add (B^i),Nat.mul_add V,<-Nat.mul_assoc (B^i) B];omega}
theorem s226 (a b : List UInt32) (ha : a.length < 2^39) (hb : b.length < 2^39) (h0 : val b ≠ 0) : zM 165 [nat a, nat b] (.tup [nat (zD (val a / val b)), nat (zD (val a % val b)), .int .i64 (fun _ => 0)]) := by
  refine yH zMC rfl rfl rfl rfl rfl ?_
  have ha' := Nat.lt_of_le_of_lt (zT a) ha
  have hb' := Nat.lt_of_le_of_lt (zT b) hb
  have hB : B = 4294967296 := rfl
  cbv
  refine cA (jT a (by omega)) ?_
  cbv
  refine cA (jT b (by omega)) ?_
  have hva : val (zD (val a)) = val a := zK _
  have hvb : val (zD (val b)) = val b := zK _
  have hca := f8 (val a)
  have hcb := f8 (val b)
  have hqne : (zD (val b)).length ≠ 0 := fun e => h0 (xI.1 (List.eq_nil_of_length_eq_zero e))
  have hlen : ¬ val a < val b → (zD (val b)).length ≤ (zD (val a)).length := by
    intro h
    rcases Nat.lt_or_ge (zD (val a)).length (zD (val b)).length with h1 | h1
    · exact absurd (p9 h1) h
    · exact h1
  generalize zD (val a) = p at *
  generalize zD (val b) = q at *
  cbv
  refine zF (fun h => absurd (show q.length = 0 by (try dsimp only [zJ] at *); rw [zG] at h; omega) hqne) (fun h => ?_)
  cbv
  refine cA (s162 p q (by omega) (by omega)) ?_
  rw [hva, hvb]
  have hcmp : vJ (val a) (val b) < 0 ↔ val a < val b := by
    unfold vJ
    split
    · omega
    · split <;> omega
  generalize vJ (val a) (val b) = cm at *
  cbv
  refine zF (fun h1 => ?_) (fun h1 => ?_)
  · have hlt := hcmp.1 h1
    cbv
    refine cA (s223 p (by omega)) ?_
    cbv
    refine uI rfl ?_ rfl
    refine ⟨zN ?_, zX ?_, lR, trivial⟩
    · rw [Nat.div_eq_of_lt hlt, z6]; rfl
    · rw [hva, Nat.mod_eq_of_lt hlt]
  · have hge : ¬ val a < val b := fun e => h1 (hcmp.2 e)
    have hlpq := hlen hge
    cbv
    refine zF (fun h2 => ?_) (fun h2 => ?_)
    · have hq1 : q.length = 1 := by (try dsimp only [zJ] at *); rw [zG] at h2; omega
      cbv
      refine y5 0 rfl (by omega) ?_
      cbv
      have hvq : val b = (q.getD 0 0).toNat := by
        have := zR q 0
        rw [List.take_of_length_le (by omega)] at this
        simp [val] at this
        rw [← hvb, this]
        simp
      refine cA (s232 p (q.getD 0 0).toNat (by omega) (yD _) (by omega)) ?_
      cbv
      refine uI rfl ?_ rfl
      exact ⟨zX (by rw [hva, hvq]), zX (by rw [hva, hvq]), lR, trivial⟩
    · have hq2 : q.length ≠ 1 := by (try dsimp only [zJ] at *); rw [zG] at h2; omega
      obtain ⟨n, hn⟩ : ∃ n, q.length = n + 2 := ⟨q.length - 2, by omega⟩
      have htl : (q.getD (n + 1) 0).toNat ≠ 0 := by
        intro e
        have h3 := cS (l := q) (fun e => by rw [e] at hn; simp at hn)
        have : q.getD (q.length - 1) 0 = 0 := by rw [hn]; exact UInt32.toNat_inj.1 e
        rw [this, hcb] at h3
        exact absurd h3 (by decide)
      obtain ⟨hs1, hs2, hs3⟩ := zD6 htl (yD (q.getD (n + 1) 0))
      have hbl := jH (yD (q.getD (n + 1) 0))
      cbv
      refine ⟨zE om om, y5 (n + 1) om om ?_⟩
      cbv
      refine cA (s233 (q.getD (n + 1) 0).toNat (yD _)) ?_
      have hsi : (32 : Int) - ((Lib.bitLen (q.getD (n + 1) 0).toNat : Nat) : Int) = ((32 - Lib.bitLen (q.getD (n + 1) 0).toNat : Nat) : Int) := by omega
      rw [hsi]
      generalize hsd : 32 - Lib.bitLen (q.getD (n + 1) 0).toNat = s at *
      cbv
      refine yP (fun _ => 55) (.refl _) rfl okA (s234 p s (by omega) hs1) trivial rfl rfl rfl rfl rfl rfl rfl rfl ?_
      cbv
      refine yP (fun _ => 58) (.refl _) rfl okA (s234 q s (by omega) hs1) trivial rfl rfl rfl rfl rfl rfl rfl rfl ?_
      cbv
      
      have hVlt : val q * 2 ^ s < B ^ (n + 2) := by
        have h3 := zR q (n + 1)
        have h4 := xS q (n + 1)
        rw [List.take_of_length_le (by omega)] at h3
        rw [h3, Nat.add_mul, Nat.mul_assoc, show B ^ (n + 2) = B ^ (n + 1) * B from Nat.pow_succ _ _]
        have h5 := Nat.mul_lt_mul_of_pos_right h4 (Nat.two_pow_pos s)
        have h6 : (q.getD (n + 1) 0).toNat * 2 ^ s + 2 ^ s ≤ B := by
          obtain ⟨z, hz⟩ : 2 ^ s ∣ B := ⟨2 ^ (32 - s), by rw [← Nat.pow_add]; have : s + (32 - s) = 32 := by omega
                                                          rw [this]; rfl⟩
          rw [hz, Nat.mul_comm _ (2 ^ s), ← Nat.mul_succ]
          refine Nat.mul_le_mul_left _ ?_
          have : 2 ^ s * (q.getD (n + 1) 0).toNat < 2 ^ s * z := by rw [← hz, Nat.mul_comm]; exact hs3
          exact Nat.lt_of_mul_lt_mul_left this
        have h7 := Nat.mul_le_mul_left (B ^ (n + 1)) h6
        rw [Nat.mul_add] at h7
        omega
      have hqge := zM6 hcb (n := n + 1) hn
      have hVge : B ^ (n + 1) * 2 ^ s ≤ val q * 2 ^ s := Nat.mul_le_mul_right _ hqge
      have hVtop : B ^ (n + 1) * 2147483648 ≤ val q * 2 ^ s := by
        have h3 := zR q (n + 1)
        rw [List.take_of_length_le (by omega)] at h3
        rw [h3, Nat.add_mul, Nat.mul_assoc]
        have := Nat.mul_le_mul_left (B ^ (n + 1)) hs2
        omega
      have hp2 := Nat.two_pow_pos s
      have hBn := Nat.pow_pos (n := n + 1) xN
      have hV0 : 0 < val q * 2 ^ s := by omega
      have hvl : (zD (val q * 2 ^ s)).length = n + 2 := by
        have h3 := z4 hVlt
        have h4 := nA (n := val q * 2 ^ s) (k := n + 1) (by omega)
        omega
      have hvv := zK (val q * 2 ^ s)
      have hpl := xE p
      have hA0 : val ((pad (val p * 2 ^ s) (p.length + 1)).drop (p.length - q.length + 1)) < val q * 2 ^ s := by
        have hpx : val p * 2 ^ s < B ^ (p.length + 1) := by
          rw [Nat.pow_succ]
          refine Nat.lt_of_lt_of_le (Nat.mul_lt_mul_of_pos_right hpl hp2) (Nat.mul_le_mul_left _ ?_)
          exact Nat.le_of_lt (Nat.pow_lt_pow_right (show 1 < 2 by omega) hs1)
        have h3 := rL (l := pad (val p * 2 ^ s) (p.length + 1)) (p.length - q.length + 1) (by rw [fD hpx]; omega)
        rw [rI] at h3
        have h4 : B ^ p.length = B ^ (p.length - q.length + 1) * B ^ (n + 1) := by rw [← Nat.pow_add]; congr 1; omega
        have h5 : B ^ (p.length - q.length + 1) * val ((pad (val p * 2 ^ s) (p.length + 1)).drop (p.length - q.length + 1)) < B ^ (p.length - q.length + 1) * (B ^ (n + 1) * 2 ^ s) := by
          rw [← Nat.mul_assoc, ← h4]
          have := Nat.mul_lt_mul_of_pos_right hpl hp2
          omega
        have := Nat.lt_of_mul_lt_mul_left h5
        omega
      have hpadl : (pad (val p * 2 ^ s) (p.length + 1)).length = p.length + 1 := by
        refine fD ?_
        rw [Nat.pow_succ]
        refine Nat.lt_of_lt_of_le (Nat.mul_lt_mul_of_pos_right hpl hp2) (Nat.mul_le_mul_left _ ?_)
        exact Nat.le_of_lt (Nat.pow_lt_pow_right (show 1 < 2 by omega) hs1)
      have hpadv := rI (val p * 2 ^ s) (p.length + 1)
      have hfrz : ((lm (pad (val q * 2 ^ s) (q.length + 1))).drop 0).take (q.length + 1) = lm (pad (val q * 2 ^ s) (q.length + 1)) := by
        rw [List.drop_zero]
        refine List.take_of_length_le ?_
        rw [zG, fD (Nat.lt_trans hVlt (by rw [hn]; exact Nat.pow_lt_pow_right (by decide) (by omega)))]
        exact Nat.le_refl _
      have hpql : (pad (val q * 2 ^ s) (q.length + 1)).length = q.length + 1 :=
        fD (Nat.lt_trans hVlt (by rw [hn]; exact Nat.pow_lt_pow_right (by decide) (by omega)))
      have hvpq := rI (val q * 2 ^ s) (q.length + 1)
      generalize pad (val q * 2 ^ s) (q.length + 1) = vq at *
      generalize hU0 : pad (val p * 2 ^ s) (p.length + 1) = u0 at *
      refine fO (.trans (.le (ps' := ⟨[(0, nat p), (1, nat q), (9, .int .i64 (fun _ => (s : Int))), (55, .osl 55 1 (fun _ => 0) (fun _ => p.length + 1)), (58, .osl 58 1 (fun _ => 0) (fun _ => q.length + 1))], [(55, .arr 1 (fun _ => lm u0)), (58, .arr 1 (fun _ => lm vq))]⟩) ?_ ?_ rfl) (.frz 58 rfl rfl ?_ ?_)) rfl (by refine ⟨zX ?_, trivial⟩; exact hfrz) (jT vq (by omega)) rfl ?_
      · cbv
        exact okA
      · cbv
        exact ⟨zA rfl, zA rfl, trivial⟩
      · cbv
        refine ⟨yL ?_, trivial⟩
        rw [zG]; omega
      · exact trivial
      rw [hvpq]
      have hdiv : val a / val b = val p * 2 ^ s / (val q * 2 ^ s) := by rw [hva, hvb, Nat.mul_div_mul_right _ _ hp2]
      have hmod : val p * 2 ^ s % (val q * 2 ^ s) = (val a % val b) * 2 ^ s := by rw [hva, hvb, Nat.mul_mod_mul_right]
      clear hVge hqge hfrz
      generalize hVV : val q * 2 ^ s = V at *
      generalize zD V = v at *
      generalize hAA : val p * 2 ^ s = A at *
      have hvt := zH1 hvl
      rw [hvv] at hvt
      have hvtl := xS v n
      have hvtl1 := xS v (n + 1)
      have hvtop := zR v (n + 1)
      rw [List.take_of_length_le (by omega), hvv] at hvtop
      have hnorm : B ≤ 2 * (v.getD (n + 1) 0).toNat := by
        rcases Nat.lt_or_ge (2 * (v.getD (n + 1) 0).toNat) B with h3 | h3
        · exfalso
          have h4 := Nat.mul_le_mul_left (B ^ (n + 1)) (show (v.getD (n + 1) 0).toNat + 1 ≤ 2147483648 by omega)
          rw [Nat.mul_add] at h4
          omega
        · exact h3
      obtain ⟨M, hM⟩ : ∃ M, M = p.length - q.length + 1 := ⟨_, rfl⟩
      rw [← hM] at hA0
      cbv
      refine ⟨zE om om, zE om om, yJ om om, wM om om, zE om om, ?_⟩
      refine yB (σ := Nat × List UInt32 × List UInt32) (fun z => ⟨[(9, .int .i64 (fun _ => (s : Int))), (10, .osl 55 1 (fun _ => 0) (fun _ => p.length + 1)), (11, nat v), (12, .osl 66 1 (fun _ => 0) (fun _ => M)), (13, .int .i64 (fun _ => (z.1 : Int) - 1))], [(55, .arr 1 (fun _ => lm z.2.1)), (66, .arr 1 (fun _ => lm z.2.2))]⟩)
        (fun z => DivInv A V (p.length + 1) M z.1 z.2.1 z.2.2) (fun z => z.1) (M, u0, List.replicate M 0) ⟨Nat.le_refl _, hpadl, by simp, hA0, by simp [val]; exact hpadv⟩ (.le ?_ ?_ rfl) ?_
      · cbv
        exact ⟨lR, lR, lR, z5 rfl (by (try dsimp only [zJ] at *); simp only [zG]; omega), zC (by (try dsimp only [zJ] at *); simp only [zG]; omega), trivial⟩
      · cbv
        exact ⟨zA rfl, zA (t5 M _ (by (try dsimp only [zJ] at *); simp only [zG]; omega)), trivial⟩
      intro z hz
      generalize z.1 = k at *
      generalize z.2.1 = u at *
      generalize z.2.2 = out at *
      cbv
      refine zF (fun h3 => ?_) (fun h3 => ?_)
      · obtain ⟨i, rfl⟩ : ∃ i, k = i + 1 := ⟨k - 1, by (try dsimp only [zJ] at *); omega⟩
        have hkle := hz.kle
        have hlo := hz.lo
        obtain ⟨e0, hxl, hprel, hxv, hstep⟩ := zI2 (n := n) (q := m0 (val ((u.drop i).take (n + 3))) V (aY (v.getD (n + 1) 0).toNat (v.getD n 0).toNat ((((u.drop i).take (n + 3))).getD n 0).toNat (((((u.drop i).take (n + 3)).getD (n + 2) 0).toNat * B + (((u.drop i).take (n + 3)).getD (n + 1) 0).toNat) / (v.getD (n + 1) 0).toNat) (((((u.drop i).take (n + 3)).getD (n + 2) 0).toNat * B + (((u.drop i).take (n + 3)).getD (n + 1) 0).toNat) % (v.getD (n + 1) 0).toNat))) hz hVlt hV0 (by omega)
        generalize (u.drop i).take (n + 3) = x at *
        generalize u.take i = pre at *
        generalize u.drop (i + (n + 3)) = post at *
        have hxt := zH0 hxl
        have hxtl := xS x n
        have hx2 := yD (x.getD n 0)
        have hv2 := yD (v.getD n 0)
        have hv1 := yD (v.getD (n + 1) 0)
        have hx1 := yD (x.getD (n + 1) 0)
        have hle : (x.getD (n + 2) 0).toNat ≤ (v.getD (n + 1) 0).toNat := by
          rcases Nat.lt_or_ge (v.getD (n + 1) 0).toNat (x.getD (n + 2) 0).toNat with h4 | h4
          · exfalso
            have h5 := zR x (n + 2)
            rw [List.take_of_length_le (by omega)] at h5
            have h6 := Nat.mul_le_mul_left (B ^ (n + 2)) (show (v.getD (n + 1) 0).toNat + 1 ≤ (x.getD (n + 2) 0).toNat from h4)
            have h7 : B * V < B * (B ^ (n + 1) * ((v.getD (n + 1) 0).toNat + 1)) := Nat.mul_lt_mul_of_pos_left (by rw [Nat.mul_add]; omega) xN
            rw [← Nat.mul_assoc, show B * B ^ (n + 1) = B ^ (n + 2) by rw [Nat.pow_succ B (n + 1), Nat.mul_comm]] at h7
            omega
          · exact h4
        have hS := s236 pre x post v n hxl hvl (by omega) (by omega) hnorm hle
        have htopv : 0 < (v.getD (n + 1) 0).toNat := by omega
        have htop : (x.getD (n + 2) 0).toNat * B + (x.getD (n + 1) 0).toNat < (v.getD (n + 1) 0).toNat * B + B := by
          have := Nat.mul_le_mul_right B hle
          omega
        have hq0 : ((x.getD (n + 2) 0).toNat * B + (x.getD (n + 1) 0).toNat) / (v.getD (n + 1) 0).toNat ≤ B + 1 := by
          have h4 : (x.getD (n + 2) 0).toNat * B + (x.getD (n + 1) 0).toNat < (B + 2) * (v.getD (n + 1) 0).toNat := by
            rw [Nat.add_mul, Nat.mul_comm B (v.getD (n + 1) 0).toNat]
            omega
          have := (Nat.div_lt_iff_lt_mul htopv).2 h4
          omega
        have hr0 : ((x.getD (n + 2) 0).toNat * B + (x.getD (n + 1) 0).toNat) % (v.getD (n + 1) 0).toNat < B := Nat.lt_trans (Nat.mod_lt _ htopv) hv1
        have hE := zDD (U := val x) (V := V) (P := B ^ n) (ur := val (x.take n)) (vr := val (v.take n)) htopv hv2 hx2 hxt hvt hxtl hvtl hxv htop (B - ((x.getD (n + 2) 0).toNat * B + (x.getD (n + 1) 0).toNat) % (v.getD (n + 1) 0).toNat) _ _ (Nat.le_refl _) (zIZ htopv hxt hvt hxtl hx2) hr0 hq0
        generalize aY (v.getD (n + 1) 0).toNat (v.getD n 0).toNat (x.getD n 0).toNat (((x.getD (n + 2) 0).toNat * B + (x.getD (n + 1) 0).toNat) / (v.getD (n + 1) 0).toNat) (((x.getD (n + 2) 0).toNat * B + (x.getD (n + 1) 0).toNat) % (v.getD (n + 1) 0).toNat) = q0 at *
        have hR := s235 pre x post v (n + 2) q0 hxl hvl (by omega) (by omega) hE.b (by rw [hvv]; exact hE.hi)
        rw [hvv] at hR
        have hdg := zI4 hV0 hE
        obtain ⟨hdB, hinv⟩ := hstep hdg
        generalize m0 (val x) V q0 = d at *
        have hi1 : ((i + 1 : Nat) : Int) - 1 = (i : Int) := by omega
        cbv
        (try dsimp only [zJ] at *)
        refine ⟨zE om om, zE om om, aD om om om, zFD om, ?_⟩
        refine yP (fun _ => 55) (.le (ps' := ⟨[(9, .int .i64 (fun _ => (s : Int))), (10, .osl 55 1 (fun _ => 0) (fun _ => p.length + 1)), (11, nat v), (12, .osl 66 1 (fun _ => 0) (fun _ => M)), (13, .int .i64 (fun _ => (i : Int))), (82, .osl 66 1 (fun _ => 0) (fun _ => M)), (83, .int .i64 (fun _ => (i : Int))), (84, .osl 55 1 (fun _ => pre.length) (fun _ => n + 2 + 1)), (85, nat v), (86, .osl 55 1 (fun _ => pre.length) (fun _ => n + 3)), (87, nat v)], [(55, .arr 1 (fun _ => lm (pre ++ (x ++ post)))), (66, .arr 1 (fun _ => lm out))]⟩) ?_ ?_ rfl) rfl okA hS ⟨⟨rfl, rfl⟩, trivial⟩ rfl rfl rfl rfl rfl rfl rfl rfl ?_
        · cbv
          refine ⟨lR, lR, lR, lR, zC om, lR, zC om, z5 ?_ ?_, lR, z5 ?_ ?_, lR, trivial⟩ <;> ((try dsimp only [zJ] at *); (try simp only [zG]); omega)
        · cbv
          exact ⟨zA (by rw [e0]), zA rfl, trivial⟩
        cbv
        refine yP (fun _ => 55) (.refl _) rfl okA hR ⟨⟨rfl, rfl⟩, trivial⟩ rfl rfl rfl rfl rfl rfl rfl rfl ?_
        cbv
        refine ⟨zQ om om, qI i (by simp) (by omega) ?_⟩
        cbv
        refine ⟨zE om om, (i, pre ++ (pad (val x - d * V) (n + 2 + 1) ++ post), out.set i (UInt32.ofNat d)), hinv, Nat.lt_succ_self i, .le ?_ ?_ rfl⟩
        · cbv
          exact okA
        · cbv
          exact ⟨zA rfl, zA (kK out (by simp) rfl hdB), trivial⟩
      · have hk0 : k = 0 := by (try dsimp only [zJ] at *); omega
        subst hk0
        have hlo := hz.lo
        have hlu := hz.lu
        have heq := hz.eq
        have hlt := hz.lt
        rw [List.drop_zero, Nat.pow_zero, Nat.one_mul] at heq
        rw [List.drop_zero] at hlt
        have hQ : A / V = val out := Nat.div_eq_of_lt_le (by rw [Nat.mul_comm]; omega) (by rw [Nat.mul_comm, Nat.mul_add]; omega)
        have hRm : A % V = val u := by rw [← heq, Nat.add_mul_mod_self_left]; exact Nat.mod_eq_of_lt hlt
        cbv
        refine fO (.trans (.le (ps' := ⟨[(9, .int .i64 (fun _ => (s : Int))), (12, .osl 66 1 (fun _ => 0) (fun _ => M)), (92, .osl 55 1 (fun _ => 0) (fun _ => p.length + 1)), (93, .int .i64 (fun _ => (s : Int)))], [(55, .arr 1 (fun _ => lm u)), (66, .arr 1 (fun _ => lm out))]⟩) ?_ ?_ rfl) (.trans (.frz 55 rfl rfl ?_ ?_) (.frz 66 rfl rfl ?_ ?_))) rfl (by refine ⟨zX ?_, lR, trivial⟩; exact List.take_of_length_le (by simp [zG] <;> omega)) (s237 u s (by omega) (by omega)) rfl ?_
        · cbv
          exact okA
        · cbv
          exact ⟨zA rfl, zA rfl, trivial⟩
        · cbv
          exact ⟨yL (by rw [zG]; omega), trivial⟩
        · exact trivial
        · cbv
          exact ⟨yL (by rw [zG]; omega), trivial⟩
        · exact trivial
        cbv
        refine wA rfl (by refine ⟨zX ?_, trivial⟩; exact List.take_of_length_le (by simp [zG] <;> omega)) (jT out (by omega)) rfl ?_
        cbv
        refine uI rfl ?_ rfl
        refine ⟨zX ?_, zX ?_, lR, trivial⟩
        · rw [hdiv, hQ]
        · rw [← hRm, hmod, Nat.mul_div_cancel _ hp2]
end Go.Proofs.YtfainocfaddbdaaGreat
