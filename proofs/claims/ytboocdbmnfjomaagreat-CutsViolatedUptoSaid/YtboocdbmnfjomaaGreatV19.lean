/- A part of the proof: ReC, ReD. -/
import Derived.Test.YtboocdbmnfjomaaGreatV18
set_option linter.all false
namespace Go.Proofs.YtboocdbmnfjomaaGreat
open Go
set_option maxRecDepth 100000
def s99 (a b:List UInt32)(ha:a.length<2^39)(hb:b.length<2^39):zH 101 [nat a,nat b] (nat (zL (val a*val b))):=by
 refine sF Tryz.f101 ?_;have hBB:B*B=18446744073709551616:=by decide
 have hB:B=4294967296:=rfl;generalize hW:zL (val a*val b)=W;cbv;refine⟨zE om om,zE om om,zV om om,uU om om,?_⟩;cbv;refine zY (σ:=Nat×List UInt32) (λs=>⟨[(0,nat a),(1,nat b),(5,zT 15 1 (a.length+b.length+1)),(6,iV s.1)],[(15,zW 1 (lm s.2))]⟩)
  (λs=>s.1<=a.length/\s.2.length=a.length+b.length+1/\val s.2=val (a.take s.1)*val b) (λs=>a.length-s.1)
  (0,List.replicate (a.length+b.length+1) 0) ⟨xO _,by simp,by simp[val,fL]⟩ (.le ?_ ?_ rfl) ?_
 {cbv;exact⟨lR,lR,zR rfl (by (try dsimp only [zS] at *);grind [zJ]),lR,trivial⟩};{cbv;exact⟨zC (ZE _ _ (by (try dsimp only [zS] at *);grind [zJ])),trivial⟩};intro s hs;obtain⟨h1,h2,h3⟩:=hs;generalize s.1=i at *;generalize s.2=out at *;cbv;refine zG (λh4=>?_) (λh4=>?_)
 ·have hi:i<a.length:=om;have hx:=yT (a.getD i 0);have hta:=z7 a i;cbv;refine zY (σ:=Nat×Nat×List UInt32) (λs=>⟨[(0,nat a),(1,nat b),(5,zT 15 1 (a.length+b.length+1)),(6,iV i),(7,.int .u64 (λ_=>(s.2.1:Int))),(8,iV s.1)],[(15,zW 1 (lm s.2.2))]⟩)
   (λs=>s.1<=b.length+1/\s.2.1<B/\s.2.2.length=a.length+b.length+1/\val s.2.2+B^(i+s.1)*s.2.1=val (a.take i)*val b+B^i*((a.getD i 0).toNat*val (b.take s.1))) (λs=>b.length+1-s.1)
   (0,0,out) ⟨xO _,vY,h2,by simp[val,h3]⟩ (.le ?_ ?_ rfl) ?_
  {cbv;exact okA};{cbv;exact⟨zC rfl,trivial⟩};intro s hs;obtain⟨k1,k2,k3,k4⟩:=hs;generalize s.1=k at *;generalize s.2.1=c at *;generalize s.2.2=o at *;have cb:=JW b k oM;have hy:=yT (b.getD k 0);have ho:=yT (o.getD (i+k) 0);cbv;refine zG (λh5=>?_) (λh5=>?_)
  ·(have hk:k<=b.length:=om;have hm:(a.getD i 0).toNat*(b.getD k 0).toNat<=(B-1)*(B-1):=B9 oM oM;have hmB:(B-1)*(B-1)+(B-1)+(B-1)<B*B:=by decide);have hTl:c+((a.getD i 0).toNat*(b.getD k 0).toNat+(o.getD (i+k) 0).toNat)<B*B:=by omega
   (have hS:nx .u64 ((c:Int)+nx .u64 (nx .u64 (nx .u64 (((a.getD i 0).toNat:Nat):Int)*nx .u64 (((b.getD k 0).toNat:Nat):Int))+nx .u64 (((o.getD (i+k) 0).toNat:Nat):Int)))=((c+((a.getD i 0).toNat*(b.getD k 0).toNat+(o.getD (i+k) 0).toNat):Nat):Int):=by rw[x5 (n:=(a.getD i 0).toNat) oM,x5 (n:=(b.getD k 0).toNat) oM,x5 (n:=(o.getD (i+k) 0).toNat) oM];have e1:nx .u64 ((((a.getD i 0).toNat:Nat):Int)*(((b.getD k 0).toNat:Nat):Int))=(((a.getD i 0).toNat*(b.getD k 0).toNat:Nat):Int):=x5 (n:=(a.getD i 0).toNat*(b.getD k 0).toNat) oM;rw[e1];have e2:nx .u64 ((((a.getD i 0).toNat*(b.getD k 0).toNat:Nat):Int)+(((o.getD (i+k) 0).toNat:Nat):Int))=(((a.getD i 0).toNat*(b.getD k 0).toNat+(o.getD (i+k) 0).toNat:Nat):Int):=x5 (n:=(a.getD i 0).toNat*(b.getD k 0).toNat+(o.getD (i+k) 0).toNat) oM;rw[e2];exact x5 (n:=c+((a.getD i 0).toNat*(b.getD k 0).toNat+(o.getD (i+k) 0).toNat)) oM);cbv;refine zP 20 (by cbv) ?_;cbv;refine xM i (by (grind) <;> (try simp only[zJ] at *) <;> omega) om ?_;cbv;refine dA cb ?_;cbv;refine⟨zE om om,z9 om om,gI (i+k) (by exact om) om ?_⟩;cbv;refine⟨zE om om,z9 om om,gI (i+k) (by exact om) om ?_⟩;cbv;refine⟨uD oM,zE om om,(k+1,(c+((a.getD i 0).toNat*(b.getD k 0).toNat+(o.getD (i+k) 0).toNat))/B,o.set (i+k) (UInt32.ofNat (c+((a.getD i 0).toNat*(b.getD k 0).toNat+(o.getD (i+k) 0).toNat)))),⟨by omega,?_,by grind,?_⟩,by omega,.le ?_ ?_ rfl⟩;{grind}
   ·(show val (o.set (i+k) _)+B^(i+(k+1))*((c+((a.getD i 0).toNat*(b.getD k 0).toNat+(o.getD (i+k) 0).toNat))/B)=val (a.take i)*val b+B^i*((a.getD i 0).toNat*val (b.take (k+1)));have e1:=s8 o (j:=i+k) oM (UInt32.ofNat (c+((a.getD i 0).toNat*(b.getD k 0).toNat+(o.getD (i+k) 0).toNat)));rw[xX] at e1;rw[z7 b,show B^(i+(k+1))=B^(i+k)*B by grind];have hdm:=WU (c+((a.getD i 0).toNat*(b.getD k 0).toNat+(o.getD (i+k) 0).toNat)) B;have e3:B^i*((a.getD i 0).toNat*(val (b.take k)+B^k*(b.getD k 0).toNat))=B^i*((a.getD i 0).toNat*val (b.take k))+B^(i+k)*((a.getD i 0).toNat*(b.getD k 0).toNat):=by rw[kP,kP,jS,Nat.mul_left_comm (a.getD i 0).toNat,<-gM (B^i) (B^k)]);rw[e3]
    generalize val (o.set (i+k) (UInt32.ofNat (c+((a.getD i 0).toNat*(b.getD k 0).toNat+(o.getD (i+k) 0).toNat))))=vo at *;generalize (c+((a.getD i 0).toNat*(b.getD k 0).toNat+(o.getD (i+k) 0).toNat))%B=lo at *;generalize (c+((a.getD i 0).toNat*(b.getD k 0).toNat+(o.getD (i+k) 0).toNat))/B=hi' at *;grind
   ·cbv;refine⟨lR,lR,lR,lR,zF ?_,zF om,trivial⟩
    (try dsimp only [zS] at *)
    rw[hS];exact sN _
   ·cbv;refine⟨zC ?_,trivial⟩
    (try dsimp only [zS] at *)
    rw[hS];exact fW o oM _
  ·(have hk:k=b.length+1:=om;rw[yU (show b.length<=k by omega)] at k4;have hfull:val (a.take i)*val b+B^i*((a.getD i 0).toNat*val b)=val (a.take (i+1))*val b:=by grind);rw[hfull] at k4
   have hc0:c=0:=by
    (have e1:=Z3 (wY a (i+1)) (xZ b);have e0:i+1+b.length=i+k:=by omega);rw[<-jS,e0] at e1
    generalize B^(i+k)=P at *;rcases tQ c with e2|e2;{exact e2};{exfalso;have e3:P*1<=P*c:=wN P e2;omega}
   (have k5:val o=val (a.take (i+1))*val b:=by grind);cbv
   refine⟨zE om om,(i+1,o),⟨hi,k3,k5⟩,by omega,.le ?_ ?_ rfl⟩;{cbv;exact⟨lR,lR,lR,zF om,trivial⟩};{cbv;exact⟨zC rfl,trivial⟩}
 {have hi:i=a.length:=om;rw[hi,yU (yQ _)] at h3;have cm:=iH out oM;rw[h3,hW] at cm;cbv;refine j4 (.frz 15 rfl rfl ?_ ?_) rfl (by refine⟨zU ?_,trivial⟩;exact yU (by show ((lm out).drop 0).length<=a.length+b.length+1;rw[vS,zJ];omega)) cm rfl ?_;{cbv;exact⟨z6 (by grind [zJ]),z6 (by grind [zJ]),trivial⟩};{exact trivial};cbv;exact rA}
def AS (a:List UInt32) (k:Nat):Option (Nat×Nat×List UInt32)->Prop
 |none=>True| some s=>s.1<=a.length/\s.2.1<2^k/\s.2.2.length=s.1/\val s.2.2+B^s.1*s.2.1=val (a.take s.1)*2^k
def S5 (a:List UInt32):Option (Nat×Nat×List UInt32)->Nat
 |none=>a.length+1| some s=>a.length-s.1
def PO (a:List UInt32)(k:Nat)(ha:a.length<2^40)(hk:k<32):zH 205 [nat a,iV k] (nat (zL (val a*2^k))):=by
 refine sF Tryz.f205 ?_;generalize hW:zL (val a*2^k)=W;have hk2:=eC k;have hq:nx .i64 (iquo (k:Int) 32)=0:=by grind [iquo,XH]
 have hr:irem (k:Int) 32=(k:Int):=by have:=dM (a:=k) (b:=32);grind
 obtain⟨i0,hi0⟩:∃ i0:Nat,i0=0:=⟨0,rfl⟩;obtain⟨c0,hc0⟩:∃ c0:Nat,c0=0:=⟨0,rfl⟩;obtain⟨out0,hout0⟩:∃ out0:List UInt32,out0=[]:=⟨[],rfl⟩;cbv;refine⟨kN oM,zV (by exact om) (by exact om),uU (by exact om) (by exact om),?_⟩;cbv;refine zY (σ:=Option (Nat×Nat×List UInt32)) (λs=>match s with
   |none=>⟨[(0,nat a),(1,iV k),(5,zT 10 1 i0),(6,.int .u64 (λ_=>(c0:Int))),(7,iV i0)],[(10,zW 1 (lm out0))]⟩| some s=>⟨[(0,nat a),(1,iV k),(5,zT 31 1 s.1),(6,.int .u64 (λ_=>(s.2.1:Int))),(7,iV s.1)],[(31,zW 1 (lm s.2.2))]⟩)
  (AS a k) (S5 a) none trivial (.le ?_ ?_ rfl) ?_
 {cbv;exact⟨lR,lR,zR rfl (by exact om),zF (by grind),zF (by grind),trivial⟩};{cbv;exact⟨zC (by (try dsimp only [zS] at *);rw[hq,hout0];rfl),trivial⟩};intro s hs;cases s with
 |none =>
  (have h1:i0<=a.length:=by omega);have h2:c0<2^k:=by omega
  (have h3:out0.length=i0:=by grind);have h4:val out0+B^i0*c0=val (a.take i0)*2^k:=by rw[hout0,hi0,hc0];simp[val]
  clear hi0 hc0 hout0;generalize i0=i at *;generalize c0=c at *;generalize out0=out at *;have hmu:S5 a none=a.length+1:=rfl;cbv;refine zG (λh5=>?_) (λh5=>?_)
  ·(have hi:i<a.length:=om;have hx:=yT (a.getD i 0);simp only[B] at hx;have hm:(a.getD i 0).toNat*2^k<4294967296*2^k:=i7 hx hk2;have hm2:4294967296*2^k<=4294967296*2147483648:=wN _ (c8 (show 0<2 by omega) (show k<=31 by omega));have hS:ior .u64 (c:Int) (ishl .u64 (nx .u64 (((a.getD i 0).toNat:Nat):Int)) (irem (k:Int) 32))=((c+2^k*(a.getD i 0).toNat:Nat):Int):=by rw[hr,x5 (n:=(a.getD i 0).toNat) oM,pD oM oM,KD oM oM,jI (a.getD i 0).toNat,pW h2]);cbv
   refine xM i (by (grind) <;> (try simp only[zJ] at *) <;> omega) om ?_;cbv;refine⟨kN oM,uD (by exact om),?_⟩;refine xT Um rfl rfl rfl (by rw[zJ,h3]) rfl (bY _) (zV (s4 _) (by show (((lm out).length+1:Nat):Int)*4<=70368744177664;grind [zJ])) rfl ?_;cbv;obtain⟨i',hi'⟩:∃ x,x=i+1:=⟨_,rfl⟩;obtain⟨c',hc'⟩:∃ x,x=(c+2^k*(a.getD i 0).toNat)/B:=⟨_,rfl⟩;obtain⟨out',ho'⟩:∃ x,x=out++[UInt32.ofNat (c+2^k*(a.getD i 0).toNat)]:=⟨_,rfl⟩;refine⟨uD oM,zE om om,some (i',c',out'),⟨by omega,?_,by grind,?_⟩,by show a.length-i'<a.length+1;omega,.le ?_ ?_ rfl⟩;{show c'<2^k;rw[hc'];show (c+2^k*(a.getD i 0).toNat)/B<2^k;rw[Zi vY];have:2^k*((a.getD i 0).toNat+1)<=2^k*B:=wN _ (by grind [B]);rw[kP] at this;omega};{show val out'+B^i'*c'=val (a.take i')*2^k;rw[ho',hc',hi',jU,h3,z7 a,uO,jK,<-h4];grind [Nat.mod_add_div]}
   ·cbv;refine⟨lR,lR,zR rfl (by show (lm out).length+1=i';grind [zJ]),zF ?_,zF om,trivial⟩
    (try dsimp only [zS] at *)
    rw[hS,hc'];exact sN _
   ·cbv;refine⟨zC ?_,trivial⟩
    (try dsimp only [zS] at *)
    rw[hS,ho'];exact aI out _
  ·(have hi:a.length<=i:=om;have cm:=iH (out++[UInt32.ofNat c]) (by grind);have hcB:c<B:=f7 h2 (by simp only[B];exact c8 (show 0<2 by omega) (show k<=32 by omega));rw[yU hi] at h4;have hv:val (out++[UInt32.ofNat c])=val a*2^k:=by grind [jU,Nat.mod_eq_of_lt]);rw[hv,hW] at cm
   cbv;refine xT Um rfl rfl rfl (by rw[zJ,h3]) rfl (bY _) (zV (s4 _) (by show (((lm out).length+1:Nat):Int)*4<=70368744177664;grind [zJ])) rfl ?_;cbv;refine j4 (.frz 38 rfl rfl ?_ ?_) rfl (by refine⟨zU ?_,trivial⟩;exact (yU (by grind)).trans (aI out c)) cm rfl ?_;{cbv;exact⟨z6 (by grind),trivial⟩};{exact trivial};cbv;exact rA
 |some s =>
  obtain⟨h1,h2,h3,h4⟩:=hs;obtain⟨i,c,out⟩:=s;simp only at h1 h2 h3 h4;clear hi0 hc0 hout0;cbv;refine zG (λh5=>?_) (λh5=>?_)
  ·(have hi:i<a.length:=om;have hx:=yT (a.getD i 0);simp only[B] at hx;have hm:(a.getD i 0).toNat*2^k<4294967296*2^k:=i7 hx hk2;have hm2:4294967296*2^k<=4294967296*2147483648:=wN _ (c8 (show 0<2 by omega) (show k<=31 by omega));have hS:ior .u64 (c:Int) (ishl .u64 (nx .u64 (((a.getD i 0).toNat:Nat):Int)) (irem (k:Int) 32))=((c+2^k*(a.getD i 0).toNat:Nat):Int):=by rw[hr,x5 (n:=(a.getD i 0).toNat) oM,pD oM oM,KD oM oM,jI (a.getD i 0).toNat,pW h2]);cbv
   refine xM i (by (grind) <;> (try simp only[zJ] at *) <;> omega) om ?_;cbv;refine⟨kN oM,uD (by exact om),?_⟩;refine xT Um rfl rfl rfl (by rw[zJ,h3]) rfl (bY _) (zV (s4 _) (by show (((lm out).length+1:Nat):Int)*4<=70368744177664;grind [zJ])) rfl ?_;cbv;obtain⟨i',hi'⟩:∃ x,x=i+1:=⟨_,rfl⟩;obtain⟨c',hc'⟩:∃ x,x=(c+2^k*(a.getD i 0).toNat)/B:=⟨_,rfl⟩;obtain⟨out',ho'⟩:∃ x,x=out++[UInt32.ofNat (c+2^k*(a.getD i 0).toNat)]:=⟨_,rfl⟩;refine⟨uD oM,zE om om,some (i',c',out'),⟨by omega,?_,by grind,?_⟩,by show a.length-i'<a.length-i;omega,.le ?_ ?_ rfl⟩;{show c'<2^k;rw[hc'];show (c+2^k*(a.getD i 0).toNat)/B<2^k;rw[Zi vY];have:2^k*((a.getD i 0).toNat+1)<=2^k*B:=wN _ (by grind [B]);rw[kP] at this;omega};{show val out'+B^i'*c'=val (a.take i')*2^k;rw[ho',hc',hi',jU,h3,z7 a,uO,jK,<-h4];grind [Nat.mod_add_div]}
   ·cbv;refine⟨lR,lR,zR rfl (by show (lm out).length+1=i';grind [zJ]),zF ?_,zF om,trivial⟩
    (try dsimp only [zS] at *)
    rw[hS,hc'];exact sN _
   ·cbv;refine⟨zC ?_,trivial⟩
    (try dsimp only [zS] at *)
    rw[hS,ho'];exact aI out _
  ·(have hi:a.length<=i:=om;have cm:=iH (out++[UInt32.ofNat c]) (by grind);have hcB:c<B:=f7 h2 (by simp only[B];exact c8 (show 0<2 by omega) (show k<=32 by omega));rw[yU hi] at h4;have hv:val (out++[UInt32.ofNat c])=val a*2^k:=by grind [jU,Nat.mod_eq_of_lt]);rw[hv,hW] at cm
   cbv;refine xT Um rfl rfl rfl (by rw[zJ,h3]) rfl (bY _) (zV (s4 _) (by show (((lm out).length+1:Nat):Int)*4<=70368744177664;grind [zJ])) rfl ?_;cbv;refine j4 (.frz 38 rfl rfl ?_ ?_) rfl (by refine⟨zU ?_,trivial⟩;exact (yU (by grind)).trans (aI out c)) cm rfl ?_;{cbv;exact⟨z6 (by grind),trivial⟩};{exact trivial};cbv;exact rA
def oR {a k:Nat}(hk:k<=32):ishr .u32 (a:Int) (k:Int)=((a/2^k:Nat):Int):=by grind [ishr,IntKind.bits]
def BU (n:Nat):n<2^gL n:=by
 unfold gL;split;{omega}
 ·(rename_i h;have hp:0<(zL n).length:=by rcases tQ (zL n).length with e|e;exact absurd (wA.1 (gO e)) h;exact e);have h1:=z7 (zL n) ((zL n).length-1)
  (have h2:=wY (zL n) ((zL n).length-1);have h3:=ZU _ _ (yQ ((zL n).getD ((zL n).length-1) 0).toNat) (yT _);rw[yU oM,zQ] at h1;have h4:2^(32*((zL n).length-1))=B^((zL n).length-1):=by rw[i8,show (2:Nat)^32=B from rfl]);rw[jS,h4]
  generalize ((zL n).getD ((zL n).length-1) 0).toNat=t at *;have h6:=wN (B^((zL n).length-1)) (show t+1<=2^Lib.bitLen t from h3);grind
def NY (l:List UInt32)(hl:l.length<2^40):zH 204 [nat l] (iV ((gL (val l):Int))):=by
 refine sF Tryz.f204 ?_;have hl':=xR (z8 l) hl;have c1:=iH l oM;have hb0:(zL (val l)).length=0->gL (val l)=0:=λh=>n8.2 (wA.1 (gO h));have hb1:(zL (val l)).length≠0->gL (val l)=32*((zL (val l)).length-1)+Lib.bitLen ((zL (val l)).getD ((zL (val l)).length-1) 0).toNat:=λh=>by rw[gL,if_neg (λe=>h (by grind [yV]))]
 generalize gL (val l)=bp at *;generalize zL (val l)=p at *;cbv;refine cA c1 ?_;cbv;refine zG (λh=>?_) (λh=>?_)
 ·cbv
  (refine rC ?_;cbv)
  exact zF (by rw[hb0 om];rfl)
 ·have hp:p.length≠0:=om;have hbp:=hb1 hp;have ht:=yT (p.getD (p.length-1) 0);have htl:=cX ht;cbv;refine⟨zE om om,zE om om,zE om om,xM (p.length-1) om om ?_⟩;generalize (p.getD (p.length-1) 0).toNat=t at *;cbv;refine zY (σ:=Nat×Nat) (λs=>⟨[(3,iV s.1),(4,.int .u32 (λ_=>(s.2:Int)))],[]⟩) (λs=>s.1+Lib.bitLen s.2=bp/\s.2<B) (λs=>s.2) (32*(p.length-1),t) ⟨hbp.symm,ht⟩ (.le ?_ trivial rfl) ?_;{cbv;exact⟨zF om,lR,trivial⟩};intro s hs;obtain⟨h1,h2⟩:=hs;generalize s.1=k at *;generalize s.2=x at *;cbv;refine zG (λh3=>?_) (λh3=>?_)
  ·(have hx:0<x:=om;have hh:=Lib.bitLen_half x oM (by grind [B]);have hdiv:x/2<x:=by omega);have hd2:=oR (a:=x) (k:=1) oM
   generalize hy:x/2=y at *;cbv;refine⟨zE om om,uD oM,(k+1,y),⟨by grind,by omega⟩,hdiv,.le ?_ trivial rfl⟩;cbv;refine⟨zF om,zF ?_,trivial⟩;exact hd2
  ·have hx:x=0:=om;subst hx;rw[show Lib.bitLen 0=0 by decide] at h1;cbv
   (refine rC ?_;cbv)
   exact zF om
def C1 {x:Nat}(hx:x<4294967296):iand .u32 (x:Int) 1=((x%2:Nat):Int):=by
 unfold iand;have key:(BitVec.ofInt 32 (x:Int) &&& BitVec.ofInt 32 1).toNat=x%2:=by grind
 show IntKind.u32.wrap ((BitVec.ofInt 32 (x:Int) &&& BitVec.ofInt 32 1).toNat:Int)=_;rw[key];have:=gV ((x%2:Nat):Int);grind [nx]
def CX {k:Nat}(hk:k<32):ishl .u32 1 (k:Int)=((2^k:Nat):Int):=by
 unfold ishl;have e:((1:Int)*2^(min (k:Int).toNat IntKind.u32.bits))=((2^k:Nat):Int):=by grind [IntKind.bits]
 have h2:2^k<4294967296:=bA (m:=k) (n:=32) oM hk;have:=gV ((2^k:Nat):Int);grind [nx]
def WL (l:List UInt32)(i:Nat):(l.getD (i/32) 0).toNat/2^(i%32)%2=val l/2^i%2:=by
 have h1:=pQ (l:=l) (i/32);have h2:val (l.drop (i/32))=val l/B^(i/32):=by have h3:=aX l (i/32);have h4:=wY l (i/32);grind [Nat.add_mul_div_left,Nat.div_eq_of_lt]
 have h5:2^i=B^(i/32)*2^(i%32):=by show 2^i=(2^32)^(i/32)*2^(i%32);rw[<-i8,<-jS];grind
 rw[h1,h2,h5,<-Nat.div_div_eq_div_mul];generalize val l/B^(i/32)=y;have h6:B=2^(i%32)*2^(32-i%32):=by rw[<-jS,show i%32+(32-i%32)=32 by omega];rfl
 have h7:2^(32-i%32)=2*2^(31-i%32):=by rw[show 32-i%32=31-i%32+1 by omega,uO,jI]
 rw[h6,Nat.mod_mul_right_div_self,h7,Nat.mod_mul_right_mod]
def BV {A b i:Nat}(hb:0<b):A/2^i=2*(A/2^(i+1))+A/2^i%2:=by
 have:A/2^(i+1)=A/2^i/2:=by rw[uO,<-Nat.div_div_eq_div_mul]
 omega
def Wx {A b i:Nat}(hb:0<b):(b<=2*(A/2^(i+1)%b)+A/2^i%2->A/2^i/b=2*(A/2^(i+1)/b)+1/\A/2^i%b=2*(A/2^(i+1)%b)+A/2^i%2-b) /\ (2*(A/2^(i+1)%b)+A/2^i%2<b->A/2^i/b=2*(A/2^(i+1)/b)/\A/2^i%b=2*(A/2^(i+1)%b)+A/2^i%2):=by
 have h1:=BV (A:=A) (i:=i) hb;have h2:=Nat.div_add_mod (A/2^(i+1)) b;have h3:=uQ (A/2^(i+1)) hb;have h4:A/2^i%2<2:=uQ _ oM;generalize A/2^(i+1)%b=r at *;generalize A/2^(i+1)/b=Q at *;generalize A/2^i%2=t at *;rw[h1];generalize A/2^(i+1)=X at *;have h5:b*(2*Q)=2*(b*Q):=Nat.mul_left_comm _ _ _;constructor
 ·(intro h;have e:2*X+t=b*(2*Q+1)+(2*r+t-b):=by grind);rw[e,Nat.mul_add_div hb,Nat.mul_add_mod,Jt oM,kL oM]
  omega
 ·(intro h;have e:2*X+t=b*(2*Q)+(2*r+t):=by omega);rw[e,Nat.mul_add_div hb,Nat.mul_add_mod,Jt h,kL h]
  omega
def ZI {q:List UInt32}{i m:Nat}(h:val q=m*2^(i+1)):∃ t,(q.getD (i/32) 0).toNat=2^(i%32+1)*t:=by
 have h1:=pQ (l:=q) (i/32);have h3:=aX q (i/32);have h4:=wY q (i/32);have h5:2^(i+1)=B^(i/32)*2^(i%32+1):=by show 2^(i+1)=(2^32)^(i/32)*2^(i%32+1);rw[<-i8,<-jS];grind
 have h2:val (q.drop (i/32))=2^(i%32+1)*m:=by
  (have hB:=QK (n:=i/32) vY;have e:val (q.drop (i/32))=val q/B^(i/32):=by grind [Nat.add_mul_div_left,Nat.div_eq_of_lt]);grind [Nat.mul_comm,Nat.mul_assoc,Nat.mul_div_cancel_left]
 have h6:B=2^(i%32+1)*2^(31-i%32):=by rw[<-jS,show i%32+1+(31-i%32)=32 by omega];rfl
 rw[h1,h2,h6,Nat.mul_mod_mul_left];grind
def Nl:Pg.funcs[161]?=some Tryz.f161:=by rw[vI];rfl
def PP (a b:List UInt32)(ha:a.length<2^34)(hb:b.length<2^34)(h0:val b≠0):zH 161 [nat a,nat b] (.tup [nat (zL (val a/val b)),nat (zL (val a%val b)),iV 0]):=by
 refine xB Nl rfl rfl rfl rfl rfl ?_;have hB:B=4294967296:=rfl;have hbp:0<val b:=s5 h0;have ca:=MV a oM;have cb:=MV b oM;have cbits:=NY a oM;have hbits:=BU (val a);have hbl:gL (val a)<=32*a.length:=vF BT (wN _ (z8 a));have hrl:∀ n,(zL (val a/2^n%val b)).length<=b.length:=λn=>yL (gC (uQ _ hbp) (xZ b));have hdiv0:val a/2^gL (val a)=0:=Jt hbits;have hb1:val b<B*B->(if val b<B*B then val b else 0:Nat)=val b:=λh=>if_pos h;have ha1:val a<B*B->(if val a<B*B then val a else 0:Nat)=val a:=λh=>if_pos h;have cof:=λ(h:val a<B*B)=>PQ (val a/val b) (xR (i6 _ _) h);have cor:=λ(h:val a<B*B)=>PQ (val a%val b) (xR (Nat.mod_le _ _) h);have hda:decide (val a<B*B)=true->val a<B*B:=of_decide_eq_true;have hdb:decide (val b<B*B)=true->val b<B*B:=of_decide_eq_true;generalize (if val a<B*B then val a else 0:Nat)=x at *;generalize (if val b<B*B then val b else 0:Nat)=y at *;generalize decide (val a<B*B)=d1 at *;generalize decide (val b<B*B)=d2 at *;generalize hbb:gL (val a)=bits at *;cbv;refine cA ca ?_;cbv;refine cA cb ?_;cbv;refine yI (λh=>?_) (λh=>?_)
 ·subst h;have hyb:=hb1 (hdb rfl);cbv;refine zG (λh=>absurd (show y=0 from om) oM) (λh=>?_);cbv;refine yI (λh1=>?_) (λh1=>?_)
  ·(subst h1;have hxa:=ha1 (hda rfl);have c1:=cof (hda rfl);have c2:=cor (hda rfl);have hxl:val a<18446744073709551616:=hda rfl;have e1:nx .u64 (iquo (x:Int) (y:Int))=((val a/val b:Nat):Int):=by rw[oT,hxa,hyb];exact x5 (xR (i6 _ _) hxl));have e2:irem (x:Int) (y:Int)=((val a%val b:Nat):Int):=by grind [dM]
   cbv;refine zZ (λ_=>?_) (λh=>absurd h (by decide));cbv;refine zP 8 (by cbv) ?_;cbv;refine⟨kN oM,?_⟩;refine wK (by exact⟨zF e1,trivial⟩) c1 rfl ?_;cbv;refine⟨kN oM,?_⟩;refine wK (by exact⟨zF e2,trivial⟩) c2 rfl ?_;cbv;exact rA
  ·subst h1;cbv;refine⟨zV om om,uU om om,?_⟩;cbv;refine cA cbits ?_;cbv;refine⟨zE om om,?_⟩;refine zY (σ:=Nat×List UInt32) (λs=>⟨[(0,nat a),(1,nat b),(11,zT 43 1 a.length),(12,nat (zL (val a/2^s.1%val b))),(13,iV ((s.1:Int)-1))],[(43,zW 1 (lm s.2))]⟩)
    (λs=>s.1<=bits/\s.2.length=a.length/\val s.2=(val a/2^s.1/val b)*2^s.1) (λs=>s.1) (bits,List.replicate a.length 0) ⟨yQ _,by simp,by rw[hdiv0];simp[fL]⟩ (.trans (.frz 44 rfl rfl (by cbv;repeat' first|exact trivial|exact z6 (by simp)|apply And.intro) (by cbv;repeat' first|exact trivial|apply And.intro)) (.le ?_ ?_ rfl)) ?_
   {cbv;exact⟨lR,lR,zR rfl (by (try dsimp only [zS] at *);grind [zJ]),zU (by rw[hdiv0,Nat.zero_mod,yV];rfl),lR,trivial⟩};{cbv;exact⟨zC (ZE _ _ (by (try dsimp only [zS] at *);simp only[zJ])),trivial⟩};intro s hs;obtain⟨k1,k2,k3⟩:=hs;generalize s.1=n at *;generalize s.2=q at *;cbv;refine zG (λh5=>?_) (λh5=>?_)
   ·(obtain⟨i,rfl⟩:∃ i,n=i+1:=⟨n-1,by exact om⟩;have hi1:((i+1:Nat):Int)-1=(i:Int):=by omega);have hq:nx .i64 (iquo (((i+1:Nat):Int)-1) 32)=((i/32:Nat):Int):=by grind [iquo,XH]
    (have hr:irem (((i+1:Nat):Int)-1) 32=((i%32:Nat):Int):=by rw[hi1];exact dM (b:=32));have hil:i/32<a.length:=by omega
    have hbit:=WL a i;have hbit2:val a/2^i%2<2:=uQ _ oM;have hd:=yT (a.getD (i/32) 0);have hrl1:=hrl (i+1);have cs:=PO (zL (val a/2^(i+1)%val b)) 1 oM oM;rw[zQ] at cs;have hl2:(zL (val a/2^(i+1)%val b*2^1)).length<=b.length+1:=by refine yL ?_;rw[show B^(b.length+1)=B^b.length*B from uO _ _];refine Z3 (gC (uQ _ hbp) (xZ b)) (by decide)
    (have cadd:=Sj (zL (val a/2^(i+1)%val b*2^1)) [UInt32.ofNat (val a/2^i%2)] oM (by simp);have hv1:val [UInt32.ofNat (val a/2^i%2)]=val a/2^i%2:=by simp only[val,xX,B];omega);rw[zQ,hv1] at cadd
    (have hdb:=Wx (A:=val a) (i:=i) hbp;have e2r:val a/2^(i+1)%val b*2^1+val a/2^i%2=2*(val a/2^(i+1)%val b)+val a/2^i%2:=by omega);rw[e2r] at cadd
    have hl3:(zL (2*(val a/2^(i+1)%val b)+val a/2^i%2)).length<=b.length+1:=by refine yL ?_;have h7:=gC (uQ (val a/2^(i+1)) hbp) (xZ b);have h8:B^b.length*4<=B^b.length*B:=wN _ (by decide);rw[show B^(b.length+1)=B^b.length*B from uO _ _];generalize B^b.length=P at *;omega
    (have ccmp:=Sh (zL (2*(val a/2^(i+1)%val b)+val a/2^i%2)) b oM oM;have csub:=Ca (zL (2*(val a/2^(i+1)%val b)+val a/2^i%2)) b oM oM;rw[zQ] at ccmp csub;obtain⟨hd1,hd2⟩:=hdb;have hfree:=ZI (q:=q) (i:=i) (m:=val a/2^(i+1)/val b) k3;have hpow:(2:Nat)^(i+1)=2*2^i:=by rw[uO,jI]);have k3':val q=val a/2^(i+1)/val b*(2*2^i):=by rw[<-hpow];exact k3
    (have hcl:0<=qV (2*(val a/2^(i+1)%val b)+val a/2^i%2) (val b)↔val b<=2*(val a/2^(i+1)%val b)+val a/2^i%2:=by unfold qV;split;{omega};{split <;> omega});have hbitE:([[.int .u32 (iand .u32 (ishr .u32 (((a.getD (i/32) 0).toNat:Nat):Int) (irem (((i+1:Nat):Int)-1) 32)) 1)]]:List (List D))=lm [UInt32.ofNat (val a/2^i%2)]:=by rw[hr,oR oM,C1 (xR (i6 _ _) hd),hbit];simp only[lm,kK,WV,xX];rw[kL (show val a/2^i%2<B by simp only[B];omega)]
    generalize qV (2*(val a/2^(i+1)%val b)+val a/2^i%2) (val b)=C at *;generalize hR:2*(val a/2^(i+1)%val b)+val a/2^i%2=R at *;generalize zL (val a/2^(i+1)%val b*2^1)=L2 at *;cbv;refine xI rfl (by exact⟨lR,zF rfl,trivial⟩) cs rfl ?_;cbv;refine⟨kN oM,xM (i/32) (by (try dsimp only [zS] at *);rw[hq]) hil ?_⟩;cbv;refine⟨kN oM,uD (by (try dsimp only [zS] at *);rw[hr];omega),?_⟩;refine xI rfl (by exact⟨lR,zU hbitE,trivial⟩) cadd rfl ?_;cbv;refine cA ccmp ?_;cbv;refine zG (λh6=>?_) (λh6=>?_)
    ·(obtain⟨e1,e2⟩:=hd1 (hcl.1 h6);obtain⟨t,ht⟩:=hfree;have hqj:=yT (q.getD (i/32) 0);have hs32:i%32<32:=uQ _ oM;have h2s:2^(i%32)<2^(i%32+1):=bA oM oM;have h2B:2^(i%32)<4294967296:=bA (n:=32) oM hs32;have hor:(q.getD (i/32) 0).toNat ||| 2^(i%32)=(q.getD (i/32) 0).toNat+2^(i%32):=by rw[ht,Nat.or_comm,pW h2s,Yq]);have horl:(q.getD (i/32) 0).toNat+2^(i%32)<B:=by rw[<-hor];exact Z4 (n:=32) hqj h2B
     (have hW:ior .u32 (((q.getD (i/32) 0).toNat:Nat):Int) (ishl .u32 1 (irem (((i+1:Nat):Int)-1) 32))=(((q.getD (i/32) 0).toNat+2^(i%32):Nat):Int):=by rw[hr,CX hs32,U6 hqj h2B,hor]);have hq40:q.length<2^40:=by omega
     (have hjq:i/32<q.length:=by omega);cbv
     refine cA csub ?_;cbv;refine zP 10 (by cbv) ?_;cbv;refine⟨kN oM,z9 (by (try dsimp only [zS] at *);rw[hq];omega) (by (try dsimp only [zS] at *);rw[hq];omega),gI (i/32) (by (try dsimp only [zS] at *);rw[hq];omega) hjq ?_⟩;cbv;refine⟨kN oM,uD (by (try dsimp only [zS] at *);rw[hr];omega),z9 (by (try dsimp only [zS] at *);rw[hq];omega) (by (try dsimp only [zS] at *);rw[hq];omega),gI (i/32) (by (try dsimp only [zS] at *);rw[hq];omega) hjq ?_⟩;cbv;refine⟨zE om om,(i,q.set (i/32) (UInt32.ofNat ((q.getD (i/32) 0).toNat+2^(i%32)))),⟨by omega,by simpa using k2,?_⟩,by show i<i+1;omega,.le ?_ ?_ rfl⟩
     ·(show val (q.set (i/32) _)=val a/2^i/val b*2^i;have e3:=s8 q hjq (UInt32.ofNat ((q.getD (i/32) 0).toNat+2^(i%32)));have e4:2^i=B^(i/32)*2^(i%32):=by show 2^i=(2^32)^(i/32)*2^(i%32);rw[<-i8,<-jS];congr 1;omega);rw[xX,kL horl,kP,<-e4,k3'] at e3;rw[e1,jK,Nat.one_mul,jI 2 (val a/2^(i+1)/val b),gM];omega
     {cbv;exact⟨lR,lR,lR,zU (by rw[e2]),zF om,trivial⟩}
     ·(cbv;have hset:(lm q).set (0+(nx .i64 (iquo (((i+1:Nat):Int)-1) 32)).toNat) [.int .u32 (ior .u32 (((q.getD (i/32) 0).toNat:Nat):Int) (ishl .u32 1 (irem (((i+1:Nat):Int)-1) 32)))]=lm (q.set (i/32) (UInt32.ofNat ((q.getD (i/32) 0).toNat+2^(i%32)))):=by rw[hq];exact fT q (by rw[uF,wQ]) hW horl);exact⟨zC hset,trivial⟩
    {obtain⟨e1,e2⟩:=hd2 (by have:=λe=>h6 (hcl.2 e);omega);cbv;refine⟨zE om om,(i,q),⟨by omega,k2,?_⟩,by show i<i+1;omega,.le ?_ ?_ rfl⟩;{show val q=val a/2^i/val b*2^i;rw[k3',e1,jI 2 (val a/2^(i+1)/val b),gM]};{cbv;exact⟨lR,lR,lR,zU (by rw[e2]),zF om,trivial⟩};{cbv;exact⟨zC rfl,trivial⟩}}
   ·(have hn:n=0:=by exact om);subst hn
    rw[Nat.pow_zero,Nat.div_one,Zj] at k3;have cm:=iH q oM;rw[k3] at cm;cbv;refine j4 (.frz 43 rfl rfl ?_ ?_) rfl (by refine⟨zU ?_,trivial⟩;exact yU (by show ((lm q).drop 0).length<=a.length;rw[vS,zJ];omega)) cm rfl ?_;{cbv;exact⟨z6 (by grind [zJ]),z6 (by grind [zJ]),trivial⟩};{exact trivial};cbv
    (refine rC ?_;cbv)
    exact⟨lR,zU (by grind),lR,trivial⟩
 ·subst h;cbv;refine yI (λh1=>?_) (λh1=>?_)
  ·subst h1;cbv;refine zZ (λh=>absurd h (by decide)) (λ_=>?_);cbv;refine⟨zV om om,uU om om,?_⟩;cbv;refine cA cbits ?_;cbv;refine⟨zE om om,?_⟩;refine zY (σ:=Nat×List UInt32) (λs=>⟨[(0,nat a),(1,nat b),(11,zT 43 1 a.length),(12,nat (zL (val a/2^s.1%val b))),(13,iV ((s.1:Int)-1))],[(43,zW 1 (lm s.2))]⟩)
    (λs=>s.1<=bits/\s.2.length=a.length/\val s.2=(val a/2^s.1/val b)*2^s.1) (λs=>s.1) (bits,List.replicate a.length 0) ⟨yQ _,by simp,by rw[hdiv0];simp[fL]⟩ (.trans (.frz 44 rfl rfl (by cbv;repeat' first|exact trivial|exact z6 (by simp)|apply And.intro) (by cbv;repeat' first|exact trivial|apply And.intro)) (.le ?_ ?_ rfl)) ?_
   {cbv;exact⟨lR,lR,zR rfl (by (try dsimp only [zS] at *);grind [zJ]),zU (by rw[hdiv0,Nat.zero_mod,yV];rfl),lR,trivial⟩};{cbv;exact⟨zC (ZE _ _ (by (try dsimp only [zS] at *);simp only[zJ])),trivial⟩};intro s hs;obtain⟨k1,k2,k3⟩:=hs;generalize s.1=n at *;generalize s.2=q at *;cbv;refine zG (λh5=>?_) (λh5=>?_)
   ·(obtain⟨i,rfl⟩:∃ i,n=i+1:=⟨n-1,by exact om⟩;have hi1:((i+1:Nat):Int)-1=(i:Int):=by omega);have hq:nx .i64 (iquo (((i+1:Nat):Int)-1) 32)=((i/32:Nat):Int):=by grind [iquo,XH]
    (have hr:irem (((i+1:Nat):Int)-1) 32=((i%32:Nat):Int):=by rw[hi1];exact dM (b:=32));have hil:i/32<a.length:=by omega
    have hbit:=WL a i;have hbit2:val a/2^i%2<2:=uQ _ oM;have hd:=yT (a.getD (i/32) 0);have hrl1:=hrl (i+1);have cs:=PO (zL (val a/2^(i+1)%val b)) 1 oM oM;rw[zQ] at cs;have hl2:(zL (val a/2^(i+1)%val b*2^1)).length<=b.length+1:=by refine yL ?_;rw[show B^(b.length+1)=B^b.length*B from uO _ _];refine Z3 (gC (uQ _ hbp) (xZ b)) (by decide)
    (have cadd:=Sj (zL (val a/2^(i+1)%val b*2^1)) [UInt32.ofNat (val a/2^i%2)] oM (by simp);have hv1:val [UInt32.ofNat (val a/2^i%2)]=val a/2^i%2:=by simp only[val,xX,B];omega);rw[zQ,hv1] at cadd
    (have hdb:=Wx (A:=val a) (i:=i) hbp;have e2r:val a/2^(i+1)%val b*2^1+val a/2^i%2=2*(val a/2^(i+1)%val b)+val a/2^i%2:=by omega);rw[e2r] at cadd
    have hl3:(zL (2*(val a/2^(i+1)%val b)+val a/2^i%2)).length<=b.length+1:=by refine yL ?_;have h7:=gC (uQ (val a/2^(i+1)) hbp) (xZ b);have h8:B^b.length*4<=B^b.length*B:=wN _ (by decide);rw[show B^(b.length+1)=B^b.length*B from uO _ _];generalize B^b.length=P at *;omega
    (have ccmp:=Sh (zL (2*(val a/2^(i+1)%val b)+val a/2^i%2)) b oM oM;have csub:=Ca (zL (2*(val a/2^(i+1)%val b)+val a/2^i%2)) b oM oM;rw[zQ] at ccmp csub;obtain⟨hd1,hd2⟩:=hdb;have hfree:=ZI (q:=q) (i:=i) (m:=val a/2^(i+1)/val b) k3;have hpow:(2:Nat)^(i+1)=2*2^i:=by rw[uO,jI]);have k3':val q=val a/2^(i+1)/val b*(2*2^i):=by rw[<-hpow];exact k3
    (have hcl:0<=qV (2*(val a/2^(i+1)%val b)+val a/2^i%2) (val b)↔val b<=2*(val a/2^(i+1)%val b)+val a/2^i%2:=by unfold qV;split;{omega};{split <;> omega});have hbitE:([[.int .u32 (iand .u32 (ishr .u32 (((a.getD (i/32) 0).toNat:Nat):Int) (irem (((i+1:Nat):Int)-1) 32)) 1)]]:List (List D))=lm [UInt32.ofNat (val a/2^i%2)]:=by rw[hr,oR oM,C1 (xR (i6 _ _) hd),hbit];simp only[lm,kK,WV,xX];rw[kL (show val a/2^i%2<B by simp only[B];omega)]
    generalize qV (2*(val a/2^(i+1)%val b)+val a/2^i%2) (val b)=C at *;generalize hR:2*(val a/2^(i+1)%val b)+val a/2^i%2=R at *;generalize zL (val a/2^(i+1)%val b*2^1)=L2 at *;cbv;refine xI rfl (by exact⟨lR,zF rfl,trivial⟩) cs rfl ?_;cbv;refine⟨kN oM,xM (i/32) (by (try dsimp only [zS] at *);rw[hq]) hil ?_⟩;cbv;refine⟨kN oM,uD (by (try dsimp only [zS] at *);rw[hr];omega),?_⟩;refine xI rfl (by exact⟨lR,zU hbitE,trivial⟩) cadd rfl ?_;cbv;refine cA ccmp ?_;cbv;refine zG (λh6=>?_) (λh6=>?_)
    ·(obtain⟨e1,e2⟩:=hd1 (hcl.1 h6);obtain⟨t,ht⟩:=hfree;have hqj:=yT (q.getD (i/32) 0);have hs32:i%32<32:=uQ _ oM;have h2s:2^(i%32)<2^(i%32+1):=bA oM oM;have h2B:2^(i%32)<4294967296:=bA (n:=32) oM hs32;have hor:(q.getD (i/32) 0).toNat ||| 2^(i%32)=(q.getD (i/32) 0).toNat+2^(i%32):=by rw[ht,Nat.or_comm,pW h2s,Yq]);have horl:(q.getD (i/32) 0).toNat+2^(i%32)<B:=by rw[<-hor];exact Z4 (n:=32) hqj h2B
     (have hW:ior .u32 (((q.getD (i/32) 0).toNat:Nat):Int) (ishl .u32 1 (irem (((i+1:Nat):Int)-1) 32))=(((q.getD (i/32) 0).toNat+2^(i%32):Nat):Int):=by rw[hr,CX hs32,U6 hqj h2B,hor]);have hq40:q.length<2^40:=by omega
     (have hjq:i/32<q.length:=by omega);cbv
     refine cA csub ?_;cbv;refine zP 10 (by cbv) ?_;cbv;refine⟨kN oM,z9 (by (try dsimp only [zS] at *);rw[hq];omega) (by (try dsimp only [zS] at *);rw[hq];omega),gI (i/32) (by (try dsimp only [zS] at *);rw[hq];omega) hjq ?_⟩;cbv;refine⟨kN oM,uD (by (try dsimp only [zS] at *);rw[hr];omega),z9 (by (try dsimp only [zS] at *);rw[hq];omega) (by (try dsimp only [zS] at *);rw[hq];omega),gI (i/32) (by (try dsimp only [zS] at *);rw[hq];omega) hjq ?_⟩;cbv;refine⟨zE om om,(i,q.set (i/32) (UInt32.ofNat ((q.getD (i/32) 0).toNat+2^(i%32)))),⟨by omega,by simpa using k2,?_⟩,by show i<i+1;omega,.le ?_ ?_ rfl⟩
     ·(show val (q.set (i/32) _)=val a/2^i/val b*2^i;have e3:=s8 q hjq (UInt32.ofNat ((q.getD (i/32) 0).toNat+2^(i%32)));have e4:2^i=B^(i/32)*2^(i%32):=by show 2^i=(2^32)^(i/32)*2^(i%32);rw[<-i8,<-jS];congr 1;omega);rw[xX,kL horl,kP,<-e4,k3'] at e3;rw[e1,jK,Nat.one_mul,jI 2 (val a/2^(i+1)/val b),gM];omega
     {cbv;exact⟨lR,lR,lR,zU (by rw[e2]),zF om,trivial⟩}
     ·(cbv;have hset:(lm q).set (0+(nx .i64 (iquo (((i+1:Nat):Int)-1) 32)).toNat) [.int .u32 (ior .u32 (((q.getD (i/32) 0).toNat:Nat):Int) (ishl .u32 1 (irem (((i+1:Nat):Int)-1) 32)))]=lm (q.set (i/32) (UInt32.ofNat ((q.getD (i/32) 0).toNat+2^(i%32)))):=by rw[hq];exact fT q (by rw[uF,wQ]) hW horl);exact⟨zC hset,trivial⟩
    {obtain⟨e1,e2⟩:=hd2 (by have:=λe=>h6 (hcl.2 e);omega);cbv;refine⟨zE om om,(i,q),⟨by omega,k2,?_⟩,by show i<i+1;omega,.le ?_ ?_ rfl⟩;{show val q=val a/2^i/val b*2^i;rw[k3',e1,jI 2 (val a/2^(i+1)/val b),gM]};{cbv;exact⟨lR,lR,lR,zU (by rw[e2]),zF om,trivial⟩};{cbv;exact⟨zC rfl,trivial⟩}}
   ·(have hn:n=0:=by exact om);subst hn
    rw[Nat.pow_zero,Nat.div_one,Zj] at k3;have cm:=iH q oM;rw[k3] at cm;cbv;refine j4 (.frz 43 rfl rfl ?_ ?_) rfl (by refine⟨zU ?_,trivial⟩;exact yU (by show ((lm q).drop 0).length<=a.length;rw[vS,zJ];omega)) cm rfl ?_;{cbv;exact⟨z6 (by grind [zJ]),z6 (by grind [zJ]),trivial⟩};{exact trivial};cbv
    (refine rC ?_;cbv)
    exact⟨lR,zU (by grind),lR,trivial⟩
  ·subst h1;cbv;refine⟨zV om om,uU om om,?_⟩;cbv;refine cA cbits ?_;cbv;refine⟨zE om om,?_⟩;refine zY (σ:=Nat×List UInt32) (λs=>⟨[(0,nat a),(1,nat b),(11,zT 43 1 a.length),(12,nat (zL (val a/2^s.1%val b))),(13,iV ((s.1:Int)-1))],[(43,zW 1 (lm s.2))]⟩)
    (λs=>s.1<=bits/\s.2.length=a.length/\val s.2=(val a/2^s.1/val b)*2^s.1) (λs=>s.1) (bits,List.replicate a.length 0) ⟨yQ _,by simp,by rw[hdiv0];simp[fL]⟩ (.trans (.frz 44 rfl rfl (by cbv;repeat' first|exact trivial|exact z6 (by simp)|apply And.intro) (by cbv;repeat' first|exact trivial|apply And.intro)) (.le ?_ ?_ rfl)) ?_
   {cbv;exact⟨lR,lR,zR rfl (by (try dsimp only [zS] at *);grind [zJ]),zU (by rw[hdiv0,Nat.zero_mod,yV];rfl),lR,trivial⟩};{cbv;exact⟨zC (ZE _ _ (by (try dsimp only [zS] at *);simp only[zJ])),trivial⟩};intro s hs;obtain⟨k1,k2,k3⟩:=hs;generalize s.1=n at *;generalize s.2=q at *;cbv;refine zG (λh5=>?_) (λh5=>?_)
   ·(obtain⟨i,rfl⟩:∃ i,n=i+1:=⟨n-1,by exact om⟩;have hi1:((i+1:Nat):Int)-1=(i:Int):=by omega);have hq:nx .i64 (iquo (((i+1:Nat):Int)-1) 32)=((i/32:Nat):Int):=by grind [iquo,XH]
    (have hr:irem (((i+1:Nat):Int)-1) 32=((i%32:Nat):Int):=by rw[hi1];exact dM (b:=32));have hil:i/32<a.length:=by omega
    have hbit:=WL a i;have hbit2:val a/2^i%2<2:=uQ _ oM;have hd:=yT (a.getD (i/32) 0);have hrl1:=hrl (i+1);have cs:=PO (zL (val a/2^(i+1)%val b)) 1 oM oM;rw[zQ] at cs;have hl2:(zL (val a/2^(i+1)%val b*2^1)).length<=b.length+1:=by refine yL ?_;rw[show B^(b.length+1)=B^b.length*B from uO _ _];refine Z3 (gC (uQ _ hbp) (xZ b)) (by decide)
    (have cadd:=Sj (zL (val a/2^(i+1)%val b*2^1)) [UInt32.ofNat (val a/2^i%2)] oM (by simp);have hv1:val [UInt32.ofNat (val a/2^i%2)]=val a/2^i%2:=by simp only[val,xX,B];omega);rw[zQ,hv1] at cadd
    (have hdb:=Wx (A:=val a) (i:=i) hbp;have e2r:val a/2^(i+1)%val b*2^1+val a/2^i%2=2*(val a/2^(i+1)%val b)+val a/2^i%2:=by omega);rw[e2r] at cadd
    have hl3:(zL (2*(val a/2^(i+1)%val b)+val a/2^i%2)).length<=b.length+1:=by refine yL ?_;have h7:=gC (uQ (val a/2^(i+1)) hbp) (xZ b);have h8:B^b.length*4<=B^b.length*B:=wN _ (by decide);rw[show B^(b.length+1)=B^b.length*B from uO _ _];generalize B^b.length=P at *;omega
    (have ccmp:=Sh (zL (2*(val a/2^(i+1)%val b)+val a/2^i%2)) b oM oM;have csub:=Ca (zL (2*(val a/2^(i+1)%val b)+val a/2^i%2)) b oM oM;rw[zQ] at ccmp csub;obtain⟨hd1,hd2⟩:=hdb;have hfree:=ZI (q:=q) (i:=i) (m:=val a/2^(i+1)/val b) k3;have hpow:(2:Nat)^(i+1)=2*2^i:=by rw[uO,jI]);have k3':val q=val a/2^(i+1)/val b*(2*2^i):=by rw[<-hpow];exact k3
    (have hcl:0<=qV (2*(val a/2^(i+1)%val b)+val a/2^i%2) (val b)↔val b<=2*(val a/2^(i+1)%val b)+val a/2^i%2:=by unfold qV;split;{omega};{split <;> omega});have hbitE:([[.int .u32 (iand .u32 (ishr .u32 (((a.getD (i/32) 0).toNat:Nat):Int) (irem (((i+1:Nat):Int)-1) 32)) 1)]]:List (List D))=lm [UInt32.ofNat (val a/2^i%2)]:=by rw[hr,oR oM,C1 (xR (i6 _ _) hd),hbit];simp only[lm,kK,WV,xX];rw[kL (show val a/2^i%2<B by simp only[B];omega)]
    generalize qV (2*(val a/2^(i+1)%val b)+val a/2^i%2) (val b)=C at *;generalize hR:2*(val a/2^(i+1)%val b)+val a/2^i%2=R at *;generalize zL (val a/2^(i+1)%val b*2^1)=L2 at *;cbv;refine xI rfl (by exact⟨lR,zF rfl,trivial⟩) cs rfl ?_;cbv;refine⟨kN oM,xM (i/32) (by (try dsimp only [zS] at *);rw[hq]) hil ?_⟩;cbv;refine⟨kN oM,uD (by (try dsimp only [zS] at *);rw[hr];omega),?_⟩;refine xI rfl (by exact⟨lR,zU hbitE,trivial⟩) cadd rfl ?_;cbv;refine cA ccmp ?_;cbv;refine zG (λh6=>?_) (λh6=>?_)
    ·(obtain⟨e1,e2⟩:=hd1 (hcl.1 h6);obtain⟨t,ht⟩:=hfree;have hqj:=yT (q.getD (i/32) 0);have hs32:i%32<32:=uQ _ oM;have h2s:2^(i%32)<2^(i%32+1):=bA oM oM;have h2B:2^(i%32)<4294967296:=bA (n:=32) oM hs32;have hor:(q.getD (i/32) 0).toNat ||| 2^(i%32)=(q.getD (i/32) 0).toNat+2^(i%32):=by rw[ht,Nat.or_comm,pW h2s,Yq]);have horl:(q.getD (i/32) 0).toNat+2^(i%32)<B:=by rw[<-hor];exact Z4 (n:=32) hqj h2B
     (have hW:ior .u32 (((q.getD (i/32) 0).toNat:Nat):Int) (ishl .u32 1 (irem (((i+1:Nat):Int)-1) 32))=(((q.getD (i/32) 0).toNat+2^(i%32):Nat):Int):=by rw[hr,CX hs32,U6 hqj h2B,hor]);have hq40:q.length<2^40:=by omega
     (have hjq:i/32<q.length:=by omega);cbv
     refine cA csub ?_;cbv;refine zP 10 (by cbv) ?_;cbv;refine⟨kN oM,z9 (by (try dsimp only [zS] at *);rw[hq];omega) (by (try dsimp only [zS] at *);rw[hq];omega),gI (i/32) (by (try dsimp only [zS] at *);rw[hq];omega) hjq ?_⟩;cbv;refine⟨kN oM,uD (by (try dsimp only [zS] at *);rw[hr];omega),z9 (by (try dsimp only [zS] at *);rw[hq];omega) (by (try dsimp only [zS] at *);rw[hq];omega),gI (i/32) (by (try dsimp only [zS] at *);rw[hq];omega) hjq ?_⟩;cbv;refine⟨zE om om,(i,q.set (i/32) (UInt32.ofNat ((q.getD (i/32) 0).toNat+2^(i%32)))),⟨by omega,by simpa using k2,?_⟩,by show i<i+1;omega,.le ?_ ?_ rfl⟩
     ·(show val (q.set (i/32) _)=val a/2^i/val b*2^i;have e3:=s8 q hjq (UInt32.ofNat ((q.getD (i/32) 0).toNat+2^(i%32)));have e4:2^i=B^(i/32)*2^(i%32):=by show 2^i=(2^32)^(i/32)*2^(i%32);rw[<-i8,<-jS];congr 1;omega);rw[xX,kL horl,kP,<-e4,k3'] at e3;rw[e1,jK,Nat.one_mul,jI 2 (val a/2^(i+1)/val b),gM];omega
     {cbv;exact⟨lR,lR,lR,zU (by rw[e2]),zF om,trivial⟩}
     ·(cbv;have hset:(lm q).set (0+(nx .i64 (iquo (((i+1:Nat):Int)-1) 32)).toNat) [.int .u32 (ior .u32 (((q.getD (i/32) 0).toNat:Nat):Int) (ishl .u32 1 (irem (((i+1:Nat):Int)-1) 32)))]=lm (q.set (i/32) (UInt32.ofNat ((q.getD (i/32) 0).toNat+2^(i%32)))):=by rw[hq];exact fT q (by rw[uF,wQ]) hW horl);exact⟨zC hset,trivial⟩
    {obtain⟨e1,e2⟩:=hd2 (by have:=λe=>h6 (hcl.2 e);omega);cbv;refine⟨zE om om,(i,q),⟨by omega,k2,?_⟩,by show i<i+1;omega,.le ?_ ?_ rfl⟩;{show val q=val a/2^i/val b*2^i;rw[k3',e1,jI 2 (val a/2^(i+1)/val b),gM]};{cbv;exact⟨lR,lR,lR,zU (by rw[e2]),zF om,trivial⟩};{cbv;exact⟨zC rfl,trivial⟩}}
   ·(have hn:n=0:=by exact om);subst hn
    rw[Nat.pow_zero,Nat.div_one,Zj] at k3;have cm:=iH q oM;rw[k3] at cm;cbv;refine j4 (.frz 43 rfl rfl ?_ ?_) rfl (by refine⟨zU ?_,trivial⟩;exact yU (by show ((lm q).drop 0).length<=a.length;rw[vS,zJ];omega)) cm rfl ?_;{cbv;exact⟨z6 (by grind [zJ]),z6 (by grind [zJ]),trivial⟩};{exact trivial};cbv
    (refine rC ?_;cbv)
    exact⟨lR,zU (by grind),lR,trivial⟩
end Go.Proofs.YtboocdbmnfjomaaGreat
