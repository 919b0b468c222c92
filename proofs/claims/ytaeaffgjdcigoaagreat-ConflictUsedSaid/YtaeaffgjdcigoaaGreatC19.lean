/- A part of the proof: ReC, ReD. -/
import Derived.Test.YtaeaffgjdcigoaaGreatC18
set_option linter.all false
namespace Go.Proofs.YtaeaffgjdcigoaaGreat
open Go
set_option maxRecDepth 100000
theorem s99 (a b:List UInt32)(ha:a.length<2^39)(hb:b.length<2^39):zE 59 [nat a,nat b] (nat (zK (val a*val b))):=by
 refine sF Tryz.f59 ?_;have hBB:B*B=18446744073709551616:=by decide
 have hB:B=4294967296:=rfl;generalize hW:zK (val a*val b)=W;cbv;refine⟨zD om om,zD om om,yD om om,jO om om,?_⟩;cbv;refine z3 (σ:=Nat×List UInt32) (fun s=>⟨[(0,nat a),(1,nat b),(5,.osl 15 1 (fun _=>0) (fun _=>a.length+b.length+1)),(6,.int .i64 (fun _=>(s.1:Int)))],[(15,.arr 1 (fun _=>lm s.2))]⟩)
  (fun s=>s.1<=a.length/\s.2.length=a.length+b.length+1/\val s.2=val (a.take s.1)*val b) (fun s=>a.length-s.1)
  (0,List.replicate (a.length+b.length+1) 0) ⟨xD _,by simp,by simp[val,gV]⟩ (.le ?_ ?_ rfl) ?_
 {cbv;exact⟨lR,lR,yC rfl (by (try dsimp only [zF] at *);grind [zH]),lR,trivial⟩};{cbv;exact⟨zI (zBV _ _ (by (try dsimp only [zF] at *);grind [zH])),trivial⟩};intro s hs;obtain⟨h1,h2,h3⟩:=hs;generalize s.1=i at *
 generalize s.2=out at *
 cbv;refine zG (fun h4=>?_) (fun h4=>?_)
 ·have hi:i<a.length:=om;have hx:=yL (a.getD i 0);have hta:=zW a i;cbv;refine z3 (σ:=Nat×Nat×List UInt32) (fun s=>⟨[(0,nat a),(1,nat b),(5,.osl 15 1 (fun _=>0) (fun _=>a.length+b.length+1)),(6,.int .i64 (fun _=>(i:Int))),(7,.int .u64 (fun _=>(s.2.1:Int))),(8,.int .i64 (fun _=>(s.1:Int)))],[(15,.arr 1 (fun _=>lm s.2.2))]⟩)
   (fun s=>s.1<=b.length+1/\s.2.1<B/\s.2.2.length=a.length+b.length+1/\val s.2.2+B^(i+s.1)*s.2.1=val (a.take i)*val b+B^i*((a.getD i 0).toNat*val (b.take s.1))) (fun s=>b.length+1-s.1)
   (0,0,out) ⟨xD _,w5,h2,by simp[val,h3]⟩ (.le ?_ ?_ rfl) ?_
  {cbv;exact okA};{cbv;exact⟨zI rfl,trivial⟩};intro s hs;obtain⟨k1,k2,k3,k4⟩:=hs;generalize s.1=k at *
  generalize s.2.1=c at *
  generalize s.2.2=o at *
  have cb:=s154 b k oM;have hy:=yL (b.getD k 0);have ho:=yL (o.getD (i+k) 0);cbv;refine zG (fun h5=>?_) (fun h5=>?_)
  ·(have hk:k<=b.length:=om;have hm:(a.getD i 0).toNat*(b.getD k 0).toNat<=(B-1)*(B-1):=Nat.mul_le_mul oM oM;have hmB:(B-1)*(B-1)+(B-1)+(B-1)<B*B:=by decide);have hTl:c+((a.getD i 0).toNat*(b.getD k 0).toNat+(o.getD (i+k) 0).toNat)<B*B:=by omega
   (have hS:nx .u64 ((c:Int)+nx .u64 (nx .u64 (nx .u64 (((a.getD i 0).toNat:Nat):Int)*nx .u64 (((b.getD k 0).toNat:Nat):Int))+nx .u64 (((o.getD (i+k) 0).toNat:Nat):Int)))=((c+((a.getD i 0).toNat*(b.getD k 0).toNat+(o.getD (i+k) 0).toNat):Nat):Int):=by rw[x5 (n:=(a.getD i 0).toNat) oM,x5 (n:=(b.getD k 0).toNat) oM,x5 (n:=(o.getD (i+k) 0).toNat) oM];have e1:nx .u64 ((((a.getD i 0).toNat:Nat):Int)*(((b.getD k 0).toNat:Nat):Int))=(((a.getD i 0).toNat*(b.getD k 0).toNat:Nat):Int):=x5 (n:=(a.getD i 0).toNat*(b.getD k 0).toNat) oM;rw[e1];have e2:nx .u64 ((((a.getD i 0).toNat*(b.getD k 0).toNat:Nat):Int)+(((o.getD (i+k) 0).toNat:Nat):Int))=(((a.getD i 0).toNat*(b.getD k 0).toNat+(o.getD (i+k) 0).toNat:Nat):Int):=x5 (n:=(a.getD i 0).toNat*(b.getD k 0).toNat+(o.getD (i+k) 0).toNat) oM;rw[e2];exact x5 (n:=c+((a.getD i 0).toNat*(b.getD k 0).toNat+(o.getD (i+k) 0).toNat)) oM);cbv;refine zN 20 (by cbv) ?_;cbv;refine xG i (by (grind) <;> (try simp only[zH] at *) <;> omega) om ?_;cbv;refine dA cb ?_;cbv;refine⟨zD om om,y9 om om,j8 (i+k) om om ?_⟩;cbv;refine⟨zD om om,y9 om om,j8 (i+k) om om ?_⟩;cbv;refine⟨uF oM,zD om om,(k+1,(c+((a.getD i 0).toNat*(b.getD k 0).toNat+(o.getD (i+k) 0).toNat))/B,o.set (i+k) (UInt32.ofNat (c+((a.getD i 0).toNat*(b.getD k 0).toNat+(o.getD (i+k) 0).toNat)))),⟨by omega,?_,by grind,?_⟩,by omega,.le ?_ ?_ rfl⟩;{grind}
   ·(show val (o.set (i+k) _)+B^(i+(k+1))*((c+((a.getD i 0).toNat*(b.getD k 0).toNat+(o.getD (i+k) 0).toNat))/B)=val (a.take i)*val b+B^i*((a.getD i 0).toNat*val (b.take (k+1)));have e1:=sN o (j:=i+k) oM (UInt32.ofNat (c+((a.getD i 0).toNat*(b.getD k 0).toNat+(o.getD (i+k) 0).toNat)));rw[xW] at e1;rw[zW b,show B^(i+(k+1))=B^(i+k)*B by grind];have hdm:=zHC (c+((a.getD i 0).toNat*(b.getD k 0).toNat+(o.getD (i+k) 0).toNat)) B;have e3:B^i*((a.getD i 0).toNat*(val (b.take k)+B^k*(b.getD k 0).toNat))=B^i*((a.getD i 0).toNat*val (b.take k))+B^(i+k)*((a.getD i 0).toNat*(b.getD k 0).toNat):=by rw[qH,qH,bD,Nat.mul_left_comm (a.getD i 0).toNat,<-jX (B^i) (B^k)]);rw[e3]
    generalize val (o.set (i+k) (UInt32.ofNat (c+((a.getD i 0).toNat*(b.getD k 0).toNat+(o.getD (i+k) 0).toNat))))=vo at *
    generalize (c+((a.getD i 0).toNat*(b.getD k 0).toNat+(o.getD (i+k) 0).toNat))%B=lo at *
    generalize (c+((a.getD i 0).toNat*(b.getD k 0).toNat+(o.getD (i+k) 0).toNat))/B=hi' at *
    grind
   ·cbv;refine⟨lR,lR,lR,lR,zC ?_,zC om,trivial⟩
    (try dsimp only [zF] at *)
    rw[hS];exact aY _
   ·cbv;refine⟨zI ?_,trivial⟩
    (try dsimp only [zF] at *)
    rw[hS];exact fE o oM _
  ·(have hk:k=b.length+1:=om;rw[yS (show b.length<=k by omega)] at k4;have hfull:val (a.take i)*val b+B^i*((a.getD i 0).toNat*val b)=val (a.take (i+1))*val b:=by grind);rw[hfull] at k4
   have hc0:c=0:=by
    (have e1:=zLC (wY a (i+1)) (xZ b);have e0:i+1+b.length=i+k:=by omega);rw[<-bD,e0] at e1
    generalize B^(i+k)=P at *
    rcases zHB c with e2|e2;{exact e2};{exfalso;have e3:P*1<=P*c:=wG P e2;omega}
   (have k5:val o=val (a.take (i+1))*val b:=by grind);cbv
   refine⟨zD om om,(i+1,o),⟨hi,k3,k5⟩,by omega,.le ?_ ?_ rfl⟩;{cbv;exact⟨lR,lR,lR,zC om,trivial⟩};{cbv;exact⟨zI rfl,trivial⟩}
 ·have hi:i=a.length:=om;rw[hi,yS (zZ _)] at h3;have cm:=iD out oM;rw[h3,hW] at cm;cbv;refine kQ (.frz 15 rfl rfl ?_ ?_) rfl (by refine⟨zR ?_,trivial⟩;exact yS (by show ((lm out).drop 0).length<=a.length+b.length+1;rw[wC,zH];omega)) cm rfl ?_;{cbv;exact⟨z8 (by grind [zH]),z8 (by grind [zH]),trivial⟩};{exact trivial};cbv
  (refine rC ?_;cbv)
  exact lR
def zVB (a:List UInt32) (k:Nat):Option (Nat×Nat×List UInt32)->Prop
 |none=>True| some s=>s.1<=a.length/\s.2.1<2^k/\s.2.2.length=s.1/\val s.2.2+B^s.1*s.2.1=val (a.take s.1)*2^k
def zWO (a:List UInt32):Option (Nat×Nat×List UInt32)->Nat
 |none=>a.length+1| some s=>a.length-s.1
theorem s208 (a:List UInt32)(k:Nat)(ha:a.length<2^40)(hk:k<32):zE 183 [nat a,.int .i64 (fun _=>(k:Int))] (nat (zK (val a*2^k))):=by
 refine sF Tryz.f183 ?_;generalize hW:zK (val a*2^k)=W;have hk2:=zHA k;have hq:nx .i64 (iquo (k:Int) 32)=0:=by grind [iquo,zFF]
 have hr:irem (k:Int) 32=(k:Int):=by have:=uN (a:=k) (b:=32);grind
 obtain⟨i0,hi0⟩:∃ i0:Nat,i0=0:=⟨0,rfl⟩;obtain⟨c0,hc0⟩:∃ c0:Nat,c0=0:=⟨0,rfl⟩;obtain⟨out0,hout0⟩:∃ out0:List UInt32,out0=[]:=⟨[],rfl⟩;cbv;refine⟨uA oM,yD om om,jO om om,?_⟩;cbv;refine z3 (σ:=Option (Nat×Nat×List UInt32)) (fun s=>match s with
   |none=>⟨[(0,nat a),(1,.int .i64 (fun _=>(k:Int))),(5,.osl 10 1 (fun _=>0) (fun _=>i0)),(6,.int .u64 (fun _=>(c0:Int))),(7,.int .i64 (fun _=>(i0:Int)))],[(10,.arr 1 (fun _=>lm out0))]⟩| some s=>⟨[(0,nat a),(1,.int .i64 (fun _=>(k:Int))),(5,.osl 31 1 (fun _=>0) (fun _=>s.1)),(6,.int .u64 (fun _=>(s.2.1:Int))),(7,.int .i64 (fun _=>(s.1:Int)))],[(31,.arr 1 (fun _=>lm s.2.2))]⟩)
  (zVB a k) (zWO a) none trivial (.le ?_ ?_ rfl) ?_
 {cbv;exact⟨lR,lR,yC rfl om,zC (by grind),zC (by grind),trivial⟩};{cbv;exact⟨zI (by (try dsimp only [zF] at *);rw[hq,hout0];rfl),trivial⟩};intro s hs;cases s with
 |none =>
  (have h1:i0<=a.length:=by omega);have h2:c0<2^k:=by omega
  (have h3:out0.length=i0:=by grind);have h4:val out0+B^i0*c0=val (a.take i0)*2^k:=by rw[hout0,hi0,hc0];simp[val]
  clear hi0 hc0 hout0;generalize i0=i at *
  generalize c0=c at *
  generalize out0=out at *
  have hmu:zWO a none=a.length+1:=rfl;cbv;refine zG (fun h5=>?_) (fun h5=>?_)
  ·(have hi:i<a.length:=om;have hx:=yL (a.getD i 0);simp only[B] at hx;have hm:(a.getD i 0).toNat*2^k<4294967296*2^k:=iZ hx hk2;have hm2:4294967296*2^k<=4294967296*2147483648:=wG _ (dE (show 0<2 by omega) (show k<=31 by omega));have hS:ior .u64 (c:Int) (ishl .u64 (nx .u64 (((a.getD i 0).toNat:Nat):Int)) (irem (k:Int) 32))=((c+2^k*(a.getD i 0).toNat:Nat):Int):=by rw[hr,x5 (n:=(a.getD i 0).toNat) oM,rX oM oM,zMD oM oM,qY (a.getD i 0).toNat,pL h2]);cbv
   refine xG i (by (grind) <;> (try simp only[zH] at *) <;> omega) om ?_;cbv;refine⟨uA oM,uF om,?_⟩;refine wE ty33 rfl rfl rfl (by rw[zH,h3]) rfl (bS _) (yD (p8 _) (by show (((lm out).length+1:Nat):Int)*4<=70368744177664;grind [zH])) rfl ?_;cbv;obtain⟨i',hi'⟩:∃ x,x=i+1:=⟨_,rfl⟩;obtain⟨c',hc'⟩:∃ x,x=(c+2^k*(a.getD i 0).toNat)/B:=⟨_,rfl⟩;obtain⟨out',ho'⟩:∃ x,x=out++[UInt32.ofNat (c+2^k*(a.getD i 0).toNat)]:=⟨_,rfl⟩;refine⟨uF oM,zD om om,some (i',c',out'),⟨by omega,?_,by grind,?_⟩,by show a.length-i'<a.length+1;omega,.le ?_ ?_ rfl⟩;{show c'<2^k;rw[hc'];show (c+2^k*(a.getD i 0).toNat)/B<2^k;rw[zC2 w5];have:2^k*((a.getD i 0).toNat+1)<=2^k*B:=wG _ (by grind [B]);rw[qH] at this;omega};{show val out'+B^i'*c'=val (a.take i')*2^k;rw[ho',hc',hi',jK,h3,zW a,uG,gF,<-h4];grind [Nat.mod_add_div]}
   ·cbv;refine⟨lR,lR,yC rfl (by show (lm out).length+1=i';grind [zH]),zC ?_,zC om,trivial⟩
    (try dsimp only [zF] at *)
    rw[hS,hc'];exact aY _
   ·cbv;refine⟨zI ?_,trivial⟩
    (try dsimp only [zF] at *)
    rw[hS,ho'];exact b9 out _
  ·(have hi:a.length<=i:=om;have cm:=iD (out++[UInt32.ofNat c]) (by grind);have hcB:c<B:=uI h2 (by simp only[B];exact dE (show 0<2 by omega) (show k<=32 by omega));rw[yS hi] at h4;have hv:val (out++[UInt32.ofNat c])=val a*2^k:=by grind [jK,Nat.mod_eq_of_lt]);rw[hv,hW] at cm
   cbv;refine wE ty33 rfl rfl rfl (by rw[zH,h3]) rfl (bS _) (yD (p8 _) (by show (((lm out).length+1:Nat):Int)*4<=70368744177664;grind [zH])) rfl ?_;cbv;refine kQ (.frz 38 rfl rfl ?_ ?_) rfl (by refine⟨zR ?_,trivial⟩;exact (yS (by grind)).trans (b9 out c)) cm rfl ?_;{cbv;exact⟨z8 (by grind),trivial⟩};{exact trivial};cbv
   (refine rC ?_;cbv)
   exact lR
 |some s =>
  obtain⟨h1,h2,h3,h4⟩:=hs;obtain⟨i,c,out⟩:=s;simp only at h1 h2 h3 h4;clear hi0 hc0 hout0;cbv;refine zG (fun h5=>?_) (fun h5=>?_)
  ·(have hi:i<a.length:=om;have hx:=yL (a.getD i 0);simp only[B] at hx;have hm:(a.getD i 0).toNat*2^k<4294967296*2^k:=iZ hx hk2;have hm2:4294967296*2^k<=4294967296*2147483648:=wG _ (dE (show 0<2 by omega) (show k<=31 by omega));have hS:ior .u64 (c:Int) (ishl .u64 (nx .u64 (((a.getD i 0).toNat:Nat):Int)) (irem (k:Int) 32))=((c+2^k*(a.getD i 0).toNat:Nat):Int):=by rw[hr,x5 (n:=(a.getD i 0).toNat) oM,rX oM oM,zMD oM oM,qY (a.getD i 0).toNat,pL h2]);cbv
   refine xG i (by (grind) <;> (try simp only[zH] at *) <;> omega) om ?_;cbv;refine⟨uA oM,uF om,?_⟩;refine wE ty33 rfl rfl rfl (by rw[zH,h3]) rfl (bS _) (yD (p8 _) (by show (((lm out).length+1:Nat):Int)*4<=70368744177664;grind [zH])) rfl ?_;cbv;obtain⟨i',hi'⟩:∃ x,x=i+1:=⟨_,rfl⟩;obtain⟨c',hc'⟩:∃ x,x=(c+2^k*(a.getD i 0).toNat)/B:=⟨_,rfl⟩;obtain⟨out',ho'⟩:∃ x,x=out++[UInt32.ofNat (c+2^k*(a.getD i 0).toNat)]:=⟨_,rfl⟩;refine⟨uF oM,zD om om,some (i',c',out'),⟨by omega,?_,by grind,?_⟩,by show a.length-i'<a.length-i;omega,.le ?_ ?_ rfl⟩;{show c'<2^k;rw[hc'];show (c+2^k*(a.getD i 0).toNat)/B<2^k;rw[zC2 w5];have:2^k*((a.getD i 0).toNat+1)<=2^k*B:=wG _ (by grind [B]);rw[qH] at this;omega};{show val out'+B^i'*c'=val (a.take i')*2^k;rw[ho',hc',hi',jK,h3,zW a,uG,gF,<-h4];grind [Nat.mod_add_div]}
   ·cbv;refine⟨lR,lR,yC rfl (by show (lm out).length+1=i';grind [zH]),zC ?_,zC om,trivial⟩
    (try dsimp only [zF] at *)
    rw[hS,hc'];exact aY _
   ·cbv;refine⟨zI ?_,trivial⟩
    (try dsimp only [zF] at *)
    rw[hS,ho'];exact b9 out _
  ·(have hi:a.length<=i:=om;have cm:=iD (out++[UInt32.ofNat c]) (by grind);have hcB:c<B:=uI h2 (by simp only[B];exact dE (show 0<2 by omega) (show k<=32 by omega));rw[yS hi] at h4;have hv:val (out++[UInt32.ofNat c])=val a*2^k:=by grind [jK,Nat.mod_eq_of_lt]);rw[hv,hW] at cm
   cbv;refine wE ty33 rfl rfl rfl (by rw[zH,h3]) rfl (bS _) (yD (p8 _) (by show (((lm out).length+1:Nat):Int)*4<=70368744177664;grind [zH])) rfl ?_;cbv;refine kQ (.frz 38 rfl rfl ?_ ?_) rfl (by refine⟨zR ?_,trivial⟩;exact (yS (by grind)).trans (b9 out c)) cm rfl ?_;{cbv;exact⟨z8 (by grind),trivial⟩};{exact trivial};cbv
   (refine rC ?_;cbv)
   exact lR
theorem oR {a k:Nat}(hk:k<=32):ishr .u32 (a:Int) (k:Int)=((a/2^k:Nat):Int):=by grind [ishr,IntKind.bits]
theorem zSC (n:Nat):n<2^gC n:=by
 unfold gC;split;{omega}
 ·(rename_i h;have hp:0<(zK n).length:=by rcases zHB (zK n).length with e|e;exact absurd (x8.1 (kR e)) h;exact e);have h1:=zW (zK n) ((zK n).length-1)
  (have h2:=wY (zK n) ((zK n).length-1);have h3:=zAW _ _ (zZ ((zK n).getD ((zK n).length-1) 0).toNat) (yL _);rw[yS oM,zO] at h1;have h4:2^(32*((zK n).length-1))=B^((zK n).length-1):=by rw[i4,show (2:Nat)^32=B from rfl]);rw[bD,h4]
  generalize ((zK n).getD ((zK n).length-1) 0).toNat=t at *
  have h6:=wG (B^((zK n).length-1)) (show t+1<=2^Lib.bitLen t from h3);grind
theorem s207 (l:List UInt32)(hl:l.length<2^40):zE 182 [nat l] (.int .i64 (fun _=>(gC (val l):Int))):=by
 refine sF Tryz.f182 ?_;have hl':=xP (zX l) hl;have c1:=iD l oM;have hb0:(zK (val l)).length=0->gC (val l)=0:=fun h=>n9.2 (x8.1 (kR h));have hb1:(zK (val l)).length≠0->gC (val l)=32*((zK (val l)).length-1)+Lib.bitLen ((zK (val l)).getD ((zK (val l)).length-1) 0).toNat:=fun h=>by rw[gC,if_neg (fun e=>h (by grind [yZ]))]
 generalize gC (val l)=bp at *
 generalize zK (val l)=p at *
 cbv;refine cA c1 ?_;cbv;refine zG (fun h=>?_) (fun h=>?_)
 ·cbv
  (refine rC ?_;cbv)
  exact zC (by rw[hb0 om];rfl)
 ·have hp:p.length≠0:=om;have hbp:=hb1 hp;have ht:=yL (p.getD (p.length-1) 0);have htl:=dT ht;cbv;refine⟨zD om om,zD om om,zD om om,xG (p.length-1) om om ?_⟩;generalize (p.getD (p.length-1) 0).toNat=t at *
  cbv;refine z3 (σ:=Nat×Nat) (fun s=>⟨[(3,.int .i64 (fun _=>(s.1:Int))),(4,.int .u32 (fun _=>(s.2:Int)))],[]⟩) (fun s=>s.1+Lib.bitLen s.2=bp/\s.2<B) (fun s=>s.2) (32*(p.length-1),t) ⟨hbp.symm,ht⟩ (.le ?_ trivial rfl) ?_;{cbv;exact⟨zC om,lR,trivial⟩};intro s hs;obtain⟨h1,h2⟩:=hs;generalize s.1=k at *
  generalize s.2=x at *
  cbv;refine zG (fun h3=>?_) (fun h3=>?_)
  ·(have hx:0<x:=om;have hh:=Lib.bitLen_half x oM (by grind [B]);have hdiv:x/2<x:=by omega);have hd2:=oR (a:=x) (k:=1) oM
   generalize hy:x/2=y at *
   cbv;refine⟨zD om om,uF oM,(k+1,y),⟨by grind,by omega⟩,hdiv,.le ?_ trivial rfl⟩;cbv;refine⟨zC om,zC ?_,trivial⟩;exact hd2
  ·have hx:x=0:=om;subst hx;rw[show Lib.bitLen 0=0 by decide] at h1;cbv
   (refine rC ?_;cbv)
   exact zC om
theorem zT8 {x:Nat}(hx:x<4294967296):iand .u32 (x:Int) 1=((x%2:Nat):Int):=by
 unfold iand;have key:(BitVec.ofInt 32 (x:Int) &&& BitVec.ofInt 32 1).toNat=x%2:=by grind
 show IntKind.u32.wrap ((BitVec.ofInt 32 (x:Int) &&& BitVec.ofInt 32 1).toNat:Int)=_;rw[key];have:=gP ((x%2:Nat):Int);grind [nx]
theorem zT7 {k:Nat}(hk:k<32):ishl .u32 1 (k:Int)=((2^k:Nat):Int):=by
 unfold ishl;have e:((1:Int)*2^(min (k:Int).toNat IntKind.u32.bits))=((2^k:Nat):Int):=by grind [IntKind.bits]
 have h2:2^k<4294967296:=pC (m:=k) (n:=32) oM hk;have:=gP ((2^k:Nat):Int);grind [nx]
theorem zEP (l:List UInt32)(i:Nat):(l.getD (i/32) 0).toNat/2^(i%32)%2=val l/2^i%2:=by
 have h1:=pH (l:=l) (i/32);have h2:val (l.drop (i/32))=val l/B^(i/32):=by have h3:=aJ l (i/32);have h4:=wY l (i/32);grind [Nat.add_mul_div_left,Nat.div_eq_of_lt]
 have h5:2^i=B^(i/32)*2^(i%32):=by show 2^i=(2^32)^(i/32)*2^(i%32);rw[<-i4,<-bD];grind
 rw[h1,h2,h5,<-Nat.div_div_eq_div_mul];generalize val l/B^(i/32)=y;have h6:B=2^(i%32)*2^(32-i%32):=by rw[<-bD,show i%32+(32-i%32)=32 by omega];rfl
 have h7:2^(32-i%32)=2*2^(31-i%32):=by rw[show 32-i%32=31-i%32+1 by omega,uG,qY]
 rw[h6,Nat.mod_mul_right_div_self,h7,Nat.mod_mul_right_mod]
theorem zSD {A b i:Nat}(hb:0<b):A/2^i=2*(A/2^(i+1))+A/2^i%2:=by
 have:A/2^(i+1)=A/2^i/2:=by rw[uG,<-Nat.div_div_eq_div_mul]
 omega
theorem zEM {A b i:Nat}(hb:0<b):(b<=2*(A/2^(i+1)%b)+A/2^i%2->A/2^i/b=2*(A/2^(i+1)/b)+1/\A/2^i%b=2*(A/2^(i+1)%b)+A/2^i%2-b) /\ (2*(A/2^(i+1)%b)+A/2^i%2<b->A/2^i/b=2*(A/2^(i+1)/b)/\A/2^i%b=2*(A/2^(i+1)%b)+A/2^i%2):=by
 have h1:=zSD (A:=A) (i:=i) hb;have h2:=Nat.div_add_mod (A/2^(i+1)) b;have h3:=uH (A/2^(i+1)) hb;have h4:A/2^i%2<2:=uH _ oM;generalize A/2^(i+1)%b=r at *
 generalize A/2^(i+1)/b=Q at *
 generalize A/2^i%2=t at *
 rw[h1];generalize A/2^(i+1)=X at *
 have h5:b*(2*Q)=2*(b*Q):=Nat.mul_left_comm _ _ _;constructor
 ·(intro h;have e:2*X+t=b*(2*Q+1)+(2*r+t-b):=by grind);rw[e,Nat.mul_add_div hb,Nat.mul_add_mod,zMN oM,qU oM]
  omega
 ·(intro h;have e:2*X+t=b*(2*Q)+(2*r+t):=by omega);rw[e,Nat.mul_add_div hb,Nat.mul_add_mod,zMN h,qU h]
  omega
theorem zAP {q:List UInt32}{i m:Nat}(h:val q=m*2^(i+1)):∃ t,(q.getD (i/32) 0).toNat=2^(i%32+1)*t:=by
 have h1:=pH (l:=q) (i/32);have h3:=aJ q (i/32);have h4:=wY q (i/32);have h5:2^(i+1)=B^(i/32)*2^(i%32+1):=by show 2^(i+1)=(2^32)^(i/32)*2^(i%32+1);rw[<-i4,<-bD];grind
 have h2:val (q.drop (i/32))=2^(i%32+1)*m:=by
  (have hB:=Nat.pow_pos (n:=i/32) w5;have e:val (q.drop (i/32))=val q/B^(i/32):=by grind [Nat.add_mul_div_left,Nat.div_eq_of_lt]);grind [Nat.mul_comm,Nat.mul_assoc,Nat.mul_div_cancel_left]
 have h6:B=2^(i%32+1)*2^(31-i%32):=by rw[<-bD,show i%32+1+(31-i%32)=32 by omega];rfl
 rw[h1,h2,h6,Nat.mul_mod_mul_left];grind
theorem yAU:Pg.funcs[133]?=some Tryz.f133:=by rw[uV];rfl
theorem s159 (a b:List UInt32)(ha:a.length<2^34)(hb:b.length<2^34)(h0:val b≠0):zE 133 [nat a,nat b] (.tup [nat (zK (val a/val b)),nat (zK (val a%val b)),.int .i64 (fun _=>0)]):=by
 refine cH yAU rfl rfl rfl rfl rfl ?_;have hB:B=4294967296:=rfl;have hbp:0<val b:=rE h0;have ca:=s206 a oM;have cb:=s206 b oM;have cbits:=s207 a oM;have hbits:=zSC (val a);have hbl:gC (val a)<=32*a.length:=vD zSB (wG _ (zX a));have hrl:∀ n,(zK (val a/2^n%val b)).length<=b.length:=fun n=>yF (bC (uH _ hbp) (xZ b));have hdiv0:val a/2^gC (val a)=0:=zMN hbits;have hb1:val b<B*B->(if val b<B*B then val b else 0:Nat)=val b:=fun h=>if_pos h;have ha1:val a<B*B->(if val a<B*B then val a else 0:Nat)=val a:=fun h=>if_pos h;have cof:=fun (h:val a<B*B)=>s149 (val a/val b) (xP (iY _ _) h);have cor:=fun (h:val a<B*B)=>s149 (val a%val b) (xP (Nat.mod_le _ _) h);have hda:decide (val a<B*B)=true->val a<B*B:=of_decide_eq_true;have hdb:decide (val b<B*B)=true->val b<B*B:=of_decide_eq_true;generalize (if val a<B*B then val a else 0:Nat)=x at *
 generalize (if val b<B*B then val b else 0:Nat)=y at *
 generalize decide (val a<B*B)=d1 at *
 generalize decide (val b<B*B)=d2 at *
 generalize hbb:gC (val a)=bits at *
 cbv;refine cA ca ?_;cbv;refine cA cb ?_;cbv;refine z7 (fun h=>?_) (fun h=>?_)
 ·subst h;have hyb:=hb1 (hdb rfl);cbv;refine zG (fun h=>absurd (show y=0 from om) oM) (fun h=>?_);cbv;refine z7 (fun h1=>?_) (fun h1=>?_)
  ·(subst h1;have hxa:=ha1 (hda rfl);have c1:=cof (hda rfl);have c2:=cor (hda rfl);have hxl:val a<18446744073709551616:=hda rfl;have e1:nx .u64 (iquo (x:Int) (y:Int))=((val a/val b:Nat):Int):=by rw[oT,hxa,hyb];exact x5 (xP (iY _ _) hxl));have e2:irem (x:Int) (y:Int)=((val a%val b:Nat):Int):=by grind [uN]
   cbv;refine zP (fun _=>?_) (fun h=>absurd h (by decide));cbv;refine zN 8 (by cbv) ?_;cbv;refine⟨uA oM,?_⟩;refine x9 (by exact⟨zC e1,trivial⟩) c1 rfl ?_;cbv;refine⟨uA oM,?_⟩;refine x9 (by exact⟨zC e2,trivial⟩) c2 rfl ?_;cbv
   (refine rC ?_;cbv)
   exact okA
  ·subst h1;cbv;refine⟨yD om om,jO om om,?_⟩;cbv;refine cA cbits ?_;cbv;refine⟨zD om om,?_⟩;refine z3 (σ:=Nat×List UInt32) (fun s=>⟨[(0,nat a),(1,nat b),(11,.osl 43 1 (fun _=>0) (fun _=>a.length)),(12,nat (zK (val a/2^s.1%val b))),(13,.int .i64 (fun _=>(s.1:Int)-1))],[(43,.arr 1 (fun _=>lm s.2))]⟩)
    (fun s=>s.1<=bits/\s.2.length=a.length/\val s.2=(val a/2^s.1/val b)*2^s.1) (fun s=>s.1) (bits,List.replicate a.length 0) ⟨zZ _,by simp,by rw[hdiv0];simp[gV]⟩ (.trans (.frz 44 rfl rfl (by cbv;repeat' first|exact trivial|exact z8 (by simp)|apply And.intro) (by cbv;repeat' first|exact trivial|apply And.intro)) (.le ?_ ?_ rfl)) ?_
   {cbv;exact⟨lR,lR,yC rfl (by (try dsimp only [zF] at *);grind [zH]),zR (by rw[hdiv0,Nat.zero_mod,yZ];rfl),lR,trivial⟩};{cbv;exact⟨zI (zBV _ _ (by (try dsimp only [zF] at *);simp only[zH])),trivial⟩};intro s hs;obtain⟨k1,k2,k3⟩:=hs;generalize s.1=n at *
   generalize s.2=q at *
   cbv;refine zG (fun h5=>?_) (fun h5=>?_)
   ·(obtain⟨i,rfl⟩:∃ i,n=i+1:=⟨n-1,by (try dsimp only [zF] at *);omega⟩;have hi1:((i+1:Nat):Int)-1=(i:Int):=by omega);have hq:nx .i64 (iquo (((i+1:Nat):Int)-1) 32)=((i/32:Nat):Int):=by grind [iquo,zFF]
    (have hr:irem (((i+1:Nat):Int)-1) 32=((i%32:Nat):Int):=by rw[hi1];exact uN (b:=32));have hil:i/32<a.length:=by omega
    have hbit:=zEP a i;have hbit2:val a/2^i%2<2:=uH _ oM;have hd:=yL (a.getD (i/32) 0);have hrl1:=hrl (i+1);have cs:=s208 (zK (val a/2^(i+1)%val b)) 1 oM oM;rw[zO] at cs;have hl2:(zK (val a/2^(i+1)%val b*2^1)).length<=b.length+1:=by refine yF ?_;rw[show B^(b.length+1)=B^b.length*B from uG _ _];refine zLC (bC (uH _ hbp) (xZ b)) (by decide)
    (have cadd:=s156 (zK (val a/2^(i+1)%val b*2^1)) [UInt32.ofNat (val a/2^i%2)] oM (by simp);have hv1:val [UInt32.ofNat (val a/2^i%2)]=val a/2^i%2:=by simp only[val,xW,B];omega);rw[zO,hv1] at cadd
    (have hdb:=zEM (A:=val a) (i:=i) hbp;have e2r:val a/2^(i+1)%val b*2^1+val a/2^i%2=2*(val a/2^(i+1)%val b)+val a/2^i%2:=by omega);rw[e2r] at cadd
    have hl3:(zK (2*(val a/2^(i+1)%val b)+val a/2^i%2)).length<=b.length+1:=by
     refine yF ?_;have h7:=bC (uH (val a/2^(i+1)) hbp) (xZ b);have h8:B^b.length*4<=B^b.length*B:=wG _ (by decide);rw[show B^(b.length+1)=B^b.length*B from uG _ _];generalize B^b.length=P at *
     omega
    (have ccmp:=s205 (zK (2*(val a/2^(i+1)%val b)+val a/2^i%2)) b oM oM;have csub:=s157 (zK (2*(val a/2^(i+1)%val b)+val a/2^i%2)) b oM oM;rw[zO] at ccmp csub;obtain⟨hd1,hd2⟩:=hdb;have hfree:=zAP (q:=q) (i:=i) (m:=val a/2^(i+1)/val b) k3;have hpow:(2:Nat)^(i+1)=2*2^i:=by rw[uG,qY]);have k3':val q=val a/2^(i+1)/val b*(2*2^i):=by rw[<-hpow];exact k3
    (have hcl:0<=qJ (2*(val a/2^(i+1)%val b)+val a/2^i%2) (val b)↔val b<=2*(val a/2^(i+1)%val b)+val a/2^i%2:=by unfold qJ;split;{omega};{split <;> omega});have hbitE:([[.int .u32 (iand .u32 (ishr .u32 (((a.getD (i/32) 0).toNat:Nat):Int) (irem (((i+1:Nat):Int)-1) 32)) 1)]]:List (List D))=lm [UInt32.ofNat (val a/2^i%2)]:=by rw[hr,oR oM,zT8 (xP (iY _ _) hd),hbit];simp only[lm,kA,zLE,xW];rw[qU (show val a/2^i%2<B by simp only[B];omega)]
    generalize qJ (2*(val a/2^(i+1)%val b)+val a/2^i%2) (val b)=C at *
    generalize hR:2*(val a/2^(i+1)%val b)+val a/2^i%2=R at *
    generalize zK (val a/2^(i+1)%val b*2^1)=L2 at *
    cbv;refine yP rfl (by exact⟨lR,zC rfl,trivial⟩) cs rfl ?_;cbv;refine⟨uA oM,xG (i/32) (by (try dsimp only [zF] at *);rw[hq]) hil ?_⟩;cbv;refine⟨uA oM,uF (by (try dsimp only [zF] at *);rw[hr];omega),?_⟩;refine yP rfl (by exact⟨lR,zR hbitE,trivial⟩) cadd rfl ?_;cbv;refine cA ccmp ?_;cbv;refine zG (fun h6=>?_) (fun h6=>?_)
    ·(obtain⟨e1,e2⟩:=hd1 (hcl.1 h6);obtain⟨t,ht⟩:=hfree;have hqj:=yL (q.getD (i/32) 0);have hs32:i%32<32:=uH _ oM;have h2s:2^(i%32)<2^(i%32+1):=pC oM oM;have h2B:2^(i%32)<4294967296:=pC (n:=32) oM hs32;have hor:(q.getD (i/32) 0).toNat ||| 2^(i%32)=(q.getD (i/32) 0).toNat+2^(i%32):=by rw[ht,Nat.or_comm,pL h2s,zE5]);have horl:(q.getD (i/32) 0).toNat+2^(i%32)<B:=by rw[<-hor];exact zLD (n:=32) hqj h2B
     (have hW:ior .u32 (((q.getD (i/32) 0).toNat:Nat):Int) (ishl .u32 1 (irem (((i+1:Nat):Int)-1) 32))=(((q.getD (i/32) 0).toNat+2^(i%32):Nat):Int):=by rw[hr,zT7 hs32,zI2 hqj h2B,hor]);have hq40:q.length<2^40:=by omega
     (have hjq:i/32<q.length:=by omega);cbv
     refine cA csub ?_;cbv;refine zN 10 (by cbv) ?_;cbv;refine⟨uA oM,y9 (by (try dsimp only [zF] at *);rw[hq];omega) (by (try dsimp only [zF] at *);rw[hq];omega),j8 (i/32) (by (try dsimp only [zF] at *);rw[hq];omega) hjq ?_⟩;cbv;refine⟨uA oM,uF (by (try dsimp only [zF] at *);rw[hr];omega),y9 (by (try dsimp only [zF] at *);rw[hq];omega) (by (try dsimp only [zF] at *);rw[hq];omega),j8 (i/32) (by (try dsimp only [zF] at *);rw[hq];omega) hjq ?_⟩;cbv;refine⟨zD om om,(i,q.set (i/32) (UInt32.ofNat ((q.getD (i/32) 0).toNat+2^(i%32)))),⟨by omega,by simpa using k2,?_⟩,by show i<i+1;omega,.le ?_ ?_ rfl⟩
     ·(show val (q.set (i/32) _)=val a/2^i/val b*2^i;have e3:=sN q hjq (UInt32.ofNat ((q.getD (i/32) 0).toNat+2^(i%32)));have e4:2^i=B^(i/32)*2^(i%32):=by show 2^i=(2^32)^(i/32)*2^(i%32);rw[<-i4,<-bD];congr 1;omega);rw[xW,qU horl,qH,<-e4,k3'] at e3;rw[e1,gF,Nat.one_mul,qY 2 (val a/2^(i+1)/val b),jX];omega
     {cbv;exact⟨lR,lR,lR,zR (by rw[e2]),zC om,trivial⟩}
     ·(cbv;have hset:(lm q).set (0+(nx .i64 (iquo (((i+1:Nat):Int)-1) 32)).toNat) [.int .u32 (ior .u32 (((q.getD (i/32) 0).toNat:Nat):Int) (ishl .u32 1 (irem (((i+1:Nat):Int)-1) 32)))]=lm (q.set (i/32) (UInt32.ofNat ((q.getD (i/32) 0).toNat+2^(i%32)))):=by rw[hq];exact fD q (by rw[mW,kZ]) hW horl);exact⟨zI hset,trivial⟩
    {obtain⟨e1,e2⟩:=hd2 (by have:=fun e=>h6 (hcl.2 e);omega);cbv;refine⟨zD om om,(i,q),⟨by omega,k2,?_⟩,by show i<i+1;omega,.le ?_ ?_ rfl⟩;{show val q=val a/2^i/val b*2^i;rw[k3',e1,qY 2 (val a/2^(i+1)/val b),jX]};{cbv;exact⟨lR,lR,lR,zR (by rw[e2]),zC om,trivial⟩};{cbv;exact⟨zI rfl,trivial⟩}}
   ·(have hn:n=0:=by (try dsimp only [zF] at *);omega);subst hn
    rw[zLB,Nat.div_one,pD] at k3;have cm:=iD q oM;rw[k3] at cm;cbv;refine kQ (.frz 43 rfl rfl ?_ ?_) rfl (by refine⟨zR ?_,trivial⟩;exact yS (by show ((lm q).drop 0).length<=a.length;rw[wC,zH];omega)) cm rfl ?_;{cbv;exact⟨z8 (by grind [zH]),z8 (by grind [zH]),trivial⟩};{exact trivial};cbv
    (refine rC ?_;cbv)
    exact⟨lR,zR (by grind),lR,trivial⟩
 ·subst h;cbv;refine z7 (fun h1=>?_) (fun h1=>?_)
  ·subst h1;cbv;refine zP (fun h=>absurd h (by decide)) (fun _=>?_);cbv;refine⟨yD om om,jO om om,?_⟩;cbv;refine cA cbits ?_;cbv;refine⟨zD om om,?_⟩;refine z3 (σ:=Nat×List UInt32) (fun s=>⟨[(0,nat a),(1,nat b),(11,.osl 43 1 (fun _=>0) (fun _=>a.length)),(12,nat (zK (val a/2^s.1%val b))),(13,.int .i64 (fun _=>(s.1:Int)-1))],[(43,.arr 1 (fun _=>lm s.2))]⟩)
    (fun s=>s.1<=bits/\s.2.length=a.length/\val s.2=(val a/2^s.1/val b)*2^s.1) (fun s=>s.1) (bits,List.replicate a.length 0) ⟨zZ _,by simp,by rw[hdiv0];simp[gV]⟩ (.trans (.frz 44 rfl rfl (by cbv;repeat' first|exact trivial|exact z8 (by simp)|apply And.intro) (by cbv;repeat' first|exact trivial|apply And.intro)) (.le ?_ ?_ rfl)) ?_
   {cbv;exact⟨lR,lR,yC rfl (by (try dsimp only [zF] at *);grind [zH]),zR (by rw[hdiv0,Nat.zero_mod,yZ];rfl),lR,trivial⟩};{cbv;exact⟨zI (zBV _ _ (by (try dsimp only [zF] at *);simp only[zH])),trivial⟩};intro s hs;obtain⟨k1,k2,k3⟩:=hs;generalize s.1=n at *
   generalize s.2=q at *
   cbv;refine zG (fun h5=>?_) (fun h5=>?_)
   ·(obtain⟨i,rfl⟩:∃ i,n=i+1:=⟨n-1,by (try dsimp only [zF] at *);omega⟩;have hi1:((i+1:Nat):Int)-1=(i:Int):=by omega);have hq:nx .i64 (iquo (((i+1:Nat):Int)-1) 32)=((i/32:Nat):Int):=by grind [iquo,zFF]
    (have hr:irem (((i+1:Nat):Int)-1) 32=((i%32:Nat):Int):=by rw[hi1];exact uN (b:=32));have hil:i/32<a.length:=by omega
    have hbit:=zEP a i;have hbit2:val a/2^i%2<2:=uH _ oM;have hd:=yL (a.getD (i/32) 0);have hrl1:=hrl (i+1);have cs:=s208 (zK (val a/2^(i+1)%val b)) 1 oM oM;rw[zO] at cs;have hl2:(zK (val a/2^(i+1)%val b*2^1)).length<=b.length+1:=by refine yF ?_;rw[show B^(b.length+1)=B^b.length*B from uG _ _];refine zLC (bC (uH _ hbp) (xZ b)) (by decide)
    (have cadd:=s156 (zK (val a/2^(i+1)%val b*2^1)) [UInt32.ofNat (val a/2^i%2)] oM (by simp);have hv1:val [UInt32.ofNat (val a/2^i%2)]=val a/2^i%2:=by simp only[val,xW,B];omega);rw[zO,hv1] at cadd
    (have hdb:=zEM (A:=val a) (i:=i) hbp;have e2r:val a/2^(i+1)%val b*2^1+val a/2^i%2=2*(val a/2^(i+1)%val b)+val a/2^i%2:=by omega);rw[e2r] at cadd
    have hl3:(zK (2*(val a/2^(i+1)%val b)+val a/2^i%2)).length<=b.length+1:=by
     refine yF ?_;have h7:=bC (uH (val a/2^(i+1)) hbp) (xZ b);have h8:B^b.length*4<=B^b.length*B:=wG _ (by decide);rw[show B^(b.length+1)=B^b.length*B from uG _ _];generalize B^b.length=P at *
     omega
    (have ccmp:=s205 (zK (2*(val a/2^(i+1)%val b)+val a/2^i%2)) b oM oM;have csub:=s157 (zK (2*(val a/2^(i+1)%val b)+val a/2^i%2)) b oM oM;rw[zO] at ccmp csub;obtain⟨hd1,hd2⟩:=hdb;have hfree:=zAP (q:=q) (i:=i) (m:=val a/2^(i+1)/val b) k3;have hpow:(2:Nat)^(i+1)=2*2^i:=by rw[uG,qY]);have k3':val q=val a/2^(i+1)/val b*(2*2^i):=by rw[<-hpow];exact k3
    (have hcl:0<=qJ (2*(val a/2^(i+1)%val b)+val a/2^i%2) (val b)↔val b<=2*(val a/2^(i+1)%val b)+val a/2^i%2:=by unfold qJ;split;{omega};{split <;> omega});have hbitE:([[.int .u32 (iand .u32 (ishr .u32 (((a.getD (i/32) 0).toNat:Nat):Int) (irem (((i+1:Nat):Int)-1) 32)) 1)]]:List (List D))=lm [UInt32.ofNat (val a/2^i%2)]:=by rw[hr,oR oM,zT8 (xP (iY _ _) hd),hbit];simp only[lm,kA,zLE,xW];rw[qU (show val a/2^i%2<B by simp only[B];omega)]
    generalize qJ (2*(val a/2^(i+1)%val b)+val a/2^i%2) (val b)=C at *
    generalize hR:2*(val a/2^(i+1)%val b)+val a/2^i%2=R at *
    generalize zK (val a/2^(i+1)%val b*2^1)=L2 at *
    cbv;refine yP rfl (by exact⟨lR,zC rfl,trivial⟩) cs rfl ?_;cbv;refine⟨uA oM,xG (i/32) (by (try dsimp only [zF] at *);rw[hq]) hil ?_⟩;cbv;refine⟨uA oM,uF (by (try dsimp only [zF] at *);rw[hr];omega),?_⟩;refine yP rfl (by exact⟨lR,zR hbitE,trivial⟩) cadd rfl ?_;cbv;refine cA ccmp ?_;cbv;refine zG (fun h6=>?_) (fun h6=>?_)
    ·(obtain⟨e1,e2⟩:=hd1 (hcl.1 h6);obtain⟨t,ht⟩:=hfree;have hqj:=yL (q.getD (i/32) 0);have hs32:i%32<32:=uH _ oM;have h2s:2^(i%32)<2^(i%32+1):=pC oM oM;have h2B:2^(i%32)<4294967296:=pC (n:=32) oM hs32;have hor:(q.getD (i/32) 0).toNat ||| 2^(i%32)=(q.getD (i/32) 0).toNat+2^(i%32):=by rw[ht,Nat.or_comm,pL h2s,zE5]);have horl:(q.getD (i/32) 0).toNat+2^(i%32)<B:=by rw[<-hor];exact zLD (n:=32) hqj h2B
     (have hW:ior .u32 (((q.getD (i/32) 0).toNat:Nat):Int) (ishl .u32 1 (irem (((i+1:Nat):Int)-1) 32))=(((q.getD (i/32) 0).toNat+2^(i%32):Nat):Int):=by rw[hr,zT7 hs32,zI2 hqj h2B,hor]);have hq40:q.length<2^40:=by omega
     (have hjq:i/32<q.length:=by omega);cbv
     refine cA csub ?_;cbv;refine zN 10 (by cbv) ?_;cbv;refine⟨uA oM,y9 (by (try dsimp only [zF] at *);rw[hq];omega) (by (try dsimp only [zF] at *);rw[hq];omega),j8 (i/32) (by (try dsimp only [zF] at *);rw[hq];omega) hjq ?_⟩;cbv;refine⟨uA oM,uF (by (try dsimp only [zF] at *);rw[hr];omega),y9 (by (try dsimp only [zF] at *);rw[hq];omega) (by (try dsimp only [zF] at *);rw[hq];omega),j8 (i/32) (by (try dsimp only [zF] at *);rw[hq];omega) hjq ?_⟩;cbv;refine⟨zD om om,(i,q.set (i/32) (UInt32.ofNat ((q.getD (i/32) 0).toNat+2^(i%32)))),⟨by omega,by simpa using k2,?_⟩,by show i<i+1;omega,.le ?_ ?_ rfl⟩
     ·(show val (q.set (i/32) _)=val a/2^i/val b*2^i;have e3:=sN q hjq (UInt32.ofNat ((q.getD (i/32) 0).toNat+2^(i%32)));have e4:2^i=B^(i/32)*2^(i%32):=by show 2^i=(2^32)^(i/32)*2^(i%32);rw[<-i4,<-bD];congr 1;omega);rw[xW,qU horl,qH,<-e4,k3'] at e3;rw[e1,gF,Nat.one_mul,qY 2 (val a/2^(i+1)/val b),jX];omega
     {cbv;exact⟨lR,lR,lR,zR (by rw[e2]),zC om,trivial⟩}
     ·(cbv;have hset:(lm q).set (0+(nx .i64 (iquo (((i+1:Nat):Int)-1) 32)).toNat) [.int .u32 (ior .u32 (((q.getD (i/32) 0).toNat:Nat):Int) (ishl .u32 1 (irem (((i+1:Nat):Int)-1) 32)))]=lm (q.set (i/32) (UInt32.ofNat ((q.getD (i/32) 0).toNat+2^(i%32)))):=by rw[hq];exact fD q (by rw[mW,kZ]) hW horl);exact⟨zI hset,trivial⟩
    {obtain⟨e1,e2⟩:=hd2 (by have:=fun e=>h6 (hcl.2 e);omega);cbv;refine⟨zD om om,(i,q),⟨by omega,k2,?_⟩,by show i<i+1;omega,.le ?_ ?_ rfl⟩;{show val q=val a/2^i/val b*2^i;rw[k3',e1,qY 2 (val a/2^(i+1)/val b),jX]};{cbv;exact⟨lR,lR,lR,zR (by rw[e2]),zC om,trivial⟩};{cbv;exact⟨zI rfl,trivial⟩}}
   ·(have hn:n=0:=by (try dsimp only [zF] at *);omega);subst hn
    rw[zLB,Nat.div_one,pD] at k3;have cm:=iD q oM;rw[k3] at cm;cbv;refine kQ (.frz 43 rfl rfl ?_ ?_) rfl (by refine⟨zR ?_,trivial⟩;exact yS (by show ((lm q).drop 0).length<=a.length;rw[wC,zH];omega)) cm rfl ?_;{cbv;exact⟨z8 (by grind [zH]),z8 (by grind [zH]),trivial⟩};{exact trivial};cbv
    (refine rC ?_;cbv)
    exact⟨lR,zR (by grind),lR,trivial⟩
  ·subst h1;cbv;refine⟨yD om om,jO om om,?_⟩;cbv;refine cA cbits ?_;cbv;refine⟨zD om om,?_⟩;refine z3 (σ:=Nat×List UInt32) (fun s=>⟨[(0,nat a),(1,nat b),(11,.osl 43 1 (fun _=>0) (fun _=>a.length)),(12,nat (zK (val a/2^s.1%val b))),(13,.int .i64 (fun _=>(s.1:Int)-1))],[(43,.arr 1 (fun _=>lm s.2))]⟩)
    (fun s=>s.1<=bits/\s.2.length=a.length/\val s.2=(val a/2^s.1/val b)*2^s.1) (fun s=>s.1) (bits,List.replicate a.length 0) ⟨zZ _,by simp,by rw[hdiv0];simp[gV]⟩ (.trans (.frz 44 rfl rfl (by cbv;repeat' first|exact trivial|exact z8 (by simp)|apply And.intro) (by cbv;repeat' first|exact trivial|apply And.intro)) (.le ?_ ?_ rfl)) ?_
   {cbv;exact⟨lR,lR,yC rfl (by (try dsimp only [zF] at *);grind [zH]),zR (by rw[hdiv0,Nat.zero_mod,yZ];rfl),lR,trivial⟩};{cbv;exact⟨zI (zBV _ _ (by (try dsimp only [zF] at *);simp only[zH])),trivial⟩};intro s hs;obtain⟨k1,k2,k3⟩:=hs;generalize s.1=n at *
   generalize s.2=q at *
   cbv;refine zG (fun h5=>?_) (fun h5=>?_)
   ·(obtain⟨i,rfl⟩:∃ i,n=i+1:=⟨n-1,by (try dsimp only [zF] at *);omega⟩;have hi1:((i+1:Nat):Int)-1=(i:Int):=by omega);have hq:nx .i64 (iquo (((i+1:Nat):Int)-1) 32)=((i/32:Nat):Int):=by grind [iquo,zFF]
    (have hr:irem (((i+1:Nat):Int)-1) 32=((i%32:Nat):Int):=by rw[hi1];exact uN (b:=32));have hil:i/32<a.length:=by omega
    have hbit:=zEP a i;have hbit2:val a/2^i%2<2:=uH _ oM;have hd:=yL (a.getD (i/32) 0);have hrl1:=hrl (i+1);have cs:=s208 (zK (val a/2^(i+1)%val b)) 1 oM oM;rw[zO] at cs;have hl2:(zK (val a/2^(i+1)%val b*2^1)).length<=b.length+1:=by refine yF ?_;rw[show B^(b.length+1)=B^b.length*B from uG _ _];refine zLC (bC (uH _ hbp) (xZ b)) (by decide)
    (have cadd:=s156 (zK (val a/2^(i+1)%val b*2^1)) [UInt32.ofNat (val a/2^i%2)] oM (by simp);have hv1:val [UInt32.ofNat (val a/2^i%2)]=val a/2^i%2:=by simp only[val,xW,B];omega);rw[zO,hv1] at cadd
    (have hdb:=zEM (A:=val a) (i:=i) hbp;have e2r:val a/2^(i+1)%val b*2^1+val a/2^i%2=2*(val a/2^(i+1)%val b)+val a/2^i%2:=by omega);rw[e2r] at cadd
    have hl3:(zK (2*(val a/2^(i+1)%val b)+val a/2^i%2)).length<=b.length+1:=by
     refine yF ?_;have h7:=bC (uH (val a/2^(i+1)) hbp) (xZ b);have h8:B^b.length*4<=B^b.length*B:=wG _ (by decide);rw[show B^(b.length+1)=B^b.length*B from uG _ _];generalize B^b.length=P at *
     omega
    (have ccmp:=s205 (zK (2*(val a/2^(i+1)%val b)+val a/2^i%2)) b oM oM;have csub:=s157 (zK (2*(val a/2^(i+1)%val b)+val a/2^i%2)) b oM oM;rw[zO] at ccmp csub;obtain⟨hd1,hd2⟩:=hdb;have hfree:=zAP (q:=q) (i:=i) (m:=val a/2^(i+1)/val b) k3;have hpow:(2:Nat)^(i+1)=2*2^i:=by rw[uG,qY]);have k3':val q=val a/2^(i+1)/val b*(2*2^i):=by rw[<-hpow];exact k3
    (have hcl:0<=qJ (2*(val a/2^(i+1)%val b)+val a/2^i%2) (val b)↔val b<=2*(val a/2^(i+1)%val b)+val a/2^i%2:=by unfold qJ;split;{omega};{split <;> omega});have hbitE:([[.int .u32 (iand .u32 (ishr .u32 (((a.getD (i/32) 0).toNat:Nat):Int) (irem (((i+1:Nat):Int)-1) 32)) 1)]]:List (List D))=lm [UInt32.ofNat (val a/2^i%2)]:=by rw[hr,oR oM,zT8 (xP (iY _ _) hd),hbit];simp only[lm,kA,zLE,xW];rw[qU (show val a/2^i%2<B by simp only[B];omega)]
    generalize qJ (2*(val a/2^(i+1)%val b)+val a/2^i%2) (val b)=C at *
    generalize hR:2*(val a/2^(i+1)%val b)+val a/2^i%2=R at *
    generalize zK (val a/2^(i+1)%val b*2^1)=L2 at *
    cbv;refine yP rfl (by exact⟨lR,zC rfl,trivial⟩) cs rfl ?_;cbv;refine⟨uA oM,xG (i/32) (by (try dsimp only [zF] at *);rw[hq]) hil ?_⟩;cbv;refine⟨uA oM,uF (by (try dsimp only [zF] at *);rw[hr];omega),?_⟩;refine yP rfl (by exact⟨lR,zR hbitE,trivial⟩) cadd rfl ?_;cbv;refine cA ccmp ?_;cbv;refine zG (fun h6=>?_) (fun h6=>?_)
    ·(obtain⟨e1,e2⟩:=hd1 (hcl.1 h6);obtain⟨t,ht⟩:=hfree;have hqj:=yL (q.getD (i/32) 0);have hs32:i%32<32:=uH _ oM;have h2s:2^(i%32)<2^(i%32+1):=pC oM oM;have h2B:2^(i%32)<4294967296:=pC (n:=32) oM hs32;have hor:(q.getD (i/32) 0).toNat ||| 2^(i%32)=(q.getD (i/32) 0).toNat+2^(i%32):=by rw[ht,Nat.or_comm,pL h2s,zE5]);have horl:(q.getD (i/32) 0).toNat+2^(i%32)<B:=by rw[<-hor];exact zLD (n:=32) hqj h2B
     (have hW:ior .u32 (((q.getD (i/32) 0).toNat:Nat):Int) (ishl .u32 1 (irem (((i+1:Nat):Int)-1) 32))=(((q.getD (i/32) 0).toNat+2^(i%32):Nat):Int):=by rw[hr,zT7 hs32,zI2 hqj h2B,hor]);have hq40:q.length<2^40:=by omega
     (have hjq:i/32<q.length:=by omega);cbv
     refine cA csub ?_;cbv;refine zN 10 (by cbv) ?_;cbv;refine⟨uA oM,y9 (by (try dsimp only [zF] at *);rw[hq];omega) (by (try dsimp only [zF] at *);rw[hq];omega),j8 (i/32) (by (try dsimp only [zF] at *);rw[hq];omega) hjq ?_⟩;cbv;refine⟨uA oM,uF (by (try dsimp only [zF] at *);rw[hr];omega),y9 (by (try dsimp only [zF] at *);rw[hq];omega) (by (try dsimp only [zF] at *);rw[hq];omega),j8 (i/32) (by (try dsimp only [zF] at *);rw[hq];omega) hjq ?_⟩;cbv;refine⟨zD om om,(i,q.set (i/32) (UInt32.ofNat ((q.getD (i/32) 0).toNat+2^(i%32)))),⟨by omega,by simpa using k2,?_⟩,by show i<i+1;omega,.le ?_ ?_ rfl⟩
     ·(show val (q.set (i/32) _)=val a/2^i/val b*2^i;have e3:=sN q hjq (UInt32.ofNat ((q.getD (i/32) 0).toNat+2^(i%32)));have e4:2^i=B^(i/32)*2^(i%32):=by show 2^i=(2^32)^(i/32)*2^(i%32);rw[<-i4,<-bD];congr 1;omega);rw[xW,qU horl,qH,<-e4,k3'] at e3;rw[e1,gF,Nat.one_mul,qY 2 (val a/2^(i+1)/val b),jX];omega
     {cbv;exact⟨lR,lR,lR,zR (by rw[e2]),zC om,trivial⟩}
     ·(cbv;have hset:(lm q).set (0+(nx .i64 (iquo (((i+1:Nat):Int)-1) 32)).toNat) [.int .u32 (ior .u32 (((q.getD (i/32) 0).toNat:Nat):Int) (ishl .u32 1 (irem (((i+1:Nat):Int)-1) 32)))]=lm (q.set (i/32) (UInt32.ofNat ((q.getD (i/32) 0).toNat+2^(i%32)))):=by rw[hq];exact fD q (by rw[mW,kZ]) hW horl);exact⟨zI hset,trivial⟩
    {obtain⟨e1,e2⟩:=hd2 (by have:=fun e=>h6 (hcl.2 e);omega);cbv;refine⟨zD om om,(i,q),⟨by omega,k2,?_⟩,by show i<i+1;omega,.le ?_ ?_ rfl⟩;{show val q=val a/2^i/val b*2^i;rw[k3',e1,qY 2 (val a/2^(i+1)/val b),jX]};{cbv;exact⟨lR,lR,lR,zR (by rw[e2]),zC om,trivial⟩};{cbv;exact⟨zI rfl,trivial⟩}}
   ·(have hn:n=0:=by (try dsimp only [zF] at *);omega);subst hn
    rw[zLB,Nat.div_one,pD] at k3;have cm:=iD q oM;rw[k3] at cm;cbv;refine kQ (.frz 43 rfl rfl ?_ ?_) rfl (by refine⟨zR ?_,trivial⟩;exact yS (by show ((lm q).drop 0).length<=a.length;rw[wC,zH];omega)) cm rfl ?_;{cbv;exact⟨z8 (by grind [zH]),z8 (by grind [zH]),trivial⟩};{exact trivial};cbv
    (refine rC ?_;cbv)
    exact⟨lR,zR (by grind),lR,trivial⟩
end Go.Proofs.YtaeaffgjdcigoaaGreat
