/- A part of the proof: ReC. -/
import Derived.Test.YtfainocfaddbdaaGreatT21
set_option linter.all false
namespace Go.Proofs.YtfainocfaddbdaaGreat
open Go
set_option maxRecDepth 100000
theorem s99 (a b:List UInt32)(ha:a.length<2^39)(hb:b.length<2^39):zM 70 [nat a,nat b] (nat (zD (val a*val b))):=by
 refine sF Tryz.f70 ?_;have hBB:B*B=18446744073709551616:=by decide
 have hB:B=4294967296:=rfl;generalize hW:zD (val a*val b)=W;cbv;refine⟨zE om om,zE om om,yJ om om,wM om om,?_⟩;cbv;refine yB (σ:=Nat×List UInt32) (fun s=>⟨[(0,nat a),(1,nat b),(5,.osl 15 1 (fun _=>0) (fun _=>a.length+b.length+1)),(6,.int .i64 (fun _=>(s.1:Int)))],[(15,.arr 1 (fun _=>lm s.2))]⟩)
  (fun s=>s.1<=a.length/\s.2.length=a.length+b.length+1/\val s.2=val (a.take s.1)*val b) (fun s=>a.length-s.1)
  (0,List.replicate (a.length+b.length+1) 0) ⟨Nat.zero_le _,by simp,by simp[val,kH]⟩ (.le ?_ ?_ rfl) ?_
 {cbv;exact⟨lR,lR,z5 rfl (by (try dsimp only [zJ] at *);simp only[zG];omega),lR,trivial⟩};{cbv;exact⟨zA (t5 _ _ (by (try dsimp only [zJ] at *);simp only[zG];omega)),trivial⟩};intro s hs;obtain⟨h1,h2,h3⟩:=hs;generalize s.1=i at *
 generalize s.2=out at *
 cbv;refine zF (fun h4=>?_) (fun h4=>?_)
 ·have hi:i<a.length:=om;have hx:=yD (a.getD i 0);have hta:=zR a i;cbv;refine yB (σ:=Nat×Nat×List UInt32) (fun s=>⟨[(0,nat a),(1,nat b),(5,.osl 15 1 (fun _=>0) (fun _=>a.length+b.length+1)),(6,.int .i64 (fun _=>(i:Int))),(7,.int .u64 (fun _=>(s.2.1:Int))),(8,.int .i64 (fun _=>(s.1:Int)))],[(15,.arr 1 (fun _=>lm s.2.2))]⟩)
   (fun s=>s.1<=b.length+1/\s.2.1<B/\s.2.2.length=a.length+b.length+1/\val s.2.2+B^(i+s.1)*s.2.1=val (a.take i)*val b+B^i*((a.getD i 0).toNat*val (b.take s.1))) (fun s=>b.length+1-s.1)
   (0,0,out) ⟨Nat.zero_le _,xN,h2,by simp[val,h3]⟩ (.le ?_ ?_ rfl) ?_
  {cbv;exact okA};{cbv;exact⟨zA rfl,trivial⟩};intro s hs;obtain⟨k1,k2,k3,k4⟩:=hs;generalize s.1=k at *
  generalize s.2.1=c at *
  generalize s.2.2=o at *
  have cb:=s154 b k (by omega);have hy:=yD (b.getD k 0);have ho:=yD (o.getD (i+k) 0);cbv;refine zF (fun h5=>?_) (fun h5=>?_)
  ·(have hk:k<=b.length:=om;have hm:(a.getD i 0).toNat*(b.getD k 0).toNat<=(B-1)*(B-1):=Nat.mul_le_mul (by omega) (by omega);have hmB:(B-1)*(B-1)+(B-1)+(B-1)<B*B:=by decide);have hTl:c+((a.getD i 0).toNat*(b.getD k 0).toNat+(o.getD (i+k) 0).toNat)<B*B:=by omega
   (have hS:nx .u64 ((c:Int)+nx .u64 (nx .u64 (nx .u64 (((a.getD i 0).toNat:Nat):Int)*nx .u64 (((b.getD k 0).toNat:Nat):Int))+nx .u64 (((o.getD (i+k) 0).toNat:Nat):Int)))=((c+((a.getD i 0).toNat*(b.getD k 0).toNat+(o.getD (i+k) 0).toNat):Nat):Int):=by rw[xG (n:=(a.getD i 0).toNat) (by omega),xG (n:=(b.getD k 0).toNat) (by omega),xG (n:=(o.getD (i+k) 0).toNat) (by omega)];have e1:nx .u64 ((((a.getD i 0).toNat:Nat):Int)*(((b.getD k 0).toNat:Nat):Int))=(((a.getD i 0).toNat*(b.getD k 0).toNat:Nat):Int):=xG (n:=(a.getD i 0).toNat*(b.getD k 0).toNat) (by omega);rw[e1];have e2:nx .u64 ((((a.getD i 0).toNat*(b.getD k 0).toNat:Nat):Int)+(((o.getD (i+k) 0).toNat:Nat):Int))=(((a.getD i 0).toNat*(b.getD k 0).toNat+(o.getD (i+k) 0).toNat:Nat):Int):=xG (n:=(a.getD i 0).toNat*(b.getD k 0).toNat+(o.getD (i+k) 0).toNat) (by omega);rw[e2];exact xG (n:=c+((a.getD i 0).toNat*(b.getD k 0).toNat+(o.getD (i+k) 0).toNat)) (by omega));cbv;refine zZ 20 (by cbv) ?_;cbv;refine y5 i om om ?_;cbv;refine dA cb ?_;cbv;refine⟨zE om om,zQ om om,qI (i+k) om om ?_⟩;cbv;refine⟨zE om om,zQ om om,qI (i+k) om om ?_⟩;cbv;refine⟨wP (by omega),zE om om,(k+1,(c+((a.getD i 0).toNat*(b.getD k 0).toNat+(o.getD (i+k) 0).toNat))/B,o.set (i+k) (UInt32.ofNat (c+((a.getD i 0).toNat*(b.getD k 0).toNat+(o.getD (i+k) 0).toNat)))),⟨by show k+1<=b.length+1;omega,?_,by simpa using k3,?_⟩,by show b.length+1-(k+1)<b.length+1-k;omega,.le ?_ ?_ rfl⟩
   {show (c+((a.getD i 0).toNat*(b.getD k 0).toNat+(o.getD (i+k) 0).toNat))/B<B;rw[Nat.div_lt_iff_lt_mul xN];exact hTl}
   ·(show val (o.set (i+k) _)+B^(i+(k+1))*((c+((a.getD i 0).toNat*(b.getD k 0).toNat+(o.getD (i+k) 0).toNat))/B)=val (a.take i)*val b+B^i*((a.getD i 0).toNat*val (b.take (k+1)));have e1:=fT o (j:=i+k) (by omega) (UInt32.ofNat (c+((a.getD i 0).toNat*(b.getD k 0).toNat+(o.getD (i+k) 0).toNat)));rw[xB] at e1;rw[zR b,show B^(i+(k+1))=B^(i+k)*B by rw[<-Nat.add_assoc,Nat.pow_succ]];have hdm:=Nat.mod_add_div (c+((a.getD i 0).toNat*(b.getD k 0).toNat+(o.getD (i+k) 0).toNat)) B;have e3:B^i*((a.getD i 0).toNat*(val (b.take k)+B^k*(b.getD k 0).toNat))=B^i*((a.getD i 0).toNat*val (b.take k))+B^(i+k)*((a.getD i 0).toNat*(b.getD k 0).toNat):=by rw[Nat.mul_add,Nat.mul_add,Nat.pow_add,Nat.mul_left_comm (a.getD i 0).toNat,<-Nat.mul_assoc (B^i) (B^k)]);rw[e3]
    generalize val (o.set (i+k) (UInt32.ofNat (c+((a.getD i 0).toNat*(b.getD k 0).toNat+(o.getD (i+k) 0).toNat))))=vo at *
    generalize (c+((a.getD i 0).toNat*(b.getD k 0).toNat+(o.getD (i+k) 0).toNat))%B=lo at *
    generalize (c+((a.getD i 0).toNat*(b.getD k 0).toNat+(o.getD (i+k) 0).toNat))/B=hi' at *
    generalize (a.getD i 0).toNat*(b.getD k 0).toNat=m at *
    generalize (o.getD (i+k) 0).toNat=x at *
    generalize B^(i+k)=P at *
    (have e2:P*lo+P*B*hi'=P*c+P*m+P*x:=by rw[Nat.mul_assoc,<-Nat.mul_add,hdm,Nat.mul_add,Nat.mul_add];omega);omega
   ·cbv;refine⟨lR,lR,lR,lR,zC ?_,zC om,trivial⟩
    (try dsimp only [zJ] at *)
    rw[hS];exact fH _
   ·cbv;refine⟨zA ?_,trivial⟩
    (try dsimp only [zJ] at *)
    rw[hS];exact kL o (by simp;omega) _
  ·(have hk:k=b.length+1:=om;rw[List.take_of_length_le (show b.length<=k by omega)] at k4;have hfull:val (a.take i)*val b+B^i*((a.getD i 0).toNat*val b)=val (a.take (i+1))*val b:=by rw[hta,Nat.add_mul,Nat.mul_assoc]);rw[hfull] at k4
   have hc0:c=0:=by
    (have e1:=Nat.mul_lt_mul'' (xS a (i+1)) (xE b);have e0:i+1+b.length=i+k:=by omega);rw[<-Nat.pow_add,e0] at e1
    generalize B^(i+k)=P at *
    rcases Nat.eq_zero_or_pos c with e2|e2;{exact e2};{exfalso;have e3:P*1<=P*c:=Nat.mul_le_mul_left P e2;rw[Nat.mul_one] at e3;omega}
   (have k5:val o=val (a.take (i+1))*val b:=by rw[hc0,Nat.mul_zero,Nat.add_zero] at k4;exact k4);cbv
   refine⟨zE om om,(i+1,o),⟨hi,k3,k5⟩,by show a.length-(i+1)<a.length-i;omega,.le ?_ ?_ rfl⟩;{cbv;exact⟨lR,lR,lR,zC om,trivial⟩};{cbv;exact⟨zA rfl,trivial⟩}
 ·have hi:i=a.length:=om;rw[hi,List.take_of_length_le (Nat.le_refl _)] at h3;have cm:=sR out (by omega);rw[h3,hW] at cm;cbv;refine fO (.frz 15 rfl rfl ?_ ?_) rfl (by refine⟨zX ?_,trivial⟩;exact List.take_of_length_le (by show ((lm out).drop 0).length<=a.length+b.length+1;rw[List.drop_zero,zG];omega)) cm rfl ?_;{cbv;exact⟨yL (by rw[zG];omega),yL (by rw[zG];omega),trivial⟩};{exact trivial};cbv
  (refine rC ?_;cbv)
  exact lR
def zKX (a:List UInt32) (k:Nat):Option (Nat×Nat×List UInt32)->Prop
 |none=>True| some s=>s.1<=a.length/\s.2.1<2^k/\s.2.2.length=s.1/\val s.2.2+B^s.1*s.2.1=val (a.take s.1)*2^k
def zLY (a:List UInt32):Option (Nat×Nat×List UInt32)->Nat
 |none=>a.length+1| some s=>a.length-s.1
theorem s208 (a:List UInt32)(k:Nat)(ha:a.length<2^40)(hk:k<32):zM 152 [nat a,.int .i64 (fun _=>(k:Int))] (nat (zD (val a*2^k))):=by
 refine sF Tryz.f152 ?_;generalize hW:zD (val a*2^k)=W;have hk2:=Nat.two_pow_pos k;have hq:nx .i64 (iquo (k:Int) 32)=0:=by have:=jW (a:=k) (b:=32);rw[show k/32=0 by omega] at this;rw[show iquo (k:Int) 32=0 from this,l6 (by omega) (by omega)]
 have hr:irem (k:Int) 32=(k:Int):=by have:=kV (a:=k) (b:=32);rw[show k%32=k by omega] at this;exact this
 obtain⟨i0,hi0⟩:∃ i0:Nat,i0=0:=⟨0,rfl⟩;obtain⟨c0,hc0⟩:∃ c0:Nat,c0=0:=⟨0,rfl⟩;obtain⟨out0,hout0⟩:∃ out0:List UInt32,out0=[]:=⟨[],rfl⟩;cbv;refine⟨v9 (by omega),yJ (by (try dsimp only [zJ] at *);rw[hq];omega) (by (try dsimp only [zJ] at *);rw[hq];omega),wM (by (try dsimp only [zJ] at *);rw[hq];omega) (by (try dsimp only [zJ] at *);rw[hq];omega),?_⟩;cbv;refine yB (σ:=Option (Nat×Nat×List UInt32)) (fun s=>match s with
   |none=>⟨[(0,nat a),(1,.int .i64 (fun _=>(k:Int))),(5,.osl 10 1 (fun _=>0) (fun _=>i0)),(6,.int .u64 (fun _=>(c0:Int))),(7,.int .i64 (fun _=>(i0:Int)))],[(10,.arr 1 (fun _=>lm out0))]⟩| some s=>⟨[(0,nat a),(1,.int .i64 (fun _=>(k:Int))),(5,.osl 31 1 (fun _=>0) (fun _=>s.1)),(6,.int .u64 (fun _=>(s.2.1:Int))),(7,.int .i64 (fun _=>(s.1:Int)))],[(31,.arr 1 (fun _=>lm s.2.2))]⟩)
  (zKX a k) (zLY a) none trivial (.le ?_ ?_ rfl) ?_
 {cbv;exact⟨lR,lR,z5 rfl (by (try dsimp only [zJ] at *);rw[hq,hi0];rfl),zC (by rw[hc0];rfl),zC (by rw[hi0];rfl),trivial⟩};{cbv;exact⟨zA (by (try dsimp only [zJ] at *);rw[hq,hout0];rfl),trivial⟩};intro s hs;cases s with
 |none =>
  (have h1:i0<=a.length:=by omega);have h2:c0<2^k:=by omega
  (have h3:out0.length=i0:=by rw[hout0,hi0];rfl);have h4:val out0+B^i0*c0=val (a.take i0)*2^k:=by rw[hout0,hi0,hc0];simp[val]
  clear hi0 hc0 hout0;generalize i0=i at *
  generalize c0=c at *
  generalize out0=out at *
  have hmu:zLY a none=a.length+1:=rfl;cbv;refine zF (fun h5=>?_) (fun h5=>?_)
  ·(have hi:i<a.length:=om;have hx:=yD (a.getD i 0);simp only[B] at hx;have hm:(a.getD i 0).toNat*2^k<4294967296*2^k:=Nat.mul_lt_mul_of_pos_right hx hk2;have hm2:4294967296*2^k<=4294967296*2147483648:=Nat.mul_le_mul_left _ (Nat.pow_le_pow_right (show 0<2 by omega) (show k<=31 by omega));have hS:ior .u64 (c:Int) (ishl .u64 (nx .u64 (((a.getD i 0).toNat:Nat):Int)) (irem (k:Int) 32))=((c+2^k*(a.getD i 0).toNat:Nat):Int):=by rw[hr,xG (n:=(a.getD i 0).toNat) (by omega),dW (by omega) (by omega),zEQ (by omega) (by omega),Nat.mul_comm (a.getD i 0).toNat,cI h2]);cbv
   refine y5 i om om ?_;cbv;refine⟨v9 (by omega),wP (by (try dsimp only [zJ] at *);rw[hr];omega),?_⟩;refine wO ty33 rfl rfl rfl (by rw[zG,h3]) rfl (j5 _) (yJ (Int.natCast_nonneg _) (by show (((lm out).length+1:Nat):Int)*4<=70368744177664;rw[zG,h3];omega)) rfl ?_;cbv;obtain⟨i',hi'⟩:∃ x,x=i+1:=⟨_,rfl⟩;obtain⟨c',hc'⟩:∃ x,x=(c+2^k*(a.getD i 0).toNat)/B:=⟨_,rfl⟩;obtain⟨out',ho'⟩:∃ x,x=out++[UInt32.ofNat (c+2^k*(a.getD i 0).toNat)]:=⟨_,rfl⟩;refine⟨wP (by omega),zE om om,some (i',c',out'),⟨by show i'<=a.length;omega,?_,by show out'.length=i';rw[ho',hi'];simp[h3],?_⟩,by show a.length-i'<a.length+1;omega,.le ?_ ?_ rfl⟩;{show c'<2^k;rw[hc'];show (c+2^k*(a.getD i 0).toNat)/B<2^k;rw[Nat.div_lt_iff_lt_mul xN];have:2^k*((a.getD i 0).toNat+1)<=2^k*B:=Nat.mul_le_mul_left _ (by simp only[B];omega);rw[Nat.mul_add] at this;omega}
   ·(show val out'+B^i'*c'=val (a.take i')*2^k;rw[ho',hc',hi',uR,h3,zR a,Nat.pow_succ,Nat.add_mul,<-h4];have hdm:=Nat.mod_add_div (c+2^k*(a.getD i 0).toNat) B;have e0:B^i*(a.getD i 0).toNat*2^k=B^i*(2^k*(a.getD i 0).toNat):=by rw[Nat.mul_assoc,Nat.mul_comm (2^k)]);rw[e0]
    generalize 2^k*(a.getD i 0).toNat=m at *
    generalize (c+m)%B=lo at *
    generalize (c+m)/B=hi' at *
    generalize B^i=P at *
    (have e1:P*lo+P*B*hi'=P*c+P*m:=by rw[Nat.mul_assoc,<-Nat.mul_add,hdm,Nat.mul_add]);omega
   ·cbv;refine⟨lR,lR,z5 rfl (by show (lm out).length+1=i';rw[zG,h3,hi']),zC ?_,zC om,trivial⟩
    (try dsimp only [zJ] at *)
    rw[hS,hc'];exact fH _
   ·cbv;refine⟨zA ?_,trivial⟩
    (try dsimp only [zJ] at *)
    rw[hS,ho'];exact gA out _
  ·(have hi:a.length<=i:=om;have cm:=sR (out++[UInt32.ofNat c]) (by simp;omega);have hcB:c<B:=Nat.lt_of_lt_of_le h2 (by simp only[B];exact Nat.pow_le_pow_right (show 0<2 by omega) (show k<=32 by omega));rw[List.take_of_length_le hi] at h4;have hv:val (out++[UInt32.ofNat c])=val a*2^k:=by rw[uR,h3,Nat.mod_eq_of_lt hcB];exact h4);rw[hv,hW] at cm
   cbv;refine wO ty33 rfl rfl rfl (by rw[zG,h3]) rfl (j5 _) (yJ (Int.natCast_nonneg _) (by show (((lm out).length+1:Nat):Int)*4<=70368744177664;rw[zG,h3];omega)) rfl ?_;cbv;refine fO (.frz 38 rfl rfl ?_ ?_) rfl (by refine⟨zX ?_,trivial⟩;exact (List.take_of_length_le (by show (lm out++[_]).length<=(lm out).length+1;simp)).trans (gA out c)) cm rfl ?_;{cbv;exact⟨yL (by show 0+((lm out).length+1)<=(lm out++[_]).length;simp),trivial⟩};{exact trivial};cbv
   (refine rC ?_;cbv)
   exact lR
 |some s =>
  obtain⟨h1,h2,h3,h4⟩:=hs;obtain⟨i,c,out⟩:=s;simp only at h1 h2 h3 h4;clear hi0 hc0 hout0;cbv;refine zF (fun h5=>?_) (fun h5=>?_)
  ·(have hi:i<a.length:=om;have hx:=yD (a.getD i 0);simp only[B] at hx;have hm:(a.getD i 0).toNat*2^k<4294967296*2^k:=Nat.mul_lt_mul_of_pos_right hx hk2;have hm2:4294967296*2^k<=4294967296*2147483648:=Nat.mul_le_mul_left _ (Nat.pow_le_pow_right (show 0<2 by omega) (show k<=31 by omega));have hS:ior .u64 (c:Int) (ishl .u64 (nx .u64 (((a.getD i 0).toNat:Nat):Int)) (irem (k:Int) 32))=((c+2^k*(a.getD i 0).toNat:Nat):Int):=by rw[hr,xG (n:=(a.getD i 0).toNat) (by omega),dW (by omega) (by omega),zEQ (by omega) (by omega),Nat.mul_comm (a.getD i 0).toNat,cI h2]);cbv
   refine y5 i om om ?_;cbv;refine⟨v9 (by omega),wP (by (try dsimp only [zJ] at *);rw[hr];omega),?_⟩;refine wO ty33 rfl rfl rfl (by rw[zG,h3]) rfl (j5 _) (yJ (Int.natCast_nonneg _) (by show (((lm out).length+1:Nat):Int)*4<=70368744177664;rw[zG,h3];omega)) rfl ?_;cbv;obtain⟨i',hi'⟩:∃ x,x=i+1:=⟨_,rfl⟩;obtain⟨c',hc'⟩:∃ x,x=(c+2^k*(a.getD i 0).toNat)/B:=⟨_,rfl⟩;obtain⟨out',ho'⟩:∃ x,x=out++[UInt32.ofNat (c+2^k*(a.getD i 0).toNat)]:=⟨_,rfl⟩;refine⟨wP (by omega),zE om om,some (i',c',out'),⟨by show i'<=a.length;omega,?_,by show out'.length=i';rw[ho',hi'];simp[h3],?_⟩,by show a.length-i'<a.length-i;omega,.le ?_ ?_ rfl⟩;{show c'<2^k;rw[hc'];show (c+2^k*(a.getD i 0).toNat)/B<2^k;rw[Nat.div_lt_iff_lt_mul xN];have:2^k*((a.getD i 0).toNat+1)<=2^k*B:=Nat.mul_le_mul_left _ (by simp only[B];omega);rw[Nat.mul_add] at this;omega}
   ·(show val out'+B^i'*c'=val (a.take i')*2^k;rw[ho',hc',hi',uR,h3,zR a,Nat.pow_succ,Nat.add_mul,<-h4];have hdm:=Nat.mod_add_div (c+2^k*(a.getD i 0).toNat) B;have e0:B^i*(a.getD i 0).toNat*2^k=B^i*(2^k*(a.getD i 0).toNat):=by rw[Nat.mul_assoc,Nat.mul_comm (2^k)]);rw[e0]
    generalize 2^k*(a.getD i 0).toNat=m at *
    generalize (c+m)%B=lo at *
    generalize (c+m)/B=hi' at *
    generalize B^i=P at *
    (have e1:P*lo+P*B*hi'=P*c+P*m:=by rw[Nat.mul_assoc,<-Nat.mul_add,hdm,Nat.mul_add]);omega
   ·cbv;refine⟨lR,lR,z5 rfl (by show (lm out).length+1=i';rw[zG,h3,hi']),zC ?_,zC om,trivial⟩
    (try dsimp only [zJ] at *)
    rw[hS,hc'];exact fH _
   ·cbv;refine⟨zA ?_,trivial⟩
    (try dsimp only [zJ] at *)
    rw[hS,ho'];exact gA out _
  ·(have hi:a.length<=i:=om;have cm:=sR (out++[UInt32.ofNat c]) (by simp;omega);have hcB:c<B:=Nat.lt_of_lt_of_le h2 (by simp only[B];exact Nat.pow_le_pow_right (show 0<2 by omega) (show k<=32 by omega));rw[List.take_of_length_le hi] at h4;have hv:val (out++[UInt32.ofNat c])=val a*2^k:=by rw[uR,h3,Nat.mod_eq_of_lt hcB];exact h4);rw[hv,hW] at cm
   cbv;refine wO ty33 rfl rfl rfl (by rw[zG,h3]) rfl (j5 _) (yJ (Int.natCast_nonneg _) (by show (((lm out).length+1:Nat):Int)*4<=70368744177664;rw[zG,h3];omega)) rfl ?_;cbv;refine fO (.frz 38 rfl rfl ?_ ?_) rfl (by refine⟨zX ?_,trivial⟩;exact (List.take_of_length_le (by show (lm out++[_]).length<=(lm out).length+1;simp)).trans (gA out c)) cm rfl ?_;{cbv;exact⟨yL (by show 0+((lm out).length+1)<=(lm out++[_]).length;simp),trivial⟩};{exact trivial};cbv
   (refine rC ?_;cbv)
   exact lR
end Go.Proofs.YtfainocfaddbdaaGreat
