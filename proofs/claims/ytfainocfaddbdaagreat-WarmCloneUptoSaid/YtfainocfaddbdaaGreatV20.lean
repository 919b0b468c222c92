/- A part of the proof: PnC, IgA, RqA, RqB. -/
import Derived.Test.YtfainocfaddbdaaGreatV16
import Derived.Test.YtfainocfaddbdaaGreatV19
set_option linter.all false
namespace Go.Proofs.YtfainocfaddbdaaGreat
structure R where
 neg:Bool
 num:List UInt32
 den:List UInt32
deriving DecidableEq
def sgn (b:Bool) (n:Nat):Int:=if b then -(n:Int) else n
theorem vF (b:Bool)(n:Nat):(sgn b n).natAbs=n:=by cases b <;> simp[sgn]
theorem zCU (b:Bool):sgn b 0=0:=by cases b <;> rfl
theorem zCF {b:Bool}{n:Nat}:sgn b n<0↔(b=true/\n≠0):=by cases b <;> simp[sgn] <;> omega
theorem lX (z:Int):sgn (decide (z<0)) z.natAbs=z:=by by_cases h:z<0 <;> simp[sgn,h] <;> omega
theorem zFY (a b:Bool)(n m:Nat):sgn a n*sgn b m=sgn (a != b) (n*m):=by cases a <;> cases b <;> simp[sgn,Int.neg_mul,Int.mul_neg]
theorem m9 (a:Bool)(n m:Nat):sgn a n*(m:Int)=sgn a (n*m):=by cases a <;> simp[sgn,Int.neg_mul]
theorem zFX (a:Bool)(n:Nat):sgn (!a) n=- sgn a n:=by cases a <;> simp[sgn]
def R.n (x:R):Int:=sgn x.neg (val x.num)
def R.d (x:R):Nat:=if val x.den=0 then 1 else val x.den
def R.q (x:R):Rat:=mkRat x.n x.d
theorem R.d_ne (x:R):x.d≠0:=by unfold R.d;split <;> omega
def zS (q:Rat):R:=⟨decide (q.num<0),zF q.num.natAbs,if q.den=1 then [] else zF q.den⟩
theorem zOH (q:Rat):(zS q).n=q.num:=by simp only[R.n,zS,zN];exact lX _
theorem zOW (q:Rat):(zS q).d=q.den:=by have:=q.den_pos;unfold R.d zS;by_cases h:q.den=1;{simp[h,val]};{simp only[h,if_false,zN];split <;> omega}
theorem y6 (q:Rat):(zS q).q=q:=by rw[R.q,zOH,zOW];exact Rat.mkRat_self q
theorem zF7 {neg:Bool}{n d:Nat}(hd:d≠0):(mkRat (sgn neg n) d).num=sgn neg (n/Nat.gcd n d):=by rw[Rat.num_mkRat,if_neg hd,vF,Nat.gcd_comm];have hg:((Nat.gcd n d:Nat):Int) ∣ (n:Int):=Int.natCast_dvd_natCast.2 (Nat.gcd_dvd_left n d);cases neg;{simp only[sgn];rfl};{simp only[sgn];show (-(n:Int))/((Nat.gcd n d:Nat):Int)=- ((n/Nat.gcd n d:Nat):Int);rw[Int.neg_ediv_of_dvd hg];rfl}
theorem zF8 {neg:Bool}{n d:Nat}(hd:d≠0):(mkRat (sgn neg n) d).den=d/Nat.gcd n d:=by rw[Rat.den_mkRat,if_neg hd,vF,Nat.gcd_comm]
theorem mF {neg:Bool}{n d:Nat}(hd:d≠0):zS (mkRat (sgn neg n) d)=⟨neg&&decide (n≠0),zF (n/Nat.gcd n d),if d/Nat.gcd n d=1 then [] else zF (d/Nat.gcd n d)⟩:=by
 rw[zS,zF7 hd,zF8 hd,vF];congr 1;rw[Bool.eq_iff_iff];have hg:0<Nat.gcd n d:=Nat.gcd_pos_of_pos_right n (Nat.pos_of_ne_zero hd);have h1:n/Nat.gcd n d=0↔n=0:=by rw[Nat.div_eq_zero_iff_lt hg];constructor;{intro h;rcases Nat.eq_zero_or_pos n with h0|h0;{exact h0};{have:=Nat.gcd_le_left d h0;omega}};{intro h;omega}
 simp only[decide_eq_true_eq,Bool.and_eq_true,zCF,ne_eq,h1]
theorem zK6 (a b:R):a.q+b.q=mkRat (a.n*b.d+b.n*a.d) (a.d*b.d):=Rat.mkRat_add_mkRat _ _ a.d_ne b.d_ne
theorem zPU (a b:R):a.q*b.q=mkRat (a.n*b.n) (a.d*b.d):=Rat.mkRat_mul_mkRat _ _ _ _
theorem zK5 (a:R):(⟨!a.neg,a.num,a.den⟩:R).q=- a.q:=by simp only[R.q,R.n,R.d,zFX,Rat.neg_mkRat]
theorem pQ {n:Int}{d:Nat}(hd:d≠0):0<=mkRat n d↔0<=n:=by rw[<-Rat.divInt_ofNat];exact Rat.divInt_nonneg_iff_of_pos_right (by omega)
theorem zPS (a b:R):a.q-b.q=mkRat (a.n*b.d-b.n*a.d) (a.d*b.d):=by rw[Rat.sub_eq_add_neg,<-zK5,zK6];simp only[R.n,R.d,zFX,Int.neg_mul,Int.sub_eq_add_neg]
theorem q_le (a b:R):a.q<=b.q↔a.n*b.d<=b.n*a.d:=by rw[Rat.le_iff_sub_nonneg,zPS,pQ (Nat.mul_ne_zero b.d_ne a.d_ne)];omega
theorem q_lt (a b:R):a.q<b.q↔a.n*b.d<b.n*a.d:=by rw[<-Rat.not_le,q_le];omega
theorem zHO (a:R):a.q=0↔a.n=0:=Rat.mkRat_eq_zero a.d_ne
theorem zC2 (a:R):0<=a.q↔0<=a.n:=pQ a.d_ne
theorem zHN (a:R):a.q<0↔a.n<0:=by rw[<-Rat.not_le,zC2];omega
theorem zPT (a:R):0<a.q↔0<a.n:=by have h1:=zC2 a;have h2:=zHO a;rw[Rat.lt_iff_le_and_ne];constructor;{rintro⟨h,h'⟩;have:=h1.1 h;have:a.n≠0:=fun e=>h' (h2.2 e).symm;omega};{intro h;exact⟨h1.2 (by omega),fun e=>by have:=h2.1 e.symm;omega⟩}
def xJ (q:Rat):Int:=if q<0 then -1 else if 0<q then 1 else 0
def f6 (a b:Rat):Int:=if a<b then -1 else if b<a then 1 else 0
def u6 (z:Int):Int:=if z<0 then -1 else if 0<z then 1 else 0
def nS (a b:Int):Int:=if a<b then -1 else if b<a then 1 else 0
theorem zJ2 (a:R):xJ a.q=u6 a.n:=by simp only[xJ,u6,zHN,zPT]
theorem zOY (a b:R):f6 a.q b.q=nS (a.n*b.d) (b.n*a.d):=by simp only[f6,nS,q_lt]
structure Fits (k:Nat) (q:Rat):Prop where
 num:q.num.natAbs<B^k
 den:q.den<B^k
theorem Fits.mono {k m:Nat}{q:Rat}(h:Fits k q)(hm:k<=m):Fits m q :=
 ⟨Nat.lt_of_lt_of_le h.num (Nat.pow_le_pow_right xN hm),Nat.lt_of_lt_of_le h.den (Nat.pow_le_pow_right xN hm)⟩
theorem rN {k:Nat}{n:Int}{d:Nat}(hn:n.natAbs<B^k)(hd:d<B^k)(h0:d≠0):Fits k (mkRat n d):=by have hs:n=sgn (decide (n<0)) n.natAbs:=(lX n).symm;rw[hs];refine⟨?_,?_⟩;{rw[zF7 h0,vF];exact Nat.lt_of_le_of_lt (Nat.div_le_self _ _) hn};{rw[zF8 h0];exact Nat.lt_of_le_of_lt (Nat.div_le_self _ _) hd}
theorem zOO {k:Nat}{x:R}(h1:x.num.length<=k)(h2:x.den.length<=k)(hk:1<=k):Fits k x.q:=by refine rN ?_ ?_ x.d_ne;{rw[R.n,vF];exact Nat.lt_of_lt_of_le (xF _) (Nat.pow_le_pow_right xN h1)};{unfold R.d;split;{exact Nat.lt_of_lt_of_le (show 1<B^1 by decide) (Nat.pow_le_pow_right xN hk)};{exact Nat.lt_of_lt_of_le (xF _) (Nat.pow_le_pow_right xN h2)}}
theorem Fits.lnum {k:Nat}{q:Rat}(h:Fits k q):(zS q).num.length<=k:=z6 h.num
theorem Fits.lden {k:Nat}{q:Rat}(h:Fits k q):(zS q).den.length<=k:=by unfold zS;by_cases h1:q.den=1;{simp[h1]};{simp only[h1,if_false];exact z6 h.den}
theorem kL {a b k m:Nat}(ha:a<B^k)(hb:b<B^m):a*b<B^(k+m):=by rw[Nat.pow_add];exact Nat.mul_lt_mul'' ha hb
theorem tF {k m:Nat}{a b:Rat}(ha:Fits k a)(hb:Fits m b):Fits (k+m) (a*b):=by rw[Rat.mul_def'];refine rN ?_ (kL ha.den hb.den) (Nat.mul_ne_zero a.den_nz b.den_nz);rw[Int.natAbs_mul];exact kL ha.num hb.num
theorem tG {k m:Nat}{a b:Rat}(ha:Fits k a)(hb:Fits m b):Fits (k+m+1) (a+b):=by rw[Rat.add_def'];have h1:=kL ha.num hb.den;have h2:=kL hb.num ha.den;rw[Nat.add_comm m k] at h2;have h3:B^(k+m+1)=B^(k+m)*B:=Nat.pow_succ _ _;have hd:=kL ha.den hb.den;have h5:B^(k+m)*2<=B^(k+m)*B:=Nat.mul_le_mul_left _ (by decide);refine rN ?_ ?_ (Nat.mul_ne_zero a.den_nz b.den_nz);{have h4:=Int.natAbs_add_le (a.num*b.den) (b.num*a.den);rw[Int.natAbs_mul,Int.natAbs_mul,Int.natAbs_natCast,Int.natAbs_natCast] at h4;rw[h3];omega};{rw[h3];omega}
theorem aF {k:Nat}{a:Rat}(ha:Fits k a):Fits k (-a):=⟨by rw[Rat.neg_num,Int.natAbs_neg];exact ha.num,by rw[Rat.neg_den];exact ha.den⟩
theorem zJD {k m:Nat}{a b:Rat}(ha:Fits k a)(hb:Fits m b):Fits (k+m+1) (a-b):=by rw[Rat.sub_eq_add_neg];exact tG ha (aF hb)
theorem w9 {k:Nat}(hk:1<=k):Fits k 0 :=
 ⟨by simp;exact Nat.pow_pos xN,by simp;exact Nat.lt_of_lt_of_le (show 1<B^1 by decide) (Nat.pow_le_pow_right xN hk)⟩
theorem eJ {k:Nat}{z:Int}(h:z.natAbs<B^k)(hk:1<=k):Fits k (z:Rat) :=
 ⟨by simpa using h,by simp;exact Nat.lt_of_lt_of_le (show 1<B^1 by decide) (Nat.pow_le_pow_right xN hk)⟩
theorem zJE {k:Nat}{a:Rat}(ha:Fits k a):Fits k a⁻¹:=by
 refine⟨?_,?_⟩
 ·(rw[Rat.num_inv,Int.natAbs_mul];have h1:a.num.sign.natAbs<=1:=by rw[Int.natAbs_sign];split <;> omega);have h2:=ha.den
  have:=Nat.mul_le_mul_right ((a.den:Int).natAbs) h1;rw[Int.natAbs_natCast] at *
  omega
 {rw[Rat.den_inv];split;{have:=ha.den;have:=a.den_pos;omega};{exact ha.num}}
def R.ok (x:R):Bool:=decide (x=zS x.q)
theorem zGA (q:Rat):(zS q).ok=true:=by simp[R.ok,y6]
end Go.Proofs.YtfainocfaddbdaaGreat
namespace Go.Proofs.YtfainocfaddbdaaGreat
open Go
set_option maxRecDepth 100000
theorem bB {nb:Bool}{objs:List (Nat×Obj')}{f:FuncId}{args args':List PV}{K:PV->Prop}{r:PV}(h2:kY les args args')(h3:zK f args' r)(h5:nmIn [] r=true)(h4:K r):CallS nb objs f args K:=⟨.inl ⟨args',r,cX h2,h3,h5,h4⟩⟩
theorem dA {nb:Bool}{objs:List (Nat×Obj')}{f:FuncId}{args args':List PV}{K:PV->Prop}{r:PV}(h3:zK f args' r)(h4:K r)(h2:kY les args args':=by exact okA)(h5:nmIn [] r=true:=by exact rfl):CallS nb objs f args K:=bB h2 h3 h5 h4
theorem gK (a b:List UInt32):(zF (val a*val b)).length<=a.length+b.length:=z6 (kL (xF a) (xF b))
theorem zGJ (a b:List UInt32):(zF (val a+val b)).length<=a.length+b.length+1:=by refine z6 ?_;have h1:=Nat.lt_of_lt_of_le (xF a) (Nat.pow_le_pow_right xN (Nat.le_add_right a.length b.length));have h2:=Nat.lt_of_lt_of_le (xF b) (Nat.pow_le_pow_right xN (Nat.le_add_left b.length a.length));have h3:B^(a.length+b.length)*2<=B^(a.length+b.length)*B:=Nat.mul_le_mul_left _ (by decide);rw[Nat.pow_succ];omega
theorem n7 (a b:List UInt32):(zF (val a-val b)).length<=a.length:=z6 (Nat.lt_of_le_of_lt (Nat.sub_le _ _) (xF a))
structure Z where
 neg:Bool
 mag:List UInt32
def Z.v (x:Z):Int:=sgn x.neg (val x.mag)
def xH (z:Int):Z:=⟨decide (z<0),zF z.natAbs⟩
theorem jK (z:Int):(xH z).v=z:=by simp only[Z.v,xH,zN];exact lX z
abbrev zv (x:Z):PV:=.agg [.bool (fun _=>x.neg),nat x.mag]
theorem zDF (neg:Bool)(n:Nat):xH (sgn neg n)=⟨neg&&decide (n≠0),zF n⟩:=by simp only[xH,vF];congr 1;rw[Bool.eq_iff_iff];simp only[decide_eq_true_eq,zCF,Bool.and_eq_true]
theorem zJ1 {b:Bool}{n:Nat}(h:¬sgn b n<0):sgn b n=(n:Int):=by cases b;{rfl};{simp only[sgn,if_true] at h ⊢;omega}
theorem s203 (neg:Bool)(m:List UInt32)(hm:m.length<2^40):zK 137 [.bool (fun _=>neg),nat m] (zv (xH (sgn neg (val m)))):=by
 refine sF Tryz.f137 ?_;rw[zDF];cbv;refine cA (s223 m hm) ?_;cbv;refine xO (fun h=>?_) (fun h=>?_)
 ·subst h;cbv
  (refine rC ?_;cbv)
  refine⟨zH ?_,lR,trivial⟩;rw[Bool.eq_iff_iff];simp only[decide_eq_true_eq,zG,Bool.true_and];rw[<-@xI (val m),<-List.length_eq_zero_iff]
  (try dsimp only [zL] at *)
  omega
 ·subst h;cbv
  (refine rC ?_;cbv)
  exact okA
theorem s164 (x:Int)(h1:-9223372036854775808<=x)(h2:x<9223372036854775808):zK 100 [.int .i64 (fun _=>x)] (zv (xH x)):=by
 refine sF Tryz.f100 ?_;have hBB:B*B=18446744073709551616:=by decide
 have e:zv (xH x)=.agg [.bool (fun _=>decide (x<0)),nat (zF x.natAbs)]:=rfl;rw[e];cbv;refine zE (fun h=>?_) (fun h=>?_)
 ·(have e1:nx .u64 (0-nx .u64 x)=((x.natAbs:Nat):Int):=by simp only[wV];omega);generalize hn:x.natAbs=n at *
  cbv;refine x6 rfl (by exact⟨zC e1,trivial⟩) (s211 n (by omega)) rfl ?_;cbv
  (refine rC ?_;cbv)
  exact⟨zQ (decide_eq_true h),lR,trivial⟩
 ·(have e1:nx .u64 x=((x.natAbs:Nat):Int):=by simp only[wV];omega);generalize hn:x.natAbs=n at *
  cbv;refine x6 rfl (by exact⟨zC e1,trivial⟩) (s211 n (by omega)) rfl ?_;cbv
  (refine rC ?_;cbv)
  exact⟨zJ (decide_eq_false h),lR,trivial⟩
theorem s146 (x:Z)(hx:x.mag.length<2^40):zK 96 [zv x] (.int .i64 (fun _=>u6 x.v)):=by
 refine sF Tryz.f96 ?_;obtain⟨neg,mag⟩:=x;have hv:Z.v ⟨neg,mag⟩=sgn neg (val mag):=rfl;rw[hv];have h0:((qV (val mag):Nat):Int)=0↔val mag=0:=by rw[<-sD];omega
 have hs:=s202 mag hx;generalize qV (val mag)=b at h0 hs;generalize hS:u6 (sgn neg (val mag))=S at *
 cbv;refine cA hs ?_;cbv;refine zE (fun h=>?_) (fun h=>?_)
 ·cbv
  (refine rC ?_;cbv)
  refine zC ?_;rw[<-hS,h0.1 h,zCU];rfl
 ·have hne:val mag≠0:=fun e=>h (h0.2 e);cbv;refine z4 (fun h2=>?_) (fun h2=>?_)
  ·subst h2;cbv
   (refine rC ?_;cbv)
   refine zC ?_;rw[<-hS,show sgn true (val mag)=-(val mag:Int) from rfl];unfold u6;rw[if_pos (by omega)]
  ·subst h2;cbv
   (refine rC ?_;cbv)
   refine zC ?_;rw[<-hS,show sgn false (val mag)=(val mag:Int) from rfl];unfold u6;rw[if_neg (by omega),if_pos (by omega)]
theorem s212 (x y:Z)(hx:x.mag.length<2^40)(hy:y.mag.length<2^40):zK 133 [zv x,zv y] (.int .i64 (fun _=>nS x.v y.v)):=by
 refine sF Tryz.f133 ?_;have hsx:=s146 x hx;have hsy:=s146 y hy;have hxv:x.v=sgn x.neg (val x.mag):=rfl;have hyv:y.v=sgn y.neg (val y.mag):=rfl;have h1:u6 x.v<u6 y.v->nS x.v y.v=-1:=by intro h;unfold u6 at h;unfold nS;split at h <;> split at h <;> (try split at h) <;> (try split at h) <;> first|(rw[if_pos (by omega)])|omega
 have h2:u6 y.v<u6 x.v->nS x.v y.v=1:=by intro h;unfold u6 at h;unfold nS;split at h <;> split at h <;> (try split at h) <;> (try split at h) <;> first|(rw[if_neg (by omega),if_pos (by omega)])|omega
 have h3:u6 x.v=u6 y.v->u6 x.v<0->nS x.v y.v=vM (val y.mag) (val x.mag):=by
  (intro h h';have a1:x.v<0:=by unfold u6 at h';split at h' <;> (try split at h') <;> omega);have a2:y.v<0:=by rw[h] at h';unfold u6 at h';split at h' <;> (try split at h') <;> omega
  rw[hxv,zCF] at a1;rw[hyv,zCF] at a2;rw[hxv,hyv,a1.1,a2.1];simp only[nS,vM,sgn,if_true];split <;> split <;> (try split) <;> (try split) <;> omega
 have h4:u6 x.v=u6 y.v->¬u6 x.v<0->nS x.v y.v=vM (val x.mag) (val y.mag):=by
  (intro h h';have a1:¬x.v<0:=by unfold u6 at h';split at h' <;> (try split at h') <;> omega);have a2:¬y.v<0:=by rw[h] at h';unfold u6 at h';split at h' <;> (try split at h') <;> omega
  (have b1:x.v=(val x.mag:Int):=by rw[hxv] at a1 ⊢;exact zJ1 a1);have b2:y.v=(val y.mag:Int):=by rw[hyv] at a2 ⊢;exact zJ1 a2
  rw[b1,b2];simp only[nS,vM];split <;> split <;> (try split) <;> (try split) <;> omega
 generalize nS x.v y.v=C at *
 generalize u6 x.v=s at *
 generalize u6 y.v=t at *
 cbv;refine zY 4 (by cbv) ?_;cbv;refine dA hsx ?_;cbv;refine dA hsy ?_;cbv;refine zE (fun h=>?_) (fun h=>?_)
 ·cbv
  (refine rC ?_;cbv)
  exact zC (h1 h).symm
 ·cbv;refine zE (fun h'=>?_) (fun h'=>?_)
  ·cbv
   (refine rC ?_;cbv)
   exact zC (h2 h').symm
  ·(have he:s=t:=by omega);cbv
   refine zE (fun h5=>?_) (fun h5=>?_)
   ·have h6:=h3 he h5;have h7:=s162 y.mag x.mag hy hx;rw[<-h6] at h7;cbv;refine cA h7 ?_;cbv
    (refine rC ?_;cbv)
    exact lR
   ·have h6:=h4 he h5;have h7:=s162 x.mag y.mag hx hy;rw[<-h6] at h7;cbv;refine cA h7 ?_;cbv
    (refine rC ?_;cbv)
    exact lR
theorem s192 (x y:Z)(hx:x.mag.length<2^38)(hy:y.mag.length<2^38):zK 166 [zv x,zv y] (zv (xH (x.v+y.v))):=by
 refine sF Tryz.f166 ?_;obtain⟨n1,m1⟩:=x;obtain⟨n2,m2⟩:=y;have hv:Z.v ⟨n1,m1⟩+Z.v ⟨n2,m2⟩=sgn n1 (val m1)+sgn n2 (val m2):=rfl;have hl:=zGJ m1 m2;have hl1:=n7 m1 m2;have hl2:=n7 m2 m1;have hx':m1.length<2^38:=hx;have hy':m2.length<2^38:=hy;rw[hv];have c1:n1=n2->zK 137 [.bool (fun _=>n1),nat (zF (val m1+val m2))] (zv (xH (sgn n1 (val m1)+sgn n2 (val m2)))):=by
  (intro h;have:=s203 n1 (zF (val m1+val m2)) (by omega);rw[zN] at this;have e:sgn n1 (val m1+val m2)=sgn n1 (val m1)+sgn n2 (val m2):=by rw[<-h];cases n1 <;> simp[sgn];omega);rw[e] at this
  exact this
 have c2:n1≠n2->¬vM (val m1) (val m2)<0->zK 137 [.bool (fun _=>n1),nat (zF (val m1-val m2))] (zv (xH (sgn n1 (val m1)+sgn n2 (val m2)))):=by
  intro h h';have hge:val m2<=val m1:=by unfold vM at h';rcases Nat.lt_or_ge (val m1) (val m2) with h3|h3;{rw[if_pos h3] at h';omega};{exact h3}
  (have:=s203 n1 (zF (val m1-val m2)) (by omega);rw[zN] at this;have e:sgn n1 (val m1-val m2)=sgn n1 (val m1)+sgn n2 (val m2):=by cases n1 <;> cases n2 <;> simp[sgn] at h ⊢ <;> omega);rw[e] at this
  exact this
 have c3:n1≠n2->vM (val m1) (val m2)<0->zK 137 [.bool (fun _=>n2),nat (zF (val m2-val m1))] (zv (xH (sgn n1 (val m1)+sgn n2 (val m2)))):=by
  intro h h';have hge:val m1<=val m2:=by unfold vM at h';rcases Nat.lt_or_ge (val m1) (val m2) with h3|h3;{omega};{rw[if_neg (by omega)] at h';split at h' <;> omega}
  (have:=s203 n2 (zF (val m2-val m1)) (by omega);rw[zN] at this;have e:sgn n2 (val m2-val m1)=sgn n1 (val m1)+sgn n2 (val m2):=by cases n1 <;> cases n2 <;> simp[sgn] at h ⊢ <;> omega);rw[e] at this
  exact this
 have c0:=s162 m1 m2 (by omega) (by omega);generalize vM (val m1) (val m2)=cm at *
 generalize sgn n1 (val m1)+sgn n2 (val m2)=T at *
 cbv;refine zE (fun h=>?_) (fun h=>?_)
 ·have h':=c1 h;generalize xH T=W at *
  cbv;refine zY 8 (by cbv) ?_;cbv;refine dA (s221 m1 m2 (by omega) (by omega)) ?_;cbv;refine dA h' ?_;cbv
  (refine rC ?_;cbv)
  exact okA
 ·have h2:=c2 h;have h3:=c3 h;generalize xH T=W at *
  cbv;refine cA c0 ?_;cbv;refine zE (fun h4=>?_) (fun h4=>?_)
  ·cbv;refine cA (s222 m2 m1 (by omega) (by omega)) ?_;cbv;refine cA (h3 h4) ?_;cbv
   (refine rC ?_;cbv)
   exact okA
  ·cbv;refine cA (s222 m1 m2 (by omega) (by omega)) ?_;cbv;refine cA (h2 h4) ?_;cbv
   (refine rC ?_;cbv)
   exact okA
theorem s220 (x y:Z)(hx:x.mag.length<2^38)(hy:y.mag.length<2^38):zK 158 [zv x,zv y] (zv (xH (x.v*y.v))):=by
 refine sF Tryz.f158 ?_;obtain⟨n1,m1⟩:=x;obtain⟨n2,m2⟩:=y;have hl:=gK m1 m2;have hx':m1.length<2^38:=hx;have hy':m2.length<2^38:=hy;have hv:Z.v ⟨n1,m1⟩*Z.v ⟨n2,m2⟩=sgn (n1 != n2) (val m1*val m2):=zFY _ _ _ _;rw[hv];have c1:=s203 (n1 != n2) (zF (val m1*val m2)) (by omega);rw[zN] at c1;have hb:(n1 != n2)=!decide (n1=n2):=by cases n1 <;> cases n2 <;> rfl
 generalize xH (sgn (n1 != n2) (val m1*val m2))=W at *
 generalize hnb:(n1 != n2)=nb at *
 cbv;refine zY 11 (by cbv) ?_;cbv;refine dA (s194 m1 m2 (by omega) (by omega)) ?_;cbv;refine bB (by exact⟨kV hb,lR,trivial⟩) c1 rfl ?_;cbv
 (refine rC ?_;cbv)
 exact okA
abbrev rv (x:R):PV:=.agg [.bool (fun _=>x.neg),nat x.num,nat x.den]
structure R.sz (x:R) (k:Nat):Prop where
 n:x.num.length<=k
 d:x.den.length<=k
theorem yX {k:Nat}{q:Rat}(h:Fits k q):(zS q).sz k:=⟨h.lnum,h.lden⟩
theorem R.sz.fits {k:Nat}{x:R}(h:x.sz k)(hk:1<=k):Fits k x.q:=zOO h.n h.d hk
theorem R.sz.mono {k m:Nat}{x:R}(h:x.sz k)(hm:k<=m):x.sz m:=⟨Nat.le_trans h.n hm,Nat.le_trans h.d hm⟩
def xA (d:List UInt32):List UInt32:=if val d=0 then [1] else d
theorem vQ (x:R):val (xA x.den)=x.d:=by unfold xA R.d;split;{rfl};{rfl}
theorem uH (d:List UInt32):(xA d).length<=d.length+1:=by unfold xA;split <;> simp
theorem mT:zF 1=[1]:=by rw[gS (by decide)];rw[show 1/B=0 by decide,z9];rfl
theorem jA {n:Nat}:zF n=[1]↔n=1:=by constructor;{intro h;have:=zN n;rw[h] at this;exact this.symm};{intro h;rw[h,mT]}
theorem s210:zK 141 [] (nat [1]):=by
 refine sF Tryz.f141 ?_;cbv
 (refine rC ?_;cbv)
 exact zX rfl
theorem s224 (l:List UInt32)(hl:l.length<2^40):zK 163 [nat l] (.bool (fun _=>decide (l=[1]))):=by
 refine sF Tryz.f163 ?_;generalize hd:decide (l=[1])=d;cbv;refine yD (fun h=>?_) (fun h=>?_)
 ·have h1:l.length=1:=om;cbv;refine y5 0 rfl (by omega) ?_;cbv
  (refine rC ?_;cbv)
  refine zH ?_;rw[<-hd,decide_eq_decide]
  match l,h1 with
  |[x],_ =>
   have e1:[x].getD 0 0=x:=rfl;rw[e1];constructor;{intro h2;have:x=1:=UInt32.toNat_inj.1 (by show x.toNat=1;(try dsimp only [zL] at *);omega);rw[this]};{intro h2;rw[List.cons.inj h2 |>.1];rfl}
 ·cbv
  (refine rC ?_;cbv)
  refine zJ ?_;rw[<-hd];exact decide_eq_false fun e=>h (by rw[e];rfl)
theorem s195 (x:R)(hx:x.den.length<2^40):zK 140 [rv x] (nat (xA x.den)):=by
 refine sF Tryz.f140 ?_;obtain⟨neg,num,den⟩:=x;have h0:((qV (val den):Nat):Int)=0↔val den=0:=by rw[<-sD];omega
 have hs:=s202 den hx;have e1:val den=0->xA den=[1]:=fun h=>if_pos h;have e2:val den≠0->xA den=den:=fun h=>if_neg h;show wp _ _ (fP _ (nat (xA den)) [] []);generalize xA den=u at *
 generalize qV (val den)=b at h0 hs;cbv;refine cA hs ?_;cbv;refine zE (fun h=>?_) (fun h=>?_)
 ·cbv;refine cA s210 ?_;cbv
  (refine rC ?_;cbv)
  exact zX (by rw[e1 (h0.1 h)])
 ·cbv
  (refine rC ?_;cbv)
  exact zX (by rw[e2 (fun e=>h (h0.2 e))])
theorem s193 (neg:Bool)(num den:List UInt32)(hn:num.length<2^38)(hd:den.length<2^38)(h0:val den≠0):zK 138 [.bool (fun _=>neg),nat num,nat den] (rv (zS (mkRat (sgn neg (val num)) (val den)))):=by
 refine sF Tryz.f138 ?_;rw[mF h0];have hnl:=zU num;have hdl:=zU den;have hg0:Nat.gcd (val num) (val den)≠0:=fun e=>h0 (Nat.eq_zero_of_gcd_eq_zero_right e);have cg:=s225 (zF (val num)) (zF (val den)) (by omega) (by omega);have cn:=s226 (zF (val num)) (zF (Nat.gcd (val num) (val den))) (by omega) (Nat.lt_of_le_of_lt (v7 (Nat.le_of_dvd (Nat.pos_of_ne_zero h0) (Nat.gcd_dvd_right _ _))) (by omega)) (by rw[zN];exact hg0);have cd:=s226 (zF (val den)) (zF (Nat.gcd (val num) (val den))) (by omega) (Nat.lt_of_le_of_lt (v7 (Nat.le_of_dvd (Nat.pos_of_ne_zero h0) (Nat.gcd_dvd_right _ _))) (by omega)) (by rw[zN];exact hg0);have cu:=s224 (zF (Nat.gcd (val num) (val den))) (Nat.lt_of_le_of_lt (v7 (Nat.le_of_dvd (Nat.pos_of_ne_zero h0) (Nat.gcd_dvd_right _ _))) (by omega));have cf:=s224 (zF (val den/Nat.gcd (val num) (val den))) (Nat.lt_of_le_of_lt (v7 (Nat.div_le_self _ _)) (by omega));have cd1:=s224 (zF (val den)) (by omega);have cm1:=s223 num (by omega);have cm2:=s223 den (by omega);rw[zN,zN] at cg cn cd;have hN:∀ n,((lm (zF n)).length:Int)=0↔n=0:=fun n=>by rw[zG,<-@xI n,<-List.length_eq_zero_iff];omega
 have hge1:Nat.gcd (val num) (val den)=1->val num/Nat.gcd (val num) (val den)=val num/\val den/Nat.gcd (val num) (val den)=val den:=fun e=>by rw[e,Nat.div_one,Nat.div_one];exact⟨rfl,rfl⟩
 have hz:val num=0->val num/Nat.gcd (val num) (val den)=0/\val den/Nat.gcd (val num) (val den)=1:=fun e=>by rw[e,Nat.gcd_zero_left,Nat.zero_div,Nat.div_self (Nat.pos_of_ne_zero h0)];exact⟨rfl,rfl⟩
 have hd1:val den=1->Nat.gcd (val num) (val den)=1:=fun e=>by rw[e,Nat.gcd_one_right]
 generalize val den/Nat.gcd (val num) (val den)=D' at *
 generalize val num/Nat.gcd (val num) (val den)=N' at *
 generalize Nat.gcd (val num) (val den)=g at *
 generalize val num=N at *
 generalize val den=Dn at *
 show wp _ _ (fP _ (.agg [.bool (fun _=>neg&&decide (N≠0)),nat (zF N'),nat (if D'=1 then [] else zF D')]) [] []);generalize hr1:(neg&&decide (N≠0))=r1;generalize hr2:(if D'=1 then [] else zF D')=r2;cbv;refine cA cm1 ?_;cbv;refine zE (fun h=>?_) (fun h=>?_)
 ·have e:=(hN N).1 h;obtain⟨e1,e2⟩:=hz e;cbv
  (refine rC ?_;cbv)
  refine⟨zJ ?_,zM ?_,zM ?_,trivial⟩;{rw[<-hr1,e];simp};{rw[e1,z9];rfl};{rw[<-hr2,if_pos e2];rfl}
 ·(have e:=fun e=>h ((hN N).2 e);have hr1':neg=r1:=by rw[<-hr1,show decide (N≠0)=true from decide_eq_true e,Bool.and_true]);cbv
  refine cA cm2 ?_;cbv;refine cA cd1 ?_;cbv;refine zE (fun h2=>?_) (fun h2=>?_)
  ·have e1:=jA.1 h2;have e3:=hd1 e1;obtain⟨e4,e5⟩:=hge1 e3;cbv
   (refine rC ?_;cbv)
   refine⟨zH hr1',zX (by rw[e4]),zM ?_,trivial⟩;rw[<-hr2,if_pos (by rw[e5,e1])];rfl
  ·cbv;refine cA cg ?_;cbv;refine cA cu ?_;cbv;refine f5 (σ:=Unit) (fun _=>⟨[(0,.bool (fun _=>neg)),(1,nat (zF N')),(2,nat (zF D')),(6,.ptr 6 0)],[(6,.box [.ff,.nil,.nil])]⟩) (fun _=>True) (fun h3=>?_) (fun h3=>?_) ?_;{have e3:=jA.1 h3;obtain⟨e4,e5⟩:=hge1 e3;cbv;refine⟨(),trivial,.le ?_ ?_ rfl⟩;{cbv;exact⟨lR,zX (by rw[e4]),zX (by rw[e5]),lR,trivial⟩};{cbv;exact okA}};{cbv;refine cA cn ?_;cbv;refine cA cd ?_;cbv;refine⟨(),trivial,.le ?_ ?_ rfl⟩;{cbv;exact okA};{cbv;exact okA}};intro _ _;cbv;refine cA cf ?_;cbv;refine zE (fun h3=>?_) (fun h3=>?_)
   ·cbv
    (refine rC ?_;cbv)
    exact⟨zH hr1',lR,zM (by rw[<-hr2,if_pos (jA.1 h3)];rfl),trivial⟩
   ·cbv
    (refine rC ?_;cbv)
    exact⟨zH hr1',lR,zX (by rw[<-hr2,if_neg (fun e=>h3 (jA.2 e))]),trivial⟩
theorem s161 (x:R)(hx:x.sz (2^36)):zK 155 [rv x] (rv (zS x.q)):=by
 refine sF Tryz.f155 ?_;have h1:=hx.n;have h2:=hx.d;have h3:=uH x.den;have cu:=s195 x (by omega);have cq:=s193 x.neg x.num (xA x.den) (by omega) (by omega) (by rw[vQ];exact x.d_ne);rw[vQ] at cq;have e:mkRat (sgn x.neg (val x.num)) x.d=x.q:=rfl;rw[e] at cq;generalize zS x.q=W at *
 generalize xA x.den=u at *
 obtain⟨neg,num,den⟩:=x;cbv;refine zY 7 (by cbv) ?_;cbv;refine dA cu ?_;cbv;refine dA cq ?_;cbv
 (refine rC ?_;cbv)
 exact okA
theorem zOG (x:R):x.ok=true↔(x.neg=(zS x.q).neg/\x.num.length=(zS x.q).num.length/\x.den.length=(zS x.q).den.length/\vM (val x.num) (val (zS x.q).num)=0/\vM (val x.den) (val (zS x.q).den)=0):=by
 have hc:∀ a b,vM a b=0↔a=b:=fun a b=>by unfold vM;split <;> (try split) <;> omega
 simp only[R.ok,decide_eq_true_eq,hc];constructor;{intro h;rw[<-h];exact⟨rfl,rfl,rfl,rfl,rfl⟩}
 ·rintro⟨h1,h2,h3,h4,h5⟩;have e1:=nU h2 h4;have e2:=nU h3 h5;generalize zS x.q=y at *
  obtain⟨a,b,c⟩:=x;obtain⟨a',b',c'⟩:=y;simp only at h1 e1 e2;rw[h1,e1,e2]
theorem zOF (neg:Bool)(num:List UInt32):R.ok ⟨neg,num,[]⟩=(j9 num&&(!neg || decide (0<num.length))):=by
 have hq:R.q ⟨neg,num,[]⟩=mkRat (sgn neg (val num)) 1:=rfl;have hp:=mF (neg:=neg) (n:=val num) (d:=1) (by decide);rw[Bool.eq_iff_iff];simp only[R.ok,decide_eq_true_eq,hq,hp,Nat.gcd_one_right,Nat.div_one,if_true,R.mk.injEq,and_true,Bool.and_eq_true,Bool.or_eq_true,Bool.not_eq_true'];have hlen:0<num.length↔num≠[]:=by rw[<-List.length_pos_iff]
 constructor
 ·(rintro⟨h1,h2⟩;have hcn:j9 num=true:=by rw[h2];exact dL _);refine⟨hcn,?_⟩
  cases neg with
  |false=>exact .inl rfl
  |true =>
   right;rw[hlen];intro e;rw[e] at h1;simp[val] at h1
 ·rintro⟨h1,h2⟩;refine⟨?_,(aZ h1).symm⟩;cases neg with
  |false=>rfl| true =>
   have:=hlen.1 (h2.resolve_left (by decide));have:=zBB h1 this;simp;omega
theorem s103 (x:R)(hx:x.sz (2^36)):zK 126 [rv x] (.bool (fun _=>x.ok)):=by
 refine sF Tryz.f126 ?_;have h1:=hx.n;have h2:=hx.d;have hok:=zOG x;have hnil:x.den.length=0->x.ok=(j9 x.num&&(!x.neg || decide (0<x.num.length))):=by intro h;obtain⟨a,b,c⟩:=x;have:c=[]:=List.eq_nil_of_length_eq_zero h;subst this;exact zOF a b
 have cc:=s161 x hx;have cv:=s160 x.num (by omega);have hf:Fits (2^36) x.q:=hx.fits (by decide);have hl1:=hf.lnum;have hl2:=hf.lden;have cm1:=s162 x.num (zS x.q).num (by omega) (by omega);have cm2:=s162 x.den (zS x.q).den (by omega) (by omega);generalize hO:x.ok=O at *
 generalize zS x.q=W at *
 clear hf;obtain⟨neg,num,den⟩:=x;obtain⟨neg',num',den'⟩:=W;simp only at *
 generalize vM (val num) (val num')=c1 at *
 generalize vM (val den) (val den')=c2 at *
 cbv;refine zE (fun h=>?_) (fun h=>?_)
 ·have e:=hnil om;cbv;refine cA cv ?_;generalize j9 num=cn at *
  cbv;refine xO (fun h3=>?_) (fun h3=>?_)
  ·subst h3;cbv;refine xO (fun h4=>?_) (fun h4=>?_)
   ·subst h4;cbv
    (refine rC ?_;cbv)
    exact zH (by rw[e];simp[zG])
   ·subst h4;cbv
    (refine rC ?_;cbv)
    exact zQ (by rw[e];rfl)
  ·subst h3;cbv
   (refine rC ?_;cbv)
   exact zJ (by rw[e];rfl)
 ·(cbv;refine cA cc ?_;cbv;have hno:∀ P:Prop,¬P->(O=true->P)->O=false:=fun P h h'=>by cases O;rfl;exact absurd (h' rfl) h);refine yD (fun h3=>?_) (fun h3=>?_)
  ·cbv;refine yD (fun h4=>?_) (fun h4=>?_)
   ·cbv;refine yD (fun h5=>?_) (fun h5=>?_)
    ·cbv;refine cA cm1 ?_;cbv;refine yD (fun h6=>?_) (fun h6=>?_)
     ·cbv;refine cA cm2 ?_;cbv
      (refine rC ?_;cbv)
      refine zH ?_;rw[Bool.eq_iff_iff,hok,decide_eq_true_eq]
      (try dsimp only [zL] at *)
      simp only[zG] at h4 h5;exact⟨fun h7=>⟨h3,by omega,by omega,h6,h7⟩,fun h7=>h7.2.2.2.2⟩
     ·cbv
      (refine rC ?_;cbv)
      exact zJ (hno _ h6 fun h7=>(hok.1 h7).2.2.2.1)
    ·cbv
     (refine rC ?_;cbv)
     refine zJ (hno _ h5 fun h7=>?_);have:=(hok.1 h7).2.2.1
     (try dsimp only [zL] at *)
     simp only[zG];omega
   ·cbv
    (refine rC ?_;cbv)
    refine zJ (hno _ h4 fun h7=>?_);have:=(hok.1 h7).2.1
    (try dsimp only [zL] at *)
    simp only[zG];omega
  ·cbv
   (refine rC ?_;cbv)
   exact zJ (hno _ h3 fun h7=>(hok.1 h7).1)
theorem s163 (x:Z)(hx:x.mag.length<2^38):zK 99 [zv x] (rv (zS (x.v:Rat))):=by
 refine sF Tryz.f99 ?_;have cq:=s193 x.neg x.mag [1] hx (by simp) (by decide);have e:mkRat (sgn x.neg (val x.mag)) (val [1])=(x.v:Rat):=by have:=Rat.mkRat_self (x.v:Rat);rw[Rat.num_intCast,Rat.den_intCast] at this;exact this
 rw[e] at cq;generalize zS (x.v:Rat)=W at *
 obtain⟨neg,mag⟩:=x;cbv;refine zY 6 (by cbv) ?_;cbv;refine dA s210 ?_;cbv;refine dA cq ?_;cbv
 (refine rC ?_;cbv)
 exact okA
theorem eD (x:Int)(h1:-9223372036854775808<=x)(h2:x<9223372036854775808):(xH x).mag.length<=2:=by
 refine z6 ?_;have:B^2=18446744073709551616:=by decide
 omega
theorem s104 (x:Int)(h1:-9223372036854775808<=x)(h2:x<9223372036854775808):zK 54 [.int .i64 (fun _=>x)] (rv (zS (x:Rat))):=by
 refine sF Tryz.f54 ?_;have c1:=s164 x h1 h2;have hl:=eD x h1 h2;have c2:=s163 (xH x) (by omega);rw[jK] at c2;generalize zS (x:Rat)=W at *
 generalize xH x=y at *
 cbv;refine cA c1 ?_;cbv;refine cA c2 ?_;cbv
 (refine rC ?_;cbv)
 exact okA
theorem s147 (x:R)(hx:x.num.length<2^40):zK 97 [rv x] (zv (xH x.n)):=by
 refine sF Tryz.f97 ?_;have c1:=s203 x.neg x.num hx;have e:sgn x.neg (val x.num)=x.n:=rfl;rw[e] at c1;generalize xH x.n=W at *
 obtain⟨neg,num,den⟩:=x;cbv;refine cA c1 ?_;cbv
 (refine rC ?_;cbv)
 exact okA
theorem zK7 (x:R):(xH x.n).mag.length<=x.num.length:=by refine z6 ?_;rw[R.n,vF];exact xF _
theorem s86 (x:R)(hx:x.num.length<2^40):zK 50 [rv x] (.int .i64 (fun _=>xJ x.q)):=by
 refine sF Tryz.f50 ?_;have c1:=s147 x hx;have hl:=zK7 x;have c2:=s146 (xH x.n) (by omega);rw[jK,<-zJ2] at c2;generalize xJ x.q=s at *
 generalize xH x.n=W at *
 obtain⟨neg,num,den⟩:=x;cbv;refine cA c1 ?_;cbv;refine cA c2 ?_;cbv
 (refine rC ?_;cbv)
 exact lR
theorem s191 (x y:R)(hx:x.sz (2^34))(hy:y.sz (2^34)):zK 132 [rv x,rv y] (.tup [zv (xH (x.n*y.d)),zv (xH (y.n*x.d))]):=by
 refine sF Tryz.f132 ?_;have h1:=hx.n;have h2:=hx.d;have h3:=hy.n;have h4:=hy.d;have h5:=uH x.den;have h6:=uH y.den;have h7:=zK7 x;have h8:=zK7 y;have cux:=s195 x (by omega);have cuy:=s195 y (by omega);have csx:=s147 x (by omega);have csy:=s147 y (by omega);have cm1:=s220 (xH x.n) ⟨false,xA y.den⟩ (by omega) (show (xA y.den).length<_ by omega);have cm2:=s220 (xH y.n) ⟨false,xA x.den⟩ (by omega) (show (xA x.den).length<_ by omega);have e1:Z.v ⟨false,xA y.den⟩=(y.d:Int):=by rw[<-vQ];rfl
 have e2:Z.v ⟨false,xA x.den⟩=(x.d:Int):=by rw[<-vQ];rfl
 rw[jK,e1] at cm1;rw[jK,e2] at cm2;generalize xH (x.n*(y.d:Int))=W1 at *
 generalize xH (y.n*(x.d:Int))=W2 at *
 generalize xH x.n=X at *
 generalize xH y.n=Y at *
 generalize xA x.den=ux at *
 generalize xA y.den=uy at *
 obtain⟨a,b,c⟩:=x;obtain⟨a',b',c'⟩:=y;cbv;refine zY 4 (by cbv) ?_;cbv;refine dA cux ?_;cbv;refine dA cuy ?_;cbv;refine zY 10 (by cbv) ?_;cbv;refine dA csx ?_;cbv;refine dA cm1 ?_;cbv;refine dA csy ?_;cbv;refine dA cm2 ?_;cbv
 (refine rC ?_;cbv)
 exact okA
theorem sA (x y:R)(hx:x.sz (2^34))(hy:y.sz (2^34)):(xH (x.n*(y.d:Int))).mag.length<=2^36:=by have h1:=hx.n;have h4:=hy.d;have h6:=uH y.den;refine Nat.le_trans (z6 (k:=x.num.length+(xA y.den).length) ?_) (by omega);rw[Int.natAbs_mul,R.n,vF,Int.natAbs_natCast,<-vQ];exact kL (xF _) (xF _)
theorem s165 (x y:R)(hx:x.sz (2^34))(hy:y.sz (2^34)):zK 88 [rv x,rv y] (.int .i64 (fun _=>f6 x.q y.q)):=by
 refine sF Tryz.f88 ?_;have h1:=hx.n;have h3:=hy.n;have h5:=sA x y hx hy;have h6:=sA y x hy hx;have cx:=s86 x (by omega);have cy:=s86 y (by omega);have cc:=s191 x y hx hy;have ci:=s212 _ _ (Nat.lt_of_le_of_lt h5 (by omega)) (Nat.lt_of_le_of_lt h6 (by omega));rw[jK,jK,<-zOY] at ci;have k1:xJ x.q<xJ y.q->f6 x.q y.q=-1:=by
  (intro h;have:x.q<y.q:=by unfold xJ at h;grind);simp[f6,this]
 have k2:xJ y.q<xJ x.q->f6 x.q y.q=1:=by
  (intro h;have h7:y.q<x.q:=by unfold xJ at h;grind);have h8:¬x.q<y.q:=by grind
  simp[f6,h7,h8]
 generalize f6 x.q y.q=C at *
 generalize xJ x.q=s at *
 generalize xJ y.q=t at *
 generalize xH (x.n*(y.d:Int))=W1 at *
 generalize xH (y.n*(x.d:Int))=W2 at *
 obtain⟨a,b,c⟩:=x;obtain⟨a',b',c'⟩:=y;obtain⟨p1,p2⟩:=W1;obtain⟨q1,q2⟩:=W2;cbv;refine zY 4 (by cbv) ?_;cbv;refine dA cx ?_;cbv;refine dA cy ?_;cbv;refine zE (fun h=>?_) (fun h=>?_)
 ·cbv;refine cA cc ?_;cbv;refine cA ci ?_;cbv
  (refine rC ?_;cbv)
  exact lR
 ·cbv;refine zE (fun h'=>?_) (fun h'=>?_)
  ·cbv
   (refine rC ?_;cbv)
   exact zC (k1 h').symm
  ·cbv
   (refine rC ?_;cbv)
   exact zC (k2 (by omega)).symm
theorem s138 (x y:R)(hx:x.sz (2^34))(hy:y.sz (2^34)):zK 157 [rv x,rv y] (rv (zS (x.q+y.q))):=by
 refine sF Tryz.f157 ?_;have h1:=hx.n;have h2:=hx.d;have h3:=hy.n;have h4:=hy.d;have h5:=sA x y hx hy;have h6:=sA y x hy hx;have h7:=uH x.den;have h8:=uH y.den;have cc:=s191 x y hx hy;have ca:=s192 _ _ (Nat.lt_of_le_of_lt h5 (by omega)) (Nat.lt_of_le_of_lt h6 (by omega));rw[jK,jK] at ca;have cux:=s195 x (by omega);have cuy:=s195 y (by omega);have cm:=s194 (xA x.den) (xA y.den) (by omega) (by omega);have hml:=gK (xA x.den) (xA y.den);rw[vQ,vQ] at cm hml;have hsl:(xH (x.n*(y.d:Int)+y.n*(x.d:Int))).mag.length<2^38:=by
  (obtain⟨k,hk⟩:∃ k,k=68719476736:=⟨_,rfl⟩;have h5':(xH (x.n*(y.d:Int))).mag.length<=k:=by rw[hk];exact h5);have h6':(xH (y.n*(x.d:Int))).mag.length<=k:=by rw[hk];exact h6
  (have e1:(x.n*(y.d:Int)).natAbs<B^k:=by have:=xF (xH (x.n*(y.d:Int))).mag;rw[show val (xH (x.n*(y.d:Int))).mag=(x.n*(y.d:Int)).natAbs from zN _] at this;exact Nat.lt_of_lt_of_le this (Nat.pow_le_pow_right xN h5'));have e2:(y.n*(x.d:Int)).natAbs<B^k:=by have:=xF (xH (y.n*(x.d:Int))).mag;rw[show val (xH (y.n*(x.d:Int))).mag=(y.n*(x.d:Int)).natAbs from zN _] at this;exact Nat.lt_of_lt_of_le this (Nat.pow_le_pow_right xN h6')
  have e3:=Int.natAbs_add_le (x.n*(y.d:Int)) (y.n*(x.d:Int));have e4:B^k*2<=B^k*B:=Nat.mul_le_mul_left _ (by decide);have e5:(zF (x.n*(y.d:Int)+y.n*(x.d:Int)).natAbs).length<=k+1:=z6 (by rw[Nat.pow_succ B k];generalize B^k=P at *;omega);show (zF (x.n*(y.d:Int)+y.n*(x.d:Int)).natAbs).length<2^38;omega
 have cq:=s193 (xH (x.n*(y.d:Int)+y.n*(x.d:Int))).neg (xH (x.n*(y.d:Int)+y.n*(x.d:Int))).mag (zF (x.d*y.d)) hsl (by omega) (by rw[zN];exact Nat.mul_ne_zero x.d_ne y.d_ne);have e6:sgn (xH (x.n*(y.d:Int)+y.n*(x.d:Int))).neg (val (xH (x.n*(y.d:Int)+y.n*(x.d:Int))).mag)=x.n*(y.d:Int)+y.n*(x.d:Int):=jK _;rw[e6,zN,<-zK6] at cq;clear e6 hsl hml h5 h6;generalize zS (x.q+y.q)=W at *
 generalize zF (x.d*y.d)=M at *
 generalize xH (x.n*(y.d:Int)+y.n*(x.d:Int))=S at *
 generalize xH (x.n*(y.d:Int))=W1 at *
 generalize xH (y.n*(x.d:Int))=W2 at *
 generalize xA x.den=ux at *
 generalize xA y.den=uy at *
 obtain⟨a,b,c⟩:=x;obtain⟨a',b',c'⟩:=y;obtain⟨p1,p2⟩:=W1;obtain⟨q1,q2⟩:=W2;obtain⟨s1,s2⟩:=S;cbv;refine cA cc ?_;cbv;refine cA ca ?_;cbv;refine zY 10 (by cbv) ?_;cbv;refine dA cux ?_;cbv;refine dA cuy ?_;cbv;refine dA cm ?_;cbv;refine dA cq ?_;cbv
 (refine rC ?_;cbv)
 exact okA
theorem s199 (x y:R)(hx:x.sz (2^34))(hy:y.sz (2^34)):zK 98 [rv x,rv y] (rv (zS (x.q*y.q))):=by
 refine sF Tryz.f98 ?_;have h1:=hx.n;have h2:=hx.d;have h3:=hy.n;have h4:=hy.d;have h7:=uH x.den;have h8:=uH y.den;have cux:=s195 x (by omega);have cuy:=s195 y (by omega);have cm:=s194 (xA x.den) (xA y.den) (by omega) (by omega);have hml:=gK (xA x.den) (xA y.den);rw[vQ,vQ] at cm hml;have cn:=s194 x.num y.num (by omega) (by omega);have hnl:=gK x.num y.num;have cq:=s193 (x.neg != y.neg) (zF (val x.num*val y.num)) (zF (x.d*y.d)) (by omega) (by omega) (by rw[zN];exact Nat.mul_ne_zero x.d_ne y.d_ne);rw[zN,zN,<-zFY] at cq;have e:mkRat (sgn x.neg (val x.num)*sgn y.neg (val y.num)) (x.d*y.d)=x.q*y.q:=(zPU x y).symm;rw[e] at cq;have hb:(x.neg != y.neg)=!decide (x.neg=y.neg):=by cases x.neg <;> cases y.neg <;> rfl
 clear hml hnl e;generalize zS (x.q*y.q)=W at *
 generalize zF (x.d*y.d)=M at *
 generalize zF (val x.num*val y.num)=P at *
 generalize xA x.den=ux at *
 generalize xA y.den=uy at *
 obtain⟨a,b,c⟩:=x;obtain⟨a',b',c'⟩:=y;simp only at *
 generalize (a != a')=nb at *
 cbv;refine zY 16 (by cbv) ?_;cbv;refine dA cn ?_;cbv;refine dA cux ?_;cbv;refine dA cuy ?_;cbv;refine dA cm ?_;cbv;refine bB (by exact⟨kV hb,lR,lR,trivial⟩) cq rfl ?_;cbv
 (refine rC ?_;cbv)
 exact okA
end Go.Proofs.YtfainocfaddbdaaGreat
