/- A part of the proof: PnC, IgA, RqA, RqB. -/
import Derived.Test.YtfainocfaddbdaaGreatU15
import Derived.Test.YtfainocfaddbdaaGreatU18
set_option linter.all false
namespace Go.Proofs.YtfainocfaddbdaaGreat
structure R where
 neg:Bool
 num:List UInt32
 den:List UInt32
deriving DecidableEq
def sgn (b:Bool) (n:Nat):Int:=if b then -(n:Int) else n
theorem u6 (b:Bool)(n:Nat):(sgn b n).natAbs=n:=by cases b <;> simp[sgn]
theorem zJA (b:Bool):sgn b 0=0:=by cases b <;> rfl
theorem zII {b:Bool}{n:Nat}:sgn b n<0↔(b=true/\n≠0):=by cases b <;> simp[sgn] <;> omega
theorem zDH (z:Int):sgn (decide (z<0)) z.natAbs=z:=by by_cases h:z<0 <;> simp[sgn,h] <;> omega
theorem zG7 (a b:Bool)(n m:Nat):sgn a n*sgn b m=sgn (a != b) (n*m):=by cases a <;> cases b <;> simp[sgn,Int.neg_mul,Int.mul_neg]
theorem zAX (a:Bool)(n m:Nat):sgn a n*(m:Int)=sgn a (n*m):=by cases a <;> simp[sgn,Int.neg_mul]
theorem zNQ (a:Bool)(n:Nat):sgn (!a) n=- sgn a n:=by cases a <;> simp[sgn]
def R.n (x:R):Int:=sgn x.neg (val x.num)
def R.d (x:R):Nat:=if val x.den=0 then 1 else val x.den
def R.q (x:R):Rat:=mkRat x.n x.d
theorem R.d_ne (x:R):x.d≠0:=by unfold R.d;split <;> omega
def zJ (q:Rat):R:=⟨decide (q.num<0),zF q.num.natAbs,if q.den=1 then [] else zF q.den⟩
theorem zYV (q:Rat):(zJ q).n=q.num:=by simp only[R.n,zJ,zM];exact zDH _
theorem zZD (q:Rat):(zJ q).d=q.den:=by have:=q.den_pos;unfold R.d zJ;by_cases h:q.den=1;{simp[h,val]};{simp only[h,if_false,zM];split <;> omega}
theorem yY (q:Rat):(zJ q).q=q:=by rw[R.q,zYV,zZD];exact Rat.mkRat_self q
theorem zFT:zJ 0=⟨false,[],[]⟩:=by simp[zJ,limbs_zero]
theorem zN2 {neg:Bool}{n d:Nat}(hd:d≠0):(mkRat (sgn neg n) d).num=sgn neg (n/Nat.gcd n d):=by rw[Rat.num_mkRat,if_neg hd,u6,Nat.gcd_comm];have hg:((Nat.gcd n d:Nat):Int) ∣ (n:Int):=Int.natCast_dvd_natCast.2 (Nat.gcd_dvd_left n d);cases neg;{simp only[sgn];rfl};{simp only[sgn];show (-(n:Int))/((Nat.gcd n d:Nat):Int)=- ((n/Nat.gcd n d:Nat):Int);rw[Int.neg_ediv_of_dvd hg];rfl}
theorem zN3 {neg:Bool}{n d:Nat}(hd:d≠0):(mkRat (sgn neg n) d).den=d/Nat.gcd n d:=by rw[Rat.den_mkRat,if_neg hd,u6,Nat.gcd_comm]
theorem o8 {neg:Bool}{n d:Nat}(hd:d≠0):zJ (mkRat (sgn neg n) d)=⟨neg&&decide (n≠0),zF (n/Nat.gcd n d),if d/Nat.gcd n d=1 then [] else zF (d/Nat.gcd n d)⟩:=by
 rw[zJ,zN2 hd,zN3 hd,u6];congr 1;rw[Bool.eq_iff_iff];have hg:0<Nat.gcd n d:=Nat.gcd_pos_of_pos_right n (Nat.pos_of_ne_zero hd);have h1:n/Nat.gcd n d=0↔n=0:=by rw[Nat.div_eq_zero_iff_lt hg];constructor;{intro h;rcases Nat.eq_zero_or_pos n with h0|h0;{exact h0};{have:=Nat.gcd_le_left d h0;omega}};{intro h;omega}
 simp only[decide_eq_true_eq,Bool.and_eq_true,zII,ne_eq,h1]
theorem zT9 (a b:R):a.q+b.q=mkRat (a.n*b.d+b.n*a.d) (a.d*b.d):=Rat.mkRat_add_mkRat _ _ a.d_ne b.d_ne
theorem zW1 (a b:R):a.q*b.q=mkRat (a.n*b.n) (a.d*b.d):=Rat.mkRat_mul_mkRat _ _ _ _
theorem zT8 (a:R):(⟨!a.neg,a.num,a.den⟩:R).q=- a.q:=by simp only[R.q,R.n,R.d,zNQ,Rat.neg_mkRat]
theorem eM {n:Int}{d:Nat}(hd:d≠0):0<=mkRat n d↔0<=n:=by rw[<-Rat.divInt_ofNat];exact Rat.divInt_nonneg_iff_of_pos_right (by omega)
theorem yAJ (a b:R):a.q-b.q=mkRat (a.n*b.d-b.n*a.d) (a.d*b.d):=by rw[Rat.sub_eq_add_neg,<-zT8,zT9];simp only[R.n,R.d,zNQ,Int.neg_mul,Int.sub_eq_add_neg]
theorem q_le (a b:R):a.q<=b.q↔a.n*b.d<=b.n*a.d:=by rw[Rat.le_iff_sub_nonneg,yAJ,eM (Nat.mul_ne_zero b.d_ne a.d_ne)];omega
theorem q_lt (a b:R):a.q<b.q↔a.n*b.d<b.n*a.d:=by rw[<-Rat.not_le,q_le];omega
theorem zPV (a:R):a.q=0↔a.n=0:=Rat.mkRat_eq_zero a.d_ne
theorem zJK (a:R):0<=a.q↔0<=a.n:=eM a.d_ne
theorem zPU (a:R):a.q<0↔a.n<0:=by rw[<-Rat.not_le,zJK];omega
theorem yAK (a:R):0<a.q↔0<a.n:=by have h1:=zJK a;have h2:=zPV a;rw[Rat.lt_iff_le_and_ne];constructor;{rintro⟨h,h'⟩;have:=h1.1 h;have:a.n≠0:=fun e=>h' (h2.2 e).symm;omega};{intro h;exact⟨h1.2 (by omega),fun e=>by have:=h2.1 e.symm;omega⟩}
def xF (q:Rat):Int:=if q<0 then -1 else if 0<q then 1 else 0
def gJ (a b:Rat):Int:=if a<b then -1 else if b<a then 1 else 0
def jV (z:Int):Int:=if z<0 then -1 else if 0<z then 1 else 0
def cmpZ (a b:Int):Int:=if a<b then -1 else if b<a then 1 else 0
theorem zS0 (a:R):xF a.q=jV a.n:=by simp only[xF,jV,zPU,yAK]
theorem zZF (a b:R):gJ a.q b.q=cmpZ (a.n*b.d) (b.n*a.d):=by simp only[gJ,cmpZ,q_lt]
structure Fits (k:Nat) (q:Rat):Prop where
 num:q.num.natAbs<B^k
 den:q.den<B^k
theorem Fits.mono {k m:Nat}{q:Rat}(h:Fits k q)(hm:k<=m):Fits m q :=
 ⟨Nat.lt_of_lt_of_le h.num (Nat.pow_le_pow_right wI hm),Nat.lt_of_lt_of_le h.den (Nat.pow_le_pow_right wI hm)⟩
theorem iA {k:Nat}{n:Int}{d:Nat}(hn:n.natAbs<B^k)(hd:d<B^k)(h0:d≠0):Fits k (mkRat n d):=by have hs:n=sgn (decide (n<0)) n.natAbs:=(zDH n).symm;rw[hs];refine⟨?_,?_⟩;{rw[zN2 h0,u6];exact Nat.lt_of_le_of_lt (Nat.div_le_self _ _) hn};{rw[zN3 h0];exact Nat.lt_of_le_of_lt (Nat.div_le_self _ _) hd}
theorem zY4 {k:Nat}{x:R}(h1:x.num.length<=k)(h2:x.den.length<=k)(hk:1<=k):Fits k x.q:=by refine iA ?_ ?_ x.d_ne;{rw[R.n,u6];exact Nat.lt_of_lt_of_le (xZ _) (Nat.pow_le_pow_right wI h1)};{unfold R.d;split;{exact Nat.lt_of_lt_of_le (show 1<B^1 by decide) (Nat.pow_le_pow_right wI hk)};{exact Nat.lt_of_lt_of_le (xZ _) (Nat.pow_le_pow_right wI h2)}}
theorem Fits.lnum {k:Nat}{q:Rat}(h:Fits k q):(zJ q).num.length<=k:=z7 h.num
theorem Fits.lden {k:Nat}{q:Rat}(h:Fits k q):(zJ q).den.length<=k:=by unfold zJ;by_cases h1:q.den=1;{simp[h1]};{simp only[h1,if_false];exact z7 h.den}
theorem gZ {a b k m:Nat}(ha:a<B^k)(hb:b<B^m):a*b<B^(k+m):=by rw[Nat.pow_add];exact Nat.mul_lt_mul'' ha hb
theorem uB {k m:Nat}{a b:Rat}(ha:Fits k a)(hb:Fits m b):Fits (k+m) (a*b):=by rw[Rat.mul_def'];refine iA ?_ (gZ ha.den hb.den) (Nat.mul_ne_zero a.den_nz b.den_nz);rw[Int.natAbs_mul];exact gZ ha.num hb.num
theorem gG {k m:Nat}{a b:Rat}(ha:Fits k a)(hb:Fits m b):Fits (k+m+1) (a+b):=by rw[Rat.add_def'];have h1:=gZ ha.num hb.den;have h2:=gZ hb.num ha.den;rw[Nat.add_comm m k] at h2;have h3:B^(k+m+1)=B^(k+m)*B:=Nat.pow_succ _ _;have hd:=gZ ha.den hb.den;have h5:B^(k+m)*2<=B^(k+m)*B:=Nat.mul_le_mul_left _ (by decide);refine iA ?_ ?_ (Nat.mul_ne_zero a.den_nz b.den_nz);{have h4:=Int.natAbs_add_le (a.num*b.den) (b.num*a.den);rw[Int.natAbs_mul,Int.natAbs_mul,Int.natAbs_natCast,Int.natAbs_natCast] at h4;rw[h3];omega};{rw[h3];omega}
theorem aK {k:Nat}{a:Rat}(ha:Fits k a):Fits k (-a):=⟨by rw[Rat.neg_num,Int.natAbs_neg];exact ha.num,by rw[Rat.neg_den];exact ha.den⟩
theorem zR5 {k m:Nat}{a b:Rat}(ha:Fits k a)(hb:Fits m b):Fits (k+m+1) (a-b):=by rw[Rat.sub_eq_add_neg];exact gG ha (aK hb)
theorem wD {k:Nat}(hk:1<=k):Fits k 0 :=
 ⟨by simp;exact Nat.pow_pos wI,by simp;exact Nat.lt_of_lt_of_le (show 1<B^1 by decide) (Nat.pow_le_pow_right wI hk)⟩
theorem aL {k:Nat}{z:Int}(h:z.natAbs<B^k)(hk:1<=k):Fits k (z:Rat) :=
 ⟨by simpa using h,by simp;exact Nat.lt_of_lt_of_le (show 1<B^1 by decide) (Nat.pow_le_pow_right wI hk)⟩
theorem zKA {k:Nat}{a:Rat}(ha:Fits k a):Fits k a⁻¹:=by
 refine⟨?_,?_⟩
 ·(rw[Rat.num_inv,Int.natAbs_mul];have h1:a.num.sign.natAbs<=1:=by rw[Int.natAbs_sign];split <;> omega);have h2:=ha.den
  have:=Nat.mul_le_mul_right ((a.den:Int).natAbs) h1;rw[Int.natAbs_natCast] at *
  omega
 {rw[Rat.den_inv];split;{have:=ha.den;have:=a.den_pos;omega};{exact ha.num}}
def R.ok (x:R):Bool:=decide (x=zJ x.q)
theorem nF (q:Rat):(zJ q).ok=true:=by simp[R.ok,yY]
end Go.Proofs.YtfainocfaddbdaaGreat
namespace Go.Proofs.YtfainocfaddbdaaGreat
open Go
set_option maxRecDepth 100000
theorem bJ {nb:Bool}{objs:List (Nat×Obj')}{f:FuncId}{args args':List PV}{K:PV->Prop}{r:PV}(h2:fO les args args')(h3:zG f args' r)(h5:nmIn [] r=true)(h4:K r):CallS nb objs f args K:=⟨.inl ⟨args',r,pK h2,h3,h5,h4⟩⟩
theorem dA {nb:Bool}{objs:List (Nat×Obj')}{f:FuncId}{args args':List PV}{K:PV->Prop}{r:PV}(h3:zG f args' r)(h4:K r)(h2:fO les args args':=by exact okA)(h5:nmIn [] r=true:=by exact rfl):CallS nb objs f args K:=bJ h2 h3 h5 h4
theorem fY (a b:List UInt32):(zF (val a*val b)).length<=a.length+b.length:=z7 (gZ (xZ a) (xZ b))
theorem zOD (a b:List UInt32):(zF (val a+val b)).length<=a.length+b.length+1:=by refine z7 ?_;have h1:=gN (xZ a) (gA wI (Nat.le_add_right a.length b.length));have h2:=gN (xZ b) (gA wI (Nat.le_add_left b.length a.length));have h3:B^(a.length+b.length)*2<=B^(a.length+b.length)*B:=wW _ (by decide);rw[xS];omega
theorem zCV (a b:List UInt32):(zF (val a-val b)).length<=a.length:=z7 (xJ (Nat.sub_le _ _) (xZ a))
structure Z where
 neg:Bool
 mag:List UInt32
def Z.v (x:Z):Int:=sgn x.neg (val x.mag)
def wA (z:Int):Z:=⟨decide (z<0),zF z.natAbs⟩
theorem dP (z:Int):(wA z).v=z:=by simp only[Z.v,wA,zM];exact zDH z
abbrev zv (x:Z):PV:=.agg [.bool (fun _=>x.neg),nat x.mag]
theorem zJY (neg:Bool)(n:Nat):wA (sgn neg n)=⟨neg&&decide (n≠0),zF n⟩:=by simp only[wA,u6];congr 1;rw[aZ];simp only[decide_eq_true_eq,zII,y9]
theorem zSZ {b:Bool}{n:Nat}(h:¬sgn b n<0):sgn b n=(n:Int):=by cases b;{rfl};{simp only[sgn,if_true] at h ⊢;omega}
theorem s203 (neg:Bool)(m:List UInt32)(hm:m.length<2^40):zG 137 [.bool (fun _=>neg),nat m] (zv (wA (sgn neg (val m)))):=by
 refine sF Tryz.f137 ?_;rw[zJY];cbv;refine cA (s223 m hm) ?_;cbv;refine xK (fun h=>?_) (fun h=>?_)
 ·subst h;cbv
  (refine rC ?_;cbv)
  refine⟨yX ?_,lR,trivial⟩;rw[aZ];simp only[decide_eq_true_eq,zH,wM];rw[<-@xX (val m),<-zIX]
  (try dsimp only [zI] at *)
  omega
 ·subst h;cbv
  (refine rC ?_;cbv)
  exact okA
theorem s164 (x:Int)(h1:-9223372036854775808<=x)(h2:x<9223372036854775808):zG 100 [.int .i64 (fun _=>x)] (zv (wA x)):=by
 refine sF Tryz.f100 ?_;have hBB:B*B=18446744073709551616:=by decide
 have e:zv (wA x)=.agg [.bool (fun _=>decide (x<0)),nat (zF x.natAbs)]:=rfl;rw[e];cbv;refine zD (fun h=>?_) (fun h=>?_)
 ·(have e1:nx .u64 (0-nx .u64 x)=((x.natAbs:Nat):Int):=by simp only[uJ];omega);generalize hn:x.natAbs=n at *
  cbv;refine wL rfl (by exact⟨zE e1,trivial⟩) (s211 n oM) rfl ?_;cbv
  (refine rC ?_;cbv)
  exact⟨xQ (decide_eq_true h),lR,trivial⟩
 ·(have e1:nx .u64 x=((x.natAbs:Nat):Int):=by simp only[uJ];omega);generalize hn:x.natAbs=n at *
  cbv;refine wL rfl (by exact⟨zE e1,trivial⟩) (s211 n oM) rfl ?_;cbv
  (refine rC ?_;cbv)
  exact⟨z5 (decide_eq_false h),lR,trivial⟩
theorem s146 (x:Z)(hx:x.mag.length<2^40):zG 96 [zv x] (.int .i64 (fun _=>jV x.v)):=by
 refine sF Tryz.f96 ?_;obtain⟨neg,mag⟩:=x;have hv:Z.v ⟨neg,mag⟩=sgn neg (val mag):=rfl;rw[hv];have h0:((gK (val mag):Nat):Int)=0↔val mag=0:=by rw[<-nV];omega
 have hs:=s202 mag hx;generalize gK (val mag)=b at h0 hs;generalize hS:jV (sgn neg (val mag))=S at *
 cbv;refine cA hs ?_;cbv;refine zD (fun h=>?_) (fun h=>?_)
 ·cbv
  (refine rC ?_;cbv)
  refine zE ?_;rw[<-hS,h0.1 h,zJA];rfl
 ·have hne:val mag≠0:=fun e=>h (h0.2 e);cbv;refine z6 (fun h2=>?_) (fun h2=>?_)
  ·subst h2;cbv
   (refine rC ?_;cbv)
   refine zE ?_;rw[<-hS,show sgn true (val mag)=-(val mag:Int) from rfl];unfold jV;rw[if_pos oM]
  ·subst h2;cbv
   (refine rC ?_;cbv)
   refine zE ?_;rw[<-hS,show sgn false (val mag)=(val mag:Int) from rfl];unfold jV;rw[if_neg oM,if_pos oM]
theorem s212 (x y:Z)(hx:x.mag.length<2^40)(hy:y.mag.length<2^40):zG 133 [zv x,zv y] (.int .i64 (fun _=>cmpZ x.v y.v)):=by
 refine sF Tryz.f133 ?_;have hsx:=s146 x hx;have hsy:=s146 y hy;have hxv:x.v=sgn x.neg (val x.mag):=rfl;have hyv:y.v=sgn y.neg (val y.mag):=rfl;have h1:jV x.v<jV y.v->cmpZ x.v y.v=-1:=by intro h;unfold jV at h;unfold cmpZ;split at h <;> split at h <;> (try split at h) <;> (try split at h) <;> first|(rw[if_pos oM])|omega
 have h2:jV y.v<jV x.v->cmpZ x.v y.v=1:=by intro h;unfold jV at h;unfold cmpZ;split at h <;> split at h <;> (try split at h) <;> (try split at h) <;> first|(rw[if_neg oM,if_pos oM])|omega
 have h3:jV x.v=jV y.v->jV x.v<0->cmpZ x.v y.v=qH (val y.mag) (val x.mag):=by
  (intro h h';have a1:x.v<0:=by unfold jV at h';split at h' <;> (try split at h') <;> omega);have a2:y.v<0:=by rw[h] at h';unfold jV at h';split at h' <;> (try split at h') <;> omega
  rw[hxv,zII] at a1;rw[hyv,zII] at a2;rw[hxv,hyv,a1.1,a2.1];simp only[cmpZ,qH,sgn,if_true];split <;> split <;> (try split) <;> (try split) <;> omega
 have h4:jV x.v=jV y.v->¬jV x.v<0->cmpZ x.v y.v=qH (val x.mag) (val y.mag):=by
  (intro h h';have a1:¬x.v<0:=by unfold jV at h';split at h' <;> (try split at h') <;> omega);have a2:¬y.v<0:=by rw[h] at h';unfold jV at h';split at h' <;> (try split at h') <;> omega
  (have b1:x.v=(val x.mag:Int):=by rw[hxv] at a1 ⊢;exact zSZ a1);have b2:y.v=(val y.mag:Int):=by rw[hyv] at a2 ⊢;exact zSZ a2
  rw[b1,b2];simp only[cmpZ,qH];split <;> split <;> (try split) <;> (try split) <;> omega
 generalize cmpZ x.v y.v=C at *
 generalize jV x.v=s at *
 generalize jV y.v=t at *
 cbv;refine zT 4 (by cbv) ?_;cbv;refine dA hsx ?_;cbv;refine dA hsy ?_;cbv;refine zD (fun h=>?_) (fun h=>?_)
 ·cbv
  (refine rC ?_;cbv)
  exact zE (h1 h).symm
 ·cbv;refine zD (fun h'=>?_) (fun h'=>?_)
  ·cbv
   (refine rC ?_;cbv)
   exact zE (h2 h').symm
  ·(have he:s=t:=by omega);cbv
   refine zD (fun h5=>?_) (fun h5=>?_)
   ·have h6:=h3 he h5;have h7:=s162 y.mag x.mag hy hx;rw[<-h6] at h7;cbv;refine cA h7 ?_;cbv
    (refine rC ?_;cbv)
    exact lR
   ·have h6:=h4 he h5;have h7:=s162 x.mag y.mag hx hy;rw[<-h6] at h7;cbv;refine cA h7 ?_;cbv
    (refine rC ?_;cbv)
    exact lR
theorem s192 (x y:Z)(hx:x.mag.length<2^38)(hy:y.mag.length<2^38):zG 166 [zv x,zv y] (zv (wA (x.v+y.v))):=by
 refine sF Tryz.f166 ?_;obtain⟨n1,m1⟩:=x;obtain⟨n2,m2⟩:=y;have hv:Z.v ⟨n1,m1⟩+Z.v ⟨n2,m2⟩=sgn n1 (val m1)+sgn n2 (val m2):=rfl;have hl:=zOD m1 m2;have hl1:=zCV m1 m2;have hl2:=zCV m2 m1;have hx':m1.length<2^38:=hx;have hy':m2.length<2^38:=hy;rw[hv];have c1:n1=n2->zG 137 [.bool (fun _=>n1),nat (zF (val m1+val m2))] (zv (wA (sgn n1 (val m1)+sgn n2 (val m2)))):=by
  (intro h;have:=s203 n1 (zF (val m1+val m2)) oM;rw[zM] at this;have e:sgn n1 (val m1+val m2)=sgn n1 (val m1)+sgn n2 (val m2):=by rw[<-h];cases n1 <;> simp[sgn];omega);rw[e] at this
  exact this
 have c2:n1≠n2->¬qH (val m1) (val m2)<0->zG 137 [.bool (fun _=>n1),nat (zF (val m1-val m2))] (zv (wA (sgn n1 (val m1)+sgn n2 (val m2)))):=by
  intro h h';have hge:val m2<=val m1:=by unfold qH at h';rcases wE (val m1) (val m2) with h3|h3;{rw[if_pos h3] at h';omega};{exact h3}
  (have:=s203 n1 (zF (val m1-val m2)) oM;rw[zM] at this;have e:sgn n1 (val m1-val m2)=sgn n1 (val m1)+sgn n2 (val m2):=by cases n1 <;> cases n2 <;> simp[sgn] at h ⊢ <;> omega);rw[e] at this
  exact this
 have c3:n1≠n2->qH (val m1) (val m2)<0->zG 137 [.bool (fun _=>n2),nat (zF (val m2-val m1))] (zv (wA (sgn n1 (val m1)+sgn n2 (val m2)))):=by
  intro h h';have hge:val m1<=val m2:=by unfold qH at h';rcases wE (val m1) (val m2) with h3|h3;{omega};{rw[if_neg oM] at h';split at h' <;> omega}
  (have:=s203 n2 (zF (val m2-val m1)) oM;rw[zM] at this;have e:sgn n2 (val m2-val m1)=sgn n1 (val m1)+sgn n2 (val m2):=by cases n1 <;> cases n2 <;> simp[sgn] at h ⊢ <;> omega);rw[e] at this
  exact this
 have c0:=s162 m1 m2 oM oM;generalize qH (val m1) (val m2)=cm at *
 generalize sgn n1 (val m1)+sgn n2 (val m2)=T at *
 cbv;refine zD (fun h=>?_) (fun h=>?_)
 ·have h':=c1 h;generalize wA T=W at *
  cbv;refine zT 8 (by cbv) ?_;cbv;refine dA (s221 m1 m2 oM oM) ?_;cbv;refine dA h' ?_;cbv
  (refine rC ?_;cbv)
  exact okA
 ·have h2:=c2 h;have h3:=c3 h;generalize wA T=W at *
  cbv;refine cA c0 ?_;cbv;refine zD (fun h4=>?_) (fun h4=>?_)
  ·cbv;refine cA (s222 m2 m1 oM oM) ?_;cbv;refine cA (h3 h4) ?_;cbv
   (refine rC ?_;cbv)
   exact okA
  ·cbv;refine cA (s222 m1 m2 oM oM) ?_;cbv;refine cA (h2 h4) ?_;cbv
   (refine rC ?_;cbv)
   exact okA
theorem s220 (x y:Z)(hx:x.mag.length<2^38)(hy:y.mag.length<2^38):zG 158 [zv x,zv y] (zv (wA (x.v*y.v))):=by
 refine sF Tryz.f158 ?_;obtain⟨n1,m1⟩:=x;obtain⟨n2,m2⟩:=y;have hl:=fY m1 m2;have hx':m1.length<2^38:=hx;have hy':m2.length<2^38:=hy;have hv:Z.v ⟨n1,m1⟩*Z.v ⟨n2,m2⟩=sgn (n1 != n2) (val m1*val m2):=zG7 _ _ _ _;rw[hv];have c1:=s203 (n1 != n2) (zF (val m1*val m2)) oM;rw[zM] at c1;have hb:(n1 != n2)=!decide (n1=n2):=by cases n1 <;> cases n2 <;> rfl
 generalize wA (sgn (n1 != n2) (val m1*val m2))=W at *
 generalize hnb:(n1 != n2)=nb at *
 cbv;refine zT 11 (by cbv) ?_;cbv;refine dA (s194 m1 m2 oM oM) ?_;cbv;refine bJ (by exact⟨jZ hb,lR,trivial⟩) c1 rfl ?_;cbv
 (refine rC ?_;cbv)
 exact okA
abbrev rv (x:R):PV:=.agg [.bool (fun _=>x.neg),nat x.num,nat x.den]
structure R.sz (x:R) (k:Nat):Prop where
 n:x.num.length<=k
 d:x.den.length<=k
theorem yF {k:Nat}{q:Rat}(h:Fits k q):(zJ q).sz k:=⟨h.lnum,h.lden⟩
theorem R.sz.fits {k:Nat}{x:R}(h:x.sz k)(hk:1<=k):Fits k x.q:=zY4 h.n h.d hk
theorem R.sz.mono {k m:Nat}{x:R}(h:x.sz k)(hm:k<=m):x.sz m:=⟨vS h.n hm,vS h.d hm⟩
def x4 (d:List UInt32):List UInt32:=if val d=0 then [1] else d
theorem qL (x:R):val (x4 x.den)=x.d:=by unfold x4 R.d;split;{rfl};{rfl}
theorem kY (d:List UInt32):(x4 d).length<=d.length+1:=by unfold x4;split <;> simp
theorem zAJ:zF 1=[1]:=by rw[dX (by decide)];rw[show 1/B=0 by decide,limbs_zero];rfl
theorem fX {n:Nat}:zF n=[1]↔n=1:=by constructor;{intro h;have:=zM n;rw[h] at this;exact this.symm};{intro h;rw[h,zAJ]}
theorem s210:zG 141 [] (nat [1]):=by
 refine sF Tryz.f141 ?_;cbv
 (refine rC ?_;cbv)
 exact zY rfl
theorem s224 (l:List UInt32)(hl:l.length<2^40):zG 163 [nat l] (.bool (fun _=>decide (l=[1]))):=by
 refine sF Tryz.f163 ?_;generalize hd:decide (l=[1])=d;cbv;refine yD (fun h=>?_) (fun h=>?_)
 ·have h1:l.length=1:=om;cbv;refine xO 0 rfl oM ?_;cbv
  (refine rC ?_;cbv)
  refine yX ?_;rw[<-hd,decide_eq_decide]
  match l,h1 with
  |[x],_ =>
   have e1:[x].getD 0 0=x:=rfl;rw[e1];constructor;{intro h2;have:x=1:=s9.1 (by show x.toNat=1;(try dsimp only [zI] at *);omega);rw[this]};{intro h2;rw[List.cons.inj h2 |>.1];rfl}
 ·cbv
  (refine rC ?_;cbv)
  refine z5 ?_;rw[<-hd];exact decide_eq_false fun e=>h (by rw[e];rfl)
theorem s195 (x:R)(hx:x.den.length<2^40):zG 140 [rv x] (nat (x4 x.den)):=by
 refine sF Tryz.f140 ?_;obtain⟨neg,num,den⟩:=x;have h0:((gK (val den):Nat):Int)=0↔val den=0:=by rw[<-nV];omega
 have hs:=s202 den hx;have e1:val den=0->x4 den=[1]:=fun h=>if_pos h;have e2:val den≠0->x4 den=den:=fun h=>if_neg h;show wp _ _ (pF _ (nat (x4 den)) [] []);generalize x4 den=u at *
 generalize gK (val den)=b at h0 hs;cbv;refine cA hs ?_;cbv;refine zD (fun h=>?_) (fun h=>?_)
 ·cbv;refine cA s210 ?_;cbv
  (refine rC ?_;cbv)
  exact zY (by rw[e1 (h0.1 h)])
 ·cbv
  (refine rC ?_;cbv)
  exact zY (by rw[e2 (fun e=>h (h0.2 e))])
theorem s193 (neg:Bool)(num den:List UInt32)(hn:num.length<2^38)(hd:den.length<2^38)(h0:val den≠0):zG 138 [.bool (fun _=>neg),nat num,nat den] (rv (zJ (mkRat (sgn neg (val num)) (val den)))):=by
 refine sF Tryz.f138 ?_;rw[o8 h0];have hnl:=zS num;have hdl:=zS den;have hg0:Nat.gcd (val num) (val den)≠0:=fun e=>h0 (Nat.eq_zero_of_gcd_eq_zero_right e);have cg:=s225 (zF (val num)) (zF (val den)) oM oM;have cn:=s226 (zF (val num)) (zF (Nat.gcd (val num) (val den))) oM (xJ (kL (zBT (cZ h0) (zBS _ _))) oM) (by rw[zM];exact hg0);have cd:=s226 (zF (val den)) (zF (Nat.gcd (val num) (val den))) oM (xJ (kL (zBT (cZ h0) (zBS _ _))) oM) (by rw[zM];exact hg0);have cu:=s224 (zF (Nat.gcd (val num) (val den))) (xJ (kL (zBT (cZ h0) (zBS _ _))) oM);have cf:=s224 (zF (val den/Nat.gcd (val num) (val den))) (xJ (kL (aW _ _)) oM);have cd1:=s224 (zF (val den)) oM;have cm1:=s223 num oM;have cm2:=s223 den oM;rw[zM,zM] at cg cn cd;have hN:∀ n,((lm (zF n)).length:Int)=0↔n=0:=fun n=>by rw[zH,<-@xX n,<-zIX];omega
 have hge1:Nat.gcd (val num) (val den)=1->val num/Nat.gcd (val num) (val den)=val num/\val den/Nat.gcd (val num) (val den)=val den:=fun e=>by rw[e,pY,pY];exact⟨rfl,rfl⟩
 have hz:val num=0->val num/Nat.gcd (val num) (val den)=0/\val den/Nat.gcd (val num) (val den)=1:=fun e=>by rw[e,Nat.gcd_zero_left,Nat.zero_div,Nat.div_self (cZ h0)];exact⟨rfl,rfl⟩
 have hd1:val den=1->Nat.gcd (val num) (val den)=1:=fun e=>by rw[e,Nat.gcd_one_right]
 generalize val den/Nat.gcd (val num) (val den)=D' at *
 generalize val num/Nat.gcd (val num) (val den)=N' at *
 generalize Nat.gcd (val num) (val den)=g at *
 generalize val num=N at *
 generalize val den=Dn at *
 show wp _ _ (pF _ (.agg [.bool (fun _=>neg&&decide (N≠0)),nat (zF N'),nat (if D'=1 then [] else zF D')]) [] []);generalize hr1:(neg&&decide (N≠0))=r1;generalize hr2:(if D'=1 then [] else zF D')=r2;cbv;refine cA cm1 ?_;cbv;refine zD (fun h=>?_) (fun h=>?_)
 ·have e:=(hN N).1 h;obtain⟨e1,e2⟩:=hz e;cbv
  (refine rC ?_;cbv)
  refine⟨z5 ?_,xB ?_,xB ?_,trivial⟩;{rw[<-hr1,e];simp};{rw[e1,limbs_zero];rfl};{rw[<-hr2,if_pos e2];rfl}
 ·(have e:=fun e=>h ((hN N).2 e);have hr1':neg=r1:=by rw[<-hr1,show decide (N≠0)=true from decide_eq_true e,zMN]);cbv
  refine cA cm2 ?_;cbv;refine cA cd1 ?_;cbv;refine zD (fun h2=>?_) (fun h2=>?_)
  ·have e1:=fX.1 h2;have e3:=hd1 e1;obtain⟨e4,e5⟩:=hge1 e3;cbv
   (refine rC ?_;cbv)
   refine⟨yX hr1',zY (by rw[e4]),xB ?_,trivial⟩;rw[<-hr2,if_pos (by rw[e5,e1])];rfl
  ·cbv;refine cA cg ?_;cbv;refine cA cu ?_;cbv;refine gI (σ:=Unit) (fun _=>⟨[(0,.bool (fun _=>neg)),(1,nat (zF N')),(2,nat (zF D')),(6,.ptr 6 0)],[(6,.box [.ff,.nil,.nil])]⟩) (fun _=>True) (fun h3=>?_) (fun h3=>?_) ?_;{have e3:=fX.1 h3;obtain⟨e4,e5⟩:=hge1 e3;cbv;refine⟨(),trivial,.le ?_ ?_ rfl⟩;{cbv;exact⟨lR,zY (by rw[e4]),zY (by rw[e5]),lR,trivial⟩};{cbv;exact okA}};{cbv;refine cA cn ?_;cbv;refine cA cd ?_;cbv;refine⟨(),trivial,.le ?_ ?_ rfl⟩;{cbv;exact okA};{cbv;exact okA}};intro _ _;cbv;refine cA cf ?_;cbv;refine zD (fun h3=>?_) (fun h3=>?_)
   ·cbv
    (refine rC ?_;cbv)
    exact⟨yX hr1',lR,xB (by rw[<-hr2,if_pos (fX.1 h3)];rfl),trivial⟩
   ·cbv
    (refine rC ?_;cbv)
    exact⟨yX hr1',lR,zY (by rw[<-hr2,if_neg (fun e=>h3 (fX.2 e))]),trivial⟩
theorem s161 (x:R)(hx:x.sz (2^36)):zG 155 [rv x] (rv (zJ x.q)):=by
 refine sF Tryz.f155 ?_;have h1:=hx.n;have h2:=hx.d;have h3:=kY x.den;have cu:=s195 x oM;have cq:=s193 x.neg x.num (x4 x.den) oM oM (by rw[qL];exact x.d_ne);rw[qL] at cq;have e:mkRat (sgn x.neg (val x.num)) x.d=x.q:=rfl;rw[e] at cq;generalize zJ x.q=W at *
 generalize x4 x.den=u at *
 obtain⟨neg,num,den⟩:=x;cbv;refine zT 7 (by cbv) ?_;cbv;refine dA cu ?_;cbv;refine dA cq ?_;cbv
 (refine rC ?_;cbv)
 exact okA
theorem zYU (x:R):x.ok=true↔(x.neg=(zJ x.q).neg/\x.num.length=(zJ x.q).num.length/\x.den.length=(zJ x.q).den.length/\qH (val x.num) (val (zJ x.q).num)=0/\qH (val x.den) (val (zJ x.q).den)=0):=by
 have hc:∀ a b,qH a b=0↔a=b:=fun a b=>by unfold qH;split <;> (try split) <;> omega
 simp only[R.ok,decide_eq_true_eq,hc];constructor;{intro h;rw[<-h];exact⟨rfl,rfl,rfl,rfl,rfl⟩}
 ·rintro⟨h1,h2,h3,h4,h5⟩;have e1:=zCN h2 h4;have e2:=zCN h3 h5;generalize zJ x.q=y at *
  obtain⟨a,b,c⟩:=x;obtain⟨a',b',c'⟩:=y;simp only at h1 e1 e2;rw[h1,e1,e2]
theorem zYT (neg:Bool)(num:List UInt32):R.ok ⟨neg,num,[]⟩=(cO num&&(!neg || decide (0<num.length))):=by
 have hq:R.q ⟨neg,num,[]⟩=mkRat (sgn neg (val num)) 1:=rfl;have hp:=o8 (neg:=neg) (n:=val num) (d:=1) (by decide);rw[aZ];simp only[R.ok,decide_eq_true_eq,hq,hp,Nat.gcd_one_right,pY,if_true,R.mk.injEq,and_true,y9,alT1,zLH];have hlen:0<num.length↔num≠[]:=by rw[<-List.length_pos_iff]
 constructor
 ·(rintro⟨h1,h2⟩;have hcn:cO num=true:=by rw[h2];exact sI _);refine⟨hcn,?_⟩
  cases neg with
  |false=>exact .inl rfl
  |true =>
   right;rw[hlen];intro e;rw[e] at h1;simp[val] at h1
 ·rintro⟨h1,h2⟩;refine⟨?_,(nK h1).symm⟩;cases neg with
  |false=>rfl| true =>
   have:=hlen.1 (h2.resolve_left (by decide));have:=zG3 h1 this;simp;omega
theorem s103 (x:R)(hx:x.sz (2^36)):zG 126 [rv x] (.bool (fun _=>x.ok)):=by
 refine sF Tryz.f126 ?_;have h1:=hx.n;have h2:=hx.d;have hok:=zYU x;have hnil:x.den.length=0->x.ok=(cO x.num&&(!x.neg || decide (0<x.num.length))):=by intro h;obtain⟨a,b,c⟩:=x;have:c=[]:=jS h;subst this;exact zYT a b
 have cc:=s161 x hx;have cv:=s160 x.num oM;have hf:Fits (2^36) x.q:=hx.fits (by decide);have hl1:=hf.lnum;have hl2:=hf.lden;have cm1:=s162 x.num (zJ x.q).num oM oM;have cm2:=s162 x.den (zJ x.q).den oM oM;generalize hO:x.ok=O at *
 generalize zJ x.q=W at *
 clear hf;obtain⟨neg,num,den⟩:=x;obtain⟨neg',num',den'⟩:=W;simp only at *
 generalize qH (val num) (val num')=c1 at *
 generalize qH (val den) (val den')=c2 at *
 cbv;refine zD (fun h=>?_) (fun h=>?_)
 ·have e:=hnil om;cbv;refine cA cv ?_;generalize cO num=cn at *
  cbv;refine xK (fun h3=>?_) (fun h3=>?_)
  ·subst h3;cbv;refine xK (fun h4=>?_) (fun h4=>?_)
   ·subst h4;cbv
    (refine rC ?_;cbv)
    exact yX (by rw[e];simp[zH])
   ·subst h4;cbv
    (refine rC ?_;cbv)
    exact xQ (by rw[e];rfl)
  ·subst h3;cbv
   (refine rC ?_;cbv)
   exact z5 (by rw[e];rfl)
 ·(cbv;refine cA cc ?_;cbv;have hno:∀ P:Prop,¬P->(O=true->P)->O=false:=fun P h h'=>by cases O;rfl;exact absurd (h' rfl) h);refine yD (fun h3=>?_) (fun h3=>?_)
  ·cbv;refine yD (fun h4=>?_) (fun h4=>?_)
   ·cbv;refine yD (fun h5=>?_) (fun h5=>?_)
    ·cbv;refine cA cm1 ?_;cbv;refine yD (fun h6=>?_) (fun h6=>?_)
     ·cbv;refine cA cm2 ?_;cbv
      (refine rC ?_;cbv)
      refine yX ?_;rw[aZ,hok,decide_eq_true_eq]
      (try dsimp only [zI] at *)
      simp only[zH] at h4 h5;exact⟨fun h7=>⟨h3,by omega,by omega,h6,h7⟩,fun h7=>h7.2.2.2.2⟩
     ·cbv
      (refine rC ?_;cbv)
      exact z5 (hno _ h6 fun h7=>(hok.1 h7).2.2.2.1)
    ·cbv
     (refine rC ?_;cbv)
     refine z5 (hno _ h5 fun h7=>?_);have:=(hok.1 h7).2.2.1
     (try dsimp only [zI] at *)
     simp only[zH];omega
   ·cbv
    (refine rC ?_;cbv)
    refine z5 (hno _ h4 fun h7=>?_);have:=(hok.1 h7).2.1
    (try dsimp only [zI] at *)
    simp only[zH];omega
  ·cbv
   (refine rC ?_;cbv)
   exact z5 (hno _ h3 fun h7=>(hok.1 h7).1)
theorem s163 (x:Z)(hx:x.mag.length<2^38):zG 99 [zv x] (rv (zJ (x.v:Rat))):=by
 refine sF Tryz.f99 ?_;have cq:=s193 x.neg x.mag [1] hx (by simp) (by decide);have e:mkRat (sgn x.neg (val x.mag)) (val [1])=(x.v:Rat):=by have:=Rat.mkRat_self (x.v:Rat);rw[Rat.num_intCast,Rat.den_intCast] at this;exact this
 rw[e] at cq;generalize zJ (x.v:Rat)=W at *
 obtain⟨neg,mag⟩:=x;cbv;refine zT 6 (by cbv) ?_;cbv;refine dA s210 ?_;cbv;refine dA cq ?_;cbv
 (refine rC ?_;cbv)
 exact okA
theorem zD0 (x:Int)(h1:-9223372036854775808<=x)(h2:x<9223372036854775808):(wA x).mag.length<=2:=by
 refine z7 ?_;have:B^2=18446744073709551616:=by decide
 omega
theorem s104 (x:Int)(h1:-9223372036854775808<=x)(h2:x<9223372036854775808):zG 54 [.int .i64 (fun _=>x)] (rv (zJ (x:Rat))):=by
 refine sF Tryz.f54 ?_;have c1:=s164 x h1 h2;have hl:=zD0 x h1 h2;have c2:=s163 (wA x) oM;rw[dP] at c2;generalize zJ (x:Rat)=W at *
 generalize wA x=y at *
 cbv;refine cA c1 ?_;cbv;refine cA c2 ?_;cbv
 (refine rC ?_;cbv)
 exact okA
theorem s147 (x:R)(hx:x.num.length<2^40):zG 97 [rv x] (zv (wA x.n)):=by
 refine sF Tryz.f97 ?_;have c1:=s203 x.neg x.num hx;have e:sgn x.neg (val x.num)=x.n:=rfl;rw[e] at c1;generalize wA x.n=W at *
 obtain⟨neg,num,den⟩:=x;cbv;refine cA c1 ?_;cbv
 (refine rC ?_;cbv)
 exact okA
theorem zUA (x:R):(wA x.n).mag.length<=x.num.length:=by refine z7 ?_;rw[R.n,u6];exact xZ _
theorem s86 (x:R)(hx:x.num.length<2^40):zG 50 [rv x] (.int .i64 (fun _=>xF x.q)):=by
 refine sF Tryz.f50 ?_;have c1:=s147 x hx;have hl:=zUA x;have c2:=s146 (wA x.n) oM;rw[dP,<-zS0] at c2;generalize xF x.q=s at *
 generalize wA x.n=W at *
 obtain⟨neg,num,den⟩:=x;cbv;refine cA c1 ?_;cbv;refine cA c2 ?_;cbv
 (refine rC ?_;cbv)
 exact lR
theorem s191 (x y:R)(hx:x.sz (2^34))(hy:y.sz (2^34)):zG 132 [rv x,rv y] (.tup [zv (wA (x.n*y.d)),zv (wA (y.n*x.d))]):=by
 refine sF Tryz.f132 ?_;have h1:=hx.n;have h2:=hx.d;have h3:=hy.n;have h4:=hy.d;have h5:=kY x.den;have h6:=kY y.den;have h7:=zUA x;have h8:=zUA y;have cux:=s195 x oM;have cuy:=s195 y oM;have csx:=s147 x oM;have csy:=s147 y oM;have cm1:=s220 (wA x.n) ⟨false,x4 y.den⟩ oM (show (x4 y.den).length<_ by omega);have cm2:=s220 (wA y.n) ⟨false,x4 x.den⟩ oM (show (x4 x.den).length<_ by omega);have e1:Z.v ⟨false,x4 y.den⟩=(y.d:Int):=by rw[<-qL];rfl
 have e2:Z.v ⟨false,x4 x.den⟩=(x.d:Int):=by rw[<-qL];rfl
 rw[dP,e1] at cm1;rw[dP,e2] at cm2;generalize wA (x.n*(y.d:Int))=W1 at *
 generalize wA (y.n*(x.d:Int))=W2 at *
 generalize wA x.n=X at *
 generalize wA y.n=Y at *
 generalize x4 x.den=ux at *
 generalize x4 y.den=uy at *
 obtain⟨a,b,c⟩:=x;obtain⟨a',b',c'⟩:=y;cbv;refine zT 4 (by cbv) ?_;cbv;refine dA cux ?_;cbv;refine dA cuy ?_;cbv;refine zT 10 (by cbv) ?_;cbv;refine dA csx ?_;cbv;refine dA cm1 ?_;cbv;refine dA csy ?_;cbv;refine dA cm2 ?_;cbv
 (refine rC ?_;cbv)
 exact okA
theorem nS (x y:R)(hx:x.sz (2^34))(hy:y.sz (2^34)):(wA (x.n*(y.d:Int))).mag.length<=2^36:=by have h1:=hx.n;have h4:=hy.d;have h6:=kY y.den;refine vS (z7 (k:=x.num.length+(x4 y.den).length) ?_) oM;rw[zBR,R.n,u6,zFG,<-qL];exact gZ (xZ _) (xZ _)
theorem s165 (x y:R)(hx:x.sz (2^34))(hy:y.sz (2^34)):zG 88 [rv x,rv y] (.int .i64 (fun _=>gJ x.q y.q)):=by
 refine sF Tryz.f88 ?_;have h1:=hx.n;have h3:=hy.n;have h5:=nS x y hx hy;have h6:=nS y x hy hx;have cx:=s86 x oM;have cy:=s86 y oM;have cc:=s191 x y hx hy;have ci:=s212 _ _ (xJ h5 oM) (xJ h6 oM);rw[dP,dP,<-zZF] at ci;have k1:xF x.q<xF y.q->gJ x.q y.q=-1:=by
  (intro h;have:x.q<y.q:=by unfold xF at h;grind);simp[gJ,this]
 have k2:xF y.q<xF x.q->gJ x.q y.q=1:=by
  (intro h;have h7:y.q<x.q:=by unfold xF at h;grind);have h8:¬x.q<y.q:=by grind
  simp[gJ,h7,h8]
 generalize gJ x.q y.q=C at *
 generalize xF x.q=s at *
 generalize xF y.q=t at *
 generalize wA (x.n*(y.d:Int))=W1 at *
 generalize wA (y.n*(x.d:Int))=W2 at *
 obtain⟨a,b,c⟩:=x;obtain⟨a',b',c'⟩:=y;obtain⟨p1,p2⟩:=W1;obtain⟨q1,q2⟩:=W2;cbv;refine zT 4 (by cbv) ?_;cbv;refine dA cx ?_;cbv;refine dA cy ?_;cbv;refine zD (fun h=>?_) (fun h=>?_)
 ·cbv;refine cA cc ?_;cbv;refine cA ci ?_;cbv
  (refine rC ?_;cbv)
  exact lR
 ·cbv;refine zD (fun h'=>?_) (fun h'=>?_)
  ·cbv
   (refine rC ?_;cbv)
   exact zE (k1 h').symm
  ·cbv
   (refine rC ?_;cbv)
   exact zE (k2 oM).symm
theorem s138 (x y:R)(hx:x.sz (2^34))(hy:y.sz (2^34)):zG 157 [rv x,rv y] (rv (zJ (x.q+y.q))):=by
 refine sF Tryz.f157 ?_;have h1:=hx.n;have h2:=hx.d;have h3:=hy.n;have h4:=hy.d;have h5:=nS x y hx hy;have h6:=nS y x hy hx;have h7:=kY x.den;have h8:=kY y.den;have cc:=s191 x y hx hy;have ca:=s192 _ _ (xJ h5 oM) (xJ h6 oM);rw[dP,dP] at ca;have cux:=s195 x oM;have cuy:=s195 y oM;have cm:=s194 (x4 x.den) (x4 y.den) oM oM;have hml:=fY (x4 x.den) (x4 y.den);rw[qL,qL] at cm hml;have hsl:(wA (x.n*(y.d:Int)+y.n*(x.d:Int))).mag.length<2^38:=by
  (obtain⟨k,hk⟩:∃ k,k=68719476736:=⟨_,rfl⟩;have h5':(wA (x.n*(y.d:Int))).mag.length<=k:=by rw[hk];exact h5);have h6':(wA (y.n*(x.d:Int))).mag.length<=k:=by rw[hk];exact h6
  (have e1:(x.n*(y.d:Int)).natAbs<B^k:=by have:=xZ (wA (x.n*(y.d:Int))).mag;rw[show val (wA (x.n*(y.d:Int))).mag=(x.n*(y.d:Int)).natAbs from zM _] at this;exact gN this (gA wI h5'));have e2:(y.n*(x.d:Int)).natAbs<B^k:=by have:=xZ (wA (y.n*(x.d:Int))).mag;rw[show val (wA (y.n*(x.d:Int))).mag=(y.n*(x.d:Int)).natAbs from zM _] at this;exact gN this (gA wI h6')
  have e3:=Int.natAbs_add_le (x.n*(y.d:Int)) (y.n*(x.d:Int));have e4:B^k*2<=B^k*B:=wW _ (by decide);have e5:(zF (x.n*(y.d:Int)+y.n*(x.d:Int)).natAbs).length<=k+1:=z7 (by rw[xS B k];generalize B^k=P at *;omega);show (zF (x.n*(y.d:Int)+y.n*(x.d:Int)).natAbs).length<2^38;omega
 have cq:=s193 (wA (x.n*(y.d:Int)+y.n*(x.d:Int))).neg (wA (x.n*(y.d:Int)+y.n*(x.d:Int))).mag (zF (x.d*y.d)) hsl oM (by rw[zM];exact zFF x.d_ne y.d_ne);have e6:sgn (wA (x.n*(y.d:Int)+y.n*(x.d:Int))).neg (val (wA (x.n*(y.d:Int)+y.n*(x.d:Int))).mag)=x.n*(y.d:Int)+y.n*(x.d:Int):=dP _;rw[e6,zM,<-zT9] at cq;clear e6 hsl hml h5 h6;generalize zJ (x.q+y.q)=W at *
 generalize zF (x.d*y.d)=M at *
 generalize wA (x.n*(y.d:Int)+y.n*(x.d:Int))=S at *
 generalize wA (x.n*(y.d:Int))=W1 at *
 generalize wA (y.n*(x.d:Int))=W2 at *
 generalize x4 x.den=ux at *
 generalize x4 y.den=uy at *
 obtain⟨a,b,c⟩:=x;obtain⟨a',b',c'⟩:=y;obtain⟨p1,p2⟩:=W1;obtain⟨q1,q2⟩:=W2;obtain⟨s1,s2⟩:=S;cbv;refine cA cc ?_;cbv;refine cA ca ?_;cbv;refine zT 10 (by cbv) ?_;cbv;refine dA cux ?_;cbv;refine dA cuy ?_;cbv;refine dA cm ?_;cbv;refine dA cq ?_;cbv
 (refine rC ?_;cbv)
 exact okA
theorem s199 (x y:R)(hx:x.sz (2^34))(hy:y.sz (2^34)):zG 98 [rv x,rv y] (rv (zJ (x.q*y.q))):=by
 refine sF Tryz.f98 ?_;have h1:=hx.n;have h2:=hx.d;have h3:=hy.n;have h4:=hy.d;have h7:=kY x.den;have h8:=kY y.den;have cux:=s195 x oM;have cuy:=s195 y oM;have cm:=s194 (x4 x.den) (x4 y.den) oM oM;have hml:=fY (x4 x.den) (x4 y.den);rw[qL,qL] at cm hml;have cn:=s194 x.num y.num oM oM;have hnl:=fY x.num y.num;have cq:=s193 (x.neg != y.neg) (zF (val x.num*val y.num)) (zF (x.d*y.d)) oM oM (by rw[zM];exact zFF x.d_ne y.d_ne);rw[zM,zM,<-zG7] at cq;have e:mkRat (sgn x.neg (val x.num)*sgn y.neg (val y.num)) (x.d*y.d)=x.q*y.q:=(zW1 x y).symm;rw[e] at cq;have hb:(x.neg != y.neg)=!decide (x.neg=y.neg):=by cases x.neg <;> cases y.neg <;> rfl
 clear hml hnl e;generalize zJ (x.q*y.q)=W at *
 generalize zF (x.d*y.d)=M at *
 generalize zF (val x.num*val y.num)=P at *
 generalize x4 x.den=ux at *
 generalize x4 y.den=uy at *
 obtain⟨a,b,c⟩:=x;obtain⟨a',b',c'⟩:=y;simp only at *
 generalize (a != a')=nb at *
 cbv;refine zT 16 (by cbv) ?_;cbv;refine dA cn ?_;cbv;refine dA cux ?_;cbv;refine dA cuy ?_;cbv;refine dA cm ?_;cbv;refine bJ (by exact⟨jZ hb,lR,lR,trivial⟩) cq rfl ?_;cbv
 (refine rC ?_;cbv)
 exact okA
def maxQ (a b:Rat):Rat:=if a<b then b else a
end Go.Proofs.YtfainocfaddbdaaGreat
