/- A part of the proof: NtJ, PnC, IgA, RqA. -/
import Derived.Test.YtfainocfaddbdaaGreatT19
import Derived.Test.YtfainocfaddbdaaGreatT16
set_option linter.all false
namespace Go.Proofs.YtfainocfaddbdaaGreat
open Go
set_option maxRecDepth 100000
theorem v4 {n m:Nat}(h:n<=m):(zD n).length<=(zD m).length:=by rcases Nat.lt_or_ge (zD m).length (zD n).length with h1|h1;{have:=p9 h1;omega};{exact h1}
theorem s225 (a b:List UInt32)(ha:a.length<2^39)(hb:b.length<2^39):zM 164 [nat a,nat b] (nat (zD (Nat.gcd (val a) (val b)))):=by
 refine sF Tryz.f164 ?_;have ha':=Nat.lt_of_le_of_lt (zT a) ha;have hb':=Nat.lt_of_le_of_lt (zT b) hb;have hBB:B*B=18446744073709551616:=by decide
 generalize hg:Nat.gcd (val a) (val b)=g;cbv;refine cA (jT a (by omega)) ?_;cbv;refine cA (jT b (by omega)) ?_;cbv;refine yB (σ:=Nat×Nat) (fun z=>⟨[(0,nat (zD z.1)),(1,nat (zD z.2))],[]⟩) (fun z=>(zD z.1).length<2^39/\(zD z.2).length<2^39/\Nat.gcd z.1 z.2=g) (fun z=>z.2) (val a,val b) ⟨ha',hb',hg⟩ (.le ?_ trivial rfl) ?_;{cbv;exact okA};intro z hz;obtain⟨h1,h2,h3⟩:=hz;generalize z.1=x at *
 generalize z.2=y at *
 cbv;refine zF (fun h4=>?_) (fun h4=>?_)
 ·(cbv;have hy:y≠0:=fun e=>by subst e;(try dsimp only [zJ] at *);simp[lm,z6] at h4);refine cA (s226 (zD x) (zD y) h1 h2 (by rw[zK];exact hy)) ?_
  cbv;have hm:=Nat.mod_lt x (Nat.pos_of_ne_zero hy);refine⟨(y,x%y),⟨h2,Nat.lt_of_le_of_lt (v4 (Nat.le_of_lt hm)) h2,by rw[Nat.gcd_comm,<-Nat.gcd_rec,Nat.gcd_comm];exact h3⟩,hm,.le ?_ trivial rfl⟩;cbv;exact⟨lR,zX (by rw[zK,zK]),trivial⟩
 ·have hy2:y<B*B:=len2.1 (by (try dsimp only [zJ] at *);rw[zG] at h4;omega);cbv;refine zF (fun h5=>?_) (fun h5=>?_);{have hy:y=0:=xI.1 (List.eq_nil_of_length_eq_zero (by (try dsimp only [zJ] at *);rw[zG] at h5;omega));subst hy;cbv;refine cA (s223 (zD x) (by omega)) ?_;cbv;refine uI rfl (zX ?_) rfl;rw[zK,<-h3,Nat.gcd_zero_right]}
  ·have hy:y≠0:=fun e=>h5 (by subst e;simp[lm,z6]);have hm:=Nat.mod_lt x (Nat.pos_of_ne_zero hy);cbv;refine cA (s226 (zD x) (zD y) h1 h2 (by rw[zK];exact hy)) ?_;rw[zK,zK];cbv;refine cA (s231 (zD y) (by omega)) ?_;rw[zK,if_pos hy2];cbv;refine cA (s231 (zD (x%y)) (Nat.lt_of_le_of_lt (v4 (Nat.le_of_lt hm)) (by omega))) ?_;rw[zK,if_pos (by omega)];cbv;refine yB (σ:=Nat×Nat) (fun z=>⟨[(11,.int .u64 (fun _=>(z.1:Int))),(13,.int .u64 (fun _=>(z.2:Int)))],[]⟩) (fun z=>z.1<B*B/\z.2<B*B/\Nat.gcd z.1 z.2=g) (fun z=>z.2) (y,x%y) ⟨hy2,by omega,by rw[Nat.gcd_comm,<-Nat.gcd_rec,Nat.gcd_comm];exact h3⟩ (.le ?_ trivial rfl) ?_;{cbv;exact okA};clear hm hy h3 h4 h5 h1 h2 hy2;intro z hz;obtain⟨h1,h2,h3⟩:=hz;generalize z.1=x at *
   generalize z.2=y at *
   cbv;refine zF (fun h4=>?_) (fun h4=>?_);{have hy:0<y:=om;have hm:=Nat.mod_lt x hy;cbv;refine zZ 5 (by cbv) ?_;cbv;refine⟨v9 om,(y,x%y),⟨h2,by omega,by rw[Nat.gcd_comm,<-Nat.gcd_rec,Nat.gcd_comm];exact h3⟩,hm,.le ?_ trivial rfl⟩;cbv;exact⟨lR,zC kV,trivial⟩};{have hy:y=0:=om;subst hy;cbv;refine cA (s211 x h1) ?_;cbv;refine uI rfl (zX ?_) rfl;rw[<-h3,Nat.gcd_zero_right]}
end Go.Proofs.YtfainocfaddbdaaGreat
namespace Go.Proofs.YtfainocfaddbdaaGreat
structure R where
 neg:Bool
 num:List UInt32
 den:List UInt32
deriving DecidableEq
def sgn (b:Bool) (n:Nat):Int:=if b then -(n:Int) else n
theorem vC (b:Bool)(n:Nat):(sgn b n).natAbs=n:=by cases b <;> simp[sgn]
theorem zCF (b:Bool):sgn b 0=0:=by cases b <;> rfl
theorem zBY {b:Bool}{n:Nat}:sgn b n<0↔(b=true/\n≠0):=by cases b <;> simp[sgn] <;> omega
theorem lC (z:Int):sgn (decide (z<0)) z.natAbs=z:=by by_cases h:z<0 <;> simp[sgn,h] <;> omega
theorem zFF (a b:Bool)(n m:Nat):sgn a n*sgn b m=sgn (a != b) (n*m):=by cases a <;> cases b <;> simp[sgn,Int.neg_mul,Int.mul_neg]
theorem mO (a:Bool)(n m:Nat):sgn a n*(m:Int)=sgn a (n*m):=by cases a <;> simp[sgn,Int.neg_mul]
theorem zFE (a:Bool)(n:Nat):sgn (!a) n=- sgn a n:=by cases a <;> simp[sgn]
def R.n (x:R):Int:=sgn x.neg (val x.num)
def R.d (x:R):Nat:=if val x.den=0 then 1 else val x.den
def R.q (x:R):Rat:=mkRat x.n x.d
theorem R.d_ne (x:R):x.d≠0:=by unfold R.d;split <;> omega
def zS (q:Rat):R:=⟨decide (q.num<0),zD q.num.natAbs,if q.den=1 then [] else zD q.den⟩
theorem zNT (q:Rat):(zS q).n=q.num:=by simp only[R.n,zS,zK];exact lC _
theorem zN8 (q:Rat):(zS q).d=q.den:=by have:=q.den_pos;unfold R.d zS;by_cases h:q.den=1;{simp[h,val]};{simp only[h,if_false,zK];split <;> omega}
theorem xF (q:Rat):(zS q).q=q:=by rw[R.q,zNT,zN8];exact Rat.mkRat_self q
theorem zFO {neg:Bool}{n d:Nat}(hd:d≠0):(mkRat (sgn neg n) d).num=sgn neg (n/Nat.gcd n d):=by rw[Rat.num_mkRat,if_neg hd,vC,Nat.gcd_comm];have hg:((Nat.gcd n d:Nat):Int) ∣ (n:Int):=Int.natCast_dvd_natCast.2 (Nat.gcd_dvd_left n d);cases neg;{simp only[sgn];rfl};{simp only[sgn];show (-(n:Int))/((Nat.gcd n d:Nat):Int)=- ((n/Nat.gcd n d:Nat):Int);rw[Int.neg_ediv_of_dvd hg];rfl}
theorem zFP {neg:Bool}{n d:Nat}(hd:d≠0):(mkRat (sgn neg n) d).den=d/Nat.gcd n d:=by rw[Rat.den_mkRat,if_neg hd,vC,Nat.gcd_comm]
theorem tP {neg:Bool}{n d:Nat}(hd:d≠0):zS (mkRat (sgn neg n) d)=⟨neg&&decide (n≠0),zD (n/Nat.gcd n d),if d/Nat.gcd n d=1 then [] else zD (d/Nat.gcd n d)⟩:=by
 rw[zS,zFO hd,zFP hd,vC];congr 1;rw[Bool.eq_iff_iff];have hg:0<Nat.gcd n d:=Nat.gcd_pos_of_pos_right n (Nat.pos_of_ne_zero hd);have h1:n/Nat.gcd n d=0↔n=0:=by rw[Nat.div_eq_zero_iff_lt hg];constructor;{intro h;rcases Nat.eq_zero_or_pos n with h0|h0;{exact h0};{have:=Nat.gcd_le_left d h0;omega}};{intro h;omega}
 simp only[decide_eq_true_eq,Bool.and_eq_true,zBY,ne_eq,h1]
theorem zKD (a b:R):a.q+b.q=mkRat (a.n*b.d+b.n*a.d) (a.d*b.d):=Rat.mkRat_add_mkRat _ _ a.d_ne b.d_ne
theorem zO2 (a b:R):a.q*b.q=mkRat (a.n*b.n) (a.d*b.d):=Rat.mkRat_mul_mkRat _ _ _ _
theorem zKC (a:R):(⟨!a.neg,a.num,a.den⟩:R).q=- a.q:=by simp only[R.q,R.n,R.d,zFE,Rat.neg_mkRat]
theorem pC {n:Int}{d:Nat}(hd:d≠0):0<=mkRat n d↔0<=n:=by rw[<-Rat.divInt_ofNat];exact Rat.divInt_nonneg_iff_of_pos_right (by omega)
theorem zO0 (a b:R):a.q-b.q=mkRat (a.n*b.d-b.n*a.d) (a.d*b.d):=by rw[Rat.sub_eq_add_neg,<-zKC,zKD];simp only[R.n,R.d,zFE,Int.neg_mul,Int.sub_eq_add_neg]
theorem q_le (a b:R):a.q<=b.q↔a.n*b.d<=b.n*a.d:=by rw[Rat.le_iff_sub_nonneg,zO0,pC (Nat.mul_ne_zero b.d_ne a.d_ne)];omega
theorem q_lt (a b:R):a.q<b.q↔a.n*b.d<b.n*a.d:=by rw[<-Rat.not_le,q_le];omega
theorem zG6 (a:R):a.q=0↔a.n=0:=Rat.mkRat_eq_zero a.d_ne
theorem zCO (a:R):0<=a.q↔0<=a.n:=pC a.d_ne
theorem zG5 (a:R):a.q<0↔a.n<0:=by rw[<-Rat.not_le,zCO];omega
theorem zO1 (a:R):0<a.q↔0<a.n:=by have h1:=zCO a;have h2:=zG6 a;rw[Rat.lt_iff_le_and_ne];constructor;{rintro⟨h,h'⟩;have:=h1.1 h;have:a.n≠0:=fun e=>h' (h2.2 e).symm;omega};{intro h;exact⟨h1.2 (by omega),fun e=>by have:=h2.1 e.symm;omega⟩}
def xJ (q:Rat):Int:=if q<0 then -1 else if 0<q then 1 else 0
def fS (a b:Rat):Int:=if a<b then -1 else if b<a then 1 else 0
def uS (z:Int):Int:=if z<0 then -1 else if 0<z then 1 else 0
def nB (a b:Int):Int:=if a<b then -1 else if b<a then 1 else 0
theorem zJH (a:R):xJ a.q=uS a.n:=by simp only[xJ,uS,zG5,zO1]
theorem zN9 (a b:R):fS a.q b.q=nB (a.n*b.d) (b.n*a.d):=by simp only[fS,nB,q_lt]
structure Fits (k:Nat) (q:Rat):Prop where
 num:q.num.natAbs<B^k
 den:q.den<B^k
theorem Fits.mono {k m:Nat}{q:Rat}(h:Fits k q)(hm:k<=m):Fits m q :=
 ⟨Nat.lt_of_lt_of_le h.num (Nat.pow_le_pow_right xN hm),Nat.lt_of_lt_of_le h.den (Nat.pow_le_pow_right xN hm)⟩
theorem s8 {k:Nat}{n:Int}{d:Nat}(hn:n.natAbs<B^k)(hd:d<B^k)(h0:d≠0):Fits k (mkRat n d):=by have hs:n=sgn (decide (n<0)) n.natAbs:=(lC n).symm;rw[hs];refine⟨?_,?_⟩;{rw[zFO h0,vC];exact Nat.lt_of_le_of_lt (Nat.div_le_self _ _) hn};{rw[zFP h0];exact Nat.lt_of_le_of_lt (Nat.div_le_self _ _) hd}
theorem zN0 {k:Nat}{x:R}(h1:x.num.length<=k)(h2:x.den.length<=k)(hk:1<=k):Fits k x.q:=by refine s8 ?_ ?_ x.d_ne;{rw[R.n,vC];exact Nat.lt_of_lt_of_le (xE _) (Nat.pow_le_pow_right xN h1)};{unfold R.d;split;{exact Nat.lt_of_lt_of_le (show 1<B^1 by decide) (Nat.pow_le_pow_right xN hk)};{exact Nat.lt_of_lt_of_le (xE _) (Nat.pow_le_pow_right xN h2)}}
theorem Fits.lnum {k:Nat}{q:Rat}(h:Fits k q):(zS q).num.length<=k:=z4 h.num
theorem Fits.lden {k:Nat}{q:Rat}(h:Fits k q):(zS q).den.length<=k:=by unfold zS;by_cases h1:q.den=1;{simp[h1]};{simp only[h1,if_false];exact z4 h.den}
theorem kD {a b k m:Nat}(ha:a<B^k)(hb:b<B^m):a*b<B^(k+m):=by rw[Nat.pow_add];exact Nat.mul_lt_mul'' ha hb
theorem pT {k m:Nat}{a b:Rat}(ha:Fits k a)(hb:Fits m b):Fits (k+m) (a*b):=by rw[Rat.mul_def'];refine s8 ?_ (kD ha.den hb.den) (Nat.mul_ne_zero a.den_nz b.den_nz);rw[Int.natAbs_mul];exact kD ha.num hb.num
theorem pU {k m:Nat}{a b:Rat}(ha:Fits k a)(hb:Fits m b):Fits (k+m+1) (a+b):=by rw[Rat.add_def'];have h1:=kD ha.num hb.den;have h2:=kD hb.num ha.den;rw[Nat.add_comm m k] at h2;have h3:B^(k+m+1)=B^(k+m)*B:=Nat.pow_succ _ _;have hd:=kD ha.den hb.den;have h5:B^(k+m)*2<=B^(k+m)*B:=Nat.mul_le_mul_left _ (by decide);refine s8 ?_ ?_ (Nat.mul_ne_zero a.den_nz b.den_nz);{have h4:=Int.natAbs_add_le (a.num*b.den) (b.num*a.den);rw[Int.natAbs_mul,Int.natAbs_mul,Int.natAbs_natCast,Int.natAbs_natCast] at h4;rw[h3];omega};{rw[h3];omega}
theorem bX {k:Nat}{a:Rat}(ha:Fits k a):Fits k (-a):=⟨by rw[Rat.neg_num,Int.natAbs_neg];exact ha.num,by rw[Rat.neg_den];exact ha.den⟩
theorem zIV {k m:Nat}{a b:Rat}(ha:Fits k a)(hb:Fits m b):Fits (k+m+1) (a-b):=by rw[Rat.sub_eq_add_neg];exact pU ha (bX hb)
theorem w6 {k:Nat}(hk:1<=k):Fits k 0 :=
 ⟨by simp;exact Nat.pow_pos xN,by simp;exact Nat.lt_of_lt_of_le (show 1<B^1 by decide) (Nat.pow_le_pow_right xN hk)⟩
theorem iT {k:Nat}{z:Int}(h:z.natAbs<B^k)(hk:1<=k):Fits k (z:Rat) :=
 ⟨by simpa using h,by simp;exact Nat.lt_of_lt_of_le (show 1<B^1 by decide) (Nat.pow_le_pow_right xN hk)⟩
theorem zIW {k:Nat}{a:Rat}(ha:Fits k a):Fits k a⁻¹:=by
 refine⟨?_,?_⟩
 ·(rw[Rat.num_inv,Int.natAbs_mul];have h1:a.num.sign.natAbs<=1:=by rw[Int.natAbs_sign];split <;> omega);have h2:=ha.den
  have:=Nat.mul_le_mul_right ((a.den:Int).natAbs) h1;rw[Int.natAbs_natCast] at *
  omega
 {rw[Rat.den_inv];split;{have:=ha.den;have:=a.den_pos;omega};{exact ha.num}}
def R.ok (x:R):Bool:=decide (x=zS x.q)
theorem zFR (q:Rat):(zS q).ok=true:=by simp[R.ok,xF]
end Go.Proofs.YtfainocfaddbdaaGreat
namespace Go.Proofs.YtfainocfaddbdaaGreat
open Go
set_option maxRecDepth 100000
theorem cT {nb:Bool}{objs:List (Nat×Obj')}{f:FuncId}{args args':List PV}{K:PV->Prop}{r:PV}(h2:kP les args args')(h3:zM f args' r)(h5:nmIn [] r=true)(h4:K r):CallS nb objs f args K:=⟨.inl ⟨args',r,cL h2,h3,h5,h4⟩⟩
theorem dA {nb:Bool}{objs:List (Nat×Obj')}{f:FuncId}{args args':List PV}{K:PV->Prop}{r:PV}(h3:zM f args' r)(h4:K r)(h2:kP les args args':=by exact okA)(h5:nmIn [] r=true:=by exact rfl):CallS nb objs f args K:=cT h2 h3 h5 h4
theorem gB (a b:List UInt32):(zD (val a*val b)).length<=a.length+b.length:=z4 (kD (xE a) (xE b))
theorem zF0 (a b:List UInt32):(zD (val a+val b)).length<=a.length+b.length+1:=by refine z4 ?_;have h1:=Nat.lt_of_lt_of_le (xE a) (Nat.pow_le_pow_right xN (Nat.le_add_right a.length b.length));have h2:=Nat.lt_of_lt_of_le (xE b) (Nat.pow_le_pow_right xN (Nat.le_add_left b.length a.length));have h3:B^(a.length+b.length)*2<=B^(a.length+b.length)*B:=Nat.mul_le_mul_left _ (by decide);rw[Nat.pow_succ];omega
theorem nK (a b:List UInt32):(zD (val a-val b)).length<=a.length:=z4 (Nat.lt_of_le_of_lt (Nat.sub_le _ _) (xE a))
structure Z where
 neg:Bool
 mag:List UInt32
def Z.v (x:Z):Int:=sgn x.neg (val x.mag)
def xH (z:Int):Z:=⟨decide (z<0),zD z.natAbs⟩
theorem k9 (z:Int):(xH z).v=z:=by simp only[Z.v,xH,zK];exact lC z
abbrev zv (x:Z):PV:=.agg [.bool (fun _=>x.neg),nat x.mag]
theorem zC1 (neg:Bool)(n:Nat):xH (sgn neg n)=⟨neg&&decide (n≠0),zD n⟩:=by simp only[xH,vC];congr 1;rw[Bool.eq_iff_iff];simp only[decide_eq_true_eq,zBY,Bool.and_eq_true]
theorem zJG {b:Bool}{n:Nat}(h:¬sgn b n<0):sgn b n=(n:Int):=by cases b;{rfl};{simp only[sgn,if_true] at h ⊢;omega}
theorem s203 (neg:Bool)(m:List UInt32)(hm:m.length<2^40):zM 137 [.bool (fun _=>neg),nat m] (zv (xH (sgn neg (val m)))):=by
 refine sF Tryz.f137 ?_;rw[zC1];cbv;refine cA (s223 m hm) ?_;cbv;refine vA (fun h=>?_) (fun h=>?_)
 ·subst h;cbv
  (refine rC ?_;cbv)
  refine⟨zI ?_,lR,trivial⟩;rw[Bool.eq_iff_iff];simp only[decide_eq_true_eq,zG,Bool.true_and];rw[<-@xI (val m),<-List.length_eq_zero_iff]
  (try dsimp only [zJ] at *)
  omega
 ·subst h;cbv
  (refine rC ?_;cbv)
  exact okA
theorem s164 (x:Int)(h1:-9223372036854775808<=x)(h2:x<9223372036854775808):zM 100 [.int .i64 (fun _=>x)] (zv (xH x)):=by
 refine sF Tryz.f100 ?_;have hBB:B*B=18446744073709551616:=by decide
 have e:zv (xH x)=.agg [.bool (fun _=>decide (x<0)),nat (zD x.natAbs)]:=rfl;rw[e];cbv;refine zF (fun h=>?_) (fun h=>?_)
 ·(have e1:nx .u64 (0-nx .u64 x)=((x.natAbs:Nat):Int):=by simp only[wT];omega);generalize hn:x.natAbs=n at *
  cbv;refine wA rfl (by exact⟨zC e1,trivial⟩) (s211 n (by omega)) rfl ?_;cbv
  (refine rC ?_;cbv)
  exact⟨zU (decide_eq_true h),lR,trivial⟩
 ·(have e1:nx .u64 x=((x.natAbs:Nat):Int):=by simp only[wT];omega);generalize hn:x.natAbs=n at *
  cbv;refine wA rfl (by exact⟨zC e1,trivial⟩) (s211 n (by omega)) rfl ?_;cbv
  (refine rC ?_;cbv)
  exact⟨zL (decide_eq_false h),lR,trivial⟩
theorem s146 (x:Z)(hx:x.mag.length<2^40):zM 96 [zv x] (.int .i64 (fun _=>uS x.v)):=by
 refine sF Tryz.f96 ?_;obtain⟨neg,mag⟩:=x;have hv:Z.v ⟨neg,mag⟩=sgn neg (val mag):=rfl;rw[hv];have h0:((qJ (val mag):Nat):Int)=0↔val mag=0:=by rw[<-aT];omega
 have hs:=s202 mag hx;generalize qJ (val mag)=b at h0 hs;generalize hS:uS (sgn neg (val mag))=S at *
 cbv;refine cA hs ?_;cbv;refine zF (fun h=>?_) (fun h=>?_)
 ·cbv
  (refine rC ?_;cbv)
  refine zC ?_;rw[<-hS,h0.1 h,zCF];rfl
 ·have hne:val mag≠0:=fun e=>h (h0.2 e);cbv;refine z9 (fun h2=>?_) (fun h2=>?_)
  ·subst h2;cbv
   (refine rC ?_;cbv)
   refine zC ?_;rw[<-hS,show sgn true (val mag)=-(val mag:Int) from rfl];unfold uS;rw[if_pos (by omega)]
  ·subst h2;cbv
   (refine rC ?_;cbv)
   refine zC ?_;rw[<-hS,show sgn false (val mag)=(val mag:Int) from rfl];unfold uS;rw[if_neg (by omega),if_pos (by omega)]
theorem s212 (x y:Z)(hx:x.mag.length<2^40)(hy:y.mag.length<2^40):zM 133 [zv x,zv y] (.int .i64 (fun _=>nB x.v y.v)):=by
 refine sF Tryz.f133 ?_;have hsx:=s146 x hx;have hsy:=s146 y hy;have hxv:x.v=sgn x.neg (val x.mag):=rfl;have hyv:y.v=sgn y.neg (val y.mag):=rfl;have h1:uS x.v<uS y.v->nB x.v y.v=-1:=by intro h;unfold uS at h;unfold nB;split at h <;> split at h <;> (try split at h) <;> (try split at h) <;> first|(rw[if_pos (by omega)])|omega
 have h2:uS y.v<uS x.v->nB x.v y.v=1:=by intro h;unfold uS at h;unfold nB;split at h <;> split at h <;> (try split at h) <;> (try split at h) <;> first|(rw[if_neg (by omega),if_pos (by omega)])|omega
 have h3:uS x.v=uS y.v->uS x.v<0->nB x.v y.v=vJ (val y.mag) (val x.mag):=by
  (intro h h';have a1:x.v<0:=by unfold uS at h';split at h' <;> (try split at h') <;> omega);have a2:y.v<0:=by rw[h] at h';unfold uS at h';split at h' <;> (try split at h') <;> omega
  rw[hxv,zBY] at a1;rw[hyv,zBY] at a2;rw[hxv,hyv,a1.1,a2.1];simp only[nB,vJ,sgn,if_true];split <;> split <;> (try split) <;> (try split) <;> omega
 have h4:uS x.v=uS y.v->¬uS x.v<0->nB x.v y.v=vJ (val x.mag) (val y.mag):=by
  (intro h h';have a1:¬x.v<0:=by unfold uS at h';split at h' <;> (try split at h') <;> omega);have a2:¬y.v<0:=by rw[h] at h';unfold uS at h';split at h' <;> (try split at h') <;> omega
  (have b1:x.v=(val x.mag:Int):=by rw[hxv] at a1 ⊢;exact zJG a1);have b2:y.v=(val y.mag:Int):=by rw[hyv] at a2 ⊢;exact zJG a2
  rw[b1,b2];simp only[nB,vJ];split <;> split <;> (try split) <;> (try split) <;> omega
 generalize nB x.v y.v=C at *
 generalize uS x.v=s at *
 generalize uS y.v=t at *
 cbv;refine zZ 4 (by cbv) ?_;cbv;refine dA hsx ?_;cbv;refine dA hsy ?_;cbv;refine zF (fun h=>?_) (fun h=>?_)
 ·cbv
  (refine rC ?_;cbv)
  exact zC (h1 h).symm
 ·cbv;refine zF (fun h'=>?_) (fun h'=>?_)
  ·cbv
   (refine rC ?_;cbv)
   exact zC (h2 h').symm
  ·(have he:s=t:=by omega);cbv
   refine zF (fun h5=>?_) (fun h5=>?_)
   ·have h6:=h3 he h5;have h7:=s162 y.mag x.mag hy hx;rw[<-h6] at h7;cbv;refine cA h7 ?_;cbv
    (refine rC ?_;cbv)
    exact lR
   ·have h6:=h4 he h5;have h7:=s162 x.mag y.mag hx hy;rw[<-h6] at h7;cbv;refine cA h7 ?_;cbv
    (refine rC ?_;cbv)
    exact lR
theorem s192 (x y:Z)(hx:x.mag.length<2^38)(hy:y.mag.length<2^38):zM 166 [zv x,zv y] (zv (xH (x.v+y.v))):=by
 refine sF Tryz.f166 ?_;obtain⟨n1,m1⟩:=x;obtain⟨n2,m2⟩:=y;have hv:Z.v ⟨n1,m1⟩+Z.v ⟨n2,m2⟩=sgn n1 (val m1)+sgn n2 (val m2):=rfl;have hl:=zF0 m1 m2;have hl1:=nK m1 m2;have hl2:=nK m2 m1;have hx':m1.length<2^38:=hx;have hy':m2.length<2^38:=hy;rw[hv];have c1:n1=n2->zM 137 [.bool (fun _=>n1),nat (zD (val m1+val m2))] (zv (xH (sgn n1 (val m1)+sgn n2 (val m2)))):=by
  (intro h;have:=s203 n1 (zD (val m1+val m2)) (by omega);rw[zK] at this;have e:sgn n1 (val m1+val m2)=sgn n1 (val m1)+sgn n2 (val m2):=by rw[<-h];cases n1 <;> simp[sgn];omega);rw[e] at this
  exact this
 have c2:n1≠n2->¬vJ (val m1) (val m2)<0->zM 137 [.bool (fun _=>n1),nat (zD (val m1-val m2))] (zv (xH (sgn n1 (val m1)+sgn n2 (val m2)))):=by
  intro h h';have hge:val m2<=val m1:=by unfold vJ at h';rcases Nat.lt_or_ge (val m1) (val m2) with h3|h3;{rw[if_pos h3] at h';omega};{exact h3}
  (have:=s203 n1 (zD (val m1-val m2)) (by omega);rw[zK] at this;have e:sgn n1 (val m1-val m2)=sgn n1 (val m1)+sgn n2 (val m2):=by cases n1 <;> cases n2 <;> simp[sgn] at h ⊢ <;> omega);rw[e] at this
  exact this
 have c3:n1≠n2->vJ (val m1) (val m2)<0->zM 137 [.bool (fun _=>n2),nat (zD (val m2-val m1))] (zv (xH (sgn n1 (val m1)+sgn n2 (val m2)))):=by
  intro h h';have hge:val m1<=val m2:=by unfold vJ at h';rcases Nat.lt_or_ge (val m1) (val m2) with h3|h3;{omega};{rw[if_neg (by omega)] at h';split at h' <;> omega}
  (have:=s203 n2 (zD (val m2-val m1)) (by omega);rw[zK] at this;have e:sgn n2 (val m2-val m1)=sgn n1 (val m1)+sgn n2 (val m2):=by cases n1 <;> cases n2 <;> simp[sgn] at h ⊢ <;> omega);rw[e] at this
  exact this
 have c0:=s162 m1 m2 (by omega) (by omega);generalize vJ (val m1) (val m2)=cm at *
 generalize sgn n1 (val m1)+sgn n2 (val m2)=T at *
 cbv;refine zF (fun h=>?_) (fun h=>?_)
 ·have h':=c1 h;generalize xH T=W at *
  cbv;refine zZ 8 (by cbv) ?_;cbv;refine dA (s221 m1 m2 (by omega) (by omega)) ?_;cbv;refine dA h' ?_;cbv
  (refine rC ?_;cbv)
  exact okA
 ·have h2:=c2 h;have h3:=c3 h;generalize xH T=W at *
  cbv;refine cA c0 ?_;cbv;refine zF (fun h4=>?_) (fun h4=>?_)
  ·cbv;refine cA (s222 m2 m1 (by omega) (by omega)) ?_;cbv;refine cA (h3 h4) ?_;cbv
   (refine rC ?_;cbv)
   exact okA
  ·cbv;refine cA (s222 m1 m2 (by omega) (by omega)) ?_;cbv;refine cA (h2 h4) ?_;cbv
   (refine rC ?_;cbv)
   exact okA
theorem s220 (x y:Z)(hx:x.mag.length<2^38)(hy:y.mag.length<2^38):zM 158 [zv x,zv y] (zv (xH (x.v*y.v))):=by
 refine sF Tryz.f158 ?_;obtain⟨n1,m1⟩:=x;obtain⟨n2,m2⟩:=y;have hl:=gB m1 m2;have hx':m1.length<2^38:=hx;have hy':m2.length<2^38:=hy;have hv:Z.v ⟨n1,m1⟩*Z.v ⟨n2,m2⟩=sgn (n1 != n2) (val m1*val m2):=zFF _ _ _ _;rw[hv];have c1:=s203 (n1 != n2) (zD (val m1*val m2)) (by omega);rw[zK] at c1;have hb:(n1 != n2)=!decide (n1=n2):=by cases n1 <;> cases n2 <;> rfl
 generalize xH (sgn (n1 != n2) (val m1*val m2))=W at *
 generalize hnb:(n1 != n2)=nb at *
 cbv;refine zZ 11 (by cbv) ?_;cbv;refine dA (s194 m1 m2 (by omega) (by omega)) ?_;cbv;refine cT (by exact⟨kM hb,lR,trivial⟩) c1 rfl ?_;cbv
 (refine rC ?_;cbv)
 exact okA
abbrev rv (x:R):PV:=.agg [.bool (fun _=>x.neg),nat x.num,nat x.den]
structure R.sz (x:R) (k:Nat):Prop where
 n:x.num.length<=k
 d:x.den.length<=k
theorem yZ {k:Nat}{q:Rat}(h:Fits k q):(zS q).sz k:=⟨h.lnum,h.lden⟩
theorem R.sz.fits {k:Nat}{x:R}(h:x.sz k)(hk:1<=k):Fits k x.q:=zN0 h.n h.d hk
theorem R.sz.mono {k m:Nat}{x:R}(h:x.sz k)(hm:k<=m):x.sz m:=⟨Nat.le_trans h.n hm,Nat.le_trans h.d hm⟩
def y9 (d:List UInt32):List UInt32:=if val d=0 then [1] else d
theorem vN (x:R):val (y9 x.den)=x.d:=by unfold y9 R.d;split;{rfl};{rfl}
theorem uD (d:List UInt32):(y9 d).length<=d.length+1:=by unfold y9;split <;> simp
theorem mA:zD 1=[1]:=by rw[gJ (by decide)];rw[show 1/B=0 by decide,z6];rfl
theorem kU {n:Nat}:zD n=[1]↔n=1:=by constructor;{intro h;have:=zK n;rw[h] at this;exact this.symm};{intro h;rw[h,mA]}
theorem s210:zM 141 [] (nat [1]):=by
 refine sF Tryz.f141 ?_;cbv
 (refine rC ?_;cbv)
 exact zX rfl
theorem s224 (l:List UInt32)(hl:l.length<2^40):zM 163 [nat l] (.bool (fun _=>decide (l=[1]))):=by
 refine sF Tryz.f163 ?_;generalize hd:decide (l=[1])=d;cbv;refine yG (fun h=>?_) (fun h=>?_)
 ·have h1:l.length=1:=om;cbv;refine y5 0 rfl (by omega) ?_;cbv
  (refine rC ?_;cbv)
  refine zI ?_;rw[<-hd,decide_eq_decide]
  match l,h1 with
  |[x],_ =>
   have e1:[x].getD 0 0=x:=rfl;rw[e1];constructor;{intro h2;have:x=1:=UInt32.toNat_inj.1 (by show x.toNat=1;(try dsimp only [zJ] at *);omega);rw[this]};{intro h2;rw[List.cons.inj h2 |>.1];rfl}
 ·cbv
  (refine rC ?_;cbv)
  refine zL ?_;rw[<-hd];exact decide_eq_false fun e=>h (by rw[e];rfl)
theorem s195 (x:R)(hx:x.den.length<2^40):zM 140 [rv x] (nat (y9 x.den)):=by
 refine sF Tryz.f140 ?_;obtain⟨neg,num,den⟩:=x;have h0:((qJ (val den):Nat):Int)=0↔val den=0:=by rw[<-aT];omega
 have hs:=s202 den hx;have e1:val den=0->y9 den=[1]:=fun h=>if_pos h;have e2:val den≠0->y9 den=den:=fun h=>if_neg h;show wp _ _ (bK _ (nat (y9 den)) [] []);generalize y9 den=u at *
 generalize qJ (val den)=b at h0 hs;cbv;refine cA hs ?_;cbv;refine zF (fun h=>?_) (fun h=>?_)
 ·cbv;refine cA s210 ?_;cbv
  (refine rC ?_;cbv)
  exact zX (by rw[e1 (h0.1 h)])
 ·cbv
  (refine rC ?_;cbv)
  exact zX (by rw[e2 (fun e=>h (h0.2 e))])
theorem s193 (neg:Bool)(num den:List UInt32)(hn:num.length<2^38)(hd:den.length<2^38)(h0:val den≠0):zM 138 [.bool (fun _=>neg),nat num,nat den] (rv (zS (mkRat (sgn neg (val num)) (val den)))):=by
 refine sF Tryz.f138 ?_;rw[tP h0];have hnl:=zT num;have hdl:=zT den;have hg0:Nat.gcd (val num) (val den)≠0:=fun e=>h0 (Nat.eq_zero_of_gcd_eq_zero_right e);have cg:=s225 (zD (val num)) (zD (val den)) (by omega) (by omega);have cn:=s226 (zD (val num)) (zD (Nat.gcd (val num) (val den))) (by omega) (Nat.lt_of_le_of_lt (v4 (Nat.le_of_dvd (Nat.pos_of_ne_zero h0) (Nat.gcd_dvd_right _ _))) (by omega)) (by rw[zK];exact hg0);have cd:=s226 (zD (val den)) (zD (Nat.gcd (val num) (val den))) (by omega) (Nat.lt_of_le_of_lt (v4 (Nat.le_of_dvd (Nat.pos_of_ne_zero h0) (Nat.gcd_dvd_right _ _))) (by omega)) (by rw[zK];exact hg0);have cu:=s224 (zD (Nat.gcd (val num) (val den))) (Nat.lt_of_le_of_lt (v4 (Nat.le_of_dvd (Nat.pos_of_ne_zero h0) (Nat.gcd_dvd_right _ _))) (by omega));have cf:=s224 (zD (val den/Nat.gcd (val num) (val den))) (Nat.lt_of_le_of_lt (v4 (Nat.div_le_self _ _)) (by omega));have cd1:=s224 (zD (val den)) (by omega);have cm1:=s223 num (by omega);have cm2:=s223 den (by omega);rw[zK,zK] at cg cn cd;have hN:∀ n,((lm (zD n)).length:Int)=0↔n=0:=fun n=>by rw[zG,<-@xI n,<-List.length_eq_zero_iff];omega
 have hge1:Nat.gcd (val num) (val den)=1->val num/Nat.gcd (val num) (val den)=val num/\val den/Nat.gcd (val num) (val den)=val den:=fun e=>by rw[e,Nat.div_one,Nat.div_one];exact⟨rfl,rfl⟩
 have hz:val num=0->val num/Nat.gcd (val num) (val den)=0/\val den/Nat.gcd (val num) (val den)=1:=fun e=>by rw[e,Nat.gcd_zero_left,Nat.zero_div,Nat.div_self (Nat.pos_of_ne_zero h0)];exact⟨rfl,rfl⟩
 have hd1:val den=1->Nat.gcd (val num) (val den)=1:=fun e=>by rw[e,Nat.gcd_one_right]
 generalize val den/Nat.gcd (val num) (val den)=D' at *
 generalize val num/Nat.gcd (val num) (val den)=N' at *
 generalize Nat.gcd (val num) (val den)=g at *
 generalize val num=N at *
 generalize val den=Dn at *
 show wp _ _ (bK _ (.agg [.bool (fun _=>neg&&decide (N≠0)),nat (zD N'),nat (if D'=1 then [] else zD D')]) [] []);generalize hr1:(neg&&decide (N≠0))=r1;generalize hr2:(if D'=1 then [] else zD D')=r2;cbv;refine cA cm1 ?_;cbv;refine zF (fun h=>?_) (fun h=>?_)
 ·have e:=(hN N).1 h;obtain⟨e1,e2⟩:=hz e;cbv
  (refine rC ?_;cbv)
  refine⟨zL ?_,zN ?_,zN ?_,trivial⟩;{rw[<-hr1,e];simp};{rw[e1,z6];rfl};{rw[<-hr2,if_pos e2];rfl}
 ·(have e:=fun e=>h ((hN N).2 e);have hr1':neg=r1:=by rw[<-hr1,show decide (N≠0)=true from decide_eq_true e,Bool.and_true]);cbv
  refine cA cm2 ?_;cbv;refine cA cd1 ?_;cbv;refine zF (fun h2=>?_) (fun h2=>?_)
  ·have e1:=kU.1 h2;have e3:=hd1 e1;obtain⟨e4,e5⟩:=hge1 e3;cbv
   (refine rC ?_;cbv)
   refine⟨zI hr1',zX (by rw[e4]),zN ?_,trivial⟩;rw[<-hr2,if_pos (by rw[e5,e1])];rfl
  ·cbv;refine cA cg ?_;cbv;refine cA cu ?_;cbv;refine fN (σ:=Unit) (fun _=>⟨[(0,.bool (fun _=>neg)),(1,nat (zD N')),(2,nat (zD D')),(6,.ptr 6 0)],[(6,.box [.ff,.nil,.nil])]⟩) (fun _=>True) (fun h3=>?_) (fun h3=>?_) ?_;{have e3:=kU.1 h3;obtain⟨e4,e5⟩:=hge1 e3;cbv;refine⟨(),trivial,.le ?_ ?_ rfl⟩;{cbv;exact⟨lR,zX (by rw[e4]),zX (by rw[e5]),lR,trivial⟩};{cbv;exact okA}};{cbv;refine cA cn ?_;cbv;refine cA cd ?_;cbv;refine⟨(),trivial,.le ?_ ?_ rfl⟩;{cbv;exact okA};{cbv;exact okA}};intro _ _;cbv;refine cA cf ?_;cbv;refine zF (fun h3=>?_) (fun h3=>?_)
   ·cbv
    (refine rC ?_;cbv)
    exact⟨zI hr1',lR,zN (by rw[<-hr2,if_pos (kU.1 h3)];rfl),trivial⟩
   ·cbv
    (refine rC ?_;cbv)
    exact⟨zI hr1',lR,zX (by rw[<-hr2,if_neg (fun e=>h3 (kU.2 e))]),trivial⟩
theorem s161 (x:R)(hx:x.sz (2^36)):zM 155 [rv x] (rv (zS x.q)):=by
 refine sF Tryz.f155 ?_;have h1:=hx.n;have h2:=hx.d;have h3:=uD x.den;have cu:=s195 x (by omega);have cq:=s193 x.neg x.num (y9 x.den) (by omega) (by omega) (by rw[vN];exact x.d_ne);rw[vN] at cq;have e:mkRat (sgn x.neg (val x.num)) x.d=x.q:=rfl;rw[e] at cq;generalize zS x.q=W at *
 generalize y9 x.den=u at *
 obtain⟨neg,num,den⟩:=x;cbv;refine zZ 7 (by cbv) ?_;cbv;refine dA cu ?_;cbv;refine dA cq ?_;cbv
 (refine rC ?_;cbv)
 exact okA
theorem zNS (x:R):x.ok=true↔(x.neg=(zS x.q).neg/\x.num.length=(zS x.q).num.length/\x.den.length=(zS x.q).den.length/\vJ (val x.num) (val (zS x.q).num)=0/\vJ (val x.den) (val (zS x.q).den)=0):=by
 have hc:∀ a b,vJ a b=0↔a=b:=fun a b=>by unfold vJ;split <;> (try split) <;> omega
 simp only[R.ok,decide_eq_true_eq,hc];constructor;{intro h;rw[<-h];exact⟨rfl,rfl,rfl,rfl,rfl⟩}
 ·rintro⟨h1,h2,h3,h4,h5⟩;have e1:=nC h2 h4;have e2:=nC h3 h5;generalize zS x.q=y at *
  obtain⟨a,b,c⟩:=x;obtain⟨a',b',c'⟩:=y;simp only at h1 e1 e2;rw[h1,e1,e2]
theorem zNR (neg:Bool)(num:List UInt32):R.ok ⟨neg,num,[]⟩=(jZ num&&(!neg || decide (0<num.length))):=by
 have hq:R.q ⟨neg,num,[]⟩=mkRat (sgn neg (val num)) 1:=rfl;have hp:=tP (neg:=neg) (n:=val num) (d:=1) (by decide);rw[Bool.eq_iff_iff];simp only[R.ok,decide_eq_true_eq,hq,hp,Nat.gcd_one_right,Nat.div_one,if_true,R.mk.injEq,and_true,Bool.and_eq_true,Bool.or_eq_true,Bool.not_eq_true'];have hlen:0<num.length↔num≠[]:=by rw[<-List.length_pos_iff]
 constructor
 ·(rintro⟨h1,h2⟩;have hcn:jZ num=true:=by rw[h2];exact f8 _);refine⟨hcn,?_⟩
  cases neg with
  |false=>exact .inl rfl
  |true =>
   right;rw[hlen];intro e;rw[e] at h1;simp[val] at h1
 ·rintro⟨h1,h2⟩;refine⟨?_,(aL h1).symm⟩;cases neg with
  |false=>rfl| true =>
   have:=hlen.1 (h2.resolve_left (by decide));have:=zAU h1 this;simp;omega
theorem s103 (x:R)(hx:x.sz (2^36)):zM 126 [rv x] (.bool (fun _=>x.ok)):=by
 refine sF Tryz.f126 ?_;have h1:=hx.n;have h2:=hx.d;have hok:=zNS x;have hnil:x.den.length=0->x.ok=(jZ x.num&&(!x.neg || decide (0<x.num.length))):=by intro h;obtain⟨a,b,c⟩:=x;have:c=[]:=List.eq_nil_of_length_eq_zero h;subst this;exact zNR a b
 have cc:=s161 x hx;have cv:=s160 x.num (by omega);have hf:Fits (2^36) x.q:=hx.fits (by decide);have hl1:=hf.lnum;have hl2:=hf.lden;have cm1:=s162 x.num (zS x.q).num (by omega) (by omega);have cm2:=s162 x.den (zS x.q).den (by omega) (by omega);generalize hO:x.ok=O at *
 generalize zS x.q=W at *
 clear hf;obtain⟨neg,num,den⟩:=x;obtain⟨neg',num',den'⟩:=W;simp only at *
 generalize vJ (val num) (val num')=c1 at *
 generalize vJ (val den) (val den')=c2 at *
 cbv;refine zF (fun h=>?_) (fun h=>?_)
 ·have e:=hnil om;cbv;refine cA cv ?_;generalize jZ num=cn at *
  cbv;refine vA (fun h3=>?_) (fun h3=>?_)
  ·subst h3;cbv;refine vA (fun h4=>?_) (fun h4=>?_)
   ·subst h4;cbv
    (refine rC ?_;cbv)
    exact zI (by rw[e];simp[zG])
   ·subst h4;cbv
    (refine rC ?_;cbv)
    exact zU (by rw[e];rfl)
  ·subst h3;cbv
   (refine rC ?_;cbv)
   exact zL (by rw[e];rfl)
 ·(cbv;refine cA cc ?_;cbv;have hno:∀ P:Prop,¬P->(O=true->P)->O=false:=fun P h h'=>by cases O;rfl;exact absurd (h' rfl) h);refine yG (fun h3=>?_) (fun h3=>?_)
  ·cbv;refine yG (fun h4=>?_) (fun h4=>?_)
   ·cbv;refine yG (fun h5=>?_) (fun h5=>?_)
    ·cbv;refine cA cm1 ?_;cbv;refine yG (fun h6=>?_) (fun h6=>?_)
     ·cbv;refine cA cm2 ?_;cbv
      (refine rC ?_;cbv)
      refine zI ?_;rw[Bool.eq_iff_iff,hok,decide_eq_true_eq]
      (try dsimp only [zJ] at *)
      simp only[zG] at h4 h5;exact⟨fun h7=>⟨h3,by omega,by omega,h6,h7⟩,fun h7=>h7.2.2.2.2⟩
     ·cbv
      (refine rC ?_;cbv)
      exact zL (hno _ h6 fun h7=>(hok.1 h7).2.2.2.1)
    ·cbv
     (refine rC ?_;cbv)
     refine zL (hno _ h5 fun h7=>?_);have:=(hok.1 h7).2.2.1
     (try dsimp only [zJ] at *)
     simp only[zG];omega
   ·cbv
    (refine rC ?_;cbv)
    refine zL (hno _ h4 fun h7=>?_);have:=(hok.1 h7).2.1
    (try dsimp only [zJ] at *)
    simp only[zG];omega
  ·cbv
   (refine rC ?_;cbv)
   exact zL (hno _ h3 fun h7=>(hok.1 h7).1)
end Go.Proofs.YtfainocfaddbdaaGreat
