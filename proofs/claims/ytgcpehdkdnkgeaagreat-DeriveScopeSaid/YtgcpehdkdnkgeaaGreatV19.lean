/- A part of the proof: NtJ, PnC, IgA, RqA. -/
import Derived.Test.YtgcpehdkdnkgeaaGreatV18
import Derived.Test.YtgcpehdkdnkgeaaGreatV15
set_option linter.all false
namespace Go.Proofs.YtgcpehdkdnkgeaaGreat
open Go
set_option maxRecDepth 100000
theorem uD {n m:Nat}(h:n≤m):(zI n).length≤(zI m).length:=by
 rcases Nat.lt_or_ge (zI m).length (zI n).length with h1 | h1
 ·have:=mC h1;omega
 ·exact h1
theorem s225 (a b:List UInt32)(ha:a.length<2^39)(hb:b.length<2^39):zE 212 [nat a,nat b] (nat (zI (Nat.gcd (val a) (val b)))):=by
 refine sF Tryz.f212 ?_
 have ha':=Nat.lt_of_le_of_lt (zU a) ha
 have hb':=Nat.lt_of_le_of_lt (zU b) hb
 have hBB:B * B=18446744073709551616:=by decide
 generalize hg:Nat.gcd (val a) (val b)=g
 cbv
 refine cA (j1 a (by omega)) ?_
 cbv
 refine cA (j1 b (by omega)) ?_
 cbv
 refine zY (σ:=Nat × Nat) (fun z=>⟨[(0,nat (zI z.1)),(1,nat (zI z.2))],[]⟩) (fun z=>(zI z.1).length<2^39∧(zI z.2).length<2^39∧Nat.gcd z.1 z.2=g) (fun z=>z.2) (val a,val b) ⟨ha',hb',hg⟩ (.le ?_ trivial rfl) ?_
 ·cbv
  exact okA
 intro z hz
 obtain⟨h1,h2,h3⟩:=hz
 generalize z.1=x at *
 generalize z.2=y at *
 cbv
 refine zH (fun h4=>?_) (fun h4=>?_)
 ·cbv
  have hy:y≠0:=fun e=>by subst e;(try dsimp only [zG] at *);simp [lm,yM] at h4
  refine cA (s226 (zI x) (zI y) h1 h2 (by rw[zM];exact hy)) ?_
  cbv
  have hm:=Nat.mod_lt x (Nat.pos_of_ne_zero hy)
  refine⟨(y,x % y),⟨h2,Nat.lt_of_le_of_lt (uD (Nat.le_of_lt hm)) h2,by rw[Nat.gcd_comm,←Nat.gcd_rec,Nat.gcd_comm];exact h3⟩,hm,.le ?_ trivial rfl⟩
  cbv
  exact⟨lR,zP (by rw[zM,zM]),trivial⟩
 ·have hy2:y<B * B:=len2.1 (by (try dsimp only [zG] at *);rw[zK] at h4;omega)
  cbv
  refine zH (fun h5=>?_) (fun h5=>?_)
  ·have hy:y=0:=xH.1 (List.eq_nil_of_length_eq_zero (by (try dsimp only [zG] at *);rw[zK] at h5;omega))
   subst hy
   cbv
   refine cA (s223 (zI x) (by omega)) ?_
   cbv
   refine qC rfl (zP ?_) rfl
   rw[zM,←h3,Nat.gcd_zero_right]
  ·have hy:y≠0:=fun e=>h5 (by subst e;simp [lm,yM])
   have hm:=Nat.mod_lt x (Nat.pos_of_ne_zero hy)
   cbv
   refine cA (s226 (zI x) (zI y) h1 h2 (by rw[zM];exact hy)) ?_
   rw[zM,zM]
   cbv
   refine cA (s231 (zI y) (by omega)) ?_
   rw[zM,if_pos hy2]
   cbv
   refine cA (s231 (zI (x % y)) (Nat.lt_of_le_of_lt (uD (Nat.le_of_lt hm)) (by omega))) ?_
   rw[zM,if_pos (by omega)]
   cbv
   refine zY (σ:=Nat × Nat) (fun z=>⟨[(11,.int .u64 (fun _=>(z.1:Int))),(13,.int .u64 (fun _=>(z.2:Int)))],[]⟩) (fun z=>z.1<B * B∧z.2<B * B∧Nat.gcd z.1 z.2=g) (fun z=>z.2) (y,x % y) ⟨hy2,by omega,by rw[Nat.gcd_comm,←Nat.gcd_rec,Nat.gcd_comm];exact h3⟩ (.le ?_ trivial rfl) ?_
   ·cbv
    exact okA
   clear hm hy h3 h4 h5 h1 h2 hy2
   intro z hz
   obtain⟨h1,h2,h3⟩:=hz
   generalize z.1=x at *
   generalize z.2=y at *
   cbv
   refine zH (fun h4=>?_) (fun h4=>?_)
   ·have hy:0<y:=om
    have hm:=Nat.mod_lt x hy
    cbv
    refine zO 5 (by cbv) ?_
    cbv
    refine⟨vG om,(y,x % y),⟨h2,by omega,by rw[Nat.gcd_comm,←Nat.gcd_rec,Nat.gcd_comm];exact h3⟩,hm,.le ?_ trivial rfl⟩
    cbv
    exact⟨lR,zC qF,trivial⟩
   ·have hy:y=0:=om
    subst hy
    cbv
    refine cA (s211 x h1) ?_
    cbv
    refine qC rfl (zP ?_) rfl
    rw[←h3,Nat.gcd_zero_right]
end Go.Proofs.YtgcpehdkdnkgeaaGreat
namespace Go.Proofs.YtgcpehdkdnkgeaaGreat
structure R where
 neg:Bool
 num:List UInt32
 den:List UInt32
deriving DecidableEq
def sgn (b:Bool) (n:Nat):Int:=if b then -(n:Int) else n
theorem vJ (b:Bool)(n:Nat):(sgn b n).natAbs=n:=by cases b <;> simp [sgn]
theorem zDI (b:Bool):sgn b 0=0:=by cases b <;> rfl
theorem zCQ {b:Bool}{n:Nat}:sgn b n<0↔(b=true∧n≠0):=by cases b <;> simp [sgn] <;> omega
theorem iQ (z:Int):sgn (decide (z<0)) z.natAbs=z:=by
 by_cases h:z<0 <;> simp [sgn,h] <;> omega
theorem zBN (a b:Bool)(n m:Nat):sgn a n * sgn b m=sgn (a != b) (n * m):=by
 cases a <;> cases b <;> simp [sgn,Int.neg_mul,Int.mul_neg]
theorem nK (a:Bool)(n m:Nat):sgn a n * (m:Int)=sgn a (n * m):=by
 cases a <;> simp [sgn,Int.neg_mul]
theorem zGN (a:Bool)(n:Nat):sgn (!a) n=- sgn a n:=by cases a <;> simp [sgn]
def R.n (x:R):Int:=sgn x.neg (val x.num)
def R.d (x:R):Nat:=if val x.den=0 then 1 else val x.den
def R.q (x:R):Rat:=mkRat x.n x.d
theorem R.d_ne (x:R):x.d≠0:=by unfold R.d;split <;> omega
def zJ (q:Rat):R:=⟨decide (q.num<0),zI q.num.natAbs,if q.den=1 then [] else zI q.den⟩
theorem zLF (q:Rat):(zJ q).n=q.num:=by simp only[R.n,zJ,zM];exact iQ _
theorem zRL (q:Rat):(zJ q).d=q.den:=by
 have:=q.den_pos
 unfold R.d zJ
 by_cases h:q.den=1
 ·simp [h,val]
 ·simp only[h,if_false,zM];split <;> omega
theorem z9 (q:Rat):(zJ q).q=q:=by rw[R.q,zLF,zRL];exact Rat.mkRat_self q
theorem kB:zJ 0=⟨false,[],[]⟩:=by simp [zJ,yM]
theorem zGW {neg:Bool}{n d:Nat}(hd:d≠0):(mkRat (sgn neg n) d).num=sgn neg (n / Nat.gcd n d):=by
 rw[Rat.num_mkRat,if_neg hd,vJ,Nat.gcd_comm]
 have hg:((Nat.gcd n d:Nat):Int) ∣ (n:Int):=Int.natCast_dvd_natCast.2 (Nat.gcd_dvd_left n d)
 cases neg
 ·simp only[sgn];rfl
 ·simp only[sgn]
  show (-(n:Int)) / ((Nat.gcd n d:Nat):Int)=- ((n / Nat.gcd n d:Nat):Int)
  rw[Int.neg_ediv_of_dvd hg];rfl
theorem zGX {neg:Bool}{n d:Nat}(hd:d≠0):(mkRat (sgn neg n) d).den=d / Nat.gcd n d:=by
 rw[Rat.den_mkRat,if_neg hd,vJ,Nat.gcd_comm]
theorem mS {neg:Bool}{n d:Nat}(hd:d≠0) :
  zJ (mkRat (sgn neg n) d)=⟨neg && decide (n≠0),zI (n / Nat.gcd n d),if d / Nat.gcd n d=1 then [] else zI (d / Nat.gcd n d)⟩:=by
 rw[zJ,zGW hd,zGX hd,vJ]
 congr 1
 rw[Bool.eq_iff_iff]
 have hg:0<Nat.gcd n d:=Nat.gcd_pos_of_pos_right n (Nat.pos_of_ne_zero hd)
 have h1:n / Nat.gcd n d=0↔n=0:=by
  rw[Nat.div_eq_zero_iff_lt hg]
  constructor
  ·intro h
   rcases Nat.eq_zero_or_pos n with h0 | h0
   ·exact h0
   ·have:=Nat.gcd_le_left d h0;omega
  ·intro h;omega
 simp only[decide_eq_true_eq,Bool.and_eq_true,zCQ,ne_eq,h1]
theorem zMD (a b:R):a.q+b.q=mkRat (a.n * b.d+b.n * a.d) (a.d * b.d):=Rat.mkRat_add_mkRat _ _ a.d_ne b.d_ne
theorem zO6 (a b:R):a.q * b.q=mkRat (a.n * b.n) (a.d * b.d):=Rat.mkRat_mul_mkRat _ _ _ _
theorem zMC (a:R):(⟨!a.neg,a.num,a.den⟩:R).q=- a.q:=by
 simp only[R.q,R.n,R.d,zGN,Rat.neg_mkRat]
theorem tJ {n:Int}{d:Nat}(hd:d≠0):0≤mkRat n d↔0≤n:=by
 rw[←Rat.divInt_ofNat];exact Rat.divInt_nonneg_iff_of_pos_right (by omega)
theorem zSP (a b:R):a.q - b.q=mkRat (a.n * b.d - b.n * a.d) (a.d * b.d):=by
 rw[Rat.sub_eq_add_neg,←zMC,zMD]
 simp only[R.n,R.d,zGN,Int.neg_mul,Int.sub_eq_add_neg]
theorem q_le (a b:R):a.q≤b.q↔a.n * b.d≤b.n * a.d:=by
 rw[Rat.le_iff_sub_nonneg,zSP,tJ (Nat.mul_ne_zero b.d_ne a.d_ne)]
 omega
theorem q_lt (a b:R):a.q<b.q↔a.n * b.d<b.n * a.d:=by
 rw[←Rat.not_le,q_le];omega
theorem zH5 (a:R):a.q=0↔a.n=0:=Rat.mkRat_eq_zero a.d_ne
theorem zDP (a:R):0≤a.q↔0≤a.n:=tJ a.d_ne
theorem zAM (a:R):a.q<0↔a.n<0:=by rw[←Rat.not_le,zDP];omega
theorem zSQ (a:R):0<a.q↔0<a.n:=by
 have h1:=zDP a;have h2:=zH5 a
 rw[Rat.lt_iff_le_and_ne]
 constructor
 ·rintro ⟨h,h'⟩;have:=h1.1 h;have:a.n≠0:=fun e=>h' (h2.2 e).symm;omega
 ·intro h;exact⟨h1.2 (by omega),fun e=>by have:=h2.1 e.symm;omega⟩
def yB (q:Rat):Int:=if q<0 then -1 else if 0<q then 1 else 0
def kL (a b:Rat):Int:=if a<b then -1 else if b<a then 1 else 0
def uX (z:Int):Int:=if z<0 then -1 else if 0<z then 1 else 0
def lI (a b:Int):Int:=if a<b then -1 else if b<a then 1 else 0
theorem zK0 (a:R):yB a.q=uX a.n:=by simp only[yB,uX,zAM,zSQ]
theorem zRP (a b:R):kL a.q b.q=lI (a.n * b.d) (b.n * a.d):=by simp only[kL,lI,q_lt]
structure Fits (k:Nat) (q:Rat):Prop where
 num:q.num.natAbs<B ^ k
 den:q.den<B ^ k
theorem Fits.mono {k m:Nat}{q:Rat}(h:Fits k q)(hm:k≤m):Fits m q :=
 ⟨Nat.lt_of_lt_of_le h.num (Nat.pow_le_pow_right xO hm),Nat.lt_of_lt_of_le h.den (Nat.pow_le_pow_right xO hm)⟩
theorem bV {k:Nat}{n:Int}{d:Nat}(hn:n.natAbs<B ^ k)(hd:d<B ^ k)(h0:d≠0):Fits k (mkRat n d):=by
 have hs:n=sgn (decide (n<0)) n.natAbs:=(iQ n).symm
 rw[hs]
 refine⟨?_,?_⟩
 ·rw[zGW h0,vJ]
  exact Nat.lt_of_le_of_lt (Nat.div_le_self _ _) hn
 ·rw[zGX h0]
  exact Nat.lt_of_le_of_lt (Nat.div_le_self _ _) hd
theorem zQ8 {k:Nat}{x:R}(h1:x.num.length≤k)(h2:x.den.length≤k)(hk:1≤k):Fits k x.q:=by
 refine bV ?_ ?_ x.d_ne
 ·rw[R.n,vJ]
  exact Nat.lt_of_lt_of_le (xE _) (Nat.pow_le_pow_right xO h1)
 ·unfold R.d
  split
  ·exact Nat.lt_of_lt_of_le (show 1<B ^ 1 by decide) (Nat.pow_le_pow_right xO hk)
  ·exact Nat.lt_of_lt_of_le (xE _) (Nat.pow_le_pow_right xO h2)
theorem Fits.lnum {k:Nat}{q:Rat}(h:Fits k q):(zJ q).num.length≤k:=z6 h.num
theorem Fits.lden {k:Nat}{q:Rat}(h:Fits k q):(zJ q).den.length≤k:=by
 unfold zJ
 by_cases h1:q.den=1
 ·simp [h1]
 ·simp only[h1,if_false];exact z6 h.den
theorem qR {a b k m:Nat}(ha:a<B ^ k)(hb:b<B ^ m):a * b<B ^ (k+m):=by
 rw[Nat.pow_add];exact Nat.mul_lt_mul'' ha hb
theorem wB {k m:Nat}{a b:Rat}(ha:Fits k a)(hb:Fits m b):Fits (k+m) (a * b):=by
 rw[Rat.mul_def']
 refine bV ?_ (qR ha.den hb.den) (Nat.mul_ne_zero a.den_nz b.den_nz)
 rw[Int.natAbs_mul]
 exact qR ha.num hb.num
theorem vI {k m:Nat}{a b:Rat}(ha:Fits k a)(hb:Fits m b):Fits (k+m+1) (a+b):=by
 rw[Rat.add_def']
 have h1:=qR ha.num hb.den
 have h2:=qR hb.num ha.den
 rw[Nat.add_comm m k] at h2
 have h3:B ^ (k+m+1)=B ^ (k+m) * B:=Nat.pow_succ _ _
 have hd:=qR ha.den hb.den
 have h5:B ^ (k+m) * 2≤B ^ (k+m) * B:=Nat.mul_le_mul_left _ (by decide)
 refine bV ?_ ?_ (Nat.mul_ne_zero a.den_nz b.den_nz)
 ·have h4:=Int.natAbs_add_le (a.num * b.den) (b.num * a.den)
  rw[Int.natAbs_mul,Int.natAbs_mul,Int.natAbs_natCast,Int.natAbs_natCast] at h4
  rw[h3];omega
 ·rw[h3];omega
theorem aY {k:Nat}{a:Rat}(ha:Fits k a):Fits k (-a):=⟨by rw[Rat.neg_num,Int.natAbs_neg];exact ha.num,by rw[Rat.neg_den];exact ha.den⟩
theorem j6 {k m:Nat}{a b:Rat}(ha:Fits k a)(hb:Fits m b):Fits (k+m+1) (a - b):=by
 rw[Rat.sub_eq_add_neg];exact vI ha (aY hb)
theorem w8 {k:Nat}(hk:1≤k):Fits k 0 :=
 ⟨by simp;exact Nat.pow_pos xO,by simp;exact Nat.lt_of_lt_of_le (show 1<B ^ 1 by decide) (Nat.pow_le_pow_right xO hk)⟩
theorem zD9 {k:Nat}{z:Int}(h:z.natAbs<B ^ k)(hk:1≤k):Fits k (z:Rat) :=
 ⟨by simpa using h,by simp;exact Nat.lt_of_lt_of_le (show 1<B ^ 1 by decide) (Nat.pow_le_pow_right xO hk)⟩
theorem zD8 {k:Nat}{a:Rat}(ha:Fits k a):Fits k a⁻¹:=by
 refine⟨?_,?_⟩
 ·rw[Rat.num_inv,Int.natAbs_mul]
  have h1:a.num.sign.natAbs≤1:=by rw[Int.natAbs_sign];split <;> omega
  have h2:=ha.den
  have:=Nat.mul_le_mul_right ((a.den:Int).natAbs) h1
  rw[Int.natAbs_natCast] at *
  omega
 ·rw[Rat.den_inv]
  split
  ·have:=ha.den;have:=a.den_pos;omega
  ·exact ha.num
def R.ok (x:R):Bool:=decide (x=zJ x.q)
theorem sO (q:Rat):(zJ q).ok=true:=by simp [R.ok,z9]
end Go.Proofs.YtgcpehdkdnkgeaaGreat
namespace Go.Proofs.YtgcpehdkdnkgeaaGreat
open Go
set_option maxRecDepth 100000
theorem yU {f:FuncId}{args args':List PV}{K:PV→Prop}{r:PV}(h2:qJ les args args')(h3:zE f args' r)(h5:nmIn [] r=true)(h4:K r):CallS f args K:=⟨args',r,sS h2,h3,h5,h4⟩
theorem dA {f:FuncId}{args args':List PV}{K:PV→Prop}{r:PV}(h3:zE f args' r)(h4:K r)(h2:qJ les args args':=by exact okA)(h5:nmIn [] r=true:=by exact rfl):CallS f args K:=yU h2 h3 h5 h4
theorem kW (a b:List UInt32):(zI (val a * val b)).length≤a.length+b.length:=z6 (qR (xE a) (xE b))
theorem zG5 (a b:List UInt32):(zI (val a+val b)).length≤a.length+b.length+1:=by
 refine z6 ?_
 have h1:=Nat.lt_of_lt_of_le (xE a) (Nat.pow_le_pow_right xO (Nat.le_add_right a.length b.length))
 have h2:=Nat.lt_of_lt_of_le (xE b) (Nat.pow_le_pow_right xO (Nat.le_add_left b.length a.length))
 have h3:B ^ (a.length+b.length) * 2≤B ^ (a.length+b.length) * B:=Nat.mul_le_mul_left _ (by decide)
 rw[Nat.pow_succ]
 omega
theorem lW (a b:List UInt32):(zI (val a - val b)).length≤a.length:=z6 (Nat.lt_of_le_of_lt (Nat.sub_le _ _) (xE a))
structure Z where
 neg:Bool
 mag:List UInt32
def Z.v (x:Z):Int:=sgn x.neg (val x.mag)
def xF (z:Int):Z:=⟨decide (z<0),zI z.natAbs⟩
theorem jF (z:Int):(xF z).v=z:=by simp only[Z.v,xF,zM];exact iQ z
abbrev zv (x:Z):PV:=.agg [.bool (fun _=>x.neg),nat x.mag]
theorem zD3 (neg:Bool)(n:Nat):xF (sgn neg n)=⟨neg && decide (n≠0),zI n⟩:=by
 simp only[xF,vJ]
 congr 1
 rw[Bool.eq_iff_iff]
 simp only[decide_eq_true_eq,zCQ,Bool.and_eq_true]
theorem zKZ {b:Bool}{n:Nat}(h:¬ sgn b n<0):sgn b n=(n:Int):=by
 cases b
 ·rfl
 ·simp only[sgn,if_true] at h ⊢
  omega
theorem s203 (neg:Bool)(m:List UInt32)(hm:m.length<2^40):zE 198 [.bool (fun _=>neg),nat m] (zv (xF (sgn neg (val m)))):=by
 refine sF Tryz.f198 ?_
 rw[zD3]
 cbv
 refine cA (s223 m hm) ?_
 cbv
 refine z4 (fun h=>?_) (fun h=>?_)
 ·subst h
  cbv
  (refine rC ?_;cbv)
  refine⟨zV ?_,lR,trivial⟩
  rw[Bool.eq_iff_iff]
  simp only[decide_eq_true_eq,zK,Bool.true_and]
  rw[←@xH (val m),←List.length_eq_zero_iff]
  (try dsimp only [zG] at *)
  omega
 ·subst h
  cbv
  (refine rC ?_;cbv)
  exact okA
theorem s164 (x:Int)(h1:-9223372036854775808≤x)(h2:x<9223372036854775808):zE 185 [.int .i64 (fun _=>x)] (zv (xF x)):=by
 refine sF Tryz.f185 ?_
 have hBB:B * B=18446744073709551616:=by decide
 have e:zv (xF x)=.agg [.bool (fun _=>decide (x<0)),nat (zI x.natAbs)]:=rfl
 rw[e]
 cbv
 refine zH (fun h=>?_) (fun h=>?_)
 ·have e1:nx .u64 (0 - nx .u64 x)=((x.natAbs:Nat):Int):=by simp only[wW];omega
  generalize hn:x.natAbs=n at *
  cbv
  refine yX rfl (by exact⟨zC e1,trivial⟩) (s211 n (by omega)) rfl ?_
  cbv
  (refine rC ?_;cbv)
  exact⟨yL (decide_eq_true h),lR,trivial⟩
 ·have e1:nx .u64 x=((x.natAbs:Nat):Int):=by simp only[wW];omega
  generalize hn:x.natAbs=n at *
  cbv
  refine yX rfl (by exact⟨zC e1,trivial⟩) (s211 n (by omega)) rfl ?_
  cbv
  (refine rC ?_;cbv)
  exact⟨zN (decide_eq_false h),lR,trivial⟩
theorem s146 (x:Z)(hx:x.mag.length<2^40):zE 141 [zv x] (.int .i64 (fun _=>uX x.v)):=by
 refine sF Tryz.f141 ?_
 obtain⟨neg,mag⟩:=x
 have hv:Z.v ⟨neg,mag⟩=sgn neg (val mag):=rfl
 rw[hv]
 have h0:((qI (val mag):Nat):Int)=0↔val mag=0:=by rw[←rB];omega
 have hs:=s202 mag hx
 generalize qI (val mag)=b at h0 hs
 generalize hS:uX (sgn neg (val mag))=S at *
 cbv
 refine cA hs ?_
 cbv
 refine zH (fun h=>?_) (fun h=>?_)
 ·cbv
  (refine rC ?_;cbv)
  refine zC ?_
  rw[←hS,h0.1 h,zDI];rfl
 ·have hne:val mag≠0:=fun e=>h (h0.2 e)
  cbv
  refine zS (fun h2=>?_) (fun h2=>?_)
  ·subst h2
   cbv
   (refine rC ?_;cbv)
   refine zC ?_
   rw[←hS,show sgn true (val mag)=-(val mag:Int) from rfl];unfold uX;rw[if_pos (by omega)]
  ·subst h2
   cbv
   (refine rC ?_;cbv)
   refine zC ?_
   rw[←hS,show sgn false (val mag)=(val mag:Int) from rfl];unfold uX;rw[if_neg (by omega),if_pos (by omega)]
theorem s212 (x y:Z)(hx:x.mag.length<2^40)(hy:y.mag.length<2^40):zE 199 [zv x,zv y] (.int .i64 (fun _=>lI x.v y.v)):=by
 refine sF Tryz.f199 ?_
 have hsx:=s146 x hx
 have hsy:=s146 y hy
 have hxv:x.v=sgn x.neg (val x.mag):=rfl
 have hyv:y.v=sgn y.neg (val y.mag):=rfl
 have h1:uX x.v<uX y.v→lI x.v y.v=-1:=by intro h;unfold uX at h;unfold lI;split at h <;> split at h <;> (try split at h) <;> (try split at h) <;> first | (rw[if_pos (by omega)]) | omega
 have h2:uX y.v<uX x.v→lI x.v y.v=1:=by intro h;unfold uX at h;unfold lI;split at h <;> split at h <;> (try split at h) <;> (try split at h) <;> first | (rw[if_neg (by omega),if_pos (by omega)]) | omega
 have h3:uX x.v=uX y.v→uX x.v<0→lI x.v y.v=vP (val y.mag) (val x.mag):=by
  intro h h'
  have a1:x.v<0:=by unfold uX at h';split at h' <;> (try split at h') <;> omega
  have a2:y.v<0:=by rw[h] at h';unfold uX at h';split at h' <;> (try split at h') <;> omega
  rw[hxv,zCQ] at a1
  rw[hyv,zCQ] at a2
  rw[hxv,hyv,a1.1,a2.1]
  simp only[lI,vP,sgn,if_true]
  split <;> split <;> (try split) <;> (try split) <;> omega
 have h4:uX x.v=uX y.v→¬ uX x.v<0→lI x.v y.v=vP (val x.mag) (val y.mag):=by
  intro h h'
  have a1:¬ x.v<0:=by unfold uX at h';split at h' <;> (try split at h') <;> omega
  have a2:¬ y.v<0:=by rw[h] at h';unfold uX at h';split at h' <;> (try split at h') <;> omega
  have b1:x.v=(val x.mag:Int):=by rw[hxv] at a1 ⊢;exact zKZ a1
  have b2:y.v=(val y.mag:Int):=by rw[hyv] at a2 ⊢;exact zKZ a2
  rw[b1,b2]
  simp only[lI,vP]
  split <;> split <;> (try split) <;> (try split) <;> omega
 generalize lI x.v y.v=C at *
 generalize uX x.v=s at *
 generalize uX y.v=t at *
 cbv
 refine zO 4 (by cbv) ?_
 cbv
 refine dA hsx ?_
 cbv
 refine dA hsy ?_
 cbv
 refine zH (fun h=>?_) (fun h=>?_)
 ·cbv
  (refine rC ?_;cbv)
  exact zC (h1 h).symm
 ·cbv
  refine zH (fun h'=>?_) (fun h'=>?_)
  ·cbv
   (refine rC ?_;cbv)
   exact zC (h2 h').symm
  ·have he:s=t:=by omega
   cbv
   refine zH (fun h5=>?_) (fun h5=>?_)
   ·have h6:=h3 he h5
    have h7:=s162 y.mag x.mag hy hx
    rw[←h6] at h7
    cbv
    refine cA h7 ?_
    cbv
    (refine rC ?_;cbv)
    exact lR
   ·have h6:=h4 he h5
    have h7:=s162 x.mag y.mag hx hy
    rw[←h6] at h7
    cbv
    refine cA h7 ?_
    cbv
    (refine rC ?_;cbv)
    exact lR
theorem s192 (x y:Z)(hx:x.mag.length<2^38)(hy:y.mag.length<2^38):zE 178 [zv x,zv y] (zv (xF (x.v+y.v))):=by
 refine sF Tryz.f178 ?_
 obtain⟨n1,m1⟩:=x
 obtain⟨n2,m2⟩:=y
 have hv:Z.v ⟨n1,m1⟩+Z.v ⟨n2,m2⟩=sgn n1 (val m1)+sgn n2 (val m2):=rfl
 have hl:=zG5 m1 m2
 have hl1:=lW m1 m2
 have hl2:=lW m2 m1
 have hx':m1.length<2^38:=hx
 have hy':m2.length<2^38:=hy
 rw[hv]
 have c1:n1=n2→zE 198 [.bool (fun _=>n1),nat (zI (val m1+val m2))] (zv (xF (sgn n1 (val m1)+sgn n2 (val m2)))):=by
  intro h
  have:=s203 n1 (zI (val m1+val m2)) (by omega)
  rw[zM] at this
  have e:sgn n1 (val m1+val m2)=sgn n1 (val m1)+sgn n2 (val m2):=by rw[←h];cases n1 <;> simp [sgn];omega
  rw[e] at this
  exact this
 have c2:n1≠n2→¬ vP (val m1) (val m2)<0→zE 198 [.bool (fun _=>n1),nat (zI (val m1 - val m2))] (zv (xF (sgn n1 (val m1)+sgn n2 (val m2)))):=by
  intro h h'
  have hge:val m2≤val m1:=by
   unfold vP at h'
   rcases Nat.lt_or_ge (val m1) (val m2) with h3 | h3
   ·rw[if_pos h3] at h';omega
   ·exact h3
  have:=s203 n1 (zI (val m1 - val m2)) (by omega)
  rw[zM] at this
  have e:sgn n1 (val m1 - val m2)=sgn n1 (val m1)+sgn n2 (val m2):=by cases n1 <;> cases n2 <;> simp [sgn] at h ⊢ <;> omega
  rw[e] at this
  exact this
 have c3:n1≠n2→vP (val m1) (val m2)<0→zE 198 [.bool (fun _=>n2),nat (zI (val m2 - val m1))] (zv (xF (sgn n1 (val m1)+sgn n2 (val m2)))):=by
  intro h h'
  have hge:val m1≤val m2:=by
   unfold vP at h'
   rcases Nat.lt_or_ge (val m1) (val m2) with h3 | h3
   ·omega
   ·rw[if_neg (by omega)] at h';split at h' <;> omega
  have:=s203 n2 (zI (val m2 - val m1)) (by omega)
  rw[zM] at this
  have e:sgn n2 (val m2 - val m1)=sgn n1 (val m1)+sgn n2 (val m2):=by cases n1 <;> cases n2 <;> simp [sgn] at h ⊢ <;> omega
  rw[e] at this
  exact this
 have c0:=s162 m1 m2 (by omega) (by omega)
 generalize vP (val m1) (val m2)=cm at *
 generalize sgn n1 (val m1)+sgn n2 (val m2)=T at *
 cbv
 refine zH (fun h=>?_) (fun h=>?_)
 ·have h':=c1 h
  generalize xF T=W at *
  cbv
  refine zO 8 (by cbv) ?_
  cbv
  refine dA (s221 m1 m2 (by omega) (by omega)) ?_
  cbv
  refine dA h' ?_
  cbv
  (refine rC ?_;cbv)
  exact okA
 ·have h2:=c2 h
  have h3:=c3 h
  generalize xF T=W at *
  cbv
  refine cA c0 ?_
  cbv
  refine zH (fun h4=>?_) (fun h4=>?_)
  ·cbv
   refine cA (s222 m2 m1 (by omega) (by omega)) ?_
   cbv
   refine cA (h3 h4) ?_
   cbv
   (refine rC ?_;cbv)
   exact okA
  ·cbv
   refine cA (s222 m1 m2 (by omega) (by omega)) ?_
   cbv
   refine cA (h2 h4) ?_
   cbv
   (refine rC ?_;cbv)
   exact okA
theorem s220 (x y:Z)(hx:x.mag.length<2^38)(hy:y.mag.length<2^38):zE 207 [zv x,zv y] (zv (xF (x.v * y.v))):=by
 refine sF Tryz.f207 ?_
 obtain⟨n1,m1⟩:=x
 obtain⟨n2,m2⟩:=y
 have hl:=kW m1 m2
 have hx':m1.length<2^38:=hx
 have hy':m2.length<2^38:=hy
 have hv:Z.v ⟨n1,m1⟩ * Z.v ⟨n2,m2⟩=sgn (n1 != n2) (val m1 * val m2):=zBN _ _ _ _
 rw[hv]
 have c1:=s203 (n1 != n2) (zI (val m1 * val m2)) (by omega)
 rw[zM] at c1
 have hb:(n1 != n2)=!decide (n1=n2):=by cases n1 <;> cases n2 <;> rfl
 generalize xF (sgn (n1 != n2) (val m1 * val m2))=W at *
 generalize hnb:(n1 != n2)=nb at *
 cbv
 refine zO 11 (by cbv) ?_
 cbv
 refine dA (s194 m1 m2 (by omega) (by omega)) ?_
 cbv
 refine yU (by exact⟨wU hb,lR,trivial⟩) c1 rfl ?_
 cbv
 (refine rC ?_;cbv)
 exact okA
abbrev rv (x:R):PV:=.agg [.bool (fun _=>x.neg),nat x.num,nat x.den]
structure R.sz (x:R) (k:Nat):Prop where
 n:x.num.length≤k
 d:x.den.length≤k
theorem z8 {k:Nat}{q:Rat}(h:Fits k q):(zJ q).sz k:=⟨h.lnum,h.lden⟩
theorem R.sz.fits {k:Nat}{x:R}(h:x.sz k)(hk:1≤k):Fits k x.q:=zQ8 h.n h.d hk
theorem R.sz.mono {k m:Nat}{x:R}(h:x.sz k)(hm:k≤m):x.sz m:=⟨Nat.le_trans h.n hm,Nat.le_trans h.d hm⟩
def xQ (d:List UInt32):List UInt32:=if val d=0 then [1] else d
theorem uU (x:R):val (xQ x.den)=x.d:=by
 unfold xQ R.d
 split
 ·rfl
 ·rfl
theorem qZ (d:List UInt32):(xQ d).length≤d.length+1:=by unfold xQ;split <;> simp
theorem m4:zI 1=[1]:=by rw[g8 (by decide)];rw[show 1 / B=0 by decide,yM];rfl
theorem kV {n:Nat}:zI n=[1]↔n=1:=by
 constructor
 ·intro h
  have:=zM n
  rw[h] at this
  exact this.symm
 ·intro h;rw[h,m4]
theorem s210:zE 215 [] (nat [1]):=by
 refine sF Tryz.f215 ?_
 cbv
 (refine rC ?_;cbv)
 exact zP rfl
theorem s224 (l:List UInt32)(hl:l.length<2^40):zE 211 [nat l] (.bool (fun _=>decide (l=[1]))):=by
 refine sF Tryz.f211 ?_
 generalize hd:decide (l=[1])=d
 cbv
 refine zR (fun h=>?_) (fun h=>?_)
 ·have h1:l.length=1:=om
  cbv
  refine yZ 0 rfl (by omega) ?_
  cbv
  (refine rC ?_;cbv)
  refine zV ?_
  rw[←hd,decide_eq_decide]
  match l,h1 with
  | [x],_ =>
   have e1:[x].getD 0 0=x:=rfl
   rw[e1]
   constructor
   ·intro h2
    have:x=1:=UInt32.toNat_inj.1 (by show x.toNat=1;(try dsimp only [zG] at *);omega)
    rw[this]
   ·intro h2;rw[List.cons.inj h2 |>.1];rfl
 ·cbv
  (refine rC ?_;cbv)
  refine zN ?_
  rw[←hd]
  exact decide_eq_false fun e=>h (by rw[e];rfl)
theorem s195 (x:R)(hx:x.den.length<2^40):zE 181 [rv x] (nat (xQ x.den)):=by
 refine sF Tryz.f181 ?_
 obtain⟨neg,num,den⟩:=x
 have h0:((qI (val den):Nat):Int)=0↔val den=0:=by rw[←rB];omega
 have hs:=s202 den hx
 have e1:val den=0→xQ den=[1]:=fun h=>if_pos h
 have e2:val den≠0→xQ den=den:=fun h=>if_neg h
 show wp _ _ (jI _ (nat (xQ den)) [] [])
 generalize xQ den=u at *
 generalize qI (val den)=b at h0 hs
 cbv
 refine cA hs ?_
 cbv
 refine zH (fun h=>?_) (fun h=>?_)
 ·cbv
  refine cA s210 ?_
  cbv
  (refine rC ?_;cbv)
  exact zP (by rw[e1 (h0.1 h)])
 ·cbv
  (refine rC ?_;cbv)
  exact zP (by rw[e2 (fun e=>h (h0.2 e))])
theorem s193 (neg:Bool)(num den:List UInt32)(hn:num.length<2^38)(hd:den.length<2^38)(h0:val den≠0):zE 179 [.bool (fun _=>neg),nat num,nat den] (rv (zJ (mkRat (sgn neg (val num)) (val den)))):=by
 refine sF Tryz.f179 ?_
 rw[mS h0]
 have hnl:=zU num
 have hdl:=zU den
 have hg0:Nat.gcd (val num) (val den)≠0:=fun e=>h0 (Nat.eq_zero_of_gcd_eq_zero_right e)
 have cg:=s225 (zI (val num)) (zI (val den)) (by omega) (by omega)
 have cn:=s226 (zI (val num)) (zI (Nat.gcd (val num) (val den))) (by omega) (Nat.lt_of_le_of_lt (uD (Nat.le_of_dvd (Nat.pos_of_ne_zero h0) (Nat.gcd_dvd_right _ _))) (by omega)) (by rw[zM];exact hg0)
 have cd:=s226 (zI (val den)) (zI (Nat.gcd (val num) (val den))) (by omega) (Nat.lt_of_le_of_lt (uD (Nat.le_of_dvd (Nat.pos_of_ne_zero h0) (Nat.gcd_dvd_right _ _))) (by omega)) (by rw[zM];exact hg0)
 have cu:=s224 (zI (Nat.gcd (val num) (val den))) (Nat.lt_of_le_of_lt (uD (Nat.le_of_dvd (Nat.pos_of_ne_zero h0) (Nat.gcd_dvd_right _ _))) (by omega))
 have cf:=s224 (zI (val den / Nat.gcd (val num) (val den))) (Nat.lt_of_le_of_lt (uD (Nat.div_le_self _ _)) (by omega))
 have cd1:=s224 (zI (val den)) (by omega)
 have cm1:=s223 num (by omega)
 have cm2:=s223 den (by omega)
 rw[zM,zM] at cg cn cd
 have hN:∀ n,((lm (zI n)).length:Int)=0↔n=0:=fun n=>by
  rw[zK,←@xH n,←List.length_eq_zero_iff];omega
 have hge1:Nat.gcd (val num) (val den)=1→val num / Nat.gcd (val num) (val den)=val num∧val den / Nat.gcd (val num) (val den)=val den:=fun e=>by rw[e,Nat.div_one,Nat.div_one];exact⟨rfl,rfl⟩
 have hz:val num=0→val num / Nat.gcd (val num) (val den)=0∧val den / Nat.gcd (val num) (val den)=1:=fun e=>by rw[e,Nat.gcd_zero_left,Nat.zero_div,Nat.div_self (Nat.pos_of_ne_zero h0)];exact⟨rfl,rfl⟩
 have hd1:val den=1→Nat.gcd (val num) (val den)=1:=fun e=>by rw[e,Nat.gcd_one_right]
 generalize val den / Nat.gcd (val num) (val den)=D' at *
 generalize val num / Nat.gcd (val num) (val den)=N' at *
 generalize Nat.gcd (val num) (val den)=g at *
 generalize val num=N at *
 generalize val den=Dn at *
 show wp _ _ (jI _ (.agg [.bool (fun _=>neg && decide (N≠0)),nat (zI N'),nat (if D'=1 then [] else zI D')]) [] [])
 generalize hr1:(neg && decide (N≠0))=r1
 generalize hr2:(if D'=1 then [] else zI D')=r2
 cbv
 refine cA cm1 ?_
 cbv
 refine zH (fun h=>?_) (fun h=>?_)
 ·have e:=(hN N).1 h
  obtain⟨e1,e2⟩:=hz e
  cbv
  (refine rC ?_;cbv)
  refine⟨zN ?_,xC ?_,xC ?_,trivial⟩
  ·rw[←hr1,e];simp
  ·rw[e1,yM];rfl
  ·rw[←hr2,if_pos e2];rfl
 ·have e:=fun e=>h ((hN N).2 e)
  have hr1':neg=r1:=by rw[←hr1,show decide (N≠0)=true from decide_eq_true e,Bool.and_true]
  cbv
  refine cA cm2 ?_
  cbv
  refine cA cd1 ?_
  cbv
  refine zH (fun h2=>?_) (fun h2=>?_)
  ·have e1:=kV.1 h2
   have e3:=hd1 e1
   obtain⟨e4,e5⟩:=hge1 e3
   cbv
   (refine rC ?_;cbv)
   refine⟨zV hr1',zP (by rw[e4]),xC ?_,trivial⟩
   rw[←hr2,if_pos (by rw[e5,e1])];rfl
  ·cbv
   refine cA cg ?_
   cbv
   refine cA cu ?_
   cbv
   refine j9 (σ:=Unit) (fun _=>⟨[(0,.bool (fun _=>neg)),(1,nat (zI N')),(2,nat (zI D')),(6,.ptr 6 0)],[(6,.box [.ff,.nil,.nil])]⟩) (fun _=>True) (fun h3=>?_) (fun h3=>?_) ?_
   ·have e3:=kV.1 h3
    obtain⟨e4,e5⟩:=hge1 e3
    cbv
    refine⟨(),trivial,.le ?_ ?_ rfl⟩
    ·cbv
     exact⟨lR,zP (by rw[e4]),zP (by rw[e5]),lR,trivial⟩
    ·cbv
     exact okA
   ·cbv
    refine cA cn ?_
    cbv
    refine cA cd ?_
    cbv
    refine⟨(),trivial,.le ?_ ?_ rfl⟩
    ·cbv
     exact okA
    ·cbv
     exact okA
   intro _ _
   cbv
   refine cA cf ?_
   cbv
   refine zH (fun h3=>?_) (fun h3=>?_)
   ·cbv
    (refine rC ?_;cbv)
    exact⟨zV hr1',lR,xC (by rw[←hr2,if_pos (kV.1 h3)];rfl),trivial⟩
   ·cbv
    (refine rC ?_;cbv)
    exact⟨zV hr1',lR,zP (by rw[←hr2,if_neg (fun e=>h3 (kV.2 e))]),trivial⟩
theorem s161 (x:R)(hx:x.sz (2^36)):zE 169 [rv x] (rv (zJ x.q)):=by
 refine sF Tryz.f169 ?_
 have h1:=hx.n
 have h2:=hx.d
 have h3:=qZ x.den
 have cu:=s195 x (by omega)
 have cq:=s193 x.neg x.num (xQ x.den) (by omega) (by omega) (by rw[uU];exact x.d_ne)
 rw[uU] at cq
 have e:mkRat (sgn x.neg (val x.num)) x.d=x.q:=rfl
 rw[e] at cq
 generalize zJ x.q=W at *
 generalize xQ x.den=u at *
 obtain⟨neg,num,den⟩:=x
 cbv
 refine zO 7 (by cbv) ?_
 cbv
 refine dA cu ?_
 cbv
 refine dA cq ?_
 cbv
 (refine rC ?_;cbv)
 exact okA
theorem zQU (x:R):x.ok=true↔(x.neg=(zJ x.q).neg∧x.num.length=(zJ x.q).num.length∧x.den.length=(zJ x.q).den.length∧vP (val x.num) (val (zJ x.q).num)=0∧vP (val x.den) (val (zJ x.q).den)=0):=by
 have hc:∀ a b,vP a b=0↔a=b:=fun a b=>by unfold vP;split <;> (try split) <;> omega
 simp only[R.ok,decide_eq_true_eq,hc]
 constructor
 ·intro h
  rw[←h]
  exact⟨rfl,rfl,rfl,rfl,rfl⟩
 ·rintro ⟨h1,h2,h3,h4,h5⟩
  have e1:=lK h2 h4
  have e2:=lK h3 h5
  generalize zJ x.q=y at *
  obtain⟨a,b,c⟩:=x
  obtain⟨a',b',c'⟩:=y
  simp only at h1 e1 e2
  rw[h1,e1,e2]
theorem zQT (neg:Bool)(num:List UInt32):R.ok ⟨neg,num,[]⟩=(gC num && (!neg || decide (0<num.length))):=by
 have hq:R.q ⟨neg,num,[]⟩=mkRat (sgn neg (val num)) 1:=rfl
 have hp:=mS (neg:=neg) (n:=val num) (d:=1) (by decide)
 rw[Bool.eq_iff_iff]
 simp only[R.ok,decide_eq_true_eq,hq,hp,Nat.gcd_one_right,Nat.div_one,if_true,R.mk.injEq,and_true,Bool.and_eq_true,Bool.or_eq_true,Bool.not_eq_true']
 have hlen:0<num.length↔num≠[]:=by rw[←List.length_pos_iff]
 constructor
 ·rintro ⟨h1,h2⟩
  have hcn:gC num=true:=by rw[h2];exact dR _
  refine⟨hcn,?_⟩
  cases neg with
  | false=>exact .inl rfl
  | true =>
   right
   rw[hlen]
   intro e
   rw[e] at h1
   simp [val] at h1
 ·rintro ⟨h1,h2⟩
  refine⟨?_,(sR h1).symm⟩
  cases neg with
  | false=>rfl
  | true =>
   have:=hlen.1 (h2.resolve_left (by decide))
   have:=zBG h1 this
   simp;omega
theorem s103 (x:R)(hx:x.sz (2^36)):zE 127 [rv x] (.bool (fun _=>x.ok)):=by
 refine sF Tryz.f127 ?_
 have h1:=hx.n
 have h2:=hx.d
 have hok:=zQU x
 have hnil:x.den.length=0→x.ok=(gC x.num && (!x.neg || decide (0<x.num.length))):=by
  intro h
  obtain⟨a,b,c⟩:=x
  have:c=[]:=List.eq_nil_of_length_eq_zero h
  subst this
  exact zQT a b
 have cc:=s161 x hx
 have cv:=s160 x.num (by omega)
 have hf:Fits (2^36) x.q:=hx.fits (by decide)
 have hl1:=hf.lnum
 have hl2:=hf.lden
 have cm1:=s162 x.num (zJ x.q).num (by omega) (by omega)
 have cm2:=s162 x.den (zJ x.q).den (by omega) (by omega)
 generalize hO:x.ok=O at *
 generalize zJ x.q=W at *
 clear hf
 obtain⟨neg,num,den⟩:=x
 obtain⟨neg',num',den'⟩:=W
 simp only at *
 generalize vP (val num) (val num')=c1 at *
 generalize vP (val den) (val den')=c2 at *
 cbv
 refine zH (fun h=>?_) (fun h=>?_)
 ·have e:=hnil om
  cbv
  refine cA cv ?_
  generalize gC num=cn at *
  cbv
  refine z4 (fun h3=>?_) (fun h3=>?_)
  ·subst h3
   cbv
   refine z4 (fun h4=>?_) (fun h4=>?_)
   ·subst h4
    cbv
    (refine rC ?_;cbv)
    exact zV (by rw[e];simp [zK])
   ·subst h4
    cbv
    (refine rC ?_;cbv)
    exact yL (by rw[e];rfl)
  ·subst h3
   cbv
   (refine rC ?_;cbv)
   exact zN (by rw[e];rfl)
 ·cbv
  refine cA cc ?_
  cbv
  have hno:∀ P:Prop,¬ P→(O=true→P)→O=false:=fun P h h'=>by cases O;rfl;exact absurd (h' rfl) h
  refine zR (fun h3=>?_) (fun h3=>?_)
  ·cbv
   refine zR (fun h4=>?_) (fun h4=>?_)
   ·cbv
    refine zR (fun h5=>?_) (fun h5=>?_)
    ·cbv
     refine cA cm1 ?_
     cbv
     refine zR (fun h6=>?_) (fun h6=>?_)
     ·cbv
      refine cA cm2 ?_
      cbv
      (refine rC ?_;cbv)
      refine zV ?_
      rw[Bool.eq_iff_iff,hok,decide_eq_true_eq]
      (try dsimp only [zG] at *)
      simp only[zK] at h4 h5
      exact⟨fun h7=>⟨h3,by omega,by omega,h6,h7⟩,fun h7=>h7.2.2.2.2⟩
     ·cbv
      (refine rC ?_;cbv)
      exact zN (hno _ h6 fun h7=>(hok.1 h7).2.2.2.1)
    ·cbv
     (refine rC ?_;cbv)
     refine zN (hno _ h5 fun h7=>?_)
     have:=(hok.1 h7).2.2.1
     (try dsimp only [zG] at *)
     simp only[zK];omega
   ·cbv
    (refine rC ?_;cbv)
    refine zN (hno _ h4 fun h7=>?_)
    have:=(hok.1 h7).2.1
    (try dsimp only [zG] at *)
    simp only[zK];omega
  ·cbv
   (refine rC ?_;cbv)
   exact zN (hno _ h3 fun h7=>(hok.1 h7).1)
end Go.Proofs.YtgcpehdkdnkgeaaGreat
