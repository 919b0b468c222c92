/- A part of the proof: PnC, IgA, RqA, RqB. -/
import Derived.Test.YtgcpehdkdnkgeaaGreatX14
import Derived.Test.YtgcpehdkdnkgeaaGreatX17
set_option linter.all false
namespace Go.Proofs.YtgcpehdkdnkgeaaGreat
structure R where
 neg:Bool
 num:List UInt32
 den:List UInt32
deriving DecidableEq
def sgn (b:Bool) (n:Nat):Int:=if b then -(n:Int) else n
theorem vS (b:Bool)(n:Nat):(sgn b n).natAbs=n:=by cases b <;> simp [sgn]
theorem zD1 (b:Bool):sgn b 0=0:=by cases b <;> rfl
theorem zC8 {b:Bool}{n:Nat}:sgn b n<0↔(b=true∧n≠0):=by cases b <;> simp [sgn] <;> omega
theorem i7 (z:Int):sgn (decide (z<0)) z.natAbs=z:=by
 by_cases h:z<0 <;> simp [sgn,h] <;> omega
theorem zBZ (a b:Bool)(n m:Nat):sgn a n * sgn b m=sgn (a != b) (n * m):=by
 cases a <;> cases b <;> simp [sgn,Int.neg_mul,Int.mul_neg]
theorem n9 (a:Bool)(n m:Nat):sgn a n * (m:Int)=sgn a (n * m):=by
 cases a <;> simp [sgn,Int.neg_mul]
theorem zHB (a:Bool)(n:Nat):sgn (!a) n=- sgn a n:=by cases a <;> simp [sgn]
def R.n (x:R):Int:=sgn x.neg (val x.num)
def R.d (x:R):Nat:=if val x.den=0 then 1 else val x.den
def R.q (x:R):Rat:=mkRat x.n x.d
theorem R.d_ne (x:R):x.d≠0:=by unfold R.d;split <;> omega
def zC (q:Rat):R:=⟨decide (q.num<0),zJ q.num.natAbs,if q.den=1 then [] else zJ q.den⟩
theorem zL4 (q:Rat):(zC q).n=q.num:=by simp only[R.n,zC,zP];exact i7 _
theorem zR2 (q:Rat):(zC q).d=q.den:=by
 have:=q.den_pos
 unfold R.d zC
 by_cases h:q.den=1
 ·simp [h,val]
 ·simp only[h,if_false,zP];split <;> omega
theorem zY (q:Rat):(zC q).q=q:=by rw[R.q,zL4,zR2];exact Rat.mkRat_self q
theorem v5:zC 0=⟨false,[],[]⟩:=by simp [zC,yM]
theorem zHM {neg:Bool}{n d:Nat}(hd:d≠0):(mkRat (sgn neg n) d).num=sgn neg (n / Nat.gcd n d):=by
 rw[Rat.num_mkRat,if_neg hd,vS,Nat.gcd_comm]
 have hg:((Nat.gcd n d:Nat):Int) ∣ (n:Int):=Int.natCast_dvd_natCast.2 (Nat.gcd_dvd_left n d)
 cases neg
 ·simp only[sgn];rfl
 ·simp only[sgn]
  show (-(n:Int)) / ((Nat.gcd n d:Nat):Int)=- ((n / Nat.gcd n d:Nat):Int)
  rw[Int.neg_ediv_of_dvd hg];rfl
theorem zHN {neg:Bool}{n d:Nat}(hd:d≠0):(mkRat (sgn neg n) d).den=d / Nat.gcd n d:=by
 rw[Rat.den_mkRat,if_neg hd,vS,Nat.gcd_comm]
theorem nD {neg:Bool}{n d:Nat}(hd:d≠0) :
  zC (mkRat (sgn neg n) d)=⟨neg && decide (n≠0),zJ (n / Nat.gcd n d),if d / Nat.gcd n d=1 then [] else zJ (d / Nat.gcd n d)⟩:=by
 rw[zC,zHM hd,zHN hd,vS]
 congr 1
 rw[Bool.eq_iff_iff]
 have hg:0<Nat.gcd n d:=Nat.gcd_pos_of_pos_right n (Nat.pos_of_ne_zero hd)
 have h1:n / Nat.gcd n d=0↔n=0:=by
  rw[Nat.div_eq_zero_iff_lt hg]
  constructor
  ·intro h
   rcases Nat.eq_zero_or_pos n with h0 | h0
   ·exact h0
   ·have:=Nat.gcd_le_left d h0;omega
  ·intro h;omega
 simp only[decide_eq_true_eq,Bool.and_eq_true,zC8,ne_eq,h1]
theorem zM0 (a b:R):a.q+b.q=mkRat (a.n * b.d+b.n * a.d) (a.d * b.d):=Rat.mkRat_add_mkRat _ _ a.d_ne b.d_ne
theorem zPR (a b:R):a.q * b.q=mkRat (a.n * b.n) (a.d * b.d):=Rat.mkRat_mul_mkRat _ _ _ _
theorem zMZ (a:R):(⟨!a.neg,a.num,a.den⟩:R).q=- a.q:=by
 simp only[R.q,R.n,R.d,zHB,Rat.neg_mkRat]
theorem t6 {n:Int}{d:Nat}(hd:d≠0):0≤mkRat n d↔0≤n:=by
 rw[←Rat.divInt_ofNat];exact Rat.divInt_nonneg_iff_of_pos_right (by omega)
theorem zS0 (a b:R):a.q - b.q=mkRat (a.n * b.d - b.n * a.d) (a.d * b.d):=by
 rw[Rat.sub_eq_add_neg,←zMZ,zM0]
 simp only[R.n,R.d,zHB,Int.neg_mul,Int.sub_eq_add_neg]
theorem q_le (a b:R):a.q≤b.q↔a.n * b.d≤b.n * a.d:=by
 rw[Rat.le_iff_sub_nonneg,zS0,t6 (Nat.mul_ne_zero b.d_ne a.d_ne)]
 omega
theorem q_lt (a b:R):a.q<b.q↔a.n * b.d<b.n * a.d:=by
 rw[←Rat.not_le,q_le];omega
theorem zIS (a:R):a.q=0↔a.n=0:=Rat.mkRat_eq_zero a.d_ne
theorem zEB (a:R):0≤a.q↔0≤a.n:=t6 a.d_ne
theorem zAX (a:R):a.q<0↔a.n<0:=by rw[←Rat.not_le,zEB];omega
theorem zS1 (a:R):0<a.q↔0<a.n:=by
 have h1:=zEB a;have h2:=zIS a
 rw[Rat.lt_iff_le_and_ne]
 constructor
 ·rintro ⟨h,h'⟩;have:=h1.1 h;have:a.n≠0:=fun e=>h' (h2.2 e).symm;omega
 ·intro h;exact⟨h1.2 (by omega),fun e=>by have:=h2.1 e.symm;omega⟩
def yB (q:Rat):Int:=if q<0 then -1 else if 0<q then 1 else 0
def y7 (a b:Rat):Int:=if a<b then -1 else if b<a then 1 else 0
def qK (z:Int):Int:=if z<0 then -1 else if 0<z then 1 else 0
def l7 (a b:Int):Int:=if a<b then -1 else if b<a then 1 else 0
theorem zLM (a:R):yB a.q=qK a.n:=by simp only[yB,qK,zAX,zS1]
theorem zR6 (a b:R):y7 a.q b.q=l7 (a.n * b.d) (b.n * a.d):=by simp only[y7,l7,q_lt]
structure Fits (k:Nat) (q:Rat):Prop where
 num:q.num.natAbs<B ^ k
 den:q.den<B ^ k
theorem Fits.mono {k m:Nat}{q:Rat}(h:Fits k q)(hm:k≤m):Fits m q :=
 ⟨Nat.lt_of_lt_of_le h.num (Nat.pow_le_pow_right xU hm),Nat.lt_of_lt_of_le h.den (Nat.pow_le_pow_right xU hm)⟩
theorem aF {k:Nat}{n:Int}{d:Nat}(hn:n.natAbs<B ^ k)(hd:d<B ^ k)(h0:d≠0):Fits k (mkRat n d):=by
 have hs:n=sgn (decide (n<0)) n.natAbs:=(i7 n).symm
 rw[hs]
 refine⟨?_,?_⟩
 ·rw[zHM h0,vS]
  exact Nat.lt_of_le_of_lt (Nat.div_le_self _ _) hn
 ·rw[zHN h0]
  exact Nat.lt_of_le_of_lt (Nat.div_le_self _ _) hd
theorem zRQ {k:Nat}{x:R}(h1:x.num.length≤k)(h2:x.den.length≤k)(hk:1≤k):Fits k x.q:=by
 refine aF ?_ ?_ x.d_ne
 ·rw[R.n,vS]
  exact Nat.lt_of_lt_of_le (xI _) (Nat.pow_le_pow_right xU h1)
 ·unfold R.d
  split
  ·exact Nat.lt_of_lt_of_le (show 1<B ^ 1 by decide) (Nat.pow_le_pow_right xU hk)
  ·exact Nat.lt_of_lt_of_le (xI _) (Nat.pow_le_pow_right xU h2)
theorem Fits.lnum {k:Nat}{q:Rat}(h:Fits k q):(zC q).num.length≤k:=yD h.num
theorem Fits.lden {k:Nat}{q:Rat}(h:Fits k q):(zC q).den.length≤k:=by
 unfold zC
 by_cases h1:q.den=1
 ·simp [h1]
 ·simp only[h1,if_false];exact yD h.den
theorem kK {a b k m:Nat}(ha:a<B ^ k)(hb:b<B ^ m):a * b<B ^ (k+m):=by
 rw[Nat.pow_add];exact Nat.mul_lt_mul'' ha hb
theorem xP {k m:Nat}{a b:Rat}(ha:Fits k a)(hb:Fits m b):Fits (k+m) (a * b):=by
 rw[Rat.mul_def']
 refine aF ?_ (kK ha.den hb.den) (Nat.mul_ne_zero a.den_nz b.den_nz)
 rw[Int.natAbs_mul]
 exact kK ha.num hb.num
theorem vA {k m:Nat}{a b:Rat}(ha:Fits k a)(hb:Fits m b):Fits (k+m+1) (a+b):=by
 rw[Rat.add_def']
 have h1:=kK ha.num hb.den
 have h2:=kK hb.num ha.den
 rw[Nat.add_comm m k] at h2
 have h3:B ^ (k+m+1)=B ^ (k+m) * B:=Nat.pow_succ _ _
 have hd:=kK ha.den hb.den
 have h5:B ^ (k+m) * 2≤B ^ (k+m) * B:=Nat.mul_le_mul_left _ (by decide)
 refine aF ?_ ?_ (Nat.mul_ne_zero a.den_nz b.den_nz)
 ·have h4:=Int.natAbs_add_le (a.num * b.den) (b.num * a.den)
  rw[Int.natAbs_mul,Int.natAbs_mul,Int.natAbs_natCast,Int.natAbs_natCast] at h4
  rw[h3];omega
 ·rw[h3];omega
theorem sT {k:Nat}{a:Rat}(ha:Fits k a):Fits k (-a):=⟨by rw[Rat.neg_num,Int.natAbs_neg];exact ha.num,by rw[Rat.neg_den];exact ha.den⟩
theorem qE {k m:Nat}{a b:Rat}(ha:Fits k a)(hb:Fits m b):Fits (k+m+1) (a - b):=by
 rw[Rat.sub_eq_add_neg];exact vA ha (sT hb)
theorem wH {k:Nat}(hk:1≤k):Fits k 0 :=
 ⟨by simp;exact Nat.pow_pos xU,by simp;exact Nat.lt_of_lt_of_le (show 1<B ^ 1 by decide) (Nat.pow_le_pow_right xU hk)⟩
theorem mO {k:Nat}{z:Int}(h:z.natAbs<B ^ k)(hk:1≤k):Fits k (z:Rat) :=
 ⟨by simpa using h,by simp;exact Nat.lt_of_lt_of_le (show 1<B ^ 1 by decide) (Nat.pow_le_pow_right xU hk)⟩
theorem zEX {k:Nat}{a:Rat}(ha:Fits k a):Fits k a⁻¹:=by
 refine⟨?_,?_⟩
 ·rw[Rat.num_inv,Int.natAbs_mul]
  have h1:a.num.sign.natAbs≤1:=by rw[Int.natAbs_sign];split <;> omega
  have h2:=ha.den
  have:=Nat.mul_le_mul_right ((a.den:Int).natAbs) h1
  rw[Int.natAbs_natCast] at *
  omega
 ·rw[Rat.den_inv]
  split
  ·have:=ha.den;have:=a.den_pos;omega
  ·exact ha.num
def R.ok (x:R):Bool:=decide (x=zC x.q)
theorem rH (q:Rat):(zC q).ok=true:=by simp [R.ok,zY]
end Go.Proofs.YtgcpehdkdnkgeaaGreat
namespace Go.Proofs.YtgcpehdkdnkgeaaGreat
open Go
set_option maxRecDepth 100000
theorem xG {f:FuncId}{args args':List PV}{K:PV→Prop}{r:PV}(h2:kB les args args')(h3:zB f args' r)(h5:nmIn [] r=true)(h4:K r):CallS f args K:=⟨args',r,rM h2,h3,h5,h4⟩
theorem dA {f:FuncId}{args args':List PV}{K:PV→Prop}{r:PV}(h3:zB f args' r)(h4:K r)(h2:kB les args args':=by exact okA)(h5:nmIn [] r=true:=by exact rfl):CallS f args K:=xG h2 h3 h5 h4
theorem jP (a b:List UInt32):(zJ (val a * val b)).length≤a.length+b.length:=yD (kK (xI a) (xI b))
theorem zHT (a b:List UInt32):(zJ (val a+val b)).length≤a.length+b.length+1:=by
 refine yD ?_
 have h1:=Nat.lt_of_lt_of_le (xI a) (Nat.pow_le_pow_right xU (Nat.le_add_right a.length b.length))
 have h2:=Nat.lt_of_lt_of_le (xI b) (Nat.pow_le_pow_right xU (Nat.le_add_left b.length a.length))
 have h3:B ^ (a.length+b.length) * 2≤B ^ (a.length+b.length) * B:=Nat.mul_le_mul_left _ (by decide)
 rw[Nat.pow_succ]
 omega
theorem iH (a b:List UInt32):(zJ (val a - val b)).length≤a.length:=yD (Nat.lt_of_le_of_lt (Nat.sub_le _ _) (xI a))
structure Z where
 neg:Bool
 mag:List UInt32
def Z.v (x:Z):Int:=sgn x.neg (val x.mag)
def xL (z:Int):Z:=⟨decide (z<0),zJ z.natAbs⟩
theorem jX (z:Int):(xL z).v=z:=by simp only[Z.v,xL,zP];exact i7 z
abbrev zv (x:Z):PV:=.agg [.bool (fun _=>x.neg),nat x.mag]
theorem zEN (neg:Bool)(n:Nat):xL (sgn neg n)=⟨neg && decide (n≠0),zJ n⟩:=by
 simp only[xL,vS]
 congr 1
 rw[Bool.eq_iff_iff]
 simp only[decide_eq_true_eq,zC8,Bool.and_eq_true]
theorem zLL {b:Bool}{n:Nat}(h:¬ sgn b n<0):sgn b n=(n:Int):=by
 cases b
 ·rfl
 ·simp only[sgn,if_true] at h ⊢
  omega
theorem s203 (neg:Bool)(m:List UInt32)(hm:m.length<2^40):zB 198 [.bool (fun _=>neg),nat m] (zv (xL (sgn neg (val m)))):=by
 refine sF Tryz.f198 ?_
 rw[zEN]
 cbv
 refine cA (s223 m hm) ?_
 cbv
 refine z5 (fun h=>?_) (fun h=>?_)
 ·subst h
  cbv
  (refine rC ?_;cbv)
  refine⟨zX ?_,lR,trivial⟩
  rw[Bool.eq_iff_iff]
  simp only[decide_eq_true_eq,zK,Bool.true_and]
  rw[←@xO (val m),←List.length_eq_zero_iff]
  (try dsimp only [zG] at *)
  omega
 ·subst h
  cbv
  (refine rC ?_;cbv)
  exact okA
theorem s164 (x:Int)(h1:-9223372036854775808≤x)(h2:x<9223372036854775808):zB 185 [.int .i64 (fun _=>x)] (zv (xL x)):=by
 refine sF Tryz.f185 ?_
 have hBB:B * B=18446744073709551616:=by decide
 have e:zv (xL x)=.agg [.bool (fun _=>decide (x<0)),nat (zJ x.natAbs)]:=rfl
 rw[e]
 cbv
 refine zF (fun h=>?_) (fun h=>?_)
 ·have e1:nx .u64 (0 - nx .u64 x)=((x.natAbs:Nat):Int):=by simp only[wX];omega
  generalize hn:x.natAbs=n at *
  cbv
  refine yQ rfl (by exact⟨zE e1,trivial⟩) (s211 n (by omega)) rfl ?_
  cbv
  (refine rC ?_;cbv)
  exact⟨z7 (decide_eq_true h),lR,trivial⟩
 ·have e1:nx .u64 x=((x.natAbs:Nat):Int):=by simp only[wX];omega
  generalize hn:x.natAbs=n at *
  cbv
  refine yQ rfl (by exact⟨zE e1,trivial⟩) (s211 n (by omega)) rfl ?_
  cbv
  (refine rC ?_;cbv)
  exact⟨zM (decide_eq_false h),lR,trivial⟩
theorem s146 (x:Z)(hx:x.mag.length<2^40):zB 141 [zv x] (.int .i64 (fun _=>qK x.v)):=by
 refine sF Tryz.f141 ?_
 obtain⟨neg,mag⟩:=x
 have hv:Z.v ⟨neg,mag⟩=sgn neg (val mag):=rfl
 rw[hv]
 have h0:((kA (val mag):Nat):Int)=0↔val mag=0:=by rw[←rU];omega
 have hs:=s202 mag hx
 generalize kA (val mag)=b at h0 hs
 generalize hS:qK (sgn neg (val mag))=S at *
 cbv
 refine cA hs ?_
 cbv
 refine zF (fun h=>?_) (fun h=>?_)
 ·cbv
  (refine rC ?_;cbv)
  refine zE ?_
  rw[←hS,h0.1 h,zD1];rfl
 ·have hne:val mag≠0:=fun e=>h (h0.2 e)
  cbv
  refine zV (fun h2=>?_) (fun h2=>?_)
  ·subst h2
   cbv
   (refine rC ?_;cbv)
   refine zE ?_
   rw[←hS,show sgn true (val mag)=-(val mag:Int) from rfl];unfold qK;rw[if_pos (by omega)]
  ·subst h2
   cbv
   (refine rC ?_;cbv)
   refine zE ?_
   rw[←hS,show sgn false (val mag)=(val mag:Int) from rfl];unfold qK;rw[if_neg (by omega),if_pos (by omega)]
theorem s212 (x y:Z)(hx:x.mag.length<2^40)(hy:y.mag.length<2^40):zB 199 [zv x,zv y] (.int .i64 (fun _=>l7 x.v y.v)):=by
 refine sF Tryz.f199 ?_
 have hsx:=s146 x hx
 have hsy:=s146 y hy
 have hxv:x.v=sgn x.neg (val x.mag):=rfl
 have hyv:y.v=sgn y.neg (val y.mag):=rfl
 have h1:qK x.v<qK y.v→l7 x.v y.v=-1:=by intro h;unfold qK at h;unfold l7;split at h <;> split at h <;> (try split at h) <;> (try split at h) <;> first | (rw[if_pos (by omega)]) | omega
 have h2:qK y.v<qK x.v→l7 x.v y.v=1:=by intro h;unfold qK at h;unfold l7;split at h <;> split at h <;> (try split at h) <;> (try split at h) <;> first | (rw[if_neg (by omega),if_pos (by omega)]) | omega
 have h3:qK x.v=qK y.v→qK x.v<0→l7 x.v y.v=vZ (val y.mag) (val x.mag):=by
  intro h h'
  have a1:x.v<0:=by unfold qK at h';split at h' <;> (try split at h') <;> omega
  have a2:y.v<0:=by rw[h] at h';unfold qK at h';split at h' <;> (try split at h') <;> omega
  rw[hxv,zC8] at a1
  rw[hyv,zC8] at a2
  rw[hxv,hyv,a1.1,a2.1]
  simp only[l7,vZ,sgn,if_true]
  split <;> split <;> (try split) <;> (try split) <;> omega
 have h4:qK x.v=qK y.v→¬ qK x.v<0→l7 x.v y.v=vZ (val x.mag) (val y.mag):=by
  intro h h'
  have a1:¬ x.v<0:=by unfold qK at h';split at h' <;> (try split at h') <;> omega
  have a2:¬ y.v<0:=by rw[h] at h';unfold qK at h';split at h' <;> (try split at h') <;> omega
  have b1:x.v=(val x.mag:Int):=by rw[hxv] at a1 ⊢;exact zLL a1
  have b2:y.v=(val y.mag:Int):=by rw[hyv] at a2 ⊢;exact zLL a2
  rw[b1,b2]
  simp only[l7,vZ]
  split <;> split <;> (try split) <;> (try split) <;> omega
 generalize l7 x.v y.v=C at *
 generalize qK x.v=s at *
 generalize qK y.v=t at *
 cbv
 refine zO 4 (by cbv) ?_
 cbv
 refine dA hsx ?_
 cbv
 refine dA hsy ?_
 cbv
 refine zF (fun h=>?_) (fun h=>?_)
 ·cbv
  (refine rC ?_;cbv)
  exact zE (h1 h).symm
 ·cbv
  refine zF (fun h'=>?_) (fun h'=>?_)
  ·cbv
   (refine rC ?_;cbv)
   exact zE (h2 h').symm
  ·have he:s=t:=by omega
   cbv
   refine zF (fun h5=>?_) (fun h5=>?_)
   ·have h6:=h3 he h5
    have h7:=s162 y.mag x.mag hy hx
    rw[←h6] at h7
    cbv
    refine cA h7 ?_
    cbv
    (refine rC ?_;cbv)
    exact lR
   ·have h6:=h4 he h5
    have h7:=s162 x.mag y.mag hx hy
    rw[←h6] at h7
    cbv
    refine cA h7 ?_
    cbv
    (refine rC ?_;cbv)
    exact lR
theorem s192 (x y:Z)(hx:x.mag.length<2^38)(hy:y.mag.length<2^38):zB 178 [zv x,zv y] (zv (xL (x.v+y.v))):=by
 refine sF Tryz.f178 ?_
 obtain⟨n1,m1⟩:=x
 obtain⟨n2,m2⟩:=y
 have hv:Z.v ⟨n1,m1⟩+Z.v ⟨n2,m2⟩=sgn n1 (val m1)+sgn n2 (val m2):=rfl
 have hl:=zHT m1 m2
 have hl1:=iH m1 m2
 have hl2:=iH m2 m1
 have hx':m1.length<2^38:=hx
 have hy':m2.length<2^38:=hy
 rw[hv]
 have c1:n1=n2→zB 198 [.bool (fun _=>n1),nat (zJ (val m1+val m2))] (zv (xL (sgn n1 (val m1)+sgn n2 (val m2)))):=by
  intro h
  have:=s203 n1 (zJ (val m1+val m2)) (by omega)
  rw[zP] at this
  have e:sgn n1 (val m1+val m2)=sgn n1 (val m1)+sgn n2 (val m2):=by rw[←h];cases n1 <;> simp [sgn];omega
  rw[e] at this
  exact this
 have c2:n1≠n2→¬ vZ (val m1) (val m2)<0→zB 198 [.bool (fun _=>n1),nat (zJ (val m1 - val m2))] (zv (xL (sgn n1 (val m1)+sgn n2 (val m2)))):=by
  intro h h'
  have hge:val m2≤val m1:=by
   unfold vZ at h'
   rcases Nat.lt_or_ge (val m1) (val m2) with h3 | h3
   ·rw[if_pos h3] at h';omega
   ·exact h3
  have:=s203 n1 (zJ (val m1 - val m2)) (by omega)
  rw[zP] at this
  have e:sgn n1 (val m1 - val m2)=sgn n1 (val m1)+sgn n2 (val m2):=by cases n1 <;> cases n2 <;> simp [sgn] at h ⊢ <;> omega
  rw[e] at this
  exact this
 have c3:n1≠n2→vZ (val m1) (val m2)<0→zB 198 [.bool (fun _=>n2),nat (zJ (val m2 - val m1))] (zv (xL (sgn n1 (val m1)+sgn n2 (val m2)))):=by
  intro h h'
  have hge:val m1≤val m2:=by
   unfold vZ at h'
   rcases Nat.lt_or_ge (val m1) (val m2) with h3 | h3
   ·omega
   ·rw[if_neg (by omega)] at h';split at h' <;> omega
  have:=s203 n2 (zJ (val m2 - val m1)) (by omega)
  rw[zP] at this
  have e:sgn n2 (val m2 - val m1)=sgn n1 (val m1)+sgn n2 (val m2):=by cases n1 <;> cases n2 <;> simp [sgn] at h ⊢ <;> omega
  rw[e] at this
  exact this
 have c0:=s162 m1 m2 (by omega) (by omega)
 generalize vZ (val m1) (val m2)=cm at *
 generalize sgn n1 (val m1)+sgn n2 (val m2)=T at *
 cbv
 refine zF (fun h=>?_) (fun h=>?_)
 ·have h':=c1 h
  generalize xL T=W at *
  cbv
  refine zO 8 (by cbv) ?_
  cbv
  refine dA (s221 m1 m2 (by omega) (by omega)) ?_
  cbv
  refine dA h' ?_
  cbv
  (refine rC ?_;cbv)
  exact okA
 ·have h2:=c2 h
  have h3:=c3 h
  generalize xL T=W at *
  cbv
  refine cA c0 ?_
  cbv
  refine zF (fun h4=>?_) (fun h4=>?_)
  ·cbv
   refine cA (s222 m2 m1 (by omega) (by omega)) ?_
   cbv
   refine cA (h3 h4) ?_
   cbv
   (refine rC ?_;cbv)
   exact okA
  ·cbv
   refine cA (s222 m1 m2 (by omega) (by omega)) ?_
   cbv
   refine cA (h2 h4) ?_
   cbv
   (refine rC ?_;cbv)
   exact okA
theorem s220 (x y:Z)(hx:x.mag.length<2^38)(hy:y.mag.length<2^38):zB 207 [zv x,zv y] (zv (xL (x.v * y.v))):=by
 refine sF Tryz.f207 ?_
 obtain⟨n1,m1⟩:=x
 obtain⟨n2,m2⟩:=y
 have hl:=jP m1 m2
 have hx':m1.length<2^38:=hx
 have hy':m2.length<2^38:=hy
 have hv:Z.v ⟨n1,m1⟩ * Z.v ⟨n2,m2⟩=sgn (n1 != n2) (val m1 * val m2):=zBZ _ _ _ _
 rw[hv]
 have c1:=s203 (n1 != n2) (zJ (val m1 * val m2)) (by omega)
 rw[zP] at c1
 have hb:(n1 != n2)=!decide (n1=n2):=by cases n1 <;> cases n2 <;> rfl
 generalize xL (sgn (n1 != n2) (val m1 * val m2))=W at *
 generalize hnb:(n1 != n2)=nb at *
 cbv
 refine zO 11 (by cbv) ?_
 cbv
 refine dA (s194 m1 m2 (by omega) (by omega)) ?_
 cbv
 refine xG (by exact⟨xX hb,lR,trivial⟩) c1 rfl ?_
 cbv
 (refine rC ?_;cbv)
 exact okA
abbrev rv (x:R):PV:=.agg [.bool (fun _=>x.neg),nat x.num,nat x.den]
structure R.sz (x:R) (k:Nat):Prop where
 n:x.num.length≤k
 d:x.den.length≤k
theorem zU {k:Nat}{q:Rat}(h:Fits k q):(zC q).sz k:=⟨h.lnum,h.lden⟩
theorem R.sz.fits {k:Nat}{x:R}(h:x.sz k)(hk:1≤k):Fits k x.q:=zRQ h.n h.d hk
theorem R.sz.mono {k m:Nat}{x:R}(h:x.sz k)(hm:k≤m):x.sz m:=⟨Nat.le_trans h.n hm,Nat.le_trans h.d hm⟩
def xY (d:List UInt32):List UInt32:=if val d=0 then [1] else d
theorem qI (x:R):val (xY x.den)=x.d:=by
 unfold xY R.d
 split
 ·rfl
 ·rfl
theorem kT (d:List UInt32):(xY d).length≤d.length+1:=by unfold xY;split <;> simp
theorem nM:zJ 1=[1]:=by rw[fQ (by decide)];rw[show 1 / B=0 by decide,yM];rfl
theorem jO {n:Nat}:zJ n=[1]↔n=1:=by
 constructor
 ·intro h
  have:=zP n
  rw[h] at this
  exact this.symm
 ·intro h;rw[h,nM]
theorem s210:zB 215 [] (nat [1]):=by
 refine sF Tryz.f215 ?_
 cbv
 (refine rC ?_;cbv)
 exact zQ rfl
theorem s224 (l:List UInt32)(hl:l.length<2^40):zB 211 [nat l] (.bool (fun _=>decide (l=[1]))):=by
 refine sF Tryz.f211 ?_
 generalize hd:decide (l=[1])=d
 cbv
 refine zR (fun h=>?_) (fun h=>?_)
 ·have h1:l.length=1:=om
  cbv
  refine yY 0 rfl (by omega) ?_
  cbv
  (refine rC ?_;cbv)
  refine zX ?_
  rw[←hd,decide_eq_decide]
  match l,h1 with
  | [x],_ =>
   have e1:[x].getD 0 0=x:=rfl
   rw[e1]
   constructor
   ·intro h2
    have:x=1:=UInt32.toNat_inj.1 (by show x.toNat=1;(try dsimp only [zG] at *);omega)
    rw[this]
   ·intro h2;rw[List.cons.inj h2 |>.1];rfl
 ·cbv
  (refine rC ?_;cbv)
  refine zM ?_
  rw[←hd]
  exact decide_eq_false fun e=>h (by rw[e];rfl)
theorem s195 (x:R)(hx:x.den.length<2^40):zB 181 [rv x] (nat (xY x.den)):=by
 refine sF Tryz.f181 ?_
 obtain⟨neg,num,den⟩:=x
 have h0:((kA (val den):Nat):Int)=0↔val den=0:=by rw[←rU];omega
 have hs:=s202 den hx
 have e1:val den=0→xY den=[1]:=fun h=>if_pos h
 have e2:val den≠0→xY den=den:=fun h=>if_neg h
 show wp _ _ (j1 _ (nat (xY den)) [] [])
 generalize xY den=u at *
 generalize kA (val den)=b at h0 hs
 cbv
 refine cA hs ?_
 cbv
 refine zF (fun h=>?_) (fun h=>?_)
 ·cbv
  refine cA s210 ?_
  cbv
  (refine rC ?_;cbv)
  exact zQ (by rw[e1 (h0.1 h)])
 ·cbv
  (refine rC ?_;cbv)
  exact zQ (by rw[e2 (fun e=>h (h0.2 e))])
theorem s193 (neg:Bool)(num den:List UInt32)(hn:num.length<2^38)(hd:den.length<2^38)(h0:val den≠0):zB 179 [.bool (fun _=>neg),nat num,nat den] (rv (zC (mkRat (sgn neg (val num)) (val den)))):=by
 refine sF Tryz.f179 ?_
 rw[nD h0]
 have hnl:=z0 num
 have hdl:=z0 den
 have hg0:Nat.gcd (val num) (val den)≠0:=fun e=>h0 (Nat.eq_zero_of_gcd_eq_zero_right e)
 have cg:=s225 (zJ (val num)) (zJ (val den)) (by omega) (by omega)
 have cn:=s226 (zJ (val num)) (zJ (Nat.gcd (val num) (val den))) (by omega) (Nat.lt_of_le_of_lt (uM (Nat.le_of_dvd (Nat.pos_of_ne_zero h0) (Nat.gcd_dvd_right _ _))) (by omega)) (by rw[zP];exact hg0)
 have cd:=s226 (zJ (val den)) (zJ (Nat.gcd (val num) (val den))) (by omega) (Nat.lt_of_le_of_lt (uM (Nat.le_of_dvd (Nat.pos_of_ne_zero h0) (Nat.gcd_dvd_right _ _))) (by omega)) (by rw[zP];exact hg0)
 have cu:=s224 (zJ (Nat.gcd (val num) (val den))) (Nat.lt_of_le_of_lt (uM (Nat.le_of_dvd (Nat.pos_of_ne_zero h0) (Nat.gcd_dvd_right _ _))) (by omega))
 have cf:=s224 (zJ (val den / Nat.gcd (val num) (val den))) (Nat.lt_of_le_of_lt (uM (Nat.div_le_self _ _)) (by omega))
 have cd1:=s224 (zJ (val den)) (by omega)
 have cm1:=s223 num (by omega)
 have cm2:=s223 den (by omega)
 rw[zP,zP] at cg cn cd
 have hN:∀ n,((lm (zJ n)).length:Int)=0↔n=0:=fun n=>by
  rw[zK,←@xO n,←List.length_eq_zero_iff];omega
 have hge1:Nat.gcd (val num) (val den)=1→val num / Nat.gcd (val num) (val den)=val num∧val den / Nat.gcd (val num) (val den)=val den:=fun e=>by rw[e,Nat.div_one,Nat.div_one];exact⟨rfl,rfl⟩
 have hz:val num=0→val num / Nat.gcd (val num) (val den)=0∧val den / Nat.gcd (val num) (val den)=1:=fun e=>by rw[e,Nat.gcd_zero_left,Nat.zero_div,Nat.div_self (Nat.pos_of_ne_zero h0)];exact⟨rfl,rfl⟩
 have hd1:val den=1→Nat.gcd (val num) (val den)=1:=fun e=>by rw[e,Nat.gcd_one_right]
 generalize val den / Nat.gcd (val num) (val den)=D' at *
 generalize val num / Nat.gcd (val num) (val den)=N' at *
 generalize Nat.gcd (val num) (val den)=g at *
 generalize val num=N at *
 generalize val den=Dn at *
 show wp _ _ (j1 _ (.agg [.bool (fun _=>neg && decide (N≠0)),nat (zJ N'),nat (if D'=1 then [] else zJ D')]) [] [])
 generalize hr1:(neg && decide (N≠0))=r1
 generalize hr2:(if D'=1 then [] else zJ D')=r2
 cbv
 refine cA cm1 ?_
 cbv
 refine zF (fun h=>?_) (fun h=>?_)
 ·have e:=(hN N).1 h
  obtain⟨e1,e2⟩:=hz e
  cbv
  (refine rC ?_;cbv)
  refine⟨zM ?_,yX ?_,yX ?_,trivial⟩
  ·rw[←hr1,e];simp
  ·rw[e1,yM];rfl
  ·rw[←hr2,if_pos e2];rfl
 ·have e:=fun e=>h ((hN N).2 e)
  have hr1':neg=r1:=by rw[←hr1,show decide (N≠0)=true from decide_eq_true e,Bool.and_true]
  cbv
  refine cA cm2 ?_
  cbv
  refine cA cd1 ?_
  cbv
  refine zF (fun h2=>?_) (fun h2=>?_)
  ·have e1:=jO.1 h2
   have e3:=hd1 e1
   obtain⟨e4,e5⟩:=hge1 e3
   cbv
   (refine rC ?_;cbv)
   refine⟨zX hr1',zQ (by rw[e4]),yX ?_,trivial⟩
   rw[←hr2,if_pos (by rw[e5,e1])];rfl
  ·cbv
   refine cA cg ?_
   cbv
   refine cA cu ?_
   cbv
   refine uV (σ:=Unit) (fun _=>⟨[(0,.bool (fun _=>neg)),(1,nat (zJ N')),(2,nat (zJ D')),(6,.ptr 6 0)],[(6,.box [.ff,.nil,.nil])]⟩) (fun _=>True) (fun h3=>?_) (fun h3=>?_) ?_
   ·have e3:=jO.1 h3
    obtain⟨e4,e5⟩:=hge1 e3
    cbv
    refine⟨(),trivial,.le ?_ ?_ rfl⟩
    ·cbv
     exact⟨lR,zQ (by rw[e4]),zQ (by rw[e5]),lR,trivial⟩
    ·cbv
     exact okA
   ·cbv
    refine cA cn ?_
    cbv
    refine cA cd ?_
    cbv
    refine⟨(),trivial,.le ?_ ?_ rfl⟩
    ·cbv
     exact okA
    ·cbv
     exact okA
   intro _ _
   cbv
   refine cA cf ?_
   cbv
   refine zF (fun h3=>?_) (fun h3=>?_)
   ·cbv
    (refine rC ?_;cbv)
    exact⟨zX hr1',lR,yX (by rw[←hr2,if_pos (jO.1 h3)];rfl),trivial⟩
   ·cbv
    (refine rC ?_;cbv)
    exact⟨zX hr1',lR,zQ (by rw[←hr2,if_neg (fun e=>h3 (jO.2 e))]),trivial⟩
theorem s161 (x:R)(hx:x.sz (2^36)):zB 169 [rv x] (rv (zC x.q)):=by
 refine sF Tryz.f169 ?_
 have h1:=hx.n
 have h2:=hx.d
 have h3:=kT x.den
 have cu:=s195 x (by omega)
 have cq:=s193 x.neg x.num (xY x.den) (by omega) (by omega) (by rw[qI];exact x.d_ne)
 rw[qI] at cq
 have e:mkRat (sgn x.neg (val x.num)) x.d=x.q:=rfl
 rw[e] at cq
 generalize zC x.q=W at *
 generalize xY x.den=u at *
 obtain⟨neg,num,den⟩:=x
 cbv
 refine zO 7 (by cbv) ?_
 cbv
 refine dA cu ?_
 cbv
 refine dA cq ?_
 cbv
 (refine rC ?_;cbv)
 exact okA
theorem zRH (x:R):x.ok=true↔(x.neg=(zC x.q).neg∧x.num.length=(zC x.q).num.length∧x.den.length=(zC x.q).den.length∧vZ (val x.num) (val (zC x.q).num)=0∧vZ (val x.den) (val (zC x.q).den)=0):=by
 have hc:∀ a b,vZ a b=0↔a=b:=fun a b=>by unfold vZ;split <;> (try split) <;> omega
 simp only[R.ok,decide_eq_true_eq,hc]
 constructor
 ·intro h
  rw[←h]
  exact⟨rfl,rfl,rfl,rfl,rfl⟩
 ·rintro ⟨h1,h2,h3,h4,h5⟩
  have e1:=l9 h2 h4
  have e2:=l9 h3 h5
  generalize zC x.q=y at *
  obtain⟨a,b,c⟩:=x
  obtain⟨a',b',c'⟩:=y
  simp only at h1 e1 e2
  rw[h1,e1,e2]
theorem zRG (neg:Bool)(num:List UInt32):R.ok ⟨neg,num,[]⟩=(gR num && (!neg || decide (0<num.length))):=by
 have hq:R.q ⟨neg,num,[]⟩=mkRat (sgn neg (val num)) 1:=rfl
 have hp:=nD (neg:=neg) (n:=val num) (d:=1) (by decide)
 rw[Bool.eq_iff_iff]
 simp only[R.ok,decide_eq_true_eq,hq,hp,Nat.gcd_one_right,Nat.div_one,if_true,R.mk.injEq,and_true,Bool.and_eq_true,Bool.or_eq_true,Bool.not_eq_true']
 have hlen:0<num.length↔num≠[]:=by rw[←List.length_pos_iff]
 constructor
 ·rintro ⟨h1,h2⟩
  have hcn:gR num=true:=by rw[h2];exact cK _
  refine⟨hcn,?_⟩
  cases neg with
  | false=>exact .inl rfl
  | true =>
   right
   rw[hlen]
   intro e
   rw[e] at h1
   simp [val] at h1
 ·rintro ⟨h1,h2⟩
  refine⟨?_,(rK h1).symm⟩
  cases neg with
  | false=>rfl
  | true =>
   have:=hlen.1 (h2.resolve_left (by decide))
   have:=zBU h1 this
   simp;omega
theorem s103 (x:R)(hx:x.sz (2^36)):zB 127 [rv x] (.bool (fun _=>x.ok)):=by
 refine sF Tryz.f127 ?_
 have h1:=hx.n
 have h2:=hx.d
 have hok:=zRH x
 have hnil:x.den.length=0→x.ok=(gR x.num && (!x.neg || decide (0<x.num.length))):=by
  intro h
  obtain⟨a,b,c⟩:=x
  have:c=[]:=List.eq_nil_of_length_eq_zero h
  subst this
  exact zRG a b
 have cc:=s161 x hx
 have cv:=s160 x.num (by omega)
 have hf:Fits (2^36) x.q:=hx.fits (by decide)
 have hl1:=hf.lnum
 have hl2:=hf.lden
 have cm1:=s162 x.num (zC x.q).num (by omega) (by omega)
 have cm2:=s162 x.den (zC x.q).den (by omega) (by omega)
 generalize hO:x.ok=O at *
 generalize zC x.q=W at *
 clear hf
 obtain⟨neg,num,den⟩:=x
 obtain⟨neg',num',den'⟩:=W
 simp only at *
 generalize vZ (val num) (val num')=c1 at *
 generalize vZ (val den) (val den')=c2 at *
 cbv
 refine zF (fun h=>?_) (fun h=>?_)
 ·have e:=hnil om
  cbv
  refine cA cv ?_
  generalize gR num=cn at *
  cbv
  refine z5 (fun h3=>?_) (fun h3=>?_)
  ·subst h3
   cbv
   refine z5 (fun h4=>?_) (fun h4=>?_)
   ·subst h4
    cbv
    (refine rC ?_;cbv)
    exact zX (by rw[e];simp [zK])
   ·subst h4
    cbv
    (refine rC ?_;cbv)
    exact z7 (by rw[e];rfl)
  ·subst h3
   cbv
   (refine rC ?_;cbv)
   exact zM (by rw[e];rfl)
 ·cbv
  refine cA cc ?_
  cbv
  have hno:∀ P:Prop,¬ P→(O=true→P)→O=false:=fun P h h'=>by cases O;rfl;exact absurd (h' rfl) h
  refine zR (fun h3=>?_) (fun h3=>?_)
  ·cbv
   refine zR (fun h4=>?_) (fun h4=>?_)
   ·cbv
    refine zR (fun h5=>?_) (fun h5=>?_)
    ·cbv
     refine cA cm1 ?_
     cbv
     refine zR (fun h6=>?_) (fun h6=>?_)
     ·cbv
      refine cA cm2 ?_
      cbv
      (refine rC ?_;cbv)
      refine zX ?_
      rw[Bool.eq_iff_iff,hok,decide_eq_true_eq]
      (try dsimp only [zG] at *)
      simp only[zK] at h4 h5
      exact⟨fun h7=>⟨h3,by omega,by omega,h6,h7⟩,fun h7=>h7.2.2.2.2⟩
     ·cbv
      (refine rC ?_;cbv)
      exact zM (hno _ h6 fun h7=>(hok.1 h7).2.2.2.1)
    ·cbv
     (refine rC ?_;cbv)
     refine zM (hno _ h5 fun h7=>?_)
     have:=(hok.1 h7).2.2.1
     (try dsimp only [zG] at *)
     simp only[zK];omega
   ·cbv
    (refine rC ?_;cbv)
    refine zM (hno _ h4 fun h7=>?_)
    have:=(hok.1 h7).2.1
    (try dsimp only [zG] at *)
    simp only[zK];omega
  ·cbv
   (refine rC ?_;cbv)
   exact zM (hno _ h3 fun h7=>(hok.1 h7).1)
theorem s163 (x:Z)(hx:x.mag.length<2^38):zB 184 [zv x] (rv (zC (x.v:Rat))):=by
 refine sF Tryz.f184 ?_
 have cq:=s193 x.neg x.mag [1] hx (by simp) (by decide)
 have e:mkRat (sgn x.neg (val x.mag)) (val [1])=(x.v:Rat):=by
  have:=Rat.mkRat_self (x.v:Rat)
  rw[Rat.num_intCast,Rat.den_intCast] at this
  exact this
 rw[e] at cq
 generalize zC (x.v:Rat)=W at *
 obtain⟨neg,mag⟩:=x
 cbv
 refine zO 6 (by cbv) ?_
 cbv
 refine dA s210 ?_
 cbv
 refine dA cq ?_
 cbv
 (refine rC ?_;cbv)
 exact okA
theorem oL (x:Int)(h1:-9223372036854775808≤x)(h2:x<9223372036854775808):(xL x).mag.length≤2:=by
 refine yD ?_
 have:B ^ 2=18446744073709551616:=by decide
 omega
theorem s104 (x:Int)(h1:-9223372036854775808≤x)(h2:x<9223372036854775808):zB 128 [.int .i64 (fun _=>x)] (rv (zC (x:Rat))):=by
 refine sF Tryz.f128 ?_
 have c1:=s164 x h1 h2
 have hl:=oL x h1 h2
 have c2:=s163 (xL x) (by omega)
 rw[jX] at c2
 generalize zC (x:Rat)=W at *
 generalize xL x=y at *
 cbv
 refine cA c1 ?_
 cbv
 refine cA c2 ?_
 cbv
 (refine rC ?_;cbv)
 exact okA
theorem s147 (x:R)(hx:x.num.length<2^40):zB 142 [rv x] (zv (xL x.n)):=by
 refine sF Tryz.f142 ?_
 have c1:=s203 x.neg x.num hx
 have e:sgn x.neg (val x.num)=x.n:=rfl
 rw[e] at c1
 generalize xL x.n=W at *
 obtain⟨neg,num,den⟩:=x
 cbv
 refine cA c1 ?_
 cbv
 (refine rC ?_;cbv)
 exact okA
theorem zM1 (x:R):(xL x.n).mag.length≤x.num.length:=by
 refine yD ?_
 rw[R.n,vS];exact xI _
theorem s86 (x:R)(hx:x.num.length<2^40):zB 77 [rv x] (.int .i64 (fun _=>yB x.q)):=by
 refine sF Tryz.f77 ?_
 have c1:=s147 x hx
 have hl:=zM1 x
 have c2:=s146 (xL x.n) (by omega)
 rw[jX,←zLM] at c2
 generalize yB x.q=s at *
 generalize xL x.n=W at *
 obtain⟨neg,num,den⟩:=x
 cbv
 refine cA c1 ?_
 cbv
 refine cA c2 ?_
 cbv
 (refine rC ?_;cbv)
 exact lR
theorem s191 (x y:R)(hx:x.sz (2^34))(hy:y.sz (2^34)):zB 177 [rv x,rv y] (.tup [zv (xL (x.n * y.d)),zv (xL (y.n * x.d))]):=by
 refine sF Tryz.f177 ?_
 have h1:=hx.n
 have h2:=hx.d
 have h3:=hy.n
 have h4:=hy.d
 have h5:=kT x.den
 have h6:=kT y.den
 have h7:=zM1 x
 have h8:=zM1 y
 have cux:=s195 x (by omega)
 have cuy:=s195 y (by omega)
 have csx:=s147 x (by omega)
 have csy:=s147 y (by omega)
 have cm1:=s220 (xL x.n) ⟨false,xY y.den⟩ (by omega) (show (xY y.den).length<_ by omega)
 have cm2:=s220 (xL y.n) ⟨false,xY x.den⟩ (by omega) (show (xY x.den).length<_ by omega)
 have e1:Z.v ⟨false,xY y.den⟩=(y.d:Int):=by rw[←qI];rfl
 have e2:Z.v ⟨false,xY x.den⟩=(x.d:Int):=by rw[←qI];rfl
 rw[jX,e1] at cm1
 rw[jX,e2] at cm2
 generalize xL (x.n * (y.d:Int))=W1 at *
 generalize xL (y.n * (x.d:Int))=W2 at *
 generalize xL x.n=X at *
 generalize xL y.n=Y at *
 generalize xY x.den=ux at *
 generalize xY y.den=uy at *
 obtain⟨a,b,c⟩:=x
 obtain⟨a',b',c'⟩:=y
 cbv
 refine zO 4 (by cbv) ?_
 cbv
 refine dA cux ?_
 cbv
 refine dA cuy ?_
 cbv
 refine zO 10 (by cbv) ?_
 cbv
 refine dA csx ?_
 cbv
 refine dA cm1 ?_
 cbv
 refine dA csy ?_
 cbv
 refine dA cm2 ?_
 cbv
 (refine rC ?_;cbv)
 exact okA
theorem rS (x y:R)(hx:x.sz (2^34))(hy:y.sz (2^34)):(xL (x.n * (y.d:Int))).mag.length≤2^36:=by
 have h1:=hx.n
 have h4:=hy.d
 have h6:=kT y.den
 refine Nat.le_trans (yD (k:=x.num.length+(xY y.den).length) ?_) (by omega)
 rw[Int.natAbs_mul,R.n,vS,Int.natAbs_natCast,←qI]
 exact kK (xI _) (xI _)
theorem s165 (x y:R)(hx:x.sz (2^34))(hy:y.sz (2^34)):zB 143 [rv x,rv y] (.int .i64 (fun _=>y7 x.q y.q)):=by
 refine sF Tryz.f143 ?_
 have h1:=hx.n
 have h3:=hy.n
 have h5:=rS x y hx hy
 have h6:=rS y x hy hx
 have cx:=s86 x (by omega)
 have cy:=s86 y (by omega)
 have cc:=s191 x y hx hy
 have ci:=s212 _ _ (Nat.lt_of_le_of_lt h5 (by omega)) (Nat.lt_of_le_of_lt h6 (by omega))
 rw[jX,jX,←zR6] at ci
 have k1:yB x.q<yB y.q→y7 x.q y.q=-1:=by
  intro h
  have:x.q<y.q:=by unfold yB at h;grind
  simp [y7,this]
 have k2:yB y.q<yB x.q→y7 x.q y.q=1:=by
  intro h
  have h7:y.q<x.q:=by unfold yB at h;grind
  have h8:¬ x.q<y.q:=by grind
  simp [y7,h7,h8]
 generalize y7 x.q y.q=C at *
 generalize yB x.q=s at *
 generalize yB y.q=t at *
 generalize xL (x.n * (y.d:Int))=W1 at *
 generalize xL (y.n * (x.d:Int))=W2 at *
 obtain⟨a,b,c⟩:=x
 obtain⟨a',b',c'⟩:=y
 obtain⟨p1,p2⟩:=W1
 obtain⟨q1,q2⟩:=W2
 cbv
 refine zO 4 (by cbv) ?_
 cbv
 refine dA cx ?_
 cbv
 refine dA cy ?_
 cbv
 refine zF (fun h=>?_) (fun h=>?_)
 ·cbv
  refine cA cc ?_
  cbv
  refine cA ci ?_
  cbv
  (refine rC ?_;cbv)
  exact lR
 ·cbv
  refine zF (fun h'=>?_) (fun h'=>?_)
  ·cbv
   (refine rC ?_;cbv)
   exact zE (k1 h').symm
  ·cbv
   (refine rC ?_;cbv)
   exact zE (k2 (by omega)).symm
theorem s138 (x y:R)(hx:x.sz (2^34))(hy:y.sz (2^34)):zB 121 [rv x,rv y] (rv (zC (x.q+y.q))):=by
 refine sF Tryz.f121 ?_
 have h1:=hx.n
 have h2:=hx.d
 have h3:=hy.n
 have h4:=hy.d
 have h5:=rS x y hx hy
 have h6:=rS y x hy hx
 have h7:=kT x.den
 have h8:=kT y.den
 have cc:=s191 x y hx hy
 have ca:=s192 _ _ (Nat.lt_of_le_of_lt h5 (by omega)) (Nat.lt_of_le_of_lt h6 (by omega))
 rw[jX,jX] at ca
 have cux:=s195 x (by omega)
 have cuy:=s195 y (by omega)
 have cm:=s194 (xY x.den) (xY y.den) (by omega) (by omega)
 have hml:=jP (xY x.den) (xY y.den)
 rw[qI,qI] at cm hml
 have hsl:(xL (x.n * (y.d:Int)+y.n * (x.d:Int))).mag.length<2^38:=by
  obtain⟨k,hk⟩:∃ k,k=68719476736:=⟨_,rfl⟩
  have h5':(xL (x.n * (y.d:Int))).mag.length≤k:=by rw[hk];exact h5
  have h6':(xL (y.n * (x.d:Int))).mag.length≤k:=by rw[hk];exact h6
  have e1:(x.n * (y.d:Int)).natAbs<B ^ k:=by have:=xI (xL (x.n * (y.d:Int))).mag;rw[show val (xL (x.n * (y.d:Int))).mag=(x.n * (y.d:Int)).natAbs from zP _] at this;exact Nat.lt_of_lt_of_le this (Nat.pow_le_pow_right xU h5')
  have e2:(y.n * (x.d:Int)).natAbs<B ^ k:=by have:=xI (xL (y.n * (x.d:Int))).mag;rw[show val (xL (y.n * (x.d:Int))).mag=(y.n * (x.d:Int)).natAbs from zP _] at this;exact Nat.lt_of_lt_of_le this (Nat.pow_le_pow_right xU h6')
  have e3:=Int.natAbs_add_le (x.n * (y.d:Int)) (y.n * (x.d:Int))
  have e4:B ^ k * 2≤B ^ k * B:=Nat.mul_le_mul_left _ (by decide)
  have e5:(zJ (x.n * (y.d:Int)+y.n * (x.d:Int)).natAbs).length≤k+1:=yD (by rw[Nat.pow_succ B k];generalize B ^ k=P at *;omega)
  show (zJ (x.n * (y.d:Int)+y.n * (x.d:Int)).natAbs).length<2^38
  omega
 have cq:=s193 (xL (x.n * (y.d:Int)+y.n * (x.d:Int))).neg (xL (x.n * (y.d:Int)+y.n * (x.d:Int))).mag (zJ (x.d * y.d)) hsl (by omega) (by rw[zP];exact Nat.mul_ne_zero x.d_ne y.d_ne)
 have e6:sgn (xL (x.n * (y.d:Int)+y.n * (x.d:Int))).neg (val (xL (x.n * (y.d:Int)+y.n * (x.d:Int))).mag)=x.n * (y.d:Int)+y.n * (x.d:Int):=jX _
 rw[e6,zP,←zM0] at cq
 clear e6 hsl hml h5 h6
 generalize zC (x.q+y.q)=W at *
 generalize zJ (x.d * y.d)=M at *
 generalize xL (x.n * (y.d:Int)+y.n * (x.d:Int))=S at *
 generalize xL (x.n * (y.d:Int))=W1 at *
 generalize xL (y.n * (x.d:Int))=W2 at *
 generalize xY x.den=ux at *
 generalize xY y.den=uy at *
 obtain⟨a,b,c⟩:=x
 obtain⟨a',b',c'⟩:=y
 obtain⟨p1,p2⟩:=W1
 obtain⟨q1,q2⟩:=W2
 obtain⟨s1,s2⟩:=S
 cbv
 refine cA cc ?_
 cbv
 refine cA ca ?_
 cbv
 refine zO 10 (by cbv) ?_
 cbv
 refine dA cux ?_
 cbv
 refine dA cuy ?_
 cbv
 refine dA cm ?_
 cbv
 refine dA cq ?_
 cbv
 (refine rC ?_;cbv)
 exact okA
theorem s176 (x y:R)(hx:x.sz (2^34))(hy:y.sz (2^34)):zB 155 [rv x,rv y] (rv (zC (x.q - y.q))):=by
 refine sF Tryz.f155 ?_
 have ca:=s138 x ⟨!y.neg,y.num,y.den⟩ hx ⟨hy.n,hy.d⟩
 rw[zMZ,←Rat.sub_eq_add_neg] at ca
 generalize zC (x.q - y.q)=W at *
 obtain⟨a,b,c⟩:=x
 obtain⟨a',b',c'⟩:=y
 generalize hna:(!a')=na at *
 cbv
 refine yQ rfl (by exact⟨okA,⟨xX hna.symm,lR,lR,trivial⟩,trivial⟩) ca rfl ?_
 cbv
 (refine rC ?_;cbv)
 exact okA
theorem s199 (x y:R)(hx:x.sz (2^34))(hy:y.sz (2^34)):zB 195 [rv x,rv y] (rv (zC (x.q * y.q))):=by
 refine sF Tryz.f195 ?_
 have h1:=hx.n
 have h2:=hx.d
 have h3:=hy.n
 have h4:=hy.d
 have h7:=kT x.den
 have h8:=kT y.den
 have cux:=s195 x (by omega)
 have cuy:=s195 y (by omega)
 have cm:=s194 (xY x.den) (xY y.den) (by omega) (by omega)
 have hml:=jP (xY x.den) (xY y.den)
 rw[qI,qI] at cm hml
 have cn:=s194 x.num y.num (by omega) (by omega)
 have hnl:=jP x.num y.num
 have cq:=s193 (x.neg != y.neg) (zJ (val x.num * val y.num)) (zJ (x.d * y.d)) (by omega) (by omega) (by rw[zP];exact Nat.mul_ne_zero x.d_ne y.d_ne)
 rw[zP,zP,←zBZ] at cq
 have e:mkRat (sgn x.neg (val x.num) * sgn y.neg (val y.num)) (x.d * y.d)=x.q * y.q:=(zPR x y).symm
 rw[e] at cq
 have hb:(x.neg != y.neg)=!decide (x.neg=y.neg):=by cases x.neg <;> cases y.neg <;> rfl
 clear hml hnl e
 generalize zC (x.q * y.q)=W at *
 generalize zJ (x.d * y.d)=M at *
 generalize zJ (val x.num * val y.num)=P at *
 generalize xY x.den=ux at *
 generalize xY y.den=uy at *
 obtain⟨a,b,c⟩:=x
 obtain⟨a',b',c'⟩:=y
 simp only at *
 generalize (a != a')=nb at *
 cbv
 refine zO 16 (by cbv) ?_
 cbv
 refine dA cn ?_
 cbv
 refine dA cux ?_
 cbv
 refine dA cuy ?_
 cbv
 refine dA cm ?_
 cbv
 refine xG (by exact⟨xX hb,lR,lR,trivial⟩) cq rfl ?_
 cbv
 (refine rC ?_;cbv)
 exact okA
def uZ (a b:Rat):Rat:=if a<b then b else a
theorem s216 (x y:R)(hx:x.sz (2^34))(hy:y.sz (2^34)):zB 203 [rv x,rv y] (rv (zC (uZ x.q y.q))):=by
 refine sF Tryz.f203 ?_
 have cc:=s165 x y hx hy
 have cx:=s161 x (hx.mono (by omega))
 have cy:=s161 y (hy.mono (by omega))
 have k1:0≤y7 x.q y.q→uZ x.q y.q=x.q:=by intro h;unfold y7 at h;unfold uZ;split <;> simp_all
 have k2:¬ 0≤y7 x.q y.q→uZ x.q y.q=y.q:=by
  intro h;unfold y7 at h;unfold uZ
  split
  ·rfl
  ·rename_i h'
   rw[if_neg h'] at h
   split at h <;> simp at h
 generalize y7 x.q y.q=C at *
 generalize uZ x.q y.q=m at *
 generalize x.q=qx at *
 generalize y.q=qy at *
 obtain⟨a,b,c⟩:=x
 obtain⟨a',b',c'⟩:=y
 have k1':0≤C→zC qx=zC m:=fun h=>by rw[k1 h]
 have k2':¬ 0≤C→zC qy=zC m:=fun h=>by rw[k2 h]
 generalize zC m=W at *
 generalize zC qx=X at *
 generalize zC qy=Y at *
 cbv
 refine cA cc ?_
 cbv
 refine zF (fun h=>?_) (fun h=>?_)
 ·have:=k1' h
  subst this
  cbv
  refine cA cx ?_
  cbv
  (refine rC ?_;cbv)
  exact okA
 ·have:=k2' h
  subst this
  cbv
  refine cA cy ?_
  cbv
  (refine rC ?_;cbv)
  exact okA
end Go.Proofs.YtgcpehdkdnkgeaaGreat
