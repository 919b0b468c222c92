/- A part of the proof: ReF, ReG, ReH, AfA, LnA. -/
import Derived.Test.YtgcpehdkdnkgeaaGreatX20
set_option linter.all false
namespace Go.Proofs.YtgcpehdkdnkgeaaGreat
open Go
set_option maxRecDepth 100000
def qL (d:List UInt32):List UInt32:=zJ (if val d=0 then 1 else val d)
theorem fC (x:R):val (qL x.den)=x.d:=by
 unfold qL R.d
 rw[zP]
theorem aB (d:List UInt32):(qL d).length≤d.length+1:=by
 unfold qL
 split
 ·rw[nM];simp
 ·have:=z0 d;omega
theorem s100 (d:List UInt32)(hd:d.length<2^40):zB 73 [nat d] (nat (qL d)):=by
 refine sF Tryz.f73 ?_
 have c1:=rY d (by omega)
 have e1:(zJ (val d)).length=0→qL d=[1]:=fun h=>by unfold qL;rw[if_pos (xO.1 (List.eq_nil_of_length_eq_zero h)),nM]
 have e2:(zJ (val d)).length≠0→qL d=zJ (val d):=fun h=>by unfold qL;rw[if_neg (fun e=>h (by rw[e,yM];rfl))]
 generalize qL d=u at *
 generalize zJ (val d)=p at *
 cbv
 refine cA c1 ?_
 cbv
 refine zF (fun h=>?_) (fun h=>?_)
 ·have:=e1 om
  subst this
  cbv
  (refine rC ?_;cbv)
  exact zQ rfl
 ·have:=e2 (by (try dsimp only [zG] at *);rw[zK] at h;omega)
  subst this
  cbv
  (refine rC ?_;cbv)
  exact lR
theorem s102 (neg:Bool)(num den:List UInt32)(hn:num.length<2^33)(hd:den.length<2^33)(h0:val den≠0):zB 72 [.bool (fun _=>neg),nat num,nat den] (rv (zC (mkRat (sgn neg (val num)) (val den)))):=by
 refine sF Tryz.f72 ?_
 rw[nD h0]
 have hg0:Nat.gcd (val num) (val den)≠0:=fun e=>h0 (Nat.eq_zero_of_gcd_eq_zero_right e)
 have hgl:(zJ (Nat.gcd (val num) (val den))).length<2^33:=Nat.lt_of_le_of_lt (Nat.le_trans (uM (Nat.le_of_dvd (Nat.pos_of_ne_zero h0) (Nat.gcd_dvd_right _ _))) (z0 den)) hd
 have cg:=s158 num den (by omega) (by omega)
 have cn:=s159 num (zJ (Nat.gcd (val num) (val den))) (by omega) (by omega) (by rw[zP];exact hg0)
 have cd:=s159 den (zJ (Nat.gcd (val num) (val den))) (by omega) (by omega) (by rw[zP];exact hg0)
 rw[zP] at cn cd
 have hnz:val num / Nat.gcd (val num) (val den)=0↔val num=0:=by
  rw[Nat.div_eq_zero_iff_lt (Nat.pos_of_ne_zero hg0)]
  constructor
  ·intro h
   rcases Nat.eq_zero_or_pos (val num) with e | e
   ·exact e
   ·have:=Nat.gcd_le_left (val den) e;omega
  ·intro h;omega
 have hdl:(zJ (val den / Nat.gcd (val num) (val den))).length<2^33:=Nat.lt_of_le_of_lt (Nat.le_trans (uM (Nat.div_le_self _ _)) (z0 den)) hd
 generalize val den / Nat.gcd (val num) (val den)=D' at *
 generalize val num / Nat.gcd (val num) (val den)=N' at *
 generalize Nat.gcd (val num) (val den)=g at *
 generalize val num=N at *
 show wp _ _ (j1 _ (.agg [.bool (fun _=>neg && decide (N≠0)),nat (zJ N'),nat (if D'=1 then [] else zJ D')]) [] [])
 have hN0:decide (N≠0)=decide (0<(zJ N').length):=by
  rw[decide_eq_decide,List.length_pos_iff,ne_eq,ne_eq,xO,hnz]
 rw[hN0]
 have hone:=@jO D'
 generalize hr2:(if D'=1 then [] else zJ D')=r2
 have hr2a:zJ D'=[1]→r2=[]:=fun h=>by rw[←hr2,if_pos (hone.1 h)]
 have hr2b:zJ D'≠[1]→r2=zJ D':=fun h=>by rw[←hr2,if_neg (fun e=>h (hone.2 e))]
 generalize zJ D'=dl at *
 generalize zJ N'=nl at *
 clear hr2 hone hN0 hnz
 cbv
 refine cA cg ?_
 cbv
 refine cA cn ?_
 cbv
 refine cA cd ?_
 cbv
 have one_of:∀ (h1:dl.length=1),((dl.getD 0 0).toNat:Int)=1↔dl=[1]:=by
  intro h1
  match dl,h1 with
  | [x],_ =>
   have e1:[x].getD 0 0=x:=rfl
   rw[e1]
   constructor
   ·intro h2
    have:x=1:=UInt32.toNat_inj.1 (by show x.toNat=1;omega)
    rw[this]
   ·intro h2;rw[List.cons.inj h2 |>.1];rfl
 refine zR (fun h=>?_) (fun h=>?_)
 ·have h1:dl.length=1:=om
  have ho:=one_of h1
  cbv
  refine yY 0 rfl (by omega) ?_
  cbv
  refine zF (fun h2=>?_) (fun h2=>?_)
  ·have h3:=hr2a (ho.1 h2)
   cbv
   refine z5 (fun h4=>?_) (fun h4=>?_)
   ·subst h4
    cbv
    (refine rC ?_;cbv)
    exact⟨zX (by simp [zK]),lR,yX (by rw[h3];rfl),trivial⟩
   ·subst h4
    cbv
    (refine rC ?_;cbv)
    exact⟨zM rfl,lR,yX (by rw[h3];rfl),trivial⟩
  ·have h3:=hr2b (fun e=>h2 (ho.2 e))
   cbv
   refine z5 (fun h4=>?_) (fun h4=>?_)
   ·subst h4
    cbv
    (refine rC ?_;cbv)
    exact⟨zX (by simp [zK]),lR,zQ (by rw[h3]),trivial⟩
   ·subst h4
    cbv
    (refine rC ?_;cbv)
    exact⟨zM rfl,lR,zQ (by rw[h3]),trivial⟩
 ·have h3:=hr2b (fun e=>h (by rw[e];rfl))
  cbv
  refine z5 (fun h4=>?_) (fun h4=>?_)
  ·subst h4
   cbv
   (refine rC ?_;cbv)
   exact⟨zX (by simp [zK]),lR,zQ (by rw[h3]),trivial⟩
  ·subst h4
   cbv
   (refine rC ?_;cbv)
   exact⟨zM rfl,lR,zQ (by rw[h3]),trivial⟩
theorem s47 (x:R)(hx:x.sz (2^32)):zB 19 [rv x] (rv (zC x.q)):=by
 refine sF Tryz.f19 ?_
 have h1:=hx.n
 have h2:=hx.d
 have h3:=aB x.den
 have cu:=s100 x.den (by omega)
 have cq:=s102 x.neg x.num (qL x.den) (by omega) (by omega) (by rw[fC];exact x.d_ne)
 rw[fC] at cq
 have e:mkRat (sgn x.neg (val x.num)) x.d=x.q:=rfl
 rw[e] at cq
 generalize zC x.q=W at *
 generalize qL x.den=u at *
 obtain⟨neg,num,den⟩:=x
 cbv
 refine zO 8 (by cbv) ?_
 cbv
 refine dA cu ?_
 cbv
 refine dA cq ?_
 cbv
 (refine rC ?_;cbv)
 exact okA
theorem s35 (x:R)(hx:x.num.length<2^40):zB 33 [rv x] (.int .i64 (fun _=>yB x.q)):=by
 refine sF Tryz.f33 ?_
 have c2:=s90 ⟨x.neg,x.num⟩ hx
 have e:Z.v ⟨x.neg,x.num⟩=x.n:=rfl
 rw[e,←zLM] at c2
 generalize yB x.q=s at *
 obtain⟨neg,num,den⟩:=x
 cbv
 refine cA c2 ?_
 cbv
 (refine rC ?_;cbv)
 exact lR
theorem s143 (x:R)(hx:x.sz (2^32)):zB 130 [rv x] (rv (zC (-x.q))):=by
 refine sF Tryz.f130 ?_
 have ca:=s47 ⟨!x.neg,x.num,x.den⟩ ⟨hx.n,hx.d⟩
 rw[zMZ] at ca
 generalize zC (-x.q)=W at *
 obtain⟨a,b,c⟩:=x
 generalize hna:(!a)=na at *
 cbv
 refine yQ rfl (by exact⟨⟨xX hna.symm,lR,lR,trivial⟩,trivial⟩) ca rfl ?_
 cbv
 (refine rC ?_;cbv)
 exact okA
theorem s77 (x y:R)(hx:x.sz (2^31))(hy:y.sz (2^31)):zB 57 [rv x,rv y] (rv (zC (x.q * y.q))):=by
 refine sF Tryz.f57 ?_
 have h1:=hx.n
 have h2:=hx.d
 have h3:=hy.n
 have h4:=hy.d
 have h7:=aB x.den
 have h8:=aB y.den
 have cux:=s100 x.den (by omega)
 have cuy:=s100 y.den (by omega)
 have cm:=s99 (qL x.den) (qL y.den) (by omega) (by omega)
 have hml:=jP (qL x.den) (qL y.den)
 rw[fC,fC] at cm hml
 have cn:=s99 x.num y.num (by omega) (by omega)
 have hnl:=jP x.num y.num
 have cq:=s102 (x.neg != y.neg) (zJ (val x.num * val y.num)) (zJ (x.d * y.d)) (by omega) (by omega) (by rw[zP];exact Nat.mul_ne_zero x.d_ne y.d_ne)
 rw[zP,zP,←zBZ] at cq
 have e:mkRat (sgn x.neg (val x.num) * sgn y.neg (val y.num)) (x.d * y.d)=x.q * y.q:=(zPR x y).symm
 rw[e] at cq
 have hb:(x.neg != y.neg)=!decide (x.neg=y.neg):=by cases x.neg <;> cases y.neg <;> rfl
 clear hml hnl e
 generalize zC (x.q * y.q)=W at *
 generalize zJ (x.d * y.d)=M at *
 generalize zJ (val x.num * val y.num)=P at *
 generalize qL x.den=ux at *
 generalize qL y.den=uy at *
 obtain⟨a,b,c⟩:=x
 obtain⟨a',b',c'⟩:=y
 simp only at *
 generalize (a != a')=nb at *
 cbv
 refine zO 18 (by cbv) ?_
 cbv
 refine dA cn ?_
 cbv
 refine dA cux ?_
 cbv
 refine dA cuy ?_
 cbv
 refine dA cm ?_
 cbv
 refine xG (by exact⟨xX hb,lR,lR,trivial⟩) cq rfl ?_
 cbv
 (refine rC ?_;cbv)
 exact okA
theorem s69 (x y:R)(hx:x.sz (2^32))(hy:y.sz (2^32)):zB 50 [rv x,rv y] (.bool (fun _=>decide (x=y))):=by
 refine sF Tryz.f50 ?_
 have h1:=hx.n
 have h2:=hx.d
 have h3:=hy.n
 have h4:=hy.d
 have c1:=s130 x.num y.num (by omega) (by omega)
 have c2:=s130 x.den y.den (by omega) (by omega)
 obtain⟨a,b,c⟩:=x
 obtain⟨a',b',c'⟩:=y
 have hO:(decide ((⟨a,b,c⟩:R)=⟨a',b',c'⟩))=(decide (a=a') && (decide (b=b') && decide (c=c'))):=by
  rw[Bool.eq_iff_iff]
  simp only[decide_eq_true_eq,R.mk.injEq,Bool.and_eq_true]
 rw[hO]
 simp only at c1 c2
 generalize decide (b=b')=d1 at *
 generalize decide (c=c')=d2 at *
 clear hO h1 h2 h3 h4 hx hy
 generalize hr:(decide (a=a') && (d1 && d2))=r
 cbv
 refine zR (fun h=>?_) (fun h=>?_)
 ·rw[show decide (a=a')=true from decide_eq_true h,Bool.true_and] at hr
  cbv
  refine cA c1 ?_
  cbv
  refine z5 (fun h'=>?_) (fun h'=>?_)
  ·subst h'
   cbv
   refine cA c2 ?_
   cbv
   (refine rC ?_;cbv)
   exact zX (by rw[←hr];rfl)
  ·subst h'
   cbv
   (refine rC ?_;cbv)
   exact zM (by rw[←hr];rfl)
 ·rw[show decide (a=a')=false from decide_eq_false h,Bool.false_and] at hr
  cbv
  (refine rC ?_;cbv)
  exact zM hr.symm
theorem s129 (x:R)(hx:x.sz (2^32)):zB 109 [rv x] (.bool (fun _=>x.ok)):=by
 refine sF Tryz.f109 ?_
 have cc:=s47 x hx
 have cs:=s69 x (zC x.q) hx (zU (hx.fits (by decide)))
 have e:decide (x=zC x.q)=x.ok:=rfl
 rw[e] at cs
 generalize x.ok=o at *
 generalize zC x.q=W at *
 obtain⟨a,b,c⟩:=x
 obtain⟨a',b',c'⟩:=W
 cbv
 refine zO 4 (by cbv) ?_
 cbv
 refine dA cc ?_
 cbv
 refine dA cs ?_
 cbv
 (refine rC ?_;cbv)
 exact lR
theorem zKF (z:Int):zC (z:Rat)=⟨(xL z).neg,(xL z).mag,[]⟩:=by
 unfold zC xL
 simp only[Rat.num_intCast,Rat.den_intCast,if_true]
 congr
theorem s32 (x:Int)(h1:-9223372036854775808≤x)(h2:x<9223372036854775808):zB 40 [.int .i64 (fun _=>x)] (rv (zC (x:Rat))):=by
 refine sF Tryz.f40 ?_
 have c1:=s88 x h1 h2
 rw[zKF]
 generalize xL x=y at *
 obtain⟨a,b⟩:=y
 cbv
 refine cA c1 ?_
 cbv
 (refine rC ?_;cbv)
 exact okA
def uD (a b:Int):Rat:=Rat.divInt a b
theorem zK2 (a b:Bool)(n m:Nat):mkRat (sgn (a != b) n) m=uD (sgn a n) (sgn b m):=by
 have h1:∀ (z:Int),Rat.divInt z (m:Int)=mkRat z m:=fun z=>Rat.divInt_ofNat z m
 have h2:∀ (z:Int),Rat.divInt z (-(m:Int))=mkRat (-z) m:=fun z=>by rw[Rat.divInt_neg',h1]
 unfold uD
 cases b
 ·rw[show sgn false m=(m:Int) from rfl,h1]
  cases a <;> rfl
 ·rw[show sgn true m=-(m:Int) from rfl,h2]
  cases a
  ·rfl
  ·show mkRat (n:Int) m=mkRat (- -(n:Int)) m
   rw[Int.neg_neg]
theorem s98 (x y:Z)(hx:x.mag.length<2^33)(hy:y.mag.length<2^33)(h0:y.v≠0):zB 134 [zv x,zv y] (.tup [rv (zC (uD x.v y.v)),.int .i64 (fun _=>0)]):=by
 refine sF Tryz.f134 ?_
 have cs:=s90 y (by omega)
 have hs:qK y.v≠0:=by unfold qK;split <;> (try split) <;> omega
 have hv0:val y.mag≠0:=fun e=>h0 (by unfold Z.v;rw[e,zD1])
 have cq:=s102 (x.neg != y.neg) x.mag y.mag hx hy hv0
 have e:mkRat (sgn (x.neg != y.neg) (val x.mag)) (val y.mag)=uD x.v y.v:=by
  exact zK2 _ _ _ _
 rw[e] at cq
 have hb:(x.neg != y.neg)=!decide (x.neg=y.neg):=by cases x.neg <;> cases y.neg <;> rfl
 generalize zC (uD x.v y.v)=W at *
 generalize qK y.v=s at *
 obtain⟨a,b⟩:=x
 obtain⟨a',b'⟩:=y
 simp only at *
 generalize (a != a')=nb at *
 cbv
 refine cA cs ?_
 cbv
 refine zF (fun h=>absurd h hs) (fun h=>?_)
 cbv
 refine yQ rfl (by exact⟨xX hb,lR,lR,trivial⟩) cq rfl ?_
 cbv
 (refine rC ?_;cbv)
 exact okA
theorem s43 (x y:Int)(h1:-9223372036854775808≤x)(h2:x<9223372036854775808)(h3:-9223372036854775808≤y)(h4:y<9223372036854775808)(h0:y≠0):zB 68 [.int .i64 (fun _=>x),.int .i64 (fun _=>y)] (.tup [rv (zC (uD x y)),.int .i64 (fun _=>0)]):=by
 refine sF Tryz.f68 ?_
 have c1:=s88 x h1 h2
 have c2:=s88 y h3 h4
 have hl1:=oL x h1 h2
 have hl2:=oL y h3 h4
 have c3:=s98 (xL x) (xL y) (by omega) (by omega) (by rw[jX];exact h0)
 rw[jX,jX] at c3
 generalize zC (uD x y)=W at *
 generalize xL x=X at *
 generalize xL y=Y at *
 cbv
 refine cA c1 ?_
 cbv
 refine cA c2 ?_
 cbv
 refine cA c3 ?_
 cbv
 (refine rC ?_;cbv)
 exact okA
theorem s44 (x y:R)(hx:x.sz (2^31))(hy:y.sz (2^31)):zB 52 [rv x,rv y] (rv (zC (x.q+y.q))):=by
 refine sF Tryz.f52 ?_
 have h1:=hx.n
 have h2:=hx.d
 have h3:=hy.n
 have h4:=hy.d
 have h7:=aB x.den
 have h8:=aB y.den
 have cux:=s100 x.den (by omega)
 have cuy:=s100 y.den (by omega)
 have cx:=s99 x.num (qL y.den) (by omega) (by omega)
 have cy:=s99 y.num (qL x.den) (by omega) (by omega)
 have hxl:=jP x.num (qL y.den)
 have hyl:=jP y.num (qL x.den)
 rw[fC] at cx cy hxl hyl
 have ca:=s101 ⟨x.neg,zJ (val x.num * y.d)⟩ ⟨y.neg,zJ (val y.num * x.d)⟩ (show (zJ (val x.num * y.d)).length<_ by omega) (show (zJ (val y.num * x.d)).length<_ by omega)
 have e1:Z.v ⟨x.neg,zJ (val x.num * y.d)⟩=x.n * (y.d:Int):=by unfold Z.v R.n;rw[zP,n9]
 have e2:Z.v ⟨y.neg,zJ (val y.num * x.d)⟩=y.n * (x.d:Int):=by unfold Z.v R.n;rw[zP,n9]
 rw[e1,e2] at ca
 have cm:=s99 (qL x.den) (qL y.den) (by omega) (by omega)
 have hml:=jP (qL x.den) (qL y.den)
 rw[fC,fC] at cm hml
 have hsl:(xL (x.n * (y.d:Int)+y.n * (x.d:Int))).mag.length<2^33:=by
  have a1:=xI (zJ (val x.num * y.d))
  have a2:=xI (zJ (val y.num * x.d))
  rw[zP] at a1 a2
  obtain⟨k,hk⟩:∃ k,k=4294967297:=⟨_,rfl⟩
  have b1:=Nat.lt_of_lt_of_le a1 (Nat.pow_le_pow_right xU (show (zJ (val x.num * y.d)).length≤k by omega))
  have b2:=Nat.lt_of_lt_of_le a2 (Nat.pow_le_pow_right xU (show (zJ (val y.num * x.d)).length≤k by omega))
  have e3:=Int.natAbs_add_le (x.n * (y.d:Int)) (y.n * (x.d:Int))
  rw[Int.natAbs_mul,Int.natAbs_mul,R.n,R.n,vS,vS,Int.natAbs_natCast,Int.natAbs_natCast] at e3
  have e4:B ^ k * 2≤B ^ k * B:=Nat.mul_le_mul_left _ (by decide)
  have e5:(zJ (x.n * (y.d:Int)+y.n * (x.d:Int)).natAbs).length≤k+1:=yD (by rw[Nat.pow_succ B k];unfold R.n;generalize B ^ k=P at *;omega)
  show (zJ (x.n * (y.d:Int)+y.n * (x.d:Int)).natAbs).length<2^33
  omega
 have cq:=s102 (xL (x.n * (y.d:Int)+y.n * (x.d:Int))).neg (xL (x.n * (y.d:Int)+y.n * (x.d:Int))).mag (zJ (x.d * y.d)) hsl (by omega) (by rw[zP];exact Nat.mul_ne_zero x.d_ne y.d_ne)
 have e6:sgn (xL (x.n * (y.d:Int)+y.n * (x.d:Int))).neg (val (xL (x.n * (y.d:Int)+y.n * (x.d:Int))).mag)=x.n * (y.d:Int)+y.n * (x.d:Int):=jX _
 rw[e6,zP,←zM0] at cq
 clear e6 hsl hml e1 e2 hxl hyl
 generalize zC (x.q+y.q)=W at *
 generalize zJ (x.d * y.d)=M at *
 generalize xL (x.n * (y.d:Int)+y.n * (x.d:Int))=S at *
 generalize zJ (val x.num * y.d)=W1 at *
 generalize zJ (val y.num * x.d)=W2 at *
 generalize qL x.den=ux at *
 generalize qL y.den=uy at *
 obtain⟨a,b,c⟩:=x
 obtain⟨a',b',c'⟩:=y
 obtain⟨s1,s2⟩:=S
 cbv
 refine qO 10 (by cbv) (by cbv) ?_
 cbv
 refine dA cuy ?_
 cbv
 refine dA cx ?_
 cbv
 refine qO 10 (by cbv) (by cbv) ?_
 cbv
 refine dA cux ?_
 cbv
 refine dA cy ?_
 cbv
 refine cA ca ?_
 cbv
 refine zO 12 (by cbv) ?_
 cbv
 refine dA cux ?_
 cbv
 refine dA cuy ?_
 cbv
 refine dA cm ?_
 cbv
 refine dA cq ?_
 cbv
 (refine rC ?_;cbv)
 exact okA
theorem s93 (x y:R)(hx:x.sz (2^31))(hy:y.sz (2^31)):zB 87 [rv x,rv y] (rv (zC (x.q - y.q))):=by
 refine sF Tryz.f87 ?_
 have cn:=s143 y (hy.mono (by omega))
 have ca:=s44 x (zC (-y.q)) hx (zU (sT (hy.fits (by decide))))
 rw[zY,←Rat.sub_eq_add_neg] at ca
 generalize zC (x.q - y.q)=W at *
 generalize zC (-y.q)=V at *
 obtain⟨a,b,c⟩:=x
 obtain⟨a',b',c'⟩:=y
 cbv
 refine zO 4 (by cbv) ?_
 cbv
 refine dA cn ?_
 cbv
 refine dA ca ?_
 cbv
 (refine rC ?_;cbv)
 exact okA
theorem zOV (a b:Rat):yB (a - b)=y7 a b:=by
 unfold yB y7
 have h1:a - b<0↔a<b:=by grind
 have h2:0<a - b↔b<a:=by grind
 simp only[h1,h2]
theorem s42 (x y:R)(hx:x.sz (2^31))(hy:y.sz (2^31)):zB 54 [rv x,rv y] (.int .i64 (fun _=>y7 x.q y.q)):=by
 refine sF Tryz.f54 ?_
 have ca:=s93 x y hx hy
 have hf:=(qE (hx.fits (by decide)) (hy.fits (by decide))).lnum
 have cs:=s35 (zC (x.q - y.q)) (Nat.lt_of_le_of_lt hf (by omega))
 rw[zY,zOV] at cs
 clear hf
 generalize y7 x.q y.q=C at *
 generalize zC (x.q - y.q)=W at *
 cbv
 refine cA ca ?_
 cbv
 refine cA cs ?_
 cbv
 (refine rC ?_;cbv)
 exact lR
theorem s70 (x y:R)(hx:x.sz (2^31))(hy:y.sz (2^31)):zB 51 [rv x,rv y] (rv (zC (uZ x.q y.q))):=by
 refine sF Tryz.f51 ?_
 have cc:=s42 x y hx hy
 have cx:=s47 x (hx.mono (by omega))
 have cy:=s47 y (hy.mono (by omega))
 have k1:0≤y7 x.q y.q→uZ x.q y.q=x.q:=by intro h;unfold y7 at h;unfold uZ;split <;> simp_all
 have k2:¬ 0≤y7 x.q y.q→uZ x.q y.q=y.q:=by
  intro h;unfold y7 at h;unfold uZ
  split
  ·rfl
  ·rename_i h'
   rw[if_neg h'] at h
   split at h <;> simp at h
 generalize y7 x.q y.q=C at *
 generalize uZ x.q y.q=m at *
 generalize x.q=qx at *
 generalize y.q=qy at *
 have k1':0≤C→zC qx=zC m:=fun h=>by rw[k1 h]
 have k2':¬ 0≤C→zC qy=zC m:=fun h=>by rw[k2 h]
 generalize zC m=W at *
 generalize zC qx=X at *
 generalize zC qy=Y at *
 cbv
 refine cA cc ?_
 cbv
 refine zF (fun h=>?_) (fun h=>?_)
 ·have:=k1' h
  subst this
  cbv
  refine cA cx ?_
  cbv
  (refine rC ?_;cbv)
  exact okA
 ·have:=k2' h
  subst this
  cbv
  refine cA cy ?_
  cbv
  (refine rC ?_;cbv)
  exact okA
def enc {α:Type} (p:α→List PV) (l:List α):List (List D):=l.map fun a=>y8 (p a)
section
variable {α:Type} {p:α→List PV}
theorem zA (p:α→List PV)(l:List α):(enc p l).length=l.length:=by simp [enc]
theorem wN {n:Nat}(hn:∀ a,(p a).length=n)(l:List α):Wid n (fun _=>enc p l):=⟨fun e he=>by
 simp only[enc,List.mem_map] at he;obtain⟨x,_,rfl⟩:=he;rw[uF,hn]⟩
theorem zT (p:α→List PV)(l m:List α):enc p l++enc p m=enc p (l++m):=by simp [enc]
theorem xB {n:Nat}{l:List α}{k:Int}{K:List PV→Prop}(j:Nat)(hk:k=(j:Int))(hj:j<l.length)(hf:∀ a,yT uT (p a)=true)(hn:∀ a,(p a).length=n)
  (hK:∀ a,l[j]?=some a→K (p a)):IdxOk n (fun _=>enc p l) (fun _=>k) K :=
 zL9 j hk (p l[j]) (hf _) (hn _) (by simp [enc,hj]) (hK _ (by simp [hj]))
end
structure A where
 ts:List (Int × R)
 c:R
structure F where
 ts:List (Int × Rat)
 c:Rat
theorem F.ext' {f g:F}(h1:f.ts=g.ts)(h2:f.c=g.c):f=g:=by cases f;cases g;simp_all
def tq (l:List (Int × R)):List (Int × Rat):=l.map fun t=>(t.1,t.2.q)
def tR (l:List (Int × Rat)):List (Int × R):=l.map fun t=>(t.1,zC t.2)
def A.f (a:A):F:=⟨tq a.ts,a.c.q⟩
def fA (f:F):A:=⟨tR f.ts,zC f.c⟩
theorem zF3 (l:List (Int × Rat)):tq (tR l)=l:=by simp [tq,tR,zY,Function.comp_def]
theorem vE (f:F):(fA f).f=f:=by simp [A.f,fA,zF3,zY]
def rc (x:R):List PV:=[.bool (fun _=>x.neg),nat x.num,nat x.den]
def tc (t:Int × R):List PV:=[.int .i64 (fun _=>t.1),.bool (fun _=>t.2.neg),nat t.2.num,nat t.2.den]
abbrev tsv (l:List (Int × R)):PV:=.sl (fun _=>enc tc l)
def ac (f:A):List PV:=[tsv f.ts,.bool (fun _=>f.c.neg),nat f.c.num,nat f.c.den]
abbrev av (f:A):PV:=.agg [tsv f.ts,.bool (fun _=>f.c.neg),nat f.c.num,nat f.c.den]
abbrev fv (f:F):PV:=av (fA f)
theorem yU (a:R):yT uT (rc a)=true:=rfl
theorem xE (a:R):(rc a).length=3:=rfl
theorem y4 (a:Int × R):yT uT (tc a)=true:=rfl
theorem y6 (a:Int × R):(tc a).length=4:=rfl
theorem vR (a:A):yT uT (ac a)=true:=rfl
theorem uR (a:A):(ac a).length=4:=rfl
structure Tsz (k:Nat) (l:List (Int × R)):Prop where
 len:l.length<2^38
 sz:∀ t,t∈l→t.2.sz k
structure A.sz (a:A) (k:Nat):Prop where
 t:Tsz k a.ts
 c:a.c.sz k
theorem Tsz.mono {k m:Nat}{l}(h:Tsz k l)(hm:k≤m):Tsz m l:=⟨h.len,fun t ht=>(h.sz t ht).mono hm⟩
theorem A.sz.mono {k m:Nat}{a:A}(h:a.sz k)(hm:k≤m):a.sz m:=⟨h.t.mono hm,h.c.mono hm⟩
structure Tfit (k:Nat) (l:List (Int × Rat)):Prop where
 len:l.length<2^38
 fit:∀ t,t∈l→Fits k t.2
structure F.fit (f:F) (k:Nat):Prop where
 t:Tfit k f.ts
 c:Fits k f.c
theorem Tfit.mono {k m:Nat}{l}(h:Tfit k l)(hm:k≤m):Tfit m l:=⟨h.len,fun t ht=>(h.fit t ht).mono hm⟩
theorem F.fit.mono {k m:Nat}{a:F}(h:a.fit k)(hm:k≤m):a.fit m:=⟨h.t.mono hm,h.c.mono hm⟩
theorem Tfit.tR {k:Nat}{l}(h:Tfit k l):Tsz k (tR l):=⟨by simpa [Go.Proofs.YtgcpehdkdnkgeaaGreat.tR] using h.len,fun t ht=>by
 simp only[Go.Proofs.YtgcpehdkdnkgeaaGreat.tR,List.mem_map] at ht
 obtain⟨u,hu,rfl⟩:=ht
 exact zU (h.fit u hu)⟩
theorem F.fit.fA {k:Nat}{f:F}(h:f.fit k):(fA f).sz k:=⟨h.t.tR,zU h.c⟩
theorem Tsz.fit {k:Nat}{l}(h:Tsz k l)(hk:1≤k):Tfit k (tq l):=⟨by simpa [tq] using h.len,fun t ht=>by
 simp only[tq,List.mem_map] at ht
 obtain⟨u,hu,rfl⟩:=ht
 exact (h.sz u hu).fits hk⟩
theorem A.sz.fit {k:Nat}{a:A}(h:a.sz k)(hk:1≤k):a.f.fit k:=⟨h.t.fit hk,h.c.fits hk⟩
def vT (vars:Int):Int→List (Int × R)→Bool
 | _,[]=>true
 | p,t::r=>decide (0≤t.1) && decide (t.1<vars) && decide (p<t.1) && decide (t.2.q≠0) && t.2.ok && vT vars t.1 r
def A.valid (vars:Int) (a:A):Bool:=vT vars (-1) a.ts && a.c.ok
structure Cn (l:List (Int × Rat)):Prop where
 s:l.Pairwise (fun a b=>a.1<b.1)
 n:∀ t,t∈l→t.2≠0
theorem Cn.nil:Cn []:=⟨.nil,by simp⟩
theorem Cn.tail {t l}(h:Cn (t::l)):Cn l:=⟨(List.pairwise_cons.1 h.s).2,fun u hu=>h.n u (List.mem_cons_of_mem _ hu)⟩
theorem Cn.lt {t l}(h:Cn (t::l)):∀ u,u∈l→t.1<u.1:=(List.pairwise_cons.1 h.s).1
theorem Cn.hd {t l}(h:Cn (t::l)):t.2≠0:=h.n t List.mem_cons_self
theorem Cn.cons {t l}(h:Cn l)(h1:∀ u,u∈l→t.1<u.1)(h2:t.2≠0):Cn (t::l) :=
 ⟨List.pairwise_cons.2 ⟨h1,h.s⟩,fun u hu=>by rcases List.mem_cons.1 hu with rfl | hu <;> first | exact h2 | exact h.n u hu⟩
def co:List (Int × Rat)→Int→Rat
 | [],_=>0
 | t::r,v=>(if t.1=v then t.2 else 0)+co r v
theorem iM {l:List (Int × Rat)}{v:Int}(h:∀ t,t∈l→t.1≠v):co l v=0:=by
 induction l with
 | nil=>rfl
 | cons t r ih =>
  simp only[co,if_neg (h t List.mem_cons_self),ih fun u hu=>h u (List.mem_cons_of_mem _ hu)]
  grind
theorem kR {t:Int × Rat}{l}(h:Cn (t::l)):co (t::l) t.1=t.2:=by
 simp only[co,if_true,iM fun u hu=>(Int.ne_of_lt (h.lt u hu)).symm]
 grind
theorem Cn.ext:∀ {l m:List (Int × Rat)},Cn l→Cn m→(∀ v,co l v=co m v)→l=m
 | [],[],_,_,_=>rfl
 | [],b::m,_,hm,h=>by
  have:=h b.1
  rw[kR hm] at this
  exact absurd this.symm hm.hd
 | a::l,[],hl,_,h=>by
  have:=h a.1
  rw[kR hl] at this
  exact absurd this hl.hd
 | a::l,b::m,hl,hm,h=>by
  have h1:a.1=b.1:=by
   rcases Int.lt_trichotomy a.1 b.1 with c | c | c
   ·have:=h a.1
    rw[kR hl,iM (l:=b::m) (fun t ht=>by
     rcases List.mem_cons.1 ht with rfl | ht
     ·omega
     ·have:=hm.lt t ht;omega)] at this
    exact absurd this hl.hd
   ·exact c
   ·have:=h b.1
    rw[kR hm,iM (l:=a::l) (fun t ht=>by
     rcases List.mem_cons.1 ht with rfl | ht
     ·omega
     ·have:=hl.lt t ht;omega)] at this
    exact absurd this.symm hm.hd
  have h2:a.2=b.2:=by
   have:=h a.1
   rw[kR hl,h1,kR hm] at this
   exact this
  have h3:a=b:=Prod.ext h1 h2
  subst h3
  congr 1
  refine Cn.ext hl.tail hm.tail fun v=>?_
  have:=h v
  simp only[co] at this
  grind
def pc (v:Int) (q:Rat) (r:List (Int × Rat)):List (Int × Rat):=if q=0 then r else (v,q)::r
theorem pJ (v:Int)(q:Rat)(r)(w:Int):co (pc v q r) w=(if v=w then q else 0)+co r w:=by
 unfold pc
 split
 ·rename_i h;rw[h];split <;> grind
 ·rfl
theorem Cn.pc {v:Int}{q:Rat}{r}(h:Cn r)(h1:∀ u,u∈r→v<u.1):Cn (pc v q r):=by
 unfold Go.Proofs.YtgcpehdkdnkgeaaGreat.pc
 split
 ·exact h
 ·exact h.cons h1 (by assumption)
theorem vW {v:Int}{q:Rat}{r u}(h:u∈pc v q r):u=(v,q)∨u∈r:=by
 unfold pc at h
 split at h
 ·exact .inr h
 ·exact List.mem_cons.1 h
def mrg (c:Rat):List (Int × Rat)→List (Int × Rat)→List (Int × Rat)
 | [],[]=>[]
 | a::aa,[]=>pc a.1 a.2 (mrg c aa [])
 | [],b::bb=>pc b.1 (b.2 * c) (mrg c [] bb)
 | a::aa,b::bb=>if a.1<b.1 then pc a.1 a.2 (mrg c aa (b::bb)) else if b.1<a.1 then pc b.1 (b.2 * c) (mrg c (a::aa) bb) else pc a.1 (a.2+b.2 * c) (mrg c aa bb)
termination_by a b=>a.length+b.length
theorem j6 (c:Rat):∀ (a b:List (Int × Rat)) (v:Int),co (mrg c a b) v=co a v+co b v * c
 | [],[],v=>by rw[mrg];simp only[co];grind
 | a::aa,[],v=>by rw[mrg,pJ,j6 c aa []];simp only[co];grind
 | [],b::bb,v=>by rw[mrg,pJ,j6 c [] bb];simp only[co];split <;> grind
 | a::aa,b::bb,v=>by
  rw[mrg]
  split
  ·rw[pJ,j6 c aa (b::bb)];simp only[co];grind
  ·split
   ·rw[pJ,j6 c (a::aa) bb];simp only[co];split <;> grind
   ·have:a.1=b.1:=by omega
    rw[pJ,j6 c aa bb];simp only[co,this];split <;> grind
termination_by a b=>a.length+b.length
theorem jM {c:Rat}:∀ {a b:List (Int × Rat)} {u},u∈mrg c a b→(∃ t,t∈a∧t.1=u.1)∨(∃ t,t∈b∧t.1=u.1)
 | [],[],u,h=>by rw[mrg] at h;exact absurd h (by simp)
 | a::aa,[],u,h=>by
  rw[mrg] at h
  rcases vW h with rfl | h
  ·exact .inl ⟨a,List.mem_cons_self,rfl⟩
  ·rcases jM h with ⟨t,h1,h2⟩ | ⟨t,h1,h2⟩
   ·exact .inl ⟨t,List.mem_cons_of_mem _ h1,h2⟩
   ·exact .inr ⟨t,h1,h2⟩
 | [],b::bb,u,h=>by
  rw[mrg] at h
  rcases vW h with rfl | h
  ·exact .inr ⟨b,List.mem_cons_self,rfl⟩
  ·rcases jM h with ⟨t,h1,h2⟩ | ⟨t,h1,h2⟩
   ·exact .inl ⟨t,h1,h2⟩
   ·exact .inr ⟨t,List.mem_cons_of_mem _ h1,h2⟩
 | a::aa,b::bb,u,h=>by
  rw[mrg] at h
  split at h
  ·rcases vW h with rfl | h
   ·exact .inl ⟨a,List.mem_cons_self,rfl⟩
   ·rcases jM h with ⟨t,h1,h2⟩ | ⟨t,h1,h2⟩
    ·exact .inl ⟨t,List.mem_cons_of_mem _ h1,h2⟩
    ·exact .inr ⟨t,h1,h2⟩
  ·split at h
   ·rcases vW h with rfl | h
    ·exact .inr ⟨b,List.mem_cons_self,rfl⟩
    ·rcases jM h with ⟨t,h1,h2⟩ | ⟨t,h1,h2⟩
     ·exact .inl ⟨t,h1,h2⟩
     ·exact .inr ⟨t,List.mem_cons_of_mem _ h1,h2⟩
   ·rcases vW h with rfl | h
    ·exact .inl ⟨a,List.mem_cons_self,rfl⟩
    ·rcases jM h with ⟨t,h1,h2⟩ | ⟨t,h1,h2⟩
     ·exact .inl ⟨t,List.mem_cons_of_mem _ h1,h2⟩
     ·exact .inr ⟨t,List.mem_cons_of_mem _ h1,h2⟩
termination_by a b=>a.length+b.length
theorem Cn.mrg {c:Rat}:∀ {a b:List (Int × Rat)},Cn a→Cn b→Cn (mrg c a b)
 | [],[],_,_=>by rw[Go.Proofs.YtgcpehdkdnkgeaaGreat.mrg];exact Cn.nil
 | a::aa,[],ha,hb=>by
  rw[Go.Proofs.YtgcpehdkdnkgeaaGreat.mrg]
  refine Cn.pc (Cn.mrg ha.tail hb) fun u hu=>?_
  rcases jM hu with ⟨t,h1,h2⟩ | ⟨t,h1,h2⟩
  ·rw[←h2];exact ha.lt t h1
  ·exact absurd h1 (by simp)
 | [],b::bb,ha,hb=>by
  rw[Go.Proofs.YtgcpehdkdnkgeaaGreat.mrg]
  refine Cn.pc (Cn.mrg ha hb.tail) fun u hu=>?_
  rcases jM hu with ⟨t,h1,h2⟩ | ⟨t,h1,h2⟩
  ·exact absurd h1 (by simp)
  ·rw[←h2];exact hb.lt t h1
 | a::aa,b::bb,ha,hb=>by
  rw[Go.Proofs.YtgcpehdkdnkgeaaGreat.mrg]
  split
  ·rename_i hlt
   refine Cn.pc (Cn.mrg ha.tail hb) fun u hu=>?_
   rcases jM hu with ⟨t,h1,h2⟩ | ⟨t,h1,h2⟩
   ·rw[←h2];exact ha.lt t h1
   ·rw[←h2]
    rcases List.mem_cons.1 h1 with rfl | h1
    ·exact hlt
    ·exact Int.lt_trans hlt (hb.lt t h1)
  ·split
   ·rename_i _ hlt
    refine Cn.pc (Cn.mrg ha hb.tail) fun u hu=>?_
    rcases jM hu with ⟨t,h1,h2⟩ | ⟨t,h1,h2⟩
    ·rw[←h2]
     rcases List.mem_cons.1 h1 with rfl | h1
     ·exact hlt
     ·exact Int.lt_trans hlt (ha.lt t h1)
    ·rw[←h2];exact hb.lt t h1
   ·have:a.1=b.1:=by omega
    refine Cn.pc (Cn.mrg ha.tail hb.tail) fun u hu=>?_
    rcases jM hu with ⟨t,h1,h2⟩ | ⟨t,h1,h2⟩
    ·rw[←h2];exact ha.lt t h1
    ·rw[←h2,this];exact hb.lt t h1
termination_by a b=>a.length+b.length
theorem cT (v:Int)(q:Rat)(r):(pc v q r).length≤r.length+1:=by unfold pc;split <;> simp
theorem fH (c:Rat):∀ (a b:List (Int × Rat)),(mrg c a b).length≤a.length+b.length
 | [],[]=>by rw[mrg];simp
 | a::aa,[]=>by rw[mrg];have:=cT a.1 a.2 (mrg c aa []);have:=fH c aa [];simp only[List.length_cons] at *;omega
 | [],b::bb=>by rw[mrg];have:=cT b.1 (b.2 * c) (mrg c [] bb);have:=fH c [] bb;simp only[List.length_cons] at *;omega
 | a::aa,b::bb=>by
  rw[mrg]
  split
  ·have:=cT a.1 a.2 (mrg c aa (b::bb));have:=fH c aa (b::bb);simp only[List.length_cons] at *;omega
  ·split
   ·have:=cT b.1 (b.2 * c) (mrg c (a::aa) bb);have:=fH c (a::aa) bb;simp only[List.length_cons] at *;omega
   ·have:=cT a.1 (a.2+b.2 * c) (mrg c aa bb);have:=fH c aa bb;simp only[List.length_cons] at *;omega
termination_by a b=>a.length+b.length
def F.merge (f g:F) (c:Rat):F:=⟨mrg c f.ts g.ts,f.c+g.c * c⟩
def F.add (f g:F):F:=f.merge g 1
def F.sub (f g:F):F:=f.merge g (-1)
def F.scale (f:F) (c:Rat):F:=F.merge ⟨[],0⟩ f c
theorem rI {c:Rat}{k m:Nat}(hc:Fits m c):∀ {a b:List (Int × Rat)},(∀ t,t∈a→Fits k t.2)→(∀ t,t∈b→Fits k t.2)→∀ u,u∈mrg c a b→Fits (2 * k+m+1) u.2
 | [],[],_,_,u,h=>by rw[mrg] at h;exact absurd h (by simp)
 | a::aa,[],ha,hb,u,h=>by
  rw[mrg] at h
  rcases vW h with rfl | h
  ·exact (ha a List.mem_cons_self).mono (by omega)
  ·exact rI hc (fun t ht=>ha t (List.mem_cons_of_mem _ ht)) hb u h
 | [],b::bb,ha,hb,u,h=>by
  rw[mrg] at h
  rcases vW h with rfl | h
  ·exact (xP (hb b List.mem_cons_self) hc).mono (by omega)
  ·exact rI hc ha (fun t ht=>hb t (List.mem_cons_of_mem _ ht)) u h
 | a::aa,b::bb,ha,hb,u,h=>by
  rw[mrg] at h
  split at h
  ·rcases vW h with rfl | h
   ·exact (ha a List.mem_cons_self).mono (by omega)
   ·exact rI hc (fun t ht=>ha t (List.mem_cons_of_mem _ ht)) hb u h
  ·split at h
   ·rcases vW h with rfl | h
    ·exact (xP (hb b List.mem_cons_self) hc).mono (by omega)
    ·exact rI hc ha (fun t ht=>hb t (List.mem_cons_of_mem _ ht)) u h
   ·rcases vW h with rfl | h
    ·exact (vA (ha a List.mem_cons_self) (xP (hb b List.mem_cons_self) hc)).mono (by omega)
    ·exact rI hc (fun t ht=>ha t (List.mem_cons_of_mem _ ht)) (fun t ht=>hb t (List.mem_cons_of_mem _ ht)) u h
termination_by a b=>a.length+b.length
theorem okQ {p:Prop}(h:p:=by (try simp only[zA,zK] at *) <;> (try dsimp only [zG] at *) <;> omega):p:=h
theorem aO {t base x d ps K n b z xs}(ht:ty t=.sli n b z){m o len els}(hK:K ⟨uI (vY (scr m) ps.tmps) d (.osl m n (fun _=>0) (fun _=>(els ()).length+(xs ()).length)),xR (scr m) (wR ps.objs m)++[(m,.arr n (fun _=>els ()++xs ()))]⟩)(hb:ev (zD ps.tmps) base=.osl m n o len:=by exact rfl)(ho:yI ps.objs m=some (.arr n els):=by exact rfl)(ho0:o ()=0:=by exact rfl)(hl:len ()=(els ()).length:=by simp [zA,zL])(hx:ev (zD ps.tmps) x=.sl xs:=by exact rfl)(hw:Wid n xs:=by exact⟨by simp [zL,y8]⟩)(hr:Room (fun _=>(((els ()).length+(xs ()).length:Nat):Int)) b:=by exact yA (by simp [zL,zA] <;> omega) (by simp [zL,zA] at *;(try dsimp only [zG] at *);omega))(hf:yP m ⟨vY (scr m) ps.tmps,xR (scr m) (wR ps.objs m)⟩=true:=by exact rfl):AppOk t base x (some d) ps K:=qH ht hb ho ho0 hl hx hw hr hf hK
theorem aL {t base x d ps K n b z xs}(ht:ty t=.sli n b z){m o len els}(hK:K ⟨uI (vY (scr m) ps.tmps) d (.osl m n (fun _=>0) (fun _=>(els ()).length+(xs ()).length)),xR (scr m) (wR ps.objs m)++[(m,.log n (fun _=>els ()++xs ()))]⟩)(hb:ev (zD ps.tmps) base=.osl m n o len:=by exact rfl)(ho:yI ps.objs m=some (.log n els):=by exact rfl)(ho0:o ()=0:=by exact rfl)(hl:len ()=(els ()).length:=by simp [zA,zL])(hx:ev (zD ps.tmps) x=.sl xs:=by exact rfl)(hw:Wid n xs:=by exact⟨by simp [zL,y8]⟩)(hr:Room (fun _=>(((els ()).length+(xs ()).length:Nat):Int)) b:=by exact yA (by simp [zL,zA] <;> omega) (by simp [zL,zA] at *;(try dsimp only [zG] at *);omega))(hf:yP m ⟨vY (scr m) ps.tmps,xR (scr m) (wR ps.objs m)⟩=true:=by exact rfl):AppOk t base x (some d) ps K:=zAE ht hb ho ho0 hl hx hw hr hf hK
theorem yE {α:Type}{l:List α}{i:Nat}{t:α}(h:l[i]?=some t):l.drop i=t::l.drop (i+1):=by
 obtain⟨h1,h2⟩:=List.getElem?_eq_some_iff.1 h
 rw[←h2,List.drop_eq_getElem_cons h1]
theorem iA (vars p:Int)(t r):vT vars p (t::r)=(decide (0≤t.1) && decide (t.1<vars) && decide (p<t.1) && decide (t.2.q≠0) && t.2.ok && vT vars t.1 r):=rfl
theorem sgnQ_ne {q:Rat}:yB q≠0↔q≠0:=by unfold yB;split <;> (try split) <;> grind
theorem fY (a:A)(vars:Int)(ha:a.sz (2^36)):zB 75 [av a,.int .i64 (fun _=>vars)] (.bool (fun _=>a.valid vars)):=by
 refine sF Tryz.f75 ?_
 obtain⟨ts,c⟩:=a
 have hl:=ha.t.len
 have hts:=ha.t.sz
 have cc:=s103 c ha.c
 generalize hr:A.valid vars ⟨ts,c⟩=r
 have hr0:r=(vT vars (-1) ts && c.ok):=hr.symm
 simp only at hl hts cc
 generalize c.ok=co at *
 clear hr ha
 cbv
 refine z4 (σ:=Nat × Int) (fun s=>⟨[(1,.int .i64 (fun _=>vars)),(2,.ptr 2 0),(8,tsv ts),(9,.int .i64 (fun _=>(ts.length:Int))),(10,.int .i64 (fun _=>(s.1:Int)))],[(2,.box [tsv ts,.bool (fun _=>c.neg),nat c.num,nat c.den])]⟩)
  (fun s=>s.1≤ts.length∧r=(vT vars s.2 (ts.drop s.1) && co)∧(s.1=0→s.2=-1)∧(s.1≠0→∃ u,ts[s.1 - 1]?=some u∧u.1=s.2)) (fun s=>ts.length - s.1)
  (0,-1) ⟨om,hr0,fun _=>rfl,fun h=>absurd rfl h⟩ (.le ?_ ?_ rfl) ?_
 ·cbv
  exact⟨lR,lR,lR,zE (by (try dsimp only [zG] at *);rw[zA]),lR,trivial⟩
 ·cbv
  exact okA
 intro s hs
 obtain⟨h1,hv,h3,h4⟩:=hs
 generalize s.1=i at *
 generalize s.2=p at *
 cbv
 refine zF (fun h5=>?_) (fun h5=>?_)
 ·cbv
  refine xB (l:=ts) i om om y4 y6 (fun t ht=>?_)
  rw[yE ht,iA] at hv
  have htz:=hts t (List.mem_of_getElem? ht)
  have cs:=s86 t.2 (by have:=htz.n;omega)
  have cv:=s103 t.2 htz
  have hq:decide (t.2.q≠0)=decide (yB t.2.q≠0):=by rw[decide_eq_decide];exact sgnQ_ne.symm
  rw[hq] at hv
  generalize yB t.2.q=sg at *
  generalize hok:t.2.ok=ok at *
  obtain⟨v,x1,x2,x3⟩:=t
  simp only at hv
  generalize hrest:(vT vars v (ts.drop (i+1)) && co)=rest
  have hv':r=(decide (0≤v) && decide (v<vars) && decide (p<v) && decide (sg≠0) && ok && rest):=by rw[hv,←hrest];simp only[Bool.and_assoc]
  clear hv
  cbv
  refine zO 37 (by cbv) ?_
  cbv
  refine zR (fun e1=>?_) (fun e1=>?_)
  ·cbv
   (refine rC ?_;cbv)
   exact zM (by rw[hv',decide_eq_false (by omega)];rfl)
  cbv
  refine zR (fun e2=>?_) (fun e2=>?_)
  ·cbv
   (refine rC ?_;cbv)
   exact zM (by rw[hv',decide_eq_false (p:=v<vars) (by omega)];simp)
  cbv
  have fin:(¬ (p<v)→r=false):=fun h=>by rw[hv',decide_eq_false (p:=p<v) h];simp
  have hmain:(p<v)→r=(decide (sg≠0) && ok && rest):=fun h=>by
   rw[hv',decide_eq_true (p:=p<v) h,decide_eq_true (p:=0≤v) (by omega),decide_eq_true (p:=v<vars) (by omega)];simp only[Bool.true_and]
  clear hv'
  refine zR (fun e3=>?_) (fun e3=>?_)
  ·obtain⟨u,hu,hu2⟩:=h4 om
   cbv
   refine⟨zH om om,xB (l:=ts) (i - 1) om om y4 y6 (fun u' hu'=>?_)⟩
   have:u'=u:=by rw[hu] at hu';exact (Option.some.inj hu').symm
   subst this
   obtain⟨w,y1,y2,y3⟩:=u'
   simp only at hu2
   cbv
   refine zR (fun e4=>?_) (fun e4=>?_)
   ·cbv
    (refine rC ?_;cbv)
    exact zM (fin (by omega))
   have hm:=hmain (by omega)
   cbv
   refine dA cs ?_
   cbv
   refine zR (fun e5=>?_) (fun e5=>?_)
   ·cbv
    (refine rC ?_;cbv)
    exact zM (by rw[hm,decide_eq_false (by simpa using e5)];rfl)
   rw[decide_eq_true e5,Bool.true_and] at hm
   cbv
   refine dA cv ?_
   cbv
   refine zV (fun e6=>?_) (fun e6=>?_)
   ·rw[e6,Bool.true_and] at hm
    cbv
    exact⟨zH om om,(i+1,v),⟨om,by rw[hm,hrest],fun h=>absurd h (by simp),fun _=>⟨_,ht,rfl⟩⟩,om,.le (by cbv;exact⟨lR,lR,lR,lR,zE om,trivial⟩) (by cbv;exact okA) rfl⟩
   ·cbv
    (refine rC ?_;cbv)
    exact zM (by rw[hm,e6];rfl)
  ·have hp:=h3 om
   have hm:=hmain (by omega)
   cbv
   refine dA cs ?_
   cbv
   refine zR (fun e5=>?_) (fun e5=>?_)
   ·cbv
    (refine rC ?_;cbv)
    exact zM (by rw[hm,decide_eq_false (by simpa using e5)];rfl)
   rw[decide_eq_true e5,Bool.true_and] at hm
   cbv
   refine dA cv ?_
   cbv
   refine zV (fun e6=>?_) (fun e6=>?_)
   ·rw[e6,Bool.true_and] at hm
    cbv
    exact⟨zH om om,(i+1,v),⟨om,by rw[hm,hrest],fun h=>absurd h (by simp),fun _=>⟨_,ht,rfl⟩⟩,om,.le (by cbv;exact⟨lR,lR,lR,lR,zE om,trivial⟩) (by cbv;exact okA) rfl⟩
   ·cbv
    (refine rC ?_;cbv)
    exact zM (by rw[hm,e6];rfl)
 ·have he:i=ts.length:=om
  rw[he,List.drop_length] at hv
  have hv':r=co:=by rw[hv];rfl
  cbv
  refine cA cc ?_
  cbv
  (refine rC ?_;cbv)
  exact zX hv'.symm
end Go.Proofs.YtgcpehdkdnkgeaaGreat
