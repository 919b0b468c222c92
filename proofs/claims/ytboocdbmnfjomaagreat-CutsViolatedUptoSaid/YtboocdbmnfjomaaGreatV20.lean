/- A part of the proof: ReE, ReF, ReG, ReH, AfA, LnA. -/
import Derived.Test.YtboocdbmnfjomaaGreatV19
set_option linter.all false
namespace Go.Proofs.YtboocdbmnfjomaaGreat
open Go
set_option maxRecDepth 100000
theorem N5 (a b:List UInt32)(ha:a.length<2^34)(hb:b.length<2^34):zH 160 [nat a,nat b] (nat (zL (Nat.gcd (val a) (val b)))):=by
 refine sF Tryz.f160 ?_;have ha':=xR (z8 a) ha;have hb':=xR (z8 b) hb;generalize hg:Nat.gcd (val a) (val b)=g;cbv;refine cA (iH a oM) ?_;cbv;refine cA (iH b oM) ?_;cbv;refine zY (σ:=Nat×Nat) (λz=>⟨[(0,nat (zL z.1)),(1,nat (zL z.2))],[]⟩) (λz=>(zL z.1).length<2^34/\(zL z.2).length<2^34/\Nat.gcd z.1 z.2=g) (λz=>z.2) (val a,val b) ⟨ha',hb',hg⟩ (.le ?_ trivial rfl) ?_;{cbv;exact okA};intro z hz;obtain⟨h1,h2,h3⟩:=hz;generalize z.1=x at *;generalize z.2=y at *;cbv;refine zG (λh4=>?_) (λh4=>?_)
 ·(have hy:y≠0:=λe=>by subst e;(try dsimp only [zS] at *);grind [lm,yV]);have hm:=uQ x (s5 hy)
  have c1:=PP (zL x) (zL y) h1 h2 (by grind [zQ]);rw[zQ,zQ] at c1;cbv;refine cA c1 ?_;cbv;refine⟨(y,x%y),⟨h2,xR (kU (tP hm)) h2,by grind [Nat.gcd_comm,Nat.gcd_rec]⟩,hm,.le ?_ trivial rfl⟩;cbv;exact okA
 ·have hy:y=0:=wA.1 (gO (by (try dsimp only [zS] at *);grind [zJ]));subst hy;cbv
  (refine rC ?_;cbv)
  exact zU (by grind)
theorem Fi (neg:Bool)(m:List UInt32)(hm:m.length<2^40):zH 114 [zM neg,nat m] (zv (x7 (sgn neg (val m)))):=by
 refine sF Tryz.f114 ?_;rw[KE];cbv;refine cA (iH m oM) ?_;cbv;refine yI (λh=>?_) (λh=>?_)
 ·subst h;cbv
  (refine rC ?_;cbv)
  refine⟨z4 ?_,lR,trivial⟩;rw[rK];simp only[decide_eq_true_eq,zJ,xQ];rw[<-@wA (val m),<-HC]
  (try dsimp only [zS] at *)
  omega
 {subst h;cbv;exact rA}
theorem s88 (x:Int)(h1:-9223372036854775808<=x)(h2:x<9223372036854775808):zH 69 [iV x] (zv (x7 x)):=by
 refine sF Tryz.f69 ?_;have hBB:B*B=18446744073709551616:=by decide
 have hl:(zL x.natAbs).length<=2:=CM.2 oM;have c1:=Fi true (zL x.natAbs) oM;have c2:=Fi false (zL x.natAbs) oM;have c3:=PQ x.natAbs oM;rw[zQ] at c1 c2;have e1:x<0->sgn true x.natAbs=x:=λh=>by show -(x.natAbs:Int)=x;omega
 have e2:¬x<0->sgn false x.natAbs=x:=λh=>by show (x.natAbs:Int)=x;omega
 have n1:x<0->nx .u64 (0-nx .u64 x)=((x.natAbs:Nat):Int):=λh=>by grind [uM]
 have n2:¬x<0->nx .u64 x=((x.natAbs:Nat):Int):=λh=>by grind [uM]
 generalize x.natAbs=n at *;cbv;refine zG (λh=>?_) (λh=>?_);{rw[e1 h] at c1;generalize x7 x=W at *;have n3:=n1 h;cbv;refine xI rfl (by exact⟨zF n3,trivial⟩) c3 rfl ?_;cbv;refine cA c1 ?_;cbv;exact rA};{rw[e2 h] at c2;generalize x7 x=W at *;have n3:=n2 h;cbv;refine xI rfl (by exact⟨zF n3,trivial⟩) c3 rfl ?_;cbv;refine cA c2 ?_;cbv;exact rA}
theorem s90 (x:Z)(hx:x.mag.length<2^40):zH 70 [zv x] (iV (jV x.v)):=by
 refine sF Tryz.f70 ?_;have c1:=Fi x.neg x.mag hx;have e:sgn x.neg (val x.mag)=x.v:=rfl;rw[e] at c1;have hneg:(x7 x.v).neg=decide (x.v<0):=rfl;have hmag:(x7 x.v).mag.length=0↔x.v=0:=by show (zL x.v.natAbs).length=0↔_;rw[HC,wA];omega
 have e0:x.v=0->jV x.v=0:=λh=>by rw[h];rfl
 have e1:x.v<0->jV x.v=-1:=λh=>by unfold jV;omega
 have e2:¬x.v<0->x.v≠0->jV x.v=1:=λh h'=>by unfold jV;omega
 generalize jV x.v=s at *;generalize x7 x.v=W at *;generalize x.v=v at *;obtain⟨a,m⟩:=x;obtain⟨w1,w2⟩:=W;simp only at hneg hmag;cbv;refine cA c1 ?_;cbv;refine zG (λh=>?_) (λh=>?_)
 ·cbv
  (refine rC ?_;cbv)
  exact zF (e0 (hmag.1 om)).symm
 ·have hv:v≠0:=λe=>h (by have:=hmag.2 e;(try dsimp only [zS] at *);grind [zJ]);cbv;refine zZ (λh2=>?_) (λh2=>?_)
  ·cbv
   (refine rC ?_;cbv)
   exact zF (e1 (of_decide_eq_true (hneg.symm.trans h2))).symm
  ·cbv
   (refine rC ?_;cbv)
   exact zF (e2 (of_decide_eq_false (hneg.symm.trans h2)) hv).symm
theorem N6 (x y:Z)(hx:x.mag.length<2^38)(hy:y.mag.length<2^38):zH 103 [zv x,zv y] (zv (x7 (x.v+y.v))):=by
 refine sF Tryz.f103 ?_;obtain⟨n1,m1⟩:=x;obtain⟨n2,m2⟩:=y;have hv:Z.v ⟨n1,m1⟩+Z.v ⟨n2,m2⟩=sgn n1 (val m1)+sgn n2 (val m2):=rfl;have hl:=Gk m1 m2;have hl1:=YJ m1 m2;have hl2:=YJ m2 m1;have hx':m1.length<2^38:=hx;have hy':m2.length<2^38:=hy;rw[hv];have c1:n1=n2->zH 114 [zM n1,nat (zL (val m1+val m2))] (zv (x7 (sgn n1 (val m1)+sgn n2 (val m2)))):=by intro h;have:=Fi n1 (zL (val m1+val m2)) oM;rw[zQ] at this;grind [sgn]
 have c2:n1≠n2->val m2<=val m1->zH 114 [zM n1,nat (zL (val m1-val m2))] (zv (x7 (sgn n1 (val m1)+sgn n2 (val m2)))):=by
  (intro h hge;have:=Fi n1 (zL (val m1-val m2)) oM;rw[zQ] at this;have e:sgn n1 (val m1-val m2)=sgn n1 (val m1)+sgn n2 (val m2):=by grind [sgn]);grind
 have c3:n1≠n2->¬val m2<=val m1->zH 114 [zM n2,nat (zL (val m2-val m1))] (zv (x7 (sgn n1 (val m1)+sgn n2 (val m2)))):=by
  (intro h hge;have:=Fi n2 (zL (val m2-val m1)) oM;rw[zQ] at this;have e:sgn n2 (val m2-val m1)=sgn n1 (val m1)+sgn n2 (val m2):=by grind [sgn]);simp_all
 have cs1:=Ca m1 m2 oM oM;have cs2:=Ca m2 m1 oM oM;have hE1:val m2<=val m1->(if val m2<=val m1 then (0:Int) else 2)=0:=λh=>if_pos h;have hE2:¬val m2<=val m1->(if val m2<=val m1 then (0:Int) else 2)=2:=λh=>if_neg h;generalize (if val m2<=val m1 then (0:Int) else 2)=E at *;generalize (if val m1<=val m2 then (0:Int) else 2)=E' at *;generalize sgn n1 (val m1)+sgn n2 (val m2)=T at *;cbv;refine zG (λh=>?_) (λh=>?_);{have h':=c1 h;generalize x7 T=W at *;cbv;refine zP 8 (by cbv) ?_;cbv;refine dA (Sj m1 m2 oM oM) ?_;cbv;refine dA h' ?_;cbv;exact rA}
 ·have h2:=c2 h;have h3:=c3 h;generalize x7 T=W at *;cbv;refine cA cs1 ?_;cbv;refine zG (λh4=>?_) (λh4=>?_)
  ·(have hge:val m2<=val m1:=by omega);cbv
   refine cA (h2 hge) ?_;cbv;exact rA
  {have hlt:¬val m2<=val m1:=λe=>h4 (hE1 e);cbv;refine cA cs2 ?_;cbv;refine cA (h3 hlt) ?_;cbv;exact rA}
def jX (d:List UInt32):List UInt32:=zL (if val d=0 then 1 else val d)
theorem bZ (x:R):val (jX x.den)=x.d:=by unfold jX R.d;rw[zQ]
theorem pX (d:List UInt32):(jX d).length<=d.length+1:=by unfold jX;split;{rw[ZH];simp};grind [z8]
theorem JY (d:List UInt32)(hd:d.length<2^40):zH 102 [nat d] (nat (jX d)):=by
 refine sF Tryz.f102 ?_;have c1:=iH d oM;have e1:(zL (val d)).length=0->jX d=[1]:=λh=>by unfold jX;rw[if_pos (wA.1 (gO h)),ZH]
 have e2:(zL (val d)).length≠0->jX d=zL (val d):=λh=>by unfold jX;rw[if_neg (λe=>h (by grind [yV]))]
 generalize jX d=u at *;generalize zL (val d)=p at *;cbv;refine cA c1 ?_;cbv;refine zG (λh=>?_) (λh=>?_)
 ·have:=e1 om;subst this;cbv
  (refine rC ?_;cbv)
  exact zU rfl
 {have:=e2 (by (try dsimp only [zS] at *);grind [zJ]);subst this;cbv;exact rA}
theorem Cc (neg:Bool)(num den:List UInt32)(hn:num.length<2^33)(hd:den.length<2^33)(h0:val den≠0):zH 104 [zM neg,nat num,nat den] (rv (zK (mkRat (sgn neg (val num)) (val den)))):=by
 refine sF Tryz.f104 ?_;rw[Zy h0];have hg0:Nat.gcd (val num) (val den)≠0:=λe=>h0 (Nat.eq_zero_of_gcd_eq_zero_right e);have hgl:(zL (Nat.gcd (val num) (val den))).length<2^33:=xR (vF (kU (Nat.le_of_dvd (s5 h0) (QI _ _))) (z8 den)) hd;have cg:=N5 num den oM oM;have cn:=PP num (zL (Nat.gcd (val num) (val den))) oM oM (by grind [zQ]);have cd:=PP den (zL (Nat.gcd (val num) (val den))) oM oM (by grind [zQ]);rw[zQ] at cn cd;have hnz:val num/Nat.gcd (val num) (val den)=0↔val num=0:=by rw[Nat.div_eq_zero_iff_lt (s5 hg0)];grind [Nat.gcd_le_left]
 have hdl:(zL (val den/Nat.gcd (val num) (val den))).length<2^33:=xR (vF (kU (i6 _ _)) (z8 den)) hd;generalize val den/Nat.gcd (val num) (val den)=D' at *;generalize val num/Nat.gcd (val num) (val den)=N' at *;generalize Nat.gcd (val num) (val den)=g at *;generalize val num=N at *;show wp _ _ (gT _ (.agg [zM (neg&&decide (N≠0)),nat (zL N'),nat (if D'=1 then [] else zL D')]) [] []);have hN0:decide (N≠0)=decide (0<(zL N').length):=by rw[decide_eq_decide,List.length_pos_iff,ne_eq,ne_eq,wA,hnz]
 rw[hN0];have hone:=@dL D';generalize hr2:(if D'=1 then [] else zL D')=r2;have hr2a:zL D'=[1]->r2=[]:=λh=>by grind
 have hr2b:zL D'≠[1]->r2=zL D':=λh=>by grind
 generalize zL D'=dl at *;generalize zL N'=nl at *;clear hr2 hone hN0 hnz;cbv;refine cA cg ?_;cbv;refine cA cn ?_;cbv;refine cA cd ?_;cbv;have one_of:∀ (h1:dl.length=1),((dl.getD 0 0).toNat:Int)=1↔dl=[1]:=by
  intro h1
  match dl,h1 with
  |[x],_ =>
   have e1:[x].getD 0 0=x:=rfl;rw[e1];constructor;{intro h2;have:x=1:=Zf.1 (by grind);rw[this]};{intro h2;rw[List.cons.inj h2 |>.1];rfl}
 refine zX (λh=>?_) (λh=>?_)
 ·have h1:dl.length=1:=om;have ho:=one_of h1;cbv;refine xM 0 rfl oM ?_;cbv;refine zG (λh2=>?_) (λh2=>?_)
  ·have h3:=hr2a (ho.1 h2);cbv;refine yI (λh4=>?_) (λh4=>?_)
   ·subst h4;cbv
    (refine rC ?_;cbv)
    exact⟨z4 (by simp[zJ]),lR,xC (by rw[h3];rfl),trivial⟩
   ·subst h4;cbv
    (refine rC ?_;cbv)
    exact⟨zO rfl,lR,xC (by rw[h3];rfl),trivial⟩
  ·have h3:=hr2b (λe=>h2 (ho.2 e));cbv;refine yI (λh4=>?_) (λh4=>?_)
   ·subst h4;cbv
    (refine rC ?_;cbv)
    exact⟨z4 (by simp[zJ]),lR,zU (by rw[h3]),trivial⟩
   ·subst h4;cbv
    (refine rC ?_;cbv)
    exact⟨zO rfl,lR,zU (by rw[h3]),trivial⟩
 ·have h3:=hr2b (λe=>h (by rw[e];rfl));cbv;refine yI (λh4=>?_) (λh4=>?_)
  ·subst h4;cbv
   (refine rC ?_;cbv)
   exact⟨z4 (by simp[zJ]),lR,zU (by rw[h3]),trivial⟩
  ·subst h4;cbv
   (refine rC ?_;cbv)
   exact⟨zO rfl,lR,zU (by rw[h3]),trivial⟩
theorem s47 (x:R)(hx:x.sz (2^32)):zH 57 [rv x] (rv (zK x.q)):=by refine sF Tryz.f57 ?_;have h1:=hx.n;have h2:=hx.d;have h3:=pX x.den;have cu:=JY x.den oM;have cq:=Cc x.neg x.num (jX x.den) oM oM (by rw[bZ];exact x.d_ne);rw[bZ] at cq;have e:mkRat (sgn x.neg (val x.num)) x.d=x.q:=rfl;rw[e] at cq;generalize zK x.q=W at *;generalize jX x.den=u at *;obtain⟨neg,num,den⟩:=x;cbv;refine zP 8 (by cbv) ?_;cbv;refine dA cu ?_;cbv;refine dA cq ?_;cbv;exact rA
theorem s35 (x:R)(hx:x.num.length<2^40):zH 26 [rv x] (iV (yG x.q)):=by refine sF Tryz.f26 ?_;have c2:=s90 ⟨x.neg,x.num⟩ hx;have e:Z.v ⟨x.neg,x.num⟩=x.n:=rfl;rw[e,<-DB] at c2;generalize yG x.q=s at *;obtain⟨neg,num,den⟩:=x;cbv;refine cA c2 ?_;cbv;exact rA
theorem MY (x:R)(hx:x.sz (2^32)):zH 78 [rv x] (rv (zK (-x.q))):=by refine sF Tryz.f78 ?_;have ca:=s47 ⟨!x.neg,x.num,x.den⟩ ⟨hx.n,hx.d⟩;rw[H7] at ca;generalize zK (-x.q)=W at *;obtain⟨a,b,c⟩:=x;generalize hna:(!a)=na at *;cbv;refine xI rfl (by exact⟨⟨vW hna.symm,lR,lR,trivial⟩,trivial⟩) ca rfl ?_;cbv;exact rA
theorem s77 (x y:R)(hx:x.sz (2^31))(hy:y.sz (2^31)):zH 52 [rv x,rv y] (rv (zK (x.q*y.q))):=by
 refine sF Tryz.f52 ?_;have h1:=hx.n;have h2:=hx.d;have h3:=hy.n;have h4:=hy.d;have h7:=pX x.den;have h8:=pX y.den;have cux:=JY x.den oM;have cuy:=JY y.den oM;have cm:=s99 (jX x.den) (jX y.den) oM oM;have hml:=jY (jX x.den) (jX y.den);rw[bZ,bZ] at cm hml;have cn:=s99 x.num y.num oM oM;have hnl:=jY x.num y.num;have cq:=Cc (x.neg != y.neg) (zL (val x.num*val y.num)) (zL (x.d*y.d)) oM oM (by rw[zQ];exact Z0 x.d_ne y.d_ne);rw[zQ,zQ,<-Us] at cq;have e:mkRat (sgn x.neg (val x.num)*sgn y.neg (val y.num)) (x.d*y.d)=x.q*y.q:=(Rg x y).symm;rw[e] at cq;have hb:(x.neg != y.neg)=!decide (x.neg=y.neg):=by grind
 clear hml hnl e;generalize zK (x.q*y.q)=W at *;generalize zL (x.d*y.d)=M at *;generalize zL (val x.num*val y.num)=P at *;generalize jX x.den=ux at *;generalize jX y.den=uy at *;obtain⟨a,b,c⟩:=x;obtain⟨a',b',c'⟩:=y;simp only at *;generalize (a != a')=nb at *;cbv;refine zP 18 (by cbv) ?_;cbv;refine dA cn ?_;cbv;refine dA cux ?_;cbv;refine dA cuy ?_;cbv;refine dA cm ?_;cbv;refine wK (by exact⟨vW hb,lR,lR,trivial⟩) cq rfl ?_;cbv;exact rA
theorem s69 (x y:R)(hx:x.sz (2^32))(hy:y.sz (2^32)):zH 116 [rv x,rv y] (zM (decide (x=y))):=by
 refine sF Tryz.f116 ?_;have h1:=hx.n;have h2:=hx.d;have h3:=hy.n;have h4:=hy.d;have c1:=MZ x.num y.num oM oM;have c2:=MZ x.den y.den oM oM;obtain⟨a,b,c⟩:=x;obtain⟨a',b',c'⟩:=y;have hO:(decide ((⟨a,b,c⟩:R)=⟨a',b',c'⟩))=(decide (a=a')&&(decide (b=b')&&decide (c=c'))):=by grind
 rw[hO];simp only at c1 c2;generalize decide (b=b')=d1 at *;generalize decide (c=c')=d2 at *;clear hO h1 h2 h3 h4 hx hy;generalize hr:(decide (a=a')&&(d1&&d2))=r;cbv;refine zX (λh=>?_) (λh=>?_)
 ·rw[show decide (a=a')=true from decide_eq_true h,xQ] at hr;cbv;refine cA c1 ?_;cbv;refine yI (λh'=>?_) (λh'=>?_)
  ·subst h';cbv;refine cA c2 ?_;cbv
   (refine rC ?_;cbv)
   exact z4 (by grind)
  ·subst h';cbv
   (refine rC ?_;cbv)
   exact zO (by grind)
 ·rw[show decide (a=a')=false from decide_eq_false h,s3] at hr;cbv
  (refine rC ?_;cbv)
  exact zO hr.symm
theorem Fk (x:R)(hx:x.sz (2^32)):zH 71 [rv x] (zM x.ok):=by refine sF Tryz.f71 ?_;have cc:=s47 x hx;have cs:=s69 x (zK x.q) hx (z5 (hx.fits (by decide)));have e:decide (x=zK x.q)=x.ok:=rfl;rw[e] at cs;generalize x.ok=o at *;generalize zK x.q=W at *;obtain⟨a,b,c⟩:=x;obtain⟨a',b',c'⟩:=W;cbv;refine zP 4 (by cbv) ?_;cbv;refine dA cc ?_;cbv;refine dA cs ?_;cbv;exact rA
theorem Cm (z:Int):zK (z:Rat)=⟨(x7 z).neg,(x7 z).mag,[]⟩:=by unfold zK x7;simp only[Rat.num_intCast,Rat.den_intCast,if_true];congr
theorem s32 (x:Int)(h1:-9223372036854775808<=x)(h2:x<9223372036854775808):zH 25 [iV x] (rv (zK (x:Rat))):=by refine sF Tryz.f25 ?_;have c1:=s88 x h1 h2;rw[Cm];generalize x7 x=y at *;obtain⟨a,b⟩:=y;cbv;refine cA c1 ?_;cbv;exact rA
def ZO (a b:Int):Rat:=Rat.divInt a b
theorem BJ (a b:Bool)(n m:Nat):mkRat (sgn (a != b) n) m=ZO (sgn a n) (sgn b m):=by
 have h1:∀ (z:Int),Rat.divInt z (m:Int)=mkRat z m:=λz=>nE z m;have h2:∀ (z:Int),Rat.divInt z (-(m:Int))=mkRat (-z) m:=λz=>by rw[Rat.divInt_neg',h1]
 unfold ZO;cases b;{rw[show sgn false m=(m:Int) from rfl,h1];simp_all};{rw[show sgn true m=-(m:Int) from rfl,h2];cases a;{rfl};{show mkRat (n:Int) m=mkRat (- -(n:Int)) m;grind}}
theorem s98 (x y:Z)(hx:x.mag.length<2^33)(hy:y.mag.length<2^33)(h0:y.v≠0):zH 100 [zv x,zv y] (.tup [rv (zK (ZO x.v y.v)),iV 0]):=by
 refine sF Tryz.f100 ?_;have cs:=s90 y oM;have hs:jV y.v≠0:=by grind [jV]
 have hv0:val y.mag≠0:=λe=>h0 (by unfold Z.v;rw[e,Q3]);have cq:=Cc (x.neg != y.neg) x.mag y.mag hx hy hv0;have e:mkRat (sgn (x.neg != y.neg) (val x.mag)) (val y.mag)=ZO x.v y.v:=by exact BJ _ _ _ _
 rw[e] at cq;have hb:(x.neg != y.neg)=!decide (x.neg=y.neg):=by grind
 generalize zK (ZO x.v y.v)=W at *;generalize jV y.v=s at *;obtain⟨a,b⟩:=x;obtain⟨a',b'⟩:=y;simp only at *;generalize (a != a')=nb at *;cbv;refine cA cs ?_;cbv;refine zG (λh=>absurd h hs) (λh=>?_);cbv;refine xI rfl (by exact⟨vW hb,lR,lR,trivial⟩) cq rfl ?_;cbv;exact rA
theorem s43 (x y:Int)(h1:-9223372036854775808<=x)(h2:x<9223372036854775808)(h3:-9223372036854775808<=y)(h4:y<9223372036854775808)(h0:y≠0):zH 50 [iV x,iV y] (.tup [rv (zK (ZO x y)),iV 0]):=by refine sF Tryz.f50 ?_;have c1:=s88 x h1 h2;have c2:=s88 y h3 h4;have hl1:=X4 x h1 h2;have hl2:=X4 y h3 h4;have c3:=s98 (x7 x) (x7 y) oM oM (by grind [d7]);rw[d7,d7] at c3;generalize zK (ZO x y)=W at *;generalize x7 x=X at *;generalize x7 y=Y at *;cbv;refine cA c1 ?_;cbv;refine cA c2 ?_;cbv;refine cA c3 ?_;cbv;exact rA
theorem s44 (x y:R)(hx:x.sz (2^31))(hy:y.sz (2^31)):zH 51 [rv x,rv y] (rv (zK (x.q+y.q))):=by
 refine sF Tryz.f51 ?_;have h1:=hx.n;have h2:=hx.d;have h3:=hy.n;have h4:=hy.d;have h7:=pX x.den;have h8:=pX y.den;have cux:=JY x.den oM;have cuy:=JY y.den oM;have cx:=s99 x.num (jX y.den) oM oM;have cy:=s99 y.num (jX x.den) oM oM;have hxl:=jY x.num (jX y.den);have hyl:=jY y.num (jX x.den);rw[bZ] at cx cy hxl hyl;have ca:=N6 ⟨x.neg,zL (val x.num*y.d)⟩ ⟨y.neg,zL (val y.num*x.d)⟩ (show (zL (val x.num*y.d)).length<_ by omega) (show (zL (val y.num*x.d)).length<_ by omega);have e1:Z.v ⟨x.neg,zL (val x.num*y.d)⟩=x.n*(y.d:Int):=by unfold Z.v R.n;rw[zQ,Z8]
 have e2:Z.v ⟨y.neg,zL (val y.num*x.d)⟩=y.n*(x.d:Int):=by unfold Z.v R.n;rw[zQ,Z8]
 rw[e1,e2] at ca;have cm:=s99 (jX x.den) (jX y.den) oM oM;have hml:=jY (jX x.den) (jX y.den);rw[bZ,bZ] at cm hml;have hsl:(x7 (x.n*(y.d:Int)+y.n*(x.d:Int))).mag.length<2^33:=by have a1:=xZ (zL (val x.num*y.d));have a2:=xZ (zL (val y.num*x.d));rw[zQ] at a1 a2;obtain⟨k,hk⟩:∃ k,k=4294967297:=⟨_,rfl⟩;have b1:=f7 a1 (c8 vY (show (zL (val x.num*y.d)).length<=k by omega));have b2:=f7 a2 (c8 vY (show (zL (val y.num*x.d)).length<=k by omega));have e3:=Int.natAbs_add_le (x.n*(y.d:Int)) (y.n*(x.d:Int));rw[Int.natAbs_mul,Int.natAbs_mul,R.n,R.n,qH,qH,Int.natAbs_natCast,Int.natAbs_natCast] at e3;have e4:B^k*2<=B^k*B:=wN _ (by decide);have e5:(zL (x.n*(y.d:Int)+y.n*(x.d:Int)).natAbs).length<=k+1:=yL (by rw[uO B k];unfold R.n;generalize B^k=P at *;omega);show (zL (x.n*(y.d:Int)+y.n*(x.d:Int)).natAbs).length<2^33;omega
 have cq:=Cc (x7 (x.n*(y.d:Int)+y.n*(x.d:Int))).neg (x7 (x.n*(y.d:Int)+y.n*(x.d:Int))).mag (zL (x.d*y.d)) hsl oM (by rw[zQ];exact Z0 x.d_ne y.d_ne);have e6:sgn (x7 (x.n*(y.d:Int)+y.n*(x.d:Int))).neg (val (x7 (x.n*(y.d:Int)+y.n*(x.d:Int))).mag)=x.n*(y.d:Int)+y.n*(x.d:Int):=d7 _;rw[e6,zQ,<-Cp] at cq;clear e6 hsl hml e1 e2 hxl hyl;generalize zK (x.q+y.q)=W at *;generalize zL (x.d*y.d)=M at *;generalize x7 (x.n*(y.d:Int)+y.n*(x.d:Int))=S at *;generalize zL (val x.num*y.d)=W1 at *;generalize zL (val y.num*x.d)=W2 at *;generalize jX x.den=ux at *;generalize jX y.den=uy at *;obtain⟨a,b,c⟩:=x;obtain⟨a',b',c'⟩:=y;obtain⟨s1,s2⟩:=S;cbv;refine dR 10 (by cbv) (by cbv) ?_;cbv;refine dA cuy ?_;cbv;refine dA cx ?_;cbv;refine dR 10 (by cbv) (by cbv) ?_;cbv;refine dA cux ?_;cbv;refine dA cy ?_;cbv;refine cA ca ?_;cbv;refine zP 12 (by cbv) ?_;cbv;refine dA cux ?_;cbv;refine dA cuy ?_;cbv;refine dA cm ?_;cbv;refine dA cq ?_;cbv;exact rA
theorem s93 (x y:R)(hx:x.sz (2^31))(hy:y.sz (2^31)):zH 53 [rv x,rv y] (rv (zK (x.q-y.q))):=by refine sF Tryz.f53 ?_;have cn:=MY y (hy.mono oM);have ca:=s44 x (zK (-y.q)) hx (z5 (bM (hy.fits (by decide))));rw[yD,<-Ah] at ca;generalize zK (x.q-y.q)=W at *;generalize zK (-y.q)=V at *;obtain⟨a,b,c⟩:=x;obtain⟨a',b',c'⟩:=y;cbv;refine zP 4 (by cbv) ?_;cbv;refine dA cn ?_;cbv;refine dA ca ?_;cbv;exact rA
theorem SM (a b:Rat):yG (a-b)=wX a b:=by
 unfold yG wX;have h1:a-b<0↔a<b:=by grind
 have h2:0<a-b↔b<a:=by grind
 simp only[h1,h2]
theorem s42 (x y:R)(hx:x.sz (2^31))(hy:y.sz (2^31)):zH 47 [rv x,rv y] (iV (wX x.q y.q)):=by refine sF Tryz.f47 ?_;have ca:=s93 x y hx hy;have hf:=(sQ (hx.fits (by decide)) (hy.fits (by decide))).lnum;have cs:=s35 (zK (x.q-y.q)) (xR hf oM);rw[yD,SM] at cs;clear hf;generalize wX x.q y.q=C at *;generalize zK (x.q-y.q)=W at *;cbv;refine cA ca ?_;cbv;refine cA cs ?_;cbv;exact rA
def enc {α:Type} (p:α->List PV) (l:List α):List (List D):=l.map λa=>y7 (p a)
section
variable {α:Type} {p:α->List PV}
theorem zB (p:α->List PV)(l:List α):(enc p l).length=l.length:=by simp[enc]
theorem wD {n:Nat}(hn:∀ a,(p a).length=n)(l:List α):Wid n (λ_=>enc p l):=⟨λe he=>by simp only[enc,y9] at he;obtain⟨x,_,rfl⟩:=he;rw[fR,hn]⟩
theorem z3 (p:α->List PV)(l m:List α):enc p l++enc p m=enc p (l++m):=by simp[enc]
theorem aM (p:α->List PV)(l:List α)(n:Nat)(a:α):(enc p l).set n (y7 (p a))=enc p (l.set n a):=by simp[enc,List.map_set]
theorem wB {n:Nat}{l:List α}{k:Int}{K:List PV->Prop}(j:Nat)(hk:k=(j:Int))(hj:j<l.length)(hf:∀ a,yX qT (p a)=true)(hn:∀ a,(p a).length=n) (hK:∀ a,l[j]?=some a->K (p a)):IdxOk n (λ_=>enc p l) (λ_=>k) K :=
 C0 j hk (p l[j]) (hf _) (hn _) (by simp[enc,hj]) (hK _ (by simp[hj]))
theorem sW {n:Nat}{l:List α}{i:Nat}{K:List PV->Prop}(j:Nat)(hk:i=j)(hj:j<l.length)(hf:∀ a,yX qT (p a)=true)(hn:∀ a,(p a).length=n) (hK:∀ a,l[j]?=some a->K (p a)):ElOk n (λ_=>enc p l) (λ_=>i) K :=
 K8 j hk (p l[j]) (hf _) (hn _) (by simp[enc,hj]) (hK _ (by simp[hj]))
end
structure A where
 ts:List (Int×R)
 c:R
structure F where
 ts:List (Int×Rat)
 c:Rat
theorem F.ext' {f g:F}(h1:f.ts=g.ts)(h2:f.c=g.c):f=g:=by cases f;simp_all
def tq (l:List (Int×R)):List (Int×Rat):=l.map λt=>(t.1,t.2.q)
def tR (l:List (Int×Rat)):List (Int×R):=l.map λt=>(t.1,zK t.2)
def A.f (a:A):F:=⟨tq a.ts,a.c.q⟩
def fA (f:F):A:=⟨tR f.ts,zK f.c⟩
theorem Vu (l:List (Int×Rat)):tq (tR l)=l:=by simp[tq,tR,yD,Function.comp_def]
theorem dO (f:F):(fA f).f=f:=by simp[A.f,fA,Vu,yD]
def rc (x:R):List PV:=[zM x.neg,nat x.num,nat x.den]
def tc (t:Int×R):List PV:=[iV t.1,zM t.2.neg,nat t.2.num,nat t.2.den]
abbrev tsv (l:List (Int×R)):PV:=.sl (λ_=>enc tc l)
def ac (f:A):List PV:=[tsv f.ts,zM f.c.neg,nat f.c.num,nat f.c.den]
abbrev av (f:A):PV:=.agg [tsv f.ts,zM f.c.neg,nat f.c.num,nat f.c.den]
abbrev fv (f:F):PV:=av (fA f)
theorem jW (a:R):yX qT (rc a)=true:=rfl
theorem cH (a:R):(rc a).length=3:=rfl
theorem wP (a:Int×R):yX qT (tc a)=true:=rfl
theorem wH (a:Int×R):(tc a).length=4:=rfl
theorem kX (a:A):yX qT (ac a)=true:=rfl
theorem fI (a:A):(ac a).length=4:=rfl
structure Tsz (k:Nat) (l:List (Int×R)):Prop where
 len:l.length<2^38
 sz:∀ t,t∈l->t.2.sz k
structure A.sz (a:A) (k:Nat):Prop where
 t:Tsz k a.ts
 c:a.c.sz k
theorem Tsz.mono {k m:Nat}{l}(h:Tsz k l)(hm:k<=m):Tsz m l:=⟨h.len,λt ht=>(h.sz t ht).mono hm⟩
theorem A.sz.mono {k m:Nat}{a:A}(h:a.sz k)(hm:k<=m):a.sz m:=⟨h.t.mono hm,h.c.mono hm⟩
structure Tfit (k:Nat) (l:List (Int×Rat)):Prop where
 len:l.length<2^38
 fit:∀ t,t∈l->Fits k t.2
structure F.fit (f:F) (k:Nat):Prop where
 t:Tfit k f.ts
 c:Fits k f.c
theorem Tfit.mono {k m:Nat}{l}(h:Tfit k l)(hm:k<=m):Tfit m l:=⟨h.len,λt ht=>(h.fit t ht).mono hm⟩
theorem F.fit.mono {k m:Nat}{a:F}(h:a.fit k)(hm:k<=m):a.fit m:=⟨h.t.mono hm,h.c.mono hm⟩
theorem Tfit.tR {k:Nat}{l}(h:Tfit k l):Tsz k (tR l):=⟨by simpa[Go.Proofs.YtboocdbmnfjomaaGreat.tR] using h.len,λt ht=>by simp only[Go.Proofs.YtboocdbmnfjomaaGreat.tR,y9] at ht;obtain⟨u,hu,rfl⟩:=ht;exact z5 (h.fit u hu)⟩
theorem F.fit.fA {k:Nat}{f:F}(h:f.fit k):(fA f).sz k:=⟨h.t.tR,z5 h.c⟩
theorem Tsz.fit {k:Nat}{l}(h:Tsz k l)(hk:1<=k):Tfit k (tq l):=⟨by simpa[tq] using h.len,λt ht=>by simp only[tq,y9] at ht;obtain⟨u,hu,rfl⟩:=ht;exact (h.sz u hu).fits hk⟩
theorem A.sz.fit {k:Nat}{a:A}(h:a.sz k)(hk:1<=k):a.f.fit k:=⟨h.t.fit hk,h.c.fits hk⟩
def vT (vars:Int):Int->List (Int×R)->Bool
 |_,[]=>true| p,t::r=>decide (0<=t.1)&&decide (t.1<vars)&&decide (p<t.1)&&decide (t.2.q≠0)&&t.2.ok&&vT vars t.1 r
def A.valid (vars:Int) (a:A):Bool:=vT vars (-1) a.ts&&a.c.ok
structure Cn (l:List (Int×Rat)):Prop where
 s:l.Pairwise (λa b=>a.1<b.1)
 n:∀ t,t∈l->t.2≠0
theorem Cn.nil:Cn []:=⟨.nil,by simp⟩
theorem Cn.tail {t l}(h:Cn (t::l)):Cn l:=⟨(W4.1 h.s).2,λu hu=>h.n u (w6 _ hu)⟩
theorem Cn.lt {t l}(h:Cn (t::l)):∀ u,u∈l->t.1<u.1:=(W4.1 h.s).1
theorem Cn.hd {t l}(h:Cn (t::l)):t.2≠0:=h.n t vH
theorem Cn.cons {t l}(h:Cn l)(h1:∀ u,u∈l->t.1<u.1)(h2:t.2≠0):Cn (t::l) :=
 ⟨W4.2 ⟨h1,h.s⟩,λu hu=>by rcases yS.1 hu with rfl|hu <;> first|exact h2|exact h.n u hu⟩
def co:List (Int×Rat)->Int->Rat
 |[],_=>0| t::r,v=>(if t.1=v then t.2 else 0)+co r v
theorem YU {l:List (Int×Rat)}{v:Int}(h:∀ t,t∈l->t.1≠v):co l v=0:=by
 induction l with
 |nil=>rfl| cons t r ih =>
  simp only[co,if_neg (h t vH),ih λu hu=>h u (w6 _ hu)];grind
theorem cT {t:Int×Rat}{l}(h:Cn (t::l)):co (t::l) t.1=t.2:=by simp only[co,if_true,YU λu hu=>(Int.ne_of_lt (h.lt u hu)).symm];grind
theorem Cn.ext:∀ {l m:List (Int×Rat)},Cn l->Cn m->(∀ v,co l v=co m v)->l=m
 |[],[],_,_,_=>rfl| [],b::m,_,hm,h=>by have:=h b.1;rw[cT hm] at this;exact absurd this.symm hm.hd| a::l,[],hl,_,h=>by have:=h a.1;rw[cT hl] at this;exact absurd this hl.hd| a::l,b::m,hl,hm,h=>by
  have h1:a.1=b.1:=by
   rcases Int.lt_trichotomy a.1 b.1 with c|c|c
   ·have:=h a.1;rw[cT hl,YU (l:=b::m) (λt ht=>by
     rcases yS.1 ht with rfl|ht;{omega}
     ·have:=hm.lt t ht;omega)] at this
    exact absurd this hl.hd
   {exact c}
   ·have:=h b.1;rw[cT hm,YU (l:=a::l) (λt ht=>by
     rcases yS.1 ht with rfl|ht;{omega}
     ·have:=hl.lt t ht;omega)] at this
    exact absurd this.symm hm.hd
  (have h2:a.2=b.2:=by grind [cT]);have h3:a=b:=Prod.ext h1 h2
  subst h3;congr 1;refine Cn.ext hl.tail hm.tail λv=>?_;have:=h v;grind [co]
def pc (v:Int) (q:Rat) (r:List (Int×Rat)):List (Int×Rat):=if q=0 then r else (v,q)::r
theorem l6 (v:Int)(q:Rat)(r)(w:Int):co (pc v q r) w=(if v=w then q else 0)+co r w:=by unfold pc;split;{grind};{rfl}
theorem Cn.pc {v:Int}{q:Rat}{r}(h:Cn r)(h1:∀ u,u∈r->v<u.1):Cn (pc v q r):=by unfold Go.Proofs.YtboocdbmnfjomaaGreat.pc;split;{exact h};{exact h.cons h1 oM}
theorem qI {v:Int}{q:Rat}{r u}(h:u∈pc v q r):u=(v,q)\/u∈r:=by grind [pc]
def mrg (c:Rat):List (Int×Rat)->List (Int×Rat)->List (Int×Rat)
 |[],[]=>[]| a::aa,[]=>pc a.1 a.2 (mrg c aa [])| [],b::bb=>pc b.1 (b.2*c) (mrg c [] bb)| a::aa,b::bb=>if a.1<b.1 then pc a.1 a.2 (mrg c aa (b::bb)) else if b.1<a.1 then pc b.1 (b.2*c) (mrg c (a::aa) bb) else pc a.1 (a.2+b.2*c) (mrg c aa bb)
termination_by a b=>a.length+b.length
theorem m6 (c:Rat):∀ (a b:List (Int×Rat)) (v:Int),co (mrg c a b) v=co a v+co b v*c
 |[],[],v=>by grind [mrg,co]| a::aa,[],v=>by rw[mrg,l6,m6 c aa []];grind [co]| [],b::bb,v=>by rw[mrg,l6,m6 c [] bb];grind [co]| a::aa,b::bb,v=>by
  rw[mrg];split;{rw[l6,m6 c aa (b::bb)];grind [co]}
  ·split;{rw[l6,m6 c (a::aa) bb];grind [co]}
   ·(have:a.1=b.1:=by omega);rw[l6,m6 c aa bb];grind [co]
termination_by a b=>a.length+b.length
theorem dK {c:Rat}:∀ {a b:List (Int×Rat)} {u},u∈mrg c a b->(∃ t,t∈a/\t.1=u.1)\/(∃ t,t∈b/\t.1=u.1)
 |[],[],u,h=>by grind [mrg]| a::aa,[],u,h=>by
  rw[mrg] at h;rcases qI h with rfl|h;{grind}
  ·rcases dK h with⟨t,h1,h2⟩|⟨t,h1,h2⟩
   all_goals grind
 |[],b::bb,u,h=>by
  rw[mrg] at h;rcases qI h with rfl|h;{grind}
  ·rcases dK h with⟨t,h1,h2⟩|⟨t,h1,h2⟩
   all_goals grind
 |a::aa,b::bb,u,h=>by
  rw[mrg] at h;split at h
  ·rcases qI h with rfl|h;{grind}
   ·rcases dK h with⟨t,h1,h2⟩|⟨t,h1,h2⟩
    all_goals grind
  ·split at h
   ·rcases qI h with rfl|h;{grind}
    ·rcases dK h with⟨t,h1,h2⟩|⟨t,h1,h2⟩
     all_goals grind
   ·rcases qI h with rfl|h;{grind}
    ·rcases dK h with⟨t,h1,h2⟩|⟨t,h1,h2⟩
     all_goals grind
termination_by a b=>a.length+b.length
theorem Cn.mrg {c:Rat}:∀ {a b:List (Int×Rat)},Cn a->Cn b->Cn (mrg c a b)
 |[],[],_,_=>by rw[Go.Proofs.YtboocdbmnfjomaaGreat.mrg];omega| a::aa,[],ha,hb=>by rw[Go.Proofs.YtboocdbmnfjomaaGreat.mrg];refine Cn.pc (Cn.mrg ha.tail hb) λu hu=>?_;rcases dK hu with⟨t,h1,h2⟩|⟨t,h1,h2⟩;{rw[<-h2];exact ha.lt t h1};grind
 |[],b::bb,ha,hb=>by rw[Go.Proofs.YtboocdbmnfjomaaGreat.mrg];refine Cn.pc (Cn.mrg ha hb.tail) λu hu=>?_;rcases dK hu with⟨t,h1,h2⟩|⟨t,h1,h2⟩;{grind};{rw[<-h2];exact hb.lt t h1}
 |a::aa,b::bb,ha,hb=>by
  rw[Go.Proofs.YtboocdbmnfjomaaGreat.mrg];split;{rename_i hlt;refine Cn.pc (Cn.mrg ha.tail hb) λu hu=>?_;rcases dK hu with⟨t,h1,h2⟩|⟨t,h1,h2⟩;{rw[<-h2];exact ha.lt t h1};{rw[<-h2];rcases yS.1 h1 with rfl|h1;{exact hlt};{exact Int.lt_trans hlt (hb.lt t h1)}}}
  ·split;{rename_i _ hlt;refine Cn.pc (Cn.mrg ha hb.tail) λu hu=>?_;rcases dK hu with⟨t,h1,h2⟩|⟨t,h1,h2⟩;{rw[<-h2];rcases yS.1 h1 with rfl|h1;{exact hlt};{exact Int.lt_trans hlt (ha.lt t h1)}};{rw[<-h2];exact hb.lt t h1}}
   ·(have:a.1=b.1:=by omega);refine Cn.pc (Cn.mrg ha.tail hb.tail) λu hu=>?_
    rcases dK hu with⟨t,h1,h2⟩|⟨t,h1,h2⟩;{rw[<-h2];exact ha.lt t h1};{rw[<-h2,this];exact hb.lt t h1}
termination_by a b=>a.length+b.length
theorem rP (v:Int)(q:Rat)(r):(pc v q r).length<=r.length+1:=by grind [pc]
theorem aF (c:Rat):∀ (a b:List (Int×Rat)),(mrg c a b).length<=a.length+b.length
 |[],[]=>by rw[mrg];simp| a::aa,[]=>by rw[mrg];have:=rP a.1 a.2 (mrg c aa []);have:=aF c aa [];grind| [],b::bb=>by rw[mrg];have:=rP b.1 (b.2*c) (mrg c [] bb);have:=aF c [] bb;grind| a::aa,b::bb=>by rw[mrg];split;{have:=rP a.1 a.2 (mrg c aa (b::bb));have:=aF c aa (b::bb);grind};{split;{have:=rP b.1 (b.2*c) (mrg c (a::aa) bb);have:=aF c (a::aa) bb;grind};{have:=rP a.1 (a.2+b.2*c) (mrg c aa bb);have:=aF c aa bb;grind}}
termination_by a b=>a.length+b.length
def F.merge (f g:F) (c:Rat):F:=⟨mrg c f.ts g.ts,f.c+g.c*c⟩
def F.add (f g:F):F:=f.merge g 1
def F.sub (f g:F):F:=f.merge g (-1)
def F.scale (f:F) (c:Rat):F:=F.merge ⟨[],0⟩ f c
theorem nQ {c:Rat}{k m:Nat}(hc:Fits m c):∀ {a b:List (Int×Rat)},(∀ t,t∈a->Fits k t.2)->(∀ t,t∈b->Fits k t.2)->∀ u,u∈mrg c a b->Fits (2*k+m+1) u.2
 |[],[],_,_,u,h=>by grind [mrg]| a::aa,[],ha,hb,u,h=>by rw[mrg] at h;rcases qI h with rfl|h;{exact (ha a vH).mono oM};{exact nQ hc (λt ht=>ha t (w6 _ ht)) hb u h}
 |[],b::bb,ha,hb,u,h=>by rw[mrg] at h;rcases qI h with rfl|h;{exact (wG (hb b vH) hc).mono oM};{exact nQ hc ha (λt ht=>hb t (w6 _ ht)) u h}
 |a::aa,b::bb,ha,hb,u,h=>by rw[mrg] at h;split at h;{rcases qI h with rfl|h;{exact (ha a vH).mono oM};{exact nQ hc (λt ht=>ha t (w6 _ ht)) hb u h}};{split at h;{rcases qI h with rfl|h;{exact (wG (hb b vH) hc).mono oM};{exact nQ hc ha (λt ht=>hb t (w6 _ ht)) u h}};{rcases qI h with rfl|h;{exact (qE (ha a vH) (wG (hb b vH) hc)).mono oM};{exact nQ hc (λt ht=>ha t (w6 _ ht)) (λt ht=>hb t (w6 _ ht)) u h}}}
termination_by a b=>a.length+b.length
theorem okQ {p:Prop}(h:p:=by (try simp only[zB,zJ] at *) <;> (try dsimp only [zS] at *) <;> omega):p:=h
theorem yJ {α:Type}{l:List α}{i:Nat}{t:α}(h:l[i]?=some t):l.drop i=t::l.drop (i+1):=by grind [List.drop_eq_getElem_cons]
theorem eK (vars p:Int)(t r):vT vars p (t::r)=(decide (0<=t.1)&&decide (t.1<vars)&&decide (p<t.1)&&decide (t.2.q≠0)&&t.2.ok&&vT vars t.1 r):=rfl
theorem sgnQ_ne {q:Rat}:yG q≠0↔q≠0:=by grind [yG]
theorem gF (a:A)(vars:Int)(ha:a.sz (2^36)):zH 33 [av a,iV vars] (zM (a.valid vars)):=by
 refine sF Tryz.f33 ?_;obtain⟨ts,c⟩:=a;have hl:=ha.t.len;have hts:=ha.t.sz;have cc:=Cb c ha.c;generalize hr:A.valid vars ⟨ts,c⟩=r;have hr0:r=(vT vars (-1) ts&&c.ok):=hr.symm;simp only at hl hts cc;generalize c.ok=co at *;clear hr ha;cbv;refine zY (σ:=Nat×Int) (λs=>⟨[(1,iV vars),(2,.ptr 2 0),(8,tsv ts),(9,iV ts.length),(10,iV s.1)],[(2,.box [tsv ts,zM c.neg,nat c.num,nat c.den])]⟩)
  (λs=>s.1<=ts.length/\r=(vT vars s.2 (ts.drop s.1)&&co)/\(s.1=0->s.2=-1)/\(s.1≠0->∃ u,ts[s.1-1]?=some u/\u.1=s.2)) (λs=>ts.length-s.1)
  (0,-1) ⟨om,hr0,λ_=>rfl,λh=>absurd rfl h⟩ (.le ?_ ?_ rfl) ?_
 {cbv;exact⟨lR,lR,lR,zF (by (try dsimp only [zS] at *);rw[zB]),lR,trivial⟩};{cbv;exact okA};intro s hs;obtain⟨h1,hv,h3,h4⟩:=hs;generalize s.1=i at *;generalize s.2=p at *;cbv;refine zG (λh5=>?_) (λh5=>?_)
 ·(cbv;refine wB (l:=ts) i (by (grind) <;> (try simp only[zJ] at *) <;> omega) om wP wH (λt ht=>?_);rw[yJ ht,eK] at hv;have htz:=hts t (yE ht);have cs:=s86 t.2 (by have:=htz.n;omega);have cv:=Cb t.2 htz;have hq:decide (t.2.q≠0)=decide (yG t.2.q≠0):=by rw[decide_eq_decide];exact sgnQ_ne.symm);rw[hq] at hv
  (generalize yG t.2.q=sg at *;generalize hok:t.2.ok=ok at *;obtain⟨v,x1,x2,x3⟩:=t;simp only at hv;generalize hrest:(vT vars v (ts.drop (i+1))&&co)=rest;have hv':r=(decide (0<=v)&&decide (v<vars)&&decide (p<v)&&decide (sg≠0)&&ok&&rest):=by grind);clear hv
  cbv;refine zP 37 (by cbv) ?_;cbv;refine zX (λe1=>?_) (λe1=>?_)
  ·cbv
   (refine rC ?_;cbv)
   exact zO (by grind)
  cbv;refine zX (λe2=>?_) (λe2=>?_)
  ·cbv
   (refine rC ?_;cbv)
   exact zO (by grind)
  (cbv;have fin:(¬(p<v)->r=false):=λh=>by grind);have hmain:(p<v)->r=(decide (sg≠0)&&ok&&rest):=λh=>by grind
  clear hv';refine zX (λe3=>?_) (λe3=>?_)
  ·(obtain⟨u,hu,hu2⟩:=h4 om;cbv;refine⟨zE om om,wB (l:=ts) (i-1) om om wP wH (λu' hu'=>?_)⟩;have:u'=u:=by grind);subst this
   obtain⟨w,y1,y2,y3⟩:=u';simp only at hu2;cbv;refine zX (λe4=>?_) (λe4=>?_)
   ·cbv
    (refine rC ?_;cbv)
    exact zO (fin oM)
   have hm:=hmain oM;cbv;refine dA cs ?_;cbv;refine zX (λe5=>?_) (λe5=>?_)
   ·cbv
    (refine rC ?_;cbv)
    exact zO (by grind)
   rw[decide_eq_true e5,xQ] at hm;cbv;refine dA cv ?_;cbv;refine zZ (λe6=>?_) (λe6=>?_);{rw[e6,xQ] at hm;cbv;exact⟨zE om om,(i+1,v),⟨om,by grind,λh=>absurd h (by simp),λ_=>⟨_,ht,rfl⟩⟩,om,.le (by cbv;exact⟨lR,lR,lR,lR,zF om,trivial⟩) (by cbv;exact okA) rfl⟩}
   ·cbv
    (refine rC ?_;cbv)
    exact zO (by grind)
  ·have hp:=h3 om;have hm:=hmain oM;cbv;refine dA cs ?_;cbv;refine zX (λe5=>?_) (λe5=>?_)
   ·cbv
    (refine rC ?_;cbv)
    exact zO (by grind)
   rw[decide_eq_true e5,xQ] at hm;cbv;refine dA cv ?_;cbv;refine zZ (λe6=>?_) (λe6=>?_);{rw[e6,xQ] at hm;cbv;exact⟨zE om om,(i+1,v),⟨om,by grind,λh=>absurd h (by simp),λ_=>⟨_,ht,rfl⟩⟩,om,.le (by cbv;exact⟨lR,lR,lR,lR,zF om,trivial⟩) (by cbv;exact okA) rfl⟩}
   ·cbv
    (refine rC ?_;cbv)
    exact zO (by grind)
 ·(have he:i=ts.length:=om;rw[he,vE] at hv;have hv':r=co:=by rw[hv];rfl);cbv
  refine cA cc ?_;cbv
  (refine rC ?_;cbv)
  exact z4 hv'.symm
end Go.Proofs.YtboocdbmnfjomaaGreat
