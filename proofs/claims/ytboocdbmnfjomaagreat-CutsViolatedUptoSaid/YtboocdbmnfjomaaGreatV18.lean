/- A part of the proof: RqA, RqB, ReA, ReB. -/
import Derived.Test.YtboocdbmnfjomaaGreatV17
set_option linter.all false
namespace Go.Proofs.YtboocdbmnfjomaaGreat
open Go
set_option maxRecDepth 100000
abbrev rv (x:R):PV:=.agg [zM x.neg,nat x.num,nat x.den]
structure R.sz (x:R) (k:Nat):Prop where
 n:x.num.length<=k
 d:x.den.length<=k
theorem z5 {k:Nat}{q:Rat}(h:Fits k q):(zK q).sz k:=⟨h.lnum,h.lden⟩
theorem R.sz.fits {k:Nat}{x:R}(h:x.sz k)(hk:1<=k):Fits k x.q:=Tr h.n h.d hk
theorem R.sz.mono {k m:Nat}{x:R}(h:x.sz k)(hm:k<=m):x.sz m:=⟨vF h.n hm,vF h.d hm⟩
def xU (d:List UInt32):List UInt32:=if val d=0 then [1] else d
def kE (x:R):val (xU x.den)=x.d:=by unfold xU R.d;split;{rfl};{rfl}
def jE (d:List UInt32):(xU d).length<=d.length+1:=by grind [xU]
def ZH:zL 1=[1]:=by rw[aU (by decide)];rw[show 1/B=0 by decide,yV];rfl
def dL {n:Nat}:zL n=[1]↔n=1:=by constructor;{intro h;have:=zQ n;rw[h] at this;exact this.symm};{intro h;rw[h,ZH]}
def MU:zH 200 [] (nat [1]):=by
 refine sF Tryz.f200 ?_;cbv
 (refine rC ?_;cbv)
 exact zU rfl
def PN (l:List UInt32)(hl:l.length<2^40):zH 197 [nat l] (zM (decide (l=[1]))):=by
 refine sF Tryz.f197 ?_;generalize hd:decide (l=[1])=d;cbv;refine zX (λh=>?_) (λh=>?_)
 ·have h1:l.length=1:=om;cbv;refine xM 0 rfl oM ?_;cbv
  (refine rC ?_;cbv)
  refine z4 ?_;rw[<-hd,decide_eq_decide]
  match l,h1 with
  |[x],_ =>
   have e1:[x].getD 0 0=x:=rfl;rw[e1];constructor;{intro h2;have:x=1:=Zf.1 (by show x.toNat=1;exact om);rw[this]};{intro h2;rw[List.cons.inj h2 |>.1];rfl}
 ·cbv
  (refine rC ?_;cbv)
  refine zO ?_;rw[<-hd];exact decide_eq_false λe=>h (by rw[e];rfl)
def UD (x:R)(hx:x.den.length<2^40):zH 152 [rv x] (nat (xU x.den)):=by
 refine sF Tryz.f152 ?_;obtain⟨neg,num,den⟩:=x;have h0:((gL (val den):Nat):Int)=0↔val den=0:=by grind [n8]
 have hs:=MW den hx;have e1:val den=0->xU den=[1]:=λh=>if_pos h;have e2:val den≠0->xU den=den:=λh=>if_neg h;show wp _ _ (gT _ (nat (xU den)) [] []);generalize xU den=u at *;generalize gL (val den)=b at h0 hs;cbv;refine cA hs ?_;cbv;refine zG (λh=>?_) (λh=>?_)
 ·cbv;refine cA MU ?_;cbv
  (refine rC ?_;cbv)
  exact zU (by grind)
 ·cbv
  (refine rC ?_;cbv)
  exact zU (by grind)
def D9 (neg:Bool)(num den:List UInt32)(hn:num.length<2^38)(hd:den.length<2^38)(h0:val den≠0):zH 150 [zM neg,nat num,nat den] (rv (zK (mkRat (sgn neg (val num)) (val den)))):=by
 refine sF Tryz.f150 ?_;rw[Zy h0];have hnl:=z8 num;have hdl:=z8 den;have hg0:Nat.gcd (val num) (val den)≠0:=λe=>h0 (Nat.eq_zero_of_gcd_eq_zero_right e);have cg:=NV (zL (val num)) (zL (val den)) oM oM;have cn:=Sf (zL (val num)) (zL (Nat.gcd (val num) (val den))) oM (xR (kU (Nat.le_of_dvd (s5 h0) (QI _ _))) oM) (by grind [zQ]);have cd:=Sf (zL (val den)) (zL (Nat.gcd (val num) (val den))) oM (xR (kU (Nat.le_of_dvd (s5 h0) (QI _ _))) oM) (by grind [zQ]);have cu:=PN (zL (Nat.gcd (val num) (val den))) (xR (kU (Nat.le_of_dvd (s5 h0) (QI _ _))) oM);have cf:=PN (zL (val den/Nat.gcd (val num) (val den))) (xR (kU (i6 _ _)) oM);have cd1:=PN (zL (val den)) oM;have cm1:=D6 num oM;have cm2:=D6 den oM;rw[zQ,zQ] at cg cn cd;have hN:∀ n,((lm (zL n)).length:Int)=0↔n=0:=λn=>by grind [zJ,wA,List.length_eq_zero_iff]
 have hge1:Nat.gcd (val num) (val den)=1->val num/Nat.gcd (val num) (val den)=val num/\val den/Nat.gcd (val num) (val den)=val den:=λe=>by grind
 have hz:val num=0->val num/Nat.gcd (val num) (val den)=0/\val den/Nat.gcd (val num) (val den)=1:=λe=>by rw[e,Nat.gcd_zero_left,Nat.zero_div,Nat.div_self (s5 h0)];omega
 have hd1:val den=1->Nat.gcd (val num) (val den)=1:=λe=>by simp_all
 generalize val den/Nat.gcd (val num) (val den)=D' at *;generalize val num/Nat.gcd (val num) (val den)=N' at *;generalize Nat.gcd (val num) (val den)=g at *;generalize val num=N at *;generalize val den=Dn at *;show wp _ _ (gT _ (.agg [zM (neg&&decide (N≠0)),nat (zL N'),nat (if D'=1 then [] else zL D')]) [] []);generalize hr1:(neg&&decide (N≠0))=r1;generalize hr2:(if D'=1 then [] else zL D')=r2;cbv;refine cA cm1 ?_;cbv;refine zG (λh=>?_) (λh=>?_)
 ·have e:=(hN N).1 h;obtain⟨e1,e2⟩:=hz e;cbv
  (refine rC ?_;cbv)
  refine⟨zO ?_,xC ?_,xC ?_,trivial⟩;{grind};{simp_all};{rw[<-hr2,if_pos e2];rfl}
 ·(have e:=λe=>h ((hN N).2 e);have hr1':neg=r1:=by grind);cbv
  refine cA cm2 ?_;cbv;refine cA cd1 ?_;cbv;refine zG (λh2=>?_) (λh2=>?_)
  ·have e1:=dL.1 h2;have e3:=hd1 e1;obtain⟨e4,e5⟩:=hge1 e3;cbv
   (refine rC ?_;cbv)
   refine⟨z4 hr1',zU (by rw[e4]),xC ?_,trivial⟩;rw[<-hr2,if_pos oM];rfl
  ·cbv;refine cA cg ?_;cbv;refine cA cu ?_;cbv;refine gK (σ:=Unit) (λ_=>⟨[(0,zM neg),(1,nat (zL N')),(2,nat (zL D')),(6,.ptr 6 0)],[(6,.box [.ff,.nil,.nil])]⟩) (λ_=>True) (λh3=>?_) (λh3=>?_) ?_;{have e3:=dL.1 h3;obtain⟨e4,e5⟩:=hge1 e3;cbv;refine⟨(),trivial,.le ?_ ?_ rfl⟩;{cbv;exact⟨lR,zU (by rw[e4]),zU (by rw[e5]),lR,trivial⟩};{cbv;exact okA}};{cbv;refine cA cn ?_;cbv;refine cA cd ?_;cbv;refine⟨(),trivial,.le ?_ ?_ rfl⟩;{cbv;exact okA};{cbv;exact okA}};intro _ _;cbv;refine cA cf ?_;cbv;refine zG (λh3=>?_) (λh3=>?_)
   ·cbv
    (refine rC ?_;cbv)
    exact⟨z4 hr1',lR,xC (by rw[<-hr2,if_pos (dL.1 h3)];rfl),trivial⟩
   ·cbv
    (refine rC ?_;cbv)
    exact⟨z4 hr1',lR,zU (by rw[<-hr2,if_neg (λe=>h3 (dL.2 e))]),trivial⟩
def Fh (x:R)(hx:x.sz (2^36)):zH 95 [rv x] (rv (zK x.q)):=by refine sF Tryz.f95 ?_;have h1:=hx.n;have h2:=hx.d;have h3:=jE x.den;have cu:=UD x oM;have cq:=D9 x.neg x.num (xU x.den) oM oM (by rw[kE];exact x.d_ne);rw[kE] at cq;have e:mkRat (sgn x.neg (val x.num)) x.d=x.q:=rfl;rw[e] at cq;generalize zK x.q=W at *;generalize xU x.den=u at *;obtain⟨neg,num,den⟩:=x;cbv;refine zP 7 (by cbv) ?_;cbv;refine dA cu ?_;cbv;refine dA cq ?_;cbv;exact rA
def P9 (x:R):x.ok=true↔(x.neg=(zK x.q).neg/\x.num.length=(zK x.q).num.length/\x.den.length=(zK x.q).den.length/\qV (val x.num) (val (zK x.q).num)=0/\qV (val x.den) (val (zK x.q).den)=0):=by
 have hc:∀ a b,qV a b=0↔a=b:=λa b=>by grind [qV]
 simp only[R.ok,decide_eq_true_eq,hc];constructor;{grind};{rintro⟨h1,h2,h3,h4,h5⟩;have e1:=Yz h2 h4;have e2:=Yz h3 h5;generalize zK x.q=y at *;obtain⟨a,b,c⟩:=x;simp_all}
def P8 (neg:Bool)(num:List UInt32):R.ok ⟨neg,num,[]⟩=(bP num&&(!neg || decide (0<num.length))):=by
 have hq:R.q ⟨neg,num,[]⟩=mkRat (sgn neg (val num)) 1:=rfl;have hp:=Zy (neg:=neg) (n:=val num) (d:=1) (by decide);rw[rK];simp only[R.ok,decide_eq_true_eq,hq,hp,Nat.gcd_one_right,Nat.div_one,if_true,R.mk.injEq,and_true,xA,QL,WY];have hlen:0<num.length↔num≠[]:=by grind
 constructor
 ·(rintro⟨h1,h2⟩;have hcn:bP num=true:=by rw[h2];exact rI _);refine⟨hcn,?_⟩
  cases neg with
  |false=>grind| true =>
   grind [val]
 ·rintro⟨h1,h2⟩;refine⟨?_,(nT h1).symm⟩;cases neg with
  |false=>rfl| true =>
   grind [Ui]
def Cb (x:R)(hx:x.sz (2^36)):zH 82 [rv x] (zM x.ok):=by
 refine sF Tryz.f82 ?_;have h1:=hx.n;have h2:=hx.d;have hok:=P9 x;have hnil:x.den.length=0->x.ok=(bP x.num&&(!x.neg || decide (0<x.num.length))):=by intro h;obtain⟨a,b,c⟩:=x;have:c=[]:=gO h;subst this;exact P8 a b
 have cc:=Fh x hx;have cv:=N4 x.num oM;have hf:Fits (2^36) x.q:=hx.fits (by decide);have hl1:=hf.lnum;have hl2:=hf.lden;have cm1:=JV x.num (zK x.q).num oM oM;have cm2:=JV x.den (zK x.q).den oM oM;generalize hO:x.ok=O at *;generalize zK x.q=W at *;clear hf;obtain⟨neg,num,den⟩:=x;obtain⟨neg',num',den'⟩:=W;simp only at *;generalize qV (val num) (val num')=c1 at *;generalize qV (val den) (val den')=c2 at *;cbv;refine zG (λh=>?_) (λh=>?_)
 ·have e:=hnil om;cbv;refine cA cv ?_;generalize bP num=cn at *;cbv;refine yI (λh3=>?_) (λh3=>?_)
  ·subst h3;cbv;refine yI (λh4=>?_) (λh4=>?_)
   ·subst h4;cbv
    (refine rC ?_;cbv)
    exact z4 (by rw[e];simp[zJ])
   ·subst h4;cbv
    (refine rC ?_;cbv)
    exact yN (by grind)
  ·subst h3;cbv
   (refine rC ?_;cbv)
   exact zO (by grind)
 ·(cbv;refine cA cc ?_;cbv;have hno:∀ P:Prop,¬P->(O=true->P)->O=false:=λP h h'=>by grind);refine zX (λh3=>?_) (λh3=>?_)
  ·cbv;refine zX (λh4=>?_) (λh4=>?_)
   ·cbv;refine zX (λh5=>?_) (λh5=>?_)
    ·cbv;refine cA cm1 ?_;cbv;refine zX (λh6=>?_) (λh6=>?_)
     ·cbv;refine cA cm2 ?_;cbv
      (refine rC ?_;cbv)
      refine z4 ?_;rw[rK,hok,decide_eq_true_eq]
      (try dsimp only [zS] at *)
      grind [zJ]
     ·cbv
      (refine rC ?_;cbv)
      exact zO (hno _ h6 λh7=>(hok.1 h7).2.2.2.1)
    ·cbv
     (refine rC ?_;cbv)
     refine zO (hno _ h5 λh7=>?_);have:=(hok.1 h7).2.2.1
     (try dsimp only [zS] at *)
     grind [zJ]
   ·cbv
    (refine rC ?_;cbv)
    refine zO (hno _ h4 λh7=>?_);have:=(hok.1 h7).2.1
    (try dsimp only [zS] at *)
    grind [zJ]
  ·cbv
   (refine rC ?_;cbv)
   exact zO (hno _ h3 λh7=>(hok.1 h7).1)
def N3 (x:Z)(hx:x.mag.length<2^38):zH 216 [zv x] (rv (zK (x.v:Rat))):=by
 refine sF Tryz.f216 ?_;have cq:=D9 x.neg x.mag [1] hx (by simp) (by decide);have e:mkRat (sgn x.neg (val x.mag)) (val [1])=(x.v:Rat):=by have:=Rat.mkRat_self (x.v:Rat);rw[Rat.num_intCast,Rat.den_intCast] at this;exact this
 rw[e] at cq;generalize zK (x.v:Rat)=W at *;obtain⟨neg,mag⟩:=x;cbv;refine zP 6 (by cbv) ?_;cbv;refine dA MU ?_;cbv;refine dA cq ?_;cbv;exact rA
def X4 (x:Int)(h1:-9223372036854775808<=x)(h2:x<9223372036854775808):(x7 x).mag.length<=2:=by refine yL ?_;grind [B]
def JX (x:Int)(h1:-9223372036854775808<=x)(h2:x<9223372036854775808):zH 170 [iV x] (rv (zK (x:Rat))):=by refine sF Tryz.f170 ?_;have c1:=N2 x h1 h2;have hl:=X4 x h1 h2;have c2:=N3 (x7 x) oM;rw[d7] at c2;generalize zK (x:Rat)=W at *;generalize x7 x=y at *;cbv;refine cA c1 ?_;cbv;refine cA c2 ?_;cbv;exact rA
def PU (x:R)(hx:x.num.length<2^40):zH 128 [rv x] (zv (x7 x.n)):=by refine sF Tryz.f128 ?_;have c1:=D7 x.neg x.num hx;have e:sgn x.neg (val x.num)=x.n:=rfl;rw[e] at c1;generalize x7 x.n=W at *;obtain⟨neg,num,den⟩:=x;cbv;refine cA c1 ?_;cbv;exact rA
def CF (x:R):(x7 x.n).mag.length<=x.num.length:=by refine yL ?_;rw[R.n,qH];exact xZ _
def s86 (x:R)(hx:x.num.length<2^40):zH 81 [rv x] (iV (yG x.q)):=by refine sF Tryz.f81 ?_;have c1:=PU x hx;have hl:=CF x;have c2:=PW (x7 x.n) oM;rw[d7,<-DB] at c2;generalize yG x.q=s at *;generalize x7 x.n=W at *;obtain⟨neg,num,den⟩:=x;cbv;refine cA c1 ?_;cbv;refine cA c2 ?_;cbv;exact rA
def MX (x y:R)(hx:x.sz (2^34))(hy:y.sz (2^34)):zH 97 [rv x,rv y] (.tup [zv (x7 (x.n*y.d)),zv (x7 (y.n*x.d))]):=by
 refine sF Tryz.f97 ?_;have h1:=hx.n;have h2:=hx.d;have h3:=hy.n;have h4:=hy.d;have h5:=jE x.den;have h6:=jE y.den;have h7:=CF x;have h8:=CF y;have cux:=UD x oM;have cuy:=UD y oM;have csx:=PU x oM;have csy:=PU y oM;have cm1:=MT (x7 x.n) ⟨false,xU y.den⟩ oM (show (xU y.den).length<_ by omega);have cm2:=MT (x7 y.n) ⟨false,xU x.den⟩ oM (show (xU x.den).length<_ by omega);have e1:Z.v ⟨false,xU y.den⟩=(y.d:Int):=by rw[<-kE];rfl
 have e2:Z.v ⟨false,xU x.den⟩=(x.d:Int):=by rw[<-kE];rfl
 rw[d7,e1] at cm1;rw[d7,e2] at cm2;generalize x7 (x.n*(y.d:Int))=W1 at *;generalize x7 (y.n*(x.d:Int))=W2 at *;generalize x7 x.n=X at *;generalize x7 y.n=Y at *;generalize xU x.den=ux at *;generalize xU y.den=uy at *;obtain⟨a,b,c⟩:=x;obtain⟨a',b',c'⟩:=y;cbv;refine zP 4 (by cbv) ?_;cbv;refine dA cux ?_;cbv;refine dA cuy ?_;cbv;refine zP 10 (by cbv) ?_;cbv;refine dA csx ?_;cbv;refine dA cm1 ?_;cbv;refine dA csy ?_;cbv;refine dA cm2 ?_;cbv;exact rA
def n6 (x y:R)(hx:x.sz (2^34))(hy:y.sz (2^34)):(x7 (x.n*(y.d:Int))).mag.length<=2^36:=by have h1:=hx.n;have h4:=hy.d;have h6:=jE y.den;refine vF (yL (k:=x.num.length+(xU y.den).length) ?_) oM;rw[Int.natAbs_mul,R.n,qH,Int.natAbs_natCast,<-kE];exact gX (xZ _) (xZ _)
def Si (x y:R)(hx:x.sz (2^34))(hy:y.sz (2^34)):zH 45 [rv x,rv y] (iV (wX x.q y.q)):=by
 refine sF Tryz.f45 ?_;have h1:=hx.n;have h3:=hy.n;have h5:=n6 x y hx hy;have h6:=n6 y x hy hx;have cx:=s86 x oM;have cy:=s86 y oM;have cc:=MX x y hx hy;have ci:=NX _ _ (xR h5 oM) (xR h6 oM);rw[d7,d7,<-TP] at ci;have k1:yG x.q<yG y.q->wX x.q y.q=-1:=by grind [yG,wX]
 have k2:yG y.q<yG x.q->wX x.q y.q=1:=by grind [yG,wX]
 generalize wX x.q y.q=C at *;generalize yG x.q=s at *;generalize yG y.q=t at *;generalize x7 (x.n*(y.d:Int))=W1 at *;generalize x7 (y.n*(x.d:Int))=W2 at *;obtain⟨a,b,c⟩:=x;obtain⟨a',b',c'⟩:=y;obtain⟨p1,p2⟩:=W1;obtain⟨q1,q2⟩:=W2;cbv;refine zP 4 (by cbv) ?_;cbv;refine dA cx ?_;cbv;refine dA cy ?_;cbv;refine zG (λh=>?_) (λh=>?_);{cbv;refine cA cc ?_;cbv;refine cA ci ?_;cbv;exact rA}
 ·cbv;refine zG (λh'=>?_) (λh'=>?_)
  ·cbv
   (refine rC ?_;cbv)
   exact zF (k1 h').symm
  ·cbv
   (refine rC ?_;cbv)
   exact zF (k2 oM).symm
def Fj (x y:R)(hx:x.sz (2^34))(hy:y.sz (2^34)):zH 93 [rv x,rv y] (rv (zK (x.q+y.q))):=by
 refine sF Tryz.f93 ?_;have h1:=hx.n;have h2:=hx.d;have h3:=hy.n;have h4:=hy.d;have h5:=n6 x y hx hy;have h6:=n6 y x hy hx;have h7:=jE x.den;have h8:=jE y.den;have cc:=MX x y hx hy;have ca:=NZ _ _ (xR h5 oM) (xR h6 oM);rw[d7,d7] at ca;have cux:=UD x oM;have cuy:=UD y oM;have cm:=Fg (xU x.den) (xU y.den) oM oM;have hml:=jY (xU x.den) (xU y.den);rw[kE,kE] at cm hml;have hsl:(x7 (x.n*(y.d:Int)+y.n*(x.d:Int))).mag.length<2^38:=by
  (obtain⟨k,hk⟩:∃ k,k=68719476736:=⟨_,rfl⟩;have h5':(x7 (x.n*(y.d:Int))).mag.length<=k:=by omega);have h6':(x7 (y.n*(x.d:Int))).mag.length<=k:=by omega
  (have e1:(x.n*(y.d:Int)).natAbs<B^k:=by have:=xZ (x7 (x.n*(y.d:Int))).mag;rw[show val (x7 (x.n*(y.d:Int))).mag=(x.n*(y.d:Int)).natAbs from zQ _] at this;exact f7 this (c8 vY h5'));have e2:(y.n*(x.d:Int)).natAbs<B^k:=by have:=xZ (x7 (y.n*(x.d:Int))).mag;rw[show val (x7 (y.n*(x.d:Int))).mag=(y.n*(x.d:Int)).natAbs from zQ _] at this;exact f7 this (c8 vY h6')
  have e3:=Int.natAbs_add_le (x.n*(y.d:Int)) (y.n*(x.d:Int));have e4:B^k*2<=B^k*B:=wN _ (by decide);have e5:(zL (x.n*(y.d:Int)+y.n*(x.d:Int)).natAbs).length<=k+1:=yL (by rw[uO B k];omega);show (zL (x.n*(y.d:Int)+y.n*(x.d:Int)).natAbs).length<2^38;omega
 have cq:=D9 (x7 (x.n*(y.d:Int)+y.n*(x.d:Int))).neg (x7 (x.n*(y.d:Int)+y.n*(x.d:Int))).mag (zL (x.d*y.d)) hsl oM (by rw[zQ];exact Z0 x.d_ne y.d_ne);have e6:sgn (x7 (x.n*(y.d:Int)+y.n*(x.d:Int))).neg (val (x7 (x.n*(y.d:Int)+y.n*(x.d:Int))).mag)=x.n*(y.d:Int)+y.n*(x.d:Int):=d7 _;rw[e6,zQ,<-Cp] at cq;clear e6 hsl hml h5 h6;generalize zK (x.q+y.q)=W at *;generalize zL (x.d*y.d)=M at *;generalize x7 (x.n*(y.d:Int)+y.n*(x.d:Int))=S at *;generalize x7 (x.n*(y.d:Int))=W1 at *;generalize x7 (y.n*(x.d:Int))=W2 at *;generalize xU x.den=ux at *;generalize xU y.den=uy at *;obtain⟨a,b,c⟩:=x;obtain⟨a',b',c'⟩:=y;obtain⟨p1,p2⟩:=W1;obtain⟨q1,q2⟩:=W2;obtain⟨s1,s2⟩:=S;cbv;refine cA cc ?_;cbv;refine cA ca ?_;cbv;refine zP 10 (by cbv) ?_;cbv;refine dA cux ?_;cbv;refine dA cuy ?_;cbv;refine dA cm ?_;cbv;refine dA cq ?_;cbv;exact rA
def N1 (x y:R)(hx:x.sz (2^34))(hy:y.sz (2^34)):zH 145 [rv x,rv y] (rv (zK (x.q-y.q))):=by refine sF Tryz.f145 ?_;have ca:=Fj x ⟨!y.neg,y.num,y.den⟩ hx ⟨hy.n,hy.d⟩;rw[H7,<-Ah] at ca;generalize zK (x.q-y.q)=W at *;obtain⟨a,b,c⟩:=x;obtain⟨a',b',c'⟩:=y;generalize hna:(!a')=na at *;cbv;refine xI rfl (by exact⟨okA,⟨vW hna.symm,lR,lR,trivial⟩,trivial⟩) ca rfl ?_;cbv;exact rA
def D8 (x y:R)(hx:x.sz (2^34))(hy:y.sz (2^34)):zH 94 [rv x,rv y] (rv (zK (x.q*y.q))):=by
 refine sF Tryz.f94 ?_;have h1:=hx.n;have h2:=hx.d;have h3:=hy.n;have h4:=hy.d;have h7:=jE x.den;have h8:=jE y.den;have cux:=UD x oM;have cuy:=UD y oM;have cm:=Fg (xU x.den) (xU y.den) oM oM;have hml:=jY (xU x.den) (xU y.den);rw[kE,kE] at cm hml;have cn:=Fg x.num y.num oM oM;have hnl:=jY x.num y.num;have cq:=D9 (x.neg != y.neg) (zL (val x.num*val y.num)) (zL (x.d*y.d)) oM oM (by rw[zQ];exact Z0 x.d_ne y.d_ne);rw[zQ,zQ,<-Us] at cq;have e:mkRat (sgn x.neg (val x.num)*sgn y.neg (val y.num)) (x.d*y.d)=x.q*y.q:=(Rg x y).symm;rw[e] at cq;have hb:(x.neg != y.neg)=!decide (x.neg=y.neg):=by grind
 clear hml hnl e;generalize zK (x.q*y.q)=W at *;generalize zL (x.d*y.d)=M at *;generalize zL (val x.num*val y.num)=P at *;generalize xU x.den=ux at *;generalize xU y.den=uy at *;obtain⟨a,b,c⟩:=x;obtain⟨a',b',c'⟩:=y;simp only at *;generalize (a != a')=nb at *;cbv;refine zP 16 (by cbv) ?_;cbv;refine dA cn ?_;cbv;refine dA cux ?_;cbv;refine dA cuy ?_;cbv;refine dA cm ?_;cbv;refine wK (by exact⟨vW hb,lR,lR,trivial⟩) cq rfl ?_;cbv;exact rA
def Um:ty 24=.sli 1 4 [.int .u32 (λ_=>0)]:=by cbv
def lL (l:List UInt32)(k:Nat):val (l.drop k)=(l.getD k 0).toNat+B*val (l.drop (k+1)):=by rcases uG k l.length with h|h;{exact jD h};{rw[i9 h,i9 oM];simp[rM h,val]}
def aX (l:List UInt32)(m:Nat):val l=val (l.take m)+B^m*val (l.drop m):=by rcases uG m l.length with h|h;{exact eJ m oM};{rw[i9 h,yU h];simp[val]}
def XX {a b:List UInt32}{m:Nat}(h:val (a.drop m)<val (b.drop m)):val a<val b:=by rw[aX a m,aX b m];have h1:=wY a m;have h2:=wN (B^m) (show val (a.drop m)+1<=val (b.drop m) from h);grind
def JW (a:List UInt32)(i:Nat)(ha:a.length<2^40):zH 156 [nat a,iV i] (.int .u32 (λ_=>((a.getD i 0).toNat:Int))):=by
 refine sF Tryz.f156 ?_;generalize hx:a.getD i 0=x;cbv;refine zG (λh=>?_) (λh=>?_);{cbv;refine xM i (by (grind) <;> (try simp only[zJ] at *) <;> omega) om ?_;rw[hx];cbv;exact rA}
 ·cbv
  (refine rC ?_;cbv)
  refine zF ?_;have:a.length<=i:=om;rw[<-hx];simp[rM this]
def iH (l:List UInt32)(hl:l.length<2^41):zH 157 [nat l] (nat (zL (val l))):=by
 refine sF Tryz.f157 ?_;have fin:∀ n,n<=l.length->val (l.take n)=val l->(n=0\/∃ m,n=m+1/\l.getD m 0≠0)->l.take n=zL (val l):=by intro n hn hv h;rcases h with rfl|⟨m,rfl,h⟩;{rw[<-hv];simp[val,yV]};grind [nT,aP,iZ]
 generalize hW:zL (val l)=W at *;cbv;refine zY (σ:=Nat) (λn=>⟨[(0,nat l),(2,.nil),(3,iV n)],[]⟩) (λn=>n<=l.length/\val (l.take n)=val l) (λn=>n) l.length ⟨yQ _,by simp⟩ (.le ?_ trivial rfl) ?_;{cbv;exact⟨lR,lR,zF (by simp[zJ]),trivial⟩};intro n hn;have done:(n=0\/∃ m,n=m+1/\l.getD m 0≠0)->((lm l).take ((n:Int)).toNat).drop (Int.toNat 0)=lm W:=λh=>by grind [Gi]
 have hwl:W.length<=l.length:=by rw[<-hW];exact z8 l
 cbv;refine zX (λh=>?_) (λh=>?_)
 ·(try dsimp only [zS] at *)
  obtain⟨m,rfl⟩:∃ m,n=m+1:=⟨n-1,by omega⟩;cbv;refine⟨zE om om,xM m om om ?_⟩;cbv;refine zG (λh2=>?_) (λh2=>?_)
  ·cbv;refine⟨zE om om,m,⟨om,?_⟩,om,.le ?_ trivial rfl⟩
   ·(have e:l.getD m 0=0:=by have:(l.getD m 0).toNat=0:=om;exact Zf.1 this);grind [aP,Vp]
   {cbv;exact⟨lR,lR,zF om,trivial⟩}
  ·(have e:l.getD m 0≠0:=λe=>by (try dsimp only [zS] at *);simp_all);have hd:=done (.inr ⟨m,rfl,e⟩)
   cbv;refine⟨qY (Int.le_refl _) om om,iO l,?_⟩
   (try dsimp only [zS] at *)
   rw[hd];refine xT Pc rfl rfl rfl rfl rfl (iO W) (zV om (by simp only[dU];(try dsimp only [zS] at *) <;> (try simp only[zJ] at *) <;> omega)) rfl ?_;cbv;refine Fn (.frz 22 rfl rfl ?_ ?_) rfl ?_ rfl;{cbv;exact⟨z6 (by simp),z6 (by simp),trivial⟩};{exact trivial};{exact zU (by simp)}
 ·have h0:n=0:=om;have hd:=done (.inl h0);cbv;refine⟨qY (Int.le_refl _) om om,iO l,?_⟩
  (try dsimp only [zS] at *)
  rw[hd];refine xT Pc rfl rfl rfl rfl rfl (iO W) (zV om (by simp only[dU];(try dsimp only [zS] at *) <;> (try simp only[zJ] at *) <;> omega)) rfl ?_;cbv;refine Fn (.frz 22 rfl rfl ?_ ?_) rfl ?_ rfl;{cbv;exact⟨z6 (by simp),z6 (by simp),trivial⟩};{exact trivial};{exact zU (by simp)}
def PQ (x:Nat)(hx:x<B*B):zH 115 [.int .u64 (λ_=>(x:Int))] (nat (zL x)):=by
 refine sF Tryz.f115 ?_;have h2:x/B<B:=Nat.div_lt_of_lt_mul hx;have hv:val [UInt32.ofNat (x%B),UInt32.ofNat (x/B)]=x:=by simp only[val,aS];rw[UInt32.toNat_ofNat',kL (show x/B<2^32 from h2),Nat.mul_zero,tM];exact WU x B
 have c1:=iH [UInt32.ofNat (x%B),UInt32.ofNat (x/B)] (by simp);rw[hv] at c1;have he:([[.int .u32 (nx .u32 (x:Int))],[.int .u32 (nx .u32 (ishr .u64 (x:Int) 32))]]:List (List D))=lm [UInt32.ofNat (x%B),UInt32.ofNat (x/B)]:=by rw[sN];simp only[lm,kK,WV,aS,xX,kL h2,gV,B] at *;grind
 generalize zL x=W at *;cbv;refine⟨uD oM,?_⟩;refine xI rfl (by exact⟨zU he,trivial⟩) c1 rfl ?_;cbv;exact rA
def MV (l:List UInt32)(hl:l.length<2^40):zH 203 [nat l] (.tup [.int .u64 (λ_=>((if val l<B*B then val l else 0:Nat):Int)),zM (decide (val l<B*B))]):=by
 refine sF Tryz.f203 ?_;have hl':=xR (z8 l) hl;have c1:=iH l oM;have hv:=zQ (val l);have h2:=@CM (val l);generalize zL (val l)=p at *;generalize hr:(if val l<B*B then val l else 0:Nat)=r;generalize hb:decide (val l<B*B)=b;generalize val l=v at *;have hin:p.length<=2->r=val p/\b=true:=λh=>by grind
 cbv;refine cA c1 ?_;cbv;refine zG (λh=>?_) (λh=>?_)
 ·have h0:p.length=0:=om;obtain⟨e1,e2⟩:=hin oM;cbv
  (refine rC ?_;cbv)
  refine⟨zF ?_,yN e2,trivial⟩;rw[e1,gO h0];rfl
 ·cbv;refine zG (λh3=>?_) (λh3=>?_)
  ·have h0:p.length=1:=om;obtain⟨e1,e2⟩:=hin oM;cbv;refine xM 0 rfl oM ?_;cbv
   (refine rC ?_;cbv)
   refine⟨zF ?_,yN e2,trivial⟩;rw[e1]
   match p,h0 with
   |[x],_ =>
    have:=yT x;show nx .u64 ((x.toNat:Nat):Int)=((x.toNat+B*0:Nat):Int);grind [x5,B]
  ·cbv;refine zG (λh4=>?_) (λh4=>?_)
   ·have h0:p.length=2:=om;obtain⟨e1,e2⟩:=hin oM;cbv;refine zP 10 (by cbv) ?_;cbv;refine xM 0 rfl oM ?_;cbv;refine xM 1 rfl oM ?_;cbv;refine⟨uD oM,?_⟩
    (refine rC ?_;cbv)
    refine⟨zF ?_,yN e2,trivial⟩;rw[e1]
    match p,h0 with
    |[x,y],_ =>
     have h5:=yT x;have h6:=yT y;show ior .u64 (nx .u64 ((x.toNat:Nat):Int)) (ishl .u64 (nx .u64 ((y.toNat:Nat):Int)) 32)=((x.toNat+B*(y.toNat+B*0):Nat):Int);grind [x5,B,or2]
   ·have h0:¬p.length<=2:=om;have h5:¬v<B*B:=λe=>h0 (h2.2 e);cbv
    (refine rC ?_;cbv)
    exact⟨zF (by grind),zO (by grind),trivial⟩
def Sh (a b:List UInt32)(ha:a.length<2^40)(hb:b.length<2^40):zH 202 [nat a,nat b] (iV (qV (val a) (val b))):=by
 refine sF Tryz.f202 ?_;have hlt:val a<val b->qV (val a) (val b)=-1:=YV;have hgt:val b<val a->qV (val a) (val b)=1:=YW;have heq:val a=val b->qV (val a) (val b)=0:=λh=>by rw[h,Qr]
 generalize hC:qV (val a) (val b)=C at *;have hmax:imax ((lm a).length:Int) ((lm b).length:Int)=((max a.length b.length:Nat):Int):=by grind [imax,zJ]
 cbv;refine⟨zE (by exact om) (by exact om),?_⟩;refine zY (σ:=Nat) (λn=>⟨[(0,nat a),(1,nat b),(5,iV ((n:Int)-1))],[]⟩) (λn=>n<=max a.length b.length/\val (a.drop n)=val (b.drop n)) (λn=>n) (max a.length b.length) ⟨yQ _,by grind [List.drop_of_length_le]⟩ (.le ?_ trivial rfl) ?_;{cbv;exact⟨lR,lR,zF (by (try dsimp only [zS] at *);rw[hmax]),trivial⟩};intro n hn;cbv;refine zG (λh=>?_) (λh=>?_)
 ·(try dsimp only [zS] at *)
  (obtain⟨m,rfl⟩:∃ m,n=m+1:=⟨n-1,by omega⟩;have hm:((m+1:Nat):Int)-1=(m:Int):=by omega);have da:=lL a m
  rw[hn.2] at da;have db:=lL b m;have ca:=JW a m ha;have cb:=JW b m hb;cbv;refine xI rfl (by exact⟨lR,zF hm,trivial⟩) ca rfl ?_;cbv;refine xI rfl (by exact⟨lR,zF hm,trivial⟩) cb rfl ?_;cbv;refine zG (λh2=>?_) (λh2=>?_)
  ·cbv
   (refine rC ?_;cbv)
   exact zF (hlt (XX (m:=m) (by exact om))).symm
  ·cbv;refine xI rfl (by exact⟨lR,zF hm,trivial⟩) ca rfl ?_;cbv;refine xI rfl (by exact⟨lR,zF hm,trivial⟩) cb rfl ?_;cbv;refine zG (λh3=>?_) (λh3=>?_)
   ·cbv
    (refine rC ?_;cbv)
    exact zF (hgt (XX (m:=m) (by exact om))).symm
   {cbv;refine⟨zE om om,m,⟨by omega,by exact om⟩,by omega,.le ?_ trivial rfl⟩;cbv;exact⟨lR,lR,zF om,trivial⟩}
 ·have h0:n=0:=om;subst h0;cbv
  (refine rC ?_;cbv)
  exact zF (heq (by grind)).symm
def MZ (a b:List UInt32)(ha:a.length<2^40)(hb:b.length<2^40):zH 180 [nat a,nat b] (zM (decide (a=b))):=by
 refine sF Tryz.f180 ?_;generalize hC:decide (a=b)=C at *;cbv;refine zG (λh=>?_) (λh=>?_)
 ·(have hl:a.length=b.length:=by (try dsimp only [zS] at *);grind [zJ]);cbv
  refine zY (σ:=Nat) (λn=>⟨[(0,nat a),(1,nat b),(5,iV n)],[]⟩) (λn=>n<=a.length/\a.take n=b.take n) (λn=>a.length-n) 0 ⟨xO _,by simp⟩ (.le ?_ trivial rfl) ?_;{cbv;exact okA};intro n hn;cbv;refine zG (λh2=>?_) (λh2=>?_)
  ·have hlt:n<a.length:=om;cbv;refine zP 9 (by cbv) ?_;cbv;refine xM n (by (grind) <;> (try simp only[zJ] at *) <;> omega) om ?_;cbv;refine xM n (by (grind) <;> (try simp only[zJ] at *) <;> omega) om ?_;cbv;refine zG (λh3=>?_) (λh3=>?_);{cbv;refine⟨zE om om,n+1,⟨hlt,?_⟩,by omega,.le ?_ trivial rfl⟩;{have e:a.getD n 0=b.getD n 0:=Zf.1 (by exact om);grind [aP]};{cbv;exact⟨lR,lR,zF om,trivial⟩}}
   ·cbv
    (refine rC ?_;cbv)
    refine zO ?_;grind
  ·have hn0:n=a.length:=om;subst hn0;cbv
   (refine rC ?_;cbv)
   refine yN ?_;grind
 ·cbv
  (refine rC ?_;cbv)
  refine zO ?_;grind
def bY (d:D):Wid 1 (λ_=>[[d]]):=⟨λe he=>by grind⟩
def aI (out:List UInt32)(S:Nat):lm out++[[.int .u32 (nx .u32 ((S:Nat):Int))]]=lm (out++[UInt32.ofNat S]):=by rw[<-Fv];congr 1;simp only[lm,kK,WV,xX,gV,B];congr 2
theorem jU (l:List UInt32)(S:Nat):val (l++[UInt32.ofNat S])=val l+B^l.length*(S%B):=by rw[QQ,xX]
def Sj (a b:List UInt32)(ha:a.length<2^40)(hb:b.length<2^40):zH 158 [nat a,nat b] (nat (zL (val a+val b))):=by
 refine sF Tryz.f158 ?_;generalize hW:zL (val a+val b)=W;cbv;refine zY (σ:=Nat×Nat×List UInt32) (λs=>⟨[(0,nat a),(1,nat b),(5,zT 35 1 s.1),(6,.int .u64 (λ_=>(s.2.1:Int))),(7,iV s.1)],[(35,zW 1 (lm s.2.2))]⟩)
  (λs=>s.1<=max a.length b.length/\s.2.1<2/\s.2.2.length=s.1/\val s.2.2+B^s.1*s.2.1=val (a.take s.1)+val (b.take s.1)) (λs=>max a.length b.length-s.1)
  (0,0,[]) ⟨xO _,by grind,rfl,by simp[val]⟩ (.trans (.adoptT 35 1 5 rfl rfl) (.le ?_ ?_ rfl)) ?_
 {cbv;exact okA};{cbv;exact⟨zC rfl,trivial⟩};intro s hs;obtain⟨h1,h2,h3,h4⟩:=hs;generalize s.1=i at *;generalize s.2.1=c at *;generalize s.2.2=out at *;have ca:=JW a i ha;have cb:=JW b i hb;have hx:=yT (a.getD i 0);have hy:=yT (b.getD i 0);simp only[B] at hx hy;cbv;refine zX (λh5=>?_) (λh5=>?_)
 ·(have hi:i<a.length:=om;cbv;refine xI rfl okA ca rfl ?_;cbv;refine xI rfl okA cb rfl ?_;have hS:nx .u64 ((c:Int)+nx .u64 (nx .u64 (((a.getD i 0).toNat:Nat):Int)+nx .u64 (((b.getD i 0).toNat:Nat):Int)))=((c+((a.getD i 0).toNat+(b.getD i 0).toNat):Nat):Int):=by grind [uM]);cbv
  refine xT Um rfl rfl rfl (by rw[zJ,h3]) rfl (bY _) (zV (s4 _) (by show (((lm out).length+1:Nat):Int)*4<=70368744177664;grind [zJ])) rfl ?_;cbv;refine⟨uD oM,zE om om,(i+1,(c+((a.getD i 0).toNat+(b.getD i 0).toNat))/B,out++[UInt32.ofNat (c+((a.getD i 0).toNat+(b.getD i 0).toNat))]),⟨by omega,?_,by simp[h3],?_⟩,by omega,.le ?_ ?_ rfl⟩;{grind [B]};{grind [jU,z7,Nat.mod_add_div]}
  ·cbv;refine⟨lR,lR,zR rfl (by show (lm out).length+1=i+1;rw[zJ,h3]),zF ?_,zF om,trivial⟩
   (try dsimp only [zS] at *)
   rw[hS];exact sN _
  ·cbv;refine⟨zC ?_,trivial⟩
   (try dsimp only [zS] at *)
   rw[hS];exact aI out _
 ·cbv;refine zG (λh6=>?_) (λh6=>?_)
  ·(have hi:i<b.length:=om;cbv;refine xI rfl okA ca rfl ?_;cbv;refine xI rfl okA cb rfl ?_;have hS:nx .u64 ((c:Int)+nx .u64 (nx .u64 (((a.getD i 0).toNat:Nat):Int)+nx .u64 (((b.getD i 0).toNat:Nat):Int)))=((c+((a.getD i 0).toNat+(b.getD i 0).toNat):Nat):Int):=by grind [uM]);cbv
   refine xT Um rfl rfl rfl (by rw[zJ,h3]) rfl (bY _) (zV (s4 _) (by show (((lm out).length+1:Nat):Int)*4<=70368744177664;grind [zJ])) rfl ?_;cbv;refine⟨uD oM,zE om om,(i+1,(c+((a.getD i 0).toNat+(b.getD i 0).toNat))/B,out++[UInt32.ofNat (c+((a.getD i 0).toNat+(b.getD i 0).toNat))]),⟨by omega,?_,by simp[h3],?_⟩,by omega,.le ?_ ?_ rfl⟩;{grind [B]};{grind [jU,z7,Nat.mod_add_div]}
   ·cbv;refine⟨lR,lR,zR rfl (by show (lm out).length+1=i+1;rw[zJ,h3]),zF ?_,zF om,trivial⟩
    (try dsimp only [zS] at *)
    rw[hS];exact sN _
   ·cbv;refine⟨zC ?_,trivial⟩
    (try dsimp only [zS] at *)
    rw[hS];exact aI out _
  ·(have hi1:a.length<=i:=om;have hi2:b.length<=i:=om;rw[yU hi1,yU hi2] at h4;have cm:=iH (out++[UInt32.ofNat c]) (by grind);have hv:val (out++[UInt32.ofNat c])=val a+val b:=by grind [jU,B]);rw[hv,hW] at cm
   cbv;refine xT Um rfl rfl rfl (by rw[zJ,h3]) rfl (bY _) (zV (s4 _) (by show (((lm out).length+1:Nat):Int)*4<=70368744177664;grind [zJ])) rfl ?_;cbv;refine j4 (.frz 42 rfl rfl ?_ ?_) rfl (by refine⟨zU ?_,trivial⟩;exact (yU (by grind)).trans (aI out c)) cm rfl ?_;{cbv;exact⟨z6 (by grind),trivial⟩};{exact trivial};cbv;exact rA
def Ca (a b:List UInt32)(ha:a.length<2^40)(hb:b.length<2^40):zH 159 [nat a,nat b] (.tup [nat (zL (val a-val b)),iV (if val b<=val a then 0 else 2)]):=by
 refine sF Tryz.f159 ?_;have cc:=Sh a b ha hb;have hcl:qV (val a) (val b)<0↔val a<val b:=by grind [qV]
 generalize qV (val a) (val b)=C at *;have hlt:val a<val b->zL (val a-val b)=[]/\(if val b<=val a then (0:Int) else 2)=2:=λh=>⟨by rw[Nat.sub_eq_zero_of_le oM,yV],by omega⟩;have hge:val b<=val a->(if val b<=val a then (0:Int) else 2)=0:=λh=>if_pos h;generalize hW:zL (val a-val b)=W at *;generalize (if val b<=val a then (0:Int) else 2)=E at *;cbv;refine cA cc ?_;cbv;refine zG (λh=>?_) (λh=>?_)
 ·obtain⟨e1,e2⟩:=hlt (hcl.1 h);cbv
  (refine rC ?_;cbv)
  exact⟨xC (by rw[e1];rfl),zF (by rw[e2]),trivial⟩
 have hba:val b<=val a:=by omega
 have hE:=hge hba;cbv;refine zY (σ:=Nat×Nat×List UInt32) (λs=>⟨[(0,nat a),(1,nat b),(6,zT 42 1 s.1),(7,.int .u64 (λ_=>(s.2.1:Int))),(8,iV s.1)],[(42,zW 1 (lm s.2.2))]⟩)
  (λs=>s.1<=a.length/\s.2.1<2/\s.2.2.length=s.1/\val s.2.2+val (b.take s.1)=val (a.take s.1)+B^s.1*s.2.1) (λs=>a.length-s.1)
  (0,0,[]) ⟨xO _,by grind,rfl,by simp[val]⟩ (.trans (.adoptT 42 1 6 rfl rfl) (.le ?_ ?_ rfl)) ?_
 {cbv;exact okA};{cbv;exact⟨zC rfl,trivial⟩};intro s hs;obtain⟨h1,h2,h3,h4⟩:=hs;generalize s.1=i at *;generalize s.2.1=c at *;generalize s.2.2=out at *;have ca:=JW a i ha;have cb:=JW b i hb;have hx:=yT (a.getD i 0);have hy:=yT (b.getD i 0);simp only[B] at hx hy;cbv;refine zG (λh5=>?_) (λh5=>?_)
 ·(have hi:i<a.length:=om;have hX:nx .u64 (((a.getD i 0).toNat:Nat):Int)=(((a.getD i 0).toNat:Nat):Int):=x5 oM;have hY:nx .u64 (nx .u64 (((b.getD i 0).toNat:Nat):Int)+(c:Int))=(((b.getD i 0).toNat+c:Nat):Int):=by grind [uM]);cbv
  refine xI rfl okA ca rfl ?_;cbv;refine xI rfl okA cb rfl ?_;cbv;refine zG (λh6=>?_) (λh6=>?_)
  ·(try dsimp only [zS] at *)
   (rw[hX,hY] at h6;have h6':(a.getD i 0).toNat<(b.getD i 0).toNat+c:=Int.ofNat_lt.1 h6;clear h6;have hZ:nx .u64 (nx .u64 (nx .u64 (((a.getD i 0).toNat:Nat):Int)+4294967296)-nx .u64 (nx .u64 (((b.getD i 0).toNat:Nat):Int)+(c:Int)))=(((a.getD i 0).toNat+4294967296-((b.getD i 0).toNat+c):Nat):Int):=by grind [uM]);cbv
   refine xT Um rfl rfl rfl (by rw[zJ,h3]) rfl (bY _) (zV (s4 _) (by show (((lm out).length+1:Nat):Int)*4<=70368744177664;grind [zJ])) rfl ?_;cbv;refine⟨zE om om,(i+1,1,out++[UInt32.ofNat ((a.getD i 0).toNat+4294967296-((b.getD i 0).toNat+c))]),⟨hi,by grind,by simp[h3],?_⟩,by omega,.le ?_ ?_ rfl⟩
   ·(show val (out++[_])+val (b.take (i+1))=val (a.take (i+1))+B^(i+1)*1;rw[jU,h3,z7 a,z7 b,uO,kL (show (a.getD i 0).toNat+4294967296-((b.getD i 0).toNat+c)<B by grind [B])];generalize (a.getD i 0).toNat=x at *;generalize (b.getD i 0).toNat=y at *;generalize B^i=P at *;have e1:P*(x+4294967296-(y+c))+P*y+P*c=P*x+P*B*1:=by rw[<-kP,<-kP,gM,<-kP];congr 1;grind [B]);omega
   {cbv;exact⟨lR,lR,zR rfl (by show (lm out).length+1=i+1;rw[zJ,h3]),lR,zF om,trivial⟩}
   ·cbv;refine⟨zC ?_,trivial⟩
    (try dsimp only [zS] at *)
    rw[hZ];exact aI out _
  ·(try dsimp only [zS] at *)
   (rw[hX,hY] at h6;have h6':(b.getD i 0).toNat+c<=(a.getD i 0).toNat:=Nat.not_lt.1 (λe=>h6 (Int.ofNat_lt.2 e));clear h6;have hZ:nx .u64 (nx .u64 (((a.getD i 0).toNat:Nat):Int)-nx .u64 (nx .u64 (((b.getD i 0).toNat:Nat):Int)+(c:Int)))=(((a.getD i 0).toNat-((b.getD i 0).toNat+c):Nat):Int):=by grind [uM]);cbv
   refine xT Um rfl rfl rfl (by rw[zJ,h3]) rfl (bY _) (zV (s4 _) (by show (((lm out).length+1:Nat):Int)*4<=70368744177664;grind [zJ])) rfl ?_;cbv;refine⟨zE om om,(i+1,0,out++[UInt32.ofNat ((a.getD i 0).toNat-((b.getD i 0).toNat+c))]),⟨hi,by grind,by simp[h3],?_⟩,by omega,.le ?_ ?_ rfl⟩
   ·(show val (out++[_])+val (b.take (i+1))=val (a.take (i+1))+B^(i+1)*0;rw[jU,h3,z7 a,z7 b,uO,kL (show (a.getD i 0).toNat-((b.getD i 0).toNat+c)<B by grind [B])];generalize (a.getD i 0).toNat=x at *;generalize (b.getD i 0).toNat=y at *;generalize B^i=P at *;have e1:P*(x-(y+c))+P*y+P*c=P*x+P*B*0:=by rw[<-kP,<-kP,gM,<-kP];grind);omega
   {cbv;exact⟨lR,lR,zR rfl (by show (lm out).length+1=i+1;rw[zJ,h3]),lR,zF om,trivial⟩}
   ·cbv;refine⟨zC ?_,trivial⟩
    (try dsimp only [zS] at *)
    rw[hZ];exact aI out _
 ·have hi:i=a.length:=om;have hbt:val (b.take a.length)=val b:=by have e1:=aX b a.length;have e2:=xZ a;rcases tQ (val (b.drop a.length)) with e3|e3;{grind};{have:=wN (B^a.length) e3;omega}
  (rw[hi,yU (yQ _),hbt] at h4;have hc0:c=0:=by grind [xZ]);have cm:=iH out oM
  (have hv:val out=val a-val b:=by grind);rw[hv,hW] at cm
  cbv;refine j4 (.frz 42 rfl rfl ?_ ?_) rfl (by refine⟨zU ?_,trivial⟩;exact yU (by show ((lm out).drop 0).length<=i;rw[vS,zJ];omega)) cm rfl ?_;{cbv;exact⟨z6 (by grind [zJ]),z6 (by grind [zJ]),trivial⟩};{exact trivial};cbv
  (refine rC ?_;cbv)
  exact⟨lR,zF (by rw[hE]),trivial⟩
end Go.Proofs.YtboocdbmnfjomaaGreat
