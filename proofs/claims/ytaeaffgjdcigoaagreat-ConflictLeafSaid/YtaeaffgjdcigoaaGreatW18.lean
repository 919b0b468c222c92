/- A part of the proof: RqA, RqB, ReA, ReB. -/
import Derived.Test.YtaeaffgjdcigoaaGreatW17
set_option linter.all false
namespace Go.Proofs.YtaeaffgjdcigoaaGreat
open Go
set_option maxRecDepth 100000
abbrev rv (x:R):PV:=.agg [zL x.neg,nat x.num,nat x.den]
structure R.sz (x:R) (k:Nat):Prop where
 n:x.num.length<=k
 d:x.den.length<=k
theorem zU {k:Nat}{q:Rat}(h:Fits k q):(zI q).sz k:=⟨h.lnum,h.lden⟩
theorem R.sz.fits {k:Nat}{x:R}(h:x.sz k)(hk:1<=k):Fits k x.q:=Mj h.n h.d hk
theorem R.sz.mono {k m:Nat}{x:R}(h:x.sz k)(hm:k<=m):x.sz m:=⟨vL h.n hm,vL h.d hm⟩
def wW (d:List UInt32):List UInt32:=if val d=0 then [1] else d
def jX (x:R):val (wW x.den)=x.d:=by unfold wW R.d;split;{rfl};{rfl}
def fE (d:List UInt32):(wW d).length<=d.length+1:=by grind [wW]
def ZW:zJ 1=[1]:=by rw[sC (by decide)];rw[show 1/B=0 by decide,y6];rfl
def f7 {n:Nat}:zJ n=[1]↔n=1:=by constructor;{intro h;have:=zP n;rw[h] at this;exact this.symm};{intro h;rw[h,ZW]}
def NG:zC 269 [] (nat [1]):=by
 refine sF Tryz.f269 ?_;cbv
 (refine rC ?_;cbv)
 exact zR rfl
def Tv (l:List UInt32)(hl:l.length<2^40):zC 284 [nat l] (zL (decide (l=[1]))):=by
 refine sF Tryz.f284 ?_;generalize hd:decide (l=[1])=d;cbv;refine zQ (λh=>?_) (λh=>?_)
 ·have h1:l.length=1:=om;cbv;refine xJ 0 rfl oM ?_;cbv
  (refine rC ?_;cbv)
  refine zX ?_;rw[<-hd,decide_eq_decide]
  match l,h1 with
  |[x],_ =>
   have e1:[x].getD 0 0=x:=rfl;rw[e1];constructor;{intro h2;have:x=1:=Zt.1 (by show x.toNat=1;exact om);rw[this]};{intro h2;rw[List.cons.inj h2 |>.1];rfl}
 ·cbv
  (refine rC ?_;cbv)
  refine zK ?_;rw[<-hd];exact decide_eq_false λe=>h (by rw[e];rfl)
def Ha (x:R)(hx:x.den.length<2^40):zC 264 [rv x] (nat (wW x.den)):=by
 refine sF Tryz.f264 ?_;obtain⟨neg,num,den⟩:=x;have h0:((gO (val den):Nat):Int)=0↔val den=0:=by grind [lO]
 have hs:=NI den hx;have e1:val den=0->wW den=[1]:=λh=>if_pos h;have e2:val den≠0->wW den=den:=λh=>if_neg h;show wp _ _ (dU _ (nat (wW den)) [] []);generalize wW den=u at *;generalize gO (val den)=b at h0 hs;cbv;refine cA hs ?_;cbv;refine zF (λh=>?_) (λh=>?_)
 ·cbv;refine cA NG ?_;cbv
  (refine rC ?_;cbv)
  exact zR (by grind)
 ·cbv
  (refine rC ?_;cbv)
  exact zR (by grind)
def Sx (neg:Bool)(num den:List UInt32)(hn:num.length<2^38)(hd:den.length<2^38)(h0:val den≠0):zC 263 [zL neg,nat num,nat den] (rv (zI (mkRat (sgn neg (val num)) (val den)))):=by
 refine sF Tryz.f263 ?_;rw[ZN h0];have hnl:=z5 num;have hdl:=z5 den;have hg0:Nat.gcd (val num) (val den)≠0:=λe=>h0 (Nat.eq_zero_of_gcd_eq_zero_right e);have cg:=Et (zJ (val num)) (zJ (val den)) oM oM;have cn:=St (zJ (val num)) (zJ (Nat.gcd (val num) (val den))) oM (xP (kO (Nat.le_of_dvd (pJ h0) (QY _ _))) oM) (by grind [zP]);have cd:=St (zJ (val den)) (zJ (Nat.gcd (val num) (val den))) oM (xP (kO (Nat.le_of_dvd (pJ h0) (QY _ _))) oM) (by grind [zP]);have cu:=Tv (zJ (Nat.gcd (val num) (val den))) (xP (kO (Nat.le_of_dvd (pJ h0) (QY _ _))) oM);have cf:=Tv (zJ (val den/Nat.gcd (val num) (val den))) (xP (kO (eJ _ _)) oM);have cd1:=Tv (zJ (val den)) oM;have cm1:=D9 num oM;have cm2:=D9 den oM;rw[zP,zP] at cg cn cd;have hN:∀ n,((lm (zJ n)).length:Int)=0↔n=0:=λn=>by grind [zH,wD,List.length_eq_zero_iff]
 have hge1:Nat.gcd (val num) (val den)=1->val num/Nat.gcd (val num) (val den)=val num/\val den/Nat.gcd (val num) (val den)=val den:=λe=>by grind
 have hz:val num=0->val num/Nat.gcd (val num) (val den)=0/\val den/Nat.gcd (val num) (val den)=1:=λe=>by rw[e,Nat.gcd_zero_left,Nat.zero_div,Nat.div_self (pJ h0)];omega
 have hd1:val den=1->Nat.gcd (val num) (val den)=1:=λe=>by simp_all
 generalize val den/Nat.gcd (val num) (val den)=D' at *;generalize val num/Nat.gcd (val num) (val den)=N' at *;generalize Nat.gcd (val num) (val den)=g at *;generalize val num=N at *;generalize val den=Dn at *;show wp _ _ (dU _ (.agg [zL (neg&&decide (N≠0)),nat (zJ N'),nat (if D'=1 then [] else zJ D')]) [] []);generalize hr1:(neg&&decide (N≠0))=r1;generalize hr2:(if D'=1 then [] else zJ D')=r2;cbv;refine cA cm1 ?_;cbv;refine zF (λh=>?_) (λh=>?_)
 ·have e:=(hN N).1 h;obtain⟨e1,e2⟩:=hz e;cbv
  (refine rC ?_;cbv)
  refine⟨zK ?_,yM ?_,yM ?_,trivial⟩;{grind};{simp_all};{rw[<-hr2,if_pos e2];rfl}
 ·(have e:=λe=>h ((hN N).2 e);have hr1':neg=r1:=by grind);cbv
  refine cA cm2 ?_;cbv;refine cA cd1 ?_;cbv;refine zF (λh2=>?_) (λh2=>?_)
  ·have e1:=f7.1 h2;have e3:=hd1 e1;obtain⟨e4,e5⟩:=hge1 e3;cbv
   (refine rC ?_;cbv)
   refine⟨zX hr1',zR (by rw[e4]),yM ?_,trivial⟩;rw[<-hr2,if_pos oM];rfl
  ·cbv;refine cA cg ?_;cbv;refine cA cu ?_;cbv;refine kU (σ:=Unit) (λ_=>⟨[(0,zL neg),(1,nat (zJ N')),(2,nat (zJ D')),(6,.ptr 6 0)],[(6,.box [.ff,.nil,.nil])]⟩) (λ_=>True) (λh3=>?_) (λh3=>?_) ?_;{have e3:=f7.1 h3;obtain⟨e4,e5⟩:=hge1 e3;cbv;refine⟨(),trivial,.le ?_ ?_ rfl⟩;{cbv;exact⟨lR,zR (by rw[e4]),zR (by rw[e5]),lR,trivial⟩};{cbv;exact okA}};{cbv;refine cA cn ?_;cbv;refine cA cd ?_;cbv;refine⟨(),trivial,.le ?_ ?_ rfl⟩;{cbv;exact okA};{cbv;exact okA}};intro _ _;cbv;refine cA cf ?_;cbv;refine zF (λh3=>?_) (λh3=>?_)
   ·cbv
    (refine rC ?_;cbv)
    exact⟨zX hr1',lR,yM (by rw[<-hr2,if_pos (f7.1 h3)];rfl),trivial⟩
   ·cbv
    (refine rC ?_;cbv)
    exact⟨zX hr1',lR,zR (by rw[<-hr2,if_neg (λe=>h3 (f7.2 e))]),trivial⟩
def Sz (x:R)(hx:x.sz (2^36)):zC 224 [rv x] (rv (zI x.q)):=by refine sF Tryz.f224 ?_;have h1:=hx.n;have h2:=hx.d;have h3:=fE x.den;have cu:=Ha x oM;have cq:=Sx x.neg x.num (wW x.den) oM oM (by rw[jX];exact x.d_ne);rw[jX] at cq;have e:mkRat (sgn x.neg (val x.num)) x.d=x.q:=rfl;rw[e] at cq;generalize zI x.q=W at *;generalize wW x.den=u at *;obtain⟨neg,num,den⟩:=x;cbv;refine zM 7 (by cbv) ?_;cbv;refine dA cu ?_;cbv;refine dA cq ?_;cbv;exact rA
def TV (x:R):x.ok=true↔(x.neg=(zI x.q).neg/\x.num.length=(zI x.q).num.length/\x.den.length=(zI x.q).den.length/\qT (val x.num) (val (zI x.q).num)=0/\qT (val x.den) (val (zI x.q).den)=0):=by
 have hc:∀ a b,qT a b=0↔a=b:=λa b=>by grind [qT]
 simp only[R.ok,decide_eq_true_eq,hc];constructor;{grind};{rintro⟨h1,h2,h3,h4,h5⟩;have e1:=YO h2 h4;have e2:=YO h3 h5;generalize zI x.q=y at *;obtain⟨a,b,c⟩:=x;simp_all}
def TU (neg:Bool)(num:List UInt32):R.ok ⟨neg,num,[]⟩=(bL num&&(!neg || decide (0<num.length))):=by
 have hq:R.q ⟨neg,num,[]⟩=mkRat (sgn neg (val num)) 1:=rfl;have hp:=ZN (neg:=neg) (n:=val num) (d:=1) (by decide);rw[r8];simp only[R.ok,decide_eq_true_eq,hq,hp,Nat.gcd_one_right,Nat.div_one,if_true,R.mk.injEq,and_true,yP,Va,YF];have hlen:0<num.length↔num≠[]:=by grind
 constructor
 ·(rintro⟨h1,h2⟩;have hcn:bL num=true:=by rw[h2];exact rY _);refine⟨hcn,?_⟩
  cases neg with
  |false=>grind| true =>
   grind [val]
 ·rintro⟨h1,h2⟩;refine⟨?_,(lD h1).symm⟩;cases neg with
  |false=>rfl| true =>
   grind [UB]
def Hd (x:R)(hx:x.sz (2^36)):zC 184 [rv x] (zL x.ok):=by
 refine sF Tryz.f184 ?_;have h1:=hx.n;have h2:=hx.d;have hok:=TV x;have hnil:x.den.length=0->x.ok=(bL x.num&&(!x.neg || decide (0<x.num.length))):=by intro h;obtain⟨a,b,c⟩:=x;have:c=[]:=kD h;subst this;exact TU a b
 have cc:=Sz x hx;have cv:=EC x.num oM;have hf:Fits (2^36) x.q:=hx.fits (by decide);have hl1:=hf.lnum;have hl2:=hf.lden;have cm1:=Hb x.num (zI x.q).num oM oM;have cm2:=Hb x.den (zI x.q).den oM oM;generalize hO:x.ok=O at *;generalize zI x.q=W at *;clear hf;obtain⟨neg,num,den⟩:=x;obtain⟨neg',num',den'⟩:=W;simp only at *;generalize qT (val num) (val num')=c1 at *;generalize qT (val den) (val den')=c2 at *;cbv;refine zF (λh=>?_) (λh=>?_)
 ·have e:=hnil om;cbv;refine cA cv ?_;generalize bL num=cn at *;cbv;refine yB (λh3=>?_) (λh3=>?_)
  ·subst h3;cbv;refine yB (λh4=>?_) (λh4=>?_)
   ·subst h4;cbv
    (refine rC ?_;cbv)
    exact zX (by rw[e];simp[zH])
   ·subst h4;cbv
    (refine rC ?_;cbv)
    exact yV (by grind)
  ·subst h3;cbv
   (refine rC ?_;cbv)
   exact zK (by grind)
 ·(cbv;refine cA cc ?_;cbv;have hno:∀ P:Prop,¬P->(O=true->P)->O=false:=λP h h'=>by grind);refine zQ (λh3=>?_) (λh3=>?_)
  ·cbv;refine zQ (λh4=>?_) (λh4=>?_)
   ·cbv;refine zQ (λh5=>?_) (λh5=>?_)
    ·cbv;refine cA cm1 ?_;cbv;refine zQ (λh6=>?_) (λh6=>?_)
     ·cbv;refine cA cm2 ?_;cbv
      (refine rC ?_;cbv)
      refine zX ?_;rw[r8,hok,decide_eq_true_eq]
      (try dsimp only [zV] at *)
      grind [zH]
     ·cbv
      (refine rC ?_;cbv)
      exact zK (hno _ h6 λh7=>(hok.1 h7).2.2.2.1)
    ·cbv
     (refine rC ?_;cbv)
     refine zK (hno _ h5 λh7=>?_);have:=(hok.1 h7).2.2.1
     (try dsimp only [zV] at *)
     grind [zH]
   ·cbv
    (refine rC ?_;cbv)
    refine zK (hno _ h4 λh7=>?_);have:=(hok.1 h7).2.1
    (try dsimp only [zV] at *)
    grind [zH]
  ·cbv
   (refine rC ?_;cbv)
   exact zK (hno _ h3 λh7=>(hok.1 h7).1)
def EB (x:Z)(hx:x.mag.length<2^38):zC 227 [zv x] (rv (zI (x.v:Rat))):=by
 refine sF Tryz.f227 ?_;have cq:=Sx x.neg x.mag [1] hx (by simp) (by decide);have e:mkRat (sgn x.neg (val x.mag)) (val [1])=(x.v:Rat):=by have:=Rat.mkRat_self (x.v:Rat);rw[Rat.num_intCast,Rat.den_intCast] at this;exact this
 rw[e] at cq;generalize zI (x.v:Rat)=W at *;obtain⟨neg,mag⟩:=x;cbv;refine zM 6 (by cbv) ?_;cbv;refine dA NG ?_;cbv;refine dA cq ?_;cbv;exact rA
def Wo (x:Int)(h1:-9223372036854775808<=x)(h2:x<9223372036854775808):(wB x).mag.length<=2:=by refine yF ?_;grind [B]
def Cd (x:Int)(h1:-9223372036854775808<=x)(h2:x<9223372036854775808):zC 187 [iV x] (rv (zI (x:Rat))):=by refine sF Tryz.f187 ?_;have c1:=EA x h1 h2;have hl:=Wo x h1 h2;have c2:=EB (wB x) oM;rw[dP] at c2;generalize zI (x:Rat)=W at *;generalize wB x=y at *;cbv;refine cA c1 ?_;cbv;refine cA c2 ?_;cbv;exact rA
def TB (x:R)(hx:x.num.length<2^40):zC 233 [rv x] (zv (wB x.n)):=by refine sF Tryz.f233 ?_;have c1:=Ca x.neg x.num hx;have e:sgn x.neg (val x.num)=x.n:=rfl;rw[e] at c1;generalize wB x.n=W at *;obtain⟨neg,num,den⟩:=x;cbv;refine cA c1 ?_;cbv;exact rA
def CX (x:R):(wB x.n).mag.length<=x.num.length:=by refine yF ?_;rw[R.n,qJ];exact x8 _
def s86 (x:R)(hx:x.num.length<2^40):zC 189 [rv x] (iV (yA x.q)):=by refine sF Tryz.f189 ?_;have c1:=TB x hx;have hl:=CX x;have c2:=TC (wB x.n) oM;rw[dP,<-DP] at c2;generalize yA x.q=s at *;generalize wB x.n=W at *;obtain⟨neg,num,den⟩:=x;cbv;refine cA c1 ?_;cbv;refine cA c2 ?_;cbv;exact rA
def NK (x y:R)(hx:x.sz (2^34))(hy:y.sz (2^34)):zC 243 [rv x,rv y] (.tup [zv (wB (x.n*y.d)),zv (wB (y.n*x.d))]):=by
 refine sF Tryz.f243 ?_;have h1:=hx.n;have h2:=hx.d;have h3:=hy.n;have h4:=hy.d;have h5:=fE x.den;have h6:=fE y.den;have h7:=CX x;have h8:=CX y;have cux:=Ha x oM;have cuy:=Ha y oM;have csx:=TB x oM;have csy:=TB y oM;have cm1:=NF (wB x.n) ⟨false,wW y.den⟩ oM (show (wW y.den).length<_ by omega);have cm2:=NF (wB y.n) ⟨false,wW x.den⟩ oM (show (wW x.den).length<_ by omega);have e1:Z.v ⟨false,wW y.den⟩=(y.d:Int):=by rw[<-jX];rfl
 have e2:Z.v ⟨false,wW x.den⟩=(x.d:Int):=by rw[<-jX];rfl
 rw[dP,e1] at cm1;rw[dP,e2] at cm2;generalize wB (x.n*(y.d:Int))=W1 at *;generalize wB (y.n*(x.d:Int))=W2 at *;generalize wB x.n=X at *;generalize wB y.n=Y at *;generalize wW x.den=ux at *;generalize wW y.den=uy at *;obtain⟨a,b,c⟩:=x;obtain⟨a',b',c'⟩:=y;cbv;refine zM 4 (by cbv) ?_;cbv;refine dA cux ?_;cbv;refine dA cuy ?_;cbv;refine zM 10 (by cbv) ?_;cbv;refine dA csx ?_;cbv;refine dA cm1 ?_;cbv;refine dA csy ?_;cbv;refine dA cm2 ?_;cbv;exact rA
def lK (x y:R)(hx:x.sz (2^34))(hy:y.sz (2^34)):(wB (x.n*(y.d:Int))).mag.length<=2^36:=by have h1:=hx.n;have h4:=hy.d;have h6:=fE y.den;refine vL (yF (k:=x.num.length+(wW y.den).length) ?_) oM;rw[eI,R.n,qJ,Yf,<-jX];exact wA (x8 _) (x8 _)
def Ez (x y:R)(hx:x.sz (2^34))(hy:y.sz (2^34)):zC 194 [rv x,rv y] (iV (uV x.q y.q)):=by
 refine sF Tryz.f194 ?_;have h1:=hx.n;have h3:=hy.n;have h5:=lK x y hx hy;have h6:=lK y x hy hx;have cx:=s86 x oM;have cy:=s86 y oM;have cc:=NK x y hx hy;have ci:=Ev _ _ (xP h5 oM) (xP h6 oM);rw[dP,dP,<-MB] at ci;have k1:yA x.q<yA y.q->uV x.q y.q=-1:=by grind [yA,uV]
 have k2:yA y.q<yA x.q->uV x.q y.q=1:=by grind [yA,uV]
 generalize uV x.q y.q=C at *;generalize yA x.q=s at *;generalize yA y.q=t at *;generalize wB (x.n*(y.d:Int))=W1 at *;generalize wB (y.n*(x.d:Int))=W2 at *;obtain⟨a,b,c⟩:=x;obtain⟨a',b',c'⟩:=y;obtain⟨p1,p2⟩:=W1;obtain⟨q1,q2⟩:=W2;cbv;refine zM 4 (by cbv) ?_;cbv;refine dA cx ?_;cbv;refine dA cy ?_;cbv;refine zF (λh=>?_) (λh=>?_);{cbv;refine cA cc ?_;cbv;refine cA ci ?_;cbv;exact rA}
 ·cbv;refine zF (λh'=>?_) (λh'=>?_)
  ·cbv
   (refine rC ?_;cbv)
   exact zB (k1 h').symm
  ·cbv
   (refine rC ?_;cbv)
   exact zB (k2 oM).symm
def TD (x y:R)(hx:x.sz (2^34))(hy:y.sz (2^34)):zC 266 [rv x,rv y] (rv (zI (x.q+y.q))):=by
 refine sF Tryz.f266 ?_;have h1:=hx.n;have h2:=hx.d;have h3:=hy.n;have h4:=hy.d;have h5:=lK x y hx hy;have h6:=lK y x hy hx;have h7:=fE x.den;have h8:=fE y.den;have cc:=NK x y hx hy;have ca:=Ex _ _ (xP h5 oM) (xP h6 oM);rw[dP,dP] at ca;have cux:=Ha x oM;have cuy:=Ha y oM;have cm:=Sw (wW x.den) (wW y.den) oM oM;have hml:=dB (wW x.den) (wW y.den);rw[jX,jX] at cm hml;have hsl:(wB (x.n*(y.d:Int)+y.n*(x.d:Int))).mag.length<2^38:=by
  (obtain⟨k,hk⟩:∃ k,k=68719476736:=⟨_,rfl⟩;have h5':(wB (x.n*(y.d:Int))).mag.length<=k:=by omega);have h6':(wB (y.n*(x.d:Int))).mag.length<=k:=by omega
  (have e1:(x.n*(y.d:Int)).natAbs<B^k:=by have:=x8 (wB (x.n*(y.d:Int))).mag;rw[show val (wB (x.n*(y.d:Int))).mag=(x.n*(y.d:Int)).natAbs from zP _] at this;exact uY this (dN w9 h5'));have e2:(y.n*(x.d:Int)).natAbs<B^k:=by have:=x8 (wB (y.n*(x.d:Int))).mag;rw[show val (wB (y.n*(x.d:Int))).mag=(y.n*(x.d:Int)).natAbs from zP _] at this;exact uY this (dN w9 h6')
  have e3:=Int.natAbs_add_le (x.n*(y.d:Int)) (y.n*(x.d:Int));have e4:B^k*2<=B^k*B:=wQ _ (by decide);have e5:(zJ (x.n*(y.d:Int)+y.n*(x.d:Int)).natAbs).length<=k+1:=yF (by rw[uS B k];omega);show (zJ (x.n*(y.d:Int)+y.n*(x.d:Int)).natAbs).length<2^38;omega
 have cq:=Sx (wB (x.n*(y.d:Int)+y.n*(x.d:Int))).neg (wB (x.n*(y.d:Int)+y.n*(x.d:Int))).mag (zJ (x.d*y.d)) hsl oM (by rw[zP];exact W9 x.d_ne y.d_ne);have e6:sgn (wB (x.n*(y.d:Int)+y.n*(x.d:Int))).neg (val (wB (x.n*(y.d:Int)+y.n*(x.d:Int))).mag)=x.n*(y.d:Int)+y.n*(x.d:Int):=dP _;rw[e6,zP,<-CF] at cq;clear e6 hsl hml h5 h6;generalize zI (x.q+y.q)=W at *;generalize zJ (x.d*y.d)=M at *;generalize wB (x.n*(y.d:Int)+y.n*(x.d:Int))=S at *;generalize wB (x.n*(y.d:Int))=W1 at *;generalize wB (y.n*(x.d:Int))=W2 at *;generalize wW x.den=ux at *;generalize wW y.den=uy at *;obtain⟨a,b,c⟩:=x;obtain⟨a',b',c'⟩:=y;obtain⟨p1,p2⟩:=W1;obtain⟨q1,q2⟩:=W2;obtain⟨s1,s2⟩:=S;cbv;refine cA cc ?_;cbv;refine cA ca ?_;cbv;refine zM 10 (by cbv) ?_;cbv;refine dA cux ?_;cbv;refine dA cuy ?_;cbv;refine dA cm ?_;cbv;refine dA cq ?_;cbv;exact rA
def Ey (x y:R)(hx:x.sz (2^34))(hy:y.sz (2^34)):zC 297 [rv x,rv y] (rv (zI (x.q-y.q))):=by refine sF Tryz.f297 ?_;have ca:=TD x ⟨!y.neg,y.num,y.den⟩ hx ⟨hy.n,hy.d⟩;rw[CD,<-Rat.sub_eq_add_neg] at ca;generalize zI (x.q-y.q)=W at *;obtain⟨a,b,c⟩:=x;obtain⟨a',b',c'⟩:=y;generalize hna:(!a')=na at *;cbv;refine yJ rfl (by exact⟨okA,⟨yY hna.symm,lR,lR,trivial⟩,trivial⟩) ca rfl ?_;cbv;exact rA
def NJ (x y:R)(hx:x.sz (2^34))(hy:y.sz (2^34)):zC 267 [rv x,rv y] (rv (zI (x.q*y.q))):=by
 refine sF Tryz.f267 ?_;have h1:=hx.n;have h2:=hx.d;have h3:=hy.n;have h4:=hy.d;have h7:=fE x.den;have h8:=fE y.den;have cux:=Ha x oM;have cuy:=Ha y oM;have cm:=Sw (wW x.den) (wW y.den) oM oM;have hml:=dB (wW x.den) (wW y.den);rw[jX,jX] at cm hml;have cn:=Sw x.num y.num oM oM;have hnl:=dB x.num y.num;have cq:=Sx (x.neg != y.neg) (zJ (val x.num*val y.num)) (zJ (x.d*y.d)) oM oM (by rw[zP];exact W9 x.d_ne y.d_ne);rw[zP,zP,<-UM] at cq;have e:mkRat (sgn x.neg (val x.num)*sgn y.neg (val y.num)) (x.d*y.d)=x.q*y.q:=(Pa x y).symm;rw[e] at cq;have hb:(x.neg != y.neg)=!decide (x.neg=y.neg):=by grind
 clear hml hnl e;generalize zI (x.q*y.q)=W at *;generalize zJ (x.d*y.d)=M at *;generalize zJ (val x.num*val y.num)=P at *;generalize wW x.den=ux at *;generalize wW y.den=uy at *;obtain⟨a,b,c⟩:=x;obtain⟨a',b',c'⟩:=y;simp only at *;generalize (a != a')=nb at *;cbv;refine zM 16 (by cbv) ?_;cbv;refine dA cn ?_;cbv;refine dA cux ?_;cbv;refine dA cuy ?_;cbv;refine dA cm ?_;cbv;refine xW (by exact⟨yY hb,lR,lR,trivial⟩) cq rfl ?_;cbv;exact rA
def UI:ty 31=.sli 1 4 [.int .u32 (λ_=>0)]:=by cbv
def lY (l:List UInt32)(k:Nat):val (l.drop k)=(l.getD k 0).toNat+B*val (l.drop (k+1)):=by rcases kV k l.length with h|h;{exact kY h};{rw[eN h,eN oM];simp[tD h,val]}
def sE (l:List UInt32)(m:Nat):val l=val (l.take m)+B^m*val (l.drop m):=by rcases kV m l.length with h|h;{exact eW m oM};{rw[eN h,yU h];simp[val]}
def Wh {a b:List UInt32}{m:Nat}(h:val (a.drop m)<val (b.drop m)):val a<val b:=by rw[sE a m,sE b m];have h1:=w6 a m;have h2:=wQ (B^m) (show val (a.drop m)+1<=val (b.drop m) from h);grind
def Hc (a:List UInt32)(i:Nat)(ha:a.length<2^40):zC 127 [nat a,iV i] (.int .u32 (λ_=>((a.getD i 0).toNat:Int))):=by
 refine sF Tryz.f127 ?_;generalize hx:a.getD i 0=x;cbv;refine zF (λh=>?_) (λh=>?_);{cbv;refine xJ i (by (grind) <;> (try simp only[zH] at *) <;> omega) om ?_;rw[hx];cbv;exact rA}
 ·cbv
  (refine rC ?_;cbv)
  refine zB ?_;have:a.length<=i:=om;rw[<-hx];simp[tD this]
def iP (l:List UInt32)(hl:l.length<2^41):zC 128 [nat l] (nat (zJ (val l))):=by
 refine sF Tryz.f128 ?_;have fin:∀ n,n<=l.length->val (l.take n)=val l->(n=0\/∃ m,n=m+1/\l.getD m 0≠0)->l.take n=zJ (val l):=by intro n hn hv h;rcases h with rfl|⟨m,rfl,h⟩;{rw[<-hv];simp[val,y6]};grind [lD,aY,eE]
 generalize hW:zJ (val l)=W at *;cbv;refine z7 (σ:=Nat) (λn=>⟨[(0,nat l),(2,.nil),(3,iV n)],[]⟩) (λn=>n<=l.length/\val (l.take n)=val l) (λn=>n) l.length ⟨yD _,by simp⟩ (.le ?_ trivial rfl) ?_;{cbv;exact⟨lR,lR,zB (by simp[zH]),trivial⟩};intro n hn;have done:(n=0\/∃ m,n=m+1/\l.getD m 0≠0)->((lm l).take ((n:Int)).toNat).drop (Int.toNat 0)=lm W:=λh=>by grind [GP]
 have hwl:W.length<=l.length:=by rw[<-hW];exact z5 l
 cbv;refine zQ (λh=>?_) (λh=>?_)
 ·(try dsimp only [zV] at *)
  obtain⟨m,rfl⟩:∃ m,n=m+1:=⟨n-1,by omega⟩;cbv;refine⟨zD om om,xJ m om om ?_⟩;cbv;refine zF (λh2=>?_) (λh2=>?_)
  ·cbv;refine⟨zD om om,m,⟨om,?_⟩,om,.le ?_ trivial rfl⟩
   ·(have e:l.getD m 0=0:=by have:(l.getD m 0).toNat=0:=om;exact Zt.1 this);grind [aY,Vy]
   {cbv;exact⟨lR,lR,zB om,trivial⟩}
  ·(have e:l.getD m 0≠0:=λe=>by (try dsimp only [zV] at *);simp_all);have hd:=done (.inr ⟨m,rfl,e⟩)
   cbv;refine⟨vF (Int.le_refl _) om om,iY l,?_⟩
   (try dsimp only [zV] at *)
   rw[hd];refine wM P6 rfl rfl rfl rfl rfl (iY W) (z8 om (by simp only[dO];(try dsimp only [zV] at *) <;> (try simp only[zH] at *) <;> omega)) rfl ?_;cbv;refine TK (.frz 22 rfl rfl ?_ ?_) rfl ?_ rfl;{cbv;exact⟨zZ (by simp),zZ (by simp),trivial⟩};{exact trivial};{exact zR (by simp)}
 ·have h0:n=0:=om;have hd:=done (.inl h0);cbv;refine⟨vF (Int.le_refl _) om om,iY l,?_⟩
  (try dsimp only [zV] at *)
  rw[hd];refine wM P6 rfl rfl rfl rfl rfl (iY W) (z8 om (by simp only[dO];(try dsimp only [zV] at *) <;> (try simp only[zH] at *) <;> omega)) rfl ?_;cbv;refine TK (.frz 22 rfl rfl ?_ ?_) rfl ?_ rfl;{cbv;exact⟨zZ (by simp),zZ (by simp),trivial⟩};{exact trivial};{exact zR (by simp)}
def Tz (x:Nat)(hx:x<B*B):zC 134 [.int .u64 (λ_=>(x:Int))] (nat (zJ x)):=by
 refine sF Tryz.f134 ?_;have h2:x/B<B:=Nat.div_lt_of_lt_mul hx;have hv:val [UInt32.ofNat (x%B),UInt32.ofNat (x/B)]=x:=by simp only[val,sA];rw[UInt32.toNat_ofNat',kE (show x/B<2^32 from h2),Nat.mul_zero,Vw];exact WZ x B
 have c1:=iP [UInt32.ofNat (x%B),UInt32.ofNat (x/B)] (by simp);rw[hv] at c1;have he:([[.int .u32 (nx .u32 (x:Int))],[.int .u32 (nx .u32 (ishr .u64 (x:Int) 32))]]:List (List D))=lm [UInt32.ofNat (x%B),UInt32.ofNat (x/B)]:=by rw[s8];simp only[lm,jH,W0,sA,x7,kE h2,gZ,B] at *;grind
 generalize zJ x=W at *;cbv;refine⟨uH oM,?_⟩;refine yJ rfl (by exact⟨zR he,trivial⟩) c1 rfl ?_;cbv;exact rA
def NH (l:List UInt32)(hl:l.length<2^40):zC 181 [nat l] (.tup [.int .u64 (λ_=>((if val l<B*B then val l else 0:Nat):Int)),zL (decide (val l<B*B))]):=by
 refine sF Tryz.f181 ?_;have hl':=xP (z5 l) hl;have c1:=iP l oM;have hv:=zP (val l);have h2:=@C6 (val l);generalize zJ (val l)=p at *;generalize hr:(if val l<B*B then val l else 0:Nat)=r;generalize hb:decide (val l<B*B)=b;generalize val l=v at *;have hin:p.length<=2->r=val p/\b=true:=λh=>by grind
 cbv;refine cA c1 ?_;cbv;refine zF (λh=>?_) (λh=>?_)
 ·have h0:p.length=0:=om;obtain⟨e1,e2⟩:=hin oM;cbv
  (refine rC ?_;cbv)
  refine⟨zB ?_,yV e2,trivial⟩;rw[e1,kD h0];rfl
 ·cbv;refine zF (λh3=>?_) (λh3=>?_)
  ·have h0:p.length=1:=om;obtain⟨e1,e2⟩:=hin oM;cbv;refine xJ 0 rfl oM ?_;cbv
   (refine rC ?_;cbv)
   refine⟨zB ?_,yV e2,trivial⟩;rw[e1]
   match p,h0 with
   |[x],_ =>
    have:=yO x;show nx .u64 ((x.toNat:Nat):Int)=((x.toNat+B*0:Nat):Int);grind [x9,B]
  ·cbv;refine zF (λh4=>?_) (λh4=>?_)
   ·have h0:p.length=2:=om;obtain⟨e1,e2⟩:=hin oM;cbv;refine zM 10 (by cbv) ?_;cbv;refine xJ 0 rfl oM ?_;cbv;refine xJ 1 rfl oM ?_;cbv;refine⟨uH oM,?_⟩
    (refine rC ?_;cbv)
    refine⟨zB ?_,yV e2,trivial⟩;rw[e1]
    match p,h0 with
    |[x,y],_ =>
     have h5:=yO x;have h6:=yO y;show ior .u64 (nx .u64 ((x.toNat:Nat):Int)) (ishl .u64 (nx .u64 ((y.toNat:Nat):Int)) 32)=((x.toNat+B*(y.toNat+B*0):Nat):Int);grind [x9,B,or2]
   ·have h0:¬p.length<=2:=om;have h5:¬v<B*B:=λe=>h0 (h2.2 e);cbv
    (refine rC ?_;cbv)
    exact⟨zB (by grind),zK (by grind),trivial⟩
def Sv (a b:List UInt32)(ha:a.length<2^40)(hb:b.length<2^40):zC 180 [nat a,nat b] (iV (qT (val a) (val b))):=by
 refine sF Tryz.f180 ?_;have hlt:val a<val b->qT (val a) (val b)=-1:=Y3;have hgt:val b<val a->qT (val a) (val b)=1:=Y4;have heq:val a=val b->qT (val a) (val b)=0:=λh=>by rw[h,QH]
 generalize hC:qT (val a) (val b)=C at *;have hmax:imax ((lm a).length:Int) ((lm b).length:Int)=((max a.length b.length:Nat):Int):=by grind [imax,zH]
 cbv;refine⟨zD (by exact om) (by exact om),?_⟩;refine z7 (σ:=Nat) (λn=>⟨[(0,nat a),(1,nat b),(5,iV ((n:Int)-1))],[]⟩) (λn=>n<=max a.length b.length/\val (a.drop n)=val (b.drop n)) (λn=>n) (max a.length b.length) ⟨yD _,by grind [List.drop_of_length_le]⟩ (.le ?_ trivial rfl) ?_;{cbv;exact⟨lR,lR,zB (by (try dsimp only [zV] at *);rw[hmax]),trivial⟩};intro n hn;cbv;refine zF (λh=>?_) (λh=>?_)
 ·(try dsimp only [zV] at *)
  (obtain⟨m,rfl⟩:∃ m,n=m+1:=⟨n-1,by omega⟩;have hm:((m+1:Nat):Int)-1=(m:Int):=by omega);have da:=lY a m
  rw[hn.2] at da;have db:=lY b m;have ca:=Hc a m ha;have cb:=Hc b m hb;cbv;refine yJ rfl (by exact⟨lR,zB hm,trivial⟩) ca rfl ?_;cbv;refine yJ rfl (by exact⟨lR,zB hm,trivial⟩) cb rfl ?_;cbv;refine zF (λh2=>?_) (λh2=>?_)
  ·cbv
   (refine rC ?_;cbv)
   exact zB (hlt (Wh (m:=m) (by exact om))).symm
  ·cbv;refine yJ rfl (by exact⟨lR,zB hm,trivial⟩) ca rfl ?_;cbv;refine yJ rfl (by exact⟨lR,zB hm,trivial⟩) cb rfl ?_;cbv;refine zF (λh3=>?_) (λh3=>?_)
   ·cbv
    (refine rC ?_;cbv)
    exact zB (hgt (Wh (m:=m) (by exact om))).symm
   {cbv;refine⟨zD om om,m,⟨by omega,by exact om⟩,by omega,.le ?_ trivial rfl⟩;cbv;exact⟨lR,lR,zB om,trivial⟩}
 ·have h0:n=0:=om;subst h0;cbv
  (refine rC ?_;cbv)
  exact zB (heq (by grind)).symm
def NL (a b:List UInt32)(ha:a.length<2^40)(hb:b.length<2^40):zC 158 [nat a,nat b] (zL (decide (a=b))):=by
 refine sF Tryz.f158 ?_;generalize hC:decide (a=b)=C at *;cbv;refine zF (λh=>?_) (λh=>?_)
 ·(have hl:a.length=b.length:=by (try dsimp only [zV] at *);grind [zH]);cbv
  refine z7 (σ:=Nat) (λn=>⟨[(0,nat a),(1,nat b),(5,iV n)],[]⟩) (λn=>n<=a.length/\a.take n=b.take n) (λn=>a.length-n) 0 ⟨xA _,by simp⟩ (.le ?_ trivial rfl) ?_;{cbv;exact okA};intro n hn;cbv;refine zF (λh2=>?_) (λh2=>?_)
  ·have hlt:n<a.length:=om;cbv;refine zM 9 (by cbv) ?_;cbv;refine xJ n (by (grind) <;> (try simp only[zH] at *) <;> omega) om ?_;cbv;refine xJ n (by (grind) <;> (try simp only[zH] at *) <;> omega) om ?_;cbv;refine zF (λh3=>?_) (λh3=>?_);{cbv;refine⟨zD om om,n+1,⟨hlt,?_⟩,by omega,.le ?_ trivial rfl⟩;{have e:a.getD n 0=b.getD n 0:=Zt.1 (by exact om);grind [aY]};{cbv;exact⟨lR,lR,zB om,trivial⟩}}
   ·cbv
    (refine rC ?_;cbv)
    refine zK ?_;grind
  ·have hn0:n=a.length:=om;subst hn0;cbv
   (refine rC ?_;cbv)
   refine yV ?_;grind
 ·cbv
  (refine rC ?_;cbv)
  refine zK ?_;grind
def aF (d:D):Wid 1 (λ_=>[[d]]):=⟨λe he=>by grind⟩
def aQ (out:List UInt32)(S:Nat):lm out++[[.int .u32 (nx .u32 ((S:Nat):Int))]]=lm (out++[UInt32.ofNat S]):=by rw[<-FP];congr 1;simp only[lm,jH,W0,x7,gZ,B];congr 2
theorem jY (l:List UInt32)(S:Nat):val (l++[UInt32.ofNat S])=val l+B^l.length*(S%B):=by rw[Q1,x7]
def SB (a b:List UInt32)(ha:a.length<2^40)(hb:b.length<2^40):zC 130 [nat a,nat b] (nat (zJ (val a+val b))):=by
 refine sF Tryz.f130 ?_;generalize hW:zJ (val a+val b)=W;cbv;refine z7 (σ:=Nat×Nat×List UInt32) (λs=>⟨[(0,nat a),(1,nat b),(5,yX 35 1 s.1),(6,.int .u64 (λ_=>(s.2.1:Int))),(7,iV s.1)],[(35,xF 1 (lm s.2.2))]⟩)
  (λs=>s.1<=max a.length b.length/\s.2.1<2/\s.2.2.length=s.1/\val s.2.2+B^s.1*s.2.1=val (a.take s.1)+val (b.take s.1)) (λs=>max a.length b.length-s.1)
  (0,0,[]) ⟨xA _,by grind,rfl,by simp[val]⟩ (.trans (.adoptT 35 1 5 rfl rfl) (.le ?_ ?_ rfl)) ?_
 {cbv;exact okA};{cbv;exact⟨zG rfl,trivial⟩};intro s hs;obtain⟨h1,h2,h3,h4⟩:=hs;generalize s.1=i at *;generalize s.2.1=c at *;generalize s.2.2=out at *;have ca:=Hc a i ha;have cb:=Hc b i hb;have hx:=yO (a.getD i 0);have hy:=yO (b.getD i 0);simp only[B] at hx hy;cbv;refine zQ (λh5=>?_) (λh5=>?_)
 ·(have hi:i<a.length:=om;cbv;refine yJ rfl okA ca rfl ?_;cbv;refine yJ rfl okA cb rfl ?_;have hS:nx .u64 ((c:Int)+nx .u64 (nx .u64 (((a.getD i 0).toNat:Nat):Int)+nx .u64 (((b.getD i 0).toNat:Nat):Int)))=((c+((a.getD i 0).toNat+(b.getD i 0).toNat):Nat):Int):=by grind [uN]);cbv
  refine wM UI rfl rfl rfl (by rw[zH,h3]) rfl (aF _) (z8 (uG _) (by show (((lm out).length+1:Nat):Int)*4<=70368744177664;grind [zH])) rfl ?_;cbv;refine⟨uH oM,zD om om,(i+1,(c+((a.getD i 0).toNat+(b.getD i 0).toNat))/B,out++[UInt32.ofNat (c+((a.getD i 0).toNat+(b.getD i 0).toNat))]),⟨by omega,?_,by simp[h3],?_⟩,by omega,.le ?_ ?_ rfl⟩;{grind [B]};{grind [jY,z4,Nat.mod_add_div]}
  ·cbv;refine⟨lR,lR,zT rfl (by show (lm out).length+1=i+1;rw[zH,h3]),zB ?_,zB om,trivial⟩
   (try dsimp only [zV] at *)
   rw[hS];exact s8 _
  ·cbv;refine⟨zG ?_,trivial⟩
   (try dsimp only [zV] at *)
   rw[hS];exact aQ out _
 ·cbv;refine zF (λh6=>?_) (λh6=>?_)
  ·(have hi:i<b.length:=om;cbv;refine yJ rfl okA ca rfl ?_;cbv;refine yJ rfl okA cb rfl ?_;have hS:nx .u64 ((c:Int)+nx .u64 (nx .u64 (((a.getD i 0).toNat:Nat):Int)+nx .u64 (((b.getD i 0).toNat:Nat):Int)))=((c+((a.getD i 0).toNat+(b.getD i 0).toNat):Nat):Int):=by grind [uN]);cbv
   refine wM UI rfl rfl rfl (by rw[zH,h3]) rfl (aF _) (z8 (uG _) (by show (((lm out).length+1:Nat):Int)*4<=70368744177664;grind [zH])) rfl ?_;cbv;refine⟨uH oM,zD om om,(i+1,(c+((a.getD i 0).toNat+(b.getD i 0).toNat))/B,out++[UInt32.ofNat (c+((a.getD i 0).toNat+(b.getD i 0).toNat))]),⟨by omega,?_,by simp[h3],?_⟩,by omega,.le ?_ ?_ rfl⟩;{grind [B]};{grind [jY,z4,Nat.mod_add_div]}
   ·cbv;refine⟨lR,lR,zT rfl (by show (lm out).length+1=i+1;rw[zH,h3]),zB ?_,zB om,trivial⟩
    (try dsimp only [zV] at *)
    rw[hS];exact s8 _
   ·cbv;refine⟨zG ?_,trivial⟩
    (try dsimp only [zV] at *)
    rw[hS];exact aQ out _
  ·(have hi1:a.length<=i:=om;have hi2:b.length<=i:=om;rw[yU hi1,yU hi2] at h4;have cm:=iP (out++[UInt32.ofNat c]) (by grind);have hv:val (out++[UInt32.ofNat c])=val a+val b:=by grind [jY,B]);rw[hv,hW] at cm
   cbv;refine wM UI rfl rfl rfl (by rw[zH,h3]) rfl (aF _) (z8 (uG _) (by show (((lm out).length+1:Nat):Int)*4<=70368744177664;grind [zH])) rfl ?_;cbv;refine qR (.frz 42 rfl rfl ?_ ?_) rfl (by refine⟨zR ?_,trivial⟩;exact (yU (by grind)).trans (aQ out c)) cm rfl ?_;{cbv;exact⟨zZ (by grind),trivial⟩};{exact trivial};cbv;exact rA
def Cb (a b:List UInt32)(ha:a.length<2^40)(hb:b.length<2^40):zC 131 [nat a,nat b] (.tup [nat (zJ (val a-val b)),iV (if val b<=val a then 0 else 2)]):=by
 refine sF Tryz.f131 ?_;have cc:=Sv a b ha hb;have hcl:qT (val a) (val b)<0↔val a<val b:=by grind [qT]
 generalize qT (val a) (val b)=C at *;have hlt:val a<val b->zJ (val a-val b)=[]/\(if val b<=val a then (0:Int) else 2)=2:=λh=>⟨by rw[Nat.sub_eq_zero_of_le oM,y6],by omega⟩;have hge:val b<=val a->(if val b<=val a then (0:Int) else 2)=0:=λh=>if_pos h;generalize hW:zJ (val a-val b)=W at *;generalize (if val b<=val a then (0:Int) else 2)=E at *;cbv;refine cA cc ?_;cbv;refine zF (λh=>?_) (λh=>?_)
 ·obtain⟨e1,e2⟩:=hlt (hcl.1 h);cbv
  (refine rC ?_;cbv)
  exact⟨yM (by rw[e1];rfl),zB (by rw[e2]),trivial⟩
 have hba:val b<=val a:=by omega
 have hE:=hge hba;cbv;refine z7 (σ:=Nat×Nat×List UInt32) (λs=>⟨[(0,nat a),(1,nat b),(6,yX 42 1 s.1),(7,.int .u64 (λ_=>(s.2.1:Int))),(8,iV s.1)],[(42,xF 1 (lm s.2.2))]⟩)
  (λs=>s.1<=a.length/\s.2.1<2/\s.2.2.length=s.1/\val s.2.2+val (b.take s.1)=val (a.take s.1)+B^s.1*s.2.1) (λs=>a.length-s.1)
  (0,0,[]) ⟨xA _,by grind,rfl,by simp[val]⟩ (.trans (.adoptT 42 1 6 rfl rfl) (.le ?_ ?_ rfl)) ?_
 {cbv;exact okA};{cbv;exact⟨zG rfl,trivial⟩};intro s hs;obtain⟨h1,h2,h3,h4⟩:=hs;generalize s.1=i at *;generalize s.2.1=c at *;generalize s.2.2=out at *;have ca:=Hc a i ha;have cb:=Hc b i hb;have hx:=yO (a.getD i 0);have hy:=yO (b.getD i 0);simp only[B] at hx hy;cbv;refine zF (λh5=>?_) (λh5=>?_)
 ·(have hi:i<a.length:=om;have hX:nx .u64 (((a.getD i 0).toNat:Nat):Int)=(((a.getD i 0).toNat:Nat):Int):=x9 oM;have hY:nx .u64 (nx .u64 (((b.getD i 0).toNat:Nat):Int)+(c:Int))=(((b.getD i 0).toNat+c:Nat):Int):=by grind [uN]);cbv
  refine yJ rfl okA ca rfl ?_;cbv;refine yJ rfl okA cb rfl ?_;cbv;refine zF (λh6=>?_) (λh6=>?_)
  ·(try dsimp only [zV] at *)
   (rw[hX,hY] at h6;have h6':(a.getD i 0).toNat<(b.getD i 0).toNat+c:=Int.ofNat_lt.1 h6;clear h6;have hZ:nx .u64 (nx .u64 (nx .u64 (((a.getD i 0).toNat:Nat):Int)+4294967296)-nx .u64 (nx .u64 (((b.getD i 0).toNat:Nat):Int)+(c:Int)))=(((a.getD i 0).toNat+4294967296-((b.getD i 0).toNat+c):Nat):Int):=by grind [uN]);cbv
   refine wM UI rfl rfl rfl (by rw[zH,h3]) rfl (aF _) (z8 (uG _) (by show (((lm out).length+1:Nat):Int)*4<=70368744177664;grind [zH])) rfl ?_;cbv;refine⟨zD om om,(i+1,1,out++[UInt32.ofNat ((a.getD i 0).toNat+4294967296-((b.getD i 0).toNat+c))]),⟨hi,by grind,by simp[h3],?_⟩,by omega,.le ?_ ?_ rfl⟩
   ·(show val (out++[_])+val (b.take (i+1))=val (a.take (i+1))+B^(i+1)*1;rw[jY,h3,z4 a,z4 b,uS,kE (show (a.getD i 0).toNat+4294967296-((b.getD i 0).toNat+c)<B by grind [B])];generalize (a.getD i 0).toNat=x at *;generalize (b.getD i 0).toNat=y at *;generalize B^i=P at *;have e1:P*(x+4294967296-(y+c))+P*y+P*c=P*x+P*B*1:=by rw[<-qS,<-qS,fN,<-qS];congr 1;grind [B]);omega
   {cbv;exact⟨lR,lR,zT rfl (by show (lm out).length+1=i+1;rw[zH,h3]),lR,zB om,trivial⟩}
   ·cbv;refine⟨zG ?_,trivial⟩
    (try dsimp only [zV] at *)
    rw[hZ];exact aQ out _
  ·(try dsimp only [zV] at *)
   (rw[hX,hY] at h6;have h6':(b.getD i 0).toNat+c<=(a.getD i 0).toNat:=Nat.not_lt.1 (λe=>h6 (Int.ofNat_lt.2 e));clear h6;have hZ:nx .u64 (nx .u64 (((a.getD i 0).toNat:Nat):Int)-nx .u64 (nx .u64 (((b.getD i 0).toNat:Nat):Int)+(c:Int)))=(((a.getD i 0).toNat-((b.getD i 0).toNat+c):Nat):Int):=by grind [uN]);cbv
   refine wM UI rfl rfl rfl (by rw[zH,h3]) rfl (aF _) (z8 (uG _) (by show (((lm out).length+1:Nat):Int)*4<=70368744177664;grind [zH])) rfl ?_;cbv;refine⟨zD om om,(i+1,0,out++[UInt32.ofNat ((a.getD i 0).toNat-((b.getD i 0).toNat+c))]),⟨hi,by grind,by simp[h3],?_⟩,by omega,.le ?_ ?_ rfl⟩
   ·(show val (out++[_])+val (b.take (i+1))=val (a.take (i+1))+B^(i+1)*0;rw[jY,h3,z4 a,z4 b,uS,kE (show (a.getD i 0).toNat-((b.getD i 0).toNat+c)<B by grind [B])];generalize (a.getD i 0).toNat=x at *;generalize (b.getD i 0).toNat=y at *;generalize B^i=P at *;have e1:P*(x-(y+c))+P*y+P*c=P*x+P*B*0:=by rw[<-qS,<-qS,fN,<-qS];grind);omega
   {cbv;exact⟨lR,lR,zT rfl (by show (lm out).length+1=i+1;rw[zH,h3]),lR,zB om,trivial⟩}
   ·cbv;refine⟨zG ?_,trivial⟩
    (try dsimp only [zV] at *)
    rw[hZ];exact aQ out _
 ·have hi:i=a.length:=om;have hbt:val (b.take a.length)=val b:=by have e1:=sE b a.length;have e2:=x8 a;rcases WY (val (b.drop a.length)) with e3|e3;{grind};{have:=wQ (B^a.length) e3;omega}
  (rw[hi,yU (yD _),hbt] at h4;have hc0:c=0:=by grind [x8]);have cm:=iP out oM
  (have hv:val out=val a-val b:=by grind);rw[hv,hW] at cm
  cbv;refine qR (.frz 42 rfl rfl ?_ ?_) rfl (by refine⟨zR ?_,trivial⟩;exact yU (by show ((lm out).drop 0).length<=i;rw[wZ,zH];omega)) cm rfl ?_;{cbv;exact⟨zZ (by grind [zH]),zZ (by grind [zH]),trivial⟩};{exact trivial};cbv
  (refine rC ?_;cbv)
  exact⟨lR,zB (by rw[hE]),trivial⟩
end Go.Proofs.YtaeaffgjdcigoaaGreat
