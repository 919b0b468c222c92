/- A part of the proof: RqA, RqB, ReA, ReB. -/
import Derived.Test.YtboocdbmnfjomaaGreatR17
set_option linter.all false
namespace Go.Proofs.YtboocdbmnfjomaaGreat
open Go
set_option maxRecDepth 100000
abbrev rv (x:R):PV:=.agg [zM x.neg,nat x.num,nat x.den]
structure R.sz (x:R) (k:Nat):Prop where
 n:x.num.length<=k
 d:x.den.length<=k
theorem zX {k:Nat}{q:Rat}(h:Fits k q):(zI q).sz k:=⟨h.lnum,h.lden⟩
theorem R.sz.fits {k:Nat}{x:R}(h:x.sz k)(hk:1<=k):Fits k x.q:=Nd h.n h.d hk
theorem R.sz.mono {k m:Nat}{x:R}(h:x.sz k)(hm:k<=m):x.sz m:=⟨vV h.n hm,vV h.d hm⟩
def xZ (d:List UInt32):List UInt32:=if val d=0 then [1] else d
def kF (x:R):val (xZ x.den)=x.d:=by unfold xZ R.d;split;{rfl};{rfl}
def jM (d:List UInt32):(xZ d).length<=d.length+1:=by grind [xZ]
def Z4:zL 1=[1]:=by rw[aZ (by decide)];rw[show 1/B=0 by decide,yY];rfl
def dO {n:Nat}:zL n=[1]↔n=1:=by constructor;{intro h;have:=zQ n;rw[h] at this;exact this.symm};{intro h;rw[h,Z4]}
def LI:zE 200 [] (nat [1]):=by
 refine sF Tryz.f200 ?_;cbv
 (refine rC ?_;cbv)
 exact zT rfl
def MB (l:List UInt32)(hl:l.length<2^40):zE 197 [nat l] (zM (decide (l=[1]))):=by
 refine sF Tryz.f197 ?_;generalize hd:decide (l=[1])=d;cbv;refine zU (λh=>?_) (λh=>?_)
 ·have h1:l.length=1:=om;cbv;refine xM 0 rfl oM ?_;cbv
  (refine rC ?_;cbv)
  refine z4 ?_;rw[<-hd,decide_eq_decide]
  match l,h1 with
  |[x],_ =>
   have e1:[x].getD 0 0=x:=rfl;rw[e1];constructor;{intro h2;have:x=1:=ZA.1 (by show x.toNat=1;exact om);rw[this]};{intro h2;rw[List.cons.inj h2 |>.1];rfl}
 ·cbv
  (refine rC ?_;cbv)
  refine zN ?_;rw[<-hd];exact decide_eq_false λe=>h (by rw[e];rfl)
def Qd (x:R)(hx:x.den.length<2^40):zE 152 [rv x] (nat (xZ x.den)):=by
 refine sF Tryz.f152 ?_;obtain⟨neg,num,den⟩:=x;have h0:((gW (val den):Nat):Int)=0↔val den=0:=by grind [lQ]
 have hs:=LK den hx;have e1:val den=0->xZ den=[1]:=λh=>if_pos h;have e2:val den≠0->xZ den=den:=λh=>if_neg h;show wp _ _ (fD _ (nat (xZ den)) [] []);generalize xZ den=u at *;generalize gW (val den)=b at h0 hs;cbv;refine cA hs ?_;cbv;refine zH (λh=>?_) (λh=>?_)
 ·cbv;refine cA LI ?_;cbv
  (refine rC ?_;cbv)
  exact zT (by grind)
 ·cbv
  (refine rC ?_;cbv)
  exact zT (by grind)
def Bk (neg:Bool)(num den:List UInt32)(hn:num.length<2^38)(hd:den.length<2^38)(h0:val den≠0):zE 150 [zM neg,nat num,nat den] (rv (zI (mkRat (sgn neg (val num)) (val den)))):=by
 refine sF Tryz.f150 ?_;rw[ZV h0];have hnl:=yA num;have hdl:=yA den;have hg0:Nat.gcd (val num) (val den)≠0:=λe=>h0 (Nat.eq_zero_of_gcd_eq_zero_right e);have cg:=EL (zL (val num)) (zL (val den)) oM oM;have cn:=RM (zL (val num)) (zL (Nat.gcd (val num) (val den))) oM (xQ (k8 (Nat.le_of_dvd (rD h0) (Ko _ _))) oM) (by grind [zQ]);have cd:=RM (zL (val den)) (zL (Nat.gcd (val num) (val den))) oM (xQ (k8 (Nat.le_of_dvd (rD h0) (Ko _ _))) oM) (by grind [zQ]);have cu:=MB (zL (Nat.gcd (val num) (val den))) (xQ (k8 (Nat.le_of_dvd (rD h0) (Ko _ _))) oM);have cf:=MB (zL (val den/Nat.gcd (val num) (val den))) (xQ (k8 (eR _ _)) oM);have cd1:=MB (zL (val den)) oM;have cm1:=Bh num oM;have cm2:=Bh den oM;rw[zQ,zQ] at cg cn cd;have hN:∀ n,((lm (zL n)).length:Int)=0↔n=0:=λn=>by grind [zJ,wD,List.length_eq_zero_iff]
 have hge1:Nat.gcd (val num) (val den)=1->val num/Nat.gcd (val num) (val den)=val num/\val den/Nat.gcd (val num) (val den)=val den:=λe=>by grind
 have hz:val num=0->val num/Nat.gcd (val num) (val den)=0/\val den/Nat.gcd (val num) (val den)=1:=λe=>by rw[e,Nat.gcd_zero_left,Nat.zero_div,Nat.div_self (rD h0)];omega
 have hd1:val den=1->Nat.gcd (val num) (val den)=1:=λe=>by simp_all
 generalize val den/Nat.gcd (val num) (val den)=D' at *;generalize val num/Nat.gcd (val num) (val den)=N' at *;generalize Nat.gcd (val num) (val den)=g at *;generalize val num=N at *;generalize val den=Dn at *;show wp _ _ (fD _ (.agg [zM (neg&&decide (N≠0)),nat (zL N'),nat (if D'=1 then [] else zL D')]) [] []);generalize hr1:(neg&&decide (N≠0))=r1;generalize hr2:(if D'=1 then [] else zL D')=r2;cbv;refine cA cm1 ?_;cbv;refine zH (λh=>?_) (λh=>?_)
 ·have e:=(hN N).1 h;obtain⟨e1,e2⟩:=hz e;cbv
  (refine rC ?_;cbv)
  refine⟨zN ?_,xD ?_,xD ?_,trivial⟩;{grind};{simp_all};{rw[<-hr2,if_pos e2];rfl}
 ·(have e:=λe=>h ((hN N).2 e);have hr1':neg=r1:=by grind);cbv
  refine cA cm2 ?_;cbv;refine cA cd1 ?_;cbv;refine zH (λh2=>?_) (λh2=>?_)
  ·have e1:=dO.1 h2;have e3:=hd1 e1;obtain⟨e4,e5⟩:=hge1 e3;cbv
   (refine rC ?_;cbv)
   refine⟨z4 hr1',zT (by rw[e4]),xD ?_,trivial⟩;rw[<-hr2,if_pos oM];rfl
  ·cbv;refine cA cg ?_;cbv;refine cA cu ?_;cbv;refine jZ (σ:=Unit) (λ_=>⟨[(0,zM neg),(1,nat (zL N')),(2,nat (zL D')),(6,.ptr 6 0)],[(6,.box [.ff,.nil,.nil])]⟩) (λ_=>True) (λh3=>?_) (λh3=>?_) ?_;{have e3:=dO.1 h3;obtain⟨e4,e5⟩:=hge1 e3;cbv;refine⟨(),trivial,.le ?_ ?_ rfl⟩;{cbv;exact⟨lR,zT (by rw[e4]),zT (by rw[e5]),lR,trivial⟩};{cbv;exact okA}};{cbv;refine cA cn ?_;cbv;refine cA cd ?_;cbv;refine⟨(),trivial,.le ?_ ?_ rfl⟩;{cbv;exact okA};{cbv;exact okA}};intro _ _;cbv;refine cA cf ?_;cbv;refine zH (λh3=>?_) (λh3=>?_)
   ·cbv
    (refine rC ?_;cbv)
    exact⟨z4 hr1',lR,xD (by rw[<-hr2,if_pos (dO.1 h3)];rfl),trivial⟩
   ·cbv
    (refine rC ?_;cbv)
    exact⟨z4 hr1',lR,zT (by rw[<-hr2,if_neg (λe=>h3 (dO.2 e))]),trivial⟩
def Dw (x:R)(hx:x.sz (2^36)):zE 95 [rv x] (rv (zI x.q)):=by refine sF Tryz.f95 ?_;have h1:=hx.n;have h2:=hx.d;have h3:=jM x.den;have cu:=Qd x oM;have cq:=Bk x.neg x.num (xZ x.den) oM oM (by rw[kF];exact x.d_ne);rw[kF] at cq;have e:mkRat (sgn x.neg (val x.num)) x.d=x.q:=rfl;rw[e] at cq;generalize zI x.q=W at *;generalize xZ x.den=u at *;obtain⟨neg,num,den⟩:=x;cbv;refine zP 7 (by cbv) ?_;cbv;refine dA cu ?_;cbv;refine dA cq ?_;cbv;exact rA
def MT (x:R):x.ok=true↔(x.neg=(zI x.q).neg/\x.num.length=(zI x.q).num.length/\x.den.length=(zI x.q).den.length/\qZ (val x.num) (val (zI x.q).num)=0/\qZ (val x.den) (val (zI x.q).den)=0):=by
 have hc:∀ a b,qZ a b=0↔a=b:=λa b=>by grind [qZ]
 simp only[R.ok,decide_eq_true_eq,hc];constructor;{grind};{rintro⟨h1,h2,h3,h4,h5⟩;have e1:=YW h2 h4;have e2:=YW h3 h5;generalize zI x.q=y at *;obtain⟨a,b,c⟩:=x;simp_all}
def MS (neg:Bool)(num:List UInt32):R.ok ⟨neg,num,[]⟩=(bV num&&(!neg || decide (0<num.length))):=by
 have hq:R.q ⟨neg,num,[]⟩=mkRat (sgn neg (val num)) 1:=rfl;have hp:=ZV (neg:=neg) (n:=val num) (d:=1) (by decide);rw[rT];simp only[R.ok,decide_eq_true_eq,hq,hp,Nat.gcd_one_right,Nat.div_one,if_true,R.mk.injEq,and_true,yS,Vw,Vs];have hlen:0<num.length↔num≠[]:=by grind
 constructor
 ·(rintro⟨h1,h2⟩;have hcn:bV num=true:=by rw[h2];exact rR _);refine⟨hcn,?_⟩
  cases neg with
  |false=>grind| true =>
   grind [val]
 ·rintro⟨h1,h2⟩;refine⟨?_,(lG h1).symm⟩;cases neg with
  |false=>rfl| true =>
   grind [UU]
def Bn (x:R)(hx:x.sz (2^36)):zE 82 [rv x] (zM x.ok):=by
 refine sF Tryz.f82 ?_;have h1:=hx.n;have h2:=hx.d;have hok:=MT x;have hnil:x.den.length=0->x.ok=(bV x.num&&(!x.neg || decide (0<x.num.length))):=by intro h;obtain⟨a,b,c⟩:=x;have:c=[]:=gX h;subst this;exact MS a b
 have cc:=Dw x hx;have cv:=EU x.num oM;have hf:Fits (2^36) x.q:=hx.fits (by decide);have hl1:=hf.lnum;have hl2:=hf.lden;have cm1:=HL x.num (zI x.q).num oM oM;have cm2:=HL x.den (zI x.q).den oM oM;generalize hO:x.ok=O at *;generalize zI x.q=W at *;clear hf;obtain⟨neg,num,den⟩:=x;obtain⟨neg',num',den'⟩:=W;simp only at *;generalize qZ (val num) (val num')=c1 at *;generalize qZ (val den) (val den')=c2 at *;cbv;refine zH (λh=>?_) (λh=>?_)
 ·have e:=hnil om;cbv;refine cA cv ?_;generalize bV num=cn at *;cbv;refine yH (λh3=>?_) (λh3=>?_)
  ·subst h3;cbv;refine yH (λh4=>?_) (λh4=>?_)
   ·subst h4;cbv
    (refine rC ?_;cbv)
    exact z4 (by rw[e];simp[zJ])
   ·subst h4;cbv
    (refine rC ?_;cbv)
    exact yL (by grind)
  ·subst h3;cbv
   (refine rC ?_;cbv)
   exact zN (by grind)
 ·(cbv;refine cA cc ?_;cbv;have hno:∀ P:Prop,¬P->(O=true->P)->O=false:=λP h h'=>by grind);refine zU (λh3=>?_) (λh3=>?_)
  ·cbv;refine zU (λh4=>?_) (λh4=>?_)
   ·cbv;refine zU (λh5=>?_) (λh5=>?_)
    ·cbv;refine cA cm1 ?_;cbv;refine zU (λh6=>?_) (λh6=>?_)
     ·cbv;refine cA cm2 ?_;cbv
      (refine rC ?_;cbv)
      refine z4 ?_;rw[rT,hok,decide_eq_true_eq]
      (try dsimp only [z6] at *)
      grind [zJ]
     ·cbv
      (refine rC ?_;cbv)
      exact zN (hno _ h6 λh7=>(hok.1 h7).2.2.2.1)
    ·cbv
     (refine rC ?_;cbv)
     refine zN (hno _ h5 λh7=>?_);have:=(hok.1 h7).2.2.1
     (try dsimp only [z6] at *)
     grind [zJ]
   ·cbv
    (refine rC ?_;cbv)
    refine zN (hno _ h4 λh7=>?_);have:=(hok.1 h7).2.1
    (try dsimp only [z6] at *)
    grind [zJ]
  ·cbv
   (refine rC ?_;cbv)
   exact zN (hno _ h3 λh7=>(hok.1 h7).1)
def ET (x:Z)(hx:x.mag.length<2^38):zE 216 [zv x] (rv (zI (x.v:Rat))):=by
 refine sF Tryz.f216 ?_;have cq:=Bk x.neg x.mag [1] hx (by simp) (by decide);have e:mkRat (sgn x.neg (val x.mag)) (val [1])=(x.v:Rat):=by have:=Rat.mkRat_self (x.v:Rat);rw[Rat.num_intCast,Rat.den_intCast] at this;exact this
 rw[e] at cq;generalize zI (x.v:Rat)=W at *;obtain⟨neg,mag⟩:=x;cbv;refine zP 6 (by cbv) ?_;cbv;refine dA LI ?_;cbv;refine dA cq ?_;cbv;exact rA
def Ww (x:Int)(h1:-9223372036854775808<=x)(h2:x<9223372036854775808):(wA x).mag.length<=2:=by refine yM ?_;grind [B]
def HP (x:Int)(h1:-9223372036854775808<=x)(h2:x<9223372036854775808):zE 170 [iV x] (rv (zI (x:Rat))):=by refine sF Tryz.f170 ?_;have c1:=ES x h1 h2;have hl:=Ww x h1 h2;have c2:=ET (wA x) oM;rw[cS] at c2;generalize zI (x:Rat)=W at *;generalize wA x=y at *;cbv;refine cA c1 ?_;cbv;refine cA c2 ?_;cbv;exact rA
def MH (x:R)(hx:x.num.length<2^40):zE 128 [rv x] (zv (wA x.n)):=by refine sF Tryz.f128 ?_;have c1:=Bi x.neg x.num hx;have e:sgn x.neg (val x.num)=x.n:=rfl;rw[e] at c1;generalize wA x.n=W at *;obtain⟨neg,num,den⟩:=x;cbv;refine cA c1 ?_;cbv;exact rA
def BV (x:R):(wA x.n).mag.length<=x.num.length:=by refine yM ?_;rw[R.n,qM];exact x8 _
def s86 (x:R)(hx:x.num.length<2^40):zE 81 [rv x] (iV (yF x.q)):=by refine sF Tryz.f81 ?_;have c1:=MH x hx;have hl:=BV x;have c2:=MI (wA x.n) oM;rw[cS,<-CK] at c2;generalize yF x.q=s at *;generalize wA x.n=W at *;obtain⟨neg,num,den⟩:=x;cbv;refine cA c1 ?_;cbv;refine cA c2 ?_;cbv;exact rA
def LM (x y:R)(hx:x.sz (2^34))(hy:y.sz (2^34)):zE 97 [rv x,rv y] (.tup [zv (wA (x.n*y.d)),zv (wA (y.n*x.d))]):=by
 refine sF Tryz.f97 ?_;have h1:=hx.n;have h2:=hx.d;have h3:=hy.n;have h4:=hy.d;have h5:=jM x.den;have h6:=jM y.den;have h7:=BV x;have h8:=BV y;have cux:=Qd x oM;have cuy:=Qd y oM;have csx:=MH x oM;have csy:=MH y oM;have cm1:=LH (wA x.n) ⟨false,xZ y.den⟩ oM (show (xZ y.den).length<_ by omega);have cm2:=LH (wA y.n) ⟨false,xZ x.den⟩ oM (show (xZ x.den).length<_ by omega);have e1:Z.v ⟨false,xZ y.den⟩=(y.d:Int):=by rw[<-kF];rfl
 have e2:Z.v ⟨false,xZ x.den⟩=(x.d:Int):=by rw[<-kF];rfl
 rw[cS,e1] at cm1;rw[cS,e2] at cm2;generalize wA (x.n*(y.d:Int))=W1 at *;generalize wA (y.n*(x.d:Int))=W2 at *;generalize wA x.n=X at *;generalize wA y.n=Y at *;generalize xZ x.den=ux at *;generalize xZ y.den=uy at *;obtain⟨a,b,c⟩:=x;obtain⟨a',b',c'⟩:=y;cbv;refine zP 4 (by cbv) ?_;cbv;refine dA cux ?_;cbv;refine dA cuy ?_;cbv;refine zP 10 (by cbv) ?_;cbv;refine dA csx ?_;cbv;refine dA cm1 ?_;cbv;refine dA csy ?_;cbv;refine dA cm2 ?_;cbv;exact rA
def lN (x y:R)(hx:x.sz (2^34))(hy:y.sz (2^34)):(wA (x.n*(y.d:Int))).mag.length<=2^36:=by have h1:=hx.n;have h4:=hy.d;have h6:=jM y.den;refine vV (yM (k:=x.num.length+(xZ y.den).length) ?_) oM;rw[Int.natAbs_mul,R.n,qM,Int.natAbs_natCast,<-kF];exact fI (x8 _) (x8 _)
def ME (x y:R)(hx:x.sz (2^34))(hy:y.sz (2^34)):zE 45 [rv x,rv y] (iV (wN x.q y.q)):=by
 refine sF Tryz.f45 ?_;have h1:=hx.n;have h3:=hy.n;have h5:=lN x y hx hy;have h6:=lN y x hy hx;have cx:=s86 x oM;have cy:=s86 y oM;have cc:=LM x y hx hy;have ci:=EN _ _ (xQ h5 oM) (xQ h6 oM);rw[cS,cS,<-NE] at ci;have k1:yF x.q<yF y.q->wN x.q y.q=-1:=by grind [yF,wN]
 have k2:yF y.q<yF x.q->wN x.q y.q=1:=by grind [yF,wN]
 generalize wN x.q y.q=C at *;generalize yF x.q=s at *;generalize yF y.q=t at *;generalize wA (x.n*(y.d:Int))=W1 at *;generalize wA (y.n*(x.d:Int))=W2 at *;obtain⟨a,b,c⟩:=x;obtain⟨a',b',c'⟩:=y;obtain⟨p1,p2⟩:=W1;obtain⟨q1,q2⟩:=W2;cbv;refine zP 4 (by cbv) ?_;cbv;refine dA cx ?_;cbv;refine dA cy ?_;cbv;refine zH (λh=>?_) (λh=>?_);{cbv;refine cA cc ?_;cbv;refine cA ci ?_;cbv;exact rA}
 ·cbv;refine zH (λh'=>?_) (λh'=>?_)
  ·cbv
   (refine rC ?_;cbv)
   exact zG (k1 h').symm
  ·cbv
   (refine rC ?_;cbv)
   exact zG (k2 oM).symm
def Dy (x y:R)(hx:x.sz (2^34))(hy:y.sz (2^34)):zE 93 [rv x,rv y] (rv (zI (x.q+y.q))):=by
 refine sF Tryz.f93 ?_;have h1:=hx.n;have h2:=hx.d;have h3:=hy.n;have h4:=hy.d;have h5:=lN x y hx hy;have h6:=lN y x hy hx;have h7:=jM x.den;have h8:=jM y.den;have cc:=LM x y hx hy;have ca:=EP _ _ (xQ h5 oM) (xQ h6 oM);rw[cS,cS] at ca;have cux:=Qd x oM;have cuy:=Qd y oM;have cm:=Dv (xZ x.den) (xZ y.den) oM oM;have hml:=j9 (xZ x.den) (xZ y.den);rw[kF,kF] at cm hml;have hsl:(wA (x.n*(y.d:Int)+y.n*(x.d:Int))).mag.length<2^38:=by
  (obtain⟨k,hk⟩:∃ k,k=68719476736:=⟨_,rfl⟩;have h5':(wA (x.n*(y.d:Int))).mag.length<=k:=by omega);have h6':(wA (y.n*(x.d:Int))).mag.length<=k:=by omega
  (have e1:(x.n*(y.d:Int)).natAbs<B^k:=by have:=x8 (wA (x.n*(y.d:Int))).mag;rw[show val (wA (x.n*(y.d:Int))).mag=(x.n*(y.d:Int)).natAbs from zQ _] at this;exact jJ this (d7 uB h5'));have e2:(y.n*(x.d:Int)).natAbs<B^k:=by have:=x8 (wA (y.n*(x.d:Int))).mag;rw[show val (wA (y.n*(x.d:Int))).mag=(y.n*(x.d:Int)).natAbs from zQ _] at this;exact jJ this (d7 uB h6')
  have e3:=Int.natAbs_add_le (x.n*(y.d:Int)) (y.n*(x.d:Int));have e4:B^k*2<=B^k*B:=wL _ (by decide);have e5:(zL (x.n*(y.d:Int)+y.n*(x.d:Int)).natAbs).length<=k+1:=yM (by rw[uL B k];omega);show (zL (x.n*(y.d:Int)+y.n*(x.d:Int)).natAbs).length<2^38;omega
 have cq:=Bk (wA (x.n*(y.d:Int)+y.n*(x.d:Int))).neg (wA (x.n*(y.d:Int)+y.n*(x.d:Int))).mag (zL (x.d*y.d)) hsl oM (by rw[zQ];exact Yj x.d_ne y.d_ne);have e6:sgn (wA (x.n*(y.d:Int)+y.n*(x.d:Int))).neg (val (wA (x.n*(y.d:Int)+y.n*(x.d:Int))).mag)=x.n*(y.d:Int)+y.n*(x.d:Int):=cS _;rw[e6,zQ,<-BD] at cq;clear e6 hsl hml h5 h6;generalize zI (x.q+y.q)=W at *;generalize zL (x.d*y.d)=M at *;generalize wA (x.n*(y.d:Int)+y.n*(x.d:Int))=S at *;generalize wA (x.n*(y.d:Int))=W1 at *;generalize wA (y.n*(x.d:Int))=W2 at *;generalize xZ x.den=ux at *;generalize xZ y.den=uy at *;obtain⟨a,b,c⟩:=x;obtain⟨a',b',c'⟩:=y;obtain⟨p1,p2⟩:=W1;obtain⟨q1,q2⟩:=W2;obtain⟨s1,s2⟩:=S;cbv;refine cA cc ?_;cbv;refine cA ca ?_;cbv;refine zP 10 (by cbv) ?_;cbv;refine dA cux ?_;cbv;refine dA cuy ?_;cbv;refine dA cm ?_;cbv;refine dA cq ?_;cbv;exact rA
def ER (x y:R)(hx:x.sz (2^34))(hy:y.sz (2^34)):zE 145 [rv x,rv y] (rv (zI (x.q-y.q))):=by refine sF Tryz.f145 ?_;have ca:=Dy x ⟨!y.neg,y.num,y.den⟩ hx ⟨hy.n,hy.d⟩;rw[Fa,<-Su] at ca;generalize zI (x.q-y.q)=W at *;obtain⟨a,b,c⟩:=x;obtain⟨a',b',c'⟩:=y;generalize hna:(!a')=na at *;cbv;refine xE rfl (by exact⟨okA,⟨v7 hna.symm,lR,lR,trivial⟩,trivial⟩) ca rfl ?_;cbv;exact rA
def Bj (x y:R)(hx:x.sz (2^34))(hy:y.sz (2^34)):zE 94 [rv x,rv y] (rv (zI (x.q*y.q))):=by
 refine sF Tryz.f94 ?_;have h1:=hx.n;have h2:=hx.d;have h3:=hy.n;have h4:=hy.d;have h7:=jM x.den;have h8:=jM y.den;have cux:=Qd x oM;have cuy:=Qd y oM;have cm:=Dv (xZ x.den) (xZ y.den) oM oM;have hml:=j9 (xZ x.den) (xZ y.den);rw[kF,kF] at cm hml;have cn:=Dv x.num y.num oM oM;have hnl:=j9 x.num y.num;have cq:=Bk (x.neg != y.neg) (zL (val x.num*val y.num)) (zL (x.d*y.d)) oM oM (by rw[zQ];exact Yj x.d_ne y.d_ne);rw[zQ,zQ,<-U3] at cq;have e:mkRat (sgn x.neg (val x.num)*sgn y.neg (val y.num)) (x.d*y.d)=x.q*y.q:=(P7 x y).symm;rw[e] at cq;have hb:(x.neg != y.neg)=!decide (x.neg=y.neg):=by grind
 clear hml hnl e;generalize zI (x.q*y.q)=W at *;generalize zL (x.d*y.d)=M at *;generalize zL (val x.num*val y.num)=P at *;generalize xZ x.den=ux at *;generalize xZ y.den=uy at *;obtain⟨a,b,c⟩:=x;obtain⟨a',b',c'⟩:=y;simp only at *;generalize (a != a')=nb at *;cbv;refine zP 16 (by cbv) ?_;cbv;refine dA cn ?_;cbv;refine dA cux ?_;cbv;refine dA cuy ?_;cbv;refine dA cm ?_;cbv;refine wH (by exact⟨v7 hb,lR,lR,trivial⟩) cq rfl ?_;cbv;exact rA
def l8 (a b:Rat):Rat:=if a<b then b else a
def U0:ty 24=.sli 1 4 [.int .u32 (λ_=>0)]:=by cbv
def iE (l:List UInt32)(k:Nat):val (l.drop k)=(l.getD k 0).toNat+B*val (l.drop (k+1)):=by rcases kO k l.length with h|h;{exact jL h};{rw[eV h,eV oM];simp[rW h,val]}
def sC (l:List UInt32)(m:Nat):val l=val (l.take m)+B^m*val (l.drop m):=by rcases kO m l.length with h|h;{exact oE m oM};{rw[eV h,yW h];simp[val]}
def Wr {a b:List UInt32}{m:Nat}(h:val (a.drop m)<val (b.drop m)):val a<val b:=by rw[sC a m,sC b m];have h1:=vA a m;have h2:=wL (B^m) (show val (a.drop m)+1<=val (b.drop m) from h);grind
def HN (a:List UInt32)(i:Nat)(ha:a.length<2^40):zE 156 [nat a,iV i] (.int .u32 (λ_=>((a.getD i 0).toNat:Int))):=by
 refine sF Tryz.f156 ?_;generalize hx:a.getD i 0=x;cbv;refine zH (λh=>?_) (λh=>?_);{cbv;refine xM i (by (grind) <;> (try simp only[zJ] at *) <;> omega) om ?_;rw[hx];cbv;exact rA}
 ·cbv
  (refine rC ?_;cbv)
  refine zG ?_;have:a.length<=i:=om;rw[<-hx];simp[rW this]
def iY (l:List UInt32)(hl:l.length<2^41):zE 157 [nat l] (nat (zL (val l))):=by
 refine sF Tryz.f157 ?_;have fin:∀ n,n<=l.length->val (l.take n)=val l->(n=0\/∃ m,n=m+1/\l.getD m 0≠0)->l.take n=zL (val l):=by intro n hn hv h;rcases h with rfl|⟨m,rfl,h⟩;{rw[<-hv];simp[val,yY]};grind [lG,aU,eM]
 generalize hW:zL (val l)=W at *;cbv;refine zZ (σ:=Nat) (λn=>⟨[(0,nat l),(2,.nil),(3,iV n)],[]⟩) (λn=>n<=l.length/\val (l.take n)=val l) (λn=>n) l.length ⟨yX _,by simp⟩ (.le ?_ trivial rfl) ?_;{cbv;exact⟨lR,lR,zG (by simp[zJ]),trivial⟩};intro n hn;have done:(n=0\/∃ m,n=m+1/\l.getD m 0≠0)->((lm l).take ((n:Int)).toNat).drop (Int.toNat 0)=lm W:=λh=>by grind [Fm]
 have hwl:W.length<=l.length:=by rw[<-hW];exact yA l
 cbv;refine zU (λh=>?_) (λh=>?_)
 ·(try dsimp only [z6] at *)
  obtain⟨m,rfl⟩:∃ m,n=m+1:=⟨n-1,by omega⟩;cbv;refine⟨zF om om,xM m om om ?_⟩;cbv;refine zH (λh2=>?_) (λh2=>?_)
  ·cbv;refine⟨zF om om,m,⟨om,?_⟩,om,.le ?_ trivial rfl⟩
   ·(have e:l.getD m 0=0:=by have:(l.getD m 0).toNat=0:=om;exact ZA.1 this);grind [aU,VT]
   {cbv;exact⟨lR,lR,zG om,trivial⟩}
  ·(have e:l.getD m 0≠0:=λe=>by (try dsimp only [z6] at *);simp_all);have hd:=done (.inr ⟨m,rfl,e⟩)
   cbv;refine⟨qF (Int.le_refl _) om om,i9 l,?_⟩
   (try dsimp only [z6] at *)
   rw[hd];refine xY T6 rfl rfl rfl rfl rfl (i9 W) (z3 om (by simp only[dZ];(try dsimp only [z6] at *) <;> (try simp only[zJ] at *) <;> omega)) rfl ?_;cbv;refine Dz (.frz 22 rfl rfl ?_ ?_) rfl ?_ rfl;{cbv;exact⟨yB (by simp),yB (by simp),trivial⟩};{exact trivial};{exact zT (by simp)}
 ·have h0:n=0:=om;have hd:=done (.inl h0);cbv;refine⟨qF (Int.le_refl _) om om,i9 l,?_⟩
  (try dsimp only [z6] at *)
  rw[hd];refine xY T6 rfl rfl rfl rfl rfl (i9 W) (z3 om (by simp only[dZ];(try dsimp only [z6] at *) <;> (try simp only[zJ] at *) <;> omega)) rfl ?_;cbv;refine Dz (.frz 22 rfl rfl ?_ ?_) rfl ?_ rfl;{cbv;exact⟨yB (by simp),yB (by simp),trivial⟩};{exact trivial};{exact zT (by simp)}
def MG (x:Nat)(hx:x<B*B):zE 115 [.int .u64 (λ_=>(x:Int))] (nat (zL x)):=by
 refine sF Tryz.f115 ?_;have h2:x/B<B:=Nat.div_lt_of_lt_mul hx;have hv:val [UInt32.ofNat (x%B),UInt32.ofNat (x/B)]=x:=by simp only[val,aX];rw[UInt32.toNat_ofNat',kP (show x/B<2^32 from h2),Nat.mul_zero,t9];exact Vo x B
 have c1:=iY [UInt32.ofNat (x%B),UInt32.ofNat (x/B)] (by simp);rw[hv] at c1;have he:([[.int .u32 (nx .u32 (x:Int))],[.int .u32 (nx .u32 (ishr .u64 (x:Int) 32))]]:List (List D))=lm [UInt32.ofNat (x%B),UInt32.ofNat (x/B)]:=by rw[sX];simp only[lm,j3,UQ,aX,x6,kP h2,fG,B] at *;grind
 generalize zL x=W at *;cbv;refine⟨uJ oM,?_⟩;refine xE rfl (by exact⟨zT he,trivial⟩) c1 rfl ?_;cbv;exact rA
def LJ (l:List UInt32)(hl:l.length<2^40):zE 203 [nat l] (.tup [.int .u64 (λ_=>((if val l<B*B then val l else 0:Nat):Int)),zM (decide (val l<B*B))]):=by
 refine sF Tryz.f203 ?_;have hl':=xQ (yA l) hl;have c1:=iY l oM;have hv:=zQ (val l);have h2:=@B6 (val l);generalize zL (val l)=p at *;generalize hr:(if val l<B*B then val l else 0:Nat)=r;generalize hb:decide (val l<B*B)=b;generalize val l=v at *;have hin:p.length<=2->r=val p/\b=true:=λh=>by grind
 cbv;refine cA c1 ?_;cbv;refine zH (λh=>?_) (λh=>?_)
 ·have h0:p.length=0:=om;obtain⟨e1,e2⟩:=hin oM;cbv
  (refine rC ?_;cbv)
  refine⟨zG ?_,yL e2,trivial⟩;rw[e1,gX h0];rfl
 ·cbv;refine zH (λh3=>?_) (λh3=>?_)
  ·have h0:p.length=1:=om;obtain⟨e1,e2⟩:=hin oM;cbv;refine xM 0 rfl oM ?_;cbv
   (refine rC ?_;cbv)
   refine⟨zG ?_,yL e2,trivial⟩;rw[e1]
   match p,h0 with
   |[x],_ =>
    have:=yV x;show nx .u64 ((x.toNat:Nat):Int)=((x.toNat+B*0:Nat):Int);grind [x9,B]
  ·cbv;refine zH (λh4=>?_) (λh4=>?_)
   ·have h0:p.length=2:=om;obtain⟨e1,e2⟩:=hin oM;cbv;refine zP 10 (by cbv) ?_;cbv;refine xM 0 rfl oM ?_;cbv;refine xM 1 rfl oM ?_;cbv;refine⟨uJ oM,?_⟩
    (refine rC ?_;cbv)
    refine⟨zG ?_,yL e2,trivial⟩;rw[e1]
    match p,h0 with
    |[x,y],_ =>
     have h5:=yV x;have h6:=yV y;show ior .u64 (nx .u64 ((x.toNat:Nat):Int)) (ishl .u64 (nx .u64 ((y.toNat:Nat):Int)) 32)=((x.toNat+B*(y.toNat+B*0):Nat):Int);grind [x9,B,or2]
   ·have h0:¬p.length<=2:=om;have h5:¬v<B*B:=λe=>h0 (h2.2 e);cbv
    (refine rC ?_;cbv)
    exact⟨zG (by grind),zN (by grind),trivial⟩
def RO (a b:List UInt32)(ha:a.length<2^40)(hb:b.length<2^40):zE 202 [nat a,nat b] (iV (qZ (val a) (val b))):=by
 refine sF Tryz.f202 ?_;have hlt:val a<val b->qZ (val a) (val b)=-1:=Xg;have hgt:val b<val a->qZ (val a) (val b)=1:=Xh;have heq:val a=val b->qZ (val a) (val b)=0:=λh=>by rw[h,Q6]
 generalize hC:qZ (val a) (val b)=C at *;have hmax:imax ((lm a).length:Int) ((lm b).length:Int)=((max a.length b.length:Nat):Int):=by grind [imax,zJ]
 cbv;refine⟨zF (by exact om) (by exact om),?_⟩;refine zZ (σ:=Nat) (λn=>⟨[(0,nat a),(1,nat b),(5,iV ((n:Int)-1))],[]⟩) (λn=>n<=max a.length b.length/\val (a.drop n)=val (b.drop n)) (λn=>n) (max a.length b.length) ⟨yX _,by grind [List.drop_of_length_le]⟩ (.le ?_ trivial rfl) ?_;{cbv;exact⟨lR,lR,zG (by (try dsimp only [z6] at *);rw[hmax]),trivial⟩};intro n hn;cbv;refine zH (λh=>?_) (λh=>?_)
 ·(try dsimp only [z6] at *)
  (obtain⟨m,rfl⟩:∃ m,n=m+1:=⟨n-1,by omega⟩;have hm:((m+1:Nat):Int)-1=(m:Int):=by omega);have da:=iE a m
  rw[hn.2] at da;have db:=iE b m;have ca:=HN a m ha;have cb:=HN b m hb;cbv;refine xE rfl (by exact⟨lR,zG hm,trivial⟩) ca rfl ?_;cbv;refine xE rfl (by exact⟨lR,zG hm,trivial⟩) cb rfl ?_;cbv;refine zH (λh2=>?_) (λh2=>?_)
  ·cbv
   (refine rC ?_;cbv)
   exact zG (hlt (Wr (m:=m) (by exact om))).symm
  ·cbv;refine xE rfl (by exact⟨lR,zG hm,trivial⟩) ca rfl ?_;cbv;refine xE rfl (by exact⟨lR,zG hm,trivial⟩) cb rfl ?_;cbv;refine zH (λh3=>?_) (λh3=>?_)
   ·cbv
    (refine rC ?_;cbv)
    exact zG (hgt (Wr (m:=m) (by exact om))).symm
   {cbv;refine⟨zF om om,m,⟨by omega,by exact om⟩,by omega,.le ?_ trivial rfl⟩;cbv;exact⟨lR,lR,zG om,trivial⟩}
 ·have h0:n=0:=om;subst h0;cbv
  (refine rC ?_;cbv)
  exact zG (heq (by grind)).symm
def LP (a b:List UInt32)(ha:a.length<2^40)(hb:b.length<2^40):zE 180 [nat a,nat b] (zM (decide (a=b))):=by
 refine sF Tryz.f180 ?_;generalize hC:decide (a=b)=C at *;cbv;refine zH (λh=>?_) (λh=>?_)
 ·(have hl:a.length=b.length:=by (try dsimp only [z6] at *);grind [zJ]);cbv
  refine zZ (σ:=Nat) (λn=>⟨[(0,nat a),(1,nat b),(5,iV n)],[]⟩) (λn=>n<=a.length/\a.take n=b.take n) (λn=>a.length-n) 0 ⟨xK _,by simp⟩ (.le ?_ trivial rfl) ?_;{cbv;exact okA};intro n hn;cbv;refine zH (λh2=>?_) (λh2=>?_)
  ·have hlt:n<a.length:=om;cbv;refine zP 9 (by cbv) ?_;cbv;refine xM n (by (grind) <;> (try simp only[zJ] at *) <;> omega) om ?_;cbv;refine xM n (by (grind) <;> (try simp only[zJ] at *) <;> omega) om ?_;cbv;refine zH (λh3=>?_) (λh3=>?_);{cbv;refine⟨zF om om,n+1,⟨hlt,?_⟩,by omega,.le ?_ trivial rfl⟩;{have e:a.getD n 0=b.getD n 0:=ZA.1 (by exact om);grind [aU]};{cbv;exact⟨lR,lR,zG om,trivial⟩}}
   ·cbv
    (refine rC ?_;cbv)
    refine zN ?_;grind
  ·have hn0:n=a.length:=om;subst hn0;cbv
   (refine rC ?_;cbv)
   refine yL ?_;grind
 ·cbv
  (refine rC ?_;cbv)
  refine zN ?_;grind
def aC (d:D):Wid 1 (λ_=>[[d]]):=⟨λe he=>by grind⟩
def aP (out:List UInt32)(S:Nat):lm out++[[.int .u32 (nx .u32 ((S:Nat):Int))]]=lm (out++[UInt32.ofNat S]):=by rw[<-DH];congr 1;simp only[lm,j3,UQ,x6,fG,B];congr 2
theorem j5 (l:List UInt32)(S:Nat):val (l++[UInt32.ofNat S])=val l+B^l.length*(S%B):=by rw[Kv,x6]
def RP (a b:List UInt32)(ha:a.length<2^40)(hb:b.length<2^40):zE 158 [nat a,nat b] (nat (zL (val a+val b))):=by
 refine sF Tryz.f158 ?_;generalize hW:zL (val a+val b)=W;cbv;refine zZ (σ:=Nat×Nat×List UInt32) (λs=>⟨[(0,nat a),(1,nat b),(5,zW 35 1 s.1),(6,.int .u64 (λ_=>(s.2.1:Int))),(7,iV s.1)],[(35,z5 1 (lm s.2.2))]⟩)
  (λs=>s.1<=max a.length b.length/\s.2.1<2/\s.2.2.length=s.1/\val s.2.2+B^s.1*s.2.1=val (a.take s.1)+val (b.take s.1)) (λs=>max a.length b.length-s.1)
  (0,0,[]) ⟨xK _,by grind,rfl,by simp[val]⟩ (.trans (.adoptT 35 1 5 rfl rfl) (.le ?_ ?_ rfl)) ?_
 {cbv;exact okA};{cbv;exact⟨zC rfl,trivial⟩};intro s hs;obtain⟨h1,h2,h3,h4⟩:=hs;generalize s.1=i at *;generalize s.2.1=c at *;generalize s.2.2=out at *;have ca:=HN a i ha;have cb:=HN b i hb;have hx:=yV (a.getD i 0);have hy:=yV (b.getD i 0);simp only[B] at hx hy;cbv;refine zU (λh5=>?_) (λh5=>?_)
 ·(have hi:i<a.length:=om;cbv;refine xE rfl okA ca rfl ?_;cbv;refine xE rfl okA cb rfl ?_;have hS:nx .u64 ((c:Int)+nx .u64 (nx .u64 (((a.getD i 0).toNat:Nat):Int)+nx .u64 (((b.getD i 0).toNat:Nat):Int)))=((c+((a.getD i 0).toNat+(b.getD i 0).toNat):Nat):Int):=by grind [uR]);cbv
  refine xY U0 rfl rfl rfl (by rw[zJ,h3]) rfl (aC _) (z3 (rB _) (by show (((lm out).length+1:Nat):Int)*4<=70368744177664;grind [zJ])) rfl ?_;cbv;refine⟨uJ oM,zF om om,(i+1,(c+((a.getD i 0).toNat+(b.getD i 0).toNat))/B,out++[UInt32.ofNat (c+((a.getD i 0).toNat+(b.getD i 0).toNat))]),⟨by omega,?_,by simp[h3],?_⟩,by omega,.le ?_ ?_ rfl⟩;{grind [B]};{grind [j5,z9,Nat.mod_add_div]}
  ·cbv;refine⟨lR,lR,zR rfl (by show (lm out).length+1=i+1;rw[zJ,h3]),zG ?_,zG om,trivial⟩
   (try dsimp only [z6] at *)
   rw[hS];exact sX _
  ·cbv;refine⟨zC ?_,trivial⟩
   (try dsimp only [z6] at *)
   rw[hS];exact aP out _
 ·cbv;refine zH (λh6=>?_) (λh6=>?_)
  ·(have hi:i<b.length:=om;cbv;refine xE rfl okA ca rfl ?_;cbv;refine xE rfl okA cb rfl ?_;have hS:nx .u64 ((c:Int)+nx .u64 (nx .u64 (((a.getD i 0).toNat:Nat):Int)+nx .u64 (((b.getD i 0).toNat:Nat):Int)))=((c+((a.getD i 0).toNat+(b.getD i 0).toNat):Nat):Int):=by grind [uR]);cbv
   refine xY U0 rfl rfl rfl (by rw[zJ,h3]) rfl (aC _) (z3 (rB _) (by show (((lm out).length+1:Nat):Int)*4<=70368744177664;grind [zJ])) rfl ?_;cbv;refine⟨uJ oM,zF om om,(i+1,(c+((a.getD i 0).toNat+(b.getD i 0).toNat))/B,out++[UInt32.ofNat (c+((a.getD i 0).toNat+(b.getD i 0).toNat))]),⟨by omega,?_,by simp[h3],?_⟩,by omega,.le ?_ ?_ rfl⟩;{grind [B]};{grind [j5,z9,Nat.mod_add_div]}
   ·cbv;refine⟨lR,lR,zR rfl (by show (lm out).length+1=i+1;rw[zJ,h3]),zG ?_,zG om,trivial⟩
    (try dsimp only [z6] at *)
    rw[hS];exact sX _
   ·cbv;refine⟨zC ?_,trivial⟩
    (try dsimp only [z6] at *)
    rw[hS];exact aP out _
  ·(have hi1:a.length<=i:=om;have hi2:b.length<=i:=om;rw[yW hi1,yW hi2] at h4;have cm:=iY (out++[UInt32.ofNat c]) (by grind);have hv:val (out++[UInt32.ofNat c])=val a+val b:=by grind [j5,B]);rw[hv,hW] at cm
   cbv;refine xY U0 rfl rfl rfl (by rw[zJ,h3]) rfl (aC _) (z3 (rB _) (by show (((lm out).length+1:Nat):Int)*4<=70368744177664;grind [zJ])) rfl ?_;cbv;refine j2 (.frz 42 rfl rfl ?_ ?_) rfl (by refine⟨zT ?_,trivial⟩;exact (yW (by grind)).trans (aP out c)) cm rfl ?_;{cbv;exact⟨yB (by grind),trivial⟩};{exact trivial};cbv;exact rA
def Bl (a b:List UInt32)(ha:a.length<2^40)(hb:b.length<2^40):zE 159 [nat a,nat b] (.tup [nat (zL (val a-val b)),iV (if val b<=val a then 0 else 2)]):=by
 refine sF Tryz.f159 ?_;have cc:=RO a b ha hb;have hcl:qZ (val a) (val b)<0↔val a<val b:=by grind [qZ]
 generalize qZ (val a) (val b)=C at *;have hlt:val a<val b->zL (val a-val b)=[]/\(if val b<=val a then (0:Int) else 2)=2:=λh=>⟨by rw[Nat.sub_eq_zero_of_le oM,yY],by omega⟩;have hge:val b<=val a->(if val b<=val a then (0:Int) else 2)=0:=λh=>if_pos h;generalize hW:zL (val a-val b)=W at *;generalize (if val b<=val a then (0:Int) else 2)=E at *;cbv;refine cA cc ?_;cbv;refine zH (λh=>?_) (λh=>?_)
 ·obtain⟨e1,e2⟩:=hlt (hcl.1 h);cbv
  (refine rC ?_;cbv)
  exact⟨xD (by rw[e1];rfl),zG (by rw[e2]),trivial⟩
 have hba:val b<=val a:=by omega
 have hE:=hge hba;cbv;refine zZ (σ:=Nat×Nat×List UInt32) (λs=>⟨[(0,nat a),(1,nat b),(6,zW 42 1 s.1),(7,.int .u64 (λ_=>(s.2.1:Int))),(8,iV s.1)],[(42,z5 1 (lm s.2.2))]⟩)
  (λs=>s.1<=a.length/\s.2.1<2/\s.2.2.length=s.1/\val s.2.2+val (b.take s.1)=val (a.take s.1)+B^s.1*s.2.1) (λs=>a.length-s.1)
  (0,0,[]) ⟨xK _,by grind,rfl,by simp[val]⟩ (.trans (.adoptT 42 1 6 rfl rfl) (.le ?_ ?_ rfl)) ?_
 {cbv;exact okA};{cbv;exact⟨zC rfl,trivial⟩};intro s hs;obtain⟨h1,h2,h3,h4⟩:=hs;generalize s.1=i at *;generalize s.2.1=c at *;generalize s.2.2=out at *;have ca:=HN a i ha;have cb:=HN b i hb;have hx:=yV (a.getD i 0);have hy:=yV (b.getD i 0);simp only[B] at hx hy;cbv;refine zH (λh5=>?_) (λh5=>?_)
 ·(have hi:i<a.length:=om;have hX:nx .u64 (((a.getD i 0).toNat:Nat):Int)=(((a.getD i 0).toNat:Nat):Int):=x9 oM;have hY:nx .u64 (nx .u64 (((b.getD i 0).toNat:Nat):Int)+(c:Int))=(((b.getD i 0).toNat+c:Nat):Int):=by grind [uR]);cbv
  refine xE rfl okA ca rfl ?_;cbv;refine xE rfl okA cb rfl ?_;cbv;refine zH (λh6=>?_) (λh6=>?_)
  ·(try dsimp only [z6] at *)
   (rw[hX,hY] at h6;have h6':(a.getD i 0).toNat<(b.getD i 0).toNat+c:=Int.ofNat_lt.1 h6;clear h6;have hZ:nx .u64 (nx .u64 (nx .u64 (((a.getD i 0).toNat:Nat):Int)+4294967296)-nx .u64 (nx .u64 (((b.getD i 0).toNat:Nat):Int)+(c:Int)))=(((a.getD i 0).toNat+4294967296-((b.getD i 0).toNat+c):Nat):Int):=by grind [uR]);cbv
   refine xY U0 rfl rfl rfl (by rw[zJ,h3]) rfl (aC _) (z3 (rB _) (by show (((lm out).length+1:Nat):Int)*4<=70368744177664;grind [zJ])) rfl ?_;cbv;refine⟨zF om om,(i+1,1,out++[UInt32.ofNat ((a.getD i 0).toNat+4294967296-((b.getD i 0).toNat+c))]),⟨hi,by grind,by simp[h3],?_⟩,by omega,.le ?_ ?_ rfl⟩
   ·(show val (out++[_])+val (b.take (i+1))=val (a.take (i+1))+B^(i+1)*1;rw[j5,h3,z9 a,z9 b,uL,kP (show (a.getD i 0).toNat+4294967296-((b.getD i 0).toNat+c)<B by grind [B])];generalize (a.getD i 0).toNat=x at *;generalize (b.getD i 0).toNat=y at *;generalize B^i=P at *;have e1:P*(x+4294967296-(y+c))+P*y+P*c=P*x+P*B*1:=by rw[<-kV,<-kV,gI,<-kV];congr 1;grind [B]);omega
   {cbv;exact⟨lR,lR,zR rfl (by show (lm out).length+1=i+1;rw[zJ,h3]),lR,zG om,trivial⟩}
   ·cbv;refine⟨zC ?_,trivial⟩
    (try dsimp only [z6] at *)
    rw[hZ];exact aP out _
  ·(try dsimp only [z6] at *)
   (rw[hX,hY] at h6;have h6':(b.getD i 0).toNat+c<=(a.getD i 0).toNat:=Nat.not_lt.1 (λe=>h6 (Int.ofNat_lt.2 e));clear h6;have hZ:nx .u64 (nx .u64 (((a.getD i 0).toNat:Nat):Int)-nx .u64 (nx .u64 (((b.getD i 0).toNat:Nat):Int)+(c:Int)))=(((a.getD i 0).toNat-((b.getD i 0).toNat+c):Nat):Int):=by grind [uR]);cbv
   refine xY U0 rfl rfl rfl (by rw[zJ,h3]) rfl (aC _) (z3 (rB _) (by show (((lm out).length+1:Nat):Int)*4<=70368744177664;grind [zJ])) rfl ?_;cbv;refine⟨zF om om,(i+1,0,out++[UInt32.ofNat ((a.getD i 0).toNat-((b.getD i 0).toNat+c))]),⟨hi,by grind,by simp[h3],?_⟩,by omega,.le ?_ ?_ rfl⟩
   ·(show val (out++[_])+val (b.take (i+1))=val (a.take (i+1))+B^(i+1)*0;rw[j5,h3,z9 a,z9 b,uL,kP (show (a.getD i 0).toNat-((b.getD i 0).toNat+c)<B by grind [B])];generalize (a.getD i 0).toNat=x at *;generalize (b.getD i 0).toNat=y at *;generalize B^i=P at *;have e1:P*(x-(y+c))+P*y+P*c=P*x+P*B*0:=by rw[<-kV,<-kV,gI,<-kV];grind);omega
   {cbv;exact⟨lR,lR,zR rfl (by show (lm out).length+1=i+1;rw[zJ,h3]),lR,zG om,trivial⟩}
   ·cbv;refine⟨zC ?_,trivial⟩
    (try dsimp only [z6] at *)
    rw[hZ];exact aP out _
 ·have hi:i=a.length:=om;have hbt:val (b.take a.length)=val b:=by have e1:=sC b a.length;have e2:=x8 a;rcases mD (val (b.drop a.length)) with e3|e3;{grind};{have:=wL (B^a.length) e3;omega}
  (rw[hi,yW (yX _),hbt] at h4;have hc0:c=0:=by grind [x8]);have cm:=iY out oM
  (have hv:val out=val a-val b:=by grind);rw[hv,hW] at cm
  cbv;refine j2 (.frz 42 rfl rfl ?_ ?_) rfl (by refine⟨zT ?_,trivial⟩;exact yW (by show ((lm out).drop 0).length<=i;rw[v5,zJ];omega)) cm rfl ?_;{cbv;exact⟨yB (by grind [zJ]),yB (by grind [zJ]),trivial⟩};{exact trivial};cbv
  (refine rC ?_;cbv)
  exact⟨lR,zG (by rw[hE]),trivial⟩
end Go.Proofs.YtboocdbmnfjomaaGreat
