/- A part of the proof: RqA, RqB, ReA, ReB. -/
import Derived.Test.YtaeaffgjdcigoaaGreatD17
set_option linter.all false
namespace Go.Proofs.YtaeaffgjdcigoaaGreat
open Go
set_option maxRecDepth 100000
abbrev rv (x:R):PV:=.agg [bV x.neg,nat x.num,nat x.den]
structure R.sz (x:R) (k:Nat):Prop where
 n:x.num.length<=k
 d:x.den.length<=k
theorem zU {k:Nat}{q:Rat}(h:Fits k q):(zI q).sz k:=⟨h.lnum,h.lden⟩
theorem R.sz.fits {k:Nat}{x:R}(h:x.sz k)(hk:1<=k):Fits k x.q:=Py h.n h.d hk
theorem R.sz.mono {k m:Nat}{x:R}(h:x.sz k)(hm:k<=m):x.sz m:=⟨vI h.n hm,vI h.d hm⟩
def wO (d:List UInt32):List UInt32:=if val d=0 then [1] else d
def jC (x:R):val (wO x.den)=x.d:=by unfold wO R.d;split;{rfl};{rfl}
def gF (d:List UInt32):(wO d).length<=d.length+1:=by grind [wO]
def Zt:zJ 1=[1]:=by rw[b8 (by decide)];rw[show 1/B=0 by decide,y6];rfl
def fG {n:Nat}:zJ n=[1]↔n=1:=by constructor;{intro h;have:=zP n;rw[h] at this;exact this.symm};{intro h;rw[h,Zt]}
def TX:zD 269 [] (nat [1]):=by
 refine sF Tryz.f269 ?_;cbv
 (refine rC ?_;cbv)
 exact zR rfl
def RI (l:List UInt32)(hl:l.length<2^40):zD 284 [nat l] (bV (decide (l=[1]))):=by
 refine sF Tryz.f284 ?_;generalize hd:decide (l=[1])=d;cbv;refine zO (λh=>?_) (λh=>?_)
 ·have h1:l.length=1:=om;cbv;refine xF 0 rfl oM ?_;cbv
  (refine rC ?_;cbv)
  refine zX ?_;rw[<-hd,decide_eq_decide]
  match l,h1 with
  |[x],_ =>
   have e1:[x].getD 0 0=x:=rfl;rw[e1];constructor;{intro h2;have:x=1:=o6.1 (by show x.toNat=1;exact om);rw[this]};{intro h2;rw[List.cons.inj h2 |>.1];rfl}
 ·cbv
  (refine rC ?_;cbv)
  refine zK ?_;rw[<-hd];exact decide_eq_false λe=>h (by rw[e];rfl)
def Jl (x:R)(hx:x.den.length<2^40):zD 264 [rv x] (nat (wO x.den)):=by
 refine sF Tryz.f264 ?_;obtain⟨neg,num,den⟩:=x;have h0:((jY (val den):Nat):Int)=0↔val den=0:=by grind [nW]
 have hs:=TZ den hx;have e1:val den=0->wO den=[1]:=λh=>if_pos h;have e2:val den≠0->wO den=den:=λh=>if_neg h;show wp _ _ (dC _ (nat (wO den)) [] []);generalize wO den=u at *;generalize jY (val den)=b at h0 hs;cbv;refine cA hs ?_;cbv;refine zE (λh=>?_) (λh=>?_)
 ·cbv;refine cA TX ?_;cbv
  (refine rC ?_;cbv)
  exact zR (by grind)
 ·cbv
  (refine rC ?_;cbv)
  exact zR (by grind)
def B9 (neg:Bool)(num den:List UInt32)(hn:num.length<2^38)(hd:den.length<2^38)(h0:val den≠0):zD 263 [bV neg,nat num,nat den] (rv (zI (mkRat (sgn neg (val num)) (val den)))):=by
 refine sF Tryz.f263 ?_;rw[Zm h0];have hnl:=zZ num;have hdl:=zZ den;have hg0:Nat.gcd (val num) (val den)≠0:=λe=>h0 (Nat.eq_zero_of_gcd_eq_zero_right e);have cg:=N3 (zJ (val num)) (zJ (val den)) oM oM;have cn:=B5 (zJ (val num)) (zJ (Nat.gcd (val num) (val den))) oM (xL (qY (Nat.le_of_dvd (rQ h0) (Qg _ _))) oM) (by grind [zP]);have cd:=B5 (zJ (val den)) (zJ (Nat.gcd (val num) (val den))) oM (xL (qY (Nat.le_of_dvd (rQ h0) (Qg _ _))) oM) (by grind [zP]);have cu:=RI (zJ (Nat.gcd (val num) (val den))) (xL (qY (Nat.le_of_dvd (rQ h0) (Qg _ _))) oM);have cf:=RI (zJ (val den/Nat.gcd (val num) (val den))) (xL (qY (mS _ _)) oM);have cd1:=RI (zJ (val den)) oM;have cm1:=F9 num oM;have cm2:=F9 den oM;rw[zP,zP] at cg cn cd;have hN:∀ n,((lm (zJ n)).length:Int)=0↔n=0:=λn=>by grind [zH,x6,List.length_eq_zero_iff]
 have hge1:Nat.gcd (val num) (val den)=1->val num/Nat.gcd (val num) (val den)=val num/\val den/Nat.gcd (val num) (val den)=val den:=λe=>by grind
 have hz:val num=0->val num/Nat.gcd (val num) (val den)=0/\val den/Nat.gcd (val num) (val den)=1:=λe=>by rw[e,Nat.gcd_zero_left,Nat.zero_div,Nat.div_self (rQ h0)];omega
 have hd1:val den=1->Nat.gcd (val num) (val den)=1:=λe=>by simp_all
 generalize val den/Nat.gcd (val num) (val den)=D' at *;generalize val num/Nat.gcd (val num) (val den)=N' at *;generalize Nat.gcd (val num) (val den)=g at *;generalize val num=N at *;generalize val den=Dn at *;show wp _ _ (dC _ (.agg [bV (neg&&decide (N≠0)),nat (zJ N'),nat (if D'=1 then [] else zJ D')]) [] []);generalize hr1:(neg&&decide (N≠0))=r1;generalize hr2:(if D'=1 then [] else zJ D')=r2;cbv;refine cA cm1 ?_;cbv;refine zE (λh=>?_) (λh=>?_)
 ·have e:=(hN N).1 h;obtain⟨e1,e2⟩:=hz e;cbv
  (refine rC ?_;cbv)
  refine⟨zK ?_,yQ ?_,yQ ?_,trivial⟩;{grind};{simp_all};{rw[<-hr2,if_pos e2];rfl}
 ·(have e:=λe=>h ((hN N).2 e);have hr1':neg=r1:=by grind);cbv
  refine cA cm2 ?_;cbv;refine cA cd1 ?_;cbv;refine zE (λh2=>?_) (λh2=>?_)
  ·have e1:=fG.1 h2;have e3:=hd1 e1;obtain⟨e4,e5⟩:=hge1 e3;cbv
   (refine rC ?_;cbv)
   refine⟨zX hr1',zR (by rw[e4]),yQ ?_,trivial⟩;rw[<-hr2,if_pos oM];rfl
  ·cbv;refine cA cg ?_;cbv;refine cA cu ?_;cbv;refine fM (σ:=Unit) (λ_=>⟨[(0,bV neg),(1,nat (zJ N')),(2,nat (zJ D')),(6,.ptr 6 0)],[(6,.box [.ff,.nil,.nil])]⟩) (λ_=>True) (λh3=>?_) (λh3=>?_) ?_;{have e3:=fG.1 h3;obtain⟨e4,e5⟩:=hge1 e3;cbv;refine⟨(),trivial,.le ?_ ?_ rfl⟩;{cbv;exact⟨lR,zR (by rw[e4]),zR (by rw[e5]),lR,trivial⟩};{cbv;exact okA}};{cbv;refine cA cn ?_;cbv;refine cA cd ?_;cbv;refine⟨(),trivial,.le ?_ ?_ rfl⟩;{cbv;exact okA};{cbv;exact okA}};intro _ _;cbv;refine cA cf ?_;cbv;refine zE (λh3=>?_) (λh3=>?_)
   ·cbv
    (refine rC ?_;cbv)
    exact⟨zX hr1',lR,yQ (by rw[<-hr2,if_pos (fG.1 h3)];rfl),trivial⟩
   ·cbv
    (refine rC ?_;cbv)
    exact⟨zX hr1',lR,zR (by rw[<-hr2,if_neg (λe=>h3 (fG.2 e))]),trivial⟩
def Ab (x:R)(hx:x.sz (2^36)):zD 224 [rv x] (rv (zI x.q)):=by refine sF Tryz.f224 ?_;have h1:=hx.n;have h2:=hx.d;have h3:=gF x.den;have cu:=Jl x oM;have cq:=B9 x.neg x.num (wO x.den) oM oM (by rw[jC];exact x.d_ne);rw[jC] at cq;have e:mkRat (sgn x.neg (val x.num)) x.d=x.q:=rfl;rw[e] at cq;generalize zI x.q=W at *;generalize wO x.den=u at *;obtain⟨neg,num,den⟩:=x;cbv;refine zL 7 (by cbv) ?_;cbv;refine dA cu ?_;cbv;refine dA cq ?_;cbv;exact rA
def Pj (x:R):x.ok=true↔(x.neg=(zI x.q).neg/\x.num.length=(zI x.q).num.length/\x.den.length=(zI x.q).den.length/\qI (val x.num) (val (zI x.q).num)=0/\qI (val x.den) (val (zI x.q).den)=0):=by
 have hc:∀ a b,qI a b=0↔a=b:=λa b=>by grind [qI]
 simp only[R.ok,decide_eq_true_eq,hc];constructor;{grind};{rintro⟨h1,h2,h3,h4,h5⟩;have e1:=Yh h2 h4;have e2:=Yh h3 h5;generalize zI x.q=y at *;obtain⟨a,b,c⟩:=x;simp_all}
def Pi (neg:Bool)(num:List UInt32):R.ok ⟨neg,num,[]⟩=(cJ num&&(!neg || decide (0<num.length))):=by
 have hq:R.q ⟨neg,num,[]⟩=mkRat (sgn neg (val num)) 1:=rfl;have hp:=Zm (neg:=neg) (n:=val num) (d:=1) (by decide);rw[s7];simp only[R.ok,decide_eq_true_eq,hq,hp,Nat.gcd_one_right,Nat.div_one,if_true,R.mk.injEq,and_true,yZ,Fr,Ws];have hlen:0<num.length↔num≠[]:=by grind
 constructor
 ·(rintro⟨h1,h2⟩;have hcn:cJ num=true:=by rw[h2];exact s6 _);refine⟨hcn,?_⟩
  cases neg with
  |false=>grind| true =>
   grind [val]
 ·rintro⟨h1,h2⟩;refine⟨?_,(nN h1).symm⟩;cases neg with
  |false=>rfl| true =>
   grind [VW]
def Jo (x:R)(hx:x.sz (2^36)):zD 184 [rv x] (bV x.ok):=by
 refine sF Tryz.f184 ?_;have h1:=hx.n;have h2:=hx.d;have hok:=Pj x;have hnil:x.den.length=0->x.ok=(cJ x.num&&(!x.neg || decide (0<x.num.length))):=by intro h;obtain⟨a,b,c⟩:=x;have:c=[]:=jO h;subst this;exact Pi a b
 have cc:=Ab x hx;have cv:=Lc x.num oM;have hf:Fits (2^36) x.q:=hx.fits (by decide);have hl1:=hf.lnum;have hl2:=hf.lden;have cm1:=Jm x.num (zI x.q).num oM oM;have cm2:=Jm x.den (zI x.q).den oM oM;generalize hO:x.ok=O at *;generalize zI x.q=W at *;clear hf;obtain⟨neg,num,den⟩:=x;obtain⟨neg',num',den'⟩:=W;simp only at *;generalize qI (val num) (val num')=c1 at *;generalize qI (val den) (val den')=c2 at *;cbv;refine zE (λh=>?_) (λh=>?_)
 ·have e:=hnil om;cbv;refine cA cv ?_;generalize cJ num=cn at *;cbv;refine yA (λh3=>?_) (λh3=>?_)
  ·subst h3;cbv;refine yA (λh4=>?_) (λh4=>?_)
   ·subst h4;cbv
    (refine rC ?_;cbv)
    exact zX (by rw[e];simp[zH])
   ·subst h4;cbv
    (refine rC ?_;cbv)
    exact yJ (by grind)
  ·subst h3;cbv
   (refine rC ?_;cbv)
   exact zK (by grind)
 ·(cbv;refine cA cc ?_;cbv;have hno:∀ P:Prop,¬P->(O=true->P)->O=false:=λP h h'=>by grind);refine zO (λh3=>?_) (λh3=>?_)
  ·cbv;refine zO (λh4=>?_) (λh4=>?_)
   ·cbv;refine zO (λh5=>?_) (λh5=>?_)
    ·cbv;refine cA cm1 ?_;cbv;refine zO (λh6=>?_) (λh6=>?_)
     ·cbv;refine cA cm2 ?_;cbv
      (refine rC ?_;cbv)
      refine zX ?_;rw[s7,hok,decide_eq_true_eq]
      (try dsimp only [zV] at *)
      grind [zH]
     ·cbv
      (refine rC ?_;cbv)
      exact zK (hno _ h6 λh7=>(hok.1 h7).2.2.2.1)
    ·cbv
     (refine rC ?_;cbv)
     refine zK (hno _ h5 λh7=>?_);have:=(hok.1 h7).2.2.1
     (try dsimp only [zV] at *)
     grind [zH]
   ·cbv
    (refine rC ?_;cbv)
    refine zK (hno _ h4 λh7=>?_);have:=(hok.1 h7).2.1
    (try dsimp only [zV] at *)
    grind [zH]
  ·cbv
   (refine rC ?_;cbv)
   exact zK (hno _ h3 λh7=>(hok.1 h7).1)
def Lb (x:Z)(hx:x.mag.length<2^38):zD 227 [zv x] (rv (zI (x.v:Rat))):=by
 refine sF Tryz.f227 ?_;have cq:=B9 x.neg x.mag [1] hx (by simp) (by decide);have e:mkRat (sgn x.neg (val x.mag)) (val [1])=(x.v:Rat):=by have:=Rat.mkRat_self (x.v:Rat);rw[Rat.num_intCast,Rat.den_intCast] at this;exact this
 rw[e] at cq;generalize zI (x.v:Rat)=W at *;obtain⟨neg,mag⟩:=x;cbv;refine zL 6 (by cbv) ?_;cbv;refine dA TX ?_;cbv;refine dA cq ?_;cbv;exact rA
def XF (x:Int)(h1:-9223372036854775808<=x)(h2:x<9223372036854775808):(xY x).mag.length<=2:=by refine yG ?_;grind [B]
def Dd (x:Int)(h1:-9223372036854775808<=x)(h2:x<9223372036854775808):zD 187 [iV x] (rv (zI (x:Rat))):=by refine sF Tryz.f187 ?_;have c1:=La x h1 h2;have hl:=XF x h1 h2;have c2:=Lb (xY x) oM;rw[fZ] at c2;generalize zI (x:Rat)=W at *;generalize xY x=y at *;cbv;refine cA c1 ?_;cbv;refine cA c2 ?_;cbv;exact rA
def RQ (x:R)(hx:x.num.length<2^40):zD 233 [rv x] (zv (xY x.n)):=by refine sF Tryz.f233 ?_;have c1:=Da x.neg x.num hx;have e:sgn x.neg (val x.num)=x.n:=rfl;rw[e] at c1;generalize xY x.n=W at *;obtain⟨neg,num,den⟩:=x;cbv;refine cA c1 ?_;cbv;exact rA
def DN (x:R):(xY x.n).mag.length<=x.num.length:=by refine yG ?_;rw[R.n,uZ];exact xV _
def s86 (x:R)(hx:x.num.length<2^40):zD 189 [rv x] (iV (yB x.q)):=by refine sF Tryz.f189 ?_;have c1:=RQ x hx;have hl:=DN x;have c2:=RS (xY x.n) oM;rw[fZ,<-FO] at c2;generalize yB x.q=s at *;generalize xY x.n=W at *;obtain⟨neg,num,den⟩:=x;cbv;refine cA c1 ?_;cbv;refine cA c2 ?_;cbv;exact rA
def T6 (x y:R)(hx:x.sz (2^34))(hy:y.sz (2^34)):zD 243 [rv x,rv y] (.tup [zv (xY (x.n*y.d)),zv (xY (y.n*x.d))]):=by
 refine sF Tryz.f243 ?_;have h1:=hx.n;have h2:=hx.d;have h3:=hy.n;have h4:=hy.d;have h5:=gF x.den;have h6:=gF y.den;have h7:=DN x;have h8:=DN y;have cux:=Jl x oM;have cuy:=Jl y oM;have csx:=RQ x oM;have csy:=RQ y oM;have cm1:=TW (xY x.n) ⟨false,wO y.den⟩ oM (show (wO y.den).length<_ by omega);have cm2:=TW (xY y.n) ⟨false,wO x.den⟩ oM (show (wO x.den).length<_ by omega);have e1:Z.v ⟨false,wO y.den⟩=(y.d:Int):=by rw[<-jC];rfl
 have e2:Z.v ⟨false,wO x.den⟩=(x.d:Int):=by rw[<-jC];rfl
 rw[fZ,e1] at cm1;rw[fZ,e2] at cm2;generalize xY (x.n*(y.d:Int))=W1 at *;generalize xY (y.n*(x.d:Int))=W2 at *;generalize xY x.n=X at *;generalize xY y.n=Y at *;generalize wO x.den=ux at *;generalize wO y.den=uy at *;obtain⟨a,b,c⟩:=x;obtain⟨a',b',c'⟩:=y;cbv;refine zL 4 (by cbv) ?_;cbv;refine dA cux ?_;cbv;refine dA cuy ?_;cbv;refine zL 10 (by cbv) ?_;cbv;refine dA csx ?_;cbv;refine dA cm1 ?_;cbv;refine dA csy ?_;cbv;refine dA cm2 ?_;cbv;exact rA
def nS (x y:R)(hx:x.sz (2^34))(hy:y.sz (2^34)):(xY (x.n*(y.d:Int))).mag.length<=2^36:=by have h1:=hx.n;have h4:=hy.d;have h6:=gF y.den;refine vI (yG (k:=x.num.length+(wO y.den).length) ?_) oM;rw[iP,R.n,uZ,ZJ,<-jC];exact xX (xV _) (xV _)
def N9 (x y:R)(hx:x.sz (2^34))(hy:y.sz (2^34)):zD 194 [rv x,rv y] (iV (uM x.q y.q)):=by
 refine sF Tryz.f194 ?_;have h1:=hx.n;have h3:=hy.n;have h5:=nS x y hx hy;have h6:=nS y x hy hx;have cx:=s86 x oM;have cy:=s86 y oM;have cc:=T6 x y hx hy;have ci:=N5 _ _ (xL h5 oM) (xL h6 oM);rw[fZ,fZ,<-PQ] at ci;have k1:yB x.q<yB y.q->uM x.q y.q=-1:=by grind [yB,uM]
 have k2:yB y.q<yB x.q->uM x.q y.q=1:=by grind [yB,uM]
 generalize uM x.q y.q=C at *;generalize yB x.q=s at *;generalize yB y.q=t at *;generalize xY (x.n*(y.d:Int))=W1 at *;generalize xY (y.n*(x.d:Int))=W2 at *;obtain⟨a,b,c⟩:=x;obtain⟨a',b',c'⟩:=y;obtain⟨p1,p2⟩:=W1;obtain⟨q1,q2⟩:=W2;cbv;refine zL 4 (by cbv) ?_;cbv;refine dA cx ?_;cbv;refine dA cy ?_;cbv;refine zE (λh=>?_) (λh=>?_);{cbv;refine cA cc ?_;cbv;refine cA ci ?_;cbv;exact rA}
 ·cbv;refine zE (λh'=>?_) (λh'=>?_)
  ·cbv
   (refine rC ?_;cbv)
   exact zB (k1 h').symm
  ·cbv
   (refine rC ?_;cbv)
   exact zB (k2 oM).symm
def RT (x y:R)(hx:x.sz (2^34))(hy:y.sz (2^34)):zD 266 [rv x,rv y] (rv (zI (x.q+y.q))):=by
 refine sF Tryz.f266 ?_;have h1:=hx.n;have h2:=hx.d;have h3:=hy.n;have h4:=hy.d;have h5:=nS x y hx hy;have h6:=nS y x hy hx;have h7:=gF x.den;have h8:=gF y.den;have cc:=T6 x y hx hy;have ca:=N7 _ _ (xL h5 oM) (xL h6 oM);rw[fZ,fZ] at ca;have cux:=Jl x oM;have cuy:=Jl y oM;have cm:=B8 (wO x.den) (wO y.den) oM oM;have hml:=fH (wO x.den) (wO y.den);rw[jC,jC] at cm hml;have hsl:(xY (x.n*(y.d:Int)+y.n*(x.d:Int))).mag.length<2^38:=by
  (obtain⟨k,hk⟩:∃ k,k=68719476736:=⟨_,rfl⟩;have h5':(xY (x.n*(y.d:Int))).mag.length<=k:=by omega);have h6':(xY (y.n*(x.d:Int))).mag.length<=k:=by omega
  (have e1:(x.n*(y.d:Int)).natAbs<B^k:=by have:=xV (xY (x.n*(y.d:Int))).mag;rw[show val (xY (x.n*(y.d:Int))).mag=(x.n*(y.d:Int)).natAbs from zP _] at this;exact uP this (fY wY h5'));have e2:(y.n*(x.d:Int)).natAbs<B^k:=by have:=xV (xY (y.n*(x.d:Int))).mag;rw[show val (xY (y.n*(x.d:Int))).mag=(y.n*(x.d:Int)).natAbs from zP _] at this;exact uP this (fY wY h6')
  have e3:=Int.natAbs_add_le (x.n*(y.d:Int)) (y.n*(x.d:Int));have e4:B^k*2<=B^k*B:=vS _ (by decide);have e5:(zJ (x.n*(y.d:Int)+y.n*(x.d:Int)).natAbs).length<=k+1:=yG (by rw[uH B k];omega);show (zJ (x.n*(y.d:Int)+y.n*(x.d:Int)).natAbs).length<2^38;omega
 have cq:=B9 (xY (x.n*(y.d:Int)+y.n*(x.d:Int))).neg (xY (x.n*(y.d:Int)+y.n*(x.d:Int))).mag (zJ (x.d*y.d)) hsl oM (by rw[zP];exact Wx x.d_ne y.d_ne);have e6:sgn (xY (x.n*(y.d:Int)+y.n*(x.d:Int))).neg (val (xY (x.n*(y.d:Int)+y.n*(x.d:Int))).mag)=x.n*(y.d:Int)+y.n*(x.d:Int):=fZ _;rw[e6,zP,<-Dw] at cq;clear e6 hsl hml h5 h6;generalize zI (x.q+y.q)=W at *;generalize zJ (x.d*y.d)=M at *;generalize xY (x.n*(y.d:Int)+y.n*(x.d:Int))=S at *;generalize xY (x.n*(y.d:Int))=W1 at *;generalize xY (y.n*(x.d:Int))=W2 at *;generalize wO x.den=ux at *;generalize wO y.den=uy at *;obtain⟨a,b,c⟩:=x;obtain⟨a',b',c'⟩:=y;obtain⟨p1,p2⟩:=W1;obtain⟨q1,q2⟩:=W2;obtain⟨s1,s2⟩:=S;cbv;refine cA cc ?_;cbv;refine cA ca ?_;cbv;refine zL 10 (by cbv) ?_;cbv;refine dA cux ?_;cbv;refine dA cuy ?_;cbv;refine dA cm ?_;cbv;refine dA cq ?_;cbv;exact rA
def N8 (x y:R)(hx:x.sz (2^34))(hy:y.sz (2^34)):zD 297 [rv x,rv y] (rv (zI (x.q-y.q))):=by refine sF Tryz.f297 ?_;have ca:=RT x ⟨!y.neg,y.num,y.den⟩ hx ⟨hy.n,hy.d⟩;rw[Du,<-Rat.sub_eq_add_neg] at ca;generalize zI (x.q-y.q)=W at *;obtain⟨a,b,c⟩:=x;obtain⟨a',b',c'⟩:=y;generalize hna:(!a')=na at *;cbv;refine yP rfl (by exact⟨okA,⟨vF hna.symm,lR,lR,trivial⟩,trivial⟩) ca rfl ?_;cbv;exact rA
def T5 (x y:R)(hx:x.sz (2^34))(hy:y.sz (2^34)):zD 267 [rv x,rv y] (rv (zI (x.q*y.q))):=by
 refine sF Tryz.f267 ?_;have h1:=hx.n;have h2:=hx.d;have h3:=hy.n;have h4:=hy.d;have h7:=gF x.den;have h8:=gF y.den;have cux:=Jl x oM;have cuy:=Jl y oM;have cm:=B8 (wO x.den) (wO y.den) oM oM;have hml:=fH (wO x.den) (wO y.den);rw[jC,jC] at cm hml;have cn:=B8 x.num y.num oM oM;have hnl:=fH x.num y.num;have cq:=B9 (x.neg != y.neg) (zJ (val x.num*val y.num)) (zJ (x.d*y.d)) oM oM (by rw[zP];exact Wx x.d_ne y.d_ne);rw[zP,zP,<-V8] at cq;have e:mkRat (sgn x.neg (val x.num)*sgn y.neg (val y.num)) (x.d*y.d)=x.q*y.q:=(Sc x y).symm;rw[e] at cq;have hb:(x.neg != y.neg)=!decide (x.neg=y.neg):=by grind
 clear hml hnl e;generalize zI (x.q*y.q)=W at *;generalize zJ (x.d*y.d)=M at *;generalize zJ (val x.num*val y.num)=P at *;generalize wO x.den=ux at *;generalize wO y.den=uy at *;obtain⟨a,b,c⟩:=x;obtain⟨a',b',c'⟩:=y;simp only at *;generalize (a != a')=nb at *;cbv;refine zL 16 (by cbv) ?_;cbv;refine dA cn ?_;cbv;refine dA cux ?_;cbv;refine dA cuy ?_;cbv;refine dA cm ?_;cbv;refine x7 (by exact⟨vF hb,lR,lR,trivial⟩) cq rfl ?_;cbv;exact rA
def V3:ty 31=.sli 1 4 [.int .u32 (λ_=>0)]:=by cbv
def lB (l:List UInt32)(k:Nat):val (l.drop k)=(l.getD k 0).toNat+B*val (l.drop (k+1)):=by rcases jN k l.length with h|h;{exact kG h};{rw[Wi h,Wi oM];simp[pQ h,val]}
def b9 (l:List UInt32)(m:Nat):val l=val (l.take m)+B^m*val (l.drop m):=by rcases jN m l.length with h|h;{exact iW m oM};{rw[Wi h,yW h];simp[val]}
def Xz {a b:List UInt32}{m:Nat}(h:val (a.drop m)<val (b.drop m)):val a<val b:=by rw[b9 a m,b9 b m];have h1:=wU a m;have h2:=vS (B^m) (show val (a.drop m)+1<=val (b.drop m) from h);grind
def Jn (a:List UInt32)(i:Nat)(ha:a.length<2^40):zD 127 [nat a,iV i] (.int .u32 (λ_=>((a.getD i 0).toNat:Int))):=by
 refine sF Tryz.f127 ?_;generalize hx:a.getD i 0=x;cbv;refine zE (λh=>?_) (λh=>?_);{cbv;refine xF i (by (grind) <;> (try simp only[zH] at *) <;> omega) om ?_;rw[hx];cbv;exact rA}
 ·cbv
  (refine rC ?_;cbv)
  refine zB ?_;have:a.length<=i:=om;rw[<-hx];simp[pQ this]
def lU (l:List UInt32)(hl:l.length<2^41):zD 128 [nat l] (nat (zJ (val l))):=by
 refine sF Tryz.f128 ?_;have fin:∀ n,n<=l.length->val (l.take n)=val l->(n=0\/∃ m,n=m+1/\l.getD m 0≠0)->l.take n=zJ (val l):=by intro n hn hv h;rcases h with rfl|⟨m,rfl,h⟩;{rw[<-hv];simp[val,y6]};grind [nN,bU,iL]
 generalize hW:zJ (val l)=W at *;cbv;refine zW (σ:=Nat) (λn=>⟨[(0,nat l),(2,.nil),(3,iV n)],[]⟩) (λn=>n<=l.length/\val (l.take n)=val l) (λn=>n) l.length ⟨yC _,by simp⟩ (.le ?_ trivial rfl) ?_;{cbv;exact⟨lR,lR,zB (by simp[zH]),trivial⟩};intro n hn;have done:(n=0\/∃ m,n=m+1/\l.getD m 0≠0)->((lm l).take ((n:Int)).toNat).drop (Int.toNat 0)=lm W:=λh=>by grind [HV]
 have hwl:W.length<=l.length:=by rw[<-hW];exact zZ l
 cbv;refine zO (λh=>?_) (λh=>?_)
 ·(try dsimp only [zV] at *)
  obtain⟨m,rfl⟩:∃ m,n=m+1:=⟨n-1,by omega⟩;cbv;refine⟨zC om om,xF m om om ?_⟩;cbv;refine zE (λh2=>?_) (λh2=>?_)
  ·cbv;refine⟨zC om om,m,⟨om,?_⟩,om,.le ?_ trivial rfl⟩
   ·(have e:l.getD m 0=0:=by have:(l.getD m 0).toNat=0:=om;exact o6.1 this);grind [bU,WX]
   {cbv;exact⟨lR,lR,zB om,trivial⟩}
  ·(have e:l.getD m 0≠0:=λe=>by (try dsimp only [zV] at *);simp_all);have hd:=done (.inr ⟨m,rfl,e⟩)
   cbv;refine⟨vX (Int.le_refl _) om om,l9 l,?_⟩
   (try dsimp only [zV] at *)
   rw[hd];refine wE Rd rfl rfl rfl rfl rfl (l9 W) (z6 om (by simp only[tM];(try dsimp only [zV] at *) <;> (try simp only[zH] at *) <;> omega)) rfl ?_;cbv;refine R7 (.frz 22 rfl rfl ?_ ?_) rfl ?_ rfl;{cbv;exact⟨z5 (by simp),z5 (by simp),trivial⟩};{exact trivial};{exact zR (by simp)}
 ·have h0:n=0:=om;have hd:=done (.inl h0);cbv;refine⟨vX (Int.le_refl _) om om,l9 l,?_⟩
  (try dsimp only [zV] at *)
  rw[hd];refine wE Rd rfl rfl rfl rfl rfl (l9 W) (z6 om (by simp only[tM];(try dsimp only [zV] at *) <;> (try simp only[zH] at *) <;> omega)) rfl ?_;cbv;refine R7 (.frz 22 rfl rfl ?_ ?_) rfl ?_ rfl;{cbv;exact⟨z5 (by simp),z5 (by simp),trivial⟩};{exact trivial};{exact zR (by simp)}
def RO (x:Nat)(hx:x<B*B):zD 134 [.int .u64 (λ_=>(x:Int))] (nat (zJ x)):=by
 refine sF Tryz.f134 ?_;have h2:x/B<B:=Nat.div_lt_of_lt_mul hx;have hv:val [UInt32.ofNat (x%B),UInt32.ofNat (x/B)]=x:=by simp only[val,bY];rw[UInt32.toNat_ofNat',qP (show x/B<2^32 from h2),Nat.mul_zero,WV];exact Wn x B
 have c1:=lU [UInt32.ofNat (x%B),UInt32.ofNat (x/B)] (by simp);rw[hv] at c1;have he:([[.int .u32 (nx .u32 (x:Int))],[.int .u32 (nx .u32 (ishr .u64 (x:Int) 32))]]:List (List D))=lm [UInt32.ofNat (x%B),UInt32.ofNat (x/B)]:=by rw[aW];simp only[lm,jP,Wo,bY,xU,qP h2,j9,B] at *;grind
 generalize zJ x=W at *;cbv;refine⟨vZ oM,?_⟩;refine yP rfl (by exact⟨zR he,trivial⟩) c1 rfl ?_;cbv;exact rA
def TY (l:List UInt32)(hl:l.length<2^40):zD 181 [nat l] (.tup [.int .u64 (λ_=>((if val l<B*B then val l else 0:Nat):Int)),bV (decide (val l<B*B))]):=by
 refine sF Tryz.f181 ?_;have hl':=xL (zZ l) hl;have c1:=lU l oM;have hv:=zP (val l);have h2:=@JK (val l);generalize zJ (val l)=p at *;generalize hr:(if val l<B*B then val l else 0:Nat)=r;generalize hb:decide (val l<B*B)=b;generalize val l=v at *;have hin:p.length<=2->r=val p/\b=true:=λh=>by grind
 cbv;refine cA c1 ?_;cbv;refine zE (λh=>?_) (λh=>?_)
 ·have h0:p.length=0:=om;obtain⟨e1,e2⟩:=hin oM;cbv
  (refine rC ?_;cbv)
  refine⟨zB ?_,yJ e2,trivial⟩;rw[e1,jO h0];rfl
 ·cbv;refine zE (λh3=>?_) (λh3=>?_)
  ·have h0:p.length=1:=om;obtain⟨e1,e2⟩:=hin oM;cbv;refine xF 0 rfl oM ?_;cbv
   (refine rC ?_;cbv)
   refine⟨zB ?_,yJ e2,trivial⟩;rw[e1]
   match p,h0 with
   |[x],_ =>
    have:=yN x;show nx .u64 ((x.toNat:Nat):Int)=((x.toNat+B*0:Nat):Int);grind [xW,B]
  ·cbv;refine zE (λh4=>?_) (λh4=>?_)
   ·have h0:p.length=2:=om;obtain⟨e1,e2⟩:=hin oM;cbv;refine zL 10 (by cbv) ?_;cbv;refine xF 0 rfl oM ?_;cbv;refine xF 1 rfl oM ?_;cbv;refine⟨vZ oM,?_⟩
    (refine rC ?_;cbv)
    refine⟨zB ?_,yJ e2,trivial⟩;rw[e1]
    match p,h0 with
    |[x,y],_ =>
     have h5:=yN x;have h6:=yN y;show ior .u64 (nx .u64 ((x.toNat:Nat):Int)) (ishl .u64 (nx .u64 ((y.toNat:Nat):Int)) 32)=((x.toNat+B*(y.toNat+B*0):Nat):Int);grind [xW,B,or2]
   ·have h0:¬p.length<=2:=om;have h5:¬v<B*B:=λe=>h0 (h2.2 e);cbv
    (refine rC ?_;cbv)
    exact⟨zB (by grind),zK (by grind),trivial⟩
def B7 (a b:List UInt32)(ha:a.length<2^40)(hb:b.length<2^40):zD 180 [nat a,nat b] (iV (qI (val a) (val b))):=by
 refine sF Tryz.f180 ?_;have hlt:val a<val b->qI (val a) (val b)=-1:=Ys;have hgt:val b<val a->qI (val a) (val b)=1:=Yt;have heq:val a=val b->qI (val a) (val b)=0:=λh=>by rw[h,U5]
 generalize hC:qI (val a) (val b)=C at *;have hmax:imax ((lm a).length:Int) ((lm b).length:Int)=((max a.length b.length:Nat):Int):=by grind [imax,zH]
 cbv;refine⟨zC (by exact om) (by exact om),?_⟩;refine zW (σ:=Nat) (λn=>⟨[(0,nat a),(1,nat b),(5,iV ((n:Int)-1))],[]⟩) (λn=>n<=max a.length b.length/\val (a.drop n)=val (b.drop n)) (λn=>n) (max a.length b.length) ⟨yC _,by grind [List.drop_of_length_le]⟩ (.le ?_ trivial rfl) ?_;{cbv;exact⟨lR,lR,zB (by (try dsimp only [zV] at *);rw[hmax]),trivial⟩};intro n hn;cbv;refine zE (λh=>?_) (λh=>?_)
 ·(try dsimp only [zV] at *)
  (obtain⟨m,rfl⟩:∃ m,n=m+1:=⟨n-1,by omega⟩;have hm:((m+1:Nat):Int)-1=(m:Int):=by omega);have da:=lB a m
  rw[hn.2] at da;have db:=lB b m;have ca:=Jn a m ha;have cb:=Jn b m hb;cbv;refine yP rfl (by exact⟨lR,zB hm,trivial⟩) ca rfl ?_;cbv;refine yP rfl (by exact⟨lR,zB hm,trivial⟩) cb rfl ?_;cbv;refine zE (λh2=>?_) (λh2=>?_)
  ·cbv
   (refine rC ?_;cbv)
   exact zB (hlt (Xz (m:=m) (by exact om))).symm
  ·cbv;refine yP rfl (by exact⟨lR,zB hm,trivial⟩) ca rfl ?_;cbv;refine yP rfl (by exact⟨lR,zB hm,trivial⟩) cb rfl ?_;cbv;refine zE (λh3=>?_) (λh3=>?_)
   ·cbv
    (refine rC ?_;cbv)
    exact zB (hgt (Xz (m:=m) (by exact om))).symm
   {cbv;refine⟨zC om om,m,⟨by omega,by exact om⟩,by omega,.le ?_ trivial rfl⟩;cbv;exact⟨lR,lR,zB om,trivial⟩}
 ·have h0:n=0:=om;subst h0;cbv
  (refine rC ?_;cbv)
  exact zB (heq (by grind)).symm
def T7 (a b:List UInt32)(ha:a.length<2^40)(hb:b.length<2^40):zD 158 [nat a,nat b] (bV (decide (a=b))):=by
 refine sF Tryz.f158 ?_;generalize hC:decide (a=b)=C at *;cbv;refine zE (λh=>?_) (λh=>?_)
 ·(have hl:a.length=b.length:=by (try dsimp only [zV] at *);grind [zH]);cbv
  refine zW (σ:=Nat) (λn=>⟨[(0,nat a),(1,nat b),(5,iV n)],[]⟩) (λn=>n<=a.length/\a.take n=b.take n) (λn=>a.length-n) 0 ⟨yY _,by simp⟩ (.le ?_ trivial rfl) ?_;{cbv;exact okA};intro n hn;cbv;refine zE (λh2=>?_) (λh2=>?_)
  ·have hlt:n<a.length:=om;cbv;refine zL 9 (by cbv) ?_;cbv;refine xF n (by (grind) <;> (try simp only[zH] at *) <;> omega) om ?_;cbv;refine xF n (by (grind) <;> (try simp only[zH] at *) <;> omega) om ?_;cbv;refine zE (λh3=>?_) (λh3=>?_);{cbv;refine⟨zC om om,n+1,⟨hlt,?_⟩,by omega,.le ?_ trivial rfl⟩;{have e:a.getD n 0=b.getD n 0:=o6.1 (by exact om);grind [bU]};{cbv;exact⟨lR,lR,zB om,trivial⟩}}
   ·cbv
    (refine rC ?_;cbv)
    refine zK ?_;grind
  ·have hn0:n=a.length:=om;subst hn0;cbv
   (refine rC ?_;cbv)
   refine yJ ?_;grind
 ·cbv
  (refine rC ?_;cbv)
  refine zK ?_;grind
def bC (d:D):Wid 1 (λ_=>[[d]]):=⟨λe he=>by grind⟩
def bM (out:List UInt32)(S:Nat):lm out++[[.int .u32 (nx .u32 ((S:Nat):Int))]]=lm (out++[UInt32.ofNat S]):=by rw[<-GR];congr 1;simp only[lm,jP,Wo,xU,j9,B];congr 2
theorem jD (l:List UInt32)(S:Nat):val (l++[UInt32.ofNat S])=val l+B^l.length*(S%B):=by rw[Qi,xU]
def Ac (a b:List UInt32)(ha:a.length<2^40)(hb:b.length<2^40):zD 130 [nat a,nat b] (nat (zJ (val a+val b))):=by
 refine sF Tryz.f130 ?_;generalize hW:zJ (val a+val b)=W;cbv;refine zW (σ:=Nat×Nat×List UInt32) (λs=>⟨[(0,nat a),(1,nat b),(5,oV 35 1 s.1),(6,.int .u64 (λ_=>(s.2.1:Int))),(7,iV s.1)],[(35,aV 1 (lm s.2.2))]⟩)
  (λs=>s.1<=max a.length b.length/\s.2.1<2/\s.2.2.length=s.1/\val s.2.2+B^s.1*s.2.1=val (a.take s.1)+val (b.take s.1)) (λs=>max a.length b.length-s.1)
  (0,0,[]) ⟨yY _,by grind,rfl,by simp[val]⟩ (.trans (.adoptT 35 1 5 rfl rfl) (.le ?_ ?_ rfl)) ?_
 {cbv;exact okA};{cbv;exact⟨zG rfl,trivial⟩};intro s hs;obtain⟨h1,h2,h3,h4⟩:=hs;generalize s.1=i at *;generalize s.2.1=c at *;generalize s.2.2=out at *;have ca:=Jn a i ha;have cb:=Jn b i hb;have hx:=yN (a.getD i 0);have hy:=yN (b.getD i 0);simp only[B] at hx hy;cbv;refine zO (λh5=>?_) (λh5=>?_)
 ·(have hi:i<a.length:=om;cbv;refine yP rfl okA ca rfl ?_;cbv;refine yP rfl okA cb rfl ?_;have hS:nx .u64 ((c:Int)+nx .u64 (nx .u64 (((a.getD i 0).toNat:Nat):Int)+nx .u64 (((b.getD i 0).toNat:Nat):Int)))=((c+((a.getD i 0).toNat+(b.getD i 0).toNat):Nat):Int):=by grind [uD]);cbv
  refine wE V3 rfl rfl rfl (by rw[zH,h3]) rfl (bC _) (z6 (rO _) (by show (((lm out).length+1:Nat):Int)*4<=70368744177664;grind [zH])) rfl ?_;cbv;refine⟨vZ oM,zC om om,(i+1,(c+((a.getD i 0).toNat+(b.getD i 0).toNat))/B,out++[UInt32.ofNat (c+((a.getD i 0).toNat+(b.getD i 0).toNat))]),⟨by omega,?_,by simp[h3],?_⟩,by omega,.le ?_ ?_ rfl⟩;{grind [B]};{grind [jD,zY,Nat.mod_add_div]}
  ·cbv;refine⟨lR,lR,z4 rfl (by show (lm out).length+1=i+1;rw[zH,h3]),zB ?_,zB om,trivial⟩
   (try dsimp only [zV] at *)
   rw[hS];exact aW _
  ·cbv;refine⟨zG ?_,trivial⟩
   (try dsimp only [zV] at *)
   rw[hS];exact bM out _
 ·cbv;refine zE (λh6=>?_) (λh6=>?_)
  ·(have hi:i<b.length:=om;cbv;refine yP rfl okA ca rfl ?_;cbv;refine yP rfl okA cb rfl ?_;have hS:nx .u64 ((c:Int)+nx .u64 (nx .u64 (((a.getD i 0).toNat:Nat):Int)+nx .u64 (((b.getD i 0).toNat:Nat):Int)))=((c+((a.getD i 0).toNat+(b.getD i 0).toNat):Nat):Int):=by grind [uD]);cbv
   refine wE V3 rfl rfl rfl (by rw[zH,h3]) rfl (bC _) (z6 (rO _) (by show (((lm out).length+1:Nat):Int)*4<=70368744177664;grind [zH])) rfl ?_;cbv;refine⟨vZ oM,zC om om,(i+1,(c+((a.getD i 0).toNat+(b.getD i 0).toNat))/B,out++[UInt32.ofNat (c+((a.getD i 0).toNat+(b.getD i 0).toNat))]),⟨by omega,?_,by simp[h3],?_⟩,by omega,.le ?_ ?_ rfl⟩;{grind [B]};{grind [jD,zY,Nat.mod_add_div]}
   ·cbv;refine⟨lR,lR,z4 rfl (by show (lm out).length+1=i+1;rw[zH,h3]),zB ?_,zB om,trivial⟩
    (try dsimp only [zV] at *)
    rw[hS];exact aW _
   ·cbv;refine⟨zG ?_,trivial⟩
    (try dsimp only [zV] at *)
    rw[hS];exact bM out _
  ·(have hi1:a.length<=i:=om;have hi2:b.length<=i:=om;rw[yW hi1,yW hi2] at h4;have cm:=lU (out++[UInt32.ofNat c]) (by grind);have hv:val (out++[UInt32.ofNat c])=val a+val b:=by grind [jD,B]);rw[hv,hW] at cm
   cbv;refine wE V3 rfl rfl rfl (by rw[zH,h3]) rfl (bC _) (z6 (rO _) (by show (((lm out).length+1:Nat):Int)*4<=70368744177664;grind [zH])) rfl ?_;cbv;refine qO (.frz 42 rfl rfl ?_ ?_) rfl (by refine⟨zR ?_,trivial⟩;exact (yW (by grind)).trans (bM out c)) cm rfl ?_;{cbv;exact⟨z5 (by grind),trivial⟩};{exact trivial};cbv;exact rA
def Db (a b:List UInt32)(ha:a.length<2^40)(hb:b.length<2^40):zD 131 [nat a,nat b] (.tup [nat (zJ (val a-val b)),iV (if val b<=val a then 0 else 2)]):=by
 refine sF Tryz.f131 ?_;have cc:=B7 a b ha hb;have hcl:qI (val a) (val b)<0↔val a<val b:=by grind [qI]
 generalize qI (val a) (val b)=C at *;have hlt:val a<val b->zJ (val a-val b)=[]/\(if val b<=val a then (0:Int) else 2)=2:=λh=>⟨by rw[Nat.sub_eq_zero_of_le oM,y6],by omega⟩;have hge:val b<=val a->(if val b<=val a then (0:Int) else 2)=0:=λh=>if_pos h;generalize hW:zJ (val a-val b)=W at *;generalize (if val b<=val a then (0:Int) else 2)=E at *;cbv;refine cA cc ?_;cbv;refine zE (λh=>?_) (λh=>?_)
 ·obtain⟨e1,e2⟩:=hlt (hcl.1 h);cbv
  (refine rC ?_;cbv)
  exact⟨yQ (by rw[e1];rfl),zB (by rw[e2]),trivial⟩
 have hba:val b<=val a:=by omega
 have hE:=hge hba;cbv;refine zW (σ:=Nat×Nat×List UInt32) (λs=>⟨[(0,nat a),(1,nat b),(6,oV 42 1 s.1),(7,.int .u64 (λ_=>(s.2.1:Int))),(8,iV s.1)],[(42,aV 1 (lm s.2.2))]⟩)
  (λs=>s.1<=a.length/\s.2.1<2/\s.2.2.length=s.1/\val s.2.2+val (b.take s.1)=val (a.take s.1)+B^s.1*s.2.1) (λs=>a.length-s.1)
  (0,0,[]) ⟨yY _,by grind,rfl,by simp[val]⟩ (.trans (.adoptT 42 1 6 rfl rfl) (.le ?_ ?_ rfl)) ?_
 {cbv;exact okA};{cbv;exact⟨zG rfl,trivial⟩};intro s hs;obtain⟨h1,h2,h3,h4⟩:=hs;generalize s.1=i at *;generalize s.2.1=c at *;generalize s.2.2=out at *;have ca:=Jn a i ha;have cb:=Jn b i hb;have hx:=yN (a.getD i 0);have hy:=yN (b.getD i 0);simp only[B] at hx hy;cbv;refine zE (λh5=>?_) (λh5=>?_)
 ·(have hi:i<a.length:=om;have hX:nx .u64 (((a.getD i 0).toNat:Nat):Int)=(((a.getD i 0).toNat:Nat):Int):=xW oM;have hY:nx .u64 (nx .u64 (((b.getD i 0).toNat:Nat):Int)+(c:Int))=(((b.getD i 0).toNat+c:Nat):Int):=by grind [uD]);cbv
  refine yP rfl okA ca rfl ?_;cbv;refine yP rfl okA cb rfl ?_;cbv;refine zE (λh6=>?_) (λh6=>?_)
  ·(try dsimp only [zV] at *)
   (rw[hX,hY] at h6;have h6':(a.getD i 0).toNat<(b.getD i 0).toNat+c:=Int.ofNat_lt.1 h6;clear h6;have hZ:nx .u64 (nx .u64 (nx .u64 (((a.getD i 0).toNat:Nat):Int)+4294967296)-nx .u64 (nx .u64 (((b.getD i 0).toNat:Nat):Int)+(c:Int)))=(((a.getD i 0).toNat+4294967296-((b.getD i 0).toNat+c):Nat):Int):=by grind [uD]);cbv
   refine wE V3 rfl rfl rfl (by rw[zH,h3]) rfl (bC _) (z6 (rO _) (by show (((lm out).length+1:Nat):Int)*4<=70368744177664;grind [zH])) rfl ?_;cbv;refine⟨zC om om,(i+1,1,out++[UInt32.ofNat ((a.getD i 0).toNat+4294967296-((b.getD i 0).toNat+c))]),⟨hi,by grind,by simp[h3],?_⟩,by omega,.le ?_ ?_ rfl⟩
   ·(show val (out++[_])+val (b.take (i+1))=val (a.take (i+1))+B^(i+1)*1;rw[jD,h3,zY a,zY b,uH,qP (show (a.getD i 0).toNat+4294967296-((b.getD i 0).toNat+c)<B by grind [B])];generalize (a.getD i 0).toNat=x at *;generalize (b.getD i 0).toNat=y at *;generalize B^i=P at *;have e1:P*(x+4294967296-(y+c))+P*y+P*c=P*x+P*B*1:=by rw[<-qG,<-qG,gU,<-qG];congr 1;grind [B]);omega
   {cbv;exact⟨lR,lR,z4 rfl (by show (lm out).length+1=i+1;rw[zH,h3]),lR,zB om,trivial⟩}
   ·cbv;refine⟨zG ?_,trivial⟩
    (try dsimp only [zV] at *)
    rw[hZ];exact bM out _
  ·(try dsimp only [zV] at *)
   (rw[hX,hY] at h6;have h6':(b.getD i 0).toNat+c<=(a.getD i 0).toNat:=Nat.not_lt.1 (λe=>h6 (Int.ofNat_lt.2 e));clear h6;have hZ:nx .u64 (nx .u64 (((a.getD i 0).toNat:Nat):Int)-nx .u64 (nx .u64 (((b.getD i 0).toNat:Nat):Int)+(c:Int)))=(((a.getD i 0).toNat-((b.getD i 0).toNat+c):Nat):Int):=by grind [uD]);cbv
   refine wE V3 rfl rfl rfl (by rw[zH,h3]) rfl (bC _) (z6 (rO _) (by show (((lm out).length+1:Nat):Int)*4<=70368744177664;grind [zH])) rfl ?_;cbv;refine⟨zC om om,(i+1,0,out++[UInt32.ofNat ((a.getD i 0).toNat-((b.getD i 0).toNat+c))]),⟨hi,by grind,by simp[h3],?_⟩,by omega,.le ?_ ?_ rfl⟩
   ·(show val (out++[_])+val (b.take (i+1))=val (a.take (i+1))+B^(i+1)*0;rw[jD,h3,zY a,zY b,uH,qP (show (a.getD i 0).toNat-((b.getD i 0).toNat+c)<B by grind [B])];generalize (a.getD i 0).toNat=x at *;generalize (b.getD i 0).toNat=y at *;generalize B^i=P at *;have e1:P*(x-(y+c))+P*y+P*c=P*x+P*B*0:=by rw[<-qG,<-qG,gU,<-qG];grind);omega
   {cbv;exact⟨lR,lR,z4 rfl (by show (lm out).length+1=i+1;rw[zH,h3]),lR,zB om,trivial⟩}
   ·cbv;refine⟨zG ?_,trivial⟩
    (try dsimp only [zV] at *)
    rw[hZ];exact bM out _
 ·have hi:i=a.length:=om;have hbt:val (b.take a.length)=val b:=by have e1:=b9 b a.length;have e2:=xV a;rcases Wl (val (b.drop a.length)) with e3|e3;{grind};{have:=vS (B^a.length) e3;omega}
  (rw[hi,yW (yC _),hbt] at h4;have hc0:c=0:=by grind [xV]);have cm:=lU out oM
  (have hv:val out=val a-val b:=by grind);rw[hv,hW] at cm
  cbv;refine qO (.frz 42 rfl rfl ?_ ?_) rfl (by refine⟨zR ?_,trivial⟩;exact yW (by show ((lm out).drop 0).length<=i;rw[wN,zH];omega)) cm rfl ?_;{cbv;exact⟨z5 (by grind [zH]),z5 (by grind [zH]),trivial⟩};{exact trivial};cbv
  (refine rC ?_;cbv)
  exact⟨lR,zB (by rw[hE]),trivial⟩
end Go.Proofs.YtaeaffgjdcigoaaGreat
