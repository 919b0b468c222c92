/- A part of the proof: RqA, RqB, ReA, ReB. -/
import Derived.Test.YtaeaffgjdcigoaaGreatC17
set_option linter.all false
namespace Go.Proofs.YtaeaffgjdcigoaaGreat
open Go
set_option maxRecDepth 100000
abbrev rv (x:R):PV:=.agg [.bool (fun _=>x.neg),nat x.num,nat x.den]
structure R.sz (x:R) (k:Nat):Prop where
 n:x.num.length<=k
 d:x.den.length<=k
theorem zU {k:Nat}{q:Rat}(h:Fits k q):(zJ q).sz k:=⟨h.lnum,h.lden⟩
theorem R.sz.fits {k:Nat}{x:R}(h:x.sz k)(hk:1<=k):Fits k x.q:=zZG h.n h.d hk
theorem R.sz.mono {k m:Nat}{x:R}(h:x.sz k)(hm:k<=m):x.sz m:=⟨vD h.n hm,vD h.d hm⟩
def wP (d:List UInt32):List UInt32:=if val d=0 then [1] else d
theorem jJ (x:R):val (wP x.den)=x.d:=by unfold wP R.d;split;{rfl};{rfl}
theorem gW (d:List UInt32):(wP d).length<=d.length+1:=by grind [wP]
theorem zAO:zK 1=[1]:=by rw[aG (by decide)];rw[show 1/B=0 by decide,yZ];rfl
theorem fR {n:Nat}:zK n=[1]↔n=1:=by constructor;{intro h;have:=zO n;rw[h] at this;exact this.symm};{intro h;rw[h,zAO]}
theorem s210:zE 269 [] (nat [1]):=by
 refine sF Tryz.f269 ?_;cbv
 (refine rC ?_;cbv)
 exact zR rfl
theorem s224 (l:List UInt32)(hl:l.length<2^40):zE 284 [nat l] (.bool (fun _=>decide (l=[1]))):=by
 refine sF Tryz.f284 ?_;generalize hd:decide (l=[1])=d;cbv;refine zQ (fun h=>?_) (fun h=>?_)
 ·have h1:l.length=1:=om;cbv;refine xG 0 rfl oM ?_;cbv
  (refine rC ?_;cbv)
  refine zV ?_;rw[<-hd,decide_eq_decide]
  match l,h1 with
  |[x],_ =>
   have e1:[x].getD 0 0=x:=rfl;rw[e1];constructor;{intro h2;have:x=1:=zC0.1 (by show x.toNat=1;(try dsimp only [zF] at *);omega);rw[this]};{intro h2;rw[List.cons.inj h2 |>.1];rfl}
 ·cbv
  (refine rC ?_;cbv)
  refine zM ?_;rw[<-hd];exact decide_eq_false fun e=>h (by rw[e];rfl)
theorem s195 (x:R)(hx:x.den.length<2^40):zE 264 [rv x] (nat (wP x.den)):=by
 refine sF Tryz.f264 ?_;obtain⟨neg,num,den⟩:=x;have h0:((gC (val den):Nat):Int)=0↔val den=0:=by grind [n9]
 have hs:=s202 den hx;have e1:val den=0->wP den=[1]:=fun h=>if_pos h;have e2:val den≠0->wP den=den:=fun h=>if_neg h;show wp _ _ (dK _ (nat (wP den)) [] []);generalize wP den=u at *
 generalize gC (val den)=b at h0 hs;cbv;refine cA hs ?_;cbv;refine zG (fun h=>?_) (fun h=>?_)
 ·cbv;refine cA s210 ?_;cbv
  (refine rC ?_;cbv)
  exact zR (by grind)
 ·cbv
  (refine rC ?_;cbv)
  exact zR (by grind)
theorem s193 (neg:Bool)(num den:List UInt32)(hn:num.length<2^38)(hd:den.length<2^38)(h0:val den≠0):zE 263 [.bool (fun _=>neg),nat num,nat den] (rv (zJ (mkRat (sgn neg (val num)) (val den)))):=by
 refine sF Tryz.f263 ?_;rw[zAI h0];have hnl:=zX num;have hdl:=zX den;have hg0:Nat.gcd (val num) (val den)≠0:=fun e=>h0 (Nat.eq_zero_of_gcd_eq_zero_right e);have cg:=s225 (zK (val num)) (zK (val den)) oM oM;have cn:=s226 (zK (val num)) (zK (Nat.gcd (val num) (val den))) oM (xP (kE (Nat.le_of_dvd (rE h0) (zJH _ _))) oM) (by grind [zO]);have cd:=s226 (zK (val den)) (zK (Nat.gcd (val num) (val den))) oM (xP (kE (Nat.le_of_dvd (rE h0) (zJH _ _))) oM) (by grind [zO]);have cu:=s224 (zK (Nat.gcd (val num) (val den))) (xP (kE (Nat.le_of_dvd (rE h0) (zJH _ _))) oM);have cf:=s224 (zK (val den/Nat.gcd (val num) (val den))) (xP (kE (iY _ _)) oM);have cd1:=s224 (zK (val den)) oM;have cm1:=s223 num oM;have cm2:=s223 den oM;rw[zO,zO] at cg cn cd;have hN:∀ n,((lm (zK n)).length:Int)=0↔n=0:=fun n=>by grind [zH,x8,List.length_eq_zero_iff]
 have hge1:Nat.gcd (val num) (val den)=1->val num/Nat.gcd (val num) (val den)=val num/\val den/Nat.gcd (val num) (val den)=val den:=fun e=>by grind
 have hz:val num=0->val num/Nat.gcd (val num) (val den)=0/\val den/Nat.gcd (val num) (val den)=1:=fun e=>by rw[e,Nat.gcd_zero_left,Nat.zero_div,Nat.div_self (rE h0)];omega
 have hd1:val den=1->Nat.gcd (val num) (val den)=1:=fun e=>by simp_all
 generalize val den/Nat.gcd (val num) (val den)=D' at *
 generalize val num/Nat.gcd (val num) (val den)=N' at *
 generalize Nat.gcd (val num) (val den)=g at *
 generalize val num=N at *
 generalize val den=Dn at *
 show wp _ _ (dK _ (.agg [.bool (fun _=>neg&&decide (N≠0)),nat (zK N'),nat (if D'=1 then [] else zK D')]) [] []);generalize hr1:(neg&&decide (N≠0))=r1;generalize hr2:(if D'=1 then [] else zK D')=r2;cbv;refine cA cm1 ?_;cbv;refine zG (fun h=>?_) (fun h=>?_)
 ·have e:=(hN N).1 h;obtain⟨e1,e2⟩:=hz e;cbv
  (refine rC ?_;cbv)
  refine⟨zM ?_,yW ?_,yW ?_,trivial⟩;{grind};{simp_all};{rw[<-hr2,if_pos e2];rfl}
 ·(have e:=fun e=>h ((hN N).2 e);have hr1':neg=r1:=by grind);cbv
  refine cA cm2 ?_;cbv;refine cA cd1 ?_;cbv;refine zG (fun h2=>?_) (fun h2=>?_)
  ·have e1:=fR.1 h2;have e3:=hd1 e1;obtain⟨e4,e5⟩:=hge1 e3;cbv
   (refine rC ?_;cbv)
   refine⟨zV hr1',zR (by rw[e4]),yW ?_,trivial⟩;rw[<-hr2,if_pos oM];rfl
  ·cbv;refine cA cg ?_;cbv;refine cA cu ?_;cbv;refine fX (σ:=Unit) (fun _=>⟨[(0,.bool (fun _=>neg)),(1,nat (zK N')),(2,nat (zK D')),(6,.ptr 6 0)],[(6,.box [.ff,.nil,.nil])]⟩) (fun _=>True) (fun h3=>?_) (fun h3=>?_) ?_;{have e3:=fR.1 h3;obtain⟨e4,e5⟩:=hge1 e3;cbv;refine⟨(),trivial,.le ?_ ?_ rfl⟩;{cbv;exact⟨lR,zR (by rw[e4]),zR (by rw[e5]),lR,trivial⟩};{cbv;exact okA}};{cbv;refine cA cn ?_;cbv;refine cA cd ?_;cbv;refine⟨(),trivial,.le ?_ ?_ rfl⟩;{cbv;exact okA};{cbv;exact okA}};intro _ _;cbv;refine cA cf ?_;cbv;refine zG (fun h3=>?_) (fun h3=>?_)
   ·cbv
    (refine rC ?_;cbv)
    exact⟨zV hr1',lR,yW (by rw[<-hr2,if_pos (fR.1 h3)];rfl),trivial⟩
   ·cbv
    (refine rC ?_;cbv)
    exact⟨zV hr1',lR,zR (by rw[<-hr2,if_neg (fun e=>h3 (fR.2 e))]),trivial⟩
theorem s161 (x:R)(hx:x.sz (2^36)):zE 224 [rv x] (rv (zJ x.q)):=by
 refine sF Tryz.f224 ?_;have h1:=hx.n;have h2:=hx.d;have h3:=gW x.den;have cu:=s195 x oM;have cq:=s193 x.neg x.num (wP x.den) oM oM (by rw[jJ];exact x.d_ne);rw[jJ] at cq;have e:mkRat (sgn x.neg (val x.num)) x.d=x.q:=rfl;rw[e] at cq;generalize zJ x.q=W at *
 generalize wP x.den=u at *
 obtain⟨neg,num,den⟩:=x;cbv;refine zN 7 (by cbv) ?_;cbv;refine dA cu ?_;cbv;refine dA cq ?_;cbv
 (refine rC ?_;cbv)
 exact okA
theorem zY6 (x:R):x.ok=true↔(x.neg=(zJ x.q).neg/\x.num.length=(zJ x.q).num.length/\x.den.length=(zJ x.q).den.length/\qJ (val x.num) (val (zJ x.q).num)=0/\qJ (val x.den) (val (zJ x.q).den)=0):=by
 have hc:∀ a b,qJ a b=0↔a=b:=fun a b=>by grind [qJ]
 simp only[R.ok,decide_eq_true_eq,hc];constructor;{grind}
 ·rintro⟨h1,h2,h3,h4,h5⟩;have e1:=zC4 h2 h4;have e2:=zC4 h3 h5;generalize zJ x.q=y at *
  obtain⟨a,b,c⟩:=x;simp_all
theorem zY5 (neg:Bool)(num:List UInt32):R.ok ⟨neg,num,[]⟩=(bA num&&(!neg || decide (0<num.length))):=by
 have hq:R.q ⟨neg,num,[]⟩=mkRat (sgn neg (val num)) 1:=rfl;have hp:=zAI (neg:=neg) (n:=val num) (d:=1) (by decide);rw[bQ];simp only[R.ok,decide_eq_true_eq,hq,hp,Nat.gcd_one_right,Nat.div_one,if_true,R.mk.injEq,and_true,yT,alT1,zHF];have hlen:0<num.length↔num≠[]:=by grind
 constructor
 ·(rintro⟨h1,h2⟩;have hcn:bA num=true:=by rw[h2];exact sY _);refine⟨hcn,?_⟩
  cases neg with
  |false=>grind| true =>
   grind [val]
 ·rintro⟨h1,h2⟩;refine⟨?_,(nS h1).symm⟩;cases neg with
  |false=>rfl| true =>
   grind [zHH]
theorem s103 (x:R)(hx:x.sz (2^36)):zE 184 [rv x] (.bool (fun _=>x.ok)):=by
 refine sF Tryz.f184 ?_;have h1:=hx.n;have h2:=hx.d;have hok:=zY6 x;have hnil:x.den.length=0->x.ok=(bA x.num&&(!x.neg || decide (0<x.num.length))):=by intro h;obtain⟨a,b,c⟩:=x;have:c=[]:=kR h;subst this;exact zY5 a b
 have cc:=s161 x hx;have cv:=s160 x.num oM;have hf:Fits (2^36) x.q:=hx.fits (by decide);have hl1:=hf.lnum;have hl2:=hf.lden;have cm1:=s162 x.num (zJ x.q).num oM oM;have cm2:=s162 x.den (zJ x.q).den oM oM;generalize hO:x.ok=O at *
 generalize zJ x.q=W at *
 clear hf;obtain⟨neg,num,den⟩:=x;obtain⟨neg',num',den'⟩:=W;simp only at *
 generalize qJ (val num) (val num')=c1 at *
 generalize qJ (val den) (val den')=c2 at *
 cbv;refine zG (fun h=>?_) (fun h=>?_)
 ·have e:=hnil om;cbv;refine cA cv ?_;generalize bA num=cn at *
  cbv;refine z7 (fun h3=>?_) (fun h3=>?_)
  ·subst h3;cbv;refine z7 (fun h4=>?_) (fun h4=>?_)
   ·subst h4;cbv
    (refine rC ?_;cbv)
    exact zV (by rw[e];simp[zH])
   ·subst h4;cbv
    (refine rC ?_;cbv)
    exact yN (by grind)
  ·subst h3;cbv
   (refine rC ?_;cbv)
   exact zM (by grind)
 ·(cbv;refine cA cc ?_;cbv;have hno:∀ P:Prop,¬P->(O=true->P)->O=false:=fun P h h'=>by grind);refine zQ (fun h3=>?_) (fun h3=>?_)
  ·cbv;refine zQ (fun h4=>?_) (fun h4=>?_)
   ·cbv;refine zQ (fun h5=>?_) (fun h5=>?_)
    ·cbv;refine cA cm1 ?_;cbv;refine zQ (fun h6=>?_) (fun h6=>?_)
     ·cbv;refine cA cm2 ?_;cbv
      (refine rC ?_;cbv)
      refine zV ?_;rw[bQ,hok,decide_eq_true_eq]
      (try dsimp only [zF] at *)
      grind [zH]
     ·cbv
      (refine rC ?_;cbv)
      exact zM (hno _ h6 fun h7=>(hok.1 h7).2.2.2.1)
    ·cbv
     (refine rC ?_;cbv)
     refine zM (hno _ h5 fun h7=>?_);have:=(hok.1 h7).2.2.1
     (try dsimp only [zF] at *)
     grind [zH]
   ·cbv
    (refine rC ?_;cbv)
    refine zM (hno _ h4 fun h7=>?_);have:=(hok.1 h7).2.1
    (try dsimp only [zF] at *)
    grind [zH]
  ·cbv
   (refine rC ?_;cbv)
   exact zM (hno _ h3 fun h7=>(hok.1 h7).1)
theorem s163 (x:Z)(hx:x.mag.length<2^38):zE 227 [zv x] (rv (zJ (x.v:Rat))):=by
 refine sF Tryz.f227 ?_;have cq:=s193 x.neg x.mag [1] hx (by simp) (by decide);have e:mkRat (sgn x.neg (val x.mag)) (val [1])=(x.v:Rat):=by have:=Rat.mkRat_self (x.v:Rat);rw[Rat.num_intCast,Rat.den_intCast] at this;exact this
 rw[e] at cq;generalize zJ (x.v:Rat)=W at *
 obtain⟨neg,mag⟩:=x;cbv;refine zN 6 (by cbv) ?_;cbv;refine dA s210 ?_;cbv;refine dA cq ?_;cbv
 (refine rC ?_;cbv)
 exact okA
theorem zEE (x:Int)(h1:-9223372036854775808<=x)(h2:x<9223372036854775808):(x7 x).mag.length<=2:=by refine yF ?_;grind [B]
theorem s104 (x:Int)(h1:-9223372036854775808<=x)(h2:x<9223372036854775808):zE 187 [.int .i64 (fun _=>x)] (rv (zJ (x:Rat))):=by
 refine sF Tryz.f187 ?_;have c1:=s164 x h1 h2;have hl:=zEE x h1 h2;have c2:=s163 (x7 x) oM;rw[dF] at c2;generalize zJ (x:Rat)=W at *
 generalize x7 x=y at *
 cbv;refine cA c1 ?_;cbv;refine cA c2 ?_;cbv
 (refine rC ?_;cbv)
 exact okA
theorem s147 (x:R)(hx:x.num.length<2^40):zE 233 [rv x] (zv (x7 x.n)):=by
 refine sF Tryz.f233 ?_;have c1:=s203 x.neg x.num hx;have e:sgn x.neg (val x.num)=x.n:=rfl;rw[e] at c1;generalize x7 x.n=W at *
 obtain⟨neg,num,den⟩:=x;cbv;refine cA c1 ?_;cbv
 (refine rC ?_;cbv)
 exact okA
theorem zT6 (x:R):(x7 x.n).mag.length<=x.num.length:=by refine yF ?_;rw[R.n,qE];exact xZ _
theorem s86 (x:R)(hx:x.num.length<2^40):zE 189 [rv x] (.int .i64 (fun _=>z4 x.q)):=by
 refine sF Tryz.f189 ?_;have c1:=s147 x hx;have hl:=zT6 x;have c2:=s146 (x7 x.n) oM;rw[dF,<-zSM] at c2;generalize z4 x.q=s at *
 generalize x7 x.n=W at *
 obtain⟨neg,num,den⟩:=x;cbv;refine cA c1 ?_;cbv;refine cA c2 ?_;cbv
 (refine rC ?_;cbv)
 exact lR
theorem s191 (x y:R)(hx:x.sz (2^34))(hy:y.sz (2^34)):zE 243 [rv x,rv y] (.tup [zv (x7 (x.n*y.d)),zv (x7 (y.n*x.d))]):=by
 refine sF Tryz.f243 ?_;have h1:=hx.n;have h2:=hx.d;have h3:=hy.n;have h4:=hy.d;have h5:=gW x.den;have h6:=gW y.den;have h7:=zT6 x;have h8:=zT6 y;have cux:=s195 x oM;have cuy:=s195 y oM;have csx:=s147 x oM;have csy:=s147 y oM;have cm1:=s220 (x7 x.n) ⟨false,wP y.den⟩ oM (show (wP y.den).length<_ by omega);have cm2:=s220 (x7 y.n) ⟨false,wP x.den⟩ oM (show (wP x.den).length<_ by omega);have e1:Z.v ⟨false,wP y.den⟩=(y.d:Int):=by rw[<-jJ];rfl
 have e2:Z.v ⟨false,wP x.den⟩=(x.d:Int):=by rw[<-jJ];rfl
 rw[dF,e1] at cm1;rw[dF,e2] at cm2;generalize x7 (x.n*(y.d:Int))=W1 at *
 generalize x7 (y.n*(x.d:Int))=W2 at *
 generalize x7 x.n=X at *
 generalize x7 y.n=Y at *
 generalize wP x.den=ux at *
 generalize wP y.den=uy at *
 obtain⟨a,b,c⟩:=x;obtain⟨a',b',c'⟩:=y;cbv;refine zN 4 (by cbv) ?_;cbv;refine dA cux ?_;cbv;refine dA cuy ?_;cbv;refine zN 10 (by cbv) ?_;cbv;refine dA csx ?_;cbv;refine dA cm1 ?_;cbv;refine dA csy ?_;cbv;refine dA cm2 ?_;cbv
 (refine rC ?_;cbv)
 exact okA
theorem n6 (x y:R)(hx:x.sz (2^34))(hy:y.sz (2^34)):(x7 (x.n*(y.d:Int))).mag.length<=2^36:=by have h1:=hx.n;have h4:=hy.d;have h6:=gW y.den;refine vD (yF (k:=x.num.length+(wP y.den).length) ?_) oM;rw[p9,R.n,qE,iX,<-jJ];exact x6 (xZ _) (xZ _)
theorem s165 (x y:R)(hx:x.sz (2^34))(hy:y.sz (2^34)):zE 194 [rv x,rv y] (.int .i64 (fun _=>uD x.q y.q)):=by
 refine sF Tryz.f194 ?_;have h1:=hx.n;have h3:=hy.n;have h5:=n6 x y hx hy;have h6:=n6 y x hy hx;have cx:=s86 x oM;have cy:=s86 y oM;have cc:=s191 x y hx hy;have ci:=s212 _ _ (xP h5 oM) (xP h6 oM);rw[dF,dF,<-zZU] at ci;have k1:z4 x.q<z4 y.q->uD x.q y.q=-1:=by grind [z4,uD]
 have k2:z4 y.q<z4 x.q->uD x.q y.q=1:=by grind [z4,uD]
 generalize uD x.q y.q=C at *
 generalize z4 x.q=s at *
 generalize z4 y.q=t at *
 generalize x7 (x.n*(y.d:Int))=W1 at *
 generalize x7 (y.n*(x.d:Int))=W2 at *
 obtain⟨a,b,c⟩:=x;obtain⟨a',b',c'⟩:=y;obtain⟨p1,p2⟩:=W1;obtain⟨q1,q2⟩:=W2;cbv;refine zN 4 (by cbv) ?_;cbv;refine dA cx ?_;cbv;refine dA cy ?_;cbv;refine zG (fun h=>?_) (fun h=>?_)
 ·cbv;refine cA cc ?_;cbv;refine cA ci ?_;cbv
  (refine rC ?_;cbv)
  exact lR
 ·cbv;refine zG (fun h'=>?_) (fun h'=>?_)
  ·cbv
   (refine rC ?_;cbv)
   exact zC (k1 h').symm
  ·cbv
   (refine rC ?_;cbv)
   exact zC (k2 oM).symm
theorem s138 (x y:R)(hx:x.sz (2^34))(hy:y.sz (2^34)):zE 266 [rv x,rv y] (rv (zJ (x.q+y.q))):=by
 refine sF Tryz.f266 ?_;have h1:=hx.n;have h2:=hx.d;have h3:=hy.n;have h4:=hy.d;have h5:=n6 x y hx hy;have h6:=n6 y x hy hx;have h7:=gW x.den;have h8:=gW y.den;have cc:=s191 x y hx hy;have ca:=s192 _ _ (xP h5 oM) (xP h6 oM);rw[dF,dF] at ca;have cux:=s195 x oM;have cuy:=s195 y oM;have cm:=s194 (wP x.den) (wP y.den) oM oM;have hml:=fS (wP x.den) (wP y.den);rw[jJ,jJ] at cm hml;have hsl:(x7 (x.n*(y.d:Int)+y.n*(x.d:Int))).mag.length<2^38:=by
  (obtain⟨k,hk⟩:∃ k,k=68719476736:=⟨_,rfl⟩;have h5':(x7 (x.n*(y.d:Int))).mag.length<=k:=by omega);have h6':(x7 (y.n*(x.d:Int))).mag.length<=k:=by omega
  (have e1:(x.n*(y.d:Int)).natAbs<B^k:=by have:=xZ (x7 (x.n*(y.d:Int))).mag;rw[show val (x7 (x.n*(y.d:Int))).mag=(x.n*(y.d:Int)).natAbs from zO _] at this;exact uI this (dE w5 h5'));have e2:(y.n*(x.d:Int)).natAbs<B^k:=by have:=xZ (x7 (y.n*(x.d:Int))).mag;rw[show val (x7 (y.n*(x.d:Int))).mag=(y.n*(x.d:Int)).natAbs from zO _] at this;exact uI this (dE w5 h6')
  have e3:=Int.natAbs_add_le (x.n*(y.d:Int)) (y.n*(x.d:Int));have e4:B^k*2<=B^k*B:=wG _ (by decide);have e5:(zK (x.n*(y.d:Int)+y.n*(x.d:Int)).natAbs).length<=k+1:=yF (by rw[uG B k];omega);show (zK (x.n*(y.d:Int)+y.n*(x.d:Int)).natAbs).length<2^38;omega
 have cq:=s193 (x7 (x.n*(y.d:Int)+y.n*(x.d:Int))).neg (x7 (x.n*(y.d:Int)+y.n*(x.d:Int))).mag (zK (x.d*y.d)) hsl oM (by rw[zO];exact zFO x.d_ne y.d_ne);have e6:sgn (x7 (x.n*(y.d:Int)+y.n*(x.d:Int))).neg (val (x7 (x.n*(y.d:Int)+y.n*(x.d:Int))).mag)=x.n*(y.d:Int)+y.n*(x.d:Int):=dF _;rw[e6,zO,<-zT4] at cq;clear e6 hsl hml h5 h6;generalize zJ (x.q+y.q)=W at *
 generalize zK (x.d*y.d)=M at *
 generalize x7 (x.n*(y.d:Int)+y.n*(x.d:Int))=S at *
 generalize x7 (x.n*(y.d:Int))=W1 at *
 generalize x7 (y.n*(x.d:Int))=W2 at *
 generalize wP x.den=ux at *
 generalize wP y.den=uy at *
 obtain⟨a,b,c⟩:=x;obtain⟨a',b',c'⟩:=y;obtain⟨p1,p2⟩:=W1;obtain⟨q1,q2⟩:=W2;obtain⟨s1,s2⟩:=S;cbv;refine cA cc ?_;cbv;refine cA ca ?_;cbv;refine zN 10 (by cbv) ?_;cbv;refine dA cux ?_;cbv;refine dA cuy ?_;cbv;refine dA cm ?_;cbv;refine dA cq ?_;cbv
 (refine rC ?_;cbv)
 exact okA
theorem s176 (x y:R)(hx:x.sz (2^34))(hy:y.sz (2^34)):zE 297 [rv x,rv y] (rv (zJ (x.q-y.q))):=by
 refine sF Tryz.f297 ?_;have ca:=s138 x ⟨!y.neg,y.num,y.den⟩ hx ⟨hy.n,hy.d⟩;rw[zT2,<-Rat.sub_eq_add_neg] at ca;generalize zJ (x.q-y.q)=W at *
 obtain⟨a,b,c⟩:=x;obtain⟨a',b',c'⟩:=y;generalize hna:(!a')=na at *
 cbv;refine yP rfl (by exact⟨okA,⟨vY hna.symm,lR,lR,trivial⟩,trivial⟩) ca rfl ?_;cbv
 (refine rC ?_;cbv)
 exact okA
theorem s199 (x y:R)(hx:x.sz (2^34))(hy:y.sz (2^34)):zE 267 [rv x,rv y] (rv (zJ (x.q*y.q))):=by
 refine sF Tryz.f267 ?_;have h1:=hx.n;have h2:=hx.d;have h3:=hy.n;have h4:=hy.d;have h7:=gW x.den;have h8:=gW y.den;have cux:=s195 x oM;have cuy:=s195 y oM;have cm:=s194 (wP x.den) (wP y.den) oM oM;have hml:=fS (wP x.den) (wP y.den);rw[jJ,jJ] at cm hml;have cn:=s194 x.num y.num oM oM;have hnl:=fS x.num y.num;have cq:=s193 (x.neg != y.neg) (zK (val x.num*val y.num)) (zK (x.d*y.d)) oM oM (by rw[zO];exact zFO x.d_ne y.d_ne);rw[zO,zO,<-zHN] at cq;have e:mkRat (sgn x.neg (val x.num)*sgn y.neg (val y.num)) (x.d*y.d)=x.q*y.q:=(zWW x y).symm;rw[e] at cq;have hb:(x.neg != y.neg)=!decide (x.neg=y.neg):=by grind
 clear hml hnl e;generalize zJ (x.q*y.q)=W at *
 generalize zK (x.d*y.d)=M at *
 generalize zK (val x.num*val y.num)=P at *
 generalize wP x.den=ux at *
 generalize wP y.den=uy at *
 obtain⟨a,b,c⟩:=x;obtain⟨a',b',c'⟩:=y;simp only at *
 generalize (a != a')=nb at *
 cbv;refine zN 16 (by cbv) ?_;cbv;refine dA cn ?_;cbv;refine dA cux ?_;cbv;refine dA cuy ?_;cbv;refine dA cm ?_;cbv;refine x9 (by exact⟨vY hb,lR,lR,trivial⟩) cq rfl ?_;cbv
 (refine rC ?_;cbv)
 exact okA
theorem ty33:ty 31=.sli 1 4 [.int .u32 (fun _=>0)]:=by cbv
theorem lJ (l:List UInt32)(k:Nat):val (l.drop k)=(l.getD k 0).toNat+B*val (l.drop (k+1)):=by rcases uQ k l.length with h|h;{exact kT h};{rw[zG9 h,zG9 oM];simp[bE h,val]}
theorem aJ (l:List UInt32)(m:Nat):val l=val (l.take m)+B^m*val (l.drop m):=by rcases uQ m l.length with h|h;{exact eE m oM};{rw[zG9 h,yS h];simp[val]}
theorem zCN {a b:List UInt32}{m:Nat}(h:val (a.drop m)<val (b.drop m)):val a<val b:=by rw[aJ a m,aJ b m];have h1:=wY a m;have h2:=wG (B^m) (show val (a.drop m)+1<=val (b.drop m) from h);grind
theorem s154 (a:List UInt32)(i:Nat)(ha:a.length<2^40):zE 127 [nat a,.int .i64 (fun _=>(i:Int))] (.int .u32 (fun _=>((a.getD i 0).toNat:Int))):=by
 refine sF Tryz.f127 ?_;generalize hx:a.getD i 0=x;cbv;refine zG (fun h=>?_) (fun h=>?_)
 ·cbv;refine xG i (by (grind) <;> (try simp only[zH] at *) <;> omega) om ?_;rw[hx];cbv
  (refine rC ?_;cbv)
  exact lR
 ·cbv
  (refine rC ?_;cbv)
  refine zC ?_;have:a.length<=i:=om;rw[<-hx];simp[bE this]
theorem iD (l:List UInt32)(hl:l.length<2^41):zE 128 [nat l] (nat (zK (val l))):=by
 refine sF Tryz.f128 ?_;have fin:∀ n,n<=l.length->val (l.take n)=val l->(n=0\/∃ m,n=m+1/\l.getD m 0≠0)->l.take n=zK (val l):=by intro n hn hv h;rcases h with rfl|⟨m,rfl,h⟩;{rw[<-hv];simp[val,yZ]};grind [nS,aB,iT]
 generalize hW:zK (val l)=W at *
 cbv;refine z3 (σ:=Nat) (fun n=>⟨[(0,nat l),(2,.nil),(3,.int .i64 (fun _=>(n:Int)))],[]⟩) (fun n=>n<=l.length/\val (l.take n)=val l) (fun n=>n) l.length ⟨zZ _,by simp⟩ (.le ?_ trivial rfl) ?_;{cbv;exact⟨lR,lR,zC (by simp[zH]),trivial⟩};intro n hn;have done:(n=0\/∃ m,n=m+1/\l.getD m 0≠0)->((lm l).take ((n:Int)).toNat).drop (Int.toNat 0)=lm W:=fun h=>by grind [zOI]
 have hwl:W.length<=l.length:=by rw[<-hW];exact zX l
 cbv;refine zQ (fun h=>?_) (fun h=>?_)
 ·(try dsimp only [zF] at *)
  obtain⟨m,rfl⟩:∃ m,n=m+1:=⟨n-1,by omega⟩;cbv;refine⟨zD om om,xG m om om ?_⟩;cbv;refine zG (fun h2=>?_) (fun h2=>?_)
  ·cbv;refine⟨zD om om,m,⟨om,?_⟩,om,.le ?_ trivial rfl⟩
   ·(have e:l.getD m 0=0:=by have:(l.getD m 0).toNat=0:=om;exact zC0.1 this);grind [aB,zFQ]
   {cbv;exact⟨lR,lR,zC om,trivial⟩}
  ·(have e:l.getD m 0≠0:=fun e=>by (try dsimp only [zF] at *);simp_all);have hd:=done (.inr ⟨m,rfl,e⟩)
   cbv;refine⟨u9 (Int.le_refl _) om om,iJ l,?_⟩
   (try dsimp only [zF] at *)
   rw[hd];refine wE ty34 rfl rfl rfl rfl rfl (iJ W) (yD om (by simp only[sZ];(try dsimp only [zF] at *) <;> (try simp only[zH] at *) <;> omega)) rfl ?_;cbv;refine retW (.frz 22 rfl rfl ?_ ?_) rfl ?_ rfl;{cbv;exact⟨z8 (by simp),z8 (by simp),trivial⟩};{exact trivial};{exact zR (by simp)}
 ·have h0:n=0:=om;have hd:=done (.inl h0);cbv;refine⟨u9 (Int.le_refl _) om om,iJ l,?_⟩
  (try dsimp only [zF] at *)
  rw[hd];refine wE ty34 rfl rfl rfl rfl rfl (iJ W) (yD om (by simp only[sZ];(try dsimp only [zF] at *) <;> (try simp only[zH] at *) <;> omega)) rfl ?_;cbv;refine retW (.frz 22 rfl rfl ?_ ?_) rfl ?_ rfl;{cbv;exact⟨z8 (by simp),z8 (by simp),trivial⟩};{exact trivial};{exact zR (by simp)}
theorem s149 (x:Nat)(hx:x<B*B):zE 134 [.int .u64 (fun _=>(x:Int))] (nat (zK x)):=by
 refine sF Tryz.f134 ?_;have h2:x/B<B:=Nat.div_lt_of_lt_mul hx;have hv:val [UInt32.ofNat (x%B),UInt32.ofNat (x/B)]=x:=by simp only[val,aE];rw[UInt32.toNat_ofNat',qU (show x/B<2^32 from h2),Nat.mul_zero,alT5];exact zHC x B
 have c1:=iD [UInt32.ofNat (x%B),UInt32.ofNat (x/B)] (by simp);rw[hv] at c1;have he:([[.int .u32 (nx .u32 (x:Int))],[.int .u32 (nx .u32 (ishr .u64 (x:Int) 32))]]:List (List D))=lm [UInt32.ofNat (x%B),UInt32.ofNat (x/B)]:=by
  rw[aY];simp only[lm,kA,zLE,aE,xW,qU h2,gP,B] at *
  grind
 generalize zK x=W at *
 cbv;refine⟨uF oM,?_⟩;refine yP rfl (by exact⟨zR he,trivial⟩) c1 rfl ?_;cbv
 (refine rC ?_;cbv)
 exact lR
theorem s206 (l:List UInt32)(hl:l.length<2^40):zE 181 [nat l] (.tup [.int .u64 (fun _=>((if val l<B*B then val l else 0:Nat):Int)),.bool (fun _=>decide (val l<B*B))]):=by
 refine sF Tryz.f181 ?_;have hl':=xP (zX l) hl;have c1:=iD l oM;have hv:=zO (val l);have h2:=@len2 (val l);generalize zK (val l)=p at *
 generalize hr:(if val l<B*B then val l else 0:Nat)=r;generalize hb:decide (val l<B*B)=b;generalize val l=v at *
 have hin:p.length<=2->r=val p/\b=true:=fun h=>by grind
 cbv;refine cA c1 ?_;cbv;refine zG (fun h=>?_) (fun h=>?_)
 ·have h0:p.length=0:=om;obtain⟨e1,e2⟩:=hin oM;cbv
  (refine rC ?_;cbv)
  refine⟨zC ?_,yN e2,trivial⟩;rw[e1,kR h0];rfl
 ·cbv;refine zG (fun h3=>?_) (fun h3=>?_)
  ·have h0:p.length=1:=om;obtain⟨e1,e2⟩:=hin oM;cbv;refine xG 0 rfl oM ?_;cbv
   (refine rC ?_;cbv)
   refine⟨zC ?_,yN e2,trivial⟩;rw[e1]
   match p,h0 with
   |[x],_ =>
    have:=yL x;show nx .u64 ((x.toNat:Nat):Int)=((x.toNat+B*0:Nat):Int);grind [x5,B]
  ·cbv;refine zG (fun h4=>?_) (fun h4=>?_)
   ·have h0:p.length=2:=om;obtain⟨e1,e2⟩:=hin oM;cbv;refine zN 10 (by cbv) ?_;cbv;refine xG 0 rfl oM ?_;cbv;refine xG 1 rfl oM ?_;cbv;refine⟨uF oM,?_⟩
    (refine rC ?_;cbv)
    refine⟨zC ?_,yN e2,trivial⟩;rw[e1]
    match p,h0 with
    |[x,y],_ =>
     have h5:=yL x;have h6:=yL y;show ior .u64 (nx .u64 ((x.toNat:Nat):Int)) (ishl .u64 (nx .u64 ((y.toNat:Nat):Int)) 32)=((x.toNat+B*(y.toNat+B*0):Nat):Int);grind [x5,B,or2]
   ·have h0:¬p.length<=2:=om;have h5:¬v<B*B:=fun e=>h0 (h2.2 e);cbv
    (refine rC ?_;cbv)
    exact⟨zC (by grind),zM (by grind),trivial⟩
theorem s205 (a b:List UInt32)(ha:a.length<2^40)(hb:b.length<2^40):zE 180 [nat a,nat b] (.int .i64 (fun _=>qJ (val a) (val b))):=by
 refine sF Tryz.f180 ?_;have hlt:val a<val b->qJ (val a) (val b)=-1:=zDH;have hgt:val b<val a->qJ (val a) (val b)=1:=zDI;have heq:val a=val b->qJ (val a) (val b)=0:=fun h=>by rw[h,zH8]
 generalize hC:qJ (val a) (val b)=C at *
 have hmax:imax ((lm a).length:Int) ((lm b).length:Int)=((max a.length b.length:Nat):Int):=by grind [imax,zH]
 cbv;refine⟨zD om om,?_⟩;refine z3 (σ:=Nat) (fun n=>⟨[(0,nat a),(1,nat b),(5,.int .i64 (fun _=>(n:Int)-1))],[]⟩) (fun n=>n<=max a.length b.length/\val (a.drop n)=val (b.drop n)) (fun n=>n) (max a.length b.length) ⟨zZ _,by grind [List.drop_of_length_le]⟩ (.le ?_ trivial rfl) ?_;{cbv;exact⟨lR,lR,zC (by (try dsimp only [zF] at *);rw[hmax]),trivial⟩};intro n hn;cbv;refine zG (fun h=>?_) (fun h=>?_)
 ·(try dsimp only [zF] at *)
  (obtain⟨m,rfl⟩:∃ m,n=m+1:=⟨n-1,by omega⟩;have hm:((m+1:Nat):Int)-1=(m:Int):=by omega);have da:=lJ a m
  rw[hn.2] at da;have db:=lJ b m;have ca:=s154 a m ha;have cb:=s154 b m hb;cbv;refine yP rfl (by exact⟨lR,zC hm,trivial⟩) ca rfl ?_;cbv;refine yP rfl (by exact⟨lR,zC hm,trivial⟩) cb rfl ?_;cbv;refine zG (fun h2=>?_) (fun h2=>?_)
  ·cbv
   (refine rC ?_;cbv)
   exact zC (hlt (zCN (m:=m) om)).symm
  ·cbv;refine yP rfl (by exact⟨lR,zC hm,trivial⟩) ca rfl ?_;cbv;refine yP rfl (by exact⟨lR,zC hm,trivial⟩) cb rfl ?_;cbv;refine zG (fun h3=>?_) (fun h3=>?_)
   ·cbv
    (refine rC ?_;cbv)
    exact zC (hgt (zCN (m:=m) om)).symm
   {cbv;refine⟨zD om om,m,⟨by omega,by (try dsimp only [zF] at *);omega⟩,by omega,.le ?_ trivial rfl⟩;cbv;exact⟨lR,lR,zC om,trivial⟩}
 ·have h0:n=0:=om;subst h0;cbv
  (refine rC ?_;cbv)
  exact zC (heq (by grind)).symm
theorem s130 (a b:List UInt32)(ha:a.length<2^40)(hb:b.length<2^40):zE 158 [nat a,nat b] (.bool (fun _=>decide (a=b))):=by
 refine sF Tryz.f158 ?_;generalize hC:decide (a=b)=C at *
 cbv;refine zG (fun h=>?_) (fun h=>?_)
 ·(have hl:a.length=b.length:=by (try dsimp only [zF] at *);grind [zH]);cbv
  refine z3 (σ:=Nat) (fun n=>⟨[(0,nat a),(1,nat b),(5,.int .i64 (fun _=>(n:Int)))],[]⟩) (fun n=>n<=a.length/\a.take n=b.take n) (fun n=>a.length-n) 0 ⟨xD _,by simp⟩ (.le ?_ trivial rfl) ?_;{cbv;exact okA};intro n hn;cbv;refine zG (fun h2=>?_) (fun h2=>?_)
  ·have hlt:n<a.length:=om;cbv;refine zN 9 (by cbv) ?_;cbv;refine xG n (by (grind) <;> (try simp only[zH] at *) <;> omega) om ?_;cbv;refine xG n (by (grind) <;> (try simp only[zH] at *) <;> omega) om ?_;cbv;refine zG (fun h3=>?_) (fun h3=>?_);{cbv;refine⟨zD om om,n+1,⟨hlt,?_⟩,by omega,.le ?_ trivial rfl⟩;{have e:a.getD n 0=b.getD n 0:=zC0.1 om;grind [aB]};{cbv;exact⟨lR,lR,zC om,trivial⟩}}
   ·cbv
    (refine rC ?_;cbv)
    refine zM ?_;grind
  ·have hn0:n=a.length:=om;subst hn0;cbv
   (refine rC ?_;cbv)
   refine yN ?_;grind
 ·cbv
  (refine rC ?_;cbv)
  refine zM ?_;grind
theorem bS (d:D):Wid 1 (fun _=>[[d]]):=⟨fun e he=>by grind⟩
theorem b9 (out:List UInt32)(S:Nat):lm out++[[.int .u32 (nx .u32 ((S:Nat):Int))]]=lm (out++[UInt32.ofNat S]):=by rw[<-zPL];congr 1;simp only[lm,kA,zLE,xW,gP,B];congr 2
theorem jK (l:List UInt32)(S:Nat):val (l++[UInt32.ofNat S])=val l+B^l.length*(S%B):=by rw[zJI,xW]
theorem s156 (a b:List UInt32)(ha:a.length<2^40)(hb:b.length<2^40):zE 130 [nat a,nat b] (nat (zK (val a+val b))):=by
 refine sF Tryz.f130 ?_;generalize hW:zK (val a+val b)=W;cbv;refine z3 (σ:=Nat×Nat×List UInt32) (fun s=>⟨[(0,nat a),(1,nat b),(5,.osl 35 1 (fun _=>0) (fun _=>s.1)),(6,.int .u64 (fun _=>(s.2.1:Int))),(7,.int .i64 (fun _=>(s.1:Int)))],[(35,.arr 1 (fun _=>lm s.2.2))]⟩)
  (fun s=>s.1<=max a.length b.length/\s.2.1<2/\s.2.2.length=s.1/\val s.2.2+B^s.1*s.2.1=val (a.take s.1)+val (b.take s.1)) (fun s=>max a.length b.length-s.1)
  (0,0,[]) ⟨xD _,by grind,rfl,by simp[val]⟩ (.trans (.adoptT 35 1 5 rfl rfl) (.le ?_ ?_ rfl)) ?_
 {cbv;exact okA};{cbv;exact⟨zI rfl,trivial⟩};intro s hs;obtain⟨h1,h2,h3,h4⟩:=hs;generalize s.1=i at *
 generalize s.2.1=c at *
 generalize s.2.2=out at *
 have ca:=s154 a i ha;have cb:=s154 b i hb;have hx:=yL (a.getD i 0);have hy:=yL (b.getD i 0);simp only[B] at hx hy;cbv;refine zQ (fun h5=>?_) (fun h5=>?_)
 ·(have hi:i<a.length:=om;cbv;refine yP rfl okA ca rfl ?_;cbv;refine yP rfl okA cb rfl ?_;have hS:nx .u64 ((c:Int)+nx .u64 (nx .u64 (((a.getD i 0).toNat:Nat):Int)+nx .u64 (((b.getD i 0).toNat:Nat):Int)))=((c+((a.getD i 0).toNat+(b.getD i 0).toNat):Nat):Int):=by grind [uM]);cbv
  refine wE ty33 rfl rfl rfl (by rw[zH,h3]) rfl (bS _) (yD (p8 _) (by show (((lm out).length+1:Nat):Int)*4<=70368744177664;grind [zH])) rfl ?_;cbv;refine⟨uF oM,zD om om,(i+1,(c+((a.getD i 0).toNat+(b.getD i 0).toNat))/B,out++[UInt32.ofNat (c+((a.getD i 0).toNat+(b.getD i 0).toNat))]),⟨by omega,?_,by simp[h3],?_⟩,by omega,.le ?_ ?_ rfl⟩;{grind [B]};{grind [jK,zW,Nat.mod_add_div]}
  ·cbv;refine⟨lR,lR,yC rfl (by show (lm out).length+1=i+1;rw[zH,h3]),zC ?_,zC om,trivial⟩
   (try dsimp only [zF] at *)
   rw[hS];exact aY _
  ·cbv;refine⟨zI ?_,trivial⟩
   (try dsimp only [zF] at *)
   rw[hS];exact b9 out _
 ·cbv;refine zG (fun h6=>?_) (fun h6=>?_)
  ·(have hi:i<b.length:=om;cbv;refine yP rfl okA ca rfl ?_;cbv;refine yP rfl okA cb rfl ?_;have hS:nx .u64 ((c:Int)+nx .u64 (nx .u64 (((a.getD i 0).toNat:Nat):Int)+nx .u64 (((b.getD i 0).toNat:Nat):Int)))=((c+((a.getD i 0).toNat+(b.getD i 0).toNat):Nat):Int):=by grind [uM]);cbv
   refine wE ty33 rfl rfl rfl (by rw[zH,h3]) rfl (bS _) (yD (p8 _) (by show (((lm out).length+1:Nat):Int)*4<=70368744177664;grind [zH])) rfl ?_;cbv;refine⟨uF oM,zD om om,(i+1,(c+((a.getD i 0).toNat+(b.getD i 0).toNat))/B,out++[UInt32.ofNat (c+((a.getD i 0).toNat+(b.getD i 0).toNat))]),⟨by omega,?_,by simp[h3],?_⟩,by omega,.le ?_ ?_ rfl⟩;{grind [B]};{grind [jK,zW,Nat.mod_add_div]}
   ·cbv;refine⟨lR,lR,yC rfl (by show (lm out).length+1=i+1;rw[zH,h3]),zC ?_,zC om,trivial⟩
    (try dsimp only [zF] at *)
    rw[hS];exact aY _
   ·cbv;refine⟨zI ?_,trivial⟩
    (try dsimp only [zF] at *)
    rw[hS];exact b9 out _
  ·(have hi1:a.length<=i:=om;have hi2:b.length<=i:=om;rw[yS hi1,yS hi2] at h4;have cm:=iD (out++[UInt32.ofNat c]) (by grind);have hv:val (out++[UInt32.ofNat c])=val a+val b:=by grind [jK,B]);rw[hv,hW] at cm
   cbv;refine wE ty33 rfl rfl rfl (by rw[zH,h3]) rfl (bS _) (yD (p8 _) (by show (((lm out).length+1:Nat):Int)*4<=70368744177664;grind [zH])) rfl ?_;cbv;refine kQ (.frz 42 rfl rfl ?_ ?_) rfl (by refine⟨zR ?_,trivial⟩;exact (yS (by grind)).trans (b9 out c)) cm rfl ?_;{cbv;exact⟨z8 (by grind),trivial⟩};{exact trivial};cbv
   (refine rC ?_;cbv)
   exact lR
theorem s157 (a b:List UInt32)(ha:a.length<2^40)(hb:b.length<2^40):zE 131 [nat a,nat b] (.tup [nat (zK (val a-val b)),.int .i64 (fun _=>if val b<=val a then 0 else 2)]):=by
 refine sF Tryz.f131 ?_;have cc:=s205 a b ha hb;have hcl:qJ (val a) (val b)<0↔val a<val b:=by grind [qJ]
 generalize qJ (val a) (val b)=C at *
 have hlt:val a<val b->zK (val a-val b)=[]/\(if val b<=val a then (0:Int) else 2)=2:=fun h=>⟨by rw[Nat.sub_eq_zero_of_le oM,yZ],by omega⟩;have hge:val b<=val a->(if val b<=val a then (0:Int) else 2)=0:=fun h=>if_pos h;generalize hW:zK (val a-val b)=W at *
 generalize (if val b<=val a then (0:Int) else 2)=E at *
 cbv;refine cA cc ?_;cbv;refine zG (fun h=>?_) (fun h=>?_)
 ·obtain⟨e1,e2⟩:=hlt (hcl.1 h);cbv
  (refine rC ?_;cbv)
  exact⟨yW (by rw[e1];rfl),zC (by rw[e2]),trivial⟩
 have hba:val b<=val a:=by omega
 have hE:=hge hba;cbv;refine z3 (σ:=Nat×Nat×List UInt32) (fun s=>⟨[(0,nat a),(1,nat b),(6,.osl 42 1 (fun _=>0) (fun _=>s.1)),(7,.int .u64 (fun _=>(s.2.1:Int))),(8,.int .i64 (fun _=>(s.1:Int)))],[(42,.arr 1 (fun _=>lm s.2.2))]⟩)
  (fun s=>s.1<=a.length/\s.2.1<2/\s.2.2.length=s.1/\val s.2.2+val (b.take s.1)=val (a.take s.1)+B^s.1*s.2.1) (fun s=>a.length-s.1)
  (0,0,[]) ⟨xD _,by grind,rfl,by simp[val]⟩ (.trans (.adoptT 42 1 6 rfl rfl) (.le ?_ ?_ rfl)) ?_
 {cbv;exact okA};{cbv;exact⟨zI rfl,trivial⟩};intro s hs;obtain⟨h1,h2,h3,h4⟩:=hs;generalize s.1=i at *
 generalize s.2.1=c at *
 generalize s.2.2=out at *
 have ca:=s154 a i ha;have cb:=s154 b i hb;have hx:=yL (a.getD i 0);have hy:=yL (b.getD i 0);simp only[B] at hx hy;cbv;refine zG (fun h5=>?_) (fun h5=>?_)
 ·(have hi:i<a.length:=om;have hX:nx .u64 (((a.getD i 0).toNat:Nat):Int)=(((a.getD i 0).toNat:Nat):Int):=x5 oM;have hY:nx .u64 (nx .u64 (((b.getD i 0).toNat:Nat):Int)+(c:Int))=(((b.getD i 0).toNat+c:Nat):Int):=by grind [uM]);cbv
  refine yP rfl okA ca rfl ?_;cbv;refine yP rfl okA cb rfl ?_;cbv;refine zG (fun h6=>?_) (fun h6=>?_)
  ·(try dsimp only [zF] at *)
   (rw[hX,hY] at h6;have h6':(a.getD i 0).toNat<(b.getD i 0).toNat+c:=Int.ofNat_lt.1 h6;clear h6;have hZ:nx .u64 (nx .u64 (nx .u64 (((a.getD i 0).toNat:Nat):Int)+4294967296)-nx .u64 (nx .u64 (((b.getD i 0).toNat:Nat):Int)+(c:Int)))=(((a.getD i 0).toNat+4294967296-((b.getD i 0).toNat+c):Nat):Int):=by grind [uM]);cbv
   refine wE ty33 rfl rfl rfl (by rw[zH,h3]) rfl (bS _) (yD (p8 _) (by show (((lm out).length+1:Nat):Int)*4<=70368744177664;grind [zH])) rfl ?_;cbv;refine⟨zD om om,(i+1,1,out++[UInt32.ofNat ((a.getD i 0).toNat+4294967296-((b.getD i 0).toNat+c))]),⟨hi,by grind,by simp[h3],?_⟩,by omega,.le ?_ ?_ rfl⟩
   ·show val (out++[_])+val (b.take (i+1))=val (a.take (i+1))+B^(i+1)*1;rw[jK,h3,zW a,zW b,uG,qU (show (a.getD i 0).toNat+4294967296-((b.getD i 0).toNat+c)<B by grind [B])];generalize (a.getD i 0).toNat=x at *
    generalize (b.getD i 0).toNat=y at *
    generalize B^i=P at *
    (have e1:P*(x+4294967296-(y+c))+P*y+P*c=P*x+P*B*1:=by rw[<-qH,<-qH,jX,<-qH];congr 1;grind [B]);omega
   {cbv;exact⟨lR,lR,yC rfl (by show (lm out).length+1=i+1;rw[zH,h3]),lR,zC om,trivial⟩}
   ·cbv;refine⟨zI ?_,trivial⟩
    (try dsimp only [zF] at *)
    rw[hZ];exact b9 out _
  ·(try dsimp only [zF] at *)
   (rw[hX,hY] at h6;have h6':(b.getD i 0).toNat+c<=(a.getD i 0).toNat:=Nat.not_lt.1 (fun e=>h6 (Int.ofNat_lt.2 e));clear h6;have hZ:nx .u64 (nx .u64 (((a.getD i 0).toNat:Nat):Int)-nx .u64 (nx .u64 (((b.getD i 0).toNat:Nat):Int)+(c:Int)))=(((a.getD i 0).toNat-((b.getD i 0).toNat+c):Nat):Int):=by grind [uM]);cbv
   refine wE ty33 rfl rfl rfl (by rw[zH,h3]) rfl (bS _) (yD (p8 _) (by show (((lm out).length+1:Nat):Int)*4<=70368744177664;grind [zH])) rfl ?_;cbv;refine⟨zD om om,(i+1,0,out++[UInt32.ofNat ((a.getD i 0).toNat-((b.getD i 0).toNat+c))]),⟨hi,by grind,by simp[h3],?_⟩,by omega,.le ?_ ?_ rfl⟩
   ·show val (out++[_])+val (b.take (i+1))=val (a.take (i+1))+B^(i+1)*0;rw[jK,h3,zW a,zW b,uG,qU (show (a.getD i 0).toNat-((b.getD i 0).toNat+c)<B by grind [B])];generalize (a.getD i 0).toNat=x at *
    generalize (b.getD i 0).toNat=y at *
    generalize B^i=P at *
    (have e1:P*(x-(y+c))+P*y+P*c=P*x+P*B*0:=by rw[<-qH,<-qH,jX,<-qH];grind);omega
   {cbv;exact⟨lR,lR,yC rfl (by show (lm out).length+1=i+1;rw[zH,h3]),lR,zC om,trivial⟩}
   ·cbv;refine⟨zI ?_,trivial⟩
    (try dsimp only [zF] at *)
    rw[hZ];exact b9 out _
 ·have hi:i=a.length:=om;have hbt:val (b.take a.length)=val b:=by have e1:=aJ b a.length;have e2:=xZ a;rcases zHB (val (b.drop a.length)) with e3|e3;{grind};{have:=wG (B^a.length) e3;omega}
  (rw[hi,yS (zZ _),hbt] at h4;have hc0:c=0:=by grind [xZ]);have cm:=iD out oM
  (have hv:val out=val a-val b:=by grind);rw[hv,hW] at cm
  cbv;refine kQ (.frz 42 rfl rfl ?_ ?_) rfl (by refine⟨zR ?_,trivial⟩;exact yS (by show ((lm out).drop 0).length<=i;rw[wC,zH];omega)) cm rfl ?_;{cbv;exact⟨z8 (by grind [zH]),z8 (by grind [zH]),trivial⟩};{exact trivial};cbv
  (refine rC ?_;cbv)
  exact⟨lR,zC (by rw[hE]),trivial⟩
end Go.Proofs.YtaeaffgjdcigoaaGreat
